/- Part 1 of rules for walks through the code of a program, and of such walks; what each part proves is said by its theorems. -/
import Derived.Test.YtdaamclhcpjdpaaGreatDoorT0
import Derived.Lib.ParseIntB
set_option linter.unusedVariables false
set_option linter.unusedSimpArgs false
noncomputable section
set_option maxRecDepth 100000
set_option maxHeartbeats 4000000
namespace Go.Ev
theorem aa{α:Sort _}{a:α}:a=a:=rfl
inductive ak where
 |bool (b:Bool)
 |int (k:IntKind) (n:Int)
 |str (l v:Nat)
 |ptr (f g off:Nat)
 |kj
 |slice (f g off len es:Nat)
 |fL
 |agg (cs:List ak)
 |tuple (vs:List ak)
 |func (f:Nat) (first eG:List ak)
 |mO
 |iface (t:Nat) (v:ak)
 |ke
 |map (f:Nat)
 |uR
 |undef
inductive D6 where
 |d0|d1|d2|d3|d4|d5
def D6.n:D6→Nat
 |.d0=>0|.d1=>1|.d2=>2|.d3=>3|.d4=>4|.d5=>5
def IP:Nat→D6
 |0=>.d0|1=>.d1|2=>.d2|3=>.d3|4=>.d4|_=>.d5
def wC(n:Nat):D6:=
 Nat.rec (motive:=fun _=>D6) .d0 (fun n _=>Nat.rec (motive:=fun _=>D6) .d1 (fun n _=>Nat.rec (motive:=fun _=>D6) .d2 (fun n _=>Nat.rec (motive:=fun _=>D6) .d3 (fun n _=>Nat.rec (motive:=fun _=>D6) .d4 (fun _ _=>.d5) n) n) n) n) n
inductive Key where
 |mk (i j k l:D6)
def Key.n:Key→Nat
 |.mk i j k l=>i.n+6*j.n+36*k.n+216*l.n
def pk(n:Nat):Key:=.mk (IP (n % 6)) (IP (n/6 % 6)) (IP (n/36 % 6)) (IP (n/216 % 6))
theorem D6.lt(d:D6):d.n<6:=by cases d<;>decide
theorem D6.inj{a b:D6}(h:a.n=b.n):a=b:=by cases a<;>cases b<;>first|rfl|(simp[D6.n] at h)
instance:DecidableEq D6:=fun a b=>if h:a.n=b.n then .isTrue (D6.inj h) else .isFalse fun e=>h (by rw[e])
theorem LC{m:Nat}(h:m<6):(IP m).n=m:=by
 match m,h with
 |0,_=>rfl
 |1,_=>rfl
 |2,_=>rfl
 |3,_=>rfl
 |4,_=>rfl
 |5,_=>rfl
theorem MI{m:Nat}(h:m<6):(wC m).n=m:=by
 match m,h with
 |0,_=>rfl
 |1,_=>rfl
 |2,_=>rfl
 |3,_=>rfl
 |4,_=>rfl
 |5,_=>rfl
theorem Key.inj{a b:Key}(h:a.n=b.n):a=b:=by
 cases a with
 |mk i j k l=>cases b with
  |mk z A G I=>
   simp only[Key.n] at h;have Y:=i.lt;have h2:=j.lt;have Z:=k.lt;have h7:=l.lt;have h4:=z.lt;have h5:=A.lt;have h6:=G.lt;have h8:=I.lt;have L:i=z:=D6.inj aq;have M:j=A:=D6.inj aq;have O:k=G:=D6.inj aq;have U:l=I:=D6.inj aq;rw[L,M,O,U]
instance:DecidableEq Key:=fun a b=>if h:a.n=b.n then .isTrue (Key.inj h) else .isFalse fun e=>h (by rw[e])
theorem BI{n:Nat}(h:n<1296):(pk n).n=n:=by
 simp only[pk,Key.n];rw[LC aq,LC aq,LC aq,LC aq];omega
section
variable{α β:Type}
inductive S6(α:Type) where
 |mk (x0 x1 x2 x3 x4 x5:α)
def S6.get(d:D6)(t:S6 α):α:=
 S6.rec (motive:=fun _=>α) (fun x0 x1 x2 x3 x4 x5=>D6.rec (motive:=fun _=>α) x0 x1 x2 x3 x4 x5 d) t
def S6.u0(f:α→(α→β)→β)(t:S6 α)(c:S6 α→β):β:=S6.rec (motive:=fun _=>β) (fun x0 x1 x2 x3 x4 x5=>f x0 fun y=>c (.mk y x1 x2 x3 x4 x5)) t
def S6.u1(f:α→(α→β)→β)(t:S6 α)(c:S6 α→β):β:=S6.rec (motive:=fun _=>β) (fun x0 x1 x2 x3 x4 x5=>f x1 fun y=>c (.mk x0 y x2 x3 x4 x5)) t
def S6.u2(f:α→(α→β)→β)(t:S6 α)(c:S6 α→β):β:=S6.rec (motive:=fun _=>β) (fun x0 x1 x2 x3 x4 x5=>f x2 fun y=>c (.mk x0 x1 y x3 x4 x5)) t
def S6.u3(f:α→(α→β)→β)(t:S6 α)(c:S6 α→β):β:=S6.rec (motive:=fun _=>β) (fun x0 x1 x2 x3 x4 x5=>f x3 fun y=>c (.mk x0 x1 x2 y x4 x5)) t
def S6.u4(f:α→(α→β)→β)(t:S6 α)(c:S6 α→β):β:=S6.rec (motive:=fun _=>β) (fun x0 x1 x2 x3 x4 x5=>f x4 fun y=>c (.mk x0 x1 x2 x3 y x5)) t
def S6.u5(f:α→(α→β)→β)(t:S6 α)(c:S6 α→β):β:=S6.rec (motive:=fun _=>β) (fun x0 x1 x2 x3 x4 x5=>f x5 fun y=>c (.mk x0 x1 x2 x3 x4 y)) t
def S6.ep(d:D6):(α→(α→β)→β)→S6 α→(S6 α→β)→β:=
 D6.rec (motive:=fun _=>(α→(α→β)→β)→S6 α→(S6 α→β)→β) S6.u0 S6.u1 S6.u2 S6.u3 S6.u4 S6.u5 d
def S6.mod(d:D6)(g:α→α)(t:S6 α):S6 α:=S6.ep d (fun x c=>c (g x)) t fun y=>y
theorem S6.KW(d z:D6)(g:α→α)(t:S6 α):S6.get z (S6.mod d g t)=if z=d then g (S6.get d t) else S6.get z t:=by
 cases t;cases d<;>cases z<;>rfl
theorem S6.LD(d:D6)(g:α→α)(f:α→(α→β)→β)(z:∀x c,f x c=c (g x))(t:S6 α)(c:S6 α→β):S6.ep d f t c=c (S6.mod d g t):=by
 cases t;cases d<;>exact z _ _
def S6.all(x:α):S6 α:=.mk x x x x x x
theorem S6.KX(d:D6)(x:α):S6.get d (S6.all x)=x:=by cases d<;>rfl
def T4(α:Type):Type:=S6 (S6 (S6 (S6 (Option α))))
def T4.get(E:T4 α)(key:Key):Option α:=Key.rec (motive:=fun _=>T4 α→Option α) (fun i j k l E=>S6.get l (S6.get k (S6.get j (S6.get i E)))) key E
def T4.fr(E:T4 α)(key:Key)(v:α)(c:T4 α→β):β:=Key.rec (motive:=fun _=>β) (fun i j k l=>S6.ep i (S6.ep j (S6.ep k (S6.ep l fun _ c=>c (some v)))) E c) key
def T4.set(E:T4 α)(key:Key)(v:α):T4 α:=E.fr key v fun E=>E
theorem T4.RN(E:T4 α)(i j k l:D6)(v:α)(c:T4 α→β):E.fr (.mk i j k l) v c=c (S6.mod i (S6.mod j (S6.mod k (S6.mod l fun _=>some v))) E):=
 S6.LD i _ _ (fun x c=>S6.LD j _ _ (fun x c=>S6.LD k _ _ (fun x c=>S6.LD l (fun _=>some v) _ (fun _ _=>rfl) x c) x c) x c) E c
theorem T4.jc(E:T4 α)(key:Key)(v:α)(c:T4 α→β):E.fr key v c=c (E.set key v):=by
 cases key with
 |mk i j k l=>unfold T4.set;rw[T4.RN,T4.RN]
theorem S6.gs(E:S6 (S6 (S6 (S6 (Option α)))))(i j k l z A G I:D6)(v:α):S6.get I (S6.get G (S6.get A (S6.get z (S6.mod i (S6.mod j (S6.mod k (S6.mod l fun _=>some v))) E))))=
  if Key.mk z A G I=Key.mk i j k l then some v else S6.get I (S6.get G (S6.get A (S6.get z E))):=by
 rw[S6.KW]
 by_cases hi:z=i
 ·subst hi;rw[bj rfl,S6.KW]
  by_cases L:A=j
  ·subst L;rw[bj rfl,S6.KW]
   by_cases M:G=k
   ·subst M;rw[bj rfl,S6.KW]
    by_cases O:I=l
    ·subst O;rw[bj rfl,bj rfl]
    rw[aZ O,aZ (by intro e;cases e;exact O rfl)]
   rw[aZ M,aZ (by intro e;cases e;exact M rfl)]
  rw[aZ L,aZ (by intro e;cases e;exact L rfl)]
 rw[aZ hi,aZ (by intro e;cases e;exact hi rfl)]
theorem T4.dn(E:T4 α)(key z:Key)(v:α):(E.set key v).get z=if z=key then some v else E.get z:=by
 cases key with
 |mk i j k l=>cases z with
  |mk A G I L=>
   unfold T4.set;rw[T4.RN];exact S6.gs E i j k l A G I L v
def T4.emp:T4 α:=S6.all (S6.all (S6.all (S6.all none)))
theorem T4.sL(key:Key):(T4.emp:T4 α).get key=none:=by
 cases key with
 |mk i j k l=>
  show S6.get l (S6.get k (S6.get j (S6.get i (S6.all (S6.all (S6.all (S6.all none)))))))=none;rw[S6.KX,S6.KX,S6.KX,S6.KX]
def pq(n:Nat):Key:=.mk (wC (Nat.mod n 6)) (wC (Nat.mod (Nat.div n 6) 6)) (wC (Nat.mod (Nat.div n 36) 6)) (wC (Nat.mod (Nat.div n 216) 6))
theorem ahO{n:Nat}(h:n<1296):(pq n).n=n:=by
 show(wC (n % 6)).n+6*(wC (n/6 % 6)).n+36*(wC (n/36 % 6)).n+216*(wC (n/216 % 6)).n=n;rw[MI (BD _ aq),MI (BD _ aq),MI (BD _ aq),MI (BD _ aq)];omega
theorem pq_inj{n k:Nat}(h:pq (n % 1296)=pq (k % 1296)):n % 1296=k % 1296:=by
 rw[←ahO (n:=n % 1296) aq,←ahO (n:=k % 1296) aq,h]
def GT(α:Type):Type:=Tr (T4 α)
def GT.zA(t:GT α)(n:Nat):T4 α:=Option.rec (motive:=fun _=>T4 α) .emp (fun s=>s) (Tr.get t n)
def GT.get(t:GT α)(n:Nat):Option α:=(t.zA (Nat.div n 1296)).get (pq (Nat.mod n 1296))
def GT.set(t:GT α)(n:Nat)(v:α):GT α:=Tr.set t (Nat.div n 1296) ((t.zA (Nat.div n 1296)).set (pq (Nat.mod n 1296)) v)
def GT.fr(t:GT α)(n:Nat)(v:α)(c:GT α→β):β:=(t.zA (Nat.div n 1296)).fr (pq (Nat.mod n 1296)) v fun s=>(Tr.set t (Nat.div n 1296) s).seq c
theorem GT.jc(t:GT α)(n:Nat)(v:α)(c:GT α→β):t.fr n v c=c (t.set n v):=by
 unfold GT.fr;rw[T4.jc];exact Tr.seq_eq (α:=T4 α) _ c
def GT.emp:GT α:=Tr.leaf
theorem GT.sL(n:Nat):(GT.emp:GT α).get n=none:=T4.sL _
theorem GT.ats(t:Tr (T4 α))(n k:Nat)(s:T4 α):(Option.rec (motive:=fun _=>T4 α) .emp (fun s=>s) (Tr.get (Tr.set t n s) k):T4 α)=if k=n then s else Option.rec (motive:=fun _=>T4 α) .emp (fun s=>s) (Tr.get t k):=by
 rw[Tr.dn]
 split
 ·rfl
 rfl
theorem GT.dn(t:GT α)(n k:Nat)(v:α):(t.set n v).get k=if k=n then some v else t.get k:=by
 have h:(t.set n v).zA (k/1296)=if k/1296=n/1296 then(t.zA (n/1296)).set (pq (n % 1296)) v else t.zA (k/1296):=GT.ats t _ _ _
 show((t.set n v).zA (k/1296)).get (pq (k % 1296))=if k=n then some v else(t.zA (k/1296)).get (pq (k % 1296))
 rw[h]
 by_cases e:k/1296=n/1296
 ·rw[bj e,T4.dn,e]
  by_cases z:k % 1296=n % 1296
  ·rw[bj (by rw[z]),bj aq]
  rw[aZ (fun h=>z (pq_inj h)),aZ aq]
 rw[aZ e,aZ aq]
end
abbrev Env:=T4 ak
def mE:Key:=.mk .d0 .d0 .d0 .d0
def ow:Key:=.mk .d1 .d0 .d0 .d0
def i3:Key:=.mk .d2 .d0 .d0 .d0
def jn:Key:=.mk .d3 .d0 .d0 .d0
def gD:Key:=.mk .d4 .d0 .d0 .d0
def jo:Key:=.mk .d5 .d0 .d0 .d0
def lU:Key:=.mk .d0 .d1 .d0 .d0
def nk:Key:=.mk .d1 .d1 .d0 .d0
def qL:Key:=.mk .d2 .d1 .d0 .d0
def ug:Key:=.mk .d3 .d1 .d0 .d0
def tD:Key:=.mk .d4 .d1 .d0 .d0
def lL:Key:=.mk .d5 .d1 .d0 .d0
def m9:Key:=.mk .d0 .d2 .d0 .d0
def tE:Key:=.mk .d1 .d2 .d0 .d0
def tF:Key:=.mk .d2 .d2 .d0 .d0
def tG:Key:=.mk .d3 .d2 .d0 .d0
def tH:Key:=.mk .d4 .d2 .d0 .d0
def na:Key:=.mk .d5 .d2 .d0 .d0
def tI:Key:=.mk .d0 .d3 .d0 .d0
def nc:Key:=.mk .d1 .d3 .d0 .d0
def tK:Key:=.mk .d2 .d3 .d0 .d0
def tL:Key:=.mk .d3 .d3 .d0 .d0
def tM:Key:=.mk .d4 .d3 .d0 .d0
def tN:Key:=.mk .d5 .d3 .d0 .d0
def tO:Key:=.mk .d0 .d4 .d0 .d0
def kJ:Key:=.mk .d1 .d4 .d0 .d0
def n7:Key:=.mk .d2 .d4 .d0 .d0
def yD:Key:=.mk .d3 .d4 .d0 .d0
def jS:Key:=.mk .d4 .d4 .d0 .d0
def yE:Key:=.mk .d5 .d4 .d0 .d0
def yF:Key:=.mk .d0 .d5 .d0 .d0
def o7:Key:=.mk .d1 .d5 .d0 .d0
def yG:Key:=.mk .d2 .d5 .d0 .d0
def mw:Key:=.mk .d3 .d5 .d0 .d0
def n9:Key:=.mk .d4 .d5 .d0 .d0
def yH:Key:=.mk .d5 .d5 .d0 .d0
def yI:Key:=.mk .d0 .d0 .d1 .d0
def yJ:Key:=.mk .d1 .d0 .d1 .d0
def o8:Key:=.mk .d2 .d0 .d1 .d0
def yK:Key:=.mk .d3 .d0 .d1 .d0
def yL:Key:=.mk .d4 .d0 .d1 .d0
def yM:Key:=.mk .d5 .d0 .d1 .d0
def o9:Key:=.mk .d0 .d1 .d1 .d0
def tP:Key:=.mk .d1 .d1 .d1 .d0
def Ep:Key:=.mk .d2 .d1 .d1 .d0
def Er:Key:=.mk .d3 .d1 .d1 .d0
def lM:Key:=.mk .d4 .d1 .d1 .d0
def Et:Key:=.mk .d5 .d1 .d1 .d0
def Eu:Key:=.mk .d0 .d2 .d1 .d0
def Ew:Key:=.mk .d1 .d2 .d1 .d0
def NQ:Key:=.mk .d2 .d2 .d1 .d0
def rL:Key:=.mk .d3 .d2 .d1 .d0
def NR:Key:=.mk .d4 .d2 .d1 .d0
def NS:Key:=.mk .d5 .d2 .d1 .d0
def NT:Key:=.mk .d0 .d3 .d1 .d0
def NU:Key:=.mk .d1 .d3 .d1 .d0
def NV:Key:=.mk .d2 .d3 .d1 .d0
def NW:Key:=.mk .d3 .d3 .d1 .d0
def NX:Key:=.mk .d4 .d3 .d1 .d0
def NY:Key:=.mk .d5 .d3 .d1 .d0
def ahP:Key:=.mk .d0 .d4 .d1 .d0
def ahQ:Key:=.mk .d1 .d4 .d1 .d0
def ahR:Key:=.mk .d2 .d4 .d1 .d0
def ahS:Key:=.mk .d3 .d4 .d1 .d0
def ahT:Key:=.mk .d4 .d4 .d1 .d0
def ahU:Key:=.mk .d5 .d4 .d1 .d0
def ahV:Key:=.mk .d0 .d5 .d1 .d0
def ahW:Key:=.mk .d1 .d5 .d1 .d0
def ahX:Key:=.mk .d2 .d5 .d1 .d0
def ahY:Key:=.mk .d3 .d5 .d1 .d0
def ahZ:Key:=.mk .d4 .d5 .d1 .d0
def ah0:Key:=.mk .d5 .d5 .d1 .d0
def ah1:Key:=.mk .d0 .d0 .d2 .d0
def ah2:Key:=.mk .d1 .d0 .d2 .d0
def ah3:Key:=.mk .d2 .d0 .d2 .d0
def ah4:Key:=.mk .d3 .d0 .d2 .d0
def ah5:Key:=.mk .d4 .d0 .d2 .d0
def ah6:Key:=.mk .d5 .d0 .d2 .d0
def ah7:Key:=.mk .d0 .d1 .d2 .d0
def ah8:Key:=.mk .d1 .d1 .d2 .d0
def ah9:Key:=.mk .d2 .d1 .d2 .d0
def aia:Key:=.mk .d3 .d1 .d2 .d0
def aib:Key:=.mk .d4 .d1 .d2 .d0
def aic:Key:=.mk .d5 .d1 .d2 .d0
def aid:Key:=.mk .d0 .d2 .d2 .d0
def aie:Key:=.mk .d1 .d2 .d2 .d0
def aif:Key:=.mk .d2 .d2 .d2 .d0
def aih:Key:=.mk .d3 .d2 .d2 .d0
def aii:Key:=.mk .d4 .d2 .d2 .d0
def Vv:Key:=.mk .d5 .d2 .d2 .d0
def aij:Key:=.mk .d0 .d3 .d2 .d0
def aik:Key:=.mk .d1 .d3 .d2 .d0
def ail:Key:=.mk .d2 .d3 .d2 .d0
def aim:Key:=.mk .d3 .d3 .d2 .d0
def ain:Key:=.mk .d4 .d3 .d2 .d0
def aio:Key:=.mk .d5 .d3 .d2 .d0
inductive RT where
 |emp
 |one (x:List ak)
 |many (s:GT (List ak))
def RT.get(t:RT)(n:Nat):Option (List ak):=
 RT.rec (motive:=fun _=>Nat→Option (List ak)) (fun _=>none) (fun x n=>Nat.rec (motive:=fun _=>Option (List ak)) (some x) (fun _ _=>none) n) GT.get t n
def RT.set(t:RT)(n:Nat)(v:List ak):RT:=
 RT.rec (motive:=fun _=>Nat→List ak→RT) (fun n v=>Nat.rec (motive:=fun _=>RT) (.one v) (fun m _=>.many (GT.emp.set (Nat.succ m) v)) n)
  (fun x n v=>Nat.rec (motive:=fun _=>RT) (.one v) (fun m _=>.many ((GT.emp.set 0 x).set (Nat.succ m) v)) n) (fun s n v=>.many (s.set n v)) t n v
theorem RT.dn(t:RT)(n k:Nat)(v:List ak):(t.set n v).get k=if k=n then some v else t.get k:=by
 cases t with
 |emp=>cases n with
  |zero=>cases k<;>rfl
  |succ n=>exact(GT.dn GT.emp (n+1) k v).trans (by rw[GT.sL];rfl)
 |one x=>cases n with
  |zero=>cases k<;>rfl
  |succ n=>
   refine(GT.dn (GT.emp.set 0 x) (n+1) k v).trans ?_;rw[GT.dn,GT.sL]
   cases k<;>rfl
 |many s=>exact GT.dn s n k v
inductive cV where
 |row (elem es aE n lo fl:Nat) (cs:RT)
 |map (es:List (ak×ak))
abbrev HT:=GT cV
structure ay where
 next:Nat
 aQ:Nat
 ws:List Nat
 t:HT
inductive aI where
 |t (n:Key)
 |c (v:ak)
inductive E4 where
 |bool|ptr|agg (ks:List Nat)|slice|iface|func|map
inductive bm where
 |cj (x:aI)
 |pick (c a b:aI)
 |pb (elem es aE:Nat) (cells:List ak)
 |box (elem es aE:Nat) (x:aI)
 |load (n:Nat) (agg:Bool) (a:aI)
 |store (n:Nat) (a x:aI)
 |bin (op:BinOp) (x y:aI)
 |eqv (c:E4) (neg:Bool) (x y:aI)
 |un (op:UnOp) (x:aI)
 |dM (x:aI) (k:Nat)
 |sub (x:aI) (off n:Nat) (agg:Bool)
 |AF (len es:Nat) (x i:aI)
 |gQ (es:Nat) (x i:aI)
 |Di (len es:Nat) (agg:Bool) (x i:aI)
 |Dj (x i:aI)
 |HG (x:aI) (lo hi:Option aI)
 |yN (es:Nat) (x:aI) (lo hi:Option aI)
 |JK (es:Nat) (x:aI) (lo:Option aI) (hi mx:aI)
 |vI (x:aI) (i:Nat)
 |rB (x:aI)
 |yO (f:Nat) (first eG:List aI)
 |yP (t:Nat) (x:aI)
 |vJ (elem es aE:Nat) (zero:List ak) (len cap:aI)
 |build (zero:List ak) (parts:List (Nat×Nat×aI))
 |sM (elem es aE len:Nat) (zero:List ak) (parts:List (Nat×aI))
 |len (x:aI)
 |IQ (n:Nat)
 |tQ (x:aI)
 |app (elem es aE:Nat) (x y:aI)
 |xn (elem:Nat) (x y:aI)
 |copy (es:Nat) (x y:aI)
 |xo (mx:Bool) (x:aI) (ys:List aI)
 |conv (k:IntKind) (x:aI)
 |LF (x:aI)
 |Dk (elem:Nat) (x:aI)
 |xp (x:aI)
 |call (f:Nat) (args:List aI)
 |xR (x:aI) (args:List aI)
 |xS (t n:Nat) (x:aI)
 |JL (x:aI)
 |yQ (e:Nat) (x n:aI)
structure bl where
 dst:Option Key
 g:Option (Key×Bool)
 q:Option (List Nat)
 op:bm
inductive jT where
 |tmp (t:Key)
 |cell (a:Key) (n:Nat) (agg:Bool)
inductive IC where
 |skip
 |region (draw:Bool) (ops:List bl)
 |seq (a b:IC)
 |cond (c:aI) (a b:IC)
 |block (id:Nat) (b:IC)
 |loop (b:IC)
 |exit (id:Nat)
 |ret
structure aR where
 nt:Nat
 ps:List Key
 res:List jT
 body:IC
inductive aC where
 |ok (v:ak) (H:ay)
 |err (n:Nat)
inductive dD where
 |ok (E:Env) (H:ay)
 |err (n:Nat)
inductive Ex where
 |normal|exit (id:Nat)|ret
inductive Out where
 |ok (x:Ex) (E:Env) (H:ay)
 |err (n:Nat)
def T4.Ey(E:Env)(key:Key)(v:ak)(c:Env→dD):dD:=E.fr key v c
theorem T4.F8(E:Env)(key:Key)(v:ak)(c:Env→dD):E.Ey key v c=c (E.set key v):=T4.jc E key v c
def RT.fr(t:RT)(n:Nat)(v:List ak)(c:RT→aC):aC:=
 RT.rec (motive:=fun _=>Nat→List ak→(RT→aC)→aC) (fun n v c=>Nat.rec (motive:=fun _=>aC) (c (.one v)) (fun m _=>GT.emp.fr (Nat.succ m) v fun s=>c (.many s)) n)
  (fun x n v c=>Nat.rec (motive:=fun _=>aC) (c (.one v)) (fun m _=>GT.emp.fr 0 x fun s=>s.fr (Nat.succ m) v fun s=>c (.many s)) n) (fun s n v c=>s.fr n v fun s=>c (.many s)) t n v c
theorem RT.jc(t:RT)(n:Nat)(v:List ak)(c:RT→aC):t.fr n v c=c (t.set n v):=by
 cases t with
 |emp=>cases n with
  |zero=>rfl
  |succ n=>exact GT.jc _ _ _ _
 |one x=>cases n with
  |zero=>rfl
  |succ n=>exact(GT.jc _ _ _ _).trans (GT.jc _ _ _ _)
 |many s=>exact GT.jc _ _ _ _
def me(v:ak)(k:ak→aC):aC:=
 ak.rec (motive_1:=fun _=>(ak→aC)→aC) (motive_2:=fun _=>Unit) (fun b z=>Bool.rec (motive:=fun _=>aC) (z (.bool false)) (z (.bool true)) b) (fun k n z=>lq n fun n=>z (.int k n)) (fun l v z=>cL l fun l=>cL v fun v=>z (.str l v)) (fun f g o z=>cL f fun f=>cL g fun g=>cL o fun o=>z (.ptr f g o)) (fun z=>z (.kj)) (fun f g o l es z=>cL f fun f=>cL g fun g=>cL o fun o=>cL l fun l=>z (.slice f g o l es)) (fun z=>z (.fL)) (fun cs _ z=>z (.agg cs)) (fun vs _ z=>z (.tuple vs)) (fun f fs eG _ _ z=>z (.func f fs eG)) (fun z=>z (.mO)) (fun t v _ z=>z (.iface t v)) (fun z=>z (.ke)) (fun f z=>z (.map f)) (fun z=>z (.uR)) (fun z=>z (.undef)) () (fun _ _ _ _=>()) v k
theorem wW(v:ak)(k:ak→aC):me v k=k v:=by
 cases v<;>simp[me,wV,fQ]
 rename_i b;cases b<;>rfl
def aD{β:Type}(b:Bool)(k e:β):β:=Bool.rec (motive:=fun _=>β) e k b
def ob{α β:Type}(o:Option α)(e:β)(k:α→β):β:=Option.rec (motive:=fun _=>β) e k o
def nG{β:Type}(b:Bool)(k:Bool→β):β:=Bool.rec (motive:=fun _=>β) (k false) (k true) b
def uT(v:ak)(e:aC)(k:Bool→aC):aC:=
 ak.rec (motive_1:=fun _=>aC→(Bool→aC)→aC) (motive_2:=fun _=>Unit) (fun b e z=>z b) (fun _ _ e _=>e) (fun _ _ e _=>e) (fun _ _ _ e _=>e) (fun e _=>e) (fun _ _ _ _ _ e _=>e) (fun e _=>e) (fun _ _ e _=>e) (fun _ _ e _=>e) (fun _ _ _ _ _ e _=>e) (fun e _=>e) (fun _ _ _ e _=>e) (fun e _=>e) (fun _ e _=>e) (fun e _=>e) (fun e _=>e) () (fun _ _ _ _=>()) v e k
def yR(v:ak)(s:dD)(k:Bool→dD):dD:=
 ak.rec (motive_1:=fun _=>dD→(Bool→dD)→dD) (motive_2:=fun _=>Unit) (fun b e z=>z b) (fun _ _ _ _=>.err 51) (fun _ _ _ _=>.err 51) (fun _ _ _ _ _=>.err 51) (fun _ _=>.err 51) (fun _ _ _ _ _ _ _=>.err 51) (fun _ _=>.err 51) (fun _ _ _ _=>.err 51) (fun _ _ _ _=>.err 51) (fun _ _ _ _ _ _ _=>.err 51) (fun _ _=>.err 51) (fun _ _ _ _ _=>.err 51) (fun _ _=>.err 51) (fun _ _ _=>.err 51) (fun _ _=>.err 51) (fun s _=>s) () (fun _ _ _ _=>()) v s k
def aa2(v:ak)(e:Out)(k:Bool→Out):Out:=
 ak.rec (motive_1:=fun _=>Out→(Bool→Out)→Out) (motive_2:=fun _=>Unit) (fun b e z=>z b) (fun _ _ e _=>e) (fun _ _ e _=>e) (fun _ _ _ e _=>e) (fun e _=>e) (fun _ _ _ _ _ e _=>e) (fun e _=>e) (fun _ _ e _=>e) (fun _ _ e _=>e) (fun _ _ _ _ _ e _=>e) (fun e _=>e) (fun _ _ _ e _=>e) (fun e _=>e) (fun _ e _=>e) (fun e _=>e) (fun e _=>e) () (fun _ _ _ _=>()) v e k
def fq(v:ak)(e:aC)(k:IntKind→Int→aC):aC:=
 ak.rec (motive_1:=fun _=>aC→(IntKind→Int→aC)→aC) (motive_2:=fun _=>Unit) (fun _ e _=>e) (fun k n e z=>z k n) (fun _ _ e _=>e) (fun _ _ _ e _=>e) (fun e _=>e) (fun _ _ _ _ _ e _=>e) (fun e _=>e) (fun _ _ e _=>e) (fun _ _ e _=>e) (fun _ _ _ _ _ e _=>e) (fun e _=>e) (fun _ _ _ e _=>e) (fun e _=>e) (fun _ e _=>e) (fun e _=>e) (fun e _=>e) () (fun _ _ _ _=>()) v e k
def jQ(v:ak)(e:aC)(k:Nat→Nat→aC):aC:=
 ak.rec (motive_1:=fun _=>aC→(Nat→Nat→aC)→aC) (motive_2:=fun _=>Unit) (fun _ e _=>e) (fun _ _ e _=>e) (fun l v e z=>z l v) (fun _ _ _ e _=>e) (fun e _=>e) (fun _ _ _ _ _ e _=>e) (fun e _=>e) (fun _ _ e _=>e) (fun _ _ e _=>e) (fun _ _ _ _ _ e _=>e) (fun e _=>e) (fun _ _ _ e _=>e) (fun e _=>e) (fun _ e _=>e) (fun e _=>e) (fun e _=>e) () (fun _ _ _ _=>()) v e k
def gw(v:ak)(e:aC)(k:Nat→Nat→Nat→aC):aC:=
 ak.rec (motive_1:=fun _=>aC→(Nat→Nat→Nat→aC)→aC) (motive_2:=fun _=>Unit) (fun _ e _=>e) (fun _ _ e _=>e) (fun _ _ e _=>e) (fun f g o e z=>z f g o) (fun e _=>e) (fun _ _ _ _ _ e _=>e) (fun e _=>e) (fun _ _ e _=>e) (fun _ _ e _=>e) (fun _ _ _ _ _ e _=>e) (fun e _=>e) (fun _ _ _ e _=>e) (fun e _=>e) (fun _ e _=>e) (fun e _=>e) (fun e _=>e) () (fun _ _ _ _=>()) v e k
def eT(v:ak)(e n:aC)(k:Nat→Nat→Nat→Nat→Nat→aC):aC:=
 ak.rec (motive_1:=fun _=>aC→aC→(Nat→Nat→Nat→Nat→Nat→aC)→aC) (motive_2:=fun _=>Unit) (fun _ e _ _=>e) (fun _ _ e _ _=>e) (fun _ _ e _ _=>e) (fun _ _ _ e _ _=>e) (fun e _ _=>e) (fun f g o l es e _ z=>z f g o l es) (fun _ n _=>n) (fun _ _ e _ _=>e) (fun _ _ e _ _=>e) (fun _ _ _ _ _ e _ _=>e) (fun e _ _=>e) (fun _ _ _ e _ _=>e) (fun e _ _=>e) (fun _ e _ _=>e) (fun e _ _=>e) (fun e _ _=>e) () (fun _ _ _ _=>()) v e n k
def mh(v:ak)(e:aC)(k:List ak→aC):aC:=
 ak.rec (motive_1:=fun _=>aC→(List ak→aC)→aC) (motive_2:=fun _=>Unit) (fun _ e _=>e) (fun _ _ e _=>e) (fun _ _ e _=>e) (fun _ _ _ e _=>e) (fun e _=>e) (fun _ _ _ _ _ e _=>e) (fun e _=>e) (fun cs _ e z=>z cs) (fun _ _ e _=>e) (fun _ _ _ _ _ e _=>e) (fun e _=>e) (fun _ _ _ e _=>e) (fun e _=>e) (fun _ e _=>e) (fun e _=>e) (fun e _=>e) () (fun _ _ _ _=>()) v e k
def uJ(v:ak)(e:aC)(k:List ak→aC):aC:=
 ak.rec (motive_1:=fun _=>aC→(List ak→aC)→aC) (motive_2:=fun _=>Unit) (fun _ e _=>e) (fun _ _ e _=>e) (fun _ _ e _=>e) (fun _ _ _ e _=>e) (fun e _=>e) (fun _ _ _ _ _ e _=>e) (fun e _=>e) (fun _ _ e _=>e) (fun vs _ e z=>z vs) (fun _ _ _ _ _ e _=>e) (fun e _=>e) (fun _ _ _ e _=>e) (fun e _=>e) (fun _ e _=>e) (fun e _=>e) (fun e _=>e) () (fun _ _ _ _=>()) v e k
def AG(v:ak)(e:aC)(k:Nat→List ak→List ak→aC):aC:=
 ak.rec (motive_1:=fun _=>aC→(Nat→List ak→List ak→aC)→aC) (motive_2:=fun _=>Unit) (fun _ e _=>e) (fun _ _ e _=>e) (fun _ _ e _=>e) (fun _ _ _ e _=>e) (fun e _=>e) (fun _ _ _ _ _ e _=>e) (fun e _=>e) (fun _ _ e _=>e) (fun _ _ e _=>e) (fun f fs eG _ _ e z=>z f fs eG) (fun e _=>e) (fun _ _ _ e _=>e) (fun e _=>e) (fun _ e _=>e) (fun e _=>e) (fun e _=>e) () (fun _ _ _ _=>()) v e k
def adg(v:ak)(e:Option Nat)(k:IntKind→Int→Option Nat):Option Nat:=
 ak.rec (motive_1:=fun _=>Option Nat→(IntKind→Int→Option Nat)→Option Nat) (motive_2:=fun _=>Unit) (fun _ e _=>e) (fun k n e z=>z k n) (fun _ _ e _=>e) (fun _ _ _ e _=>e) (fun e _=>e) (fun _ _ _ _ _ e _=>e) (fun e _=>e) (fun _ _ e _=>e) (fun _ _ e _=>e) (fun _ _ _ _ _ e _=>e) (fun e _=>e) (fun _ _ _ e _=>e) (fun e _=>e) (fun _ e _=>e) (fun e _=>e) (fun e _=>e) () (fun _ _ _ _=>()) v e k
def adh(v:ak)(e:Option ak)(k:IntKind→Int→Option ak):Option ak:=
 ak.rec (motive_1:=fun _=>Option ak→(IntKind→Int→Option ak)→Option ak) (motive_2:=fun _=>Unit) (fun _ e _=>e) (fun k n e z=>z k n) (fun _ _ e _=>e) (fun _ _ _ e _=>e) (fun e _=>e) (fun _ _ _ _ _ e _=>e) (fun e _=>e) (fun _ _ e _=>e) (fun _ _ e _=>e) (fun _ _ _ _ _ e _=>e) (fun e _=>e) (fun _ _ _ e _=>e) (fun e _=>e) (fun _ e _=>e) (fun e _=>e) (fun e _=>e) () (fun _ _ _ _=>()) v e k
def iD(v:ak):Option (List ak):=
 ak.rec (motive_1:=fun _=>Option (List ak)) (motive_2:=fun _=>Unit) (fun b=>some [.bool b]) (fun k n=>some [.int k n]) (fun l v=>some [.str l v]) (fun f g o=>some [.ptr f g o]) (some [.kj]) (fun f g o l es=>some [.slice f g o l es]) (some [.fL]) (fun cs _=>some cs) (fun _ _=>none) (fun f fs eG _ _=>some [.func f fs eG]) (some [.mO]) (fun t v _=>some [.iface t v]) (some [.ke]) (fun f=>some [.map f]) (some [.uR]) (none) () (fun _ _ _ _=>()) v
def iT{β:Type}(o:Option cV)(e:β)(k:Nat→Nat→Nat→Nat→Nat→Nat→RT→β):β:=
 Option.rec (motive:=fun _=>β) e (fun o=>cV.casesOn (motive:=fun _=>β) o k (fun _=>e)) o
def gR{β:Type}(i:Int)(e:β)(k:Nat→β):β:=Int.rec (motive:=fun _=>β) k (fun _=>e) i
def gz(l:List ak):Nat:=List.rec (motive:=fun _=>Nat) 0 (fun _ _ z=>Nat.succ z) l
def ay.alloc(H:ay)(o:cV)(k:Nat→ay→aC):aC:=
 ay.casesOn (motive:=fun _=>aC) H fun next aQ ws t=>cL next fun f=>t.fr f o fun t=>k f ⟨Nat.succ f,aQ,ws,t⟩
def qy(f:Nat)(l:List Nat):Bool:=
 List.rec (motive:=fun _=>Bool) false (fun x _ z=>aD (Nat.beq f x) true z) l
def wrote(f aQ:Nat)(ws:List Nat):List Nat:=
 aD (Nat.ble aQ f) ws (aD (qy f ws) ws (f::ws))
def rd{β:Type}(H:ay)(f g off n:Nat)(e:β)(k:List ak→β):β:=
 iT (H.t.get f) e fun _ es _ m lo _ cs=>
  aD (Nat.ble lo g) (aD (Nat.ble g m) (aD (Nat.ble (Nat.add (Nat.mod off es) n) es) (aD (Nat.ble (Nat.succ (Nat.div off es)) g)
   (ob (cs.get (Nat.div off es)) e fun l=>aD (Nat.beq n es) (k l) (k ((l.drop (Nat.mod off es)).take n))) e) e) e) e
def eE(l:List ak)(r:Nat)(new:List ak):List ak:=l.take r++(new++l.drop (r+new.length))
def wr(H:ay)(f g off n:Nat)(new:List ak)(e:aC)(k:ay→aC):aC:=
 ay.casesOn (motive:=fun _=>aC) H fun next aQ ws t=>iT (t.get f) e fun elem es aE m lo fl cs=>
  aD (Nat.beq fl 0) (aD (Nat.beq g m) (aD (Nat.ble lo g) (aD (Nat.ble (Nat.add (Nat.mod off es) n) es) (aD (Nat.ble (Nat.succ (Nat.div off es)) g) (aD (Nat.beq (gz new) n)
   (ob (cs.get (Nat.div off es)) e fun l=>
    cs.fr (Nat.div off es) (aD (Nat.beq n es) new (eE l (Nat.mod off es) new)) fun cs=>t.fr f (.row elem es aE m m 0 cs) fun t=>
     k ⟨next,aQ,wrote f aQ ws,t⟩) e) e) e) e) e) e
def AH(v i:Nat):Nat:=Nat.mod (Nat.shiftRight v (Nat.mul 8 i)) 256
def RO(v lo hi:Nat):Nat:=Nat.mod (Nat.shiftRight v (Nat.mul 8 lo)) (Nat.shiftLeft 1 (Nat.mul 8 (Nat.sub hi lo)))
def GC(z A G:Nat):Nat:=Nat.add A (Nat.shiftLeft G (Nat.mul 8 z))
def strLt(L:Nat):Nat→Nat→Nat→Bool:=
 Nat.rec (motive:=fun _=>Nat→Nat→Nat→Bool) (fun _ z _=>Bool.not (Nat.beq z 0))
  (fun _ M A z G=>Nat.rec (motive:=fun _=>Bool) false (fun I _=>
   match Nat.beq (Nat.mod A 256) (Nat.mod G 256) with
   |true=>M (Nat.div A 256) I (Nat.div G 256)
   |false=>Nat.ble (Nat.succ (Nat.mod A 256)) (Nat.mod G 256)) z) L
def pack:List UInt8→Nat
 |[]=>0
 |b::r=>b.toNat+256*pack r
def cG:IntKind→Nat
 |.i8=>0|.i16=>1|.i32=>2|.i64=>3|.u8=>4|.u16=>5|.u32=>6|.u64=>7
def lA(k:IntKind)(n:Int):Int:=
 match k,n with
 |.i64,.ofNat m=>match Nat.ble m 9223372036854775807 with|true=>.ofNat m|false=>IntKind.wrap .i64 (.ofNat m)
 |.i64,.negSucc m=>match Nat.ble m 9223372036854775807 with|true=>.negSucc m|false=>IntKind.wrap .i64 (.negSucc m)
 |k,n=>k.wrap n
def fA:Int→Int→Bool
 |.ofNat a,.ofNat b=>Nat.ble (Nat.succ a) b
 |.ofNat _,.negSucc _=>false
 |.negSucc _,.ofNat _=>true
 |.negSucc a,.negSucc b=>Nat.ble (Nat.succ b) a
def kX:Int→Int→Bool
 |.ofNat a,.ofNat b=>Nat.beq a b
 |.negSucc a,.negSucc b=>Nat.beq a b
 |_,_=>false
def intBits(op:BinOp)(k:IntKind)(x y:Int):Option Int:=
 let a:=BitVec.ofInt k.bits x
 let b:=BitVec.ofInt k.bits y
 match op with
 |.and=>some (k.wrap ((a&&&b).toNat))
 |.or=>some (k.wrap ((a|||b).toNat))
 |.xor=>some (k.wrap ((a^^^b).toNat))
 |.andNot=>some (k.wrap ((a&&&~~~b).toNat))
 |_=>none
def ga(op:BinOp)(k:IntKind)(a:Int)(z:IntKind)(b:Int):Option ak:=
 match op with
 |.shl=>aD (fA b 0) none (some (.int k (lA k (a*2^(Nat.min b.toNat k.bits)))))
 |.shr=>aD (fA b 0) none (some (.int k (a.fdiv (2^(Nat.min b.toNat k.bits)))))
 |.add=>aD (Nat.beq (cG k) (cG z)) (some (.int k (lA k (a+b)))) none
 |.sub=>aD (Nat.beq (cG k) (cG z)) (some (.int k (lA k (a-b)))) none
 |.mul=>aD (Nat.beq (cG k) (cG z)) (some (.int k (lA k (a*b)))) none
 |.quo=>aD (Nat.beq (cG k) (cG z)) (aD (kX b 0) none (some (.int k (lA k (a.tdiv b))))) none
 |.rem=>aD (Nat.beq (cG k) (cG z)) (aD (kX b 0) none (some (.int k (a.tmod b)))) none
 |.eql=>aD (Nat.beq (cG k) (cG z)) (some (.bool (kX a b))) none
 |.neq=>aD (Nat.beq (cG k) (cG z)) (some (.bool (Bool.not (kX a b)))) none
 |.lss=>aD (Nat.beq (cG k) (cG z)) (some (.bool (fA a b))) none
 |.leq=>aD (Nat.beq (cG k) (cG z)) (some (.bool (Bool.not (fA b a)))) none
 |.gtr=>aD (Nat.beq (cG k) (cG z)) (some (.bool (fA b a))) none
 |.geq=>aD (Nat.beq (cG k) (cG z)) (some (.bool (Bool.not (fA a b)))) none
 |op=>aD (Nat.beq (cG k) (cG z)) (ob (intBits op k a b) none fun r=>some (.int k r)) none
def s7(z A G I:Nat):Bool:=match Nat.beq z G with|true=>Nat.beq A I|false=>false
def RP(op:BinOp)(z G A I:Nat):Option ak:=
 match op with
 |.add=>aD (Nat.ble (Nat.add z A) 4611686018427387904) (some (.str (Nat.add z A) (GC z G I))) none
 |.eql=>some (.bool (s7 z G A I))
 |.neq=>some (.bool (Bool.not (s7 z G A I)))
 |.lss=>some (.bool (strLt z G A I))
 |.leq=>some (.bool (Bool.not (strLt A I z G)))
 |.gtr=>some (.bool (strLt A I z G))
 |.geq=>some (.bool (Bool.not (strLt z G A I)))
 |_=>none
def BJ(op:BinOp)(x y:ak):Option ak:=
 match x,y with
 |.int k a,.int z b=>ga op k a z b
 |.str A G,.str I L=>RP op A G I L
 |_,_=>none
def OU(op:UnOp)(x:ak):Option ak:=
 match op,x with
 |.neg,.int k n=>some (.int k (lA k (0-n)))
 |.xor,.int k n=>ob (intBits .xor k (if k.signed then-1 else k.max) n) none fun r=>some (.int k r)
 |.not,.bool b=>some (.bool (Bool.not b))
 |_,_=>none
def rk(c:Nat):ak→Bool
 |.int k _=>Nat.beq (cG k) c
 |.bool _=>Nat.beq c 100
 |.str _ _=>Nat.beq c 101
 |_=>false
def gj:List Nat→List ak→Bool
 |[],[]=>true
 |c::r,a::s=>rk c a&&gj r s
 |_,_=>false
def wZ:ak→ak→Option Bool
 |.int k a,.int z b=>match Nat.beq (cG k) (cG z) with|true=>some (kX a b)|false=>none
 |.bool a,.bool b=>some (a==b)
 |.str A G,.str I L=>some (s7 A G I L)
 |_,_=>none
def mP:List ak→List ak→Option Bool
 |[],[]=>some true
 |a::r,b::s=>match wZ a b with
  |some true=>mP r s
  |some false=>match mP r s with|some _=>some false|none=>none
  |none=>none
 |_,_=>none
def ox(c:E4)(x y:ak):Option Bool:=
 match c with
 |.bool=>match x,y with|.bool a,.bool b=>some (a==b)|_,_=>none
 |.ptr=>match x,y with
  |.kj,.kj=>some true
  |.kj,.ptr _ _ _=>some false
  |.ptr _ _ _,.kj=>some false
  |.ptr f g o,.ptr f' g' z=>aD (Nat.beq f f') (aD (Nat.beq g g') (aD (Nat.beq o z) (some true) none) none) none
  |_,_=>none
 |.agg ks=>match x,y with|.agg a,.agg b=>aD (gj ks a) (aD (gj ks b) (mP a b) none) none|_,_=>none
 |.slice=>match x,y with
  |.fL,.fL=>some true
  |.fL,.slice _ _ _ _ _=>some false
  |.slice _ _ _ _ _,.fL=>some false
  |_,_=>none
 |.iface=>match x,y with
  |.ke,.ke=>some true
  |.ke,.iface _ _=>some false
  |.iface _ _,.ke=>some false
  |.iface t _,.iface t' _=>aD (Nat.beq t t') none (some false)
  |_,_=>none
 |.func=>match x,y with
  |.mO,.mO=>some true
  |.mO,.func _ _ _=>some false
  |.func _ _ _,.mO=>some false
  |_,_=>none
 |.map=>match x,y with
  |.uR,.uR=>some true
  |_,_=>none
def uh(m n:Nat):Int:=Bool.rec (motive:=fun _=>Int) (.negSucc (Nat.pred (Nat.sub n m))) (.ofNat (Nat.sub m n)) (Nat.ble n m)
def aip(x y:Int):Int:=
 Int.rec (motive:=fun _=>Int→Int) (fun m y=>Int.rec (motive:=fun _=>Int) (fun n=>.ofNat (Nat.add m n)) (fun n=>uh m (Nat.succ n)) y)
  (fun m y=>Int.rec (motive:=fun _=>Int) (fun n=>uh n (Nat.succ m)) (fun n=>.negSucc (Nat.succ (Nat.add m n))) y) x y
def aiq(x y:Int):Int:=
 Int.rec (motive:=fun _=>Int→Int) (fun m y=>Int.rec (motive:=fun _=>Int) (fun n=>uh m n) (fun n=>.ofNat (Nat.add m (Nat.succ n))) y)
  (fun m y=>Int.rec (motive:=fun _=>Int) (fun n=>.negSucc (Nat.add m n)) (fun n=>uh n m) y) x y
def JM(x y:Int):Bool:=
 Int.rec (motive:=fun _=>Int→Bool) (fun m y=>Int.rec (motive:=fun _=>Bool) (fun n=>Nat.ble (Nat.succ m) n) (fun _=>false) y)
  (fun m y=>Int.rec (motive:=fun _=>Bool) (fun _=>true) (fun n=>Nat.ble (Nat.succ n) m) y) x y
def W6(x y:Int):Bool:=
 Int.rec (motive:=fun _=>Int→Bool) (fun m y=>Int.rec (motive:=fun _=>Bool) (fun n=>Nat.beq m n) (fun _=>false) y)
  (fun m y=>Int.rec (motive:=fun _=>Bool) (fun _=>false) (fun n=>Nat.beq m n) y) x y
def w64(n:Int):Int:=
 Int.rec (motive:=fun _=>Int) (fun m=>Bool.rec (motive:=fun _=>Int) (IntKind.wrap .i64 (.ofNat m)) (.ofNat m) (Nat.ble m 9223372036854775807))
  (fun m=>Bool.rec (motive:=fun _=>Int) (IntKind.wrap .i64 (.negSucc m)) (.negSucc m) (Nat.ble m 9223372036854775807)) n
def wU(mx:Nat)(k:IntKind)(n:Int):Int:=
 Int.rec (motive:=fun _=>Int) (fun m=>Bool.rec (motive:=fun _=>Int) (IntKind.wrap k (.ofNat m)) (.ofNat m) (Nat.ble m mx)) (fun m=>IntKind.wrap k (.negSucc m)) n
def TU(k:IntKind):Int→Int:=
 IntKind.rec (motive:=fun _=>Int→Int) (IntKind.wrap .i8) (IntKind.wrap .i16) (IntKind.wrap .i32) w64 (wU 255 .u8) (wU 65535 .u16) (wU 4294967295 .u32) (wU 18446744073709551615 .u64) k
def mV(op:BinOp)(a b:ak)(k:ak→aC):aC:=ob (BJ op a b) (.err 6) fun v=>me v k
def RQ(f:Int→Int→Int)(op:BinOp)(a b:ak)(k:ak→aC):aC:=
 fq a (mV op a b k) fun z x=>fq b (mV op a b k) fun A y=>aD (Nat.beq (cG z) (cG A)) (lq (TU z (f x y)) fun r=>k (.int z r)) (.err 6)
def BK(f:Int→Int→Bool)(op:BinOp)(a b:ak)(k:ak→aC):aC:=
 fq a (mV op a b k) fun A x=>fq b (mV op a b k) fun z y=>aD (Nat.beq (cG A) (cG z)) (nG (f x y) fun r=>k (.bool r)) (.err 6)
def neI(x y:Int):Bool:=Bool.not (W6 x y)
def leI(x y:Int):Bool:=Bool.not (JM y x)
def gtI(x y:Int):Bool:=JM y x
def geI(x y:Int):Bool:=Bool.not (JM x y)
def Ez(op:BinOp):ak→ak→(ak→aC)→aC:=
 BinOp.rec (motive:=fun _=>ak→ak→(ak→aC)→aC) (RQ aip .add) (RQ aiq .sub) (mV .mul) (mV .quo) (mV .rem) (mV .and) (mV .or) (mV .xor) (mV .shl) (mV .shr) (mV .andNot)
  (BK W6 .eql) (BK neI .neq) (BK JM .lss) (BK leI .leq) (BK gtI .gtr) (BK geI .geq) op
def eI:ak→Bool
 |.agg _=>false|.tuple _=>false|.undef=>false|_=>true
def fN(agg:Bool)(l:List ak)(e:aC)(k:ak→aC):aC:=
 aD agg (k (.agg l)) (List.rec (motive:=fun _=>aC) e (fun v r _=>List.rec (motive:=fun _=>aC) (k v) (fun _ _ _=>e) r) l)
def aI.ev(x:aI)(E:Env):Option ak:=
 aI.casesOn (motive:=fun _=>Option ak) x (fun n=>E.get n) some
def bo(x:aI)(E:Env)(e:aC)(k:ak→aC):aC:=
 aI.casesOn (motive:=fun _=>aC) x (fun n=>ob (E.get n) e k) k
def jq(E:Env)(l:List aI):Option (List ak):=
 List.rec (motive:=fun _=>Option (List ak)) (some []) (fun x _ z=>ob (x.ev E) none fun v=>ob z none fun vs=>some (v::vs)) l
def er(E:Env)(x:Option aI)(z y:Nat)(e:aC)(k:Nat→aC):aC:=
 Option.rec (motive:=fun _=>aC) (k z) (fun x=>ob (x.ev E) e fun v=>fq v e fun _ i=>gR i e fun n=>aD (Nat.ble n y) (k n) e) x
def idx(v:ak)(n:Nat)(e:aC)(k:Nat→aC):aC:=
 fq v e fun _ i=>gR i e fun i=>aD (Nat.ble (Nat.succ i) n) (k i) e
def elems(H:ay)(f g es:Nat)(n:Nat):Nat→Option (List (List ak)):=
 Nat.rec (motive:=fun _=>Nat→Option (List (List ak))) (fun _=>some [])
  (fun _ z off=>rd H f g off es none fun l=>ob (z (Nat.add off es)) none fun r=>some (l::r)) n
def gb(l:List (List ak)):RT→Nat→RT:=
 List.rec (motive:=fun _=>RT→Nat→RT) (fun t _=>t) (fun x _ z t i=>z (t.set i x) (Nat.succ i)) l
def vm(l:List (List ak)):RT→Nat→(RT→aC)→aC:=
 List.rec (motive:=fun _=>RT→Nat→(RT→aC)→aC) (fun t _ c=>c t) (fun x _ z t i c=>t.fr i x fun t=>cL (Nat.succ i) fun i=>z t i c) l
theorem Ao:∀(l:List (List ak))(t:RT)(i:Nat)(c:RT→aC),vm l t i c=c (gb l t i)
 |[],_,_,_=>rfl
 |x::l,t,i,c=>by
  show(t.fr i x fun t=>cL (Nat.succ i) fun i=>vm l t i c)=c (gb l (t.set i x) (i+1));rw[RT.jc,fQ,Ao l]
def nR(x:List ak)(n:Nat):RT:=
 Nat.rec (motive:=fun _=>RT) .emp (fun m t=>t.set m x) n
def BL(x:List ak)(n:Nat):(RT→aC)→aC:=
 Nat.rec (motive:=fun _=>(RT→aC)→aC) (fun c=>c .emp) (fun m z c=>z fun t=>t.fr m x c) n
theorem KY(x:List ak):∀(n:Nat)(c:RT→aC),BL x n c=c (nR x n)
 |0,_=>rfl
 |n+1,c=>by
  show(BL x n fun t=>t.fr n x c)=c ((nR x n).set n x);rw[KY x n,RT.jc]
def oM(l:Nat):Nat→List (List ak):=
 Nat.rec (motive:=fun _=>Nat→List (List ak)) (fun _=>[]) (fun _ z v=>[ak.int .u8 (Int.ofNat (Nat.mod v 256))]::z (Nat.div v 256)) l
def pV(E:Env)(parts:List (Nat×Nat×aI)):List ak→Option (List ak):=
 List.rec (motive:=fun _=>List ak→Option (List ak)) some
  (fun p _ z cells=>ob (p.2.2.ev E) none fun v=>ob (iD v) none fun new=>aD (Nat.beq (gz new) p.2.1) (z (eE cells p.1 new)) none) parts
def rh(E:Env)(es z:Nat)(parts:List (Nat×aI)):RT→Option RT:=
 List.rec (motive:=fun _=>RT→Option RT) some
  (fun p _ A t=>ob (p.2.ev E) none fun v=>ob (iD v) none fun new=>aD (Nat.beq (gz new) es) (aD (Nat.ble (Nat.succ p.1) z) (A (t.set p.1 new)) none) none) parts
def AI(elem es aE n:Nat)(new:List (List ak))(H:ay):aC:=
 aD (Nat.ble (Nat.mul n aE) 70368744177664)
  (vm new .emp 0 fun cs=>H.alloc (.row elem es aE n n 0 cs) fun f H=>.ok (.slice f n 0 n es) H) (.err 35)
def QP(elem es aE n:Nat)(new:List (List ak))(H:ay)(f g off I cY:Nat):aC:=
 ay.casesOn (motive:=fun _=>aC) H fun next aQ ws t=>iT (t.get f) (.err 33) fun z A kT m lo fl cs=>
  aD (Nat.beq off 0) (aD (Nat.beq g m) (aD (Nat.ble lo g) (aD (Nat.beq I m) (aD (Nat.beq cY es) (aD (Nat.beq A es) (aD (Nat.beq fl 1) (.err 32)
   (aD (Nat.ble (Nat.mul (Nat.add m n) aE) 70368744177664) (aD (Nat.beq elem z)
    (cL (Nat.add m n) fun G=>vm new cs m fun cs=>t.fr f (.row z A kT G lo fl cs) fun t=>
     .ok (.slice f G 0 G es) ⟨next,aQ,wrote f aQ ws,t⟩) (.err 32)) (.err 32))) (.err 32)) (.err 32)) (.err 32)) (.err 32)) (.err 32)) (.err 32)
def RR(es n:Nat)(new:List (List ak))(H:ay)(f g off z cY:Nat):aC:=
 aD (Nat.beq n 1) (aD (Nat.beq off 0) (aD (Nat.beq cY es) (aD (Nat.ble (Nat.succ z) g)
  (List.rec (motive:=fun _=>aC) (.err 32) (fun row _ _=>wr H f g (Nat.mul z es) es row (.err 32) fun H=>.ok (.slice f g 0 (Nat.succ z) es) H) new)
  (.err 32)) (.err 32)) (.err 32)) (.err 32)
def AJ(elem es aE n:Nat)(new:List (List ak))(H:ay)(f g off z cY:Nat):aC:=
 aD (Nat.beq z g) (QP elem es aE n new H f g off z cY) (RR es n new H f g off z cY)
def iJ(elem es aE n:Nat)(new:List (List ak))(H:ay)(x:ak):aC:=
 Nat.rec (motive:=fun _=>aC) (eT x (.err 31) (.ok x H) fun _ _ _ _ _=>.ok x H)
  (fun n _=>eT x (.err 34) (AI elem es aE (Nat.succ n) new H) (AJ elem es aE (Nat.succ n) new H)) n
def kU(x:aI)(E:Env)(H:ay):aC:=bo x E (.err 1) fun v=>.ok v H
def HH(c a b:aI)(E:Env)(H:ay):aC:=bo c E (.err 2) fun v=>uT v (.err 2) fun t=>aD t (kU a E H) (kU b E H)
def Bf(elem es aE:Nat)(cells:List ak)(_:Env)(H:ay):aC:=
 H.alloc (.row elem es aE 1 1 0 (.one cells)) fun f H=>.ok (.ptr f 1 0) H
def IS(elem es aE:Nat)(x:aI)(E:Env)(H:ay):aC:=
 bo x E (.err 3) fun v=>ob (iD v) (.err 3) fun l=>aD (Nat.beq (gz l) es) (Bf elem es aE l E H) (.err 3)
def HI(n:Nat)(agg:Bool)(a:aI)(E:Env)(H:ay):aC:=
 bo a E (.err 4) fun v=>gw v (.err 4) fun f g off=>rd H f g off n (.err 4) fun l=>fN agg l (.err 4) fun v=>.ok v H
def GD(n:Nat)(a x:aI)(E:Env)(H:ay):aC:=
 bo a E (.err 5) fun p=>gw p (.err 5) fun f g off=>bo x E (.err 5) fun v=>ob (iD v) (.err 5) fun l=>wr H f g off n l (.err 5) fun H=>.ok .undef H
def IT(op:BinOp)(x y:aI)(E:Env)(H:ay):aC:=
 bo x E (.err 6) fun a=>bo y E (.err 6) fun b=>Ez op a b fun v=>.ok v H
def E5(c:E4)(neg:Bool)(x y:aI)(E:Env)(H:ay):aC:=
 bo x E (.err 7) fun a=>bo y E (.err 7) fun b=>ob (ox c a b) (.err 7) fun r=>nG (Bool.xor neg r) fun r=>.ok (.bool r) H
def JN(op:UnOp)(x:aI)(E:Env)(H:ay):aC:=bo x E (.err 8) fun a=>ob (OU op a) (.err 8) fun v=>me v fun v=>.ok v H
def HJ(x:aI)(k:Nat)(E:Env)(H:ay):aC:=
 bo x E (.err 9) fun v=>gw v (.err 9) fun f g off=>cL (Nat.add off k) fun off=>.ok (.ptr f g off) H
def IU(x:aI)(off n:Nat)(agg:Bool)(E:Env)(H:ay):aC:=
 bo x E (.err 10) fun v=>mh v (.err 10) fun cs=>aD (Nat.ble (Nat.add off n) (gz cs)) (fN agg ((cs.drop off).take n) (.err 10) fun v=>.ok v H) (.err 10)
def F9(z es:Nat)(x i:aI)(E:Env)(H:ay):aC:=
 bo x E (.err 11) fun v=>gw v (.err 11) fun f g off=>bo i E (.err 11) fun A=>idx A z (.err 11) fun j=>cL (Nat.add off (Nat.mul j es)) fun off=>.ok (.ptr f g off) H
def GF(es:Nat)(x i:aI)(E:Env)(H:ay):aC:=
 bo x E (.err 12) fun v=>eT v (.err 12) (.err 12) fun f g off z _=>bo i E (.err 12) fun A=>idx A z (.err 12) fun j=>cL (Nat.add off (Nat.mul j es)) fun off=>.ok (.ptr f g off) H
def F'(z es:Nat)(agg:Bool)(x i:aI)(E:Env)(H:ay):aC:=
 bo x E (.err 13) fun v=>mh v (.err 13) fun cs=>bo i E (.err 13) fun A=>idx A z (.err 13) fun j=>
  aD (Nat.ble (Nat.add (Nat.mul j es) es) (gz cs)) (fN agg ((cs.drop (Nat.mul j es)).take es) (.err 13) fun v=>.ok v H) (.err 13)
def Ga(x i:aI)(E:Env)(H:ay):aC:=
 bo x E (.err 14) fun v=>jQ v (.err 14) fun l s=>bo i E (.err 14) fun z=>idx z l (.err 14) fun j=>cL (AH s j) fun b=>.ok (.int .u8 (.ofNat b)) H
def GG(x:aI)(lo hi:Option aI)(E:Env)(H:ay):aC:=
 bo x E (.err 15) fun v=>jQ v (.err 15) fun l s=>er E hi l l (.err 15) fun h=>er E lo 0 h (.err 15) fun lo=>
  cL (Nat.sub h lo) fun n=>cL (RO s lo h) fun s=>.ok (.str n s) H
def yS(g off es z:Nat):Nat:=(fun c=>Bool.rec (motive:=fun _=>Nat) z c (Nat.ble z c)) (Nat.sub (Nat.div (Nat.mul g es) es) (Nat.div off es))
theorem QQ{g off es z:Nat}:z≤yS g off es z:=by
 unfold yS;show z≤Bool.rec (motive:=fun _=>Nat) z _ (Nat.ble z _)
 cases h:Nat.ble z (Nat.sub (Nat.div (Nat.mul g es) es) (Nat.div off es)) with
 |false=>exact bt _
 |true=>exact aV h
theorem aa3{g off es A cap:Nat}(G:A≤cap)(h2:g*es≤off+cap*es):yS g off es A≤cap:=by
 unfold yS;show Bool.rec (motive:=fun _=>Nat) A _ (Nat.ble A _)≤cap
 cases h:Nat.ble A (Nat.sub (Nat.div (Nat.mul g es) es) (Nat.div off es)) with
 |false=>exact G
 |true=>
  show g*es/es-off/es≤cap
  by_cases z:es=0
  ·subst z;simp
  have z:0<es:=Nat.pos_of_ne_zero z;rw[Nat.mul_div_cancel _ z];have I:g≤(off+cap*es)/es:=(Nat.le_div_iff_mul_le z).2 h2;rw[Nat.add_mul_div_right _ _ z] at I;omega
def HK(es:Nat)(x:aI)(lo hi:Option aI)(E:Env)(H:ay):aC:=
 bo x E (.err 16) fun v=>eT v (.err 16) (er E hi 0 0 (.err 16) fun h=>er E lo 0 h (.err 16) fun _=>.ok .fL H)
  fun f g off z cY=>aD (Nat.beq es cY) (er E hi z (yS g off es z) (.err 16) fun h=>er E lo 0 h (.err 16) fun lo=>
   cL (Nat.add off (Nat.mul lo es)) fun off=>cL (Nat.sub h lo) fun n=>.ok (.slice f g off n cY) H) (.err 16)
def IV(es:Nat)(x:aI)(lo:Option aI)(hi mx:aI)(E:Env)(H:ay):aC:=
 bo x E (.err 17) fun v=>eT v (.err 17) (.err 17)
  fun f g off z cY=>aD (Nat.beq es cY) (er E (some mx) 0 z (.err 17) fun m=>aD (Nat.ble (Nat.mul g es) (Nat.add off (Nat.mul m es))) (er E (some hi) 0 m (.err 17) fun h=>er E lo 0 h (.err 17) fun lo=>
   cL (Nat.add off (Nat.mul lo es)) fun off=>cL (Nat.sub h lo) fun n=>.ok (.slice f g off n cY) H) (.err 17)) (.err 17)
def HL(x:aI)(i:Nat)(E:Env)(H:ay):aC:=bo x E (.err 18) fun v=>uJ v (.err 18) fun vs=>ob (vs[i]?) (.err 18) fun v=>.ok v H
def C2:ak→Bool
 |.ptr _ _ _=>true|.func _ _ _=>true|_=>false
def GH(x:aI)(E:Env)(H:ay):aC:=bo x E (.err 19) fun v=>aD (C2 v) (.ok v H) (.err 19)
def HM(f:Nat)(first eG:List aI)(E:Env)(H:ay):aC:=ob (jq E first) (.err 20) fun fs=>ob (jq E eG) (.err 20) fun vs=>.ok (.func f fs vs) H
def HN(t:Nat)(x:aI)(E:Env)(H:ay):aC:=bo x E (.err 21) fun v=>.ok (.iface t v) H
def HO(elem es aE:Nat)(zero:List ak)(z A:aI)(E:Env)(H:ay):aC:=
 bo z E (.err 22) fun a=>fq a (.err 22) fun _ a=>gR a (.err 22) fun l=>bo A E (.err 22) fun b=>fq b (.err 22) fun _ b=>gR b (.err 22) fun c=>
  aD (Nat.ble l c) (aD (Nat.ble (Nat.mul c aE) 70368744177664) (aD (Nat.ble c 4611686018427387904)
   (BL zero l fun cs=>H.alloc (.row elem es aE l l 0 cs) fun f H=>.ok (.slice f l 0 l es) H) (.err 22)) (.err 22)) (.err 22)
def LG(zero:List ak)(parts:List (Nat×Nat×aI))(E:Env)(H:ay):aC:=ob (pV E parts zero) (.err 23) fun cs=>.ok (.agg cs) H
def KM(elem es aE z:Nat)(zero:List ak)(parts:List (Nat×aI))(E:Env)(H:ay):aC:=
 ob (rh E es z parts (nR zero z)) (.err 24) fun t=>H.alloc (.row elem es aE z z 0 t) fun f H=>.ok (.slice f z 0 z es) H
def IW(x:aI)(E:Env)(H:ay):aC:=bo x E (.err 25) fun v=>eT v (.err 25) (.ok (.int .i64 (.ofNat 0)) H) fun _ _ _ l _=>.ok (.int .i64 (.ofNat l)) H
def HP(x:aI)(E:Env)(H:ay):aC:=bo x E (.err 25) fun v=>jQ v (.err 25) fun l _=>.ok (.int .i64 (.ofNat l)) H
def afP(n:Nat)(_:Env)(H:ay):aC:=.ok (.int .i64 (.ofNat n)) H
def IX(elem es aE:Nat)(x y:aI)(E:Env)(H:ay):aC:=
 bo x E (.err 26) fun a=>bo y E (.err 26) fun b=>eT b (.err 26) (iJ elem es aE 0 [] H a) fun f g off n _=>
  ob (elems H f g es n off) (.err 26) fun l=>iJ elem es aE n l H a
def Gb(elem:Nat)(x y:aI)(E:Env)(H:ay):aC:=
 bo x E (.err 27) fun a=>bo y E (.err 27) fun b=>jQ b (.err 27) fun l v=>iJ elem 1 1 l (oM l v) H a
def BM(f g es:Nat)(z:List ak)(n:Nat):Nat→ay→aC:=
 Nat.rec (motive:=fun _=>Nat→ay→aC) (fun _ H=>.ok (.tuple []) H) (fun _ A off H=>wr H f g off es z (.err 28) fun H=>cL (Nat.add off es) fun off=>A off H) n
def HQ(es:Nat)(x y:aI)(E:Env)(H:ay):aC:=
 bo x E (.err 28) fun v=>eT v (.err 28) (.ok (.tuple []) H) fun f g off A cY=>bo y E (.err 28) fun z=>mh z (.err 28) fun z=>aD (Nat.beq cY es) (aD (Nat.ble 1 es) (BM f g es z A off H) (.err 28)) (.err 28)
def E6(mx:Bool)(k:IntKind)(l:List ak):Int→Option ak:=
 List.rec (motive:=fun _=>Int→Option ak) (fun a=>some (.int k a))
  (fun v _ z a=>adh v none fun _ b=>lq (aD (aD mx (fA a b) (fA b a)) b a) z) l
def Gc(mx:Bool)(x:aI)(ys:List aI)(E:Env)(H:ay):aC:=
 bo x E (.err 29) fun a=>fq a (.err 29) fun k a=>ob (jq E ys) (.err 29) fun vs=>ob (E6 mx k vs a) (.err 29) fun v=>.ok v H
def HR(k:IntKind)(x:aI)(E:Env)(H:ay):aC:=bo x E (.err 36) fun v=>fq v (.err 36) fun _ n=>lq (lA k n) fun n=>.ok (.int k n) H
def Gd(elem:Nat)(x:aI)(E:Env)(H:ay):aC:=
 bo x E (.err 38) fun v=>jQ v (.err 38) fun l s=>aD (Nat.ble l 70368744177664)
  (vm (oM l s) .emp 0 fun cs=>H.alloc (.row elem 1 1 l l 3 cs) fun f H=>.ok (.slice f l 0 l 1) H) (.err 38)
def xh(l:List (List ak)):Option Nat:=
 List.rec (motive:=fun _=>Option Nat) (some 0) (fun c _ z=>List.rec (motive:=fun _=>Option Nat) none (fun v r _=>List.rec (motive:=fun _=>Option Nat)
  (adg v none fun k i=>aD (Nat.beq (cG k) 4) (gR i none fun b=>aD (Nat.ble b 255) (ob z none fun v=>some (Nat.add b (Nat.mul 256 v))) none) none) (fun _ _ _=>none) r) c) l
def Ge(x:aI)(E:Env)(H:ay):aC:=
 bo x E (.err 39) fun v=>eT v (.err 39) (.ok (.str 0 0) H) fun f g off n _=>
  ob (elems H f g 1 n off) (.err 39) fun l=>ob (xh l) (.err 39) fun s=>cL s fun s=>.ok (.str n s) H
def LH:ak→Bool
 |.kj=>true|_=>false
def GI(t n:Nat)(x:aI)(E:Env)(H:ay):aC:=
 bo x E (.err 44) fun v=>aD (LH v) (.ok v H) (gw v (.err 44) fun f g off=>iT (H.t.get f) (.err 44) fun elem es _ m lo fl _=>
  aD (Nat.beq elem t) (aD (Nat.beq es n) (aD (Nat.beq off 0) (aD (Nat.ble lo g) (aD (Nat.ble g m) (aD (Nat.ble 1 g) (aD (Nat.beq fl 0) (.ok v H) (.err 44)) (.err 44)) (.err 44)) (.err 44)) (.err 44)) (.err 44)) (.err 44))
def IY(x:aI)(E:Env)(H:ay):aC:=
 bo x E (.err 45) fun v=>eT v (.err 45) (.ok .kj H) fun f g off l _=>aD (Nat.beq l 0) (.err 45) (.ok (.ptr f g off) H)
def jZ(f e:Nat)(H:ay)(k:ay→aC):aC:=
 ay.casesOn (motive:=fun _=>aC) H fun next aQ ws t=>iT (t.get f) (.err 46) fun elem es aE m lo fl cs=>
  aD (Nat.beq elem e) (aD (Nat.beq es 1) (aD (aD (Nat.beq fl 0) true (Nat.beq fl 2)) (t.fr f (.row elem es aE m lo 2 cs) fun t=>k ⟨next,aQ,wrote f aQ ws,t⟩) (.err 46)) (.err 46)) (.err 46)
def HS(e:Nat)(x n:aI)(E:Env)(H:ay):aC:=
 bo x E (.err 46) fun p=>aD (LH p) (bo n E (.err 46) fun nv=>fq nv (.err 46) fun k i=>gR i (.err 46) fun l=>aD (Nat.beq (cG k) 3) (aD (Nat.beq l 0) (.ok (.str 0 0) H) (.err 46)) (.err 46))
  (gw p (.err 46) fun f g off=>bo n E (.err 46) fun nv=>fq nv (.err 46) fun k i=>gR i (.err 46) fun l=>
  aD (Nat.beq off 0) (aD (Nat.beq (cG k) 3) (aD (Nat.ble 1 l) (aD (Nat.ble l 70368744177664) (ob (elems H f g 1 l 0) (.err 46) fun L=>ob (xh L) (.err 46) fun s=>cL s fun s=>jZ f e H fun H=>.ok (.str l s) H) (.err 46)) (.err 46)) (.err 46)) (.err 46))
abbrev dG:=Nat→List ak→ay→aC
def HU(f:Nat)(args:List aI)(call:dG)(E:Env)(H:ay):aC:=ob (jq E args) (.err 42) fun vs=>call f vs H
def GJ(x:aI)(args:List aI)(call:dG)(E:Env)(H:ay):aC:=
 bo x E (.err 43) fun v=>AG v (.err 43) fun f fs eG=>ob (jq E args) (.err 43) fun vs=>call f (fs++(vs++eG)) H
def bm.ev(o:bm):dG→Env→ay→aC:=
 bm.rec (motive:=fun _=>dG→Env→ay→aC)
  (fun x _=>kU x) (fun c a b _=>HH c a b) (fun a b c d _=>Bf a b c d) (fun a b c d _=>IS a b c d) (fun a b c _=>HI a b c) (fun a b c _=>GD a b c)
  (fun a b c _=>IT a b c) (fun a b c d _=>E5 a b c d) (fun a b _=>JN a b) (fun a b _=>HJ a b) (fun a b c d _=>IU a b c d) (fun a b c d _=>F9 a b c d)
  (fun a b c _=>GF a b c) (fun a b c d e _=>F' a b c d e) (fun a b _=>Ga a b) (fun a b c _=>GG a b c) (fun a b c d _=>HK a b c d) (fun a b c d e _=>IV a b c d e)
  (fun a b _=>HL a b) (fun a _=>GH a) (fun a b c _=>HM a b c) (fun a b _=>HN a b) (fun a b c d e f _=>HO a b c d e f) (fun a b _=>LG a b)
  (fun a b c d e f _=>KM a b c d e f) (fun a _=>IW a) (fun a _=>afP a) (fun a _=>HP a) (fun a b c d e _=>IX a b c d e) (fun a b c _=>Gb a b c) (fun a b c _=>HQ a b c)
  (fun a b c _=>Gc a b c) (fun a b _=>HR a b) (fun a _=>kU a) (fun a b _=>Gd a b) (fun a _=>Ge a) (fun f args=>HU f args) (fun x args=>GJ x args) (fun a b c _=>GI a b c) (fun a _=>IY a) (fun a b c _=>HS a b c) o
def fin(dst:Option Key)(E:Env)(k:Env→ay→dD)(r:aC):dD:=
 aC.rec (motive:=fun _=>dD) (fun v H=>Option.rec (motive:=fun _=>dD) (k E H) (fun d=>E.Ey d v fun E=>k E H) dst) .err r
def bl.run(call:dG)(o:bl)(E:Env)(H:ay)(k:Env→ay→dD):dD:=fin o.dst E k (o.op.ev call E H)
def ib(dst:Option Key)(E:Env)(H:ay)(k:Env→ay→dD):dD:=
 Option.rec (motive:=fun _=>dD) (k E H) (fun d=>E.Ey d .undef fun E=>k E H) dst
def bl.step(call:dG)(o:bl)(E:Env)(H:ay)(k:Env→ay→dD):dD:=
 Option.rec (motive:=fun _=>dD) (o.run call E H k)
  (fun g=>ob (E.get g.1) (.err 51) fun v=>yR v (ib o.dst E H k) fun b=>aD (Bool.xor b g.2) (ib o.dst E H k) (o.run call E H k)) o.g
def mi(call:dG)(l:List bl):Env→ay→dD:=
 List.rec (motive:=fun _=>Env→ay→dD) dD.ok (fun o _ z E H=>o.step call E H z) l
structure FP where
 rd:Option (List Nat)
 ws:List Nat
 lo:Nat
 hi:Nat
def fS:Option ak→List Nat
 |some (.ptr f _ _)=>[f]
 |some (.slice f _ _ _ _)=>[f]
 |_=>[]
def bm.reads(E:Env):bm→Option (List Nat)
 |.load _ _ a=>some (fS (a.ev E))
 |.app _ _ _ x y=>some (fS (x.ev E)++fS (y.ev E))
 |.xn _ x _=>some (fS (x.ev E))
 |.xp x=>some (fS (x.ev E))
 |.store _ a _=>some (fS (a.ev E))
 |.xS _ _ x=>some (fS (x.ev E))
 |.yQ _ x _=>some (fS (x.ev E))
 |.call _ _=>none
 |.xR _ _=>none
 |.copy _ _ _=>none
 |_=>some []
def DP(l m:List Nat):Bool:=
 List.rec (motive:=fun _=>Bool) true (fun x _ z=>aD (qy x m) false z) l
def yT(l:List Nat)(lo hi:Nat):Bool:=
 List.rec (motive:=fun _=>Bool) true (fun x _ z=>aD (Nat.ble lo x) (aD (Nat.ble hi x) z false) z) l
def HV(l:List Nat)(r:Option (List Nat)):Bool:=
 List.rec (motive:=fun _=>Bool) true (fun _ _ _=>Option.rec (motive:=fun _=>Bool) false (fun r=>DP l r) r) l
def mQ(a b:FP):Bool:=
 aD (HV a.ws b.rd) (aD (HV b.ws a.rd) (aD (DP a.ws b.ws) (yT a.ws b.lo b.hi) false) false) false
def ma(a:FP)(bb:List FP)(l:List Nat):Bool:=
 List.rec (motive:=fun _=>Bool) true (fun i _ z=>ob (bb[i]?) false fun b=>aD (mQ a b) z false) l
def oK(aQ:Nat)(ws new:List Nat):List Nat:=
 List.rec (motive:=fun _=>List Nat) ws (fun f _ z=>wrote f aQ z) new
def EA(rs:Option (List Nat))(l:List Nat)(next aQ:Nat)(ws:List Nat)(bb:List FP)(dst:Option Key)(E:Env)(k:Env→ay→List FP→dD)(r:aC):dD:=
 aC.rec (motive:=fun _=>dD) (fun v H'=>ay.casesOn (motive:=fun _=>dD) H' fun next' _ z t'=>
  aD (ma ⟨rs,z,next,next'⟩ bb l)
   (Option.rec (motive:=fun _=>dD) (k E ⟨next',aQ,oK aQ ws z,t'⟩ (⟨rs,z,next,next'⟩::bb))
    (fun d=>E.Ey d v fun E=>k E ⟨next',aQ,oK aQ ws z,t'⟩ (⟨rs,z,next,next'⟩::bb)) dst) (.err 50)) .err r
def bl.runQ(call:dG)(o:bl)(l:List Nat)(E:Env)(H:ay)(bb:List FP)(k:Env→ay→List FP→dD):dD:=
 ay.casesOn (motive:=fun _=>dD) H fun next aQ ws t=>cL next fun next=>EA (o.op.reads E) l next aQ ws bb o.dst E k (o.op.ev call E ⟨next,next,[],t⟩)
def bl.pc(call:dG)(o:bl)(E:Env)(H:ay)(bb:List FP)(k:Env→ay→List FP→dD):dD:=
 Option.rec (motive:=fun _=>dD) (o.run call E H fun E H=>k E H bb) (fun l=>o.runQ call l E H bb k) o.q
def nT(q:Option (List Nat))(bb:List FP):List FP:=Option.rec (motive:=fun _=>List FP) bb (fun _=>⟨some [],[],0,0⟩::bb) q
def bl.ji(call:dG)(o:bl)(E:Env)(H:ay)(bb:List FP)(k:Env→ay→List FP→dD):dD:=
 Option.rec (motive:=fun _=>dD) (o.pc call E H bb k)
  (fun g=>ob (E.get g.1) (.err 51) fun v=>yR v (ib o.dst E H fun E H=>k E H (nT o.q bb)) fun b=>aD (Bool.xor b g.2) (ib o.dst E H fun E H=>k E H (nT o.q bb)) (o.pc call E H bb k)) o.g
def iE(call:dG)(l:List bl):Env→ay→List FP→dD:=
 List.rec (motive:=fun _=>Env→ay→List FP→dD) (fun E H _=>.ok E H) (fun o _ z E H bb=>o.ji call E H bb z) l
def xb(r:Out)(k:Env→ay→Out):Out:=
 Out.rec (motive:=fun _=>Out) (fun x E H=>Ex.rec (motive:=fun _=>Out) (k E H) (fun id=>.ok (.exit id) E H) (.ok .ret E H) x) .err r
def xT(f:Env→ay→Out)(n:Nat):Env→ay→Out:=
 Nat.rec (motive:=fun _=>Env→ay→Out) (fun _ _=>.err 60) (fun _ z E H=>xb (f E H) z) n
def E7(r:dD):Out:=dD.rec (motive:=fun _=>Out) (fun E H=>.ok .normal E H) .err r
def cSkip(E:Env)(H:ay):Out:=.ok .normal E H
def cRegion(call:dG)(draw:Bool)(ops:List bl):Env→ay→Out:=
 aD draw (fun E H=>E7 (iE call ops E H [])) (fun E H=>E7 (mi call ops E H))
def cSeq(_ _:IC)(a b:Env→ay→Out)(E:Env)(H:ay):Out:=xb (a E H) b
def TV(c:aI)(_ _:IC)(a b:Env→ay→Out)(E:Env)(H:ay):Out:=
 ob (c.ev E) (.err 61) fun v=>aa2 v (.err 61) fun t=>aD t (a E H) (b E H)
def GK(id:Nat)(_:IC)(b:Env→ay→Out)(E:Env)(H:ay):Out:=
 Out.rec (motive:=fun _=>Out) (fun x E H=>Ex.rec (motive:=fun _=>Out) (.ok .normal E H) (fun z=>aD (Nat.beq z id) (.ok .normal E H) (.ok (.exit z) E H)) (.ok .ret E H) x) .err (b E H)
def cLoop(lf:Nat)(_:IC)(b:Env→ay→Out):Env→ay→Out:=xT b lf
def cExit(id:Nat)(E:Env)(H:ay):Out:=.ok (.exit id) E H
def cRet(E:Env)(H:ay):Out:=.ok .ret E H
def IC.ev(call:dG)(lf:Nat)(c:IC):Env→ay→Out:=
 IC.rec (motive:=fun _=>Env→ay→Out) cSkip (cRegion call) cSeq TV GK (cLoop lf) cExit cRet c
def params(ks:List Key):List ak→Env→(Env→aC)→aC:=
 List.rec (motive:=fun _=>List ak→Env→(Env→aC)→aC) (fun l E c=>List.rec (motive:=fun _=>aC) (c E) (fun _ _ _=>.err 71) l)
  (fun k _ z l E c=>List.rec (motive:=fun _=>aC) (.err 71) (fun v r _=>E.fr k v fun E=>z r E c) l) ks
def EB(E:Env)(H:ay)(r:jT)(e:aC)(k:ak→aC):aC:=
 jT.casesOn (motive:=fun _=>aC) r (fun t=>ob (E.get t) e k)
  (fun a n agg=>ob (E.get a) e fun v=>gw v e fun f g off=>rd H f g off n e fun l=>fN agg l e k)
def xU(E:Env)(H:ay)(l:List jT)(e:aC):(List ak→aC)→aC:=
 List.rec (motive:=fun _=>(List ak→aC)→aC) (fun k=>k []) (fun r _ z k=>EB E H r e fun v=>z fun vs=>k (v::vs)) l
def results(E:Env)(H:ay)(rs:List jT):aC:=
 xU E H rs (.err 70) fun vs=>List.rec (motive:=fun _=>aC) (.ok (.tuple []) H) (fun v r _=>List.rec (motive:=fun _=>aC) (.ok v H) (fun _ _ _=>.ok (.tuple (v::r)) H) r) vs
def vK(call:dG)(lf:Nat)(fn:aR)(args:List ak)(H:ay):aC:=
 params fn.ps args .emp fun E=>Out.rec (motive:=fun _=>aC) (fun x E H=>Ex.rec (motive:=fun _=>aC) (results E H fn.res) (fun _=>.err 72) (results E H fn.res) x) .err (fn.body.ev call lf E H)
def TW(args:List ak)(H:ay):aC:=
 List.rec (motive:=fun _=>aC) (.err 91) (fun x r _=>List.rec (motive:=fun _=>aC) (.ok x H) (fun _ _ _=>.err 91) r) args
def TX(args:List ak)(H:ay):aC:=
 List.rec (motive:=fun _=>aC) (.ok (.bool true) H) (fun _ _ _=>.err 92) args
def vL:Nat→Nat→List UInt8
 |0,_=>[]
 |l+1,s=>UInt8.ofNat (s % 256)::vL l (s/256)
def tR(c:Nat)(args:List ak)(H:ay):aC:=
 Nat.rec (motive:=fun _=>aC) (.err 90) (fun c _=>Nat.rec (motive:=fun _=>aC) (TW args H) (fun _ _=>TX args H) c) c
abbrev ZT:=Tr (List ak→ay→aC)
def sa(ft:Tr aR)(xt:Tr Nat)(zt:ZT)(lf:Nat)(n:Nat):dG:=
 Nat.rec (motive:=fun _=>dG) (fun _ _ _=>.err 80) (fun _ z f args H=>ob (ft.get f) (ob (xt.get f) (ob (zt.get f) (.err (Nat.add 10000 f)) fun F=>F args H) fun c=>tR c args H) fun fn=>vK z lf fn args H) n
end Go.Ev
