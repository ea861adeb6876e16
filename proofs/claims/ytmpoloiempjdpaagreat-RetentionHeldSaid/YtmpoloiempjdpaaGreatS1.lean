/- Part 1 of rules for walks through the code of a program, and of such walks; what each part proves is said by its theorems. -/
import Derived.Test.YtmpoloiempjdpaaGreatS0
import Derived.Lib.ParseIntB
set_option linter.unusedVariables false
set_option linter.unusedSimpArgs false
noncomputable section
set_option maxRecDepth 100000
set_option maxHeartbeats 4000000
namespace Go.Ev
theorem aa{α:Sort _}{a:α}:a=a:=rfl
inductive ai where
 |bool (b:Bool)
 |int (k:IntKind) (n:Int)
 |str (l v:Nat)
 |ptr (f g off:Nat)
 |mT
 |slice (f g off len es:Nat)
 |fV
 |agg (cs:List ai)
 |tuple (vs:List ai)
 |func (f:Nat) (first dY:List ai)
 |nF
 |iface (t:Nat) (v:ai)
 |kJ
 |map (f:Nat)
 |vl
 |undef
inductive D6 where
 |d0|d1|d2|d3|d4|d5
def D6.n:D6→Nat
 |.d0=>0|.d1=>1|.d2=>2|.d3=>3|.d4=>4|.d5=>5
def IU:Nat→D6
 |0=>.d0|1=>.d1|2=>.d2|3=>.d3|4=>.d4|_=>.d5
def wN(n:Nat):D6:=
 Nat.rec (motive:=fun _=>D6) .d0 (fun n _=>Nat.rec (motive:=fun _=>D6) .d1 (fun n _=>Nat.rec (motive:=fun _=>D6) .d2 (fun n _=>Nat.rec (motive:=fun _=>D6) .d3 (fun n _=>Nat.rec (motive:=fun _=>D6) .d4 (fun _ _=>.d5) n) n) n) n) n
inductive Key where
 |mk (i j k l:D6)
def Key.n:Key→Nat
 |.mk i j k l=>i.n+6*j.n+36*k.n+216*l.n
def pk(n:Nat):Key:=.mk (IU (n % 6)) (IU (n/6 % 6)) (IU (n/36 % 6)) (IU (n/216 % 6))
theorem D6.lt(d:D6):d.n<6:=by cases d<;>decide
theorem D6.inj{a b:D6}(h:a.n=b.n):a=b:=by cases a<;>cases b<;>first|rfl|(simp[D6.n] at h)
instance:DecidableEq D6:=fun a b=>if h:a.n=b.n then .isTrue (D6.inj h) else .isFalse fun e=>h (by rw[e])
theorem LH{m:Nat}(h:m<6):(IU m).n=m:=by
 match m,h with
 |0,_=>rfl
 |1,_=>rfl
 |2,_=>rfl
 |3,_=>rfl
 |4,_=>rfl
 |5,_=>rfl
theorem ME{m:Nat}(h:m<6):(wN m).n=m:=by
 match m,h with
 |0,_=>rfl
 |1,_=>rfl
 |2,_=>rfl
 |3,_=>rfl
 |4,_=>rfl
 |5,_=>rfl
theorem Key.inj{a b:Key}(h:a.n=b.n):a=b:=by
 cases a with
 |mk i j k l=>cases b with
  |mk z A G I=>
   simp only[Key.n] at h;have Y:=i.lt;have h2:=j.lt;have Z:=k.lt;have h7:=l.lt;have h4:=z.lt;have h5:=A.lt;have h6:=G.lt;have h8:=I.lt;have L:i=z:=D6.inj an;have M:j=A:=D6.inj an;have O:k=G:=D6.inj an;have U:l=I:=D6.inj an;rw[L,M,O,U]
instance:DecidableEq Key:=fun a b=>if h:a.n=b.n then .isTrue (Key.inj h) else .isFalse fun e=>h (by rw[e])
theorem Bw{n:Nat}(h:n<1296):(pk n).n=n:=by
 simp only[pk,Key.n];rw[LH an,LH an,LH an,LH an];omega
section
variable{α β:Type}
inductive S6(α:Type) where
 |mk (x0 x1 x2 x3 x4 x5:α)
def S6.get(d:D6)(t:S6 α):α:=
 S6.rec (motive:=fun _=>α) (fun x0 x1 x2 x3 x4 x5=>D6.rec (motive:=fun _=>α) x0 x1 x2 x3 x4 x5 d) t
def S6.u0(f:α→(α→β)→β)(t:S6 α)(c:S6 α→β):β:=S6.rec (motive:=fun _=>β) (fun x0 x1 x2 x3 x4 x5=>f x0 fun y=>c (.mk y x1 x2 x3 x4 x5)) t
def S6.u1(f:α→(α→β)→β)(t:S6 α)(c:S6 α→β):β:=S6.rec (motive:=fun _=>β) (fun x0 x1 x2 x3 x4 x5=>f x1 fun y=>c (.mk x0 y x2 x3 x4 x5)) t
def S6.u2(f:α→(α→β)→β)(t:S6 α)(c:S6 α→β):β:=S6.rec (motive:=fun _=>β) (fun x0 x1 x2 x3 x4 x5=>f x2 fun y=>c (.mk x0 x1 y x3 x4 x5)) t
def S6.u3(f:α→(α→β)→β)(t:S6 α)(c:S6 α→β):β:=S6.rec (motive:=fun _=>β) (fun x0 x1 x2 x3 x4 x5=>f x3 fun y=>c (.mk x0 x1 x2 y x4 x5)) t
def S6.u4(f:α→(α→β)→β)(t:S6 α)(c:S6 α→β):β:=S6.rec (motive:=fun _=>β) (fun x0 x1 x2 x3 x4 x5=>f x4 fun y=>c (.mk x0 x1 x2 x3 y x5)) t
def S6.u5(f:α→(α→β)→β)(t:S6 α)(c:S6 α→β):β:=S6.rec (motive:=fun _=>β) (fun x0 x1 x2 x3 x4 x5=>f x5 fun y=>c (.mk x0 x1 x2 x3 x4 y)) t
def S6.ep(d:D6):(α→(α→β)→β)→S6 α→(S6 α→β)→β:=
 D6.rec (motive:=fun _=>(α→(α→β)→β)→S6 α→(S6 α→β)→β) S6.u0 S6.u1 S6.u2 S6.u3 S6.u4 S6.u5 d
def S6.mod(d:D6)(g:α→α)(t:S6 α):S6 α:=S6.ep d (fun x c=>c (g x)) t fun y=>y
theorem S6.K2(d z:D6)(g:α→α)(t:S6 α):S6.get z (S6.mod d g t)=if z=d then g (S6.get d t) else S6.get z t:=by
 cases t;cases d<;>cases z<;>rfl
theorem S6.LI(d:D6)(g:α→α)(f:α→(α→β)→β)(z:∀x c,f x c=c (g x))(t:S6 α)(c:S6 α→β):S6.ep d f t c=c (S6.mod d g t):=by
 cases t;cases d<;>exact z _ _
def S6.all(x:α):S6 α:=.mk x x x x x x
theorem S6.K3(d:D6)(x:α):S6.get d (S6.all x)=x:=by cases d<;>rfl
def T4(α:Type):Type:=S6 (S6 (S6 (S6 (Option α))))
def T4.get(E:T4 α)(key:Key):Option α:=Key.rec (motive:=fun _=>T4 α→Option α) (fun i j k l E=>S6.get l (S6.get k (S6.get j (S6.get i E)))) key E
def T4.fH(E:T4 α)(key:Key)(v:α)(c:T4 α→β):β:=Key.rec (motive:=fun _=>β) (fun i j k l=>S6.ep i (S6.ep j (S6.ep k (S6.ep l fun _ c=>c (some v)))) E c) key
def T4.set(E:T4 α)(key:Key)(v:α):T4 α:=E.fH key v fun E=>E
theorem T4.So(E:T4 α)(i j k l:D6)(v:α)(c:T4 α→β):E.fH (.mk i j k l) v c=c (S6.mod i (S6.mod j (S6.mod k (S6.mod l fun _=>some v))) E):=
 S6.LI i _ _ (fun x c=>S6.LI j _ _ (fun x c=>S6.LI k _ _ (fun x c=>S6.LI l (fun _=>some v) _ (fun _ _=>rfl) x c) x c) x c) E c
theorem T4.jO(E:T4 α)(key:Key)(v:α)(c:T4 α→β):E.fH key v c=c (E.set key v):=by
 cases key with
 |mk i j k l=>unfold T4.set;rw[T4.So,T4.So]
theorem S6.gs(E:S6 (S6 (S6 (S6 (Option α)))))(i j k l z A G I:D6)(v:α):S6.get I (S6.get G (S6.get A (S6.get z (S6.mod i (S6.mod j (S6.mod k (S6.mod l fun _=>some v))) E))))=
  if Key.mk z A G I=Key.mk i j k l then some v else S6.get I (S6.get G (S6.get A (S6.get z E))):=by
 rw[S6.K2]
 by_cases hi:z=i
 ·subst hi;rw[bg rfl,S6.K2]
  by_cases L:A=j
  ·subst L;rw[bg rfl,S6.K2]
   by_cases M:G=k
   ·subst M;rw[bg rfl,S6.K2]
    by_cases O:I=l
    ·subst O;rw[bg rfl,bg rfl]
    rw[aX O,aX (by intro e;cases e;exact O rfl)]
   rw[aX M,aX (by intro e;cases e;exact M rfl)]
  rw[aX L,aX (by intro e;cases e;exact L rfl)]
 rw[aX hi,aX (by intro e;cases e;exact hi rfl)]
theorem T4.df(E:T4 α)(key z:Key)(v:α):(E.set key v).get z=if z=key then some v else E.get z:=by
 cases key with
 |mk i j k l=>cases z with
  |mk A G I L=>
   unfold T4.set;rw[T4.So];exact S6.gs E i j k l A G I L v
def T4.emp:T4 α:=S6.all (S6.all (S6.all (S6.all none)))
theorem T4.tI(key:Key):(T4.emp:T4 α).get key=none:=by
 cases key with
 |mk i j k l=>
  show S6.get l (S6.get k (S6.get j (S6.get i (S6.all (S6.all (S6.all (S6.all none)))))))=none;rw[S6.K3,S6.K3,S6.K3,S6.K3]
def pq(n:Nat):Key:=.mk (wN (Nat.mod n 6)) (wN (Nat.mod (Nat.div n 6) 6)) (wN (Nat.mod (Nat.div n 36) 6)) (wN (Nat.mod (Nat.div n 216) 6))
theorem aih{n:Nat}(h:n<1296):(pq n).n=n:=by
 show(wN (n % 6)).n+6*(wN (n/6 % 6)).n+36*(wN (n/36 % 6)).n+216*(wN (n/216 % 6)).n=n;rw[ME (yy _ an),ME (yy _ an),ME (yy _ an),ME (yy _ an)];omega
theorem pq_inj{n k:Nat}(h:pq (n % 1296)=pq (k % 1296)):n % 1296=k % 1296:=by
 rw[←aih (n:=n % 1296) an,←aih (n:=k % 1296) an,h]
def GT(α:Type):Type:=Tr (T4 α)
def GT.zf(t:GT α)(n:Nat):T4 α:=Option.rec (motive:=fun _=>T4 α) .emp (fun s=>s) (Tr.get t n)
def GT.get(t:GT α)(n:Nat):Option α:=(t.zf (Nat.div n 1296)).get (pq (Nat.mod n 1296))
def GT.set(t:GT α)(n:Nat)(v:α):GT α:=Tr.set t (Nat.div n 1296) ((t.zf (Nat.div n 1296)).set (pq (Nat.mod n 1296)) v)
def GT.fH(t:GT α)(n:Nat)(v:α)(c:GT α→β):β:=(t.zf (Nat.div n 1296)).fH (pq (Nat.mod n 1296)) v fun s=>(Tr.set t (Nat.div n 1296) s).seq c
theorem GT.jO(t:GT α)(n:Nat)(v:α)(c:GT α→β):t.fH n v c=c (t.set n v):=by
 unfold GT.fH;rw[T4.jO];exact Tr.seq_eq (α:=T4 α) _ c
def GT.emp:GT α:=Tr.leaf
theorem GT.tI(n:Nat):(GT.emp:GT α).get n=none:=T4.tI _
theorem GT.ats(t:Tr (T4 α))(n k:Nat)(s:T4 α):(Option.rec (motive:=fun _=>T4 α) .emp (fun s=>s) (Tr.get (Tr.set t n s) k):T4 α)=if k=n then s else Option.rec (motive:=fun _=>T4 α) .emp (fun s=>s) (Tr.get t k):=by
 rw[Tr.df]
 split
 ·rfl
 rfl
theorem GT.df(t:GT α)(n k:Nat)(v:α):(t.set n v).get k=if k=n then some v else t.get k:=by
 have h:(t.set n v).zf (k/1296)=if k/1296=n/1296 then(t.zf (n/1296)).set (pq (n % 1296)) v else t.zf (k/1296):=GT.ats t _ _ _
 show((t.set n v).zf (k/1296)).get (pq (k % 1296))=if k=n then some v else(t.zf (k/1296)).get (pq (k % 1296))
 rw[h]
 by_cases e:k/1296=n/1296
 ·rw[bg e,T4.df,e]
  by_cases z:k % 1296=n % 1296
  ·rw[bg (by rw[z]),bg an]
  rw[aX (fun h=>z (pq_inj h)),aX an]
 rw[aX e,aX an]
end
abbrev Env:=T4 ai
def JO:Key:=.mk .d0 .d0 .d0 .d0
def JP:Key:=.mk .d1 .d0 .d0 .d0
def oe:Key:=.mk .d2 .d0 .d0 .d0
def o6:Key:=.mk .d3 .d0 .d0 .d0
def rH:Key:=.mk .d4 .d0 .d0 .d0
def EN:Key:=.mk .d5 .d0 .d0 .d0
def sY:Key:=.mk .d0 .d1 .d0 .d0
def wO:Key:=.mk .d1 .d1 .d0 .d0
def EO:Key:=.mk .d2 .d1 .d0 .d0
def Ps:Key:=.mk .d3 .d1 .d0 .d0
def NO:Key:=.mk .d4 .d1 .d0 .d0
def NP:Key:=.mk .d5 .d1 .d0 .d0
def vQ:Key:=.mk .d0 .d2 .d0 .d0
def NQ:Key:=.mk .d1 .d2 .d0 .d0
def NR:Key:=.mk .d2 .d2 .d0 .d0
def NS:Key:=.mk .d3 .d2 .d0 .d0
def NT:Key:=.mk .d4 .d2 .d0 .d0
def NU:Key:=.mk .d5 .d2 .d0 .d0
def NV:Key:=.mk .d0 .d3 .d0 .d0
def vR:Key:=.mk .d1 .d3 .d0 .d0
def NW:Key:=.mk .d2 .d3 .d0 .d0
def NX:Key:=.mk .d3 .d3 .d0 .d0
def NY:Key:=.mk .d4 .d3 .d0 .d0
def NZ:Key:=.mk .d5 .d3 .d0 .d0
def N0:Key:=.mk .d0 .d4 .d0 .d0
def N1:Key:=.mk .d1 .d4 .d0 .d0
def uj:Key:=.mk .d2 .d4 .d0 .d0
def N3:Key:=.mk .d3 .d4 .d0 .d0
def N4:Key:=.mk .d4 .d4 .d0 .d0
def N5:Key:=.mk .d5 .d4 .d0 .d0
def N6:Key:=.mk .d0 .d5 .d0 .d0
def N7:Key:=.mk .d1 .d5 .d0 .d0
def N8:Key:=.mk .d2 .d5 .d0 .d0
def rm:Key:=.mk .d3 .d5 .d0 .d0
def uk:Key:=.mk .d4 .d5 .d0 .d0
def N9:Key:=.mk .d5 .d5 .d0 .d0
def N':Key:=.mk .d0 .d0 .d1 .d0
def Oa:Key:=.mk .d1 .d0 .d1 .d0
def Ob:Key:=.mk .d2 .d0 .d1 .d0
def Oc:Key:=.mk .d3 .d0 .d1 .d0
def Od:Key:=.mk .d4 .d0 .d1 .d0
def Oe:Key:=.mk .d5 .d0 .d1 .d0
def sB:Key:=.mk .d0 .d1 .d1 .d0
def yE:Key:=.mk .d1 .d1 .d1 .d0
def Of:Key:=.mk .d2 .d1 .d1 .d0
def Og:Key:=.mk .d3 .d1 .d1 .d0
def nV:Key:=.mk .d4 .d1 .d1 .d0
def Oh:Key:=.mk .d5 .d1 .d1 .d0
def Oi:Key:=.mk .d0 .d2 .d1 .d0
def Oj:Key:=.mk .d1 .d2 .d1 .d0
def Ok:Key:=.mk .d2 .d2 .d1 .d0
def sC:Key:=.mk .d3 .d2 .d1 .d0
def Ol:Key:=.mk .d4 .d2 .d1 .d0
def Om:Key:=.mk .d5 .d2 .d1 .d0
def On:Key:=.mk .d0 .d3 .d1 .d0
def Oo:Key:=.mk .d1 .d3 .d1 .d0
def Oq:Key:=.mk .d2 .d3 .d1 .d0
def Ot:Key:=.mk .d3 .d3 .d1 .d0
def Ou:Key:=.mk .d4 .d3 .d1 .d0
def Ov:Key:=.mk .d5 .d3 .d1 .d0
def aii:Key:=.mk .d0 .d4 .d1 .d0
def aij:Key:=.mk .d1 .d4 .d1 .d0
def aik:Key:=.mk .d2 .d4 .d1 .d0
def ail:Key:=.mk .d3 .d4 .d1 .d0
def aim:Key:=.mk .d4 .d4 .d1 .d0
def ain:Key:=.mk .d5 .d4 .d1 .d0
def aio:Key:=.mk .d0 .d5 .d1 .d0
def aip:Key:=.mk .d1 .d5 .d1 .d0
def aiq:Key:=.mk .d2 .d5 .d1 .d0
def air:Key:=.mk .d3 .d5 .d1 .d0
def ais:Key:=.mk .d4 .d5 .d1 .d0
def ait:Key:=.mk .d5 .d5 .d1 .d0
def aiu:Key:=.mk .d0 .d0 .d2 .d0
def aiv:Key:=.mk .d1 .d0 .d2 .d0
def aiw:Key:=.mk .d2 .d0 .d2 .d0
def aix:Key:=.mk .d3 .d0 .d2 .d0
def aiy:Key:=.mk .d4 .d0 .d2 .d0
def aiz:Key:=.mk .d5 .d0 .d2 .d0
def aiA:Key:=.mk .d0 .d1 .d2 .d0
def aiB:Key:=.mk .d1 .d1 .d2 .d0
def aiC:Key:=.mk .d2 .d1 .d2 .d0
def aiD:Key:=.mk .d3 .d1 .d2 .d0
def aiE:Key:=.mk .d4 .d1 .d2 .d0
def aiF:Key:=.mk .d5 .d1 .d2 .d0
def aiG:Key:=.mk .d0 .d2 .d2 .d0
def Vx:Key:=.mk .d1 .d2 .d2 .d0
def aiH:Key:=.mk .d2 .d2 .d2 .d0
def aiI:Key:=.mk .d3 .d2 .d2 .d0
def aiJ:Key:=.mk .d4 .d2 .d2 .d0
def Vy:Key:=.mk .d5 .d2 .d2 .d0
def aiK:Key:=.mk .d0 .d3 .d2 .d0
def aiL:Key:=.mk .d1 .d3 .d2 .d0
def aiM:Key:=.mk .d2 .d3 .d2 .d0
def aiN:Key:=.mk .d3 .d3 .d2 .d0
def aiO:Key:=.mk .d4 .d3 .d2 .d0
def aiP:Key:=.mk .d5 .d3 .d2 .d0
inductive RT where
 |emp
 |one (x:List ai)
 |many (s:GT (List ai))
def RT.get(t:RT)(n:Nat):Option (List ai):=
 RT.rec (motive:=fun _=>Nat→Option (List ai)) (fun _=>none) (fun x n=>Nat.rec (motive:=fun _=>Option (List ai)) (some x) (fun _ _=>none) n) GT.get t n
def RT.set(t:RT)(n:Nat)(v:List ai):RT:=
 RT.rec (motive:=fun _=>Nat→List ai→RT) (fun n v=>Nat.rec (motive:=fun _=>RT) (.one v) (fun m _=>.many (GT.emp.set (Nat.succ m) v)) n)
  (fun x n v=>Nat.rec (motive:=fun _=>RT) (.one v) (fun m _=>.many ((GT.emp.set 0 x).set (Nat.succ m) v)) n) (fun s n v=>.many (s.set n v)) t n v
theorem RT.df(t:RT)(n k:Nat)(v:List ai):(t.set n v).get k=if k=n then some v else t.get k:=by
 cases t with
 |emp=>cases n with
  |zero=>cases k<;>rfl
  |succ n=>exact(GT.df GT.emp (n+1) k v).trans (by rw[GT.tI];rfl)
 |one x=>cases n with
  |zero=>cases k<;>rfl
  |succ n=>
   refine(GT.df (GT.emp.set 0 x) (n+1) k v).trans ?_;rw[GT.df,GT.tI]
   cases k<;>rfl
 |many s=>exact GT.df s n k v
inductive cX where
 |row (elem es aC n lo fl:Nat) (cs:RT)
 |map (es:List (ai×ai))
abbrev HT:=GT cX
structure ax where
 next:Nat
 aS:Nat
 ws:List Nat
 t:HT
inductive aG where
 |t (n:Key)
 |c (v:ai)
inductive EP where
 |bool|ptr|agg (ks:List Nat)|slice|iface|func|map
inductive br where
 |eb (x:aG)
 |pick (c a b:aG)
 |pN (elem es aC:Nat) (cells:List ai)
 |box (elem es aC:Nat) (x:aG)
 |load (n:Nat) (agg:Bool) (a:aG)
 |store (n:Nat) (a x:aG)
 |bin (op:BinOp) (x y:aG)
 |eqv (c:EP) (neg:Bool) (x y:aG)
 |un (op:UnOp) (x:aG)
 |eY (x:aG) (k:Nat)
 |sub (x:aG) (off n:Nat) (agg:Bool)
 |An (len es:Nat) (x i:aG)
 |kr (es:Nat) (x i:aG)
 |C2 (len es:Nat) (agg:Bool) (x i:aG)
 |Ao (x i:aG)
 |HC (x:aG) (lo hi:Option aG)
 |sE (es:Nat) (x:aG) (lo hi:Option aG)
 |ER (es:Nat) (x:aG) (lo:Option aG) (hi mx:aG)
 |vS (x:aG) (i:Nat)
 |sj (x:aG)
 |yF (f:Nat) (first dY:List aG)
 |vT (elem es aC:Nat) (zero:List ai) (len cap:aG)
 |build (zero:List ai) (parts:List (Nat×Nat×aG))
 |tK (elem es aC len:Nat) (zero:List ai) (parts:List (Nat×aG))
 |len (x:aG)
 |um (x:aG)
 |app (elem es aC:Nat) (x y:aG)
 |xC (elem:Nat) (x y:aG)
 |copy (es:Nat) (x y:aG)
 |xD (mx:Bool) (x:aG) (ys:List aG)
 |conv (k:IntKind) (x:aG)
 |xE (x:aG)
 |call (f:Nat) (args:List aG)
 |sk (x:aG) (args:List aG)
structure bl where
 dst:Option Key
 g:Option (Key×Bool)
 q:Option (List Nat)
 op:br
inductive jU where
 |tmp (t:Key)
 |cell (a:Key) (n:Nat) (agg:Bool)
inductive IC where
 |skip
 |region (draw:Bool) (ops:List bl)
 |seq (a b:IC)
 |cond (c:aG) (a b:IC)
 |block (id:Nat) (b:IC)
 |loop (b:IC)
 |exit (id:Nat)
 |ret
structure aQ where
 nt:Nat
 ps:List Key
 res:List jU
 body:IC
inductive aD where
 |ok (v:ai) (H:ax)
 |err (n:Nat)
inductive dO where
 |ok (E:Env) (H:ax)
 |err (n:Nat)
inductive Ex where
 |normal|exit (id:Nat)|ret
inductive Out where
 |ok (x:Ex) (E:Env) (H:ax)
 |err (n:Nat)
def T4.Eh(E:Env)(key:Key)(v:ai)(c:Env→dO):dO:=E.fH key v c
theorem T4.FZ(E:Env)(key:Key)(v:ai)(c:Env→dO):E.Eh key v c=c (E.set key v):=T4.jO E key v c
def RT.fH(t:RT)(n:Nat)(v:List ai)(c:RT→aD):aD:=
 RT.rec (motive:=fun _=>Nat→List ai→(RT→aD)→aD) (fun n v c=>Nat.rec (motive:=fun _=>aD) (c (.one v)) (fun m _=>GT.emp.fH (Nat.succ m) v fun s=>c (.many s)) n)
  (fun x n v c=>Nat.rec (motive:=fun _=>aD) (c (.one v)) (fun m _=>GT.emp.fH 0 x fun s=>s.fH (Nat.succ m) v fun s=>c (.many s)) n) (fun s n v c=>s.fH n v fun s=>c (.many s)) t n v c
theorem RT.jO(t:RT)(n:Nat)(v:List ai)(c:RT→aD):t.fH n v c=c (t.set n v):=by
 cases t with
 |emp=>cases n with
  |zero=>rfl
  |succ n=>exact GT.jO _ _ _ _
 |one x=>cases n with
  |zero=>rfl
  |succ n=>exact(GT.jO _ _ _ _).trans (GT.jO _ _ _ _)
 |many s=>exact GT.jO _ _ _ _
def mU(v:ai)(k:ai→aD):aD:=
 ai.rec (motive_1:=fun _=>(ai→aD)→aD) (motive_2:=fun _=>Unit) (fun b z=>Bool.rec (motive:=fun _=>aD) (z (.bool false)) (z (.bool true)) b) (fun k n z=>mb n fun n=>z (.int k n)) (fun l v z=>ch l fun l=>ch v fun v=>z (.str l v)) (fun f g o z=>ch f fun f=>ch g fun g=>ch o fun o=>z (.ptr f g o)) (fun z=>z (.mT)) (fun f g o l es z=>ch f fun f=>ch g fun g=>ch o fun o=>ch l fun l=>z (.slice f g o l es)) (fun z=>z (.fV)) (fun cs _ z=>z (.agg cs)) (fun vs _ z=>z (.tuple vs)) (fun f fs dY _ _ z=>z (.func f fs dY)) (fun z=>z (.nF)) (fun t v _ z=>z (.iface t v)) (fun z=>z (.kJ)) (fun f z=>z (.map f)) (fun z=>z (.vl)) (fun z=>z (.undef)) () (fun _ _ _ _=>()) v k
theorem xk(v:ai)(k:ai→aD):mU v k=k v:=by
 cases v<;>simp[mU,xj,fc]
 rename_i b;cases b<;>rfl
def aJ{β:Type}(b:Bool)(k e:β):β:=Bool.rec (motive:=fun _=>β) e k b
def ob{α β:Type}(o:Option α)(e:β)(k:α→β):β:=Option.rec (motive:=fun _=>β) e k o
def po{β:Type}(b:Bool)(k:Bool→β):β:=Bool.rec (motive:=fun _=>β) (k false) (k true) b
def vm(v:ai)(e:aD)(k:Bool→aD):aD:=
 ai.rec (motive_1:=fun _=>aD→(Bool→aD)→aD) (motive_2:=fun _=>Unit) (fun b e z=>z b) (fun _ _ e _=>e) (fun _ _ e _=>e) (fun _ _ _ e _=>e) (fun e _=>e) (fun _ _ _ _ _ e _=>e) (fun e _=>e) (fun _ _ e _=>e) (fun _ _ e _=>e) (fun _ _ _ _ _ e _=>e) (fun e _=>e) (fun _ _ _ e _=>e) (fun e _=>e) (fun _ e _=>e) (fun e _=>e) (fun e _=>e) () (fun _ _ _ _=>()) v e k
def yG(v:ai)(s:dO)(k:Bool→dO):dO:=
 ai.rec (motive_1:=fun _=>dO→(Bool→dO)→dO) (motive_2:=fun _=>Unit) (fun b e z=>z b) (fun _ _ _ _=>.err 51) (fun _ _ _ _=>.err 51) (fun _ _ _ _ _=>.err 51) (fun _ _=>.err 51) (fun _ _ _ _ _ _ _=>.err 51) (fun _ _=>.err 51) (fun _ _ _ _=>.err 51) (fun _ _ _ _=>.err 51) (fun _ _ _ _ _ _ _=>.err 51) (fun _ _=>.err 51) (fun _ _ _ _ _=>.err 51) (fun _ _=>.err 51) (fun _ _ _=>.err 51) (fun _ _=>.err 51) (fun s _=>s) () (fun _ _ _ _=>()) v s k
def abA(v:ai)(e:Out)(k:Bool→Out):Out:=
 ai.rec (motive_1:=fun _=>Out→(Bool→Out)→Out) (motive_2:=fun _=>Unit) (fun b e z=>z b) (fun _ _ e _=>e) (fun _ _ e _=>e) (fun _ _ _ e _=>e) (fun e _=>e) (fun _ _ _ _ _ e _=>e) (fun e _=>e) (fun _ _ e _=>e) (fun _ _ e _=>e) (fun _ _ _ _ _ e _=>e) (fun e _=>e) (fun _ _ _ e _=>e) (fun e _=>e) (fun _ e _=>e) (fun e _=>e) (fun e _=>e) () (fun _ _ _ _=>()) v e k
def fG(v:ai)(e:aD)(k:IntKind→Int→aD):aD:=
 ai.rec (motive_1:=fun _=>aD→(IntKind→Int→aD)→aD) (motive_2:=fun _=>Unit) (fun _ e _=>e) (fun k n e z=>z k n) (fun _ _ e _=>e) (fun _ _ _ e _=>e) (fun e _=>e) (fun _ _ _ _ _ e _=>e) (fun e _=>e) (fun _ _ e _=>e) (fun _ _ e _=>e) (fun _ _ _ _ _ e _=>e) (fun e _=>e) (fun _ _ _ e _=>e) (fun e _=>e) (fun _ e _=>e) (fun e _=>e) (fun e _=>e) () (fun _ _ _ _=>()) v e k
def kT(v:ai)(e:aD)(k:Nat→Nat→aD):aD:=
 ai.rec (motive_1:=fun _=>aD→(Nat→Nat→aD)→aD) (motive_2:=fun _=>Unit) (fun _ e _=>e) (fun _ _ e _=>e) (fun l v e z=>z l v) (fun _ _ _ e _=>e) (fun e _=>e) (fun _ _ _ _ _ e _=>e) (fun e _=>e) (fun _ _ e _=>e) (fun _ _ e _=>e) (fun _ _ _ _ _ e _=>e) (fun e _=>e) (fun _ _ _ e _=>e) (fun e _=>e) (fun _ e _=>e) (fun e _=>e) (fun e _=>e) () (fun _ _ _ _=>()) v e k
def jk(v:ai)(e:aD)(k:Nat→Nat→Nat→aD):aD:=
 ai.rec (motive_1:=fun _=>aD→(Nat→Nat→Nat→aD)→aD) (motive_2:=fun _=>Unit) (fun _ e _=>e) (fun _ _ e _=>e) (fun _ _ e _=>e) (fun f g o e z=>z f g o) (fun e _=>e) (fun _ _ _ _ _ e _=>e) (fun e _=>e) (fun _ _ e _=>e) (fun _ _ e _=>e) (fun _ _ _ _ _ e _=>e) (fun e _=>e) (fun _ _ _ e _=>e) (fun e _=>e) (fun _ e _=>e) (fun e _=>e) (fun e _=>e) () (fun _ _ _ _=>()) v e k
def fy(v:ai)(e n:aD)(k:Nat→Nat→Nat→Nat→Nat→aD):aD:=
 ai.rec (motive_1:=fun _=>aD→aD→(Nat→Nat→Nat→Nat→Nat→aD)→aD) (motive_2:=fun _=>Unit) (fun _ e _ _=>e) (fun _ _ e _ _=>e) (fun _ _ e _ _=>e) (fun _ _ _ e _ _=>e) (fun e _ _=>e) (fun f g o l es e _ z=>z f g o l es) (fun _ n _=>n) (fun _ _ e _ _=>e) (fun _ _ e _ _=>e) (fun _ _ _ _ _ e _ _=>e) (fun e _ _=>e) (fun _ _ _ e _ _=>e) (fun e _ _=>e) (fun _ e _ _=>e) (fun e _ _=>e) (fun e _ _=>e) () (fun _ _ _ _=>()) v e n k
def na(v:ai)(e:aD)(k:List ai→aD):aD:=
 ai.rec (motive_1:=fun _=>aD→(List ai→aD)→aD) (motive_2:=fun _=>Unit) (fun _ e _=>e) (fun _ _ e _=>e) (fun _ _ e _=>e) (fun _ _ _ e _=>e) (fun e _=>e) (fun _ _ _ _ _ e _=>e) (fun e _=>e) (fun cs _ e z=>z cs) (fun _ _ e _=>e) (fun _ _ _ _ _ e _=>e) (fun e _=>e) (fun _ _ _ e _=>e) (fun e _=>e) (fun _ e _=>e) (fun e _=>e) (fun e _=>e) () (fun _ _ _ _=>()) v e k
def vd(v:ai)(e:aD)(k:List ai→aD):aD:=
 ai.rec (motive_1:=fun _=>aD→(List ai→aD)→aD) (motive_2:=fun _=>Unit) (fun _ e _=>e) (fun _ _ e _=>e) (fun _ _ e _=>e) (fun _ _ _ e _=>e) (fun e _=>e) (fun _ _ _ _ _ e _=>e) (fun e _=>e) (fun _ _ e _=>e) (fun vs _ e z=>z vs) (fun _ _ _ _ _ e _=>e) (fun e _=>e) (fun _ _ _ e _=>e) (fun e _=>e) (fun _ e _=>e) (fun e _=>e) (fun e _=>e) () (fun _ _ _ _=>()) v e k
def xF(v:ai)(e:aD)(k:Nat→List ai→List ai→aD):aD:=
 ai.rec (motive_1:=fun _=>aD→(Nat→List ai→List ai→aD)→aD) (motive_2:=fun _=>Unit) (fun _ e _=>e) (fun _ _ e _=>e) (fun _ _ e _=>e) (fun _ _ _ e _=>e) (fun e _=>e) (fun _ _ _ _ _ e _=>e) (fun e _=>e) (fun _ _ e _=>e) (fun _ _ e _=>e) (fun f fs dY _ _ e z=>z f fs dY) (fun e _=>e) (fun _ _ _ e _=>e) (fun e _=>e) (fun _ e _=>e) (fun e _=>e) (fun e _=>e) () (fun _ _ _ _=>()) v e k
def adO(v:ai)(e:Option Nat)(k:IntKind→Int→Option Nat):Option Nat:=
 ai.rec (motive_1:=fun _=>Option Nat→(IntKind→Int→Option Nat)→Option Nat) (motive_2:=fun _=>Unit) (fun _ e _=>e) (fun k n e z=>z k n) (fun _ _ e _=>e) (fun _ _ _ e _=>e) (fun e _=>e) (fun _ _ _ _ _ e _=>e) (fun e _=>e) (fun _ _ e _=>e) (fun _ _ e _=>e) (fun _ _ _ _ _ e _=>e) (fun e _=>e) (fun _ _ _ e _=>e) (fun e _=>e) (fun _ e _=>e) (fun e _=>e) (fun e _=>e) () (fun _ _ _ _=>()) v e k
def adP(v:ai)(e:Option ai)(k:IntKind→Int→Option ai):Option ai:=
 ai.rec (motive_1:=fun _=>Option ai→(IntKind→Int→Option ai)→Option ai) (motive_2:=fun _=>Unit) (fun _ e _=>e) (fun k n e z=>z k n) (fun _ _ e _=>e) (fun _ _ _ e _=>e) (fun e _=>e) (fun _ _ _ _ _ e _=>e) (fun e _=>e) (fun _ _ e _=>e) (fun _ _ e _=>e) (fun _ _ _ _ _ e _=>e) (fun e _=>e) (fun _ _ _ e _=>e) (fun e _=>e) (fun _ e _=>e) (fun e _=>e) (fun e _=>e) () (fun _ _ _ _=>()) v e k
def iR(v:ai):Option (List ai):=
 ai.rec (motive_1:=fun _=>Option (List ai)) (motive_2:=fun _=>Unit) (fun b=>some [.bool b]) (fun k n=>some [.int k n]) (fun l v=>some [.str l v]) (fun f g o=>some [.ptr f g o]) (some [.mT]) (fun f g o l es=>some [.slice f g o l es]) (some [.fV]) (fun cs _=>some cs) (fun _ _=>none) (fun f fs dY _ _=>some [.func f fs dY]) (some [.nF]) (fun t v _=>some [.iface t v]) (some [.kJ]) (fun f=>some [.map f]) (some [.vl]) (none) () (fun _ _ _ _=>()) v
def kU{β:Type}(o:Option cX)(e:β)(k:Nat→Nat→Nat→Nat→Nat→Nat→RT→β):β:=
 Option.rec (motive:=fun _=>β) e (fun o=>cX.casesOn (motive:=fun _=>β) o k (fun _=>e)) o
def iU{β:Type}(i:Int)(e:β)(k:Nat→β):β:=Int.rec (motive:=fun _=>β) k (fun _=>e) i
def gM(l:List ai):Nat:=List.rec (motive:=fun _=>Nat) 0 (fun _ _ z=>Nat.succ z) l
def ax.alloc(H:ax)(o:cX)(k:Nat→ax→aD):aD:=
 ax.casesOn (motive:=fun _=>aD) H fun next aS ws t=>ch next fun f=>t.fH f o fun t=>k f ⟨Nat.succ f,aS,ws,t⟩
def pO(f:Nat)(l:List Nat):Bool:=
 List.rec (motive:=fun _=>Bool) false (fun x _ z=>aJ (Nat.beq f x) true z) l
def wrote(f aS:Nat)(ws:List Nat):List Nat:=
 aJ (Nat.ble aS f) ws (aJ (pO f ws) ws (f::ws))
def rd{β:Type}(H:ax)(f g off n:Nat)(e:β)(k:List ai→β):β:=
 kU (H.t.get f) e fun _ es _ m lo _ cs=>
  aJ (Nat.ble lo g) (aJ (Nat.ble g m) (aJ (Nat.ble (Nat.add (Nat.mod off es) n) es) (aJ (Nat.ble (Nat.succ (Nat.div off es)) g)
   (ob (cs.get (Nat.div off es)) e fun l=>aJ (Nat.beq n es) (k l) (k ((l.drop (Nat.mod off es)).take n))) e) e) e) e
def en(l:List ai)(r:Nat)(new:List ai):List ai:=l.take r++(new++l.drop (r+new.length))
def wr(H:ax)(f g off n:Nat)(new:List ai)(e:aD)(k:ax→aD):aD:=
 ax.casesOn (motive:=fun _=>aD) H fun next aS ws t=>kU (t.get f) e fun elem es aC m lo fl cs=>
  aJ (Nat.beq fl 0) (aJ (Nat.beq g m) (aJ (Nat.ble lo g) (aJ (Nat.ble (Nat.add (Nat.mod off es) n) es) (aJ (Nat.ble (Nat.succ (Nat.div off es)) g) (aJ (Nat.beq (gM new) n)
   (ob (cs.get (Nat.div off es)) e fun l=>
    cs.fH (Nat.div off es) (aJ (Nat.beq n es) new (en l (Nat.mod off es) new)) fun cs=>t.fH f (.row elem es aC m m 0 cs) fun t=>
     k ⟨next,aS,wrote f aS ws,t⟩) e) e) e) e) e) e
def pw(v i:Nat):Nat:=Nat.mod (Nat.shiftRight v (Nat.mul 8 i)) 256
def Sp(v lo hi:Nat):Nat:=Nat.mod (Nat.shiftRight v (Nat.mul 8 lo)) (Nat.shiftLeft 1 (Nat.mul 8 (Nat.sub hi lo)))
def Gw(z A G:Nat):Nat:=Nat.add A (Nat.shiftLeft G (Nat.mul 8 z))
def strLt(L:Nat):Nat→Nat→Nat→Bool:=
 Nat.rec (motive:=fun _=>Nat→Nat→Nat→Bool) (fun _ z _=>Bool.not (Nat.beq z 0))
  (fun _ M A z G=>Nat.rec (motive:=fun _=>Bool) false (fun I _=>
   match Nat.beq (Nat.mod A 256) (Nat.mod G 256) with
   |true=>M (Nat.div A 256) I (Nat.div G 256)
   |false=>Nat.ble (Nat.succ (Nat.mod A 256)) (Nat.mod G 256)) z) L
def pack:List UInt8→Nat
 |[]=>0
 |b::r=>b.toNat+256*pack r
def cS:IntKind→Nat
 |.i8=>0|.i16=>1|.i32=>2|.i64=>3|.u8=>4|.u16=>5|.u32=>6|.u64=>7
def mf(k:IntKind)(n:Int):Int:=
 match k,n with
 |.i64,.ofNat m=>match Nat.ble m 9223372036854775807 with|true=>.ofNat m|false=>IntKind.wrap .i64 (.ofNat m)
 |.i64,.negSucc m=>match Nat.ble m 9223372036854775807 with|true=>.negSucc m|false=>IntKind.wrap .i64 (.negSucc m)
 |k,n=>k.wrap n
def fu:Int→Int→Bool
 |.ofNat a,.ofNat b=>Nat.ble (Nat.succ a) b
 |.ofNat _,.negSucc _=>false
 |.negSucc _,.ofNat _=>true
 |.negSucc a,.negSucc b=>Nat.ble (Nat.succ b) a
def mF:Int→Int→Bool
 |.ofNat a,.ofNat b=>Nat.beq a b
 |.negSucc a,.negSucc b=>Nat.beq a b
 |_,_=>false
def intBits(op:BinOp)(k:IntKind)(x y:Int):Option Int:=
 let a:=BitVec.ofInt k.bits x
 let b:=BitVec.ofInt k.bits y
 match op with
 |.and=>some (k.wrap ((a&&&b).toNat))
 |.or=>some (k.wrap ((a|||b).toNat))
 |.xor=>some (k.wrap ((a^^^b).toNat))
 |.andNot=>some (k.wrap ((a&&&~~~b).toNat))
 |_=>none
def fZ(op:BinOp)(k:IntKind)(a:Int)(z:IntKind)(b:Int):Option ai:=
 match op with
 |.shl=>aJ (fu b 0) none (some (.int k (mf k (a*2^(Nat.min b.toNat k.bits)))))
 |.shr=>aJ (fu b 0) none (some (.int k (a.fdiv (2^(Nat.min b.toNat k.bits)))))
 |.add=>aJ (Nat.beq (cS k) (cS z)) (some (.int k (mf k (a+b)))) none
 |.sub=>aJ (Nat.beq (cS k) (cS z)) (some (.int k (mf k (a-b)))) none
 |.mul=>aJ (Nat.beq (cS k) (cS z)) (some (.int k (mf k (a*b)))) none
 |.quo=>aJ (Nat.beq (cS k) (cS z)) (aJ (mF b 0) none (some (.int k (mf k (a.tdiv b))))) none
 |.rem=>aJ (Nat.beq (cS k) (cS z)) (aJ (mF b 0) none (some (.int k (a.tmod b)))) none
 |.eql=>aJ (Nat.beq (cS k) (cS z)) (some (.bool (mF a b))) none
 |.neq=>aJ (Nat.beq (cS k) (cS z)) (some (.bool (Bool.not (mF a b)))) none
 |.lss=>aJ (Nat.beq (cS k) (cS z)) (some (.bool (fu a b))) none
 |.leq=>aJ (Nat.beq (cS k) (cS z)) (some (.bool (Bool.not (fu b a)))) none
 |.gtr=>aJ (Nat.beq (cS k) (cS z)) (some (.bool (fu b a))) none
 |.geq=>aJ (Nat.beq (cS k) (cS z)) (some (.bool (Bool.not (fu a b)))) none
 |op=>aJ (Nat.beq (cS k) (cS z)) (ob (intBits op k a b) none fun r=>some (.int k r)) none
def AY(z A G I:Nat):Bool:=match Nat.beq z G with|true=>Nat.beq A I|false=>false
def Sq(op:BinOp)(z G A I:Nat):Option ai:=
 match op with
 |.add=>aJ (Nat.ble (Nat.add z A) 4611686018427387904) (some (.str (Nat.add z A) (Gw z G I))) none
 |.eql=>some (.bool (AY z G A I))
 |.neq=>some (.bool (Bool.not (AY z G A I)))
 |.lss=>some (.bool (strLt z G A I))
 |.leq=>some (.bool (Bool.not (strLt A I z G)))
 |.gtr=>some (.bool (strLt A I z G))
 |.geq=>some (.bool (Bool.not (strLt z G A I)))
 |_=>none
def Ei(op:BinOp)(x y:ai):Option ai:=
 match x,y with
 |.int k a,.int z b=>fZ op k a z b
 |.str A G,.str I L=>Sq op A G I L
 |_,_=>none
def Pt(op:UnOp)(x:ai):Option ai:=
 match op,x with
 |.neg,.int k n=>some (.int k (mf k (0-n)))
 |.xor,.int k n=>ob (intBits .xor k (if k.signed then-1 else k.max) n) none fun r=>some (.int k r)
 |.not,.bool b=>some (.bool (Bool.not b))
 |_,_=>none
def Gx(c:Nat):ai→Bool
 |.int k _=>Nat.beq (cS k) c
 |.bool _=>Nat.beq c 100
 |.str _ _=>Nat.beq c 101
 |_=>false
def kK:List Nat→List ai→Bool
 |[],[]=>true
 |c::r,a::s=>Gx c a&&kK r s
 |_,_=>false
def FD:ai→ai→Option Bool
 |.int k a,.int z b=>match Nat.beq (cS k) (cS z) with|true=>some (mF a b)|false=>none
 |.bool a,.bool b=>some (a==b)
 |.str A G,.str I L=>some (AY A G I L)
 |_,_=>none
def tL:List ai→List ai→Option Bool
 |[],[]=>some true
 |a::r,b::s=>match FD a b with
  |some true=>tL r s
  |some false=>match tL r s with|some _=>some false|none=>none
  |none=>none
 |_,_=>none
def qc(c:EP)(x y:ai):Option Bool:=
 match c with
 |.bool=>match x,y with|.bool a,.bool b=>some (a==b)|_,_=>none
 |.ptr=>match x,y with
  |.mT,.mT=>some true
  |.mT,.ptr _ _ _=>some false
  |.ptr _ _ _,.mT=>some false
  |.ptr f g o,.ptr f' g' z=>aJ (Nat.beq f f') (aJ (Nat.beq g g') (aJ (Nat.beq o z) (some true) none) none) none
  |_,_=>none
 |.agg ks=>match x,y with|.agg a,.agg b=>aJ (kK ks a) (aJ (kK ks b) (tL a b) none) none|_,_=>none
 |.slice=>match x,y with
  |.fV,.fV=>some true
  |.fV,.slice _ _ _ _ _=>some false
  |.slice _ _ _ _ _,.fV=>some false
  |_,_=>none
 |.iface=>match x,y with
  |.kJ,.kJ=>some true
  |.kJ,.iface _ _=>some false
  |.iface _ _,.kJ=>some false
  |.iface t _,.iface t' _=>aJ (Nat.beq t t') none (some false)
  |_,_=>none
 |.func=>match x,y with
  |.nF,.nF=>some true
  |.nF,.func _ _ _=>some false
  |.func _ _ _,.nF=>some false
  |_,_=>none
 |.map=>match x,y with
  |.vl,.vl=>some true
  |_,_=>none
def uE(m n:Nat):Int:=Bool.rec (motive:=fun _=>Int) (.negSucc (Nat.pred (Nat.sub n m))) (.ofNat (Nat.sub m n)) (Nat.ble n m)
def aiQ(x y:Int):Int:=
 Int.rec (motive:=fun _=>Int→Int) (fun m y=>Int.rec (motive:=fun _=>Int) (fun n=>.ofNat (Nat.add m n)) (fun n=>uE m (Nat.succ n)) y)
  (fun m y=>Int.rec (motive:=fun _=>Int) (fun n=>uE n (Nat.succ m)) (fun n=>.negSucc (Nat.succ (Nat.add m n))) y) x y
def aiR(x y:Int):Int:=
 Int.rec (motive:=fun _=>Int→Int) (fun m y=>Int.rec (motive:=fun _=>Int) (fun n=>uE m n) (fun n=>.ofNat (Nat.add m (Nat.succ n))) y)
  (fun m y=>Int.rec (motive:=fun _=>Int) (fun n=>.negSucc (Nat.add m n)) (fun n=>uE n m) y) x y
def JQ(x y:Int):Bool:=
 Int.rec (motive:=fun _=>Int→Bool) (fun m y=>Int.rec (motive:=fun _=>Bool) (fun n=>Nat.ble (Nat.succ m) n) (fun _=>false) y)
  (fun m y=>Int.rec (motive:=fun _=>Bool) (fun _=>true) (fun n=>Nat.ble (Nat.succ n) m) y) x y
def Xj(x y:Int):Bool:=
 Int.rec (motive:=fun _=>Int→Bool) (fun m y=>Int.rec (motive:=fun _=>Bool) (fun n=>Nat.beq m n) (fun _=>false) y)
  (fun m y=>Int.rec (motive:=fun _=>Bool) (fun _=>false) (fun n=>Nat.beq m n) y) x y
def w64(n:Int):Int:=
 Int.rec (motive:=fun _=>Int) (fun m=>Bool.rec (motive:=fun _=>Int) (IntKind.wrap .i64 (.ofNat m)) (.ofNat m) (Nat.ble m 9223372036854775807))
  (fun m=>Bool.rec (motive:=fun _=>Int) (IntKind.wrap .i64 (.negSucc m)) (.negSucc m) (Nat.ble m 9223372036854775807)) n
def wU(mx:Nat)(k:IntKind)(n:Int):Int:=
 Int.rec (motive:=fun _=>Int) (fun m=>Bool.rec (motive:=fun _=>Int) (IntKind.wrap k (.ofNat m)) (.ofNat m) (Nat.ble m mx)) (fun m=>IntKind.wrap k (.negSucc m)) n
def Ua(k:IntKind):Int→Int:=
 IntKind.rec (motive:=fun _=>Int→Int) (IntKind.wrap .i8) (IntKind.wrap .i16) (IntKind.wrap .i32) w64 (wU 255 .u8) (wU 65535 .u16) (wU 4294967295 .u32) (wU 18446744073709551615 .u64) k
def nM(op:BinOp)(a b:ai)(k:ai→aD):aD:=ob (Ei op a b) (.err 6) fun v=>mU v k
def Sr(f:Int→Int→Int)(op:BinOp)(a b:ai)(k:ai→aD):aD:=
 fG a (nM op a b k) fun z x=>fG b (nM op a b k) fun A y=>aJ (Nat.beq (cS z) (cS A)) (mb (Ua z (f x y)) fun r=>k (.int z r)) (.err 6)
def Bx(f:Int→Int→Bool)(op:BinOp)(a b:ai)(k:ai→aD):aD:=
 fG a (nM op a b k) fun A x=>fG b (nM op a b k) fun z y=>aJ (Nat.beq (cS A) (cS z)) (po (f x y) fun r=>k (.bool r)) (.err 6)
def neI(x y:Int):Bool:=Bool.not (Xj x y)
def leI(x y:Int):Bool:=Bool.not (JQ y x)
def gtI(x y:Int):Bool:=JQ y x
def geI(x y:Int):Bool:=Bool.not (JQ x y)
def Ej(op:BinOp):ai→ai→(ai→aD)→aD:=
 BinOp.rec (motive:=fun _=>ai→ai→(ai→aD)→aD) (Sr aiQ .add) (Sr aiR .sub) (nM .mul) (nM .quo) (nM .rem) (nM .and) (nM .or) (nM .xor) (nM .shl) (nM .shr) (nM .andNot)
  (Bx Xj .eql) (Bx neI .neq) (Bx JQ .lss) (Bx leI .leq) (Bx gtI .gtr) (Bx geI .geq) op
def eQ:ai→Bool
 |.agg _=>false|.tuple _=>false|.undef=>false|_=>true
def fT(agg:Bool)(l:List ai)(e:aD)(k:ai→aD):aD:=
 aJ agg (k (.agg l)) (List.rec (motive:=fun _=>aD) e (fun v r _=>List.rec (motive:=fun _=>aD) (k v) (fun _ _ _=>e) r) l)
def aG.ev(x:aG)(E:Env):Option ai:=
 aG.casesOn (motive:=fun _=>Option ai) x (fun n=>E.get n) some
def bq(x:aG)(E:Env)(e:aD)(k:ai→aD):aD:=
 aG.casesOn (motive:=fun _=>aD) x (fun n=>ob (E.get n) e k) k
def iK(E:Env)(l:List aG):Option (List ai):=
 List.rec (motive:=fun _=>Option (List ai)) (some []) (fun x _ z=>ob (x.ev E) none fun v=>ob z none fun vs=>some (v::vs)) l
def dT(E:Env)(x:Option aG)(z y:Nat)(e:aD)(k:Nat→aD):aD:=
 Option.rec (motive:=fun _=>aD) (k z) (fun x=>ob (x.ev E) e fun v=>fG v e fun _ i=>iU i e fun n=>aJ (Nat.ble n y) (k n) e) x
def idx(v:ai)(n:Nat)(e:aD)(k:Nat→aD):aD:=
 fG v e fun _ i=>iU i e fun i=>aJ (Nat.ble (Nat.succ i) n) (k i) e
def elems(H:ax)(f g es:Nat)(n:Nat):Nat→Option (List (List ai)):=
 Nat.rec (motive:=fun _=>Nat→Option (List (List ai))) (fun _=>some [])
  (fun _ z off=>rd H f g off es none fun l=>ob (z (Nat.add off es)) none fun r=>some (l::r)) n
def gJ(l:List (List ai)):RT→Nat→RT:=
 List.rec (motive:=fun _=>RT→Nat→RT) (fun t _=>t) (fun x _ z t i=>z (t.set i x) (Nat.succ i)) l
def xW(l:List (List ai)):RT→Nat→(RT→aD)→aD:=
 List.rec (motive:=fun _=>RT→Nat→(RT→aD)→aD) (fun t _ c=>c t) (fun x _ z t i c=>t.fH i x fun t=>ch (Nat.succ i) fun i=>z t i c) l
theorem CI:∀(l:List (List ai))(t:RT)(i:Nat)(c:RT→aD),xW l t i c=c (gJ l t i)
 |[],_,_,_=>rfl
 |x::l,t,i,c=>by
  show(t.fH i x fun t=>ch (Nat.succ i) fun i=>xW l t i c)=c (gJ l (t.set i x) (i+1));rw[RT.jO,fc,CI l]
def oI(x:List ai)(n:Nat):RT:=
 Nat.rec (motive:=fun _=>RT) .emp (fun m t=>t.set m x) n
def By(x:List ai)(n:Nat):(RT→aD)→aD:=
 Nat.rec (motive:=fun _=>(RT→aD)→aD) (fun c=>c .emp) (fun m z c=>z fun t=>t.fH m x c) n
theorem K4(x:List ai):∀(n:Nat)(c:RT→aD),By x n c=c (oI x n)
 |0,_=>rfl
 |n+1,c=>by
  show(By x n fun t=>t.fH n x c)=c ((oI x n).set n x);rw[K4 x n,RT.jO]
def vn(l:Nat):Nat→List (List ai):=
 Nat.rec (motive:=fun _=>Nat→List (List ai)) (fun _=>[]) (fun _ z v=>[ai.int .u8 (Int.ofNat (Nat.mod v 256))]::z (Nat.div v 256)) l
def qG(E:Env)(parts:List (Nat×Nat×aG)):List ai→Option (List ai):=
 List.rec (motive:=fun _=>List ai→Option (List ai)) some
  (fun p _ z cells=>ob (p.2.2.ev E) none fun v=>ob (iR v) none fun new=>aJ (Nat.beq (gM new) p.2.1) (z (en cells p.1 new)) none) parts
def rW(E:Env)(es z:Nat)(parts:List (Nat×aG)):RT→Option RT:=
 List.rec (motive:=fun _=>RT→Option RT) some
  (fun p _ A t=>ob (p.2.ev E) none fun v=>ob (iR v) none fun new=>aJ (Nat.beq (gM new) es) (aJ (Nat.ble (Nat.succ p.1) z) (A (t.set p.1 new)) none) none) parts
def Ap(elem es aC n:Nat)(new:List (List ai))(H:ax):aD:=
 aJ (Nat.ble (Nat.mul n aC) 70368744177664)
  (xW new .emp 0 fun cs=>H.alloc (.row elem es aC n n 0 cs) fun f H=>.ok (.slice f n 0 n es) H) (.err 35)
def Ry(elem es aC n:Nat)(new:List (List ai))(H:ax)(f g off I c6:Nat):aD:=
 ax.casesOn (motive:=fun _=>aD) H fun next aS ws t=>kU (t.get f) (.err 33) fun z A mr m lo fl cs=>
  aJ (Nat.beq off 0) (aJ (Nat.beq g m) (aJ (Nat.ble lo g) (aJ (Nat.beq I m) (aJ (Nat.beq c6 es) (aJ (Nat.beq A es) (aJ (Nat.beq fl 1) (.err 32)
   (aJ (Nat.ble (Nat.mul (Nat.add m n) aC) 70368744177664) (aJ (Nat.beq elem z)
    (ch (Nat.add m n) fun G=>xW new cs m fun cs=>t.fH f (.row z A mr G lo fl cs) fun t=>
     .ok (.slice f G 0 G es) ⟨next,aS,wrote f aS ws,t⟩) (.err 32)) (.err 32))) (.err 32)) (.err 32)) (.err 32)) (.err 32)) (.err 32)) (.err 32)
def Ss(es n:Nat)(new:List (List ai))(H:ax)(f g off z c6:Nat):aD:=
 aJ (Nat.beq n 1) (aJ (Nat.beq off 0) (aJ (Nat.beq c6 es) (aJ (Nat.ble (Nat.succ z) g)
  (List.rec (motive:=fun _=>aD) (.err 32) (fun row _ _=>wr H f g (Nat.mul z es) es row (.err 32) fun H=>.ok (.slice f g 0 (Nat.succ z) es) H) new)
  (.err 32)) (.err 32)) (.err 32)) (.err 32)
def Aq(elem es aC n:Nat)(new:List (List ai))(H:ax)(f g off z c6:Nat):aD:=
 aJ (Nat.beq z g) (Ry elem es aC n new H f g off z c6) (Ss es n new H f g off z c6)
def i7(elem es aC n:Nat)(new:List (List ai))(H:ax)(x:ai):aD:=
 Nat.rec (motive:=fun _=>aD) (fy x (.err 31) (.ok x H) fun _ _ _ _ _=>.ok x H)
  (fun n _=>fy x (.err 34) (Ap elem es aC (Nat.succ n) new H) (Aq elem es aC (Nat.succ n) new H)) n
def oX(x:aG)(E:Env)(H:ax):aD:=bq x E (.err 1) fun v=>.ok v H
def HD(c a b:aG)(E:Env)(H:ax):aD:=bq c E (.err 2) fun v=>vm v (.err 2) fun t=>aJ t (oX a E H) (oX b E H)
def AZ(elem es aC:Nat)(cells:List ai)(_:Env)(H:ax):aD:=
 H.alloc (.row elem es aC 1 1 0 (.one cells)) fun f H=>.ok (.ptr f 1 0) H
def IV(elem es aC:Nat)(x:aG)(E:Env)(H:ax):aD:=
 bq x E (.err 3) fun v=>ob (iR v) (.err 3) fun l=>aJ (Nat.beq (gM l) es) (AZ elem es aC l E H) (.err 3)
def HE(n:Nat)(agg:Bool)(a:aG)(E:Env)(H:ax):aD:=
 bq a E (.err 4) fun v=>jk v (.err 4) fun f g off=>rd H f g off n (.err 4) fun l=>fT agg l (.err 4) fun v=>.ok v H
def Gy(n:Nat)(a x:aG)(E:Env)(H:ax):aD:=
 bq a E (.err 5) fun p=>jk p (.err 5) fun f g off=>bq x E (.err 5) fun v=>ob (iR v) (.err 5) fun l=>wr H f g off n l (.err 5) fun H=>.ok .undef H
def IW(op:BinOp)(x y:aG)(E:Env)(H:ax):aD:=
 bq x E (.err 6) fun a=>bq y E (.err 6) fun b=>Ej op a b fun v=>.ok v H
def ES(c:EP)(neg:Bool)(x y:aG)(E:Env)(H:ax):aD:=
 bq x E (.err 7) fun a=>bq y E (.err 7) fun b=>ob (qc c a b) (.err 7) fun r=>po (Bool.xor neg r) fun r=>.ok (.bool r) H
def JR(op:UnOp)(x:aG)(E:Env)(H:ax):aD:=bq x E (.err 8) fun a=>ob (Pt op a) (.err 8) fun v=>mU v fun v=>.ok v H
def HF(x:aG)(k:Nat)(E:Env)(H:ax):aD:=
 bq x E (.err 9) fun v=>jk v (.err 9) fun f g off=>ch (Nat.add off k) fun off=>.ok (.ptr f g off) H
def IX(x:aG)(off n:Nat)(agg:Bool)(E:Env)(H:ax):aD:=
 bq x E (.err 10) fun v=>na v (.err 10) fun cs=>aJ (Nat.ble (Nat.add off n) (gM cs)) (fT agg ((cs.drop off).take n) (.err 10) fun v=>.ok v H) (.err 10)
def F1(z es:Nat)(x i:aG)(E:Env)(H:ax):aD:=
 bq x E (.err 11) fun v=>jk v (.err 11) fun f g off=>bq i E (.err 11) fun A=>idx A z (.err 11) fun j=>ch (Nat.add off (Nat.mul j es)) fun off=>.ok (.ptr f g off) H
def Gz(es:Nat)(x i:aG)(E:Env)(H:ax):aD:=
 bq x E (.err 12) fun v=>fy v (.err 12) (.err 12) fun f g off z _=>bq i E (.err 12) fun A=>idx A z (.err 12) fun j=>ch (Nat.add off (Nat.mul j es)) fun off=>.ok (.ptr f g off) H
def F2(z es:Nat)(agg:Bool)(x i:aG)(E:Env)(H:ax):aD:=
 bq x E (.err 13) fun v=>na v (.err 13) fun cs=>bq i E (.err 13) fun A=>idx A z (.err 13) fun j=>
  aJ (Nat.ble (Nat.add (Nat.mul j es) es) (gM cs)) (fT agg ((cs.drop (Nat.mul j es)).take es) (.err 13) fun v=>.ok v H) (.err 13)
def F3(x i:aG)(E:Env)(H:ax):aD:=
 bq x E (.err 14) fun v=>kT v (.err 14) fun l s=>bq i E (.err 14) fun z=>idx z l (.err 14) fun j=>ch (pw s j) fun b=>.ok (.int .u8 (.ofNat b)) H
def GA(x:aG)(lo hi:Option aG)(E:Env)(H:ax):aD:=
 bq x E (.err 15) fun v=>kT v (.err 15) fun l s=>dT E hi l l (.err 15) fun h=>dT E lo 0 h (.err 15) fun lo=>
  ch (Nat.sub h lo) fun n=>ch (Sp s lo h) fun s=>.ok (.str n s) H
def nW(g off es z:Nat):Nat:=(fun c=>Bool.rec (motive:=fun _=>Nat) z c (Nat.ble z c)) (Nat.sub (Nat.div (Nat.mul g es) es) (Nat.div off es))
theorem F4{g off es z:Nat}:z≤nW g off es z:=by
 unfold nW;show z≤Bool.rec (motive:=fun _=>Nat) z _ (Nat.ble z _)
 cases h:Nat.ble z (Nat.sub (Nat.div (Nat.mul g es) es) (Nat.div off es)) with
 |false=>exact bd _
 |true=>exact aV h
theorem abB{g off es A cap:Nat}(G:A≤cap)(h2:g*es≤off+cap*es):nW g off es A≤cap:=by
 unfold nW;show Bool.rec (motive:=fun _=>Nat) A _ (Nat.ble A _)≤cap
 cases h:Nat.ble A (Nat.sub (Nat.div (Nat.mul g es) es) (Nat.div off es)) with
 |false=>exact G
 |true=>
  show g*es/es-off/es≤cap
  by_cases z:es=0
  ·subst z;simp
  have z:0<es:=Nat.pos_of_ne_zero z;rw[Nat.mul_div_cancel _ z];have I:g≤(off+cap*es)/es:=(Nat.le_div_iff_mul_le z).2 h2;rw[Nat.add_mul_div_right _ _ z] at I;omega
def HG(es:Nat)(x:aG)(lo hi:Option aG)(E:Env)(H:ax):aD:=
 bq x E (.err 16) fun v=>fy v (.err 16) (dT E hi 0 0 (.err 16) fun h=>dT E lo 0 h (.err 16) fun _=>.ok .fV H)
  fun f g off z c6=>aJ (Nat.beq es c6) (dT E hi z (nW g off es z) (.err 16) fun h=>dT E lo 0 h (.err 16) fun lo=>
   ch (Nat.add off (Nat.mul lo es)) fun off=>ch (Nat.sub h lo) fun n=>.ok (.slice f g off n c6) H) (.err 16)
def IY(es:Nat)(x:aG)(lo:Option aG)(hi mx:aG)(E:Env)(H:ax):aD:=
 bq x E (.err 17) fun v=>fy v (.err 17) (.err 17)
  fun f g off z c6=>aJ (Nat.beq es c6) (dT E (some mx) 0 z (.err 17) fun m=>aJ (Nat.ble (Nat.mul g es) (Nat.add off (Nat.mul m es))) (dT E (some hi) 0 m (.err 17) fun h=>dT E lo 0 h (.err 17) fun lo=>
   ch (Nat.add off (Nat.mul lo es)) fun off=>ch (Nat.sub h lo) fun n=>.ok (.slice f g off n c6) H) (.err 17)) (.err 17)
def HH(x:aG)(i:Nat)(E:Env)(H:ax):aD:=bq x E (.err 18) fun v=>vd v (.err 18) fun vs=>ob (vs[i]?) (.err 18) fun v=>.ok v H
def CQ:ai→Bool
 |.ptr _ _ _=>true|.func _ _ _=>true|_=>false
def GB(x:aG)(E:Env)(H:ax):aD:=bq x E (.err 19) fun v=>aJ (CQ v) (.ok v H) (.err 19)
def HI(f:Nat)(first dY:List aG)(E:Env)(H:ax):aD:=ob (iK E first) (.err 20) fun fs=>ob (iK E dY) (.err 20) fun vs=>.ok (.func f fs vs) H
def HJ(elem es aC:Nat)(zero:List ai)(z A:aG)(E:Env)(H:ax):aD:=
 bq z E (.err 22) fun a=>fG a (.err 22) fun _ a=>iU a (.err 22) fun l=>bq A E (.err 22) fun b=>fG b (.err 22) fun _ b=>iU b (.err 22) fun c=>
  aJ (Nat.ble l c) (aJ (Nat.ble (Nat.mul c aC) 70368744177664) (aJ (Nat.ble c 4611686018427387904)
   (By zero l fun cs=>H.alloc (.row elem es aC l l 0 cs) fun f H=>.ok (.slice f l 0 l es) H) (.err 22)) (.err 22)) (.err 22)
def LJ(zero:List ai)(parts:List (Nat×Nat×aG))(E:Env)(H:ax):aD:=ob (qG E parts zero) (.err 23) fun cs=>.ok (.agg cs) H
def KQ(elem es aC z:Nat)(zero:List ai)(parts:List (Nat×aG))(E:Env)(H:ax):aD:=
 ob (rW E es z parts (oI zero z)) (.err 24) fun t=>H.alloc (.row elem es aC z z 0 t) fun f H=>.ok (.slice f z 0 z es) H
def IZ(x:aG)(E:Env)(H:ax):aD:=bq x E (.err 25) fun v=>fy v (.err 25) (.ok (.int .i64 (.ofNat 0)) H) fun _ _ _ l _=>.ok (.int .i64 (.ofNat l)) H
def HK(x:aG)(E:Env)(H:ax):aD:=bq x E (.err 25) fun v=>kT v (.err 25) fun l _=>.ok (.int .i64 (.ofNat l)) H
def I0(elem es aC:Nat)(x y:aG)(E:Env)(H:ax):aD:=
 bq x E (.err 26) fun a=>bq y E (.err 26) fun b=>fy b (.err 26) (i7 elem es aC 0 [] H a) fun f g off n _=>
  ob (elems H f g es n off) (.err 26) fun l=>i7 elem es aC n l H a
def F5(elem:Nat)(x y:aG)(E:Env)(H:ax):aD:=
 bq x E (.err 27) fun a=>bq y E (.err 27) fun b=>kT b (.err 27) fun l v=>i7 elem 1 1 l (vn l v) H a
def rn(f g es:Nat)(z:List ai)(n:Nat):Nat→ax→aD:=
 Nat.rec (motive:=fun _=>Nat→ax→aD) (fun _ H=>.ok (.tuple []) H) (fun _ A off H=>wr H f g off es z (.err 28) fun H=>ch (Nat.add off es) fun off=>A off H) n
def HL(es:Nat)(x y:aG)(E:Env)(H:ax):aD:=
 bq x E (.err 28) fun v=>fy v (.err 28) (.ok (.tuple []) H) fun f g off A c6=>bq y E (.err 28) fun z=>na z (.err 28) fun z=>aJ (Nat.beq c6 es) (aJ (Nat.ble 1 es) (rn f g es z A off H) (.err 28)) (.err 28)
def ET(mx:Bool)(k:IntKind)(l:List ai):Int→Option ai:=
 List.rec (motive:=fun _=>Int→Option ai) (fun a=>some (.int k a))
  (fun v _ z a=>adP v none fun _ b=>mb (aJ (aJ mx (fu a b) (fu b a)) b a) z) l
def F6(mx:Bool)(x:aG)(ys:List aG)(E:Env)(H:ax):aD:=
 bq x E (.err 29) fun a=>fG a (.err 29) fun k a=>ob (iK E ys) (.err 29) fun vs=>ob (ET mx k vs a) (.err 29) fun v=>.ok v H
def HM(k:IntKind)(x:aG)(E:Env)(H:ax):aD:=bq x E (.err 36) fun v=>fG v (.err 36) fun _ n=>mb (mf k n) fun n=>.ok (.int k n) H
def Aa(l:List (List ai)):Option Nat:=
 List.rec (motive:=fun _=>Option Nat) (some 0) (fun c _ z=>List.rec (motive:=fun _=>Option Nat) none (fun v r _=>List.rec (motive:=fun _=>Option Nat)
  (adO v none fun k i=>aJ (Nat.beq (cS k) 4) (iU i none fun b=>aJ (Nat.ble b 255) (ob z none fun v=>some (Nat.add b (Nat.mul 256 v))) none) none) (fun _ _ _=>none) r) c) l
def F7(x:aG)(E:Env)(H:ax):aD:=
 bq x E (.err 39) fun v=>fy v (.err 39) (.ok (.str 0 0) H) fun f g off n _=>
  ob (elems H f g 1 n off) (.err 39) fun l=>ob (Aa l) (.err 39) fun s=>ch s fun s=>.ok (.str n s) H
def mG(f e:Nat)(H:ax)(k:ax→aD):aD:=
 ax.casesOn (motive:=fun _=>aD) H fun next aS ws t=>kU (t.get f) (.err 46) fun elem es aC m lo fl cs=>
  aJ (Nat.beq elem e) (aJ (Nat.beq es 1) (aJ (aJ (Nat.beq fl 0) true (Nat.beq fl 2)) (t.fH f (.row elem es aC m lo 2 cs) fun t=>k ⟨next,aS,wrote f aS ws,t⟩) (.err 46)) (.err 46)) (.err 46)
abbrev dQ:=Nat→List ai→ax→aD
def HN(f:Nat)(args:List aG)(call:dQ)(E:Env)(H:ax):aD:=ob (iK E args) (.err 42) fun vs=>call f vs H
def GC(x:aG)(args:List aG)(call:dQ)(E:Env)(H:ax):aD:=
 bq x E (.err 43) fun v=>xF v (.err 43) fun f fs dY=>ob (iK E args) (.err 43) fun vs=>call f (fs++(vs++dY)) H
def br.ev(o:br):dQ→Env→ax→aD:=
 br.rec (motive:=fun _=>dQ→Env→ax→aD)
  (fun x _=>oX x) (fun c a b _=>HD c a b) (fun a b c d _=>AZ a b c d) (fun a b c d _=>IV a b c d) (fun a b c _=>HE a b c) (fun a b c _=>Gy a b c)
  (fun a b c _=>IW a b c) (fun a b c d _=>ES a b c d) (fun a b _=>JR a b) (fun a b _=>HF a b) (fun a b c d _=>IX a b c d) (fun a b c d _=>F1 a b c d)
  (fun a b c _=>Gz a b c) (fun a b c d e _=>F2 a b c d e) (fun a b _=>F3 a b) (fun a b c _=>GA a b c) (fun a b c d _=>HG a b c d) (fun a b c d e _=>IY a b c d e)
  (fun a b _=>HH a b) (fun a _=>GB a) (fun a b c _=>HI a b c) (fun a b c d e f _=>HJ a b c d e f) (fun a b _=>LJ a b)
  (fun a b c d e f _=>KQ a b c d e f) (fun a _=>IZ a) (fun a _=>HK a) (fun a b c d e _=>I0 a b c d e) (fun a b c _=>F5 a b c) (fun a b c _=>HL a b c)
  (fun a b c _=>F6 a b c) (fun a b _=>HM a b) (fun a _=>F7 a) (fun f args=>HN f args) (fun x args=>GC x args) o
def fin(dst:Option Key)(E:Env)(k:Env→ax→dO)(r:aD):dO:=
 aD.rec (motive:=fun _=>dO) (fun v H=>Option.rec (motive:=fun _=>dO) (k E H) (fun d=>E.Eh d v fun E=>k E H) dst) .err r
def bl.run(call:dQ)(o:bl)(E:Env)(H:ax)(k:Env→ax→dO):dO:=fin o.dst E k (o.op.ev call E H)
def iA(dst:Option Key)(E:Env)(H:ax)(k:Env→ax→dO):dO:=
 Option.rec (motive:=fun _=>dO) (k E H) (fun d=>E.Eh d .undef fun E=>k E H) dst
def bl.step(call:dQ)(o:bl)(E:Env)(H:ax)(k:Env→ax→dO):dO:=
 Option.rec (motive:=fun _=>dO) (o.run call E H k)
  (fun g=>ob (E.get g.1) (.err 51) fun v=>yG v (iA o.dst E H k) fun b=>aJ (Bool.xor b g.2) (iA o.dst E H k) (o.run call E H k)) o.g
def nc(call:dQ)(l:List bl):Env→ax→dO:=
 List.rec (motive:=fun _=>Env→ax→dO) dO.ok (fun o _ z E H=>o.step call E H z) l
structure FP where
 rd:Option (List Nat)
 ws:List Nat
 lo:Nat
 hi:Nat
def iB:Option ai→List Nat
 |some (.ptr f _ _)=>[f]
 |some (.slice f _ _ _ _)=>[f]
 |_=>[]
def br.reads(E:Env):br→Option (List Nat)
 |.load _ _ a=>some (iB (a.ev E))
 |.app _ _ _ x y=>some (iB (x.ev E)++iB (y.ev E))
 |.xC _ x _=>some (iB (x.ev E))
 |.xE x=>some (iB (x.ev E))
 |.store _ a _=>some (iB (a.ev E))
 |.call _ _=>none
 |.sk _ _=>none
 |.copy _ _ _=>none
 |_=>some []
def Dz(l m:List Nat):Bool:=
 List.rec (motive:=fun _=>Bool) true (fun x _ z=>aJ (pO x m) false z) l
def yH(l:List Nat)(lo hi:Nat):Bool:=
 List.rec (motive:=fun _=>Bool) true (fun x _ z=>aJ (Nat.ble lo x) (aJ (Nat.ble hi x) z false) z) l
def HO(l:List Nat)(r:Option (List Nat)):Bool:=
 List.rec (motive:=fun _=>Bool) true (fun _ _ _=>Option.rec (motive:=fun _=>Bool) false (fun r=>Dz l r) r) l
def nG(a b:FP):Bool:=
 aJ (HO a.ws b.rd) (aJ (HO b.ws a.rd) (aJ (Dz a.ws b.ws) (yH a.ws b.lo b.hi) false) false) false
def mO(a:FP)(bf:List FP)(l:List Nat):Bool:=
 List.rec (motive:=fun _=>Bool) true (fun i _ z=>ob (bf[i]?) false fun b=>aJ (nG a b) z false) l
def pr(aS:Nat)(ws new:List Nat):List Nat:=
 List.rec (motive:=fun _=>List Nat) ws (fun f _ z=>wrote f aS z) new
def Ek(rs:Option (List Nat))(l:List Nat)(next aS:Nat)(ws:List Nat)(bf:List FP)(dst:Option Key)(E:Env)(k:Env→ax→List FP→dO)(r:aD):dO:=
 aD.rec (motive:=fun _=>dO) (fun v H'=>ax.casesOn (motive:=fun _=>dO) H' fun next' _ z t'=>
  aJ (mO ⟨rs,z,next,next'⟩ bf l)
   (Option.rec (motive:=fun _=>dO) (k E ⟨next',aS,pr aS ws z,t'⟩ (⟨rs,z,next,next'⟩::bf))
    (fun d=>E.Eh d v fun E=>k E ⟨next',aS,pr aS ws z,t'⟩ (⟨rs,z,next,next'⟩::bf)) dst) (.err 50)) .err r
def bl.runQ(call:dQ)(o:bl)(l:List Nat)(E:Env)(H:ax)(bf:List FP)(k:Env→ax→List FP→dO):dO:=
 ax.casesOn (motive:=fun _=>dO) H fun next aS ws t=>ch next fun next=>Ek (o.op.reads E) l next aS ws bf o.dst E k (o.op.ev call E ⟨next,next,[],t⟩)
def bl.pP(call:dQ)(o:bl)(E:Env)(H:ax)(bf:List FP)(k:Env→ax→List FP→dO):dO:=
 Option.rec (motive:=fun _=>dO) (o.run call E H fun E H=>k E H bf) (fun l=>o.runQ call l E H bf k) o.q
def oJ(q:Option (List Nat))(bf:List FP):List FP:=Option.rec (motive:=fun _=>List FP) bf (fun _=>⟨some [],[],0,0⟩::bf) q
def bl.jB(call:dQ)(o:bl)(E:Env)(H:ax)(bf:List FP)(k:Env→ax→List FP→dO):dO:=
 Option.rec (motive:=fun _=>dO) (o.pP call E H bf k)
  (fun g=>ob (E.get g.1) (.err 51) fun v=>yG v (iA o.dst E H fun E H=>k E H (oJ o.q bf)) fun b=>aJ (Bool.xor b g.2) (iA o.dst E H fun E H=>k E H (oJ o.q bf)) (o.pP call E H bf k)) o.g
def iS(call:dQ)(l:List bl):Env→ax→List FP→dO:=
 List.rec (motive:=fun _=>Env→ax→List FP→dO) (fun E H _=>.ok E H) (fun o _ z E H bf=>o.jB call E H bf z) l
def xo(r:Out)(k:Env→ax→Out):Out:=
 Out.rec (motive:=fun _=>Out) (fun x E H=>Ex.rec (motive:=fun _=>Out) (k E H) (fun id=>.ok (.exit id) E H) (.ok .ret E H) x) .err r
def xX(f:Env→ax→Out)(n:Nat):Env→ax→Out:=
 Nat.rec (motive:=fun _=>Env→ax→Out) (fun _ _=>.err 60) (fun _ z E H=>xo (f E H) z) n
def EU(r:dO):Out:=dO.rec (motive:=fun _=>Out) (fun E H=>.ok .normal E H) .err r
def cSkip(E:Env)(H:ax):Out:=.ok .normal E H
def cRegion(call:dQ)(draw:Bool)(ops:List bl):Env→ax→Out:=
 aJ draw (fun E H=>EU (iS call ops E H [])) (fun E H=>EU (nc call ops E H))
def cSeq(_ _:IC)(a b:Env→ax→Out)(E:Env)(H:ax):Out:=xo (a E H) b
def Ub(c:aG)(_ _:IC)(a b:Env→ax→Out)(E:Env)(H:ax):Out:=
 ob (c.ev E) (.err 61) fun v=>abA v (.err 61) fun t=>aJ t (a E H) (b E H)
def GD(id:Nat)(_:IC)(b:Env→ax→Out)(E:Env)(H:ax):Out:=
 Out.rec (motive:=fun _=>Out) (fun x E H=>Ex.rec (motive:=fun _=>Out) (.ok .normal E H) (fun z=>aJ (Nat.beq z id) (.ok .normal E H) (.ok (.exit z) E H)) (.ok .ret E H) x) .err (b E H)
def cLoop(lf:Nat)(_:IC)(b:Env→ax→Out):Env→ax→Out:=xX b lf
def cExit(id:Nat)(E:Env)(H:ax):Out:=.ok (.exit id) E H
def cRet(E:Env)(H:ax):Out:=.ok .ret E H
def IC.ev(call:dQ)(lf:Nat)(c:IC):Env→ax→Out:=
 IC.rec (motive:=fun _=>Env→ax→Out) cSkip (cRegion call) cSeq Ub GD (cLoop lf) cExit cRet c
def params(ks:List Key):List ai→Env→(Env→aD)→aD:=
 List.rec (motive:=fun _=>List ai→Env→(Env→aD)→aD) (fun l E c=>List.rec (motive:=fun _=>aD) (c E) (fun _ _ _=>.err 71) l)
  (fun k _ z l E c=>List.rec (motive:=fun _=>aD) (.err 71) (fun v r _=>E.fH k v fun E=>z r E c) l) ks
def El(E:Env)(H:ax)(r:jU)(e:aD)(k:ai→aD):aD:=
 jU.casesOn (motive:=fun _=>aD) r (fun t=>ob (E.get t) e k)
  (fun a n agg=>ob (E.get a) e fun v=>jk v e fun f g off=>rd H f g off n e fun l=>fT agg l e k)
def xY(E:Env)(H:ax)(l:List jU)(e:aD):(List ai→aD)→aD:=
 List.rec (motive:=fun _=>(List ai→aD)→aD) (fun k=>k []) (fun r _ z k=>El E H r e fun v=>z fun vs=>k (v::vs)) l
def results(E:Env)(H:ax)(rs:List jU):aD:=
 xY E H rs (.err 70) fun vs=>List.rec (motive:=fun _=>aD) (.ok (.tuple []) H) (fun v r _=>List.rec (motive:=fun _=>aD) (.ok v H) (fun _ _ _=>.ok (.tuple (v::r)) H) r) vs
def vU(call:dQ)(lf:Nat)(fn:aQ)(args:List ai)(H:ax):aD:=
 params fn.ps args .emp fun E=>Out.rec (motive:=fun _=>aD) (fun x E H=>Ex.rec (motive:=fun _=>aD) (results E H fn.res) (fun _=>.err 72) (results E H fn.res) x) .err (fn.body.ev call lf E H)
def Uc(args:List ai)(H:ax):aD:=
 List.rec (motive:=fun _=>aD) (.ok (.bool true) H) (fun _ _ _=>.err 92) args
def vV:Nat→Nat→List UInt8
 |0,_=>[]
 |l+1,s=>UInt8.ofNat (s % 256)::vV l (s/256)
def vW(_c:Nat)(args:List ai)(H:ax):aD:=Uc args H
abbrev ZT:=Tr (List ai→ax→aD)
def sZ(ft:Tr aQ)(xt:Tr Nat)(zt:ZT)(lf:Nat)(n:Nat):dQ:=
 Nat.rec (motive:=fun _=>dQ) (fun _ _ _=>.err 80) (fun _ z f args H=>ob (ft.get f) (ob (xt.get f) (ob (zt.get f) (.err (Nat.add 10000 f)) fun F=>F args H) fun c=>vW c args H) fun fn=>vU z lf fn args H) n
end Go.Ev
