/- Part 1 of rules for walks through the code of a program, and of such walks; what each part proves is said by its theorems. -/
import Derived.Test.YtmpoloiempjdpaaGreatR0
import Derived.Lib.ParseIntB
set_option linter.unusedVariables false
set_option linter.unusedSimpArgs false
noncomputable section
set_option maxRecDepth 100000
set_option maxHeartbeats 4000000
namespace Go.Ev
theorem aa{α:Sort _}{a:α}:a=a:=rfl
inductive aj where
 |bool (b:Bool)
 |int (k:IntKind) (n:Int)
 |str (l v:Nat)
 |ptr (f g off:Nat)
 |mI
 |slice (f g off len es:Nat)
 |fR
 |agg (cs:List aj)
 |tuple (vs:List aj)
 |func (f:Nat) (first eo:List aj)
 |ns
 |iface (t:Nat) (v:aj)
 |kA
 |map (f:Nat)
 |uX
 |undef
inductive D6 where
 |d0|d1|d2|d3|d4|d5
def D6.n:D6→Nat
 |.d0=>0|.d1=>1|.d2=>2|.d3=>3|.d4=>4|.d5=>5
def Iv:Nat→D6
 |0=>.d0|1=>.d1|2=>.d2|3=>.d3|4=>.d4|_=>.d5
def wB(n:Nat):D6:=
 Nat.rec (motive:=fun _=>D6) .d0 (fun n _=>Nat.rec (motive:=fun _=>D6) .d1 (fun n _=>Nat.rec (motive:=fun _=>D6) .d2 (fun n _=>Nat.rec (motive:=fun _=>D6) .d3 (fun n _=>Nat.rec (motive:=fun _=>D6) .d4 (fun _ _=>.d5) n) n) n) n) n
inductive Key where
 |mk (i j k l:D6)
def Key.n:Key→Nat
 |.mk i j k l=>i.n+6*j.n+36*k.n+216*l.n
def pk(n:Nat):Key:=.mk (Iv (n % 6)) (Iv (n/6 % 6)) (Iv (n/36 % 6)) (Iv (n/216 % 6))
theorem D6.lt(d:D6):d.n<6:=by cases d<;>decide
theorem D6.inj{a b:D6}(h:a.n=b.n):a=b:=by cases a<;>cases b<;>first|rfl|(simp[D6.n] at h)
instance:DecidableEq D6:=fun a b=>if h:a.n=b.n then .isTrue (D6.inj h) else .isFalse fun e=>h (by rw[e])
theorem Ln{m:Nat}(h:m<6):(Iv m).n=m:=by
 match m,h with
 |0,_=>rfl
 |1,_=>rfl
 |2,_=>rfl
 |3,_=>rfl
 |4,_=>rfl
 |5,_=>rfl
theorem Mo{m:Nat}(h:m<6):(wB m).n=m:=by
 match m,h with
 |0,_=>rfl
 |1,_=>rfl
 |2,_=>rfl
 |3,_=>rfl
 |4,_=>rfl
 |5,_=>rfl
theorem Key.inj{a b:Key}(h:a.n=b.n):a=b:=by
 cases a with
 |mk i j k l=>cases b with
  |mk z A G I=>
   simp only[Key.n] at h;have Y:=i.lt;have h2:=j.lt;have Z:=k.lt;have h7:=l.lt;have h4:=z.lt;have h5:=A.lt;have h6:=G.lt;have h8:=I.lt;have L:i=z:=D6.inj al;have M:j=A:=D6.inj al;have O:k=G:=D6.inj al;have U:l=I:=D6.inj al;rw[L,M,O,U]
instance:DecidableEq Key:=fun a b=>if h:a.n=b.n then .isTrue (Key.inj h) else .isFalse fun e=>h (by rw[e])
theorem Bf{n:Nat}(h:n<1296):(pk n).n=n:=by
 simp only[pk,Key.n];rw[Ln al,Ln al,Ln al,Ln al];omega
section
variable{α β:Type}
inductive S6(α:Type) where
 |mk (x0 x1 x2 x3 x4 x5:α)
def S6.get(d:D6)(t:S6 α):α:=
 S6.rec (motive:=fun _=>α) (fun x0 x1 x2 x3 x4 x5=>D6.rec (motive:=fun _=>α) x0 x1 x2 x3 x4 x5 d) t
def S6.u0(f:α→(α→β)→β)(t:S6 α)(c:S6 α→β):β:=S6.rec (motive:=fun _=>β) (fun x0 x1 x2 x3 x4 x5=>f x0 fun y=>c (.mk y x1 x2 x3 x4 x5)) t
def S6.u1(f:α→(α→β)→β)(t:S6 α)(c:S6 α→β):β:=S6.rec (motive:=fun _=>β) (fun x0 x1 x2 x3 x4 x5=>f x1 fun y=>c (.mk x0 y x2 x3 x4 x5)) t
def S6.u2(f:α→(α→β)→β)(t:S6 α)(c:S6 α→β):β:=S6.rec (motive:=fun _=>β) (fun x0 x1 x2 x3 x4 x5=>f x2 fun y=>c (.mk x0 x1 y x3 x4 x5)) t
def S6.u3(f:α→(α→β)→β)(t:S6 α)(c:S6 α→β):β:=S6.rec (motive:=fun _=>β) (fun x0 x1 x2 x3 x4 x5=>f x3 fun y=>c (.mk x0 x1 x2 y x4 x5)) t
def S6.u4(f:α→(α→β)→β)(t:S6 α)(c:S6 α→β):β:=S6.rec (motive:=fun _=>β) (fun x0 x1 x2 x3 x4 x5=>f x4 fun y=>c (.mk x0 x1 x2 x3 y x5)) t
def S6.u5(f:α→(α→β)→β)(t:S6 α)(c:S6 α→β):β:=S6.rec (motive:=fun _=>β) (fun x0 x1 x2 x3 x4 x5=>f x5 fun y=>c (.mk x0 x1 x2 x3 x4 y)) t
def S6.eg(d:D6):(α→(α→β)→β)→S6 α→(S6 α→β)→β:=
 D6.rec (motive:=fun _=>(α→(α→β)→β)→S6 α→(S6 α→β)→β) S6.u0 S6.u1 S6.u2 S6.u3 S6.u4 S6.u5 d
def S6.mod(d:D6)(g:α→α)(t:S6 α):S6 α:=S6.eg d (fun x c=>c (g x)) t fun y=>y
theorem S6.KL(d z:D6)(g:α→α)(t:S6 α):S6.get z (S6.mod d g t)=if z=d then g (S6.get d t) else S6.get z t:=by
 cases t;cases d<;>cases z<;>rfl
theorem S6.Lo(d:D6)(g:α→α)(f:α→(α→β)→β)(z:∀x c,f x c=c (g x))(t:S6 α)(c:S6 α→β):S6.eg d f t c=c (S6.mod d g t):=by
 cases t;cases d<;>exact z _ _
def S6.all(x:α):S6 α:=.mk x x x x x x
theorem S6.KM(d:D6)(x:α):S6.get d (S6.all x)=x:=by cases d<;>rfl
def T4(α:Type):Type:=S6 (S6 (S6 (S6 (Option α))))
def T4.get(E:T4 α)(key:Key):Option α:=Key.rec (motive:=fun _=>T4 α→Option α) (fun i j k l E=>S6.get l (S6.get k (S6.get j (S6.get i E)))) key E
def T4.fB(E:T4 α)(key:Key)(v:α)(c:T4 α→β):β:=Key.rec (motive:=fun _=>β) (fun i j k l=>S6.eg i (S6.eg j (S6.eg k (S6.eg l fun _ c=>c (some v)))) E c) key
def T4.set(E:T4 α)(key:Key)(v:α):T4 α:=E.fB key v fun E=>E
theorem T4.R5(E:T4 α)(i j k l:D6)(v:α)(c:T4 α→β):E.fB (.mk i j k l) v c=c (S6.mod i (S6.mod j (S6.mod k (S6.mod l fun _=>some v))) E):=
 S6.Lo i _ _ (fun x c=>S6.Lo j _ _ (fun x c=>S6.Lo k _ _ (fun x c=>S6.Lo l (fun _=>some v) _ (fun _ _=>rfl) x c) x c) x c) E c
theorem T4.jI(E:T4 α)(key:Key)(v:α)(c:T4 α→β):E.fB key v c=c (E.set key v):=by
 cases key with
 |mk i j k l=>unfold T4.set;rw[T4.R5,T4.R5]
theorem S6.gs(E:S6 (S6 (S6 (S6 (Option α)))))(i j k l z A G I:D6)(v:α):S6.get I (S6.get G (S6.get A (S6.get z (S6.mod i (S6.mod j (S6.mod k (S6.mod l fun _=>some v))) E))))=
  if Key.mk z A G I=Key.mk i j k l then some v else S6.get I (S6.get G (S6.get A (S6.get z E))):=by
 rw[S6.KL]
 by_cases hi:z=i
 ·subst hi;rw[bg rfl,S6.KL]
  by_cases L:A=j
  ·subst L;rw[bg rfl,S6.KL]
   by_cases M:G=k
   ·subst M;rw[bg rfl,S6.KL]
    by_cases O:I=l
    ·subst O;rw[bg rfl,bg rfl]
    rw[aZ O,aZ (by intro e;cases e;exact O rfl)]
   rw[aZ M,aZ (by intro e;cases e;exact M rfl)]
  rw[aZ L,aZ (by intro e;cases e;exact L rfl)]
 rw[aZ hi,aZ (by intro e;cases e;exact hi rfl)]
theorem T4.da(E:T4 α)(key z:Key)(v:α):(E.set key v).get z=if z=key then some v else E.get z:=by
 cases key with
 |mk i j k l=>cases z with
  |mk A G I L=>
   unfold T4.set;rw[T4.R5];exact S6.gs E i j k l A G I L v
def T4.emp:T4 α:=S6.all (S6.all (S6.all (S6.all none)))
theorem T4.ta(key:Key):(T4.emp:T4 α).get key=none:=by
 cases key with
 |mk i j k l=>
  show S6.get l (S6.get k (S6.get j (S6.get i (S6.all (S6.all (S6.all (S6.all none)))))))=none;rw[S6.KM,S6.KM,S6.KM,S6.KM]
def pq(n:Nat):Key:=.mk (wB (Nat.mod n 6)) (wB (Nat.mod (Nat.div n 6) 6)) (wB (Nat.mod (Nat.div n 36) 6)) (wB (Nat.mod (Nat.div n 216) 6))
theorem aiB{n:Nat}(h:n<1296):(pq n).n=n:=by
 show(wB (n % 6)).n+6*(wB (n/6 % 6)).n+36*(wB (n/36 % 6)).n+216*(wB (n/216 % 6)).n=n;rw[Mo (A8 _ al),Mo (A8 _ al),Mo (A8 _ al),Mo (A8 _ al)];omega
theorem pq_inj{n k:Nat}(h:pq (n % 1296)=pq (k % 1296)):n % 1296=k % 1296:=by
 rw[←aiB (n:=n % 1296) al,←aiB (n:=k % 1296) al,h]
def GT(α:Type):Type:=Tr (T4 α)
def GT.yZ(t:GT α)(n:Nat):T4 α:=Option.rec (motive:=fun _=>T4 α) .emp (fun s=>s) (Tr.get t n)
def GT.get(t:GT α)(n:Nat):Option α:=(t.yZ (Nat.div n 1296)).get (pq (Nat.mod n 1296))
def GT.set(t:GT α)(n:Nat)(v:α):GT α:=Tr.set t (Nat.div n 1296) ((t.yZ (Nat.div n 1296)).set (pq (Nat.mod n 1296)) v)
def GT.fB(t:GT α)(n:Nat)(v:α)(c:GT α→β):β:=(t.yZ (Nat.div n 1296)).fB (pq (Nat.mod n 1296)) v fun s=>(Tr.set t (Nat.div n 1296) s).seq c
theorem GT.jI(t:GT α)(n:Nat)(v:α)(c:GT α→β):t.fB n v c=c (t.set n v):=by
 unfold GT.fB;rw[T4.jI];exact Tr.seq_eq (α:=T4 α) _ c
def GT.emp:GT α:=Tr.leaf
theorem GT.ta(n:Nat):(GT.emp:GT α).get n=none:=T4.ta _
theorem GT.ats(t:Tr (T4 α))(n k:Nat)(s:T4 α):(Option.rec (motive:=fun _=>T4 α) .emp (fun s=>s) (Tr.get (Tr.set t n s) k):T4 α)=if k=n then s else Option.rec (motive:=fun _=>T4 α) .emp (fun s=>s) (Tr.get t k):=by
 rw[Tr.da]
 split
 ·rfl
 rfl
theorem GT.da(t:GT α)(n k:Nat)(v:α):(t.set n v).get k=if k=n then some v else t.get k:=by
 have h:(t.set n v).yZ (k/1296)=if k/1296=n/1296 then(t.yZ (n/1296)).set (pq (n % 1296)) v else t.yZ (k/1296):=GT.ats t _ _ _
 show((t.set n v).yZ (k/1296)).get (pq (k % 1296))=if k=n then some v else(t.yZ (k/1296)).get (pq (k % 1296))
 rw[h]
 by_cases e:k/1296=n/1296
 ·rw[bg e,T4.da,e]
  by_cases z:k % 1296=n % 1296
  ·rw[bg (by rw[z]),bg al]
  rw[aZ (fun h=>z (pq_inj h)),aZ al]
 rw[aZ e,aZ al]
end
abbrev Env:=T4 aj
def Ju:Key:=.mk .d0 .d0 .d0 .d0
def Jv:Key:=.mk .d1 .d0 .d0 .d0
def nX:Key:=.mk .d2 .d0 .d0 .d0
def oU:Key:=.mk .d3 .d0 .d0 .d0
def rb:Key:=.mk .d4 .d0 .d0 .d0
def EE:Key:=.mk .d5 .d0 .d0 .d0
def sF:Key:=.mk .d0 .d1 .d0 .d0
def wC:Key:=.mk .d1 .d1 .d0 .d0
def EF:Key:=.mk .d2 .d1 .d0 .d0
def O1:Key:=.mk .d3 .d1 .d0 .d0
def Nu:Key:=.mk .d4 .d1 .d0 .d0
def Nv:Key:=.mk .d5 .d1 .d0 .d0
def vF:Key:=.mk .d0 .d2 .d0 .d0
def Nw:Key:=.mk .d1 .d2 .d0 .d0
def Nx:Key:=.mk .d2 .d2 .d0 .d0
def Ny:Key:=.mk .d3 .d2 .d0 .d0
def Nz:Key:=.mk .d4 .d2 .d0 .d0
def NA:Key:=.mk .d5 .d2 .d0 .d0
def NB:Key:=.mk .d0 .d3 .d0 .d0
def vG:Key:=.mk .d1 .d3 .d0 .d0
def NC:Key:=.mk .d2 .d3 .d0 .d0
def ND:Key:=.mk .d3 .d3 .d0 .d0
def NF:Key:=.mk .d4 .d3 .d0 .d0
def NG:Key:=.mk .d5 .d3 .d0 .d0
def NH:Key:=.mk .d0 .d4 .d0 .d0
def NI:Key:=.mk .d1 .d4 .d0 .d0
def tU:Key:=.mk .d2 .d4 .d0 .d0
def NJ:Key:=.mk .d3 .d4 .d0 .d0
def NK:Key:=.mk .d4 .d4 .d0 .d0
def NL:Key:=.mk .d5 .d4 .d0 .d0
def NM:Key:=.mk .d0 .d5 .d0 .d0
def NN:Key:=.mk .d1 .d5 .d0 .d0
def NO:Key:=.mk .d2 .d5 .d0 .d0
def qS:Key:=.mk .d3 .d5 .d0 .d0
def tV:Key:=.mk .d4 .d5 .d0 .d0
def NP:Key:=.mk .d5 .d5 .d0 .d0
def NQ:Key:=.mk .d0 .d0 .d1 .d0
def NR:Key:=.mk .d1 .d0 .d1 .d0
def NS:Key:=.mk .d2 .d0 .d1 .d0
def NT:Key:=.mk .d3 .d0 .d1 .d0
def NU:Key:=.mk .d4 .d0 .d1 .d0
def NV:Key:=.mk .d5 .d0 .d1 .d0
def sh:Key:=.mk .d0 .d1 .d1 .d0
def yu:Key:=.mk .d1 .d1 .d1 .d0
def NW:Key:=.mk .d2 .d1 .d1 .d0
def NX:Key:=.mk .d3 .d1 .d1 .d0
def nK:Key:=.mk .d4 .d1 .d1 .d0
def NY:Key:=.mk .d5 .d1 .d1 .d0
def NZ:Key:=.mk .d0 .d2 .d1 .d0
def N0:Key:=.mk .d1 .d2 .d1 .d0
def N1:Key:=.mk .d2 .d2 .d1 .d0
def si:Key:=.mk .d3 .d2 .d1 .d0
def N3:Key:=.mk .d4 .d2 .d1 .d0
def N4:Key:=.mk .d5 .d2 .d1 .d0
def N5:Key:=.mk .d0 .d3 .d1 .d0
def N6:Key:=.mk .d1 .d3 .d1 .d0
def N7:Key:=.mk .d2 .d3 .d1 .d0
def N8:Key:=.mk .d3 .d3 .d1 .d0
def N9:Key:=.mk .d4 .d3 .d1 .d0
def N':Key:=.mk .d5 .d3 .d1 .d0
def aiC:Key:=.mk .d0 .d4 .d1 .d0
def aiD:Key:=.mk .d1 .d4 .d1 .d0
def aiE:Key:=.mk .d2 .d4 .d1 .d0
def aiF:Key:=.mk .d3 .d4 .d1 .d0
def aiG:Key:=.mk .d4 .d4 .d1 .d0
def aiH:Key:=.mk .d5 .d4 .d1 .d0
def aiI:Key:=.mk .d0 .d5 .d1 .d0
def aiJ:Key:=.mk .d1 .d5 .d1 .d0
def aiK:Key:=.mk .d2 .d5 .d1 .d0
def aiL:Key:=.mk .d3 .d5 .d1 .d0
def aiM:Key:=.mk .d4 .d5 .d1 .d0
def aiN:Key:=.mk .d5 .d5 .d1 .d0
def aiO:Key:=.mk .d0 .d0 .d2 .d0
def aiP:Key:=.mk .d1 .d0 .d2 .d0
def aiQ:Key:=.mk .d2 .d0 .d2 .d0
def aiR:Key:=.mk .d3 .d0 .d2 .d0
def aiS:Key:=.mk .d4 .d0 .d2 .d0
def aiT:Key:=.mk .d5 .d0 .d2 .d0
def aiU:Key:=.mk .d0 .d1 .d2 .d0
def aiV:Key:=.mk .d1 .d1 .d2 .d0
def aiW:Key:=.mk .d2 .d1 .d2 .d0
def aiX:Key:=.mk .d3 .d1 .d2 .d0
def aiY:Key:=.mk .d4 .d1 .d2 .d0
def aiZ:Key:=.mk .d5 .d1 .d2 .d0
def ai0:Key:=.mk .d0 .d2 .d2 .d0
def ai1:Key:=.mk .d1 .d2 .d2 .d0
def ai2:Key:=.mk .d2 .d2 .d2 .d0
def ai3:Key:=.mk .d3 .d2 .d2 .d0
def ai4:Key:=.mk .d4 .d2 .d2 .d0
def VG:Key:=.mk .d5 .d2 .d2 .d0
def ai5:Key:=.mk .d0 .d3 .d2 .d0
def ai6:Key:=.mk .d1 .d3 .d2 .d0
def ai7:Key:=.mk .d2 .d3 .d2 .d0
def ai8:Key:=.mk .d3 .d3 .d2 .d0
def ai9:Key:=.mk .d4 .d3 .d2 .d0
def aja:Key:=.mk .d5 .d3 .d2 .d0
inductive RT where
 |emp
 |one (x:List aj)
 |many (s:GT (List aj))
def RT.get(t:RT)(n:Nat):Option (List aj):=
 RT.rec (motive:=fun _=>Nat→Option (List aj)) (fun _=>none) (fun x n=>Nat.rec (motive:=fun _=>Option (List aj)) (some x) (fun _ _=>none) n) GT.get t n
def RT.set(t:RT)(n:Nat)(v:List aj):RT:=
 RT.rec (motive:=fun _=>Nat→List aj→RT) (fun n v=>Nat.rec (motive:=fun _=>RT) (.one v) (fun m _=>.many (GT.emp.set (Nat.succ m) v)) n)
  (fun x n v=>Nat.rec (motive:=fun _=>RT) (.one v) (fun m _=>.many ((GT.emp.set 0 x).set (Nat.succ m) v)) n) (fun s n v=>.many (s.set n v)) t n v
theorem RT.da(t:RT)(n k:Nat)(v:List aj):(t.set n v).get k=if k=n then some v else t.get k:=by
 cases t with
 |emp=>cases n with
  |zero=>cases k<;>rfl
  |succ n=>exact(GT.da GT.emp (n+1) k v).trans (by rw[GT.ta];rfl)
 |one x=>cases n with
  |zero=>cases k<;>rfl
  |succ n=>
   refine(GT.da (GT.emp.set 0 x) (n+1) k v).trans ?_;rw[GT.da,GT.ta]
   cases k<;>rfl
 |many s=>exact GT.da s n k v
inductive cV where
 |row (elem es aD n lo fl:Nat) (cs:RT)
 |map (es:List (aj×aj))
abbrev HT:=GT cV
structure ax where
 next:Nat
 aR:Nat
 ws:List Nat
 t:HT
inductive aG where
 |t (n:Key)
 |c (v:aj)
inductive EG where
 |bool|ptr|agg (ks:List Nat)|slice|iface|func|map
inductive bq where
 |d8 (x:aG)
 |pick (c a b:aG)
 |pI (elem es aD:Nat) (cells:List aj)
 |box (elem es aD:Nat) (x:aG)
 |load (n:Nat) (agg:Bool) (a:aG)
 |store (n:Nat) (a x:aG)
 |bin (op:BinOp) (x y:aG)
 |eqv (c:EG) (neg:Bool) (x y:aG)
 |un (op:UnOp) (x:aG)
 |eR (x:aG) (k:Nat)
 |sub (x:aG) (off n:Nat) (agg:Bool)
 |Ab (len es:Nat) (x i:aG)
 |j0 (es:Nat) (x i:aG)
 |CO (len es:Nat) (agg:Bool) (x i:aG)
 |CP (x i:aG)
 |Hi (x:aG) (lo hi:Option aG)
 |tW (es:Nat) (x:aG) (lo hi:Option aG)
 |Jw (es:Nat) (x:aG) (lo:Option aG) (hi mx:aG)
 |vH (x:aG) (i:Nat)
 |rT (x:aG)
 |yv (f:Nat) (first eo:List aG)
 |vI (elem es aD:Nat) (zero:List aj) (len cap:aG)
 |build (zero:List aj) (parts:List (Nat×Nat×aG))
 |tb (elem es aD len:Nat) (zero:List aj) (parts:List (Nat×aG))
 |len (x:aG)
 |tX (x:aG)
 |app (elem es aD:Nat) (x y:aG)
 |xl (elem:Nat) (x y:aG)
 |copy (es:Nat) (x y:aG)
 |xm (mx:Bool) (x:aG) (ys:List aG)
 |conv (k:IntKind) (x:aG)
 |xn (x:aG)
 |call (f:Nat) (args:List aG)
 |tB (x:aG) (args:List aG)
structure bk where
 dst:Option Key
 g:Option (Key×Bool)
 q:Option (List Nat)
 op:bq
inductive jO where
 |tmp (t:Key)
 |cell (a:Key) (n:Nat) (agg:Bool)
inductive IC where
 |skip
 |region (draw:Bool) (ops:List bk)
 |seq (a b:IC)
 |cond (c:aG) (a b:IC)
 |block (id:Nat) (b:IC)
 |loop (b:IC)
 |exit (id:Nat)
 |ret
structure aO where
 nt:Nat
 ps:List Key
 res:List jO
 body:IC
inductive aC where
 |ok (v:aj) (H:ax)
 |err (n:Nat)
inductive dH where
 |ok (E:Env) (H:ax)
 |err (n:Nat)
inductive Ex where
 |normal|exit (id:Nat)|ret
inductive Out where
 |ok (x:Ex) (E:Env) (H:ax)
 |err (n:Nat)
def T4.D8(E:Env)(key:Key)(v:aj)(c:Env→dH):dH:=E.fB key v c
theorem T4.FM(E:Env)(key:Key)(v:aj)(c:Env→dH):E.D8 key v c=c (E.set key v):=T4.jI E key v c
def RT.fB(t:RT)(n:Nat)(v:List aj)(c:RT→aC):aC:=
 RT.rec (motive:=fun _=>Nat→List aj→(RT→aC)→aC) (fun n v c=>Nat.rec (motive:=fun _=>aC) (c (.one v)) (fun m _=>GT.emp.fB (Nat.succ m) v fun s=>c (.many s)) n)
  (fun x n v c=>Nat.rec (motive:=fun _=>aC) (c (.one v)) (fun m _=>GT.emp.fB 0 x fun s=>s.fB (Nat.succ m) v fun s=>c (.many s)) n) (fun s n v c=>s.fB n v fun s=>c (.many s)) t n v c
theorem RT.jI(t:RT)(n:Nat)(v:List aj)(c:RT→aC):t.fB n v c=c (t.set n v):=by
 cases t with
 |emp=>cases n with
  |zero=>rfl
  |succ n=>exact GT.jI _ _ _ _
 |one x=>cases n with
  |zero=>rfl
  |succ n=>exact(GT.jI _ _ _ _).trans (GT.jI _ _ _ _)
 |many s=>exact GT.jI _ _ _ _
def mJ(v:aj)(k:aj→aC):aC:=
 aj.rec (motive_1:=fun _=>(aj→aC)→aC) (motive_2:=fun _=>Unit) (fun b z=>Bool.rec (motive:=fun _=>aC) (z (.bool false)) (z (.bool true)) b) (fun k n z=>lS n fun n=>z (.int k n)) (fun l v z=>cm l fun l=>cm v fun v=>z (.str l v)) (fun f g o z=>cm f fun f=>cm g fun g=>cm o fun o=>z (.ptr f g o)) (fun z=>z (.mI)) (fun f g o l es z=>cm f fun f=>cm g fun g=>cm o fun o=>cm l fun l=>z (.slice f g o l es)) (fun z=>z (.fR)) (fun cs _ z=>z (.agg cs)) (fun vs _ z=>z (.tuple vs)) (fun f fs eo _ _ z=>z (.func f fs eo)) (fun z=>z (.ns)) (fun t v _ z=>z (.iface t v)) (fun z=>z (.kA)) (fun f z=>z (.map f)) (fun z=>z (.uX)) (fun z=>z (.undef)) () (fun _ _ _ _=>()) v k
theorem wX(v:aj)(k:aj→aC):mJ v k=k v:=by
 cases v<;>simp[mJ,wW,fy]
 rename_i b;cases b<;>rfl
def aI{β:Type}(b:Bool)(k e:β):β:=Bool.rec (motive:=fun _=>β) e k b
def ob{α β:Type}(o:Option α)(e:β)(k:α→β):β:=Option.rec (motive:=fun _=>β) e k o
def pc{β:Type}(b:Bool)(k:Bool→β):β:=Bool.rec (motive:=fun _=>β) (k false) (k true) b
def uY(v:aj)(e:aC)(k:Bool→aC):aC:=
 aj.rec (motive_1:=fun _=>aC→(Bool→aC)→aC) (motive_2:=fun _=>Unit) (fun b e z=>z b) (fun _ _ e _=>e) (fun _ _ e _=>e) (fun _ _ _ e _=>e) (fun e _=>e) (fun _ _ _ _ _ e _=>e) (fun e _=>e) (fun _ _ e _=>e) (fun _ _ e _=>e) (fun _ _ _ _ _ e _=>e) (fun e _=>e) (fun _ _ _ e _=>e) (fun e _=>e) (fun _ e _=>e) (fun e _=>e) (fun e _=>e) () (fun _ _ _ _=>()) v e k
def yw(v:aj)(s:dH)(k:Bool→dH):dH:=
 aj.rec (motive_1:=fun _=>dH→(Bool→dH)→dH) (motive_2:=fun _=>Unit) (fun b e z=>z b) (fun _ _ _ _=>.err 51) (fun _ _ _ _=>.err 51) (fun _ _ _ _ _=>.err 51) (fun _ _=>.err 51) (fun _ _ _ _ _ _ _=>.err 51) (fun _ _=>.err 51) (fun _ _ _ _=>.err 51) (fun _ _ _ _=>.err 51) (fun _ _ _ _ _ _ _=>.err 51) (fun _ _=>.err 51) (fun _ _ _ _ _=>.err 51) (fun _ _=>.err 51) (fun _ _ _=>.err 51) (fun _ _=>.err 51) (fun s _=>s) () (fun _ _ _ _=>()) v s k
def abz(v:aj)(e:Out)(k:Bool→Out):Out:=
 aj.rec (motive_1:=fun _=>Out→(Bool→Out)→Out) (motive_2:=fun _=>Unit) (fun b e z=>z b) (fun _ _ e _=>e) (fun _ _ e _=>e) (fun _ _ _ e _=>e) (fun e _=>e) (fun _ _ _ _ _ e _=>e) (fun e _=>e) (fun _ _ e _=>e) (fun _ _ e _=>e) (fun _ _ _ _ _ e _=>e) (fun e _=>e) (fun _ _ _ e _=>e) (fun e _=>e) (fun _ e _=>e) (fun e _=>e) (fun e _=>e) () (fun _ _ _ _=>()) v e k
def fA(v:aj)(e:aC)(k:IntKind→Int→aC):aC:=
 aj.rec (motive_1:=fun _=>aC→(IntKind→Int→aC)→aC) (motive_2:=fun _=>Unit) (fun _ e _=>e) (fun k n e z=>z k n) (fun _ _ e _=>e) (fun _ _ _ e _=>e) (fun e _=>e) (fun _ _ _ _ _ e _=>e) (fun e _=>e) (fun _ _ e _=>e) (fun _ _ e _=>e) (fun _ _ _ _ _ e _=>e) (fun e _=>e) (fun _ _ _ e _=>e) (fun e _=>e) (fun _ e _=>e) (fun e _=>e) (fun e _=>e) () (fun _ _ _ _=>()) v e k
def lB(v:aj)(e:aC)(k:Nat→Nat→aC):aC:=
 aj.rec (motive_1:=fun _=>aC→(Nat→Nat→aC)→aC) (motive_2:=fun _=>Unit) (fun _ e _=>e) (fun _ _ e _=>e) (fun l v e z=>z l v) (fun _ _ _ e _=>e) (fun e _=>e) (fun _ _ _ _ _ e _=>e) (fun e _=>e) (fun _ _ e _=>e) (fun _ _ e _=>e) (fun _ _ _ _ _ e _=>e) (fun e _=>e) (fun _ _ _ e _=>e) (fun e _=>e) (fun _ e _=>e) (fun e _=>e) (fun e _=>e) () (fun _ _ _ _=>()) v e k
def jf(v:aj)(e:aC)(k:Nat→Nat→Nat→aC):aC:=
 aj.rec (motive_1:=fun _=>aC→(Nat→Nat→Nat→aC)→aC) (motive_2:=fun _=>Unit) (fun _ e _=>e) (fun _ _ e _=>e) (fun _ _ e _=>e) (fun f g o e z=>z f g o) (fun e _=>e) (fun _ _ _ _ _ e _=>e) (fun e _=>e) (fun _ _ e _=>e) (fun _ _ e _=>e) (fun _ _ _ _ _ e _=>e) (fun e _=>e) (fun _ _ _ e _=>e) (fun e _=>e) (fun _ e _=>e) (fun e _=>e) (fun e _=>e) () (fun _ _ _ _=>()) v e k
def fc(v:aj)(e n:aC)(k:Nat→Nat→Nat→Nat→Nat→aC):aC:=
 aj.rec (motive_1:=fun _=>aC→aC→(Nat→Nat→Nat→Nat→Nat→aC)→aC) (motive_2:=fun _=>Unit) (fun _ e _ _=>e) (fun _ _ e _ _=>e) (fun _ _ e _ _=>e) (fun _ _ _ e _ _=>e) (fun e _ _=>e) (fun f g o l es e _ z=>z f g o l es) (fun _ n _=>n) (fun _ _ e _ _=>e) (fun _ _ e _ _=>e) (fun _ _ _ _ _ e _ _=>e) (fun e _ _=>e) (fun _ _ _ e _ _=>e) (fun e _ _=>e) (fun _ e _ _=>e) (fun e _ _=>e) (fun e _ _=>e) () (fun _ _ _ _=>()) v e n k
def mO(v:aj)(e:aC)(k:List aj→aC):aC:=
 aj.rec (motive_1:=fun _=>aC→(List aj→aC)→aC) (motive_2:=fun _=>Unit) (fun _ e _=>e) (fun _ _ e _=>e) (fun _ _ e _=>e) (fun _ _ _ e _=>e) (fun e _=>e) (fun _ _ _ _ _ e _=>e) (fun e _=>e) (fun cs _ e z=>z cs) (fun _ _ e _=>e) (fun _ _ _ _ _ e _=>e) (fun e _=>e) (fun _ _ _ e _=>e) (fun e _=>e) (fun _ e _=>e) (fun e _=>e) (fun e _=>e) () (fun _ _ _ _=>()) v e k
def uQ(v:aj)(e:aC)(k:List aj→aC):aC:=
 aj.rec (motive_1:=fun _=>aC→(List aj→aC)→aC) (motive_2:=fun _=>Unit) (fun _ e _=>e) (fun _ _ e _=>e) (fun _ _ e _=>e) (fun _ _ _ e _=>e) (fun e _=>e) (fun _ _ _ _ _ e _=>e) (fun e _=>e) (fun _ _ e _=>e) (fun vs _ e z=>z vs) (fun _ _ _ _ _ e _=>e) (fun e _=>e) (fun _ _ _ e _=>e) (fun e _=>e) (fun _ e _=>e) (fun e _=>e) (fun e _=>e) () (fun _ _ _ _=>()) v e k
def xo(v:aj)(e:aC)(k:Nat→List aj→List aj→aC):aC:=
 aj.rec (motive_1:=fun _=>aC→(Nat→List aj→List aj→aC)→aC) (motive_2:=fun _=>Unit) (fun _ e _=>e) (fun _ _ e _=>e) (fun _ _ e _=>e) (fun _ _ _ e _=>e) (fun e _=>e) (fun _ _ _ _ _ e _=>e) (fun e _=>e) (fun _ _ e _=>e) (fun _ _ e _=>e) (fun f fs eo _ _ e z=>z f fs eo) (fun e _=>e) (fun _ _ _ e _=>e) (fun e _=>e) (fun _ e _=>e) (fun e _=>e) (fun e _=>e) () (fun _ _ _ _=>()) v e k
def adT(v:aj)(e:Option Nat)(k:IntKind→Int→Option Nat):Option Nat:=
 aj.rec (motive_1:=fun _=>Option Nat→(IntKind→Int→Option Nat)→Option Nat) (motive_2:=fun _=>Unit) (fun _ e _=>e) (fun k n e z=>z k n) (fun _ _ e _=>e) (fun _ _ _ e _=>e) (fun e _=>e) (fun _ _ _ _ _ e _=>e) (fun e _=>e) (fun _ _ e _=>e) (fun _ _ e _=>e) (fun _ _ _ _ _ e _=>e) (fun e _=>e) (fun _ _ _ e _=>e) (fun e _=>e) (fun _ e _=>e) (fun e _=>e) (fun e _=>e) () (fun _ _ _ _=>()) v e k
def adU(v:aj)(e:Option aj)(k:IntKind→Int→Option aj):Option aj:=
 aj.rec (motive_1:=fun _=>Option aj→(IntKind→Int→Option aj)→Option aj) (motive_2:=fun _=>Unit) (fun _ e _=>e) (fun k n e z=>z k n) (fun _ _ e _=>e) (fun _ _ _ e _=>e) (fun e _=>e) (fun _ _ _ _ _ e _=>e) (fun e _=>e) (fun _ _ e _=>e) (fun _ _ e _=>e) (fun _ _ _ _ _ e _=>e) (fun e _=>e) (fun _ _ _ e _=>e) (fun e _=>e) (fun _ e _=>e) (fun e _=>e) (fun e _=>e) () (fun _ _ _ _=>()) v e k
def iL(v:aj):Option (List aj):=
 aj.rec (motive_1:=fun _=>Option (List aj)) (motive_2:=fun _=>Unit) (fun b=>some [.bool b]) (fun k n=>some [.int k n]) (fun l v=>some [.str l v]) (fun f g o=>some [.ptr f g o]) (some [.mI]) (fun f g o l es=>some [.slice f g o l es]) (some [.fR]) (fun cs _=>some cs) (fun _ _=>none) (fun f fs eo _ _=>some [.func f fs eo]) (some [.ns]) (fun t v _=>some [.iface t v]) (some [.kA]) (fun f=>some [.map f]) (some [.uX]) (none) () (fun _ _ _ _=>()) v
def kN{β:Type}(o:Option cV)(e:β)(k:Nat→Nat→Nat→Nat→Nat→Nat→RT→β):β:=
 Option.rec (motive:=fun _=>β) e (fun o=>cV.casesOn (motive:=fun _=>β) o k (fun _=>e)) o
def iN{β:Type}(i:Int)(e:β)(k:Nat→β):β:=Int.rec (motive:=fun _=>β) k (fun _=>e) i
def gI(l:List aj):Nat:=List.rec (motive:=fun _=>Nat) 0 (fun _ _ z=>Nat.succ z) l
def ax.alloc(H:ax)(o:cV)(k:Nat→ax→aC):aC:=
 ax.casesOn (motive:=fun _=>aC) H fun next aR ws t=>cm next fun f=>t.fB f o fun t=>k f ⟨Nat.succ f,aR,ws,t⟩
def pJ(f:Nat)(l:List Nat):Bool:=
 List.rec (motive:=fun _=>Bool) false (fun x _ z=>aI (Nat.beq f x) true z) l
def wrote(f aR:Nat)(ws:List Nat):List Nat:=
 aI (Nat.ble aR f) ws (aI (pJ f ws) ws (f::ws))
def rd{β:Type}(H:ax)(f g off n:Nat)(e:β)(k:List aj→β):β:=
 kN (H.t.get f) e fun _ es _ m lo _ cs=>
  aI (Nat.ble lo g) (aI (Nat.ble g m) (aI (Nat.ble (Nat.add (Nat.mod off es) n) es) (aI (Nat.ble (Nat.succ (Nat.div off es)) g)
   (ob (cs.get (Nat.div off es)) e fun l=>aI (Nat.beq n es) (k l) (k ((l.drop (Nat.mod off es)).take n))) e) e) e) e
def ed(l:List aj)(r:Nat)(new:List aj):List aj:=l.take r++(new++l.drop (r+new.length))
def wr(H:ax)(f g off n:Nat)(new:List aj)(e:aC)(k:ax→aC):aC:=
 ax.casesOn (motive:=fun _=>aC) H fun next aR ws t=>kN (t.get f) e fun elem es aD m lo fl cs=>
  aI (Nat.beq fl 0) (aI (Nat.beq g m) (aI (Nat.ble lo g) (aI (Nat.ble (Nat.add (Nat.mod off es) n) es) (aI (Nat.ble (Nat.succ (Nat.div off es)) g) (aI (Nat.beq (gI new) n)
   (ob (cs.get (Nat.div off es)) e fun l=>
    cs.fB (Nat.div off es) (aI (Nat.beq n es) new (ed l (Nat.mod off es) new)) fun cs=>t.fB f (.row elem es aD m m 0 cs) fun t=>
     k ⟨next,aR,wrote f aR ws,t⟩) e) e) e) e) e) e
def Ac(v i:Nat):Nat:=Nat.mod (Nat.shiftRight v (Nat.mul 8 i)) 256
def R6(v lo hi:Nat):Nat:=Nat.mod (Nat.shiftRight v (Nat.mul 8 lo)) (Nat.shiftLeft 1 (Nat.mul 8 (Nat.sub hi lo)))
def Gk(z A G:Nat):Nat:=Nat.add A (Nat.shiftLeft G (Nat.mul 8 z))
def strLt(L:Nat):Nat→Nat→Nat→Bool:=
 Nat.rec (motive:=fun _=>Nat→Nat→Nat→Bool) (fun _ z _=>Bool.not (Nat.beq z 0))
  (fun _ M A z G=>Nat.rec (motive:=fun _=>Bool) false (fun I _=>
   match Nat.beq (Nat.mod A 256) (Nat.mod G 256) with
   |true=>M (Nat.div A 256) I (Nat.div G 256)
   |false=>Nat.ble (Nat.succ (Nat.mod A 256)) (Nat.mod G 256)) z) L
def pack:List UInt8→Nat
 |[]=>0
 |b::r=>b.toNat+256*pack r
def cK:IntKind→Nat
 |.i8=>0|.i16=>1|.i32=>2|.i64=>3|.u8=>4|.u16=>5|.u32=>6|.u64=>7
def lW(k:IntKind)(n:Int):Int:=
 match k,n with
 |.i64,.ofNat m=>match Nat.ble m 9223372036854775807 with|true=>.ofNat m|false=>IntKind.wrap .i64 (.ofNat m)
 |.i64,.negSucc m=>match Nat.ble m 9223372036854775807 with|true=>.negSucc m|false=>IntKind.wrap .i64 (.negSucc m)
 |k,n=>k.wrap n
def fv:Int→Int→Bool
 |.ofNat a,.ofNat b=>Nat.ble (Nat.succ a) b
 |.ofNat _,.negSucc _=>false
 |.negSucc _,.ofNat _=>true
 |.negSucc a,.negSucc b=>Nat.ble (Nat.succ b) a
def mr:Int→Int→Bool
 |.ofNat a,.ofNat b=>Nat.beq a b
 |.negSucc a,.negSucc b=>Nat.beq a b
 |_,_=>false
def intBits(op:BinOp)(k:IntKind)(x y:Int):Option Int:=
 let a:=BitVec.ofInt k.bits x
 let b:=BitVec.ofInt k.bits y
 match op with
 |.and=>some (k.wrap ((a&&&b).toNat))
 |.or=>some (k.wrap ((a|||b).toNat))
 |.xor=>some (k.wrap ((a^^^b).toNat))
 |.andNot=>some (k.wrap ((a&&&~~~b).toNat))
 |_=>none
def gl(op:BinOp)(k:IntKind)(a:Int)(z:IntKind)(b:Int):Option aj:=
 match op with
 |.shl=>aI (fv b 0) none (some (.int k (lW k (a*2^(Nat.min b.toNat k.bits)))))
 |.shr=>aI (fv b 0) none (some (.int k (a.fdiv (2^(Nat.min b.toNat k.bits)))))
 |.add=>aI (Nat.beq (cK k) (cK z)) (some (.int k (lW k (a+b)))) none
 |.sub=>aI (Nat.beq (cK k) (cK z)) (some (.int k (lW k (a-b)))) none
 |.mul=>aI (Nat.beq (cK k) (cK z)) (some (.int k (lW k (a*b)))) none
 |.quo=>aI (Nat.beq (cK k) (cK z)) (aI (mr b 0) none (some (.int k (lW k (a.tdiv b))))) none
 |.rem=>aI (Nat.beq (cK k) (cK z)) (aI (mr b 0) none (some (.int k (a.tmod b)))) none
 |.eql=>aI (Nat.beq (cK k) (cK z)) (some (.bool (mr a b))) none
 |.neq=>aI (Nat.beq (cK k) (cK z)) (some (.bool (Bool.not (mr a b)))) none
 |.lss=>aI (Nat.beq (cK k) (cK z)) (some (.bool (fv a b))) none
 |.leq=>aI (Nat.beq (cK k) (cK z)) (some (.bool (Bool.not (fv b a)))) none
 |.gtr=>aI (Nat.beq (cK k) (cK z)) (some (.bool (fv b a))) none
 |.geq=>aI (Nat.beq (cK k) (cK z)) (some (.bool (Bool.not (fv a b)))) none
 |op=>aI (Nat.beq (cK k) (cK z)) (ob (intBits op k a b) none fun r=>some (.int k r)) none
def AJ(z A G I:Nat):Bool:=match Nat.beq z G with|true=>Nat.beq A I|false=>false
def R7(op:BinOp)(z G A I:Nat):Option aj:=
 match op with
 |.add=>aI (Nat.ble (Nat.add z A) 4611686018427387904) (some (.str (Nat.add z A) (Gk z G I))) none
 |.eql=>some (.bool (AJ z G A I))
 |.neq=>some (.bool (Bool.not (AJ z G A I)))
 |.lss=>some (.bool (strLt z G A I))
 |.leq=>some (.bool (Bool.not (strLt A I z G)))
 |.gtr=>some (.bool (strLt A I z G))
 |.geq=>some (.bool (Bool.not (strLt z G A I)))
 |_=>none
def D9(op:BinOp)(x y:aj):Option aj:=
 match x,y with
 |.int k a,.int z b=>gl op k a z b
 |.str A G,.str I L=>R7 op A G I L
 |_,_=>none
def O2(op:UnOp)(x:aj):Option aj:=
 match op,x with
 |.neg,.int k n=>some (.int k (lW k (0-n)))
 |.xor,.int k n=>ob (intBits .xor k (if k.signed then-1 else k.max) n) none fun r=>some (.int k r)
 |.not,.bool b=>some (.bool (Bool.not b))
 |_,_=>none
def Gl(c:Nat):aj→Bool
 |.int k _=>Nat.beq (cK k) c
 |.bool _=>Nat.beq c 100
 |.str _ _=>Nat.beq c 101
 |_=>false
def kC:List Nat→List aj→Bool
 |[],[]=>true
 |c::r,a::s=>Gl c a&&kC r s
 |_,_=>false
def Fu:aj→aj→Option Bool
 |.int k a,.int z b=>match Nat.beq (cK k) (cK z) with|true=>some (mr a b)|false=>none
 |.bool a,.bool b=>some (a==b)
 |.str A G,.str I L=>some (AJ A G I L)
 |_,_=>none
def tc:List aj→List aj→Option Bool
 |[],[]=>some true
 |a::r,b::s=>match Fu a b with
  |some true=>tc r s
  |some false=>match tc r s with|some _=>some false|none=>none
  |none=>none
 |_,_=>none
def pX(c:EG)(x y:aj):Option Bool:=
 match c with
 |.bool=>match x,y with|.bool a,.bool b=>some (a==b)|_,_=>none
 |.ptr=>match x,y with
  |.mI,.mI=>some true
  |.mI,.ptr _ _ _=>some false
  |.ptr _ _ _,.mI=>some false
  |.ptr f g o,.ptr f' g' z=>aI (Nat.beq f f') (aI (Nat.beq g g') (aI (Nat.beq o z) (some true) none) none) none
  |_,_=>none
 |.agg ks=>match x,y with|.agg a,.agg b=>aI (kC ks a) (aI (kC ks b) (tc a b) none) none|_,_=>none
 |.slice=>match x,y with
  |.fR,.fR=>some true
  |.fR,.slice _ _ _ _ _=>some false
  |.slice _ _ _ _ _,.fR=>some false
  |_,_=>none
 |.iface=>match x,y with
  |.kA,.kA=>some true
  |.kA,.iface _ _=>some false
  |.iface _ _,.kA=>some false
  |.iface t _,.iface t' _=>aI (Nat.beq t t') none (some false)
  |_,_=>none
 |.func=>match x,y with
  |.ns,.ns=>some true
  |.ns,.func _ _ _=>some false
  |.func _ _ _,.ns=>some false
  |_,_=>none
 |.map=>match x,y with
  |.uX,.uX=>some true
  |_,_=>none
def ui(m n:Nat):Int:=Bool.rec (motive:=fun _=>Int) (.negSucc (Nat.pred (Nat.sub n m))) (.ofNat (Nat.sub m n)) (Nat.ble n m)
def ajb(x y:Int):Int:=
 Int.rec (motive:=fun _=>Int→Int) (fun m y=>Int.rec (motive:=fun _=>Int) (fun n=>.ofNat (Nat.add m n)) (fun n=>ui m (Nat.succ n)) y)
  (fun m y=>Int.rec (motive:=fun _=>Int) (fun n=>ui n (Nat.succ m)) (fun n=>.negSucc (Nat.succ (Nat.add m n))) y) x y
def ajc(x y:Int):Int:=
 Int.rec (motive:=fun _=>Int→Int) (fun m y=>Int.rec (motive:=fun _=>Int) (fun n=>ui m n) (fun n=>.ofNat (Nat.add m (Nat.succ n))) y)
  (fun m y=>Int.rec (motive:=fun _=>Int) (fun n=>.negSucc (Nat.add m n)) (fun n=>ui n m) y) x y
def Jx(x y:Int):Bool:=
 Int.rec (motive:=fun _=>Int→Bool) (fun m y=>Int.rec (motive:=fun _=>Bool) (fun n=>Nat.ble (Nat.succ m) n) (fun _=>false) y)
  (fun m y=>Int.rec (motive:=fun _=>Bool) (fun _=>true) (fun n=>Nat.ble (Nat.succ n) m) y) x y
def Xp(x y:Int):Bool:=
 Int.rec (motive:=fun _=>Int→Bool) (fun m y=>Int.rec (motive:=fun _=>Bool) (fun n=>Nat.beq m n) (fun _=>false) y)
  (fun m y=>Int.rec (motive:=fun _=>Bool) (fun _=>false) (fun n=>Nat.beq m n) y) x y
def w64(n:Int):Int:=
 Int.rec (motive:=fun _=>Int) (fun m=>Bool.rec (motive:=fun _=>Int) (IntKind.wrap .i64 (.ofNat m)) (.ofNat m) (Nat.ble m 9223372036854775807))
  (fun m=>Bool.rec (motive:=fun _=>Int) (IntKind.wrap .i64 (.negSucc m)) (.negSucc m) (Nat.ble m 9223372036854775807)) n
def wU(mx:Nat)(k:IntKind)(n:Int):Int:=
 Int.rec (motive:=fun _=>Int) (fun m=>Bool.rec (motive:=fun _=>Int) (IntKind.wrap k (.ofNat m)) (.ofNat m) (Nat.ble m mx)) (fun m=>IntKind.wrap k (.negSucc m)) n
def Ua(k:IntKind):Int→Int:=
 IntKind.rec (motive:=fun _=>Int→Int) (IntKind.wrap .i8) (IntKind.wrap .i16) (IntKind.wrap .i32) w64 (wU 255 .u8) (wU 65535 .u16) (wU 4294967295 .u32) (wU 18446744073709551615 .u64) k
def nB(op:BinOp)(a b:aj)(k:aj→aC):aC:=ob (D9 op a b) (.err 6) fun v=>mJ v k
def R8(f:Int→Int→Int)(op:BinOp)(a b:aj)(k:aj→aC):aC:=
 fA a (nB op a b k) fun z x=>fA b (nB op a b k) fun A y=>aI (Nat.beq (cK z) (cK A)) (lS (Ua z (f x y)) fun r=>k (.int z r)) (.err 6)
def Bg(f:Int→Int→Bool)(op:BinOp)(a b:aj)(k:aj→aC):aC:=
 fA a (nB op a b k) fun A x=>fA b (nB op a b k) fun z y=>aI (Nat.beq (cK A) (cK z)) (pc (f x y) fun r=>k (.bool r)) (.err 6)
def neI(x y:Int):Bool:=Bool.not (Xp x y)
def leI(x y:Int):Bool:=Bool.not (Jx y x)
def gtI(x y:Int):Bool:=Jx y x
def geI(x y:Int):Bool:=Bool.not (Jx x y)
def D'(op:BinOp):aj→aj→(aj→aC)→aC:=
 BinOp.rec (motive:=fun _=>aj→aj→(aj→aC)→aC) (R8 ajb .add) (R8 ajc .sub) (nB .mul) (nB .quo) (nB .rem) (nB .and) (nB .or) (nB .xor) (nB .shl) (nB .shr) (nB .andNot)
  (Bg Xp .eql) (Bg neI .neq) (Bg Jx .lss) (Bg leI .leq) (Bg gtI .gtr) (Bg geI .geq) op
def eM:aj→Bool
 |.agg _=>false|.tuple _=>false|.undef=>false|_=>true
def fO(agg:Bool)(l:List aj)(e:aC)(k:aj→aC):aC:=
 aI agg (k (.agg l)) (List.rec (motive:=fun _=>aC) e (fun v r _=>List.rec (motive:=fun _=>aC) (k v) (fun _ _ _=>e) r) l)
def aG.ev(x:aG)(E:Env):Option aj:=
 aG.casesOn (motive:=fun _=>Option aj) x (fun n=>E.get n) some
def bt(x:aG)(E:Env)(e:aC)(k:aj→aC):aC:=
 aG.casesOn (motive:=fun _=>aC) x (fun n=>ob (E.get n) e k) k
def iB(E:Env)(l:List aG):Option (List aj):=
 List.rec (motive:=fun _=>Option (List aj)) (some []) (fun x _ z=>ob (x.ev E) none fun v=>ob z none fun vs=>some (v::vs)) l
def en(E:Env)(x:Option aG)(z y:Nat)(e:aC)(k:Nat→aC):aC:=
 Option.rec (motive:=fun _=>aC) (k z) (fun x=>ob (x.ev E) e fun v=>fA v e fun _ i=>iN i e fun n=>aI (Nat.ble n y) (k n) e) x
def idx(v:aj)(n:Nat)(e:aC)(k:Nat→aC):aC:=
 fA v e fun _ i=>iN i e fun i=>aI (Nat.ble (Nat.succ i) n) (k i) e
def elems(H:ax)(f g es:Nat)(n:Nat):Nat→Option (List (List aj)):=
 Nat.rec (motive:=fun _=>Nat→Option (List (List aj))) (fun _=>some [])
  (fun _ z off=>rd H f g off es none fun l=>ob (z (Nat.add off es)) none fun r=>some (l::r)) n
def gE(l:List (List aj)):RT→Nat→RT:=
 List.rec (motive:=fun _=>RT→Nat→RT) (fun t _=>t) (fun x _ z t i=>z (t.set i x) (Nat.succ i)) l
def xL(l:List (List aj)):RT→Nat→(RT→aC)→aC:=
 List.rec (motive:=fun _=>RT→Nat→(RT→aC)→aC) (fun t _ c=>c t) (fun x _ z t i c=>t.fB i x fun t=>cm (Nat.succ i) fun i=>z t i c) l
theorem Cr:∀(l:List (List aj))(t:RT)(i:Nat)(c:RT→aC),xL l t i c=c (gE l t i)
 |[],_,_,_=>rfl
 |x::l,t,i,c=>by
  show(t.fB i x fun t=>cm (Nat.succ i) fun i=>xL l t i c)=c (gE l (t.set i x) (i+1));rw[RT.jI,fy,Cr l]
def oD(x:List aj)(n:Nat):RT:=
 Nat.rec (motive:=fun _=>RT) .emp (fun m t=>t.set m x) n
def Bh(x:List aj)(n:Nat):(RT→aC)→aC:=
 Nat.rec (motive:=fun _=>(RT→aC)→aC) (fun c=>c .emp) (fun m z c=>z fun t=>t.fB m x c) n
theorem KN(x:List aj):∀(n:Nat)(c:RT→aC),Bh x n c=c (oD x n)
 |0,_=>rfl
 |n+1,c=>by
  show(Bh x n fun t=>t.fB n x c)=c ((oD x n).set n x);rw[KN x n,RT.jI]
def uZ(l:Nat):Nat→List (List aj):=
 Nat.rec (motive:=fun _=>Nat→List (List aj)) (fun _=>[]) (fun _ z v=>[aj.int .u8 (Int.ofNat (Nat.mod v 256))]::z (Nat.div v 256)) l
def qo(E:Env)(parts:List (Nat×Nat×aG)):List aj→Option (List aj):=
 List.rec (motive:=fun _=>List aj→Option (List aj)) some
  (fun p _ z cells=>ob (p.2.2.ev E) none fun v=>ob (iL v) none fun new=>aI (Nat.beq (gI new) p.2.1) (z (ed cells p.1 new)) none) parts
def rK(E:Env)(es z:Nat)(parts:List (Nat×aG)):RT→Option RT:=
 List.rec (motive:=fun _=>RT→Option RT) some
  (fun p _ A t=>ob (p.2.ev E) none fun v=>ob (iL v) none fun new=>aI (Nat.beq (gI new) es) (aI (Nat.ble (Nat.succ p.1) z) (A (t.set p.1 new)) none) none) parts
def Ad(elem es aD n:Nat)(new:List (List aj))(H:ax):aC:=
 aI (Nat.ble (Nat.mul n aD) 70368744177664)
  (xL new .emp 0 fun cs=>H.alloc (.row elem es aD n n 0 cs) fun f H=>.ok (.slice f n 0 n es) H) (.err 35)
def Q4(elem es aD n:Nat)(new:List (List aj))(H:ax)(f g off I cW:Nat):aC:=
 ax.casesOn (motive:=fun _=>aC) H fun next aR ws t=>kN (t.get f) (.err 33) fun z A mc m lo fl cs=>
  aI (Nat.beq off 0) (aI (Nat.beq g m) (aI (Nat.ble lo g) (aI (Nat.beq I m) (aI (Nat.beq cW es) (aI (Nat.beq A es) (aI (Nat.beq fl 1) (.err 32)
   (aI (Nat.ble (Nat.mul (Nat.add m n) aD) 70368744177664) (aI (Nat.beq elem z)
    (cm (Nat.add m n) fun G=>xL new cs m fun cs=>t.fB f (.row z A mc G lo fl cs) fun t=>
     .ok (.slice f G 0 G es) ⟨next,aR,wrote f aR ws,t⟩) (.err 32)) (.err 32))) (.err 32)) (.err 32)) (.err 32)) (.err 32)) (.err 32)) (.err 32)
def R9(es n:Nat)(new:List (List aj))(H:ax)(f g off z cW:Nat):aC:=
 aI (Nat.beq n 1) (aI (Nat.beq off 0) (aI (Nat.beq cW es) (aI (Nat.ble (Nat.succ z) g)
  (List.rec (motive:=fun _=>aC) (.err 32) (fun row _ _=>wr H f g (Nat.mul z es) es row (.err 32) fun H=>.ok (.slice f g 0 (Nat.succ z) es) H) new)
  (.err 32)) (.err 32)) (.err 32)) (.err 32)
def Ae(elem es aD n:Nat)(new:List (List aj))(H:ax)(f g off z cW:Nat):aC:=
 aI (Nat.beq z g) (Q4 elem es aD n new H f g off z cW) (R9 es n new H f g off z cW)
def iT(elem es aD n:Nat)(new:List (List aj))(H:ax)(x:aj):aC:=
 Nat.rec (motive:=fun _=>aC) (fc x (.err 31) (.ok x H) fun _ _ _ _ _=>.ok x H)
  (fun n _=>fc x (.err 34) (Ad elem es aD (Nat.succ n) new H) (Ae elem es aD (Nat.succ n) new H)) n
def oP(x:aG)(E:Env)(H:ax):aC:=bt x E (.err 1) fun v=>.ok v H
def Hj(c a b:aG)(E:Env)(H:ax):aC:=bt c E (.err 2) fun v=>uY v (.err 2) fun t=>aI t (oP a E H) (oP b E H)
def AK(elem es aD:Nat)(cells:List aj)(_:Env)(H:ax):aC:=
 H.alloc (.row elem es aD 1 1 0 (.one cells)) fun f H=>.ok (.ptr f 1 0) H
def Iw(elem es aD:Nat)(x:aG)(E:Env)(H:ax):aC:=
 bt x E (.err 3) fun v=>ob (iL v) (.err 3) fun l=>aI (Nat.beq (gI l) es) (AK elem es aD l E H) (.err 3)
def Hk(n:Nat)(agg:Bool)(a:aG)(E:Env)(H:ax):aC:=
 bt a E (.err 4) fun v=>jf v (.err 4) fun f g off=>rd H f g off n (.err 4) fun l=>fO agg l (.err 4) fun v=>.ok v H
def Gm(n:Nat)(a x:aG)(E:Env)(H:ax):aC:=
 bt a E (.err 5) fun p=>jf p (.err 5) fun f g off=>bt x E (.err 5) fun v=>ob (iL v) (.err 5) fun l=>wr H f g off n l (.err 5) fun H=>.ok .undef H
def Ix(op:BinOp)(x y:aG)(E:Env)(H:ax):aC:=
 bt x E (.err 6) fun a=>bt y E (.err 6) fun b=>D' op a b fun v=>.ok v H
def EH(c:EG)(neg:Bool)(x y:aG)(E:Env)(H:ax):aC:=
 bt x E (.err 7) fun a=>bt y E (.err 7) fun b=>ob (pX c a b) (.err 7) fun r=>pc (Bool.xor neg r) fun r=>.ok (.bool r) H
def Jy(op:UnOp)(x:aG)(E:Env)(H:ax):aC:=bt x E (.err 8) fun a=>ob (O2 op a) (.err 8) fun v=>mJ v fun v=>.ok v H
def Hl(x:aG)(k:Nat)(E:Env)(H:ax):aC:=
 bt x E (.err 9) fun v=>jf v (.err 9) fun f g off=>cm (Nat.add off k) fun off=>.ok (.ptr f g off) H
def Iy(x:aG)(off n:Nat)(agg:Bool)(E:Env)(H:ax):aC:=
 bt x E (.err 10) fun v=>mO v (.err 10) fun cs=>aI (Nat.ble (Nat.add off n) (gI cs)) (fO agg ((cs.drop off).take n) (.err 10) fun v=>.ok v H) (.err 10)
def FN(z es:Nat)(x i:aG)(E:Env)(H:ax):aC:=
 bt x E (.err 11) fun v=>jf v (.err 11) fun f g off=>bt i E (.err 11) fun A=>idx A z (.err 11) fun j=>cm (Nat.add off (Nat.mul j es)) fun off=>.ok (.ptr f g off) H
def Gn(es:Nat)(x i:aG)(E:Env)(H:ax):aC:=
 bt x E (.err 12) fun v=>fc v (.err 12) (.err 12) fun f g off z _=>bt i E (.err 12) fun A=>idx A z (.err 12) fun j=>cm (Nat.add off (Nat.mul j es)) fun off=>.ok (.ptr f g off) H
def FO(z es:Nat)(agg:Bool)(x i:aG)(E:Env)(H:ax):aC:=
 bt x E (.err 13) fun v=>mO v (.err 13) fun cs=>bt i E (.err 13) fun A=>idx A z (.err 13) fun j=>
  aI (Nat.ble (Nat.add (Nat.mul j es) es) (gI cs)) (fO agg ((cs.drop (Nat.mul j es)).take es) (.err 13) fun v=>.ok v H) (.err 13)
def FQ(x i:aG)(E:Env)(H:ax):aC:=
 bt x E (.err 14) fun v=>lB v (.err 14) fun l s=>bt i E (.err 14) fun z=>idx z l (.err 14) fun j=>cm (Ac s j) fun b=>.ok (.int .u8 (.ofNat b)) H
def Gp(x:aG)(lo hi:Option aG)(E:Env)(H:ax):aC:=
 bt x E (.err 15) fun v=>lB v (.err 15) fun l s=>en E hi l l (.err 15) fun h=>en E lo 0 h (.err 15) fun lo=>
  cm (Nat.sub h lo) fun n=>cm (R6 s lo h) fun s=>.ok (.str n s) H
def tY(g off es z:Nat):Nat:=(fun c=>Bool.rec (motive:=fun _=>Nat) z c (Nat.ble z c)) (Nat.sub (Nat.div (Nat.mul g es) es) (Nat.div off es))
theorem KO{g off es z:Nat}:z≤tY g off es z:=by
 unfold tY;show z≤Bool.rec (motive:=fun _=>Nat) z _ (Nat.ble z _)
 cases h:Nat.ble z (Nat.sub (Nat.div (Nat.mul g es) es) (Nat.div off es)) with
 |false=>exact bf _
 |true=>exact aX h
theorem abA{g off es A cap:Nat}(G:A≤cap)(h2:g*es≤off+cap*es):tY g off es A≤cap:=by
 unfold tY;show Bool.rec (motive:=fun _=>Nat) A _ (Nat.ble A _)≤cap
 cases h:Nat.ble A (Nat.sub (Nat.div (Nat.mul g es) es) (Nat.div off es)) with
 |false=>exact G
 |true=>
  show g*es/es-off/es≤cap
  by_cases z:es=0
  ·subst z;simp
  have z:0<es:=Nat.pos_of_ne_zero z;rw[Nat.mul_div_cancel _ z];have I:g≤(off+cap*es)/es:=(Nat.le_div_iff_mul_le z).2 h2;rw[Nat.add_mul_div_right _ _ z] at I;omega
def Hp(es:Nat)(x:aG)(lo hi:Option aG)(E:Env)(H:ax):aC:=
 bt x E (.err 16) fun v=>fc v (.err 16) (en E hi 0 0 (.err 16) fun h=>en E lo 0 h (.err 16) fun _=>.ok .fR H)
  fun f g off z cW=>aI (Nat.beq es cW) (en E hi z (tY g off es z) (.err 16) fun h=>en E lo 0 h (.err 16) fun lo=>
   cm (Nat.add off (Nat.mul lo es)) fun off=>cm (Nat.sub h lo) fun n=>.ok (.slice f g off n cW) H) (.err 16)
def Iz(es:Nat)(x:aG)(lo:Option aG)(hi mx:aG)(E:Env)(H:ax):aC:=
 bt x E (.err 17) fun v=>fc v (.err 17) (.err 17)
  fun f g off z cW=>aI (Nat.beq es cW) (en E (some mx) 0 z (.err 17) fun m=>aI (Nat.ble (Nat.mul g es) (Nat.add off (Nat.mul m es))) (en E (some hi) 0 m (.err 17) fun h=>en E lo 0 h (.err 17) fun lo=>
   cm (Nat.add off (Nat.mul lo es)) fun off=>cm (Nat.sub h lo) fun n=>.ok (.slice f g off n cW) H) (.err 17)) (.err 17)
def Hq(x:aG)(i:Nat)(E:Env)(H:ax):aC:=bt x E (.err 18) fun v=>uQ v (.err 18) fun vs=>ob (vs[i]?) (.err 18) fun v=>.ok v H
def Cz:aj→Bool
 |.ptr _ _ _=>true|.func _ _ _=>true|_=>false
def Gq(x:aG)(E:Env)(H:ax):aC:=bt x E (.err 19) fun v=>aI (Cz v) (.ok v H) (.err 19)
def Hr(f:Nat)(first eo:List aG)(E:Env)(H:ax):aC:=ob (iB E first) (.err 20) fun fs=>ob (iB E eo) (.err 20) fun vs=>.ok (.func f fs vs) H
def Ht(elem es aD:Nat)(zero:List aj)(z A:aG)(E:Env)(H:ax):aC:=
 bt z E (.err 22) fun a=>fA a (.err 22) fun _ a=>iN a (.err 22) fun l=>bt A E (.err 22) fun b=>fA b (.err 22) fun _ b=>iN b (.err 22) fun c=>
  aI (Nat.ble l c) (aI (Nat.ble (Nat.mul c aD) 70368744177664) (aI (Nat.ble c 4611686018427387904)
   (Bh zero l fun cs=>H.alloc (.row elem es aD l l 0 cs) fun f H=>.ok (.slice f l 0 l es) H) (.err 22)) (.err 22)) (.err 22)
def Lp(zero:List aj)(parts:List (Nat×Nat×aG))(E:Env)(H:ax):aC:=ob (qo E parts zero) (.err 23) fun cs=>.ok (.agg cs) H
def Kx(elem es aD z:Nat)(zero:List aj)(parts:List (Nat×aG))(E:Env)(H:ax):aC:=
 ob (rK E es z parts (oD zero z)) (.err 24) fun t=>H.alloc (.row elem es aD z z 0 t) fun f H=>.ok (.slice f z 0 z es) H
def IA(x:aG)(E:Env)(H:ax):aC:=bt x E (.err 25) fun v=>fc v (.err 25) (.ok (.int .i64 (.ofNat 0)) H) fun _ _ _ l _=>.ok (.int .i64 (.ofNat l)) H
def Hu(x:aG)(E:Env)(H:ax):aC:=bt x E (.err 25) fun v=>lB v (.err 25) fun l _=>.ok (.int .i64 (.ofNat l)) H
def IB(elem es aD:Nat)(x y:aG)(E:Env)(H:ax):aC:=
 bt x E (.err 26) fun a=>bt y E (.err 26) fun b=>fc b (.err 26) (iT elem es aD 0 [] H a) fun f g off n _=>
  ob (elems H f g es n off) (.err 26) fun l=>iT elem es aD n l H a
def FR(elem:Nat)(x y:aG)(E:Env)(H:ax):aC:=
 bt x E (.err 27) fun a=>bt y E (.err 27) fun b=>lB b (.err 27) fun l v=>iT elem 1 1 l (uZ l v) H a
def qT(f g es:Nat)(z:List aj)(n:Nat):Nat→ax→aC:=
 Nat.rec (motive:=fun _=>Nat→ax→aC) (fun _ H=>.ok (.tuple []) H) (fun _ A off H=>wr H f g off es z (.err 28) fun H=>cm (Nat.add off es) fun off=>A off H) n
def Hv(es:Nat)(x y:aG)(E:Env)(H:ax):aC:=
 bt x E (.err 28) fun v=>fc v (.err 28) (.ok (.tuple []) H) fun f g off A cW=>bt y E (.err 28) fun z=>mO z (.err 28) fun z=>aI (Nat.beq cW es) (aI (Nat.ble 1 es) (qT f g es z A off H) (.err 28)) (.err 28)
def EI(mx:Bool)(k:IntKind)(l:List aj):Int→Option aj:=
 List.rec (motive:=fun _=>Int→Option aj) (fun a=>some (.int k a))
  (fun v _ z a=>adU v none fun _ b=>lS (aI (aI mx (fv a b) (fv b a)) b a) z) l
def FU(mx:Bool)(x:aG)(ys:List aG)(E:Env)(H:ax):aC:=
 bt x E (.err 29) fun a=>fA a (.err 29) fun k a=>ob (iB E ys) (.err 29) fun vs=>ob (EI mx k vs a) (.err 29) fun v=>.ok v H
def Hw(k:IntKind)(x:aG)(E:Env)(H:ax):aC:=bt x E (.err 36) fun v=>fA v (.err 36) fun _ n=>lS (lW k n) fun n=>.ok (.int k n) H
def zQ(l:List (List aj)):Option Nat:=
 List.rec (motive:=fun _=>Option Nat) (some 0) (fun c _ z=>List.rec (motive:=fun _=>Option Nat) none (fun v r _=>List.rec (motive:=fun _=>Option Nat)
  (adT v none fun k i=>aI (Nat.beq (cK k) 4) (iN i none fun b=>aI (Nat.ble b 255) (ob z none fun v=>some (Nat.add b (Nat.mul 256 v))) none) none) (fun _ _ _=>none) r) c) l
def FV(x:aG)(E:Env)(H:ax):aC:=
 bt x E (.err 39) fun v=>fc v (.err 39) (.ok (.str 0 0) H) fun f g off n _=>
  ob (elems H f g 1 n off) (.err 39) fun l=>ob (zQ l) (.err 39) fun s=>cm s fun s=>.ok (.str n s) H
def mu(f e:Nat)(H:ax)(k:ax→aC):aC:=
 ax.casesOn (motive:=fun _=>aC) H fun next aR ws t=>kN (t.get f) (.err 46) fun elem es aD m lo fl cs=>
  aI (Nat.beq elem e) (aI (Nat.beq es 1) (aI (aI (Nat.beq fl 0) true (Nat.beq fl 2)) (t.fB f (.row elem es aD m lo 2 cs) fun t=>k ⟨next,aR,wrote f aR ws,t⟩) (.err 46)) (.err 46)) (.err 46)
abbrev dO:=Nat→List aj→ax→aC
def Hx(f:Nat)(args:List aG)(call:dO)(E:Env)(H:ax):aC:=ob (iB E args) (.err 42) fun vs=>call f vs H
def Gr(x:aG)(args:List aG)(call:dO)(E:Env)(H:ax):aC:=
 bt x E (.err 43) fun v=>xo v (.err 43) fun f fs eo=>ob (iB E args) (.err 43) fun vs=>call f (fs++(vs++eo)) H
def bq.ev(o:bq):dO→Env→ax→aC:=
 bq.rec (motive:=fun _=>dO→Env→ax→aC)
  (fun x _=>oP x) (fun c a b _=>Hj c a b) (fun a b c d _=>AK a b c d) (fun a b c d _=>Iw a b c d) (fun a b c _=>Hk a b c) (fun a b c _=>Gm a b c)
  (fun a b c _=>Ix a b c) (fun a b c d _=>EH a b c d) (fun a b _=>Jy a b) (fun a b _=>Hl a b) (fun a b c d _=>Iy a b c d) (fun a b c d _=>FN a b c d)
  (fun a b c _=>Gn a b c) (fun a b c d e _=>FO a b c d e) (fun a b _=>FQ a b) (fun a b c _=>Gp a b c) (fun a b c d _=>Hp a b c d) (fun a b c d e _=>Iz a b c d e)
  (fun a b _=>Hq a b) (fun a _=>Gq a) (fun a b c _=>Hr a b c) (fun a b c d e f _=>Ht a b c d e f) (fun a b _=>Lp a b)
  (fun a b c d e f _=>Kx a b c d e f) (fun a _=>IA a) (fun a _=>Hu a) (fun a b c d e _=>IB a b c d e) (fun a b c _=>FR a b c) (fun a b c _=>Hv a b c)
  (fun a b c _=>FU a b c) (fun a b _=>Hw a b) (fun a _=>FV a) (fun f args=>Hx f args) (fun x args=>Gr x args) o
def fin(dst:Option Key)(E:Env)(k:Env→ax→dH)(r:aC):dH:=
 aC.rec (motive:=fun _=>dH) (fun v H=>Option.rec (motive:=fun _=>dH) (k E H) (fun d=>E.D8 d v fun E=>k E H) dst) .err r
def bk.run(call:dO)(o:bk)(E:Env)(H:ax)(k:Env→ax→dH):dH:=fin o.dst E k (o.op.ev call E H)
def il(dst:Option Key)(E:Env)(H:ax)(k:Env→ax→dH):dH:=
 Option.rec (motive:=fun _=>dH) (k E H) (fun d=>E.D8 d .undef fun E=>k E H) dst
def bk.step(call:dO)(o:bk)(E:Env)(H:ax)(k:Env→ax→dH):dH:=
 Option.rec (motive:=fun _=>dH) (o.run call E H k)
  (fun g=>ob (E.get g.1) (.err 51) fun v=>yw v (il o.dst E H k) fun b=>aI (Bool.xor b g.2) (il o.dst E H k) (o.run call E H k)) o.g
def mP(call:dO)(l:List bk):Env→ax→dH:=
 List.rec (motive:=fun _=>Env→ax→dH) dH.ok (fun o _ z E H=>o.step call E H z) l
structure FP where
 rd:Option (List Nat)
 ws:List Nat
 lo:Nat
 hi:Nat
def im:Option aj→List Nat
 |some (.ptr f _ _)=>[f]
 |some (.slice f _ _ _ _)=>[f]
 |_=>[]
def bq.reads(E:Env):bq→Option (List Nat)
 |.load _ _ a=>some (im (a.ev E))
 |.app _ _ _ x y=>some (im (x.ev E)++im (y.ev E))
 |.xl _ x _=>some (im (x.ev E))
 |.xn x=>some (im (x.ev E))
 |.store _ a _=>some (im (a.ev E))
 |.call _ _=>none
 |.tB _ _=>none
 |.copy _ _ _=>none
 |_=>some []
def Dl(l m:List Nat):Bool:=
 List.rec (motive:=fun _=>Bool) true (fun x _ z=>aI (pJ x m) false z) l
def yy(l:List Nat)(lo hi:Nat):Bool:=
 List.rec (motive:=fun _=>Bool) true (fun x _ z=>aI (Nat.ble lo x) (aI (Nat.ble hi x) z false) z) l
def Hy(l:List Nat)(r:Option (List Nat)):Bool:=
 List.rec (motive:=fun _=>Bool) true (fun _ _ _=>Option.rec (motive:=fun _=>Bool) false (fun r=>Dl l r) r) l
def nu(a b:FP):Bool:=
 aI (Hy a.ws b.rd) (aI (Hy b.ws a.rd) (aI (Dl a.ws b.ws) (yy a.ws b.lo b.hi) false) false) false
def mG(a:FP)(bd:List FP)(l:List Nat):Bool:=
 List.rec (motive:=fun _=>Bool) true (fun i _ z=>ob (bd[i]?) false fun b=>aI (nu a b) z false) l
def pd(aR:Nat)(ws new:List Nat):List Nat:=
 List.rec (motive:=fun _=>List Nat) ws (fun f _ z=>wrote f aR z) new
def Ea(rs:Option (List Nat))(l:List Nat)(next aR:Nat)(ws:List Nat)(bd:List FP)(dst:Option Key)(E:Env)(k:Env→ax→List FP→dH)(r:aC):dH:=
 aC.rec (motive:=fun _=>dH) (fun v H'=>ax.casesOn (motive:=fun _=>dH) H' fun next' _ z t'=>
  aI (mG ⟨rs,z,next,next'⟩ bd l)
   (Option.rec (motive:=fun _=>dH) (k E ⟨next',aR,pd aR ws z,t'⟩ (⟨rs,z,next,next'⟩::bd))
    (fun d=>E.D8 d v fun E=>k E ⟨next',aR,pd aR ws z,t'⟩ (⟨rs,z,next,next'⟩::bd)) dst) (.err 50)) .err r
def bk.runQ(call:dO)(o:bk)(l:List Nat)(E:Env)(H:ax)(bd:List FP)(k:Env→ax→List FP→dH):dH:=
 ax.casesOn (motive:=fun _=>dH) H fun next aR ws t=>cm next fun next=>Ea (o.op.reads E) l next aR ws bd o.dst E k (o.op.ev call E ⟨next,next,[],t⟩)
def bk.pK(call:dO)(o:bk)(E:Env)(H:ax)(bd:List FP)(k:Env→ax→List FP→dH):dH:=
 Option.rec (motive:=fun _=>dH) (o.run call E H fun E H=>k E H bd) (fun l=>o.runQ call l E H bd k) o.q
def oE(q:Option (List Nat))(bd:List FP):List FP:=Option.rec (motive:=fun _=>List FP) bd (fun _=>⟨some [],[],0,0⟩::bd) q
def bk.jq(call:dO)(o:bk)(E:Env)(H:ax)(bd:List FP)(k:Env→ax→List FP→dH):dH:=
 Option.rec (motive:=fun _=>dH) (o.pK call E H bd k)
  (fun g=>ob (E.get g.1) (.err 51) fun v=>yw v (il o.dst E H fun E H=>k E H (oE o.q bd)) fun b=>aI (Bool.xor b g.2) (il o.dst E H fun E H=>k E H (oE o.q bd)) (o.pK call E H bd k)) o.g
def iM(call:dO)(l:List bk):Env→ax→List FP→dH:=
 List.rec (motive:=fun _=>Env→ax→List FP→dH) (fun E H _=>.ok E H) (fun o _ z E H bd=>o.jq call E H bd z) l
def xb(r:Out)(k:Env→ax→Out):Out:=
 Out.rec (motive:=fun _=>Out) (fun x E H=>Ex.rec (motive:=fun _=>Out) (k E H) (fun id=>.ok (.exit id) E H) (.ok .ret E H) x) .err r
def xM(f:Env→ax→Out)(n:Nat):Env→ax→Out:=
 Nat.rec (motive:=fun _=>Env→ax→Out) (fun _ _=>.err 60) (fun _ z E H=>xb (f E H) z) n
def EJ(r:dH):Out:=dH.rec (motive:=fun _=>Out) (fun E H=>.ok .normal E H) .err r
def cSkip(E:Env)(H:ax):Out:=.ok .normal E H
def cRegion(call:dO)(draw:Bool)(ops:List bk):Env→ax→Out:=
 aI draw (fun E H=>EJ (iM call ops E H [])) (fun E H=>EJ (mP call ops E H))
def cSeq(_ _:IC)(a b:Env→ax→Out)(E:Env)(H:ax):Out:=xb (a E H) b
def Ub(c:aG)(_ _:IC)(a b:Env→ax→Out)(E:Env)(H:ax):Out:=
 ob (c.ev E) (.err 61) fun v=>abz v (.err 61) fun t=>aI t (a E H) (b E H)
def Gs(id:Nat)(_:IC)(b:Env→ax→Out)(E:Env)(H:ax):Out:=
 Out.rec (motive:=fun _=>Out) (fun x E H=>Ex.rec (motive:=fun _=>Out) (.ok .normal E H) (fun z=>aI (Nat.beq z id) (.ok .normal E H) (.ok (.exit z) E H)) (.ok .ret E H) x) .err (b E H)
def cLoop(lf:Nat)(_:IC)(b:Env→ax→Out):Env→ax→Out:=xM b lf
def cExit(id:Nat)(E:Env)(H:ax):Out:=.ok (.exit id) E H
def cRet(E:Env)(H:ax):Out:=.ok .ret E H
def IC.ev(call:dO)(lf:Nat)(c:IC):Env→ax→Out:=
 IC.rec (motive:=fun _=>Env→ax→Out) cSkip (cRegion call) cSeq Ub Gs (cLoop lf) cExit cRet c
def params(ks:List Key):List aj→Env→(Env→aC)→aC:=
 List.rec (motive:=fun _=>List aj→Env→(Env→aC)→aC) (fun l E c=>List.rec (motive:=fun _=>aC) (c E) (fun _ _ _=>.err 71) l)
  (fun k _ z l E c=>List.rec (motive:=fun _=>aC) (.err 71) (fun v r _=>E.fB k v fun E=>z r E c) l) ks
def Eb(E:Env)(H:ax)(r:jO)(e:aC)(k:aj→aC):aC:=
 jO.casesOn (motive:=fun _=>aC) r (fun t=>ob (E.get t) e k)
  (fun a n agg=>ob (E.get a) e fun v=>jf v e fun f g off=>rd H f g off n e fun l=>fO agg l e k)
def xN(E:Env)(H:ax)(l:List jO)(e:aC):(List aj→aC)→aC:=
 List.rec (motive:=fun _=>(List aj→aC)→aC) (fun k=>k []) (fun r _ z k=>Eb E H r e fun v=>z fun vs=>k (v::vs)) l
def results(E:Env)(H:ax)(rs:List jO):aC:=
 xN E H rs (.err 70) fun vs=>List.rec (motive:=fun _=>aC) (.ok (.tuple []) H) (fun v r _=>List.rec (motive:=fun _=>aC) (.ok v H) (fun _ _ _=>.ok (.tuple (v::r)) H) r) vs
def vJ(call:dO)(lf:Nat)(fn:aO)(args:List aj)(H:ax):aC:=
 params fn.ps args .emp fun E=>Out.rec (motive:=fun _=>aC) (fun x E H=>Ex.rec (motive:=fun _=>aC) (results E H fn.res) (fun _=>.err 72) (results E H fn.res) x) .err (fn.body.ev call lf E H)
def Uc(args:List aj)(H:ax):aC:=
 List.rec (motive:=fun _=>aC) (.ok (.bool true) H) (fun _ _ _=>.err 92) args
def vK:Nat→Nat→List UInt8
 |0,_=>[]
 |l+1,s=>UInt8.ofNat (s % 256)::vK l (s/256)
def vL(_c:Nat)(args:List aj)(H:ax):aC:=Uc args H
abbrev ZT:=Tr (List aj→ax→aC)
def sG(ft:Tr aO)(xt:Tr Nat)(zt:ZT)(lf:Nat)(n:Nat):dO:=
 Nat.rec (motive:=fun _=>dO) (fun _ _ _=>.err 80) (fun _ z f args H=>ob (ft.get f) (ob (xt.get f) (ob (zt.get f) (.err (Nat.add 10000 f)) fun F=>F args H) fun c=>vL c args H) fun fn=>vJ z lf fn args H) n
end Go.Ev
