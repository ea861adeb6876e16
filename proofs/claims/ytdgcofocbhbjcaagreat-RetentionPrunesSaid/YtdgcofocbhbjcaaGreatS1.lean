/- Part 1 of rules for walks through the code of a program, and of such walks; what each part proves is said by its theorems. -/
import Derived.Test.YtdgcofocbhbjcaaGreatS0
import Derived.Lib.ParseIntB
set_option linter.unusedVariables false
set_option linter.unusedSimpArgs false
noncomputable section
set_option maxRecDepth 100000
set_option maxHeartbeats 4000000
namespace Go.Ev
theorem aa{α:Sort _}{a:α}:a=a:=rfl
inductive aw where
 |bool (b:Bool)
 |int (k:IntKind) (n:Int)
 |str (l v:Nat)
 |ptr (f g off:Nat)
 |kN
 |slice (f g off len es:Nat)
 |gh
 |agg (cs:List aw)
 |tuple (vs:List aw)
 |func (f:Nat) (first dM:List aw)
 |nw
 |iface (t:Nat) (v:aw)
 |i7
 |map (f:Nat)
 |u9
 |undef
inductive D6 where
 |d0|d1|d2|d3|d4|d5
def D6.n:D6→Nat
 |.d0=>0|.d1=>1|.d2=>2|.d3=>3|.d4=>4|.d5=>5
def Fv:Nat→D6
 |0=>.d0|1=>.d1|2=>.d2|3=>.d3|4=>.d4|_=>.d5
def ui(n:Nat):D6:=
 Nat.rec (motive:=fun _=>D6) .d0 (fun n _=>Nat.rec (motive:=fun _=>D6) .d1 (fun n _=>Nat.rec (motive:=fun _=>D6) .d2 (fun n _=>Nat.rec (motive:=fun _=>D6) .d3 (fun n _=>Nat.rec (motive:=fun _=>D6) .d4 (fun _ _=>.d5) n) n) n) n) n
inductive Key where
 |mk (i j k l:D6)
def Key.n:Key→Nat
 |.mk i j k l=>i.n+6*j.n+36*k.n+216*l.n
def pk(n:Nat):Key:=.mk (Fv (n % 6)) (Fv (n/6 % 6)) (Fv (n/36 % 6)) (Fv (n/216 % 6))
theorem D6.lt(d:D6):d.n<6:=by cases d<;>decide
theorem D6.inj{a b:D6}(h:a.n=b.n):a=b:=by cases a<;>cases b<;>first|rfl|(simp[D6.n] at h)
instance:DecidableEq D6:=fun a b=>if h:a.n=b.n then .isTrue (D6.inj h) else .isFalse fun e=>h (by rw[e])
theorem Ii{m:Nat}(h:m<6):(Fv m).n=m:=by
 match m,h with
 |0,_=>rfl
 |1,_=>rfl
 |2,_=>rfl
 |3,_=>rfl
 |4,_=>rfl
 |5,_=>rfl
theorem Ji{m:Nat}(h:m<6):(ui m).n=m:=by
 match m,h with
 |0,_=>rfl
 |1,_=>rfl
 |2,_=>rfl
 |3,_=>rfl
 |4,_=>rfl
 |5,_=>rfl
theorem Key.inj{a b:Key}(h:a.n=b.n):a=b:=by
 cases a with
 |mk i j k l=>cases b with
  |mk p z A F=>
   simp only[Key.n] at h
   have L:=i.lt;have h2:=j.lt;have M:=k.lt;have O:=l.lt
   have U:=p.lt;have Y:=z.lt;have Z:=A.lt;have h8:=F.lt
   have G:i=p:=D6.inj ax
   have I:j=z:=D6.inj ax
   have J:k=A:=D6.inj ax
   have K:l=F:=D6.inj ax
   rw[G,I,J,K]
instance:DecidableEq Key:=fun a b=>if h:a.n=b.n then .isTrue (Key.inj h) else .isFalse fun e=>h (by rw[e])
theorem yO{n:Nat}(h:n<1296):(pk n).n=n:=by
 simp only[pk,Key.n]
 rw[Ii ax,Ii ax,Ii ax,Ii ax]
 omega
section
variable{α β:Type}
inductive S6(α:Type) where
 |mk (x0 x1 x2 x3 x4 x5:α)
def S6.get(d:D6)(t:S6 α):α:=
 S6.rec (motive:=fun _=>α) (fun x0 x1 x2 x3 x4 x5=>D6.rec (motive:=fun _=>α) x0 x1 x2 x3 x4 x5 d) t
def S6.u0(f:α→(α→β)→β)(t:S6 α)(c:S6 α→β):β:=S6.rec (motive:=fun _=>β) (fun x0 x1 x2 x3 x4 x5=>f x0 fun y=>c (.mk y x1 x2 x3 x4 x5)) t
def S6.u1(f:α→(α→β)→β)(t:S6 α)(c:S6 α→β):β:=S6.rec (motive:=fun _=>β) (fun x0 x1 x2 x3 x4 x5=>f x1 fun y=>c (.mk x0 y x2 x3 x4 x5)) t
def S6.u2(f:α→(α→β)→β)(t:S6 α)(c:S6 α→β):β:=S6.rec (motive:=fun _=>β) (fun x0 x1 x2 x3 x4 x5=>f x2 fun y=>c (.mk x0 x1 y x3 x4 x5)) t
def S6.u3(f:α→(α→β)→β)(t:S6 α)(c:S6 α→β):β:=S6.rec (motive:=fun _=>β) (fun x0 x1 x2 x3 x4 x5=>f x3 fun y=>c (.mk x0 x1 x2 y x4 x5)) t
def S6.u4(f:α→(α→β)→β)(t:S6 α)(c:S6 α→β):β:=S6.rec (motive:=fun _=>β) (fun x0 x1 x2 x3 x4 x5=>f x4 fun y=>c (.mk x0 x1 x2 x3 y x5)) t
def S6.u5(f:α→(α→β)→β)(t:S6 α)(c:S6 α→β):β:=S6.rec (motive:=fun _=>β) (fun x0 x1 x2 x3 x4 x5=>f x5 fun y=>c (.mk x0 x1 x2 x3 x4 y)) t
def S6.dZ(d:D6):(α→(α→β)→β)→S6 α→(S6 α→β)→β:=
 D6.rec (motive:=fun _=>(α→(α→β)→β)→S6 α→(S6 α→β)→β) S6.u0 S6.u1 S6.u2 S6.u3 S6.u4 S6.u5 d
def S6.mod(d:D6)(g:α→α)(t:S6 α):S6 α:=S6.dZ d (fun x c=>c (g x)) t fun y=>y
theorem S6.HJ(d p:D6)(g:α→α)(t:S6 α):S6.get p (S6.mod d g t)=if p=d then g (S6.get d t) else S6.get p t:=by
 cases t;cases d<;>cases p<;>rfl
theorem S6.Ij(d:D6)(g:α→α)(f:α→(α→β)→β)(p:∀x c,f x c=c (g x))(t:S6 α)(c:S6 α→β):S6.dZ d f t c=c (S6.mod d g t):=by
 cases t;cases d<;>exact p _ _
def S6.all(x:α):S6 α:=.mk x x x x x x
theorem S6.HK(d:D6)(x:α):S6.get d (S6.all x)=x:=by cases d<;>rfl
def T4(α:Type):Type:=S6 (S6 (S6 (S6 (Option α))))
def T4.get(E:T4 α)(key:Key):Option α:=Key.rec (motive:=fun _=>T4 α→Option α) (fun i j k l E=>S6.get l (S6.get k (S6.get j (S6.get i E)))) key E
def T4.eX(E:T4 α)(key:Key)(v:α)(c:T4 α→β):β:=Key.rec (motive:=fun _=>β) (fun i j k l=>S6.dZ i (S6.dZ j (S6.dZ k (S6.dZ l fun _ c=>c (some v)))) E c) key
def T4.set(E:T4 α)(key:Key)(v:α):T4 α:=E.eX key v fun E=>E
theorem T4.MX(E:T4 α)(i j k l:D6)(v:α)(c:T4 α→β):E.eX (.mk i j k l) v c=c (S6.mod i (S6.mod j (S6.mod k (S6.mod l fun _=>some v))) E):=
 S6.Ij i _ _ (fun x c=>S6.Ij j _ _ (fun x c=>S6.Ij k _ _ (fun x c=>S6.Ij l (fun _=>some v) _ (fun _ _=>rfl) x c) x c) x c) E c
theorem T4.i9(E:T4 α)(key:Key)(v:α)(c:T4 α→β):E.eX key v c=c (E.set key v):=by
 cases key with
 |mk i j k l=>unfold T4.set;rw[T4.MX,T4.MX]
theorem S6.gs(E:S6 (S6 (S6 (S6 (Option α)))))(i j k l p z A F:D6)(v:α):S6.get F (S6.get A (S6.get z (S6.get p (S6.mod i (S6.mod j (S6.mod k (S6.mod l fun _=>some v))) E))))=
  if Key.mk p z A F=Key.mk i j k l then some v else S6.get F (S6.get A (S6.get z (S6.get p E))):=by
 rw[S6.HJ]
 by_cases hi:p=i
 ·subst hi
  rw[bE rfl,S6.HJ]
  by_cases G:z=j
  ·subst G
   rw[bE rfl,S6.HJ]
   by_cases I:A=k
   ·subst I
    rw[bE rfl,S6.HJ]
    by_cases J:F=l
    ·subst J
     rw[bE rfl,bE rfl]
    rw[bw J,bw (by intro e;cases e;exact J rfl)]
   rw[bw I,bw (by intro e;cases e;exact I rfl)]
  rw[bw G,bw (by intro e;cases e;exact G rfl)]
 rw[bw hi,bw (by intro e;cases e;exact hi rfl)]
theorem T4.c7(E:T4 α)(key p:Key)(v:α):(E.set key v).get p=if p=key then some v else E.get p:=by
 cases key with
 |mk i j k l=>cases p with
  |mk z A F G=>
   unfold T4.set
   rw[T4.MX]
   exact S6.gs E i j k l z A F G v
def T4.emp:T4 α:=S6.all (S6.all (S6.all (S6.all none)))
theorem T4.sP(key:Key):(T4.emp:T4 α).get key=none:=by
 cases key with
 |mk i j k l=>
  show S6.get l (S6.get k (S6.get j (S6.get i (S6.all (S6.all (S6.all (S6.all none)))))))=none
  rw[S6.HK,S6.HK,S6.HK,S6.HK]
def pq(n:Nat):Key:=.mk (ui (Nat.mod n 6)) (ui (Nat.mod (Nat.div n 6) 6)) (ui (Nat.mod (Nat.div n 36) 6)) (ui (Nat.mod (Nat.div n 216) 6))
theorem aag{n:Nat}(h:n<1296):(pq n).n=n:=by
 show(ui (n % 6)).n+6*(ui (n/6 % 6)).n+36*(ui (n/36 % 6)).n+216*(ui (n/216 % 6)).n=n
 rw[Ji (yE _ ax),Ji (yE _ ax),Ji (yE _ ax),Ji (yE _ ax)]
 omega
theorem pq_inj{n k:Nat}(h:pq (n % 1296)=pq (k % 1296)):n % 1296=k % 1296:=by
 rw[←aag (n:=n % 1296) ax,←aag (n:=k % 1296) ax,h]
def GT(α:Type):Type:=Tr (T4 α)
def GT.wH(t:GT α)(n:Nat):T4 α:=Option.rec (motive:=fun _=>T4 α) .emp (fun s=>s) (Tr.get t n)
def GT.get(t:GT α)(n:Nat):Option α:=(t.wH (Nat.div n 1296)).get (pq (Nat.mod n 1296))
def GT.set(t:GT α)(n:Nat)(v:α):GT α:=Tr.set t (Nat.div n 1296) ((t.wH (Nat.div n 1296)).set (pq (Nat.mod n 1296)) v)
def GT.eX(t:GT α)(n:Nat)(v:α)(c:GT α→β):β:=(t.wH (Nat.div n 1296)).eX (pq (Nat.mod n 1296)) v fun s=>(Tr.set t (Nat.div n 1296) s).seq c
theorem GT.i9(t:GT α)(n:Nat)(v:α)(c:GT α→β):t.eX n v c=c (t.set n v):=by
 unfold GT.eX;rw[T4.i9];exact Tr.seq_eq (α:=T4 α) _ c
def GT.emp:GT α:=Tr.leaf
theorem GT.sP(n:Nat):(GT.emp:GT α).get n=none:=T4.sP _
theorem GT.ats(t:Tr (T4 α))(n k:Nat)(s:T4 α):(Option.rec (motive:=fun _=>T4 α) .emp (fun s=>s) (Tr.get (Tr.set t n s) k):T4 α)=if k=n then s else Option.rec (motive:=fun _=>T4 α) .emp (fun s=>s) (Tr.get t k):=by
 rw[Tr.c7]
 split
 ·rfl
 rfl
theorem GT.c7(t:GT α)(n k:Nat)(v:α):(t.set n v).get k=if k=n then some v else t.get k:=by
 have h:(t.set n v).wH (k/1296)=if k/1296=n/1296 then(t.wH (n/1296)).set (pq (n % 1296)) v else t.wH (k/1296):=GT.ats t _ _ _
 show((t.set n v).wH (k/1296)).get (pq (k % 1296))=if k=n then some v else(t.wH (k/1296)).get (pq (k % 1296))
 rw[h]
 by_cases e:k/1296=n/1296
 ·rw[bE e,T4.c7,e]
  by_cases p:k % 1296=n % 1296
  ·rw[bE (by rw[p]),bE ax]
  rw[bw (fun h=>p (pq_inj h)),bw ax]
 rw[bw e,bw ax]
end
abbrev Env:=T4 aw
def pG:Key:=.mk .d0 .d0 .d0 .d0
def qL:Key:=.mk .d1 .d0 .d0 .d0
def lx:Key:=.mk .d2 .d0 .d0 .d0
def mw:Key:=.mk .d3 .d0 .d0 .d0
def lz:Key:=.mk .d4 .d0 .d0 .d0
def jl:Key:=.mk .d5 .d0 .d0 .d0
def lT:Key:=.mk .d0 .d1 .d0 .d0
def lU:Key:=.mk .d1 .d1 .d0 .d0
def qM:Key:=.mk .d2 .d1 .d0 .d0
def wI:Key:=.mk .d3 .d1 .d0 .d0
def ts:Key:=.mk .d4 .d1 .d0 .d0
def po:Key:=.mk .d5 .d1 .d0 .d0
def BY:Key:=.mk .d0 .d2 .d0 .d0
def lj:Key:=.mk .d1 .d2 .d0 .d0
def tt:Key:=.mk .d2 .d2 .d0 .d0
def rT:Key:=.mk .d3 .d2 .d0 .d0
def rU:Key:=.mk .d4 .d2 .d0 .d0
def tu:Key:=.mk .d5 .d2 .d0 .d0
def rV:Key:=.mk .d0 .d3 .d0 .d0
def yQ:Key:=.mk .d1 .d3 .d0 .d0
def qy:Key:=.mk .d2 .d3 .d0 .d0
def ow:Key:=.mk .d3 .d3 .d0 .d0
def tv:Key:=.mk .d4 .d3 .d0 .d0
def BZ:Key:=.mk .d5 .d3 .d0 .d0
def yS:Key:=.mk .d0 .d4 .d0 .d0
def tw:Key:=.mk .d1 .d4 .d0 .d0
def qz:Key:=.mk .d2 .d4 .d0 .d0
def lI:Key:=.mk .d3 .d4 .d0 .d0
def lk:Key:=.mk .d4 .d4 .d0 .d0
def yT:Key:=.mk .d5 .d4 .d0 .d0
def vY:Key:=.mk .d0 .d5 .d0 .d0
def tz:Key:=.mk .d1 .d5 .d0 .d0
def vZ:Key:=.mk .d2 .d5 .d0 .d0
def mS:Key:=.mk .d3 .d5 .d0 .d0
def ox:Key:=.mk .d4 .d5 .d0 .d0
def yU:Key:=.mk .d5 .d5 .d0 .d0
def ll:Key:=.mk .d0 .d0 .d1 .d0
def yV:Key:=.mk .d1 .d0 .d1 .d0
def rW:Key:=.mk .d2 .d0 .d1 .d0
def tA:Key:=.mk .d3 .d0 .d1 .d0
def B0:Key:=.mk .d4 .d0 .d1 .d0
def gE:Key:=.mk .d5 .d0 .d1 .d0
def v3:Key:=.mk .d0 .d1 .d1 .d0
def qA:Key:=.mk .d1 .d1 .d1 .d0
def tB:Key:=.mk .d2 .d1 .d1 .d0
def oy:Key:=.mk .d3 .d1 .d1 .d0
def jh:Key:=.mk .d4 .d1 .d1 .d0
def B2:Key:=.mk .d5 .d1 .d1 .d0
def yW:Key:=.mk .d0 .d2 .d1 .d0
def yX:Key:=.mk .d1 .d2 .d1 .d0
def B3:Key:=.mk .d2 .d2 .d1 .d0
def v7:Key:=.mk .d3 .d2 .d1 .d0
def yY:Key:=.mk .d4 .d2 .d1 .d0
def yZ:Key:=.mk .d5 .d2 .d1 .d0
def jV:Key:=.mk .d0 .d3 .d1 .d0
def tC:Key:=.mk .d1 .d3 .d1 .d0
def za:Key:=.mk .d2 .d3 .d1 .d0
def zb:Key:=.mk .d3 .d3 .d1 .d0
def B4:Key:=.mk .d4 .d3 .d1 .d0
def B5:Key:=.mk .d5 .d3 .d1 .d0
def v8:Key:=.mk .d0 .d4 .d1 .d0
def Fw:Key:=.mk .d1 .d4 .d1 .d0
def Fx:Key:=.mk .d2 .d4 .d1 .d0
def B6:Key:=.mk .d3 .d4 .d1 .d0
def Fy:Key:=.mk .d4 .d4 .d1 .d0
def Kh:Key:=.mk .d5 .d4 .d1 .d0
def Fz:Key:=.mk .d0 .d5 .d1 .d0
def FA:Key:=.mk .d1 .d5 .d1 .d0
def FB:Key:=.mk .d2 .d5 .d1 .d0
def Qw:Key:=.mk .d3 .d5 .d1 .d0
def Qx:Key:=.mk .d4 .d5 .d1 .d0
def aah:Key:=.mk .d5 .d5 .d1 .d0
def Qy:Key:=.mk .d0 .d0 .d2 .d0
def FC:Key:=.mk .d1 .d0 .d2 .d0
def aai:Key:=.mk .d2 .d0 .d2 .d0
def lp:Key:=.mk .d3 .d0 .d2 .d0
def aaj:Key:=.mk .d4 .d0 .d2 .d0
def Qz:Key:=.mk .d5 .d0 .d2 .d0
def aak:Key:=.mk .d0 .d1 .d2 .d0
def QA:Key:=.mk .d1 .d1 .d2 .d0
def QB:Key:=.mk .d2 .d1 .d2 .d0
def aal:Key:=.mk .d3 .d1 .d2 .d0
def Ki:Key:=.mk .d4 .d1 .d2 .d0
def aam:Key:=.mk .d5 .d1 .d2 .d0
def QC:Key:=.mk .d0 .d2 .d2 .d0
def aan:Key:=.mk .d1 .d2 .d2 .d0
def aao:Key:=.mk .d2 .d2 .d2 .d0
def aap:Key:=.mk .d3 .d2 .d2 .d0
def aaq:Key:=.mk .d4 .d2 .d2 .d0
def QD:Key:=.mk .d5 .d2 .d2 .d0
def aar:Key:=.mk .d0 .d3 .d2 .d0
def aas:Key:=.mk .d1 .d3 .d2 .d0
def aat:Key:=.mk .d2 .d3 .d2 .d0
def aau:Key:=.mk .d3 .d3 .d2 .d0
def aav:Key:=.mk .d4 .d3 .d2 .d0
def QE:Key:=.mk .d5 .d3 .d2 .d0
def FD:Key:=.mk .d0 .d4 .d2 .d0
def aaw:Key:=.mk .d1 .d4 .d2 .d0
def aax:Key:=.mk .d2 .d4 .d2 .d0
def aay:Key:=.mk .d3 .d4 .d2 .d0
def YC:Key:=.mk .d4 .d4 .d2 .d0
def YD:Key:=.mk .d5 .d4 .d2 .d0
def OY:Key:=.mk .d0 .d5 .d2 .d0
def YE:Key:=.mk .d1 .d5 .d2 .d0
def YF:Key:=.mk .d2 .d5 .d2 .d0
def YG:Key:=.mk .d3 .d5 .d2 .d0
def OZ:Key:=.mk .d4 .d5 .d2 .d0
def O0:Key:=.mk .d5 .d5 .d2 .d0
def O1:Key:=.mk .d0 .d0 .d3 .d0
def YH:Key:=.mk .d1 .d0 .d3 .d0
def YI:Key:=.mk .d2 .d0 .d3 .d0
def YJ:Key:=.mk .d3 .d0 .d3 .d0
def YK:Key:=.mk .d4 .d0 .d3 .d0
def YL:Key:=.mk .d5 .d0 .d3 .d0
def YM:Key:=.mk .d0 .d1 .d3 .d0
def O2:Key:=.mk .d1 .d1 .d3 .d0
def O3:Key:=.mk .d2 .d1 .d3 .d0
def YN:Key:=.mk .d3 .d1 .d3 .d0
def Be:Key:=.mk .d4 .d1 .d3 .d0
def YO:Key:=.mk .d5 .d1 .d3 .d0
def YP:Key:=.mk .d0 .d2 .d3 .d0
def YQ:Key:=.mk .d1 .d2 .d3 .d0
def O4:Key:=.mk .d2 .d2 .d3 .d0
def Bf:Key:=.mk .d3 .d2 .d3 .d0
def YS:Key:=.mk .d4 .d2 .d3 .d0
def YT:Key:=.mk .d5 .d2 .d3 .d0
def YU:Key:=.mk .d0 .d3 .d3 .d0
def YV:Key:=.mk .d1 .d3 .d3 .d0
def kk130:Key:=.mk .d4 .d3 .d3 .d0
def O5:Key:=.mk .d4 .d4 .d3 .d0
def YW:Key:=.mk .d2 .d5 .d3 .d0
def kk143:Key:=.mk .d5 .d5 .d3 .d0
def kk149:Key:=.mk .d5 .d0 .d4 .d0
def YX:Key:=.mk .d1 .d1 .d4 .d0
def kk177:Key:=.mk .d3 .d5 .d4 .d0
def kk200:Key:=.mk .d2 .d3 .d5 .d0
def kk205:Key:=.mk .d1 .d4 .d5 .d0
def YY:Key:=.mk .d1 .d5 .d5 .d0
def YZ:Key:=.mk .d1 .d0 .d0 .d1
inductive RT where
 |emp
 |one (x:List aw)
 |many (s:GT (List aw))
def RT.get(t:RT)(n:Nat):Option (List aw):=
 RT.rec (motive:=fun _=>Nat→Option (List aw)) (fun _=>none) (fun x n=>Nat.rec (motive:=fun _=>Option (List aw)) (some x) (fun _ _=>none) n) GT.get t n
def RT.set(t:RT)(n:Nat)(v:List aw):RT:=
 RT.rec (motive:=fun _=>Nat→List aw→RT) (fun n v=>Nat.rec (motive:=fun _=>RT) (.one v) (fun m _=>.many (GT.emp.set (Nat.succ m) v)) n)
  (fun x n v=>Nat.rec (motive:=fun _=>RT) (.one v) (fun m _=>.many ((GT.emp.set 0 x).set (Nat.succ m) v)) n) (fun s n v=>.many (s.set n v)) t n v
theorem RT.c7(t:RT)(n k:Nat)(v:List aw):(t.set n v).get k=if k=n then some v else t.get k:=by
 cases t with
 |emp=>cases n with
  |zero=>cases k<;>rfl
  |succ n=>exact(GT.c7 GT.emp (n+1) k v).trans (by rw[GT.sP];rfl)
 |one x=>cases n with
  |zero=>cases k<;>rfl
  |succ n=>
   refine(GT.c7 (GT.emp.set 0 x) (n+1) k v).trans ?_
   rw[GT.c7,GT.sP]
   cases k<;>rfl
 |many s=>exact GT.c7 s n k v
inductive cZ where
 |row (elem es aL n lo fl:Nat) (cs:RT)
 |map (es:List (aw×aw))
abbrev HT:=GT cZ
structure aC where
 next:Nat
 bb:Nat
 ws:List Nat
 t:HT
inductive aM where
 |t (n:Key)
 |c (v:aw)
inductive Cw where
 |bool|ptr|agg (ks:List Nat)|slice|iface|func|map
inductive bF where
 |cG (x:aM)
 |pick (c a b:aM)
 |oz (elem es aL:Nat) (cells:List aw)
 |box (elem es aL:Nat) (x:aM)
 |load (n:Nat) (agg:Bool) (a:aM)
 |store (n:Nat) (a x:aM)
 |bin (op:BinOp) (x y:aM)
 |eqv (c:Cw) (neg:Bool) (x y:aM)
 |un (op:UnOp) (x:aM)
 |dt (x:aM) (k:Nat)
 |sub (x:aM) (off n:Nat) (agg:Bool)
 |xF (len es:Nat) (x i:aM)
 |fP (es:Nat) (x i:aM)
 |AO (len es:Nat) (agg:Bool) (x i:aM)
 |AP (x i:aM)
 |Ed (x:aM) (lo hi:Option aM)
 |rX (es:Nat) (x:aM) (lo hi:Option aM)
 |Gw (es:Nat) (x:aM) (lo:Option aM) (hi mx:aM)
 |tD (x:aM) (i:Nat)
 |ql (x:aM)
 |wa (f:Nat) (first dM:List aM)
 |wb (t:Nat) (x:aM)
 |tE (elem es aL:Nat) (zero:List aw) (len cap:aM)
 |build (zero:List aw) (parts:List (Nat×Nat×aM))
 |rf (elem es aL len:Nat) (zero:List aw) (parts:List (Nat×aM))
 |len (x:aM)
 |FE (n:Nat)
 |rY (x:aM)
 |app (elem es aL:Nat) (x y:aM)
 |va (elem:Nat) (x y:aM)
 |copy (es:Nat) (x y:aM)
 |vb (mx:Bool) (x:aM) (ys:List aM)
 |conv (k:IntKind) (x:aM)
 |Ik (x:aM)
 |AQ (elem:Nat) (x:aM)
 |vc (x:aM)
 |call (f:Nat) (args:List aM)
 |rA (x:aM) (args:List aM)
 |vt (t n:Nat) (x:aM)
 |Gx (x:aM)
 |wc (e:Nat) (x n:aM)
structure bK where
 dst:Option Key
 g:Option (Key×Bool)
 q:Option (List Nat)
 op:bF
inductive jW where
 |tmp (t:Key)
 |cell (a:Key) (n:Nat) (agg:Bool)
inductive IC where
 |skip
 |region (draw:Bool) (ops:List bK)
 |seq (a b:IC)
 |cond (c:aM) (a b:IC)
 |block (id:Nat) (b:IC)
 |loop (b:IC)
 |exit (id:Nat)
 |ret
structure bT where
 nt:Nat
 ps:List Key
 res:List jW
 body:IC
inductive aF where
 |ok (v:aw) (H:aC)
 |err (n:Nat)
inductive dq where
 |ok (E:Env) (H:aC)
 |err (n:Nat)
inductive Ex where
 |normal|exit (id:Nat)|ret
inductive Out where
 |ok (x:Ex) (E:Env) (H:aC)
 |err (n:Nat)
def T4.B7(E:Env)(key:Key)(v:aw)(c:Env→dq):dq:=E.eX key v c
theorem T4.Dd(E:Env)(key:Key)(v:aw)(c:Env→dq):E.B7 key v c=c (E.set key v):=T4.i9 E key v c
def RT.eX(t:RT)(n:Nat)(v:List aw)(c:RT→aF):aF:=
 RT.rec (motive:=fun _=>Nat→List aw→(RT→aF)→aF) (fun n v c=>Nat.rec (motive:=fun _=>aF) (c (.one v)) (fun m _=>GT.emp.eX (Nat.succ m) v fun s=>c (.many s)) n)
  (fun x n v c=>Nat.rec (motive:=fun _=>aF) (c (.one v)) (fun m _=>GT.emp.eX 0 x fun s=>s.eX (Nat.succ m) v fun s=>c (.many s)) n) (fun s n v c=>s.eX n v fun s=>c (.many s)) t n v c
theorem RT.i9(t:RT)(n:Nat)(v:List aw)(c:RT→aF):t.eX n v c=c (t.set n v):=by
 cases t with
 |emp=>cases n with
  |zero=>rfl
  |succ n=>exact GT.i9 _ _ _ _
 |one x=>cases n with
  |zero=>rfl
  |succ n=>exact(GT.i9 _ _ _ _).trans (GT.i9 _ _ _ _)
 |many s=>exact GT.i9 _ _ _ _
def l8(v:aw)(k:aw→aF):aF:=
 aw.rec (motive_1:=fun _=>(aw→aF)→aF) (motive_2:=fun _=>Unit) (fun b p=>Bool.rec (motive:=fun _=>aF) (p (.bool false)) (p (.bool true)) b) (fun k n p=>jM n fun n=>p (.int k n)) (fun l v p=>cA l fun l=>cA v fun v=>p (.str l v)) (fun f g o p=>cA f fun f=>cA g fun g=>cA o fun o=>p (.ptr f g o)) (fun p=>p (.kN)) (fun f g o l es p=>cA f fun f=>cA g fun g=>cA o fun o=>cA l fun l=>p (.slice f g o l es)) (fun p=>p (.gh)) (fun cs _ p=>p (.agg cs)) (fun vs _ p=>p (.tuple vs)) (fun f fs dM _ _ p=>p (.func f fs dM)) (fun p=>p (.nw)) (fun t v _ p=>p (.iface t v)) (fun p=>p (.i7)) (fun f p=>p (.map f)) (fun p=>p (.u9)) (fun p=>p (.undef)) () (fun _ _ _ _=>()) v k
theorem uO(v:aw)(k:aw→aF):l8 v k=k v:=by
 cases v<;>simp[l8,sI,eP]
 rename_i b;cases b<;>rfl
def aI{β:Type}(b:Bool)(k e:β):β:=Bool.rec (motive:=fun _=>β) e k b
def ob{α β:Type}(o:Option α)(e:β)(k:α→β):β:=Option.rec (motive:=fun _=>β) e k o
def nx{β:Type}(b:Bool)(k:Bool→β):β:=Bool.rec (motive:=fun _=>β) (k false) (k true) b
def sV(v:aw)(e:aF)(k:Bool→aF):aF:=
 aw.rec (motive_1:=fun _=>aF→(Bool→aF)→aF) (motive_2:=fun _=>Unit) (fun b e p=>p b) (fun _ _ e _=>e) (fun _ _ e _=>e) (fun _ _ _ e _=>e) (fun e _=>e) (fun _ _ _ _ _ e _=>e) (fun e _=>e) (fun _ _ e _=>e) (fun _ _ e _=>e) (fun _ _ _ _ _ e _=>e) (fun e _=>e) (fun _ _ _ e _=>e) (fun e _=>e) (fun _ e _=>e) (fun e _=>e) (fun e _=>e) () (fun _ _ _ _=>()) v e k
def we(v:aw)(s:dq)(k:Bool→dq):dq:=
 aw.rec (motive_1:=fun _=>dq→(Bool→dq)→dq) (motive_2:=fun _=>Unit) (fun b e p=>p b) (fun _ _ _ _=>.err 51) (fun _ _ _ _=>.err 51) (fun _ _ _ _ _=>.err 51) (fun _ _=>.err 51) (fun _ _ _ _ _ _ _=>.err 51) (fun _ _=>.err 51) (fun _ _ _ _=>.err 51) (fun _ _ _ _=>.err 51) (fun _ _ _ _ _ _ _=>.err 51) (fun _ _=>.err 51) (fun _ _ _ _ _=>.err 51) (fun _ _=>.err 51) (fun _ _ _=>.err 51) (fun _ _=>.err 51) (fun s _=>s) () (fun _ _ _ _=>()) v s k
def Vd(v:aw)(e:Out)(k:Bool→Out):Out:=
 aw.rec (motive_1:=fun _=>Out→(Bool→Out)→Out) (motive_2:=fun _=>Unit) (fun b e p=>p b) (fun _ _ e _=>e) (fun _ _ e _=>e) (fun _ _ _ e _=>e) (fun e _=>e) (fun _ _ _ _ _ e _=>e) (fun e _=>e) (fun _ _ e _=>e) (fun _ _ e _=>e) (fun _ _ _ _ _ e _=>e) (fun e _=>e) (fun _ _ _ e _=>e) (fun e _=>e) (fun _ e _=>e) (fun e _=>e) (fun e _=>e) () (fun _ _ _ _=>()) v e k
def ew(v:aw)(e:aF)(k:IntKind→Int→aF):aF:=
 aw.rec (motive_1:=fun _=>aF→(IntKind→Int→aF)→aF) (motive_2:=fun _=>Unit) (fun _ e _=>e) (fun k n e p=>p k n) (fun _ _ e _=>e) (fun _ _ _ e _=>e) (fun e _=>e) (fun _ _ _ _ _ e _=>e) (fun e _=>e) (fun _ _ e _=>e) (fun _ _ e _=>e) (fun _ _ _ _ _ e _=>e) (fun e _=>e) (fun _ _ _ e _=>e) (fun e _=>e) (fun _ e _=>e) (fun e _=>e) (fun e _=>e) () (fun _ _ _ _=>()) v e k
def iM(v:aw)(e:aF)(k:Nat→Nat→aF):aF:=
 aw.rec (motive_1:=fun _=>aF→(Nat→Nat→aF)→aF) (motive_2:=fun _=>Unit) (fun _ e _=>e) (fun _ _ e _=>e) (fun l v e p=>p l v) (fun _ _ _ e _=>e) (fun e _=>e) (fun _ _ _ _ _ e _=>e) (fun e _=>e) (fun _ _ e _=>e) (fun _ _ e _=>e) (fun _ _ _ _ _ e _=>e) (fun e _=>e) (fun _ _ _ e _=>e) (fun e _=>e) (fun _ e _=>e) (fun e _=>e) (fun e _=>e) () (fun _ _ _ _=>()) v e k
def gA(v:aw)(e:aF)(k:Nat→Nat→Nat→aF):aF:=
 aw.rec (motive_1:=fun _=>aF→(Nat→Nat→Nat→aF)→aF) (motive_2:=fun _=>Unit) (fun _ e _=>e) (fun _ _ e _=>e) (fun _ _ e _=>e) (fun f g o e p=>p f g o) (fun e _=>e) (fun _ _ _ _ _ e _=>e) (fun e _=>e) (fun _ _ e _=>e) (fun _ _ e _=>e) (fun _ _ _ _ _ e _=>e) (fun e _=>e) (fun _ _ _ e _=>e) (fun e _=>e) (fun _ e _=>e) (fun e _=>e) (fun e _=>e) () (fun _ _ _ _=>()) v e k
def eG(v:aw)(e n:aF)(k:Nat→Nat→Nat→Nat→Nat→aF):aF:=
 aw.rec (motive_1:=fun _=>aF→aF→(Nat→Nat→Nat→Nat→Nat→aF)→aF) (motive_2:=fun _=>Unit) (fun _ e _ _=>e) (fun _ _ e _ _=>e) (fun _ _ e _ _=>e) (fun _ _ _ e _ _=>e) (fun e _ _=>e) (fun f g o l es e _ p=>p f g o l es) (fun _ n _=>n) (fun _ _ e _ _=>e) (fun _ _ e _ _=>e) (fun _ _ _ _ _ e _ _=>e) (fun e _ _=>e) (fun _ _ _ e _ _=>e) (fun e _ _=>e) (fun _ e _ _=>e) (fun e _ _=>e) (fun e _ _=>e) () (fun _ _ _ _=>()) v e n k
def mc(v:aw)(e:aF)(k:List aw→aF):aF:=
 aw.rec (motive_1:=fun _=>aF→(List aw→aF)→aF) (motive_2:=fun _=>Unit) (fun _ e _=>e) (fun _ _ e _=>e) (fun _ _ e _=>e) (fun _ _ _ e _=>e) (fun e _=>e) (fun _ _ _ _ _ e _=>e) (fun e _=>e) (fun cs _ e p=>p cs) (fun _ _ e _=>e) (fun _ _ _ _ _ e _=>e) (fun e _=>e) (fun _ _ _ e _=>e) (fun e _=>e) (fun _ e _=>e) (fun e _=>e) (fun e _=>e) () (fun _ _ _ _=>()) v e k
def sQ(v:aw)(e:aF)(k:List aw→aF):aF:=
 aw.rec (motive_1:=fun _=>aF→(List aw→aF)→aF) (motive_2:=fun _=>Unit) (fun _ e _=>e) (fun _ _ e _=>e) (fun _ _ e _=>e) (fun _ _ _ e _=>e) (fun e _=>e) (fun _ _ _ _ _ e _=>e) (fun e _=>e) (fun _ _ e _=>e) (fun vs _ e p=>p vs) (fun _ _ _ _ _ e _=>e) (fun e _=>e) (fun _ _ _ e _=>e) (fun e _=>e) (fun _ e _=>e) (fun e _=>e) (fun e _=>e) () (fun _ _ _ _=>()) v e k
def vd(v:aw)(e:aF)(k:Nat→List aw→List aw→aF):aF:=
 aw.rec (motive_1:=fun _=>aF→(Nat→List aw→List aw→aF)→aF) (motive_2:=fun _=>Unit) (fun _ e _=>e) (fun _ _ e _=>e) (fun _ _ e _=>e) (fun _ _ _ e _=>e) (fun e _=>e) (fun _ _ _ _ _ e _=>e) (fun e _=>e) (fun _ _ e _=>e) (fun _ _ e _=>e) (fun f fs dM _ _ e p=>p f fs dM) (fun e _=>e) (fun _ _ _ e _=>e) (fun e _=>e) (fun _ e _=>e) (fun e _=>e) (fun e _=>e) () (fun _ _ _ _=>()) v e k
def WL(v:aw)(e:Option Nat)(k:IntKind→Int→Option Nat):Option Nat:=
 aw.rec (motive_1:=fun _=>Option Nat→(IntKind→Int→Option Nat)→Option Nat) (motive_2:=fun _=>Unit) (fun _ e _=>e) (fun k n e p=>p k n) (fun _ _ e _=>e) (fun _ _ _ e _=>e) (fun e _=>e) (fun _ _ _ _ _ e _=>e) (fun e _=>e) (fun _ _ e _=>e) (fun _ _ e _=>e) (fun _ _ _ _ _ e _=>e) (fun e _=>e) (fun _ _ _ e _=>e) (fun e _=>e) (fun _ e _=>e) (fun e _=>e) (fun e _=>e) () (fun _ _ _ _=>()) v e k
def WM(v:aw)(e:Option aw)(k:IntKind→Int→Option aw):Option aw:=
 aw.rec (motive_1:=fun _=>Option aw→(IntKind→Int→Option aw)→Option aw) (motive_2:=fun _=>Unit) (fun _ e _=>e) (fun k n e p=>p k n) (fun _ _ e _=>e) (fun _ _ _ e _=>e) (fun e _=>e) (fun _ _ _ _ _ e _=>e) (fun e _=>e) (fun _ _ e _=>e) (fun _ _ e _=>e) (fun _ _ _ _ _ e _=>e) (fun e _=>e) (fun _ _ _ e _=>e) (fun e _=>e) (fun _ e _=>e) (fun e _=>e) (fun e _=>e) () (fun _ _ _ _=>()) v e k
def iB(v:aw):Option (List aw):=
 aw.rec (motive_1:=fun _=>Option (List aw)) (motive_2:=fun _=>Unit) (fun b=>some [.bool b]) (fun k n=>some [.int k n]) (fun l v=>some [.str l v]) (fun f g o=>some [.ptr f g o]) (some [.kN]) (fun f g o l es=>some [.slice f g o l es]) (some [.gh]) (fun cs _=>some cs) (fun _ _=>none) (fun f fs dM _ _=>some [.func f fs dM]) (some [.nw]) (fun t v _=>some [.iface t v]) (some [.i7]) (fun f=>some [.map f]) (some [.u9]) (none) () (fun _ _ _ _=>()) v
def iN{β:Type}(o:Option cZ)(e:β)(k:Nat→Nat→Nat→Nat→Nat→Nat→RT→β):β:=
 Option.rec (motive:=fun _=>β) e (fun o=>cZ.casesOn (motive:=fun _=>β) o k (fun _=>e)) o
def fQ{β:Type}(i:Int)(e:β)(k:Nat→β):β:=Int.rec (motive:=fun _=>β) k (fun _=>e) i
def gb(l:List aw):Nat:=List.rec (motive:=fun _=>Nat) 0 (fun _ _ p=>Nat.succ p) l
def aC.alloc(H:aC)(o:cZ)(k:Nat→aC→aF):aF:=
 aC.casesOn (motive:=fun _=>aF) H fun next bb ws t=>cA next fun f=>t.eX f o fun t=>k f ⟨Nat.succ f,bb,ws,t⟩
def oA(f:Nat)(l:List Nat):Bool:=
 List.rec (motive:=fun _=>Bool) false (fun x _ p=>aI (Nat.beq f x) true p) l
def wrote(f bb:Nat)(ws:List Nat):List Nat:=
 aI (Nat.ble bb f) ws (aI (oA f ws) ws (f::ws))
def rd{β:Type}(H:aC)(f g off n:Nat)(e:β)(k:List aw→β):β:=
 iN (H.t.get f) e fun _ es _ m lo _ cs=>
  aI (Nat.ble lo g) (aI (Nat.ble g m) (aI (Nat.ble (Nat.add (Nat.mod off es) n) es) (aI (Nat.ble (Nat.succ (Nat.div off es)) g)
   (ob (cs.get (Nat.div off es)) e fun l=>aI (Nat.beq n es) (k l) (k ((l.drop (Nat.mod off es)).take n))) e) e) e) e
def dH(l:List aw)(r:Nat)(new:List aw):List aw:=l.take r++(new++l.drop (r+new.length))
def wr(H:aC)(f g off n:Nat)(new:List aw)(e:aF)(k:aC→aF):aF:=
 aC.casesOn (motive:=fun _=>aF) H fun next bb ws t=>iN (t.get f) e fun elem es aL m lo fl cs=>
  aI (Nat.beq fl 0) (aI (Nat.beq g m) (aI (Nat.ble lo g) (aI (Nat.ble (Nat.add (Nat.mod off es) n) es) (aI (Nat.ble (Nat.succ (Nat.div off es)) g) (aI (Nat.beq (gb new) n)
   (ob (cs.get (Nat.div off es)) e fun l=>
    cs.eX (Nat.div off es) (aI (Nat.beq n es) new (dH l (Nat.mod off es) new)) fun cs=>t.eX f (.row elem es aL m m 0 cs) fun t=>
     k ⟨next,bb,wrote f bb ws,t⟩) e) e) e) e) e) e
def xG(v i:Nat):Nat:=Nat.mod (Nat.shiftRight v (Nat.mul 8 i)) 256
def MY(v lo hi:Nat):Nat:=Nat.mod (Nat.shiftRight v (Nat.mul 8 lo)) (Nat.shiftLeft 1 (Nat.mul 8 (Nat.sub hi lo)))
def MZ(p z A:Nat):Nat:=Nat.add z (Nat.shiftLeft A (Nat.mul 8 p))
def strLt(G:Nat):Nat→Nat→Nat→Bool:=
 Nat.rec (motive:=fun _=>Nat→Nat→Nat→Bool) (fun _ p _=>Bool.not (Nat.beq p 0))
  (fun _ I z p A=>Nat.rec (motive:=fun _=>Bool) false (fun F _=>
   match Nat.beq (Nat.mod z 256) (Nat.mod A 256) with
   |true=>I (Nat.div z 256) F (Nat.div A 256)
   |false=>Nat.ble (Nat.succ (Nat.mod z 256)) (Nat.mod A 256)) p) G
def pack:List UInt8→Nat
 |[]=>0
 |b::r=>b.toNat+256*pack r
def cI:IntKind→Nat
 |.i8=>0|.i16=>1|.i32=>2|.i64=>3|.u8=>4|.u16=>5|.u32=>6|.u64=>7
def mJ(k:IntKind)(n:Int):Int:=
 match k,n with
 |.i64,.ofNat m=>match Nat.ble m 9223372036854775807 with|true=>.ofNat m|false=>IntKind.wrap .i64 (.ofNat m)
 |.i64,.negSucc m=>match Nat.ble m 9223372036854775807 with|true=>.negSucc m|false=>IntKind.wrap .i64 (.negSucc m)
 |k,n=>k.wrap n
def fM:Int→Int→Bool
 |.ofNat a,.ofNat b=>Nat.ble (Nat.succ a) b
 |.ofNat _,.negSucc _=>false
 |.negSucc _,.ofNat _=>true
 |.negSucc a,.negSucc b=>Nat.ble (Nat.succ b) a
def lA:Int→Int→Bool
 |.ofNat a,.ofNat b=>Nat.beq a b
 |.negSucc a,.negSucc b=>Nat.beq a b
 |_,_=>false
def intBits(op:BinOp)(k:IntKind)(x y:Int):Option Int:=
 let a:=BitVec.ofInt k.bits x
 let b:=BitVec.ofInt k.bits y
 match op with
 |.and=>some (k.wrap ((a&&&b).toNat))
 |.or=>some (k.wrap ((a|||b).toNat))
 |.xor=>some (k.wrap ((a^^^b).toNat))
 |.andNot=>some (k.wrap ((a&&&~~~b).toNat))
 |_=>none
def gJ(op:BinOp)(k:IntKind)(a:Int)(p:IntKind)(b:Int):Option aw:=
 match op with
 |.shl=>aI (fM b 0) none (some (.int k (mJ k (a*2^(Nat.min b.toNat k.bits)))))
 |.shr=>aI (fM b 0) none (some (.int k (a.fdiv (2^(Nat.min b.toNat k.bits)))))
 |.add=>aI (Nat.beq (cI k) (cI p)) (some (.int k (mJ k (a+b)))) none
 |.sub=>aI (Nat.beq (cI k) (cI p)) (some (.int k (mJ k (a-b)))) none
 |.mul=>aI (Nat.beq (cI k) (cI p)) (some (.int k (mJ k (a*b)))) none
 |.quo=>aI (Nat.beq (cI k) (cI p)) (aI (lA b 0) none (some (.int k (mJ k (a.tdiv b))))) none
 |.rem=>aI (Nat.beq (cI k) (cI p)) (aI (lA b 0) none (some (.int k (a.tmod b)))) none
 |.eql=>aI (Nat.beq (cI k) (cI p)) (some (.bool (lA a b))) none
 |.neq=>aI (Nat.beq (cI k) (cI p)) (some (.bool (Bool.not (lA a b)))) none
 |.lss=>aI (Nat.beq (cI k) (cI p)) (some (.bool (fM a b))) none
 |.leq=>aI (Nat.beq (cI k) (cI p)) (some (.bool (Bool.not (fM b a)))) none
 |.gtr=>aI (Nat.beq (cI k) (cI p)) (some (.bool (fM b a))) none
 |.geq=>aI (Nat.beq (cI k) (cI p)) (some (.bool (Bool.not (fM a b)))) none
 |op=>aI (Nat.beq (cI k) (cI p)) (ob (intBits op k a b) none fun r=>some (.int k r)) none
def rB(p z A F:Nat):Bool:=match Nat.beq p A with|true=>Nat.beq z F|false=>false
def M0(op:BinOp)(p A z F:Nat):Option aw:=
 match op with
 |.add=>aI (Nat.ble (Nat.add p z) 4611686018427387904) (some (.str (Nat.add p z) (MZ p A F))) none
 |.eql=>some (.bool (rB p A z F))
 |.neq=>some (.bool (Bool.not (rB p A z F)))
 |.lss=>some (.bool (strLt p A z F))
 |.leq=>some (.bool (Bool.not (strLt z F p A)))
 |.gtr=>some (.bool (strLt z F p A))
 |.geq=>some (.bool (Bool.not (strLt p A z F)))
 |_=>none
def zc(op:BinOp)(x y:aw):Option aw:=
 match x,y with
 |.int k a,.int p b=>gJ op k a p b
 |.str z A,.str F G=>M0 op z A F G
 |_,_=>none
def KS(op:UnOp)(x:aw):Option aw:=
 match op,x with
 |.neg,.int k n=>some (.int k (mJ k (0-n)))
 |.xor,.int k n=>ob (intBits .xor k (if k.signed then-1 else k.max) n) none fun r=>some (.int k r)
 |.not,.bool b=>some (.bool (Bool.not b))
 |_,_=>none
def qa(c:Nat):aw→Bool
 |.int k _=>Nat.beq (cI k) c
 |.bool _=>Nat.beq c 100
 |.str _ _=>Nat.beq c 101
 |_=>false
def gj:List Nat→List aw→Bool
 |[],[]=>true
 |c::r,a::s=>qa c a&&gj r s
 |_,_=>false
def uS:aw→aw→Option Bool
 |.int k a,.int p b=>match Nat.beq (cI k) (cI p) with|true=>some (lA a b)|false=>none
 |.bool a,.bool b=>some (a==b)
 |.str z A,.str F G=>some (rB z A F G)
 |_,_=>none
def mF:List aw→List aw→Option Bool
 |[],[]=>some true
 |a::r,b::s=>match uS a b with
  |some true=>mF r s
  |some false=>match mF r s with|some _=>some false|none=>none
  |none=>none
 |_,_=>none
def nS(c:Cw)(x y:aw):Option Bool:=
 match c with
 |.bool=>match x,y with|.bool a,.bool b=>some (a==b)|_,_=>none
 |.ptr=>match x,y with
  |.kN,.kN=>some true
  |.kN,.ptr _ _ _=>some false
  |.ptr _ _ _,.kN=>some false
  |.ptr f g o,.ptr f' g' p=>aI (Nat.beq f f') (aI (Nat.beq g g') (aI (Nat.beq o p) (some true) none) none) none
  |_,_=>none
 |.agg ks=>match x,y with|.agg a,.agg b=>aI (gj ks a) (aI (gj ks b) (mF a b) none) none|_,_=>none
 |.slice=>match x,y with
  |.gh,.gh=>some true
  |.gh,.slice _ _ _ _ _=>some false
  |.slice _ _ _ _ _,.gh=>some false
  |_,_=>none
 |.iface=>match x,y with
  |.i7,.i7=>some true
  |.i7,.iface _ _=>some false
  |.iface _ _,.i7=>some false
  |.iface t _,.iface t' _=>aI (Nat.beq t t') none (some false)
  |_,_=>none
 |.func=>match x,y with
  |.nw,.nw=>some true
  |.nw,.func _ _ _=>some false
  |.func _ _ _,.nw=>some false
  |_,_=>none
 |.map=>match x,y with
  |.u9,.u9=>some true
  |_,_=>none
def so(m n:Nat):Int:=Bool.rec (motive:=fun _=>Int) (.negSucc (Nat.pred (Nat.sub n m))) (.ofNat (Nat.sub m n)) (Nat.ble n m)
def aaz(x y:Int):Int:=
 Int.rec (motive:=fun _=>Int→Int) (fun m y=>Int.rec (motive:=fun _=>Int) (fun n=>.ofNat (Nat.add m n)) (fun n=>so m (Nat.succ n)) y)
  (fun m y=>Int.rec (motive:=fun _=>Int) (fun n=>so n (Nat.succ m)) (fun n=>.negSucc (Nat.succ (Nat.add m n))) y) x y
def aaA(x y:Int):Int:=
 Int.rec (motive:=fun _=>Int→Int) (fun m y=>Int.rec (motive:=fun _=>Int) (fun n=>so m n) (fun n=>.ofNat (Nat.add m (Nat.succ n))) y)
  (fun m y=>Int.rec (motive:=fun _=>Int) (fun n=>.negSucc (Nat.add m n)) (fun n=>so n m) y) x y
def Gy(x y:Int):Bool:=
 Int.rec (motive:=fun _=>Int→Bool) (fun m y=>Int.rec (motive:=fun _=>Bool) (fun n=>Nat.ble (Nat.succ m) n) (fun _=>false) y)
  (fun m y=>Int.rec (motive:=fun _=>Bool) (fun _=>true) (fun n=>Nat.ble (Nat.succ n) m) y) x y
def RV(x y:Int):Bool:=
 Int.rec (motive:=fun _=>Int→Bool) (fun m y=>Int.rec (motive:=fun _=>Bool) (fun n=>Nat.beq m n) (fun _=>false) y)
  (fun m y=>Int.rec (motive:=fun _=>Bool) (fun _=>false) (fun n=>Nat.beq m n) y) x y
def w64(n:Int):Int:=
 Int.rec (motive:=fun _=>Int) (fun m=>Bool.rec (motive:=fun _=>Int) (IntKind.wrap .i64 (.ofNat m)) (.ofNat m) (Nat.ble m 9223372036854775807))
  (fun m=>Bool.rec (motive:=fun _=>Int) (IntKind.wrap .i64 (.negSucc m)) (.negSucc m) (Nat.ble m 9223372036854775807)) n
def wU(mx:Nat)(k:IntKind)(n:Int):Int:=
 Int.rec (motive:=fun _=>Int) (fun m=>Bool.rec (motive:=fun _=>Int) (IntKind.wrap k (.ofNat m)) (.ofNat m) (Nat.ble m mx)) (fun m=>IntKind.wrap k (.negSucc m)) n
def O6(k:IntKind):Int→Int:=
 IntKind.rec (motive:=fun _=>Int→Int) (IntKind.wrap .i8) (IntKind.wrap .i16) (IntKind.wrap .i32) w64 (wU 255 .u8) (wU 65535 .u16) (wU 4294967295 .u32) (wU 18446744073709551615 .u64) k
def mK(op:BinOp)(a b:aw)(k:aw→aF):aF:=ob (zc op a b) (.err 6) fun v=>l8 v k
def M1(f:Int→Int→Int)(op:BinOp)(a b:aw)(k:aw→aF):aF:=
 ew a (mK op a b k) fun p x=>ew b (mK op a b k) fun z y=>aI (Nat.beq (cI p) (cI z)) (jM (O6 p (f x y)) fun r=>k (.int p r)) (.err 6)
def ze(f:Int→Int→Bool)(op:BinOp)(a b:aw)(k:aw→aF):aF:=
 ew a (mK op a b k) fun z x=>ew b (mK op a b k) fun p y=>aI (Nat.beq (cI z) (cI p)) (nx (f x y) fun r=>k (.bool r)) (.err 6)
def neI(x y:Int):Bool:=Bool.not (RV x y)
def leI(x y:Int):Bool:=Bool.not (Gy y x)
def gtI(x y:Int):Bool:=Gy y x
def geI(x y:Int):Bool:=Bool.not (Gy x y)
def B8(op:BinOp):aw→aw→(aw→aF)→aF:=
 BinOp.rec (motive:=fun _=>aw→aw→(aw→aF)→aF) (M1 aaz .add) (M1 aaA .sub) (mK .mul) (mK .quo) (mK .rem) (mK .and) (mK .or) (mK .xor) (mK .shl) (mK .shr) (mK .andNot)
  (ze RV .eql) (ze neI .neq) (ze Gy .lss) (ze leI .leq) (ze gtI .gtr) (ze geI .geq) op
def fb:aw→Bool
 |.agg _=>false|.tuple _=>false|.undef=>false|_=>true
def fD(agg:Bool)(l:List aw)(e:aF)(k:aw→aF):aF:=
 aI agg (k (.agg l)) (List.rec (motive:=fun _=>aF) e (fun v r _=>List.rec (motive:=fun _=>aF) (k v) (fun _ _ _=>e) r) l)
def aM.ev(x:aM)(E:Env):Option aw:=
 aM.casesOn (motive:=fun _=>Option aw) x (fun n=>E.get n) some
def bD(x:aM)(E:Env)(e:aF)(k:aw→aF):aF:=
 aM.casesOn (motive:=fun _=>aF) x (fun n=>ob (E.get n) e k) k
def im(E:Env)(l:List aM):Option (List aw):=
 List.rec (motive:=fun _=>Option (List aw)) (some []) (fun x _ p=>ob (x.ev E) none fun v=>ob p none fun vs=>some (v::vs)) l
def dK(E:Env)(x:Option aM)(p y:Nat)(e:aF)(k:Nat→aF):aF:=
 Option.rec (motive:=fun _=>aF) (k p) (fun x=>ob (x.ev E) e fun v=>ew v e fun _ i=>fQ i e fun n=>aI (Nat.ble n y) (k n) e) x
def idx(v:aw)(n:Nat)(e:aF)(k:Nat→aF):aF:=
 ew v e fun _ i=>fQ i e fun i=>aI (Nat.ble (Nat.succ i) n) (k i) e
def elems(H:aC)(f g es:Nat)(n:Nat):Nat→Option (List (List aw)):=
 Nat.rec (motive:=fun _=>Nat→Option (List (List aw))) (fun _=>some [])
  (fun _ p off=>rd H f g off es none fun l=>ob (p (Nat.add off es)) none fun r=>some (l::r)) n
def ia(l:List (List aw)):RT→Nat→RT:=
 List.rec (motive:=fun _=>RT→Nat→RT) (fun t _=>t) (fun x _ p t i=>p (t.set i x) (Nat.succ i)) l
def s8(l:List (List aw)):RT→Nat→(RT→aF)→aF:=
 List.rec (motive:=fun _=>RT→Nat→(RT→aF)→aF) (fun t _ c=>c t) (fun x _ p t i c=>t.eX i x fun t=>cA (Nat.succ i) fun i=>p t i c) l
theorem xl:∀(l:List (List aw))(t:RT)(i:Nat)(c:RT→aF),s8 l t i c=c (ia l t i)
 |[],_,_,_=>rfl
 |x::l,t,i,c=>by
  show(t.eX i x fun t=>cA (Nat.succ i) fun i=>s8 l t i c)=c (ia l (t.set i x) (i+1))
  rw[RT.i9,eP,xl l]
def nE(x:List aw)(n:Nat):RT:=
 Nat.rec (motive:=fun _=>RT) .emp (fun m t=>t.set m x) n
def zf(x:List aw)(n:Nat):(RT→aF)→aF:=
 Nat.rec (motive:=fun _=>(RT→aF)→aF) (fun c=>c .emp) (fun m p c=>p fun t=>t.eX m x c) n
theorem HL(x:List aw):∀(n:Nat)(c:RT→aF),zf x n c=c (nE x n)
 |0,_=>rfl
 |n+1,c=>by
  show(zf x n fun t=>t.eX n x c)=c ((nE x n).set n x)
  rw[HL x n,RT.i9]
def oe(l:Nat):Nat→List (List aw):=
 Nat.rec (motive:=fun _=>Nat→List (List aw)) (fun _=>[]) (fun _ p v=>[aw.int .u8 (Int.ofNat (Nat.mod v 256))]::p (Nat.div v 256)) l
def oZ(E:Env)(parts:List (Nat×Nat×aM)):List aw→Option (List aw):=
 List.rec (motive:=fun _=>List aw→Option (List aw)) some
  (fun p _ z cells=>ob (p.2.2.ev E) none fun v=>ob (iB v) none fun new=>aI (Nat.beq (gb new) p.2.1) (z (dH cells p.1 new)) none) parts
def pY(E:Env)(es z:Nat)(parts:List (Nat×aM)):RT→Option RT:=
 List.rec (motive:=fun _=>RT→Option RT) some
  (fun p _ A t=>ob (p.2.ev E) none fun v=>ob (iB v) none fun new=>aI (Nat.beq (gb new) es) (aI (Nat.ble (Nat.succ p.1) z) (A (t.set p.1 new)) none) none) parts
def xH(elem es aL n:Nat)(new:List (List aw))(H:aC):aF:=
 aI (Nat.ble (Nat.mul n aL) 70368744177664)
  (s8 new .emp 0 fun cs=>H.alloc (.row elem es aL n n 0 cs) fun f H=>.ok (.slice f n 0 n es) H) (.err 35)
def AS(elem es aL n:Nat)(new:List (List aw))(H:aC)(f g off F dv:Nat):aF:=
 aC.casesOn (motive:=fun _=>aF) H fun next bb ws t=>iN (t.get f) (.err 33) fun p z lJ m lo fl cs=>
  aI (Nat.beq off 0) (aI (Nat.beq g m) (aI (Nat.ble lo g) (aI (Nat.beq F m) (aI (Nat.beq dv es) (aI (Nat.beq z es) (aI (Nat.beq fl 1) (.err 32)
   (aI (Nat.ble (Nat.mul (Nat.add m n) aL) 70368744177664) (aI (Nat.beq elem p)
    (cA (Nat.add m n) fun A=>s8 new cs m fun cs=>t.eX f (.row p z lJ A lo fl cs) fun t=>
     .ok (.slice f A 0 A es) ⟨next,bb,wrote f bb ws,t⟩) (.err 32)) (.err 32))) (.err 32)) (.err 32)) (.err 32)) (.err 32)) (.err 32)) (.err 32)
def iC(elem es aL n:Nat)(new:List (List aw))(H:aC)(x:aw):aF:=
 Nat.rec (motive:=fun _=>aF) (eG x (.err 31) (.ok x H) fun _ _ _ _ _=>.ok x H)
  (fun n _=>eG x (.err 34) (xH elem es aL (Nat.succ n) new H) (AS elem es aL (Nat.succ n) new H)) n
def lq(x:aM)(E:Env)(H:aC):aF:=bD x E (.err 1) fun v=>.ok v H
def Ee(c a b:aM)(E:Env)(H:aC):aF:=bD c E (.err 2) fun v=>sV v (.err 2) fun t=>aI t (lq a E H) (lq b E H)
def yd(elem es aL:Nat)(cells:List aw)(_:Env)(H:aC):aF:=
 H.alloc (.row elem es aL 1 1 0 (.one cells)) fun f H=>.ok (.ptr f 1 0) H
def FF(elem es aL:Nat)(x:aM)(E:Env)(H:aC):aF:=
 bD x E (.err 3) fun v=>ob (iB v) (.err 3) fun l=>aI (Nat.beq (gb l) es) (yd elem es aL l E H) (.err 3)
def Ef(n:Nat)(agg:Bool)(a:aM)(E:Env)(H:aC):aF:=
 bD a E (.err 4) fun v=>gA v (.err 4) fun f g off=>rd H f g off n (.err 4) fun l=>fD agg l (.err 4) fun v=>.ok v H
def Dz(n:Nat)(a x:aM)(E:Env)(H:aC):aF:=
 bD a E (.err 5) fun p=>gA p (.err 5) fun f g off=>bD x E (.err 5) fun v=>ob (iB v) (.err 5) fun l=>wr H f g off n l (.err 5) fun H=>.ok .undef H
def FG(op:BinOp)(x y:aM)(E:Env)(H:aC):aF:=
 bD x E (.err 6) fun a=>bD y E (.err 6) fun b=>B8 op a b fun v=>.ok v H
def Cx(c:Cw)(neg:Bool)(x y:aM)(E:Env)(H:aC):aF:=
 bD x E (.err 7) fun a=>bD y E (.err 7) fun b=>ob (nS c a b) (.err 7) fun r=>nx (Bool.xor neg r) fun r=>.ok (.bool r) H
def Gz(op:UnOp)(x:aM)(E:Env)(H:aC):aF:=bD x E (.err 8) fun a=>ob (KS op a) (.err 8) fun v=>l8 v fun v=>.ok v H
def Eg(x:aM)(k:Nat)(E:Env)(H:aC):aF:=
 bD x E (.err 9) fun v=>gA v (.err 9) fun f g off=>cA (Nat.add off k) fun off=>.ok (.ptr f g off) H
def FH(x:aM)(off n:Nat)(agg:Bool)(E:Env)(H:aC):aF:=
 bD x E (.err 10) fun v=>mc v (.err 10) fun cs=>aI (Nat.ble (Nat.add off n) (gb cs)) (fD agg ((cs.drop off).take n) (.err 10) fun v=>.ok v H) (.err 10)
def De(p es:Nat)(x i:aM)(E:Env)(H:aC):aF:=
 bD x E (.err 11) fun v=>gA v (.err 11) fun f g off=>bD i E (.err 11) fun z=>idx z p (.err 11) fun j=>cA (Nat.add off (Nat.mul j es)) fun off=>.ok (.ptr f g off) H
def DA(es:Nat)(x i:aM)(E:Env)(H:aC):aF:=
 bD x E (.err 12) fun v=>eG v (.err 12) (.err 12) fun f g off p _=>bD i E (.err 12) fun z=>idx z p (.err 12) fun j=>cA (Nat.add off (Nat.mul j es)) fun off=>.ok (.ptr f g off) H
def Df(p es:Nat)(agg:Bool)(x i:aM)(E:Env)(H:aC):aF:=
 bD x E (.err 13) fun v=>mc v (.err 13) fun cs=>bD i E (.err 13) fun z=>idx z p (.err 13) fun j=>
  aI (Nat.ble (Nat.add (Nat.mul j es) es) (gb cs)) (fD agg ((cs.drop (Nat.mul j es)).take es) (.err 13) fun v=>.ok v H) (.err 13)
def Dg(x i:aM)(E:Env)(H:aC):aF:=
 bD x E (.err 14) fun v=>iM v (.err 14) fun l s=>bD i E (.err 14) fun p=>idx p l (.err 14) fun j=>cA (xG s j) fun b=>.ok (.int .u8 (.ofNat b)) H
def DB(x:aM)(lo hi:Option aM)(E:Env)(H:aC):aF:=
 bD x E (.err 15) fun v=>iM v (.err 15) fun l s=>dK E hi l l (.err 15) fun h=>dK E lo 0 h (.err 15) fun lo=>
  cA (Nat.sub h lo) fun n=>cA (MY s lo h) fun s=>.ok (.str n s) H
def rZ(g off es p:Nat):Nat:=(fun c=>Bool.rec (motive:=fun _=>Nat) p c (Nat.ble p c)) (Nat.sub (Nat.div (Nat.mul g es) es) (Nat.div off es))
theorem HM{g off es p:Nat}:p≤rZ g off es p:=by
 unfold rZ
 show p≤Bool.rec (motive:=fun _=>Nat) p _ (Nat.ble p _)
 cases h:Nat.ble p (Nat.sub (Nat.div (Nat.mul g es) es) (Nat.div off es)) with
 |false=>exact bM _
 |true=>exact aX h
theorem Ve{g off es z cap:Nat}(A:z≤cap)(h2:g*es≤off+cap*es):rZ g off es z≤cap:=by
 unfold rZ
 show Bool.rec (motive:=fun _=>Nat) z _ (Nat.ble z _)≤cap
 cases h:Nat.ble z (Nat.sub (Nat.div (Nat.mul g es) es) (Nat.div off es)) with
 |false=>exact A
 |true=>
  show g*es/es-off/es≤cap
  by_cases p:es=0
  ·subst p;simp
  have p:0<es:=Nat.pos_of_ne_zero p
  rw[Nat.mul_div_cancel _ p]
  have F:g≤(off+cap*es)/es:=(Nat.le_div_iff_mul_le p).2 h2
  rw[Nat.add_mul_div_right _ _ p] at F
  omega
def Eh(es:Nat)(x:aM)(lo hi:Option aM)(E:Env)(H:aC):aF:=
 bD x E (.err 16) fun v=>eG v (.err 16) (dK E hi 0 0 (.err 16) fun h=>dK E lo 0 h (.err 16) fun _=>.ok .gh H)
  fun f g off p dv=>aI (Nat.beq es dv) (dK E hi p (rZ g off es p) (.err 16) fun h=>dK E lo 0 h (.err 16) fun lo=>
   cA (Nat.add off (Nat.mul lo es)) fun off=>cA (Nat.sub h lo) fun n=>.ok (.slice f g off n dv) H) (.err 16)
def FI(es:Nat)(x:aM)(lo:Option aM)(hi mx:aM)(E:Env)(H:aC):aF:=
 bD x E (.err 17) fun v=>eG v (.err 17) (.err 17)
  fun f g off p dv=>aI (Nat.beq es dv) (dK E (some mx) 0 p (.err 17) fun m=>aI (Nat.ble (Nat.mul g es) (Nat.add off (Nat.mul m es))) (dK E (some hi) 0 m (.err 17) fun h=>dK E lo 0 h (.err 17) fun lo=>
   cA (Nat.add off (Nat.mul lo es)) fun off=>cA (Nat.sub h lo) fun n=>.ok (.slice f g off n dv) H) (.err 17)) (.err 17)
def Ei(x:aM)(i:Nat)(E:Env)(H:aC):aF:=bD x E (.err 18) fun v=>sQ v (.err 18) fun vs=>ob (vs[i]?) (.err 18) fun v=>.ok v H
def AH:aw→Bool
 |.ptr _ _ _=>true|.func _ _ _=>true|_=>false
def DD(x:aM)(E:Env)(H:aC):aF:=bD x E (.err 19) fun v=>aI (AH v) (.ok v H) (.err 19)
def Ej(f:Nat)(first dM:List aM)(E:Env)(H:aC):aF:=ob (im E first) (.err 20) fun fs=>ob (im E dM) (.err 20) fun vs=>.ok (.func f fs vs) H
def Ek(t:Nat)(x:aM)(E:Env)(H:aC):aF:=bD x E (.err 21) fun v=>.ok (.iface t v) H
def El(elem es aL:Nat)(zero:List aw)(p z:aM)(E:Env)(H:aC):aF:=
 bD p E (.err 22) fun a=>ew a (.err 22) fun _ a=>fQ a (.err 22) fun l=>bD z E (.err 22) fun b=>ew b (.err 22) fun _ b=>fQ b (.err 22) fun c=>
  aI (Nat.ble l c) (aI (Nat.ble (Nat.mul c aL) 70368744177664) (aI (Nat.ble c 4611686018427387904)
   (zf zero l fun cs=>H.alloc (.row elem es aL l l 0 cs) fun f H=>.ok (.slice f l 0 l es) H) (.err 22)) (.err 22)) (.err 22)
def Il(zero:List aw)(parts:List (Nat×Nat×aM))(E:Env)(H:aC):aF:=ob (oZ E parts zero) (.err 23) fun cs=>.ok (.agg cs) H
def Hx(elem es aL p:Nat)(zero:List aw)(parts:List (Nat×aM))(E:Env)(H:aC):aF:=
 ob (pY E es p parts (nE zero p)) (.err 24) fun t=>H.alloc (.row elem es aL p p 0 t) fun f H=>.ok (.slice f p 0 p es) H
def FJ(x:aM)(E:Env)(H:aC):aF:=bD x E (.err 25) fun v=>eG v (.err 25) (.ok (.int .i64 (.ofNat 0)) H) fun _ _ _ l _=>.ok (.int .i64 (.ofNat l)) H
def Em(x:aM)(E:Env)(H:aC):aF:=bD x E (.err 25) fun v=>iM v (.err 25) fun l _=>.ok (.int .i64 (.ofNat l)) H
def Y0(n:Nat)(_:Env)(H:aC):aF:=.ok (.int .i64 (.ofNat n)) H
def FK(elem es aL:Nat)(x y:aM)(E:Env)(H:aC):aF:=
 bD x E (.err 26) fun a=>bD y E (.err 26) fun b=>eG b (.err 26) (iC elem es aL 0 [] H a) fun f g off n _=>
  ob (elems H f g es n off) (.err 26) fun l=>iC elem es aL n l H a
def Dh(elem:Nat)(x y:aM)(E:Env)(H:aC):aF:=
 bD x E (.err 27) fun a=>bD y E (.err 27) fun b=>iM b (.err 27) fun l v=>iC elem 1 1 l (oe l v) H a
def pr(f g es:Nat)(z:List aw)(n:Nat):Nat→aC→aF:=
 Nat.rec (motive:=fun _=>Nat→aC→aF) (fun _ H=>.ok (.tuple []) H) (fun _ p off H=>wr H f g off es z (.err 28) fun H=>cA (Nat.add off es) fun off=>p off H) n
def En(es:Nat)(x y:aM)(E:Env)(H:aC):aF:=
 bD x E (.err 28) fun v=>eG v (.err 28) (.ok (.tuple []) H) fun f g off p dv=>bD y E (.err 28) fun z=>mc z (.err 28) fun z=>aI (Nat.beq dv es) (aI (Nat.ble 1 es) (pr f g es z p off H) (.err 28)) (.err 28)
def Cy(mx:Bool)(k:IntKind)(l:List aw):Int→Option aw:=
 List.rec (motive:=fun _=>Int→Option aw) (fun a=>some (.int k a))
  (fun v _ p a=>WM v none fun _ b=>jM (aI (aI mx (fM a b) (fM b a)) b a) p) l
def Di(mx:Bool)(x:aM)(ys:List aM)(E:Env)(H:aC):aF:=
 bD x E (.err 29) fun a=>ew a (.err 29) fun k a=>ob (im E ys) (.err 29) fun vs=>ob (Cy mx k vs a) (.err 29) fun v=>.ok v H
def Eo(k:IntKind)(x:aM)(E:Env)(H:aC):aF:=bD x E (.err 36) fun v=>ew v (.err 36) fun _ n=>jM (mJ k n) fun n=>.ok (.int k n) H
def Dj(elem:Nat)(x:aM)(E:Env)(H:aC):aF:=
 bD x E (.err 38) fun v=>iM v (.err 38) fun l s=>aI (Nat.ble l 70368744177664)
  (s8 (oe l s) .emp 0 fun cs=>H.alloc (.row elem 1 1 l l 3 cs) fun f H=>.ok (.slice f l 0 l 1) H) (.err 38)
def uX(l:List (List aw)):Option Nat:=
 List.rec (motive:=fun _=>Option Nat) (some 0) (fun c _ p=>List.rec (motive:=fun _=>Option Nat) none (fun v r _=>List.rec (motive:=fun _=>Option Nat)
  (WL v none fun k i=>aI (Nat.beq (cI k) 4) (fQ i none fun b=>aI (Nat.ble b 255) (ob p none fun v=>some (Nat.add b (Nat.mul 256 v))) none) none) (fun _ _ _=>none) r) c) l
def Dk(x:aM)(E:Env)(H:aC):aF:=
 bD x E (.err 39) fun v=>eG v (.err 39) (.ok (.str 0 0) H) fun f g off n _=>
  ob (elems H f g 1 n off) (.err 39) fun l=>ob (uX l) (.err 39) fun s=>cA s fun s=>.ok (.str n s) H
def Im:aw→Bool
 |.kN=>true|_=>false
def DE(t n:Nat)(x:aM)(E:Env)(H:aC):aF:=
 bD x E (.err 44) fun v=>aI (Im v) (.ok v H) (gA v (.err 44) fun f g off=>iN (H.t.get f) (.err 44) fun elem es _ m lo fl _=>
  aI (Nat.beq elem t) (aI (Nat.beq es n) (aI (Nat.beq off 0) (aI (Nat.ble lo g) (aI (Nat.ble g m) (aI (Nat.ble 1 g) (aI (Nat.beq fl 0) (.ok v H) (.err 44)) (.err 44)) (.err 44)) (.err 44)) (.err 44)) (.err 44)) (.err 44))
def FM(x:aM)(E:Env)(H:aC):aF:=
 bD x E (.err 45) fun v=>eG v (.err 45) (.ok .kN H) fun f g off l _=>aI (Nat.beq l 0) (.err 45) (.ok (.ptr f g off) H)
def j'(f e:Nat)(H:aC)(k:aC→aF):aF:=
 aC.casesOn (motive:=fun _=>aF) H fun next bb ws t=>iN (t.get f) (.err 46) fun elem es aL m lo fl cs=>
  aI (Nat.beq elem e) (aI (Nat.beq es 1) (aI (aI (Nat.beq fl 0) true (Nat.beq fl 2)) (t.eX f (.row elem es aL m lo 2 cs) fun t=>k ⟨next,bb,wrote f bb ws,t⟩) (.err 46)) (.err 46)) (.err 46)
def Ep(e:Nat)(x n:aM)(E:Env)(H:aC):aF:=
 bD x E (.err 46) fun p=>aI (Im p) (bD n E (.err 46) fun nv=>ew nv (.err 46) fun k i=>fQ i (.err 46) fun l=>aI (Nat.beq (cI k) 3) (aI (Nat.beq l 0) (.ok (.str 0 0) H) (.err 46)) (.err 46))
  (gA p (.err 46) fun f g off=>bD n E (.err 46) fun nv=>ew nv (.err 46) fun k i=>fQ i (.err 46) fun l=>
  aI (Nat.beq off 0) (aI (Nat.beq (cI k) 3) (aI (Nat.ble 1 l) (aI (Nat.ble l 70368744177664) (ob (elems H f g 1 l 0) (.err 46) fun L=>ob (uX L) (.err 46) fun s=>cA s fun s=>j' f e H fun H=>.ok (.str l s) H) (.err 46)) (.err 46)) (.err 46)) (.err 46))
abbrev dr:=Nat→List aw→aC→aF
def Er(f:Nat)(args:List aM)(call:dr)(E:Env)(H:aC):aF:=ob (im E args) (.err 42) fun vs=>call f vs H
def DF(x:aM)(args:List aM)(call:dr)(E:Env)(H:aC):aF:=
 bD x E (.err 43) fun v=>vd v (.err 43) fun f fs dM=>ob (im E args) (.err 43) fun vs=>call f (fs++(vs++dM)) H
def bF.ev(o:bF):dr→Env→aC→aF:=
 bF.rec (motive:=fun _=>dr→Env→aC→aF)
  (fun x _=>lq x) (fun c a b _=>Ee c a b) (fun a b c d _=>yd a b c d) (fun a b c d _=>FF a b c d) (fun a b c _=>Ef a b c) (fun a b c _=>Dz a b c)
  (fun a b c _=>FG a b c) (fun a b c d _=>Cx a b c d) (fun a b _=>Gz a b) (fun a b _=>Eg a b) (fun a b c d _=>FH a b c d) (fun a b c d _=>De a b c d)
  (fun a b c _=>DA a b c) (fun a b c d e _=>Df a b c d e) (fun a b _=>Dg a b) (fun a b c _=>DB a b c) (fun a b c d _=>Eh a b c d) (fun a b c d e _=>FI a b c d e)
  (fun a b _=>Ei a b) (fun a _=>DD a) (fun a b c _=>Ej a b c) (fun a b _=>Ek a b) (fun a b c d e f _=>El a b c d e f) (fun a b _=>Il a b)
  (fun a b c d e f _=>Hx a b c d e f) (fun a _=>FJ a) (fun a _=>Y0 a) (fun a _=>Em a) (fun a b c d e _=>FK a b c d e) (fun a b c _=>Dh a b c) (fun a b c _=>En a b c)
  (fun a b c _=>Di a b c) (fun a b _=>Eo a b) (fun a _=>lq a) (fun a b _=>Dj a b) (fun a _=>Dk a) (fun f args=>Er f args) (fun x args=>DF x args) (fun a b c _=>DE a b c) (fun a _=>FM a) (fun a b c _=>Ep a b c) o
def fin(dst:Option Key)(E:Env)(k:Env→aC→dq)(r:aF):dq:=
 aF.rec (motive:=fun _=>dq) (fun v H=>Option.rec (motive:=fun _=>dq) (k E H) (fun d=>E.B7 d v fun E=>k E H) dst) .err r
def bK.run(call:dr)(o:bK)(E:Env)(H:aC)(k:Env→aC→dq):dq:=fin o.dst E k (o.op.ev call E H)
def ib(dst:Option Key)(E:Env)(H:aC)(k:Env→aC→dq):dq:=
 Option.rec (motive:=fun _=>dq) (k E H) (fun d=>E.B7 d .undef fun E=>k E H) dst
def bK.step(call:dr)(o:bK)(E:Env)(H:aC)(k:Env→aC→dq):dq:=
 Option.rec (motive:=fun _=>dq) (o.run call E H k)
  (fun g=>ob (E.get g.1) (.err 51) fun v=>we v (ib o.dst E H k) fun b=>aI (Bool.xor b g.2) (ib o.dst E H k) (o.run call E H k)) o.g
def me(call:dr)(l:List bK):Env→aC→dq:=
 List.rec (motive:=fun _=>Env→aC→dq) dq.ok (fun o _ p E H=>o.step call E H p) l
structure FP where
 rd:Option (List Nat)
 ws:List Nat
 lo:Nat
 hi:Nat
def fX:Option aw→List Nat
 |some (.ptr f _ _)=>[f]
 |some (.slice f _ _ _ _)=>[f]
 |_=>[]
def bF.reads(E:Env):bF→Option (List Nat)
 |.load _ _ a=>some (fX (a.ev E))
 |.app _ _ _ x y=>some (fX (x.ev E)++fX (y.ev E))
 |.va _ x _=>some (fX (x.ev E))
 |.vc x=>some (fX (x.ev E))
 |.store _ a _=>some (fX (a.ev E))
 |.vt _ _ x=>some (fX (x.ev E))
 |.wc _ x _=>some (fX (x.ev E))
 |.call _ _=>none
 |.rA _ _=>none
 |.copy _ _ _=>none
 |_=>some []
def Bg(l m:List Nat):Bool:=
 List.rec (motive:=fun _=>Bool) true (fun x _ p=>aI (oA x m) false p) l
def wg(l:List Nat)(lo hi:Nat):Bool:=
 List.rec (motive:=fun _=>Bool) true (fun x _ p=>aI (Nat.ble lo x) (aI (Nat.ble hi x) p false) p) l
def Et(l:List Nat)(r:Option (List Nat)):Bool:=
 List.rec (motive:=fun _=>Bool) true (fun _ _ _=>Option.rec (motive:=fun _=>Bool) false (fun r=>Bg l r) r) l
def oY(a b:FP):Bool:=
 aI (Et a.ws b.rd) (aI (Et b.ws a.rd) (aI (Bg a.ws b.ws) (wg a.ws b.lo b.hi) false) false) false
def nr(a:FP)(bB:List FP)(l:List Nat):Bool:=
 List.rec (motive:=fun _=>Bool) true (fun i _ p=>ob (bB[i]?) false fun b=>aI (oY a b) p false) l
def oc(bb:Nat)(ws new:List Nat):List Nat:=
 List.rec (motive:=fun _=>List Nat) ws (fun f _ p=>wrote f bb p) new
def B9(rs:Option (List Nat))(l:List Nat)(next bb:Nat)(ws:List Nat)(bB:List FP)(dst:Option Key)(E:Env)(k:Env→aC→List FP→dq)(r:aF):dq:=
 aF.rec (motive:=fun _=>dq) (fun v H'=>aC.casesOn (motive:=fun _=>dq) H' fun next' _ p t'=>
  aI (nr ⟨rs,p,next,next'⟩ bB l)
   (Option.rec (motive:=fun _=>dq) (k E ⟨next',bb,oc bb ws p,t'⟩ (⟨rs,p,next,next'⟩::bB))
    (fun d=>E.B7 d v fun E=>k E ⟨next',bb,oc bb ws p,t'⟩ (⟨rs,p,next,next'⟩::bB)) dst) (.err 50)) .err r
def bK.runQ(call:dr)(o:bK)(l:List Nat)(E:Env)(H:aC)(bB:List FP)(k:Env→aC→List FP→dq):dq:=
 aC.casesOn (motive:=fun _=>dq) H fun next bb ws t=>cA next fun next=>B9 (o.op.reads E) l next bb ws bB o.dst E k (o.op.ev call E ⟨next,next,[],t⟩)
def bK.oB(call:dr)(o:bK)(E:Env)(H:aC)(bB:List FP)(k:Env→aC→List FP→dq):dq:=
 Option.rec (motive:=fun _=>dq) (o.run call E H fun E H=>k E H bB) (fun l=>o.runQ call l E H bB k) o.q
def nF(q:Option (List Nat))(bB:List FP):List FP:=Option.rec (motive:=fun _=>List FP) bB (fun _=>⟨some [],[],0,0⟩::bB) q
def bK.jQ(call:dr)(o:bK)(E:Env)(H:aC)(bB:List FP)(k:Env→aC→List FP→dq):dq:=
 Option.rec (motive:=fun _=>dq) (o.oB call E H bB k)
  (fun g=>ob (E.get g.1) (.err 51) fun v=>we v (ib o.dst E H fun E H=>k E H (nF o.q bB)) fun b=>aI (Bool.xor b g.2) (ib o.dst E H fun E H=>k E H (nF o.q bB)) (o.oB call E H bB k)) o.g
def jb(call:dr)(l:List bK):Env→aC→List FP→dq:=
 List.rec (motive:=fun _=>Env→aC→List FP→dq) (fun E H _=>.ok E H) (fun o _ p E H bB=>o.jQ call E H bB p) l
def uT(r:Out)(k:Env→aC→Out):Out:=
 Out.rec (motive:=fun _=>Out) (fun x E H=>Ex.rec (motive:=fun _=>Out) (k E H) (fun id=>.ok (.exit id) E H) (.ok .ret E H) x) .err r
def vu(f:Env→aC→Out)(n:Nat):Env→aC→Out:=
 Nat.rec (motive:=fun _=>Env→aC→Out) (fun _ _=>.err 60) (fun _ p E H=>uT (f E H) p) n
def Cz(r:dq):Out:=dq.rec (motive:=fun _=>Out) (fun E H=>.ok .normal E H) .err r
def cSkip(E:Env)(H:aC):Out:=.ok .normal E H
def cRegion(call:dr)(draw:Bool)(ops:List bK):Env→aC→Out:=
 aI draw (fun E H=>Cz (jb call ops E H [])) (fun E H=>Cz (me call ops E H))
def cSeq(_ _:IC)(a b:Env→aC→Out)(E:Env)(H:aC):Out:=uT (a E H) b
def O7(c:aM)(_ _:IC)(a b:Env→aC→Out)(E:Env)(H:aC):Out:=
 ob (c.ev E) (.err 61) fun v=>Vd v (.err 61) fun t=>aI t (a E H) (b E H)
def DG(id:Nat)(_:IC)(b:Env→aC→Out)(E:Env)(H:aC):Out:=
 Out.rec (motive:=fun _=>Out) (fun x E H=>Ex.rec (motive:=fun _=>Out) (.ok .normal E H) (fun p=>aI (Nat.beq p id) (.ok .normal E H) (.ok (.exit p) E H)) (.ok .ret E H) x) .err (b E H)
def cLoop(lf:Nat)(_:IC)(b:Env→aC→Out):Env→aC→Out:=vu b lf
def cExit(id:Nat)(E:Env)(H:aC):Out:=.ok (.exit id) E H
def cRet(E:Env)(H:aC):Out:=.ok .ret E H
def IC.ev(call:dr)(lf:Nat)(c:IC):Env→aC→Out:=
 IC.rec (motive:=fun _=>Env→aC→Out) cSkip (cRegion call) cSeq O7 DG (cLoop lf) cExit cRet c
def params(ks:List Key):List aw→Env→(Env→aF)→aF:=
 List.rec (motive:=fun _=>List aw→Env→(Env→aF)→aF) (fun l E c=>List.rec (motive:=fun _=>aF) (c E) (fun _ _ _=>.err 71) l)
  (fun k _ p l E c=>List.rec (motive:=fun _=>aF) (.err 71) (fun v r _=>E.eX k v fun E=>p r E c) l) ks
def Ca(E:Env)(H:aC)(r:jW)(e:aF)(k:aw→aF):aF:=
 jW.casesOn (motive:=fun _=>aF) r (fun t=>ob (E.get t) e k)
  (fun a n agg=>ob (E.get a) e fun v=>gA v e fun f g off=>rd H f g off n e fun l=>fD agg l e k)
def vw(E:Env)(H:aC)(l:List jW)(e:aF):(List aw→aF)→aF:=
 List.rec (motive:=fun _=>(List aw→aF)→aF) (fun k=>k []) (fun r _ p k=>Ca E H r e fun v=>p fun vs=>k (v::vs)) l
def results(E:Env)(H:aC)(rs:List jW):aF:=
 vw E H rs (.err 70) fun vs=>List.rec (motive:=fun _=>aF) (.ok (.tuple []) H) (fun v r _=>List.rec (motive:=fun _=>aF) (.ok v H) (fun _ _ _=>.ok (.tuple (v::r)) H) r) vs
def tF(call:dr)(lf:Nat)(fn:bT)(args:List aw)(H:aC):aF:=
 params fn.ps args .emp fun E=>Out.rec (motive:=fun _=>aF) (fun x E H=>Ex.rec (motive:=fun _=>aF) (results E H fn.res) (fun _=>.err 72) (results E H fn.res) x) .err (fn.body.ev call lf E H)
def Kj(c:Nat)(l:Nat):Nat→Nat→Int:=
 Nat.rec (motive:=fun _=>Nat→Nat→Int) (fun _ _=>Int.negSucc 0)
  (fun _ p s i=>aI (Nat.beq (Nat.mod s 256) c) (Int.ofNat i) (cA (Nat.div s 256) fun s=>cA (Nat.succ i) fun i=>p s i)) l
def Ln(args:List aw)(H:aC):aF:=
 List.rec (motive:=fun _=>aF) (.err 90) (fun x r _=>List.rec (motive:=fun _=>aF) (.err 90) (fun y _ _=>
  iM x (.err 90) fun l s=>ew y (.err 90) fun k c=>fQ c (.err 90) fun c=>aI (Nat.beq (cI k) 4) (aI (Nat.ble c 255) (aI (Nat.beq (gb r) 1) (jM (Kj c l s 0) fun i=>.ok (.int .i64 i) H) (.err 90)) (.err 90)) (.err 90)) r) args
def O8(args:List aw)(H:aC):aF:=
 List.rec (motive:=fun _=>aF) (.err 91) (fun x r _=>List.rec (motive:=fun _=>aF) (.ok x H) (fun _ _ _=>.err 91) r) args
def O9(args:List aw)(H:aC):aF:=
 List.rec (motive:=fun _=>aF) (.ok (.bool true) H) (fun _ _ _=>.err 92) args
def sa:Nat→Nat→List UInt8
 |0,_=>[]
 |l+1,s=>UInt8.ofNat (s % 256)::sa l (s/256)
def Bh:List aw→aC→aF
 |[.str l s,.int k a,.int p b],H=>if k= .i64∧a=10∧p= .i64∧b=64∧l≤1000 then(match Lib.parseUintB 64 (sa l s) with
  |.ok u=>.ok (.tuple [.int .u64 u,.i7]) H
  |_=>.err 93) else .err 93
 |_,_=>.err 93
def Cb(t:Nat):List aw→aC→aF
 |[.str l s,.int k a,.int p b],H=>if k= .i64∧a=10∧p= .i64∧b=64∧l≤1000 then(match Lib.parseIntB 64 (sa l s) with
  |.ok v=>.ok (.tuple [.int .i64 v,.i7]) H
  |.range=>.ok (.tuple [.int .i64 (Lib.intSat 64 (sa l s)),.iface t (.map 0)]) H
  |_=>.err 93) else .err 93
 |_,_=>.err 93
def aaB(c:Nat)(args:List aw)(H:aC):aF:=match c with
 |0=>Bh args H
 |c+1=>Cb c args H
def zg(c:Nat)(args:List aw)(H:aC):aF:=
 Nat.rec (motive:=fun _=>aF) (Ln args H) (fun c _=>Nat.rec (motive:=fun _=>aF) (O8 args H) (fun c _=>Nat.rec (motive:=fun _=>aF) (O9 args H) (fun c _=>aaB c args H) c) c) c
def GA(ft:Tr bT)(xt:Tr Nat)(lf:Nat)(n:Nat):dr:=
 Nat.rec (motive:=fun _=>dr) (fun _ _ _=>.err 80) (fun _ p f args H=>ob (ft.get f) (ob (xt.get f) (.err (Nat.add 10000 f)) fun c=>zg c args H) fun fn=>tF p lf fn args H) n
end Go.Ev
