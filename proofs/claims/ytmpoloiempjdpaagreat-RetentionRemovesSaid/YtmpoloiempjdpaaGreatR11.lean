/- Part 11 of rules for walks through the code of a program, and of such walks; what each part proves is said by its theorems. -/
import Derived.Test.YtmpoloiempjdpaaGreatR10
import Derived.LoopN
import Derived.Scope
import Derived.Lib.Bytealg
import Derived.Laws.StandIn
set_option linter.unusedVariables false
set_option linter.unusedSimpArgs false
noncomputable section
set_option maxRecDepth 100000
set_option maxHeartbeats 4000000
namespace Go.Ev
def guardOf(ops:Array Oper):Option (Nat×Bool)→Option (Option (Key×Bool))
 |none=>some none
 |some (j,want)=>match(ops[j]?).bind (·.dst) with|some d=>if d<1296 then some (some (pk d,want)) else none|none=>none
def Uh(nt:Nat):Option Nat→Bool
 |some d=>decide (d<nt)&&decide (d<1296)
 |none=>true
def Mq(P:Program)(o:Op):bq:=match ID P o with|some io=>io|none=>Jz
def Ui(P:Program)(nt:Nat)(ops:Array Oper)(o:Oper):Option bk:=
 match guardOf ops o.guard with
 |none=>none
 |some g=>if Uh nt o.dst=true then some {dst:=o.dst.map pk,g:=g,q:=none,op:=Mq P o.op} else none
def Ly(P:Program)(nt:Nat)(ops:Array Oper):List Oper→Option (List bk)
 |[]=>some []
 |o::r=>match Ui P nt ops o,Ly P nt ops r with
  |some a,some l=>some (a::l)
  |_,_=>none
def HC:IC:=.region false [{dst:=none,g:=none,q:=none,op:=Jz}]
def aaO(P:Program)(nt:Nat)(ops:Array Oper)(draw:Bool):IC:=
 match Ly P nt ops ops.toList with
 |none=>HC
 |some l=>
  if draw then
   let ms:=Cl ops.toList []
   if KC 0 ops.toList&&ad3 ms l then .region true (pr ms 0 [] l) else HC
  else .region false l
def jP(P:Program)(nt:Nat):Code→IC
 |.skip=>.skip
 |.region _ ops draw=>aaO P nt ops draw
 |.seq a b=>.seq (jP P nt a) (jP P nt b)
 |.cond c a b=>match cB P c with
  |some y=>.cond y (jP P nt a) (jP P nt b)
  |none=>HC
 |.block id b=>.block id (jP P nt b)
 |.loop b=>.loop (jP P nt b)
 |.exit id=>.exit id
 |.ret=>.ret
 |.scope c=>jP P nt c
 |.label _=>.skip
 |_=>HC
def nC(P:Program):List ResultVar→Option (List jO)
 |[]=>some []
 |.tmp t::r=>match nC P r with|some l=>if t<1296 then some (.tmp (pk t)::l) else none|none=>none
 |.cell a t::r=>match nC P r,gR P t with|some l,some n=>if a<1296 then some (.cell (pk a) n (qp P t)::l) else none|_,_=>none
def vM(P:Program)(fn:Func):Option aO:=
 match fn.body,nC P fn.results.toList with
 |some c,some rs=>if fn.params.size+fn.nfree≤fn.ntmps∧fn.params.size+fn.nfree≤1296∧(fn.name== "runtime.NumGoroutine")=false then some {nt:=fn.ntmps,ps:=(List.range (fn.params.size+fn.nfree)).map pk,res:=rs,body:=jP P fn.ntmps c} else none
 |_,_=>none
section
variable{P:Program}{nt:Nat}{ops:Array Oper}
theorem iopOf_ok{o:Oper}{io:bk}(h:Ui P nt ops o=some io):Ed P nt ops o io:=by
 unfold Ui at h
 cases z:guardOf ops o.guard with
 |none=>rw[z] at h;cases h
 |some g=>
  rw[z] at h;dsimp only at h
  split at h
  ·rename_i A
   cases h
   refine⟨?_,fun d e=>?_,?_,?_⟩
   ·show o.dst=(o.dst.map pk).map Key.n
    cases ho:o.dst with
    |none=>rfl
    |some d=>
     rw[ho] at A;simp only[Uh,cN,eW] at A;simp only[sf,Bf A.2]
   ·have e:o.dst.map pk=some d:=e
    cases ho:o.dst with
    |none=>rw[ho] at e;cases e
    |some x=>
     rw[ho] at A e;simp only[Uh,cN,eW] at A
     cases e
     rw[Bf A.2];exact A.1
   ·cases h0:o.guard with
    |none=>rw[h0] at z;cases z;exact .inl ⟨rfl,rfl⟩
    |some M=>
     obtain⟨j,want⟩:=M;rw[h0] at z;unfold guardOf at z
     split at z
     ·rename_i G;cases G
     rename_i O I G
     cases G
     split at z
     ·rename_i d A
      split at z
      ·rename_i L
       cases z
       exact .inr ⟨j,want,pk d,rfl,by rw[Bf L];exact A,rfl⟩
      cases z
     cases z
   show ID P o.op=some (Mq P o.op)∨Mq P o.op=Jz;unfold Mq
   split
   ·rename_i io h;exact .inl h
   exact .inr rfl
  cases h
theorem Z7:∀{os:List Oper}{l:List bk},Ly P nt ops os=some l→l.length=os.length∧∀(i:Nat)(o:Oper)(io:bk),os[i]?=some o→l[i]?=some io→Ed P nt ops o io
 |[],l,h=>by cases h;exact⟨rfl,fun i o io h=>by simp at h⟩
 |o::r,l,h=>by
  unfold Ly at h
  split at h
  ·rename_i a I G h2
   cases h
   obtain⟨e,k⟩:=Z7 h2;refine⟨by simp[e],fun i x io A z=>?_⟩
   cases i with
   |zero=>simp at A z;subst A;subst z;exact iopOf_ok G
   |succ i=>exact k i x io (by simpa using A) (by simpa using z)
  cases h
def ajo:Ex→Exit
 |.normal=>.normal
 |.exit id=>.exit id
 |.ret=>.ret
theorem PW{r:Out}{k:Env→ax→Out}{x:Ex}{E':Env}{H':ax}(h:xb r k= .ok x E' H'):
  ∃y E1 H1,r= .ok y E1 H1∧((y= .normal∧k E1 H1= .ok x E' H')∨(y≠.normal∧y=x∧E1=E'∧H1=H')):=by
 cases r with
 |err n=>cases h
 |ok y E1 H1=>
  refine⟨y,E1,H1,rfl,?_⟩
  cases y with
  |normal=>exact .inl ⟨rfl,h⟩
  |exit id=>cases h;exact .inr ⟨by simp,rfl,rfl,rfl⟩
  |ret=>cases h;exact .inr ⟨by simp,rfl,rfl,rfl⟩
theorem Lz{r:dH}{x:Ex}{E':Env}{H':ax}(h:EJ r= .ok x E' H'):x= .normal∧r= .ok E' H':=by
 cases r with
 |err n=>cases h
 |ok E H=>cases h;exact⟨rfl,rfl⟩
theorem qB.kX{call:dO}(G:jn P call){o:bk}{E:Env}{H:ax}{bd:List FP}{b:Bool}{v:aj}{fp:FP}{H1:ax}(z:H.aR≤H.next)(h:qB call o E H bd b v fp H1):eE H H1:=by
 cases h with
 |skip=>exact eE.refl _
 |plain _ _ A=>exact TM.ins z (fun f a=>G.kX f a H z) E o.op v _ A
 |marked _ _ A _=>exact(TM.ins (H:=H.mark) (bf _) (fun f a=>G.kX f a _ (bf _)) E o.op v _ A).CS z
theorem Zj{call:dO}(z:jn P call):∀(l:List bk)(E:Env)(H:ax)(bd:List FP)(E':Env)(H':ax),H.aR≤H.next→iM call l E H bd= .ok E' H'→eE H H'
 |[],E,H,bd,E',H',_,h=>by cases h;exact eE.refl _
 |o::r,E,H,bd,E',H',A,h=>by
  obtain⟨b,v,fp,H1,G,h2⟩:=aaM (show o.jq call E H bd (iM call r)= .ok E' H' from h);have t1:=G.kX z A;exact t1.trans (Zj z r _ _ _ _ _ (by rw[t1.aR];exact eO A t1.next) h2)
def TF(f:Env→ax→Out):Prop:=∀E H x E' H',H.aR≤H.next→f E H= .ok x E' H'→eE H H'
theorem TF.seq{f g:Env→ax→Out}(A:TF f)(G:TF g):TF fun E H=>xb (f E H) g:=by
 intro E H x E' H' z h;obtain⟨y,E1,H1,I,h2⟩:=PW h;have t1:=A _ _ _ _ _ z I;rcases h2 with⟨_,h2⟩|⟨_,_,_,e⟩
 ·exact t1.trans (G _ _ _ _ _ (by rw[t1.aR];exact eO z t1.next) h2)
 exact e▸t1
theorem TF.loop{f:Env→ax→Out}(z:TF f):∀n,TF (xM f n)
 |0=>fun _ _ _ _ _ _ h=>by cases h
 |n+1=>TF.seq z (TF.loop z n)
theorem aaP{c:aG}{i j:IC}{f g:Env→ax→Out}{E E':Env}{H H':ax}{x:Ex}(h:Ub c i j f g E H= .ok x E' H'):∃t,c.ev E=some (.bool t)∧(if t then f E H else g E H)= .ok x E' H':=by
 unfold Ub at h
 cases z:c.ev E with
 |none=>rw[z] at h;cases h
 |some v=>
  rw[z] at h
  cases v<;>try(cases h;done)
  rename_i t;refine⟨t,rfl,?_⟩
  cases t<;>exact h
theorem Z8{id:Nat}{i:IC}{f:Env→ax→Out}{E E':Env}{H H':ax}{x:Ex}(h:Gs id i f E H= .ok x E' H'):
  ∃y,f E H= .ok y E' H'∧((y= .normal∧x= .normal)∨(y= .exit id∧x= .normal)∨(∃z,z≠id∧y= .exit z∧x= .exit z)∨(y= .ret∧x= .ret)):=by
 unfold Gs at h
 cases G:f E H with
 |err n=>rw[G] at h;cases h
 |ok y E1 H1=>
  rw[G] at h
  cases y with
  |normal=>cases h;exact⟨_,rfl,.inl ⟨rfl,rfl⟩⟩
  |ret=>cases h;exact⟨_,rfl,.inr (.inr (.inr ⟨rfl,rfl⟩))⟩
  |exit z=>
   have h:aI (Nat.beq z id) (Out.ok .normal E1 H1) (.ok (.exit z) E1 H1)= .ok x E' H':=h
   by_cases A:z=id
   ·subst A;rw[show Nat.beq z z=true from gG z] at h
    cases h;exact⟨_,rfl,.inr (.inl ⟨rfl,rfl⟩)⟩
   have e:Nat.beq z id=false:=by
    cases I:Nat.beq z id
    ·rfl
    exact absurd (cU I) A
   rw[e] at h
   cases h;exact⟨_,rfl,.inr (.inr (.inl ⟨z,A,rfl,rfl⟩))⟩
theorem td{call:dO}{lf:Nat}(z:jn P call):∀c:IC,TF (c.ev call lf)
 |.skip=>fun _ _ _ _ _ _ h=>by cases h;exact eE.refl _
 |.region d ops=>fun E H x E' H' A h=>by
  cases d with
  |false=>exact Kj z ops E H E' H' A (Lz h).2
  |true=>exact Zj z ops E H [] E' H' A (Lz h).2
 |.seq a b=>TF.seq (td z a) (td z b)
 |.cond c a b=>fun E H x E' H' A h=>by
  obtain⟨t,_,h⟩:=aaP (i:=a) (j:=b) (f:=a.ev call lf) (g:=b.ev call lf) h
  cases t
  ·exact td z b _ _ _ _ _ A h
  exact td z a _ _ _ _ _ A h
 |.block id b=>fun E H x E' H' A h=>by
  obtain⟨y,h,_⟩:=Z8 (i:=b) (f:=b.ev call lf) h;exact td z b _ _ _ _ _ A h
 |.loop b=>TF.loop (td z b) lf
 |.exit id=>fun _ _ _ _ _ _ h=>by cases h;exact eE.refl _
 |.ret=>fun _ _ _ _ _ _ h=>by cases h;exact eE.refl _
variable{ρ:Ho}{E E':Env}{H H' H1:ax}{C:Nat→Option cV}{w:World}{a:Act}{call:dO}{lf:Nat}
theorem sj.step(U:gS ρ C H)(t1:eE H H1)(t2:eE H1 H'){K:Act→World→Prop}(z:sj P nt E' H H' C ρ w K){A:Ho}{Y:World}(G:Ext (Wr H1) H.next H1.next ρ A w Y):sj P nt E' H1 H' (eg C H H1) A Y K:=
 fun Z w2 I L M O _=>by
  have h2:=(G.mono (Ra t2)).trans M;exact z Z w2 I L h2 (O.weaken fun f o h hf=>Z3 U t1.next t2.next t2.gJ h2.gy f o h hf) (Kn U h2.gy)
theorem sj.refl{K:Act→World→Prop}(A:AR P ρ nt E a)(G:R ρ C w)(I:gS ρ C H)(z:sj P nt E H H C ρ w K):K a w:=by
 refine z a w ρ A (Ext.refl _ _ _ _) ?_ ?_
 ·rw[rH];exact G
 rw[rH];exact I
theorem Cn{x:Ex}(h:HC.ev call lf E H= .ok x E' H'):False:=by cases h
def Gu(P:Program)(nt:Nat)(c:Code)(f:Env→ax→Out):Prop:=
 ∀E H x E' H' ρ C a w Q,f E H= .ok x E' H'→AR P ρ nt E a→R ρ C w→gS ρ C H→fC ρ H.next H'.next→H.aR≤H.next→WF H→sj P nt E' H H' C ρ w (Q (ajo x))→c.wp P Q a w
theorem Gu.rounds{c:Code}{f:Env→ax→Out}(L:Gu P nt c f)(M:TF f):∀n E H x E' H' ρ C a w(Q:Exit→Act→World→Prop),xM f n E H= .ok x E' H'→AR P ρ nt E a→R ρ C w→gS ρ C H→fC ρ H.next H'.next→H.aR≤H.next→WF H→
  sj P nt E' H H' C ρ w (Q (ajo x))→Code.rounds P c Q n a w
 |0,_,_,_,_,_,_,_,_,_,_,h,_,_,_,_,_,_,_=>by cases h
 |n+1,E,H,x,E',H',ρ,C,a,w,Q,h,hA,hR,O,U,I,z,Y=>by
  rw[rounds_succ];obtain⟨y,E1,H1,Z,h2⟩:=PW (k:=xM f n) h;have t1:=M _ _ _ _ _ I Z;have A:H1.aR≤H1.next:=by rw[t1.aR];exact eO I t1.next
  rcases h2 with⟨rfl,h2⟩|⟨hy,rfl,rfl,rfl⟩
  ·have t2:=TF.loop M n _ _ _ _ _ A h2;exact L E H _ E1 H1 ρ C a w _ Z hA hR O (U.le t2.next) I z fun a1 w1 ρ1 XN G XO JK=>(Gu.rounds L M n E1 H1 x E' H' ρ1 _ a1 w1 Q h2 XN XO JK (U.sub G.gy t1.next) A (t1.wf z) (Y.step O t1 t2 G))
  refine L E H _ E1 H1 ρ C a w _ Z hA hR O U I z ?_
  cases y with
  |normal=>exact absurd rfl hy
  |exit id=>exact Y
  |ret=>exact Y
theorem wV(hc:jn P call)(G:P.follows .mixedOrders=true):∀c:Code,Gu P nt c ((jP P nt c).ev call lf)
 |.skip=>fun E H x E' H' ρ C a w Q h I O M Y U z A=>by
  cases h
  exact wp_skip (A.refl I O M)
 |.exit id=>fun E H x E' H' ρ C a w Q h I O M Y U z A=>by
  cases h
  exact wp_exit (A.refl I O M)
 |.ret=>fun E H x E' H' ρ C a w Q h I O M Y U z A=>by
  cases h
  exact wp_ret (A.refl I O M)
 |.seq c d=>fun E H x E' H' ρ C a w Q h I O M Y U z A=>by
  have hcc:=wV hc G c;have hd:=wV hc G d;obtain⟨y,E1,H1,h1,h2⟩:=PW (k:=(jP P nt d).ev call lf) h;have t1:=td hc (jP P nt c) _ _ _ _ _ U h1;have re:H1.aR≤H1.next:=by rw[t1.aR];exact eO U t1.next
  refine wp_seq ?_;rcases h2 with⟨rfl,h2⟩|⟨hy,rfl,rfl,rfl⟩
  ·have t2:=td hc (jP P nt d) _ _ _ _ _ re h2;exact hcc E H _ E1 H1 ρ C a w _ h1 I O M (Y.le t2.next) U z fun a1 w1 ρ1 XN Pa XO JK=>(hd E1 H1 x E' H' ρ1 _ a1 w1 Q h2 XN XO JK (Y.sub Pa.gy t1.next) re (t1.wf z) (A.step M t1 t2 Pa))
  refine hcc E H _ E1 H1 ρ C a w _ h1 I O M Y U z ?_
  cases y with
  |normal=>exact absurd rfl hy
  |exit id=>exact A
  |ret=>exact A
 |.cond c d e=>fun E H x E' H' ρ C a w Q h I O M Y U z A=>by
  unfold jP at h
  split at h
  ·rename_i y hy;obtain⟨t,h1,h2⟩:=aaP (i:=jP P nt d) (j:=jP P nt e) (f:=(jP P nt d).ev call lf) (g:=(jP P nt e).ev call lf) h;have k:=I.bI hy h1;simp only[VR] at k;refine wp_cond (t:=t) k ?_
   cases t
   ·exact wV hc G e E H x E' H' ρ C a w Q h2 I O M Y U z A
   exact wV hc G d E H x E' H' ρ C a w Q h2 I O M Y U z A
  exact(Cn h).elim
 |.block id c=>fun E H x E' H' ρ C a w Q h I O M Y U z A=>by
  obtain⟨y,h1,h2⟩:=Z8 (i:=jP P nt c) (f:=(jP P nt c).ev call lf) h;refine wp_block (wV hc G c E H y E' H' ρ C a w _ h1 I O M Y U z ?_);rcases h2 with⟨rfl,rfl⟩|⟨rfl,rfl⟩|⟨id',fP,rfl,rfl⟩|⟨rfl,rfl⟩
  ·exact A
  ·intro a1 w1 ρ1 b1 b2 b3 b4;show Exit.inBlock id Q (.exit id) a1 w1;simp only[Exit.inBlock,if_true];exact A a1 w1 ρ1 b1 b2 b3 b4
  ·intro a1 w1 ρ1 b1 b2 b3 b4;show Exit.inBlock id Q (.exit id') a1 w1;simp only[Exit.inBlock,aZ fP];exact A a1 w1 ρ1 b1 b2 b3 b4
  exact A
 |.loop c=>fun E H x E' H' ρ C a w Q h I O M Y U z A=>
  wp_loop_rounds lf (Gu.rounds (wV hc G c) (td hc _) lf E H x E' H' ρ C a w Q h I O M Y U z A)
 |.region id ops draw=>fun E H x E' H' ρ C a w Q h I O M Y U z A=>by
  unfold jP aaO at h
  split at h
  ·exact(Cn h).elim
  rename_i l hl;obtain⟨hlen,zc⟩:=Z7 hl
  cases draw with
  |false=>
   simp only[gU,if_false] at h;obtain⟨rfl,hz⟩:=Lz (r:=mP call l E H) h;refine wp_region ?_;rw[show ops.size=l.length by rw[hlen];simp,List.range_eq_range'];exact Zf hc (K:=Q .normal) l ops.toList 0 hlen.symm zc (fun i o h=>by simpa using h) E H E' H' ρ C a w hz I O M Y U z A (fun _ _ h=>h)
  |true=>
   simp only[if_true] at h
   split at h
   ·rename_i XP;simp only[cN] at XP;obtain⟨rfl,hz⟩:=Lz (r:=iM call (pr (Cl ops.toList []) 0 [] l) E H []) h;have XQ:=Y3 (ops:=ops) ops.toList [] (fun n=>by simp) (fun j i h=>by simp at h);have get:∀{i:Nat}{io:bk},(pr (Cl ops.toList []) 0 [] l)[i]?=some io→∃Z,l[i]?=some Z∧io.dst=Z.dst∧io.g=Z.g∧io.op=Z.op∧(io.q=none→mK io.op=true):=by
     intro i io JJ;obtain⟨Z,h0,h1,h2,h3,h4⟩:=Fy (ms:=Cl ops.toList []) (L:=l) l 0 (fun n=>by simp) i io JJ;rw[fh] at h0;refine⟨Z,h0,h1,h2,h3,fun hq=>?_⟩;rw[hq] at h4;rw[h3]
     cases hp:mK Z.op
     ·rw[hp] at h4;simp at h4
     rfl
    refine regionQ_sound hc ⟨?_,?_,?_,?_,?_⟩ rfl XQ G hz I O M Y U z A (fun _ _ h=>h)
    ·rw[Y5,hlen];simp
    ·intro i o io ho JJ;obtain⟨Z,h0,h1,h2,h3,_⟩:=get JJ;have k:=zc i o Z (by simpa using ho) h0;exact⟨by rw[h1];exact k.dst,fun d hd=>k.lt d (by rw[←h1];exact hd),by rw[h2];exact k.g,by rw[h3];exact k.op⟩
    ·intro j o e ho he hb;have:=Zh ops.toList 0 XP.1 j o e (by simpa using ho) he hb;omega
    ·intro i j x y XL hx hy;obtain⟨x0,JL,a1,a2,a3,_⟩:=get hx;obtain⟨y0,XM,b1,b2,b3,_⟩:=get hy;rcases tmpsOk_ok XP.2 XL JL XM with k|k
     ·exact .inl (XQ _ _ k)
     refine .inr ⟨fun t A=>?_,fun t A=>?_,fun t A=>?_⟩
     ·rw[a1];exact k.xy t (by unfold u7 at A⊢;rw[←b2,←b3];exact A)
     ·rw[a1];exact k.dd t (by rw[←b1];exact A)
     rw[b1];exact k.yx t (by unfold u7 at A⊢;rw[←a2,←a3];exact A)
    intro i x hx hq;obtain⟨_,_,_,_,_,k⟩:=get hx;exact k hq
   exact(Cn h).elim
 |.rangeFunc ..=>fun E H x E' H' ρ C a w Q h _ _ _ _ _ _ _=>(Cn h).elim
 |.scope c=>fun E H x E' H' ρ C a w Q h I O M Y U z A=>
  wp_scope_straight (wV hc G c E H x E' H' ρ C a w _ h I O M Y U z (by cases x<;>exact A))
 |.label _=>fun E H x E' H' ρ C a w Q h I O M Y U z A=>by
  cases h
  exact wp_label (A.refl I O M)
 |.goto _=>fun E H x E' H' ρ C a w Q h _ _ _ _ _ _ _=>(Cn h).elim
 |.refuse _=>fun E H x E' H' ρ C a w Q h _ _ _ _ _ _ _=>(Cn h).elim
end
structure Kept(w w':World):Prop where
 os:w'.os=w.os
 tape:w'.tape=w.tape
 output:w'.output=w.output
 size:w.heap.size≤w'.heap.size
 um:∀b,b<w.heap.size→w'.heap[b]?=w.heap[b]?
section
variable{ρ:Ho}{C:Nat→Option cV}{w w':World}
theorem R.kept(z:R ρ C w)(G:Kept w w'):R ρ C w':=
 ⟨fun f o ho g h A=>(z.obj f o ho g h A).gJ (Ho.le_refl _) (G.um _ (z.gY f g h A)),z.oQ,fun f g h A=>jh (z.gY f g h A) G.size,z.uniq,fun f g h A a b=>(z.bP f g h A a b).gJ (cell_of_heap (w:=w) (G.um _ (z.gY f g h A)))⟩
theorem Kept.ext(z:Kept w w')(W:Nat→Prop)(n:Nat)(ρ:Ho):Ext W n n ρ ρ w w':=
 ⟨Ho.le_refl _,fun _ g h e=>.inl ⟨g,h,e⟩,fun _ _ _ e=>.inl e,fun b A _=>z.um b A,z.size,bf _,z.os,z.tape,z.output⟩
end
section
variable{P:Program}{nt:Nat}{ρ:Ho}{E E':Env}{H H' H1:ax}{C:Nat→Option cV}{w:World}{a:Act}{call:dO}{lf:Nat}
theorem Z9:∀(ks:List Key)(l:List aj)(E:Env)(c:Env→aC)(v:aj)(H':ax),params ks l E c= .ok v H'→
  ks.length=l.length∧∃E',c E'= .ok v H'∧∀t x,E'.get t=some x→E.get t=some x∨∃i:Nat,ks[i]?=some t∧l[i]?=some x
 |[],[],E,c,v,H',h=>⟨rfl,E,h,fun t x A=>.inl A⟩
 |[],_::_,E,c,v,H',h=>by cases h
 |_::_,[],E,c,v,H',h=>by cases h
 |k::ks,y::l,E,c,v,H',h=>by
  have h:E.fB k y (fun E=>params ks l E c)= .ok v H':=h;rw[T4.jI] at h;obtain⟨G,E',h2,I⟩:=Z9 ks l _ _ _ _ h;refine⟨by simp[G],E',h2,fun t x A=>?_⟩;rcases I t x A with z|⟨i,z,L⟩
  ·rw[T4.da] at z
   split at z
   ·rename_i e;subst e
    cases z
    exact .inr ⟨0,rfl,rfl⟩
   exact .inl z
  exact .inr ⟨i+1,by simpa using z,by simpa using L⟩
theorem AR.init{args:List aj}{di:Array Value}(A:bO ρ args di.toList)(Z:args.length≤nt)(I:vl P ρ){E':Env}{n:Nat}(L:n≤1296)
  (M:∀t x,E'.get t=some x→T4.emp.get t=some x∨∃i:Nat,((List.range n).map pk)[i]?=some t∧args[i]?=some x):
  AR P ρ nt E' {tmps:=di++Array.replicate (nt-di.size) undef,defers:=[]}:=by
 have hl:di.size=args.length:=by have:=A.length;simpa using this
 refine⟨by simp;omega,rfl,fun t v h=>?_,I⟩;rcases M t v h with h|⟨i,G,h2⟩
 ·rw[T4.ta] at h;cases h
 obtain⟨y,O,z⟩:=A.get _ v h2;refine⟨y,?_,z⟩;have hi:i<n:=by
  have:=(List.getElem?_eq_some_iff.1 G).1;simpa using this
 have U:pk i=t:=by simpa[hi] using G
 have Y:t.n=i:=by rw[←U];exact Bf al
 have:i<di.size:=by
  have:=(List.getElem?_eq_some_iff.1 h2).1;omega
 rw[Y,Vy this];simpa using O
def Ee(tmps:Array Value):ResultVar→Sem Value
 |.tmp t=>pure (tmps.getD t undef)
 |.cell a t=>do loadVar t (←asAddr (tmps.getD a undef))
theorem results_eq(fn:Func)(tmps:Array Value):Go.results fn tmps=(do
  let vs←fn.results.mapM (Ee tmps)
  pure (if h:vs.size=1 then vs[0] else .tuple vs)):=by
 unfold Go.results;congr 2
theorem abM{tmps:Array Value}{t:Nat}{cv:Value}(h:tmps[t]?=some cv):tmps.getD t undef=cv:=by
 simp[yl,h]
theorem resA_ok(hA:AR P ρ nt E a)(hR:R ρ C w)(hK:gS ρ C H){r:ResultVar}{rs:List jO}{ir:jO}(z:nC P (r::[])=some [ir]){k:aj→aC}{e:Nat}{v:aj}(h:Eb E H ir (.err e) k= .ok v H'):
  ∃x L,(Ee a.tmps r).run P w= .ok L w∧VR ρ x L∧k x= .ok v H':=by
 cases r with
 |tmp t=>
  simp only[nC] at z
  split at z
  case isFalse=>cases z
  rename_i ht;simp only[eC,Di,and_true] at z;subst z;replace h:=iO (o:=E.get (pk t)) h;obtain⟨x,I,h⟩:=h;obtain⟨cv,M,h2⟩:=hA.tmp (pk t) x I;rw[Bf ht] at M;exact⟨x,cv,by simp[Ee,abM M],h2,h⟩
 |cell s t=>
  simp only[nC] at z
  split at z
  ·rename_i l n U hn
   cases U
   split at z
   case isFalse=>cases z
   rename_i G;simp only[eC,Di,and_true] at z;subst z;replace h:=iO (o:=E.get (pk s)) h;obtain⟨x,I,h⟩:=h;replace h:=Fv h;obtain⟨f,g,off,rfl,h⟩:=h;obtain⟨l,U,h⟩:=Uf h (by simp);obtain⟨cv,M,h2⟩:=hA.tmp (pk s) _ I;rw[Bf G] at M;simp only[VR] at h2;obtain⟨hm,hh,rfl⟩:=h2;obtain⟨_,_,_,_,_,uj⟩:=uM hn;have Y:C f=H.t.get f:=by
    obtain⟨_,_,_,_,_,_,_,_,hg,_⟩:=U;exact(hK f _ ⟨_,_,hh⟩ hg).trans hg.symm
   obtain⟨hlen,hk,hc⟩:=hR.rd U Y hh al;have key:∀x,fO (qp P t) l (.err 0) (fun v=>.ok v H)= .ok x H→k x= .ok v H'→∃x L,(Ee a.tmps (.cell s t)).run P w= .ok L w∧VR ρ x L∧k x= .ok v H':=by
    intro x I Z;obtain⟨_,cv,O,wD⟩:=Zb (P:=P) (ρ:=ρ) (w:=w) (ad:=⟨hm.bE,hm.off+off,none⟩) hn hlen hk (fun j x I=>by rw[Addr.add_lit];exact hc j x I) I;exact⟨x,cv,by simp[Ee,abM M,asAddr,O],wD,Z⟩
   rcases Q7 h with⟨A,h⟩|⟨x,A,EM,h⟩
   ·exact key _ (by rw[A];rfl) h
   exact key x (by rw[A,EM];rfl) h
  cases z
theorem aaQ(Z:AR P ρ nt E a)(hR:R ρ C w)(hK:gS ρ C H){e:Nat}{v:aj}:∀{l:List ResultVar}{rs:List jO}(z:nC P l=some rs){k:List aj→aC},xN E H rs (.err e) k= .ok v H'→
  ∃vs nZ,(l.mapM (Ee a.tmps)).run P w= .ok nZ w∧bO ρ vs nZ∧k vs= .ok v H'
 |[],rs,z,k,h=>by
  cases z
  exact⟨[],[],by simp,by simp only[bO],h⟩
 |r::l,rs,z,k,h=>by
  have A:∃I G,rs=I::G∧nC P [r]=some [I]∧nC P l=some G:=by
   cases r with
   |tmp t=>
    unfold nC at z
    split at z
    ·rename_i L M
     split at z
     ·rename_i O;cases z;exact⟨_,L,rfl,by simp[nC,O],M⟩
     cases z
    cases z
   |cell s t=>
    unfold nC at z
    split at z
    ·rename_i L n M hn
     split at z
     ·rename_i O;cases z;exact⟨_,L,rfl,by simp[nC,hn,O],M⟩
     cases z
    cases z
  obtain⟨I,G,rfl,h1,h2⟩:=A;have h:Eb E H I (.err e) (fun v=>xN E H G (.err e) fun vs=>k (v::vs))= .ok v H':=h;obtain⟨x,cx,hx,U,h⟩:=resA_ok Z hR hK (rs:=[]) h1 h;obtain⟨vs,nZ,hm,Y,h⟩:=aaQ Z hR hK h2 h;exact⟨x::vs,cx::nZ,by simp[hx,hm],⟨cx,nZ,rfl,U,Y⟩,h⟩
theorem resultsA_ok(G:AR P ρ nt E a)(I:R ρ C w)(L:gS ρ C H){fn:Func}{rs:List jO}(M:nC P fn.results.toList=some rs){v:aj}(h:results E H rs= .ok v H'):
  H'=H∧∃cv,(Go.results fn a.tmps).run P w= .ok cv w∧VR ρ v cv:=by
 obtain⟨vs,nZ,A,z,h⟩:=aaQ (P:=P) (e:=70) G I L M h;rw[results_eq]
 cases vs with
 |nil=>
  cases h
  simp only[bO] at z;subst z;refine⟨rfl,.tuple #[],by simp[T1,A],?_⟩;simp only[VR];exact⟨#[],rfl,by simp only[bO]⟩
 |cons x r=>
  cases r with
  |nil=>
   cases h
   simp only[bO] at z;obtain⟨c,t,rfl,O,rfl⟩:=z;exact⟨rfl,c,by simp[T1,A],O⟩
  |cons y s=>
   cases h
   refine⟨rfl,.tuple nZ.toArray,?_,?_⟩
   ·have U:=z.length;have:¬nZ.length=1:=by simp at U;omega
    simp[T1,A,this]
   simp only[VR];exact⟨nZ.toArray,rfl,by simpa using z⟩
theorem abN{g:Func}{fn:aO}(h:vM P g=some fn):∃c,g.body=some c∧nC P g.results.toList=some fn.res∧(∃n,n≤g.ntmps∧n≤1296∧fn.ps=(List.range n).map pk)∧fn.nt=g.ntmps∧fn.body=jP P g.ntmps c∧(g.name== "runtime.NumGoroutine")=false:=by
 unfold vM at h
 split at h
 ·rename_i c rs A G
  split at h
  ·rename_i z
   cases h
   exact⟨c,A,G,⟨_,z.1,z.2.1,rfl⟩,rfl,rfl,z.2.2⟩
  cases h
 cases h
theorem abO{fn:aO}{args:List aj}{v:aj}(h:vJ call lf fn args H= .ok v H'):
  fn.ps.length=args.length∧∃E' x E1 H1,(∀t y,E'.get t=some y→T4.emp.get t=some y∨∃i:Nat,fn.ps[i]?=some t∧args[i]?=some y)∧fn.body.ev call lf E' H= .ok x E1 H1∧(x= .normal∨x= .ret)∧results E1 H1 fn.res= .ok v H':=by
 obtain⟨A,E',h2,G⟩:=Z9 fn.ps args .emp _ _ _ h;refine⟨A,E',?_⟩
 cases z:fn.body.ev call lf E' H with
 |err n=>rw[z] at h2;cases h2
 |ok x E1 H1=>
  rw[z] at h2;refine⟨x,E1,H1,G,rfl,?_⟩
  cases x with
  |normal=>exact⟨.inl rfl,h2⟩
  |exit id=>cases h2
  |ret=>exact⟨.inr rfl,h2⟩
theorem PS.rd{H:ax}{f g off n:Nat}{e:aC}{k:List aj→aC}(h:∀x,PS H (k x))(h':PS H e):PS H (rd H f g off n e k):=
 PS.kN (fun _ _ _ _ _ _ _=>PS.aI (PS.aI (PS.aI (PS.aI (PS.ob (fun _=>PS.aI (h _) (h _)) h') h') h') h') h') h'
theorem Y6{rs:List jO}{v:aj}(h:results E H rs= .ok v H'):H'=H:=by
 have key:∀(rs:List jO)(k:List aj→aC),(∀vs,PS H (k vs))→PS H (xN E H rs (.err 70) k):=by
  intro rs
  induction rs with
  |nil=>intro k A;exact A []
  |cons r rs G=>
   intro k A;show PS H (Eb E H r (.err 70) fun v=>xN E H rs (.err 70) fun vs=>k (v::vs));have z:∀v,PS H (xN E H rs (.err 70) fun vs=>k (v::vs)):=fun v=>G _ fun vs=>A _
   cases r with
   |tmp t=>exact PS.ob (fun x=>z x) PS.err
   |cell s n g=>exact PS.ob (fun x=>PS.jf (fun _ _ _=>PS.rd (fun _=>PS.fO (fun x=>z x) PS.err) PS.err) PS.err) PS.err
 exact key rs _ (fun vs=>by
  cases vs with
  |nil=>exact PS.ok
  |cons x r=>cases r<;>exact PS.ok) v H' h
def F1(P:Program)(ft:Tr aO):Prop:=∀f fn,ft.get f=some fn→∃g,P.funcs[f]?=some g∧vM P g=some fn
theorem ZA(hc:jn P call)(A:P.follows .mixedOrders=true){f:Nat}{g:Func}{fn:aO}(hf:P.funcs[f]?=some g)(hg:vM P g=some fn){args:List aj}{v:aj}{di:Array Value}
  (h:vJ call lf fn args H= .ok v H') (hm:H.aR≤H.next) (O:WF H) (hR:R ρ C w) (hK:gS ρ C H) (hF:fC ρ H.next H'.next) (hG:vl P ρ) (hv:bO ρ args di.toList):
  Calls P f di w fun e w'=>∃cv,e= .returned cv∧cZ ρ C w H v H' cv w':=by
 obtain⟨c,hb,hr,⟨np,U,G,Y⟩,hnt,z,_⟩:=abN hg;obtain⟨hlen,E',x,E1,H1,hE,h1,hx,h2⟩:=abO h;have he:=Y6 h2;subst he;rw[Y] at hE hlen;have hA:AR P ρ g.ntmps E' {tmps:=di++Array.replicate (g.ntmps-di.size) undef,defers:=[]}:=AR.init hv (by rw[←hlen];simpa using U) hG G hE;rw[z] at h1;refine calls_of_wp hf hb (wV hc A c _ H x E1 H' ρ C _ w _ h1 hA hR hK hF hm O fun a1 Z ρ1 I Pa L JK=>?_);obtain⟨_,cv,M,wD⟩:=resultsA_ok I L JK hr h2;have fin:a1.defers=[]∧∃v,(Go.results g a1.tmps).run P Z= .ok v Z∧∃cv,Ending.returned v= .returned cv∧cZ ρ C w H ‹aj› H' cv Z:=⟨I.defers,cv,M,cv,rfl,ρ1,wD,Pa,L⟩;rcases hx with rfl|rfl
 ·exact fin
 exact fin
def ad8(P:Program)(f:Nat):Prop:=∀w:World,xO P w→
 ((callFunc f #[]).run P w= .ok (.enter f #[]) w∧Calls P f #[] w fun e w'=>e= .returned (.bool true)∧Kept w w')∨∃w',(callFunc f #[]).run P w= .ok (.value (.bool true)) w'∧Kept w w'
def Mr(P:Program)(xt:Tr Nat):Prop:=∀f c,xt.get f=some c→ad8 P f
theorem ext_same{c:Nat}{args:List aj}:PS H (vL c args H):=by
 show PS H (Uc args H)
 cases args with
 |nil=>exact PS.ok
 |cons x r=>exact PS.err
theorem Se(z:R ρ C w)(L:vl P ρ):xO P w:=fun g M=>by
 obtain⟨x,A,O,ho,G⟩:=L g M;refine⟨by have:=z.gY g 1 x A;omega,fun h=>?_⟩;obtain⟨U,Y,I⟩:=(z.bP _ _ _ A (G h).1 (G h).2).2;rw[O,ho] at I;exact⟨U,Y,I⟩
theorem LA(z:P.follows .mixedOrders=true){ft:Tr aO}{xt:Tr Nat}{zt:ZT}(ht:F1 P ft)(hx:Mr P xt)(hz:Q9 P zt):∀n,jn P (sG ft xt zt lf n)
 |0=>⟨fun _ _ _ _=>TM.err,fun _ _ _ _ _ _ _ _ _ h=>(by cases h)⟩
 |n+1=>by
  have ih:=LA z ht hx hz n;have key:∀f args H v H',sG ft xt zt lf (n+1) f args H= .ok v H'→(∃fn,ft.get f=some fn∧vJ (sG ft xt zt lf n) lf fn args H= .ok v H')∨(∃c,xt.get f=some c∧vL c args H= .ok v H')∨∃F,zt.get f=some F∧F args H= .ok v H':=by
   intro f args H v H' h;have h:ob (ft.get f) (ob (xt.get f) (ob (zt.get f) (.err (Nat.add 10000 f)) fun F=>F args H) fun c=>vL c args H) (fun fn=>vJ (sG ft xt zt lf n) lf fn args H)= .ok v H':=h
   cases hf:ft.get f with
   |some fn=>rw[hf] at h;exact .inl ⟨fn,rfl,h⟩
   |none=>
    rw[hf] at h;have h:ob (xt.get f) (ob (zt.get f) (.err (Nat.add 10000 f)) fun F=>F args H) (fun c=>vL c args H)= .ok v H':=h
    cases U:xt.get f with
    |some c=>rw[U] at h;exact .inr (.inl ⟨c,rfl,h⟩)
    |none=>rw[U] at h;exact .inr (.inr (iO (o:=zt.get f) h))
  refine⟨fun f args H L v H' h=>?_,fun f args H v H' ρ C w di h L M Y hK Z hG hv=>?_⟩
  ·rcases key _ _ _ _ _ h with⟨fn,_,h⟩|⟨c,_,h⟩|⟨F,Z,h⟩
   ·obtain⟨_,_,x,E1,H1,_,A,_,h2⟩:=abO h;rw[Y6 h2];exact td ih fn.body _ _ _ _ _ L A
   ·rw[ext_same v H' h];exact eE.refl _
   exact(hz f F Z).kX args H L v H' h
  rcases key _ _ _ _ _ h with⟨fn,JM,h⟩|⟨c,U,h⟩|⟨F0,EU,h⟩
  rotate_left 2
  ·exact(hz f F0 EU).sound args H v H' ρ C w di h L M Y hK Z hG hv
  ·obtain⟨g,hg,O⟩:=ht f fn JM;obtain⟨cd,hb,_,_,_,_,G⟩:=abN O;have A:g.name≠ "runtime.NumGoroutine":=by simpa using G
   exact .inl ⟨by simp[callFunc,hg,A,hb],ZA ih z hg O h L M Y hK Z hG hv⟩
  have I:=hx f c U;have h:Uc args H= .ok v H':=h
  cases args with
  |cons x r=>cases h
  |nil=>
   cases h
   simp only[bO] at hv;have O7:di=#[]:=by have:=congrArg List.toArray hv;simpa using this
   subst O7;have oW:xO P w:=Se Y hG;have post:∀{w':World},Kept w w'→cZ ρ C w H (.bool true) H (.bool true) w':=fun hk=>⟨ρ,by simp only[VR],hk.ext _ _ _,by rw[rH];exact Y.kept hk⟩
   rcases I w oW with⟨A,h2⟩|⟨w',A,h2⟩
   ·exact .inl ⟨A,Calls.mono h2 fun e w'⟨he,hk⟩=>⟨_,he,post hk⟩⟩
   exact .inr ⟨_,w',A,post h2⟩
end
def base(P:Program):Ho:=fun f g=>if f<P.globals.size∧g=1 then some ⟨f,0,0,true,IG P f⟩ else none
def H0(n:Nat):ax:=⟨n,0,[],.emp⟩
section
variable{P:Program}{ρ:Ho}{C:Nat→Option cV}{w w':World}{H H':ax}{call:dO}{f n:Nat}{args:List aj}{di:Array Value}{v:aj}
theorem qf{f g:Nat}{h:Hm}(e:base P f g=some h):f<P.globals.size∧g=1∧h=⟨f,0,0,true,IG P f⟩:=by
 unfold base at e
 split at e
 ·rename_i k;cases e;exact⟨k.1,k.2,rfl⟩
 cases e
theorem CT(z:xO P w):R (base P) (fun _=>none) w:=by
 refine⟨fun f o h=>(by cases h),fun f g h f' g' h' e A _ _=>?_,fun f g h e=>?_,fun f g h g' h' e A _=>?_,fun f g h e _ G=>?_⟩
 rotate_right
 ·obtain⟨k,_,rfl⟩:=qf e;exact⟨fun g' h' A=>by obtain⟨_,_,rfl⟩:=qf A;rfl,(z f k).2 G⟩
 ·obtain⟨_,_,rfl⟩:=qf e;obtain⟨_,_,rfl⟩:=qf A;exact⟨rfl,rfl⟩
 ·obtain⟨k,_,rfl⟩:=qf e;exact(z f k).1
 obtain⟨_,_,rfl⟩:=qf e;obtain⟨_,_,rfl⟩:=qf A;rfl
theorem Qa:vl P (base P):=fun g z=>⟨⟨g,0,0,true,IG P g⟩,by simp[base,z],rfl,rfl,fun h=>⟨rfl,h⟩⟩
theorem Z'(z:P.globals.size≤n)(m:Nat):fC (base P) n m:=fun f g A _=>by
 unfold base;rw[aZ al]
theorem agH:WF (H0 n):=fun x _=>GT.ta x
theorem aaR:gS (base P) (fun _=>none) (H0 n):=fun f o _ h=>by
 rw[show(H0 n).t.get f=none from GT.ta f] at h;cases h
theorem cZ.kept{cv:Value}(h:cZ (base P) C w H v H' cv w'):Kept w w':=by
 obtain⟨ρ',_,z,_⟩:=h;exact⟨z.os,z.tape,z.output,z.size,fun b A=>z.frame b A fun f g x G I _=>by obtain⟨_,_,rfl⟩:=qf G;cases I⟩
theorem trueOk_of(O:jn P call){I:Nat}(U:P.globals.size≤n)(Y:call I [] (H0 n)= .ok (.bool true) H'):ad8 P I:=fun w L=>by
 have post:∀{cv:Value}{w':World},cZ (base P) (fun _=>none) w (H0 n) (.bool true) H' cv w'→cv= .bool true∧Kept w w':=by
  intro cv w' G;have z:=G.kept;obtain⟨_,A,_,_⟩:=G;simp only[VR] at A;exact⟨A,z⟩
 rcases O.sound I [] (H0 n) (.bool true) H' (base P) (fun _=>none) w #[] Y (hZ _) agH (CT L) aaR (Z' U _) Qa (by simp only[bO]) with⟨M,h2⟩|⟨cv,w',M,h2⟩
 ·exact .inl ⟨M,Calls.mono h2 fun e w'⟨cv,Z,G⟩=>by
   obtain⟨rfl,z⟩:=post G
   exact⟨Z,z⟩⟩
 obtain⟨rfl,z⟩:=post h2;exact .inr ⟨w',M,z⟩
def HD{α:Type}(l:List (Nat×α)):Tr α:=List.rec (motive:=fun _=>Tr α) .leaf (fun p _ z=>z.set p.1 p.2) l
theorem aaa{α:Type}{f:Nat}{x:α}:∀{l:List (Nat×α)},(HD l).get f=some x→(f,x)∈l
 |[],h=>by rw[show HD ([]:List (Nat×α))= .leaf from rfl,Tr.uK] at h;cases h
 |p::r,h=>by
  have h:((HD r).set p.1 p.2).get f=some x:=h;rw[Tr.da] at h
  split at h
  ·rename_i e;cases h;subst e;exact jw ..
  exact pG _ (aaa h)
def RowOk(P:Program)(p:Nat×aO):Prop:=∃g,P.funcs[p.1]?=some g∧vM P g=some p.2
theorem tabOf_ok{l:List (Nat×aO)}(h:∀p,p∈l→RowOk P p):F1 P (HD l):=fun f fn z=>h (f,fn) (aaa z)
end
def okT(r:aC):Bool:=aC.rec (motive:=fun _=>Bool) (fun v _=>aj.rec (motive_1:=fun _=>Bool) (motive_2:=fun _=>Unit) (fun b=>b) (fun _ _=>false) (fun _ _=>false) (fun _ _ _=>false) false (fun _ _ _ _ _=>false) false (fun _ _=>false) (fun _ _=>false) (fun _ _ _ _ _=>false) false (fun _ _ _=>false) false (fun _=>false) false false () (fun _ _ _ _=>()) v) (fun _=>false) r
theorem okT_ok{r:aC}(h:okT r=true):∃H,r= .ok (.bool true) H:=by
 cases r with
 |err n=>cases h
 |ok v H=>
  cases v with
  |bool b=>cases b with
   |true=>exact⟨H,rfl⟩
   |false=>cases h
  |_=>cases h
section
variable{call:dO}{lf:Nat}{E:Env}{H:ax}
theorem params_cons(k:Key)(ks:List Key)(v:aj)(l:List aj)(E:Env)(c:Env→aC):params (k::ks) (v::l) E c=params ks l (E.set k v) c:=
 T4.jI E k v fun E=>params ks l E c
theorem region_ev(ops:List bk):(IC.region false ops).ev call lf E H=EJ (mP call ops E H):=rfl
theorem regionQ_ev(ops:List bk):(IC.region true ops).ev call lf E H=EJ (iM call ops E H []):=rfl
theorem Sf(a b:IC):(IC.seq a b).ev call lf E H=xb (a.ev call lf E H) (b.ev call lf):=rfl
theorem ad9(E:Env)(H:ax):EJ (.ok E H)= .ok .normal E H:=rfl
theorem Zk(E:Env)(H:ax)(k:Env→ax→Out):xb (.ok .normal E H) k=k E H:=rfl
theorem Zl(d:Option Key)(q:Option (List Nat))(op:bq)(r:List bk):mP call (⟨d,none,q,op⟩::r) E H=fin d E (mP call r) (op.ev call E H):=rfl
theorem KD(d:Key)(v:aj)(k:Env→ax→dH):fin (some d) E k (.ok v H)=k (E.set d v) H:=T4.FM E d v fun E=>k E H
theorem fin_none(v:aj)(k:Env→ax→dH):fin none E k (.ok v H)=k E H:=rfl
theorem cI{α β:Type}(x:α)(e:β)(k:α→β):ob (some x) e k=k x:=rfl
theorem mov_ev(x:aG):(bq.d8 x).ev call E H=ob (x.ev E) (.err 1) fun v=>.ok v H:=cY x E _ _
theorem bin_ev(op:BinOp)(x y:aG):(bq.bin op x y).ev call E H=ob (x.ev E) (.err 6) fun a=>ob (y.ev E) (.err 6) fun b=>ob (D9 op a b) (.err 6) fun v=>.ok v H:=by
 show bt x E (.err 6) (fun a=>bt y E (.err 6) fun b=>D' op a b fun v=>.ok v H)=_;simp only[cY,KS,wX]
theorem conv_ev(k:IntKind)(x:aG):(bq.conv k x).ev call E H=ob (x.ev E) (.err 36) fun v=>fA v (.err 36) fun _ n=>.ok (.int k (lW k n)) H:=by
 show bt x E (.err 36) (fun v=>fA v (.err 36) fun _ n=>lS (lW k n) fun n=>.ok (.int k n) H)=_;simp only[cY,wW]
theorem onInt_mk(k:IntKind)(n:Int)(e:aC)(f:IntKind→Int→aC):fA (.int k n) e f=f k n:=rfl
def fnEnd(fn:aO)(o:Out):aC:=
 Out.rec (motive:=fun _=>aC) (fun x E H=>Ex.rec (motive:=fun _=>aC) (results E H fn.res) (fun _=>.err 72) (results E H fn.res) x) .err o
theorem evFn_eq(fn:aO)(args:List aj)(H:ax):vJ call lf fn args H=params fn.ps args .emp fun E=>fnEnd fn (fn.body.ev call lf E H):=rfl
end
theorem Kept.keptBut{w w':World}(h:Kept w w')(may:MemPlace→Prop):w.keptBut w' may:=by
 refine⟨h.os,h.output,fun i hi=>?_⟩;rw[h.um i hi]
 cases w.heap[i]?with
 |none=>rfl
 |some o=>cases o with
  |cells c t z=>exact⟨rfl,rfl,rfl,fun _ _=>rfl⟩
  |map es clock=>exact .inr ⟨rfl,rfl⟩
  |_=>rfl
mutual
def flatD{H:Type}:DataW H→List Value
 |.lit (.int k n)=>[.int k n]
 |.lit (.bool b)=>[.bool b]
 |.lit (.string bs)=>[.string ⟨bs.toArray⟩]
 |.agg parts=>aea parts
 |_=>[]
def aea{H:Type}:List (DataW H)→List Value
 |[]=>[]
 |d::r=>flatD d++aea r
end
end Go.Ev
