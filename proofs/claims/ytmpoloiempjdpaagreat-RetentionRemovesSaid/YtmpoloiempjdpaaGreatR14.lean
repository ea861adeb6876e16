/- Part 14 of rules for walks through the code of a program, and of such walks; what each part proves is said by its theorems. -/
import Derived.Test.YtmpoloiempjdpaaGreatR13
set_option linter.unusedVariables false
set_option linter.unusedSimpArgs false
noncomputable section
set_option maxRecDepth 100000
set_option maxHeartbeats 4000000
namespace Go.Ev
section
variable{T:aM}
theorem gz.mono{op:bq}{E:Env}{H:ax}{Q z:aj→ax→Prop}(h:gz T op E H Q)(k:∀v H',Q v H'→z v H'):gz T op E H z:=
 let⟨N,v,H',a,b⟩:=h;⟨N,v,H',a,k _ _ b⟩
theorem n6.mono{ops:List bk}{E:Env}{H:ax}{Q z:Env→ax→Prop}(h:n6 T ops E H Q)(k:∀v H',Q v H'→z v H'):n6 T ops E H z:=
 let⟨N,v,H',a,b⟩:=h;⟨N,v,H',a,k _ _ b⟩
theorem JN.mono{ops:List bk}{E:Env}{H:ax}{r:List FP}{Q z:Env→ax→Prop}(h:JN T ops E H r Q)(k:∀v H',Q v H'→z v H'):JN T ops E H r z:=
 let⟨N,v,H',a,b⟩:=h;⟨N,v,H',a,k _ _ b⟩
structure gK(B:aK)(β:Nat→Nat)(H:ax)(W:Nat→Prop)(B':aK)(β':Nat→Nat)(H':ax):Prop where
 aR:H'.aR=H.aR
 next:H.next≤H'.next
 ws:∀f,f∈H'.ws→f∈H.ws∨(f<H.aR∧∃b s,W b∧aF B b=some s∧s.born∧β b=f)
 since:∀b s,aF B' b=some s→s.born→(∃t,aF B b=some t∧t.born∧β' b=β b)∨H.next≤β' b
 jE:∀f,f<H.next→(∀b s,aF B b=some s→s.born→β b≠f)→H'.t.get f=H.t.get f
theorem gK.refl{B:aK}{β:Nat→Nat}{H:ax}{W:Nat→Prop}:gK B β H W B β H:=
 ⟨rfl,bf _,fun _ h=>.inl h,fun _ s z h2=>.inl ⟨s,z,h2,rfl⟩,fun _ _ _=>rfl⟩
theorem gK.more{B B0 B':aK}{β β':Nat→Nat}{H H':ax}{W:Nat→Prop}(h:gK B0 β H W B' β' H')(k:∀b s,aF B0 b=some s→s.born→∃t,aF B b=some t∧t.born):gK B β H W B' β' H':=
 ⟨h.aR,h.next,fun f G=>(h.ws f G).imp id fun⟨a,b,s,c,d,e,g⟩=>by obtain⟨t,z,A⟩:=k b s d e;exact⟨a,b,t,c,z,A,g⟩,
  fun b s I h2=>(h.since b s I h2).imp (fun⟨t,a,c,d⟩=>by obtain⟨u,z,A⟩:=k b t a c;exact⟨u,z,A,d⟩) id,
  fun f G L=>h.jE f G fun b s I h2=>by obtain⟨t,z,A⟩:=k b s I h2;exact L b t z A⟩
theorem gK.Mt{B B1 B':aK}{β β':Nat→Nat}{H H':ax}{W:Nat→Prop}(h:gK B β H W B1 β' H')(k:∀b s,aF B' b=some s→s.born→∃t,aF B1 b=some t∧t.born):gK B β H W B' β' H':=
 ⟨h.aR,h.next,h.ws,fun b s z h2=>by obtain⟨t,A,G⟩:=k b s z h2;exact h.since b t A G,h.jE⟩
theorem gK.trans{B B1 M:aK}{β A G:Nat→Nat}{H H1 O:ax}{W Z:Nat→Prop}(h:gK B β H W B1 A H1)(k:gK B1 A H1 Z M G O)(hm:H.aR≤H.next):gK B β H (fun _=>True) M G O:=by
 refine⟨k.aR.trans h.aR,eO h.next k.next,fun f z=>?_,fun b s I h2=>?_,fun f z U=>?_⟩
 ·rcases k.ws f z with z|⟨a,b,s,_,c,d,e⟩
  ·rcases h.ws f z with z|⟨a,b,s,_,c,d,e⟩
   ·exact .inl z
   exact .inr ⟨a,b,s,trivial,c,d,e⟩
  rw[h.aR] at a;rcases h.since b s c d with⟨t,Y,k2,k3⟩|Y
  ·exact .inr ⟨a,b,t,trivial,Y,k2,by rw[←k3,e]⟩
  omega
 ·rcases k.since b s I h2 with⟨t,a,c,d⟩|a
  ·rcases h.since b t a c with⟨u,L,c',d'⟩|L
   ·exact .inl ⟨u,L,c',d.trans d'⟩
   exact .inr (by rw[d];exact L)
  exact .inr (eO h.next a)
 rw[k.jE f (jh z h.next) fun b s I h2 he=>?_,h.jE f z U];rcases h.since b s I h2 with⟨t,a,c,d⟩|a
 ·exact U b t a c (by rw[←d];exact he)
 omega
def Dr(H0:Nat→Nat)(X0:Nat→Prop)(VE:bb)(B:aK)(β:Nat→Nat)(E:Env)(H:ax)(W:List Nat)(Q:VV→aK→Prop)(a:aj)(H':ax):Prop:=
 ∃v B' β',gK B β H (· ∈W) B' β' H'∧Rel H0 X0 VE B' E H' β'∧aE H' (XB X0 B' β') β' v a∧Q v B'
def VI(T:aM)(op:bq)(VE:bb)(B:aK)(W:List Nat)(Q:VV→aK→Prop):Prop:=
 ∀H0 X0 E H β,Rel H0 X0 VE B E H β→gz T op E H (Dr H0 X0 VE B β E H W Q)
def vm(H0:Nat→Nat)(X0:Nat→Prop)(B:aK)(β:Nat→Nat)(H:ax)(Q:bb→aK→Prop)(E':Env)(H':ax):Prop:=
 ∃bh B' β',gK B β H (fun _=>True) B' β' H'∧Rel H0 X0 bh B' E' H' β'∧Q bh B'
def VO(T:aM)(ops:List bk)(VE:bb)(B:aK)(Q:bb→aK→Prop):Prop:=
 ∀H0 X0 E H β,Rel H0 X0 VE B E H β→n6 T ops E H (vm H0 X0 B β H Q)
inductive FL where
 |rd (R:List Nat)
 |qt
 |un
 |off (f:Nat)
 |wr (W:List Nat)
def sk(n:Nat)(B:aK)(β:Nat→Nat):FL→FP→Prop
 |.rd R,r=>r.ws=[]∧r.lo=r.hi∧∃l,r.rd=some l∧∀f,f∈l→f<n∧∀b s,aF B b=some s→s.born→β b=f→b∈R
 |.qt,r=>r.ws=[]
 |.un,_=>True
 |.off f,r=>f∉r.ws
 |.wr W,r=>∀f,f∈r.ws→f<n∧∀b s,aF B b=some s→s.born→β b=f→b∈W
def nf(n:Nat)(B:aK)(β:Nat→Nat)(fl:List FL)(bd:List FP):Prop:=
 bd.length=fl.length∧∀(i:Nat)x r,fl[i]?=some x→bd[i]?=some r→sk n B β x r
theorem sk.step{B B':aK}{β β':Nat→Nat}{H H':ax}{W:Nat→Prop}(A:gK B β H W B' β' H'):∀{x:FL}{r:FP},sk H.next B β x r→sk H'.next B' β' x r
 |.rd R,r,⟨O,h2,l,U,G⟩=>⟨O,h2,l,U,fun f z=>⟨jh (G f z).1 A.next,fun b s I L M=>by
  rcases A.since b s I L with⟨t,a,c,d⟩|a
  ·exact(G f z).2 b t a c (by rw[←d];exact M)
  have:=(G f z).1;omega⟩⟩
 |.qt,r,h=>h
 |.un,r,_=>trivial
 |.off _,r,h=>h
 |.wr W,r,h=>fun f z=>⟨jh (h f z).1 A.next,fun b s I L M=>by
  rcases A.since b s I L with⟨t,a,c,d⟩|a
  ·exact(h f z).2 b t a c (by rw[←d];exact M)
  have:=(h f z).1;omega⟩
theorem nf.step{B B':aK}{β β':Nat→Nat}{H H':ax}{W:Nat→Prop}{fl:List FL}{bd:List FP}(z:gK B β H W B' β' H')(h:nf H.next B β fl bd):nf H'.next B' β' fl bd:=
 ⟨h.1,fun i x r A h2=>(h.2 i x r A h2).step z⟩
theorem nf.cons{n:Nat}{B:aK}{β:Nat→Nat}{fl:List FL}{bd:List FP}{x:FL}{r:FP}(h:nf n B β fl bd)(k:sk n B β x r):nf n B β (x::fl) (r::bd):=
 ⟨by simp[h.1],fun i y z A h2=>by
  cases i with
  |zero=>simp at A h2;subst A;subst h2;exact k
  |succ i=>exact h.2 i y z (by simpa using A) (by simpa using h2)⟩
def VQ(T:aM)(ops:List bk)(VE:bb)(B:aK)(fl:List FL)(Q:bb→aK→Prop):Prop:=
 ∀H0 X0 E H β,Rel H0 X0 VE B E H β→∀bd:List FP,nf H.next B β fl bd→JN T ops E H bd (vm H0 X0 B β H Q)
def VC(T:aM)(c:IC)(VE:bb)(B:aK)(Q:Ex→bb→aK→Prop):Prop:=
 ∀H0 X0 E H β,Rel H0 X0 VE B E H β→jU T c E H fun x=>vm H0 X0 B β H (Q x)
variable{VE bh:bb}{B B':aK}
theorem vm.of{H0:Nat→Nat}{X0:Nat→Prop}{H H1:ax}{B1:aK}{β z:Nat→Nat}{W:Nat→Prop}{Q:bb→aK→Prop}{E':Env}{H':ax}(h:vm H0 X0 B1 z H1 Q E' H')(A:gK B β H W B1 z H1)(G:H.aR≤H.next):vm H0 X0 B β H Q E' H':=by
 obtain⟨bh,B',β',I,h2,L⟩:=h;exact⟨bh,B',β',A.trans I G,h2,L⟩
variable{Q:bb→aK→Prop}{W:List Nat}
theorem qs(h:Q VE B):VO T [] VE B Q:=fun _ _ _ _ β z=>wpO_nil ⟨VE,B,β,.refl,z,h⟩
theorem aw{d:Key}{qq:Option (List Nat)}{op:bq}{r:List bk}(h:VI T op VE B W fun v B'=>VO T r ((d.n,v)::VE) B' Q):VO T (⟨some d,none,qq,op⟩::r) VE B Q:=by
 intro H0 X0 E H β G;refine QI ((h H0 X0 E H β G).mono fun a H' z=>?_);obtain⟨v,B',β',I,A,L,M⟩:=z;exact(M H0 X0 _ H' β' (A.set L)).mono fun _ _ z=>z.of I G.aR
theorem jd{qq:Option (List Nat)}{op:bq}{r:List bk}(h:VI T op VE B W fun _ B'=>VO T r VE B' Q):VO T (⟨none,none,qq,op⟩::r) VE B Q:=by
 intro H0 X0 E H β G;refine aab ((h H0 X0 E H β G).mono fun a H' z=>?_);obtain⟨v,B',β',I,A,M,L⟩:=z;exact(L H0 X0 _ H' β' A).mono fun _ _ z=>z.of I G.aR
theorem Rel.bool{H0:Nat→Nat}{X0:Nat→Prop}{E:Env}{H:ax}{β:Nat→Nat}(z:Rel H0 X0 VE B E H β){g:Key}{t:Bool}(A:aF VE g.n=some (.d (.b t))):E.get g=some (.bool t):=by
 obtain⟨a,G,h2⟩:=z.env g _ A;simp only[aE,bF] at h2;rw[G,h2]
theorem vo_want{d g:Key}{want:Bool}{qq:Option (List Nat)}{op:bq}{r:List bk}(I:aF VE g.n=some (.d (.b want)))(h:VI T op VE B W fun v B'=>VO T r ((d.n,v)::VE) B' Q):VO T (⟨some d,some (g,want),qq,op⟩::r) VE B Q:=by
 intro H0 X0 E H β z;refine wpO_want (z.bool I) ((h H0 X0 E H β z).mono fun a H' A=>?_);obtain⟨v,B',β',L,G,M,O⟩:=A;exact(O H0 X0 _ H' β' (G.set M)).mono fun _ _ A=>A.of L z.aR
theorem abQ{ops:List bk}(z:∀k v,aF bh k=some v→aF VE k=some v)(h:VO T ops bh B Q):VO T ops VE B Q:=
 fun H0 X0 E H β A=>h H0 X0 E H β (A.less z)
theorem vm.more{H0:Nat→Nat}{X0:Nat→Prop}{H:ax}{B0:aK}{β:Nat→Nat}{Q:bb→aK→Prop}{E':Env}{H':ax}(h:vm H0 X0 B0 β H Q E' H')(k:∀b s,aF B0 b=some s→s.born→∃t,aF B b=some t∧t.born):vm H0 X0 B β H Q E' H':=by
 obtain⟨bh,B',β',z,h2,A⟩:=h;exact⟨bh,B',β',z.more k,h2,A⟩
theorem uN{b:Nat}:∀c s,aF (cQ B b) c=some s→s.born→∃t,aF B c=some t∧t.born:=fun c s z h2=>by
 rw[jb] at z
 split at z
 ·cases z
 exact⟨s,z,h2⟩
theorem CD{ops:List bk}(b:Nat)(h:VO T ops VE (cQ B b) Q):VO T ops VE B Q:=
 fun H0 X0 E H β z=>(h H0 X0 E H β (z.drop b)).mono fun _ _ A=>A.more uN
theorem Af{fl:List FL}(h:Q VE B):VQ T [] VE B fl Q:=fun _ _ _ _ β z _ _=>⟨0,_,_,fun _ _ _ _=>rfl,VE,B,β,.refl,z,h⟩
theorem aV{fl:List FL}{d:Key}{op:bq}{r:List bk}(h:VI T op VE B W fun v B'=>VQ T r ((d.n,v)::VE) B' fl Q):VQ T (⟨some d,none,none,op⟩::r) VE B fl Q:=by
 intro H0 X0 E H β A bd I;obtain⟨N,a,H',e,v,B',β',G,z,L,M⟩:=h H0 X0 E H β A;obtain⟨O,U,Y,Z,hp⟩:=M H0 X0 _ H' β' (z.set L) bd (I.step G);refine⟨max N O,U,Y,fun lf n a1 a2=>?_,hp.of G A.aR⟩;show bk.jq (T.call lf n) ⟨some d,none,none,op⟩ E H bd (iM (T.call lf n) r)=_;rw[uG,ZD rfl,e lf n al al,KD];exact Z lf n al al
theorem vq_want{fl:List FL}{d g:Key}{want:Bool}{op:bq}{r:List bk}(I:aF VE g.n=some (.d (.b want)))(h:VI T op VE B W fun v B'=>VQ T r ((d.n,v)::VE) B' fl Q):VQ T (⟨some d,some (g,want),none,op⟩::r) VE B fl Q:=by
 intro H0 X0 E H β z bd L;obtain⟨N,a,H',e,v,B',β',G,A,M,O⟩:=h H0 X0 E H β z;obtain⟨U,Y,Z,e2,hp⟩:=O H0 X0 _ H' β' (A.set M) bd (L.step G);refine⟨max N U,Y,Z,fun lf n a1 a2=>?_,hp.of G z.aR⟩;show bk.jq (T.call lf n) ⟨some d,some (g,want),none,op⟩ E H bd (iM (T.call lf n) r)=_;rw[Kh (z.bool I),bg rfl,ZD rfl,e lf n al al,KD];exact e2 lf n al al
theorem uH{call:dO}{E:Env}{H:ax}{d:Option Key}{g:Option (Key×Bool)}{l:List Nat}{op:bq}{bd:List FP}{K:Env→ax→List FP→dH}{v:aj}{H1:ax}(h:op.ev call E H.mark= .ok v H1)(G:mG ⟨op.reads E,H1.ws,H.next,H1.next⟩ bd l=true):
  bk.pK call ⟨d,g,some l,op⟩ E H bd K=K (iU E d v) ⟨H1.next,H.aR,pd H.aR H.ws H1.ws,H1.t⟩ (⟨op.reads E,H1.ws,H.next,H1.next⟩::bd):=by
 cases H with
 |mk next aR ws t=>cases H1 with
  |mk next' A z t'=>
   show cm next (fun next=>Ea (op.reads E) l next aR ws bd d E K (op.ev call E ⟨next,next,[],t⟩))=_;rw[fy];have h:op.ev call E ⟨next,next,[],t⟩= .ok v ⟨next',A,z,t'⟩:=h;rw[h];have G:mG ⟨op.reads E,z,next,next'⟩ bd l=true:=G
   cases d with
   |none=>
    show aI (mG ⟨op.reads E,z,next,next'⟩ bd l) (K E ⟨next',aR,pd aR ws z,t'⟩ (⟨op.reads E,z,next,next'⟩::bd)) (.err 50)=_;rw[G];rfl
   |some d=>
    unfold Ea;dsimp only;rw[G,dX,T4.FM];rfl
def yA(x:Nat):List Nat→Bool
 |[]=>false
 |y::r=>Nat.beq x y||yA x r
theorem KF{x:Nat}:∀{l:List Nat},x∈l→yA x l=true
 |y::r,h=>by
  rcases List.mem_cons.1 h with rfl|h
  ·show(Nat.beq x x||yA x r)=true;rw[show Nat.beq x x=true from gG x];rfl
  show(Nat.beq x y||yA x r)=true;rw[KF h,Bool.or_true]
def II(R:List Nat):List Nat→Bool
 |[]=>true
 |b::r=>!yA b R&&II R r
theorem aaW{R:List Nat}:∀{W:List Nat},II R W=true→∀b,b∈W→b∉R
 |c::r,h,b,z=>by
  simp only[II,cN] at h;rcases List.mem_cons.1 z with rfl|z
  ·intro A;rw[KF A] at h;simp at h
  exact aaW h.2 b z
def mL(W:List Nat)(l:List Nat)(fl:List FL):Bool:=
 match l with
 |[]=>true
 |i::r=>(match fl[i]?with
  |some (.rd R)=>II R W
  |some .qt=>W.isEmpty
  |_=>false)&&mL W r fl
theorem aaX{l m:List Nat}(h:∀f,f∈l→f∉m):Dl l m=true:=by
 induction l with
 |nil=>rfl
 |cons x r z=>
  show aI (pJ x m) false (Dl r m)=true;rw[z fun f A=>h f (pG _ A)];have G:pJ x m=false:=by
   cases I:pJ x m
   ·rfl
   exact absurd ((KA _ _).1 I) (h x (jw ..))
  rw[G];rfl
theorem Qk(r:Option (List Nat)):Hy [] r=true:=rfl
theorem Qb{l m:List Nat}(h:∀f,f∈l→f∉m):Hy l (some m)=true:=by
 cases l with
 |nil=>rfl
 |cons x r=>exact aaX h
theorem aaf{n:Nat}:∀{l:List Nat},yy l n n=true
 |[]=>rfl
 |x::r=>by
  show aI (Nat.ble n x) (aI (Nat.ble n x) (yy r n n) false) (yy r n n)=true;rw[aaf]
  cases Nat.ble n x<;>rfl
theorem xe{n:Nat}{β:Nat→Nat}{fl:List FL}{bd:List FP}{fp:FP}(G:nf n B β fl bd)(M:∀f,f∈fp.ws→∃b s,b∈W∧aF B b=some s∧s.born∧β b=f):∀{l:List Nat},mL W l fl=true→mG fp bd l=true
 |[],_=>rfl
 |i::r,h=>by
  simp only[mL,cN] at h;obtain⟨hi,Z⟩:=h;show ob (bd[i]?) false (fun b=>aI (nu fp b) (mG fp bd r) false)=true;have A:i<bd.length:=by
   rw[G.1]
   cases z:fl[i]?with
   |none=>rw[z] at hi;simp at hi
   |some x=>exact(List.getElem?_eq_some_iff.1 z).1
  rw[dm A,cI];have L:i<fl.length:=by rw[←G.1];exact A
  have I:=G.2 i _ _ (dm L) (dm A);rw[dm L] at hi;have e:nu fp bd[i]=true:=by
   unfold nu
   cases z:fl[i] with
   |un=>rw[z] at hi;simp at hi
   |off _=>rw[z] at hi;simp at hi
   |wr _=>rw[z] at hi;simp at hi
   |qt=>
    rw[z] at hi I;have hW:W=[]:=by cases W with
     |nil=>rfl
     |cons _ _=>simp at hi
    have O:fp.ws=[]:=by
     cases hl:fp.ws with
     |nil=>rfl
     |cons f _=>
      obtain⟨b,_,Y,_⟩:=M f (by rw[hl];exact jw ..);rw[hW] at Y;cases Y
    have I:bd[i].ws=[]:=I;rw[O,I];rfl
   |rd R=>
    rw[z] at hi I;obtain⟨k1,k2,l,k3,k4⟩:=I;have hi:II R W=true:=hi;rw[k1,k2,k3,Qk,Qb (fun f G U=>?_),aaX (fun f _ h=>by cases h),aaf]
    ·rfl
    obtain⟨b,s,h1,h2,h3,h4⟩:=M f G;exact aaW hi b h1 ((k4 f U).2 b s h2 h3 h4)
  rw[e,dX];exact xe G M Z
theorem gK.mark{β β':Nat→Nat}{H H1:ax}(h:gK B β H.mark (· ∈W) B' β' H1):gK B β H (· ∈W) B' β' ⟨H1.next,H.aR,pd H.aR H.ws H1.ws,H1.t⟩:=by
 cases H with
 |mk next aR ws t=>
  refine⟨rfl,h.next,fun f z=>?_,h.since,h.jE⟩;rcases(Fh _ _ _ _).1 z with z|⟨z,k⟩
  ·exact .inl z
  rcases h.ws f z with z|⟨a,A⟩
  ·cases z
  exact .inr ⟨k,A⟩
theorem uR{H0:Nat→Nat}{X0:Nat→Prop}{E:Env}{H:ax}{β:Nat→Nat}{op:bq}{Q:VV→aK→Prop}(h:VI T op VE B W Q)(L:Rel H0 X0 VE B E H β):
  gz T op E H.mark fun a H1=>(∀f,f∈H1.ws→∃b s,b∈W∧aF B b=some s∧s.born∧β b=f)∧∃v B' β',gK B β H (· ∈W) B' β' ⟨H1.next,H.aR,pd H.aR H.ws H1.ws,H1.t⟩∧Rel H0 X0 VE B' E ⟨H1.next,H.aR,pd H.aR H.ws H1.ws,H1.t⟩ β'∧aE ⟨H1.next,H.aR,pd H.aR H.ws H1.ws,H1.t⟩ (XB X0 B' β') β' v a∧Q v B':=by
 have z:H.mark.aR=H.next∧H.mark.ws=[]∧H.mark.next=H.next∧H.mark.t=H.t:=by cases H;exact⟨rfl,rfl,rfl,rfl⟩
 have A:Rel H0 X0 VE B E H.mark β:=L.grow (by rw[z.2.2.1];exact bf _) (fun f _=>by rw[z.2.2.2]) (by rw[z.1,z.2.2.1];exact bf _);refine(h H0 X0 E H.mark β A).mono fun a H1 M=>?_
 obtain⟨v,B',β',G,I,O,U⟩:=M;have Y:H.aR≤H1.next:=by
  have h1:=L.aR;have h2:=G.next;rw[z.2.2.1] at h2;omega
 have Z:eP H1 (XB X0 B' β') ⟨H1.next,H.aR,pd H.aR H.ws H1.ws,H1.t⟩ (XB X0 B' β'):=⟨bf _,fun _ _ hx=>⟨hx,rfl⟩⟩;refine⟨fun f hf=>?_,v,B',β',G.mark,I.grow (bf _) (fun _ _=>rfl) Y,O.lift Z,U⟩;rcases G.ws f hf with h|⟨_,b,s,h⟩
 ·rw[z.2.1] at h;cases h
 exact⟨b,s,h⟩
def tZ:List Nat→FL
 |[]=>.qt
 |_=>.un
theorem Rc{n:Nat}{β:Nat→Nat}{fp:FP}(A:∀f,f∈fp.ws→∃b s,b∈W∧aF B b=some s∧s.born∧β b=f){B1:aK}{z:Nat→Nat}:sk n B1 z (tZ W) fp:=by
 cases W with
 |cons _ _=>trivial
 |nil=>
  show fp.ws=[]
  cases G:fp.ws with
  |nil=>rfl
  |cons f _=>
   obtain⟨b,_,I,_⟩:=A f (by rw[G];exact jw ..)
   cases I
theorem aP{fl:List FL}{d:Key}{l:List Nat}{op:bq}{r:List bk}(M:mL W l fl=true)(h:VI T op VE B W fun v B'=>VQ T r ((d.n,v)::VE) B' (tZ W::fl) Q):VQ T (⟨some d,none,some l,op⟩::r) VE B fl Q:=by
 intro H0 X0 E H β A bd G;obtain⟨N,a,H',e,I,v,B',β',L,z,O,U⟩:=uR h A;obtain⟨Y,Z,H2,e2,hp⟩:=U H0 X0 _ _ β' (z.set O) (⟨op.reads E,H'.ws,H.next,H'.next⟩::bd) ((G.step L).cons (Rc I));refine⟨max N Y,Z,H2,fun lf n a1 a2=>?_,hp.of L A.aR⟩;show bk.jq (T.call lf n) ⟨some d,none,some l,op⟩ E H bd (iM (T.call lf n) r)=_;rw[uG,uH (e lf n al al) (xe G I M)];exact e2 lf n al al
theorem iK{fl:List FL}{l:List Nat}{op:bq}{r:List bk}(M:mL W l fl=true)(h:VI T op VE B W fun _ B'=>VQ T r VE B' (tZ W::fl) Q):VQ T (⟨none,none,some l,op⟩::r) VE B fl Q:=by
 intro H0 X0 E H β A bd G;obtain⟨N,a,H',e,I,v,B',β',L,z,hv,O⟩:=uR h A;obtain⟨U,Y,Z,e2,hp⟩:=O H0 X0 _ _ β' z (⟨op.reads E,H'.ws,H.next,H'.next⟩::bd) ((G.step L).cons (Rc I));refine⟨max N U,Y,Z,fun lf n a1 a2=>?_,hp.of L A.aR⟩;show bk.jq (T.call lf n) ⟨none,none,some l,op⟩ E H bd (iM (T.call lf n) r)=_;rw[uG,uH (e lf n al al) (xe G I M)];exact e2 lf n al al
theorem vq_wantM{fl:List FL}{d g:Key}{want:Bool}{l:List Nat}{op:bq}{r:List bk}(M:aF VE g.n=some (.d (.b want)))(O:mL W l fl=true)(h:VI T op VE B W fun v B'=>VQ T r ((d.n,v)::VE) B' (tZ W::fl) Q):VQ T (⟨some d,some (g,want),some l,op⟩::r) VE B fl Q:=by
 intro H0 X0 E H β z bd G;obtain⟨N,a,H',e,I,v,B',β',L,A,U,Y⟩:=uR h z;obtain⟨Z,E2,H2,e2,hp⟩:=Y H0 X0 _ _ β' (A.set U) (⟨op.reads E,H'.ws,H.next,H'.next⟩::bd) ((G.step L).cons (Rc I));refine⟨max N Z,E2,H2,fun lf n a1 a2=>?_,hp.of L z.aR⟩;show bk.jq (T.call lf n) ⟨some d,some (g,want),some l,op⟩ E H bd (iM (T.call lf n) r)=_;rw[Kh (z.bool M),bg rfl,uH (e lf n al al) (xe G I O)];exact e2 lf n al al
variable{R:Ex→bb→aK→Prop}
theorem VC.mono{c:IC}{z:Ex→bb→aK→Prop}(h:VC T c VE B R)(k:∀x VE B,R x VE B→z x VE B):VC T c VE B z:=fun H0 X0 E H β A=>
 (h H0 X0 E H β A).mono fun x _ _ G=>by obtain⟨bh,B',β',I,a,b⟩:=G;exact⟨bh,B',β',I,a,k _ _ _ b⟩
theorem i7{ops:List bk}(h:VO T ops VE B fun bh B'=>R .normal bh B'):VC T (.region false ops) VE B R:=fun H0 X0 E H β z=>ZC (h H0 X0 E H β z)
theorem te{ops:List bk}(h:VQ T ops VE B [] fun bh B'=>R .normal bh B'):VC T (.region true ops) VE B R:=fun H0 X0 E H β z=>wpC_regionQ (h H0 X0 E H β z [] ⟨rfl,fun i x r hi=>by simp at hi⟩)
theorem ff{a b:IC}(h:VC T a VE B fun x bh B'=>match x with|.normal=>VC T b bh B' R|x=>R x bh B'):VC T (.seq a b) VE B R:=fun H0 X0 E H β L=>by
 refine abP ((h H0 X0 E H β L).mono fun x E' H' A=>?_);obtain⟨bh,B',β',G,z,I⟩:=A
 cases x with
 |normal=>exact⟨fun _=>(I H0 X0 E' H' β' z).mono fun _ _ _ A=>A.of G L.aR,fun e=>absurd rfl e⟩
 |exit id=>exact⟨fun e=>(by cases e),fun _=>⟨bh,B',β',G,z,I⟩⟩
 |ret=>exact⟨fun e=>(by cases e),fun _=>⟨bh,B',β',G,z,I⟩⟩
theorem lv(h:R .normal VE B):VC T .skip VE B R:=fun _ _ _ _ β z=>wpC_skip ⟨VE,B,β,.refl,z,h⟩
theorem oj{id:Nat}(h:R (.exit id) VE B):VC T (.exit id) VE B R:=fun _ _ _ _ β z=>wpC_exit ⟨VE,B,β,.refl,z,h⟩
theorem mM(h:R .ret VE B):VC T .ret VE B R:=fun _ _ _ _ β z=>wpC_ret ⟨VE,B,β,.refl,z,h⟩
theorem aaY{k:Key}{a b:IC}(A:aF VE k.n=some (.d (.b true)))(h:VC T a VE B R):VC T (.cond (.t k) a b) VE B R:=fun H0 X0 E H β z=>
 KE (t:=true) (z.bool A) (fun _=>h H0 X0 E H β z) (fun e=>by cases e)
theorem aaZ{k:Key}{a b:IC}(A:aF VE k.n=some (.d (.b false)))(h:VC T b VE B R):VC T (.cond (.t k) a b) VE B R:=fun H0 X0 E H β z=>
 KE (t:=false) (z.bool A) (fun e=>by cases e) (fun _=>h H0 X0 E H β z)
theorem cE{k:Key}{a b:IC}{t:Bool}(A:aF VE k.n=some (.d (.b t)))(G:t=true→VC T a VE B R)(h2:t=false→VC T b VE B R):VC T (.cond (.t k) a b) VE B R:=fun H0 X0 E H β z=>
 KE (t:=t) (z.bool A) (fun e=>G e H0 X0 E H β z) (fun e=>h2 e H0 X0 E H β z)
theorem vc_block{id:Nat}{c:IC}(h:VC T c VE B fun x=>R (EY id x)):VC T (.block id c) VE B R:=fun H0 X0 E H β z=>aac (h H0 X0 E H β z)
theorem Rd{c:IC}(I:Nat→bb→aK→Prop)(hI:∀k VE B,I k VE B→VC T c VE B fun x bh B'=>match x with|.normal=>∃j,j<k∧I j bh B'|x=>R x bh B'){k:Nat}(h0:I k VE B):VC T (.loop c) VE B R:=by
 intro H0 X0 E H β Z;refine aaV (fun k E1 H1=>∃z B1 A,gK B β H (fun _=>True) B1 A H1∧Rel H0 X0 z B1 E1 H1 A∧I k z B1) (fun k E1 H1 hk=>?_) k E H ⟨VE,B,β,.refl,Z,h0⟩;obtain⟨z,B1,A,M,O,hi⟩:=hk;refine(hI k z B1 hi H0 X0 E1 H1 A O).mono fun x E' H' hp=>?_
 obtain⟨bh,B',β',hw,G,U⟩:=hp;have L:=M.trans hw Z.aR
 cases x with
 |normal=>
  obtain⟨j,hj,Y⟩:=U;exact⟨fun _=>⟨j,hj,bh,B',β',L,G,Y⟩,fun e=>absurd rfl e⟩
 |exit id=>exact⟨fun e=>(by cases e),fun _=>⟨bh,B',β',L,G,U⟩⟩
 |ret=>exact⟨fun e=>(by cases e),fun _=>⟨bh,B',β',L,G,U⟩⟩
theorem abR{c:IC}(z:∀k v,aF bh k=some v→aF VE k=some v)(h:VC T c bh B R):VC T c VE B R:=
 fun H0 X0 E H β A=>h H0 X0 E H β (A.less z)
theorem abS{c:IC}(b:Nat)(h:VC T c VE (cQ B b) R):VC T c VE B R:=
 fun H0 X0 E H β z=>(h H0 X0 E H β (z.drop b)).mono fun _ _ _ A=>A.more uN
end
def xp:aj→Option VV
 |.int k n=>some (.d (.i k n))
 |.bool b=>some (.d (.b b))
 |.str l v=>some (.d (.s l v))
 |.fR=>some (.d .nil)
 |.kA=>some (.k .kA)
 |.mI=>some (.k .mI)
 |.ns=>some (.k .ns)
 |.func f fs cs=>match fs,cs with
  |[],[]=>some (.fn f [])
  |_,_=>none
 |_=>none
def aG.vv(VE:bb):aG→Option VV
 |.t k=>aF VE k.n
 |.c a=>xp a
def VV.cells:VV→Option (List VV)
 |.agg l=>some l
 |.d x=>some [.d x]
 |.vp b o=>some [.vp b o]
 |.bs b n es=>some [.bs b n es]
 |.ac b n es=>some [.ac b n es]
 |.k .kA=>some [.k .kA]
 |.k .mI=>some [.k .mI]
 |.k .ns=>some [.k .ns]
 |.jB=>some [.jB]
 |.fn f c=>some [.fn f c]
 |_=>none
def gA:List VV→Option (List DC)
 |[]=>some []
 |.d x::r=>(gA r).map (x:: ·)
 |_::_=>none
def an{α:Type}:List (Nat×α)→List (Nat×α)→Prop
 |[],_=>True
 |(i,v)::r,l=>aF l i=some v∧an r l
theorem an.get{α:Type}:∀{l m:List (Nat×α)},an l m→∀{k:Nat}{v:α},aF l k=some v→aF m k=some v
 |[],_,_,_,_,h=>by cases h
 |(i,w)::r,m,z,k,v,h=>by
  rw[c7] at h
  by_cases e:i=k
  ·rw[bg e] at h;cases h;exact e▸z.1
  rw[aZ e] at h;exact an.get z.2 h
theorem abT:∀{l:List VV}{row:List DC},gA l=some row→l=row.map .d
 |[],row,h=>by simp only[gA,eC] at h;subst h;rfl
 |.d x::r,row,h=>by
  simp only[gA,Hh] at h;obtain⟨s,z,rfl⟩:=h;rw[abT z];rfl
 |.agg _::_,_,h=>by simp[gA] at h
 |.tuple _::_,_,h=>by simp[gA] at h
 |.vp _ _::_,_,h=>by simp[gA] at h
 |.bp _ _ _ _ _::_,_,h=>by simp[gA] at h
 |.rp _ _::_,_,h=>by simp[gA] at h
 |.bs _ _ _::_,_,h=>by simp[gA] at h
 |.ac _ _ _::_,_,h=>by simp[gA] at h
 |.fn _ _::_,_,h=>by simp[gA] at h
 |.k _::_,_,h=>by simp[gA] at h
 |.jB::_,_,h=>by simp[gA] at h
 |.undef::_,_,h=>by simp[gA] at h
section
variable{T:aM}{H0:Nat→Nat}{X0:Nat→Prop}{VE bh:bb}{B B':aK}{E:Env}{H H':ax}{β:Nat→Nat}{X:Nat→Prop}
theorem ZE{a:aj}{v:VV}(h:xp a=some v):aE H X β v a:=by
 cases a
 case func f fs cs=>
  cases fs<;>cases cs<;>simp only[xp,eC,reduceCtorEq] at h
  subst h;simp only[aE,bc];exact⟨[],rfl,rfl⟩
 all_goals simp only[xp,eC,reduceCtorEq] at h
 all_goals subst h
 all_goals first|(simp only[aE,bF];done)|(simp only[aE])
theorem constV_no{a:aj}{v:VV}(h:xp a=some v)(b:Nat):v.no b=true:=by
 cases a
 case func f fs cs=>
  cases fs<;>cases cs<;>simp only[xp,eC,reduceCtorEq] at h
  subst h;rfl
 all_goals simp only[xp,eC,reduceCtorEq] at h
 all_goals subst h
 all_goals simp only[VV.no]
theorem Rel.bI(z:Rel H0 X0 VE B E H β){x:aG}{v:VV}(h:x.vv VE=some v):∃a,x.ev E=some a∧aE H (XB X0 B β) β v a:=by
 cases x with
 |t k=>exact z.env k v h
 |c a=>exact⟨a,rfl,ZE h⟩
theorem aE.cells{v:VV}{a:aj}{l:List VV}(h:v.cells=some l)(z:aE H X β v a):∃s,iL a=some s∧bc H X β l s:=by
 cases v with
 |agg m=>
  simp only[VV.cells,eC] at h;subst h;simp only[aE] at z;obtain⟨cs,rfl,h⟩:=z;exact⟨cs,rfl,h⟩
 |d x=>
  simp only[VV.cells,eC] at h;subst h;have:iL a=some [a]:=by
   simp only[aE] at z
   cases x with
   |i k n=>simp only[bF] at z;subst z;rfl
   |b t=>simp only[bF] at z;subst z;rfl
   |s l n=>simp only[bF] at z;subst z;rfl
   |nil=>simp only[bF] at z;subst z;rfl
   |sl rows=>simp only[bF] at z;obtain⟨f,g,off,es,rfl,_⟩:=z;rfl
   |raw f n es=>simp only[bF] at z;subst z;rfl
  exact⟨[a],this,by simp only[bc];exact⟨a,[],rfl,z,rfl⟩⟩
 |vp b o=>
  simp only[VV.cells,eC] at h;subst h;have e:a= .ptr (β b) 1 o:=by simpa only[aE] using z
  exact⟨[a],by subst e;rfl,by simp only[bc];exact⟨a,[],rfl,z,rfl⟩⟩
 |bs b n es=>
  simp only[VV.cells,eC] at h;subst h;have e:a= .slice (β b) n 0 n es:=by simpa only[aE] using z
  exact⟨[a],by subst e;rfl,by simp only[bc];exact⟨a,[],rfl,z,rfl⟩⟩
 |fn f c=>
  simp only[VV.cells,eC] at h;subst h;have e:∃cs,a= .func f [] cs∧bc H X β c cs:=by simpa only[aE] using z
  obtain⟨cs,e,_⟩:=e;exact⟨[a],by subst e;rfl,by simp only[bc];exact⟨a,[],rfl,z,rfl⟩⟩
 |jB=>
  simp only[VV.cells,eC] at h;subst h;have e:∃t x,a= .iface t x:=by simpa only[aE] using z
  obtain⟨t,x,e⟩:=e;exact⟨[a],by subst e;rfl,by simp only[bc];exact⟨a,[],rfl,z,rfl⟩⟩
 |k x=>
  have e:a=x:=by simpa only[aE] using z
  cases x<;>simp only[VV.cells,eC,reduceCtorEq] at h
  all_goals subst h
  all_goals exact⟨[a],by subst e;rfl,by simp only[bc];exact⟨a,[],rfl,z,rfl⟩⟩
 |ac b n es=>
  simp only[VV.cells,eC] at h;subst h;have e:iL a=some [a]:=by
   simp only[aE] at z;rcases z with⟨_,rfl⟩|⟨_,rfl⟩<;>rfl
  exact⟨[a],e,by simp only[bc];exact⟨a,[],rfl,z,rfl⟩⟩
 |tuple _=>simp[VV.cells] at h
 |bp _ _ _ _ _=>simp[VV.cells] at h
 |rp _ _=>simp[VV.cells] at h
 |undef=>simp[VV.cells] at h
theorem dA{W:List Nat}{Q:VV→aK→Prop}{a:aj}{v:VV}(z:Rel H0 X0 VE B E H β)(A:aE H (XB X0 B β) β v a)(G:Q v B):Dr H0 X0 VE B β E H W Q a H:=
 ⟨v,B,β,.refl,z,A,G⟩
theorem Rel.Ds(h:Rel H0 X0 VE B E H β)(z:∀k s,aF B' k=some s→aF B k=some s):Rel H0 X0 VE B' E H β:=by
 have I:eP H (XB X0 B β) H (XB X0 B' β):=⟨bf _,fun f _ L=>⟨fun k=>L (k.imp id fun⟨c,s,G,h2⟩=>⟨c,s,z c s G,h2⟩),rfl⟩⟩;refine⟨h.jD,h.aR,h.x0,fun c s A=>h.new c s (z c s A),fun c e s t A M=>h.inj c e s t (z c s A) (z e t M),fun k v O=>?_,fun c s A=>(h.box c s (z c s A)).lift I rfl⟩;obtain⟨a,G,h2⟩:=h.env k v O;exact⟨a,G,h2.lift I⟩
theorem aU{c:IC}{R:Ex→bb→aK→Prop}(bh:bb)(B':aK)(A:an bh VE)(h2:an B' B)(h:VC T c bh B' R):VC T c VE B R:=
 fun H0 X0 E H β G=>(h H0 X0 E H β ((G.less fun _ _ z=>A.get z).Ds fun _ _ z=>h2.get z)).mono fun _ _ _ I=>I.more fun _ s L M=>⟨s,h2.get L,M⟩
mutual
def VV.mu(b:Nat)(x:DC):VV→VV
 |.agg l=>.agg (Og b x l)
 |.bs c n es=>bif Nat.beq c b then .d x else .bs c n es
 |.ac c n es=>bif Nat.beq c b then .d x else .ac c n es
 |v=>v
def Og(b:Nat)(x:DC):List VV→List VV
 |[]=>[]
 |v::r=>v.mu b x::Og b x r
end
mutual
def VV.uq(b n es:Nat):VV→Prop
 |.agg l=>Oh b n es l
 |.bs c m e=>c=b→m=n∧e=es
 |.ac c _ _=>c≠b
 |_=>True
def Oh(b n es:Nat):List VV→Prop
 |[]=>True
 |v::r=>v.uq b n es∧Oh b n es r
end
theorem dz.nx{f g es:Nat}:∀{rows:ai}{q:Nat},(∀i row,rows[i]?=some row→∃l,lP H f g (q+i) l∧l.length=es∧bX H X row l)→dz H X f g es q rows
 |[],_,_=>trivial
 |row::r,q,h=>by
  simp only[dz];refine⟨h 0 row rfl,dz.nx fun i row hi=>?_⟩;rw[show q+1+i=q+(i+1) by omega];exact h (i+1) row (by simpa using hi)
theorem db.cells{f elem aD es lo:Nat}{rows:ai}(h:db H X β f (.arr elem aD es lo rows)){g:Nat}(Y:lo≤g)(h2:g≤rows.length){q:Nat}(I:q<g){row:List DC}(z:rows[q]?=some row):∃l,lP H f g q l∧l.length=es∧bX H X row l:=by
 obtain⟨A,cs,L,Z,k3,M⟩:=h;obtain⟨l,O,G,U⟩:=M q row z;exact⟨l,⟨elem,aD,rows.length,A,0,cs,by rw[G];exact L,al,h2,I,O⟩,G,U⟩
theorem Rel.asData(G:Rel H0 X0 VE B E H β){b elem aD es lo:Nat}{rows:ai}(I:aF B b=some (.arr elem aD es lo rows)){X:Nat→Prop}(M:¬X (β b))(O:eP H (XB X0 B β) H X):bF H X (.sl rows) (.slice (β b) rows.length 0 rows.length es):=by
 have L:=G.box b _ I;simp only[bF];refine⟨β b,rows.length,0,es,rfl,.inr ⟨M,(G.new b _ I trivial).2,0,by simp,dz.nx fun i row hi=>?_⟩⟩;have z:=(List.getElem?_eq_some_iff.1 hi).1;have A:lo≤rows.length:=by obtain⟨_,_,_,_,h,_⟩:=L;exact h
 obtain⟨l,U,h2,Y⟩:=L.cells (g:=rows.length) A (bf _) z hi;exact⟨l,by rw[fh];exact U,h2,Y.lift O⟩
theorem Rel.mu(I:Rel H0 X0 VE B E H β){b elem aD es lo:Nat}{rows:ai}(L:aF B b=some (.arr elem aD es lo rows)){k:Nat}{v:VV}(hv:aF VE k=some v)(ho:v.uq b rows.length es):
  Rel H0 X0 ((k,v.mu b (.sl rows))::VE) (cQ B b) E H β:=by
 have M:=I.drop b;have O:¬XB X0 (cQ B b) β (β b):=by
  rintro(h|⟨c,s,z,U,h2⟩)
  ·exact(I.new b _ L trivial).1 h
  rw[jb] at z
  by_cases e:b=c
  ·rw[bg e] at z;cases z
  rw[aZ e] at z;exact e (I.inj c b s _ z L U trivial h2).symm
 have hl:eP H (XB X0 B β) H (XB X0 (cQ B b) β):=⟨bf _,fun f _ O=>⟨fun k=>O (k.imp id fun⟨c,s,z,h2⟩=>⟨c,s,by
  rw[jb] at z
  by_cases e:b=c
  ·rw[bg e] at z;cases z
  rw[aZ e] at z;exact z,h2⟩),rfl⟩⟩
 have G:=I.asData L O hl;have main:(∀v:VV,v.uq b rows.length es→∀a,aE H (XB X0 (cQ B b) β) β v a→aE H (XB X0 (cQ B b) β) β (v.mu b (.sl rows)) a):=by
  intro v;refine VV.rec (motive_1:=fun v=>v.uq b rows.length es→∀a,aE H (XB X0 (cQ B b) β) β v a→aE H (XB X0 (cQ B b) β) β (v.mu b (.sl rows)) a)
   (motive_2:=fun l=>Oh b rows.length es l→∀s,bc H (XB X0 (cQ B b) β) β l s→bc H (XB X0 (cQ B b) β) β (Og b (.sl rows) l) s) ?_ ?_ ?_ ?_ ?_ ?_ ?_ ?_ ?_ ?_ ?_ ?_ ?_ ?_ v
  ·intro x _ a h;exact h
  ·intro l ih ho a h;simp only[aE,VV.mu,VV.uq] at h ho⊢;obtain⟨cs,e,h⟩:=h;exact⟨cs,e,ih ho cs h⟩
  ·intro l _ _ a h;exact h
  ·intro c o _ a h;exact h
  ·intro c g q o e _ a h;exact h
  ·intro row o _ a h;exact h
  ·intro c n e ho a h;simp only[VV.mu,VV.uq] at h ho⊢
   by_cases A:c=b
   ·obtain⟨rfl,rfl⟩:=ho A;subst A;rw[show Nat.beq c c=true from gG c];simp only[aE] at h;subst h;show aE H _ β (.d (.sl rows)) _;simp only[aE];exact G
   have:Nat.beq c b=false:=by
    cases Y:Nat.beq c b
    ·rfl
    exact absurd (cU Y) A
   rw[this];exact h
  ·intro c n e ho a h;simp only[VV.mu,VV.uq] at ho⊢;have:Nat.beq c b=false:=by
    cases Y:Nat.beq c b
    ·rfl
    exact absurd (cU Y) ho
   rw[this];exact h
  ·intro f c _ _ a h;exact h
  ·intro x _ a h;exact h
  ·intro _ a h;exact h
  ·intro _ a h;exact h
  ·intro _ s h;exact h
  intro v r Z XS ho s h;simp only[bc,Og,Oh] at h ho⊢;obtain⟨a,s,e,z,h2⟩:=h;exact⟨a,s,e,Z ho.1 a z,XS ho.2 s h2⟩
 refine{M with env:=fun c w A=>?_};rw[c7] at A
 by_cases e:k=c.n
 ·rw[bg e] at A
  cases A
  obtain⟨a,z,h2⟩:=M.env c v (e▸hv);exact⟨a,z,main v ho a h2⟩
 rw[aZ e] at A;exact M.env c w A
theorem eZ{ops:List bk}{Q:bb→aK→Prop}(k b:Nat){v:VV}{elem aD es lo:Nat}{rows:ai}(z:aF VE k=some v)(A:aF B b=some (.arr elem aD es lo rows))(ho:v.uq b rows.length es)(h:VO T ops ((k,v.mu b (.sl rows))::VE) (cQ B b) Q):VO T ops VE B Q:=
 fun H0 X0 E H β G=>(h H0 X0 E H β (G.mu A z ho)).mono fun _ _ I=>I.more uN
theorem lz{c:IC}{R:Ex→bb→aK→Prop}(k b:Nat){v:VV}{elem aD es lo:Nat}{rows:ai}(z:aF VE k=some v)(A:aF B b=some (.arr elem aD es lo rows))(ho:v.uq b rows.length es)(h:VC T c ((k,v.mu b (.sl rows))::VE) (cQ B b) R):VC T c VE B R:=
 fun H0 X0 E H β G=>(h H0 X0 E H β (G.mu A z ho)).mono fun _ _ _ I=>I.more uN
variable{W:List Nat}{Q:VV→aK→Prop}
theorem wrap64{n:Int}(z: -9223372036854775808≤n)(h2:n≤9223372036854775807):IntKind.i64.wrap n=n:=by
 simp[IntKind.wrap,IntKind.bits,IntKind.signed]
 split<;>omega
theorem LB{x:aG}{v:VV}(A:x.vv VE=some v)(G:Q v B):VI T (.d8 x) VE B [] Q:=fun _ _ _ _ _ z=>by
 obtain⟨a,I,h2⟩:=z.bI A;exact wpI_mov I (dA z h2 G)
theorem aa0{c x y:aG}{v:VV}(G:c.vv VE=some (.d (.b true)))(I:x.vv VE=some v)(L:Q v B):VI T (.pick c x y) VE B [] Q:=fun _ _ _ _ _ z=>by
 obtain⟨a,M,h2⟩:=z.bI I;obtain⟨t,O,A⟩:=z.bI G;simp only[aE,bF] at A;subst A;exact aaS (t:=true) O M (dA z h2 L)
theorem aa1{c x y:aG}{v:VV}(G:c.vv VE=some (.d (.b false)))(I:y.vv VE=some v)(L:Q v B):VI T (.pick c x y) VE B [] Q:=fun _ _ _ _ _ z=>by
 obtain⟨a,M,h2⟩:=z.bI I;obtain⟨t,O,A⟩:=z.bI G;simp only[aE,bF] at A;subst A;exact aaS (t:=false) O M (dA z h2 L)
theorem vi_not{x:aG}{b:Bool}(A:x.vv VE=some (.d (.b b)))(G:Q (.d (.b (!b))) B):VI T (.un .not x) VE B [] Q:=fun _ _ _ _ _ z=>by
 obtain⟨_,I,h2⟩:=z.bI A;simp only[aE,bF] at h2;subst h2;exact wpI_un I rfl (dA z (v:=.d (.b (!b))) (by simp only[aE,bF]) G)
theorem abU{k A:IntKind}{x:aG}{n:Int}(G:x.vv VE=some (.d (.i A n)))(I:Q (.d (.i k (k.wrap n))) B):VI T (.conv k x) VE B [] Q:=fun _ _ _ _ _ z=>by
 obtain⟨_,L,h2⟩:=z.bI G;simp only[aE,bF] at h2;subst h2;exact wpI_conv L (dA z (v:=.d (.i k (k.wrap n))) (by simp only[aE,bF,og]) I)
theorem aed{x:aG}{rows:ai}(A:x.vv VE=some (.d (.sl rows)))(G:Q (.d (.i .i64 rows.length)) B):VI T (.len x) VE B [] Q:=fun _ _ _ _ _ z=>by
 obtain⟨_,I,h2⟩:=z.bI A;simp only[aE,bF] at h2;obtain⟨f,g,off,es,rfl,_⟩:=h2;exact KW I (dA z (v:=.d (.i .i64 rows.length)) (by simp only[aE,bF]) G)
theorem zT{x:aG}(A:x.vv VE=some (.d .nil))(G:Q (.d (.i .i64 0)) B):VI T (.len x) VE B [] Q:=fun _ _ _ _ _ z=>by
 obtain⟨_,I,h2⟩:=z.bI A;simp only[aE,bF] at h2;subst h2;exact Zm I (dA z (v:=.d (.i .i64 0)) (by simp only[aE,bF]) G)
theorem Re{x:aG}{b n es:Nat}(A:x.vv VE=some (.bs b n es))(G:Q (.d (.i .i64 n)) B):VI T (.len x) VE B [] Q:=fun _ _ _ _ _ z=>by
 obtain⟨_,I,h2⟩:=z.bI A;simp only[aE] at h2;subst h2;exact KW I (dA z (v:=.d (.i .i64 n)) (by simp only[aE,bF]) G)
theorem vi_lenS{x:aG}{l s:Nat}(A:x.vv VE=some (.d (.s l s)))(G:Q (.d (.i .i64 l)) B):VI T (.tX x) VE B [] Q:=fun _ _ _ _ _ z=>by
 obtain⟨_,I,h2⟩:=z.bI A;simp only[aE,bF] at h2;subst h2;exact aaT I (dA z (v:=.d (.i .i64 l)) (by simp only[aE,bF]) G)
theorem vi_idx{x i:aG}{es j:Nat}{k:IntKind}{rows:ai}{row:List DC}(M:x.vv VE=some (.d (.sl rows)))(hi:i.vv VE=some (.d (.i k (j:Int))))(G:rows[j]?=some row)(O:row.length=es)(U:Q (.rp row 0) B):VI T (.j0 es x i) VE B [] Q:=fun _ _ _ _ _ z=>by
 obtain⟨_,Y,h2⟩:=z.bI M;obtain⟨_,Z,A⟩:=z.bI hi;simp only[aE] at h2 A;simp only[bF] at A;subst A;obtain⟨f,g,off,cW,rfl,hg⟩:=h2.slice;obtain⟨k1,k2,Q1,l,k3,I,k5,L⟩:=hg G;have e:cW=es:=by rw[←I,L.length,O]
 subst e;refine Qj Y Z (List.getElem?_eq_some_iff.1 G).1 (dA z (v:=.rp row 0) ?_ U);simp only[aE];exact⟨f,g,Q1,l,by rw[k5,I];rfl,k3,L,k1,k2⟩
theorem eL{x i:aG}{es b n j:Nat}{k:IntKind}(G:x.vv VE=some (.bs b n es))(hi:i.vv VE=some (.d (.i k (j:Int))))(I:j<n)(L:Q (.bp b n j 0 es) B):VI T (.j0 es x i) VE B [] Q:=fun _ _ _ _ _ z=>by
 obtain⟨_,M,h2⟩:=z.bI G;obtain⟨_,O,A⟩:=z.bI hi;simp only[aE] at h2 A;simp only[bF] at A;subst A;subst h2;exact Qj M O I (dA z (v:=.bp b n j 0 es) (by simp only[aE];rw[fh,tR]) L)
theorem vi_offsR{x:aG}{row:List DC}{o k:Nat}(A:x.vv VE=some (.rp row o))(G:Q (.rp row (o+k)) B):VI T (.eR x k) VE B [] Q:=fun _ _ _ _ _ z=>by
 obtain⟨_,I,h2⟩:=z.bI A;simp only[aE] at h2;obtain⟨f,g,L,l,rfl,M⟩:=h2;exact QG I (dA z (v:=.rp row (o+k)) (by simp only[aE];exact⟨f,g,L,l,by rw[kU],M⟩) G)
theorem QK{x:aG}{b o k:Nat}(A:x.vv VE=some (.vp b o))(G:Q (.vp b (o+k)) B):VI T (.eR x k) VE B [] Q:=fun _ _ _ _ _ z=>by
 obtain⟨_,I,h2⟩:=z.bI A;simp only[aE] at h2;subst h2;exact QG I (dA z (v:=.vp b (o+k)) (by simp only[aE]) G)
theorem vi_offsB{x:aG}{b g j o es k:Nat}(A:x.vv VE=some (.bp b g j o es))(G:Q (.bp b g j (o+k) es) B):VI T (.eR x k) VE B [] Q:=fun _ _ _ _ _ z=>by
 obtain⟨_,I,h2⟩:=z.bI A;simp only[aE] at h2;subst h2;exact QG I (dA z (v:=.bp b g j (o+k) es) (by simp only[aE];rw[kU]) G)
theorem vi_extr{x:aG}{l:List VV}{i:Nat}{v:VV}(A:x.vv VE=some (.tuple l))(hi:l[i]?=some v)(G:Q v B):VI T (.vH x i) VE B [] Q:=fun _ _ _ _ _ z=>by
 obtain⟨_,I,h2⟩:=z.bI A;simp only[aE] at h2;obtain⟨cs,rfl,h2⟩:=h2;obtain⟨a,L,M⟩:=h2.get hi;exact wpI_extr I L (dA z M G)
theorem qg{x y:aG}{neg:Bool}{rows:ai}(G:x.vv VE=some (.d (.sl rows)))(I:y.vv VE=some (.d .nil))(L:Q (.d (.b neg)) B):VI T (.eqv .slice neg x y) VE B [] Q:=fun _ _ _ _ _ z=>by
 obtain⟨_,M,h2⟩:=z.bI G;obtain⟨_,O,A⟩:=z.bI I;simp only[aE,bF] at h2 A;subst A;obtain⟨f,g,off,es,rfl,_⟩:=h2;exact KV (r:=false) M O rfl (dA z (v:=.d (.b neg)) (by simp only[aE,bF];cases neg<;>rfl) L)
theorem s8{x y:aG}{neg:Bool}(G:x.vv VE=some (.d .nil))(I:y.vv VE=some (.d .nil))(L:Q (.d (.b (!neg))) B):VI T (.eqv .slice neg x y) VE B [] Q:=fun _ _ _ _ _ z=>by
 obtain⟨_,M,h2⟩:=z.bI G;obtain⟨_,O,A⟩:=z.bI I;simp only[aE,bF] at h2 A;subst A;subst h2;exact KV (r:=true) M O rfl (dA z (v:=.d (.b (!neg))) (by simp only[aE,bF];cases neg<;>rfl) L)
end
end Go.Ev
