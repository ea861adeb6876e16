/- Part 8 of rules for walks through the code of a program, and of such walks; what each part proves is said by its theorems. -/
import Derived.Test.YtmpoloiempjdpaaGreatS7
set_option linter.unusedVariables false
set_option linter.unusedSimpArgs false
noncomputable section
set_option maxRecDepth 100000
set_option maxHeartbeats 4000000
namespace Go.Ev
section
variable{T:aL}
theorem gF.mono{op:br}{E:Env}{H:ax}{Q z:ai→ax→Prop}(h:gF T op E H Q)(k:∀v H',Q v H'→z v H'):gF T op E H z:=
 let⟨N,v,H',a,b⟩:=h;⟨N,v,H',a,k _ _ b⟩
theorem oj.mono{ops:List bl}{E:Env}{H:ax}{Q z:Env→ax→Prop}(h:oj T ops E H Q)(k:∀v H',Q v H'→z v H'):oj T ops E H z:=
 let⟨N,v,H',a,b⟩:=h;⟨N,v,H',a,k _ _ b⟩
theorem J5.mono{ops:List bl}{E:Env}{H:ax}{r:List FP}{Q z:Env→ax→Prop}(h:J5 T ops E H r Q)(k:∀v H',Q v H'→z v H'):J5 T ops E H r z:=
 let⟨N,v,H',a,b⟩:=h;⟨N,v,H',a,k _ _ b⟩
structure gO(B:aK)(β:Nat→Nat)(H:ax)(W:Nat→Prop)(B':aK)(β':Nat→Nat)(H':ax):Prop where
 aS:H'.aS=H.aS
 next:H.next≤H'.next
 ws:∀f,f∈H'.ws→f∈H.ws∨(f<H.aS∧∃b s,W b∧aF B b=some s∧s.born∧β b=f)
 since:∀b s,aF B' b=some s→s.born→(∃t,aF B b=some t∧t.born∧β' b=β b)∨H.next≤β' b
 jI:∀f,f<H.next→(∀b s,aF B b=some s→s.born→β b≠f)→H'.t.get f=H.t.get f
theorem gO.refl{B:aK}{β:Nat→Nat}{H:ax}{W:Nat→Prop}:gO B β H W B β H:=
 ⟨rfl,bd _,fun _ h=>.inl h,fun _ s z h2=>.inl ⟨s,z,h2,rfl⟩,fun _ _ _=>rfl⟩
theorem gO.more{B B0 B':aK}{β β':Nat→Nat}{H H':ax}{W:Nat→Prop}(h:gO B0 β H W B' β' H')(k:∀b s,aF B0 b=some s→s.born→∃t,aF B b=some t∧t.born):gO B β H W B' β' H':=
 ⟨h.aS,h.next,fun f G=>(h.ws f G).imp id fun⟨a,b,s,c,d,e,g⟩=>by obtain⟨t,z,A⟩:=k b s d e;exact⟨a,b,t,c,z,A,g⟩,
  fun b s I h2=>(h.since b s I h2).imp (fun⟨t,a,c,d⟩=>by obtain⟨u,z,A⟩:=k b t a c;exact⟨u,z,A,d⟩) id,
  fun f G L=>h.jI f G fun b s I h2=>by obtain⟨t,z,A⟩:=k b s I h2;exact L b t z A⟩
theorem gO.MJ{B B1 B':aK}{β β':Nat→Nat}{H H':ax}{W:Nat→Prop}(h:gO B β H W B1 β' H')(k:∀b s,aF B' b=some s→s.born→∃t,aF B1 b=some t∧t.born):gO B β H W B' β' H':=
 ⟨h.aS,h.next,h.ws,fun b s z h2=>by obtain⟨t,A,G⟩:=k b s z h2;exact h.since b t A G,h.jI⟩
theorem gO.trans{B B1 M:aK}{β A G:Nat→Nat}{H H1 O:ax}{W Z:Nat→Prop}(h:gO B β H W B1 A H1)(k:gO B1 A H1 Z M G O)(hm:H.aS≤H.next):gO B β H (fun _=>True) M G O:=by
 refine⟨k.aS.trans h.aS,eT h.next k.next,fun f z=>?_,fun b s I h2=>?_,fun f z U=>?_⟩
 ·rcases k.ws f z with z|⟨a,b,s,_,c,d,e⟩
  ·rcases h.ws f z with z|⟨a,b,s,_,c,d,e⟩
   ·exact .inl z
   exact .inr ⟨a,b,s,trivial,c,d,e⟩
  rw[h.aS] at a;rcases h.since b s c d with⟨t,Y,k2,k3⟩|Y
  ·exact .inr ⟨a,b,t,trivial,Y,k2,by rw[←k3,e]⟩
  omega
 ·rcases k.since b s I h2 with⟨t,a,c,d⟩|a
  ·rcases h.since b t a c with⟨u,L,c',d'⟩|L
   ·exact .inl ⟨u,L,c',d.trans d'⟩
   exact .inr (by rw[d];exact L)
  exact .inr (eT h.next a)
 rw[k.jI f (jn z h.next) fun b s I h2 he=>?_,h.jI f z U];rcases h.since b s I h2 with⟨t,a,c,d⟩|a
 ·exact U b t a c (by rw[←d];exact he)
 omega
def DF(H0:Nat→Nat)(X0:Nat→Prop)(VE:bb)(B:aK)(β:Nat→Nat)(E:Env)(H:ax)(W:List Nat)(Q:VV→aK→Prop)(a:ai)(H':ax):Prop:=
 ∃v B' β',gO B β H (· ∈W) B' β' H'∧Rel H0 X0 VE B' E H' β'∧aE H' (XB X0 B' β') β' v a∧Q v B'
def VI(T:aL)(op:br)(VE:bb)(B:aK)(W:List Nat)(Q:VV→aK→Prop):Prop:=
 ∀H0 X0 E H β,Rel H0 X0 VE B E H β→gF T op E H (DF H0 X0 VE B β E H W Q)
def vF(H0:Nat→Nat)(X0:Nat→Prop)(B:aK)(β:Nat→Nat)(H:ax)(Q:bb→aK→Prop)(E':Env)(H':ax):Prop:=
 ∃bj B' β',gO B β H (fun _=>True) B' β' H'∧Rel H0 X0 bj B' E' H' β'∧Q bj B'
def VO(T:aL)(ops:List bl)(VE:bb)(B:aK)(Q:bb→aK→Prop):Prop:=
 ∀H0 X0 E H β,Rel H0 X0 VE B E H β→oj T ops E H (vF H0 X0 B β H Q)
inductive FL where
 |rd (R:List Nat)
 |qt
 |un
 |off (f:Nat)
 |wr (W:List Nat)
def sG(n:Nat)(B:aK)(β:Nat→Nat):FL→FP→Prop
 |.rd R,r=>r.ws=[]∧r.lo=r.hi∧∃l,r.rd=some l∧∀f,f∈l→f<n∧∀b s,aF B b=some s→s.born→β b=f→b∈R
 |.qt,r=>r.ws=[]
 |.un,_=>True
 |.off f,r=>f∉r.ws
 |.wr W,r=>∀f,f∈r.ws→f<n∧∀b s,aF B b=some s→s.born→β b=f→b∈W
def nx(n:Nat)(B:aK)(β:Nat→Nat)(fl:List FL)(bf:List FP):Prop:=
 bf.length=fl.length∧∀(i:Nat)x r,fl[i]?=some x→bf[i]?=some r→sG n B β x r
theorem sG.step{B B':aK}{β β':Nat→Nat}{H H':ax}{W:Nat→Prop}(A:gO B β H W B' β' H'):∀{x:FL}{r:FP},sG H.next B β x r→sG H'.next B' β' x r
 |.rd R,r,⟨O,h2,l,U,G⟩=>⟨O,h2,l,U,fun f z=>⟨jn (G f z).1 A.next,fun b s I L M=>by
  rcases A.since b s I L with⟨t,a,c,d⟩|a
  ·exact(G f z).2 b t a c (by rw[←d];exact M)
  have:=(G f z).1;omega⟩⟩
 |.qt,r,h=>h
 |.un,r,_=>trivial
 |.off _,r,h=>h
 |.wr W,r,h=>fun f z=>⟨jn (h f z).1 A.next,fun b s I L M=>by
  rcases A.since b s I L with⟨t,a,c,d⟩|a
  ·exact(h f z).2 b t a c (by rw[←d];exact M)
  have:=(h f z).1;omega⟩
theorem nx.step{B B':aK}{β β':Nat→Nat}{H H':ax}{W:Nat→Prop}{fl:List FL}{bf:List FP}(z:gO B β H W B' β' H')(h:nx H.next B β fl bf):nx H'.next B' β' fl bf:=
 ⟨h.1,fun i x r A h2=>(h.2 i x r A h2).step z⟩
theorem nx.cons{n:Nat}{B:aK}{β:Nat→Nat}{fl:List FL}{bf:List FP}{x:FL}{r:FP}(h:nx n B β fl bf)(k:sG n B β x r):nx n B β (x::fl) (r::bf):=
 ⟨by simp[h.1],fun i y z A h2=>by
  cases i with
  |zero=>simp at A h2;subst A;subst h2;exact k
  |succ i=>exact h.2 i y z (by simpa using A) (by simpa using h2)⟩
def VQ(T:aL)(ops:List bl)(VE:bb)(B:aK)(fl:List FL)(Q:bb→aK→Prop):Prop:=
 ∀H0 X0 E H β,Rel H0 X0 VE B E H β→∀bf:List FP,nx H.next B β fl bf→J5 T ops E H bf (vF H0 X0 B β H Q)
def VC(T:aL)(c:IC)(VE:bb)(B:aK)(Q:Ex→bb→aK→Prop):Prop:=
 ∀H0 X0 E H β,Rel H0 X0 VE B E H β→jZ T c E H fun x=>vF H0 X0 B β H (Q x)
variable{VE bj:bb}{B B':aK}
theorem vF.of{H0:Nat→Nat}{X0:Nat→Prop}{H H1:ax}{B1:aK}{β z:Nat→Nat}{W:Nat→Prop}{Q:bb→aK→Prop}{E':Env}{H':ax}(h:vF H0 X0 B1 z H1 Q E' H')(A:gO B β H W B1 z H1)(G:H.aS≤H.next):vF H0 X0 B β H Q E' H':=by
 obtain⟨bj,B',β',I,h2,L⟩:=h;exact⟨bj,B',β',A.trans I G,h2,L⟩
variable{Q:bb→aK→Prop}{W:List Nat}
theorem mc(h:Q VE B):VO T [] VE B Q:=fun _ _ _ _ β z=>wpO_nil ⟨VE,B,β,.refl,z,h⟩
theorem aq{d:Key}{qq:Option (List Nat)}{op:br}{r:List bl}(h:VI T op VE B W fun v B'=>VO T r ((d.n,v)::VE) B' Q):VO T (⟨some d,none,qq,op⟩::r) VE B Q:=by
 intro H0 X0 E H β G;refine Q8 ((h H0 X0 E H β G).mono fun a H' z=>?_);obtain⟨v,B',β',I,A,L,M⟩:=z;exact(M H0 X0 _ H' β' (A.set L)).mono fun _ _ z=>z.of I G.aS
theorem iT{qq:Option (List Nat)}{op:br}{r:List bl}(h:VI T op VE B W fun _ B'=>VO T r VE B' Q):VO T (⟨none,none,qq,op⟩::r) VE B Q:=by
 intro H0 X0 E H β G;refine Z4 ((h H0 X0 E H β G).mono fun a H' z=>?_);obtain⟨v,B',β',I,A,M,L⟩:=z;exact(L H0 X0 _ H' β' A).mono fun _ _ z=>z.of I G.aS
theorem Rel.bool{H0:Nat→Nat}{X0:Nat→Prop}{E:Env}{H:ax}{β:Nat→Nat}(z:Rel H0 X0 VE B E H β){g:Key}{t:Bool}(A:aF VE g.n=some (.d (.b t))):E.get g=some (.bool t):=by
 obtain⟨a,G,h2⟩:=z.env g _ A;simp only[aE,bA] at h2;rw[G,h2]
theorem vo_want{d g:Key}{want:Bool}{qq:Option (List Nat)}{op:br}{r:List bl}(I:aF VE g.n=some (.d (.b want)))(h:VI T op VE B W fun v B'=>VO T r ((d.n,v)::VE) B' Q):VO T (⟨some d,some (g,want),qq,op⟩::r) VE B Q:=by
 intro H0 X0 E H β z;refine wpO_want (z.bool I) ((h H0 X0 E H β z).mono fun a H' A=>?_);obtain⟨v,B',β',L,G,M,O⟩:=A;exact(O H0 X0 _ H' β' (G.set M)).mono fun _ _ A=>A.of L z.aS
theorem abR{ops:List bl}(z:∀k v,aF bj k=some v→aF VE k=some v)(h:VO T ops bj B Q):VO T ops VE B Q:=
 fun H0 X0 E H β A=>h H0 X0 E H β (A.less z)
theorem vF.more{H0:Nat→Nat}{X0:Nat→Prop}{H:ax}{B0:aK}{β:Nat→Nat}{Q:bb→aK→Prop}{E':Env}{H':ax}(h:vF H0 X0 B0 β H Q E' H')(k:∀b s,aF B0 b=some s→s.born→∃t,aF B b=some t∧t.born):vF H0 X0 B β H Q E' H':=by
 obtain⟨bj,B',β',z,h2,A⟩:=h;exact⟨bj,B',β',z.more k,h2,A⟩
theorem u9{b:Nat}:∀c s,aF (cL B b) c=some s→s.born→∃t,aF B c=some t∧t.born:=fun c s z h2=>by
 rw[gz] at z
 split at z
 ·cases z
 exact⟨s,z,h2⟩
theorem Ac{ops:List bl}(b:Nat)(h:VO T ops VE (cL B b) Q):VO T ops VE B Q:=
 fun H0 X0 E H β z=>(h H0 X0 E H β (z.drop b)).mono fun _ _ A=>A.more u9
theorem Ar{fl:List FL}(h:Q VE B):VQ T [] VE B fl Q:=fun _ _ _ _ β z _ _=>⟨0,_,_,fun _ _ _ _=>rfl,VE,B,β,.refl,z,h⟩
theorem aU{fl:List FL}{d:Key}{op:br}{r:List bl}(h:VI T op VE B W fun v B'=>VQ T r ((d.n,v)::VE) B' fl Q):VQ T (⟨some d,none,none,op⟩::r) VE B fl Q:=by
 intro H0 X0 E H β A bf I;obtain⟨N,a,H',e,v,B',β',G,z,L,M⟩:=h H0 X0 E H β A;obtain⟨O,U,Y,Z,hp⟩:=M H0 X0 _ H' β' (z.set L) bf (I.step G);refine⟨max N O,U,Y,fun lf n a1 a2=>?_,hp.of G A.aS⟩;show bl.jB (T.call lf n) ⟨some d,none,none,op⟩ E H bf (iS (T.call lf n) r)=_;rw[uU,Zw rfl,e lf n an an,KW];exact Z lf n an an
theorem vq_want{fl:List FL}{d g:Key}{want:Bool}{op:br}{r:List bl}(I:aF VE g.n=some (.d (.b want)))(h:VI T op VE B W fun v B'=>VQ T r ((d.n,v)::VE) B' fl Q):VQ T (⟨some d,some (g,want),none,op⟩::r) VE B fl Q:=by
 intro H0 X0 E H β z bf L;obtain⟨N,a,H',e,v,B',β',G,A,M,O⟩:=h H0 X0 E H β z;obtain⟨U,Y,Z,e2,hp⟩:=O H0 X0 _ H' β' (A.set M) bf (L.step G);refine⟨max N U,Y,Z,fun lf n a1 a2=>?_,hp.of G z.aS⟩;show bl.jB (T.call lf n) ⟨some d,some (g,want),none,op⟩ E H bf (iS (T.call lf n) r)=_;rw[Kz (z.bool I),bg rfl,Zw rfl,e lf n an an,KW];exact e2 lf n an an
theorem uV{call:dQ}{E:Env}{H:ax}{d:Option Key}{g:Option (Key×Bool)}{l:List Nat}{op:br}{bf:List FP}{K:Env→ax→List FP→dO}{v:ai}{H1:ax}(h:op.ev call E H.mark= .ok v H1)(G:mO ⟨op.reads E,H1.ws,H.next,H1.next⟩ bf l=true):
  bl.pP call ⟨d,g,some l,op⟩ E H bf K=K (ja E d v) ⟨H1.next,H.aS,pr H.aS H.ws H1.ws,H1.t⟩ (⟨op.reads E,H1.ws,H.next,H1.next⟩::bf):=by
 cases H with
 |mk next aS ws t=>cases H1 with
  |mk next' A z t'=>
   show ch next (fun next=>Ek (op.reads E) l next aS ws bf d E K (op.ev call E ⟨next,next,[],t⟩))=_;rw[fc];have h:op.ev call E ⟨next,next,[],t⟩= .ok v ⟨next',A,z,t'⟩:=h;rw[h];have G:mO ⟨op.reads E,z,next,next'⟩ bf l=true:=G
   cases d with
   |none=>
    show aJ (mO ⟨op.reads E,z,next,next'⟩ bf l) (K E ⟨next',aS,pr aS ws z,t'⟩ (⟨op.reads E,z,next,next'⟩::bf)) (.err 50)=_;rw[G];rfl
   |some d=>
    unfold Ek;dsimp only;rw[G,dM,T4.FZ];rfl
def yJ(x:Nat):List Nat→Bool
 |[]=>false
 |y::r=>Nat.beq x y||yJ x r
theorem KX{x:Nat}:∀{l:List Nat},x∈l→yJ x l=true
 |y::r,h=>by
  rcases List.mem_cons.1 h with rfl|h
  ·show(Nat.beq x x||yJ x r)=true;rw[show Nat.beq x x=true from gu x];rfl
  show(Nat.beq x y||yJ x r)=true;rw[KX h,Bool.or_true]
def I6(R:List Nat):List Nat→Bool
 |[]=>true
 |b::r=>!yJ b R&&I6 R r
theorem aaR{R:List Nat}:∀{W:List Nat},I6 R W=true→∀b,b∈W→b∉R
 |c::r,h,b,z=>by
  simp only[I6,cU] at h;rcases List.mem_cons.1 z with rfl|z
  ·intro A;rw[KX A] at h;simp at h
  exact aaR h.2 b z
def mX(W:List Nat)(l:List Nat)(fl:List FL):Bool:=
 match l with
 |[]=>true
 |i::r=>(match fl[i]?with
  |some (.rd R)=>I6 R W
  |some .qt=>W.isEmpty
  |_=>false)&&mX W r fl
theorem aaS{l m:List Nat}(h:∀f,f∈l→f∉m):Dz l m=true:=by
 induction l with
 |nil=>rfl
 |cons x r z=>
  show aJ (pO x m) false (Dz r m)=true;rw[z fun f A=>h f (oV _ A)];have G:pO x m=false:=by
   cases I:pO x m
   ·rfl
   exact absurd ((KT _ _).1 I) (h x (jo ..))
  rw[G];rfl
theorem QL(r:Option (List Nat)):HO [] r=true:=rfl
theorem QC{l m:List Nat}(h:∀f,f∈l→f∉m):HO l (some m)=true:=by
 cases l with
 |nil=>rfl
 |cons x r=>exact aaS h
theorem Z8{n:Nat}:∀{l:List Nat},yH l n n=true
 |[]=>rfl
 |x::r=>by
  show aJ (Nat.ble n x) (aJ (Nat.ble n x) (yH r n n) false) (yH r n n)=true;rw[Z8]
  cases Nat.ble n x<;>rfl
theorem xq{n:Nat}{β:Nat→Nat}{fl:List FL}{bf:List FP}{fp:FP}(G:nx n B β fl bf)(M:∀f,f∈fp.ws→∃b s,b∈W∧aF B b=some s∧s.born∧β b=f):∀{l:List Nat},mX W l fl=true→mO fp bf l=true
 |[],_=>rfl
 |i::r,h=>by
  simp only[mX,cU] at h;obtain⟨hi,Z⟩:=h;show ob (bf[i]?) false (fun b=>aJ (nG fp b) (mO fp bf r) false)=true;have A:i<bf.length:=by
   rw[G.1]
   cases z:fl[i]?with
   |none=>rw[z] at hi;simp at hi
   |some x=>exact(List.getElem?_eq_some_iff.1 z).1
  rw[dx A,cA];have L:i<fl.length:=by rw[←G.1];exact A
  have I:=G.2 i _ _ (dx L) (dx A);rw[dx L] at hi;have e:nG fp bf[i]=true:=by
   unfold nG
   cases z:fl[i] with
   |un=>rw[z] at hi;simp at hi
   |off _=>rw[z] at hi;simp at hi
   |wr _=>rw[z] at hi;simp at hi
   |qt=>
    rw[z] at hi I;have hW:W=[]:=by cases W with
     |nil=>rfl
     |cons _ _=>simp at hi
    have O:fp.ws=[]:=by
     cases hl:fp.ws with
     |nil=>rfl
     |cons f _=>
      obtain⟨b,_,Y,_⟩:=M f (by rw[hl];exact jo ..);rw[hW] at Y;cases Y
    have I:bf[i].ws=[]:=I;rw[O,I];rfl
   |rd R=>
    rw[z] at hi I;obtain⟨k1,k2,l,k3,k4⟩:=I;have hi:I6 R W=true:=hi;rw[k1,k2,k3,QL,QC (fun f G U=>?_),aaS (fun f _ h=>by cases h),Z8]
    ·rfl
    obtain⟨b,s,h1,h2,h3,h4⟩:=M f G;exact aaR hi b h1 ((k4 f U).2 b s h2 h3 h4)
  rw[e,dM];exact xq G M Z
theorem gO.mark{β β':Nat→Nat}{H H1:ax}(h:gO B β H.mark (· ∈W) B' β' H1):gO B β H (· ∈W) B' β' ⟨H1.next,H.aS,pr H.aS H.ws H1.ws,H1.t⟩:=by
 cases H with
 |mk next aS ws t=>
  refine⟨rfl,h.next,fun f z=>?_,h.since,h.jI⟩;rcases(Fu _ _ _ _).1 z with z|⟨z,k⟩
  ·exact .inl z
  rcases h.ws f z with z|⟨a,A⟩
  ·cases z
  exact .inr ⟨k,A⟩
theorem ve{H0:Nat→Nat}{X0:Nat→Prop}{E:Env}{H:ax}{β:Nat→Nat}{op:br}{Q:VV→aK→Prop}(h:VI T op VE B W Q)(L:Rel H0 X0 VE B E H β):
  gF T op E H.mark fun a H1=>(∀f,f∈H1.ws→∃b s,b∈W∧aF B b=some s∧s.born∧β b=f)∧∃v B' β',gO B β H (· ∈W) B' β' ⟨H1.next,H.aS,pr H.aS H.ws H1.ws,H1.t⟩∧Rel H0 X0 VE B' E ⟨H1.next,H.aS,pr H.aS H.ws H1.ws,H1.t⟩ β'∧aE ⟨H1.next,H.aS,pr H.aS H.ws H1.ws,H1.t⟩ (XB X0 B' β') β' v a∧Q v B':=by
 have z:H.mark.aS=H.next∧H.mark.ws=[]∧H.mark.next=H.next∧H.mark.t=H.t:=by cases H;exact⟨rfl,rfl,rfl,rfl⟩
 have A:Rel H0 X0 VE B E H.mark β:=L.grow (by rw[z.2.2.1];exact bd _) (fun f _=>by rw[z.2.2.2]) (by rw[z.1,z.2.2.1];exact bd _);refine(h H0 X0 E H.mark β A).mono fun a H1 M=>?_
 obtain⟨v,B',β',G,I,O,U⟩:=M;have Y:H.aS≤H1.next:=by
  have h1:=L.aS;have h2:=G.next;rw[z.2.2.1] at h2;omega
 have Z:eJ H1 (XB X0 B' β') ⟨H1.next,H.aS,pr H.aS H.ws H1.ws,H1.t⟩ (XB X0 B' β'):=⟨bd _,fun _ _ hx=>⟨hx,rfl⟩⟩;refine⟨fun f hf=>?_,v,B',β',G.mark,I.grow (bd _) (fun _ _=>rfl) Y,O.lift Z,U⟩;rcases G.ws f hf with h|⟨_,b,s,h⟩
 ·rw[z.2.1] at h;cases h
 exact⟨b,s,h⟩
def uo:List Nat→FL
 |[]=>.qt
 |_=>.un
theorem RG{n:Nat}{β:Nat→Nat}{fp:FP}(A:∀f,f∈fp.ws→∃b s,b∈W∧aF B b=some s∧s.born∧β b=f){B1:aK}{z:Nat→Nat}:sG n B1 z (uo W) fp:=by
 cases W with
 |cons _ _=>trivial
 |nil=>
  show fp.ws=[]
  cases G:fp.ws with
  |nil=>rfl
  |cons f _=>
   obtain⟨b,_,I,_⟩:=A f (by rw[G];exact jo ..)
   cases I
theorem aO{fl:List FL}{d:Key}{l:List Nat}{op:br}{r:List bl}(M:mX W l fl=true)(h:VI T op VE B W fun v B'=>VQ T r ((d.n,v)::VE) B' (uo W::fl) Q):VQ T (⟨some d,none,some l,op⟩::r) VE B fl Q:=by
 intro H0 X0 E H β A bf G;obtain⟨N,a,H',e,I,v,B',β',L,z,O,U⟩:=ve h A;obtain⟨Y,Z,H2,e2,hp⟩:=U H0 X0 _ _ β' (z.set O) (⟨op.reads E,H'.ws,H.next,H'.next⟩::bf) ((G.step L).cons (RG I));refine⟨max N Y,Z,H2,fun lf n a1 a2=>?_,hp.of L A.aS⟩;show bl.jB (T.call lf n) ⟨some d,none,some l,op⟩ E H bf (iS (T.call lf n) r)=_;rw[uU,uV (e lf n an an) (xq G I M)];exact e2 lf n an an
theorem gX{fl:List FL}{l:List Nat}{op:br}{r:List bl}(M:mX W l fl=true)(h:VI T op VE B W fun _ B'=>VQ T r VE B' (uo W::fl) Q):VQ T (⟨none,none,some l,op⟩::r) VE B fl Q:=by
 intro H0 X0 E H β A bf G;obtain⟨N,a,H',e,I,v,B',β',L,z,hv,O⟩:=ve h A;obtain⟨U,Y,Z,e2,hp⟩:=O H0 X0 _ _ β' z (⟨op.reads E,H'.ws,H.next,H'.next⟩::bf) ((G.step L).cons (RG I));refine⟨max N U,Y,Z,fun lf n a1 a2=>?_,hp.of L A.aS⟩;show bl.jB (T.call lf n) ⟨none,none,some l,op⟩ E H bf (iS (T.call lf n) r)=_;rw[uU,uV (e lf n an an) (xq G I M)];exact e2 lf n an an
theorem vq_wantM{fl:List FL}{d g:Key}{want:Bool}{l:List Nat}{op:br}{r:List bl}(M:aF VE g.n=some (.d (.b want)))(O:mX W l fl=true)(h:VI T op VE B W fun v B'=>VQ T r ((d.n,v)::VE) B' (uo W::fl) Q):VQ T (⟨some d,some (g,want),some l,op⟩::r) VE B fl Q:=by
 intro H0 X0 E H β z bf G;obtain⟨N,a,H',e,I,v,B',β',L,A,U,Y⟩:=ve h z;obtain⟨Z,E2,H2,e2,hp⟩:=Y H0 X0 _ _ β' (A.set U) (⟨op.reads E,H'.ws,H.next,H'.next⟩::bf) ((G.step L).cons (RG I));refine⟨max N Z,E2,H2,fun lf n a1 a2=>?_,hp.of L z.aS⟩;show bl.jB (T.call lf n) ⟨some d,some (g,want),some l,op⟩ E H bf (iS (T.call lf n) r)=_;rw[Kz (z.bool M),bg rfl,uV (e lf n an an) (xq G I O)];exact e2 lf n an an
variable{R:Ex→bb→aK→Prop}
theorem VC.mono{c:IC}{z:Ex→bb→aK→Prop}(h:VC T c VE B R)(k:∀x VE B,R x VE B→z x VE B):VC T c VE B z:=fun H0 X0 E H β A=>
 (h H0 X0 E H β A).mono fun x _ _ G=>by obtain⟨bj,B',β',I,a,b⟩:=G;exact⟨bj,B',β',I,a,k _ _ _ b⟩
theorem iu{ops:List bl}(h:VO T ops VE B fun bj B'=>R .normal bj B'):VC T (.region false ops) VE B R:=fun H0 X0 E H β z=>Zv (h H0 X0 E H β z)
theorem rX{ops:List bl}(h:VQ T ops VE B [] fun bj B'=>R .normal bj B'):VC T (.region true ops) VE B R:=fun H0 X0 E H β z=>wpC_regionQ (h H0 X0 E H β z [] ⟨rfl,fun i x r hi=>by simp at hi⟩)
theorem eR{a b:IC}(h:VC T a VE B fun x bj B'=>match x with|.normal=>VC T b bj B' R|x=>R x bj B'):VC T (.seq a b) VE B R:=fun H0 X0 E H β L=>by
 refine abQ ((h H0 X0 E H β L).mono fun x E' H' A=>?_);obtain⟨bj,B',β',G,z,I⟩:=A
 cases x with
 |normal=>exact⟨fun _=>(I H0 X0 E' H' β' z).mono fun _ _ _ A=>A.of G L.aS,fun e=>absurd rfl e⟩
 |exit id=>exact⟨fun e=>(by cases e),fun _=>⟨bj,B',β',G,z,I⟩⟩
 |ret=>exact⟨fun e=>(by cases e),fun _=>⟨bj,B',β',G,z,I⟩⟩
theorem jw(h:R .normal VE B):VC T .skip VE B R:=fun _ _ _ _ β z=>wpC_skip ⟨VE,B,β,.refl,z,h⟩
theorem mQ{id:Nat}(h:R (.exit id) VE B):VC T (.exit id) VE B R:=fun _ _ _ _ β z=>wpC_exit ⟨VE,B,β,.refl,z,h⟩
theorem ki(h:R .ret VE B):VC T .ret VE B R:=fun _ _ _ _ β z=>wpC_ret ⟨VE,B,β,.refl,z,h⟩
theorem aaT{k:Key}{a b:IC}(A:aF VE k.n=some (.d (.b true)))(h:VC T a VE B R):VC T (.cond (.t k) a b) VE B R:=fun H0 X0 E H β z=>
 FI (t:=true) (z.bool A) (fun _=>h H0 X0 E H β z) (fun e=>by cases e)
theorem aaU{k:Key}{a b:IC}(A:aF VE k.n=some (.d (.b false)))(h:VC T b VE B R):VC T (.cond (.t k) a b) VE B R:=fun H0 X0 E H β z=>
 FI (t:=false) (z.bool A) (fun e=>by cases e) (fun _=>h H0 X0 E H β z)
theorem cF{k:Key}{a b:IC}{t:Bool}(A:aF VE k.n=some (.d (.b t)))(G:t=true→VC T a VE B R)(h2:t=false→VC T b VE B R):VC T (.cond (.t k) a b) VE B R:=fun H0 X0 E H β z=>
 FI (t:=t) (z.bool A) (fun e=>G e H0 X0 E H β z) (fun e=>h2 e H0 X0 E H β z)
theorem vc_block{id:Nat}{c:IC}(h:VC T c VE B fun x=>R (E9 id x)):VC T (.block id c) VE B R:=fun H0 X0 E H β z=>Z5 (h H0 X0 E H β z)
theorem RH{c:IC}(I:Nat→bb→aK→Prop)(hI:∀k VE B,I k VE B→VC T c VE B fun x bj B'=>match x with|.normal=>∃j,j<k∧I j bj B'|x=>R x bj B'){k:Nat}(h0:I k VE B):VC T (.loop c) VE B R:=by
 intro H0 X0 E H β Z;refine aaQ (fun k E1 H1=>∃z B1 A,gO B β H (fun _=>True) B1 A H1∧Rel H0 X0 z B1 E1 H1 A∧I k z B1) (fun k E1 H1 hk=>?_) k E H ⟨VE,B,β,.refl,Z,h0⟩;obtain⟨z,B1,A,M,O,hi⟩:=hk;refine(hI k z B1 hi H0 X0 E1 H1 A O).mono fun x E' H' hp=>?_
 obtain⟨bj,B',β',hw,G,U⟩:=hp;have L:=M.trans hw Z.aS
 cases x with
 |normal=>
  obtain⟨j,hj,Y⟩:=U;exact⟨fun _=>⟨j,hj,bj,B',β',L,G,Y⟩,fun e=>absurd rfl e⟩
 |exit id=>exact⟨fun e=>(by cases e),fun _=>⟨bj,B',β',L,G,U⟩⟩
 |ret=>exact⟨fun e=>(by cases e),fun _=>⟨bj,B',β',L,G,U⟩⟩
theorem abS{c:IC}(z:∀k v,aF bj k=some v→aF VE k=some v)(h:VC T c bj B R):VC T c VE B R:=
 fun H0 X0 E H β A=>h H0 X0 E H β (A.less z)
theorem abT{c:IC}(b:Nat)(h:VC T c VE (cL B b) R):VC T c VE B R:=
 fun H0 X0 E H β z=>(h H0 X0 E H β (z.drop b)).mono fun _ _ _ A=>A.more u9
end
def xG:ai→Option VV
 |.int k n=>some (.d (.i k n))
 |.bool b=>some (.d (.b b))
 |.str l v=>some (.d (.s l v))
 |.fV=>some (.d .nil)
 |.kJ=>some (.k .kJ)
 |.mT=>some (.k .mT)
 |.nF=>some (.k .nF)
 |.func f fs cs=>match fs,cs with
  |[],[]=>some (.fn f [])
  |_,_=>none
 |_=>none
def aG.vv(VE:bb):aG→Option VV
 |.t k=>aF VE k.n
 |.c a=>xG a
def VV.cells:VV→Option (List VV)
 |.agg l=>some l
 |.d x=>some [.d x]
 |.vp b o=>some [.vp b o]
 |.bs b n es=>some [.bs b n es]
 |.ac b n es=>some [.ac b n es]
 |.k .kJ=>some [.k .kJ]
 |.k .mT=>some [.k .mT]
 |.k .nF=>some [.k .nF]
 |.jH=>some [.jH]
 |.fn f c=>some [.fn f c]
 |_=>none
def gG:List VV→Option (List DC)
 |[]=>some []
 |.d x::r=>(gG r).map (x:: ·)
 |_::_=>none
def ak{α:Type}:List (Nat×α)→List (Nat×α)→Prop
 |[],_=>True
 |(i,v)::r,l=>aF l i=some v∧ak r l
theorem ak.get{α:Type}:∀{l m:List (Nat×α)},ak l m→∀{k:Nat}{v:α},aF l k=some v→aF m k=some v
 |[],_,_,_,_,h=>by cases h
 |(i,w)::r,m,z,k,v,h=>by
  rw[cP] at h
  by_cases e:i=k
  ·rw[bg e] at h;cases h;exact e▸z.1
  rw[aX e] at h;exact ak.get z.2 h
theorem abU:∀{l:List VV}{row:List DC},gG l=some row→l=row.map .d
 |[],row,h=>by simp only[gG,eE] at h;subst h;rfl
 |.d x::r,row,h=>by
  simp only[gG,HA] at h;obtain⟨s,z,rfl⟩:=h;rw[abU z];rfl
 |.agg _::_,_,h=>by simp[gG] at h
 |.tuple _::_,_,h=>by simp[gG] at h
 |.vp _ _::_,_,h=>by simp[gG] at h
 |.bp _ _ _ _ _::_,_,h=>by simp[gG] at h
 |.rp _ _::_,_,h=>by simp[gG] at h
 |.bs _ _ _::_,_,h=>by simp[gG] at h
 |.ac _ _ _::_,_,h=>by simp[gG] at h
 |.fn _ _::_,_,h=>by simp[gG] at h
 |.k _::_,_,h=>by simp[gG] at h
 |.jH::_,_,h=>by simp[gG] at h
 |.undef::_,_,h=>by simp[gG] at h
section
variable{T:aL}{H0:Nat→Nat}{X0:Nat→Prop}{VE bj:bb}{B B':aK}{E:Env}{H H':ax}{β:Nat→Nat}{X:Nat→Prop}
theorem Zx{a:ai}{v:VV}(h:xG a=some v):aE H X β v a:=by
 cases a
 case func f fs cs=>
  cases fs<;>cases cs<;>simp only[xG,eE,reduceCtorEq] at h
  subst h;simp only[aE,bc];exact⟨[],rfl,rfl⟩
 all_goals simp only[xG,eE,reduceCtorEq] at h
 all_goals subst h
 all_goals first|(simp only[aE,bA];done)|(simp only[aE])
theorem constV_no{a:ai}{v:VV}(h:xG a=some v)(b:Nat):v.no b=true:=by
 cases a
 case func f fs cs=>
  cases fs<;>cases cs<;>simp only[xG,eE,reduceCtorEq] at h
  subst h;rfl
 all_goals simp only[xG,eE,reduceCtorEq] at h
 all_goals subst h
 all_goals simp only[VV.no]
theorem Rel.bC(z:Rel H0 X0 VE B E H β){x:aG}{v:VV}(h:x.vv VE=some v):∃a,x.ev E=some a∧aE H (XB X0 B β) β v a:=by
 cases x with
 |t k=>exact z.env k v h
 |c a=>exact⟨a,rfl,Zx h⟩
theorem aE.cells{v:VV}{a:ai}{l:List VV}(h:v.cells=some l)(z:aE H X β v a):∃s,iR a=some s∧bc H X β l s:=by
 cases v with
 |agg m=>
  simp only[VV.cells,eE] at h;subst h;simp only[aE] at z;obtain⟨cs,rfl,h⟩:=z;exact⟨cs,rfl,h⟩
 |d x=>
  simp only[VV.cells,eE] at h;subst h;have:iR a=some [a]:=by
   simp only[aE] at z
   cases x with
   |i k n=>simp only[bA] at z;subst z;rfl
   |b t=>simp only[bA] at z;subst z;rfl
   |s l n=>simp only[bA] at z;subst z;rfl
   |nil=>simp only[bA] at z;subst z;rfl
   |sl rows=>simp only[bA] at z;obtain⟨f,g,off,es,rfl,_⟩:=z;rfl
   |raw f n es=>simp only[bA] at z;subst z;rfl
  exact⟨[a],this,by simp only[bc];exact⟨a,[],rfl,z,rfl⟩⟩
 |vp b o=>
  simp only[VV.cells,eE] at h;subst h;have e:a= .ptr (β b) 1 o:=by simpa only[aE] using z
  exact⟨[a],by subst e;rfl,by simp only[bc];exact⟨a,[],rfl,z,rfl⟩⟩
 |bs b n es=>
  simp only[VV.cells,eE] at h;subst h;have e:a= .slice (β b) n 0 n es:=by simpa only[aE] using z
  exact⟨[a],by subst e;rfl,by simp only[bc];exact⟨a,[],rfl,z,rfl⟩⟩
 |fn f c=>
  simp only[VV.cells,eE] at h;subst h;have e:∃cs,a= .func f [] cs∧bc H X β c cs:=by simpa only[aE] using z
  obtain⟨cs,e,_⟩:=e;exact⟨[a],by subst e;rfl,by simp only[bc];exact⟨a,[],rfl,z,rfl⟩⟩
 |jH=>
  simp only[VV.cells,eE] at h;subst h;have e:∃t x,a= .iface t x:=by simpa only[aE] using z
  obtain⟨t,x,e⟩:=e;exact⟨[a],by subst e;rfl,by simp only[bc];exact⟨a,[],rfl,z,rfl⟩⟩
 |k x=>
  have e:a=x:=by simpa only[aE] using z
  cases x<;>simp only[VV.cells,eE,reduceCtorEq] at h
  all_goals subst h
  all_goals exact⟨[a],by subst e;rfl,by simp only[bc];exact⟨a,[],rfl,z,rfl⟩⟩
 |ac b n es=>
  simp only[VV.cells,eE] at h;subst h;have e:iR a=some [a]:=by
   simp only[aE] at z;rcases z with⟨_,rfl⟩|⟨_,rfl⟩<;>rfl
  exact⟨[a],e,by simp only[bc];exact⟨a,[],rfl,z,rfl⟩⟩
 |tuple _=>simp[VV.cells] at h
 |bp _ _ _ _ _=>simp[VV.cells] at h
 |rp _ _=>simp[VV.cells] at h
 |undef=>simp[VV.cells] at h
theorem du{W:List Nat}{Q:VV→aK→Prop}{a:ai}{v:VV}(z:Rel H0 X0 VE B E H β)(A:aE H (XB X0 B β) β v a)(G:Q v B):DF H0 X0 VE B β E H W Q a H:=
 ⟨v,B,β,.refl,z,A,G⟩
theorem Rel.DG(h:Rel H0 X0 VE B E H β)(z:∀k s,aF B' k=some s→aF B k=some s):Rel H0 X0 VE B' E H β:=by
 have I:eJ H (XB X0 B β) H (XB X0 B' β):=⟨bd _,fun f _ L=>⟨fun k=>L (k.imp id fun⟨c,s,G,h2⟩=>⟨c,s,z c s G,h2⟩),rfl⟩⟩;refine⟨h.jr,h.aS,h.x0,fun c s A=>h.new c s (z c s A),fun c e s t A M=>h.inj c e s t (z c s A) (z e t M),fun k v O=>?_,fun c s A=>(h.box c s (z c s A)).lift I rfl⟩;obtain⟨a,G,h2⟩:=h.env k v O;exact⟨a,G,h2.lift I⟩
theorem aT{c:IC}{R:Ex→bb→aK→Prop}(bj:bb)(B':aK)(A:ak bj VE)(h2:ak B' B)(h:VC T c bj B' R):VC T c VE B R:=
 fun H0 X0 E H β G=>(h H0 X0 E H β ((G.less fun _ _ z=>A.get z).DG fun _ _ z=>h2.get z)).mono fun _ _ _ I=>I.more fun _ s L M=>⟨s,h2.get L,M⟩
mutual
def VV.mG(b:Nat)(x:DC):VV→VV
 |.agg l=>.agg (OC b x l)
 |.bs c n es=>bif Nat.beq c b then .d x else .bs c n es
 |.ac c n es=>bif Nat.beq c b then .d x else .ac c n es
 |v=>v
def OC(b:Nat)(x:DC):List VV→List VV
 |[]=>[]
 |v::r=>v.mG b x::OC b x r
end
mutual
def VV.uI(b n es:Nat):VV→Prop
 |.agg l=>OD b n es l
 |.bs c m e=>c=b→m=n∧e=es
 |.ac c _ _=>c≠b
 |_=>True
def OD(b n es:Nat):List VV→Prop
 |[]=>True
 |v::r=>v.uI b n es∧OD b n es r
end
theorem dF.mW{f g es:Nat}:∀{rows:ah}{q:Nat},(∀i row,rows[i]?=some row→∃l,l8 H f g (q+i) l∧l.length=es∧bS H X row l)→dF H X f g es q rows
 |[],_,_=>trivial
 |row::r,q,h=>by
  simp only[dF];refine⟨h 0 row rfl,dF.mW fun i row hi=>?_⟩;rw[show q+1+i=q+(i+1) by omega];exact h (i+1) row (by simpa using hi)
theorem de.cells{f elem aC es lo:Nat}{rows:ah}(h:de H X β f (.arr elem aC es lo rows)){g:Nat}(Y:lo≤g)(h2:g≤rows.length){q:Nat}(I:q<g){row:List DC}(z:rows[q]?=some row):∃l,l8 H f g q l∧l.length=es∧bS H X row l:=by
 obtain⟨A,cs,L,Z,k3,M⟩:=h;obtain⟨l,O,G,U⟩:=M q row z;exact⟨l,⟨elem,aC,rows.length,A,0,cs,by rw[G];exact L,an,h2,I,O⟩,G,U⟩
theorem Rel.asData(G:Rel H0 X0 VE B E H β){b elem aC es lo:Nat}{rows:ah}(I:aF B b=some (.arr elem aC es lo rows)){X:Nat→Prop}(M:¬X (β b))(O:eJ H (XB X0 B β) H X):bA H X (.sl rows) (.slice (β b) rows.length 0 rows.length es):=by
 have L:=G.box b _ I;simp only[bA];refine⟨β b,rows.length,0,es,rfl,.inr ⟨M,(G.new b _ I trivial).2,0,by simp,dF.mW fun i row hi=>?_⟩⟩;have z:=(List.getElem?_eq_some_iff.1 hi).1;have A:lo≤rows.length:=by obtain⟨_,_,_,_,h,_⟩:=L;exact h
 obtain⟨l,U,h2,Y⟩:=L.cells (g:=rows.length) A (bd _) z hi;exact⟨l,by rw[e6];exact U,h2,Y.lift O⟩
theorem Rel.mG(I:Rel H0 X0 VE B E H β){b elem aC es lo:Nat}{rows:ah}(L:aF B b=some (.arr elem aC es lo rows)){k:Nat}{v:VV}(hv:aF VE k=some v)(ho:v.uI b rows.length es):
  Rel H0 X0 ((k,v.mG b (.sl rows))::VE) (cL B b) E H β:=by
 have M:=I.drop b;have O:¬XB X0 (cL B b) β (β b):=by
  rintro(h|⟨c,s,z,U,h2⟩)
  ·exact(I.new b _ L trivial).1 h
  rw[gz] at z
  by_cases e:b=c
  ·rw[bg e] at z;cases z
  rw[aX e] at z;exact e (I.inj c b s _ z L U trivial h2).symm
 have hl:eJ H (XB X0 B β) H (XB X0 (cL B b) β):=⟨bd _,fun f _ O=>⟨fun k=>O (k.imp id fun⟨c,s,z,h2⟩=>⟨c,s,by
  rw[gz] at z
  by_cases e:b=c
  ·rw[bg e] at z;cases z
  rw[aX e] at z;exact z,h2⟩),rfl⟩⟩
 have G:=I.asData L O hl;have main:(∀v:VV,v.uI b rows.length es→∀a,aE H (XB X0 (cL B b) β) β v a→aE H (XB X0 (cL B b) β) β (v.mG b (.sl rows)) a):=by
  intro v;refine VV.rec (motive_1:=fun v=>v.uI b rows.length es→∀a,aE H (XB X0 (cL B b) β) β v a→aE H (XB X0 (cL B b) β) β (v.mG b (.sl rows)) a)
   (motive_2:=fun l=>OD b rows.length es l→∀s,bc H (XB X0 (cL B b) β) β l s→bc H (XB X0 (cL B b) β) β (OC b (.sl rows) l) s) ?_ ?_ ?_ ?_ ?_ ?_ ?_ ?_ ?_ ?_ ?_ ?_ ?_ ?_ v
  ·intro x _ a h;exact h
  ·intro l ih ho a h;simp only[aE,VV.mG,VV.uI] at h ho⊢;obtain⟨cs,e,h⟩:=h;exact⟨cs,e,ih ho cs h⟩
  ·intro l _ _ a h;exact h
  ·intro c o _ a h;exact h
  ·intro c g q o e _ a h;exact h
  ·intro row o _ a h;exact h
  ·intro c n e ho a h;simp only[VV.mG,VV.uI] at h ho⊢
   by_cases A:c=b
   ·obtain⟨rfl,rfl⟩:=ho A;subst A;rw[show Nat.beq c c=true from gu c];simp only[aE] at h;subst h;show aE H _ β (.d (.sl rows)) _;simp only[aE];exact G
   have:Nat.beq c b=false:=by
    cases Y:Nat.beq c b
    ·rfl
    exact absurd (cW Y) A
   rw[this];exact h
  ·intro c n e ho a h;simp only[VV.mG,VV.uI] at ho⊢;have:Nat.beq c b=false:=by
    cases Y:Nat.beq c b
    ·rfl
    exact absurd (cW Y) ho
   rw[this];exact h
  ·intro f c _ _ a h;exact h
  ·intro x _ a h;exact h
  ·intro _ a h;exact h
  ·intro _ a h;exact h
  ·intro _ s h;exact h
  intro v r Z XP ho s h;simp only[bc,OC,OD] at h ho⊢;obtain⟨a,s,e,z,h2⟩:=h;exact⟨a,s,e,Z ho.1 a z,XP ho.2 s h2⟩
 refine{M with env:=fun c w A=>?_};rw[cP] at A
 by_cases e:k=c.n
 ·rw[bg e] at A
  cases A
  obtain⟨a,z,h2⟩:=M.env c v (e▸hv);exact⟨a,z,main v ho a h2⟩
 rw[aX e] at A;exact M.env c w A
theorem eS{ops:List bl}{Q:bb→aK→Prop}(k b:Nat){v:VV}{elem aC es lo:Nat}{rows:ah}(z:aF VE k=some v)(A:aF B b=some (.arr elem aC es lo rows))(ho:v.uI b rows.length es)(h:VO T ops ((k,v.mG b (.sl rows))::VE) (cL B b) Q):VO T ops VE B Q:=
 fun H0 X0 E H β G=>(h H0 X0 E H β (G.mG A z ho)).mono fun _ _ I=>I.more u9
theorem kN{c:IC}{R:Ex→bb→aK→Prop}(k b:Nat){v:VV}{elem aC es lo:Nat}{rows:ah}(z:aF VE k=some v)(A:aF B b=some (.arr elem aC es lo rows))(ho:v.uI b rows.length es)(h:VC T c ((k,v.mG b (.sl rows))::VE) (cL B b) R):VC T c VE B R:=
 fun H0 X0 E H β G=>(h H0 X0 E H β (G.mG A z ho)).mono fun _ _ _ I=>I.more u9
variable{W:List Nat}{Q:VV→aK→Prop}
theorem wrap64{n:Int}(z: -9223372036854775808≤n)(h2:n≤9223372036854775807):IntKind.i64.wrap n=n:=by
 simp[IntKind.wrap,IntKind.bits,IntKind.signed]
 split<;>omega
theorem As{x:aG}{v:VV}(A:x.vv VE=some v)(G:Q v B):VI T (.eb x) VE B [] Q:=fun _ _ _ _ _ z=>by
 obtain⟨a,I,h2⟩:=z.bC A;exact wpI_mov I (du z h2 G)
theorem Ra{c x y:aG}{v:VV}(G:c.vv VE=some (.d (.b true)))(I:x.vv VE=some v)(L:Q v B):VI T (.pick c x y) VE B [] Q:=fun _ _ _ _ _ z=>by
 obtain⟨a,M,h2⟩:=z.bC I;obtain⟨t,O,A⟩:=z.bC G;simp only[aE,bA] at A;subst A;exact aaN (t:=true) O M (du z h2 L)
theorem aaV{c x y:aG}{v:VV}(G:c.vv VE=some (.d (.b false)))(I:y.vv VE=some v)(L:Q v B):VI T (.pick c x y) VE B [] Q:=fun _ _ _ _ _ z=>by
 obtain⟨a,M,h2⟩:=z.bC I;obtain⟨t,O,A⟩:=z.bC G;simp only[aE,bA] at A;subst A;exact aaN (t:=false) O M (du z h2 L)
theorem SA{x:aG}{b:Bool}(A:x.vv VE=some (.d (.b b)))(G:Q (.d (.b (!b))) B):VI T (.un .not x) VE B [] Q:=fun _ _ _ _ _ z=>by
 obtain⟨_,I,h2⟩:=z.bC A;simp only[aE,bA] at h2;subst h2;exact wpI_un I rfl (du z (v:=.d (.b (!b))) (by simp only[aE,bA]) G)
theorem abV{k A:IntKind}{x:aG}{n:Int}(G:x.vv VE=some (.d (.i A n)))(I:Q (.d (.i k (k.wrap n))) B):VI T (.conv k x) VE B [] Q:=fun _ _ _ _ _ z=>by
 obtain⟨_,L,h2⟩:=z.bC G;simp only[aE,bA] at h2;subst h2;exact wpI_conv L (du z (v:=.d (.i k (k.wrap n))) (by simp only[aE,bA,oz]) I)
theorem ad8{x:aG}{rows:ah}(A:x.vv VE=some (.d (.sl rows)))(G:Q (.d (.i .i64 rows.length)) B):VI T (.len x) VE B [] Q:=fun _ _ _ _ _ z=>by
 obtain⟨_,I,h2⟩:=z.bC A;simp only[aE,bA] at h2;obtain⟨f,g,off,es,rfl,_⟩:=h2;exact Lc I (du z (v:=.d (.i .i64 rows.length)) (by simp only[aE,bA]) G)
theorem Ad{x:aG}(A:x.vv VE=some (.d .nil))(G:Q (.d (.i .i64 0)) B):VI T (.len x) VE B [] Q:=fun _ _ _ _ _ z=>by
 obtain⟨_,I,h2⟩:=z.bC A;simp only[aE,bA] at h2;subst h2;exact Zf I (du z (v:=.d (.i .i64 0)) (by simp only[aE,bA]) G)
theorem Gc{x:aG}{b n es:Nat}(A:x.vv VE=some (.bs b n es))(G:Q (.d (.i .i64 n)) B):VI T (.len x) VE B [] Q:=fun _ _ _ _ _ z=>by
 obtain⟨_,I,h2⟩:=z.bC A;simp only[aE] at h2;subst h2;exact Lc I (du z (v:=.d (.i .i64 n)) (by simp only[aE,bA]) G)
theorem vi_lenS{x:aG}{l s:Nat}(A:x.vv VE=some (.d (.s l s)))(G:Q (.d (.i .i64 l)) B):VI T (.um x) VE B [] Q:=fun _ _ _ _ _ z=>by
 obtain⟨_,I,h2⟩:=z.bC A;simp only[aE,bA] at h2;subst h2;exact aaO I (du z (v:=.d (.i .i64 l)) (by simp only[aE,bA]) G)
theorem vi_idx{x i:aG}{es j:Nat}{k:IntKind}{rows:ah}{row:List DC}(M:x.vv VE=some (.d (.sl rows)))(hi:i.vv VE=some (.d (.i k (j:Int))))(G:rows[j]?=some row)(O:row.length=es)(U:Q (.rp row 0) B):VI T (.kr es x i) VE B [] Q:=fun _ _ _ _ _ z=>by
 obtain⟨_,Y,h2⟩:=z.bC M;obtain⟨_,Z,A⟩:=z.bC hi;simp only[aE] at h2 A;simp only[bA] at A;subst A;obtain⟨f,g,off,c6,rfl,hg⟩:=h2.slice;obtain⟨k1,k2,Q1,l,k3,I,k5,L⟩:=hg G;have e:c6=es:=by rw[←I,L.length,O]
 subst e;refine QK Y Z (List.getElem?_eq_some_iff.1 G).1 (du z (v:=.rp row 0) ?_ U);simp only[aE];exact⟨f,g,Q1,l,by rw[k5,I];rfl,k3,L,k1,k2⟩
theorem eP{x i:aG}{es b n j:Nat}{k:IntKind}(G:x.vv VE=some (.bs b n es))(hi:i.vv VE=some (.d (.i k (j:Int))))(I:j<n)(L:Q (.bp b n j 0 es) B):VI T (.kr es x i) VE B [] Q:=fun _ _ _ _ _ z=>by
 obtain⟨_,M,h2⟩:=z.bC G;obtain⟨_,O,A⟩:=z.bC hi;simp only[aE] at h2 A;simp only[bA] at A;subst A;subst h2;exact QK M O I (du z (v:=.bp b n j 0 es) (by simp only[aE];rw[e6,ug]) L)
theorem vi_offsR{x:aG}{row:List DC}{o k:Nat}(A:x.vv VE=some (.rp row o))(G:Q (.rp row (o+k)) B):VI T (.eY x k) VE B [] Q:=fun _ _ _ _ _ z=>by
 obtain⟨_,I,h2⟩:=z.bC A;simp only[aE] at h2;obtain⟨f,g,L,l,rfl,M⟩:=h2;exact Q6 I (du z (v:=.rp row (o+k)) (by simp only[aE];exact⟨f,g,L,l,by rw[lp],M⟩) G)
theorem va{x:aG}{b o k:Nat}(A:x.vv VE=some (.vp b o))(G:Q (.vp b (o+k)) B):VI T (.eY x k) VE B [] Q:=fun _ _ _ _ _ z=>by
 obtain⟨_,I,h2⟩:=z.bC A;simp only[aE] at h2;subst h2;exact Q6 I (du z (v:=.vp b (o+k)) (by simp only[aE]) G)
theorem vi_offsB{x:aG}{b g j o es k:Nat}(A:x.vv VE=some (.bp b g j o es))(G:Q (.bp b g j (o+k) es) B):VI T (.eY x k) VE B [] Q:=fun _ _ _ _ _ z=>by
 obtain⟨_,I,h2⟩:=z.bC A;simp only[aE] at h2;subst h2;exact Q6 I (du z (v:=.bp b g j (o+k) es) (by simp only[aE];rw[lp]) G)
theorem vi_extr{x:aG}{l:List VV}{i:Nat}{v:VV}(A:x.vv VE=some (.tuple l))(hi:l[i]?=some v)(G:Q v B):VI T (.vS x i) VE B [] Q:=fun _ _ _ _ _ z=>by
 obtain⟨_,I,h2⟩:=z.bC A;simp only[aE] at h2;obtain⟨cs,rfl,h2⟩:=h2;obtain⟨a,L,M⟩:=h2.get hi;exact wpI_extr I L (du z M G)
theorem qB{x y:aG}{neg:Bool}{rows:ah}(G:x.vv VE=some (.d (.sl rows)))(I:y.vv VE=some (.d .nil))(L:Q (.d (.b neg)) B):VI T (.eqv .slice neg x y) VE B [] Q:=fun _ _ _ _ _ z=>by
 obtain⟨_,M,h2⟩:=z.bC G;obtain⟨_,O,A⟩:=z.bC I;simp only[aE,bA] at h2 A;subst A;obtain⟨f,g,off,es,rfl,_⟩:=h2;exact Lb (r:=false) M O rfl (du z (v:=.d (.b neg)) (by simp only[aE,bA];cases neg<;>rfl) L)
theorem tA{x y:aG}{neg:Bool}(G:x.vv VE=some (.d .nil))(I:y.vv VE=some (.d .nil))(L:Q (.d (.b (!neg))) B):VI T (.eqv .slice neg x y) VE B [] Q:=fun _ _ _ _ _ z=>by
 obtain⟨_,M,h2⟩:=z.bC G;obtain⟨_,O,A⟩:=z.bC I;simp only[aE,bA] at h2 A;subst A;subst h2;exact Lb (r:=true) M O rfl (du z (v:=.d (.b (!neg))) (by simp only[aE,bA];cases neg<;>rfl) L)
end
section
variable{T:aL}{H0:Nat→Nat}{X0:Nat→Prop}{VE bj:bb}{B B':aK}{E:Env}{H H':ax}{β:Nat→Nat}{X:Nat→Prop}
variable{W:List Nat}{Q:VV→aK→Prop}
theorem bS.KY:∀{row:List DC}{l:List ai}(o n:Nat),bS H X row l→bS H X ((row.drop o).take n) ((l.drop o).take n):=by
 intro row l o n h;have z:=bc.tE (β:=fun _=>0) h;have h2:=bc.take n (bc.drop o z);rw[←Mx,←T1] at h2;exact bS.Gb h2
theorem dy{a:aG}{row:List DC}{o:Nat}{x:DC}(A:a.vv VE=some (.rp row o))(G:row[o]?=some x)(I:Q (.d x) B):VI T (.load 1 false a) VE B [] Q:=fun _ _ _ _ _ z=>by
 obtain⟨_,L,h2⟩:=z.bC A;simp only[aE] at h2;obtain⟨f,g,Z,l,rfl,M,O,_⟩:=h2;obtain⟨y,U,Y⟩:=O.get G;exact zM L M rfl U (du z (v:=.d x) (by simp only[aE];exact Y) I)
theorem ia{a:aG}{row:List DC}{o n:Nat}(G:a.vv VE=some (.rp row o))(h0:0<n)(I:o+n≤row.length)(L:Q (.agg (((row.drop o).take n).map .d)) B):VI T (.load n true a) VE B [] Q:=fun _ _ _ _ _ z=>by
 obtain⟨_,M,h2⟩:=z.bC G;simp only[aE] at h2;obtain⟨f,g,U,l,rfl,O,A,_⟩:=h2;exact KH M O rfl (by rw[A.length];exact I) h0 (du z (v:=.agg (((row.drop o).take n).map .d)) (by simp only[aE];exact⟨_,rfl,bc.tE (A.KY o n)⟩) L)
theorem de.CC{f elem aC:Nat}{row:List VV}(h:de H X β f (.one elem aC row)):∃l,l8 H f 1 0 l∧bc H X β row l:=by
 obtain⟨l,lo,cs,z,h2,A,G⟩:=h;exact⟨l,⟨elem,aC,1,lo,0,cs,z,h2,bd _,Nat.zero_lt_one,A⟩,G⟩
theorem kI{a:aG}{b o elem aC:Nat}{row:List VV}{v:VV}(A:a.vv VE=some (.vp b o))(G:aF B b=some (.one elem aC row))(I:row[o]?=some v)(L:Q v B):VI T (.load 1 false a) VE B [] Q:=fun _ _ _ _ _ z=>by
 obtain⟨_,M,h2⟩:=z.bC A;simp only[aE] at h2;subst h2;obtain⟨l,O,U⟩:=(z.box b _ G).CC;obtain⟨y,Y,Z⟩:=U.get I;exact zM M O (by rw[ri,e6]) Y (du z Z L)
theorem KI{a:aG}{b o n elem aC:Nat}{row:List VV}(G:a.vv VE=some (.vp b o))(I:aF B b=some (.one elem aC row))(h0:0<n)(L:o+n≤row.length)(M:Q (.agg ((row.drop o).take n)) B):VI T (.load n true a) VE B [] Q:=fun _ _ _ _ _ z=>by
 obtain⟨_,O,h2⟩:=z.bC G;simp only[aE] at h2;subst h2;obtain⟨l,U,A⟩:=(z.box b _ I).CC;exact KH O U (by rw[ri,e6]) (by rw[A.length];exact L) h0 (du z (v:=.agg ((row.drop o).take n)) (by simp only[aE];exact⟨_,rfl,bc.take n (bc.drop o A)⟩) M)
theorem jM{a:aG}{b g j o es elem aC lo:Nat}{rows:ah}{row:List DC}{x:DC}(G:a.vv VE=some (.bp b g j o es))(I:aF B b=some (.arr elem aC es lo rows))(L:lo≤g)(h2:g≤rows.length)(M:j<g)(O:rows[j]?=some row)(U:row[o]?=some x)(Y:Q (.d x) B):VI T (.load 1 false a) VE B [] Q:=fun _ _ _ _ _ z=>by
 obtain⟨_,Z,A⟩:=z.bC G;simp only[aE] at A;subst A;obtain⟨l,k3,k4,k5⟩:=(z.box b _ I).cells L h2 M O;obtain⟨y,k6,k7⟩:=k5.get U;exact zM Z k3 (by rw[k4]) k6 (du z (v:=.d x) (by simp only[aE];exact k7) Y)
theorem Fy{a:aG}{b g j o n es elem aC lo:Nat}{rows:ah}{row:List DC}(I:a.vv VE=some (.bp b g j o es))(L:aF B b=some (.arr elem aC es lo rows))(M:lo≤g)(h2:g≤rows.length)(O:j<g)(U:rows[j]?=some row)(h0:0<n)(Y:o+n≤row.length)(Z:Q (.agg (((row.drop o).take n).map .d)) B):VI T (.load n true a) VE B [] Q:=fun _ _ _ _ _ z=>by
 obtain⟨_,k1,A⟩:=z.bC I;simp only[aE] at A;subst A;obtain⟨l,k3,k4,G⟩:=(z.box b _ L).cells M h2 O U;exact KH k1 k3 (by rw[k4]) (by rw[G.length];exact Y) h0 (du z (v:=.agg (((row.drop o).take n).map .d)) (by simp only[aE];exact⟨_,rfl,bc.tE (G.KY o n)⟩) Z)
theorem KJ{v:VV}{a:ai}{b:Nat}{s:BS}(O:Rel H0 X0 VE B E H β)(U:j0 b VE=true)(Y:fX b B=true)(Z:H'.next=H.next+1)(I:∀f,f<H.next→H'.t.get f=H.t.get f)(L:H'.aS=H.aS)(hw:H'.ws=H.ws)
  (z:∀X β',(∀v a,v.no b=true→aE H (XB X0 B β) β v a→aE H' X β' v a)→(∀row l,bS H (XB X0 B β) row l→bS H' X row l)→de H' X β' H.next s)
  (hv:∀X β',β' b=H.next→aE H' X β' v a) (hq:Q v ((b,s)::B)):DF H0 X0 VE B β E H W Q a H':=by
 obtain⟨β',⟨M,h3⟩,h2,_⟩:=O.newBox U Y Z I L z;refine⟨v,_,β',⟨L,an,fun f A=>.inl (hw▸A),fun c t G ht=>?_,fun f A _=>I f A⟩,h2,hv _ _ M,hq⟩;rw[cP] at G
 by_cases e:b=c
 ·subst e;exact .inr (by rw[M];exact bd _)
 rw[aX e] at G;exact .inl ⟨t,G,ht,h3 c fun k=>e k.symm⟩
theorem nos_cells{b:Nat}{v:VV}{l:List VV}(h:v.no b=true)(z:v.cells=some l):s7 b l=true:=by
 cases v
 case k x=>
  cases x<;>simp only[VV.cells,eE,reduceCtorEq] at z
  all_goals subst z
  all_goals rfl
 all_goals simp only[VV.cells,eE,reduceCtorEq] at z
 all_goals subst z
 all_goals simp_all [s7,VV.no]
theorem aaW{b:Nat}{H1 G:ax}{I L:Nat→Prop}{z A:Nat→Nat}(h:∀v a,v.no b=true→aE H1 I z v a→aE G L A v a):∀{l:List VV}{s:List ai},s7 b l=true→bc H1 I z l s→bc G L A l s
 |[],_,_,k=>by simp only[bc] at k⊢;exact k
 |v::r,_,n,k=>by
  simp only[bc,s7,cU] at k n⊢;obtain⟨a,s,e,M,h2⟩:=k;exact⟨a,s,e,h v a n.1 M,aaW h n.2 h2⟩
theorem QD{H1 G:ax}{I L:Nat→Prop}{z A:Nat→Nat}(h:∀v a,aE H1 I z v a→aE G L A v a):∀{l:List VV}{s:List ai},bc H1 I z l s→bc G L A l s
 |[],_,k=>by simp only[bc] at k⊢;exact k
 |v::r,_,k=>by
  simp only[bc] at k⊢;obtain⟨a,s,e,M,h2⟩:=k;exact⟨a,s,e,h v a M,QD h h2⟩
theorem opd_no{x:aG}{v:VV}{b:Nat}(A:j0 b VE=true)(z:x.vv VE=some v):v.no b=true:=by
 cases x with
 |t k=>exact Ld A z
 |c a=>exact constV_no z b
theorem vi_box{elem es aC:Nat}{x:aG}{v:VV}{cells:List VV}(b:Nat)(z:j0 b VE=true)(M:fX b B=true)(A:x.vv VE=some v)(G:v.cells=some cells)(O:cells.length=es)(U:Q (.vp b 0) ((b,.one elem aC cells)::B)):VI T (.box elem es aC x) VE B [] Q:=fun _ _ _ H _ I=>by
 obtain⟨a,Y,h2⟩:=I.bC A;obtain⟨s,Z,L⟩:=h2.cells G;refine wpI_box Y Z (by rw[L.length,O]) (KJ (b:=b) (s:=.one elem aC cells) I z M rfl (fun f hf=>(Z7 elem aC s).same f hf) rfl rfl (fun X β' k1 _=>?_) (fun X β' k=>by simp only[aE];rw[k]) U);obtain⟨e',b',lo,cs,j1,j2,j3⟩:=boxH_at (H:=H) elem aC s;refine⟨s,1,.one s,?_,bd _,rfl,aaW k1 (nos_cells (opd_no z A) G) L⟩;show(H.t.set H.next _).get H.next=_;rw[GT.df,bg rfl]
def pv:List ai→Option (List VV)
 |[]=>some []
 |a::r=>(xG a).bind fun v=>(pv r).map (v:: ·)
theorem CB:∀{l:List ai}{cells:List VV},pv l=some cells→bc H X β cells l
 |[],cells,h=>by simp only[pv,eE] at h;subst h;simp only[bc]
 |a::r,cells,h=>by
  simp only[pv,Dy,HA] at h;obtain⟨v,z,s,A,rfl⟩:=h;simp only[bc];exact⟨a,r,rfl,Zx z,CB A⟩
theorem vi_boxz{elem es aC:Nat}{l:List ai}{cells:List VV}(b:Nat)(z:j0 b VE=true)(A:fX b B=true)(G:pv l=some cells)(I:l.length=es)(L:Q (.vp b 0) ((b,.one elem aC cells)::B)):VI T (.pN elem es aC l) VE B [] Q:=fun _ _ _ H _ M=>by
 refine wpI_boxz I (KJ (b:=b) (s:=.one elem aC cells) M z A rfl (fun f O=>(Z7 elem aC l).same f O) rfl rfl (fun X β' _ _=>?_) (fun X β' k=>by simp only[aE];rw[k]) L);refine⟨l,1,.one l,?_,bd _,rfl,CB G⟩;show(H.t.set H.next _).get H.next=_;rw[GT.df,bg rfl]
def Le(l:List VV)(r:Nat)(new:List VV):List VV:=l.take r++(new++l.drop (r+new.length))
theorem bc.en{l new:List VV}{s t:List ai}(r:Nat)(h:bc H X β l s)(k:bc H X β new t):bc H X β (Le l r new) (en s r t):=by
 unfold Le Ev.en;rw[←k.length];exact(h.take r).append (k.append (h.drop _))
def C7(VE:bb):List (Nat×Nat×aG)→List VV→Option (List VV)
 |[],cells=>some cells
 |p::r,cells=>(p.2.2.vv VE).bind fun v=>v.cells.bind fun new=>bif Nat.beq new.length p.2.1 then C7 VE r (Le cells p.1 new) else none
theorem Zy(G:Rel H0 X0 VE B E H β):∀{ps:List (Nat×Nat×aG)}{cells:List VV}{s:List ai}{out:List VV},bc H (XB X0 B β) β cells s→C7 VE ps cells=some out→∃t,qG E ps s=some t∧bc H (XB X0 B β) β out t
 |[],cells,s,out,h,z=>by simp only[C7,eE] at z;subst z;exact⟨s,rfl,h⟩
 |p::r,cells,s,out,h,z=>by
  simp only[C7,Dy] at z;obtain⟨v,L,new,M,z⟩:=z;obtain⟨a,O,h2⟩:=G.bC L;obtain⟨t,U,I⟩:=h2.cells M
  cases A:Nat.beq new.length p.2.1 with
  |false=>rw[A] at z;cases z
  |true=>
   rw[A] at z;obtain⟨u,Y,Z⟩:=Zy G (h.en p.1 I) z;refine⟨u,?_,Z⟩;show ob (p.2.2.ev E) none (fun v=>ob (iR v) none fun new=>aJ (Nat.beq (gM new) p.2.1) (qG E r (Ev.en s p.1 new)) none)=some u;rw[O,cA,U,cA,pt,I.length,A,dM,Y]
theorem vi_build{zero:List ai}{ps:List (Nat×Nat×aG)}{z out:List VV}(G:pv zero=some z)(I:C7 VE ps z=some out)(L:Q (.agg out) B):VI T (.build zero ps) VE B [] Q:=fun _ _ _ _ _ A=>by
 obtain⟨t,M,h2⟩:=Zy A (CB G) I;exact wpI_build M (du A (v:=.agg out) (by simp only[aE];exact⟨t,rfl,h2⟩) L)
def VM(row:List VV)(o:Nat)(new:List VV):List VV:=bif Nat.beq new.length row.length then new else Le row o new
theorem bc.bif{t0:Bool}{a b:List VV}{s t:List ai}(h:bc H X β a s)(k:bc H X β b t):bc H X β (bif t0 then a else b) (bif t0 then s else t):=by
 cases t0
 ·exact k
 exact h
theorem HV{f q o n m elem es aC lo:Nat}{l new:List ai}{cs:RT}{e:aD}{K:ax→aD}(z:H.t.get f=some (.row elem es aC m lo 0 cs))(h2:lo≤m)(G:q<m)(I:cs.get q=some l)(Y:l.length=es)(L:new.length=n)(h0:0<n)(M:o+n≤es):
  wr H f m (q*es+o) n new e K=K ⟨H.next,H.aS,wrote f H.aS H.ws,H.t.set f (.row elem es aC m m 0 (cs.set q (bif Nat.beq n es then new else en l o new)))⟩:=by
 cases H with
 |mk next aS ws t=>
  have z:t.get f=some (.row elem es aC m lo 0 cs):=z;have O:(q*es+o)/es=q:=by
   by_cases ho:o=es
   ·omega
   rw[re,Nat.mul_add_div an,agm an];rfl
  have U:(q*es+o) % es=o:=by
   by_cases ho:o=es
   ·omega
   rw[re,Nat.mul_add_mod,Eb an]
  show kU (t.get f) e (fun elem c6 aC A lo fl cs=>
    aJ (Nat.beq fl 0) (aJ (Nat.beq m A) (aJ (Nat.ble lo m) (aJ (Nat.ble (Nat.add (Nat.mod (q*es+o) c6) n) c6) (aJ (Nat.ble (Nat.succ (Nat.div (q*es+o) c6)) m) (aJ (Nat.beq (gM new) n)
     (ob (cs.get (Nat.div (q*es+o) c6)) e fun l=>cs.fH (Nat.div (q*es+o) c6) (aJ (Nat.beq n c6) new (en l (Nat.mod (q*es+o) c6) new)) fun cs=>t.fH f (.row elem c6 aC A A 0 cs) fun t=>K ⟨next,aS,wrote f aS ws,t⟩) e) e) e) e) e) e)=_
  rw[z]
  show aJ (Nat.beq 0 0) (aJ (Nat.beq m m) (aJ (Nat.ble lo m) (aJ (Nat.ble (Nat.add (Nat.mod (q*es+o) es) n) es) (aJ (Nat.ble (Nat.succ (Nat.div (q*es+o) es)) m) (aJ (Nat.beq (gM new) n)
     (ob (cs.get (Nat.div (q*es+o) es)) e fun l=>cs.fH (Nat.div (q*es+o) es) (aJ (Nat.beq n es) new (en l (Nat.mod (q*es+o) es) new)) fun cs=>t.fH f (.row elem es aC m m 0 cs) fun t=>K ⟨next,aS,wrote f aS ws,t⟩) e) e) e) e) e) e=_
  rw[show Nat.mod (q*es+o) es=o from U,show Nat.div (q*es+o) es=q from O,show Nat.beq 0 0=true from rfl,dM,show Nat.beq m m=true from gu m,dM,fR h2,dM,
   show Nat.ble (Nat.add o n) es=true from fR M,dM,show Nat.ble (Nat.succ q) m=true from fR G,dM,pt,L,show Nat.beq n n=true from gu n,dM,I,cA,RT.jO,GT.jO]
  cases Nat.beq n es<;>rfl
theorem KZ{call:dQ}{n f g o:Nat}{a x:aG}{v:ai}{new:List ai}(z:a.ev E=some (.ptr f g o))(A:x.ev E=some v)(G:iR v=some new):
  (br.store n a x).ev call E H=wr H f g o n new (.err 5) fun H=>.ok .undef H:=by
 show bq a E (.err 5) (fun p=>jk p (.err 5) fun f g off=>bq x E (.err 5) fun v=>ob (iR v) (.err 5) fun l=>wr H f g off n l (.err 5) fun H=>.ok .undef H)=_;rw[cQ,z,cA];show bq x E (.err 5) (fun v=>ob (iR v) (.err 5) fun l=>wr H f g o n l (.err 5) fun H=>.ok .undef H)=_;rw[cQ,A,cA,G,cA]
theorem zN{v:VV}{a:ai}{b:Nat}{s s':BS}(M:Rel H0 X0 VE B E H β)(U:aF B b=some s)(A:s.born)(hn:H'.next=H.next)(hs:∀f,f≠β b→H'.t.get f=H.t.get f)(hm:H'.aS=H.aS)(hw:H'.ws=wrote (β b) H.aS H.ws)
  (VL:∀X,(∀v a,aE H (XB X0 B β) β v a→aE H' X β v a)→(∀row l,bS H (XB X0 B β) row l→bS H' X row l)→de H' X β (β b) s')
  (hv:∀X,aE H' X β v a) (hq:Q v ((b,s')::B)):DF H0 X0 VE B β E H [b] Q a H':=by
 have BA:=M.new b s U A;have z:∀c t,aF ((b,s')::B) c=some t→(c=b∧t=s')∨(c≠b∧aF B c=some t):=fun c t G=>by
  rw[cP] at G
  by_cases e:b=c
  ·rw[bg e] at G;cases G;exact .inl ⟨e.symm,rfl⟩
  rw[aX e] at G;exact .inr ⟨fun k=>e k.symm,G⟩
 have hX:∀f,XB X0 ((b,s')::B) β f→XB X0 B β f:=fun f hx=>by
  rcases hx with k|⟨c,t,Y,ho,h2⟩
  ·exact .inl k
  rcases z c t Y with⟨rfl,_⟩|⟨_,O⟩
  ·exact .inr ⟨_,s,U,A,h2⟩
  exact .inr ⟨c,t,O,ho,h2⟩
 have hl:eJ H (XB X0 B β) H' (XB X0 ((b,s')::B) β):=⟨an,fun f I hx=>⟨fun k=>hx (hX f k),hs f fun e=>hx (.inr ⟨b,s,U,A,e.symm⟩)⟩⟩;refine⟨v,(b,s')::B,β,⟨hm,an,fun f I=>?_,fun c t G ht=>?_,fun f I rJ=>hs f fun e=>rJ b s U A e.symm⟩,⟨M.jr,by rw[hm,hn];exact M.aS,(fun f I=>by rw[hn];exact M.x0 f I),fun c t G L=>?_,fun c e t u G he L huo Z=>?_,fun k w hk=>?_,fun c t G=>?_⟩,hv _,hq⟩
 ·rw[hw] at I;unfold wrote at I
  cases Y:Nat.ble H.aS (β b) with
  |true=>rw[Y] at I;exact .inl I
  |false=>
   rw[Y] at I
   cases h2:pO (β b) H.ws with
   |true=>rw[h2] at I;exact .inl I
   |false=>
    rw[h2] at I;rcases List.mem_cons.1 I with rfl|h
    ·refine .inr ⟨?_,b,s,jo ..,U,A,rfl⟩
     by_cases hl:H.aS≤β b
     ·rw[fR hl] at Y;cases Y
     omega
    exact .inl h
 ·rcases z c t G with⟨rfl,_⟩|⟨_,O⟩
  ·exact .inl ⟨s,U,A,rfl⟩
  exact .inl ⟨t,O,ht,rfl⟩
 ·rw[hn];rcases z c t G with⟨rfl,_⟩|⟨_,O⟩
  ·exact BA
  exact M.new c t O L
 ·rcases z c t G with⟨rfl,_⟩|⟨_,O⟩<;>rcases z e u he with⟨rfl,_⟩|⟨_,h4⟩
  ·rfl
  ·exact M.inj _ _ _ _ U h4 A huo Z
  ·exact M.inj _ _ _ _ O U L A Z
  exact M.inj _ _ _ _ O h4 L huo Z
 ·obtain⟨a,Y,h2⟩:=M.env k w hk;exact⟨a,Y,h2.lift hl⟩
 rcases z c t G with⟨rfl,rfl⟩|⟨PF,O⟩
 ·exact VL _ (fun v a k=>k.lift hl) (fun row l k=>k.lift hl)
 exact de.DE hl (fun L=>hs _ fun e=>PF (M.inj c b t s O U L A e)) (M.box c t O)
theorem vi_storeV{n:Nat}{a x:aG}{b o elem aC:Nat}{row new:List VV}{v:VV}(Z:a.vv VE=some (.vp b o))(I:aF B b=some (.one elem aC row))(hx:x.vv VE=some v)(hv:v.cells=some new)(L:new.length=n)(h0:0<n)(hk:o+n≤row.length)(hq:Q .undef ((b,.one elem aC (VM row o new))::B)):VI T (.store n a x) VE B [b] Q:=fun _ X0 _ H β z=>by
 obtain⟨_,h1,h2⟩:=z.bC Z;simp only[aE] at h2;subst h2;obtain⟨y,h3,h4⟩:=z.bC hx;obtain⟨t,h5,M⟩:=h4.cells hv;obtain⟨l,lo,cs,k1,k2,k3,O⟩:=z.box b _ I;have ht:t.length=n:=by rw[M.length,L]
 have A:=O.length;have e:=fun K=>HV (e:=aD.err 5) (K:=K) (q:=0) (o:=o) (n:=n) (new:=t) k1 k2 Nat.zero_lt_one k3 rfl ht h0 an
 simp only[ri,e6] at e;refine⟨0,.undef,_,fun lf m _ _=>by rw[KZ h1 h3 h5,e],?_⟩;refine zN z I trivial rfl (fun f hf=>?_) rfl rfl (fun X U j2=>?_) (fun X=>by simp only[aE]) hq
 ·show(H.t.set (β b) _).get f=_;rw[GT.df,aX hf]
 have hlen:(bif Nat.beq n l.length then t else en l o t).length=l.length:=by
  cases G:Nat.beq n l.length with
  |true=>have:=cW G;show t.length=_;omega
  |false=>show(en l o t).length=_;simp only[en,e7,iD,qP];omega
 refine⟨bif Nat.beq n l.length then t else en l o t,1,cs.set 0 (bif Nat.beq n l.length then t else en l o t),?_,bd _,by rw[RT.df,bg rfl],?_⟩
 ·show(H.t.set (β b) _).get (β b)=_;rw[GT.df,bg rfl,hlen]
 have Y:=QD U M;have h8:=QD U O;unfold VM;rw[L,←A];exact bc.bif Y (h8.en o Y)
end
end Go.Ev
