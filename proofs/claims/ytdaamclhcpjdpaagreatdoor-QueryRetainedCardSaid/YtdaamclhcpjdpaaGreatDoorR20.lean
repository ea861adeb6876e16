/- Part 20 of rules for walks through the code of a program, and of such walks; what each part proves is said by its theorems. -/
import Derived.Test.YtdaamclhcpjdpaaGreatDoorR17
import Derived.Test.YtdaamclhcpjdpaaGreatDoorR18
import Derived.Test.YtdaamclhcpjdpaaGreatDoorR19
import Derived.Test.YtdaamclhcpjdpaaGreatDoorProg
set_option linter.unusedVariables false
set_option linter.unusedSimpArgs false
noncomputable section
set_option maxRecDepth 100000
set_option maxHeartbeats 4000000
namespace Go.Ev
open Go
section
variable{T:aN}{VE:bo}{B:aT}
theorem lY{b:Nat}{s s':BS}(A:aL B b=some s)(G:s'.born↔s.born):∀c t,aL ((b,s')::B) c=some t→t.born→∃u,aL B c=some u∧u.born:=fun c t z ho=>by
 rw[dn] at z
 by_cases k:b=c
 ·subst k;rw[bh rfl] at z;cases z;exact⟨s,A,G.1 ho⟩
 rw[aZ k] at z;exact⟨t,z,ho⟩
theorem Rel.qK{H0:Nat→Nat}{X0:Nat→Prop}{E:Env}{H:aw}{β:Nat→Nat}(h:Rel H0 X0 VE B E H β){b:Nat}{s s':BS}(Y:aL B b=some s)(Z:s'.born↔s.born)(L:∀X,dk H X β (β b) s→dk H X β (β b) s'):Rel H0 X0 VE ((b,s')::B) E H β:=by
 have I:=lY (B:=B) Y Z;have M:e9 H (XB X0 B β) H (XB X0 ((b,s')::B) β):=⟨bq _,fun f _ hx=>⟨fun k=>hx (k.imp id fun⟨c,t,O,ho,h2⟩=>by obtain⟨u,A,G⟩:=I c t O ho;exact⟨c,u,A,G,h2⟩),rfl⟩⟩;refine⟨h.kY,h.aQ,h.x0,fun c t z ho=>?_,fun c d t u z U hs ht he=>?_,fun k v hk=>?_,fun c t z=>?_⟩
 ·obtain⟨u,A,G⟩:=I c t z ho;exact h.new c u A G
 ·obtain⟨s1,A,G⟩:=I c t z hs;obtain⟨t1,k3,k4⟩:=I d u U ht;exact h.inj c d s1 t1 A k3 G k4 he
 ·obtain⟨a,O,h2⟩:=h.env k v hk;exact⟨a,O,h2.lift M⟩
 rw[dn] at z
 by_cases k:b=c
 ·subst k;rw[bh rfl] at z
  cases z
  exact L _ ((h.box b s Y).lift M aa)
 rw[aZ k] at z;exact(h.box c t z).lift M rfl
theorem Rel.slot{H0:Nat→Nat}{X0:Nat→Prop}{E:Env}{H:aw}{β:Nat→Nat}(h:Rel H0 X0 VE B E H β){k:Nat}{v A:VV}(G:aL VE k=some v)(I:∀a,aG H (XB X0 B β) β v a→aG H (XB X0 B β) β A a):Rel H0 X0 ((k,A)::VE) B E H β:=by
 refine{h with env:=fun c w z=>?_};rw[dn] at z
 by_cases e:k=c.n
 ·rw[bh e] at z;cases z;subst e;obtain⟨a,L,h2⟩:=h.env c v G;exact⟨a,L,I a h2⟩
 rw[aZ e] at z;exact h.env c w z
theorem mF.qK{n:Nat}{β:Nat→Nat}{fl:List FL}{bc:List FP}{b:Nat}{s s':BS}(O:aL B b=some s)(U:s'.born↔s.born)(h:mF n B β fl bc):mF n ((b,s')::B) β fl bc:=
 ⟨h.1,fun i x r Y Z=>by
  have:=h.2 i x r Y Z
  cases x with
  |rd R=>obtain⟨a,e,l,c,d⟩:=this;exact⟨a,e,l,c,fun f z=>⟨(d f z).1,fun c t A G I=>by obtain⟨u,L,M⟩:=lY (B:=B) O U c t A G;exact(d f z).2 c u L M I⟩⟩
  |qt=>exact this
  |off _=>exact this
  |wr _=>exact fun f z=>⟨(this f z).1,fun c t A G I=>by obtain⟨u,L,M⟩:=lY (B:=B) O U c t A G;exact(this f z).2 c u L M I⟩
  |un=>trivial⟩
variable{ops:List bl}{c:IC}{fl:List FL}{Q:bo→aT→Prop}{R:Ex→bo→aT→Prop}
theorem RL(b:Nat){s:BS}(z:aL B b=some s)(h:∀f,VC T c VE ((b,.c9 f s)::B) R):VC T c VE B R:=
 fun H0 X0 E H β A=>(h (β b) H0 X0 E H β (A.qK z gS fun _ k=>⟨fun _=>rfl,k⟩)).mono fun _ _ _ G=>G.more (lY z gS)
theorem nM(b:Nat){s:BS}(z:aL B b=some s)(h:∀f,VQ T ops VE ((b,.c9 f s)::B) fl Q):VQ T ops VE B fl Q:=
 fun H0 X0 E H β A bc G=>(h (β b) H0 X0 E H β (A.qK z gS fun _ k=>⟨fun _=>rfl,k⟩) bc (G.qK z gS)).mono fun _ _ I=>I.more (lY z gS)
theorem KP(b:Nat){f:Nat}{s:BS}(z:aL B b=some (.c9 f s))(h:VQ T ops VE ((b,s)::B) fl Q):VQ T ops VE B fl Q:=
 fun H0 X0 E H β A bc G=>(h H0 X0 E H β (A.qK z gS fun _ k=>k.2) bc (G.qK z gS)).mono fun _ _ I=>I.more (lY z gS)
theorem Rel.pinned{H0:Nat→Nat}{X0:Nat→Prop}{E:Env}{H:aw}{β:Nat→Nat}(h:Rel H0 X0 VE B E H β){b f:Nat}{s:BS}(z:aL B b=some (.c9 f s))(ho:s.born):β b=f:=(h.box b _ z).1 ho
theorem Rel.rawA{H0:Nat→Nat}{X0:Nat→Prop}{E:Env}{H:aw}{β:Nat→Nat}(h:Rel H0 X0 VE B E H β){k b f n es elem aF e:Nat}{rows:ak}(A:aL VE k=some (.ac b n es))(G:aL B b=some (.c9 f (.acc elem aF e rows)))(h0:0<n)(I:rows≠[]):Rel H0 X0 ((k,.d (.raw f n es))::VE) B E H β:=
 h.slot A fun a z=>by
  have e:=h.pinned G I;simp only[aG,bH] at z⊢;rcases z with⟨L,_⟩|⟨_,h2⟩
  ·omega
  rw[h2,e]
theorem Rel.unrawA{H0:Nat→Nat}{X0:Nat→Prop}{E:Env}{H:aw}{β:Nat→Nat}(h:Rel H0 X0 VE B E H β){k b f n es elem aF e:Nat}{rows:ak}(A:aL VE k=some (.d (.raw f n es)))(G:aL B b=some (.c9 f (.acc elem aF e rows)))(h0:0<n)(I:rows≠[]):Rel H0 X0 ((k,.ac b n es)::VE) B E H β:=
 h.slot A fun a z=>by
  have e:=h.pinned G I;simp only[aG,bH] at z⊢;exact .inr ⟨h0,by rw[z,e]⟩
theorem ry(k b:Nat){f n es elem aF e:Nat}{rows:ak}(z:aL VE k=some (.ac b n es))(A:aL B b=some (.c9 f (.acc elem aF e rows)))(h0:0<n)(G:rows≠[])(h:VQ T ops ((k,.d (.raw f n es))::VE) B fl Q):VQ T ops VE B fl Q:=
 fun H0 X0 E H β I bc L=>h H0 X0 E H β (I.rawA z A h0 G) bc L
theorem Fz(k b:Nat){f n es elem aF e:Nat}{rows:ak}(z:aL VE k=some (.d (.raw f n es)))(A:aL B b=some (.c9 f (.acc elem aF e rows)))(h0:0<n)(G:rows≠[])(h:VQ T ops ((k,.ac b n es)::VE) B fl Q):VQ T ops VE B fl Q:=
 fun H0 X0 E H β I bc L=>h H0 X0 E H β (I.unrawA z A h0 G) bc L
end
section
variable{T:aN}{VE:bo}{B:aT}{W:List Nat}{fl:List FL}{Q:bo→aT→Prop}
theorem VI.TI{op:bn}{b f:Nat}{s:BS}{Q:VV→aT→Prop}(A:aL B b=some (.c9 f s))(h:VI T op VE ((b,s)::B) W Q):VI T op VE B W Q:=fun H0 X0 E H β G=>
 (h H0 X0 E H β (G.qK A gS fun _ k=>k.2)).mono fun a H' I=>by
  obtain⟨v,B',β',L,z,M,O⟩:=I;exact⟨v,B',β',L.more (lY A gS),z,M,O⟩
theorem Qg(c:Nat){f:Nat}{s:BS}{d:Key}{l:List Nat}{op:bn}{r:List bl}(G:aL B c=some (.c9 f s))(I:s.born)(L:yw c W=false)(Y:l8 W l fl=true)(h:VI T op VE B W fun v B'=>VQ T r ((d.n,v)::VE) B' (.off f::fl) Q):VQ T (⟨some d,none,some l,op⟩::r) VE B fl Q:=by
 intro H0 X0 E H β z bc M;obtain⟨N,a,H',e,O,v,B',β',U,A,Z,hq⟩:=uN h z;have k:rX H'.next B' β' (.off f) ⟨op.reads E,H'.ws,H.next,H'.next⟩:=by
  intro hm;obtain⟨b,t,k1,k2,k3,k4⟩:=O f hm;have:=z.inj b c t _ k2 G k3 I (k4.trans (z.pinned G I).symm);subst this;rw[KM k1] at L;cases L
 obtain⟨N2,E2,H2,e2,hp⟩:=hq H0 X0 _ _ β' (A.set Z) (⟨op.reads E,H'.ws,H.next,H'.next⟩::bc) ((M.step U).cons k);refine⟨max N N2,E2,H2,fun lf n a1 a2=>?_,hp.of U z.aQ⟩;show bl.jd (T.call lf n) ⟨some d,none,some l,op⟩ E H bc (iC (T.call lf n) r)=_;rw[uB,uC (e lf n ah ah) (wT M O Y)];exact e2 lf n ah ah
def K9(f:Nat)(l:List Nat)(fl:List FL):Prop:=
 match l with
 |[]=>True
 |i::r=>(match fl[i]?with
  |some (.rd _)=>True
  |some .qt=>True
  |some (.off g)=>g=f
  |_=>False)∧K9 f r fl
theorem Zy{n f:Nat}{β:Nat→Nat}{bc:List FP}{fp:FP}(L:mF n B β fl bc)(O:fp.ws=[])(U:fp.rd=some [f]):∀{l:List Nat},K9 f l fl→lZ fp bc l=true
 |[],_=>rfl
 |i::r,h=>by
  simp only[K9] at h;obtain⟨hi,M⟩:=h;show ob (bc[i]?) false (fun b=>aD (mQ fp b) (lZ fp bc r) false)=true;have G:i<bc.length:=by
   rw[L.1]
   cases z:fl[i]?with
   |none=>rw[z] at hi;exact hi.elim
   |some x=>exact(List.getElem?_eq_some_iff.1 z).1
  rw[c7 G,cI];have I:i<fl.length:=by rw[←L.1];exact G
  have A:=L.2 i _ _ (c7 I) (c7 G);rw[c7 I] at hi;have e:mQ fp bc[i]=true:=by
   have Y:f∉bc[i].ws:=by
    cases z:fl[i] with
    |un=>rw[z] at hi;exact hi.elim
    |wr _=>rw[z] at hi;exact hi.elim
    |qt=>rw[z] at A;have A:bc[i].ws=[]:=A;rw[A];intro h;cases h
    |rd R=>rw[z] at A;rw[A.1];intro h;cases h
    |off g=>rw[z] at A hi;have hi:g=f:=hi;subst hi;exact A
   unfold mQ;rw[O,U,PQ,PG (fun x z Z=>by rcases List.mem_singleton.1 Z with rfl;exact Y z)];rfl
  rw[e,dV];exact Zy L O U M
theorem aak{d:Key}{l:List Nat}{op:bn}{r:List bl}(Y:l8 W l fl=true)(h:VI T op VE B W fun v B'=>VQ T r ((d.n,v)::VE) B' (.wr W::fl) Q):VQ T (⟨some d,none,some l,op⟩::r) VE B fl Q:=by
 intro H0 X0 E H β z bc G;obtain⟨N,a,H',e,I,v,B',β',L,A,Z,hq⟩:=uN h z;have k:rX H.next B β (.wr W) ⟨op.reads E,H'.ws,H.next,H'.next⟩:=by
  intro f hm;obtain⟨b,t,k1,M,O,U⟩:=I f hm
  exact⟨by have:=(z.new b t M O).2;rw[U] at this;exact this,fun c s m1 m2 m3=>by
   have:=z.inj c b s t m1 M m2 O (m3.trans U.symm)
   rw[this];exact k1⟩
 obtain⟨N2,E2,H2,e2,hp⟩:=hq H0 X0 _ _ β' (A.set Z) (⟨op.reads E,H'.ws,H.next,H'.next⟩::bc) ((G.cons k).step L);refine⟨max N N2,E2,H2,fun lf n a1 a2=>?_,hp.of L z.aQ⟩;show bl.jd (T.call lf n) ⟨some d,none,some l,op⟩ E H bc (iC (T.call lf n) r)=_;rw[uB,uC (e lf n ah ah) (wT G I Y)];exact e2 lf n ah ah
def N3(b:Nat)(l:List Nat)(fl:List FL):Bool:=
 match l with
 |[]=>true
 |i::r=>(match fl[i]?with
  |some (.rd _)=>true
  |some .qt=>true
  |some (.wr W)=>!yw b W
  |_=>false)&&N3 b r fl
theorem aal{n b:Nat}{β:Nat→Nat}{s:BS}{bc:List FP}{fp:FP}(L:mF n B β fl bc)(U:aL B b=some s)(Y:s.born)(Z:fp.ws=[])(hr:fp.rd=some [β b]):∀{l:List Nat},N3 b l fl=true→lZ fp bc l=true
 |[],_=>rfl
 |i::r,h=>by
  simp only[N3,cS] at h;obtain⟨hi,M⟩:=h;show ob (bc[i]?) false (fun b=>aD (mQ fp b) (lZ fp bc r) false)=true;have G:i<bc.length:=by
   rw[L.1]
   cases z:fl[i]?with
   |none=>rw[z] at hi;simp at hi
   |some x=>exact(List.getElem?_eq_some_iff.1 z).1
  rw[c7 G,cI];have I:i<fl.length:=by rw[←L.1];exact G
  have A:=L.2 i _ _ (c7 I) (c7 G);rw[c7 I] at hi;have e:mQ fp bc[i]=true:=by
   have hd:β b∉bc[i].ws:=by
    cases z:fl[i] with
    |un=>rw[z] at hi;simp at hi
    |off _=>rw[z] at hi;simp at hi
    |qt=>rw[z] at A;have A:bc[i].ws=[]:=A;rw[A];intro h;cases h
    |rd R=>rw[z] at A;rw[A.1];intro h;cases h
    |wr W=>rw[z] at A hi;intro O;have h2:=(A _ O).2 b s U Y rfl;have hi:(!yw b W)=true:=hi;rw[KM h2] at hi;simp at hi
   unfold mQ;rw[Z,hr,PQ,PG (fun x z O=>by rcases List.mem_singleton.1 O with rfl;exact hd z)];rfl
  rw[e,dV];exact aal L U Y Z hr M
theorem PY{d:Key}{l:List Nat}{n:Nat}{w:Bool}{a:aH}{b o:Nat}{s:BS}{r:List bl}(ha:a.vv VE=some (.vp b o))(O:aL B b=some s)(U:s.born)(hk:N3 b l fl=true)(h:VI T (.load n w a) VE B [] fun v B'=>VQ T r ((d.n,v)::VE) B' (.rd [b]::fl) Q):VQ T (⟨some d,none,some l,.load n w a⟩::r) VE B fl Q:=by
 intro H0 X0 E H β G bc M;obtain⟨N,v0,H',e,Z,v,B',β',hw,Y,hv,hq⟩:=uN h G;obtain⟨x,hx,I⟩:=G.bD ha;simp only[aG] at I;subst I;have z:H'=H.mark:=KC hx (e N N (bq _) (bq _));have A:H.mark.ws=[]∧H.mark.next=H.next:=by cases H;exact⟨rfl,rfl⟩
 have L:(bn.load n w a).reads E=some [β b]:=by
  show some (fM (a.ev E))=_;rw[hx];rfl
 have k:rX H.next B β (.rd [b]) ⟨(bn.load n w a).reads E,H'.ws,H.next,H'.next⟩:=by
  refine⟨by rw[z];exact A.1,by show H.next=H'.next;rw[z];exact A.2.symm,[β b],L,fun f M=>?_⟩;rcases List.mem_singleton.1 M with rfl
  exact⟨(G.new b s O U).2,fun c t Z h2 h3=>List.mem_singleton.2 (G.inj c b t s Z O h2 U h3)⟩
 obtain⟨N2,E2,H2,e2,hp⟩:=hq H0 X0 _ _ β' (Y.set hv) (⟨(bn.load n w a).reads E,H'.ws,H.next,H'.next⟩::bc) ((M.cons k).step hw);refine⟨max N N2,E2,H2,fun lf n a1 a2=>?_,hp.of hw G.aQ⟩;show bl.jd (T.call lf n) ⟨some d,none,some l,_⟩ E H bc (iC (T.call lf n) r)=_;rw[uB,uC (e lf n ah ah) (aal M O U (by show H'.ws=[];rw[z];exact A.1) L hk)];exact e2 lf n ah ah
theorem Qh{d:Key}{l:List Nat}{n:Nat}{w:Bool}{a:aH}{c o f:Nat}{s:BS}{r:List bl}(Z:a.vv VE=some (.vp c o))(hc:aL B c=some (.c9 f s))(hs:s.born)(hk:K9 f l fl)(h:VI T (.load n w a) VE B [] fun v B'=>VQ T r ((d.n,v)::VE) B' (.qt::fl) Q):VQ T (⟨some d,none,some l,.load n w a⟩::r) VE B fl Q:=by
 intro H0 X0 E H β I bc O;obtain⟨N,v0,H',e,h1,v,B',β',U,L,hv,hq⟩:=uN h I;obtain⟨x,Y,A⟩:=I.bD Z;simp only[aG] at A;subst A;have z:H'=H.mark:=KC Y (e N N (bq _) (bq _));have M:H.mark.ws=[]:=by cases H;rfl
 have G:H'.ws=[]:=by rw[z];exact M
 obtain⟨N2,E2,H2,e2,hp⟩:=hq H0 X0 _ _ β' (L.set hv) (⟨(bn.load n w a).reads E,H'.ws,H.next,H'.next⟩::bc) ((O.step U).cons (x:=.qt) G);refine⟨max N N2,E2,H2,fun lf n a1 a2=>?_,hp.of U I.aQ⟩;show bl.jd (T.call lf n) ⟨some d,none,some l,_⟩ E H bc (iC (T.call lf n) r)=_;rw[uB,uC (e lf n ah ah) (Zy O G (by show some (fM (a.ev E))=_;rw[Y,I.pinned hc hs];rfl) hk)];exact e2 lf n ah ah
end
theorem N4{p q r:Ty}{a b c:DC}(h:fC [p,q,r] [a,b,c]):p.ok a∧q.ok b∧r.ok c:=by
 simp only[fC] at h;obtain⟨d,l,e,z,d2,L,A,h2,d3,M,G,I,O⟩:=h
 cases e;cases A;cases G
 exact⟨z,h2,I⟩
def nI(w:ak)(f n:Nat):Prop:=∃v l,w[w.length-1]?=some [v,.raw f n 2,l]
theorem nI.step{R w' z:ak}{i j f n:Nat}{a b c l:DC}{r':List DC}(I:w'=R.set i (qJ [a,b,c] 1 [.raw f n 2]))(h2:z=w'.set j (qJ r' 2 [l]))(G:w'[j]?=some r')(L:(i:Int)=(R.length:Int) -1)(M:(j:Int)=(R.length:Int) -1):nI z f n:=by
 have hi:i<R.length:=by omega
 have A:j=i:=by omega
 subst A;subst I;rw[Hw hi] at G
 cases G
 subst h2;have e:j=R.length-1:=by omega
 refine⟨a,l,?_⟩;rw[kN,kN,←e,Hw (by rw[kN];exact hi)];rfl
theorem iQ{w:ak}{r:List DC}:(w++[r])[w.length]?=some r:=by simp
mutual
def jP.ty:jP→Ty
 |.i k=>.i k k.min k.max
 |.b=>.b
 |.s=>.s maxLen
 |.sl row=>.l maxLen (TJ row)
def TJ:List jP→List Ty
 |[]=>[]
 |p::ps=>p.ty::TJ ps
end
mutual
theorem fits_ok:∀{p:jP}{d:DC},p.fits d→p.ty.ok d
 |.i k,d,h=>by
  simp only[jP.fits] at h;obtain⟨n,rfl,z⟩:=h;have h2:k.min≤n∧n≤k.max:=by simpa[Lit.wf] using z
  exact dH h2.1 h2.2
 |.b,d,h=>by
  simp only[jP.fits] at h;obtain⟨n,rfl⟩:=h;exact dY
 |.s,d,h=>by
  simp only[jP.fits] at h;obtain⟨s,rfl,h2⟩:=h;exact bE h2
 |.sl row,d,h=>by
  simp only[jP.fits] at h;rcases h with rfl|⟨rows,rfl,h2,A⟩
  ·exact gp
  exact ok_sl h2 fun r G=>YT (A r G)
theorem YT:∀{ps:List jP}{l:List DC},jk ps l→fC (TJ ps) l
 |[],l,h=>by
  simp only[jk] at h;subst h;exact bg
 |p::ps,l,h=>by
  simp only[jk] at h;obtain⟨d,r,rfl,z,h2⟩:=h;exact aj (fits_ok z) (YT h2)
end
end Go.Ev
namespace Go.Ev.Pp
open Go Go.Proofs
@[reducible] def aY(f:Func)(x:aV)(_h:yv Tryz.prog f=some x:=by conv=>lhs;reduce):aV:=x
def i3:aV:=aY Tryz.f3 _
def i5:aV:=aY Tryz.f5 _
def i6:aV:=aY Tryz.f6 _
def i7:aV:=aY Tryz.f7 _
def i10:aV:=aY Tryz.f10 _
def i11:aV:=aY Tryz.f11 _
def i12:aV:=aY Tryz.f12 _
def i15:aV:=aY Tryz.f15 _
def i16:aV:=aY Tryz.f16 _
def i17:aV:=aY Tryz.f17 _
def i18:aV:=aY Tryz.f18 _
def i19:aV:=aY Tryz.f19 _
def i20:aV:=aY Tryz.f20 _
def i21:aV:=aY Tryz.f21 _
def i22:aV:=aY Tryz.f22 _
def i23:aV:=aY Tryz.f23 _
def i25:aV:=aY Tryz.f25 _
def i26:aV:=aY Tryz.f26 _
def i27:aV:=aY Tryz.f27 _
def i31:aV:=aY Tryz.f31 _
def i32:aV:=aY Tryz.f32 _
def i33:aV:=aY Tryz.f33 _
def i34:aV:=aY Tryz.f34 _
def i35:aV:=aY Tryz.f35 _
def i36:aV:=aY Tryz.f36 _
def i37:aV:=aY Tryz.f37 _
def i38:aV:=aY Tryz.f38 _
def i39:aV:=aY Tryz.f39 _
def i40:aV:=aY Tryz.f40 _
def i41:aV:=aY Tryz.f41 _
def i42:aV:=aY Tryz.f42 _
def i43:aV:=aY Tryz.f43 _
def i44:aV:=aY Tryz.f44 _
def i54:aV:=aY Tryz.f54 _
def i55:aV:=aY Tryz.f55 _
def i56:aV:=aY Tryz.f56 _
def i64:aV:=aY Tryz.f64 _
def i65:aV:=aY Tryz.f65 _
def i66:aV:=aY Tryz.f66 _
def i67:aV:=aY Tryz.f67 _
def i68:aV:=aY Tryz.f68 _
def i69:aV:=aY Tryz.f69 _
def i70:aV:=aY Tryz.f70 _
def i71:aV:=aY Tryz.f71 _
def i72:aV:=aY Tryz.f72 _
def i73:aV:=aY Tryz.f73 _
def i74:aV:=aY Tryz.f74 _
def i75:aV:=aY Tryz.f75 _
def i76:aV:=aY Tryz.f76 _
def i77:aV:=aY Tryz.f77 _
def i78:aV:=aY Tryz.f78 _
def i79:aV:=aY Tryz.f79 _
def i80:aV:=aY Tryz.f80 _
def i81:aV:=aY Tryz.f81 _
def i82:aV:=aY Tryz.f82 _
def i83:aV:=aY Tryz.f83 _
def i84:aV:=aY Tryz.f84 _
def i85:aV:=aY Tryz.f85 _
open Go Go.Proofs
def i86:aV:=aY Tryz.f86 _
def i87:aV:=aY Tryz.f87 _
def i88:aV:=aY Tryz.f88 _
def i89:aV:=aY Tryz.f89 _
def i115:aV:=aY Tryz.f115 _
def i116:aV:=aY Tryz.f116 _
def i117:aV:=aY Tryz.f117 _
def i118:aV:=aY Tryz.f118 _
def i119:aV:=aY Tryz.f119 _
def i120:aV:=aY Tryz.f120 _
def i121:aV:=aY Tryz.f121 _
def i124:aV:=aY Tryz.f124 _
def i125:aV:=aY Tryz.f125 _
def i126:aV:=aY Tryz.f126 _
def i127:aV:=aY Tryz.f127 _
def i128:aV:=aY Tryz.f128 _
def i129:aV:=aY Tryz.f129 _
def i130:aV:=aY Tryz.f130 _
def i131:aV:=aY Tryz.f131 _
def i132:aV:=aY Tryz.f132 _
def i133:aV:=aY Tryz.f133 _
def i134:aV:=aY Tryz.f134 _
def i135:aV:=aY Tryz.f135 _
def i136:aV:=aY Tryz.f136 _
def i137:aV:=aY Tryz.f137 _
def i138:aV:=aY Tryz.f138 _
def i139:aV:=aY Tryz.f139 _
def i140:aV:=aY Tryz.f140 _
def i141:aV:=aY Tryz.f141 _
def i142:aV:=aY Tryz.f142 _
def i143:aV:=aY Tryz.f143 _
def i144:aV:=aY Tryz.f144 _
def i145:aV:=aY Tryz.f145 _
def i146:aV:=aY Tryz.f146 _
def i147:aV:=aY Tryz.f147 _
def i148:aV:=aY Tryz.f148 _
def i149:aV:=aY Tryz.f149 _
def i150:aV:=aY Tryz.f150 _
def i151:aV:=aY Tryz.f151 _
def i152:aV:=aY Tryz.f152 _
def i153:aV:=aY Tryz.f153 _
def i154:aV:=aY Tryz.f154 _
def i155:aV:=aY Tryz.f155 _
def i156:aV:=aY Tryz.f156 _
def i206:aV:=aY Tryz.f206 _
def i207:aV:=aY Tryz.f207 _
def i208:aV:=aY Tryz.f208 _
def i212:aV:=aY Tryz.f212 _
def i213:aV:=aY Tryz.f213 _
def i214:aV:=aY Tryz.f214 _
def i215:aV:=aY Tryz.f215 _
def i216:aV:=aY Tryz.f216 _
def i223:aV:=aY Tryz.f223 _
def i224:aV:=aY Tryz.f224 _
def i225:aV:=aY Tryz.f225 _
def i226:aV:=aY Tryz.f226 _
def i227:aV:=aY Tryz.f227 _
def i228:aV:=aY Tryz.f228 _
open Go Go.Proofs
def i229:aV:=aY Tryz.f229 _
def i230:aV:=aY Tryz.f230 _
def i231:aV:=aY Tryz.f231 _
def i232:aV:=aY Tryz.f232 _
def i233:aV:=aY Tryz.f233 _
def i234:aV:=aY Tryz.f234 _
def i235:aV:=aY Tryz.f235 _
def i308:aV:=aY Tryz.f308 _
def i317:aV:=aY Tryz.f317 _
def i318:aV:=aY Tryz.f318 _
def i319:aV:=aY Tryz.f319 _
def i320:aV:=aY Tryz.f320 _
def i321:aV:=aY Tryz.f321 _
def i322:aV:=aY Tryz.f322 _
def i323:aV:=aY Tryz.f323 _
def i324:aV:=aY Tryz.f324 _
def i325:aV:=aY Tryz.f325 _
def i326:aV:=aY Tryz.f326 _
def i327:aV:=aY Tryz.f327 _
def i328:aV:=aY Tryz.f328 _
def i329:aV:=aY Tryz.f329 _
def i330:aV:=aY Tryz.f330 _
def i331:aV:=aY Tryz.f331 _
def i332:aV:=aY Tryz.f332 _
def i333:aV:=aY Tryz.f333 _
def i334:aV:=aY Tryz.f334 _
def i335:aV:=aY Tryz.f335 _
def i342:aV:=aY Tryz.f342 _
def i344:aV:=aY Tryz.f344 _
def i345:aV:=aY Tryz.f345 _
def i346:aV:=aY Tryz.f346 _
def i347:aV:=aY Tryz.f347 _
def i348:aV:=aY Tryz.f348 _
def i349:aV:=aY Tryz.f349 _
def i350:aV:=aY Tryz.f350 _
def i382:aV:=aY Tryz.f382 _
def i407:aV:=aY Tryz.f407 _
def i408:aV:=aY Tryz.f408 _
def i409:aV:=aY Tryz.f409 _
def i410:aV:=aY Tryz.f410 _
def i411:aV:=aY Tryz.f411 _
def i412:aV:=aY Tryz.f412 _
def i413:aV:=aY Tryz.f413 _
def i414:aV:=aY Tryz.f414 _
def i415:aV:=aY Tryz.f415 _
def i416:aV:=aY Tryz.f416 _
def i417:aV:=aY Tryz.f417 _
def i418:aV:=aY Tryz.f418 _
def i419:aV:=aY Tryz.f419 _
def i420:aV:=aY Tryz.f420 _
def i421:aV:=aY Tryz.f421 _
def i422:aV:=aY Tryz.f422 _
def i423:aV:=aY Tryz.f423 _
def i424:aV:=aY Tryz.f424 _
def i425:aV:=aY Tryz.f425 _
def i426:aV:=aY Tryz.f426 _
def i427:aV:=aY Tryz.f427 _
def i428:aV:=aY Tryz.f428 _
open Go Go.Proofs
def i429:aV:=aY Tryz.f429 _
def i434:aV:=aY Tryz.f434 _
def i435:aV:=aY Tryz.f435 _
def i500:aV:=aY Tryz.f500 _
def i501:aV:=aY Tryz.f501 _
def i502:aV:=aY Tryz.f502 _
def i503:aV:=aY Tryz.f503 _
def i504:aV:=aY Tryz.f504 _
def i505:aV:=aY Tryz.f505 _
def i506:aV:=aY Tryz.f506 _
def i507:aV:=aY Tryz.f507 _
def i508:aV:=aY Tryz.f508 _
def i509:aV:=aY Tryz.f509 _
def i510:aV:=aY Tryz.f510 _
def i511:aV:=aY Tryz.f511 _
def i512:aV:=aY Tryz.f512 _
def i514:aV:=aY Tryz.f514 _
def i515:aV:=aY Tryz.f515 _
def i516:aV:=aY Tryz.f516 _
def i517:aV:=aY Tryz.f517 _
def i518:aV:=aY Tryz.f518 _
def i519:aV:=aY Tryz.f519 _
def i520:aV:=aY Tryz.f520 _
def i521:aV:=aY Tryz.f521 _
def i522:aV:=aY Tryz.f522 _
def i524:aV:=aY Tryz.f524 _
def i525:aV:=aY Tryz.f525 _
def i565:aV:=aY Tryz.f565 _
def i566:aV:=aY Tryz.f566 _
def i567:aV:=aY Tryz.f567 _
def i568:aV:=aY Tryz.f568 _
def i569:aV:=aY Tryz.f569 _
def i570:aV:=aY Tryz.f570 _
def i571:aV:=aY Tryz.f571 _
def i572:aV:=aY Tryz.f572 _
def i573:aV:=aY Tryz.f573 _
def i574:aV:=aY Tryz.f574 _
def i575:aV:=aY Tryz.f575 _
def i577:aV:=aY Tryz.f577 _
def i578:aV:=aY Tryz.f578 _
def i610:aV:=aY Tryz.f610 _
def i611:aV:=aY Tryz.f611 _
def i612:aV:=aY Tryz.f612 _
def i613:aV:=aY Tryz.f613 _
def i614:aV:=aY Tryz.f614 _
def i615:aV:=aY Tryz.f615 _
def i616:aV:=aY Tryz.f616 _
def i630:aV:=aY Tryz.f630 _
def i631:aV:=aY Tryz.f631 _
def i635:aV:=aY Tryz.f635 _
def i636:aV:=aY Tryz.f636 _
def i638:aV:=aY Tryz.f638 _
def i640:aV:=aY Tryz.f640 _
def i642:aV:=aY Tryz.f642 _
def i645:aV:=aY Tryz.f645 _
def i648:aV:=aY Tryz.f648 _
def i343:aV:={nt:=60,ps:=[nk,pH,iW],res:=[.tmp lR],body:=
 (.seq (.region false [⟨some jj,none,none,.box 109 3 40 (.t nk)⟩,
 ⟨some gJ,none,none,.box 109 3 40 (.t pH)⟩,
 ⟨some lR,none,none,.ch (.c (.bool false))⟩])
 (.seq (.seq (.region false [⟨some uj,none,none,.dM (.t jj) 0⟩,
 ⟨some tI,none,none,.dM (.t uj) 1⟩,
 ⟨some lG,none,none,.load 1 false (.t tI)⟩,
 ⟨some m8,none,none,.dM (.t gJ) 0⟩,
 ⟨some tK,none,none,.dM (.t m8) 0⟩,
 ⟨some tL,none,none,.load 1 false (.t tK)⟩,
 ⟨some tM,none,none,.bin .neq (.t lG) (.t tL)⟩])
 (.cond (.t tM)
 (.seq (.region false [⟨some lR,none,none,.ch (.c (.bool false))⟩])
 .ret)
 .skip))
 (.seq (.seq (.region false [⟨some nm,none,none,.ch (.c (.int .i64 (.ofNat 0)))⟩])
 (.block 0 (.loop (.seq (.seq (.region false [⟨some tN,none,none,.ch (.t nm)⟩,
  ⟨some m9,none,none,.dM (.t gJ) 2⟩,
  ⟨some tO,none,none,.load 1 false (.t m9)⟩,
  ⟨some na,none,none,.len (.t tO)⟩,
  ⟨some tP,none,none,.bin .lss (.t tN) (.t na)⟩])
  (.cond (.t tP)
  .skip
  (.exit 0)))
  (.seq (.block 1 (.seq (.region true [⟨some tT,none,some [],.load 3 true (.t jj)⟩,
   ⟨some tU,none,none,.dM (.t gJ) 2⟩,
   ⟨some kx,none,some [0],.load 1 false (.t tU)⟩,
   ⟨some qE,none,none,.ch (.t nm)⟩,
   ⟨some DX,none,none,.iE 3 (.t kx) (.t qE)⟩,
   ⟨some DY,none,none,.dM (.t DX) 0⟩,
   ⟨some DZ,none,some [1],.load 1 false (.t DY)⟩,
   ⟨some D0,none,some [],.call 141 [(.t tT),(.t DZ)]⟩,
   ⟨some qW,none,none,.ch (.t D0)⟩])
  (.seq (.region true [⟨some rT,none,none,.ch (.t qW)⟩,
   ⟨some D1,none,none,.bin .lss (.t rT) (.c (.int .i64 (.ofNat 0)))⟩,
   ⟨some oc,none,none,.ch (.t D1)⟩,
   ⟨some qF,some (oc,true),none,.dM (.t gJ) 2⟩,
   ⟨some D2,some (oc,true),some [],.load 1 false (.t qF)⟩,
   ⟨some D3,some (oc,true),none,.ch (.t nm)⟩,
   ⟨some D4,some (oc,true),none,.iE 3 (.t D2) (.t D3)⟩,
   ⟨some rU,some (oc,true),none,.dM (.t D4) 0⟩,
   ⟨some D5,some (oc,true),some [],.load 1 false (.t rU)⟩,
   ⟨some D7,some (oc,true),none,.ch (.t iW)⟩,
   ⟨some D8,some (oc,true),none,.bin .leq (.t D5) (.t D7)⟩,
   ⟨some pd,none,none,.pick (.t oc) (.t D8) (.c (.bool false))⟩,
   ⟨some tV,none,none,.ch (.t pd)⟩,
   ⟨some D9,some (tV,false),none,.ch (.t qW)⟩,
   ⟨some D',some (tV,false),none,.bin .geq (.t D9) (.c (.int .i64 (.ofNat 0)))⟩,
   ⟨some lH,some (tV,false),none,.ch (.t D')⟩,
   ⟨some Ea,some (lH,true),none,.dM (.t jj) 2⟩,
   ⟨some Eb,some (lH,true),some [],.load 1 false (.t Ea)⟩,
   ⟨some Ec,some (lH,true),none,.ch (.t qW)⟩,
   ⟨some NH,some (lH,true),none,.iE 3 (.t Eb) (.t Ec)⟩,
   ⟨some rV,some (lH,true),some [],.load 3 true (.t NH)⟩,
   ⟨some NI,some (lH,true),none,.dM (.t gJ) 2⟩,
   ⟨some NJ,some (lH,true),some [0,1],.load 1 false (.t NI)⟩,
   ⟨some NK,some (lH,true),none,.ch (.t nm)⟩,
   ⟨some NL,some (lH,true),none,.iE 3 (.t NJ) (.t NK)⟩,
   ⟨some NM,some (lH,true),some [1,2],.load 3 true (.t NL)⟩,
   ⟨some NN,some (lH,true),none,.eqv (.agg [3,101,3]) true (.t rV) (.t NM)⟩,
   ⟨some NO,some (tV,false),none,.pick (.t lH) (.t NN) (.c (.bool false))⟩,
   ⟨some NP,none,none,.pick (.t tV) (.c (.bool true)) (.t NO)⟩])
  (.cond (.t NP)
   (.seq (.region false [⟨some lR,none,none,.ch (.c (.bool false))⟩])
   .ret)
   .skip))))
  (.region false [⟨some tQ,none,none,.ch (.t nm)⟩,
  ⟨some tR,none,none,.bin .add (.t tQ) (.c (.int .i64 (.ofNat 1)))⟩,
  ⟨some nm,none,none,.ch (.t tR)⟩]))))))
 (.seq (.region false [⟨some lR,none,none,.ch (.c (.bool true))⟩])
 .ret))))}
def i209:aV:={nt:=50,ps:=[nk,pH],res:=[.tmp gJ],body:=
 (.seq (.region false [⟨some iW,none,none,.box 121 3 32 (.t nk)⟩,
 ⟨some jj,none,none,.box 121 3 32 (.t pH)⟩,
 ⟨some gJ,none,none,.ch (.c (.int .i64 (.ofNat 0)))⟩])
 (.seq (.block 0 (.seq (.region false [⟨some lR,none,none,.dM (.t iW) 0⟩,
  ⟨some nm,none,none,.load 1 false (.t lR)⟩,
  ⟨some qW,none,none,.dM (.t jj) 0⟩,
  ⟨some uj,none,none,.load 1 false (.t qW)⟩,
  ⟨some tI,none,none,.bin .lss (.t nm) (.t uj)⟩,
  ⟨some lG,none,none,.ch (.t tI)⟩,
  ⟨some m8,some (lG,false),none,.dM (.t iW) 0⟩,
  ⟨some tK,some (lG,false),none,.load 1 false (.t m8)⟩,
  ⟨some tL,some (lG,false),none,.dM (.t jj) 0⟩,
  ⟨some tM,some (lG,false),none,.load 1 false (.t tL)⟩,
  ⟨some tN,some (lG,false),none,.bin .eql (.t tK) (.t tM)⟩,
  ⟨some m9,some (lG,false),none,.ch (.t tN)⟩,
  ⟨some tO,some (m9,true),none,.dM (.t iW) 1⟩,
  ⟨some na,some (m9,true),none,.load 1 false (.t tO)⟩,
  ⟨some tP,some (m9,true),none,.dM (.t jj) 1⟩,
  ⟨some tQ,some (m9,true),none,.load 1 false (.t tP)⟩,
  ⟨some tR,some (m9,true),none,.bin .lss (.t na) (.t tQ)⟩,
  ⟨some tT,some (lG,false),none,.pick (.t m9) (.t tR) (.c (.bool false))⟩,
  ⟨some tU,none,none,.pick (.t lG) (.c (.bool true)) (.t tT)⟩,
  ⟨some kx,none,none,.ch (.t tU)⟩,
  ⟨some qE,some (kx,false),none,.dM (.t iW) 0⟩,
  ⟨some DX,some (kx,false),none,.load 1 false (.t qE)⟩,
  ⟨some DY,some (kx,false),none,.dM (.t jj) 0⟩,
  ⟨some DZ,some (kx,false),none,.load 1 false (.t DY)⟩,
  ⟨some D0,some (kx,false),none,.bin .eql (.t DX) (.t DZ)⟩,
  ⟨some rT,some (kx,false),none,.ch (.t D0)⟩,
  ⟨some D1,some (rT,true),none,.dM (.t iW) 1⟩,
  ⟨some oc,some (rT,true),none,.load 1 false (.t D1)⟩,
  ⟨some qF,some (rT,true),none,.dM (.t jj) 1⟩,
  ⟨some D2,some (rT,true),none,.load 1 false (.t qF)⟩,
  ⟨some D3,some (rT,true),none,.bin .eql (.t oc) (.t D2)⟩,
  ⟨some D4,some (kx,false),none,.pick (.t rT) (.t D3) (.c (.bool false))⟩,
  ⟨some rU,some (kx,false),none,.ch (.t D4)⟩,
  ⟨some D5,some (rU,true),none,.dM (.t iW) 2⟩,
  ⟨some D7,some (rU,true),none,.load 1 false (.t D5)⟩,
  ⟨some D8,some (rU,true),none,.dM (.t jj) 2⟩,
  ⟨some pd,some (rU,true),none,.load 1 false (.t D8)⟩,
  ⟨some tV,some (rU,true),none,.bin .lss (.t D7) (.t pd)⟩,
  ⟨some D9,some (kx,false),none,.pick (.t rU) (.t tV) (.c (.bool false))⟩,
  ⟨some D',none,none,.pick (.t kx) (.c (.bool true)) (.t D9)⟩,
  ⟨some jM,none,none,.ch (.t D')⟩])
 (.cond (.t jM)
  (.seq (.region false [⟨some gJ,none,none,.ch (.c (.int .i64 (.negSucc 0)))⟩])
  .ret)
  (.seq (.region false [⟨some Ea,none,none,.load 3 true (.t iW)⟩,
  ⟨some Eb,none,none,.load 3 true (.t jj)⟩,
  ⟨some Ec,none,none,.eqv (.agg [3,3,101]) false (.t Ea) (.t Eb)⟩,
  ⟨some lH,none,none,.ch (.t Ec)⟩])
  (.cond (.t lH)
  (.seq (.region false [⟨some gJ,none,none,.ch (.c (.int .i64 (.ofNat 0)))⟩])
  .ret)
  .skip)))))
 (.seq (.region false [⟨some gJ,none,none,.ch (.c (.int .i64 (.ofNat 1)))⟩])
 .ret)))}
def i513:aV:={nt:=96,ps:=[nk,pH],res:=[.tmp gJ],body:=
 (.seq (.region false [⟨some iW,none,none,.box 203 7 120 (.t nk)⟩,
 ⟨some jj,none,none,.box 203 7 120 (.t pH)⟩,
 ⟨some gJ,none,none,.ch (.c (.bool false))⟩])
 (.seq (.seq (.region false [⟨some nm,none,none,.dM (.t iW) 0⟩,
 ⟨some qW,none,none,.load 1 false (.t nm)⟩,
 ⟨some uj,none,none,.dM (.t jj) 0⟩,
 ⟨some tI,none,none,.load 1 false (.t uj)⟩,
 ⟨some lG,none,none,.eqv .bool true (.t qW) (.t tI)⟩,
 ⟨some m8,none,none,.ch (.t lG)⟩,
 ⟨some tK,some (m8,false),none,.dM (.t iW) 4⟩,
 ⟨some tL,some (m8,false),none,.load 1 false (.t tK)⟩,
 ⟨some tM,some (m8,false),none,.dM (.t jj) 4⟩,
 ⟨some tN,some (m8,false),none,.load 1 false (.t tM)⟩,
 ⟨some m9,some (m8,false),none,.bin .neq (.t tL) (.t tN)⟩,
 ⟨some tO,none,none,.pick (.t m8) (.c (.bool true)) (.t m9)⟩,
 ⟨some na,none,none,.ch (.t tO)⟩,
 ⟨some tP,some (na,false),none,.dM (.t iW) 5⟩,
 ⟨some tQ,some (na,false),none,.load 1 false (.t tP)⟩,
 ⟨some tR,some (na,false),none,.dM (.t jj) 5⟩,
 ⟨some tT,some (na,false),none,.load 1 false (.t tR)⟩,
 ⟨some tU,some (na,false),none,.eqv .bool true (.t tQ) (.t tT)⟩,
 ⟨some kx,none,none,.pick (.t na) (.c (.bool true)) (.t tU)⟩,
 ⟨some qE,none,none,.ch (.t kx)⟩,
 ⟨some DX,some (qE,false),none,.dM (.t iW) 6⟩,
 ⟨some DY,some (qE,false),none,.load 1 false (.t DX)⟩,
 ⟨some DZ,some (qE,false),none,.dM (.t jj) 6⟩,
 ⟨some D0,some (qE,false),none,.load 1 false (.t DZ)⟩,
 ⟨some rT,some (qE,false),none,.call 27 [(.t DY),(.t D0)]⟩,
 ⟨some D1,some (qE,false),none,.un .not (.t rT)⟩,
 ⟨some oc,none,none,.pick (.t qE) (.c (.bool true)) (.t D1)⟩,
 ⟨some qF,none,none,.ch (.t oc)⟩,
 ⟨some D2,some (qF,false),none,.dM (.t iW) 1⟩,
 ⟨some D3,some (qF,false),none,.load 1 false (.t D2)⟩,
 ⟨some D4,some (qF,false),none,.dM (.t jj) 1⟩,
 ⟨some rU,some (qF,false),none,.load 1 false (.t D4)⟩,
 ⟨some D5,some (qF,false),none,.call 576 [(.t D3),(.t rU)]⟩,
 ⟨some D7,some (qF,false),none,.un .not (.t D5)⟩,
 ⟨some D8,none,none,.pick (.t qF) (.c (.bool true)) (.t D7)⟩,
 ⟨some pd,none,none,.ch (.t D8)⟩,
 ⟨some tV,some (pd,false),none,.dM (.t iW) 2⟩,
 ⟨some D9,some (pd,false),none,.load 1 false (.t tV)⟩,
 ⟨some D',some (pd,false),none,.len (.t D9)⟩,
 ⟨some lH,some (pd,false),none,.dM (.t jj) 2⟩,
 ⟨some Ea,some (pd,false),none,.load 1 false (.t lH)⟩,
 ⟨some Eb,some (pd,false),none,.len (.t Ea)⟩,
 ⟨some Ec,some (pd,false),none,.bin .neq (.t D') (.t Eb)⟩,
 ⟨some NH,none,none,.pick (.t pd) (.c (.bool true)) (.t Ec)⟩,
 ⟨some rV,none,none,.ch (.t NH)⟩,
 ⟨some NI,some (rV,false),none,.dM (.t iW) 3⟩,
 ⟨some NJ,some (rV,false),none,.load 1 false (.t NI)⟩,
 ⟨some NK,some (rV,false),none,.len (.t NJ)⟩,
 ⟨some NL,some (rV,false),none,.dM (.t jj) 3⟩,
 ⟨some NM,some (rV,false),none,.load 1 false (.t NL)⟩,
 ⟨some NN,some (rV,false),none,.len (.t NM)⟩,
 ⟨some NO,some (rV,false),none,.bin .neq (.t NK) (.t NN)⟩,
 ⟨some NP,none,none,.pick (.t rV) (.c (.bool true)) (.t NO)⟩])
 (.cond (.t NP)
 (.seq (.region false [⟨some gJ,none,none,.ch (.c (.bool false))⟩])
 .ret)
 .skip))
 (.seq (.seq (.region false [⟨some jM,none,none,.ch (.c (.int .i64 (.ofNat 0)))⟩])
 (.block 0 (.loop (.seq (.seq (.region false [⟨some ahw,none,none,.ch (.t jM)⟩,
  ⟨some ahx,none,none,.dM (.t iW) 2⟩,
  ⟨some ahy,none,none,.load 1 false (.t ahx)⟩,
  ⟨some ahz,none,none,.len (.t ahy)⟩,
  ⟨some ahA,none,none,.bin .lss (.t ahw) (.t ahz)⟩])
  (.cond (.t ahA)
  .skip
  (.exit 0)))
  (.seq (.block 1 (.seq (.region true [⟨some ahD,none,none,.dM (.t iW) 2⟩,
   ⟨some ahE,none,some [],.load 1 false (.t ahD)⟩,
   ⟨some ahF,none,none,.ch (.t jM)⟩,
   ⟨some ahG,none,none,.iE 3 (.t ahE) (.t ahF)⟩,
   ⟨some ahH,none,some [],.load 3 true (.t ahG)⟩,
   ⟨some ahI,none,none,.dM (.t jj) 2⟩,
   ⟨some ahJ,none,some [0,1],.load 1 false (.t ahI)⟩,
   ⟨some ahK,none,none,.ch (.t jM)⟩,
   ⟨some ahL,none,none,.iE 3 (.t ahJ) (.t ahK)⟩,
   ⟨some ahM,none,some [1,2],.load 3 true (.t ahL)⟩,
   ⟨some ahN,none,none,.eqv (.agg [3,3,101]) true (.t ahH) (.t ahM)⟩])
  (.cond (.t ahN)
   (.seq (.region false [⟨some gJ,none,none,.ch (.c (.bool false))⟩])
   .ret)
   .skip)))
  (.region false [⟨some ahB,none,none,.ch (.t jM)⟩,
  ⟨some ahC,none,none,.bin .add (.t ahB) (.c (.int .i64 (.ofNat 1)))⟩,
  ⟨some jM,none,none,.ch (.t ahC)⟩]))))))
 (.seq (.seq (.region false [⟨some lR,none,none,.ch (.c (.int .i64 (.ofNat 0)))⟩])
 (.block 2 (.loop (.seq (.seq (.region false [⟨some ahO,none,none,.ch (.t lR)⟩,
  ⟨some ahP,none,none,.dM (.t iW) 3⟩,
  ⟨some ahQ,none,none,.load 1 false (.t ahP)⟩,
  ⟨some ahR,none,none,.len (.t ahQ)⟩,
  ⟨some ahS,none,none,.bin .lss (.t ahO) (.t ahR)⟩])
  (.cond (.t ahS)
  .skip
  (.exit 2)))
  (.seq (.block 3 (.seq (.region true [⟨some ahV,none,none,.dM (.t iW) 3⟩,
   ⟨some ahW,none,some [],.load 1 false (.t ahV)⟩,
   ⟨some ahX,none,none,.ch (.t lR)⟩,
   ⟨some ahY,none,none,.iE 4 (.t ahW) (.t ahX)⟩,
   ⟨some UX,none,some [],.load 4 true (.t ahY)⟩,
   ⟨some ahZ,none,none,.dM (.t jj) 3⟩,
   ⟨some ah0,none,some [0,1],.load 1 false (.t ahZ)⟩,
   ⟨some ah1,none,none,.ch (.t lR)⟩,
   ⟨some ah2,none,none,.iE 4 (.t ah0) (.t ah1)⟩,
   ⟨some ah3,none,some [1,2],.load 4 true (.t ah2)⟩,
   ⟨some ah4,none,none,.eqv (.agg [100,101,101,3]) true (.t UX) (.t ah3)⟩])
  (.cond (.t ah4)
   (.seq (.region false [⟨some gJ,none,none,.ch (.c (.bool false))⟩])
   .ret)
   .skip)))
  (.region false [⟨some ahT,none,none,.ch (.t lR)⟩,
  ⟨some ahU,none,none,.bin .add (.t ahT) (.c (.int .i64 (.ofNat 1)))⟩,
  ⟨some lR,none,none,.ch (.t ahU)⟩]))))))
 (.seq (.region false [⟨some gJ,none,none,.ch (.c (.bool true))⟩])
 .ret)))))}
def i576:aV:={nt:=26,ps:=[nk,pH],res:=[.tmp gJ],body:=
 (.seq (.region false [⟨some gJ,none,none,.ch (.c (.bool false))⟩])
 (.seq (.seq (.region false [⟨some lR,none,none,.ch (.t nk)⟩,
 ⟨some nm,none,none,.len (.t lR)⟩,
 ⟨some qW,none,none,.ch (.t pH)⟩,
 ⟨some uj,none,none,.len (.t qW)⟩,
 ⟨some tI,none,none,.bin .neq (.t nm) (.t uj)⟩])
 (.cond (.t tI)
 (.seq (.region false [⟨some gJ,none,none,.ch (.c (.bool false))⟩])
 .ret)
 .skip))
 (.seq (.seq (.region false [⟨some jM,none,none,.ch (.c (.int .i64 (.ofNat 0)))⟩])
 (.block 0 (.loop (.seq (.seq (.region false [⟨some lG,none,none,.ch (.t jM)⟩,
  ⟨some m8,none,none,.ch (.t nk)⟩,
  ⟨some tK,none,none,.len (.t m8)⟩,
  ⟨some tL,none,none,.bin .lss (.t lG) (.t tK)⟩])
  (.cond (.t tL)
  .skip
  (.exit 0)))
  (.seq (.block 1 (.seq (.region true [⟨some m9,none,none,.ch (.t nk)⟩,
   ⟨some tO,none,none,.ch (.t jM)⟩,
   ⟨some na,none,none,.iE 8 (.t m9) (.t tO)⟩,
   ⟨some tP,none,some [],.load 8 true (.t na)⟩,
   ⟨some tQ,none,none,.ch (.t pH)⟩,
   ⟨some tR,none,none,.ch (.t jM)⟩,
   ⟨some tT,none,none,.iE 8 (.t tQ) (.t tR)⟩,
   ⟨some tU,none,some [0],.load 8 true (.t tT)⟩,
   ⟨some kx,none,none,.eqv (.agg [3,3,3,101,101,3,3,101]) true (.t tP) (.t tU)⟩])
  (.cond (.t kx)
   (.seq (.region false [⟨some gJ,none,none,.ch (.c (.bool false))⟩])
   .ret)
   .skip)))
  (.region false [⟨some tM,none,none,.ch (.t jM)⟩,
  ⟨some tN,none,none,.bin .add (.t tM) (.c (.int .i64 (.ofNat 1)))⟩,
  ⟨some jM,none,none,.ch (.t tN)⟩]))))))
 (.seq (.region false [⟨some gJ,none,none,.ch (.c (.bool true))⟩])
 .ret))))}
def i9:aV:={nt:=26,ps:=[nk,pH],res:=[.tmp gJ],body:=
 (.seq (.region false [⟨some gJ,none,none,.ch (.c (.bool false))⟩])
 (.seq (.seq (.region false [⟨some lR,none,none,.ch (.t nk)⟩,
 ⟨some nm,none,none,.len (.t lR)⟩,
 ⟨some qW,none,none,.ch (.t pH)⟩,
 ⟨some uj,none,none,.len (.t qW)⟩,
 ⟨some tI,none,none,.bin .neq (.t nm) (.t uj)⟩])
 (.cond (.t tI)
 (.seq (.region false [⟨some gJ,none,none,.ch (.c (.bool false))⟩])
 .ret)
 .skip))
 (.seq (.seq (.region false [⟨some jM,none,none,.ch (.c (.int .i64 (.ofNat 0)))⟩])
 (.block 0 (.loop (.seq (.seq (.region false [⟨some lG,none,none,.ch (.t jM)⟩,
  ⟨some m8,none,none,.ch (.t nk)⟩,
  ⟨some tK,none,none,.len (.t m8)⟩,
  ⟨some tL,none,none,.bin .lss (.t lG) (.t tK)⟩])
  (.cond (.t tL)
  .skip
  (.exit 0)))
  (.seq (.block 1 (.seq (.region true [⟨some m9,none,none,.ch (.t nk)⟩,
   ⟨some tO,none,none,.ch (.t jM)⟩,
   ⟨some na,none,none,.iE 2 (.t m9) (.t tO)⟩,
   ⟨some tP,none,some [],.load 2 true (.t na)⟩,
   ⟨some tQ,none,none,.ch (.t pH)⟩,
   ⟨some tR,none,none,.ch (.t jM)⟩,
   ⟨some tT,none,none,.iE 2 (.t tQ) (.t tR)⟩,
   ⟨some tU,none,some [0],.load 2 true (.t tT)⟩,
   ⟨some kx,none,none,.eqv (.agg [3,3]) true (.t tP) (.t tU)⟩])
  (.cond (.t kx)
   (.seq (.region false [⟨some gJ,none,none,.ch (.c (.bool false))⟩])
   .ret)
   .skip)))
  (.region false [⟨some tM,none,none,.ch (.t jM)⟩,
  ⟨some tN,none,none,.bin .add (.t tM) (.c (.int .i64 (.ofNat 1)))⟩,
  ⟨some jM,none,none,.ch (.t tN)⟩]))))))
 (.seq (.region false [⟨some gJ,none,none,.ch (.c (.bool true))⟩])
 .ret))))}
end Go.Ev.Pp
namespace Go.Ev
open Go
section
variable{T:aN}{VE:bo}{B:aT}{Q:VV→aT→Prop}
end
def Bh(k:Int)(w:ak)(p:List DC→Bool):Prop:=(w.take k.toNat).filter p=w.take k.toNat
theorem Bh.step{k:Int}{w:ak}{p:List DC→Bool}{a:Nat}{r:List DC}(h:Bh k w p)(z:k=a)(A:w[a]?=some r)(G:p r=true):Bh (k+1) w p:=by
 subst z;unfold Bh at h⊢;simp only[UM] at h;rw[show((a:Int)+1).toNat=a+1 by omega,Dl,A,List.filter_append,h];simp[G]
theorem Bh.all{k:Int}{w:ak}{p:List DC→Bool}(h:Bh k w p)(z:(w.length:Int)≤k):w.filter p=w:=by
 unfold Bh at h;rwa [mq ah] at h
section
end
end Go.Ev
