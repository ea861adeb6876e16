/- Part 20 of rules for walks through the code of a program, and of such walks; what each part proves is said by its theorems. -/
import Derived.Test.YtdaamclhcpjdpaaGreatDoorT17
import Derived.Test.YtdaamclhcpjdpaaGreatDoorT18
import Derived.Test.YtdaamclhcpjdpaaGreatDoorT19
import Derived.Test.YtdaamclhcpjdpaaGreatDoorProg
set_option linter.unusedVariables false
set_option linter.unusedSimpArgs false
noncomputable section
set_option maxRecDepth 100000
set_option maxHeartbeats 4000000
namespace Go.Ev
open Go
section
variable{T:aO}{VE:bq}{B:aU}
theorem l9{b:Nat}{s s':BS}(A:aN B b=some s)(G:s'.born↔s.born):∀c t,aN ((b,s')::B) c=some t→t.born→∃u,aN B c=some u∧u.born:=fun c t z ho=>by
 rw[dr] at z
 by_cases k:b=c
 ·subst k;rw[bj rfl] at z;cases z;exact⟨s,A,G.1 ho⟩
 rw[aZ k] at z;exact⟨t,z,ho⟩
theorem Rel.qB{H0:Nat→Nat}{X0:Nat→Prop}{E:Env}{H:ay}{β:Nat→Nat}(h:Rel H0 X0 VE B E H β){b:Nat}{s s':BS}(Y:aN B b=some s)(Z:s'.born↔s.born)(L:∀X,dq H X β (β b) s→dq H X β (β b) s'):Rel H0 X0 VE ((b,s')::B) E H β:=by
 have I:=l9 (B:=B) Y Z;have M:fc H (XB X0 B β) H (XB X0 ((b,s')::B) β):=⟨bt _,fun f _ hx=>⟨fun k=>hx (k.imp id fun⟨c,t,O,ho,h2⟩=>by obtain⟨u,A,G⟩:=I c t O ho;exact⟨c,u,A,G,h2⟩),rfl⟩⟩;refine⟨h.kY,h.aQ,h.x0,fun c t z ho=>?_,fun c d t u z U hs ht he=>?_,fun k v hk=>?_,fun c t z=>?_⟩
 ·obtain⟨u,A,G⟩:=I c t z ho;exact h.new c u A G
 ·obtain⟨s1,A,G⟩:=I c t z hs;obtain⟨t1,k3,k4⟩:=I d u U ht;exact h.inj c d s1 t1 A k3 G k4 he
 ·obtain⟨a,O,h2⟩:=h.env k v hk;exact⟨a,O,h2.lift M⟩
 rw[dr] at z
 by_cases k:b=c
 ·subst k;rw[bj rfl] at z
  cases z
  exact L _ ((h.box b s Y).lift M aa)
 rw[aZ k] at z;exact(h.box c t z).lift M rfl
theorem Rel.slot{H0:Nat→Nat}{X0:Nat→Prop}{E:Env}{H:ay}{β:Nat→Nat}(h:Rel H0 X0 VE B E H β){k:Nat}{v v':VV}(A:aN VE k=some v)(G:∀a,aG H (XB X0 B β) β v a→aG H (XB X0 B β) β v' a):Rel H0 X0 ((k,v')::VE) B E H β:=by
 refine{h with env:=fun c w z=>?_};rw[dr] at z
 by_cases e:k=c.n
 ·rw[bj e] at z;cases z;subst e;obtain⟨a,I,h2⟩:=h.env c v A;exact⟨a,I,G a h2⟩
 rw[aZ e] at z;exact h.env c w z
theorem mI.qB{n:Nat}{β:Nat→Nat}{fl:List FL}{bb:List FP}{b:Nat}{s s':BS}(O:aN B b=some s)(U:s'.born↔s.born)(h:mI n B β fl bb):mI n ((b,s')::B) β fl bb:=
 ⟨h.1,fun i x r Y Z=>by
  have:=h.2 i x r Y Z
  cases x with
  |rd R=>obtain⟨a,e,l,c,d⟩:=this;exact⟨a,e,l,c,fun f z=>⟨(d f z).1,fun c t A G I=>by obtain⟨u,L,M⟩:=l9 (B:=B) O U c t A G;exact(d f z).2 c u L M I⟩⟩
  |qt=>exact this
  |off _=>exact this
  |wr _=>exact fun f z=>⟨(this f z).1,fun c t A G I=>by obtain⟨u,L,M⟩:=l9 (B:=B) O U c t A G;exact(this f z).2 c u L M I⟩
  |un=>trivial⟩
variable{ops:List bl}{c:IC}{fl:List FL}{Q:bq→aU→Prop}{R:Ex→bq→aU→Prop}
theorem R5(b:Nat){s:BS}(z:aN B b=some s)(h:∀f,VC T c VE ((b,.db f s)::B) R):VC T c VE B R:=
 fun H0 X0 E H β A=>(h (β b) H0 X0 E H β (A.qB z iG fun _ k=>⟨fun _=>rfl,k⟩)).mono fun _ _ _ G=>G.more (l9 z iG)
theorem nL(b:Nat){s:BS}(z:aN B b=some s)(h:∀f,VQ T ops VE ((b,.db f s)::B) fl Q):VQ T ops VE B fl Q:=
 fun H0 X0 E H β A bb G=>(h (β b) H0 X0 E H β (A.qB z iG fun _ k=>⟨fun _=>rfl,k⟩) bb (G.qB z iG)).mono fun _ _ I=>I.more (l9 z iG)
theorem KV(b:Nat){f:Nat}{s:BS}(z:aN B b=some (.db f s))(h:VQ T ops VE ((b,s)::B) fl Q):VQ T ops VE B fl Q:=
 fun H0 X0 E H β A bb G=>(h H0 X0 E H β (A.qB z iG fun _ k=>k.2) bb (G.qB z iG)).mono fun _ _ I=>I.more (l9 z iG)
theorem Rel.pinned{H0:Nat→Nat}{X0:Nat→Prop}{E:Env}{H:ay}{β:Nat→Nat}(h:Rel H0 X0 VE B E H β){b f:Nat}{s:BS}(z:aN B b=some (.db f s))(ho:s.born):β b=f:=(h.box b _ z).1 ho
theorem Rel.rawA{H0:Nat→Nat}{X0:Nat→Prop}{E:Env}{H:ay}{β:Nat→Nat}(h:Rel H0 X0 VE B E H β){k b f n es elem aE e:Nat}{rows:aj}(A:aN VE k=some (.ac b n es))(G:aN B b=some (.db f (.acc elem aE e rows)))(h0:0<n)(I:rows≠[]):Rel H0 X0 ((k,.d (.raw f n es))::VE) B E H β:=
 h.slot A fun a z=>by
  have e:=h.pinned G I;simp only[aG,bK] at z⊢;rcases z with⟨L,_⟩|⟨_,h2⟩
  ·omega
  rw[h2,e]
theorem Rel.unrawA{H0:Nat→Nat}{X0:Nat→Prop}{E:Env}{H:ay}{β:Nat→Nat}(h:Rel H0 X0 VE B E H β){k b f n es elem aE e:Nat}{rows:aj}(A:aN VE k=some (.d (.raw f n es)))(G:aN B b=some (.db f (.acc elem aE e rows)))(h0:0<n)(I:rows≠[]):Rel H0 X0 ((k,.ac b n es)::VE) B E H β:=
 h.slot A fun a z=>by
  have e:=h.pinned G I;simp only[aG,bK] at z⊢;exact .inr ⟨h0,by rw[z,e]⟩
theorem ri(k b:Nat){f n es elem aE e:Nat}{rows:aj}(z:aN VE k=some (.ac b n es))(A:aN B b=some (.db f (.acc elem aE e rows)))(h0:0<n)(G:rows≠[])(h:VQ T ops ((k,.d (.raw f n es))::VE) B fl Q):VQ T ops VE B fl Q:=
 fun H0 X0 E H β I bb L=>h H0 X0 E H β (I.rawA z A h0 G) bb L
theorem FR(k b:Nat){f n es elem aE e:Nat}{rows:aj}(z:aN VE k=some (.d (.raw f n es)))(A:aN B b=some (.db f (.acc elem aE e rows)))(h0:0<n)(G:rows≠[])(h:VQ T ops ((k,.ac b n es)::VE) B fl Q):VQ T ops VE B fl Q:=
 fun H0 X0 E H β I bb L=>h H0 X0 E H β (I.unrawA z A h0 G) bb L
end
section
variable{T:aO}{VE:bq}{B:aU}{W:List Nat}{fl:List FL}{Q:bq→aU→Prop}
theorem VI.Ue{op:bm}{b f:Nat}{s:BS}{Q:VV→aU→Prop}(A:aN B b=some (.db f s))(h:VI T op VE ((b,s)::B) W Q):VI T op VE B W Q:=fun H0 X0 E H β G=>
 (h H0 X0 E H β (G.qB A iG fun _ k=>k.2)).mono fun a H' I=>by
  obtain⟨v,B',β',L,z,M,O⟩:=I;exact⟨v,B',β',L.more (l9 A iG),z,M,O⟩
theorem Qw(c:Nat){f:Nat}{s:BS}{d:Key}{l:List Nat}{op:bm}{r:List bl}(G:aN B c=some (.db f s))(I:s.born)(L:yW c W=false)(Y:mg W l fl=true)(h:VI T op VE B W fun v B'=>VQ T r ((d.n,v)::VE) B' (.off f::fl) Q):VQ T (⟨some d,none,some l,op⟩::r) VE B fl Q:=by
 intro H0 X0 E H β z bb M;obtain⟨N,a,H',e,O,v,B',β',U,A,Z,hq⟩:=uK h z;have k:rN H'.next B' β' (.off f) ⟨op.reads E,H'.ws,H.next,H'.next⟩:=by
  intro hm;obtain⟨b,t,k1,k2,k3,k4⟩:=O f hm;have:=z.inj b c t _ k2 G k3 I (k4.trans (z.pinned G I).symm);subst this;rw[KS k1] at L;cases L
 obtain⟨N2,E2,H2,e2,hp⟩:=hq H0 X0 _ _ β' (A.set Z) (⟨op.reads E,H'.ws,H.next,H'.next⟩::bb) ((M.step U).cons k);refine⟨max N N2,E2,H2,fun lf n a1 a2=>?_,hp.of U z.aQ⟩;show bl.ji (T.call lf n) ⟨some d,none,some l,op⟩ E H bb (iE (T.call lf n) r)=_;rw[uA,uB (e lf n aq aq) (xg M O Y)];exact e2 lf n aq aq
def Lg(f:Nat)(l:List Nat)(fl:List FL):Prop:=
 match l with
 |[]=>True
 |i::r=>(match fl[i]?with
  |some (.rd _)=>True
  |some .qt=>True
  |some (.off g)=>g=f
  |_=>False)∧Lg f r fl
theorem ZX{n f:Nat}{β:Nat→Nat}{bb:List FP}{fp:FP}(L:mI n B β fl bb)(O:fp.ws=[])(U:fp.rd=some [f]):∀{l:List Nat},Lg f l fl→ma fp bb l=true
 |[],_=>rfl
 |i::r,h=>by
  simp only[Lg] at h;obtain⟨hi,M⟩:=h;show ob (bb[i]?) false (fun b=>aD (mQ fp b) (ma fp bb r) false)=true;have G:i<bb.length:=by
   rw[L.1]
   cases z:fl[i]?with
   |none=>rw[z] at hi;exact hi.elim
   |some x=>exact(List.getElem?_eq_some_iff.1 z).1
  rw[dm G,cS];have I:i<fl.length:=by rw[←L.1];exact G
  have A:=L.2 i _ _ (dm I) (dm G);rw[dm I] at hi;have e:mQ fp bb[i]=true:=by
   have Y:f∉bb[i].ws:=by
    cases z:fl[i] with
    |un=>rw[z] at hi;exact hi.elim
    |wr _=>rw[z] at hi;exact hi.elim
    |qt=>rw[z] at A;have A:bb[i].ws=[]:=A;rw[A];intro h;cases h
    |rd R=>rw[z] at A;rw[A.1];intro h;cases h
    |off g=>rw[z] at A hi;have hi:g=f:=hi;subst hi;exact A
   unfold mQ;rw[O,U,P9,PW (fun x z Z=>by rcases List.mem_singleton.1 Z with rfl;exact Y z)];rfl
  rw[e,et];exact ZX L O U M
theorem aaG{d:Key}{l:List Nat}{op:bm}{r:List bl}(Y:mg W l fl=true)(h:VI T op VE B W fun v B'=>VQ T r ((d.n,v)::VE) B' (.wr W::fl) Q):VQ T (⟨some d,none,some l,op⟩::r) VE B fl Q:=by
 intro H0 X0 E H β z bb G;obtain⟨N,a,H',e,I,v,B',β',L,A,Z,hq⟩:=uK h z;have k:rN H.next B β (.wr W) ⟨op.reads E,H'.ws,H.next,H'.next⟩:=by
  intro f hm;obtain⟨b,t,k1,M,O,U⟩:=I f hm
  exact⟨by have:=(z.new b t M O).2;rw[U] at this;exact this,fun c s m1 m2 m3=>by
   have:=z.inj c b s t m1 M m2 O (m3.trans U.symm)
   rw[this];exact k1⟩
 obtain⟨N2,E2,H2,e2,hp⟩:=hq H0 X0 _ _ β' (A.set Z) (⟨op.reads E,H'.ws,H.next,H'.next⟩::bb) ((G.cons k).step L);refine⟨max N N2,E2,H2,fun lf n a1 a2=>?_,hp.of L z.aQ⟩;show bl.ji (T.call lf n) ⟨some d,none,some l,op⟩ E H bb (iE (T.call lf n) r)=_;rw[uA,uB (e lf n aq aq) (xg G I Y)];exact e2 lf n aq aq
def Oc(b:Nat)(l:List Nat)(fl:List FL):Bool:=
 match l with
 |[]=>true
 |i::r=>(match fl[i]?with
  |some (.rd _)=>true
  |some .qt=>true
  |some (.wr W)=>!yW b W
  |_=>false)&&Oc b r fl
theorem aaH{n b:Nat}{β:Nat→Nat}{s:BS}{bb:List FP}{fp:FP}(L:mI n B β fl bb)(U:aN B b=some s)(Y:s.born)(Z:fp.ws=[])(hr:fp.rd=some [β b]):∀{l:List Nat},Oc b l fl=true→ma fp bb l=true
 |[],_=>rfl
 |i::r,h=>by
  simp only[Oc,cU] at h;obtain⟨hi,M⟩:=h;show ob (bb[i]?) false (fun b=>aD (mQ fp b) (ma fp bb r) false)=true;have G:i<bb.length:=by
   rw[L.1]
   cases z:fl[i]?with
   |none=>rw[z] at hi;simp at hi
   |some x=>exact(List.getElem?_eq_some_iff.1 z).1
  rw[dm G,cS];have I:i<fl.length:=by rw[←L.1];exact G
  have A:=L.2 i _ _ (dm I) (dm G);rw[dm I] at hi;have e:mQ fp bb[i]=true:=by
   have hd:β b∉bb[i].ws:=by
    cases z:fl[i] with
    |un=>rw[z] at hi;simp at hi
    |off _=>rw[z] at hi;simp at hi
    |qt=>rw[z] at A;have A:bb[i].ws=[]:=A;rw[A];intro h;cases h
    |rd R=>rw[z] at A;rw[A.1];intro h;cases h
    |wr W=>rw[z] at A hi;intro O;have h2:=(A _ O).2 b s U Y rfl;have hi:(!yW b W)=true:=hi;rw[KS h2] at hi;simp at hi
   unfold mQ;rw[Z,hr,P9,PW (fun x z O=>by rcases List.mem_singleton.1 O with rfl;exact hd z)];rfl
  rw[e,et];exact aaH L U Y Z hr M
theorem Qf{d:Key}{l:List Nat}{n:Nat}{w:Bool}{a:aI}{b o:Nat}{s:BS}{r:List bl}(ha:a.vv VE=some (.vp b o))(O:aN B b=some s)(U:s.born)(hk:Oc b l fl=true)(h:VI T (.load n w a) VE B [] fun v B'=>VQ T r ((d.n,v)::VE) B' (.rd [b]::fl) Q):VQ T (⟨some d,none,some l,.load n w a⟩::r) VE B fl Q:=by
 intro H0 X0 E H β G bb M;obtain⟨N,v0,H',e,Z,v,B',β',hw,Y,hv,hq⟩:=uK h G;obtain⟨x,hx,I⟩:=G.bG ha;simp only[aG] at I;subst I;have z:H'=H.mark:=KJ hx (e N N (bt _) (bt _));have A:H.mark.ws=[]∧H.mark.next=H.next:=by cases H;exact⟨rfl,rfl⟩
 have L:(bm.load n w a).reads E=some [β b]:=by
  show some (fS (a.ev E))=_;rw[hx];rfl
 have k:rN H.next B β (.rd [b]) ⟨(bm.load n w a).reads E,H'.ws,H.next,H'.next⟩:=by
  refine⟨by rw[z];exact A.1,by show H.next=H'.next;rw[z];exact A.2.symm,[β b],L,fun f M=>?_⟩;rcases List.mem_singleton.1 M with rfl
  exact⟨(G.new b s O U).2,fun c t Z h2 h3=>List.mem_singleton.2 (G.inj c b t s Z O h2 U h3)⟩
 obtain⟨N2,E2,H2,e2,hp⟩:=hq H0 X0 _ _ β' (Y.set hv) (⟨(bm.load n w a).reads E,H'.ws,H.next,H'.next⟩::bb) ((M.cons k).step hw);refine⟨max N N2,E2,H2,fun lf n a1 a2=>?_,hp.of hw G.aQ⟩;show bl.ji (T.call lf n) ⟨some d,none,some l,_⟩ E H bb (iE (T.call lf n) r)=_;rw[uA,uB (e lf n aq aq) (aaH M O U (by show H'.ws=[];rw[z];exact A.1) L hk)];exact e2 lf n aq aq
theorem Qx{d:Key}{l:List Nat}{n:Nat}{w:Bool}{a:aI}{c o f:Nat}{s:BS}{r:List bl}(Z:a.vv VE=some (.vp c o))(hc:aN B c=some (.db f s))(hs:s.born)(hk:Lg f l fl)(h:VI T (.load n w a) VE B [] fun v B'=>VQ T r ((d.n,v)::VE) B' (.qt::fl) Q):VQ T (⟨some d,none,some l,.load n w a⟩::r) VE B fl Q:=by
 intro H0 X0 E H β I bb O;obtain⟨N,v0,H',e,h1,v,B',β',U,L,hv,hq⟩:=uK h I;obtain⟨x,Y,A⟩:=I.bG Z;simp only[aG] at A;subst A;have z:H'=H.mark:=KJ Y (e N N (bt _) (bt _));have M:H.mark.ws=[]:=by cases H;rfl
 have G:H'.ws=[]:=by rw[z];exact M
 obtain⟨N2,E2,H2,e2,hp⟩:=hq H0 X0 _ _ β' (L.set hv) (⟨(bm.load n w a).reads E,H'.ws,H.next,H'.next⟩::bb) ((O.step U).cons (x:=.qt) G);refine⟨max N N2,E2,H2,fun lf n a1 a2=>?_,hp.of U I.aQ⟩;show bl.ji (T.call lf n) ⟨some d,none,some l,_⟩ E H bb (iE (T.call lf n) r)=_;rw[uA,uB (e lf n aq aq) (ZX O G (by show some (fS (a.ev E))=_;rw[Y,I.pinned hc hs];rfl) hk)];exact e2 lf n aq aq
end
theorem Od{p q r:Ty}{a b c:DC}(h:fK [p,q,r] [a,b,c]):p.ok a∧q.ok b∧r.ok c:=by
 simp only[fK] at h;obtain⟨d,l,e,z,d2,L,A,h2,d3,M,G,I,O⟩:=h
 cases e;cases A;cases G
 exact⟨z,h2,I⟩
def nH(w:aj)(f n:Nat):Prop:=∃v l,w[w.length-1]?=some [v,.raw f n 2,l]
theorem nH.step{R w' z:aj}{i j f n:Nat}{a b c l:DC}{r':List DC}(I:w'=R.set i (qA [a,b,c] 1 [.raw f n 2]))(h2:z=w'.set j (qA r' 2 [l]))(G:w'[j]?=some r')(L:(i:Int)=(R.length:Int) -1)(M:(j:Int)=(R.length:Int) -1):nH z f n:=by
 have hi:i<R.length:=by omega
 have A:j=i:=by omega
 subst A;subst I;rw[afM hi] at G
 cases G
 subst h2;have e:j=R.length-1:=by omega
 refine⟨a,l,?_⟩;rw[mU,mU,←e,afM (by rw[mU];exact hi)];rfl
theorem iS{w:aj}{r:List DC}:(w++[r])[w.length]?=some r:=by simp
theorem abz:∀a:List UInt8,Op.bytesLess a a=false
 |[]=>rfl
 |x::r=>by simp[Op.bytesLess,abz r]
theorem vi_ltSS{T:aO}{VE:bq}{B:aU}{Q:VV→aU→Prop}{op:BinOp}{x y:aI}{a:List UInt8}(G:x.vv VE=some (.d (al a)))(I:y.vv VE=some (.d (al a)))(ho:op= .lss∨op= .gtr)(L:Q (.d (.b false)) B):VI T (.bin op x y) VE B [] Q:=fun _ _ _ _ _ z=>by
 have A:strLt a.length (pack a) a.length (pack a)=false:=by rw[PL];exact abz a
 have M:BJ op (.str a.length (pack a)) (.str a.length (pack a))=some (.bool false):=by
  rcases ho with rfl|rfl
  ·show some (ak.bool (strLt a.length (pack a) a.length (pack a)))=_;rw[A]
  show some (ak.bool (strLt a.length (pack a) a.length (pack a)))=_;rw[A]
 exact xj (z.str G) (z.str I) (v:=.bool false) M (dC z (v:=.d (.b false)) (by simp only[aG,bK]) L)
def fB(R:List DC→List DC→Prop)(w w':aj):Prop:=w.length=w'.length∧∀(q:Nat)r r',w[q]?=some r→w'[q]?=some r'→R r r'
mutual
def j'.ty:j'→Ty
 |.i k=>.i k k.min k.max
 |.b=>.b
 |.s=>.s maxLen
 |.sl row=>.l maxLen (Uf row)
def Uf:List j'→List Ty
 |[]=>[]
 |p::ps=>p.ty::Uf ps
end
mutual
theorem fits_ok:∀{p:j'}{d:DC},p.fits d→p.ty.ok d
 |.i k,d,h=>by
  simp only[j'.fits] at h;obtain⟨n,rfl,z⟩:=h;have h2:k.min≤n∧n≤k.max:=by simpa[Lit.wf] using z
  exact dP h2.1 h2.2
 |.b,d,h=>by
  simp only[j'.fits] at h;obtain⟨n,rfl⟩:=h;exact eb
 |.s,d,h=>by
  simp only[j'.fits] at h;obtain⟨s,rfl,h2⟩:=h;exact bC h2
 |.sl row,d,h=>by
  simp only[j'.fits] at h;rcases h with rfl|⟨rows,rfl,h2,A⟩
  ·exact gv
  exact ok_sl h2 fun r G=>Zi (A r G)
theorem Zi:∀{ps:List j'}{l:List DC},ju ps l→fK (Uf ps) l
 |[],l,h=>by
  simp only[ju] at h;subst h;exact bf
 |p::ps,l,h=>by
  simp only[ju] at h;obtain⟨d,r,rfl,z,h2⟩:=h;exact ah (fits_ok z) (Zi h2)
end
end Go.Ev
namespace Go.Ev.Pp
open Go Go.Proofs
@[reducible] def aX(f:Func)(x:aR)(_h:yV Tryz.prog f=some x:=by conv=>lhs;reduce):aR:=x
def i4:aR:=aX Tryz.f4 _
def i5:aR:=aX Tryz.f5 _
def i6:aR:=aX Tryz.f6 _
def i7:aR:=aX Tryz.f7 _
def i11:aR:=aX Tryz.f11 _
def i12:aR:=aX Tryz.f12 _
def i13:aR:=aX Tryz.f13 _
def i14:aR:=aX Tryz.f14 _
def i15:aR:=aX Tryz.f15 _
def i16:aR:=aX Tryz.f16 _
def i17:aR:=aX Tryz.f17 _
def i18:aR:=aX Tryz.f18 _
def i19:aR:=aX Tryz.f19 _
def i20:aR:=aX Tryz.f20 _
def i21:aR:=aX Tryz.f21 _
def i22:aR:=aX Tryz.f22 _
def i23:aR:=aX Tryz.f23 _
def i26:aR:=aX Tryz.f26 _
def i27:aR:=aX Tryz.f27 _
def i29:aR:=aX Tryz.f29 _
def i30:aR:=aX Tryz.f30 _
def i31:aR:=aX Tryz.f31 _
def i32:aR:=aX Tryz.f32 _
def i33:aR:=aX Tryz.f33 _
def i34:aR:=aX Tryz.f34 _
def i35:aR:=aX Tryz.f35 _
def i36:aR:=aX Tryz.f36 _
def i37:aR:=aX Tryz.f37 _
def i38:aR:=aX Tryz.f38 _
def i39:aR:=aX Tryz.f39 _
def i40:aR:=aX Tryz.f40 _
def i41:aR:=aX Tryz.f41 _
def i42:aR:=aX Tryz.f42 _
def i43:aR:=aX Tryz.f43 _
def i44:aR:=aX Tryz.f44 _
def i55:aR:=aX Tryz.f55 _
def i56:aR:=aX Tryz.f56 _
def i57:aR:=aX Tryz.f57 _
def i58:aR:=aX Tryz.f58 _
def i59:aR:=aX Tryz.f59 _
def i60:aR:=aX Tryz.f60 _
def i61:aR:=aX Tryz.f61 _
def i62:aR:=aX Tryz.f62 _
def i63:aR:=aX Tryz.f63 _
def i64:aR:=aX Tryz.f64 _
def i65:aR:=aX Tryz.f65 _
def i66:aR:=aX Tryz.f66 _
def i67:aR:=aX Tryz.f67 _
def i68:aR:=aX Tryz.f68 _
def i69:aR:=aX Tryz.f69 _
def i70:aR:=aX Tryz.f70 _
def i71:aR:=aX Tryz.f71 _
def i72:aR:=aX Tryz.f72 _
def i73:aR:=aX Tryz.f73 _
def i74:aR:=aX Tryz.f74 _
def i75:aR:=aX Tryz.f75 _
def i76:aR:=aX Tryz.f76 _
def i77:aR:=aX Tryz.f77 _
def i78:aR:=aX Tryz.f78 _
open Go Go.Proofs
def i79:aR:=aX Tryz.f79 _
def i80:aR:=aX Tryz.f80 _
def i81:aR:=aX Tryz.f81 _
def i82:aR:=aX Tryz.f82 _
def i83:aR:=aX Tryz.f83 _
def i84:aR:=aX Tryz.f84 _
def i85:aR:=aX Tryz.f85 _
def i86:aR:=aX Tryz.f86 _
def i87:aR:=aX Tryz.f87 _
def i88:aR:=aX Tryz.f88 _
def i89:aR:=aX Tryz.f89 _
def i93:aR:=aX Tryz.f93 _
def i102:aR:=aX Tryz.f102 _
def i118:aR:=aX Tryz.f118 _
def i119:aR:=aX Tryz.f119 _
def i120:aR:=aX Tryz.f120 _
def i121:aR:=aX Tryz.f121 _
def i122:aR:=aX Tryz.f122 _
def i123:aR:=aX Tryz.f123 _
def i124:aR:=aX Tryz.f124 _
def i125:aR:=aX Tryz.f125 _
def i126:aR:=aX Tryz.f126 _
def i127:aR:=aX Tryz.f127 _
def i128:aR:=aX Tryz.f128 _
def i129:aR:=aX Tryz.f129 _
def i130:aR:=aX Tryz.f130 _
def i131:aR:=aX Tryz.f131 _
def i132:aR:=aX Tryz.f132 _
def i133:aR:=aX Tryz.f133 _
def i134:aR:=aX Tryz.f134 _
def i135:aR:=aX Tryz.f135 _
def i136:aR:=aX Tryz.f136 _
def i137:aR:=aX Tryz.f137 _
def i138:aR:=aX Tryz.f138 _
def i139:aR:=aX Tryz.f139 _
def i140:aR:=aX Tryz.f140 _
def i141:aR:=aX Tryz.f141 _
def i142:aR:=aX Tryz.f142 _
def i143:aR:=aX Tryz.f143 _
def i144:aR:=aX Tryz.f144 _
def i145:aR:=aX Tryz.f145 _
def i146:aR:=aX Tryz.f146 _
def i147:aR:=aX Tryz.f147 _
def i148:aR:=aX Tryz.f148 _
def i149:aR:=aX Tryz.f149 _
def i150:aR:=aX Tryz.f150 _
def i151:aR:=aX Tryz.f151 _
def i152:aR:=aX Tryz.f152 _
def i153:aR:=aX Tryz.f153 _
def i154:aR:=aX Tryz.f154 _
def i155:aR:=aX Tryz.f155 _
def i156:aR:=aX Tryz.f156 _
def i210:aR:=aX Tryz.f210 _
def i212:aR:=aX Tryz.f212 _
def i213:aR:=aX Tryz.f213 _
def i214:aR:=aX Tryz.f214 _
def i215:aR:=aX Tryz.f215 _
def i216:aR:=aX Tryz.f216 _
def i223:aR:=aX Tryz.f223 _
open Go Go.Proofs
def i224:aR:=aX Tryz.f224 _
def i225:aR:=aX Tryz.f225 _
def i226:aR:=aX Tryz.f226 _
def i227:aR:=aX Tryz.f227 _
def i228:aR:=aX Tryz.f228 _
def i229:aR:=aX Tryz.f229 _
def i230:aR:=aX Tryz.f230 _
def i231:aR:=aX Tryz.f231 _
def i232:aR:=aX Tryz.f232 _
def i233:aR:=aX Tryz.f233 _
def i234:aR:=aX Tryz.f234 _
def i235:aR:=aX Tryz.f235 _
def i318:aR:=aX Tryz.f318 _
def i319:aR:=aX Tryz.f319 _
def i320:aR:=aX Tryz.f320 _
def i321:aR:=aX Tryz.f321 _
def i322:aR:=aX Tryz.f322 _
def i323:aR:=aX Tryz.f323 _
def i324:aR:=aX Tryz.f324 _
def i325:aR:=aX Tryz.f325 _
def i326:aR:=aX Tryz.f326 _
def i327:aR:=aX Tryz.f327 _
def i328:aR:=aX Tryz.f328 _
def i329:aR:=aX Tryz.f329 _
def i330:aR:=aX Tryz.f330 _
def i331:aR:=aX Tryz.f331 _
def i332:aR:=aX Tryz.f332 _
def i333:aR:=aX Tryz.f333 _
def i334:aR:=aX Tryz.f334 _
def i335:aR:=aX Tryz.f335 _
def i342:aR:=aX Tryz.f342 _
def i344:aR:=aX Tryz.f344 _
def i345:aR:=aX Tryz.f345 _
def i346:aR:=aX Tryz.f346 _
def i347:aR:=aX Tryz.f347 _
def i348:aR:=aX Tryz.f348 _
def i349:aR:=aX Tryz.f349 _
def i350:aR:=aX Tryz.f350 _
def i382:aR:=aX Tryz.f382 _
def i407:aR:=aX Tryz.f407 _
def i408:aR:=aX Tryz.f408 _
def i409:aR:=aX Tryz.f409 _
def i410:aR:=aX Tryz.f410 _
def i411:aR:=aX Tryz.f411 _
def i412:aR:=aX Tryz.f412 _
def i413:aR:=aX Tryz.f413 _
def i414:aR:=aX Tryz.f414 _
def i415:aR:=aX Tryz.f415 _
def i416:aR:=aX Tryz.f416 _
def i417:aR:=aX Tryz.f417 _
def i418:aR:=aX Tryz.f418 _
def i419:aR:=aX Tryz.f419 _
def i420:aR:=aX Tryz.f420 _
def i421:aR:=aX Tryz.f421 _
def i422:aR:=aX Tryz.f422 _
def i423:aR:=aX Tryz.f423 _
def i424:aR:=aX Tryz.f424 _
def i425:aR:=aX Tryz.f425 _
def i426:aR:=aX Tryz.f426 _
open Go Go.Proofs
def i427:aR:=aX Tryz.f427 _
def i428:aR:=aX Tryz.f428 _
def i429:aR:=aX Tryz.f429 _
def i434:aR:=aX Tryz.f434 _
def i435:aR:=aX Tryz.f435 _
def i500:aR:=aX Tryz.f500 _
def i501:aR:=aX Tryz.f501 _
def i502:aR:=aX Tryz.f502 _
def i503:aR:=aX Tryz.f503 _
def i504:aR:=aX Tryz.f504 _
def i505:aR:=aX Tryz.f505 _
def i506:aR:=aX Tryz.f506 _
def i507:aR:=aX Tryz.f507 _
def i508:aR:=aX Tryz.f508 _
def i509:aR:=aX Tryz.f509 _
def i510:aR:=aX Tryz.f510 _
def i511:aR:=aX Tryz.f511 _
def i512:aR:=aX Tryz.f512 _
def i514:aR:=aX Tryz.f514 _
def i515:aR:=aX Tryz.f515 _
def i516:aR:=aX Tryz.f516 _
def i517:aR:=aX Tryz.f517 _
def i518:aR:=aX Tryz.f518 _
def i519:aR:=aX Tryz.f519 _
def i520:aR:=aX Tryz.f520 _
def i521:aR:=aX Tryz.f521 _
def i522:aR:=aX Tryz.f522 _
def i524:aR:=aX Tryz.f524 _
def i525:aR:=aX Tryz.f525 _
def i565:aR:=aX Tryz.f565 _
def i566:aR:=aX Tryz.f566 _
def i567:aR:=aX Tryz.f567 _
def i568:aR:=aX Tryz.f568 _
def i569:aR:=aX Tryz.f569 _
def i570:aR:=aX Tryz.f570 _
def i571:aR:=aX Tryz.f571 _
def i572:aR:=aX Tryz.f572 _
def i573:aR:=aX Tryz.f573 _
def i574:aR:=aX Tryz.f574 _
def i575:aR:=aX Tryz.f575 _
def i577:aR:=aX Tryz.f577 _
def i578:aR:=aX Tryz.f578 _
def i610:aR:=aX Tryz.f610 _
def i611:aR:=aX Tryz.f611 _
def i612:aR:=aX Tryz.f612 _
def i613:aR:=aX Tryz.f613 _
def i614:aR:=aX Tryz.f614 _
def i615:aR:=aX Tryz.f615 _
def i616:aR:=aX Tryz.f616 _
def i630:aR:=aX Tryz.f630 _
def i631:aR:=aX Tryz.f631 _
def i635:aR:=aX Tryz.f635 _
def i636:aR:=aX Tryz.f636 _
def i638:aR:=aX Tryz.f638 _
def i640:aR:=aX Tryz.f640 _
def i642:aR:=aX Tryz.f642 _
def i645:aR:=aX Tryz.f645 _
def i648:aR:=aX Tryz.f648 _
def i343:aR:={nt:=60,ps:=[mE,ow,i3],res:=[.tmp lU],body:=
 (.seq (.region false [⟨some jn,none,none,.box 109 3 40 (.t mE)⟩,
 ⟨some gD,none,none,.box 109 3 40 (.t ow)⟩,
 ⟨some lU,none,none,.cj (.c (.bool false))⟩])
 (.seq (.seq (.region false [⟨some ug,none,none,.dM (.t jn) 0⟩,
 ⟨some tD,none,none,.dM (.t ug) 1⟩,
 ⟨some lL,none,none,.load 1 false (.t tD)⟩,
 ⟨some m9,none,none,.dM (.t gD) 0⟩,
 ⟨some tE,none,none,.dM (.t m9) 0⟩,
 ⟨some tF,none,none,.load 1 false (.t tE)⟩,
 ⟨some tG,none,none,.bin .neq (.t lL) (.t tF)⟩])
 (.cond (.t tG)
 (.seq (.region false [⟨some lU,none,none,.cj (.c (.bool false))⟩])
 .ret)
 .skip))
 (.seq (.seq (.region false [⟨some nk,none,none,.cj (.c (.int .i64 (.ofNat 0)))⟩])
 (.block 0 (.loop (.seq (.seq (.region false [⟨some tH,none,none,.cj (.t nk)⟩,
  ⟨some na,none,none,.dM (.t gD) 2⟩,
  ⟨some tI,none,none,.load 1 false (.t na)⟩,
  ⟨some nc,none,none,.len (.t tI)⟩,
  ⟨some tK,none,none,.bin .lss (.t tH) (.t nc)⟩])
  (.cond (.t tK)
  .skip
  (.exit 0)))
  (.seq (.block 1 (.seq (.region true [⟨some tN,none,some [],.load 3 true (.t jn)⟩,
   ⟨some tO,none,none,.dM (.t gD) 2⟩,
   ⟨some kJ,none,some [0],.load 1 false (.t tO)⟩,
   ⟨some n7,none,none,.cj (.t nk)⟩,
   ⟨some yD,none,none,.gQ 3 (.t kJ) (.t n7)⟩,
   ⟨some jS,none,none,.dM (.t yD) 0⟩,
   ⟨some yE,none,some [1],.load 1 false (.t jS)⟩,
   ⟨some yF,none,some [],.call 141 [(.t tN),(.t yE)]⟩,
   ⟨some qL,none,none,.cj (.t yF)⟩])
  (.seq (.region true [⟨some o7,none,none,.cj (.t qL)⟩,
   ⟨some yG,none,none,.bin .lss (.t o7) (.c (.int .i64 (.ofNat 0)))⟩,
   ⟨some mw,none,none,.cj (.t yG)⟩,
   ⟨some n9,some (mw,true),none,.dM (.t gD) 2⟩,
   ⟨some yH,some (mw,true),some [],.load 1 false (.t n9)⟩,
   ⟨some yI,some (mw,true),none,.cj (.t nk)⟩,
   ⟨some yJ,some (mw,true),none,.gQ 3 (.t yH) (.t yI)⟩,
   ⟨some o8,some (mw,true),none,.dM (.t yJ) 0⟩,
   ⟨some yK,some (mw,true),some [],.load 1 false (.t o8)⟩,
   ⟨some yL,some (mw,true),none,.cj (.t i3)⟩,
   ⟨some yM,some (mw,true),none,.bin .leq (.t yK) (.t yL)⟩,
   ⟨some o9,none,none,.pick (.t mw) (.t yM) (.c (.bool false))⟩,
   ⟨some tP,none,none,.cj (.t o9)⟩,
   ⟨some Ep,some (tP,false),none,.cj (.t qL)⟩,
   ⟨some Er,some (tP,false),none,.bin .geq (.t Ep) (.c (.int .i64 (.ofNat 0)))⟩,
   ⟨some lM,some (tP,false),none,.cj (.t Er)⟩,
   ⟨some Et,some (lM,true),none,.dM (.t jn) 2⟩,
   ⟨some Eu,some (lM,true),some [],.load 1 false (.t Et)⟩,
   ⟨some Ew,some (lM,true),none,.cj (.t qL)⟩,
   ⟨some NQ,some (lM,true),none,.gQ 3 (.t Eu) (.t Ew)⟩,
   ⟨some rL,some (lM,true),some [],.load 3 true (.t NQ)⟩,
   ⟨some NR,some (lM,true),none,.dM (.t gD) 2⟩,
   ⟨some NS,some (lM,true),some [0,1],.load 1 false (.t NR)⟩,
   ⟨some NT,some (lM,true),none,.cj (.t nk)⟩,
   ⟨some NU,some (lM,true),none,.gQ 3 (.t NS) (.t NT)⟩,
   ⟨some NV,some (lM,true),some [1,2],.load 3 true (.t NU)⟩,
   ⟨some NW,some (lM,true),none,.eqv (.agg [3,101,3]) true (.t rL) (.t NV)⟩,
   ⟨some NX,some (tP,false),none,.pick (.t lM) (.t NW) (.c (.bool false))⟩,
   ⟨some NY,none,none,.pick (.t tP) (.c (.bool true)) (.t NX)⟩])
  (.cond (.t NY)
   (.seq (.region false [⟨some lU,none,none,.cj (.c (.bool false))⟩])
   .ret)
   .skip))))
  (.region false [⟨some tL,none,none,.cj (.t nk)⟩,
  ⟨some tM,none,none,.bin .add (.t tL) (.c (.int .i64 (.ofNat 1)))⟩,
  ⟨some nk,none,none,.cj (.t tM)⟩]))))))
 (.seq (.region false [⟨some lU,none,none,.cj (.c (.bool true))⟩])
 .ret))))}
def i209:aR:={nt:=50,ps:=[mE,ow],res:=[.tmp gD],body:=
 (.seq (.region false [⟨some i3,none,none,.box 121 3 32 (.t mE)⟩,
 ⟨some jn,none,none,.box 121 3 32 (.t ow)⟩,
 ⟨some gD,none,none,.cj (.c (.int .i64 (.ofNat 0)))⟩])
 (.seq (.block 0 (.seq (.region false [⟨some lU,none,none,.dM (.t i3) 0⟩,
  ⟨some nk,none,none,.load 1 false (.t lU)⟩,
  ⟨some qL,none,none,.dM (.t jn) 0⟩,
  ⟨some ug,none,none,.load 1 false (.t qL)⟩,
  ⟨some tD,none,none,.bin .lss (.t nk) (.t ug)⟩,
  ⟨some lL,none,none,.cj (.t tD)⟩,
  ⟨some m9,some (lL,false),none,.dM (.t i3) 0⟩,
  ⟨some tE,some (lL,false),none,.load 1 false (.t m9)⟩,
  ⟨some tF,some (lL,false),none,.dM (.t jn) 0⟩,
  ⟨some tG,some (lL,false),none,.load 1 false (.t tF)⟩,
  ⟨some tH,some (lL,false),none,.bin .eql (.t tE) (.t tG)⟩,
  ⟨some na,some (lL,false),none,.cj (.t tH)⟩,
  ⟨some tI,some (na,true),none,.dM (.t i3) 1⟩,
  ⟨some nc,some (na,true),none,.load 1 false (.t tI)⟩,
  ⟨some tK,some (na,true),none,.dM (.t jn) 1⟩,
  ⟨some tL,some (na,true),none,.load 1 false (.t tK)⟩,
  ⟨some tM,some (na,true),none,.bin .lss (.t nc) (.t tL)⟩,
  ⟨some tN,some (lL,false),none,.pick (.t na) (.t tM) (.c (.bool false))⟩,
  ⟨some tO,none,none,.pick (.t lL) (.c (.bool true)) (.t tN)⟩,
  ⟨some kJ,none,none,.cj (.t tO)⟩,
  ⟨some n7,some (kJ,false),none,.dM (.t i3) 0⟩,
  ⟨some yD,some (kJ,false),none,.load 1 false (.t n7)⟩,
  ⟨some jS,some (kJ,false),none,.dM (.t jn) 0⟩,
  ⟨some yE,some (kJ,false),none,.load 1 false (.t jS)⟩,
  ⟨some yF,some (kJ,false),none,.bin .eql (.t yD) (.t yE)⟩,
  ⟨some o7,some (kJ,false),none,.cj (.t yF)⟩,
  ⟨some yG,some (o7,true),none,.dM (.t i3) 1⟩,
  ⟨some mw,some (o7,true),none,.load 1 false (.t yG)⟩,
  ⟨some n9,some (o7,true),none,.dM (.t jn) 1⟩,
  ⟨some yH,some (o7,true),none,.load 1 false (.t n9)⟩,
  ⟨some yI,some (o7,true),none,.bin .eql (.t mw) (.t yH)⟩,
  ⟨some yJ,some (kJ,false),none,.pick (.t o7) (.t yI) (.c (.bool false))⟩,
  ⟨some o8,some (kJ,false),none,.cj (.t yJ)⟩,
  ⟨some yK,some (o8,true),none,.dM (.t i3) 2⟩,
  ⟨some yL,some (o8,true),none,.load 1 false (.t yK)⟩,
  ⟨some yM,some (o8,true),none,.dM (.t jn) 2⟩,
  ⟨some o9,some (o8,true),none,.load 1 false (.t yM)⟩,
  ⟨some tP,some (o8,true),none,.bin .lss (.t yL) (.t o9)⟩,
  ⟨some Ep,some (kJ,false),none,.pick (.t o8) (.t tP) (.c (.bool false))⟩,
  ⟨some Er,none,none,.pick (.t kJ) (.c (.bool true)) (.t Ep)⟩,
  ⟨some jo,none,none,.cj (.t Er)⟩])
 (.cond (.t jo)
  (.seq (.region false [⟨some gD,none,none,.cj (.c (.int .i64 (.negSucc 0)))⟩])
  .ret)
  (.seq (.region false [⟨some Et,none,none,.load 3 true (.t i3)⟩,
  ⟨some Eu,none,none,.load 3 true (.t jn)⟩,
  ⟨some Ew,none,none,.eqv (.agg [3,3,101]) false (.t Et) (.t Eu)⟩,
  ⟨some lM,none,none,.cj (.t Ew)⟩])
  (.cond (.t lM)
  (.seq (.region false [⟨some gD,none,none,.cj (.c (.int .i64 (.ofNat 0)))⟩])
  .ret)
  .skip)))))
 (.seq (.region false [⟨some gD,none,none,.cj (.c (.int .i64 (.ofNat 1)))⟩])
 .ret)))}
def i513:aR:={nt:=96,ps:=[mE,ow],res:=[.tmp gD],body:=
 (.seq (.region false [⟨some i3,none,none,.box 203 7 120 (.t mE)⟩,
 ⟨some jn,none,none,.box 203 7 120 (.t ow)⟩,
 ⟨some gD,none,none,.cj (.c (.bool false))⟩])
 (.seq (.seq (.region false [⟨some nk,none,none,.dM (.t i3) 0⟩,
 ⟨some qL,none,none,.load 1 false (.t nk)⟩,
 ⟨some ug,none,none,.dM (.t jn) 0⟩,
 ⟨some tD,none,none,.load 1 false (.t ug)⟩,
 ⟨some lL,none,none,.eqv .bool true (.t qL) (.t tD)⟩,
 ⟨some m9,none,none,.cj (.t lL)⟩,
 ⟨some tE,some (m9,false),none,.dM (.t i3) 4⟩,
 ⟨some tF,some (m9,false),none,.load 1 false (.t tE)⟩,
 ⟨some tG,some (m9,false),none,.dM (.t jn) 4⟩,
 ⟨some tH,some (m9,false),none,.load 1 false (.t tG)⟩,
 ⟨some na,some (m9,false),none,.bin .neq (.t tF) (.t tH)⟩,
 ⟨some tI,none,none,.pick (.t m9) (.c (.bool true)) (.t na)⟩,
 ⟨some nc,none,none,.cj (.t tI)⟩,
 ⟨some tK,some (nc,false),none,.dM (.t i3) 5⟩,
 ⟨some tL,some (nc,false),none,.load 1 false (.t tK)⟩,
 ⟨some tM,some (nc,false),none,.dM (.t jn) 5⟩,
 ⟨some tN,some (nc,false),none,.load 1 false (.t tM)⟩,
 ⟨some tO,some (nc,false),none,.eqv .bool true (.t tL) (.t tN)⟩,
 ⟨some kJ,none,none,.pick (.t nc) (.c (.bool true)) (.t tO)⟩,
 ⟨some n7,none,none,.cj (.t kJ)⟩,
 ⟨some yD,some (n7,false),none,.dM (.t i3) 6⟩,
 ⟨some jS,some (n7,false),none,.load 1 false (.t yD)⟩,
 ⟨some yE,some (n7,false),none,.dM (.t jn) 6⟩,
 ⟨some yF,some (n7,false),none,.load 1 false (.t yE)⟩,
 ⟨some o7,some (n7,false),none,.call 27 [(.t jS),(.t yF)]⟩,
 ⟨some yG,some (n7,false),none,.un .not (.t o7)⟩,
 ⟨some mw,none,none,.pick (.t n7) (.c (.bool true)) (.t yG)⟩,
 ⟨some n9,none,none,.cj (.t mw)⟩,
 ⟨some yH,some (n9,false),none,.dM (.t i3) 1⟩,
 ⟨some yI,some (n9,false),none,.load 1 false (.t yH)⟩,
 ⟨some yJ,some (n9,false),none,.dM (.t jn) 1⟩,
 ⟨some o8,some (n9,false),none,.load 1 false (.t yJ)⟩,
 ⟨some yK,some (n9,false),none,.call 576 [(.t yI),(.t o8)]⟩,
 ⟨some yL,some (n9,false),none,.un .not (.t yK)⟩,
 ⟨some yM,none,none,.pick (.t n9) (.c (.bool true)) (.t yL)⟩,
 ⟨some o9,none,none,.cj (.t yM)⟩,
 ⟨some tP,some (o9,false),none,.dM (.t i3) 2⟩,
 ⟨some Ep,some (o9,false),none,.load 1 false (.t tP)⟩,
 ⟨some Er,some (o9,false),none,.len (.t Ep)⟩,
 ⟨some lM,some (o9,false),none,.dM (.t jn) 2⟩,
 ⟨some Et,some (o9,false),none,.load 1 false (.t lM)⟩,
 ⟨some Eu,some (o9,false),none,.len (.t Et)⟩,
 ⟨some Ew,some (o9,false),none,.bin .neq (.t Er) (.t Eu)⟩,
 ⟨some NQ,none,none,.pick (.t o9) (.c (.bool true)) (.t Ew)⟩,
 ⟨some rL,none,none,.cj (.t NQ)⟩,
 ⟨some NR,some (rL,false),none,.dM (.t i3) 3⟩,
 ⟨some NS,some (rL,false),none,.load 1 false (.t NR)⟩,
 ⟨some NT,some (rL,false),none,.len (.t NS)⟩,
 ⟨some NU,some (rL,false),none,.dM (.t jn) 3⟩,
 ⟨some NV,some (rL,false),none,.load 1 false (.t NU)⟩,
 ⟨some NW,some (rL,false),none,.len (.t NV)⟩,
 ⟨some NX,some (rL,false),none,.bin .neq (.t NT) (.t NW)⟩,
 ⟨some NY,none,none,.pick (.t rL) (.c (.bool true)) (.t NX)⟩])
 (.cond (.t NY)
 (.seq (.region false [⟨some gD,none,none,.cj (.c (.bool false))⟩])
 .ret)
 .skip))
 (.seq (.seq (.region false [⟨some jo,none,none,.cj (.c (.int .i64 (.ofNat 0)))⟩])
 (.block 0 (.loop (.seq (.seq (.region false [⟨some ahP,none,none,.cj (.t jo)⟩,
  ⟨some ahQ,none,none,.dM (.t i3) 2⟩,
  ⟨some ahR,none,none,.load 1 false (.t ahQ)⟩,
  ⟨some ahS,none,none,.len (.t ahR)⟩,
  ⟨some ahT,none,none,.bin .lss (.t ahP) (.t ahS)⟩])
  (.cond (.t ahT)
  .skip
  (.exit 0)))
  (.seq (.block 1 (.seq (.region true [⟨some ahW,none,none,.dM (.t i3) 2⟩,
   ⟨some ahX,none,some [],.load 1 false (.t ahW)⟩,
   ⟨some ahY,none,none,.cj (.t jo)⟩,
   ⟨some ahZ,none,none,.gQ 3 (.t ahX) (.t ahY)⟩,
   ⟨some ah0,none,some [],.load 3 true (.t ahZ)⟩,
   ⟨some ah1,none,none,.dM (.t jn) 2⟩,
   ⟨some ah2,none,some [0,1],.load 1 false (.t ah1)⟩,
   ⟨some ah3,none,none,.cj (.t jo)⟩,
   ⟨some ah4,none,none,.gQ 3 (.t ah2) (.t ah3)⟩,
   ⟨some ah5,none,some [1,2],.load 3 true (.t ah4)⟩,
   ⟨some ah6,none,none,.eqv (.agg [3,3,101]) true (.t ah0) (.t ah5)⟩])
  (.cond (.t ah6)
   (.seq (.region false [⟨some gD,none,none,.cj (.c (.bool false))⟩])
   .ret)
   .skip)))
  (.region false [⟨some ahU,none,none,.cj (.t jo)⟩,
  ⟨some ahV,none,none,.bin .add (.t ahU) (.c (.int .i64 (.ofNat 1)))⟩,
  ⟨some jo,none,none,.cj (.t ahV)⟩]))))))
 (.seq (.seq (.region false [⟨some lU,none,none,.cj (.c (.int .i64 (.ofNat 0)))⟩])
 (.block 2 (.loop (.seq (.seq (.region false [⟨some ah7,none,none,.cj (.t lU)⟩,
  ⟨some ah8,none,none,.dM (.t i3) 3⟩,
  ⟨some ah9,none,none,.load 1 false (.t ah8)⟩,
  ⟨some aia,none,none,.len (.t ah9)⟩,
  ⟨some aib,none,none,.bin .lss (.t ah7) (.t aia)⟩])
  (.cond (.t aib)
  .skip
  (.exit 2)))
  (.seq (.block 3 (.seq (.region true [⟨some aie,none,none,.dM (.t i3) 3⟩,
   ⟨some aif,none,some [],.load 1 false (.t aie)⟩,
   ⟨some aih,none,none,.cj (.t lU)⟩,
   ⟨some aii,none,none,.gQ 4 (.t aif) (.t aih)⟩,
   ⟨some Vv,none,some [],.load 4 true (.t aii)⟩,
   ⟨some aij,none,none,.dM (.t jn) 3⟩,
   ⟨some aik,none,some [0,1],.load 1 false (.t aij)⟩,
   ⟨some ail,none,none,.cj (.t lU)⟩,
   ⟨some aim,none,none,.gQ 4 (.t aik) (.t ail)⟩,
   ⟨some ain,none,some [1,2],.load 4 true (.t aim)⟩,
   ⟨some aio,none,none,.eqv (.agg [100,101,101,3]) true (.t Vv) (.t ain)⟩])
  (.cond (.t aio)
   (.seq (.region false [⟨some gD,none,none,.cj (.c (.bool false))⟩])
   .ret)
   .skip)))
  (.region false [⟨some aic,none,none,.cj (.t lU)⟩,
  ⟨some aid,none,none,.bin .add (.t aic) (.c (.int .i64 (.ofNat 1)))⟩,
  ⟨some lU,none,none,.cj (.t aid)⟩]))))))
 (.seq (.region false [⟨some gD,none,none,.cj (.c (.bool true))⟩])
 .ret)))))}
def i576:aR:={nt:=26,ps:=[mE,ow],res:=[.tmp gD],body:=
 (.seq (.region false [⟨some gD,none,none,.cj (.c (.bool false))⟩])
 (.seq (.seq (.region false [⟨some lU,none,none,.cj (.t mE)⟩,
 ⟨some nk,none,none,.len (.t lU)⟩,
 ⟨some qL,none,none,.cj (.t ow)⟩,
 ⟨some ug,none,none,.len (.t qL)⟩,
 ⟨some tD,none,none,.bin .neq (.t nk) (.t ug)⟩])
 (.cond (.t tD)
 (.seq (.region false [⟨some gD,none,none,.cj (.c (.bool false))⟩])
 .ret)
 .skip))
 (.seq (.seq (.region false [⟨some jo,none,none,.cj (.c (.int .i64 (.ofNat 0)))⟩])
 (.block 0 (.loop (.seq (.seq (.region false [⟨some lL,none,none,.cj (.t jo)⟩,
  ⟨some m9,none,none,.cj (.t mE)⟩,
  ⟨some tE,none,none,.len (.t m9)⟩,
  ⟨some tF,none,none,.bin .lss (.t lL) (.t tE)⟩])
  (.cond (.t tF)
  .skip
  (.exit 0)))
  (.seq (.block 1 (.seq (.region true [⟨some na,none,none,.cj (.t mE)⟩,
   ⟨some tI,none,none,.cj (.t jo)⟩,
   ⟨some nc,none,none,.gQ 8 (.t na) (.t tI)⟩,
   ⟨some tK,none,some [],.load 8 true (.t nc)⟩,
   ⟨some tL,none,none,.cj (.t ow)⟩,
   ⟨some tM,none,none,.cj (.t jo)⟩,
   ⟨some tN,none,none,.gQ 8 (.t tL) (.t tM)⟩,
   ⟨some tO,none,some [0],.load 8 true (.t tN)⟩,
   ⟨some kJ,none,none,.eqv (.agg [3,3,3,101,101,3,3,101]) true (.t tK) (.t tO)⟩])
  (.cond (.t kJ)
   (.seq (.region false [⟨some gD,none,none,.cj (.c (.bool false))⟩])
   .ret)
   .skip)))
  (.region false [⟨some tG,none,none,.cj (.t jo)⟩,
  ⟨some tH,none,none,.bin .add (.t tG) (.c (.int .i64 (.ofNat 1)))⟩,
  ⟨some jo,none,none,.cj (.t tH)⟩]))))))
 (.seq (.region false [⟨some gD,none,none,.cj (.c (.bool true))⟩])
 .ret))))}
def i28:aR:={nt:=42,ps:=[mE,ow],res:=[.tmp gD],body:=
 (.seq (.region false [⟨some gD,none,none,.cj (.c (.bool false))⟩])
 (.seq (.seq (.region false [⟨some lU,none,none,.cj (.t mE)⟩,
 ⟨some nk,none,none,.len (.t lU)⟩,
 ⟨some qL,none,none,.cj (.t ow)⟩,
 ⟨some ug,none,none,.len (.t qL)⟩,
 ⟨some tD,none,none,.bin .neq (.t nk) (.t ug)⟩])
 (.cond (.t tD)
 (.seq (.region false [⟨some gD,none,none,.cj (.c (.bool false))⟩])
 .ret)
 .skip))
 (.seq (.seq (.region false [⟨some jo,none,none,.cj (.c (.int .i64 (.ofNat 0)))⟩])
 (.block 0 (.loop (.seq (.seq (.region false [⟨some lL,none,none,.cj (.t jo)⟩,
  ⟨some m9,none,none,.cj (.t mE)⟩,
  ⟨some tE,none,none,.len (.t m9)⟩,
  ⟨some tF,none,none,.bin .lss (.t lL) (.t tE)⟩])
  (.cond (.t tF)
  .skip
  (.exit 0)))
  (.seq (.block 1 (.seq (.region true [⟨some na,none,none,.cj (.t mE)⟩,
   ⟨some tI,none,none,.cj (.t jo)⟩,
   ⟨some nc,none,none,.gQ 4 (.t na) (.t tI)⟩,
   ⟨some tK,none,none,.dM (.t nc) 1⟩,
   ⟨some tL,none,some [],.load 2 true (.t tK)⟩,
   ⟨some tM,none,none,.cj (.t ow)⟩,
   ⟨some tN,none,none,.cj (.t jo)⟩,
   ⟨some tO,none,none,.gQ 4 (.t tM) (.t tN)⟩,
   ⟨some kJ,none,none,.dM (.t tO) 1⟩,
   ⟨some n7,none,some [0],.load 2 true (.t kJ)⟩,
   ⟨some yD,none,none,.eqv (.agg [3,3]) true (.t tL) (.t n7)⟩,
   ⟨some jS,none,none,.cj (.t yD)⟩,
   ⟨some yE,some (jS,false),none,.cj (.t mE)⟩,
   ⟨some yF,some (jS,false),none,.cj (.t jo)⟩,
   ⟨some o7,some (jS,false),none,.gQ 4 (.t yE) (.t yF)⟩,
   ⟨some yG,some (jS,false),some [],.load 4 true (.t o7)⟩,
   ⟨some mw,some (jS,false),some [],.call 58 [(.t yG)]⟩,
   ⟨some n9,some (jS,false),none,.cj (.t ow)⟩,
   ⟨some yH,some (jS,false),none,.cj (.t jo)⟩,
   ⟨some yI,some (jS,false),none,.gQ 4 (.t n9) (.t yH)⟩,
   ⟨some yJ,some (jS,false),some [0,1],.load 4 true (.t yI)⟩,
   ⟨some o8,some (jS,false),some [],.call 58 [(.t yJ)]⟩,
   ⟨some yK,some (jS,false),some [],.call 57 [(.t mw),(.t o8)]⟩,
   ⟨some yL,some (jS,false),none,.un .not (.t yK)⟩,
   ⟨some yM,none,none,.pick (.t jS) (.c (.bool true)) (.t yL)⟩])
  (.cond (.t yM)
   (.seq (.region false [⟨some gD,none,none,.cj (.c (.bool false))⟩])
   .ret)
   .skip)))
  (.region false [⟨some tG,none,none,.cj (.t jo)⟩,
  ⟨some tH,none,none,.bin .add (.t tG) (.c (.int .i64 (.ofNat 1)))⟩,
  ⟨some jo,none,none,.cj (.t tH)⟩]))))))
 (.seq (.region false [⟨some gD,none,none,.cj (.c (.bool true))⟩])
 .ret))))}
end Go.Ev.Pp
namespace Go.Ev
open Go
section
variable{T:aO}{VE:bq}{B:aU}{Q:VV→aU→Prop}
end
def BQ(k:Int)(w:aj)(p:List DC→Bool):Prop:=(w.take k.toNat).filter p=w.take k.toNat
theorem BQ.step{k:Int}{w:aj}{p:List DC→Bool}{a:Nat}{r:List DC}(h:BQ k w p)(z:k=a)(A:w[a]?=some r)(G:p r=true):BQ (k+1) w p:=by
 subst z;unfold BQ at h⊢;simp only[Vm] at h;rw[show((a:Int)+1).toNat=a+1 by omega,Be,A,List.filter_append,h];simp[G]
theorem BQ.all{k:Int}{w:aj}{p:List DC→Bool}(h:BQ k w p)(z:(w.length:Int)≤k):w.filter p=w:=by
 unfold BQ at h;rwa [o5 aq] at h
section
end
end Go.Ev
