/- Part 21 of rules for walks through the code of a program, and of such walks; what each part proves is said by its theorems. -/
import Derived.Test.YtmpoloiempjdpaaGreatR18
import Derived.Test.YtmpoloiempjdpaaGreatR19
import Derived.Test.YtmpoloiempjdpaaGreatR20
import Derived.Test.YtmpoloiempjdpaaGreatProg
set_option linter.unusedVariables false
set_option linter.unusedSimpArgs false
noncomputable section
set_option maxRecDepth 100000
set_option maxHeartbeats 4000000
namespace Go.Ev
open Go
def t5(id:Int)(w:ai):Prop:=∃(q:Nat)(row:List DC),w[q]?=some row∧row[0]?=some (.i .i64 id)∧row[5]?=some (.i .i64 1099511627776)
def lr(k id:Int)(w:ai):Prop:=∀(q:Nat)(row:List DC),(q:Int)<k→w[q]?=some row→row[0]?=some (.i .i64 id)→row[5]?=some (.i .i64 1099511627776)→False
theorem t5.mk{id a b:Int}{w:ai}{q:Nat}{row:List DC}(z:w[q]?=some row)(h0:row[0]?=some (.i .i64 a))(A:row[5]?=some (.i .i64 b))(G:a=id)(I:b=1099511627776):t5 id w:=⟨q,row,z,G▸h0,I▸A⟩
theorem agL{id:Int}{w:ai}:lr 0 id w:=fun q _ h=>by omega
theorem lr.agM{k id a:Int}{w:ai}{row:List DC}(h:lr k id w)(h0:0≤k)(G:w[k.toNat]?=some row)(I:row[0]?=some (.i .i64 a))(L:a≠id):lr (k+1) id w:=fun q r U z A M=>by
 by_cases O:(q:Int)<k
 ·exact h q r O z A M
 have:q=k.toNat:=by omega
 subst this;rw[G] at z;cases z;rw[I] at A;cases A;exact L aa
theorem lr.agN{k id a:Int}{w:ai}{row:List DC}(h:lr k id w)(h0:0≤k)(G:w[k.toNat]?=some row)(I:row[5]?=some (.i .i64 a))(L:a≠1099511627776):lr (k+1) id w:=fun q r U z M A=>by
 by_cases O:(q:Int)<k
 ·exact h q r O z M A
 have:q=k.toNat:=by omega
 subst this;rw[G] at z;cases z;rw[I] at A;cases A;exact L aa
theorem lr.all{k id:Int}{w:ai}(h:lr k id w)(I:(w.length:Int)≤k):lr w.length id w:=fun q r L z A G=>h q r al z A G
theorem find_ge{y id:Int}{w:ai}(A:(0≤y→t5 id w)∧(y<0→lr w.length id w))(G:t5 id w):0≤y:=by
 by_cases h:0≤y
 ·exact h
 obtain⟨q,row,z,I,L⟩:=G;have:=(List.getElem?_eq_some_iff.1 z).1;exact(A.2 al q row al z I L).elim
def vR(k:Int)(w wc:ai):Prop:=∀(p:Nat)(row:List DC)(id:Int),(p:Int)<k→wc[p]?=some row→row[0]?=some (.i .i64 id)→t5 id w
theorem allV_0{w wc:ai}:vR 0 w wc:=fun q _ _ h=>by omega
theorem vR.step{k id:Int}{w wc:ai}{row:List DC}(h:vR k w wc)(h0:0≤k)(G:wc[k.toNat]?=some row)(I:row[0]?=some (.i .i64 id))(L:t5 id w):vR (k+1) w wc:=fun q r i O z A=>by
 by_cases M:(q:Int)<k
 ·exact h q r i M z A
 have:q=k.toNat:=by omega
 subst this;rw[G] at z;cases z;rw[I] at A;cases A;exact L
theorem vR.get{k id:Int}{w wc:ai}{row:List DC}{q:Nat}(h:vR k w wc)(G:(wc.length:Int)≤k)(z:wc[q]?=some row)(A:row[0]?=some (.i .i64 id)):t5 id w:=by
 have:=(List.getElem?_eq_some_iff.1 z).1;exact h q row id al z A
section
variable{T:aM}{VE:bb}{B:aK}
theorem jH{b:Nat}{s s':BS}(A:aF B b=some s)(G:s'.born↔s.born):∀c t,aF ((b,s')::B) c=some t→t.born→∃u,aF B c=some u∧u.born:=fun c t z ho=>by
 rw[c7] at z
 by_cases k:b=c
 ·subst k;rw[bg rfl] at z;cases z;exact⟨s,A,G.1 ho⟩
 rw[aZ k] at z;exact⟨t,z,ho⟩
theorem Rel.nN{H0:Nat→Nat}{X0:Nat→Prop}{E:Env}{H:ax}{β:Nat→Nat}(h:Rel H0 X0 VE B E H β){b:Nat}{s s':BS}(Y:aF B b=some s)(Z:s'.born↔s.born)(L:∀X,db H X β (β b) s→db H X β (β b) s'):Rel H0 X0 VE ((b,s')::B) E H β:=by
 have I:=jH (B:=B) Y Z;have M:eP H (XB X0 B β) H (XB X0 ((b,s')::B) β):=⟨bf _,fun f _ hx=>⟨fun k=>hx (k.imp id fun⟨c,t,O,ho,h2⟩=>by obtain⟨u,A,G⟩:=I c t O ho;exact⟨c,u,A,G,h2⟩),rfl⟩⟩;refine⟨h.jD,h.aR,h.x0,fun c t z ho=>?_,fun c d t u z U hs ht he=>?_,fun k v hk=>?_,fun c t z=>?_⟩
 ·obtain⟨u,A,G⟩:=I c t z ho;exact h.new c u A G
 ·obtain⟨s1,A,G⟩:=I c t z hs;obtain⟨t1,k3,k4⟩:=I d u U ht;exact h.inj c d s1 t1 A k3 G k4 he
 ·obtain⟨a,O,h2⟩:=h.env k v hk;exact⟨a,O,h2.lift M⟩
 rw[c7] at z
 by_cases k:b=c
 ·subst k;rw[bg rfl] at z
  cases z
  exact L _ ((h.box b s Y).lift M aa)
 rw[aZ k] at z;exact(h.box c t z).lift M rfl
theorem Rel.slot{H0:Nat→Nat}{X0:Nat→Prop}{E:Env}{H:ax}{β:Nat→Nat}(h:Rel H0 X0 VE B E H β){k:Nat}{v v':VV}(A:aF VE k=some v)(G:∀a,aE H (XB X0 B β) β v a→aE H (XB X0 B β) β v' a):Rel H0 X0 ((k,v')::VE) B E H β:=by
 refine{h with env:=fun c w z=>?_};rw[c7] at z
 by_cases e:k=c.n
 ·rw[bg e] at z;cases z;subst e;obtain⟨a,I,h2⟩:=h.env c v A;exact⟨a,I,G a h2⟩
 rw[aZ e] at z;exact h.env c w z
theorem nf.nN{n:Nat}{β:Nat→Nat}{fl:List FL}{bd:List FP}{b:Nat}{s s':BS}(O:aF B b=some s)(U:s'.born↔s.born)(h:nf n B β fl bd):nf n ((b,s')::B) β fl bd:=
 ⟨h.1,fun i x r Y Z=>by
  have:=h.2 i x r Y Z
  cases x with
  |rd R=>obtain⟨a,e,l,c,d⟩:=this;exact⟨a,e,l,c,fun f z=>⟨(d f z).1,fun c t A G I=>by obtain⟨u,L,M⟩:=jH (B:=B) O U c t A G;exact(d f z).2 c u L M I⟩⟩
  |qt=>exact this
  |off _=>exact this
  |wr _=>exact fun f z=>⟨(this f z).1,fun c t A G I=>by obtain⟨u,L,M⟩:=jH (B:=B) O U c t A G;exact(this f z).2 c u L M I⟩
  |un=>trivial⟩
variable{ops:List bk}{c:IC}{fl:List FL}{Q:bb→aK→Prop}{R:Ex→bb→aK→Prop}
theorem Sg(b:Nat){s:BS}(z:aF B b=some s)(h:∀f,VO T ops VE ((b,.bP f s)::B) Q):VO T ops VE B Q:=
 fun H0 X0 E H β A=>(h (β b) H0 X0 E H β (A.nN z ga fun _ k=>⟨fun _=>rfl,k⟩)).mono fun _ _ G=>G.more (jH z ga)
theorem Sh(b:Nat){s:BS}(z:aF B b=some s)(h:∀f,VC T c VE ((b,.bP f s)::B) R):VC T c VE B R:=
 fun H0 X0 E H β A=>(h (β b) H0 X0 E H β (A.nN z ga fun _ k=>⟨fun _=>rfl,k⟩)).mono fun _ _ _ G=>G.more (jH z ga)
theorem ny(b:Nat){s:BS}(z:aF B b=some s)(h:∀f,VQ T ops VE ((b,.bP f s)::B) fl Q):VQ T ops VE B fl Q:=
 fun H0 X0 E H β A bd G=>(h (β b) H0 X0 E H β (A.nN z ga fun _ k=>⟨fun _=>rfl,k⟩) bd (G.nN z ga)).mono fun _ _ I=>I.more (jH z ga)
theorem KJ(b:Nat){f:Nat}{s:BS}(z:aF B b=some (.bP f s))(h:VO T ops VE ((b,s)::B) Q):VO T ops VE B Q:=
 fun H0 X0 E H β A=>(h H0 X0 E H β (A.nN z ga fun _ k=>k.2)).mono fun _ _ G=>G.more (jH z ga)
theorem KK(b:Nat){f:Nat}{s:BS}(z:aF B b=some (.bP f s))(h:VQ T ops VE ((b,s)::B) fl Q):VQ T ops VE B fl Q:=
 fun H0 X0 E H β A bd G=>(h H0 X0 E H β (A.nN z ga fun _ k=>k.2) bd (G.nN z ga)).mono fun _ _ I=>I.more (jH z ga)
theorem Rel.pinned{H0:Nat→Nat}{X0:Nat→Prop}{E:Env}{H:ax}{β:Nat→Nat}(h:Rel H0 X0 VE B E H β){b f:Nat}{s:BS}(z:aF B b=some (.bP f s))(ho:s.born):β b=f:=(h.box b _ z).1 ho
theorem Rel.rawA{H0:Nat→Nat}{X0:Nat→Prop}{E:Env}{H:ax}{β:Nat→Nat}(h:Rel H0 X0 VE B E H β){k b f n es elem aD e:Nat}{rows:ai}(A:aF VE k=some (.ac b n es))(G:aF B b=some (.bP f (.acc elem aD e rows)))(h0:0<n)(I:rows≠[]):Rel H0 X0 ((k,.d (.raw f n es))::VE) B E H β:=
 h.slot A fun a z=>by
  have e:=h.pinned G I;simp only[aE,bF] at z⊢;rcases z with⟨L,_⟩|⟨_,h2⟩
  ·omega
  rw[h2,e]
theorem Rel.rawB{H0:Nat→Nat}{X0:Nat→Prop}{E:Env}{H:ax}{β:Nat→Nat}(h:Rel H0 X0 VE B E H β){k b f n es elem aD e lo:Nat}{rows:ai}(A:aF VE k=some (.bs b n es))(G:aF B b=some (.bP f (.arr elem aD e lo rows))):Rel H0 X0 ((k,.d (.raw f n es))::VE) B E H β:=
 h.slot A fun a z=>by
  have e:=h.pinned G trivial;simp only[aE,bF] at z⊢;rw[z,e]
theorem Rel.unrawA{H0:Nat→Nat}{X0:Nat→Prop}{E:Env}{H:ax}{β:Nat→Nat}(h:Rel H0 X0 VE B E H β){k b f n es elem aD e:Nat}{rows:ai}(A:aF VE k=some (.d (.raw f n es)))(G:aF B b=some (.bP f (.acc elem aD e rows)))(h0:0<n)(I:rows≠[]):Rel H0 X0 ((k,.ac b n es)::VE) B E H β:=
 h.slot A fun a z=>by
  have e:=h.pinned G I;simp only[aE,bF] at z⊢;exact .inr ⟨h0,by rw[z,e]⟩
theorem rN(k b:Nat){f n es elem aD e:Nat}{rows:ai}(z:aF VE k=some (.ac b n es))(A:aF B b=some (.bP f (.acc elem aD e rows)))(h0:0<n)(G:rows≠[])(h:VQ T ops ((k,.d (.raw f n es))::VE) B fl Q):VQ T ops VE B fl Q:=
 fun H0 X0 E H β I bd L=>h H0 X0 E H β (I.rawA z A h0 G) bd L
theorem Fs(k b:Nat){f n es elem aD e:Nat}{rows:ai}(z:aF VE k=some (.d (.raw f n es)))(A:aF B b=some (.bP f (.acc elem aD e rows)))(h0:0<n)(G:rows≠[])(h:VQ T ops ((k,.ac b n es)::VE) B fl Q):VQ T ops VE B fl Q:=
 fun H0 X0 E H β I bd L=>h H0 X0 E H β (I.unrawA z A h0 G) bd L
end
section
variable{T:aM}{VE:bb}{B:aK}{W:List Nat}{fl:List FL}{Q:bb→aK→Prop}
theorem VI.Ur{op:bq}{b f:Nat}{s:BS}{Q:VV→aK→Prop}(A:aF B b=some (.bP f s))(h:VI T op VE ((b,s)::B) W Q):VI T op VE B W Q:=fun H0 X0 E H β G=>
 (h H0 X0 E H β (G.nN A ga fun _ k=>k.2)).mono fun a H' I=>by
  obtain⟨v,B',β',L,z,M,O⟩:=I;exact⟨v,B',β',L.more (jH A ga),z,M,O⟩
theorem QN(c:Nat){f:Nat}{s:BS}{d:Key}{l:List Nat}{op:bq}{r:List bk}(G:aF B c=some (.bP f s))(I:s.born)(L:yA c W=false)(Y:mL W l fl=true)(h:VI T op VE B W fun v B'=>VQ T r ((d.n,v)::VE) B' (.off f::fl) Q):VQ T (⟨some d,none,some l,op⟩::r) VE B fl Q:=by
 intro H0 X0 E H β z bd M;obtain⟨N,a,H',e,O,v,B',β',U,A,Z,hq⟩:=uR h z;have k:sk H'.next B' β' (.off f) ⟨op.reads E,H'.ws,H.next,H'.next⟩:=by
  intro hm;obtain⟨b,t,k1,k2,k3,k4⟩:=O f hm;have:=z.inj b c t _ k2 G k3 I (k4.trans (z.pinned G I).symm);subst this;rw[KF k1] at L;cases L
 obtain⟨N2,E2,H2,e2,hp⟩:=hq H0 X0 _ _ β' (A.set Z) (⟨op.reads E,H'.ws,H.next,H'.next⟩::bd) ((M.step U).cons k);refine⟨max N N2,E2,H2,fun lf n a1 a2=>?_,hp.of U z.aR⟩;show bk.jq (T.call lf n) ⟨some d,none,some l,op⟩ E H bd (iM (T.call lf n) r)=_;rw[uG,uH (e lf n al al) (xe M O Y)];exact e2 lf n al al
def K1(f:Nat)(l:List Nat)(fl:List FL):Prop:=
 match l with
 |[]=>True
 |i::r=>(match fl[i]?with
  |some (.rd _)=>True
  |some .qt=>True
  |some (.off g)=>g=f
  |_=>False)∧K1 f r fl
theorem aaq{n f:Nat}{β:Nat→Nat}{bd:List FP}{fp:FP}(L:nf n B β fl bd)(O:fp.ws=[])(U:fp.rd=some [f]):∀{l:List Nat},K1 f l fl→mG fp bd l=true
 |[],_=>rfl
 |i::r,h=>by
  simp only[K1] at h;obtain⟨hi,M⟩:=h;show ob (bd[i]?) false (fun b=>aI (nu fp b) (mG fp bd r) false)=true;have G:i<bd.length:=by
   rw[L.1]
   cases z:fl[i]?with
   |none=>rw[z] at hi;exact hi.elim
   |some x=>exact(List.getElem?_eq_some_iff.1 z).1
  rw[dm G,cI];have I:i<fl.length:=by rw[←L.1];exact G
  have A:=L.2 i _ _ (dm I) (dm G);rw[dm I] at hi;have e:nu fp bd[i]=true:=by
   have Y:f∉bd[i].ws:=by
    cases z:fl[i] with
    |un=>rw[z] at hi;exact hi.elim
    |wr _=>rw[z] at hi;exact hi.elim
    |qt=>rw[z] at A;have A:bd[i].ws=[]:=A;rw[A];intro h;cases h
    |rd R=>rw[z] at A;rw[A.1];intro h;cases h
    |off g=>rw[z] at A hi;have hi:g=f:=hi;subst hi;exact A
   unfold nu;rw[O,U,Qk,Qb (fun x z Z=>by rcases List.mem_singleton.1 Z with rfl;exact Y z)];rfl
  rw[e,dX];exact aaq L O U M
theorem abb{d:Key}{l:List Nat}{op:bq}{r:List bk}(Y:mL W l fl=true)(h:VI T op VE B W fun v B'=>VQ T r ((d.n,v)::VE) B' (.wr W::fl) Q):VQ T (⟨some d,none,some l,op⟩::r) VE B fl Q:=by
 intro H0 X0 E H β z bd G;obtain⟨N,a,H',e,I,v,B',β',L,A,Z,hq⟩:=uR h z;have k:sk H.next B β (.wr W) ⟨op.reads E,H'.ws,H.next,H'.next⟩:=by
  intro f hm;obtain⟨b,t,k1,M,O,U⟩:=I f hm
  exact⟨by have:=(z.new b t M O).2;rw[U] at this;exact this,fun c s m1 m2 m3=>by
   have:=z.inj c b s t m1 M m2 O (m3.trans U.symm)
   rw[this];exact k1⟩
 obtain⟨N2,E2,H2,e2,hp⟩:=hq H0 X0 _ _ β' (A.set Z) (⟨op.reads E,H'.ws,H.next,H'.next⟩::bd) ((G.cons k).step L);refine⟨max N N2,E2,H2,fun lf n a1 a2=>?_,hp.of L z.aR⟩;show bk.jq (T.call lf n) ⟨some d,none,some l,op⟩ E H bd (iM (T.call lf n) r)=_;rw[uG,uH (e lf n al al) (xe G I Y)];exact e2 lf n al al
def Ok(b:Nat)(l:List Nat)(fl:List FL):Bool:=
 match l with
 |[]=>true
 |i::r=>(match fl[i]?with
  |some (.rd _)=>true
  |some .qt=>true
  |some (.wr W)=>!yA b W
  |_=>false)&&Ok b r fl
theorem abc{n b:Nat}{β:Nat→Nat}{s:BS}{bd:List FP}{fp:FP}(L:nf n B β fl bd)(U:aF B b=some s)(Y:s.born)(Z:fp.ws=[])(hr:fp.rd=some [β b]):∀{l:List Nat},Ok b l fl=true→mG fp bd l=true
 |[],_=>rfl
 |i::r,h=>by
  simp only[Ok,cN] at h;obtain⟨hi,M⟩:=h;show ob (bd[i]?) false (fun b=>aI (nu fp b) (mG fp bd r) false)=true;have G:i<bd.length:=by
   rw[L.1]
   cases z:fl[i]?with
   |none=>rw[z] at hi;simp at hi
   |some x=>exact(List.getElem?_eq_some_iff.1 z).1
  rw[dm G,cI];have I:i<fl.length:=by rw[←L.1];exact G
  have A:=L.2 i _ _ (dm I) (dm G);rw[dm I] at hi;have e:nu fp bd[i]=true:=by
   have hd:β b∉bd[i].ws:=by
    cases z:fl[i] with
    |un=>rw[z] at hi;simp at hi
    |off _=>rw[z] at hi;simp at hi
    |qt=>rw[z] at A;have A:bd[i].ws=[]:=A;rw[A];intro h;cases h
    |rd R=>rw[z] at A;rw[A.1];intro h;cases h
    |wr W=>rw[z] at A hi;intro O;have h2:=(A _ O).2 b s U Y rfl;have hi:(!yA b W)=true:=hi;rw[KF h2] at hi;simp at hi
   unfold nu;rw[Z,hr,Qk,Qb (fun x z O=>by rcases List.mem_singleton.1 O with rfl;exact hd z)];rfl
  rw[e,dX];exact abc L U Y Z hr M
theorem Qq{d:Key}{l:List Nat}{n:Nat}{w:Bool}{a:aG}{b o:Nat}{s:BS}{r:List bk}(ha:a.vv VE=some (.vp b o))(O:aF B b=some s)(U:s.born)(hk:Ok b l fl=true)(h:VI T (.load n w a) VE B [] fun v B'=>VQ T r ((d.n,v)::VE) B' (.rd [b]::fl) Q):VQ T (⟨some d,none,some l,.load n w a⟩::r) VE B fl Q:=by
 intro H0 X0 E H β G bd M;obtain⟨N,v0,H',e,Z,v,B',β',hw,Y,hv,hq⟩:=uR h G;obtain⟨x,hx,I⟩:=G.bI ha;simp only[aE] at I;subst I;have z:H'=H.mark:=Ku hx (e N N (bf _) (bf _));have A:H.mark.ws=[]∧H.mark.next=H.next:=by cases H;exact⟨rfl,rfl⟩
 have L:(bq.load n w a).reads E=some [β b]:=by
  show some (im (a.ev E))=_;rw[hx];rfl
 have k:sk H.next B β (.rd [b]) ⟨(bq.load n w a).reads E,H'.ws,H.next,H'.next⟩:=by
  refine⟨by rw[z];exact A.1,by show H.next=H'.next;rw[z];exact A.2.symm,[β b],L,fun f M=>?_⟩;rcases List.mem_singleton.1 M with rfl
  exact⟨(G.new b s O U).2,fun c t Z h2 h3=>List.mem_singleton.2 (G.inj c b t s Z O h2 U h3)⟩
 obtain⟨N2,E2,H2,e2,hp⟩:=hq H0 X0 _ _ β' (Y.set hv) (⟨(bq.load n w a).reads E,H'.ws,H.next,H'.next⟩::bd) ((M.cons k).step hw);refine⟨max N N2,E2,H2,fun lf n a1 a2=>?_,hp.of hw G.aR⟩;show bk.jq (T.call lf n) ⟨some d,none,some l,_⟩ E H bd (iM (T.call lf n) r)=_;rw[uG,uH (e lf n al al) (abc M O U (by show H'.ws=[];rw[z];exact A.1) L hk)];exact e2 lf n al al
theorem QO{d:Key}{l:List Nat}{n:Nat}{w:Bool}{a:aG}{c o f:Nat}{s:BS}{r:List bk}(Z:a.vv VE=some (.vp c o))(hc:aF B c=some (.bP f s))(hs:s.born)(hk:K1 f l fl)(h:VI T (.load n w a) VE B [] fun v B'=>VQ T r ((d.n,v)::VE) B' (.qt::fl) Q):VQ T (⟨some d,none,some l,.load n w a⟩::r) VE B fl Q:=by
 intro H0 X0 E H β I bd O;obtain⟨N,v0,H',e,h1,v,B',β',U,L,hv,hq⟩:=uR h I;obtain⟨x,Y,A⟩:=I.bI Z;simp only[aE] at A;subst A;have z:H'=H.mark:=Ku Y (e N N (bf _) (bf _));have M:H.mark.ws=[]:=by cases H;rfl
 have G:H'.ws=[]:=by rw[z];exact M
 obtain⟨N2,E2,H2,e2,hp⟩:=hq H0 X0 _ _ β' (L.set hv) (⟨(bq.load n w a).reads E,H'.ws,H.next,H'.next⟩::bd) ((O.step U).cons (x:=.qt) G);refine⟨max N N2,E2,H2,fun lf n a1 a2=>?_,hp.of U I.aR⟩;show bk.jq (T.call lf n) ⟨some d,none,some l,_⟩ E H bd (iM (T.call lf n) r)=_;rw[uG,uH (e lf n al al) (aaq O G (by show some (im (a.ev E))=_;rw[Y,I.pinned hc hs];rfl) hk)];exact e2 lf n al al
end
theorem Ol{p q r:Ty}{a b c:DC}(h:e6 [p,q,r] [a,b,c]):p.ok a∧q.ok b∧r.ok c:=by
 simp only[e6] at h;obtain⟨d,l,e,z,d2,L,A,h2,d3,M,G,I,O⟩:=h
 cases e;cases A;cases G
 exact⟨z,h2,I⟩
def oo(w:ai)(f n:Nat):Prop:=∃v l,w[w.length-1]?=some [v,.raw f n 2,l]
theorem oo.step{R w' z:ai}{i j f n:Nat}{a b c l:DC}{r':List DC}(I:w'=R.set i (jQ [a,b,c] 1 [.raw f n 2]))(h2:z=w'.set j (jQ r' 2 [l]))(G:w'[j]?=some r')(L:(i:Int)=(R.length:Int) -1)(M:(j:Int)=(R.length:Int) -1):oo z f n:=by
 have hi:i<R.length:=by omega
 have A:j=i:=by omega
 subst A;subst I;rw[Ml hi] at G
 cases G
 subst h2;have e:j=R.length-1:=by omega
 refine⟨a,l,?_⟩;rw[lA,lA,←e,Ml (by rw[lA];exact hi)];rfl
theorem jc{w:ai}{r:List DC}:(w++[r])[w.length]?=some r:=by simp
def kg(R:List DC→List DC→Prop)(w w':ai):Prop:=w.length=w'.length∧∀(q:Nat)r r',w[q]?=some r→w'[q]?=some r'→R r r'
def AN(r r':List DC):Prop:=∃f t d z w,r=[f,t,d]∧r'=[f,t,z]∧au w d∧au w z
def Ah(r r':List DC):Prop:=∃k d z w,r=[k,d]∧r'=[k,z]∧au w d∧au w z
mutual
def ko.ty:ko→Ty
 |.i k=>.i k k.min k.max
 |.b=>.b
 |.s=>.s maxLen
 |.sl row=>.l maxLen (Us row)
def Us:List ko→List Ty
 |[]=>[]
 |p::ps=>p.ty::Us ps
end
mutual
theorem fits_ok:∀{p:ko}{d:DC},p.fits d→p.ty.ok d
 |.i k,d,h=>by
  simp only[ko.fits] at h;obtain⟨n,rfl,z⟩:=h;have h2:k.min≤n∧n≤k.max:=by simpa[Lit.wf] using z
  exact dY h2.1 h2.2
 |.b,d,h=>by
  simp only[ko.fits] at h;obtain⟨n,rfl⟩:=h;exact eI
 |.s,d,h=>by
  simp only[ko.fits] at h;obtain⟨s,rfl,h2⟩:=h;exact bB h2
 |.sl row,d,h=>by
  simp only[ko.fits] at h;rcases h with rfl|⟨rows,rfl,h2,A⟩
  ·exact gw
  exact ok_sl h2 fun r G=>ZK (A r G)
theorem ZK:∀{ps:List ko}{l:List DC},jJ ps l→e6 (Us ps) l
 |[],l,h=>by
  simp only[jJ] at h;subst h;exact bl
 |p::ps,l,h=>by
  simp only[jJ] at h;obtain⟨d,r,rfl,z,h2⟩:=h;exact ah (fits_ok z) (ZK h2)
end
end Go.Ev
namespace Go.Ev.Pp
open Go Go.Proofs
@[reducible] def aW(f:Func)(x:aO)(_h:vM Tryz.prog f=some x:=by conv=>lhs;reduce):aO:=x
@[reducible] def mkV(f:Func)(x:aO)(_h:vM Tryz.prog f=some x:=by conv=>lhs;cbv):aO:=x
def i3:aO:=aW Tryz.f3 _
def i4:aO:=aW Tryz.f4 _
def i5:aO:=aW Tryz.f5 _
def i6:aO:=aW Tryz.f6 _
def i8:aO:=aW Tryz.f8 _
def i9:aO:=aW Tryz.f9 _
def i10:aO:=aW Tryz.f10 _
def i11:aO:=aW Tryz.f11 _
def i12:aO:=aW Tryz.f12 _
def i13:aO:=aW Tryz.f13 _
def i14:aO:=aW Tryz.f14 _
def i15:aO:=aW Tryz.f15 _
def i16:aO:=aW Tryz.f16 _
def i17:aO:=aW Tryz.f17 _
def i18:aO:=aW Tryz.f18 _
def i19:aO:=aW Tryz.f19 _
def i20:aO:=aW Tryz.f20 _
def i21:aO:=aW Tryz.f21 _
def i22:aO:=aW Tryz.f22 _
def i23:aO:=aW Tryz.f23 _
def i24:aO:=aW Tryz.f24 _
def i25:aO:=aW Tryz.f25 _
def i26:aO:=aW Tryz.f26 _
def i27:aO:=aW Tryz.f27 _
def i28:aO:=aW Tryz.f28 _
def i29:aO:=aW Tryz.f29 _
def i30:aO:=aW Tryz.f30 _
def i31:aO:=aW Tryz.f31 _
def i32:aO:=aW Tryz.f32 _
def i33:aO:=aW Tryz.f33 _
def i34:aO:=aW Tryz.f34 _
def i35:aO:=aW Tryz.f35 _
def i36:aO:=aW Tryz.f36 _
def i37:aO:=aW Tryz.f37 _
def i38:aO:=aW Tryz.f38 _
def i39:aO:=aW Tryz.f39 _
def i40:aO:=aW Tryz.f40 _
def i41:aO:=aW Tryz.f41 _
def i42:aO:=aW Tryz.f42 _
def i43:aO:=aW Tryz.f43 _
def i46:aO:=aW Tryz.f46 _
def i47:aO:=aW Tryz.f47 _
def i48:aO:=aW Tryz.f48 _
def i49:aO:=aW Tryz.f49 _
def i50:aO:=aW Tryz.f50 _
def i51:aO:=aW Tryz.f51 _
def i52:aO:=aW Tryz.f52 _
def i53:aO:=aW Tryz.f53 _
def i54:aO:=aW Tryz.f54 _
def i55:aO:=aW Tryz.f55 _
def i56:aO:=aW Tryz.f56 _
def i57:aO:=aW Tryz.f57 _
def i58:aO:=aW Tryz.f58 _
def i59:aO:=aW Tryz.f59 _
def i60:aO:=aW Tryz.f60 _
def i61:aO:=aW Tryz.f61 _
def i62:aO:=aW Tryz.f62 _
def i63:aO:=aW Tryz.f63 _
def i64:aO:=aW Tryz.f64 _
def i65:aO:=aW Tryz.f65 _
def i66:aO:=aW Tryz.f66 _
def i67:aO:=aW Tryz.f67 _
def i68:aO:=aW Tryz.f68 _
def i69:aO:=aW Tryz.f69 _
def i70:aO:=aW Tryz.f70 _
open Go Go.Proofs
def i71:aO:=aW Tryz.f71 _
def i72:aO:=aW Tryz.f72 _
def i73:aO:=aW Tryz.f73 _
def i74:aO:=aW Tryz.f74 _
def i76:aO:=aW Tryz.f76 _
def i77:aO:=aW Tryz.f77 _
def i78:aO:=aW Tryz.f78 _
def i79:aO:=aW Tryz.f79 _
def i80:aO:=aW Tryz.f80 _
def i81:aO:=aW Tryz.f81 _
def i82:aO:=aW Tryz.f82 _
def i83:aO:=aW Tryz.f83 _
def i84:aO:=aW Tryz.f84 _
def i85:aO:=aW Tryz.f85 _
def i86:aO:=aW Tryz.f86 _
def i87:aO:=aW Tryz.f87 _
def i88:aO:=aW Tryz.f88 _
def i89:aO:=aW Tryz.f89 _
def i90:aO:=aW Tryz.f90 _
def i91:aO:=aW Tryz.f91 _
def i92:aO:=aW Tryz.f92 _
def i93:aO:=aW Tryz.f93 _
def i94:aO:=aW Tryz.f94 _
def i95:aO:=aW Tryz.f95 _
def i96:aO:=aW Tryz.f96 _
def i97:aO:=aW Tryz.f97 _
def i98:aO:=aW Tryz.f98 _
def i99:aO:=aW Tryz.f99 _
def i100:aO:=aW Tryz.f100 _
def i101:aO:=aW Tryz.f101 _
def i102:aO:=aW Tryz.f102 _
def i103:aO:=aW Tryz.f103 _
def i104:aO:=aW Tryz.f104 _
def i105:aO:=aW Tryz.f105 _
def i106:aO:=aW Tryz.f106 _
def i107:aO:=aW Tryz.f107 _
def i108:aO:=aW Tryz.f108 _
def i109:aO:=aW Tryz.f109 _
def i110:aO:=aW Tryz.f110 _
def i111:aO:=aW Tryz.f111 _
def i112:aO:=aW Tryz.f112 _
def i113:aO:=aW Tryz.f113 _
def i114:aO:=aW Tryz.f114 _
def i115:aO:=aW Tryz.f115 _
def i116:aO:=aW Tryz.f116 _
def i118:aO:=aW Tryz.f118 _
def i119:aO:=aW Tryz.f119 _
def i120:aO:=aW Tryz.f120 _
def i121:aO:=aW Tryz.f121 _
def i122:aO:=aW Tryz.f122 _
def i123:aO:=aW Tryz.f123 _
def i124:aO:=aW Tryz.f124 _
def i125:aO:=aW Tryz.f125 _
def i126:aO:=aW Tryz.f126 _
def i131:aO:=aW Tryz.f131 _
def i134:aO:=aW Tryz.f134 _
def i135:aO:=aW Tryz.f135 _
def i136:aO:=aW Tryz.f136 _
def i137:aO:=aW Tryz.f137 _
def i138:aO:=aW Tryz.f138 _
def i139:aO:=aW Tryz.f139 _
def i140:aO:=aW Tryz.f140 _
def i141:aO:=aW Tryz.f141 _
def i142:aO:=aW Tryz.f142 _
def i143:aO:=aW Tryz.f143 _
open Go Go.Proofs
def i144:aO:=aW Tryz.f144 _
def i145:aO:=aW Tryz.f145 _
def i146:aO:=aW Tryz.f146 _
def i147:aO:=aW Tryz.f147 _
def i148:aO:=aW Tryz.f148 _
def i149:aO:=aW Tryz.f149 _
def i150:aO:=aW Tryz.f150 _
def i151:aO:=aW Tryz.f151 _
def aju:aO:=aW Tryz.f152 _
def i153:aO:=aW Tryz.f153 _
def i154:aO:=aW Tryz.f154 _
def i163:aO:=aW Tryz.f163 _
def i164:aO:=aW Tryz.f164 _
def i165:aO:=aW Tryz.f165 _
def i166:aO:=aW Tryz.f166 _
def i167:aO:=aW Tryz.f167 _
def i168:aO:=aW Tryz.f168 _
def i169:aO:=aW Tryz.f169 _
def i170:aO:=aW Tryz.f170 _
def i171:aO:=aW Tryz.f171 _
def i172:aO:=aW Tryz.f172 _
def i173:aO:=aW Tryz.f173 _
def i174:aO:=aW Tryz.f174 _
def i175:aO:=aW Tryz.f175 _
def i176:aO:=aW Tryz.f176 _
def i177:aO:=aW Tryz.f177 _
def i178:aO:=aW Tryz.f178 _
def i179:aO:=aW Tryz.f179 _
def i180:aO:=aW Tryz.f180 _
def i181:aO:=aW Tryz.f181 _
def i182:aO:=aW Tryz.f182 _
def i183:aO:=aW Tryz.f183 _
def i184:aO:=aW Tryz.f184 _
def i186:aO:=aW Tryz.f186 _
def i190:aO:=aW Tryz.f190 _
def i196:aO:=aW Tryz.f196 _
def i197:aO:=aW Tryz.f197 _
def i199:aO:=aW Tryz.f199 _
def i200:aO:=aW Tryz.f200 _
def i201:aO:=aW Tryz.f201 _
def i202:aO:=aW Tryz.f202 _
def i203:aO:=aW Tryz.f203 _
def i204:aO:=aW Tryz.f204 _
def i205:aO:=aW Tryz.f205 _
def i206:aO:=mkV Tryz.f206 _
def i212:aO:=aW Tryz.f212 _
def i213:aO:=aW Tryz.f213 _
def i214:aO:=aW Tryz.f214 _
def i215:aO:=aW Tryz.f215 _
def i216:aO:=aW Tryz.f216 _
def i217:aO:=aW Tryz.f217 _
def i218:aO:=aW Tryz.f218 _
def i219:aO:=aW Tryz.f219 _
def i220:aO:=aW Tryz.f220 _
def i221:aO:=aW Tryz.f221 _
def i222:aO:=aW Tryz.f222 _
def i223:aO:=aW Tryz.f223 _
def i224:aO:=aW Tryz.f224 _
def i225:aO:=aW Tryz.f225 _
def i226:aO:=aW Tryz.f226 _
def i227:aO:=aW Tryz.f227 _
def i228:aO:=aW Tryz.f228 _
def i229:aO:=aW Tryz.f229 _
def i230:aO:=aW Tryz.f230 _
def i231:aO:=aW Tryz.f231 _
open Go Go.Proofs
def i232:aO:=aW Tryz.f232 _
def i233:aO:=aW Tryz.f233 _
def i234:aO:=aW Tryz.f234 _
def i235:aO:=aW Tryz.f235 _
def i236:aO:=aW Tryz.f236 _
def i241:aO:=aW Tryz.f241 _
def i242:aO:=aW Tryz.f242 _
def i243:aO:=aW Tryz.f243 _
def i245:aO:=aW Tryz.f245 _
def i246:aO:=aW Tryz.f246 _
def i247:aO:=aW Tryz.f247 _
def i248:aO:=aW Tryz.f248 _
def i249:aO:=aW Tryz.f249 _
def i250:aO:=aW Tryz.f250 _
def i251:aO:=aW Tryz.f251 _
def i252:aO:=aW Tryz.f252 _
def i253:aO:=aW Tryz.f253 _
def i254:aO:=aW Tryz.f254 _
def i255:aO:=aW Tryz.f255 _
def i256:aO:=aW Tryz.f256 _
def i257:aO:=aW Tryz.f257 _
def i259:aO:=aW Tryz.f259 _
def i260:aO:=aW Tryz.f260 _
def i262:aO:=aW Tryz.f262 _
def i263:aO:=aW Tryz.f263 _
def i264:aO:=aW Tryz.f264 _
def i265:aO:=aW Tryz.f265 _
def i266:aO:=aW Tryz.f266 _
def i267:aO:=aW Tryz.f267 _
def i268:aO:=aW Tryz.f268 _
def i270:aO:=aW Tryz.f270 _
def i271:aO:=aW Tryz.f271 _
def i272:aO:=aW Tryz.f272 _
def i273:aO:=aW Tryz.f273 _
def i274:aO:=aW Tryz.f274 _
def i275:aO:=aW Tryz.f275 _
def i276:aO:=aW Tryz.f276 _
def i277:aO:=aW Tryz.f277 _
def i278:aO:=aW Tryz.f278 _
def i279:aO:=aW Tryz.f279 _
def i280:aO:=aW Tryz.f280 _
def i281:aO:=aW Tryz.f281 _
def i282:aO:=aW Tryz.f282 _
def i283:aO:=mkV Tryz.f283 _
def i284:aO:=aW Tryz.f284 _
def i285:aO:=aW Tryz.f285 _
def i286:aO:=aW Tryz.f286 _
def i287:aO:=aW Tryz.f287 _
def i288:aO:=aW Tryz.f288 _
def i289:aO:=aW Tryz.f289 _
def i290:aO:=aW Tryz.f290 _
def i291:aO:=aW Tryz.f291 _
def i292:aO:=aW Tryz.f292 _
def i293:aO:=aW Tryz.f293 _
def i294:aO:=aW Tryz.f294 _
def i295:aO:=aW Tryz.f295 _
def i296:aO:=aW Tryz.f296 _
def i297:aO:=aW Tryz.f297 _
def i298:aO:=aW Tryz.f298 _
def i299:aO:=aW Tryz.f299 _
def i300:aO:=aW Tryz.f300 _
def i301:aO:=aW Tryz.f301 _
def i198:aO:={nt:=60,ps:=[Ju,Jv,nX],res:=[.tmp sF],body:=
 (.seq (.region false [⟨some oU,none,none,.box 129 3 40 (.t Ju)⟩,
 ⟨some rb,none,none,.box 129 3 40 (.t Jv)⟩,
 ⟨some sF,none,none,.d8 (.c (.bool false))⟩])
 (.seq (.seq (.region false [⟨some O1,none,none,.eR (.t oU) 0⟩,
 ⟨some Nu,none,none,.eR (.t O1) 1⟩,
 ⟨some Nv,none,none,.load 1 false (.t Nu)⟩,
 ⟨some vF,none,none,.eR (.t rb) 0⟩,
 ⟨some Nw,none,none,.eR (.t vF) 0⟩,
 ⟨some Nx,none,none,.load 1 false (.t Nw)⟩,
 ⟨some Ny,none,none,.bin .neq (.t Nv) (.t Nx)⟩])
 (.cond (.t Ny)
 (.seq (.region false [⟨some sF,none,none,.d8 (.c (.bool false))⟩])
 .ret)
 .skip))
 (.seq (.seq (.region false [⟨some wC,none,none,.d8 (.c (.int .i64 (.ofNat 0)))⟩])
 (.block 0 (.loop (.seq (.seq (.region false [⟨some Nz,none,none,.d8 (.t wC)⟩,
  ⟨some NA,none,none,.eR (.t rb) 2⟩,
  ⟨some NB,none,none,.load 1 false (.t NA)⟩,
  ⟨some vG,none,none,.len (.t NB)⟩,
  ⟨some NC,none,none,.bin .lss (.t Nz) (.t vG)⟩])
  (.cond (.t NC)
  .skip
  (.exit 0)))
  (.seq (.block 1 (.seq (.region true [⟨some NG,none,some [],.load 3 true (.t oU)⟩,
   ⟨some NH,none,none,.eR (.t rb) 2⟩,
   ⟨some NI,none,some [0],.load 1 false (.t NH)⟩,
   ⟨some tU,none,none,.d8 (.t wC)⟩,
   ⟨some NJ,none,none,.j0 3 (.t NI) (.t tU)⟩,
   ⟨some NK,none,none,.eR (.t NJ) 0⟩,
   ⟨some NL,none,some [1],.load 1 false (.t NK)⟩,
   ⟨some NM,none,some [],.call 98 [(.t NG),(.t NL)]⟩,
   ⟨some EF,none,none,.d8 (.t NM)⟩])
  (.seq (.region true [⟨some NN,none,none,.d8 (.t EF)⟩,
   ⟨some NO,none,none,.bin .lss (.t NN) (.c (.int .i64 (.ofNat 0)))⟩,
   ⟨some qS,none,none,.d8 (.t NO)⟩,
   ⟨some tV,some (qS,true),none,.eR (.t rb) 2⟩,
   ⟨some NP,some (qS,true),some [],.load 1 false (.t tV)⟩,
   ⟨some NQ,some (qS,true),none,.d8 (.t wC)⟩,
   ⟨some NR,some (qS,true),none,.j0 3 (.t NP) (.t NQ)⟩,
   ⟨some NS,some (qS,true),none,.eR (.t NR) 0⟩,
   ⟨some NT,some (qS,true),some [],.load 1 false (.t NS)⟩,
   ⟨some NU,some (qS,true),none,.d8 (.t nX)⟩,
   ⟨some NV,some (qS,true),none,.bin .leq (.t NT) (.t NU)⟩,
   ⟨some sh,none,none,.pick (.t qS) (.t NV) (.c (.bool false))⟩,
   ⟨some yu,none,none,.d8 (.t sh)⟩,
   ⟨some NW,some (yu,false),none,.d8 (.t EF)⟩,
   ⟨some NX,some (yu,false),none,.bin .geq (.t NW) (.c (.int .i64 (.ofNat 0)))⟩,
   ⟨some nK,some (yu,false),none,.d8 (.t NX)⟩,
   ⟨some NY,some (nK,true),none,.eR (.t oU) 2⟩,
   ⟨some NZ,some (nK,true),some [],.load 1 false (.t NY)⟩,
   ⟨some N0,some (nK,true),none,.d8 (.t EF)⟩,
   ⟨some N1,some (nK,true),none,.j0 3 (.t NZ) (.t N0)⟩,
   ⟨some si,some (nK,true),some [],.load 3 true (.t N1)⟩,
   ⟨some N3,some (nK,true),none,.eR (.t rb) 2⟩,
   ⟨some N4,some (nK,true),some [0,1],.load 1 false (.t N3)⟩,
   ⟨some N5,some (nK,true),none,.d8 (.t wC)⟩,
   ⟨some N6,some (nK,true),none,.j0 3 (.t N4) (.t N5)⟩,
   ⟨some N7,some (nK,true),some [1,2],.load 3 true (.t N6)⟩,
   ⟨some N8,some (nK,true),none,.eqv (.agg [3,101,3]) true (.t si) (.t N7)⟩,
   ⟨some N9,some (yu,false),none,.pick (.t nK) (.t N8) (.c (.bool false))⟩,
   ⟨some N',none,none,.pick (.t yu) (.c (.bool true)) (.t N9)⟩])
  (.cond (.t N')
   (.seq (.region false [⟨some sF,none,none,.d8 (.c (.bool false))⟩])
   .ret)
   .skip))))
  (.region false [⟨some ND,none,none,.d8 (.t wC)⟩,
  ⟨some NF,none,none,.bin .add (.t ND) (.c (.int .i64 (.ofNat 1)))⟩,
  ⟨some wC,none,none,.d8 (.t NF)⟩]))))))
 (.seq (.region false [⟨some sF,none,none,.d8 (.c (.bool true))⟩])
 .ret))))}
def i258:aO:={nt:=96,ps:=[Ju,Jv],res:=[.tmp rb],body:=
 (.seq (.region false [⟨some nX,none,none,.box 282 7 120 (.t Ju)⟩,
 ⟨some oU,none,none,.box 282 7 120 (.t Jv)⟩,
 ⟨some rb,none,none,.d8 (.c (.bool false))⟩])
 (.seq (.seq (.region false [⟨some wC,none,none,.eR (.t nX) 0⟩,
 ⟨some EF,none,none,.load 1 false (.t wC)⟩,
 ⟨some O1,none,none,.eR (.t oU) 0⟩,
 ⟨some Nu,none,none,.load 1 false (.t O1)⟩,
 ⟨some Nv,none,none,.eqv .bool true (.t EF) (.t Nu)⟩,
 ⟨some vF,none,none,.d8 (.t Nv)⟩,
 ⟨some Nw,some (vF,false),none,.eR (.t nX) 4⟩,
 ⟨some Nx,some (vF,false),none,.load 1 false (.t Nw)⟩,
 ⟨some Ny,some (vF,false),none,.eR (.t oU) 4⟩,
 ⟨some Nz,some (vF,false),none,.load 1 false (.t Ny)⟩,
 ⟨some NA,some (vF,false),none,.bin .neq (.t Nx) (.t Nz)⟩,
 ⟨some NB,none,none,.pick (.t vF) (.c (.bool true)) (.t NA)⟩,
 ⟨some vG,none,none,.d8 (.t NB)⟩,
 ⟨some NC,some (vG,false),none,.eR (.t nX) 5⟩,
 ⟨some ND,some (vG,false),none,.load 1 false (.t NC)⟩,
 ⟨some NF,some (vG,false),none,.eR (.t oU) 5⟩,
 ⟨some NG,some (vG,false),none,.load 1 false (.t NF)⟩,
 ⟨some NH,some (vG,false),none,.eqv .bool true (.t ND) (.t NG)⟩,
 ⟨some NI,none,none,.pick (.t vG) (.c (.bool true)) (.t NH)⟩,
 ⟨some tU,none,none,.d8 (.t NI)⟩,
 ⟨some NJ,some (tU,false),none,.eR (.t nX) 6⟩,
 ⟨some NK,some (tU,false),none,.load 1 false (.t NJ)⟩,
 ⟨some NL,some (tU,false),none,.eR (.t oU) 6⟩,
 ⟨some NM,some (tU,false),none,.load 1 false (.t NL)⟩,
 ⟨some NN,some (tU,false),none,.call 152 [(.t NK),(.t NM)]⟩,
 ⟨some NO,some (tU,false),none,.un .not (.t NN)⟩,
 ⟨some qS,none,none,.pick (.t tU) (.c (.bool true)) (.t NO)⟩,
 ⟨some tV,none,none,.d8 (.t qS)⟩,
 ⟨some NP,some (tV,false),none,.eR (.t nX) 1⟩,
 ⟨some NQ,some (tV,false),none,.load 1 false (.t NP)⟩,
 ⟨some NR,some (tV,false),none,.eR (.t oU) 1⟩,
 ⟨some NS,some (tV,false),none,.load 1 false (.t NR)⟩,
 ⟨some NT,some (tV,false),none,.call 283 [(.t NQ),(.t NS)]⟩,
 ⟨some NU,some (tV,false),none,.un .not (.t NT)⟩,
 ⟨some NV,none,none,.pick (.t tV) (.c (.bool true)) (.t NU)⟩,
 ⟨some sh,none,none,.d8 (.t NV)⟩,
 ⟨some yu,some (sh,false),none,.eR (.t nX) 2⟩,
 ⟨some NW,some (sh,false),none,.load 1 false (.t yu)⟩,
 ⟨some NX,some (sh,false),none,.len (.t NW)⟩,
 ⟨some nK,some (sh,false),none,.eR (.t oU) 2⟩,
 ⟨some NY,some (sh,false),none,.load 1 false (.t nK)⟩,
 ⟨some NZ,some (sh,false),none,.len (.t NY)⟩,
 ⟨some N0,some (sh,false),none,.bin .neq (.t NX) (.t NZ)⟩,
 ⟨some N1,none,none,.pick (.t sh) (.c (.bool true)) (.t N0)⟩,
 ⟨some si,none,none,.d8 (.t N1)⟩,
 ⟨some N3,some (si,false),none,.eR (.t nX) 3⟩,
 ⟨some N4,some (si,false),none,.load 1 false (.t N3)⟩,
 ⟨some N5,some (si,false),none,.len (.t N4)⟩,
 ⟨some N6,some (si,false),none,.eR (.t oU) 3⟩,
 ⟨some N7,some (si,false),none,.load 1 false (.t N6)⟩,
 ⟨some N8,some (si,false),none,.len (.t N7)⟩,
 ⟨some N9,some (si,false),none,.bin .neq (.t N5) (.t N8)⟩,
 ⟨some N',none,none,.pick (.t si) (.c (.bool true)) (.t N9)⟩])
 (.cond (.t N')
 (.seq (.region false [⟨some rb,none,none,.d8 (.c (.bool false))⟩])
 .ret)
 .skip))
 (.seq (.seq (.region false [⟨some EE,none,none,.d8 (.c (.int .i64 (.ofNat 0)))⟩])
 (.block 0 (.loop (.seq (.seq (.region false [⟨some aiC,none,none,.d8 (.t EE)⟩,
  ⟨some aiD,none,none,.eR (.t nX) 2⟩,
  ⟨some aiE,none,none,.load 1 false (.t aiD)⟩,
  ⟨some aiF,none,none,.len (.t aiE)⟩,
  ⟨some aiG,none,none,.bin .lss (.t aiC) (.t aiF)⟩])
  (.cond (.t aiG)
  .skip
  (.exit 0)))
  (.seq (.block 1 (.seq (.region true [⟨some aiJ,none,none,.eR (.t nX) 2⟩,
   ⟨some aiK,none,some [],.load 1 false (.t aiJ)⟩,
   ⟨some aiL,none,none,.d8 (.t EE)⟩,
   ⟨some aiM,none,none,.j0 3 (.t aiK) (.t aiL)⟩,
   ⟨some aiN,none,some [],.load 3 true (.t aiM)⟩,
   ⟨some aiO,none,none,.eR (.t oU) 2⟩,
   ⟨some aiP,none,some [0,1],.load 1 false (.t aiO)⟩,
   ⟨some aiQ,none,none,.d8 (.t EE)⟩,
   ⟨some aiR,none,none,.j0 3 (.t aiP) (.t aiQ)⟩,
   ⟨some aiS,none,some [1,2],.load 3 true (.t aiR)⟩,
   ⟨some aiT,none,none,.eqv (.agg [3,3,101]) true (.t aiN) (.t aiS)⟩])
  (.cond (.t aiT)
   (.seq (.region false [⟨some rb,none,none,.d8 (.c (.bool false))⟩])
   .ret)
   .skip)))
  (.region false [⟨some aiH,none,none,.d8 (.t EE)⟩,
  ⟨some aiI,none,none,.bin .add (.t aiH) (.c (.int .i64 (.ofNat 1)))⟩,
  ⟨some EE,none,none,.d8 (.t aiI)⟩]))))))
 (.seq (.seq (.region false [⟨some sF,none,none,.d8 (.c (.int .i64 (.ofNat 0)))⟩])
 (.block 2 (.loop (.seq (.seq (.region false [⟨some aiU,none,none,.d8 (.t sF)⟩,
  ⟨some aiV,none,none,.eR (.t nX) 3⟩,
  ⟨some aiW,none,none,.load 1 false (.t aiV)⟩,
  ⟨some aiX,none,none,.len (.t aiW)⟩,
  ⟨some aiY,none,none,.bin .lss (.t aiU) (.t aiX)⟩])
  (.cond (.t aiY)
  .skip
  (.exit 2)))
  (.seq (.block 3 (.seq (.region true [⟨some ai1,none,none,.eR (.t nX) 3⟩,
   ⟨some ai2,none,some [],.load 1 false (.t ai1)⟩,
   ⟨some ai3,none,none,.d8 (.t sF)⟩,
   ⟨some ai4,none,none,.j0 4 (.t ai2) (.t ai3)⟩,
   ⟨some VG,none,some [],.load 4 true (.t ai4)⟩,
   ⟨some ai5,none,none,.eR (.t oU) 3⟩,
   ⟨some ai6,none,some [0,1],.load 1 false (.t ai5)⟩,
   ⟨some ai7,none,none,.d8 (.t sF)⟩,
   ⟨some ai8,none,none,.j0 4 (.t ai6) (.t ai7)⟩,
   ⟨some ai9,none,some [1,2],.load 4 true (.t ai8)⟩,
   ⟨some aja,none,none,.eqv (.agg [100,101,101,3]) true (.t VG) (.t ai9)⟩])
  (.cond (.t aja)
   (.seq (.region false [⟨some rb,none,none,.d8 (.c (.bool false))⟩])
   .ret)
   .skip)))
  (.region false [⟨some aiZ,none,none,.d8 (.t sF)⟩,
  ⟨some ai0,none,none,.bin .add (.t aiZ) (.c (.int .i64 (.ofNat 1)))⟩,
  ⟨some sF,none,none,.d8 (.t ai0)⟩]))))))
 (.seq (.region false [⟨some rb,none,none,.d8 (.c (.bool true))⟩])
 .ret)))))}
end Go.Ev.Pp
