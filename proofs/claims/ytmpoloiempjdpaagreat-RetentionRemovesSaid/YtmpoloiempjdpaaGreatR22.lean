/- Part 22 of rules for walks through the code of a program, and of such walks; what each part proves is said by its theorems. -/
import Derived.Test.YtmpoloiempjdpaaGreatR21
set_option linter.unusedVariables false
set_option linter.unusedSimpArgs false
noncomputable section
set_option maxRecDepth 100000
set_option maxHeartbeats 4000000
namespace Go.Ev
open Go
theorem wrote_in{f m:Nat}{l:List Nat}(h:f∈l):wrote f m l=l:=by
 unfold wrote;rw[show pJ f l=true from(KA _ _).2 h]
 cases Nat.ble m f<;>rfl
theorem wrote_idem{f m:Nat}{ws:List Nat}:wrote f m (wrote f m ws)=wrote f m ws:=by
 by_cases h:f<m
 ·exact wrote_in ((wY _ _ _ _).2 (.inr ⟨aa,h⟩))
 have:∀l,wrote f m l=l:=fun l=>by
  unfold wrote;rw[gn al];rfl
 rw[this,this]
theorem abd:∀l:List DC,gA (l.map .d)=some l
 |[]=>rfl
 |x::r=>by simp only[jv,gA,abd r,sf]
theorem ab4{f es n elem aD:Nat}{z:List aj}(L:z.length=es)(h0:0<es):∀(m j:Nat){H:ax}{lo:Nat}{cs:RT},H.t.get f=some (.row elem es aD n lo 0 cs)→lo≤n→(∀q,q<n→∃l,cs.get q=some l∧l.length=es)→j+m≤n→
  ∃H' A G,qT f n es z m (j*es) H= .ok (.tuple []) H'∧H'.next=H.next∧H'.aR=H.aR∧(H'.ws=wrote f H.aR H.ws∨m=0∧H'.ws=H.ws)∧(∀x,x≠f→H'.t.get x=H.t.get x)∧H'.t.get f=some (.row elem es aD n A 0 G)∧A≤n∧∀q,G.get q=if j≤q∧q<j+m then some z else cs.get q
 |0,j,H,lo,cs,M,h2,O,h4=>⟨H,lo,cs,rfl,rfl,rfl,.inr ⟨rfl,rfl⟩,fun _ _=>rfl,M,h2,fun q=>by rw[aZ al]⟩
 |m+1,j,H,lo,cs,M,h2,O,h4=>by
  obtain⟨l,k1,k2⟩:=O j al;have e:=HE (e:=aC.err 28) (K:=fun H=>cm (Nat.add (j*es) es) fun off=>qT f n es z m off H) (q:=j) (o:=0) (n:=es) (new:=z) M h2 al k1 k2 L h0 al;rw[show(bif Nat.beq es es then z else ed l 0 z)=z by rw[show Nat.beq es es=true from gG es];rfl] at e;obtain⟨H',A,G,r1,r2,r3,I,r5,r6,r7,r8⟩:=ab4 L h0 m (j+1) (H:=⟨H.next,H.aR,wrote f H.aR H.ws,H.t.set f (.row elem es aD n n 0 (cs.set j z))⟩) (lo:=n) (cs:=cs.set j z) (by show(H.t.set f _).get f=_;rw[GT.da,bg rfl]) (bf _)
   (fun q hq=>by
    rw[RT.da]
    by_cases e:q=j
    ·rw[bg e];exact⟨z,rfl,L⟩
    rw[aZ e];exact O q hq) al
  refine⟨H',A,G,?_,r2,r3,.inl ?_,fun x U=>(r5 x U).trans ?_,r6,r7,fun q=>?_⟩
  ·show wr H f n (j*es) es z (aC.err 28) (fun H=>cm (Nat.add (j*es) es) fun off=>qT f n es z m off H)=_;have e':wr H f n (j*es) es z (aC.err 28) (fun H=>cm (Nat.add (j*es) es) fun off=>qT f n es z m off H)=_:=e;rw[e',fy,show Nat.add (j*es) es=(j+1)*es by rw[vE];rfl];exact r1
  ·rcases I with I|⟨_,I⟩
   ·rw[I];exact wrote_idem
   exact I
  ·show(H.t.set f _).get x=_;rw[GT.da,aZ U]
  rw[r8,RT.da]
  by_cases Y:q=j
  ·subst Y;rw[aZ al,bg rfl,bg al]
  rw[aZ Y]
  by_cases Z:j+1≤q∧q<j+1+m
  ·rw[bg Z,bg al]
  rw[aZ Z,aZ al]
section
variable{T:aM}{VE:bb}{B:aK}{Q:VV→aK→Prop}
theorem vi_slKhi{x h:aG}{b n es f elem aD e lo j:Nat}{k:IntKind}{rows:ai}(G:x.vv VE=some (.bs b n es))(I:aF B b=some (.bP f (.arr elem aD e lo rows)))(L:h.vv VE=some (.d (.i k (j:Int))))(M:j≤n)(O:Q (.k (.slice f n 0 j es)) B):VI T (.tW es x none (some h)) VE B [] Q:=fun H0 X0 E H β z=>by
 obtain⟨_,U,h2⟩:=z.bI G;obtain⟨_,Y,A⟩:=z.bI L;simp only[aE,bF] at h2 A;subst h2 A;refine eX (v:=.slice f n 0 j es) (fun _=>?_) (dA z (v:=.k (.slice f n 0 j es)) (by simp only[aE]) O);show bt x E (.err 16) _=_;rw[cY,U,cI];show aI (Nat.beq es es) (ob (h.ev E) (.err 16) fun v=>fA v (.err 16) fun _ i=>iN i (.err 16) fun m=>aI (Nat.ble m (tY n 0 es n)) (cm (Nat.add 0 (Nat.mul 0 es)) fun off=>cm (Nat.sub m 0) fun l=>aC.ok (.slice (β b) n off l es) H) (.err 16)) (.err 16)=_;rw[show Nat.beq es es=true from gG es,dX,Y,cI];show aI (Nat.ble j (tY n 0 es n)) (cm (Nat.add 0 (Nat.mul 0 es)) fun off=>cm (Nat.sub j 0) fun l=>aC.ok (.slice (β b) n off l es) H) (.err 16)=_;rw[gn (eO M KO),dX,fy,fy,z.pinned I trivial];show aC.ok (aj.slice f n (0+0*es) (j-0) es) H=_;rw[qQ,Ir]
theorem vi_slKlo{x h:aG}{b n es f elem aD e lo j:Nat}{k:IntKind}{rows:ai}(G:x.vv VE=some (.bs b n es))(I:aF B b=some (.bP f (.arr elem aD e lo rows)))(L:h.vv VE=some (.d (.i k (j:Int))))(M:j≤n)(O:Q (.k (.slice f n (j*es) (n-j) es)) B):VI T (.tW es x (some h) none) VE B [] Q:=fun H0 X0 E H β z=>by
 obtain⟨_,U,h2⟩:=z.bI G;obtain⟨_,Y,A⟩:=z.bI L;simp only[aE,bF] at h2 A;subst h2 A;refine eX (v:=.slice f n (j*es) (n-j) es) (fun _=>?_) (dA z (v:=.k (.slice f n (j*es) (n-j) es)) (by simp only[aE]) O);show bt x E (.err 16) _=_;rw[cY,U,cI];show aI (Nat.beq es es) (ob (h.ev E) (.err 16) fun v=>fA v (.err 16) fun _ i=>iN i (.err 16) fun m=>aI (Nat.ble m n) (cm (Nat.add 0 (Nat.mul m es)) fun off=>cm (Nat.sub n m) fun l=>aC.ok (.slice (β b) n off l es) H) (.err 16)) (.err 16)=_;rw[show Nat.beq es es=true from gG es,dX,Y,cI];show aI (Nat.ble j n) (cm (Nat.add 0 (Nat.mul j es)) fun off=>cm (Nat.sub n j) fun l=>aC.ok (.slice (β b) n off l es) H) (.err 16)=_;rw[gn M,dX,fy,fy,z.pinned I trivial];show aC.ok (aj.slice f n (0+j*es) (n-j) es) H=_;rw[fh]
theorem vi_clear{x:aG}{G:List aj}{zr:List DC}{b n es f elem aD lo j:Nat}{rows:ai}(O:x.vv VE=some (.k (.slice f n (j*es) (n-j) es)))(U:aF B b=some (.bP f (.arr elem aD es lo rows)))(hn:rows.length=n)(hj:j<n)(hz:pf G=some (zr.map .d))(I:G.length=es)(h0:0<es)
  (z:Q (.tuple []) ((b,.bP f (.arr elem aD es n (rows.take j++List.replicate (n-j) zr)))::B)):VI T (.copy es x (.c (.agg G))) VE B [b] Q:=fun H0 X0 E H β M=>by
 obtain⟨_,h1,h2⟩:=M.bI O;simp only[aE] at h2;subst h2;have L:=M.pinned U trivial;obtain⟨sK,cs,k1,k2,k3,k4⟩:=(M.box b _ U).2;rw[L,hn] at k1
 obtain⟨H',Y,Z,r1,r2,r3,A,r5,r6,r7,r8⟩:=ab4 (f:=f) I h0 (n-j) j k1 al (fun q z=>by
  obtain⟨l,m1,m2,_⟩:=k4 q (rows[q]'(by omega)) (dm _)
  exact⟨l,m1,m2⟩) al
 have A:H'.ws=wrote (β b) H.aR H.ws:=by
  rw[L];rcases A with A|⟨A,_⟩
  ·exact A
  omega
 refine⟨0,.tuple [],H',fun lf m _ _=>?_,?_⟩
 ·show bt x E (.err 28) _=_;rw[cY,h1,cI];show aI (Nat.beq es es) (aI (Nat.ble 1 es) (qT f n es G (n-j) (j*es) H) (.err 28)) (.err 28)=_;rw[show Nat.beq es es=true from gG es,dX,gn h0,dX,r1]
 refine zF (s':=.bP f (.arr elem aD es n (rows.take j++List.replicate (n-j) zr))) M U trivial r2 (fun x O=>r5 x (by rw[←L];exact O)) r3 A (fun X j1 j2=>⟨fun _=>L,?_⟩) (fun X=>by simp only[aE];exact⟨[],rfl,by simp only[bc]⟩) z;have hlen:(rows.take j++List.replicate (n-j) zr).length=n:=by rw[eT,ju,rS];omega
 refine⟨Y,Z,by rw[L,r6,hlen],r7,by rw[hlen];exact bf _,fun q row z=>?_⟩;rw[r8]
 by_cases hqj:q<j
 ·rw[aZ al];rw[sg (by rw[ju];omega),A',bg hqj] at z;obtain⟨l,m1,m2,m3⟩:=k4 q row z;exact⟨l,m1,m2,j2 _ _ m3⟩
 have hql:=(List.getElem?_eq_some_iff.1 z).1;rw[hlen] at hql;rw[bg al];rw[qR (by rw[ju];omega),T3] at z
 split at z
 ·cases z
  exact⟨G,aa,I,(Ci (β:=β) hz).data (abd _)⟩
 cases z
theorem Rel.frzK{H0:Nat→Nat}{X0:Nat→Prop}{E:Env}{H:ax}{β:Nat→Nat}(A:Rel H0 X0 VE B E H β){b f elem aD es lo:Nat}{rows:ai}(G:aF B b=some (.bP f (.arr elem aD es lo rows))){k i:Nat}(hk:aF VE k=some (.k (.slice f rows.length 0 i es)))(hi:i≤rows.length):
  Rel H0 X0 ((k,.d (.sl (rows.take i)))::VE) (cQ B b) E H β:=by
 have M:=A.pinned G trivial;have O:¬XB X0 (cQ B b) β (β b):=by
  rintro(h|⟨c,s,z,U,h2⟩)
  ·exact(A.new b _ G trivial).1 h
  rw[jb] at z
  by_cases e:b=c
  ·rw[bg e] at z;cases z
  rw[aZ e] at z;exact e (A.inj c b s _ z G U trivial h2).symm
 have hl:eP H (XB X0 B β) H (XB X0 (cQ B b) β):=⟨bf _,fun f _ O=>⟨fun k=>O (k.imp id fun⟨c,s,z,h2⟩=>⟨c,s,by
  rw[jb] at z
  by_cases e:b=c
  ·rw[bg e] at z;cases z
  rw[aZ e] at z;exact z,h2⟩),rfl⟩⟩
 refine(A.drop b).slot hk fun a ha=>?_
 simp only[aE] at ha;subst ha;have hlen:(rows.take i).length=i:=by rw[ju];omega
 show bF H _ (.sl (rows.take i)) _;simp only[bF];refine⟨f,rows.length,0,es,by rw[hlen],.inr ⟨by rw[←M];exact O,by rw[←M];exact(A.new b _ G trivial).2,0,by simp,dz.nx fun q row Y=>?_⟩⟩;have I:=(List.getElem?_eq_some_iff.1 Y).1;rw[hlen] at I;rw[A',bg I] at Y;have L:=(A.box b _ G).2;have Z:lo≤rows.length:=by obtain⟨_,_,_,_,h,_⟩:=L;exact h
 obtain⟨l,z,h2,h3⟩:=L.cells (g:=rows.length) Z (bf _) al Y;exact⟨l,by rw[fh,←M];exact z,h2,h3.lift hl⟩
theorem vc_frzK{c:IC}{R:Ex→bb→aK→Prop}(k b:Nat){i f elem aD es lo:Nat}{rows:ai}(z:aF B b=some (.bP f (.arr elem aD es lo rows)))(A:aF VE k=some (.k (.slice f rows.length 0 i es)))(hi:i≤rows.length)(h:VC T c ((k,.d (.sl (rows.take i)))::VE) (cQ B b) R):VC T c VE B R:=
 fun H0 X0 E H β G=>(h H0 X0 E H β (G.frzK z A hi)).mono fun _ _ _ I=>I.more uN
theorem vc_frzN{c:IC}{R:Ex→bb→aK→Prop}(k b:Nat){i f elem aD es lo n:Nat}{rows:ai}(z:aF B b=some (.bP f (.arr elem aD es lo rows)))(A:rows.length=n)(G:aF VE k=some (.k (.slice f n 0 i es)))(hi:i≤n)(h:VC T c ((k,.d (.sl (rows.take i)))::VE) (cQ B b) R):VC T c VE B R:=by
 subst A;exact vc_frzK k b z G hi h
end
theorem Dv{W w0 w':ai}{p:List DC→Bool}{i j:Int}{a b:Nat}{r row:List DC}(h:W.take i.toNat=(w0.take j.toNat).filter p)(I:∀q:Nat,j≤q→W[q]?=w0[q]?)(h0:0≤i)(L:i<j)(M:j=a)(O:i=b)(G:W[a]?=some r)(U:p r=true)(Y:w'=W.set b (jQ row 0 r))(Z:row.length=r.length):w'.take (i+1).toNat=(w0.take (j+1).toNat).filter p:=by
 subst M;subst O;have z:jQ row 0 r=r:=by
  unfold jQ;rw[Z,show Nat.beq r.length r.length=true from gG _];rfl
 have hal:=(List.getElem?_eq_some_iff.1 G).1;have A:w0[a]?=some r:=by rw[←I a (qA _)];exact G
 simp only[yo] at h;rw[Y,z,show((b:Int)+1).toNat=b+1 by omega,show((a:Int)+1).toNat=a+1 by omega,oC,List.take_set_of_le (bf _),h,Ml al,oC,A];simp[U]
theorem Ut{W w0:ai}{p:List DC→Bool}{i j:Int}{a:Nat}{r:List DC}(h:W.take i.toNat=(w0.take j.toNat).filter p)(A:∀q:Nat,j≤q→W[q]?=w0[q]?)(G:j=a)(I:W[a]?=some r)(L:p r=false):W.take i.toNat=(w0.take (j+1).toNat).filter p:=by
 subst G;have z:w0[a]?=some r:=by rw[←A a (qA _)];exact I
 rw[h,show((a:Int)+1).toNat=a+1 by omega,oC,z];simp[L]
theorem Uu{W w0:ai}{j:Int}(z:∀q:Nat,j≤q→W[q]?=w0[q]?):∀q:Nat,j+1≤q→W[q]?=w0[q]?:=fun q h=>z q al
theorem del_S{W w0 w':ai}{i j:Int}{b:Nat}{row:List DC}(z:∀q:Nat,j≤q→W[q]?=w0[q]?)(A:i<j)(I:i=b)(G:w'=W.set b row):∀q:Nat,j+1≤q→w'[q]?=w0[q]?:=fun q h=>by
 rw[G,T9 al];exact z q al
theorem del_0{w0:ai}{p:List DC→Bool}{i:Int}{r:List DC}(h0:0≤i)(h:(w0.take i.toNat).filter p=w0.take i.toNat)(z:w0[i.toNat]?=some r)(A:p r=false):w0.take i.toNat=(w0.take (i+1).toNat).filter p:=by
 rw[show(i+1).toNat=i.toNat+1 by omega,oC,z,Dk,h];simp[A]
theorem del_R{W w0 R:ai}{p:List DC→Bool}{i j:Int}{a b:Nat}(h:W.take i.toNat=(w0.take j.toNat).filter p)(A:(w0.length:Int)≤j)(z:i=a)(G:i=b)(I:a≤W.length):(W.take a++R).take b=w0.filter p:=by
 have:a=b:=by omega
 subst this;subst z;rw[pF (l:=w0) al] at h;simp only[yo] at h;rw[lm140 (by rw[ju];omega),List.take_take,agz,h]
def nO(k:Int)(w:ai)(p:List DC→Bool):Prop:=(w.take k.toNat).filter p=w.take k.toNat
theorem allK_0{w:ai}{p:List DC→Bool}:nO 0 w p:=by simp[nO]
theorem nO.step{k:Int}{w:ai}{p:List DC→Bool}{a:Nat}{r:List DC}(h:nO k w p)(z:k=a)(A:w[a]?=some r)(G:p r=true):nO (k+1) w p:=by
 subst z;unfold nO at h⊢;simp only[yo] at h;rw[show((a:Int)+1).toNat=a+1 by omega,oC,A,Dk,h];simp[G]
theorem nO.all{k:Int}{w:ai}{p:List DC→Bool}(h:nO k w p)(z:(w.length:Int)≤k):w.filter p=w:=by
 unfold nO at h;rwa [pF al] at h
theorem Si{w0:ai}{p:List DC→Bool}{i:Int}{r:List DC}(h0:0≤i)(h:nO i w0 p)(z:w0[i.toNat]?=some r)(A:p r=false):w0.take i.toNat=(w0.take (i+1).toNat).filter p:=del_0 h0 h z A
theorem Sj{W w0 w':ai}{i j:Int}{b:Nat}{row:List DC}(A:∀q:Nat,j≤q→W[q]?=w0[q]?)(G:w'=W.set b row)(I:i=b)(z:i<j):∀q:Nat,j+1≤q→w'[q]?=w0[q]?:=del_S A z I G
theorem nb_iff{y:Bool}{P:Prop}(h:y=true↔P):((!y)=true↔¬P):=by
 cases y<;>simp_all
section
end
end Go.Ev
