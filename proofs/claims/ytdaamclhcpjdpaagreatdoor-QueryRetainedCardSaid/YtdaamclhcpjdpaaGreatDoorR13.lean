/- Part 13 of rules for walks through the code of a program, and of such walks; what each part proves is said by its theorems. -/
import Derived.Test.YtdaamclhcpjdpaaGreatDoorR12
set_option linter.unusedVariables false
set_option linter.unusedSimpArgs false
noncomputable section
set_option maxRecDepth 100000
set_option maxHeartbeats 4000000
namespace Go.Ev
def xf:al→Option VV
 |.int k n=>some (.d (.i k n))
 |.bool b=>some (.d (.b b))
 |.str l v=>some (.d (.s l v))
 |.fE=>some (.d .nil)
 |.jS=>some (.k .jS)
 |.jU=>some (.k .jU)
 |.mO=>some (.k .mO)
 |.func f fs cs=>match fs,cs with
  |[],[]=>some (.fn f [])
  |_,_=>none
 |_=>none
def aH.vv(VE:bo):aH→Option VV
 |.t k=>aL VE k.n
 |.c a=>xf a
def VV.cells:VV→Option (List VV)
 |.agg l=>some l
 |.d x=>some [.d x]
 |.vp b o=>some [.vp b o]
 |.bs b n es=>some [.bs b n es]
 |.ac b n es=>some [.ac b n es]
 |.k .jS=>some [.k .jS]
 |.k .jU=>some [.k .jU]
 |.k .mO=>some [.k .mO]
 |.il=>some [.il]
 |.fn f c=>some [.fn f c]
 |_=>none
def im:List VV→Option (List DC)
 |[]=>some []
 |.d x::r=>(im r).map (x:: ·)
 |_::_=>none
def an{α:Type}:List (Nat×α)→List (Nat×α)→Prop
 |[],_=>True
 |(i,v)::r,l=>aL l i=some v∧an r l
theorem an.get{α:Type}:∀{l m:List (Nat×α)},an l m→∀{k:Nat}{v:α},aL l k=some v→aL m k=some v
 |[],_,_,_,_,h=>by cases h
 |(i,w)::r,m,z,k,v,h=>by
  rw[dn] at h
  by_cases e:i=k
  ·rw[bh e] at h;cases h;exact e▸z.1
  rw[aZ e] at h;exact an.get z.2 h
theorem aa0:∀{l:List VV}{row:List DC},im l=some row→l=row.map .d
 |[],row,h=>by simp only[im,eB] at h;subst h;rfl
 |.d x::r,row,h=>by
  simp only[im,Hv] at h;obtain⟨s,z,rfl⟩:=h;rw[aa0 z];rfl
 |.agg _::_,_,h=>by simp[im] at h
 |.tuple _::_,_,h=>by simp[im] at h
 |.vp _ _::_,_,h=>by simp[im] at h
 |.bp _ _ _ _ _::_,_,h=>by simp[im] at h
 |.rp _ _::_,_,h=>by simp[im] at h
 |.bs _ _ _::_,_,h=>by simp[im] at h
 |.ac _ _ _::_,_,h=>by simp[im] at h
 |.fn _ _::_,_,h=>by simp[im] at h
 |.k _::_,_,h=>by simp[im] at h
 |.il::_,_,h=>by simp[im] at h
 |.undef::_,_,h=>by simp[im] at h
section
variable{T:aN}{H0:Nat→Nat}{X0:Nat→Prop}{VE bF:bo}{B B':aT}{E:Env}{H H':aw}{β:Nat→Nat}{X:Nat→Prop}
theorem YM{a:al}{v:VV}(h:xf a=some v):aG H X β v a:=by
 cases a
 case func f fs cs=>
  cases fs<;>cases cs<;>simp only[xf,eB,reduceCtorEq] at h
  subst h;simp only[aG,bb];exact⟨[],rfl,rfl⟩
 all_goals simp only[xf,eB,reduceCtorEq] at h
 all_goals subst h
 all_goals first|(simp only[aG,bH];done)|(simp only[aG])
theorem constV_no{a:al}{v:VV}(h:xf a=some v)(b:Nat):v.no b=true:=by
 cases a
 case func f fs cs=>
  cases fs<;>cases cs<;>simp only[xf,eB,reduceCtorEq] at h
  subst h;rfl
 all_goals simp only[xf,eB,reduceCtorEq] at h
 all_goals subst h
 all_goals simp only[VV.no]
theorem Rel.bD(z:Rel H0 X0 VE B E H β){x:aH}{v:VV}(h:x.vv VE=some v):∃a,x.ev E=some a∧aG H (XB X0 B β) β v a:=by
 cases x with
 |t k=>exact z.env k v h
 |c a=>exact⟨a,rfl,YM h⟩
theorem aG.cells{v:VV}{a:al}{l:List VV}(h:v.cells=some l)(z:aG H X β v a):∃s,iB a=some s∧bb H X β l s:=by
 cases v with
 |agg m=>
  simp only[VV.cells,eB] at h;subst h;simp only[aG] at z;obtain⟨cs,rfl,h⟩:=z;exact⟨cs,rfl,h⟩
 |d x=>
  simp only[VV.cells,eB] at h;subst h;have:iB a=some [a]:=by
   simp only[aG] at z
   cases x with
   |i k n=>simp only[bH] at z;subst z;rfl
   |b t=>simp only[bH] at z;subst z;rfl
   |s l n=>simp only[bH] at z;subst z;rfl
   |nil=>simp only[bH] at z;subst z;rfl
   |sl rows=>simp only[bH] at z;obtain⟨f,g,off,es,rfl,_⟩:=z;rfl
   |raw f n es=>simp only[bH] at z;subst z;rfl
  exact⟨[a],this,by simp only[bb];exact⟨a,[],rfl,z,rfl⟩⟩
 |vp b o=>
  simp only[VV.cells,eB] at h;subst h;have e:a= .ptr (β b) 1 o:=by simpa only[aG] using z
  exact⟨[a],by subst e;rfl,by simp only[bb];exact⟨a,[],rfl,z,rfl⟩⟩
 |bs b n es=>
  simp only[VV.cells,eB] at h;subst h;have e:a= .slice (β b) n 0 n es:=by simpa only[aG] using z
  exact⟨[a],by subst e;rfl,by simp only[bb];exact⟨a,[],rfl,z,rfl⟩⟩
 |fn f c=>
  simp only[VV.cells,eB] at h;subst h;have e:∃cs,a= .func f [] cs∧bb H X β c cs:=by simpa only[aG] using z
  obtain⟨cs,e,_⟩:=e;exact⟨[a],by subst e;rfl,by simp only[bb];exact⟨a,[],rfl,z,rfl⟩⟩
 |il=>
  simp only[VV.cells,eB] at h;subst h;have e:∃t x,a= .iface t x:=by simpa only[aG] using z
  obtain⟨t,x,e⟩:=e;exact⟨[a],by subst e;rfl,by simp only[bb];exact⟨a,[],rfl,z,rfl⟩⟩
 |k x=>
  have e:a=x:=by simpa only[aG] using z
  cases x<;>simp only[VV.cells,eB,reduceCtorEq] at h
  all_goals subst h
  all_goals exact⟨[a],by subst e;rfl,by simp only[bb];exact⟨a,[],rfl,z,rfl⟩⟩
 |ac b n es=>
  simp only[VV.cells,eB] at h;subst h;have e:iB a=some [a]:=by
   simp only[aG] at z;rcases z with⟨_,rfl⟩|⟨_,rfl⟩<;>rfl
  exact⟨[a],e,by simp only[bb];exact⟨a,[],rfl,z,rfl⟩⟩
 |tuple _=>simp[VV.cells] at h
 |bp _ _ _ _ _=>simp[VV.cells] at h
 |rp _ _=>simp[VV.cells] at h
 |undef=>simp[VV.cells] at h
theorem dy{W:List Nat}{Q:VV→aT→Prop}{a:al}{v:VV}(z:Rel H0 X0 VE B E H β)(A:aG H (XB X0 B β) β v a)(G:Q v B):Dq H0 X0 VE B β E H W Q a H:=
 ⟨v,B,β,.refl,z,A,G⟩
theorem Rel.MA(h:Rel H0 X0 VE B E H β)(z:∀k s,aL B' k=some s→aL B k=some s):Rel H0 X0 VE B' E H β:=by
 have I:e9 H (XB X0 B β) H (XB X0 B' β):=⟨bq _,fun f _ L=>⟨fun k=>L (k.imp id fun⟨c,s,G,h2⟩=>⟨c,s,z c s G,h2⟩),rfl⟩⟩;refine⟨h.kY,h.aQ,h.x0,fun c s A=>h.new c s (z c s A),fun c e s t A M=>h.inj c e s t (z c s A) (z e t M),fun k v O=>?_,fun c s A=>(h.box c s (z c s A)).lift I rfl⟩;obtain⟨a,G,h2⟩:=h.env k v O;exact⟨a,G,h2.lift I⟩
theorem aU{c:IC}{R:Ex→bo→aT→Prop}(bF:bo)(B':aT)(A:an bF VE)(h2:an B' B)(h:VC T c bF B' R):VC T c VE B R:=
 fun H0 X0 E H β G=>(h H0 X0 E H β ((G.less fun _ _ z=>A.get z).MA fun _ _ z=>h2.get z)).mono fun _ _ _ I=>I.more fun _ s L M=>⟨s,h2.get L,M⟩
mutual
def VV.jN(b:Nat)(x:DC):VV→VV
 |.agg l=>.agg (NY b x l)
 |.bs c n es=>bif Nat.beq c b then .d x else .bs c n es
 |.ac c n es=>bif Nat.beq c b then .d x else .ac c n es
 |v=>v
def NY(b:Nat)(x:DC):List VV→List VV
 |[]=>[]
 |v::r=>v.jN b x::NY b x r
end
mutual
def VV.uq(b n es:Nat):VV→Prop
 |.agg l=>NZ b n es l
 |.bs c m e=>c=b→m=n∧e=es
 |.ac c _ _=>c≠b
 |_=>True
def NZ(b n es:Nat):List VV→Prop
 |[]=>True
 |v::r=>v.uq b n es∧NZ b n es r
end
theorem dF.oS{f g es:Nat}:∀{rows:ak}{q:Nat},(∀i row,rows[i]?=some row→∃l,lj H f g (q+i) l∧l.length=es∧bU H X row l)→dF H X f g es q rows
 |[],_,_=>trivial
 |row::r,q,h=>by
  simp only[dF];refine⟨h 0 row rfl,dF.oS fun i row hi=>?_⟩;rw[show q+1+i=q+(i+1) by omega];exact h (i+1) row (by simpa using hi)
theorem dk.cells{f elem aF es lo:Nat}{rows:ak}(h:dk H X β f (.arr elem aF es lo rows)){g:Nat}(Y:lo≤g)(h2:g≤rows.length){q:Nat}(I:q<g){row:List DC}(z:rows[q]?=some row):∃l,lj H f g q l∧l.length=es∧bU H X row l:=by
 obtain⟨A,cs,L,Z,k3,M⟩:=h;obtain⟨l,O,G,U⟩:=M q row z;exact⟨l,⟨elem,aF,rows.length,A,0,cs,by rw[G];exact L,ah,h2,I,O⟩,G,U⟩
theorem Rel.asData(G:Rel H0 X0 VE B E H β){b elem aF es lo:Nat}{rows:ak}(I:aL B b=some (.arr elem aF es lo rows)){X:Nat→Prop}(M:¬X (β b))(O:e9 H (XB X0 B β) H X):bH H X (.sl rows) (.slice (β b) rows.length 0 rows.length es):=by
 have L:=G.box b _ I;simp only[bH];refine⟨β b,rows.length,0,es,rfl,.inr ⟨M,(G.new b _ I trivial).2,0,by simp,dF.oS fun i row hi=>?_⟩⟩;have z:=(List.getElem?_eq_some_iff.1 hi).1;have A:lo≤rows.length:=by obtain⟨_,_,_,_,h,_⟩:=L;exact h
 obtain⟨l,U,h2,Y⟩:=L.cells (g:=rows.length) A (bq _) z hi;exact⟨l,by rw[fG];exact U,h2,Y.lift O⟩
theorem Rel.jN(I:Rel H0 X0 VE B E H β){b elem aF es lo:Nat}{rows:ak}(L:aL B b=some (.arr elem aF es lo rows)){k:Nat}{v:VV}(hv:aL VE k=some v)(ho:v.uq b rows.length es):
  Rel H0 X0 ((k,v.jN b (.sl rows))::VE) (du B b) E H β:=by
 have M:=I.drop b;have O:¬XB X0 (du B b) β (β b):=by
  rintro(h|⟨c,s,z,U,h2⟩)
  ·exact(I.new b _ L trivial).1 h
  rw[mL] at z
  by_cases e:b=c
  ·rw[bh e] at z;cases z
  rw[aZ e] at z;exact e (I.inj c b s _ z L U trivial h2).symm
 have hl:e9 H (XB X0 B β) H (XB X0 (du B b) β):=⟨bq _,fun f _ O=>⟨fun k=>O (k.imp id fun⟨c,s,z,h2⟩=>⟨c,s,by
  rw[mL] at z
  by_cases e:b=c
  ·rw[bh e] at z;cases z
  rw[aZ e] at z;exact z,h2⟩),rfl⟩⟩
 have G:=I.asData L O hl;have main:(∀v:VV,v.uq b rows.length es→∀a,aG H (XB X0 (du B b) β) β v a→aG H (XB X0 (du B b) β) β (v.jN b (.sl rows)) a):=by
  intro v;refine VV.rec (motive_1:=fun v=>v.uq b rows.length es→∀a,aG H (XB X0 (du B b) β) β v a→aG H (XB X0 (du B b) β) β (v.jN b (.sl rows)) a)
   (motive_2:=fun l=>NZ b rows.length es l→∀s,bb H (XB X0 (du B b) β) β l s→bb H (XB X0 (du B b) β) β (NY b (.sl rows) l) s) ?_ ?_ ?_ ?_ ?_ ?_ ?_ ?_ ?_ ?_ ?_ ?_ ?_ ?_ v
  ·intro x _ a h;exact h
  ·intro l ih ho a h;simp only[aG,VV.jN,VV.uq] at h ho⊢;obtain⟨cs,e,h⟩:=h;exact⟨cs,e,ih ho cs h⟩
  ·intro l _ _ a h;exact h
  ·intro c o _ a h;exact h
  ·intro c g q o e _ a h;exact h
  ·intro row o _ a h;exact h
  ·intro c n e ho a h;simp only[VV.jN,VV.uq] at h ho⊢
   by_cases A:c=b
   ·obtain⟨rfl,rfl⟩:=ho A;subst A;rw[show Nat.beq c c=true from ia c];simp only[aG] at h;subst h;show aG H _ β (.d (.sl rows)) _;simp only[aG];exact G
   have:Nat.beq c b=false:=by
    cases Y:Nat.beq c b
    ·rfl
    exact absurd (cq Y) A
   rw[this];exact h
  ·intro c n e ho a h;simp only[VV.jN,VV.uq] at ho⊢;have:Nat.beq c b=false:=by
    cases Y:Nat.beq c b
    ·rfl
    exact absurd (cq Y) ho
   rw[this];exact h
  ·intro f c _ _ a h;exact h
  ·intro x _ a h;exact h
  ·intro _ a h;exact h
  ·intro _ a h;exact h
  ·intro _ s h;exact h
  intro v r Z W9 ho s h;simp only[bb,NY,NZ] at h ho⊢;obtain⟨a,s,e,z,h2⟩:=h;exact⟨a,s,e,Z ho.1 a z,W9 ho.2 s h2⟩
 refine{M with env:=fun c w A=>?_};rw[dn] at A
 by_cases e:k=c.n
 ·rw[bh e] at A
  cases A
  obtain⟨a,z,h2⟩:=M.env c v (e▸hv);exact⟨a,z,main v ho a h2⟩
 rw[aZ e] at A;exact M.env c w A
theorem eT{ops:List bl}{Q:bo→aT→Prop}(k b:Nat){v:VV}{elem aF es lo:Nat}{rows:ak}(z:aL VE k=some v)(A:aL B b=some (.arr elem aF es lo rows))(ho:v.uq b rows.length es)(h:VO T ops ((k,v.jN b (.sl rows))::VE) (du B b) Q):VO T ops VE B Q:=
 fun H0 X0 E H β G=>(h H0 X0 E H β (G.jN A z ho)).mono fun _ _ I=>I.more wS
theorem qa{c:IC}{R:Ex→bo→aT→Prop}(k b:Nat){v:VV}{elem aF es lo:Nat}{rows:ak}(z:aL VE k=some v)(A:aL B b=some (.arr elem aF es lo rows))(ho:v.uq b rows.length es)(h:VC T c ((k,v.jN b (.sl rows))::VE) (du B b) R):VC T c VE B R:=
 fun H0 X0 E H β G=>(h H0 X0 E H β (G.jN A z ho)).mono fun _ _ _ I=>I.more wS
variable{W:List Nat}{Q:VV→aT→Prop}
theorem wrap64{n:Int}(z: -9223372036854775808≤n)(h2:n≤9223372036854775807):IntKind.i64.wrap n=n:=by
 simp[IntKind.wrap,IntKind.bits,IntKind.signed]
 split<;>omega
theorem RI{x:aH}{v:VV}(A:x.vv VE=some v)(G:Q v B):VI T (.ch x) VE B [] Q:=fun _ _ _ _ _ z=>by
 obtain⟨a,I,h2⟩:=z.bD A;exact wpI_mov I (dy z h2 G)
theorem Z7{c x y:aH}{v:VV}(G:c.vv VE=some (.d (.b true)))(I:x.vv VE=some v)(L:Q v B):VI T (.pick c x y) VE B [] Q:=fun _ _ _ _ _ z=>by
 obtain⟨a,M,h2⟩:=z.bD I;obtain⟨t,O,A⟩:=z.bD G;simp only[aG,bH] at A;subst A;exact ZZ (t:=true) O M (dy z h2 L)
theorem Z8{c x y:aH}{v:VV}(G:c.vv VE=some (.d (.b false)))(I:y.vv VE=some v)(L:Q v B):VI T (.pick c x y) VE B [] Q:=fun _ _ _ _ _ z=>by
 obtain⟨a,M,h2⟩:=z.bD I;obtain⟨t,O,A⟩:=z.bD G;simp only[aG,bH] at A;subst A;exact ZZ (t:=false) O M (dy z h2 L)
theorem vi_not{x:aH}{b:Bool}(A:x.vv VE=some (.d (.b b)))(G:Q (.d (.b (!b))) B):VI T (.un .not x) VE B [] Q:=fun _ _ _ _ _ z=>by
 obtain⟨_,I,h2⟩:=z.bD A;simp only[aG,bH] at h2;subst h2;exact wpI_un I rfl (dy z (v:=.d (.b (!b))) (by simp only[aG,bH]) G)
theorem aa1{k A:IntKind}{x:aH}{n:Int}(G:x.vv VE=some (.d (.i A n)))(I:Q (.d (.i k (k.wrap n))) B):VI T (.conv k x) VE B [] Q:=fun _ _ _ _ _ z=>by
 obtain⟨_,L,h2⟩:=z.bD G;simp only[aG,bH] at h2;subst h2;exact wpI_conv L (dy z (v:=.d (.i k (k.wrap n))) (by simp only[aG,bH,nF]) I)
theorem ade{x:aH}{rows:ak}(A:x.vv VE=some (.d (.sl rows)))(G:Q (.d (.i .i64 rows.length)) B):VI T (.len x) VE B [] Q:=fun _ _ _ _ _ z=>by
 obtain⟨_,I,h2⟩:=z.bD A;simp only[aG,bH] at h2;obtain⟨f,g,off,es,rfl,_⟩:=h2;exact K0 I (dy z (v:=.d (.i .i64 rows.length)) (by simp only[aG,bH]) G)
theorem K3{x:aH}(A:x.vv VE=some (.d .nil))(G:Q (.d (.i .i64 0)) B):VI T (.len x) VE B [] Q:=fun _ _ _ _ _ z=>by
 obtain⟨_,I,h2⟩:=z.bD A;simp only[aG,bH] at h2;subst h2;exact Yx I (dy z (v:=.d (.i .i64 0)) (by simp only[aG,bH]) G)
theorem vi_lenB{x:aH}{b n es:Nat}(A:x.vv VE=some (.bs b n es))(G:Q (.d (.i .i64 n)) B):VI T (.len x) VE B [] Q:=fun _ _ _ _ _ z=>by
 obtain⟨_,I,h2⟩:=z.bD A;simp only[aG] at h2;subst h2;exact K0 I (dy z (v:=.d (.i .i64 n)) (by simp only[aG,bH]) G)
theorem vi_lenS{x:aH}{l s:Nat}(A:x.vv VE=some (.d (.s l s)))(G:Q (.d (.i .i64 l)) B):VI T (.tW x) VE B [] Q:=fun _ _ _ _ _ z=>by
 obtain⟨_,I,h2⟩:=z.bD A;simp only[aG,bH] at h2;subst h2;exact Z0 I (dy z (v:=.d (.i .i64 l)) (by simp only[aG,bH]) G)
theorem vi_idx{x i:aH}{es j:Nat}{k:IntKind}{rows:ak}{row:List DC}(M:x.vv VE=some (.d (.sl rows)))(hi:i.vv VE=some (.d (.i k (j:Int))))(G:rows[j]?=some row)(O:row.length=es)(U:Q (.rp row 0) B):VI T (.iE es x i) VE B [] Q:=fun _ _ _ _ _ z=>by
 obtain⟨_,Y,h2⟩:=z.bD M;obtain⟨_,Z,A⟩:=z.bD hi;simp only[aG] at h2 A;simp only[bH] at A;subst A;obtain⟨f,g,off,cV,rfl,hg⟩:=h2.slice;obtain⟨k1,k2,Q1,l,k3,I,k5,L⟩:=hg G;have e:cV=es:=by rw[←I,L.length,O]
 subst e;refine PO Y Z (List.getElem?_eq_some_iff.1 G).1 (dy z (v:=.rp row 0) ?_ U);simp only[aG];exact⟨f,g,Q1,l,by rw[k5,I];rfl,k3,L,k1,k2⟩
theorem fi{x i:aH}{es b n j:Nat}{k:IntKind}(G:x.vv VE=some (.bs b n es))(hi:i.vv VE=some (.d (.i k (j:Int))))(I:j<n)(L:Q (.bp b n j 0 es) B):VI T (.iE es x i) VE B [] Q:=fun _ _ _ _ _ z=>by
 obtain⟨_,M,h2⟩:=z.bD G;obtain⟨_,O,A⟩:=z.bD hi;simp only[aG] at h2 A;simp only[bH] at A;subst A;subst h2;exact PO M O I (dy z (v:=.bp b n j 0 es) (by simp only[aG];rw[fG,qD]) L)
theorem vi_offsR{x:aH}{row:List DC}{o k:Nat}(A:x.vv VE=some (.rp row o))(G:Q (.rp row (o+k)) B):VI T (.dM x k) VE B [] Q:=fun _ _ _ _ _ z=>by
 obtain⟨_,I,h2⟩:=z.bD A;simp only[aG] at h2;obtain⟨f,g,L,l,rfl,M⟩:=h2;exact Qc I (dy z (v:=.rp row (o+k)) (by simp only[aG];exact⟨f,g,L,l,by rw[kr],M⟩) G)
theorem Z9{x:aH}{b o k:Nat}(A:x.vv VE=some (.vp b o))(G:Q (.vp b (o+k)) B):VI T (.dM x k) VE B [] Q:=fun _ _ _ _ _ z=>by
 obtain⟨_,I,h2⟩:=z.bD A;simp only[aG] at h2;subst h2;exact Qc I (dy z (v:=.vp b (o+k)) (by simp only[aG]) G)
theorem vi_offsB{x:aH}{b g j o es k:Nat}(A:x.vv VE=some (.bp b g j o es))(G:Q (.bp b g j (o+k) es) B):VI T (.dM x k) VE B [] Q:=fun _ _ _ _ _ z=>by
 obtain⟨_,I,h2⟩:=z.bD A;simp only[aG] at h2;subst h2;exact Qc I (dy z (v:=.bp b g j (o+k) es) (by simp only[aG];rw[kr]) G)
theorem vi_extr{x:aH}{l:List VV}{i:Nat}{v:VV}(A:x.vv VE=some (.tuple l))(hi:l[i]?=some v)(G:Q v B):VI T (.vA x i) VE B [] Q:=fun _ _ _ _ _ z=>by
 obtain⟨_,I,h2⟩:=z.bD A;simp only[aG] at h2;obtain⟨cs,rfl,h2⟩:=h2;obtain⟨a,L,M⟩:=h2.get hi;exact wpI_extr I L (dy z M G)
theorem vi_nilSl{x y:aH}{neg:Bool}{rows:ak}(G:x.vv VE=some (.d (.sl rows)))(I:y.vv VE=some (.d .nil))(L:Q (.d (.b neg)) B):VI T (.eqv .slice neg x y) VE B [] Q:=fun _ _ _ _ _ z=>by
 obtain⟨_,M,h2⟩:=z.bD G;obtain⟨_,O,A⟩:=z.bD I;simp only[aG,bH] at h2 A;subst A;obtain⟨f,g,off,es,rfl,_⟩:=h2;exact F4 (r:=false) M O rfl (dy z (v:=.d (.b neg)) (by simp only[aG,bH];cases neg<;>rfl) L)
theorem vi_nilNil{x y:aH}{neg:Bool}(G:x.vv VE=some (.d .nil))(I:y.vv VE=some (.d .nil))(L:Q (.d (.b (!neg))) B):VI T (.eqv .slice neg x y) VE B [] Q:=fun _ _ _ _ _ z=>by
 obtain⟨_,M,h2⟩:=z.bD G;obtain⟨_,O,A⟩:=z.bD I;simp only[aG,bH] at h2 A;subst A;subst h2;exact F4 (r:=true) M O rfl (dy z (v:=.d (.b (!neg))) (by simp only[aG,bH];cases neg<;>rfl) L)
end
section
variable{T:aN}{H0:Nat→Nat}{X0:Nat→Prop}{VE bF:bo}{B B':aT}{E:Env}{H H':aw}{β:Nat→Nat}{X:Nat→Prop}
variable{W:List Nat}{Q:VV→aT→Prop}
theorem bU.KN:∀{row:List DC}{l:List al}(o n:Nat),bU H X row l→bU H X ((row.drop o).take n) ((l.drop o).take n):=by
 intro row l o n h;have z:=bb.sZ (β:=fun _=>0) h;have h2:=bb.take n (bb.drop o z);rw[←Ml,←Tg] at h2;exact bU.F5 h2
theorem dx{a:aH}{row:List DC}{o:Nat}{x:DC}(A:a.vv VE=some (.rp row o))(G:row[o]?=some x)(I:Q (.d x) B):VI T (.load 1 false a) VE B [] Q:=fun _ _ _ _ _ z=>by
 obtain⟨_,L,h2⟩:=z.bD A;simp only[aG] at h2;obtain⟨f,g,Z,l,rfl,M,O,_⟩:=h2;obtain⟨y,U,Y⟩:=O.get G;exact Fv L M rfl U (dy z (v:=.d x) (by simp only[aG];exact Y) I)
theorem gm{a:aH}{row:List DC}{o n:Nat}(G:a.vv VE=some (.rp row o))(h0:0<n)(I:o+n≤row.length)(L:Q (.agg (((row.drop o).take n).map .d)) B):VI T (.load n true a) VE B [] Q:=fun _ _ _ _ _ z=>by
 obtain⟨_,M,h2⟩:=z.bD G;simp only[aG] at h2;obtain⟨f,g,U,l,rfl,O,A,_⟩:=h2;exact Ky M O rfl (by rw[A.length];exact I) h0 (dy z (v:=.agg (((row.drop o).take n).map .d)) (by simp only[aG];exact⟨_,rfl,bb.sZ (A.KN o n)⟩) L)
theorem dk.Fu{f elem aF:Nat}{row:List VV}(h:dk H X β f (.one elem aF row)):∃l,lj H f 1 0 l∧bb H X β row l:=by
 obtain⟨l,lo,cs,z,h2,A,G⟩:=h;exact⟨l,⟨elem,aF,1,lo,0,cs,z,h2,bq _,Nat.zero_lt_one,A⟩,G⟩
theorem oJ{a:aH}{b o elem aF:Nat}{row:List VV}{v:VV}(A:a.vv VE=some (.vp b o))(G:aL B b=some (.one elem aF row))(I:row[o]?=some v)(L:Q v B):VI T (.load 1 false a) VE B [] Q:=fun _ _ _ _ _ z=>by
 obtain⟨_,M,h2⟩:=z.bD A;simp only[aG] at h2;subst h2;obtain⟨l,O,U⟩:=(z.box b _ G).Fu;obtain⟨y,Y,Z⟩:=U.get I;exact Fv M O (by rw[tG,fG]) Y (dy z Z L)
theorem vi_loadAV{a:aH}{b o n elem aF:Nat}{row:List VV}(G:a.vv VE=some (.vp b o))(I:aL B b=some (.one elem aF row))(h0:0<n)(L:o+n≤row.length)(M:Q (.agg ((row.drop o).take n)) B):VI T (.load n true a) VE B [] Q:=fun _ _ _ _ _ z=>by
 obtain⟨_,O,h2⟩:=z.bD G;simp only[aG] at h2;subst h2;obtain⟨l,U,A⟩:=(z.box b _ I).Fu;exact Ky O U (by rw[tG,fG]) (by rw[A.length];exact L) h0 (dy z (v:=.agg ((row.drop o).take n)) (by simp only[aG];exact⟨_,rfl,bb.take n (bb.drop o A)⟩) M)
theorem jy{a:aH}{b g j o es elem aF lo:Nat}{rows:ak}{row:List DC}{x:DC}(G:a.vv VE=some (.bp b g j o es))(I:aL B b=some (.arr elem aF es lo rows))(L:lo≤g)(h2:g≤rows.length)(M:j<g)(O:rows[j]?=some row)(U:row[o]?=some x)(Y:Q (.d x) B):VI T (.load 1 false a) VE B [] Q:=fun _ _ _ _ _ z=>by
 obtain⟨_,Z,A⟩:=z.bD G;simp only[aG] at A;subst A;obtain⟨l,k3,k4,k5⟩:=(z.box b _ I).cells L h2 M O;obtain⟨y,k6,k7⟩:=k5.get U;exact Fv Z k3 (by rw[k4]) k6 (dy z (v:=.d x) (by simp only[aG];exact k7) Y)
theorem PR{a:aH}{b g j o n es elem aF lo:Nat}{rows:ak}{row:List DC}(I:a.vv VE=some (.bp b g j o es))(L:aL B b=some (.arr elem aF es lo rows))(M:lo≤g)(h2:g≤rows.length)(O:j<g)(U:rows[j]?=some row)(h0:0<n)(Y:o+n≤row.length)(Z:Q (.agg (((row.drop o).take n).map .d)) B):VI T (.load n true a) VE B [] Q:=fun _ _ _ _ _ z=>by
 obtain⟨_,k1,A⟩:=z.bD I;simp only[aG] at A;subst A;obtain⟨l,k3,k4,G⟩:=(z.box b _ L).cells M h2 O U;exact Ky k1 k3 (by rw[k4]) (by rw[G.length];exact Y) h0 (dy z (v:=.agg (((row.drop o).take n).map .d)) (by simp only[aG];exact⟨_,rfl,bb.sZ (G.KN o n)⟩) Z)
theorem Kz{v:VV}{a:al}{b:Nat}{s:BS}(O:Rel H0 X0 VE B E H β)(U:nw b VE=true)(Y:lU b B=true)(Z:H'.next=H.next+1)(I:∀f,f<H.next→H'.t.get f=H.t.get f)(L:H'.aQ=H.aQ)(hw:H'.ws=H.ws)
  (z:∀X β',(∀v a,v.no b=true→aG H (XB X0 B β) β v a→aG H' X β' v a)→(∀row l,bU H (XB X0 B β) row l→bU H' X row l)→dk H' X β' H.next s)
  (hv:∀X β',β' b=H.next→aG H' X β' v a) (hq:Q v ((b,s)::B)):Dq H0 X0 VE B β E H W Q a H':=by
 obtain⟨β',⟨M,h3⟩,h2,_⟩:=O.newBox U Y Z I L z;refine⟨v,_,β',⟨L,ah,fun f A=>.inl (hw▸A),fun c t G ht=>?_,fun f A _=>I f A⟩,h2,hv _ _ M,hq⟩;rw[dn] at G
 by_cases e:b=c
 ·subst e;exact .inr (by rw[M];exact bq _)
 rw[aZ e] at G;exact .inl ⟨t,G,ht,h3 c fun k=>e k.symm⟩
theorem nos_cells{b:Nat}{v:VV}{l:List VV}(h:v.no b=true)(z:v.cells=some l):sE b l=true:=by
 cases v
 case k x=>
  cases x<;>simp only[VV.cells,eB,reduceCtorEq] at z
  all_goals subst z
  all_goals rfl
 all_goals simp only[VV.cells,eB,reduceCtorEq] at z
 all_goals subst z
 all_goals simp_all [sE,VV.no]
theorem Z'{b:Nat}{H1 G:aw}{I L:Nat→Prop}{z A:Nat→Nat}(h:∀v a,v.no b=true→aG H1 I z v a→aG G L A v a):∀{l:List VV}{s:List al},sE b l=true→bb H1 I z l s→bb G L A l s
 |[],_,_,k=>by simp only[bb] at k⊢;exact k
 |v::r,_,n,k=>by
  simp only[bb,sE,cS] at k n⊢;obtain⟨a,s,e,M,h2⟩:=k;exact⟨a,s,e,h v a n.1 M,Z' h n.2 h2⟩
theorem PH{H1 G:aw}{I L:Nat→Prop}{z A:Nat→Nat}(h:∀v a,aG H1 I z v a→aG G L A v a):∀{l:List VV}{s:List al},bb H1 I z l s→bb G L A l s
 |[],_,k=>by simp only[bb] at k⊢;exact k
 |v::r,_,k=>by
  simp only[bb] at k⊢;obtain⟨a,s,e,M,h2⟩:=k;exact⟨a,s,e,h v a M,PH h h2⟩
theorem opd_no{x:aH}{v:VV}{b:Nat}(A:nw b VE=true)(z:x.vv VE=some v):v.no b=true:=by
 cases x with
 |t k=>exact K1 A z
 |c a=>exact constV_no z b
theorem vi_box{elem es aF:Nat}{x:aH}{v:VV}{cells:List VV}(b:Nat)(z:nw b VE=true)(M:lU b B=true)(A:x.vv VE=some v)(G:v.cells=some cells)(O:cells.length=es)(U:Q (.vp b 0) ((b,.one elem aF cells)::B)):VI T (.box elem es aF x) VE B [] Q:=fun _ _ _ H _ I=>by
 obtain⟨a,Y,h2⟩:=I.bD A;obtain⟨s,Z,L⟩:=h2.cells G;refine wpI_box Y Z (by rw[L.length,O]) (Kz (b:=b) (s:=.one elem aF cells) I z M rfl (fun f hf=>(Zj elem aF s).same f hf) rfl rfl (fun X β' k1 _=>?_) (fun X β' k=>by simp only[aG];rw[k]) U);obtain⟨e',b',lo,cs,j1,j2,j3⟩:=boxH_at (H:=H) elem aF s;refine⟨s,1,.one s,?_,bq _,rfl,Z' k1 (nos_cells (opd_no z A) G) L⟩;show(H.t.set H.next _).get H.next=_;rw[GT.di,bh rfl]
def pY:List al→Option (List VV)
 |[]=>some []
 |a::r=>(xf a).bind fun v=>(pY r).map (v:: ·)
theorem Fm:∀{l:List al}{cells:List VV},pY l=some cells→bb H X β cells l
 |[],cells,h=>by simp only[pY,eB] at h;subst h;simp only[bb]
 |a::r,cells,h=>by
  simp only[pY,Dk,Hv] at h;obtain⟨v,z,s,A,rfl⟩:=h;simp only[bb];exact⟨a,r,rfl,YM z,Fm A⟩
theorem vi_boxz{elem es aF:Nat}{l:List al}{cells:List VV}(b:Nat)(z:nw b VE=true)(A:lU b B=true)(G:pY l=some cells)(I:l.length=es)(L:Q (.vp b 0) ((b,.one elem aF cells)::B)):VI T (.pf elem es aF l) VE B [] Q:=fun _ _ _ H _ M=>by
 refine wpI_boxz I (Kz (b:=b) (s:=.one elem aF cells) M z A rfl (fun f O=>(Zj elem aF l).same f O) rfl rfl (fun X β' _ _=>?_) (fun X β' k=>by simp only[aG];rw[k]) L);refine⟨l,1,.one l,?_,bq _,rfl,Fm G⟩;show(H.t.set H.next _).get H.next=_;rw[GT.di,bh rfl]
def K4(l:List VV)(r:Nat)(new:List VV):List VV:=l.take r++(new++l.drop (r+new.length))
theorem bb.eE{l new:List VV}{s t:List al}(r:Nat)(h:bb H X β l s)(k:bb H X β new t):bb H X β (K4 l r new) (eE s r t):=by
 unfold K4 Ev.eE;rw[←k.length];exact(h.take r).append (k.append (h.drop _))
def CS(VE:bo):List (Nat×Nat×aH)→List VV→Option (List VV)
 |[],cells=>some cells
 |p::r,cells=>(p.2.2.vv VE).bind fun v=>v.cells.bind fun new=>bif Nat.beq new.length p.2.1 then CS VE r (K4 cells p.1 new) else none
theorem YN(G:Rel H0 X0 VE B E H β):∀{ps:List (Nat×Nat×aH)}{cells:List VV}{s:List al}{out:List VV},bb H (XB X0 B β) β cells s→CS VE ps cells=some out→∃t,p9 E ps s=some t∧bb H (XB X0 B β) β out t
 |[],cells,s,out,h,z=>by simp only[CS,eB] at z;subst z;exact⟨s,rfl,h⟩
 |p::r,cells,s,out,h,z=>by
  simp only[CS,Dk] at z;obtain⟨v,L,new,M,z⟩:=z;obtain⟨a,O,h2⟩:=G.bD L;obtain⟨t,U,I⟩:=h2.cells M
  cases A:Nat.beq new.length p.2.1 with
  |false=>rw[A] at z;cases z
  |true=>
   rw[A] at z;obtain⟨u,Y,Z⟩:=YN G (h.eE p.1 I) z;refine⟨u,?_,Z⟩;show ob (p.2.2.ev E) none (fun v=>ob (iB v) none fun new=>aD (Nat.beq (gv new) p.2.1) (p9 E r (Ev.eE s p.1 new)) none)=some u;rw[O,cI,U,cI,oO,I.length,A,dV,Y]
theorem vi_build{zero:List al}{ps:List (Nat×Nat×aH)}{z out:List VV}(G:pY zero=some z)(I:CS VE ps z=some out)(L:Q (.agg out) B):VI T (.build zero ps) VE B [] Q:=fun _ _ _ _ _ A=>by
 obtain⟨t,M,h2⟩:=YN A (Fm G) I;exact wpI_build M (dy A (v:=.agg out) (by simp only[aG];exact⟨t,rfl,h2⟩) L)
def U8(row:List VV)(o:Nat)(new:List VV):List VV:=bif Nat.beq new.length row.length then new else K4 row o new
theorem bb.bif{t0:Bool}{a b:List VV}{s t:List al}(h:bb H X β a s)(k:bb H X β b t):bb H X β (bif t0 then a else b) (bif t0 then s else t):=by
 cases t0
 ·exact k
 exact h
theorem Tz{f q o n m elem es aF lo:Nat}{l new:List al}{cs:RT}{e:aC}{K:aw→aC}(z:H.t.get f=some (.row elem es aF m lo 0 cs))(h2:lo≤m)(G:q<m)(I:cs.get q=some l)(Y:l.length=es)(L:new.length=n)(h0:0<n)(M:o+n≤es):
  wr H f m (q*es+o) n new e K=K ⟨H.next,H.aQ,wrote f H.aQ H.ws,H.t.set f (.row elem es aF m m 0 (cs.set q (bif Nat.beq n es then new else eE l o new)))⟩:=by
 cases H with
 |mk next aQ ws t=>
  have z:t.get f=some (.row elem es aF m lo 0 cs):=z;have O:(q*es+o)/es=q:=by
   by_cases ho:o=es
   ·omega
   rw[qC,Nat.mul_add_div ah,afq ah];rfl
  have U:(q*es+o) % es=o:=by
   by_cases ho:o=es
   ·omega
   rw[qC,Nat.mul_add_mod,DU ah]
  show iR (t.get f) e (fun elem cV aF A lo fl cs=>
    aD (Nat.beq fl 0) (aD (Nat.beq m A) (aD (Nat.ble lo m) (aD (Nat.ble (Nat.add (Nat.mod (q*es+o) cV) n) cV) (aD (Nat.ble (Nat.succ (Nat.div (q*es+o) cV)) m) (aD (Nat.beq (gv new) n)
     (ob (cs.get (Nat.div (q*es+o) cV)) e fun l=>cs.fh (Nat.div (q*es+o) cV) (aD (Nat.beq n cV) new (eE l (Nat.mod (q*es+o) cV) new)) fun cs=>t.fh f (.row elem cV aF A A 0 cs) fun t=>K ⟨next,aQ,wrote f aQ ws,t⟩) e) e) e) e) e) e)=_
  rw[z]
  show aD (Nat.beq 0 0) (aD (Nat.beq m m) (aD (Nat.ble lo m) (aD (Nat.ble (Nat.add (Nat.mod (q*es+o) es) n) es) (aD (Nat.ble (Nat.succ (Nat.div (q*es+o) es)) m) (aD (Nat.beq (gv new) n)
     (ob (cs.get (Nat.div (q*es+o) es)) e fun l=>cs.fh (Nat.div (q*es+o) es) (aD (Nat.beq n es) new (eE l (Nat.mod (q*es+o) es) new)) fun cs=>t.fh f (.row elem es aF m m 0 cs) fun t=>K ⟨next,aQ,wrote f aQ ws,t⟩) e) e) e) e) e) e=_
  rw[show Nat.mod (q*es+o) es=o from U,show Nat.div (q*es+o) es=q from O,show Nat.beq 0 0=true from rfl,dV,show Nat.beq m m=true from ia m,dV,gF h2,dV,
   show Nat.ble (Nat.add o n) es=true from gF M,dV,show Nat.ble (Nat.succ q) m=true from gF G,dV,oO,L,show Nat.beq n n=true from ia n,dV,I,cI,RT.i4,GT.i4]
  cases Nat.beq n es<;>rfl
theorem Qe{call:dG}{n f g o:Nat}{a x:aH}{v:al}{new:List al}(z:a.ev E=some (.ptr f g o))(A:x.ev E=some v)(G:iB v=some new):
  (bn.store n a x).ev call E H=wr H f g o n new (.err 5) fun H=>.ok .undef H:=by
 show bk a E (.err 5) (fun p=>gq p (.err 5) fun f g off=>bk x E (.err 5) fun v=>ob (iB v) (.err 5) fun l=>wr H f g off n l (.err 5) fun H=>.ok .undef H)=_;rw[cL,z,cI];show bk x E (.err 5) (fun v=>ob (iB v) (.err 5) fun l=>wr H f g o n l (.err 5) fun H=>.ok .undef H)=_;rw[cL,A,cI,G,cI]
theorem Fw{v:VV}{a:al}{b:Nat}{s s':BS}(M:Rel H0 X0 VE B E H β)(U:aL B b=some s)(A:s.born)(hn:H'.next=H.next)(hs:∀f,f≠β b→H'.t.get f=H.t.get f)(hm:H'.aQ=H.aQ)(hw:H'.ws=wrote (β b) H.aQ H.ws)
  (U7:∀X,(∀v a,aG H (XB X0 B β) β v a→aG H' X β v a)→(∀row l,bU H (XB X0 B β) row l→bU H' X row l)→dk H' X β (β b) s')
  (hv:∀X,aG H' X β v a) (hq:Q v ((b,s')::B)):Dq H0 X0 VE B β E H [b] Q a H':=by
 have Bf:=M.new b s U A;have z:∀c t,aL ((b,s')::B) c=some t→(c=b∧t=s')∨(c≠b∧aL B c=some t):=fun c t G=>by
  rw[dn] at G
  by_cases e:b=c
  ·rw[bh e] at G;cases G;exact .inl ⟨e.symm,rfl⟩
  rw[aZ e] at G;exact .inr ⟨fun k=>e k.symm,G⟩
 have hX:∀f,XB X0 ((b,s')::B) β f→XB X0 B β f:=fun f hx=>by
  rcases hx with k|⟨c,t,Y,ho,h2⟩
  ·exact .inl k
  rcases z c t Y with⟨rfl,_⟩|⟨_,O⟩
  ·exact .inr ⟨_,s,U,A,h2⟩
  exact .inr ⟨c,t,O,ho,h2⟩
 have hl:e9 H (XB X0 B β) H' (XB X0 ((b,s')::B) β):=⟨ah,fun f I hx=>⟨fun k=>hx (hX f k),hs f fun e=>hx (.inr ⟨b,s,U,A,e.symm⟩)⟩⟩;refine⟨v,(b,s')::B,β,⟨hm,ah,fun f I=>?_,fun c t G ht=>?_,fun f I sB=>hs f fun e=>sB b s U A e.symm⟩,⟨M.kY,by rw[hm,hn];exact M.aQ,(fun f I=>by rw[hn];exact M.x0 f I),fun c t G L=>?_,fun c e t u G he L huo Z=>?_,fun k w hk=>?_,fun c t G=>?_⟩,hv _,hq⟩
 ·rw[hw] at I;unfold wrote at I
  cases Y:Nat.ble H.aQ (β b) with
  |true=>rw[Y] at I;exact .inl I
  |false=>
   rw[Y] at I
   cases h2:qG (β b) H.ws with
   |true=>rw[h2] at I;exact .inl I
   |false=>
    rw[h2] at I;rcases List.mem_cons.1 I with rfl|h
    ·refine .inr ⟨?_,b,s,gu ..,U,A,rfl⟩
     by_cases hl:H.aQ≤β b
     ·rw[gF hl] at Y;cases Y
     omega
    exact .inl h
 ·rcases z c t G with⟨rfl,_⟩|⟨_,O⟩
  ·exact .inl ⟨s,U,A,rfl⟩
  exact .inl ⟨t,O,ht,rfl⟩
 ·rw[hn];rcases z c t G with⟨rfl,_⟩|⟨_,O⟩
  ·exact Bf
  exact M.new c t O L
 ·rcases z c t G with⟨rfl,_⟩|⟨_,O⟩<;>rcases z e u he with⟨rfl,_⟩|⟨_,h4⟩
  ·rfl
  ·exact M.inj _ _ _ _ U h4 A huo Z
  ·exact M.inj _ _ _ _ O U L A Z
  exact M.inj _ _ _ _ O h4 L huo Z
 ·obtain⟨a,Y,h2⟩:=M.env k w hk;exact⟨a,Y,h2.lift hl⟩
 rcases z c t G with⟨rfl,rfl⟩|⟨JY,O⟩
 ·exact U7 _ (fun v a k=>k.lift hl) (fun row l k=>k.lift hl)
 exact dk.HS hl (fun L=>hs _ fun e=>JY (M.inj c b t s O U L A e)) (M.box c t O)
theorem vi_storeV{n:Nat}{a x:aH}{b o elem aF:Nat}{row new:List VV}{v:VV}(Z:a.vv VE=some (.vp b o))(I:aL B b=some (.one elem aF row))(hx:x.vv VE=some v)(hv:v.cells=some new)(L:new.length=n)(h0:0<n)(hk:o+n≤row.length)(hq:Q .undef ((b,.one elem aF (U8 row o new))::B)):VI T (.store n a x) VE B [b] Q:=fun _ X0 _ H β z=>by
 obtain⟨_,h1,h2⟩:=z.bD Z;simp only[aG] at h2;subst h2;obtain⟨y,h3,h4⟩:=z.bD hx;obtain⟨t,h5,M⟩:=h4.cells hv;obtain⟨l,lo,cs,k1,k2,k3,O⟩:=z.box b _ I;have ht:t.length=n:=by rw[M.length,L]
 have A:=O.length;have e:=fun K=>Tz (e:=aC.err 5) (K:=K) (q:=0) (o:=o) (n:=n) (new:=t) k1 k2 Nat.zero_lt_one k3 rfl ht h0 ah
 simp only[tG,fG] at e;refine⟨0,.undef,_,fun lf m _ _=>by rw[Qe h1 h3 h5,e],?_⟩;refine Fw z I trivial rfl (fun f hf=>?_) rfl rfl (fun X U j2=>?_) (fun X=>by simp only[aG]) hq
 ·show(H.t.set (β b) _).get f=_;rw[GT.di,aZ hf]
 have hlen:(bif Nat.beq n l.length then t else eE l o t).length=l.length:=by
  cases G:Nat.beq n l.length with
  |true=>have:=cq G;show t.length=_;omega
  |false=>show(eE l o t).length=_;simp only[eE,fA,lF,rG];omega
 refine⟨bif Nat.beq n l.length then t else eE l o t,1,cs.set 0 (bif Nat.beq n l.length then t else eE l o t),?_,bq _,by rw[RT.di,bh rfl],?_⟩
 ·show(H.t.set (β b) _).get (β b)=_;rw[GT.di,bh rfl,hlen]
 have Y:=PH U M;have h8:=PH U O;unfold U8;rw[L,←A];exact bb.bif Y (h8.eE o Y)
end
end Go.Ev
