/- Part 13 of rules for walks through the code of a program, and of such walks; what each part proves is said by its theorems. -/
import Derived.Test.YtdaamclhcpjdpaaGreatDoorT12
set_option linter.unusedVariables false
set_option linter.unusedSimpArgs false
noncomputable section
set_option maxRecDepth 100000
set_option maxHeartbeats 4000000
namespace Go.Ev
def xq:ak→Option VV
 |.int k n=>some (.d (.i k n))
 |.bool b=>some (.d (.b b))
 |.str l v=>some (.d (.s l v))
 |.fL=>some (.d .nil)
 |.ke=>some (.k .ke)
 |.kj=>some (.k .kj)
 |.mO=>some (.k .mO)
 |.func f fs cs=>match fs,cs with
  |[],[]=>some (.fn f [])
  |_,_=>none
 |_=>none
def aI.vv(VE:bq):aI→Option VV
 |.t k=>aN VE k.n
 |.c a=>xq a
def VV.cells:VV→Option (List VV)
 |.agg l=>some l
 |.d x=>some [.d x]
 |.vp b o=>some [.vp b o]
 |.bs b n es=>some [.bs b n es]
 |.ac b n es=>some [.ac b n es]
 |.k .ke=>some [.k .ke]
 |.k .kj=>some [.k .kj]
 |.k .mO=>some [.k .mO]
 |.iq=>some [.iq]
 |.fn f c=>some [.fn f c]
 |_=>none
def iu:List VV→Option (List DC)
 |[]=>some []
 |.d x::r=>(iu r).map (x:: ·)
 |_::_=>none
def an{α:Type}:List (Nat×α)→List (Nat×α)→Prop
 |[],_=>True
 |(i,v)::r,l=>aN l i=some v∧an r l
theorem an.get{α:Type}:∀{l m:List (Nat×α)},an l m→∀{k:Nat}{v:α},aN l k=some v→aN m k=some v
 |[],_,_,_,_,h=>by cases h
 |(i,w)::r,m,z,k,v,h=>by
  rw[dr] at h
  by_cases e:i=k
  ·rw[bj e] at h;cases h;exact e▸z.1
  rw[aZ e] at h;exact an.get z.2 h
theorem abl:∀{l:List VV}{row:List DC},iu l=some row→l=row.map .d
 |[],row,h=>by simp only[iu,eA] at h;subst h;rfl
 |.d x::r,row,h=>by
  simp only[iu,HF] at h;obtain⟨s,z,rfl⟩:=h;rw[abl z];rfl
 |.agg _::_,_,h=>by simp[iu] at h
 |.tuple _::_,_,h=>by simp[iu] at h
 |.vp _ _::_,_,h=>by simp[iu] at h
 |.bp _ _ _ _ _::_,_,h=>by simp[iu] at h
 |.rp _ _::_,_,h=>by simp[iu] at h
 |.bs _ _ _::_,_,h=>by simp[iu] at h
 |.ac _ _ _::_,_,h=>by simp[iu] at h
 |.fn _ _::_,_,h=>by simp[iu] at h
 |.k _::_,_,h=>by simp[iu] at h
 |.iq::_,_,h=>by simp[iu] at h
 |.undef::_,_,h=>by simp[iu] at h
section
variable{T:aO}{H0:Nat→Nat}{X0:Nat→Prop}{VE bH:bq}{B B':aU}{E:Env}{H H':ay}{β:Nat→Nat}{X:Nat→Prop}
theorem Zc{a:ak}{v:VV}(h:xq a=some v):aG H X β v a:=by
 cases a
 case func f fs cs=>
  cases fs<;>cases cs<;>simp only[xq,eA,reduceCtorEq] at h
  subst h;simp only[aG,aY];exact⟨[],rfl,rfl⟩
 all_goals simp only[xq,eA,reduceCtorEq] at h
 all_goals subst h
 all_goals first|(simp only[aG,bK];done)|(simp only[aG])
theorem constV_no{a:ak}{v:VV}(h:xq a=some v)(b:Nat):v.no b=true:=by
 cases a
 case func f fs cs=>
  cases fs<;>cases cs<;>simp only[xq,eA,reduceCtorEq] at h
  subst h;rfl
 all_goals simp only[xq,eA,reduceCtorEq] at h
 all_goals subst h
 all_goals simp only[VV.no]
theorem Rel.bG(z:Rel H0 X0 VE B E H β){x:aI}{v:VV}(h:x.vv VE=some v):∃a,x.ev E=some a∧aG H (XB X0 B β) β v a:=by
 cases x with
 |t k=>exact z.env k v h
 |c a=>exact⟨a,rfl,Zc h⟩
theorem aG.cells{v:VV}{a:ak}{l:List VV}(h:v.cells=some l)(z:aG H X β v a):∃s,iD a=some s∧aY H X β l s:=by
 cases v with
 |agg m=>
  simp only[VV.cells,eA] at h;subst h;simp only[aG] at z;obtain⟨cs,rfl,h⟩:=z;exact⟨cs,rfl,h⟩
 |d x=>
  simp only[VV.cells,eA] at h;subst h;have:iD a=some [a]:=by
   simp only[aG] at z
   cases x with
   |i k n=>simp only[bK] at z;subst z;rfl
   |b t=>simp only[bK] at z;subst z;rfl
   |s l n=>simp only[bK] at z;subst z;rfl
   |nil=>simp only[bK] at z;subst z;rfl
   |sl rows=>simp only[bK] at z;obtain⟨f,g,off,es,rfl,_⟩:=z;rfl
   |raw f n es=>simp only[bK] at z;subst z;rfl
  exact⟨[a],this,by simp only[aY];exact⟨a,[],rfl,z,rfl⟩⟩
 |vp b o=>
  simp only[VV.cells,eA] at h;subst h;have e:a= .ptr (β b) 1 o:=by simpa only[aG] using z
  exact⟨[a],by subst e;rfl,by simp only[aY];exact⟨a,[],rfl,z,rfl⟩⟩
 |bs b n es=>
  simp only[VV.cells,eA] at h;subst h;have e:a= .slice (β b) n 0 n es:=by simpa only[aG] using z
  exact⟨[a],by subst e;rfl,by simp only[aY];exact⟨a,[],rfl,z,rfl⟩⟩
 |fn f c=>
  simp only[VV.cells,eA] at h;subst h;have e:∃cs,a= .func f [] cs∧aY H X β c cs:=by simpa only[aG] using z
  obtain⟨cs,e,_⟩:=e;exact⟨[a],by subst e;rfl,by simp only[aY];exact⟨a,[],rfl,z,rfl⟩⟩
 |iq=>
  simp only[VV.cells,eA] at h;subst h;have e:∃t x,a= .iface t x:=by simpa only[aG] using z
  obtain⟨t,x,e⟩:=e;exact⟨[a],by subst e;rfl,by simp only[aY];exact⟨a,[],rfl,z,rfl⟩⟩
 |k x=>
  have e:a=x:=by simpa only[aG] using z
  cases x<;>simp only[VV.cells,eA,reduceCtorEq] at h
  all_goals subst h
  all_goals exact⟨[a],by subst e;rfl,by simp only[aY];exact⟨a,[],rfl,z,rfl⟩⟩
 |ac b n es=>
  simp only[VV.cells,eA] at h;subst h;have e:iD a=some [a]:=by
   simp only[aG] at z;rcases z with⟨_,rfl⟩|⟨_,rfl⟩<;>rfl
  exact⟨[a],e,by simp only[aY];exact⟨a,[],rfl,z,rfl⟩⟩
 |tuple _=>simp[VV.cells] at h
 |bp _ _ _ _ _=>simp[VV.cells] at h
 |rp _ _=>simp[VV.cells] at h
 |undef=>simp[VV.cells] at h
theorem dC{W:List Nat}{Q:VV→aU→Prop}{a:ak}{v:VV}(z:Rel H0 X0 VE B E H β)(A:aG H (XB X0 B β) β v a)(G:Q v B):DS H0 X0 VE B β E H W Q a H:=
 ⟨v,B,β,.refl,z,A,G⟩
theorem Rel.MP(h:Rel H0 X0 VE B E H β)(z:∀k s,aN B' k=some s→aN B k=some s):Rel H0 X0 VE B' E H β:=by
 have I:fc H (XB X0 B β) H (XB X0 B' β):=⟨bt _,fun f _ L=>⟨fun k=>L (k.imp id fun⟨c,s,G,h2⟩=>⟨c,s,z c s G,h2⟩),rfl⟩⟩;refine⟨h.kY,h.aQ,h.x0,fun c s A=>h.new c s (z c s A),fun c e s t A M=>h.inj c e s t (z c s A) (z e t M),fun k v O=>?_,fun c s A=>(h.box c s (z c s A)).lift I rfl⟩;obtain⟨a,G,h2⟩:=h.env k v O;exact⟨a,G,h2.lift I⟩
theorem aS{c:IC}{R:Ex→bq→aU→Prop}(bH:bq)(B':aU)(A:an bH VE)(h2:an B' B)(h:VC T c bH B' R):VC T c VE B R:=
 fun H0 X0 E H β G=>(h H0 X0 E H β ((G.less fun _ _ z=>A.get z).MP fun _ _ z=>h2.get z)).mono fun _ _ _ I=>I.more fun _ s L M=>⟨s,h2.get L,M⟩
mutual
def VV.jZ(b:Nat)(x:DC):VV→VV
 |.agg l=>.agg (N8 b x l)
 |.bs c n es=>bif Nat.beq c b then .d x else .bs c n es
 |.ac c n es=>bif Nat.beq c b then .d x else .ac c n es
 |v=>v
def N8(b:Nat)(x:DC):List VV→List VV
 |[]=>[]
 |v::r=>v.jZ b x::N8 b x r
end
mutual
def VV.um(b n es:Nat):VV→Prop
 |.agg l=>N9 b n es l
 |.bs c m e=>c=b→m=n∧e=es
 |.ac c _ _=>c≠b
 |_=>True
def N9(b n es:Nat):List VV→Prop
 |[]=>True
 |v::r=>v.um b n es∧N9 b n es r
end
theorem dF.oN{f g es:Nat}:∀{rows:aj}{q:Nat},(∀i row,rows[i]?=some row→∃l,lj H f g (q+i) l∧l.length=es∧bZ H X row l)→dF H X f g es q rows
 |[],_,_=>trivial
 |row::r,q,h=>by
  simp only[dF];refine⟨h 0 row rfl,dF.oN fun i row hi=>?_⟩;rw[show q+1+i=q+(i+1) by omega];exact h (i+1) row (by simpa using hi)
theorem dq.cells{f elem aE es lo:Nat}{rows:aj}(h:dq H X β f (.arr elem aE es lo rows)){g:Nat}(Y:lo≤g)(h2:g≤rows.length){q:Nat}(I:q<g){row:List DC}(z:rows[q]?=some row):∃l,lj H f g q l∧l.length=es∧bZ H X row l:=by
 obtain⟨A,cs,L,Z,k3,M⟩:=h;obtain⟨l,O,G,U⟩:=M q row z;exact⟨l,⟨elem,aE,rows.length,A,0,cs,by rw[G];exact L,aq,h2,I,O⟩,G,U⟩
theorem Rel.asData(G:Rel H0 X0 VE B E H β){b elem aE es lo:Nat}{rows:aj}(I:aN B b=some (.arr elem aE es lo rows)){X:Nat→Prop}(M:¬X (β b))(O:fc H (XB X0 B β) H X):bK H X (.sl rows) (.slice (β b) rows.length 0 rows.length es):=by
 have L:=G.box b _ I;simp only[bK];refine⟨β b,rows.length,0,es,rfl,.inr ⟨M,(G.new b _ I trivial).2,0,by simp,dF.oN fun i row hi=>?_⟩⟩;have z:=(List.getElem?_eq_some_iff.1 hi).1;have A:lo≤rows.length:=by obtain⟨_,_,_,_,h,_⟩:=L;exact h
 obtain⟨l,U,h2,Y⟩:=L.cells (g:=rows.length) A (bt _) z hi;exact⟨l,by rw[fM];exact U,h2,Y.lift O⟩
theorem Rel.jZ(I:Rel H0 X0 VE B E H β){b elem aE es lo:Nat}{rows:aj}(L:aN B b=some (.arr elem aE es lo rows)){k:Nat}{v:VV}(hv:aN VE k=some v)(ho:v.um b rows.length es):
  Rel H0 X0 ((k,v.jZ b (.sl rows))::VE) (du B b) E H β:=by
 have M:=I.drop b;have O:¬XB X0 (du B b) β (β b):=by
  rintro(h|⟨c,s,z,U,h2⟩)
  ·exact(I.new b _ L trivial).1 h
  rw[mN] at z
  by_cases e:b=c
  ·rw[bj e] at z;cases z
  rw[aZ e] at z;exact e (I.inj c b s _ z L U trivial h2).symm
 have hl:fc H (XB X0 B β) H (XB X0 (du B b) β):=⟨bt _,fun f _ O=>⟨fun k=>O (k.imp id fun⟨c,s,z,h2⟩=>⟨c,s,by
  rw[mN] at z
  by_cases e:b=c
  ·rw[bj e] at z;cases z
  rw[aZ e] at z;exact z,h2⟩),rfl⟩⟩
 have G:=I.asData L O hl;have main:(∀v:VV,v.um b rows.length es→∀a,aG H (XB X0 (du B b) β) β v a→aG H (XB X0 (du B b) β) β (v.jZ b (.sl rows)) a):=by
  intro v;refine VV.rec (motive_1:=fun v=>v.um b rows.length es→∀a,aG H (XB X0 (du B b) β) β v a→aG H (XB X0 (du B b) β) β (v.jZ b (.sl rows)) a)
   (motive_2:=fun l=>N9 b rows.length es l→∀s,aY H (XB X0 (du B b) β) β l s→aY H (XB X0 (du B b) β) β (N8 b (.sl rows) l) s) ?_ ?_ ?_ ?_ ?_ ?_ ?_ ?_ ?_ ?_ ?_ ?_ ?_ ?_ v
  ·intro x _ a h;exact h
  ·intro l ih ho a h;simp only[aG,VV.jZ,VV.um] at h ho⊢;obtain⟨cs,e,h⟩:=h;exact⟨cs,e,ih ho cs h⟩
  ·intro l _ _ a h;exact h
  ·intro c o _ a h;exact h
  ·intro c g q o e _ a h;exact h
  ·intro row o _ a h;exact h
  ·intro c n e ho a h;simp only[VV.jZ,VV.um] at h ho⊢
   by_cases A:c=b
   ·obtain⟨rfl,rfl⟩:=ho A;subst A;rw[show Nat.beq c c=true from ij c];simp only[aG] at h;subst h;show aG H _ β (.d (.sl rows)) _;simp only[aG];exact G
   have:Nat.beq c b=false:=by
    cases Y:Nat.beq c b
    ·rfl
    exact absurd (cD Y) A
   rw[this];exact h
  ·intro c n e ho a h;simp only[VV.jZ,VV.um] at ho⊢;have:Nat.beq c b=false:=by
    cases Y:Nat.beq c b
    ·rfl
    exact absurd (cD Y) ho
   rw[this];exact h
  ·intro f c _ _ a h;exact h
  ·intro x _ a h;exact h
  ·intro _ a h;exact h
  ·intro _ a h;exact h
  ·intro _ s h;exact h
  intro v r Z Xz ho s h;simp only[aY,N8,N9] at h ho⊢;obtain⟨a,s,e,z,h2⟩:=h;exact⟨a,s,e,Z ho.1 a z,Xz ho.2 s h2⟩
 refine{M with env:=fun c w A=>?_};rw[dr] at A
 by_cases e:k=c.n
 ·rw[bj e] at A
  cases A
  obtain⟨a,z,h2⟩:=M.env c v (e▸hv);exact⟨a,z,main v ho a h2⟩
 rw[aZ e] at A;exact M.env c w A
theorem eV{ops:List bl}{Q:bq→aU→Prop}(k b:Nat){v:VV}{elem aE es lo:Nat}{rows:aj}(z:aN VE k=some v)(A:aN B b=some (.arr elem aE es lo rows))(ho:v.um b rows.length es)(h:VO T ops ((k,v.jZ b (.sl rows))::VE) (du B b) Q):VO T ops VE B Q:=
 fun H0 X0 E H β G=>(h H0 X0 E H β (G.jZ A z ho)).mono fun _ _ I=>I.more xf
theorem mS{c:IC}{R:Ex→bq→aU→Prop}(k b:Nat){v:VV}{elem aE es lo:Nat}{rows:aj}(z:aN VE k=some v)(A:aN B b=some (.arr elem aE es lo rows))(ho:v.um b rows.length es)(h:VC T c ((k,v.jZ b (.sl rows))::VE) (du B b) R):VC T c VE B R:=
 fun H0 X0 E H β G=>(h H0 X0 E H β (G.jZ A z ho)).mono fun _ _ _ I=>I.more xf
variable{W:List Nat}{Q:VV→aU→Prop}
theorem wrap64{n:Int}(z: -9223372036854775808≤n)(h2:n≤9223372036854775807):IntKind.i64.wrap n=n:=by
 simp[IntKind.wrap,IntKind.bits,IntKind.signed]
 split<;>omega
theorem sU{x:aI}{v:VV}(A:x.vv VE=some v)(G:Q v B):VI T (.cj x) VE B [] Q:=fun _ _ _ _ _ z=>by
 obtain⟨a,I,h2⟩:=z.bG A;exact wpI_mov I (dC z h2 G)
theorem aau{c x y:aI}{v:VV}(G:c.vv VE=some (.d (.b true)))(I:x.vv VE=some v)(L:Q v B):VI T (.pick c x y) VE B [] Q:=fun _ _ _ _ _ z=>by
 obtain⟨a,M,h2⟩:=z.bG I;obtain⟨t,O,A⟩:=z.bG G;simp only[aG,bK] at A;subst A;exact aam (t:=true) O M (dC z h2 L)
theorem aav{c x y:aI}{v:VV}(G:c.vv VE=some (.d (.b false)))(I:y.vv VE=some v)(L:Q v B):VI T (.pick c x y) VE B [] Q:=fun _ _ _ _ _ z=>by
 obtain⟨a,M,h2⟩:=z.bG I;obtain⟨t,O,A⟩:=z.bG G;simp only[aG,bK] at A;subst A;exact aam (t:=false) O M (dC z h2 L)
theorem adB{x:aI}{b:Bool}(A:x.vv VE=some (.d (.b b)))(G:Q (.d (.b (!b))) B):VI T (.un .not x) VE B [] Q:=fun _ _ _ _ _ z=>by
 obtain⟨_,I,h2⟩:=z.bG A;simp only[aG,bK] at h2;subst h2;exact wpI_un I rfl (dC z (v:=.d (.b (!b))) (by simp only[aG,bK]) G)
theorem abm{k A:IntKind}{x:aI}{n:Int}(G:x.vv VE=some (.d (.i A n)))(I:Q (.d (.i k (k.wrap n))) B):VI T (.conv k x) VE B [] Q:=fun _ _ _ _ _ z=>by
 obtain⟨_,L,h2⟩:=z.bG G;simp only[aG,bK] at h2;subst h2;exact wpI_conv L (dC z (v:=.d (.i k (k.wrap n))) (by simp only[aG,bK,nD]) I)
theorem adC{x:aI}{rows:aj}(A:x.vv VE=some (.d (.sl rows)))(G:Q (.d (.i .i64 rows.length)) B):VI T (.len x) VE B [] Q:=fun _ _ _ _ _ z=>by
 obtain⟨_,I,h2⟩:=z.bG A;simp only[aG,bK] at h2;obtain⟨f,g,off,es,rfl,_⟩:=h2;exact K7 I (dC z (v:=.d (.i .i64 rows.length)) (by simp only[aG,bK]) G)
theorem La{x:aI}(A:x.vv VE=some (.d .nil))(G:Q (.d (.i .i64 0)) B):VI T (.len x) VE B [] Q:=fun _ _ _ _ _ z=>by
 obtain⟨_,I,h2⟩:=z.bG A;simp only[aG,bK] at h2;subst h2;exact YZ I (dC z (v:=.d (.i .i64 0)) (by simp only[aG,bK]) G)
theorem vi_lenB{x:aI}{b n es:Nat}(A:x.vv VE=some (.bs b n es))(G:Q (.d (.i .i64 n)) B):VI T (.len x) VE B [] Q:=fun _ _ _ _ _ z=>by
 obtain⟨_,I,h2⟩:=z.bG A;simp only[aG] at h2;subst h2;exact K7 I (dC z (v:=.d (.i .i64 n)) (by simp only[aG,bK]) G)
theorem vi_lenS{x:aI}{l s:Nat}(A:x.vv VE=some (.d (.s l s)))(G:Q (.d (.i .i64 l)) B):VI T (.tQ x) VE B [] Q:=fun _ _ _ _ _ z=>by
 obtain⟨_,I,h2⟩:=z.bG A;simp only[aG,bK] at h2;subst h2;exact aan I (dC z (v:=.d (.i .i64 l)) (by simp only[aG,bK]) G)
theorem vi_idx{x i:aI}{es j:Nat}{k:IntKind}{rows:aj}{row:List DC}(M:x.vv VE=some (.d (.sl rows)))(hi:i.vv VE=some (.d (.i k (j:Int))))(G:rows[j]?=some row)(O:row.length=es)(U:Q (.rp row 0) B):VI T (.gQ es x i) VE B [] Q:=fun _ _ _ _ _ z=>by
 obtain⟨_,Y,h2⟩:=z.bG M;obtain⟨_,Z,A⟩:=z.bG hi;simp only[aG] at h2 A;simp only[bK] at A;subst A;obtain⟨f,g,off,cY,rfl,hg⟩:=h2.slice;obtain⟨k1,k2,Q1,l,k3,I,k5,L⟩:=hg G;have e:cY=es:=by rw[←I,L.length,O]
 subst e;refine P8 Y Z (List.getElem?_eq_some_iff.1 G).1 (dC z (v:=.rp row 0) ?_ U);simp only[aG];exact⟨f,g,Q1,l,by rw[k5,I];rfl,k3,L,k1,k2⟩
theorem fb{x i:aI}{es b n j:Nat}{k:IntKind}(G:x.vv VE=some (.bs b n es))(hi:i.vv VE=some (.d (.i k (j:Int))))(I:j<n)(L:Q (.bp b n j 0 es) B):VI T (.gQ es x i) VE B [] Q:=fun _ _ _ _ _ z=>by
 obtain⟨_,M,h2⟩:=z.bG G;obtain⟨_,O,A⟩:=z.bG hi;simp only[aG] at h2 A;simp only[bK] at A;subst A;subst h2;exact P8 M O I (dC z (v:=.bp b n j 0 es) (by simp only[aG];rw[fM,qv]) L)
theorem F1{x:aI}{row:List DC}{o k:Nat}(A:x.vv VE=some (.rp row o))(G:Q (.rp row (o+k)) B):VI T (.dM x k) VE B [] Q:=fun _ _ _ _ _ z=>by
 obtain⟨_,I,h2⟩:=z.bG A;simp only[aG] at h2;obtain⟨f,g,L,l,rfl,M⟩:=h2;exact Qq I (dC z (v:=.rp row (o+k)) (by simp only[aG];exact⟨f,g,L,l,by rw[kH],M⟩) G)
theorem pQ{x:aI}{b o k:Nat}(A:x.vv VE=some (.vp b o))(G:Q (.vp b (o+k)) B):VI T (.dM x k) VE B [] Q:=fun _ _ _ _ _ z=>by
 obtain⟨_,I,h2⟩:=z.bG A;simp only[aG] at h2;subst h2;exact Qq I (dC z (v:=.vp b (o+k)) (by simp only[aG]) G)
theorem vi_offsB{x:aI}{b g j o es k:Nat}(A:x.vv VE=some (.bp b g j o es))(G:Q (.bp b g j (o+k) es) B):VI T (.dM x k) VE B [] Q:=fun _ _ _ _ _ z=>by
 obtain⟨_,I,h2⟩:=z.bG A;simp only[aG] at h2;subst h2;exact Qq I (dC z (v:=.bp b g j (o+k) es) (by simp only[aG];rw[kH]) G)
theorem vi_extr{x:aI}{l:List VV}{i:Nat}{v:VV}(A:x.vv VE=some (.tuple l))(hi:l[i]?=some v)(G:Q v B):VI T (.vI x i) VE B [] Q:=fun _ _ _ _ _ z=>by
 obtain⟨_,I,h2⟩:=z.bG A;simp only[aG] at h2;obtain⟨cs,rfl,h2⟩:=h2;obtain⟨a,L,M⟩:=h2.get hi;exact wpI_extr I L (dC z M G)
theorem Qt{x y:aI}{neg:Bool}{rows:aj}(G:x.vv VE=some (.d (.sl rows)))(I:y.vv VE=some (.d .nil))(L:Q (.d (.b neg)) B):VI T (.eqv .slice neg x y) VE B [] Q:=fun _ _ _ _ _ z=>by
 obtain⟨_,M,h2⟩:=z.bG G;obtain⟨_,O,A⟩:=z.bG I;simp only[aG,bK] at h2 A;subst A;obtain⟨f,g,off,es,rfl,_⟩:=h2;exact K6 (r:=false) M O rfl (dC z (v:=.d (.b neg)) (by simp only[aG,bK];cases neg<;>rfl) L)
theorem P'{x y:aI}{neg:Bool}(G:x.vv VE=some (.d .nil))(I:y.vv VE=some (.d .nil))(L:Q (.d (.b (!neg))) B):VI T (.eqv .slice neg x y) VE B [] Q:=fun _ _ _ _ _ z=>by
 obtain⟨_,M,h2⟩:=z.bG G;obtain⟨_,O,A⟩:=z.bG I;simp only[aG,bK] at h2 A;subst A;subst h2;exact K6 (r:=true) M O rfl (dC z (v:=.d (.b (!neg))) (by simp only[aG,bK];cases neg<;>rfl) L)
end
section
variable{T:aO}{H0:Nat→Nat}{X0:Nat→Prop}{VE bH:bq}{B B':aU}{E:Env}{H H':ay}{β:Nat→Nat}{X:Nat→Prop}
variable{W:List Nat}{Q:VV→aU→Prop}
theorem bZ.KT:∀{row:List DC}{l:List ak}(o n:Nat),bZ H X row l→bZ H X ((row.drop o).take n) ((l.drop o).take n):=by
 intro row l o n h;have z:=aY.sI (β:=fun _=>0) h;have h2:=aY.take n (aY.drop o z);rw[←ME,←TK] at h2;exact bZ.Gj h2
theorem c4{a:aI}{row:List DC}{o:Nat}{x:DC}(A:a.vv VE=some (.rp row o))(G:row[o]?=some x)(I:Q (.d x) B):VI T (.load 1 false a) VE B [] Q:=fun _ _ _ _ _ z=>by
 obtain⟨_,L,h2⟩:=z.bG A;simp only[aG] at h2;obtain⟨f,g,Z,l,rfl,M,O,_⟩:=h2;obtain⟨y,U,Y⟩:=O.get G;exact FK L M rfl U (dC z (v:=.d x) (by simp only[aG];exact Y) I)
theorem gr{a:aI}{row:List DC}{o n:Nat}(G:a.vv VE=some (.rp row o))(h0:0<n)(I:o+n≤row.length)(L:Q (.agg (((row.drop o).take n).map .d)) B):VI T (.load n true a) VE B [] Q:=fun _ _ _ _ _ z=>by
 obtain⟨_,M,h2⟩:=z.bG G;simp only[aG] at h2;obtain⟨f,g,U,l,rfl,O,A,_⟩:=h2;exact KE M O rfl (by rw[A.length];exact I) h0 (dC z (v:=.agg (((row.drop o).take n).map .d)) (by simp only[aG];exact⟨_,rfl,aY.sI (A.KT o n)⟩) L)
theorem dq.FJ{f elem aE:Nat}{row:List VV}(h:dq H X β f (.one elem aE row)):∃l,lj H f 1 0 l∧aY H X β row l:=by
 obtain⟨l,lo,cs,z,h2,A,G⟩:=h;exact⟨l,⟨elem,aE,1,lo,0,cs,z,h2,bt _,Nat.zero_lt_one,A⟩,G⟩
theorem iP{a:aI}{b o elem aE:Nat}{row:List VV}{v:VV}(A:a.vv VE=some (.vp b o))(G:aN B b=some (.one elem aE row))(I:row[o]?=some v)(L:Q v B):VI T (.load 1 false a) VE B [] Q:=fun _ _ _ _ _ z=>by
 obtain⟨_,M,h2⟩:=z.bG A;simp only[aG] at h2;subst h2;obtain⟨l,O,U⟩:=(z.box b _ G).FJ;obtain⟨y,Y,Z⟩:=U.get I;exact FK M O (by rw[tA,fM]) Y (dC z Z L)
theorem vi_loadAV{a:aI}{b o n elem aE:Nat}{row:List VV}(G:a.vv VE=some (.vp b o))(I:aN B b=some (.one elem aE row))(h0:0<n)(L:o+n≤row.length)(M:Q (.agg ((row.drop o).take n)) B):VI T (.load n true a) VE B [] Q:=fun _ _ _ _ _ z=>by
 obtain⟨_,O,h2⟩:=z.bG G;simp only[aG] at h2;subst h2;obtain⟨l,U,A⟩:=(z.box b _ I).FJ;exact KE O U (by rw[tA,fM]) (by rw[A.length];exact L) h0 (dC z (v:=.agg ((row.drop o).take n)) (by simp only[aG];exact⟨_,rfl,aY.take n (aY.drop o A)⟩) M)
theorem jK{a:aI}{b g j o es elem aE lo:Nat}{rows:aj}{row:List DC}{x:DC}(G:a.vv VE=some (.bp b g j o es))(I:aN B b=some (.arr elem aE es lo rows))(L:lo≤g)(h2:g≤rows.length)(M:j<g)(O:rows[j]?=some row)(U:row[o]?=some x)(Y:Q (.d x) B):VI T (.load 1 false a) VE B [] Q:=fun _ _ _ _ _ z=>by
 obtain⟨_,Z,A⟩:=z.bG G;simp only[aG] at A;subst A;obtain⟨l,k3,k4,k5⟩:=(z.box b _ I).cells L h2 M O;obtain⟨y,k6,k7⟩:=k5.get U;exact FK Z k3 (by rw[k4]) k6 (dC z (v:=.d x) (by simp only[aG];exact k7) Y)
theorem Qa{a:aI}{b g j o n es elem aE lo:Nat}{rows:aj}{row:List DC}(I:a.vv VE=some (.bp b g j o es))(L:aN B b=some (.arr elem aE es lo rows))(M:lo≤g)(h2:g≤rows.length)(O:j<g)(U:rows[j]?=some row)(h0:0<n)(Y:o+n≤row.length)(Z:Q (.agg (((row.drop o).take n).map .d)) B):VI T (.load n true a) VE B [] Q:=fun _ _ _ _ _ z=>by
 obtain⟨_,k1,A⟩:=z.bG I;simp only[aG] at A;subst A;obtain⟨l,k3,k4,G⟩:=(z.box b _ L).cells M h2 O U;exact KE k1 k3 (by rw[k4]) (by rw[G.length];exact Y) h0 (dC z (v:=.agg (((row.drop o).take n).map .d)) (by simp only[aG];exact⟨_,rfl,aY.sI (G.KT o n)⟩) Z)
theorem KF{v:VV}{a:ak}{b:Nat}{s:BS}(O:Rel H0 X0 VE B E H β)(U:nr b VE=true)(Y:lW b B=true)(Z:H'.next=H.next+1)(I:∀f,f<H.next→H'.t.get f=H.t.get f)(L:H'.aQ=H.aQ)(hw:H'.ws=H.ws)
  (z:∀X β',(∀v a,v.no b=true→aG H (XB X0 B β) β v a→aG H' X β' v a)→(∀row l,bZ H (XB X0 B β) row l→bZ H' X row l)→dq H' X β' H.next s)
  (hv:∀X β',β' b=H.next→aG H' X β' v a) (hq:Q v ((b,s)::B)):DS H0 X0 VE B β E H W Q a H':=by
 obtain⟨β',⟨M,h3⟩,h2,_⟩:=O.newBox U Y Z I L z;refine⟨v,_,β',⟨L,aq,fun f A=>.inl (hw▸A),fun c t G ht=>?_,fun f A _=>I f A⟩,h2,hv _ _ M,hq⟩;rw[dr] at G
 by_cases e:b=c
 ·subst e;exact .inr (by rw[M];exact bt _)
 rw[aZ e] at G;exact .inl ⟨t,G,ht,h3 c fun k=>e k.symm⟩
theorem nos_cells{b:Nat}{v:VV}{l:List VV}(h:v.no b=true)(z:v.cells=some l):sg b l=true:=by
 cases v
 case k x=>
  cases x<;>simp only[VV.cells,eA,reduceCtorEq] at z
  all_goals subst z
  all_goals rfl
 all_goals simp only[VV.cells,eA,reduceCtorEq] at z
 all_goals subst z
 all_goals simp_all [sg,VV.no]
theorem aaw{b:Nat}{H1 G:ay}{I L:Nat→Prop}{z A:Nat→Nat}(h:∀v a,v.no b=true→aG H1 I z v a→aG G L A v a):∀{l:List VV}{s:List ak},sg b l=true→aY H1 I z l s→aY G L A l s
 |[],_,_,k=>by simp only[aY] at k⊢;exact k
 |v::r,_,n,k=>by
  simp only[aY,sg,cU] at k n⊢;obtain⟨a,s,e,M,h2⟩:=k;exact⟨a,s,e,h v a n.1 M,aaw h n.2 h2⟩
theorem PX{H1 G:ay}{I L:Nat→Prop}{z A:Nat→Nat}(h:∀v a,aG H1 I z v a→aG G L A v a):∀{l:List VV}{s:List ak},aY H1 I z l s→aY G L A l s
 |[],_,k=>by simp only[aY] at k⊢;exact k
 |v::r,_,k=>by
  simp only[aY] at k⊢;obtain⟨a,s,e,M,h2⟩:=k;exact⟨a,s,e,h v a M,PX h h2⟩
theorem opd_no{x:aI}{v:VV}{b:Nat}(A:nr b VE=true)(z:x.vv VE=some v):v.no b=true:=by
 cases x with
 |t k=>exact K8 A z
 |c a=>exact constV_no z b
theorem vi_box{elem es aE:Nat}{x:aI}{v:VV}{cells:List VV}(b:Nat)(z:nr b VE=true)(M:lW b B=true)(A:x.vv VE=some v)(G:v.cells=some cells)(O:cells.length=es)(U:Q (.vp b 0) ((b,.one elem aE cells)::B)):VI T (.box elem es aE x) VE B [] Q:=fun _ _ _ H _ I=>by
 obtain⟨a,Y,h2⟩:=I.bG A;obtain⟨s,Z,L⟩:=h2.cells G;refine wpI_box Y Z (by rw[L.length,O]) (KF (b:=b) (s:=.one elem aE cells) I z M rfl (fun f hf=>(ZK elem aE s).same f hf) rfl rfl (fun X β' k1 _=>?_) (fun X β' k=>by simp only[aG];rw[k]) U);obtain⟨e',b',lo,cs,j1,j2,j3⟩:=boxH_at (H:=H) elem aE s;refine⟨s,1,.one s,?_,bt _,rfl,aaw k1 (nos_cells (opd_no z A) G) L⟩;show(H.t.set H.next _).get H.next=_;rw[GT.dn,bj rfl]
def pR:List ak→Option (List VV)
 |[]=>some []
 |a::r=>(xq a).bind fun v=>(pR r).map (v:: ·)
theorem FE:∀{l:List ak}{cells:List VV},pR l=some cells→aY H X β cells l
 |[],cells,h=>by simp only[pR,eA] at h;subst h;simp only[aY]
 |a::r,cells,h=>by
  simp only[pR,DO,HF] at h;obtain⟨v,z,s,A,rfl⟩:=h;simp only[aY];exact⟨a,r,rfl,Zc z,FE A⟩
theorem vi_boxz{elem es aE:Nat}{l:List ak}{cells:List VV}(b:Nat)(z:nr b VE=true)(A:lW b B=true)(G:pR l=some cells)(I:l.length=es)(L:Q (.vp b 0) ((b,.one elem aE cells)::B)):VI T (.pb elem es aE l) VE B [] Q:=fun _ _ _ H _ M=>by
 refine wpI_boxz I (KF (b:=b) (s:=.one elem aE cells) M z A rfl (fun f O=>(ZK elem aE l).same f O) rfl rfl (fun X β' _ _=>?_) (fun X β' k=>by simp only[aG];rw[k]) L);refine⟨l,1,.one l,?_,bt _,rfl,FE G⟩;show(H.t.set H.next _).get H.next=_;rw[GT.dn,bj rfl]
def Lb(l:List VV)(r:Nat)(new:List VV):List VV:=l.take r++(new++l.drop (r+new.length))
theorem aY.eE{l new:List VV}{s t:List ak}(r:Nat)(h:aY H X β l s)(k:aY H X β new t):aY H X β (Lb l r new) (eE s r t):=by
 unfold Lb Ev.eE;rw[←k.length];exact(h.take r).append (k.append (h.drop _))
def Dr(VE:bq):List (Nat×Nat×aI)→List VV→Option (List VV)
 |[],cells=>some cells
 |p::r,cells=>(p.2.2.vv VE).bind fun v=>v.cells.bind fun new=>bif Nat.beq new.length p.2.1 then Dr VE r (Lb cells p.1 new) else none
theorem Zd(G:Rel H0 X0 VE B E H β):∀{ps:List (Nat×Nat×aI)}{cells:List VV}{s:List ak}{out:List VV},aY H (XB X0 B β) β cells s→Dr VE ps cells=some out→∃t,pV E ps s=some t∧aY H (XB X0 B β) β out t
 |[],cells,s,out,h,z=>by simp only[Dr,eA] at z;subst z;exact⟨s,rfl,h⟩
 |p::r,cells,s,out,h,z=>by
  simp only[Dr,DO] at z;obtain⟨v,L,new,M,z⟩:=z;obtain⟨a,O,h2⟩:=G.bG L;obtain⟨t,U,I⟩:=h2.cells M
  cases A:Nat.beq new.length p.2.1 with
  |false=>rw[A] at z;cases z
  |true=>
   rw[A] at z;obtain⟨u,Y,Z⟩:=Zd G (h.eE p.1 I) z;refine⟨u,?_,Z⟩;show ob (p.2.2.ev E) none (fun v=>ob (iD v) none fun new=>aD (Nat.beq (gz new) p.2.1) (pV E r (Ev.eE s p.1 new)) none)=some u;rw[O,cS,U,cS,oL,I.length,A,et,Y]
theorem vi_build{zero:List ak}{ps:List (Nat×Nat×aI)}{z out:List VV}(G:pR zero=some z)(I:Dr VE ps z=some out)(L:Q (.agg out) B):VI T (.build zero ps) VE B [] Q:=fun _ _ _ _ _ A=>by
 obtain⟨t,M,h2⟩:=Zd A (FE G) I;exact wpI_build M (dC A (v:=.agg out) (by simp only[aG];exact⟨t,rfl,h2⟩) L)
def VJ(row:List VV)(o:Nat)(new:List VV):List VV:=bif Nat.beq new.length row.length then new else Lb row o new
theorem aY.bif{t0:Bool}{a b:List VV}{s t:List ak}(h:aY H X β a s)(k:aY H X β b t):aY H X β (bif t0 then a else b) (bif t0 then s else t):=by
 cases t0
 ·exact k
 exact h
theorem T6{f q o n m elem es aE lo:Nat}{l new:List ak}{cs:RT}{e:aC}{K:ay→aC}(z:H.t.get f=some (.row elem es aE m lo 0 cs))(h2:lo≤m)(G:q<m)(I:cs.get q=some l)(Y:l.length=es)(L:new.length=n)(h0:0<n)(M:o+n≤es):
  wr H f m (q*es+o) n new e K=K ⟨H.next,H.aQ,wrote f H.aQ H.ws,H.t.set f (.row elem es aE m m 0 (cs.set q (bif Nat.beq n es then new else eE l o new)))⟩:=by
 cases H with
 |mk next aQ ws t=>
  have z:t.get f=some (.row elem es aE m lo 0 cs):=z;have O:(q*es+o)/es=q:=by
   by_cases ho:o=es
   ·omega
   rw[qu,Nat.mul_add_div aq,afI aq];rfl
  have U:(q*es+o) % es=o:=by
   by_cases ho:o=es
   ·omega
   rw[qu,Nat.mul_add_mod,Em aq]
  show iT (t.get f) e (fun elem cY aE A lo fl cs=>
    aD (Nat.beq fl 0) (aD (Nat.beq m A) (aD (Nat.ble lo m) (aD (Nat.ble (Nat.add (Nat.mod (q*es+o) cY) n) cY) (aD (Nat.ble (Nat.succ (Nat.div (q*es+o) cY)) m) (aD (Nat.beq (gz new) n)
     (ob (cs.get (Nat.div (q*es+o) cY)) e fun l=>cs.fr (Nat.div (q*es+o) cY) (aD (Nat.beq n cY) new (eE l (Nat.mod (q*es+o) cY) new)) fun cs=>t.fr f (.row elem cY aE A A 0 cs) fun t=>K ⟨next,aQ,wrote f aQ ws,t⟩) e) e) e) e) e) e)=_
  rw[z]
  show aD (Nat.beq 0 0) (aD (Nat.beq m m) (aD (Nat.ble lo m) (aD (Nat.ble (Nat.add (Nat.mod (q*es+o) es) n) es) (aD (Nat.ble (Nat.succ (Nat.div (q*es+o) es)) m) (aD (Nat.beq (gz new) n)
     (ob (cs.get (Nat.div (q*es+o) es)) e fun l=>cs.fr (Nat.div (q*es+o) es) (aD (Nat.beq n es) new (eE l (Nat.mod (q*es+o) es) new)) fun cs=>t.fr f (.row elem es aE m m 0 cs) fun t=>K ⟨next,aQ,wrote f aQ ws,t⟩) e) e) e) e) e) e=_
  rw[show Nat.mod (q*es+o) es=o from U,show Nat.div (q*es+o) es=q from O,show Nat.beq 0 0=true from rfl,et,show Nat.beq m m=true from ij m,et,gW h2,et,
   show Nat.ble (Nat.add o n) es=true from gW M,et,show Nat.ble (Nat.succ q) m=true from gW G,et,oL,L,show Nat.beq n n=true from ij n,et,I,cS,RT.jc,GT.jc]
  cases Nat.beq n es<;>rfl
theorem Qu{call:dG}{n f g o:Nat}{a x:aI}{v:ak}{new:List ak}(z:a.ev E=some (.ptr f g o))(A:x.ev E=some v)(G:iD v=some new):
  (bm.store n a x).ev call E H=wr H f g o n new (.err 5) fun H=>.ok .undef H:=by
 show bo a E (.err 5) (fun p=>gw p (.err 5) fun f g off=>bo x E (.err 5) fun v=>ob (iD v) (.err 5) fun l=>wr H f g off n l (.err 5) fun H=>.ok .undef H)=_;rw[cR,z,cS];show bo x E (.err 5) (fun v=>ob (iD v) (.err 5) fun l=>wr H f g o n l (.err 5) fun H=>.ok .undef H)=_;rw[cR,A,cS,G,cS]
theorem FM{v:VV}{a:ak}{b:Nat}{s s':BS}(M:Rel H0 X0 VE B E H β)(U:aN B b=some s)(A:s.born)(hn:H'.next=H.next)(hs:∀f,f≠β b→H'.t.get f=H.t.get f)(hm:H'.aQ=H.aQ)(hw:H'.ws=wrote (β b) H.aQ H.ws)
  (VH:∀X,(∀v a,aG H (XB X0 B β) β v a→aG H' X β v a)→(∀row l,bZ H (XB X0 B β) row l→bZ H' X row l)→dq H' X β (β b) s')
  (hv:∀X,aG H' X β v a) (hq:Q v ((b,s')::B)):DS H0 X0 VE B β E H [b] Q a H':=by
 have BO:=M.new b s U A;have z:∀c t,aN ((b,s')::B) c=some t→(c=b∧t=s')∨(c≠b∧aN B c=some t):=fun c t G=>by
  rw[dr] at G
  by_cases e:b=c
  ·rw[bj e] at G;cases G;exact .inl ⟨e.symm,rfl⟩
  rw[aZ e] at G;exact .inr ⟨fun k=>e k.symm,G⟩
 have hX:∀f,XB X0 ((b,s')::B) β f→XB X0 B β f:=fun f hx=>by
  rcases hx with k|⟨c,t,Y,ho,h2⟩
  ·exact .inl k
  rcases z c t Y with⟨rfl,_⟩|⟨_,O⟩
  ·exact .inr ⟨_,s,U,A,h2⟩
  exact .inr ⟨c,t,O,ho,h2⟩
 have hl:fc H (XB X0 B β) H' (XB X0 ((b,s')::B) β):=⟨aq,fun f I hx=>⟨fun k=>hx (hX f k),hs f fun e=>hx (.inr ⟨b,s,U,A,e.symm⟩)⟩⟩;refine⟨v,(b,s')::B,β,⟨hm,aq,fun f I=>?_,fun c t G ht=>?_,fun f I uj=>hs f fun e=>uj b s U A e.symm⟩,⟨M.kY,by rw[hm,hn];exact M.aQ,(fun f I=>by rw[hn];exact M.x0 f I),fun c t G L=>?_,fun c e t u G he L huo Z=>?_,fun k w hk=>?_,fun c t G=>?_⟩,hv _,hq⟩
 ·rw[hw] at I;unfold wrote at I
  cases Y:Nat.ble H.aQ (β b) with
  |true=>rw[Y] at I;exact .inl I
  |false=>
   rw[Y] at I
   cases h2:qy (β b) H.ws with
   |true=>rw[h2] at I;exact .inl I
   |false=>
    rw[h2] at I;rcases List.mem_cons.1 I with rfl|h
    ·refine .inr ⟨?_,b,s,iI ..,U,A,rfl⟩
     by_cases hl:H.aQ≤β b
     ·rw[gW hl] at Y;cases Y
     omega
    exact .inl h
 ·rcases z c t G with⟨rfl,_⟩|⟨_,O⟩
  ·exact .inl ⟨s,U,A,rfl⟩
  exact .inl ⟨t,O,ht,rfl⟩
 ·rw[hn];rcases z c t G with⟨rfl,_⟩|⟨_,O⟩
  ·exact BO
  exact M.new c t O L
 ·rcases z c t G with⟨rfl,_⟩|⟨_,O⟩<;>rcases z e u he with⟨rfl,_⟩|⟨_,h4⟩
  ·rfl
  ·exact M.inj _ _ _ _ U h4 A huo Z
  ·exact M.inj _ _ _ _ O U L A Z
  exact M.inj _ _ _ _ O h4 L huo Z
 ·obtain⟨a,Y,h2⟩:=M.env k w hk;exact⟨a,Y,h2.lift hl⟩
 rcases z c t G with⟨rfl,rfl⟩|⟨O7,O⟩
 ·exact VH _ (fun v a k=>k.lift hl) (fun row l k=>k.lift hl)
 exact dq.H4 hl (fun L=>hs _ fun e=>O7 (M.inj c b t s O U L A e)) (M.box c t O)
theorem vi_storeV{n:Nat}{a x:aI}{b o elem aE:Nat}{row new:List VV}{v:VV}(Z:a.vv VE=some (.vp b o))(I:aN B b=some (.one elem aE row))(hx:x.vv VE=some v)(hv:v.cells=some new)(L:new.length=n)(h0:0<n)(hk:o+n≤row.length)(hq:Q .undef ((b,.one elem aE (VJ row o new))::B)):VI T (.store n a x) VE B [b] Q:=fun _ X0 _ H β z=>by
 obtain⟨_,h1,h2⟩:=z.bG Z;simp only[aG] at h2;subst h2;obtain⟨y,h3,h4⟩:=z.bG hx;obtain⟨t,h5,M⟩:=h4.cells hv;obtain⟨l,lo,cs,k1,k2,k3,O⟩:=z.box b _ I;have ht:t.length=n:=by rw[M.length,L]
 have A:=O.length;have e:=fun K=>T6 (e:=aC.err 5) (K:=K) (q:=0) (o:=o) (n:=n) (new:=t) k1 k2 Nat.zero_lt_one k3 rfl ht h0 aq
 simp only[tA,fM] at e;refine⟨0,.undef,_,fun lf m _ _=>by rw[Qu h1 h3 h5,e],?_⟩;refine FM z I trivial rfl (fun f hf=>?_) rfl rfl (fun X U j2=>?_) (fun X=>by simp only[aG]) hq
 ·show(H.t.set (β b) _).get f=_;rw[GT.dn,aZ hf]
 have hlen:(bif Nat.beq n l.length then t else eE l o t).length=l.length:=by
  cases G:Nat.beq n l.length with
  |true=>have:=cD G;show t.length=_;omega
  |false=>show(eE l o t).length=_;simp only[eE,fv,m6,rA];omega
 refine⟨bif Nat.beq n l.length then t else eE l o t,1,cs.set 0 (bif Nat.beq n l.length then t else eE l o t),?_,bt _,by rw[RT.dn,bj rfl],?_⟩
 ·show(H.t.set (β b) _).get (β b)=_;rw[GT.dn,bj rfl,hlen]
 have Y:=PX U M;have h8:=PX U O;unfold VJ;rw[L,←A];exact aY.bif Y (h8.eE o Y)
end
end Go.Ev
