/- Part 9 of rules for walks through the code of a program, and of such walks; what each part proves is said by its theorems. -/
import Derived.Test.YtdgcofocbhbjcaaGreatS8
set_option linter.unusedVariables false
set_option linter.unusedSimpArgs false
noncomputable section
set_option maxRecDepth 100000
set_option maxHeartbeats 4000000
namespace Go.Ev
def ve:aw→Option VV
 |.int k n=>some (.d (.i k n))
 |.bool b=>some (.d (.b b))
 |.str l v=>some (.d (.s l v))
 |.gh=>some (.d .nil)
 |.i7=>some (.k .i7)
 |.kN=>some (.k .kN)
 |.nw=>some (.k .nw)
 |.func f fs cs=>match fs,cs with
  |[],[]=>some (.fn f [])
  |_,_=>none
 |_=>none
def aM.vv(VE:bO):aM→Option VV
 |.t k=>aZ VE k.n
 |.c a=>ve a
def VV.cells:VV→Option (List VV)
 |.agg l=>some l
 |.d x=>some [.d x]
 |.vp b o=>some [.vp b o]
 |.bs b n es=>some [.bs b n es]
 |.ac b n es=>some [.ac b n es]
 |.k .i7=>some [.k .i7]
 |.k .kN=>some [.k .kN]
 |.k .nw=>some [.k .nw]
 |.iU=>some [.iU]
 |.fn f c=>some [.fn f c]
 |_=>none
def gq:List VV→Option (List DC)
 |[]=>some []
 |.d x::r=>(gq r).map (x:: ·)
 |_::_=>none
def aT{α:Type}:List (Nat×α)→List (Nat×α)→Prop
 |[],_=>True
 |(i,v)::r,l=>aZ l i=some v∧aT r l
theorem aT.get{α:Type}:∀{l m:List (Nat×α)},aT l m→∀{k:Nat}{v:α},aZ l k=some v→aZ m k=some v
 |[],_,_,_,_,h=>by cases h
 |(i,w)::r,m,p,k,v,h=>by
  rw[di] at h
  by_cases e:i=k
  ·rw[bE e] at h;cases h;exact e▸p.1
  rw[bw e] at h;exact aT.get p.2 h
theorem Vx:∀{l:List VV}{row:List DC},gq l=some row→l=row.map .d
 |[],row,h=>by simp only[gq,eW] at h;subst h;rfl
 |.d x::r,row,h=>by
  simp only[gq,Jf] at h
  obtain⟨s,p,rfl⟩:=h
  rw[Vx p];rfl
 |.agg _::_,_,h=>by simp[gq] at h
 |.tuple _::_,_,h=>by simp[gq] at h
 |.vp _ _::_,_,h=>by simp[gq] at h
 |.bp _ _ _ _ _::_,_,h=>by simp[gq] at h
 |.rp _ _::_,_,h=>by simp[gq] at h
 |.bs _ _ _::_,_,h=>by simp[gq] at h
 |.ac _ _ _::_,_,h=>by simp[gq] at h
 |.fn _ _::_,_,h=>by simp[gq] at h
 |.k _::_,_,h=>by simp[gq] at h
 |.iU::_,_,h=>by simp[gq] at h
 |.undef::_,_,h=>by simp[gq] at h
section
variable{T:bC}{H0:Nat→Nat}{X0:Nat→Prop}{VE bY:bO}{B B':bq}{E:Env}{H H':aC}{β:Nat→Nat}{X:Nat→Prop}
theorem TP{a:aw}{v:VV}(h:ve a=some v):aK H X β v a:=by
 cases a
 case func f fs cs=>
  cases fs<;>cases cs<;>simp only[ve,eW,reduceCtorEq] at h
  subst h
  simp only[aK,bt]
  exact⟨[],rfl,rfl⟩
 all_goals simp only[ve,eW,reduceCtorEq] at h
 all_goals subst h
 all_goals first|(simp only[aK,cq];done)|(simp only[aK])
theorem constV_no{a:aw}{v:VV}(h:ve a=some v)(b:Nat):v.no b=true:=by
 cases a
 case func f fs cs=>
  cases fs<;>cases cs<;>simp only[ve,eW,reduceCtorEq] at h
  subst h
  rfl
 all_goals simp only[ve,eW,reduceCtorEq] at h
 all_goals subst h
 all_goals simp only[VV.no]
theorem Rel.bU(p:Rel H0 X0 VE B E H β){x:aM}{v:VV}(h:x.vv VE=some v):∃a,x.ev E=some a∧aK H (XB X0 B β) β v a:=by
 cases x with
 |t k=>exact p.env k v h
 |c a=>exact⟨a,rfl,TP h⟩
theorem aK.cells{v:VV}{a:aw}{l:List VV}(h:v.cells=some l)(p:aK H X β v a):∃s,iB a=some s∧bt H X β l s:=by
 cases v with
 |agg m=>
  simp only[VV.cells,eW] at h;subst h
  simp only[aK] at p
  obtain⟨cs,rfl,h⟩:=p
  exact⟨cs,rfl,h⟩
 |d x=>
  simp only[VV.cells,eW] at h;subst h
  have:iB a=some [a]:=by
   simp only[aK] at p
   cases x with
   |i k n=>simp only[cq] at p;subst p;rfl
   |b t=>simp only[cq] at p;subst p;rfl
   |s l n=>simp only[cq] at p;subst p;rfl
   |nil=>simp only[cq] at p;subst p;rfl
   |sl rows=>simp only[cq] at p;obtain⟨f,g,off,es,rfl,_⟩:=p;rfl
   |raw f n es=>simp only[cq] at p;subst p;rfl
  exact⟨[a],this,by simp only[bt];exact⟨a,[],rfl,p,rfl⟩⟩
 |vp b o=>
  simp only[VV.cells,eW] at h;subst h
  have e:a= .ptr (β b) 1 o:=by simpa only[aK] using p
  exact⟨[a],by subst e;rfl,by simp only[bt];exact⟨a,[],rfl,p,rfl⟩⟩
 |bs b n es=>
  simp only[VV.cells,eW] at h;subst h
  have e:a= .slice (β b) n 0 n es:=by simpa only[aK] using p
  exact⟨[a],by subst e;rfl,by simp only[bt];exact⟨a,[],rfl,p,rfl⟩⟩
 |fn f c=>
  simp only[VV.cells,eW] at h;subst h
  have e:∃cs,a= .func f [] cs∧bt H X β c cs:=by simpa only[aK] using p
  obtain⟨cs,e,_⟩:=e
  exact⟨[a],by subst e;rfl,by simp only[bt];exact⟨a,[],rfl,p,rfl⟩⟩
 |iU=>
  simp only[VV.cells,eW] at h;subst h
  have e:∃t x,a= .iface t x:=by simpa only[aK] using p
  obtain⟨t,x,e⟩:=e
  exact⟨[a],by subst e;rfl,by simp only[bt];exact⟨a,[],rfl,p,rfl⟩⟩
 |k x=>
  have e:a=x:=by simpa only[aK] using p
  cases x<;>simp only[VV.cells,eW,reduceCtorEq] at h
  all_goals subst h
  all_goals exact⟨[a],by subst e;rfl,by simp only[bt];exact⟨a,[],rfl,p,rfl⟩⟩
 |ac b n es=>
  simp only[VV.cells,eW] at h;subst h
  have e:iB a=some [a]:=by
   simp only[aK] at p
   rcases p with⟨_,rfl⟩|⟨_,rfl⟩<;>rfl
  exact⟨[a],e,by simp only[bt];exact⟨a,[],rfl,p,rfl⟩⟩
 |tuple _=>simp[VV.cells] at h
 |bp _ _ _ _ _=>simp[VV.cells] at h
 |rp _ _=>simp[VV.cells] at h
 |undef=>simp[VV.cells] at h
theorem dp{W:List Nat}{Q:VV→bq→Prop}{a:aw}{v:VV}(p:Rel H0 X0 VE B E H β)(z:aK H (XB X0 B β) β v a)(A:Q v B):Bo H0 X0 VE B β E H W Q a H:=
 ⟨v,B,β,.refl,p,z,A⟩
theorem Rel.Bp(h:Rel H0 X0 VE B E H β)(p:∀k s,aZ B' k=some s→aZ B k=some s):Rel H0 X0 VE B' E H β:=by
 have F:ff H (XB X0 B β) H (XB X0 B' β):=⟨bM _,fun f _ G=>⟨fun k=>G (k.imp id fun⟨c,s,A,h2⟩=>⟨c,s,p c s A,h2⟩),rfl⟩⟩
 refine⟨h.kE,h.bb,h.x0,fun c s z=>h.new c s (p c s z),fun c e s t z I=>h.inj c e s t (p c s z) (p e t I),fun k v J=>?_,fun c s z=>(h.box c s (p c s z)).lift F rfl⟩
 obtain⟨a,A,h2⟩:=h.env k v J
 exact⟨a,A,h2.lift F⟩
theorem bz{c:IC}{R:Ex→bO→bq→Prop}(bY:bO)(B':bq)(z:aT bY VE)(h2:aT B' B)(h:VC T c bY B' R):VC T c VE B R:=
 fun H0 X0 E H β A=>(h H0 X0 E H β ((A.less fun _ _ p=>z.get p).Bp fun _ _ p=>h2.get p)).mono fun _ _ _ F=>F.more fun _ s G I=>⟨s,h2.get G,I⟩
mutual
def VV.j'(b:Nat)(x:DC):VV→VV
 |.agg l=>.agg (Ko b x l)
 |.bs c n es=>bif Nat.beq c b then .d x else .bs c n es
 |.ac c n es=>bif Nat.beq c b then .d x else .ac c n es
 |v=>v
def Ko(b:Nat)(x:DC):List VV→List VV
 |[]=>[]
 |v::r=>v.j' b x::Ko b x r
end
mutual
def VV.sv(b n es:Nat):VV→Prop
 |.agg l=>Kp b n es l
 |.bs c m e=>c=b→m=n∧e=es
 |.ac c _ _=>c≠b
 |_=>True
def Kp(b n es:Nat):List VV→Prop
 |[]=>True
 |v::r=>v.sv b n es∧Kp b n es r
end
theorem dQ.qb{f g es:Nat}:∀{rows:List (List DC)}{q:Nat},(∀i row,rows[i]?=some row→∃l,lG H f g (q+i) l∧l.length=es∧cD H X row l)→dQ H X f g es q rows
 |[],_,_=>trivial
 |row::r,q,h=>by
  simp only[dQ]
  refine⟨h 0 row rfl,dQ.qb fun i row hi=>?_⟩
  rw[show q+1+i=q+(i+1) by omega]
  exact h (i+1) row (by simpa using hi)
theorem df.cells{f elem aL es lo:Nat}{rows:List (List DC)}(h:df H X β f (.arr elem aL es lo rows)){g:Nat}(L:lo≤g)(h2:g≤rows.length){q:Nat}(F:q<g){row:List DC}(p:rows[q]?=some row):∃l,lG H f g q l∧l.length=es∧cD H X row l:=by
 obtain⟨z,cs,G,M,O,I⟩:=h
 obtain⟨l,J,A,K⟩:=I q row p
 exact⟨l,⟨elem,aL,rows.length,z,0,cs,by rw[A];exact G,ax,h2,F,J⟩,A,K⟩
theorem Rel.asData(A:Rel H0 X0 VE B E H β){b elem aL es lo:Nat}{rows:List (List DC)}(F:aZ B b=some (.arr elem aL es lo rows)){X:Nat→Prop}(I:¬X (β b))(J:ff H (XB X0 B β) H X):cq H X (.sl rows) (.slice (β b) rows.length 0 rows.length es):=by
 have G:=A.box b _ F
 simp only[cq]
 refine⟨β b,rows.length,0,es,rfl,.inr ⟨I,(A.new b _ F trivial).2,0,by simp,dQ.qb fun i row hi=>?_⟩⟩
 have p:=(List.getElem?_eq_some_iff.1 hi).1
 have z:lo≤rows.length:=by obtain⟨_,_,_,_,h,_⟩:=G;exact h
 obtain⟨l,K,h2,L⟩:=G.cells (g:=rows.length) z (bM _) p hi
 exact⟨l,by rw[fC];exact K,h2,L.lift J⟩
theorem Rel.j'(F:Rel H0 X0 VE B E H β){b elem aL es lo:Nat}{rows:List (List DC)}(G:aZ B b=some (.arr elem aL es lo rows)){k:Nat}{v:VV}(U:aZ VE k=some v)(ho:v.sv b rows.length es):
  Rel H0 X0 ((k,v.j' b (.sl rows))::VE) (dT B b) E H β:=by
 have I:=F.drop b
 have J:¬XB X0 (dT B b) β (β b):=by
  rintro(h|⟨c,s,p,K,h2⟩)
  ·exact(F.new b _ G trivial).1 h
  rw[pW] at p
  by_cases e:b=c
  ·rw[bE e] at p;cases p
  rw[bw e] at p;exact e (F.inj c b s _ p G K trivial h2).symm
 have Y:ff H (XB X0 B β) H (XB X0 (dT B b) β):=⟨bM _,fun f _ J=>⟨fun k=>J (k.imp id fun⟨c,s,p,h2⟩=>⟨c,s,by
  rw[pW] at p
  by_cases e:b=c
  ·rw[bE e] at p;cases p
  rw[bw e] at p;exact p,h2⟩),rfl⟩⟩
 have A:=F.asData G J Y
 have main:(∀v:VV,v.sv b rows.length es→∀a,aK H (XB X0 (dT B b) β) β v a→aK H (XB X0 (dT B b) β) β (v.j' b (.sl rows)) a):=by
  intro v
  refine VV.rec (motive_1:=fun v=>v.sv b rows.length es→∀a,aK H (XB X0 (dT B b) β) β v a→aK H (XB X0 (dT B b) β) β (v.j' b (.sl rows)) a)
   (motive_2:=fun l=>Kp b rows.length es l→∀s,bt H (XB X0 (dT B b) β) β l s→bt H (XB X0 (dT B b) β) β (Ko b (.sl rows) l) s) ?_ ?_ ?_ ?_ ?_ ?_ ?_ ?_ ?_ ?_ ?_ ?_ ?_ ?_ v
  ·intro x _ a h;exact h
  ·intro l Z ho a h
   simp only[aK,VV.j',VV.sv] at h ho⊢
   obtain⟨cs,e,h⟩:=h
   exact⟨cs,e,Z ho cs h⟩
  ·intro l _ _ a h;exact h
  ·intro c o _ a h;exact h
  ·intro c g q o e _ a h;exact h
  ·intro row o _ a h;exact h
  ·intro c n e ho a h
   simp only[VV.j',VV.sv] at h ho⊢
   by_cases z:c=b
   ·obtain⟨rfl,rfl⟩:=ho z
    subst z
    rw[show Nat.beq c c=true from ga c]
    simp only[aK] at h
    subst h
    show aK H _ β (.d (.sl rows)) _
    simp only[aK]
    exact A
   have:Nat.beq c b=false:=by
    cases L:Nat.beq c b
    ·rfl
    exact absurd (cL L) z
   rw[this];exact h
  ·intro c n e ho a h
   simp only[VV.j',VV.sv] at ho⊢
   have:Nat.beq c b=false:=by
    cases L:Nat.beq c b
    ·rfl
    exact absurd (cL L) ho
   rw[this];exact h
  ·intro f c _ _ a h;exact h
  ·intro x _ a h;exact h
  ·intro _ a h;exact h
  ·intro _ a h;exact h
  ·intro _ s h;exact h
  intro v r M O ho s h
  simp only[bt,Ko,Kp] at h ho⊢
  obtain⟨a,s,e,p,h2⟩:=h
  exact⟨a,s,e,M ho.1 a p,O ho.2 s h2⟩
 refine{I with env:=fun c w z=>?_}
 rw[di] at z
 by_cases e:k=c.n
 ·rw[bE e] at z
  cases z
  obtain⟨a,p,h2⟩:=I.env c v (e▸U)
  exact⟨a,p,main v ho a h2⟩
 rw[bw e] at z
 exact I.env c w z
theorem eV{ops:List bK}{Q:bO→bq→Prop}(k b:Nat){v:VV}{elem aL es lo:Nat}{rows:List (List DC)}(p:aZ VE k=some v)(z:aZ B b=some (.arr elem aL es lo rows))(ho:v.sv b rows.length es)(h:VO T ops ((k,v.j' b (.sl rows))::VE) (dT B b) Q):VO T ops VE B Q:=
 fun H0 X0 E H β A=>(h H0 X0 E H β (A.j' z p ho)).mono fun _ _ F=>F.more uV
theorem ma{c:IC}{R:Ex→bO→bq→Prop}(k b:Nat){v:VV}{elem aL es lo:Nat}{rows:List (List DC)}(p:aZ VE k=some v)(z:aZ B b=some (.arr elem aL es lo rows))(ho:v.sv b rows.length es)(h:VC T c ((k,v.j' b (.sl rows))::VE) (dT B b) R):VC T c VE B R:=
 fun H0 X0 E H β A=>(h H0 X0 E H β (A.j' z p ho)).mono fun _ _ _ F=>F.more uV
variable{W:List Nat}{Q:VV→bq→Prop}
theorem wrap64{n:Int}(p: -9223372036854775808≤n)(h2:n≤9223372036854775807):IntKind.i64.wrap n=n:=by
 simp[IntKind.wrap,IntKind.bits,IntKind.signed]
 split<;>omega
theorem bf{x:aM}{v:VV}(z:x.vv VE=some v)(A:Q v B):VI T (.cG x) VE B [] Q:=fun _ _ _ _ _ p=>by
 obtain⟨a,F,h2⟩:=p.bU z
 exact wpI_mov F (dp p h2 A)
theorem L0{c x y:aM}{v:VV}(A:c.vv VE=some (.d (.b true)))(F:x.vv VE=some v)(G:Q v B):VI T (.pick c x y) VE B [] Q:=fun _ _ _ _ _ p=>by
 obtain⟨a,I,h2⟩:=p.bU F
 obtain⟨t,J,z⟩:=p.bU A
 simp only[aK,cq] at z
 subst z
 exact UQ (t:=true) J I (dp p h2 G)
theorem UX{c x y:aM}{v:VV}(A:c.vv VE=some (.d (.b false)))(F:y.vv VE=some v)(G:Q v B):VI T (.pick c x y) VE B [] Q:=fun _ _ _ _ _ p=>by
 obtain⟨a,I,h2⟩:=p.bU F
 obtain⟨t,J,z⟩:=p.bU A
 simp only[aK,cq] at z
 subst z
 exact UQ (t:=false) J I (dp p h2 G)
theorem eQ{x:aM}{b:Bool}(z:x.vv VE=some (.d (.b b)))(A:Q (.d (.b (!b))) B):VI T (.un .not x) VE B [] Q:=fun _ _ _ _ _ p=>by
 obtain⟨_,F,h2⟩:=p.bU z
 simp only[aK,cq] at h2
 subst h2
 exact wpI_un F rfl (dp p (v:=.d (.b (!b))) (by simp only[aK,cq]) A)
theorem Vy{k z:IntKind}{x:aM}{n:Int}(A:x.vv VE=some (.d (.i z n)))(F:Q (.d (.i k (k.wrap n))) B):VI T (.conv k x) VE B [] Q:=fun _ _ _ _ _ p=>by
 obtain⟨_,G,h2⟩:=p.bU A
 simp only[aK,cq] at h2
 subst h2
 exact wpI_conv G (dp p (v:=.d (.i k (k.wrap n))) (by simp only[aK,cq,n9]) F)
theorem W8{x:aM}{rows:List (List DC)}(z:x.vv VE=some (.d (.sl rows)))(A:Q (.d (.i .i64 rows.length)) B):VI T (.len x) VE B [] Q:=fun _ _ _ _ _ p=>by
 obtain⟨_,F,h2⟩:=p.bU z
 simp only[aK,cq] at h2
 obtain⟨f,g,off,es,rfl,_⟩:=h2
 exact Mf F (dp p (v:=.d (.i .i64 rows.length)) (by simp only[aK,cq]) A)
theorem Dq{x:aM}(z:x.vv VE=some (.d .nil))(A:Q (.d (.i .i64 0)) B):VI T (.len x) VE B [] Q:=fun _ _ _ _ _ p=>by
 obtain⟨_,F,h2⟩:=p.bU z
 simp only[aK,cq] at h2
 subst h2
 exact Tx F (dp p (v:=.d (.i .i64 0)) (by simp only[aK,cq]) A)
theorem Mi{x:aM}{b n es:Nat}(z:x.vv VE=some (.bs b n es))(A:Q (.d (.i .i64 n)) B):VI T (.len x) VE B [] Q:=fun _ _ _ _ _ p=>by
 obtain⟨_,F,h2⟩:=p.bU z
 simp only[aK] at h2
 subst h2
 exact Mf F (dp p (v:=.d (.i .i64 n)) (by simp only[aK,cq]) A)
theorem vi_lenS{x:aM}{l s:Nat}(z:x.vv VE=some (.d (.s l s)))(A:Q (.d (.i .i64 l)) B):VI T (.rY x) VE B [] Q:=fun _ _ _ _ _ p=>by
 obtain⟨_,F,h2⟩:=p.bU z
 simp only[aK,cq] at h2
 subst h2
 exact UR F (dp p (v:=.d (.i .i64 l)) (by simp only[aK,cq]) A)
theorem vi_idx{x i:aM}{es j:Nat}{k:IntKind}{rows:List (List DC)}{row:List DC}(I:x.vv VE=some (.d (.sl rows)))(hi:i.vv VE=some (.d (.i k (j:Int))))(A:rows[j]?=some row)(J:row.length=es)(K:Q (.rp row 0) B):VI T (.fP es x i) VE B [] Q:=fun _ _ _ _ _ p=>by
 obtain⟨_,L,h2⟩:=p.bU I
 obtain⟨_,M,z⟩:=p.bU hi
 simp only[aK] at h2 z
 simp only[cq] at z
 subst z
 obtain⟨f,g,off,dv,rfl,O⟩:=h2.slice
 obtain⟨U,Y,Z,l,k3,F,k5,G⟩:=O A
 have e:dv=es:=by rw[←F,G.length,J]
 subst e
 refine LC L M (List.getElem?_eq_some_iff.1 A).1 (dp p (v:=.rp row 0) ?_ K)
 simp only[aK]
 exact⟨f,g,Z,l,by rw[k5,F];rfl,k3,G,U,Y⟩
theorem e9{x i:aM}{es b n j:Nat}{k:IntKind}(A:x.vv VE=some (.bs b n es))(hi:i.vv VE=some (.d (.i k (j:Int))))(F:j<n)(G:Q (.bp b n j 0 es) B):VI T (.fP es x i) VE B [] Q:=fun _ _ _ _ _ p=>by
 obtain⟨_,I,h2⟩:=p.bU A
 obtain⟨_,J,z⟩:=p.bU hi
 simp only[aK] at h2 z
 simp only[cq] at z
 subst z;subst h2
 exact LC I J F (dp p (v:=.bp b n j 0 es) (by simp only[aK];rw[fC,rP]) G)
theorem eL{x:aM}{row:List DC}{o k:Nat}(z:x.vv VE=some (.rp row o))(A:Q (.rp row (o+k)) B):VI T (.dt x k) VE B [] Q:=fun _ _ _ _ _ p=>by
 obtain⟨_,F,h2⟩:=p.bU z
 simp only[aK] at h2
 obtain⟨f,g,G,l,rfl,I⟩:=h2
 exact LU F (dp p (v:=.rp row (o+k)) (by simp only[aK];exact⟨f,g,G,l,by rw[kz],I⟩) A)
theorem bL{x:aM}{b o k:Nat}(z:x.vv VE=some (.vp b o))(A:Q (.vp b (o+k)) B):VI T (.dt x k) VE B [] Q:=fun _ _ _ _ _ p=>by
 obtain⟨_,F,h2⟩:=p.bU z
 simp only[aK] at h2
 subst h2
 exact LU F (dp p (v:=.vp b (o+k)) (by simp only[aK]) A)
theorem sN{x:aM}{b g j o es k:Nat}(z:x.vv VE=some (.bp b g j o es))(A:Q (.bp b g j (o+k) es) B):VI T (.dt x k) VE B [] Q:=fun _ _ _ _ _ p=>by
 obtain⟨_,F,h2⟩:=p.bU z
 simp only[aK] at h2
 subst h2
 exact LU F (dp p (v:=.bp b g j (o+k) es) (by simp only[aK];rw[kz]) A)
theorem vi_extr{x:aM}{l:List VV}{i:Nat}{v:VV}(z:x.vv VE=some (.tuple l))(hi:l[i]?=some v)(A:Q v B):VI T (.tD x i) VE B [] Q:=fun _ _ _ _ _ p=>by
 obtain⟨_,F,h2⟩:=p.bU z
 simp only[aK] at h2
 obtain⟨cs,rfl,h2⟩:=h2
 obtain⟨a,G,I⟩:=h2.get hi
 exact wpI_extr F G (dp p I A)
theorem AE{x y:aM}{neg:Bool}{rows:List (List DC)}(A:x.vv VE=some (.d (.sl rows)))(F:y.vv VE=some (.d .nil))(G:Q (.d (.b neg)) B):VI T (.eqv .slice neg x y) VE B [] Q:=fun _ _ _ _ _ p=>by
 obtain⟨_,I,h2⟩:=p.bU A
 obtain⟨_,J,z⟩:=p.bU F
 simp only[aK,cq] at h2 z
 subst z
 obtain⟨f,g,off,es,rfl,_⟩:=h2
 exact HV (r:=false) I J rfl (dp p (v:=.d (.b neg)) (by simp only[aK,cq];cases neg<;>rfl) G)
theorem C1{x y:aM}{neg:Bool}(A:x.vv VE=some (.d .nil))(F:y.vv VE=some (.d .nil))(G:Q (.d (.b (!neg))) B):VI T (.eqv .slice neg x y) VE B [] Q:=fun _ _ _ _ _ p=>by
 obtain⟨_,I,h2⟩:=p.bU A
 obtain⟨_,J,z⟩:=p.bU F
 simp only[aK,cq] at h2 z
 subst z;subst h2
 exact HV (r:=true) I J rfl (dp p (v:=.d (.b (!neg))) (by simp only[aK,cq];cases neg<;>rfl) G)
end
section
variable{T:bC}{H0:Nat→Nat}{X0:Nat→Prop}{VE bY:bO}{B B':bq}{E:Env}{H H':aC}{β:Nat→Nat}{X:Nat→Prop}
variable{W:List Nat}{Q:VV→bq→Prop}
theorem cD.HD:∀{row:List DC}{l:List aw}(o n:Nat),cD H X row l→cD H X ((row.drop o).take n) ((l.drop o).take n):=by
 intro row l o n h
 have p:=bt.rb (β:=fun _=>0) h
 have h2:=bt.take n (bt.drop o p)
 rw[←List.map_drop,←List.map_take] at h2
 exact cD.Dp h2
theorem cF{a:aM}{row:List DC}{o:Nat}{x:DC}(z:a.vv VE=some (.rp row o))(A:row[o]?=some x)(F:Q (.d x) B):VI T (.load 1 false a) VE B [] Q:=fun _ _ _ _ _ p=>by
 obtain⟨_,G,h2⟩:=p.bU z
 simp only[aK] at h2
 obtain⟨f,g,M,l,rfl,I,J,_⟩:=h2
 obtain⟨y,K,L⟩:=J.get A
 exact Av G I rfl K (dp p (v:=.d x) (by simp only[aK];exact L) F)
theorem eF{a:aM}{row:List DC}{o n:Nat}(A:a.vv VE=some (.rp row o))(h0:0<n)(F:o+n≤row.length)(G:Q (.agg (((row.drop o).take n).map .d)) B):VI T (.load n true a) VE B [] Q:=fun _ _ _ _ _ p=>by
 obtain⟨_,I,h2⟩:=p.bU A
 simp only[aK] at h2
 obtain⟨f,g,K,l,rfl,J,z,_⟩:=h2
 exact Hr I J rfl (by rw[z.length];exact F) h0 (dp p (v:=.agg (((row.drop o).take n).map .d)) (by simp only[aK];exact⟨_,rfl,bt.rb (z.HD o n)⟩) G)
theorem df.Ar{f elem aL:Nat}{row:List VV}(h:df H X β f (.one elem aL row)):∃l,lG H f 1 0 l∧bt H X β row l:=by
 obtain⟨l,lo,cs,p,h2,z,A⟩:=h
 exact⟨l,⟨elem,aL,1,lo,0,cs,p,h2,bM _,Nat.zero_lt_one,z⟩,A⟩
theorem bJ{a:aM}{b o elem aL:Nat}{row:List VV}{v:VV}(z:a.vv VE=some (.vp b o))(A:aZ B b=some (.one elem aL row))(F:row[o]?=some v)(G:Q v B):VI T (.load 1 false a) VE B [] Q:=fun _ _ _ _ _ p=>by
 obtain⟨_,I,h2⟩:=p.bU z
 simp only[aK] at h2
 subst h2
 obtain⟨l,J,K⟩:=(p.box b _ A).Ar
 obtain⟨y,L,M⟩:=K.get F
 exact Av I J (by rw[pn,fC]) L (dp p M G)
theorem iw{a:aM}{b o n elem aL:Nat}{row:List VV}(A:a.vv VE=some (.vp b o))(F:aZ B b=some (.one elem aL row))(h0:0<n)(G:o+n≤row.length)(I:Q (.agg ((row.drop o).take n)) B):VI T (.load n true a) VE B [] Q:=fun _ _ _ _ _ p=>by
 obtain⟨_,J,h2⟩:=p.bU A
 simp only[aK] at h2
 subst h2
 obtain⟨l,K,z⟩:=(p.box b _ F).Ar
 exact Hr J K (by rw[pn,fC]) (by rw[z.length];exact G) h0 (dp p (v:=.agg ((row.drop o).take n)) (by simp only[aK];exact⟨_,rfl,bt.take n (bt.drop o z)⟩) I)
theorem nq{a:aM}{b g j o es elem aL lo:Nat}{rows:List (List DC)}{row:List DC}{x:DC}(A:a.vv VE=some (.bp b g j o es))(F:aZ B b=some (.arr elem aL es lo rows))(G:lo≤g)(h2:g≤rows.length)(I:j<g)(J:rows[j]?=some row)(K:row[o]?=some x)(L:Q (.d x) B):VI T (.load 1 false a) VE B [] Q:=fun _ _ _ _ _ p=>by
 obtain⟨_,M,z⟩:=p.bU A
 simp only[aK] at z
 subst z
 obtain⟨l,O,U,Y⟩:=(p.box b _ F).cells G h2 I J
 obtain⟨y,Z,k7⟩:=Y.get K
 exact Av M O (by rw[U]) Z (dp p (v:=.d x) (by simp only[aK];exact k7) L)
theorem C2{a:aM}{b g j o n es elem aL lo:Nat}{rows:List (List DC)}{row:List DC}(F:a.vv VE=some (.bp b g j o es))(G:aZ B b=some (.arr elem aL es lo rows))(I:lo≤g)(h2:g≤rows.length)(J:j<g)(K:rows[j]?=some row)(h0:0<n)(L:o+n≤row.length)(M:Q (.agg (((row.drop o).take n).map .d)) B):VI T (.load n true a) VE B [] Q:=fun _ _ _ _ _ p=>by
 obtain⟨_,O,z⟩:=p.bU F
 simp only[aK] at z
 subst z
 obtain⟨l,U,Y,A⟩:=(p.box b _ G).cells I h2 J K
 exact Hr O U (by rw[Y]) (by rw[A.length];exact L) h0 (dp p (v:=.agg (((row.drop o).take n).map .d)) (by simp only[aK];exact⟨_,rfl,bt.rb (A.HD o n)⟩) M)
theorem Ht{v:VV}{a:aw}{b:Nat}{s:BS}(J:Rel H0 X0 VE B E H β)(K:mz b VE=true)(L:lC b B=true)(M:H'.next=H.next+1)(F:∀f,f<H.next→H'.t.get f=H.t.get f)(G:H'.bb=H.bb)(O:H'.ws=H.ws)
  (p:∀X β',(∀v a,v.no b=true→aK H (XB X0 B β) β v a→aK H' X β' v a)→(∀row l,cD H (XB X0 B β) row l→cD H' X row l)→df H' X β' H.next s)
  (U:∀X β',β' b=H.next→aK H' X β' v a) (Y:Q v ((b,s)::B)):Bo H0 X0 VE B β E H W Q a H':=by
 obtain⟨β',⟨I,Z⟩,h2,_⟩:=J.newBox K L M F G p
 refine⟨v,_,β',⟨G,ax,fun f z=>.inl (O▸z),fun c t A ht=>?_,fun f z _=>F f z⟩,h2,U _ _ I,Y⟩
 rw[di] at A
 by_cases e:b=c
 ·subst e;exact .inr (by rw[I];exact bM _)
 rw[bw e] at A
 exact .inl ⟨t,A,ht,Z c fun k=>e k.symm⟩
theorem nos_cells{b:Nat}{v:VV}{l:List VV}(h:v.no b=true)(p:v.cells=some l):qO b l=true:=by
 cases v
 case k x=>
  cases x<;>simp only[VV.cells,eW,reduceCtorEq] at p
  all_goals subst p
  all_goals rfl
 all_goals simp only[VV.cells,eW,reduceCtorEq] at p
 all_goals subst p
 all_goals simp_all [qO,VV.no]
theorem UY{b:Nat}{H1 A:aC}{F G:Nat→Prop}{p z:Nat→Nat}(h:∀v a,v.no b=true→aK H1 F p v a→aK A G z v a):∀{l:List VV}{s:List aw},qO b l=true→bt H1 F p l s→bt A G z l s
 |[],_,_,k=>by simp only[bt] at k⊢;exact k
 |v::r,_,n,k=>by
  simp only[bt,qO,ep] at k n⊢
  obtain⟨a,s,e,I,h2⟩:=k
  exact⟨a,s,e,h v a n.1 I,UY h n.2 h2⟩
theorem Lw{H1 A:aC}{F G:Nat→Prop}{p z:Nat→Nat}(h:∀v a,aK H1 F p v a→aK A G z v a):∀{l:List VV}{s:List aw},bt H1 F p l s→bt A G z l s
 |[],_,k=>by simp only[bt] at k⊢;exact k
 |v::r,_,k=>by
  simp only[bt] at k⊢
  obtain⟨a,s,e,I,h2⟩:=k
  exact⟨a,s,e,h v a I,Lw h h2⟩
theorem opd_no{x:aM}{v:VV}{b:Nat}(z:mz b VE=true)(p:x.vv VE=some v):v.no b=true:=by
 cases x with
 |t k=>exact HW z p
 |c a=>exact constV_no p b
theorem vi_box{elem es aL:Nat}{x:aM}{v:VV}{cells:List VV}(b:Nat)(p:mz b VE=true)(I:lC b B=true)(z:x.vv VE=some v)(A:v.cells=some cells)(J:cells.length=es)(K:Q (.vp b 0) ((b,.one elem aL cells)::B)):VI T (.box elem es aL x) VE B [] Q:=fun _ _ _ H _ F=>by
 obtain⟨a,L,h2⟩:=F.bU z
 obtain⟨s,M,G⟩:=h2.cells A
 refine wpI_box L M (by rw[G.length,J]) (Ht (b:=b) (s:=.one elem aL cells) F p I rfl (fun f O=>(Ul elem aL s).same f O) rfl rfl (fun X β' U _=>?_) (fun X β' k=>by simp only[aK];rw[k]) K)
 obtain⟨Y,Z,lo,cs,j1,j2,j3⟩:=boxH_at (H:=H) elem aL s
 refine⟨s,1,.one s,?_,bM _,rfl,UY U (nos_cells (opd_no p z) A) G⟩
 show(H.t.set H.next _).get H.next=_
 rw[GT.c7,bE rfl]
def od:List aw→Option (List VV)
 |[]=>some []
 |a::r=>(ve a).bind fun v=>(od r).map (v:: ·)
theorem Aq:∀{l:List aw}{cells:List VV},od l=some cells→bt H X β cells l
 |[],cells,h=>by simp only[od,eW] at h;subst h;simp only[bt]
 |a::r,cells,h=>by
  simp only[od,Ec,Jf] at h
  obtain⟨v,p,s,z,rfl⟩:=h
  simp only[bt]
  exact⟨a,r,rfl,TP p,Aq z⟩
theorem vi_boxz{elem es aL:Nat}{l:List aw}{cells:List VV}(b:Nat)(p:mz b VE=true)(z:lC b B=true)(A:od l=some cells)(F:l.length=es)(G:Q (.vp b 0) ((b,.one elem aL cells)::B)):VI T (.oz elem es aL l) VE B [] Q:=fun _ _ _ H _ I=>by
 refine wpI_boxz F (Ht (b:=b) (s:=.one elem aL cells) I p z rfl (fun f J=>(Ul elem aL l).same f J) rfl rfl (fun X β' _ _=>?_) (fun X β' k=>by simp only[aK];rw[k]) G)
 refine⟨l,1,.one l,?_,bM _,rfl,Aq A⟩
 show(H.t.set H.next _).get H.next=_
 rw[GT.c7,bE rfl]
def HY(l:List VV)(r:Nat)(new:List VV):List VV:=l.take r++(new++l.drop (r+new.length))
theorem bt.dH{l new:List VV}{s t:List aw}(r:Nat)(h:bt H X β l s)(k:bt H X β new t):bt H X β (HY l r new) (dH s r t):=by
 unfold HY Ev.dH
 rw[←k.length]
 exact(h.take r).append (k.append (h.drop _))
def AW(VE:bO):List (Nat×Nat×aM)→List VV→Option (List VV)
 |[],cells=>some cells
 |p::r,cells=>(p.2.2.vv VE).bind fun v=>v.cells.bind fun new=>bif Nat.beq new.length p.2.1 then AW VE r (HY cells p.1 new) else none
theorem TQ(F:Rel H0 X0 VE B E H β):∀{ps:List (Nat×Nat×aM)}{cells:List VV}{s:List aw}{out:List VV},bt H (XB X0 B β) β cells s→AW VE ps cells=some out→∃t,oZ E ps s=some t∧bt H (XB X0 B β) β out t
 |[],cells,s,out,h,z=>by simp only[AW,eW] at z;subst z;exact⟨s,rfl,h⟩
 |p::r,cells,s,out,h,z=>by
  simp only[AW,Ec] at z
  obtain⟨v,I,new,J,z⟩:=z
  obtain⟨a,K,h2⟩:=F.bU I
  obtain⟨t,L,G⟩:=h2.cells J
  cases A:Nat.beq new.length p.2.1 with
  |false=>rw[A] at z;cases z
  |true=>
   rw[A] at z
   obtain⟨u,M,O⟩:=TQ F (h.dH p.1 G) z
   refine⟨u,?_,O⟩
   show ob (p.2.2.ev E) none (fun v=>ob (iB v) none fun new=>aI (Nat.beq (gb new) p.2.1) (oZ E r (Ev.dH s p.1 new)) none)=some u
   rw[K,cJ,L,cJ,ny,G.length,A,dw,M]
theorem vi_build{zero:List aw}{ps:List (Nat×Nat×aM)}{z out:List VV}(A:od zero=some z)(F:AW VE ps z=some out)(G:Q (.agg out) B):VI T (.build zero ps) VE B [] Q:=fun _ _ _ _ _ p=>by
 obtain⟨t,I,h2⟩:=TQ p (Aq A) F
 exact wpI_build I (dp p (v:=.agg out) (by simp only[aK];exact⟨t,rfl,h2⟩) G)
def QQ(row:List VV)(o:Nat)(new:List VV):List VV:=bif Nat.beq new.length row.length then new else HY row o new
theorem bt.bif{t0:Bool}{a b:List VV}{s t:List aw}(h:bt H X β a s)(k:bt H X β b t):bt H X β (bif t0 then a else b) (bif t0 then s else t):=by
 cases t0
 ·exact k
 exact h
theorem EB{f q o n m elem es aL lo:Nat}{l new:List aw}{cs:RT}{e:aF}{K:aC→aF}(p:H.t.get f=some (.row elem es aL m lo 0 cs))(h2:lo≤m)(A:q<m)(F:cs.get q=some l)(M:l.length=es)(G:new.length=n)(h0:0<n)(I:o+n≤es):
  wr H f m (q*es+o) n new e K=K ⟨H.next,H.bb,wrote f H.bb H.ws,H.t.set f (.row elem es aL m m 0 (cs.set q (bif Nat.beq n es then new else dH l o new)))⟩:=by
 cases H with
 |mk next bb ws t=>
  have p:t.get f=some (.row elem es aL m lo 0 cs):=p
  have J:(q*es+o)/es=q:=by
   by_cases ho:o=es
   ·omega
   rw[pj,Nat.mul_add_div ax,Yy ax];rfl
  have L:(q*es+o) % es=o:=by
   by_cases ho:o=es
   ·omega
   rw[pj,Nat.mul_add_mod,BR ax]
  show iN (t.get f) e (fun elem dv aL z lo fl cs=>
    aI (Nat.beq fl 0) (aI (Nat.beq m z) (aI (Nat.ble lo m) (aI (Nat.ble (Nat.add (Nat.mod (q*es+o) dv) n) dv) (aI (Nat.ble (Nat.succ (Nat.div (q*es+o) dv)) m) (aI (Nat.beq (gb new) n)
     (ob (cs.get (Nat.div (q*es+o) dv)) e fun l=>cs.eX (Nat.div (q*es+o) dv) (aI (Nat.beq n dv) new (dH l (Nat.mod (q*es+o) dv) new)) fun cs=>t.eX f (.row elem dv aL z z 0 cs) fun t=>K ⟨next,bb,wrote f bb ws,t⟩) e) e) e) e) e) e)=_
  rw[p]
  show aI (Nat.beq 0 0) (aI (Nat.beq m m) (aI (Nat.ble lo m) (aI (Nat.ble (Nat.add (Nat.mod (q*es+o) es) n) es) (aI (Nat.ble (Nat.succ (Nat.div (q*es+o) es)) m) (aI (Nat.beq (gb new) n)
     (ob (cs.get (Nat.div (q*es+o) es)) e fun l=>cs.eX (Nat.div (q*es+o) es) (aI (Nat.beq n es) new (dH l (Nat.mod (q*es+o) es) new)) fun cs=>t.eX f (.row elem es aL m m 0 cs) fun t=>K ⟨next,bb,wrote f bb ws,t⟩) e) e) e) e) e) e=_
  rw[show Nat.mod (q*es+o) es=o from L,show Nat.div (q*es+o) es=q from J,show Nat.beq 0 0=true from rfl,dw,show Nat.beq m m=true from ga m,dw,gD h2,dw,
   show Nat.ble (Nat.add o n) es=true from gD I,dw,show Nat.ble (Nat.succ q) m=true from gD A,dw,ny,G,show Nat.beq n n=true from ga n,dw,F,cJ,RT.i9,GT.i9]
  cases Nat.beq n es<;>rfl
theorem HE{call:dr}{n f g o:Nat}{a x:aM}{v:aw}{new:List aw}(z:a.ev E=some (.ptr f g o))(A:x.ev E=some v)(F:iB v=some new):
  (bF.store n a x).ev call E H=wr H f g o n new (.err 5) fun H=>.ok .undef H:=by
 show bD a E (.err 5) (fun p=>gA p (.err 5) fun f g off=>bD x E (.err 5) fun v=>ob (iB v) (.err 5) fun l=>wr H f g off n l (.err 5) fun H=>.ok .undef H)=_
 rw[cM,z,cJ]
 show bD x E (.err 5) (fun v=>ob (iB v) (.err 5) fun l=>wr H f g o n l (.err 5) fun H=>.ok .undef H)=_
 rw[cM,A,cJ,F,cJ]
theorem xi{v:VV}{a:aw}{b:Nat}{s s':BS}(I:Rel H0 X0 VE B E H β)(K:aZ B b=some s)(z:s.born)(hn:H'.next=H.next)(hs:∀f,f≠β b→H'.t.get f=H.t.get f)(hm:H'.bb=H.bb)(hw:H'.ws=wrote (β b) H.bb H.ws)
  (U:∀X,(∀v a,aK H (XB X0 B β) β v a→aK H' X β v a)→(∀row l,cD H (XB X0 B β) row l→cD H' X row l)→df H' X β (β b) s')
  (hv:∀X,aK H' X β v a) (hq:Q v ((b,s')::B)):Bo H0 X0 VE B β E H [b] Q a H':=by
 have Y:=I.new b s K z
 have p:∀c t,aZ ((b,s')::B) c=some t→(c=b∧t=s')∨(c≠b∧aZ B c=some t):=fun c t A=>by
  rw[di] at A
  by_cases e:b=c
  ·rw[bE e] at A;cases A;exact .inl ⟨e.symm,rfl⟩
  rw[bw e] at A;exact .inr ⟨fun k=>e k.symm,A⟩
 have hX:∀f,XB X0 ((b,s')::B) β f→XB X0 B β f:=fun f hx=>by
  rcases hx with k|⟨c,t,L,ho,h2⟩
  ·exact .inl k
  rcases p c t L with⟨rfl,_⟩|⟨_,J⟩
  ·exact .inr ⟨_,s,K,z,h2⟩
  exact .inr ⟨c,t,J,ho,h2⟩
 have O:ff H (XB X0 B β) H' (XB X0 ((b,s')::B) β):=⟨ax,fun f F hx=>⟨fun k=>hx (hX f k),hs f fun e=>hx (.inr ⟨b,s,K,z,e.symm⟩)⟩⟩
 refine⟨v,(b,s')::B,β,⟨hm,ax,fun f F=>?_,fun c t A ht=>?_,fun f F pI=>hs f fun e=>pI b s K z e.symm⟩,⟨I.kE,by rw[hm,hn];exact I.bb,(fun f F=>by rw[hn];exact I.x0 f F),fun c t A G=>?_,fun c e t u A he G Z M=>?_,fun k w hk=>?_,fun c t A=>?_⟩,hv _,hq⟩
 ·rw[hw] at F
  unfold wrote at F
  cases L:Nat.ble H.bb (β b) with
  |true=>rw[L] at F;exact .inl F
  |false=>
   rw[L] at F
   cases h2:oA (β b) H.ws with
   |true=>rw[h2] at F;exact .inl F
   |false=>
    rw[h2] at F
    rcases List.mem_cons.1 F with rfl|h
    ·refine .inr ⟨?_,b,s,jU ..,K,z,rfl⟩
     by_cases O:H.bb≤β b
     ·rw[gD O] at L;cases L
     omega
    exact .inl h
 ·rcases p c t A with⟨rfl,_⟩|⟨_,J⟩
  ·exact .inl ⟨s,K,z,rfl⟩
  exact .inl ⟨t,J,ht,rfl⟩
 ·rw[hn]
  rcases p c t A with⟨rfl,_⟩|⟨_,J⟩
  ·exact Y
  exact I.new c t J G
 ·rcases p c t A with⟨rfl,_⟩|⟨_,J⟩<;>rcases p e u he with⟨rfl,_⟩|⟨_,h4⟩
  ·rfl
  ·exact I.inj _ _ _ _ K h4 z Z M
  ·exact I.inj _ _ _ _ J K G z M
  exact I.inj _ _ _ _ J h4 G Z M
 ·obtain⟨a,L,h2⟩:=I.env k w hk
  exact⟨a,L,h2.lift O⟩
 rcases p c t A with⟨rfl,rfl⟩|⟨hcb,J⟩
 ·exact U _ (fun v a k=>k.lift O) (fun row l k=>k.lift O)
 exact df.Bm O (fun G=>hs _ fun e=>hcb (I.inj c b t s J K G z e)) (I.box c t J)
theorem vi_storeV{n:Nat}{a x:aM}{b o elem aL:Nat}{row new:List VV}{v:VV}(O:a.vv VE=some (.vp b o))(F:aZ B b=some (.one elem aL row))(U:x.vv VE=some v)(Y:v.cells=some new)(G:new.length=n)(h0:0<n)(hk:o+n≤row.length)(Z:Q .undef ((b,.one elem aL (QQ row o new))::B)):VI T (.store n a x) VE B [b] Q:=fun _ X0 _ H β p=>by
 obtain⟨_,h1,h2⟩:=p.bU O
 simp only[aK] at h2
 subst h2
 obtain⟨y,h3,h4⟩:=p.bU U
 obtain⟨t,h5,I⟩:=h4.cells Y
 obtain⟨l,lo,cs,k1,k2,k3,J⟩:=p.box b _ F
 have ht:t.length=n:=by rw[I.length,G]
 have z:=J.length
 have e:=fun K=>EB (e:=aF.err 5) (K:=K) (q:=0) (o:=o) (n:=n) (new:=t) k1 k2 Nat.zero_lt_one k3 rfl ht h0 ax
 simp only[pn,fC] at e
 refine⟨0,.undef,_,fun lf m _ _=>by rw[HE h1 h3 h5,e],?_⟩
 refine xi p F trivial rfl (fun f hf=>?_) rfl rfl (fun X L j2=>?_) (fun X=>by simp only[aK]) Z
 ·show(H.t.set (β b) _).get f=_
  rw[GT.c7,bw hf]
 have hlen:(bif Nat.beq n l.length then t else dH l o t).length=l.length:=by
  cases A:Nat.beq n l.length with
  |true=>have:=cL A;show t.length=_;omega
  |false=>show(dH l o t).length=_;simp only[dH,fZ,jf,qf];omega
 refine⟨bif Nat.beq n l.length then t else dH l o t,1,cs.set 0 (bif Nat.beq n l.length then t else dH l o t),?_,bM _,by rw[RT.c7,bE rfl],?_⟩
 ·show(H.t.set (β b) _).get (β b)=_
  rw[GT.c7,bE rfl,hlen]
 have M:=Lw L I
 have h8:=Lw L J
 unfold QQ
 rw[G,←z]
 exact bt.bif M (h8.dH o M)
end
mutual
def VV.zero(b:Nat):VV→Bool
 |.d _=>true
 |.agg l=>ta b l
 |.tuple l=>ta b l
 |.vp c _=>!Nat.beq c b
 |.bp c _ _ _ _=>!Nat.beq c b
 |.rp _ _=>true
 |.bs c _ _=>!Nat.beq c b
 |.ac c n _=>!Nat.beq c b||Nat.beq n 0
 |.fn _ dM=>ta b dM
 |.k _=>true
 |.iU=>true
 |.undef=>true
def ta(b:Nat):List VV→Bool
 |[]=>true
 |v::r=>v.zero b&&ta b r
end
def BS.zero(b:Nat):BS→Bool
 |.one _ _ row=>ta b row
 |.ct _ s=>s.zero b
 |_=>true
def tb(b:Nat):bO→Bool
 |[]=>true
 |(_,v)::r=>v.zero b&&tb b r
def rD(b:Nat):bq→Bool
 |[]=>!jY b
 |(_,s)::r=>s.zero b&&rD b r
theorem TR{b:Nat}:∀{B:bq},rD b B=true→jY b=false
 |[],h=>by simpa[rD] using h
 |(_,_)::r,h=>by
  simp only[rD,ep] at h
  exact TR h.2
section
variable{T:bC}{H0:Nat→Nat}{X0:Nat→Prop}{VE bY:bO}{B B':bq}{E:Env}{H H':aC}{β:Nat→Nat}{X:Nat→Prop}
variable{W:List Nat}{Q:VV→bq→Prop}
mutual
theorem aK.zero{b f:Nat}:∀{v:VV}{a:aw},v.zero b=true→aK H X β v a→aK H X (fun c=>if c=b then f else β c) v a
 |.d x,_,_,h=>by simp only[aK] at h⊢;exact h
 |.agg l,_,n,h=>by
  simp only[aK,VV.zero] at h n⊢
  obtain⟨cs,e,h⟩:=h
  exact⟨cs,e,bt.zero n h⟩
 |.tuple l,_,n,h=>by
  simp only[aK,VV.zero] at h n⊢
  obtain⟨cs,e,h⟩:=h
  exact⟨cs,e,bt.zero n h⟩
 |.vp c off,_,n,h=>by simp only[aK,VV.zero] at h n⊢;rw[bw (og n)];exact h
 |.bp c g q off es,_,n,h=>by simp only[aK,VV.zero] at h n⊢;rw[bw (og n)];exact h
 |.rp row off,_,_,h=>by simp only[aK] at h⊢;exact h
 |.bs c m es,_,n,h=>by simp only[aK,VV.zero] at h n⊢;rw[bw (og n)];exact h
 |.ac c m es,_,n,h=>by
  simp only[aK,VV.zero,tq] at h n⊢
  rcases n with n|n
  ·rw[bw (og n)];exact h
  have:=cL n
  exact h.imp id fun k=>by omega
 |.fn f dM,_,n,h=>by
  simp only[aK,VV.zero] at h n⊢
  obtain⟨cs,e,h⟩:=h
  exact⟨cs,e,bt.zero n h⟩
 |.k x,_,_,h=>by simp only[aK] at h⊢;exact h
 |.iU,_,_,h=>by simp only[aK] at h⊢;exact h
 |.undef,_,_,_=>by simp only[aK]
theorem bt.zero{b f:Nat}:∀{l:List VV}{s:List aw},ta b l=true→bt H X β l s→bt H X (fun c=>if c=b then f else β c) l s
 |[],_,_,h=>by simp only[bt] at h⊢;exact h
 |v::r,_,n,h=>by
  simp only[bt,ta,ep] at h n⊢
  obtain⟨a,s,e,p,h2⟩:=h
  exact⟨a,s,e,aK.zero n.1 p,bt.zero n.2 h2⟩
end
theorem df.W9{b g f:Nat}:∀{s:BS},s.zero b=true→df H X β f s→df H X (fun c=>if c=b then g else β c) f s
 |.one _ _ _,p,⟨l,lo,cs,z,A,F,G⟩=>⟨l,lo,cs,z,A,F,bt.zero p G⟩
 |.arr _ _ _ _ _,_,h=>h
 |.acc _ _ _ _,_,h=>h
 |.ct _ s,p,h=>⟨h.1,df.W9 (s:=s) p h.2⟩
theorem LD{b:Nat}:∀{VE:bO},tb b VE=true→∀{k:Nat}{v:VV},aZ VE k=some v→v.zero b=true
 |[],_,_,_,h=>by cases h
 |(i,w)::r,p,k,v,h=>by
  simp only[tb,ep] at p
  rw[di] at h
  by_cases e:i=k
  ·rw[bE e] at h;cases h;exact p.1
  rw[bw e] at h;exact LD p.2 h
theorem Uo{b:Nat}:∀{B:bq},rD b B=true→∀{c:Nat}{s:BS},aZ B c=some s→s.zero b=true
 |[],_,_,_,h=>by cases h
 |(i,w)::r,p,c,s,h=>by
  simp only[rD,ep] at p
  rw[di] at h
  by_cases e:i=c
  ·rw[bE e] at h;cases h;exact p.1
  rw[bw e] at h;exact Uo p.2 h
theorem Rel.ghost(h:Rel H0 X0 VE B E H β){b k:Nat}(elem aL es:Nat)(L:aZ VE k=some (.d .nil))(U:aZ B b=none):Rel H0 X0 ((k,.ac b 0 es)::VE) ((b,.acc elem aL es [])::B) E H β:=by
 have F:∀c s,aZ ((b,BS.acc elem aL es [])::B) c=some s→s.born→aZ B c=some s:=fun c s p ho=>by
  rw[di] at p
  by_cases e:b=c
  ·rw[bE e] at p;cases p;exact absurd rfl ho
  rw[bw e] at p;exact p
 have M:∀f,XB X0 ((b,BS.acc elem aL es [])::B) β f→XB X0 B β f:=fun f G=>G.imp id fun⟨c,s,z,ho,h2⟩=>⟨c,s,F c s z ho,ho,h2⟩
 have I:ff H (XB X0 B β) H (XB X0 ((b,BS.acc elem aL es [])::B) β):=⟨bM _,fun f _ G=>⟨fun k=>G (M f k),rfl⟩⟩
 refine⟨h.kE,h.bb,h.x0,fun c s p ho=>h.new c s (F c s p ho) ho,fun c e s t p O J K=>h.inj c e s t (F c s p J) (F e t O K) J K,fun j w A=>?_,fun c s p=>?_⟩
 ·rw[di] at A
  by_cases e:k=j.n
  ·rw[bE e] at A
   cases A
   obtain⟨a,z,h2⟩:=h.env j _ (e▸L)
   simp only[aK,cq] at h2
   exact⟨a,z,by simp only[aK];exact .inl ⟨trivial,h2⟩⟩
  rw[bw e] at A
  obtain⟨a,z,h2⟩:=h.env j w A
  exact⟨a,z,h2.lift I⟩
 rw[di] at p
 by_cases e:b=c
 ·rw[bE e] at p;cases p;exact .inl rfl
 rw[bw e] at p;exact(h.box c s p).lift I rfl
theorem TS{b elem aL es:Nat}:∀c s,aZ ((b,BS.acc elem aL es [])::B) c=some s→s.born→∃t,aZ B c=some t∧t.born:=fun c s p ho=>by
 rw[di] at p
 by_cases e:b=c
 ·rw[bE e] at p;cases p;exact absurd rfl ho
 rw[bw e] at p;exact⟨s,p,ho⟩
theorem ki{c:IC}{R:Ex→bO→bq→Prop}(k b elem aL es:Nat)(p:aZ VE k=some (.d .nil))(z:aZ B b=none)(h:VC T c ((k,.ac b 0 es)::VE) ((b,.acc elem aL es [])::B) R):VC T c VE B R:=
 fun H0 X0 E H β A=>(h H0 X0 E H β (A.ghost elem aL es p z)).mono fun _ _ _ F=>F.more TS
def kA(H:aC)(X:Nat→Prop)(es:Nat):List (List aw)→List (List DC)→Prop
 |[],[]=>True
 |l::ls,r::rs=>(l.length=es∧cD H X r l)∧kA H X es ls rs
 |_,_=>False
theorem kA.length{es:Nat}:∀{ls:List (List aw)}{rs:List (List DC)},kA H X es ls rs→ls.length=rs.length
 |[],[],_=>rfl
 |l::ls,r::rs,h=>by simp only[kA] at h;simp[kA.length h.2]
 |[],_::_,h=>by simp[kA] at h
 |_::_,[],h=>by simp[kA] at h
theorem kA.get{es:Nat}:∀{ls:List (List aw)}{rs:List (List DC)},kA H X es ls rs→∀{i:Nat}{r:List DC},rs[i]?=some r→∃l,ls[i]?=some l∧l.length=es∧cD H X r l
 |[],[],_,i,r,h=>by simp at h
 |l::ls,r::rs,p,i,x,h=>by
  simp only[kA] at p
  cases i with
  |zero=>simp at h;subst h;exact⟨l,rfl,p.1⟩
  |succ i=>simpa using kA.get p.2 (i:=i) (r:=x) (by simpa using h)
 |[],_::_,h,_,_,_=>by simp[kA] at h
 |_::_,[],h,_,_,_=>by simp[kA] at h
theorem dQ.elems{f g es:Nat}(h0:0<es):∀{rows:List (List DC)}{q:Nat},dQ H X f g es q rows→∃ls,elems H f g es rows.length (q*es)=some ls∧kA H X es ls rows
 |[],_,_=>⟨[],rfl,trivial⟩
 |row::r,q,h=>by
  simp only[dQ] at h
  obtain⟨⟨l,p,h2,z⟩,A⟩:=h
  obtain⟨ls,F,G⟩:=dQ.elems h0 A
  refine⟨l::ls,?_,by simp only[kA];exact⟨⟨h2,z⟩,G⟩⟩
  show rd H f g (q*es) es none (fun l=>ob (Ev.elems H f g es r.length (Nat.add (q*es) es)) none fun r=>some (l::r))=_
  have:=Jn (k:=0) (n:=es) (e:=(none:Option (List (List aw)))) (c:=fun l=>ob (Ev.elems H f g es r.length (Nat.add (q*es) es)) none fun r=>some (l::r)) p ax h0
  rw[rP,h2] at this
  rw[this,List.drop_zero,rN ax]
  rw[show Nat.add (q*es) es=(q+1)*es by rw[ld,yJ];rfl,F]
  rfl
inductive YR(B:bq)(es:Nat):VV→List (List DC)→Prop
 |nil:YR B es (.d .nil) []
 |sl {rows:List (List DC)} (h:∀row,row∈rows→row.length=es):YR B es (.d (.sl rows)) rows
 |bs {b elem aL lo dv:Nat} {rows:List (List DC)} (h:aZ B b=some (.arr elem aL es lo rows)):YR B es (.bs b rows.length dv) rows
 |ac {b elem aL dv:Nat} {rows:List (List DC)} (h:aZ B b=some (.acc elem aL es rows)):YR B es (.ac b rows.length dv) rows
theorem YR.elems(J:Rel H0 X0 VE B E H β){es:Nat}{v:VV}{rows:List (List DC)}(L:YR B es v rows)(h0:0<es){a:aw}(z:aK H (XB X0 B β) β v a):
  (a= .gh∧rows=[])∨∃f g off e ls,a= .slice f g off rows.length e∧Ev.elems H f g es rows.length off=some ls∧kA H (XB X0 B β) es ls rows:=by
 cases L with
 |nil=>simp only[aK,cq] at z;exact .inl ⟨z,rfl⟩
 |sl h=>
  simp only[aK,cq] at z
  obtain⟨f,g,off,dv,rfl,z⟩:=z
  refine .inr ⟨f,g,off,dv,?_⟩
  rcases z with rfl|⟨_,_,q,ho,A⟩
  ·exact⟨[],rfl,rfl,trivial⟩
  cases rows with
  |nil=>exact⟨[],rfl,rfl,trivial⟩
  |cons row r=>
   have M:dv=es:=by
    simp only[dQ] at A
    obtain⟨⟨l,_,h2,G⟩,_⟩:=A
    rw[←h2,G.length,h row (jU ..)]
   subst M
   obtain⟨ls,p,h2⟩:=A.elems h0
   exact⟨ls,rfl,by rw[ho];exact p,h2⟩
 | @bs b elem aL lo dv rows h=>
  simp only[aK] at z
  subst z
  have F:=J.box b _ h
  refine .inr ⟨β b,rows.length,0,dv,?_⟩
  have:dQ H (XB X0 B β) (β b) rows.length es 0 rows:=dQ.qb fun i row hi=>by
   have I:lo≤rows.length:=by obtain⟨_,_,_,_,h,_⟩:=F;exact h
   obtain⟨l,p,h2,G⟩:=F.cells (g:=rows.length) I (bM _) (List.getElem?_eq_some_iff.1 hi).1 hi
   exact⟨l,by rw[fC];exact p,h2,G⟩
  obtain⟨ls,p,h2⟩:=this.elems h0
  rw[pn] at p
  exact⟨ls,rfl,p,h2⟩
 | @ac b elem aL dv rows h=>
  simp only[aK] at z
  rcases z with⟨p,rfl⟩|⟨_,rfl⟩
  ·exact .inl ⟨rfl,List.length_eq_zero_iff.1 p⟩
  refine .inr ⟨β b,rows.length,0,dv,?_⟩
  have F:=J.box b _ h
  have:dQ H (XB X0 B β) (β b) rows.length es 0 rows:=dQ.qb fun i row hi=>by
   rcases F with rfl|⟨lo,cs,O,U,Y⟩
   ·simp at hi
   obtain⟨l,Z,K,j3⟩:=Y i row hi
   exact⟨l,⟨elem,aL,rows.length,lo,0,cs,by rw[K];exact O,U,bM _,by rw[fC];exact(List.getElem?_eq_some_iff.1 hi).1,by rw[fC];exact Z⟩,K,j3⟩
  obtain⟨ls,p,h2⟩:=this.elems h0
  rw[pn] at p
  exact⟨ls,rfl,p,h2⟩
theorem Iz{call:dr}{elem es aL:Nat}{x y:aM}{a b:aw}{n:Nat}{ls:List (List aw)}(p:x.ev E=some a)(z:y.ev E=some b)
  (h:(b= .gh∧n=0∧ls=[])∨∃f g off e,b= .slice f g off n e∧Ev.elems H f g es n off=some ls):(bF.app elem es aL x y).ev call E H=iC elem es aL n ls H a:=by
 show bD x E (.err 26) (fun a=>bD y E (.err 26) fun b=>eG b (.err 26) (iC elem es aL 0 [] H a) fun f g off n _=>
  ob (Ev.elems H f g es n off) (.err 26) fun l=>iC elem es aL n l H a)=_
 rw[cM,p,cJ]
 show bD y E (.err 26) (fun b=>eG b (.err 26) (iC elem es aL 0 [] H a) fun f g off n _=>
  ob (Ev.elems H f g es n off) (.err 26) fun l=>iC elem es aL n l H a)=_
 rw[cM,z,cJ]
 rcases h with⟨rfl,rfl,rfl⟩|⟨f,g,off,e,rfl,h⟩
 ·rfl
 show ob (Ev.elems H f g es n off) (.err 26) (fun l=>iC elem es aL n l H a)=_
 rw[h,cJ]
theorem Hu{ls:List (List aw)}{cs:RT}{m q:Nat}:(ia ls cs m).get q=if m≤q∧q<m+ls.length then ls[q-m]?else cs.get q:=uN ls cs m q
theorem Rel.Y3(h:Rel H0 X0 VE B E H β){b:Nat}(hE:tb b VE=true)(hB:rD b B=true)(hb:∀s,aZ B b=some s→¬s.born)(hn:H'.next=H.next+1)(hs:∀f,f<H.next→H'.t.get f=H.t.get f)(hm:H'.bb=H.bb){s:BS}
  (M:∀X β',(∀row l,cD H (XB X0 B β) row l→cD H' X row l)→df H' X β' H.next s):
  ∃β',(β' b=H.next∧∀c,c≠b→β' c=β c)∧Rel H0 X0 VE ((b,s)::B) E H' β':=by
 let β':Nat→Nat:=fun c=>if c=b then H.next else β c
 have A:β' b=H.next:=bE rfl
 have p:∀c,c≠b→β' c=β c:=fun c z=>bw z
 have O:∀c t,aZ ((b,s)::B) c=some t→(c=b∧t=s)∨(c≠b∧aZ B c=some t∧t.zero b=true):=fun c t z=>by
  rw[di] at z
  by_cases e:b=c
  ·rw[bE e] at z;cases z;exact .inl ⟨e.symm,rfl⟩
  rw[bw e] at z
  exact .inr ⟨fun k=>e k.symm,z,Uo hB z⟩
 have hl:ff H (XB X0 B β) H' (XB X0 ((b,s)::B) β'):=⟨ax,fun f hf Z=>⟨fun k=>by
  rcases k with k|⟨c,t,h1,ho,h2⟩
  ·exact Z (.inl k)
  rcases O c t h1 with⟨rfl,rfl⟩|⟨z,I,_⟩
  ·rw[A] at h2;omega
  exact Z (.inr ⟨c,t,I,ho,by rw[←h2,p c z]⟩),hs f hf⟩⟩
 have z:∀row l,cD H (XB X0 B β) row l→cD H' (XB X0 ((b,s)::B) β') row l:=fun row l hr=>hr.lift hl
 refine⟨β',⟨A,p⟩,⟨(fun c z=>(p c fun e=>by rw[e,TR hB] at z;cases z).trans (h.kE c z)),by have:=h.bb;omega,(fun f hf=>by have:=h.x0 f hf;omega),fun c t G J=>?_,fun c e t u G Se J U K=>?_,fun k v hk=>?_,fun c t G=>?_⟩⟩
 ·rcases O c t G with⟨rfl,rfl⟩|⟨F,I,_⟩
  ·rw[A];exact⟨(fun Z=>by have:=h.x0 _ Z;omega),ax⟩
  rw[p c F];have:=h.new c t I J;exact⟨this.1,ax⟩
 ·rcases O c t G with⟨rfl,rfl⟩|⟨F,I,_⟩<;>rcases O e u Se with⟨rfl,rfl⟩|⟨Y,h4,_⟩
  ·rfl
  ·rw[A,p e Y] at K;have:=h.new e u h4 U;omega
  ·rw[A,p c F] at K;have:=h.new c t I J;omega
  rw[p c F,p e Y] at K;exact h.inj c e t u I h4 J U K
 ·obtain⟨a,h1,h2⟩:=h.env k v hk
  exact⟨a,h1,(aK.zero (LD hE hk) h2).lift hl⟩
 rcases O c t G with⟨rfl,rfl⟩|⟨F,I,hno⟩
 ·rw[A];exact M _ _ z
 rw[p c F]
 have ho:=h.box c t I
 have L:t.born→H'.t.get (β c)=H.t.get (β c):=fun ho=>hs _ (h.new c t I ho).2
 exact df.Bm (X:=XB X0 B β) hl L (df.W9 hno ho)
theorem Up{elem es aL n:Nat}{ls:List (List aw)}(h:n*aL≤70368744177664):xH elem es aL n ls H= .ok (.slice H.next n 0 n es) ⟨H.next+1,H.bb,H.ws,H.t.set H.next (.row elem es aL n n 0 (ia ls .emp 0))⟩:=by
 unfold xH
 rw[show Nat.ble (Nat.mul n aL) 70368744177664=true from gD h,dw,xl,alloc_eq]
theorem Uq{elem es aL n f m lo:Nat}{ls:List (List aw)}{cs:RT}(G:H.t.get f=some (.row elem es aL m lo 0 cs))(I:lo≤m)(h:(m+n)*aL≤70368744177664):
  AS elem es aL n ls H f m 0 m es= .ok (.slice f (m+n) 0 (m+n) es) ⟨H.next,H.bb,wrote f H.bb H.ws,H.t.set f (.row elem es aL (m+n) lo 0 (ia ls cs m))⟩:=by
 cases H with
 |mk next bb ws t=>
  have G:t.get f=some (.row elem es aL m lo 0 cs):=G
  show iN (t.get f) (.err 33) (fun p z lJ F lo fl cs=>
   aI (Nat.beq 0 0) (aI (Nat.beq m F) (aI (Nat.ble lo m) (aI (Nat.beq m F) (aI (Nat.beq es es) (aI (Nat.beq z es) (aI (Nat.beq fl 1) (aF.err 32)
   (aI (Nat.ble (Nat.mul (Nat.add F n) aL) 70368744177664) (aI (Nat.beq elem p)
    (cA (Nat.add F n) fun A=>s8 ls cs F fun cs=>t.eX f (.row p z lJ A lo fl cs) fun t=>
     .ok (.slice f A 0 A es) ⟨next,bb,wrote f bb ws,t⟩) (.err 32)) (.err 32))) (.err 32)) (.err 32)) (.err 32)) (.err 32)) (.err 32)) (.err 32))=_
  rw[G]
  show aI (Nat.beq 0 0) (aI (Nat.beq m m) (aI (Nat.ble lo m) (aI (Nat.beq m m) (aI (Nat.beq es es) (aI (Nat.beq es es) (aI (Nat.beq 0 1) (aF.err 32)
   (aI (Nat.ble (Nat.mul (Nat.add m n) aL) 70368744177664) (aI (Nat.beq elem elem)
    (cA (Nat.add m n) fun A=>s8 ls cs m fun cs=>t.eX f (.row elem es aL A lo 0 cs) fun t=>
     .ok (.slice f A 0 A es) ⟨next,bb,wrote f bb ws,t⟩) (.err 32)) (.err 32))) (.err 32)) (.err 32)) (.err 32)) (.err 32)) (.err 32)) (.err 32)=_
  rw[show Nat.beq 0 0=true from rfl,dw,show Nat.beq m m=true from ga m,dw,gD I,dw,dw,show Nat.beq es es=true from ga es,dw,dw,
   show aI (Nat.beq 0 1) (aF.err 32) _=_ from rfl,show Nat.ble (Nat.mul (Nat.add m n) aL) 70368744177664=true from gD h,dw,show Nat.beq elem elem=true from ga elem,dw,eP,xl,GT.i9]
  rfl
theorem vi_appC{op:bF}{elem es aL:Nat}{x:aM}{b:Nat}{rows ys:List (List DC)}(hx:x.vv VE=some (.ac b rows.length es))(hb:aZ B b=some (.acc elem aL es rows))
  (wL:∀{H0:Nat→Nat}{X0:Nat→Prop}{E:Env}{H:aC}{β:Nat→Nat},Rel H0 X0 VE B E H β→∃ls,kA H (XB X0 B β) es ls ys∧∀call a,x.ev E=some a→op.ev call E H=iC elem es aL ys.length ls H a)
  (A:(rows++ys).length*aL≤70368744177664) (hE:rows=[]→tb b VE=true) (hB:rows=[]→rD b B=true)
  (K:Q (.ac b (rows++ys).length es) ((b,.acc elem aL es (rows++ys))::B)):VI T op VE B [b] Q:=fun _ X0 _ H β J=>by
 obtain⟨a,h1,h2⟩:=J.bU hx
 obtain⟨ls,G,p⟩:=wL J
 have p:=fun call=>p call a h1
 have R2:=G.length
 cases ys with
 |nil=>
  rw[J9] at K
  have L:iC elem es aL 0 ls H a= .ok a H:=by
   simp only[aK] at h2
   rcases h2 with⟨_,rfl⟩|⟨_,rfl⟩<;>rfl
  have F:∀k s,aZ ((b,BS.acc elem aL es rows)::B) k=some s→aZ B k=some s:=fun k s I=>by
   rw[di] at I
   by_cases e:b=k
   ·rw[bE e] at I;cases I;exact e▸hb
   rw[bw e] at I;exact I
  refine eu (fun call=>(p call).trans L) ⟨_,_,β,gF.refl.Jo fun k s I ho=>⟨s,F k s I,ho⟩,J.Bp (B':=(b,.acc elem aL es rows)::B) F,?_,K⟩
  simp only[aK] at h2⊢
  exact h2
 |cons y0 yr=>
  have hA:iC elem es aL (y0::yr).length ls H a=eG a (.err 34) (xH elem es aL (y0::yr).length ls H) (AS elem es aL (y0::yr).length ls H):=rfl
  generalize M:y0::yr=ys at*
  have O:0<ys.length:=by rw[←M];simp
  cases rows with
  |nil=>
   have L:a= .gh:=by
    simp only[aK,nK] at h2
    rcases h2 with⟨_,h⟩|⟨h,_⟩
    ·exact h
    omega
   subst L
   rw[rR] at K A
   obtain⟨β',⟨U,Y⟩,na⟩:=J.Y3 (b:=b) (s:=.acc elem aL es ys) (H':=⟨H.next+1,H.bb,H.ws,H.t.set H.next (.row elem es aL ys.length ys.length 0 (ia ls .emp 0))⟩) (hE rfl) (hB rfl) (fun s hs ho=>by rw[hb] at hs;cases hs;exact ho rfl) rfl
    (fun f hf=>by show(H.t.set H.next _).get f=_;rw[GT.c7,bw ax]) rfl (fun X β' k=>.inr ⟨ys.length,ia ls .emp 0,by show(H.t.set H.next _).get H.next=_;rw[GT.c7,bE rfl],bM _,fun i row hi=>by
     obtain⟨l,j1,j2,Z⟩:=G.get hi
     refine⟨l,?_,j2,k _ _ Z⟩
     rw[Hu,bE ⟨mR _,by have:=(List.getElem?_eq_some_iff.1 hi).1;omega⟩,BU]
     exact j1⟩)
   refine eu (fun call=>(p call).trans (hA.trans (Up A))) ⟨_,_,β',⟨rfl,yH _,fun _ h=>.inl h,fun c t hc ht=>?_,fun f hf _=>by show(H.t.set H.next _).get f=_;rw[GT.c7,bw ax]⟩,na,?_,K⟩
   ·rw[di] at hc
    by_cases e:b=c
    ·subst e;exact .inr (by rw[U];exact bM _)
    rw[bw e] at hc
    exact .inl ⟨t,hc,ht,Y c fun k=>e k.symm⟩
   simp only[aK,U]
   exact .inr ⟨O,trivial⟩
  |cons r0 rr=>
   generalize z:r0::rr=rows at*
   have qN:rows≠[]:=by rw[←z];simp
   have hrpos:0<rows.length:=by rw[←z];simp
   have L:a= .slice (β b) rows.length 0 rows.length es:=by
    simp only[aK] at h2
    rcases h2 with⟨h,_⟩|⟨_,h⟩
    ·omega
    exact h
   subst L
   rcases J.box b _ hb with h|⟨lo,cs,k1,k2,k3⟩
   ·exact absurd h qN
   rw[fZ] at A
   refine⟨0,_,_,fun lf n _ _=>(p _).trans (hA.trans (Uq k1 k2 A)),?_⟩
   refine xi (s':=.acc elem aL es (rows++ys)) J hb qN rfl (fun f hf=>?_) rfl rfl (fun X _ j2=>.inr ⟨lo,ia ls cs rows.length,?_,by rw[fZ];omega,fun i row hi=>?_⟩) (fun X=>?_) K
   ·show(H.t.set (β b) _).get f=_
    rw[GT.c7,bw hf]
   ·show(H.t.set (β b) _).get (β b)=_
    rw[GT.c7,bE rfl,fZ]
   ·rw[Hu]
    have um:=(List.getElem?_eq_some_iff.1 hi).1
    rw[fZ] at um
    by_cases e:rows.length≤i
    ·rw[bE ⟨e,ax⟩]
     rw[rQ e] at hi
     obtain⟨l,Z,j4,j5⟩:=G.get hi
     exact⟨l,Z,j4,j2 _ _ j5⟩
    rw[bw (fun k=>e k.1)]
    rw[tn ax] at hi
    obtain⟨l,Z,j4,j5⟩:=k3 i row hi
    exact⟨l,Z,j4,j2 _ _ j5⟩
   simp only[aK]
   exact .inr ⟨by rw[fZ];omega,by rw[fZ]⟩
theorem cr{elem es aL:Nat}{x y:aM}{b:Nat}{rows ys:List (List DC)}{G:VV}(K:x.vv VE=some (.ac b rows.length es))(L:aZ B b=some (.acc elem aL es rows))(M:y.vv VE=some G)(p:YR B es G ys)(h0:0<es)
  (z:(rows++ys).length*aL≤70368744177664) (O:rows=[]→tb b VE=true) (U:rows=[]→rD b B=true)
  (Y:Q (.ac b (rows++ys).length es) ((b,.acc elem aL es (rows++ys))::B)):VI T (.app elem es aL x y) VE B [b] Q:=vi_appC K L (fun I=>by
 obtain⟨c,J,Z⟩:=I.bU M
 rcases p.elems I h0 Z with⟨A,rfl⟩|⟨f,g,off,e,ls,A,k2,k3⟩
 ·exact⟨[],trivial,fun call a F=>Iz F J (.inl ⟨A,rfl,rfl⟩)⟩
 exact⟨ls,k3,fun call a F=>Iz F J (.inr ⟨f,g,off,e,A,k2⟩)⟩) z O U Y
end
end Go.Ev
