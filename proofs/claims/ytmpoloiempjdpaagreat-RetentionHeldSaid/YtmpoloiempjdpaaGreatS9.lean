/- Part 9 of rules for walks through the code of a program, and of such walks; what each part proves is said by its theorems. -/
import Derived.Test.YtmpoloiempjdpaaGreatS8
set_option linter.unusedVariables false
set_option linter.unusedSimpArgs false
noncomputable section
set_option maxRecDepth 100000
set_option maxHeartbeats 4000000
namespace Go.Ev
mutual
def VV.zero(b:Nat):VV→Bool
 |.d _=>true
 |.agg l=>vG b l
 |.tuple l=>vG b l
 |.vp c _=>!Nat.beq c b
 |.bp c _ _ _ _=>!Nat.beq c b
 |.rp _ _=>true
 |.bs c _ _=>!Nat.beq c b
 |.ac c n _=>!Nat.beq c b||Nat.beq n 0
 |.fn _ dY=>vG b dY
 |.k _=>true
 |.jH=>true
 |.undef=>true
def vG(b:Nat):List VV→Bool
 |[]=>true
 |v::r=>v.zero b&&vG b r
end
def BS.zero(b:Nat):BS→Bool
 |.one _ _ row=>vG b row
 |.bK _ s=>s.zero b
 |_=>true
def vH(b:Nat):bb→Bool
 |[]=>true
 |(_,v)::r=>v.zero b&&vH b r
def t4(b:Nat):aK→Bool
 |[]=>!kz b
 |(_,s)::r=>s.zero b&&t4 b r
theorem Zz{b:Nat}:∀{B:aK},t4 b B=true→kz b=false
 |[],h=>by simpa[t4] using h
 |(_,_)::r,h=>by
  simp only[t4,cU] at h;exact Zz h.2
section
variable{T:aL}{H0:Nat→Nat}{X0:Nat→Prop}{VE bj:bb}{B B':aK}{E:Env}{H H':ax}{β:Nat→Nat}{X:Nat→Prop}
variable{W:List Nat}{Q:VV→aK→Prop}
mutual
theorem aE.zero{b f:Nat}:∀{v:VV}{a:ai},v.zero b=true→aE H X β v a→aE H X (fun c=>if c=b then f else β c) v a
 |.d x,_,_,h=>by simp only[aE] at h⊢;exact h
 |.agg l,_,n,h=>by
  simp only[aE,VV.zero] at h n⊢;obtain⟨cs,e,h⟩:=h;exact⟨cs,e,bc.zero n h⟩
 |.tuple l,_,n,h=>by
  simp only[aE,VV.zero] at h n⊢;obtain⟨cs,e,h⟩:=h;exact⟨cs,e,bc.zero n h⟩
 |.vp c off,_,n,h=>by simp only[aE,VV.zero] at h n⊢;rw[aX (pz n)];exact h
 |.bp c g q off es,_,n,h=>by simp only[aE,VV.zero] at h n⊢;rw[aX (pz n)];exact h
 |.rp row off,_,_,h=>by simp only[aE] at h⊢;exact h
 |.bs c m es,_,n,h=>by simp only[aE,VV.zero] at h n⊢;rw[aX (pz n)];exact h
 |.ac c m es,_,n,h=>by
  simp only[aE,VV.zero,oW] at h n⊢;rcases n with n|n
  ·rw[aX (pz n)];exact h
  have:=cW n;exact h.imp id fun k=>by omega
 |.fn f dY,_,n,h=>by
  simp only[aE,VV.zero] at h n⊢;obtain⟨cs,e,h⟩:=h;exact⟨cs,e,bc.zero n h⟩
 |.k x,_,_,h=>by simp only[aE] at h⊢;exact h
 |.jH,_,_,h=>by simp only[aE] at h⊢;exact h
 |.undef,_,_,_=>by simp only[aE]
theorem bc.zero{b f:Nat}:∀{l:List VV}{s:List ai},vG b l=true→bc H X β l s→bc H X (fun c=>if c=b then f else β c) l s
 |[],_,_,h=>by simp only[bc] at h⊢;exact h
 |v::r,_,n,h=>by
  simp only[bc,vG,cU] at h n⊢;obtain⟨a,s,e,z,h2⟩:=h;exact⟨a,s,e,aE.zero n.1 z,bc.zero n.2 h2⟩
end
theorem de.ad9{b g f:Nat}:∀{s:BS},s.zero b=true→de H X β f s→de H X (fun c=>if c=b then g else β c) f s
 |.one _ _ _,z,⟨l,lo,cs,A,G,I,L⟩=>⟨l,lo,cs,A,G,I,bc.zero z L⟩
 |.arr _ _ _ _ _,_,h=>h
 |.acc _ _ _ _,_,h=>h
 |.bK _ s,z,h=>⟨h.1,de.ad9 (s:=s) z h.2⟩
theorem QM{b:Nat}:∀{VE:bb},vH b VE=true→∀{k:Nat}{v:VV},aF VE k=some v→v.zero b=true
 |[],_,_,_,h=>by cases h
 |(i,w)::r,z,k,v,h=>by
  simp only[vH,cU] at z;rw[cP] at h
  by_cases e:i=k
  ·rw[bg e] at h;cases h;exact z.1
  rw[aX e] at h;exact QM z.2 h
theorem Z9{b:Nat}:∀{B:aK},t4 b B=true→∀{c:Nat}{s:BS},aF B c=some s→s.zero b=true
 |[],_,_,_,h=>by cases h
 |(i,w)::r,z,c,s,h=>by
  simp only[t4,cU] at z;rw[cP] at h
  by_cases e:i=c
  ·rw[bg e] at h;cases h;exact z.1
  rw[aX e] at h;exact Z9 z.2 h
theorem Rel.ghost(h:Rel H0 X0 VE B E H β){b k:Nat}(elem aC es:Nat)(Y:aF VE k=some (.d .nil))(hB:aF B b=none):Rel H0 X0 ((k,.ac b 0 es)::VE) ((b,.acc elem aC es [])::B) E H β:=by
 have I:∀c s,aF ((b,BS.acc elem aC es [])::B) c=some s→s.born→aF B c=some s:=fun c s z ho=>by
  rw[cP] at z
  by_cases e:b=c
  ·rw[bg e] at z;cases z;exact absurd rfl ho
  rw[aX e] at z;exact z
 have Z:∀f,XB X0 ((b,BS.acc elem aC es [])::B) β f→XB X0 B β f:=fun f L=>L.imp id fun⟨c,s,A,ho,h2⟩=>⟨c,s,I c s A ho,ho,h2⟩
 have M:eJ H (XB X0 B β) H (XB X0 ((b,BS.acc elem aC es [])::B) β):=⟨bd _,fun f _ L=>⟨fun k=>L (Z f k),rfl⟩⟩;refine⟨h.jr,h.aS,h.x0,fun c s z ho=>h.new c s (I c s z ho) ho,fun c e s t z he O U=>h.inj c e s t (I c s z O) (I e t he U) O U,fun j w G=>?_,fun c s z=>?_⟩
 ·rw[cP] at G
  by_cases e:k=j.n
  ·rw[bg e] at G
   cases G
   obtain⟨a,A,h2⟩:=h.env j _ (e▸Y);simp only[aE,bA] at h2;exact⟨a,A,by simp only[aE];exact .inl ⟨trivial,h2⟩⟩
  rw[aX e] at G;obtain⟨a,A,h2⟩:=h.env j w G;exact⟨a,A,h2.lift M⟩
 rw[cP] at z
 by_cases e:b=c
 ·rw[bg e] at z;cases z;exact .inl rfl
 rw[aX e] at z;exact(h.box c s z).lift M rfl
theorem ZA{b elem aC es:Nat}:∀c s,aF ((b,BS.acc elem aC es [])::B) c=some s→s.born→∃t,aF B c=some t∧t.born:=fun c s z ho=>by
 rw[cP] at z
 by_cases e:b=c
 ·rw[bg e] at z;cases z;exact absurd rfl ho
 rw[aX e] at z;exact⟨s,z,ho⟩
theorem dz{c:IC}{R:Ex→bb→aK→Prop}(k b elem aC es:Nat)(z:aF VE k=some (.d .nil))(A:aF B b=none)(h:VC T c ((k,.ac b 0 es)::VE) ((b,.acc elem aC es [])::B) R):VC T c VE B R:=
 fun H0 X0 E H β G=>(h H0 X0 E H β (G.ghost elem aC es z A)).mono fun _ _ _ I=>I.more ZA
def lu(H:ax)(X:Nat→Prop)(es:Nat):List (List ai)→ah→Prop
 |[],[]=>True
 |l::ls,r::rs=>(l.length=es∧bS H X r l)∧lu H X es ls rs
 |_,_=>False
theorem lu.length{es:Nat}:∀{ls:List (List ai)}{rs:ah},lu H X es ls rs→ls.length=rs.length
 |[],[],_=>rfl
 |l::ls,r::rs,h=>by simp only[lu] at h;simp[lu.length h.2]
 |[],_::_,h=>by simp[lu] at h
 |_::_,[],h=>by simp[lu] at h
theorem lu.get{es:Nat}:∀{ls:List (List ai)}{rs:ah},lu H X es ls rs→∀{i:Nat}{r:List DC},rs[i]?=some r→∃l,ls[i]?=some l∧l.length=es∧bS H X r l
 |[],[],_,i,r,h=>by simp at h
 |l::ls,r::rs,z,i,x,h=>by
  simp only[lu] at z
  cases i with
  |zero=>simp at h;subst h;exact⟨l,rfl,z.1⟩
  |succ i=>simpa using lu.get z.2 (i:=i) (r:=x) (by simpa using h)
 |[],_::_,h,_,_,_=>by simp[lu] at h
 |_::_,[],h,_,_,_=>by simp[lu] at h
theorem dF.elems{f g es:Nat}(h0:0<es):∀{rows:ah}{q:Nat},dF H X f g es q rows→∃ls,elems H f g es rows.length (q*es)=some ls∧lu H X es ls rows
 |[],_,_=>⟨[],rfl,trivial⟩
 |row::r,q,h=>by
  simp only[dF] at h;obtain⟨⟨l,z,h2,A⟩,G⟩:=h;obtain⟨ls,I,L⟩:=dF.elems h0 G;refine⟨l::ls,?_,by simp only[lu];exact⟨⟨h2,A⟩,L⟩⟩;show rd H f g (q*es) es none (fun l=>ob (Ev.elems H f g es r.length (Nat.add (q*es) es)) none fun r=>some (l::r))=_;have:=MI (k:=0) (n:=es) (e:=(none:Option (List (List ai)))) (c:=fun l=>ob (Ev.elems H f g es r.length (Nat.add (q*es) es)) none fun r=>some (l::r)) z an h0;rw[ug,h2] at this;rw[this,List.drop_zero,rf an];rw[show Nat.add (q*es) es=(q+1)*es by rw[lq,Bs];rfl,I];rfl
inductive YR(B:aK)(es:Nat):VV→ah→Prop
 |nil:YR B es (.d .nil) []
 |sl {rows:ah} (h:∀row,row∈rows→row.length=es):YR B es (.d (.sl rows)) rows
 |bs {b elem aC lo c6:Nat} {rows:ah} (h:aF B b=some (.arr elem aC es lo rows)):YR B es (.bs b rows.length c6) rows
 |ac {b elem aC c6:Nat} {rows:ah} (h:aF B b=some (.acc elem aC es rows)):YR B es (.ac b rows.length c6) rows
theorem YR.elems(O:Rel H0 X0 VE B E H β){es:Nat}{v:VV}{rows:ah}(Y:YR B es v rows)(h0:0<es){a:ai}(A:aE H (XB X0 B β) β v a):
  (a= .fV∧rows=[])∨∃f g off e ls,a= .slice f g off rows.length e∧Ev.elems H f g es rows.length off=some ls∧lu H (XB X0 B β) es ls rows:=by
 cases Y with
 |nil=>simp only[aE,bA] at A;exact .inl ⟨A,rfl⟩
 |sl h=>
  simp only[aE,bA] at A;obtain⟨f,g,off,c6,rfl,A⟩:=A;refine .inr ⟨f,g,off,c6,?_⟩;rcases A with rfl|⟨_,_,q,ho,G⟩
  ·exact⟨[],rfl,rfl,trivial⟩
  cases rows with
  |nil=>exact⟨[],rfl,rfl,trivial⟩
  |cons row r=>
   have Z:c6=es:=by
    simp only[dF] at G;obtain⟨⟨l,_,h2,L⟩,_⟩:=G;rw[←h2,L.length,h row (jo ..)]
   subst Z;obtain⟨ls,z,h2⟩:=G.elems h0;exact⟨ls,rfl,by rw[ho];exact z,h2⟩
 | @bs b elem aC lo c6 rows h=>
  simp only[aE] at A;subst A;have I:=O.box b _ h;refine .inr ⟨β b,rows.length,0,c6,?_⟩;have:dF H (XB X0 B β) (β b) rows.length es 0 rows:=dF.mW fun i row hi=>by
   have M:lo≤rows.length:=by obtain⟨_,_,_,_,h,_⟩:=I;exact h
   obtain⟨l,z,h2,L⟩:=I.cells (g:=rows.length) M (bd _) (List.getElem?_eq_some_iff.1 hi).1 hi;exact⟨l,by rw[e6];exact z,h2,L⟩
  obtain⟨ls,z,h2⟩:=this.elems h0;rw[ri] at z;exact⟨ls,rfl,z,h2⟩
 | @ac b elem aC c6 rows h=>
  simp only[aE] at A;rcases A with⟨z,rfl⟩|⟨_,rfl⟩
  ·exact .inl ⟨rfl,List.length_eq_zero_iff.1 z⟩
  refine .inr ⟨β b,rows.length,0,c6,?_⟩;have I:=O.box b _ h;have:dF H (XB X0 B β) (β b) rows.length es 0 rows:=dF.mW fun i row hi=>by
   rcases I with rfl|⟨lo,cs,k1,k2,k3⟩
   ·simp at hi
   obtain⟨l,j1,U,j3⟩:=k3 i row hi;exact⟨l,⟨elem,aC,rows.length,lo,0,cs,by rw[U];exact k1,k2,bd _,by rw[e6];exact(List.getElem?_eq_some_iff.1 hi).1,by rw[e6];exact j1⟩,U,j3⟩
  obtain⟨ls,z,h2⟩:=this.elems h0;rw[ri] at z;exact⟨ls,rfl,z,h2⟩
theorem LW{call:dQ}{elem es aC:Nat}{x y:aG}{a b:ai}{n:Nat}{ls:List (List ai)}(z:x.ev E=some a)(A:y.ev E=some b)
  (h:(b= .fV∧n=0∧ls=[])∨∃f g off e,b= .slice f g off n e∧Ev.elems H f g es n off=some ls):(br.app elem es aC x y).ev call E H=i7 elem es aC n ls H a:=by
 show bq x E (.err 26) (fun a=>bq y E (.err 26) fun b=>fy b (.err 26) (i7 elem es aC 0 [] H a) fun f g off n _=>
  ob (Ev.elems H f g es n off) (.err 26) fun l=>i7 elem es aC n l H a)=_
 rw[cQ,z,cA]
 show bq y E (.err 26) (fun b=>fy b (.err 26) (i7 elem es aC 0 [] H a) fun f g off n _=>
  ob (Ev.elems H f g es n off) (.err 26) fun l=>i7 elem es aC n l H a)=_
 rw[cQ,A,cA];rcases h with⟨rfl,rfl,rfl⟩|⟨f,g,off,e,rfl,h⟩
 ·rfl
 show ob (Ev.elems H f g es n off) (.err 26) (fun l=>i7 elem es aC n l H a)=_;rw[h,cA]
theorem KK{ls:List (List ai)}{cs:RT}{m q:Nat}:(gJ ls cs m).get q=if m≤q∧q<m+ls.length then ls[q-m]?else cs.get q:=uT ls cs m q
theorem Rel.agu(h:Rel H0 X0 VE B E H β){b:Nat}(hE:vH b VE=true)(hB:t4 b B=true)(hb:∀s,aF B b=some s→¬s.born)(hn:H'.next=H.next+1)(hs:∀f,f<H.next→H'.t.get f=H.t.get f)(hm:H'.aS=H.aS){s:BS}
  (Z:∀X β',(∀row l,bS H (XB X0 B β) row l→bS H' X row l)→de H' X β' H.next s):
  ∃β',(β' b=H.next∧∀c,c≠b→β' c=β c)∧Rel H0 X0 VE ((b,s)::B) E H' β':=by
 let β':Nat→Nat:=fun c=>if c=b then H.next else β c
 have G:β' b=H.next:=bg rfl;have z:∀c,c≠b→β' c=β c:=fun c A=>aX A
 have hg:∀c t,aF ((b,s)::B) c=some t→(c=b∧t=s)∨(c≠b∧aF B c=some t∧t.zero b=true):=fun c t A=>by
  rw[cP] at A
  by_cases e:b=c
  ·rw[bg e] at A;cases A;exact .inl ⟨e.symm,rfl⟩
  rw[aX e] at A;exact .inr ⟨fun k=>e k.symm,A,Z9 hB A⟩
 have hl:eJ H (XB X0 B β) H' (XB X0 ((b,s)::B) β'):=⟨an,fun f hf hx=>⟨fun k=>by
  rcases k with k|⟨c,t,h1,ho,h2⟩
  ·exact hx (.inl k)
  rcases hg c t h1 with⟨rfl,rfl⟩|⟨A,M,_⟩
  ·rw[G] at h2;omega
  exact hx (.inr ⟨c,t,M,ho,by rw[←h2,z c A]⟩),hs f hf⟩⟩
 have A:∀row l,bS H (XB X0 B β) row l→bS H' (XB X0 ((b,s)::B) β') row l:=fun row l hr=>hr.lift hl
 refine⟨β',⟨G,z⟩,⟨(fun c A=>(z c fun e=>by rw[e,Zz hB] at A;cases A).trans (h.jr c A)),by have:=h.aS;omega,(fun f hf=>by have:=h.x0 f hf;omega),fun c t L O=>?_,fun c e t u L XO O J6 U=>?_,fun k v hk=>?_,fun c t L=>?_⟩⟩
 ·rcases hg c t L with⟨rfl,rfl⟩|⟨I,M,_⟩
  ·rw[G];exact⟨(fun hx=>by have:=h.x0 _ hx;omega),an⟩
  rw[z c I];have:=h.new c t M O;exact⟨this.1,an⟩
 ·rcases hg c t L with⟨rfl,rfl⟩|⟨I,M,_⟩<;>rcases hg e u XO with⟨rfl,rfl⟩|⟨J7,h4,_⟩
  ·rfl
  ·rw[G,z e J7] at U;have:=h.new e u h4 J6;omega
  ·rw[G,z c I] at U;have:=h.new c t M O;omega
  rw[z c I,z e J7] at U;exact h.inj c e t u M h4 O J6 U
 ·obtain⟨a,h1,h2⟩:=h.env k v hk;exact⟨a,h1,(aE.zero (QM hE hk) h2).lift hl⟩
 rcases hg c t L with⟨rfl,rfl⟩|⟨I,M,hno⟩
 ·rw[G];exact Z _ _ A
 rw[z c I];have ho:=h.box c t M;have Y:t.born→H'.t.get (β c)=H.t.get (β c):=fun ho=>hs _ (h.new c t M ho).2
 exact de.DE (X:=XB X0 B β) hl Y (de.ad9 hno ho)
theorem Z'{elem es aC n:Nat}{ls:List (List ai)}(h:n*aC≤70368744177664):Ap elem es aC n ls H= .ok (.slice H.next n 0 n es) ⟨H.next+1,H.aS,H.ws,H.t.set H.next (.row elem es aC n n 0 (gJ ls .emp 0))⟩:=by
 unfold Ap;rw[show Nat.ble (Nat.mul n aC) 70368744177664=true from fR h,dM,CI,alloc_eq]
theorem aaa{elem es aC n f m lo:Nat}{ls:List (List ai)}{cs:RT}(L:H.t.get f=some (.row elem es aC m lo 0 cs))(M:lo≤m)(h:(m+n)*aC≤70368744177664):
  Aq elem es aC n ls H f m 0 m es= .ok (.slice f (m+n) 0 (m+n) es) ⟨H.next,H.aS,wrote f H.aS H.ws,H.t.set f (.row elem es aC (m+n) lo 0 (gJ ls cs m))⟩:=by
 show aJ (Nat.beq m m) (Ry elem es aC n ls H f m 0 m es) (Ss es n ls H f m 0 m es)=_;rw[gu,dM]
 cases H with
 |mk next aS ws t=>
  have L:t.get f=some (.row elem es aC m lo 0 cs):=L
  show kU (t.get f) (.err 33) (fun z A mr I lo fl cs=>
   aJ (Nat.beq 0 0) (aJ (Nat.beq m I) (aJ (Nat.ble lo m) (aJ (Nat.beq m I) (aJ (Nat.beq es es) (aJ (Nat.beq A es) (aJ (Nat.beq fl 1) (aD.err 32)
   (aJ (Nat.ble (Nat.mul (Nat.add I n) aC) 70368744177664) (aJ (Nat.beq elem z)
    (ch (Nat.add I n) fun G=>xW ls cs I fun cs=>t.fH f (.row z A mr G lo fl cs) fun t=>
     .ok (.slice f G 0 G es) ⟨next,aS,wrote f aS ws,t⟩) (.err 32)) (.err 32))) (.err 32)) (.err 32)) (.err 32)) (.err 32)) (.err 32)) (.err 32))=_
  rw[L]
  show aJ (Nat.beq 0 0) (aJ (Nat.beq m m) (aJ (Nat.ble lo m) (aJ (Nat.beq m m) (aJ (Nat.beq es es) (aJ (Nat.beq es es) (aJ (Nat.beq 0 1) (aD.err 32)
   (aJ (Nat.ble (Nat.mul (Nat.add m n) aC) 70368744177664) (aJ (Nat.beq elem elem)
    (ch (Nat.add m n) fun G=>xW ls cs m fun cs=>t.fH f (.row elem es aC G lo 0 cs) fun t=>
     .ok (.slice f G 0 G es) ⟨next,aS,wrote f aS ws,t⟩) (.err 32)) (.err 32))) (.err 32)) (.err 32)) (.err 32)) (.err 32)) (.err 32)) (.err 32)=_
  rw[show Nat.beq 0 0=true from rfl,dM,show Nat.beq m m=true from gu m,dM,fR M,dM,dM,show Nat.beq es es=true from gu es,dM,dM,
   show aJ (Nat.beq 0 1) (aD.err 32) _=_ from rfl,show Nat.ble (Nat.mul (Nat.add m n) aC) 70368744177664=true from fR h,dM,show Nat.beq elem elem=true from gu elem,dM,fc,CI,GT.jO]
  rfl
theorem vi_appC{op:br}{elem es aC:Nat}{x:aG}{b:Nat}{rows ys:ah}(hx:x.vv VE=some (.ac b rows.length es))(hb:aF B b=some (.acc elem aC es rows))
  (zk:∀{H0:Nat→Nat}{X0:Nat→Prop}{E:Env}{H:ax}{β:Nat→Nat},Rel H0 X0 VE B E H β→∃ls,lu H (XB X0 B β) es ls ys∧∀call a,x.ev E=some a→op.ev call E H=i7 elem es aC ys.length ls H a)
  (G:(rows++ys).length*aC≤70368744177664) (hE:rows=[]→vH b VE=true) (hB:rows=[]→t4 b B=true)
  (U:Q (.ac b (rows++ys).length es) ((b,.acc elem aC es (rows++ys))::B)):VI T op VE B [b] Q:=fun _ X0 _ H β O=>by
 obtain⟨a,h1,h2⟩:=O.bC hx;obtain⟨ls,L,z⟩:=zk O;have z:=fun call=>z call a h1
 have Xq:=L.length
 cases ys with
 |nil=>
  rw[Ef] at U;have Y:i7 elem es aC 0 ls H a= .ok a H:=by
   simp only[aE] at h2;rcases h2 with⟨_,rfl⟩|⟨_,rfl⟩<;>rfl
  have I:∀k s,aF ((b,BS.acc elem aC es rows)::B) k=some s→aF B k=some s:=fun k s M=>by
   rw[cP] at M
   by_cases e:b=k
   ·rw[bg e] at M;cases M;exact e▸hb
   rw[aX e] at M;exact M
  refine eG (fun call=>(z call).trans Y) ⟨_,_,β,gO.refl.MJ fun k s M ho=>⟨s,I k s M,ho⟩,O.DG (B':=(b,.acc elem aC es rows)::B) I,?_,U⟩;simp only[aE] at h2⊢;exact h2
 |cons y0 yr=>
  have hA:i7 elem es aC (y0::yr).length ls H a=fy a (.err 34) (Ap elem es aC (y0::yr).length ls H) (Aq elem es aC (y0::yr).length ls H):=rfl;generalize Z:y0::yr=ys at*;have yI:0<ys.length:=by rw[←Z];simp
  cases rows with
  |nil=>
   have Y:a= .fV:=by
    simp only[aE,jQ] at h2;rcases h2 with⟨_,h⟩|⟨h,_⟩
    ·exact h
    omega
   subst Y;rw[Bu] at U G;obtain⟨β',⟨hβ,VN⟩,om⟩:=O.agu (b:=b) (s:=.acc elem aC es ys) (H':=⟨H.next+1,H.aS,H.ws,H.t.set H.next (.row elem es aC ys.length ys.length 0 (gJ ls .emp 0))⟩) (hE rfl) (hB rfl) (fun s hs ho=>by rw[hb] at hs;cases hs;exact ho rfl) rfl
    (fun f hf=>by show(H.t.set H.next _).get f=_;rw[GT.df,aX an]) rfl (fun X β' k=>.inr ⟨ys.length,gJ ls .emp 0,by show(H.t.set H.next _).get H.next=_;rw[GT.df,bg rfl],bd _,fun i row hi=>by
     obtain⟨l,j1,j2,j3⟩:=L.get hi;refine⟨l,?_,j2,k _ _ j3⟩;rw[KK,bg ⟨gL _,by have:=(List.getElem?_eq_some_iff.1 hi).1;omega⟩,Ee]
     exact j1⟩)
   refine eG (fun call=>(z call).trans (hA.trans (Z' G))) ⟨_,_,β',⟨rfl,Bq _,fun _ h=>.inl h,fun c t hc ht=>?_,fun f hf _=>by show(H.t.set H.next _).get f=_;rw[GT.df,aX an]⟩,om,?_,U⟩
   ·rw[cP] at hc
    by_cases e:b=c
    ·subst e;exact .inr (by rw[hβ];exact bd _)
    rw[aX e] at hc;exact .inl ⟨t,hc,ht,VN c fun k=>e k.symm⟩
   simp only[aE,hβ];exact .inr ⟨yI,trivial⟩
  |cons r0 rr=>
   generalize A:r0::rr=rows at*;have fB:rows≠[]:=by rw[←A];simp
   have hrpos:0<rows.length:=by rw[←A];simp
   have Y:a= .slice (β b) rows.length 0 rows.length es:=by
    simp only[aE] at h2;rcases h2 with⟨h,_⟩|⟨_,h⟩
    ·omega
    exact h
   subst Y;rcases O.box b _ hb with h|⟨lo,cs,k1,k2,k3⟩
   ·exact absurd h fB
   rw[e7] at G;refine⟨0,_,_,fun lf n _ _=>(z _).trans (hA.trans (aaa k1 k2 G)),?_⟩;refine zN (s':=.acc elem aC es (rows++ys)) O hb fB rfl (fun f hf=>?_) rfl rfl (fun X _ j2=>.inr ⟨lo,gJ ls cs rows.length,?_,by rw[e7];omega,fun i row hi=>?_⟩) (fun X=>?_) U
   ·show(H.t.set (β b) _).get f=_;rw[GT.df,aX hf]
   ·show(H.t.set (β b) _).get (β b)=_;rw[GT.df,bg rfl,e7]
   ·rw[KK];have wS:=(List.getElem?_eq_some_iff.1 hi).1;rw[e7] at wS
    by_cases e:rows.length≤i
    ·rw[bg ⟨e,an⟩];rw[rl e] at hi;obtain⟨l,j3,j4,j5⟩:=L.get hi;exact⟨l,j3,j4,j2 _ _ j5⟩
    rw[aX (fun k=>e k.1)];rw[sA an] at hi;obtain⟨l,j3,j4,j5⟩:=k3 i row hi;exact⟨l,j3,j4,j2 _ _ j5⟩
   simp only[aE];exact .inr ⟨by rw[e7];omega,by rw[e7]⟩
theorem aY{elem es aC:Nat}{x y:aG}{b:Nat}{rows ys:ah}{L:VV}(U:x.vv VE=some (.ac b rows.length es))(Y:aF B b=some (.acc elem aC es rows))(Z:y.vv VE=some L)(z:YR B es L ys)(h0:0<es)
  (A:(rows++ys).length*aC≤70368744177664) (hE:rows=[]→vH b VE=true) (hB:rows=[]→t4 b B=true)
  (hq:Q (.ac b (rows++ys).length es) ((b,.acc elem aC es (rows++ys))::B)):VI T (.app elem es aC x y) VE B [b] Q:=vi_appC U Y (fun M=>by
 obtain⟨c,O,h4⟩:=M.bC Z;rcases z.elems M h0 h4 with⟨G,rfl⟩|⟨f,g,off,e,ls,G,k2,k3⟩
 ·exact⟨[],trivial,fun call a I=>LW I O (.inl ⟨G,rfl,rfl⟩)⟩
 exact⟨ls,k3,fun call a I=>LW I O (.inr ⟨f,g,off,e,G,k2⟩)⟩) A hE hB hq
end
section
variable{T:aL}{H0:Nat→Nat}{X0:Nat→Prop}{VE bj:bb}{B B':aK}{E:Env}{H H':ax}{β:Nat→Nat}{X:Nat→Prop}
variable{W:List Nat}{Q:VV→aK→Prop}
theorem abW{x:aG}{b n es:Nat}(I:x.vv VE=some (.ac b n es))(A:Q (.d (.i .i64 n)) B):VI T (.len x) VE B [] Q:=fun _ _ _ _ _ z=>by
 obtain⟨_,G,h2⟩:=z.bC I;simp only[aE] at h2;rcases h2 with⟨rfl,rfl⟩|⟨_,rfl⟩
 ·exact Zf G (du z (v:=.d (.i .i64 (0:Nat))) (by simp only[aE,bA];rfl) A)
 exact Lc G (du z (v:=.d (.i .i64 n)) (by simp only[aE,bA]) A)
theorem cZ{x i:aG}{es b n j:Nat}{k:IntKind}(G:x.vv VE=some (.ac b n es))(hi:i.vv VE=some (.d (.i k (j:Int))))(I:j<n)(L:Q (.bp b n j 0 es) B):VI T (.kr es x i) VE B [] Q:=fun _ _ _ _ _ z=>by
 obtain⟨_,M,h2⟩:=z.bC G;obtain⟨_,O,A⟩:=z.bC hi;simp only[aE] at h2 A;simp only[bA] at A;subst A;rcases h2 with⟨rfl,_⟩|⟨_,rfl⟩
 ·omega
 exact QK M O I (du z (v:=.bp b n j 0 es) (by simp only[aE];rw[e6,ug]) L)
theorem de.C8{f elem aC es:Nat}{rows:ah}(h:de H X β f (.acc elem aC es rows)){q:Nat}{row:List DC}(z:rows[q]?=some row):∃l,l8 H f rows.length q l∧l.length=es∧bS H X row l:=by
 have I:=(List.getElem?_eq_some_iff.1 z).1;rcases h with rfl|⟨A,cs,L,M,O⟩
 ·simp at z
 obtain⟨l,U,G,Y⟩:=O q row z;exact⟨l,⟨elem,aC,rows.length,A,0,cs,by rw[G];exact L,M,bd _,I,U⟩,G,Y⟩
theorem fe{a:aG}{b j o es elem aC:Nat}{rows:ah}{row:List DC}{x:DC}(G:a.vv VE=some (.bp b rows.length j o es))(I:aF B b=some (.acc elem aC es rows))(L:rows[j]?=some row)(M:row[o]?=some x)(O:Q (.d x) B):VI T (.load 1 false a) VE B [] Q:=fun _ _ _ _ _ z=>by
 obtain⟨_,U,A⟩:=z.bC G;simp only[aE] at A;subst A;obtain⟨l,Y,Z,k5⟩:=(z.box b _ I).C8 L;obtain⟨y,k6,k7⟩:=k5.get M;exact zM U Y (by rw[Z]) k6 (du z (v:=.d x) (by simp only[aE];exact k7) O)
theorem CG{a:aG}{b j o n es elem aC:Nat}{rows:ah}{row:List DC}(I:a.vv VE=some (.bp b rows.length j o es))(L:aF B b=some (.acc elem aC es rows))(M:rows[j]?=some row)(h0:0<n)(O:o+n≤row.length)(U:Q (.agg (((row.drop o).take n).map .d)) B):VI T (.load n true a) VE B [] Q:=fun _ _ _ _ _ z=>by
 obtain⟨_,Y,A⟩:=z.bC I;simp only[aE] at A;subst A;obtain⟨l,Z,k4,G⟩:=(z.box b _ L).C8 M;exact KH Y Z (by rw[k4]) (by rw[G.length];exact O) h0 (du z (v:=.agg (((row.drop o).take n).map .d)) (by simp only[aE];exact⟨_,rfl,bc.tE (G.KY o n)⟩) U)
def DC.cR(rows:ah):DC:=match rows with|[]=>.nil|x::r=>.sl (x::r)
theorem DC.ofAcc_ne{rows:ah}(h:rows≠[]):DC.cR rows= .sl rows:=by
 cases rows with
 |nil=>exact absurd rfl h
 |cons x r=>rfl
mutual
def VV.pQ(b:Nat)(x:DC):VV→VV
 |.agg l=>.agg (MK b x l)
 |.ac c n es=>bif Nat.beq c b then .d x else .ac c n es
 |v=>v
def MK(b:Nat)(x:DC):List VV→List VV
 |[]=>[]
 |v::r=>v.pQ b x::MK b x r
end
mutual
def VV.wT(b n es:Nat):VV→Prop
 |.agg l=>OE b n es l
 |.ac c m e=>c=b→m=n∧e=es
 |.bs c _ _=>c≠b
 |_=>True
def OE(b n es:Nat):List VV→Prop
 |[]=>True
 |v::r=>v.wT b n es∧OE b n es r
end
theorem Rel.pQ(L:Rel H0 X0 VE B E H β){b elem aC es:Nat}{rows:ah}(O:aF B b=some (.acc elem aC es rows)){k:Nat}{v:VV}(hv:aF VE k=some v)(ho:v.wT b rows.length es):
  Rel H0 X0 ((k,v.pQ b (.cR rows))::VE) (cL B b) E H β:=by
 have U:=L.drop b;have G:∀c s,aF (cL B b) c=some s→b≠c∧aF B c=some s:=fun c s z=>by
  rw[gz] at z
  by_cases e:b=c
  ·rw[bg e] at z;cases z
  rw[aX e] at z;exact⟨e,z⟩
 have Y:rows≠[]→¬XB X0 (cL B b) β (β b):=by
  rintro A(h|⟨c,s,z,Z,h2⟩)
  ·exact(L.new b _ O A).1 h
  exact(G c s z).1 (L.inj c b s _ (G c s z).2 O Z A h2).symm
 have hl:eJ H (XB X0 B β) H (XB X0 (cL B b) β):=⟨bd _,fun f _ Y=>⟨fun k=>Y (k.imp id fun⟨c,s,z,h2⟩=>⟨c,s,(G c s z).2,h2⟩),rfl⟩⟩;have M:rows≠[]→bA H (XB X0 (cL B b) β) (.sl rows) (.slice (β b) rows.length 0 rows.length es):=fun A=>by
  simp only[bA];refine⟨β b,rows.length,0,es,rfl,.inr ⟨Y A,(L.new b _ O A).2,0,by simp,dF.mW fun i row hi=>?_⟩⟩;obtain⟨l,z,h2,h3⟩:=(L.box b _ O).C8 hi;exact⟨l,by rw[e6];exact z,h2,h3.lift hl⟩
 have main:(∀v:VV,v.wT b rows.length es→∀a,aE H (XB X0 (cL B b) β) β v a→aE H (XB X0 (cL B b) β) β (v.pQ b (.cR rows)) a):=by
  intro v;refine VV.rec (motive_1:=fun v=>v.wT b rows.length es→∀a,aE H (XB X0 (cL B b) β) β v a→aE H (XB X0 (cL B b) β) β (v.pQ b (.cR rows)) a)
   (motive_2:=fun l=>OE b rows.length es l→∀s,bc H (XB X0 (cL B b) β) β l s→bc H (XB X0 (cL B b) β) β (MK b (.cR rows) l) s) ?_ ?_ ?_ ?_ ?_ ?_ ?_ ?_ ?_ ?_ ?_ ?_ ?_ ?_ v
  ·intro x _ a h;exact h
  ·intro l ih ho a h;simp only[aE,VV.pQ,VV.wT] at h ho⊢;obtain⟨cs,e,h⟩:=h;exact⟨cs,e,ih ho cs h⟩
  ·intro l _ _ a h;exact h
  ·intro c o _ a h;exact h
  ·intro c g q o e _ a h;exact h
  ·intro row o _ a h;exact h
  ·intro c n e ho a h;exact h
  ·intro c n e ho a h;simp only[VV.pQ,VV.wT] at h ho⊢
   by_cases I:c=b
   ·obtain⟨rfl,rfl⟩:=ho I;subst I;rw[show Nat.beq c c=true from gu c];simp only[aE] at h;show aE H _ β (.d (.cR rows)) _;simp only[aE];rcases h with⟨z,rfl⟩|⟨z,rfl⟩
    ·rw[List.length_eq_zero_iff.1 z];simp only[DC.cR,bA]
    have A:rows≠[]:=fun e=>by rw[e] at z;simp at z
    rw[DC.ofAcc_ne A];exact M A
   have:Nat.beq c b=false:=by
    cases hq:Nat.beq c b
    ·rfl
    exact absurd (cW hq) I
   rw[this];exact h
  ·intro f c _ _ a h;exact h
  ·intro x _ a h;exact h
  ·intro _ a h;exact h
  ·intro _ a h;exact h
  ·intro _ s h;exact h
  intro v r ih1 XP ho s h;simp only[bc,MK,OE] at h ho⊢;obtain⟨a,s,e,z,h2⟩:=h;exact⟨a,s,e,ih1 ho.1 a z,XP ho.2 s h2⟩
 refine{U with env:=fun c w I=>?_};rw[cP] at I
 by_cases e:k=c.n
 ·rw[bg e] at I
  cases I
  obtain⟨a,z,h2⟩:=U.env c v (e▸hv);exact⟨a,z,main v ho a h2⟩
 rw[aX e] at I;exact U.env c w I
theorem eL{ops:List bl}{Q:bb→aK→Prop}(k b:Nat){v:VV}{elem aC es:Nat}{rows:ah}(z:aF VE k=some v)(A:aF B b=some (.acc elem aC es rows))(ho:v.wT b rows.length es)(h:VO T ops ((k,v.pQ b (.cR rows))::VE) (cL B b) Q):VO T ops VE B Q:=
 fun H0 X0 E H β G=>(h H0 X0 E H β (G.pQ A z ho)).mono fun _ _ I=>I.more u9
theorem ct{c:IC}{R:Ex→bb→aK→Prop}(k b:Nat){v:VV}{elem aC es:Nat}{rows:ah}(z:aF VE k=some v)(A:aF B b=some (.acc elem aC es rows))(ho:v.wT b rows.length es)(h:VC T c ((k,v.pQ b (.cR rows))::VE) (cL B b) R):VC T c VE B R:=
 fun H0 X0 E H β G=>(h H0 X0 E H β (G.pQ A z ho)).mono fun _ _ _ I=>I.more u9
theorem bc.data{row:List DC}{l:List VV}{s:List ai}(h:gG l=some row)(k:bc H X β l s):bS H X row s:=bS.Gb (β:=β) (abU h▸k)
theorem vi_mksl{elem es aC:Nat}{zero:List ai}{z:List VV}{G:List DC}{x y:aG}{n:Nat}(b:Nat)(hE:j0 b VE=true)(hB:fX b B=true)(hz:pv zero=some z)(I:gG z=some G)(L:zero.length=es)(hx:x.vv VE=some (.d (.i .i64 (n:Int))))(hy:y.vv VE=some (.d (.i .i64 (n:Int))))
  (h1:n*aC≤70368744177664) (h2:n≤4611686018427387904) (hq:Q (.bs b n es) ((b,.arr elem aC es n (List.replicate n G))::B)):VI T (.vT elem es aC zero x y) VE B [] Q:=fun _ _ E H _ M=>by
 obtain⟨_,k1,Y⟩:=M.bC hx;obtain⟨_,k3,Z⟩:=M.bC hy;simp only[aE,bA] at Y Z;subst Y;subst Z;have O:∀call,(br.vT elem es aC zero x y).ev call E H= .ok (.slice H.next n 0 n es) ⟨H.next+1,H.aS,H.ws,H.t.set H.next (.row elem es aC n n 0 (oI zero n))⟩:=fun call=>by
  show bq x E (.err 22) (fun a=>fG a (.err 22) fun _ a=>iU a (.err 22) fun l=>bq y E (.err 22) fun b=>fG b (.err 22) fun _ b=>iU b (.err 22) fun c=>
   aJ (Nat.ble l c) (aJ (Nat.ble (Nat.mul c aC) 70368744177664) (aJ (Nat.ble c 4611686018427387904)
    (By zero l fun cs=>H.alloc (.row elem es aC l l 0 cs) fun f H=>.ok (.slice f l 0 l es) H) (.err 22)) (.err 22)) (.err 22))=_
  rw[cQ,k1,cA]
  show bq y E (.err 22) (fun b=>fG b (.err 22) fun _ b=>iU b (.err 22) fun c=>
   aJ (Nat.ble n c) (aJ (Nat.ble (Nat.mul c aC) 70368744177664) (aJ (Nat.ble c 4611686018427387904)
    (By zero n fun cs=>H.alloc (.row elem es aC n n 0 cs) fun f H=>.ok (.slice f n 0 n es) H) (.err 22)) (.err 22)) (.err 22))=_
  rw[cQ,k3,cA]
  show aJ (Nat.ble n n) (aJ (Nat.ble (Nat.mul n aC) 70368744177664) (aJ (Nat.ble n 4611686018427387904)
    (By zero n fun cs=>H.alloc (.row elem es aC n n 0 cs) fun f H=>aD.ok (.slice f n 0 n es) H) (.err 22)) (.err 22)) (.err 22)=_
  rw[fR (bd n),dM,show Nat.ble (Nat.mul n aC) 70368744177664=true from fR h1,dM,fR h2,dM,K4,alloc_eq]
 refine eG O (KJ (b:=b) (s:=.arr elem aC es n (List.replicate n G)) M hE hB rfl (fun f hf=>by show(H.t.set H.next _).get f=_;rw[GT.df,aX an]) rfl rfl (fun X β' _ _=>?_) (fun X β' k=>by simp only[aE];rw[k]) hq);refine⟨n,oI zero n,by show(H.t.set H.next _).get H.next=_;rw[GT.df,bg rfl,qQ],bd _,by rw[qQ];exact bd _,fun q row A=>?_⟩;rw[T2] at A
 split at A
 ·rename_i U
  cases A
  exact⟨zero,by rw[KE,bg U],L,(CB (β:=β') hz).data I⟩
 cases A
def zO(VE:bb)(es z:Nat):List (Nat×aG)→ah→Option (ah)
 |[],rows=>some rows
 |p::r,rows=>(p.2.vv VE).bind fun v=>v.cells.bind fun new=>(gG new).bind fun row=>bif Nat.beq row.length es&&Nat.ble (Nat.succ p.1) z then zO VE es z r (rows.set p.1 row) else none
theorem YQ(O:Rel H0 X0 VE B E H β){es A:Nat}:∀{ps:List (Nat×aG)}{rows out:ah}{t:RT},(rows.length=A∧∀q row,rows[q]?=some row→∃l,t.get q=some l∧l.length=es∧bS H (XB X0 B β) row l)→zO VE es A ps rows=some out→
  ∃t',rW E es A ps t=some t'∧out.length=A∧∀q row,out[q]?=some row→∃l,t'.get q=some l∧l.length=es∧bS H (XB X0 B β) row l
 |[],rows,out,t,h,z=>by simp only[zO,eE] at z;subst z;exact⟨t,rfl,h⟩
 |p::r,rows,out,t,h,z=>by
  simp only[zO,Dy] at z;obtain⟨v,Y,new,Z,row,L,z⟩:=z;obtain⟨a,h1,h2⟩:=O.bC Y;obtain⟨s,h3,h4⟩:=h2.cells Z;have U:=h4.data L;have hl:s.length=row.length:=U.length
  cases G:(Nat.beq row.length es&&Nat.ble (Nat.succ p.1) A) with
  |false=>rw[G] at z;cases z
  |true=>
   rw[G] at z;simp only[cU] at G;have e1:=cW G.1;have e2:=aV G.2;have z:zO VE es A r (rows.set p.1 row)=some out:=z
   obtain⟨t',k1,k2⟩:=YQ O (t:=t.set p.1 s) ⟨by rw[jA];exact h.1,fun q M I=>by
    rw[RT.df];rw[My] at I
    by_cases e:q=p.1
    ·subst e;rw[bg rfl] at I⊢;rw[bg (by rw[h.1];exact e2)] at I
     cases I
     exact⟨s,rfl,an,U⟩
    rw[aX (fun k=>e k.symm)] at I;rw[aX e]
    exact h.2 q M I⟩ z
   refine⟨t',?_,k2⟩;show ob (p.2.ev E) none (fun v=>ob (iR v) none fun new=>aJ (Nat.beq (gM new) es) (aJ (Nat.ble (Nat.succ p.1) A) (rW E es A r (t.set p.1 new)) none) none)=some t';rw[h1,cA,h3,cA,pt,hl,G.1,dM,G.2,dM,k1]
theorem ZB{elem es aC G:Nat}{zero:List ai}{z:List VV}{U:List DC}{ps:List (Nat×aG)}{rows:ah}(b:Nat)(Z:j0 b VE=true)(hB:fX b B=true)(hz:pv zero=some z)(I:gG z=some U)(L:zero.length=es)(hb:zO VE es G ps (List.replicate G U)=some rows)
  (hq:Q (.bs b G es) ((b,.arr elem aC es G rows)::B)):VI T (.tK elem es aC G zero ps) VE B [] Q:=fun _ _ E H β Y=>by
 obtain⟨t,h1,h2,h3⟩:=YQ Y (t:=oI zero G) ⟨qQ,fun q row A=>by
  rw[T2] at A
  split at A
  ·rename_i M
   cases A
   exact⟨zero,by rw[KE,bg M],L,(CB (β:=β) hz).data I⟩
  cases A⟩ hb
 have O:∀call,(br.tK elem es aC G zero ps).ev call E H= .ok (.slice H.next G 0 G es) ⟨H.next+1,H.aS,H.ws,H.t.set H.next (.row elem es aC G G 0 t)⟩:=fun call=>by
  show ob (rW E es G ps (oI zero G)) (.err 24) (fun t=>H.alloc (.row elem es aC G G 0 t) fun f H=>.ok (.slice f G 0 G es) H)=_;rw[h1,cA,alloc_eq]
 refine eG O (KJ (b:=b) (s:=.arr elem aC es G rows) Y Z hB rfl (fun f hf=>by show(H.t.set H.next _).get f=_;rw[GT.df,aX an]) rfl rfl (fun X β' _ k2=>?_) (fun X β' k=>by simp only[aE];rw[k]) hq);refine⟨G,t,by show(H.t.set H.next _).get H.next=_;rw[GT.df,bg rfl,h2],bd _,an,fun q row A=>?_⟩;obtain⟨l,j1,j2,j3⟩:=h3 q row A;exact⟨l,j1,j2,k2 _ _ j3⟩
end
section
variable{T:aL}{H0:Nat→Nat}{X0:Nat→Prop}{VE bj:bb}{B B':aK}{E:Env}{H H':ax}{β:Nat→Nat}{X:Nat→Prop}
variable{W:List Nat}{Q:VV→aK→Prop}
def jV(row:List DC)(o:Nat)(new:List DC):List DC:=bif Nat.beq new.length row.length then new else row.take o++(new++row.drop (o+new.length))
theorem bS.append{z A:List DC}{G I:List ai}(h:bS H X z G)(k:bS H X A I):bS H X (z++A) (G++I):=by
 have M:=bc.tE (β:=fun _=>0) h;have h2:=bc.tE (β:=fun _=>0) k;have L:=M.append h2;rw[←vP] at L;exact bS.Gb L
theorem bS.take{r:List DC}{l:List ai}(n:Nat)(h:bS H X r l):bS H X (r.take n) (l.take n):=by simpa using h.KY 0 n
theorem bS.drop{r:List DC}{l:List ai}(n:Nat)(h:bS H X r l):bS H X (r.drop n) (l.drop n):=by
 have z:=bc.drop n (bc.tE (β:=fun _=>0) h);rw[←Mx] at z;exact bS.Gb z
theorem bS.bif{t0:Bool}{a b:List DC}{s t:List ai}(h:bS H X a s)(k:bS H X b t):bS H X (bif t0 then a else b) (bif t0 then s else t):=by
 cases t0
 ·exact k
 exact h
theorem bS.en{row z:List DC}{l t:List ai}(o:Nat)(h:bS H X row l)(k:bS H X z t):bS H X (row.take o++(z++row.drop (o+z.length))) (en l o t):=by
 unfold Ev.en;rw[←k.length];exact(h.take o).append (k.append (h.drop (o+t.length)))
theorem Fz{n:Nat}{a x:aG}{b j o es elem aC lo:Nat}{rows:ah}{row z:List DC}{v:VV}{new:List VV}(ha:a.vv VE=some (.bp b rows.length j o es))(hb:aF B b=some (.arr elem aC es lo rows))(hx:x.vv VE=some v)(hv:v.cells=some new)(hd:gG new=some z)(M:z.length=n)(h0:0<n)(hk:o+n≤es)
  (hj:rows[j]?=some row) (hq:Q .undef ((b,.arr elem aC es rows.length (rows.set j (jV row o z)))::B)):VI T (.store n a x) VE B [b] Q:=fun _ X0 _ H β I=>by
 obtain⟨_,h1,h2⟩:=I.bC ha;simp only[aE] at h2;subst h2;obtain⟨y,h3,h4⟩:=I.bC hx;obtain⟨t,h5,L⟩:=h4.cells hv;have L:=L.data hd;obtain⟨qe,cs,k1,k2,k3,k4⟩:=I.box b _ hb;obtain⟨l,k5,k6,k7⟩:=k4 j row hj;have A:=(List.getElem?_eq_some_iff.1 hj).1;have ht:t.length=n:=by rw[L.length,M]
 have O:=k7.length;have e:=fun K=>HV (e:=aD.err 5) (K:=K) (q:=j) (o:=o) (n:=n) (new:=t) k1 an A k5 k6 ht h0 hk
 refine⟨0,.undef,_,fun lf m _ _=>by rw[KZ h1 h3 h5,e],?_⟩;refine zN (s':=.arr elem aC es rows.length (rows.set j (jV row o z))) I hb trivial rfl (fun f hf=>?_) rfl rfl (fun X j1 U=>?_) (fun X=>by simp only[aE]) hq
 ·show(H.t.set (β b) _).get f=_;rw[GT.df,aX hf]
 have hlen:(bif Nat.beq n es then t else en l o t).length=es:=by
  cases Y:Nat.beq n es with
  |true=>have:=cW Y;show t.length=_;omega
  |false=>show(en l o t).length=_;simp only[en,e7,iD,qP];omega
 refine⟨rows.length,cs.set j (bif Nat.beq n es then t else en l o t),?_,bd _,by rw[jA];exact bd _,fun i G hi=>?_⟩
 ·show(H.t.set (β b) _).get (β b)=_;rw[GT.df,bg rfl,jA]
 rw[RT.df];rw[My] at hi
 by_cases Z:i=j
 ·subst Z;rw[bg rfl,bg A] at hi
  cases hi
  rw[bg rfl];refine⟨_,rfl,hlen,?_⟩;have h7:=U _ _ L;have h8:=U _ _ k7;have h9:=h8.en o h7;unfold jV;rw[M,←O,k6];rw[M] at h9;exact bS.bif h7 h9
 rw[aX (fun k=>Z k.symm)] at hi;rw[aX Z];obtain⟨l',m1,m2,m3⟩:=k4 i G hi;exact⟨l',m1,m2,U _ _ m3⟩
def bW(T:aL)(f:Nat)(args:List VV)(Bi:aK)(Q:VV→aK→Prop):Prop:=
 ∀(H0:Nat→Nat)(X:Nat→Prop)(H:ax)(β:Nat→Nat)(l:List ai),Rel H0 X [] Bi .emp H β→bc H (XB X Bi β) β args l→
  uH T f l H fun a H'=>∃r B' β',gO Bi β H (fun _=>True) B' β' H'∧Rel H0 X [] B' .emp H' β'∧aE H' (XB X B' β') β' r a∧Q r B'
theorem bW.mono{f:Nat}{args:List VV}{Bi:aK}{Q z:VV→aK→Prop}(h:bW T f args Bi Q)(k:∀v B,Q v B→z v B):bW T f args Bi z:=fun H0 X H β l A h2=>
 (h H0 X H β l A h2).mono fun _ _⟨r,B',β',a,b,c,d⟩=>⟨r,B',β',a,b,c,k _ _ d⟩
def Sound(T:aL)(f:Nat)(args:List VV)(Q:VV→Prop):Prop:=bW T f args [] fun r _=>r.nb∧Q r
def At(T:aL)(f:Nat)(args:List VV)(Q:VV→aK→Prop):Prop:=bW T f args [] Q
theorem Sound.mono{f:Nat}{args:List VV}{Q z:VV→Prop}(h:Sound T f args Q)(k:∀v,Q v→z v):Sound T f args z:=bW.mono h fun v _ A=>⟨A.1,k v A.2⟩
def oK(VE:bb):List aG→Option (List VV)
 |[]=>some []
 |x::r=>(x.vv VE).bind fun v=>(oK VE r).map (v:: ·)
theorem zP(z:Rel H0 X0 VE B E H β):∀{l:List aG}{args:List VV},oK VE l=some args→∃vs,iK E l=some vs∧bc H (XB X0 B β) β args vs
 |[],args,h=>by simp only[oK,eE] at h;subst h;exact⟨[],rfl,by simp only[bc]⟩
 |x::r,args,h=>by
  simp only[oK,Dy,HA] at h;obtain⟨v,A,s,G,rfl⟩:=h;obtain⟨a,I,h2⟩:=z.bC A;obtain⟨vs,L,M⟩:=zP z G;exact⟨a::vs,aaP I L,by simp only[bc];exact⟨a,vs,rfl,h2,M⟩⟩
theorem Rel.lt(z:Rel H0 X0 VE B E H β):∀f,XB X0 B β f→f<H.next:=fun f A=>by
 rcases A with h|⟨b,s,G,ho,rfl⟩
 ·exact z.x0 f h
 exact(z.new b s G ho).2
theorem Rel.start{H0:Nat→Nat}{X:Nat→Prop}{H:ax}{E:Env}(z:H.aS≤H.next)(A:∀f,X f→f<H.next):Rel H0 X [] [] E H H0:=
 ⟨fun _ _=>rfl,z,A,fun _ _ h=>(by cases h),fun _ _ _ _ h=>(by cases h),fun _ _ h=>(by cases h),fun _ _ h=>(by cases h)⟩
theorem GH{X:Nat→Prop}{β:Nat→Nat}:∀f,XB X [] β f→X f:=fun f h=>by
 rcases h with h|⟨_,_,h,_⟩
 ·exact h
 cases h
theorem aaX{f:Nat}{vs:List ai}{args:List VV}{P:VV→Prop}(hn:kH args)(h:Sound T f args P)(Z:∀r,r.nb→P r→Q r B)(G:Rel H0 X0 VE B E H β)(h2:bc H (XB X0 B β) β args vs):uH T f vs H (DF H0 X0 VE B β E H W Q):=by
 have I:eJ H (XB X0 B β) H (XB (XB X0 B β) [] β):=⟨bd _,fun f _ L=>⟨fun k=>L (GH f k),rfl⟩⟩;refine(h β (XB X0 B β) H β vs (Rel.start G.aS G.lt) (h2.lift I)).mono fun a H' hp=>?_
 obtain⟨r,B',β',z,M,hv,U,k8⟩:=hp;have Y:∀f,f<H.next→H'.t.get f=H.t.get f:=fun f A=>z.jI f A fun _ _ k=>by cases k
 have O:eJ H' (XB (XB X0 B β) B' β') H' (XB X0 B β):=⟨bd _,fun f _ L=>⟨fun k=>L (.inl k),rfl⟩⟩;exact⟨r,B,β,⟨z.aS,z.next,fun f A=>(z.ws f A).imp id (fun⟨_,_,_,_,k,_⟩=>by cases k),fun _ s k1 k2=>.inl ⟨s,k1,k2,rfl⟩,fun f A _=>Y f A⟩,G.grow z.next Y M.aS,(hv.lift O).nb U,Z r U k8⟩
theorem Lf{f:Nat}{l:List aG}{args:List VV}{P:VV→Prop}(A:oK VE l=some args)(G:kH args)(h:Sound T f args P)(I:∀r,r.nb→P r→Q r B):VI T (.call f l) VE B [] Q:=fun H0 X0 E H β z=>by
 obtain⟨vs,L,h2⟩:=zP z A;exact Q7 L (aaX G h I z h2)
def Ep:List Key→List VV→bb→bb
 |k::ks,v::vs,VE=>Ep ks vs ((k.n,v)::VE)
 |_,_,VE=>VE
theorem Rb:∀{ks:List Key}{args:List VV}{l:List ai}{VE:bb}{E:Env},Rel H0 X0 VE B E H β→bc H (XB X0 B β) β args l→ks.length=args.length→Rel H0 X0 (Ep ks args VE) B (OA ks l E) H β
 |[],[],l,VE,E,h,k,_=>by simp only[bc] at k;subst k;exact h
 |x::ks,v::vs,l,VE,E,h,k,z=>by
  simp only[bc] at k;obtain⟨a,s,rfl,A,G⟩:=k;show Rel H0 X0 (Ep ks vs ((x.n,v)::VE)) B (OA ks s (E.set x a)) H β;exact Rb (h.set (d:=x) A) G (by simpa using z)
 |[],_::_,_,_,_,_,_,h=>by simp at h
 |_::_,[],_,_,_,_,_,h=>by simp at h
def VP(VE:bb)(B:aK):jU→Option VV
 |.tmp k=>aF VE k.n
 |.cell k n agg=>match aF VE k.n with
  |some (.vp b o)=>match aF B b with
   |some (.one _ _ row)=>bif Nat.ble 1 n&&Nat.ble (o+n) row.length then(bif agg then some (.agg ((row.drop o).take n)) else match(row.drop o).take n with|[v]=>some v|_=>none) else none
   |_=>none
  |_=>none
def sm(VE:bb)(B:aK):List jU→Option (List VV)
 |[]=>some []
 |r::rs=>(VP VE B r).bind fun v=>(sm VE B rs).map (v:: ·)
def mu:List VV→VV
 |[v]=>v
 |l=>.tuple l
theorem resV_rep(L:Rel H0 X0 VE B E H β){r:jU}{v:VV}(h:VP VE B r=some v):∃a,aE H (XB X0 B β) β v a∧∀{e:aD}{k:ai→aD},El E H r e k=k a:=by
 cases r with
 |tmp t=>
  obtain⟨a,I,h2⟩:=L.env t v h;refine⟨a,h2,fun{e k}=>?_⟩;show ob (E.get t) e k=k a;rw[I,cA]
 |cell a n agg=>
  simp only[VP] at h
  split at h
  ·rename_i b o O
   split at h
   ·rename_i elem aC row U;obtain⟨pa,I,h2⟩:=L.env a _ O;simp only[aE] at h2;subst h2;obtain⟨l,Y,M⟩:=(L.box b _ U).CC
    cases A:(Nat.ble 1 n&&Nat.ble (o+n) row.length) with
    |false=>rw[A] at h;cases h
    |true=>
     rw[A] at h;simp only[cU] at A;have e1:=aV A.1;have Z:=aV A.2;have G:∀{e:aD}{k:List ai→aD},rd H (β b) 1 o n e k=k ((l.drop o).take n):=fun{e k}=>by
      have:=MI (k:=o) (n:=n) (e:=e) (c:=k) Y (by rw[M.length];exact Z) an;rwa [ri,e6] at this
     have z:=bc.take n (bc.drop o M)
     cases agg with
     |true=>
      have h:some (VV.agg ((row.drop o).take n))=some v:=h
      cases h
      refine⟨.agg ((l.drop o).take n),by simp only[aE];exact⟨_,rfl,z⟩,fun{e k}=>?_⟩;show ob (E.get a) e (fun v=>jk v e fun f g off=>rd H f g off n e fun l=>fT true l e k)=_;rw[I,cA];show rd H (β b) 1 o n e (fun l=>fT true l e k)=_;rw[G];rfl
     |false=>
      have h:(match(row.drop o).take n with|[v]=>some v|_=>none)=some v:=h
      split at h
      ·rename_i w hw
       cases h
       rw[hw] at z;simp only[bc] at z;obtain⟨x,s,hs,hx,rfl⟩:=z;refine⟨x,hx,fun{e k}=>?_⟩;show ob (E.get a) e (fun v=>jk v e fun f g off=>rd H f g off n e fun l=>fT false l e k)=_;rw[I,cA];show rd H (β b) 1 o n e (fun l=>fT false l e k)=_;rw[G,hs];rfl
      cases h
   cases h
  cases h
theorem QN(z:Rel H0 X0 VE B E H β):∀{rs:List jU}{vs:List VV},sm VE B rs=some vs→∃l,bc H (XB X0 B β) β vs l∧∀{e:aD}{k:List ai→aD},xY E H rs e k=k l
 |[],vs,h=>by simp only[sm,eE] at h;subst h;exact⟨[],by simp only[bc],rfl⟩
 |r::rs,vs,h=>by
  simp only[sm,Dy,HA] at h;obtain⟨v,A,s,G,rfl⟩:=h;obtain⟨a,I,h2⟩:=resV_rep z A;obtain⟨l,L,M⟩:=QN z G;refine⟨a::l,by simp only[bc];exact⟨a,l,rfl,I,L⟩,fun{e k}=>?_⟩;show El E H r e (fun v=>xY E H rs e fun vs=>k (v::vs))=_;rw[h2,M]
def ai4(rs:List jU)(P:VV→aK→Prop):Ex→bb→aK→Prop
 |.exit _,_,_=>False
 |_,VE,B=>∃vs z,sm VE B rs=some vs∧ak z B∧P (mu vs) z
def ai5(rs:List jU)(P:VV→Prop):Ex→bb→aK→Prop
 |.exit _,_,_=>False
 |_,VE,B=>∃vs,sm VE B rs=some vs∧kH vs∧P (mu vs)
theorem gq{f:Nat}{fn:aQ}{args:List VV}{Bi:aK}{P:VV→aK→Prop}(hf:T.ft.get f=some fn)(hl:fn.ps.length=args.length)(h:VC T fn.body (Ep fn.ps args []) Bi (ai4 fn.res P)):bW T f args Bi P:=by
 intro H0 X H β l h0 z;have hr:=Rb (ks:=fn.ps) h0 z hl;refine ad6 hf (by rw[hl,z.length]) ((h H0 X _ H _ hr).mono fun x E' H' hp=>?_);obtain⟨bj,B',β',hw,O,U⟩:=hp;have key:(∃vs A,sm bj B' fn.res=some vs∧ak A B'∧P (mu vs) A)→∃v,results E' H' fn.res= .ok v H'∧∃r B' β',gO Bi β H (fun _=>True) B' β' H'∧Rel H0 X [] B' .emp H' β'∧aE H' (XB X B' β') β' r v∧P r B':=by
  rintro⟨vs,A,k1,Y,Z⟩;have Fa:=O.DG (B':=A) fun _ _ hk=>Y.get hk
  have I:Rel H0 X [] A .emp H' β':={Fa with env:=fun _ _ k=>by cases k};have L:gO Bi β H (fun _=>True) A β' H':=hw.MJ fun b s h1 h2=>⟨s,Y.get h1,h2⟩
  obtain⟨l',k4,k5⟩:=QN O k1;have zl:eJ H' (XB X B' β') H' (XB X A β'):=⟨bd _,fun f _ hx=>⟨fun k=>hx (k.imp id fun⟨c,s,h1,h2⟩=>⟨c,s,Y.get h1,h2⟩),rfl⟩⟩;have M:bc H' (XB X A β') β' vs l':=bc.lift zl k4;have G:results E' H' fn.res=List.rec (motive:=fun _=>aD) (.ok (.tuple []) H') (fun v r _=>List.rec (motive:=fun _=>aD) (.ok v H') (fun _ _ _=>.ok (.tuple (v::r)) H') r) l':=k5
  cases vs with
  |nil=>
   simp only[bc] at M;subst M;exact⟨_,G,mu [],A,β',L,I,by simp only[mu,aE,bc];exact⟨[],rfl,rfl⟩,Z⟩
  |cons v r=>
   cases r with
   |nil=>
    simp only[bc] at M;obtain⟨a,s,rfl,k7,rfl⟩:=M;exact⟨_,G,_,A,β',L,I,k7,Z⟩
   |cons w r=>
    have k8:=M;simp only[bc] at M;obtain⟨a,s,rfl,k7,a2,s2,rfl,_⟩:=M;exact⟨_,G,_,A,β',L,I,by simp only[mu,aE];exact⟨_,rfl,k8⟩,Z⟩
 cases x with
 |exit id=>exact absurd U (fun h=>h)
 |normal=>exact⟨fun _ h=>(by cases h),key U⟩
 |ret=>exact⟨fun _ h=>(by cases h),key U⟩
theorem Gd{vs:List VV}(h:kH vs):(mu vs).nb:=by
 cases vs with
 |nil=>simp only[mu,VV.nb,kH]
 |cons v r=>
  cases r with
  |nil=>simp only[kH] at h;exact h.1
  |cons w r=>simpa only[mu,VV.nb] using h
theorem bk{f:Nat}{fn:aQ}{args:List VV}{P:VV→Prop}(I:T.ft.get f=some fn)(L:fn.ps.length=args.length)(h:VC T fn.body (Ep fn.ps args []) [] (ai5 fn.res P)):Sound T f args P:=
 gq I L (h.mono fun x VE B z=>by
  cases x with
  |exit id=>exact z
  |normal=>obtain⟨vs,A,h2,G⟩:=z;exact⟨vs,[],A,trivial,Gd h2,G⟩
  |ret=>obtain⟨vs,A,h2,G⟩:=z;exact⟨vs,[],A,trivial,Gd h2,G⟩)
end
def encSl{α:Type}(enc:α→List DC):Option (List α)→DC
 |none=>.nil
 |some l=>.sl (l.map enc)
def elS{α:Type}:Option (List α)→List α
 |none=>[]
 |some l=>l
section
variable{T:aL}{H0:Nat→Nat}{X0:Nat→Prop}{VE bj:bb}{B B':aK}{E:Env}{H H':ax}{β:Nat→Nat}{X:Nat→Prop}
variable{W:List Nat}{Q:VV→aK→Prop}{α:Type}{ec:α→List DC}{o:Option (List α)}
theorem YR.enc{es:Nat}(h:∀e,(ec e).length=es):YR B es (.d (encSl ec o)) ((elS o).map ec):=by
 cases o with
 |none=>exact .nil
 |some l=>
  refine .sl fun row z=>?_
  obtain⟨e,_,rfl⟩:=List.mem_map.1 z;exact h e
theorem bw{d g:Key}{want t:Bool}{qq:Option (List Nat)}{op:br}{r:List bl}{Q:bb→aK→Prop}(z:aF VE g.n=some (.d (.b t)))(A:t=want)(h:VI T op VE B W fun v B'=>VO T r ((d.n,v)::VE) B' Q):VO T (⟨some d,some (g,want),qq,op⟩::r) VE B Q:=by
 subst A;exact vo_want z h
theorem cn{fl:List FL}{d g:Key}{want t:Bool}{op:br}{r:List bl}{Q:bb→aK→Prop}(z:aF VE g.n=some (.d (.b t)))(A:t=want)(h:VI T op VE B W fun v B'=>VQ T r ((d.n,v)::VE) B' fl Q):VQ T (⟨some d,some (g,want),none,op⟩::r) VE B fl Q:=by
 subst A;exact vq_want z h
theorem fx{fl:List FL}{d g:Key}{want t:Bool}{l:List Nat}{op:br}{r:List bl}{Q:bb→aK→Prop}(z:aF VE g.n=some (.d (.b t)))(A:t=want)(G:mX W l fl=true)(h:VI T op VE B W fun v B'=>VQ T r ((d.n,v)::VE) B' (uo W::fl) Q):VQ T (⟨some d,some (g,want),some l,op⟩::r) VE B fl Q:=by
 subst A;exact vq_wantM z G h
theorem tB{c x y:aG}{t:Bool}{v:VV}(z:c.vv VE=some (.d (.b t)))(A:t=true)(G:x.vv VE=some v)(I:Q v B):VI T (.pick c x y) VE B [] Q:=by
 subst A;exact Ra z G I
theorem tC{c x y:aG}{t:Bool}{v:VV}(z:c.vv VE=some (.d (.b t)))(A:t=false)(G:y.vv VE=some v)(I:Q v B):VI T (.pick c x y) VE B [] Q:=by
 subst A;exact aaV z G I
theorem eA{k:Key}{a b:IC}{t:Bool}{R:Ex→bb→aK→Prop}(z:aF VE k.n=some (.d (.b t)))(A:t=true)(h:VC T a VE B R):VC T (.cond (.t k) a b) VE B R:=by
 subst A;exact aaT z h
theorem dn{k:Key}{a b:IC}{t:Bool}{R:Ex→bb→aK→Prop}(z:aF VE k.n=some (.d (.b t)))(A:t=false)(h:VC T b VE B R):VC T (.cond (.t k) a b) VE B R:=by
 subst A;exact aaU z h
theorem aaY{g:Key}{t:Bool}{ops:List bl}{Q:bb→aK→Prop}(_hg:aF VE g.n=some (.d (.b t)))(z:t=true→VO T ops VE B Q)(h2:t=false→VO T ops VE B Q):VO T ops VE B Q:=by
 cases t
 ·exact h2 rfl
 exact z rfl
theorem bc.setAt{β:Nat→Nat}{new uG:VV}(z:∀a,aE H X β uG a→aE H X β new a):∀{l:List VV}{s:List ai}{i:Nat},bc H X β l s→l[i]?=some uG→bc H X β (l.set i new) s
 |[],_,_,_,h=>by simp at h
 |v::r,s,i,h,hi=>by
  simp only[bc] at h;obtain⟨a,s,rfl,A,h2⟩:=h
  cases i with
  |zero=>
   simp at hi;subst hi;simp only[T3,bc];exact⟨a,s,rfl,z a A,h2⟩
  |succ i=>
   simp only[T5,bc];exact⟨a,s,rfl,A,bc.setAt z h2 (by simpa using hi)⟩
def Ci(id:Nat):Ex→Ex
 |.exit j=>bif Nat.beq j id then .normal else .exit j
 |x=>x
theorem aea(id:Nat)(x:Ex):E9 id x=Ci id x:=by
 cases x with
 |normal=>rfl
 |ret=>rfl
 |exit j=>
  show(if j=id then Ex.normal else .exit j)=bif Nat.beq j id then .normal else .exit j
  by_cases h:j=id
  ·rw[bg h,h,show Nat.beq id id=true from gu id];rfl
  rw[aX h]
  cases z:Nat.beq j id
  ·rfl
  exact absurd (cW z) h
theorem jN{id:Nat}{c:IC}{R:Ex→bb→aK→Prop}(h:VC T c VE B fun x=>R (Ci id x)):VC T (.block id c) VE B R:=
 vc_block (h.mono fun x _ _ k=>by rw[aea];exact k)
theorem qC{elem es aC lo:Nat}{x y:aG}{b:Nat}{rows ys:ah}{vy:VV}(U:x.vv VE=some (.bs b rows.length es))(hb:aF B b=some (.arr elem aC es lo rows))(hy:y.vv VE=some vy)(XQ:YR B es vy ys)(h0:0<es)
  (Y:(rows++ys).length*aC≤70368744177664) (Z:Q (.bs b (rows++ys).length es) ((b,.arr elem aC es (rows++ys).length (rows++ys))::B)):VI T (.app elem es aC x y) VE B [b] Q:=fun _ X0 _ H β z=>by
 obtain⟨a,h1,h2⟩:=z.bC U;obtain⟨c,h3,h4⟩:=z.bC hy;obtain⟨ls,PC,he⟩:∃ls,lu H (XB X0 B β) es ls ys∧((c= .fV∧ys.length=0∧ls=[])∨∃f g off e,c= .slice f g off ys.length e∧Ev.elems H f g es ys.length off=some ls):=by
  rcases XQ.elems z h0 h4 with⟨M,rfl⟩|⟨f,g,off,e,ls,M,k2,k3⟩
  ·exact⟨[],trivial,.inl ⟨M,rfl,rfl⟩⟩
  exact⟨ls,k3,.inr ⟨f,g,off,e,M,k2⟩⟩
 have PG:∀call,(br.app elem es aC x y).ev call _ H=i7 elem es aC ys.length ls H a:=fun call=>LW h1 h3 he
 have Xq:=PC.length;simp only[aE] at h2;subst h2;obtain⟨qe,cs,M,k2,k4,k3⟩:=z.box b _ hb
 cases ys with
 |nil=>
  rw[Ef] at Z;refine eG (fun call=>(PG call).trans rfl) ⟨.bs b rows.length es,(b,.arr elem aC es rows.length rows)::B,β,⟨rfl,bd _,fun _ h=>.inl h,fun c t A ht=>?_,fun _ _ _=>rfl⟩,?_,by simp only[aE],Z⟩
  ·rw[cP] at A
   by_cases e:b=c
   ·subst e;exact .inl ⟨_,hb,trivial,rfl⟩
   rw[aX e] at A;exact .inl ⟨t,A,ht,rfl⟩
  have hd:∀c t,aF ((b,BS.arr elem aC es rows.length rows)::B) c=some t→∃t',aF B c=some t'∧t'.born∧(c=b∧t= .arr elem aC es rows.length rows)∨(c≠b∧aF B c=some t):=fun c t A=>by
   rw[cP] at A
   by_cases e:b=c
   ·rw[bg e] at A;cases A;subst e;exact⟨_,.inl ⟨hb,trivial,rfl,rfl⟩⟩
   rw[aX e] at A;exact⟨t,.inr ⟨fun k=>e k.symm,A⟩⟩
  have hX:∀f,XB X0 ((b,BS.arr elem aC es rows.length rows)::B) β f→XB X0 B β f:=fun f U=>by
   rcases U with k|⟨c,t,j1,ho,I⟩
   ·exact .inl k
   obtain⟨t',⟨G,O,rfl,rfl⟩|⟨_,G⟩⟩:=hd c t j1
   ·exact .inr ⟨_,t',G,O,I⟩
   exact .inr ⟨c,t,G,ho,I⟩
  have hl:eJ H (XB X0 B β) H (XB X0 ((b,BS.arr elem aC es rows.length rows)::B) β):=⟨bd _,fun f _ U=>⟨fun k=>U (hX f k),rfl⟩⟩;refine⟨z.jr,z.aS,z.x0,fun c t A ho=>?_,fun c e t u A hce ho hu L=>?_,fun k w hk=>?_,fun c t A=>?_⟩
  ·obtain⟨t',⟨G,O,rfl,rfl⟩|⟨_,G⟩⟩:=hd c t A
   ·exact z.new _ t' G O
   exact z.new c t G ho
  ·obtain⟨t',⟨G,O,rfl,rfl⟩|⟨_,G⟩⟩:=hd c t A<;>obtain⟨u',⟨n1,n2,rfl,rfl⟩|⟨_,n1⟩⟩:=hd e u hce
   ·rfl
   ·exact z.inj _ _ _ _ G n1 O hu L
   ·exact z.inj _ _ _ _ G n1 ho n2 L
   exact z.inj _ _ _ _ G n1 ho hu L
  ·obtain⟨a,j1,I⟩:=z.env k w hk;exact⟨a,j1,I.lift hl⟩
  obtain⟨t',⟨G,O,rfl,rfl⟩|⟨_,G⟩⟩:=hd c t A
  ·exact⟨qe,cs,M,an,bd _,fun q row Z=>by
    obtain⟨l,j3,j4,j5⟩:=k3 q row Z
    exact⟨l,j3,j4,j5.lift hl⟩⟩
  exact(z.box c t G).lift hl rfl
 |cons y0 yr=>
  have hA:i7 elem es aC (y0::yr).length ls H (.slice (β b) rows.length 0 rows.length es)=Aq elem es aC (y0::yr).length ls H (β b) rows.length 0 rows.length es:=rfl;generalize hys2:y0::yr=ys at*;rw[e7] at Y;refine⟨0,_,_,fun lf n _ _=>(PG _).trans (hA.trans (aaa M an Y)),?_⟩;refine zN (s':=.arr elem aC es (rows++ys).length (rows++ys)) z hb trivial rfl (fun f hf=>?_) rfl rfl (fun X _ I=>⟨qe,gJ ls cs rows.length,?_,by rw[e7];omega,bd _,fun i row hi=>?_⟩) (fun X=>?_) Z
  ·show(H.t.set (β b) _).get f=_;rw[GT.df,aX hf]
  ·show(H.t.set (β b) _).get (β b)=_;rw[GT.df,bg rfl,e7]
  ·rw[KK];have wS:=(List.getElem?_eq_some_iff.1 hi).1;rw[e7] at wS
   by_cases e:rows.length≤i
   ·rw[bg ⟨e,an⟩];rw[rl e] at hi;obtain⟨l,j3,j4,j5⟩:=PC.get hi;exact⟨l,j3,j4,I _ _ j5⟩
   rw[aX (fun k=>e k.1)];rw[sA an] at hi;obtain⟨l,j3,j4,j5⟩:=k3 i row hi;exact⟨l,j3,j4,I _ _ j5⟩
  simp only[aE,e7]
theorem ed{elem es aC:Nat}{x y:aG}{ys:ah}{vy:VV}(b:Nat)(J8:aF B b=none)(hE:vH b VE=true)(hB:t4 b B=true)(G:x.vv VE=some (.d .nil))(hy:y.vv VE=some vy)(XQ:YR B es vy ys)(h0:0<es)
  (og:ys.length*aC≤70368744177664) (hq:Q (.ac b ys.length es) ((b,.acc elem aC es ys)::B)):VI T (.app elem es aC x y) VE B [b] Q:=fun _ X0 _ H β A=>by
 obtain⟨a,I,h2⟩:=A.bC G;obtain⟨c,h3,h4⟩:=A.bC hy;obtain⟨ls,L,he⟩:∃ls,lu H (XB X0 B β) es ls ys∧((c= .fV∧ys.length=0∧ls=[])∨∃f g off e,c= .slice f g off ys.length e∧Ev.elems H f g es ys.length off=some ls):=by
  rcases XQ.elems A h0 h4 with⟨k1,rfl⟩|⟨f,g,off,e,ls,k1,k2,k3⟩
  ·exact⟨[],trivial,.inl ⟨k1,rfl,rfl⟩⟩
  exact⟨ls,k3,.inr ⟨f,g,off,e,k1,k2⟩⟩
 have M:∀call,(br.app elem es aC x y).ev call _ H=i7 elem es aC ys.length ls H a:=fun call=>LW I h3 he
 have Xq:=L.length;simp only[aE,bA] at h2;subst h2
 cases ys with
 |nil=>
  refine eG (fun call=>(M call).trans rfl) ⟨.ac b 0 es,(b,.acc elem aC es [])::B,β,gO.refl.MJ (ZA (B:=B)),?_,by simp only[aE];exact .inl ⟨trivial,trivial⟩,hq⟩;have hd:∀c s,aF ((b,BS.acc elem aC es [])::B) c=some s→s.born→aF B c=some s:=fun c s z ho=>by
   rw[cP] at z
   by_cases e:b=c
   ·rw[bg e] at z;cases z;exact absurd rfl ho
   rw[aX e] at z;exact z
  have hX:∀f,XB X0 ((b,BS.acc elem aC es [])::B) β f→XB X0 B β f:=fun f G=>G.imp id fun⟨c,s,I,ho,h2⟩=>⟨c,s,hd c s I ho,ho,h2⟩
  have hl:eJ H (XB X0 B β) H (XB X0 ((b,BS.acc elem aC es [])::B) β):=⟨bd _,fun f _ G=>⟨fun k=>G (hX f k),rfl⟩⟩;refine⟨A.jr,A.aS,A.x0,fun c s z ho=>A.new c s (hd c s z ho) ho,fun c e s t z he O ht=>A.inj c e s t (hd c s z O) (hd e t he ht) O ht,fun j w hj=>?_,fun c s z=>?_⟩
  ·obtain⟨a,I,h2⟩:=A.env j w hj;exact⟨a,I,h2.lift hl⟩
  rw[cP] at z
  by_cases e:b=c
  ·rw[bg e] at z;cases z;exact .inl rfl
  rw[aX e] at z;exact(A.box c s z).lift hl rfl
 |cons y0 yr=>
  have hA:i7 elem es aC (y0::yr).length ls H .fV=Ap elem es aC (y0::yr).length ls H:=rfl;generalize U:y0::yr=ys at*;have Y:0<ys.length:=by rw[←U];simp
  obtain⟨β',⟨Z,VN⟩,om⟩:=A.agu (b:=b) (s:=.acc elem aC es ys) (H':=⟨H.next+1,H.aS,H.ws,H.t.set H.next (.row elem es aC ys.length ys.length 0 (gJ ls .emp 0))⟩) hE hB (fun s O _=>by rw[J8] at O;cases O) rfl
   (fun f hf=>by show(H.t.set H.next _).get f=_;rw[GT.df,aX an]) rfl (fun X β' k=>.inr ⟨ys.length,gJ ls .emp 0,by show(H.t.set H.next _).get H.next=_;rw[GT.df,bg rfl],bd _,fun i row hi=>by
    obtain⟨l,j1,j2,j3⟩:=L.get hi;refine⟨l,?_,j2,k _ _ j3⟩;rw[KK,bg ⟨gL _,by have:=(List.getElem?_eq_some_iff.1 hi).1;omega⟩,Ee]
    exact j1⟩)
  refine eG (fun call=>(M call).trans (hA.trans (Z' og))) ⟨_,_,β',⟨rfl,Bq _,fun _ h=>.inl h,fun c t z ht=>?_,fun f hf _=>by show(H.t.set H.next _).get f=_;rw[GT.df,aX an]⟩,om,?_,hq⟩
  ·rw[cP] at z
   by_cases e:b=c
   ·subst e;exact .inr (by rw[Z];exact bd _)
   rw[aX e] at z;exact .inl ⟨t,z,ht,VN c fun k=>e k.symm⟩
  simp only[aE,Z];exact .inr ⟨Y,trivial⟩
end
end Go.Ev
