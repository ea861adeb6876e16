/- Part 14 of rules for walks through the code of a program, and of such walks; what each part proves is said by its theorems. -/
import Derived.Test.YtdaamclhcpjdpaaGreatDoorR13
set_option linter.unusedVariables false
set_option linter.unusedSimpArgs false
noncomputable section
set_option maxRecDepth 100000
set_option maxHeartbeats 4000000
namespace Go.Ev
mutual
def VV.zero(b:Nat):VV→Bool
 |.d _=>true
 |.agg l=>vh b l
 |.tuple l=>vh b l
 |.vp c _=>!Nat.beq c b
 |.bp c _ _ _ _=>!Nat.beq c b
 |.rp _ _=>true
 |.bs c _ _=>!Nat.beq c b
 |.ac c n _=>!Nat.beq c b||Nat.beq n 0
 |.fn _ dL=>vh b dL
 |.k _=>true
 |.il=>true
 |.undef=>true
def vh(b:Nat):List VV→Bool
 |[]=>true
 |v::r=>v.zero b&&vh b r
end
def BS.zero(b:Nat):BS→Bool
 |.one _ _ row=>vh b row
 |.c9 _ s=>s.zero b
 |_=>true
def vi(b:Nat):bo→Bool
 |[]=>true
 |(_,v)::r=>v.zero b&&vi b r
def tp(b:Nat):aT→Bool
 |[]=>!jJ b
 |(_,s)::r=>s.zero b&&tp b r
theorem YO{b:Nat}:∀{B:aT},tp b B=true→jJ b=false
 |[],h=>by simpa[tp] using h
 |(_,_)::r,h=>by
  simp only[tp,cS] at h;exact YO h.2
section
variable{T:aN}{H0:Nat→Nat}{X0:Nat→Prop}{VE bF:bo}{B B':aT}{E:Env}{H H':aw}{β:Nat→Nat}{X:Nat→Prop}
variable{W:List Nat}{Q:VV→aT→Prop}
mutual
theorem aG.zero{b f:Nat}:∀{v:VV}{a:al},v.zero b=true→aG H X β v a→aG H X (fun c=>if c=b then f else β c) v a
 |.d x,_,_,h=>by simp only[aG] at h⊢;exact h
 |.agg l,_,n,h=>by
  simp only[aG,VV.zero] at h n⊢;obtain⟨cs,e,h⟩:=h;exact⟨cs,e,bb.zero n h⟩
 |.tuple l,_,n,h=>by
  simp only[aG,VV.zero] at h n⊢;obtain⟨cs,e,h⟩:=h;exact⟨cs,e,bb.zero n h⟩
 |.vp c off,_,n,h=>by simp only[aG,VV.zero] at h n⊢;rw[aZ (oT n)];exact h
 |.bp c g q off es,_,n,h=>by simp only[aG,VV.zero] at h n⊢;rw[aZ (oT n)];exact h
 |.rp row off,_,_,h=>by simp only[aG] at h⊢;exact h
 |.bs c m es,_,n,h=>by simp only[aG,VV.zero] at h n⊢;rw[aZ (oT n)];exact h
 |.ac c m es,_,n,h=>by
  simp only[aG,VV.zero,m6] at h n⊢;rcases n with n|n
  ·rw[aZ (oT n)];exact h
  have:=cq n;exact h.imp id fun k=>by omega
 |.fn f dL,_,n,h=>by
  simp only[aG,VV.zero] at h n⊢;obtain⟨cs,e,h⟩:=h;exact⟨cs,e,bb.zero n h⟩
 |.k x,_,_,h=>by simp only[aG] at h⊢;exact h
 |.il,_,_,h=>by simp only[aG] at h⊢;exact h
 |.undef,_,_,_=>by simp only[aG]
theorem bb.zero{b f:Nat}:∀{l:List VV}{s:List al},vh b l=true→bb H X β l s→bb H X (fun c=>if c=b then f else β c) l s
 |[],_,_,h=>by simp only[bb] at h⊢;exact h
 |v::r,_,n,h=>by
  simp only[bb,vh,cS] at h n⊢;obtain⟨a,s,e,z,h2⟩:=h;exact⟨a,s,e,aG.zero n.1 z,bb.zero n.2 h2⟩
end
theorem dk.adf{b g f:Nat}:∀{s:BS},s.zero b=true→dk H X β f s→dk H X (fun c=>if c=b then g else β c) f s
 |.one _ _ _,z,⟨l,lo,cs,A,G,I,L⟩=>⟨l,lo,cs,A,G,I,bb.zero z L⟩
 |.arr _ _ _ _ _,_,h=>h
 |.acc _ _ _ _,_,h=>h
 |.c9 _ s,z,h=>⟨h.1,dk.adf (s:=s) z h.2⟩
theorem PT{b:Nat}:∀{VE:bo},vi b VE=true→∀{k:Nat}{v:VV},aL VE k=some v→v.zero b=true
 |[],_,_,_,h=>by cases h
 |(i,w)::r,z,k,v,h=>by
  simp only[vi,cS] at z;rw[dn] at h
  by_cases e:i=k
  ·rw[bh e] at h;cases h;exact z.1
  rw[aZ e] at h;exact PT z.2 h
theorem Zl{b:Nat}:∀{B:aT},tp b B=true→∀{c:Nat}{s:BS},aL B c=some s→s.zero b=true
 |[],_,_,_,h=>by cases h
 |(i,w)::r,z,c,s,h=>by
  simp only[tp,cS] at z;rw[dn] at h
  by_cases e:i=c
  ·rw[bh e] at h;cases h;exact z.1
  rw[aZ e] at h;exact Zl z.2 h
theorem Rel.ghost(h:Rel H0 X0 VE B E H β){b k:Nat}(elem aF es:Nat)(Y:aL VE k=some (.d .nil))(hB:aL B b=none):Rel H0 X0 ((k,.ac b 0 es)::VE) ((b,.acc elem aF es [])::B) E H β:=by
 have I:∀c s,aL ((b,BS.acc elem aF es [])::B) c=some s→s.born→aL B c=some s:=fun c s z ho=>by
  rw[dn] at z
  by_cases e:b=c
  ·rw[bh e] at z;cases z;exact absurd rfl ho
  rw[aZ e] at z;exact z
 have Z:∀f,XB X0 ((b,BS.acc elem aF es [])::B) β f→XB X0 B β f:=fun f L=>L.imp id fun⟨c,s,A,ho,h2⟩=>⟨c,s,I c s A ho,ho,h2⟩
 have M:e9 H (XB X0 B β) H (XB X0 ((b,BS.acc elem aF es [])::B) β):=⟨bq _,fun f _ L=>⟨fun k=>L (Z f k),rfl⟩⟩;refine⟨h.kY,h.aQ,h.x0,fun c s z ho=>h.new c s (I c s z ho) ho,fun c e s t z he O U=>h.inj c e s t (I c s z O) (I e t he U) O U,fun j w G=>?_,fun c s z=>?_⟩
 ·rw[dn] at G
  by_cases e:k=j.n
  ·rw[bh e] at G
   cases G
   obtain⟨a,A,h2⟩:=h.env j _ (e▸Y);simp only[aG,bH] at h2;exact⟨a,A,by simp only[aG];exact .inl ⟨trivial,h2⟩⟩
  rw[aZ e] at G;obtain⟨a,A,h2⟩:=h.env j w G;exact⟨a,A,h2.lift M⟩
 rw[dn] at z
 by_cases e:b=c
 ·rw[bh e] at z;cases z;exact .inl rfl
 rw[aZ e] at z;exact(h.box c s z).lift M rfl
theorem YP{b elem aF es:Nat}:∀c s,aL ((b,BS.acc elem aF es [])::B) c=some s→s.born→∃t,aL B c=some t∧t.born:=fun c s z ho=>by
 rw[dn] at z
 by_cases e:b=c
 ·rw[bh e] at z;cases z;exact absurd rfl ho
 rw[aZ e] at z;exact⟨s,z,ho⟩
theorem dh{c:IC}{R:Ex→bo→aT→Prop}(k b elem aF es:Nat)(z:aL VE k=some (.d .nil))(A:aL B b=none)(h:VC T c ((k,.ac b 0 es)::VE) ((b,.acc elem aF es [])::B) R):VC T c VE B R:=
 fun H0 X0 E H β G=>(h H0 X0 E H β (G.ghost elem aF es z A)).mono fun _ _ _ I=>I.more YP
def kB(H:aw)(X:Nat→Prop)(es:Nat):List (List al)→ak→Prop
 |[],[]=>True
 |l::ls,r::rs=>(l.length=es∧bU H X r l)∧kB H X es ls rs
 |_,_=>False
theorem kB.length{es:Nat}:∀{ls:List (List al)}{rs:ak},kB H X es ls rs→ls.length=rs.length
 |[],[],_=>rfl
 |l::ls,r::rs,h=>by simp only[kB] at h;simp[kB.length h.2]
 |[],_::_,h=>by simp[kB] at h
 |_::_,[],h=>by simp[kB] at h
theorem kB.get{es:Nat}:∀{ls:List (List al)}{rs:ak},kB H X es ls rs→∀{i:Nat}{r:List DC},rs[i]?=some r→∃l,ls[i]?=some l∧l.length=es∧bU H X r l
 |[],[],_,i,r,h=>by simp at h
 |l::ls,r::rs,z,i,x,h=>by
  simp only[kB] at z
  cases i with
  |zero=>simp at h;subst h;exact⟨l,rfl,z.1⟩
  |succ i=>simpa using kB.get z.2 (i:=i) (r:=x) (by simpa using h)
 |[],_::_,h,_,_,_=>by simp[kB] at h
 |_::_,[],h,_,_,_=>by simp[kB] at h
theorem dF.elems{f g es:Nat}(h0:0<es):∀{rows:ak}{q:Nat},dF H X f g es q rows→∃ls,elems H f g es rows.length (q*es)=some ls∧kB H X es ls rows
 |[],_,_=>⟨[],rfl,trivial⟩
 |row::r,q,h=>by
  simp only[dF] at h;obtain⟨⟨l,z,h2,A⟩,G⟩:=h;obtain⟨ls,I,L⟩:=dF.elems h0 G;refine⟨l::ls,?_,by simp only[kB];exact⟨⟨h2,A⟩,L⟩⟩;show rd H f g (q*es) es none (fun l=>ob (Ev.elems H f g es r.length (Nat.add (q*es) es)) none fun r=>some (l::r))=_;have:=My (k:=0) (n:=es) (e:=(none:Option (List (List al)))) (c:=fun l=>ob (Ev.elems H f g es r.length (Nat.add (q*es) es)) none fun r=>some (l::r)) z ah h0;rw[qD,h2] at this;rw[this,List.drop_zero,mq ah];rw[show Nat.add (q*es) es=(q+1)*es by rw[ku,A6];rfl,I];rfl
inductive YR(B:aT)(es:Nat):VV→ak→Prop
 |nil:YR B es (.d .nil) []
 |sl {rows:ak} (h:∀row,row∈rows→row.length=es):YR B es (.d (.sl rows)) rows
 |bs {b elem aF lo cV:Nat} {rows:ak} (h:aL B b=some (.arr elem aF es lo rows)):YR B es (.bs b rows.length cV) rows
 |ac {b elem aF cV:Nat} {rows:ak} (h:aL B b=some (.acc elem aF es rows)):YR B es (.ac b rows.length cV) rows
theorem YR.elems(O:Rel H0 X0 VE B E H β){es:Nat}{v:VV}{rows:ak}(Y:YR B es v rows)(h0:0<es){a:al}(A:aG H (XB X0 B β) β v a):
  (a= .fE∧rows=[])∨∃f g off e ls,a= .slice f g off rows.length e∧Ev.elems H f g es rows.length off=some ls∧kB H (XB X0 B β) es ls rows:=by
 cases Y with
 |nil=>simp only[aG,bH] at A;exact .inl ⟨A,rfl⟩
 |sl h=>
  simp only[aG,bH] at A;obtain⟨f,g,off,cV,rfl,A⟩:=A;refine .inr ⟨f,g,off,cV,?_⟩;rcases A with rfl|⟨_,_,q,ho,G⟩
  ·exact⟨[],rfl,rfl,trivial⟩
  cases rows with
  |nil=>exact⟨[],rfl,rfl,trivial⟩
  |cons row r=>
   have Z:cV=es:=by
    simp only[dF] at G;obtain⟨⟨l,_,h2,L⟩,_⟩:=G;rw[←h2,L.length,h row (gu ..)]
   subst Z;obtain⟨ls,z,h2⟩:=G.elems h0;exact⟨ls,rfl,by rw[ho];exact z,h2⟩
 | @bs b elem aF lo cV rows h=>
  simp only[aG] at A;subst A;have I:=O.box b _ h;refine .inr ⟨β b,rows.length,0,cV,?_⟩;have:dF H (XB X0 B β) (β b) rows.length es 0 rows:=dF.oS fun i row hi=>by
   have M:lo≤rows.length:=by obtain⟨_,_,_,_,h,_⟩:=I;exact h
   obtain⟨l,z,h2,L⟩:=I.cells (g:=rows.length) M (bq _) (List.getElem?_eq_some_iff.1 hi).1 hi;exact⟨l,by rw[fG];exact z,h2,L⟩
  obtain⟨ls,z,h2⟩:=this.elems h0;rw[tG] at z;exact⟨ls,rfl,z,h2⟩
 | @ac b elem aF cV rows h=>
  simp only[aG] at A;rcases A with⟨z,rfl⟩|⟨_,rfl⟩
  ·exact .inl ⟨rfl,List.length_eq_zero_iff.1 z⟩
  refine .inr ⟨β b,rows.length,0,cV,?_⟩;have I:=O.box b _ h;have:dF H (XB X0 B β) (β b) rows.length es 0 rows:=dF.oS fun i row hi=>by
   rcases I with rfl|⟨lo,cs,k1,k2,k3⟩
   ·simp at hi
   obtain⟨l,j1,U,j3⟩:=k3 i row hi;exact⟨l,⟨elem,aF,rows.length,lo,0,cs,by rw[U];exact k1,k2,bq _,by rw[fG];exact(List.getElem?_eq_some_iff.1 hi).1,by rw[fG];exact j1⟩,U,j3⟩
  obtain⟨ls,z,h2⟩:=this.elems h0;rw[tG] at z;exact⟨ls,rfl,z,h2⟩
theorem LN{call:dG}{elem es aF:Nat}{x y:aH}{a b:al}{n:Nat}{ls:List (List al)}(z:x.ev E=some a)(A:y.ev E=some b)
  (h:(b= .fE∧n=0∧ls=[])∨∃f g off e,b= .slice f g off n e∧Ev.elems H f g es n off=some ls):(bn.app elem es aF x y).ev call E H=iI elem es aF n ls H a:=by
 show bk x E (.err 26) (fun a=>bk y E (.err 26) fun b=>eR b (.err 26) (iI elem es aF 0 [] H a) fun f g off n _=>
  ob (Ev.elems H f g es n off) (.err 26) fun l=>iI elem es aF n l H a)=_
 rw[cL,z,cI]
 show bk y E (.err 26) (fun b=>eR b (.err 26) (iI elem es aF 0 [] H a) fun f g off n _=>
  ob (Ev.elems H f g es n off) (.err 26) fun l=>iI elem es aF n l H a)=_
 rw[cL,A,cI];rcases h with⟨rfl,rfl,rfl⟩|⟨f,g,off,e,rfl,h⟩
 ·rfl
 show ob (Ev.elems H f g es n off) (.err 26) (fun l=>iI elem es aF n l H a)=_;rw[h,cI]
theorem KA{ls:List (List al)}{cs:RT}{m q:Nat}:(fU ls cs m).get q=if m≤q∧q<m+ls.length then ls[q-m]?else cs.get q:=sX ls cs m q
theorem Rel.afA(h:Rel H0 X0 VE B E H β){b:Nat}(hE:vi b VE=true)(hB:tp b B=true)(hb:∀s,aL B b=some s→¬s.born)(hn:H'.next=H.next+1)(hs:∀f,f<H.next→H'.t.get f=H.t.get f)(hm:H'.aQ=H.aQ){s:BS}
  (Z:∀X β',(∀row l,bU H (XB X0 B β) row l→bU H' X row l)→dk H' X β' H.next s):
  ∃β',(β' b=H.next∧∀c,c≠b→β' c=β c)∧Rel H0 X0 VE ((b,s)::B) E H' β':=by
 let β':Nat→Nat:=fun c=>if c=b then H.next else β c
 have G:β' b=H.next:=bh rfl;have z:∀c,c≠b→β' c=β c:=fun c A=>aZ A
 have hg:∀c t,aL ((b,s)::B) c=some t→(c=b∧t=s)∨(c≠b∧aL B c=some t∧t.zero b=true):=fun c t A=>by
  rw[dn] at A
  by_cases e:b=c
  ·rw[bh e] at A;cases A;exact .inl ⟨e.symm,rfl⟩
  rw[aZ e] at A;exact .inr ⟨fun k=>e k.symm,A,Zl hB A⟩
 have hl:e9 H (XB X0 B β) H' (XB X0 ((b,s)::B) β'):=⟨ah,fun f hf hx=>⟨fun k=>by
  rcases k with k|⟨c,t,h1,ho,h2⟩
  ·exact hx (.inl k)
  rcases hg c t h1 with⟨rfl,rfl⟩|⟨A,M,_⟩
  ·rw[G] at h2;omega
  exact hx (.inr ⟨c,t,M,ho,by rw[←h2,z c A]⟩),hs f hf⟩⟩
 have A:∀row l,bU H (XB X0 B β) row l→bU H' (XB X0 ((b,s)::B) β') row l:=fun row l hr=>hr.lift hl
 refine⟨β',⟨G,z⟩,⟨(fun c A=>(z c fun e=>by rw[e,YO hB] at A;cases A).trans (h.kY c A)),by have:=h.aQ;omega,(fun f hf=>by have:=h.x0 f hf;omega),fun c t L O=>?_,fun c e t u L W8 O JW U=>?_,fun k v hk=>?_,fun c t L=>?_⟩⟩
 ·rcases hg c t L with⟨rfl,rfl⟩|⟨I,M,_⟩
  ·rw[G];exact⟨(fun hx=>by have:=h.x0 _ hx;omega),ah⟩
  rw[z c I];have:=h.new c t M O;exact⟨this.1,ah⟩
 ·rcases hg c t L with⟨rfl,rfl⟩|⟨I,M,_⟩<;>rcases hg e u W8 with⟨rfl,rfl⟩|⟨JX,h4,_⟩
  ·rfl
  ·rw[G,z e JX] at U;have:=h.new e u h4 JW;omega
  ·rw[G,z c I] at U;have:=h.new c t M O;omega
  rw[z c I,z e JX] at U;exact h.inj c e t u M h4 O JW U
 ·obtain⟨a,h1,h2⟩:=h.env k v hk;exact⟨a,h1,(aG.zero (PT hE hk) h2).lift hl⟩
 rcases hg c t L with⟨rfl,rfl⟩|⟨I,M,hno⟩
 ·rw[G];exact Z _ _ A
 rw[z c I];have ho:=h.box c t M;have Y:t.born→H'.t.get (β c)=H.t.get (β c):=fun ho=>hs _ (h.new c t M ho).2
 exact dk.HS (X:=XB X0 B β) hl Y (dk.adf hno ho)
theorem Zm{elem es aF n:Nat}{ls:List (List al)}(h:n*aF≤70368744177664):zZ elem es aF n ls H= .ok (.slice H.next n 0 n es) ⟨H.next+1,H.aQ,H.ws,H.t.set H.next (.row elem es aF n n 0 (fU ls .emp 0))⟩:=by
 unfold zZ;rw[show Nat.ble (Nat.mul n aF) 70368744177664=true from gF h,dV,zF,alloc_eq]
theorem Zn{elem es aF n f m lo:Nat}{ls:List (List al)}{cs:RT}(L:H.t.get f=some (.row elem es aF m lo 0 cs))(M:lo≤m)(h:(m+n)*aF≤70368744177664):
  Aa elem es aF n ls H f m 0 m es= .ok (.slice f (m+n) 0 (m+n) es) ⟨H.next,H.aQ,wrote f H.aQ H.ws,H.t.set f (.row elem es aF (m+n) lo 0 (fU ls cs m))⟩:=by
 show aD (Nat.beq m m) (Qz elem es aF n ls H f m 0 m es) (Rz es n ls H f m 0 m es)=_;rw[ia,dV]
 cases H with
 |mk next aQ ws t=>
  have L:t.get f=some (.row elem es aF m lo 0 cs):=L
  show iR (t.get f) (.err 33) (fun z A kR I lo fl cs=>
   aD (Nat.beq 0 0) (aD (Nat.beq m I) (aD (Nat.ble lo m) (aD (Nat.beq m I) (aD (Nat.beq es es) (aD (Nat.beq A es) (aD (Nat.beq fl 1) (aC.err 32)
   (aD (Nat.ble (Nat.mul (Nat.add I n) aF) 70368744177664) (aD (Nat.beq elem z)
    (ct (Nat.add I n) fun G=>ve ls cs I fun cs=>t.fh f (.row z A kR G lo fl cs) fun t=>
     .ok (.slice f G 0 G es) ⟨next,aQ,wrote f aQ ws,t⟩) (.err 32)) (.err 32))) (.err 32)) (.err 32)) (.err 32)) (.err 32)) (.err 32)) (.err 32))=_
  rw[L]
  show aD (Nat.beq 0 0) (aD (Nat.beq m m) (aD (Nat.ble lo m) (aD (Nat.beq m m) (aD (Nat.beq es es) (aD (Nat.beq es es) (aD (Nat.beq 0 1) (aC.err 32)
   (aD (Nat.ble (Nat.mul (Nat.add m n) aF) 70368744177664) (aD (Nat.beq elem elem)
    (ct (Nat.add m n) fun G=>ve ls cs m fun cs=>t.fh f (.row elem es aF G lo 0 cs) fun t=>
     .ok (.slice f G 0 G es) ⟨next,aQ,wrote f aQ ws,t⟩) (.err 32)) (.err 32))) (.err 32)) (.err 32)) (.err 32)) (.err 32)) (.err 32)) (.err 32)=_
  rw[show Nat.beq 0 0=true from rfl,dV,show Nat.beq m m=true from ia m,dV,gF M,dV,dV,show Nat.beq es es=true from ia es,dV,dV,
   show aD (Nat.beq 0 1) (aC.err 32) _=_ from rfl,show Nat.ble (Nat.mul (Nat.add m n) aF) 70368744177664=true from gF h,dV,show Nat.beq elem elem=true from ia elem,dV,fK,zF,GT.i4]
  rfl
theorem vi_appC{op:bn}{elem es aF:Nat}{x:aH}{b:Nat}{rows ys:ak}(hx:x.vv VE=some (.ac b rows.length es))(hb:aL B b=some (.acc elem aF es rows))
  (yW:∀{H0:Nat→Nat}{X0:Nat→Prop}{E:Env}{H:aw}{β:Nat→Nat},Rel H0 X0 VE B E H β→∃ls,kB H (XB X0 B β) es ls ys∧∀call a,x.ev E=some a→op.ev call E H=iI elem es aF ys.length ls H a)
  (G:(rows++ys).length*aF≤70368744177664) (hE:rows=[]→vi b VE=true) (hB:rows=[]→tp b B=true)
  (U:Q (.ac b (rows++ys).length es) ((b,.acc elem aF es (rows++ys))::B)):VI T op VE B [b] Q:=fun _ X0 _ H β O=>by
 obtain⟨a,h1,h2⟩:=O.bD hx;obtain⟨ls,L,z⟩:=yW O;have z:=fun call=>z call a h1
 have WJ:=L.length
 cases ys with
 |nil=>
  rw[Ny] at U;have Y:iI elem es aF 0 ls H a= .ok a H:=by
   simp only[aG] at h2;rcases h2 with⟨_,rfl⟩|⟨_,rfl⟩<;>rfl
  have I:∀k s,aL ((b,BS.acc elem aF es rows)::B) k=some s→aL B k=some s:=fun k s M=>by
   rw[dn] at M
   by_cases e:b=k
   ·rw[bh e] at M;cases M;exact e▸hb
   rw[aZ e] at M;exact M
  refine eO (fun call=>(z call).trans Y) ⟨_,_,β,gw.refl.Mz fun k s M ho=>⟨s,I k s M,ho⟩,O.MA (B':=(b,.acc elem aF es rows)::B) I,?_,U⟩;simp only[aG] at h2⊢;exact h2
 |cons y0 yr=>
  have hA:iI elem es aF (y0::yr).length ls H a=eR a (.err 34) (zZ elem es aF (y0::yr).length ls H) (Aa elem es aF (y0::yr).length ls H):=rfl;generalize Z:y0::yr=ys at*;have yu:0<ys.length:=by rw[←Z];simp
  cases rows with
  |nil=>
   have Y:a= .fE:=by
    simp only[aG,jF] at h2;rcases h2 with⟨_,h⟩|⟨h,_⟩
    ·exact h
    omega
   subst Y;rw[UQ] at U G;obtain⟨β',⟨hβ,U9⟩,sF⟩:=O.afA (b:=b) (s:=.acc elem aF es ys) (H':=⟨H.next+1,H.aQ,H.ws,H.t.set H.next (.row elem es aF ys.length ys.length 0 (fU ls .emp 0))⟩) (hE rfl) (hB rfl) (fun s hs ho=>by rw[hb] at hs;cases hs;exact ho rfl) rfl
    (fun f hf=>by show(H.t.set H.next _).get f=_;rw[GT.di,aZ ah]) rfl (fun X β' k=>.inr ⟨ys.length,fU ls .emp 0,by show(H.t.set H.next _).get H.next=_;rw[GT.di,bh rfl],bq _,fun i row hi=>by
     obtain⟨l,j1,j2,j3⟩:=L.get hi;refine⟨l,?_,j2,k _ _ j3⟩;rw[KA,bh ⟨gT _,by have:=(List.getElem?_eq_some_iff.1 hi).1;omega⟩,ID]
     exact j1⟩)
   refine eO (fun call=>(z call).trans (hA.trans (Zm G))) ⟨_,_,β',⟨rfl,A5 _,fun _ h=>.inl h,fun c t hc ht=>?_,fun f hf _=>by show(H.t.set H.next _).get f=_;rw[GT.di,aZ ah]⟩,sF,?_,U⟩
   ·rw[dn] at hc
    by_cases e:b=c
    ·subst e;exact .inr (by rw[hβ];exact bq _)
    rw[aZ e] at hc;exact .inl ⟨t,hc,ht,U9 c fun k=>e k.symm⟩
   simp only[aG,hβ];exact .inr ⟨yu,trivial⟩
  |cons r0 rr=>
   generalize A:r0::rr=rows at*;have fL:rows≠[]:=by rw[←A];simp
   have hrpos:0<rows.length:=by rw[←A];simp
   have Y:a= .slice (β b) rows.length 0 rows.length es:=by
    simp only[aG] at h2;rcases h2 with⟨h,_⟩|⟨_,h⟩
    ·omega
    exact h
   subst Y;rcases O.box b _ hb with h|⟨lo,cs,k1,k2,k3⟩
   ·exact absurd h fL
   rw[fA] at G;refine⟨0,_,_,fun lf n _ _=>(z _).trans (hA.trans (Zn k1 k2 G)),?_⟩;refine Fw (s':=.acc elem aF es (rows++ys)) O hb fL rfl (fun f hf=>?_) rfl rfl (fun X _ j2=>.inr ⟨lo,fU ls cs rows.length,?_,by rw[fA];omega,fun i row hi=>?_⟩) (fun X=>?_) U
   ·show(H.t.set (β b) _).get f=_;rw[GT.di,aZ hf]
   ·show(H.t.set (β b) _).get (β b)=_;rw[GT.di,bh rfl,fA]
   ·rw[KA];have wk:=(List.getElem?_eq_some_iff.1 hi).1;rw[fA] at wk
    by_cases e:rows.length≤i
    ·rw[bh ⟨e,ah⟩];rw[A7 e] at hi;obtain⟨l,j3,j4,j5⟩:=L.get hi;exact⟨l,j3,j4,j2 _ _ j5⟩
    rw[aZ (fun k=>e k.1)];rw[vz ah] at hi;obtain⟨l,j3,j4,j5⟩:=k3 i row hi;exact⟨l,j3,j4,j2 _ _ j5⟩
   simp only[aG];exact .inr ⟨by rw[fA];omega,by rw[fA]⟩
theorem aX{elem es aF:Nat}{x y:aH}{b:Nat}{rows ys:ak}{L:VV}(U:x.vv VE=some (.ac b rows.length es))(Y:aL B b=some (.acc elem aF es rows))(Z:y.vv VE=some L)(z:YR B es L ys)(h0:0<es)
  (A:(rows++ys).length*aF≤70368744177664) (hE:rows=[]→vi b VE=true) (hB:rows=[]→tp b B=true)
  (hq:Q (.ac b (rows++ys).length es) ((b,.acc elem aF es (rows++ys))::B)):VI T (.app elem es aF x y) VE B [b] Q:=vi_appC U Y (fun M=>by
 obtain⟨c,O,h4⟩:=M.bD Z;rcases z.elems M h0 h4 with⟨G,rfl⟩|⟨f,g,off,e,ls,G,k2,k3⟩
 ·exact⟨[],trivial,fun call a I=>LN I O (.inl ⟨G,rfl,rfl⟩)⟩
 exact⟨ls,k3,fun call a I=>LN I O (.inr ⟨f,g,off,e,G,k2⟩)⟩) A hE hB hq
end
section
variable{T:aN}{H0:Nat→Nat}{X0:Nat→Prop}{VE bF:bo}{B B':aT}{E:Env}{H H':aw}{β:Nat→Nat}{X:Nat→Prop}
variable{W:List Nat}{Q:VV→aT→Prop}
theorem aa2{x:aH}{b n es:Nat}(I:x.vv VE=some (.ac b n es))(A:Q (.d (.i .i64 n)) B):VI T (.len x) VE B [] Q:=fun _ _ _ _ _ z=>by
 obtain⟨_,G,h2⟩:=z.bD I;simp only[aG] at h2;rcases h2 with⟨rfl,rfl⟩|⟨_,rfl⟩
 ·exact Yx G (dy z (v:=.d (.i .i64 (0:Nat))) (by simp only[aG,bH];rfl) A)
 exact K0 G (dy z (v:=.d (.i .i64 n)) (by simp only[aG,bH]) A)
theorem cX{x i:aH}{es b n j:Nat}{k:IntKind}(G:x.vv VE=some (.ac b n es))(hi:i.vv VE=some (.d (.i k (j:Int))))(I:j<n)(L:Q (.bp b n j 0 es) B):VI T (.iE es x i) VE B [] Q:=fun _ _ _ _ _ z=>by
 obtain⟨_,M,h2⟩:=z.bD G;obtain⟨_,O,A⟩:=z.bD hi;simp only[aG] at h2 A;simp only[bH] at A;subst A;rcases h2 with⟨rfl,_⟩|⟨_,rfl⟩
 ·omega
 exact PO M O I (dy z (v:=.bp b n j 0 es) (by simp only[aG];rw[fG,qD]) L)
theorem dk.CT{f elem aF es:Nat}{rows:ak}(h:dk H X β f (.acc elem aF es rows)){q:Nat}{row:List DC}(z:rows[q]?=some row):∃l,lj H f rows.length q l∧l.length=es∧bU H X row l:=by
 have I:=(List.getElem?_eq_some_iff.1 z).1;rcases h with rfl|⟨A,cs,L,M,O⟩
 ·simp at z
 obtain⟨l,U,G,Y⟩:=O q row z;exact⟨l,⟨elem,aF,rows.length,A,0,cs,by rw[G];exact L,M,bq _,I,U⟩,G,Y⟩
theorem eX{a:aH}{b j o es elem aF:Nat}{rows:ak}{row:List DC}{x:DC}(G:a.vv VE=some (.bp b rows.length j o es))(I:aL B b=some (.acc elem aF es rows))(L:rows[j]?=some row)(M:row[o]?=some x)(O:Q (.d x) B):VI T (.load 1 false a) VE B [] Q:=fun _ _ _ _ _ z=>by
 obtain⟨_,U,A⟩:=z.bD G;simp only[aG] at A;subst A;obtain⟨l,Y,Z,k5⟩:=(z.box b _ I).CT L;obtain⟨y,k6,k7⟩:=k5.get M;exact Fv U Y (by rw[Z]) k6 (dy z (v:=.d x) (by simp only[aG];exact k7) O)
theorem Cn{a:aH}{b j o n es elem aF:Nat}{rows:ak}{row:List DC}(I:a.vv VE=some (.bp b rows.length j o es))(L:aL B b=some (.acc elem aF es rows))(M:rows[j]?=some row)(h0:0<n)(O:o+n≤row.length)(U:Q (.agg (((row.drop o).take n).map .d)) B):VI T (.load n true a) VE B [] Q:=fun _ _ _ _ _ z=>by
 obtain⟨_,Y,A⟩:=z.bD I;simp only[aG] at A;subst A;obtain⟨l,Z,k4,G⟩:=(z.box b _ L).CT M;exact Ky Y Z (by rw[k4]) (by rw[G.length];exact O) h0 (dy z (v:=.agg (((row.drop o).take n).map .d)) (by simp only[aG];exact⟨_,rfl,bb.sZ (G.KN o n)⟩) U)
def DC.cE(rows:ak):DC:=match rows with|[]=>.nil|x::r=>.sl (x::r)
theorem DC.ofAcc_ne{rows:ak}(h:rows≠[]):DC.cE rows= .sl rows:=by
 cases rows with
 |nil=>exact absurd rfl h
 |cons x r=>rfl
mutual
def VV.ph(b:Nat)(x:DC):VV→VV
 |.agg l=>.agg (MB b x l)
 |.ac c n es=>bif Nat.beq c b then .d x else .ac c n es
 |v=>v
def MB(b:Nat)(x:DC):List VV→List VV
 |[]=>[]
 |v::r=>v.ph b x::MB b x r
end
mutual
def VV.wx(b n es:Nat):VV→Prop
 |.agg l=>N0 b n es l
 |.ac c m e=>c=b→m=n∧e=es
 |.bs c _ _=>c≠b
 |_=>True
def N0(b n es:Nat):List VV→Prop
 |[]=>True
 |v::r=>v.wx b n es∧N0 b n es r
end
theorem Rel.ph(L:Rel H0 X0 VE B E H β){b elem aF es:Nat}{rows:ak}(O:aL B b=some (.acc elem aF es rows)){k:Nat}{v:VV}(hv:aL VE k=some v)(ho:v.wx b rows.length es):
  Rel H0 X0 ((k,v.ph b (.cE rows))::VE) (du B b) E H β:=by
 have U:=L.drop b;have G:∀c s,aL (du B b) c=some s→b≠c∧aL B c=some s:=fun c s z=>by
  rw[mL] at z
  by_cases e:b=c
  ·rw[bh e] at z;cases z
  rw[aZ e] at z;exact⟨e,z⟩
 have Y:rows≠[]→¬XB X0 (du B b) β (β b):=by
  rintro A(h|⟨c,s,z,Z,h2⟩)
  ·exact(L.new b _ O A).1 h
  exact(G c s z).1 (L.inj c b s _ (G c s z).2 O Z A h2).symm
 have hl:e9 H (XB X0 B β) H (XB X0 (du B b) β):=⟨bq _,fun f _ Y=>⟨fun k=>Y (k.imp id fun⟨c,s,z,h2⟩=>⟨c,s,(G c s z).2,h2⟩),rfl⟩⟩;have M:rows≠[]→bH H (XB X0 (du B b) β) (.sl rows) (.slice (β b) rows.length 0 rows.length es):=fun A=>by
  simp only[bH];refine⟨β b,rows.length,0,es,rfl,.inr ⟨Y A,(L.new b _ O A).2,0,by simp,dF.oS fun i row hi=>?_⟩⟩;obtain⟨l,z,h2,h3⟩:=(L.box b _ O).CT hi;exact⟨l,by rw[fG];exact z,h2,h3.lift hl⟩
 have main:(∀v:VV,v.wx b rows.length es→∀a,aG H (XB X0 (du B b) β) β v a→aG H (XB X0 (du B b) β) β (v.ph b (.cE rows)) a):=by
  intro v;refine VV.rec (motive_1:=fun v=>v.wx b rows.length es→∀a,aG H (XB X0 (du B b) β) β v a→aG H (XB X0 (du B b) β) β (v.ph b (.cE rows)) a)
   (motive_2:=fun l=>N0 b rows.length es l→∀s,bb H (XB X0 (du B b) β) β l s→bb H (XB X0 (du B b) β) β (MB b (.cE rows) l) s) ?_ ?_ ?_ ?_ ?_ ?_ ?_ ?_ ?_ ?_ ?_ ?_ ?_ ?_ v
  ·intro x _ a h;exact h
  ·intro l ih ho a h;simp only[aG,VV.ph,VV.wx] at h ho⊢;obtain⟨cs,e,h⟩:=h;exact⟨cs,e,ih ho cs h⟩
  ·intro l _ _ a h;exact h
  ·intro c o _ a h;exact h
  ·intro c g q o e _ a h;exact h
  ·intro row o _ a h;exact h
  ·intro c n e ho a h;exact h
  ·intro c n e ho a h;simp only[VV.ph,VV.wx] at h ho⊢
   by_cases I:c=b
   ·obtain⟨rfl,rfl⟩:=ho I;subst I;rw[show Nat.beq c c=true from ia c];simp only[aG] at h;show aG H _ β (.d (.cE rows)) _;simp only[aG];rcases h with⟨z,rfl⟩|⟨z,rfl⟩
    ·rw[List.length_eq_zero_iff.1 z];simp only[DC.cE,bH]
    have A:rows≠[]:=fun e=>by rw[e] at z;simp at z
    rw[DC.ofAcc_ne A];exact M A
   have:Nat.beq c b=false:=by
    cases hq:Nat.beq c b
    ·rfl
    exact absurd (cq hq) I
   rw[this];exact h
  ·intro f c _ _ a h;exact h
  ·intro x _ a h;exact h
  ·intro _ a h;exact h
  ·intro _ a h;exact h
  ·intro _ s h;exact h
  intro v r ih1 W9 ho s h;simp only[bb,MB,N0] at h ho⊢;obtain⟨a,s,e,z,h2⟩:=h;exact⟨a,s,e,ih1 ho.1 a z,W9 ho.2 s h2⟩
 refine{U with env:=fun c w I=>?_};rw[dn] at I
 by_cases e:k=c.n
 ·rw[bh e] at I
  cases I
  obtain⟨a,z,h2⟩:=U.env c v (e▸hv);exact⟨a,z,main v ho a h2⟩
 rw[aZ e] at I;exact U.env c w I
theorem eS{ops:List bl}{Q:bo→aT→Prop}(k b:Nat){v:VV}{elem aF es:Nat}{rows:ak}(z:aL VE k=some v)(A:aL B b=some (.acc elem aF es rows))(ho:v.wx b rows.length es)(h:VO T ops ((k,v.ph b (.cE rows))::VE) (du B b) Q):VO T ops VE B Q:=
 fun H0 X0 E H β G=>(h H0 X0 E H β (G.ph A z ho)).mono fun _ _ I=>I.more wS
theorem cf{c:IC}{R:Ex→bo→aT→Prop}(k b:Nat){v:VV}{elem aF es:Nat}{rows:ak}(z:aL VE k=some v)(A:aL B b=some (.acc elem aF es rows))(ho:v.wx b rows.length es)(h:VC T c ((k,v.ph b (.cE rows))::VE) (du B b) R):VC T c VE B R:=
 fun H0 X0 E H β G=>(h H0 X0 E H β (G.ph A z ho)).mono fun _ _ _ I=>I.more wS
theorem bb.data{row:List DC}{l:List VV}{s:List al}(h:im l=some row)(k:bb H X β l s):bU H X row s:=bU.F5 (β:=β) (aa0 h▸k)
theorem vi_mksl{elem es aF:Nat}{zero:List al}{z:List VV}{G:List DC}{x y:aH}{n:Nat}(b:Nat)(hE:nw b VE=true)(hB:lU b B=true)(hz:pY zero=some z)(I:im z=some G)(L:zero.length=es)(hx:x.vv VE=some (.d (.i .i64 (n:Int))))(hy:y.vv VE=some (.d (.i .i64 (n:Int))))
  (h1:n*aF≤70368744177664) (h2:n≤4611686018427387904) (hq:Q (.bs b n es) ((b,.arr elem aF es n (List.replicate n G))::B)):VI T (.vB elem es aF zero x y) VE B [] Q:=fun _ _ E H _ M=>by
 obtain⟨_,k1,Y⟩:=M.bD hx;obtain⟨_,k3,Z⟩:=M.bD hy;simp only[aG,bH] at Y Z;subst Y;subst Z;have O:∀call,(bn.vB elem es aF zero x y).ev call E H= .ok (.slice H.next n 0 n es) ⟨H.next+1,H.aQ,H.ws,H.t.set H.next (.row elem es aF n n 0 (nW zero n))⟩:=fun call=>by
  show bk x E (.err 22) (fun a=>ff a (.err 22) fun _ a=>gM a (.err 22) fun l=>bk y E (.err 22) fun b=>ff b (.err 22) fun _ b=>gM b (.err 22) fun c=>
   aD (Nat.ble l c) (aD (Nat.ble (Nat.mul c aF) 70368744177664) (aD (Nat.ble c 4611686018427387904)
    (Bc zero l fun cs=>H.alloc (.row elem es aF l l 0 cs) fun f H=>.ok (.slice f l 0 l es) H) (.err 22)) (.err 22)) (.err 22))=_
  rw[cL,k1,cI]
  show bk y E (.err 22) (fun b=>ff b (.err 22) fun _ b=>gM b (.err 22) fun c=>
   aD (Nat.ble n c) (aD (Nat.ble (Nat.mul c aF) 70368744177664) (aD (Nat.ble c 4611686018427387904)
    (Bc zero n fun cs=>H.alloc (.row elem es aF n n 0 cs) fun f H=>.ok (.slice f n 0 n es) H) (.err 22)) (.err 22)) (.err 22))=_
  rw[cL,k3,cI]
  show aD (Nat.ble n n) (aD (Nat.ble (Nat.mul n aF) 70368744177664) (aD (Nat.ble n 4611686018427387904)
    (Bc zero n fun cs=>H.alloc (.row elem es aF n n 0 cs) fun f H=>aC.ok (.slice f n 0 n es) H) (.err 22)) (.err 22)) (.err 22)=_
  rw[gF (bq n),dV,show Nat.ble (Nat.mul n aF) 70368744177664=true from gF h1,dV,gF h2,dV,KS,alloc_eq]
 refine eO O (Kz (b:=b) (s:=.arr elem aF es n (List.replicate n G)) M hE hB rfl (fun f hf=>by show(H.t.set H.next _).get f=_;rw[GT.di,aZ ah]) rfl rfl (fun X β' _ _=>?_) (fun X β' k=>by simp only[aG];rw[k]) hq);refine⟨n,nW zero n,by show(H.t.set H.next _).get H.next=_;rw[GT.di,bh rfl,vd],bq _,by rw[vd];exact bq _,fun q row A=>?_⟩;rw[afr] at A
 split at A
 ·rename_i U
  cases A
  exact⟨zero,by rw[Kv,bh U],L,(Fm (β:=β') hz).data I⟩
 cases A
def zy(VE:bo)(es z:Nat):List (Nat×aH)→ak→Option (ak)
 |[],rows=>some rows
 |p::r,rows=>(p.2.vv VE).bind fun v=>v.cells.bind fun new=>(im new).bind fun row=>bif Nat.beq row.length es&&Nat.ble (Nat.succ p.1) z then zy VE es z r (rows.set p.1 row) else none
theorem X7(O:Rel H0 X0 VE B E H β){es A:Nat}:∀{ps:List (Nat×aH)}{rows out:ak}{t:RT},(rows.length=A∧∀q row,rows[q]?=some row→∃l,t.get q=some l∧l.length=es∧bU H (XB X0 B β) row l)→zy VE es A ps rows=some out→
  ∃t',ru E es A ps t=some t'∧out.length=A∧∀q row,out[q]?=some row→∃l,t'.get q=some l∧l.length=es∧bU H (XB X0 B β) row l
 |[],rows,out,t,h,z=>by simp only[zy,eB] at z;subst z;exact⟨t,rfl,h⟩
 |p::r,rows,out,t,h,z=>by
  simp only[zy,Dk] at z;obtain⟨v,Y,new,Z,row,L,z⟩:=z;obtain⟨a,h1,h2⟩:=O.bD Y;obtain⟨s,h3,h4⟩:=h2.cells Z;have U:=h4.data L;have hl:s.length=row.length:=U.length
  cases G:(Nat.beq row.length es&&Nat.ble (Nat.succ p.1) A) with
  |false=>rw[G] at z;cases z
  |true=>
   rw[G] at z;simp only[cS] at G;have e1:=cq G.1;have e2:=aS G.2;have z:zy VE es A r (rows.set p.1 row)=some out:=z
   obtain⟨t',k1,k2⟩:=X7 O (t:=t.set p.1 s) ⟨by rw[kN];exact h.1,fun q M I=>by
    rw[RT.di];rw[Th] at I
    by_cases e:q=p.1
    ·subst e;rw[bh rfl] at I⊢;rw[bh (by rw[h.1];exact e2)] at I
     cases I
     exact⟨s,rfl,ah,U⟩
    rw[aZ (fun k=>e k.symm)] at I;rw[aZ e]
    exact h.2 q M I⟩ z
   refine⟨t',?_,k2⟩;show ob (p.2.ev E) none (fun v=>ob (iB v) none fun new=>aD (Nat.beq (gv new) es) (aD (Nat.ble (Nat.succ p.1) A) (ru E es A r (t.set p.1 new)) none) none)=some t';rw[h1,cI,h3,cI,oO,hl,G.1,dV,G.2,dV,k1]
theorem YQ{elem es aF G:Nat}{zero:List al}{z:List VV}{U:List DC}{ps:List (Nat×aH)}{rows:ak}(b:Nat)(Z:nw b VE=true)(hB:lU b B=true)(hz:pY zero=some z)(I:im z=some U)(L:zero.length=es)(hb:zy VE es G ps (List.replicate G U)=some rows)
  (hq:Q (.bs b G es) ((b,.arr elem aF es G rows)::B)):VI T (.s8 elem es aF G zero ps) VE B [] Q:=fun _ _ E H β Y=>by
 obtain⟨t,h1,h2,h3⟩:=X7 Y (t:=nW zero G) ⟨vd,fun q row A=>by
  rw[afr] at A
  split at A
  ·rename_i M
   cases A
   exact⟨zero,by rw[Kv,bh M],L,(Fm (β:=β) hz).data I⟩
  cases A⟩ hb
 have O:∀call,(bn.s8 elem es aF G zero ps).ev call E H= .ok (.slice H.next G 0 G es) ⟨H.next+1,H.aQ,H.ws,H.t.set H.next (.row elem es aF G G 0 t)⟩:=fun call=>by
  show ob (ru E es G ps (nW zero G)) (.err 24) (fun t=>H.alloc (.row elem es aF G G 0 t) fun f H=>.ok (.slice f G 0 G es) H)=_;rw[h1,cI,alloc_eq]
 refine eO O (Kz (b:=b) (s:=.arr elem aF es G rows) Y Z hB rfl (fun f hf=>by show(H.t.set H.next _).get f=_;rw[GT.di,aZ ah]) rfl rfl (fun X β' _ k2=>?_) (fun X β' k=>by simp only[aG];rw[k]) hq);refine⟨G,t,by show(H.t.set H.next _).get H.next=_;rw[GT.di,bh rfl,h2],bq _,ah,fun q row A=>?_⟩;obtain⟨l,j1,j2,j3⟩:=h3 q row A;exact⟨l,j1,j2,k2 _ _ j3⟩
end
end Go.Ev
