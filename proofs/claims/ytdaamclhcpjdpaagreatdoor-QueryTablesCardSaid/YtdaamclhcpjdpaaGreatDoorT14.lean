/- Part 14 of rules for walks through the code of a program, and of such walks; what each part proves is said by its theorems. -/
import Derived.Test.YtdaamclhcpjdpaaGreatDoorT13
set_option linter.unusedVariables false
set_option linter.unusedSimpArgs false
noncomputable section
set_option maxRecDepth 100000
set_option maxHeartbeats 4000000
namespace Go.Ev
mutual
def VV.zero(b:Nat):VV→Bool
 |.d _=>true
 |.agg l=>vq b l
 |.tuple l=>vq b l
 |.vp c _=>!Nat.beq c b
 |.bp c _ _ _ _=>!Nat.beq c b
 |.rp _ _=>true
 |.bs c _ _=>!Nat.beq c b
 |.ac c n _=>!Nat.beq c b||Nat.beq n 0
 |.fn _ eG=>vq b eG
 |.k _=>true
 |.iq=>true
 |.undef=>true
def vq(b:Nat):List VV→Bool
 |[]=>true
 |v::r=>v.zero b&&vq b r
end
def BS.zero(b:Nat):BS→Bool
 |.one _ _ row=>vq b row
 |.db _ s=>s.zero b
 |_=>true
def vt(b:Nat):bq→Bool
 |[]=>true
 |(_,v)::r=>v.zero b&&vt b r
def s8(b:Nat):aU→Bool
 |[]=>!jU b
 |(_,s)::r=>s.zero b&&s8 b r
theorem Ze{b:Nat}:∀{B:aU},s8 b B=true→jU b=false
 |[],h=>by simpa[s8] using h
 |(_,_)::r,h=>by
  simp only[s8,cU] at h;exact Ze h.2
section
variable{T:aO}{H0:Nat→Nat}{X0:Nat→Prop}{VE bH:bq}{B B':aU}{E:Env}{H H':ay}{β:Nat→Nat}{X:Nat→Prop}
variable{W:List Nat}{Q:VV→aU→Prop}
mutual
theorem aG.zero{b f:Nat}:∀{v:VV}{a:ak},v.zero b=true→aG H X β v a→aG H X (fun c=>if c=b then f else β c) v a
 |.d x,_,_,h=>by simp only[aG] at h⊢;exact h
 |.agg l,_,n,h=>by
  simp only[aG,VV.zero] at h n⊢;obtain⟨cs,e,h⟩:=h;exact⟨cs,e,aY.zero n h⟩
 |.tuple l,_,n,h=>by
  simp only[aG,VV.zero] at h n⊢;obtain⟨cs,e,h⟩:=h;exact⟨cs,e,aY.zero n h⟩
 |.vp c off,_,n,h=>by simp only[aG,VV.zero] at h n⊢;rw[aZ (oO n)];exact h
 |.bp c g q off es,_,n,h=>by simp only[aG,VV.zero] at h n⊢;rw[aZ (oO n)];exact h
 |.rp row off,_,_,h=>by simp only[aG] at h⊢;exact h
 |.bs c m es,_,n,h=>by simp only[aG,VV.zero] at h n⊢;rw[aZ (oO n)];exact h
 |.ac c m es,_,n,h=>by
  simp only[aG,VV.zero,m8] at h n⊢;rcases n with n|n
  ·rw[aZ (oO n)];exact h
  have:=cD n;exact h.imp id fun k=>by omega
 |.fn f eG,_,n,h=>by
  simp only[aG,VV.zero] at h n⊢;obtain⟨cs,e,h⟩:=h;exact⟨cs,e,aY.zero n h⟩
 |.k x,_,_,h=>by simp only[aG] at h⊢;exact h
 |.iq,_,_,h=>by simp only[aG] at h⊢;exact h
 |.undef,_,_,_=>by simp only[aG]
theorem aY.zero{b f:Nat}:∀{l:List VV}{s:List ak},vq b l=true→aY H X β l s→aY H X (fun c=>if c=b then f else β c) l s
 |[],_,_,h=>by simp only[aY] at h⊢;exact h
 |v::r,_,n,h=>by
  simp only[aY,vq,cU] at h n⊢;obtain⟨a,s,e,z,h2⟩:=h;exact⟨a,s,e,aG.zero n.1 z,aY.zero n.2 h2⟩
end
theorem dq.adD{b g f:Nat}:∀{s:BS},s.zero b=true→dq H X β f s→dq H X (fun c=>if c=b then g else β c) f s
 |.one _ _ _,z,⟨l,lo,cs,A,G,I,L⟩=>⟨l,lo,cs,A,G,I,aY.zero z L⟩
 |.arr _ _ _ _ _,_,h=>h
 |.acc _ _ _ _,_,h=>h
 |.db _ s,z,h=>⟨h.1,dq.adD (s:=s) z h.2⟩
theorem Qb{b:Nat}:∀{VE:bq},vt b VE=true→∀{k:Nat}{v:VV},aN VE k=some v→v.zero b=true
 |[],_,_,_,h=>by cases h
 |(i,w)::r,z,k,v,h=>by
  simp only[vt,cU] at z;rw[dr] at h
  by_cases e:i=k
  ·rw[bj e] at h;cases h;exact z.1
  rw[aZ e] at h;exact Qb z.2 h
theorem ZM{b:Nat}:∀{B:aU},s8 b B=true→∀{c:Nat}{s:BS},aN B c=some s→s.zero b=true
 |[],_,_,_,h=>by cases h
 |(i,w)::r,z,c,s,h=>by
  simp only[s8,cU] at z;rw[dr] at h
  by_cases e:i=c
  ·rw[bj e] at h;cases h;exact z.1
  rw[aZ e] at h;exact ZM z.2 h
theorem Rel.ghost(h:Rel H0 X0 VE B E H β){b k:Nat}(elem aE es:Nat)(Y:aN VE k=some (.d .nil))(hB:aN B b=none):Rel H0 X0 ((k,.ac b 0 es)::VE) ((b,.acc elem aE es [])::B) E H β:=by
 have I:∀c s,aN ((b,BS.acc elem aE es [])::B) c=some s→s.born→aN B c=some s:=fun c s z ho=>by
  rw[dr] at z
  by_cases e:b=c
  ·rw[bj e] at z;cases z;exact absurd rfl ho
  rw[aZ e] at z;exact z
 have Z:∀f,XB X0 ((b,BS.acc elem aE es [])::B) β f→XB X0 B β f:=fun f L=>L.imp id fun⟨c,s,A,ho,h2⟩=>⟨c,s,I c s A ho,ho,h2⟩
 have M:fc H (XB X0 B β) H (XB X0 ((b,BS.acc elem aE es [])::B) β):=⟨bt _,fun f _ L=>⟨fun k=>L (Z f k),rfl⟩⟩;refine⟨h.kY,h.aQ,h.x0,fun c s z ho=>h.new c s (I c s z ho) ho,fun c e s t z he O U=>h.inj c e s t (I c s z O) (I e t he U) O U,fun j w G=>?_,fun c s z=>?_⟩
 ·rw[dr] at G
  by_cases e:k=j.n
  ·rw[bj e] at G
   cases G
   obtain⟨a,A,h2⟩:=h.env j _ (e▸Y);simp only[aG,bK] at h2;exact⟨a,A,by simp only[aG];exact .inl ⟨trivial,h2⟩⟩
  rw[aZ e] at G;obtain⟨a,A,h2⟩:=h.env j w G;exact⟨a,A,h2.lift M⟩
 rw[dr] at z
 by_cases e:b=c
 ·rw[bj e] at z;cases z;exact .inl rfl
 rw[aZ e] at z;exact(h.box c s z).lift M rfl
theorem Zf{b elem aE es:Nat}:∀c s,aN ((b,BS.acc elem aE es [])::B) c=some s→s.born→∃t,aN B c=some t∧t.born:=fun c s z ho=>by
 rw[dr] at z
 by_cases e:b=c
 ·rw[bj e] at z;cases z;exact absurd rfl ho
 rw[aZ e] at z;exact⟨s,z,ho⟩
theorem de{c:IC}{R:Ex→bq→aU→Prop}(k b elem aE es:Nat)(z:aN VE k=some (.d .nil))(A:aN B b=none)(h:VC T c ((k,.ac b 0 es)::VE) ((b,.acc elem aE es [])::B) R):VC T c VE B R:=
 fun H0 X0 E H β G=>(h H0 X0 E H β (G.ghost elem aE es z A)).mono fun _ _ _ I=>I.more Zf
def kL(H:ay)(X:Nat→Prop)(es:Nat):List (List ak)→aj→Prop
 |[],[]=>True
 |l::ls,r::rs=>(l.length=es∧bZ H X r l)∧kL H X es ls rs
 |_,_=>False
theorem kL.length{es:Nat}:∀{ls:List (List ak)}{rs:aj},kL H X es ls rs→ls.length=rs.length
 |[],[],_=>rfl
 |l::ls,r::rs,h=>by simp only[kL] at h;simp[kL.length h.2]
 |[],_::_,h=>by simp[kL] at h
 |_::_,[],h=>by simp[kL] at h
theorem kL.get{es:Nat}:∀{ls:List (List ak)}{rs:aj},kL H X es ls rs→∀{i:Nat}{r:List DC},rs[i]?=some r→∃l,ls[i]?=some l∧l.length=es∧bZ H X r l
 |[],[],_,i,r,h=>by simp at h
 |l::ls,r::rs,z,i,x,h=>by
  simp only[kL] at z
  cases i with
  |zero=>simp at h;subst h;exact⟨l,rfl,z.1⟩
  |succ i=>simpa using kL.get z.2 (i:=i) (r:=x) (by simpa using h)
 |[],_::_,h,_,_,_=>by simp[kL] at h
 |_::_,[],h,_,_,_=>by simp[kL] at h
theorem dF.elems{f g es:Nat}(h0:0<es):∀{rows:aj}{q:Nat},dF H X f g es q rows→∃ls,elems H f g es rows.length (q*es)=some ls∧kL H X es ls rows
 |[],_,_=>⟨[],rfl,trivial⟩
 |row::r,q,h=>by
  simp only[dF] at h;obtain⟨⟨l,z,h2,A⟩,G⟩:=h;obtain⟨ls,I,L⟩:=dF.elems h0 G;refine⟨l::ls,?_,by simp only[kL];exact⟨⟨h2,A⟩,L⟩⟩;show rd H f g (q*es) es none (fun l=>ob (Ev.elems H f g es r.length (Nat.add (q*es) es)) none fun r=>some (l::r))=_;have:=MN (k:=0) (n:=es) (e:=(none:Option (List (List ak)))) (c:=fun l=>ob (Ev.elems H f g es r.length (Nat.add (q*es) es)) none fun r=>some (l::r)) z aq h0;rw[qv,h2] at this;rw[this,List.drop_zero,o5 aq];rw[show Nat.add (q*es) es=(q+1)*es by rw[kI,BF];rfl,I];rfl
inductive YR(B:aU)(es:Nat):VV→aj→Prop
 |nil:YR B es (.d .nil) []
 |sl {rows:aj} (h:∀row,row∈rows→row.length=es):YR B es (.d (.sl rows)) rows
 |bs {b elem aE lo cY:Nat} {rows:aj} (h:aN B b=some (.arr elem aE es lo rows)):YR B es (.bs b rows.length cY) rows
 |ac {b elem aE cY:Nat} {rows:aj} (h:aN B b=some (.acc elem aE es rows)):YR B es (.ac b rows.length cY) rows
theorem YR.elems(O:Rel H0 X0 VE B E H β){es:Nat}{v:VV}{rows:aj}(Y:YR B es v rows)(h0:0<es){a:ak}(A:aG H (XB X0 B β) β v a):
  (a= .fL∧rows=[])∨∃f g off e ls,a= .slice f g off rows.length e∧Ev.elems H f g es rows.length off=some ls∧kL H (XB X0 B β) es ls rows:=by
 cases Y with
 |nil=>simp only[aG,bK] at A;exact .inl ⟨A,rfl⟩
 |sl h=>
  simp only[aG,bK] at A;obtain⟨f,g,off,cY,rfl,A⟩:=A;refine .inr ⟨f,g,off,cY,?_⟩;rcases A with rfl|⟨_,_,q,ho,G⟩
  ·exact⟨[],rfl,rfl,trivial⟩
  cases rows with
  |nil=>exact⟨[],rfl,rfl,trivial⟩
  |cons row r=>
   have Z:cY=es:=by
    simp only[dF] at G;obtain⟨⟨l,_,h2,L⟩,_⟩:=G;rw[←h2,L.length,h row (iI ..)]
   subst Z;obtain⟨ls,z,h2⟩:=G.elems h0;exact⟨ls,rfl,by rw[ho];exact z,h2⟩
 | @bs b elem aE lo cY rows h=>
  simp only[aG] at A;subst A;have I:=O.box b _ h;refine .inr ⟨β b,rows.length,0,cY,?_⟩;have:dF H (XB X0 B β) (β b) rows.length es 0 rows:=dF.oN fun i row hi=>by
   have M:lo≤rows.length:=by obtain⟨_,_,_,_,h,_⟩:=I;exact h
   obtain⟨l,z,h2,L⟩:=I.cells (g:=rows.length) M (bt _) (List.getElem?_eq_some_iff.1 hi).1 hi;exact⟨l,by rw[fM];exact z,h2,L⟩
  obtain⟨ls,z,h2⟩:=this.elems h0;rw[tA] at z;exact⟨ls,rfl,z,h2⟩
 | @ac b elem aE cY rows h=>
  simp only[aG] at A;rcases A with⟨z,rfl⟩|⟨_,rfl⟩
  ·exact .inl ⟨rfl,List.length_eq_zero_iff.1 z⟩
  refine .inr ⟨β b,rows.length,0,cY,?_⟩;have I:=O.box b _ h;have:dF H (XB X0 B β) (β b) rows.length es 0 rows:=dF.oN fun i row hi=>by
   rcases I with rfl|⟨lo,cs,k1,k2,k3⟩
   ·simp at hi
   obtain⟨l,j1,U,j3⟩:=k3 i row hi;exact⟨l,⟨elem,aE,rows.length,lo,0,cs,by rw[U];exact k1,k2,bt _,by rw[fM];exact(List.getElem?_eq_some_iff.1 hi).1,by rw[fM];exact j1⟩,U,j3⟩
  obtain⟨ls,z,h2⟩:=this.elems h0;rw[tA] at z;exact⟨ls,rfl,z,h2⟩
theorem LU{call:dG}{elem es aE:Nat}{x y:aI}{a b:ak}{n:Nat}{ls:List (List ak)}(z:x.ev E=some a)(A:y.ev E=some b)
  (h:(b= .fL∧n=0∧ls=[])∨∃f g off e,b= .slice f g off n e∧Ev.elems H f g es n off=some ls):(bm.app elem es aE x y).ev call E H=iJ elem es aE n ls H a:=by
 show bo x E (.err 26) (fun a=>bo y E (.err 26) fun b=>eT b (.err 26) (iJ elem es aE 0 [] H a) fun f g off n _=>
  ob (Ev.elems H f g es n off) (.err 26) fun l=>iJ elem es aE n l H a)=_
 rw[cR,z,cS]
 show bo y E (.err 26) (fun b=>eT b (.err 26) (iJ elem es aE 0 [] H a) fun f g off n _=>
  ob (Ev.elems H f g es n off) (.err 26) fun l=>iJ elem es aE n l H a)=_
 rw[cR,A,cS];rcases h with⟨rfl,rfl,rfl⟩|⟨f,g,off,e,rfl,h⟩
 ·rfl
 show ob (Ev.elems H f g es n off) (.err 26) (fun l=>iJ elem es aE n l H a)=_;rw[h,cS]
theorem KG{ls:List (List ak)}{cs:RT}{m q:Nat}:(gb ls cs m).get q=if m≤q∧q<m+ls.length then ls[q-m]?else cs.get q:=sG ls cs m q
theorem Rel.afS(h:Rel H0 X0 VE B E H β){b:Nat}(hE:vt b VE=true)(hB:s8 b B=true)(hb:∀s,aN B b=some s→¬s.born)(hn:H'.next=H.next+1)(hs:∀f,f<H.next→H'.t.get f=H.t.get f)(hm:H'.aQ=H.aQ){s:BS}
  (Z:∀X β',(∀row l,bZ H (XB X0 B β) row l→bZ H' X row l)→dq H' X β' H.next s):
  ∃β',(β' b=H.next∧∀c,c≠b→β' c=β c)∧Rel H0 X0 VE ((b,s)::B) E H' β':=by
 let β':Nat→Nat:=fun c=>if c=b then H.next else β c
 have G:β' b=H.next:=bj rfl;have z:∀c,c≠b→β' c=β c:=fun c A=>aZ A
 have hg:∀c t,aN ((b,s)::B) c=some t→(c=b∧t=s)∨(c≠b∧aN B c=some t∧t.zero b=true):=fun c t A=>by
  rw[dr] at A
  by_cases e:b=c
  ·rw[bj e] at A;cases A;exact .inl ⟨e.symm,rfl⟩
  rw[aZ e] at A;exact .inr ⟨fun k=>e k.symm,A,ZM hB A⟩
 have hl:fc H (XB X0 B β) H' (XB X0 ((b,s)::B) β'):=⟨aq,fun f hf hx=>⟨fun k=>by
  rcases k with k|⟨c,t,h1,ho,h2⟩
  ·exact hx (.inl k)
  rcases hg c t h1 with⟨rfl,rfl⟩|⟨A,M,_⟩
  ·rw[G] at h2;omega
  exact hx (.inr ⟨c,t,M,ho,by rw[←h2,z c A]⟩),hs f hf⟩⟩
 have A:∀row l,bZ H (XB X0 B β) row l→bZ H' (XB X0 ((b,s)::B) β') row l:=fun row l hr=>hr.lift hl
 refine⟨β',⟨G,z⟩,⟨(fun c A=>(z c fun e=>by rw[e,Ze hB] at A;cases A).trans (h.kY c A)),by have:=h.aQ;omega,(fun f hf=>by have:=h.x0 f hf;omega),fun c t L O=>?_,fun c e t u L Xy O JZ U=>?_,fun k v hk=>?_,fun c t L=>?_⟩⟩
 ·rcases hg c t L with⟨rfl,rfl⟩|⟨I,M,_⟩
  ·rw[G];exact⟨(fun hx=>by have:=h.x0 _ hx;omega),aq⟩
  rw[z c I];have:=h.new c t M O;exact⟨this.1,aq⟩
 ·rcases hg c t L with⟨rfl,rfl⟩|⟨I,M,_⟩<;>rcases hg e u Xy with⟨rfl,rfl⟩|⟨J0,h4,_⟩
  ·rfl
  ·rw[G,z e J0] at U;have:=h.new e u h4 JZ;omega
  ·rw[G,z c I] at U;have:=h.new c t M O;omega
  rw[z c I,z e J0] at U;exact h.inj c e t u M h4 O JZ U
 ·obtain⟨a,h1,h2⟩:=h.env k v hk;exact⟨a,h1,(aG.zero (Qb hE hk) h2).lift hl⟩
 rcases hg c t L with⟨rfl,rfl⟩|⟨I,M,hno⟩
 ·rw[G];exact Z _ _ A
 rw[z c I];have ho:=h.box c t M;have Y:t.born→H'.t.get (β c)=H.t.get (β c):=fun ho=>hs _ (h.new c t M ho).2
 exact dq.H4 (X:=XB X0 B β) hl Y (dq.adD hno ho)
theorem ZN{elem es aE n:Nat}{ls:List (List ak)}(h:n*aE≤70368744177664):AI elem es aE n ls H= .ok (.slice H.next n 0 n es) ⟨H.next+1,H.aQ,H.ws,H.t.set H.next (.row elem es aE n n 0 (gb ls .emp 0))⟩:=by
 unfold AI;rw[show Nat.ble (Nat.mul n aE) 70368744177664=true from gW h,et,Ao,alloc_eq]
theorem ZO{elem es aE n f m lo:Nat}{ls:List (List ak)}{cs:RT}(L:H.t.get f=some (.row elem es aE m lo 0 cs))(M:lo≤m)(h:(m+n)*aE≤70368744177664):
  AJ elem es aE n ls H f m 0 m es= .ok (.slice f (m+n) 0 (m+n) es) ⟨H.next,H.aQ,wrote f H.aQ H.ws,H.t.set f (.row elem es aE (m+n) lo 0 (gb ls cs m))⟩:=by
 show aD (Nat.beq m m) (QP elem es aE n ls H f m 0 m es) (RR es n ls H f m 0 m es)=_;rw[ij,et]
 cases H with
 |mk next aQ ws t=>
  have L:t.get f=some (.row elem es aE m lo 0 cs):=L
  show iT (t.get f) (.err 33) (fun z A kT I lo fl cs=>
   aD (Nat.beq 0 0) (aD (Nat.beq m I) (aD (Nat.ble lo m) (aD (Nat.beq m I) (aD (Nat.beq es es) (aD (Nat.beq A es) (aD (Nat.beq fl 1) (aC.err 32)
   (aD (Nat.ble (Nat.mul (Nat.add I n) aE) 70368744177664) (aD (Nat.beq elem z)
    (cL (Nat.add I n) fun G=>vm ls cs I fun cs=>t.fr f (.row z A kT G lo fl cs) fun t=>
     .ok (.slice f G 0 G es) ⟨next,aQ,wrote f aQ ws,t⟩) (.err 32)) (.err 32))) (.err 32)) (.err 32)) (.err 32)) (.err 32)) (.err 32)) (.err 32))=_
  rw[L]
  show aD (Nat.beq 0 0) (aD (Nat.beq m m) (aD (Nat.ble lo m) (aD (Nat.beq m m) (aD (Nat.beq es es) (aD (Nat.beq es es) (aD (Nat.beq 0 1) (aC.err 32)
   (aD (Nat.ble (Nat.mul (Nat.add m n) aE) 70368744177664) (aD (Nat.beq elem elem)
    (cL (Nat.add m n) fun G=>vm ls cs m fun cs=>t.fr f (.row elem es aE G lo 0 cs) fun t=>
     .ok (.slice f G 0 G es) ⟨next,aQ,wrote f aQ ws,t⟩) (.err 32)) (.err 32))) (.err 32)) (.err 32)) (.err 32)) (.err 32)) (.err 32)) (.err 32)=_
  rw[show Nat.beq 0 0=true from rfl,et,show Nat.beq m m=true from ij m,et,gW M,et,et,show Nat.beq es es=true from ij es,et,et,
   show aD (Nat.beq 0 1) (aC.err 32) _=_ from rfl,show Nat.ble (Nat.mul (Nat.add m n) aE) 70368744177664=true from gW h,et,show Nat.beq elem elem=true from ij elem,et,fQ,Ao,GT.jc]
  rfl
theorem vi_appC{op:bm}{elem es aE:Nat}{x:aI}{b:Nat}{rows ys:aj}(hx:x.vv VE=some (.ac b rows.length es))(hb:aN B b=some (.acc elem aE es rows))
  (zG:∀{H0:Nat→Nat}{X0:Nat→Prop}{E:Env}{H:ay}{β:Nat→Nat},Rel H0 X0 VE B E H β→∃ls,kL H (XB X0 B β) es ls ys∧∀call a,x.ev E=some a→op.ev call E H=iJ elem es aE ys.length ls H a)
  (G:(rows++ys).length*aE≤70368744177664) (hE:rows=[]→vt b VE=true) (hB:rows=[]→s8 b B=true)
  (U:Q (.ac b (rows++ys).length es) ((b,.acc elem aE es (rows++ys))::B)):VI T op VE B [b] Q:=fun _ X0 _ H β O=>by
 obtain⟨a,h1,h2⟩:=O.bG hx;obtain⟨ls,L,z⟩:=zG O;have z:=fun call=>z call a h1
 have Xc:=L.length
 cases ys with
 |nil=>
  rw[NJ] at U;have Y:iJ elem es aE 0 ls H a= .ok a H:=by
   simp only[aG] at h2;rcases h2 with⟨_,rfl⟩|⟨_,rfl⟩<;>rfl
  have I:∀k s,aN ((b,BS.acc elem aE es rows)::B) k=some s→aN B k=some s:=fun k s M=>by
   rw[dr] at M
   by_cases e:b=k
   ·rw[bj e] at M;cases M;exact e▸hb
   rw[aZ e] at M;exact M
  refine eU (fun call=>(z call).trans Y) ⟨_,_,β,gA.refl.MO fun k s M ho=>⟨s,I k s M,ho⟩,O.MP (B':=(b,.acc elem aE es rows)::B) I,?_,U⟩;simp only[aG] at h2⊢;exact h2
 |cons y0 yr=>
  have hA:iJ elem es aE (y0::yr).length ls H a=eT a (.err 34) (AI elem es aE (y0::yr).length ls H) (AJ elem es aE (y0::yr).length ls H):=rfl;generalize Z:y0::yr=ys at*;have yU:0<ys.length:=by rw[←Z];simp
  cases rows with
  |nil=>
   have Y:a= .fL:=by
    simp only[aG,jP] at h2;rcases h2 with⟨_,h⟩|⟨h,_⟩
    ·exact h
    omega
   subst Y;rw[IM] at U G;obtain⟨β',⟨hβ,VK⟩,sh⟩:=O.afS (b:=b) (s:=.acc elem aE es ys) (H':=⟨H.next+1,H.aQ,H.ws,H.t.set H.next (.row elem es aE ys.length ys.length 0 (gb ls .emp 0))⟩) (hE rfl) (hB rfl) (fun s hs ho=>by rw[hb] at hs;cases hs;exact ho rfl) rfl
    (fun f hf=>by show(H.t.set H.next _).get f=_;rw[GT.dn,aZ aq]) rfl (fun X β' k=>.inr ⟨ys.length,gb ls .emp 0,by show(H.t.set H.next _).get H.next=_;rw[GT.dn,bj rfl],bt _,fun i row hi=>by
     obtain⟨l,j1,j2,j3⟩:=L.get hi;refine⟨l,?_,j2,k _ _ j3⟩;rw[KG,bj ⟨gX _,by have:=(List.getElem?_eq_some_iff.1 hi).1;omega⟩,IL]
     exact j1⟩)
   refine eU (fun call=>(z call).trans (hA.trans (ZN G))) ⟨_,_,β',⟨rfl,BE _,fun _ h=>.inl h,fun c t hc ht=>?_,fun f hf _=>by show(H.t.set H.next _).get f=_;rw[GT.dn,aZ aq]⟩,sh,?_,U⟩
   ·rw[dr] at hc
    by_cases e:b=c
    ·subst e;exact .inr (by rw[hβ];exact bt _)
    rw[aZ e] at hc;exact .inl ⟨t,hc,ht,VK c fun k=>e k.symm⟩
   simp only[aG,hβ];exact .inr ⟨yU,trivial⟩
  |cons r0 rr=>
   generalize A:r0::rr=rows at*;have fO:rows≠[]:=by rw[←A];simp
   have hrpos:0<rows.length:=by rw[←A];simp
   have Y:a= .slice (β b) rows.length 0 rows.length es:=by
    simp only[aG] at h2;rcases h2 with⟨h,_⟩|⟨_,h⟩
    ·omega
    exact h
   subst Y;rcases O.box b _ hb with h|⟨lo,cs,k1,k2,k3⟩
   ·exact absurd h fO
   rw[fv] at G;refine⟨0,_,_,fun lf n _ _=>(z _).trans (hA.trans (ZO k1 k2 G)),?_⟩;refine FM (s':=.acc elem aE es (rows++ys)) O hb fO rfl (fun f hf=>?_) rfl rfl (fun X _ j2=>.inr ⟨lo,gb ls cs rows.length,?_,by rw[fv];omega,fun i row hi=>?_⟩) (fun X=>?_) U
   ·show(H.t.set (β b) _).get f=_;rw[GT.dn,aZ hf]
   ·show(H.t.set (β b) _).get (β b)=_;rw[GT.dn,bj rfl,fv]
   ·rw[KG];have wH:=(List.getElem?_eq_some_iff.1 hi).1;rw[fv] at wH
    by_cases e:rows.length≤i
    ·rw[bj ⟨e,aq⟩];rw[vH e] at hi;obtain⟨l,j3,j4,j5⟩:=L.get hi;exact⟨l,j3,j4,j2 _ _ j5⟩
    rw[aZ (fun k=>e k.1)];rw[tB aq] at hi;obtain⟨l,j3,j4,j5⟩:=k3 i row hi;exact⟨l,j3,j4,j2 _ _ j5⟩
   simp only[aG];exact .inr ⟨by rw[fv];omega,by rw[fv]⟩
theorem aW{elem es aE:Nat}{x y:aI}{b:Nat}{rows ys:aj}{L:VV}(U:x.vv VE=some (.ac b rows.length es))(Y:aN B b=some (.acc elem aE es rows))(Z:y.vv VE=some L)(z:YR B es L ys)(h0:0<es)
  (A:(rows++ys).length*aE≤70368744177664) (hE:rows=[]→vt b VE=true) (hB:rows=[]→s8 b B=true)
  (hq:Q (.ac b (rows++ys).length es) ((b,.acc elem aE es (rows++ys))::B)):VI T (.app elem es aE x y) VE B [b] Q:=vi_appC U Y (fun M=>by
 obtain⟨c,O,h4⟩:=M.bG Z;rcases z.elems M h0 h4 with⟨G,rfl⟩|⟨f,g,off,e,ls,G,k2,k3⟩
 ·exact⟨[],trivial,fun call a I=>LU I O (.inl ⟨G,rfl,rfl⟩)⟩
 exact⟨ls,k3,fun call a I=>LU I O (.inr ⟨f,g,off,e,G,k2⟩)⟩) A hE hB hq
end
section
variable{T:aO}{H0:Nat→Nat}{X0:Nat→Prop}{VE bH:bq}{B B':aU}{E:Env}{H H':ay}{β:Nat→Nat}{X:Nat→Prop}
variable{W:List Nat}{Q:VV→aU→Prop}
theorem abn{x:aI}{b n es:Nat}(I:x.vv VE=some (.ac b n es))(A:Q (.d (.i .i64 n)) B):VI T (.len x) VE B [] Q:=fun _ _ _ _ _ z=>by
 obtain⟨_,G,h2⟩:=z.bG I;simp only[aG] at h2;rcases h2 with⟨rfl,rfl⟩|⟨_,rfl⟩
 ·exact YZ G (dC z (v:=.d (.i .i64 (0:Nat))) (by simp only[aG,bK];rfl) A)
 exact K7 G (dC z (v:=.d (.i .i64 n)) (by simp only[aG,bK]) A)
theorem di{x i:aI}{es b n j:Nat}{k:IntKind}(G:x.vv VE=some (.ac b n es))(hi:i.vv VE=some (.d (.i k (j:Int))))(I:j<n)(L:Q (.bp b n j 0 es) B):VI T (.gQ es x i) VE B [] Q:=fun _ _ _ _ _ z=>by
 obtain⟨_,M,h2⟩:=z.bG G;obtain⟨_,O,A⟩:=z.bG hi;simp only[aG] at h2 A;simp only[bK] at A;subst A;rcases h2 with⟨rfl,_⟩|⟨_,rfl⟩
 ·omega
 exact P8 M O I (dC z (v:=.bp b n j 0 es) (by simp only[aG];rw[fM,qv]) L)
theorem dq.Ds{f elem aE es:Nat}{rows:aj}(h:dq H X β f (.acc elem aE es rows)){q:Nat}{row:List DC}(z:rows[q]?=some row):∃l,lj H f rows.length q l∧l.length=es∧bZ H X row l:=by
 have I:=(List.getElem?_eq_some_iff.1 z).1;rcases h with rfl|⟨A,cs,L,M,O⟩
 ·simp at z
 obtain⟨l,U,G,Y⟩:=O q row z;exact⟨l,⟨elem,aE,rows.length,A,0,cs,by rw[G];exact L,M,bt _,I,U⟩,G,Y⟩
theorem fk{a:aI}{b j o es elem aE:Nat}{rows:aj}{row:List DC}{x:DC}(G:a.vv VE=some (.bp b rows.length j o es))(I:aN B b=some (.acc elem aE es rows))(L:rows[j]?=some row)(M:row[o]?=some x)(O:Q (.d x) B):VI T (.load 1 false a) VE B [] Q:=fun _ _ _ _ _ z=>by
 obtain⟨_,U,A⟩:=z.bG G;simp only[aG] at A;subst A;obtain⟨l,Y,Z,k5⟩:=(z.box b _ I).Ds L;obtain⟨y,k6,k7⟩:=k5.get M;exact FK U Y (by rw[Z]) k6 (dC z (v:=.d x) (by simp only[aG];exact k7) O)
theorem vi_loadAA{a:aI}{b j o n es elem aE:Nat}{rows:aj}{row:List DC}(I:a.vv VE=some (.bp b rows.length j o es))(L:aN B b=some (.acc elem aE es rows))(M:rows[j]?=some row)(h0:0<n)(O:o+n≤row.length)(U:Q (.agg (((row.drop o).take n).map .d)) B):VI T (.load n true a) VE B [] Q:=fun _ _ _ _ _ z=>by
 obtain⟨_,Y,A⟩:=z.bG I;simp only[aG] at A;subst A;obtain⟨l,Z,k4,G⟩:=(z.box b _ L).Ds M;exact KE Y Z (by rw[k4]) (by rw[G.length];exact O) h0 (dC z (v:=.agg (((row.drop o).take n).map .d)) (by simp only[aG];exact⟨_,rfl,aY.sI (G.KT o n)⟩) U)
def DC.cm(rows:aj):DC:=match rows with|[]=>.nil|x::r=>.sl (x::r)
theorem DC.ofAcc_ne{rows:aj}(h:rows≠[]):DC.cm rows= .sl rows:=by
 cases rows with
 |nil=>exact absurd rfl h
 |cons x r=>rfl
mutual
def VV.pd(b:Nat)(x:DC):VV→VV
 |.agg l=>.agg (MQ b x l)
 |.ac c n es=>bif Nat.beq c b then .d x else .ac c n es
 |v=>v
def MQ(b:Nat)(x:DC):List VV→List VV
 |[]=>[]
 |v::r=>v.pd b x::MQ b x r
end
mutual
def VV.wJ(b n es:Nat):VV→Prop
 |.agg l=>N' b n es l
 |.ac c m e=>c=b→m=n∧e=es
 |.bs c _ _=>c≠b
 |_=>True
def N'(b n es:Nat):List VV→Prop
 |[]=>True
 |v::r=>v.wJ b n es∧N' b n es r
end
theorem Rel.pd(L:Rel H0 X0 VE B E H β){b elem aE es:Nat}{rows:aj}(O:aN B b=some (.acc elem aE es rows)){k:Nat}{v:VV}(hv:aN VE k=some v)(ho:v.wJ b rows.length es):
  Rel H0 X0 ((k,v.pd b (.cm rows))::VE) (du B b) E H β:=by
 have U:=L.drop b;have G:∀c s,aN (du B b) c=some s→b≠c∧aN B c=some s:=fun c s z=>by
  rw[mN] at z
  by_cases e:b=c
  ·rw[bj e] at z;cases z
  rw[aZ e] at z;exact⟨e,z⟩
 have Y:rows≠[]→¬XB X0 (du B b) β (β b):=by
  rintro A(h|⟨c,s,z,Z,h2⟩)
  ·exact(L.new b _ O A).1 h
  exact(G c s z).1 (L.inj c b s _ (G c s z).2 O Z A h2).symm
 have hl:fc H (XB X0 B β) H (XB X0 (du B b) β):=⟨bt _,fun f _ Y=>⟨fun k=>Y (k.imp id fun⟨c,s,z,h2⟩=>⟨c,s,(G c s z).2,h2⟩),rfl⟩⟩;have M:rows≠[]→bK H (XB X0 (du B b) β) (.sl rows) (.slice (β b) rows.length 0 rows.length es):=fun A=>by
  simp only[bK];refine⟨β b,rows.length,0,es,rfl,.inr ⟨Y A,(L.new b _ O A).2,0,by simp,dF.oN fun i row hi=>?_⟩⟩;obtain⟨l,z,h2,h3⟩:=(L.box b _ O).Ds hi;exact⟨l,by rw[fM];exact z,h2,h3.lift hl⟩
 have main:(∀v:VV,v.wJ b rows.length es→∀a,aG H (XB X0 (du B b) β) β v a→aG H (XB X0 (du B b) β) β (v.pd b (.cm rows)) a):=by
  intro v;refine VV.rec (motive_1:=fun v=>v.wJ b rows.length es→∀a,aG H (XB X0 (du B b) β) β v a→aG H (XB X0 (du B b) β) β (v.pd b (.cm rows)) a)
   (motive_2:=fun l=>N' b rows.length es l→∀s,aY H (XB X0 (du B b) β) β l s→aY H (XB X0 (du B b) β) β (MQ b (.cm rows) l) s) ?_ ?_ ?_ ?_ ?_ ?_ ?_ ?_ ?_ ?_ ?_ ?_ ?_ ?_ v
  ·intro x _ a h;exact h
  ·intro l ih ho a h;simp only[aG,VV.pd,VV.wJ] at h ho⊢;obtain⟨cs,e,h⟩:=h;exact⟨cs,e,ih ho cs h⟩
  ·intro l _ _ a h;exact h
  ·intro c o _ a h;exact h
  ·intro c g q o e _ a h;exact h
  ·intro row o _ a h;exact h
  ·intro c n e ho a h;exact h
  ·intro c n e ho a h;simp only[VV.pd,VV.wJ] at h ho⊢
   by_cases I:c=b
   ·obtain⟨rfl,rfl⟩:=ho I;subst I;rw[show Nat.beq c c=true from ij c];simp only[aG] at h;show aG H _ β (.d (.cm rows)) _;simp only[aG];rcases h with⟨z,rfl⟩|⟨z,rfl⟩
    ·rw[List.length_eq_zero_iff.1 z];simp only[DC.cm,bK]
    have A:rows≠[]:=fun e=>by rw[e] at z;simp at z
    rw[DC.ofAcc_ne A];exact M A
   have:Nat.beq c b=false:=by
    cases hq:Nat.beq c b
    ·rfl
    exact absurd (cD hq) I
   rw[this];exact h
  ·intro f c _ _ a h;exact h
  ·intro x _ a h;exact h
  ·intro _ a h;exact h
  ·intro _ a h;exact h
  ·intro _ s h;exact h
  intro v r ih1 Xz ho s h;simp only[aY,MQ,N'] at h ho⊢;obtain⟨a,s,e,z,h2⟩:=h;exact⟨a,s,e,ih1 ho.1 a z,Xz ho.2 s h2⟩
 refine{U with env:=fun c w I=>?_};rw[dr] at I
 by_cases e:k=c.n
 ·rw[bj e] at I
  cases I
  obtain⟨a,z,h2⟩:=U.env c v (e▸hv);exact⟨a,z,main v ho a h2⟩
 rw[aZ e] at I;exact U.env c w I
theorem eK{ops:List bl}{Q:bq→aU→Prop}(k b:Nat){v:VV}{elem aE es:Nat}{rows:aj}(z:aN VE k=some v)(A:aN B b=some (.acc elem aE es rows))(ho:v.wJ b rows.length es)(h:VO T ops ((k,v.pd b (.cm rows))::VE) (du B b) Q):VO T ops VE B Q:=
 fun H0 X0 E H β G=>(h H0 X0 E H β (G.pd A z ho)).mono fun _ _ I=>I.more xf
theorem cl{c:IC}{R:Ex→bq→aU→Prop}(k b:Nat){v:VV}{elem aE es:Nat}{rows:aj}(z:aN VE k=some v)(A:aN B b=some (.acc elem aE es rows))(ho:v.wJ b rows.length es)(h:VC T c ((k,v.pd b (.cm rows))::VE) (du B b) R):VC T c VE B R:=
 fun H0 X0 E H β G=>(h H0 X0 E H β (G.pd A z ho)).mono fun _ _ _ I=>I.more xf
theorem aY.data{row:List DC}{l:List VV}{s:List ak}(h:iu l=some row)(k:aY H X β l s):bZ H X row s:=bZ.Gj (β:=β) (abl h▸k)
theorem vi_mksl{elem es aE:Nat}{zero:List ak}{z:List VV}{G:List DC}{x y:aI}{n:Nat}(b:Nat)(hE:nr b VE=true)(hB:lW b B=true)(hz:pR zero=some z)(I:iu z=some G)(L:zero.length=es)(hx:x.vv VE=some (.d (.i .i64 (n:Int))))(hy:y.vv VE=some (.d (.i .i64 (n:Int))))
  (h1:n*aE≤70368744177664) (h2:n≤4611686018427387904) (hq:Q (.bs b n es) ((b,.arr elem aE es n (List.replicate n G))::B)):VI T (.vJ elem es aE zero x y) VE B [] Q:=fun _ _ E H _ M=>by
 obtain⟨_,k1,Y⟩:=M.bG hx;obtain⟨_,k3,Z⟩:=M.bG hy;simp only[aG,bK] at Y Z;subst Y;subst Z;have O:∀call,(bm.vJ elem es aE zero x y).ev call E H= .ok (.slice H.next n 0 n es) ⟨H.next+1,H.aQ,H.ws,H.t.set H.next (.row elem es aE n n 0 (nR zero n))⟩:=fun call=>by
  show bo x E (.err 22) (fun a=>fq a (.err 22) fun _ a=>gR a (.err 22) fun l=>bo y E (.err 22) fun b=>fq b (.err 22) fun _ b=>gR b (.err 22) fun c=>
   aD (Nat.ble l c) (aD (Nat.ble (Nat.mul c aE) 70368744177664) (aD (Nat.ble c 4611686018427387904)
    (BL zero l fun cs=>H.alloc (.row elem es aE l l 0 cs) fun f H=>.ok (.slice f l 0 l es) H) (.err 22)) (.err 22)) (.err 22))=_
  rw[cR,k1,cS]
  show bo y E (.err 22) (fun b=>fq b (.err 22) fun _ b=>gR b (.err 22) fun c=>
   aD (Nat.ble n c) (aD (Nat.ble (Nat.mul c aE) 70368744177664) (aD (Nat.ble c 4611686018427387904)
    (BL zero n fun cs=>H.alloc (.row elem es aE n n 0 cs) fun f H=>.ok (.slice f n 0 n es) H) (.err 22)) (.err 22)) (.err 22))=_
  rw[cR,k3,cS]
  show aD (Nat.ble n n) (aD (Nat.ble (Nat.mul n aE) 70368744177664) (aD (Nat.ble n 4611686018427387904)
    (BL zero n fun cs=>H.alloc (.row elem es aE n n 0 cs) fun f H=>aC.ok (.slice f n 0 n es) H) (.err 22)) (.err 22)) (.err 22)=_
  rw[gW (bt n),et,show Nat.ble (Nat.mul n aE) 70368744177664=true from gW h1,et,gW h2,et,KY,alloc_eq]
 refine eU O (KF (b:=b) (s:=.arr elem aE es n (List.replicate n G)) M hE hB rfl (fun f hf=>by show(H.t.set H.next _).get f=_;rw[GT.dn,aZ aq]) rfl rfl (fun X β' _ _=>?_) (fun X β' k=>by simp only[aG];rw[k]) hq);refine⟨n,nR zero n,by show(H.t.set H.next _).get H.next=_;rw[GT.dn,bj rfl,vi],bt _,by rw[vi];exact bt _,fun q row A=>?_⟩;rw[afJ] at A
 split at A
 ·rename_i U
  cases A
  exact⟨zero,by rw[KB,bj U],L,(FE (β:=β') hz).data I⟩
 cases A
def Aj(VE:bq)(es z:Nat):List (Nat×aI)→aj→Option (aj)
 |[],rows=>some rows
 |p::r,rows=>(p.2.vv VE).bind fun v=>v.cells.bind fun new=>(iu new).bind fun row=>bif Nat.beq row.length es&&Nat.ble (Nat.succ p.1) z then Aj VE es z r (rows.set p.1 row) else none
theorem Yx(O:Rel H0 X0 VE B E H β){es A:Nat}:∀{ps:List (Nat×aI)}{rows out:aj}{t:RT},(rows.length=A∧∀q row,rows[q]?=some row→∃l,t.get q=some l∧l.length=es∧bZ H (XB X0 B β) row l)→Aj VE es A ps rows=some out→
  ∃t',rh E es A ps t=some t'∧out.length=A∧∀q row,out[q]?=some row→∃l,t'.get q=some l∧l.length=es∧bZ H (XB X0 B β) row l
 |[],rows,out,t,h,z=>by simp only[Aj,eA] at z;subst z;exact⟨t,rfl,h⟩
 |p::r,rows,out,t,h,z=>by
  simp only[Aj,DO] at z;obtain⟨v,Y,new,Z,row,L,z⟩:=z;obtain⟨a,h1,h2⟩:=O.bG Y;obtain⟨s,h3,h4⟩:=h2.cells Z;have U:=h4.data L;have hl:s.length=row.length:=U.length
  cases G:(Nat.beq row.length es&&Nat.ble (Nat.succ p.1) A) with
  |false=>rw[G] at z;cases z
  |true=>
   rw[G] at z;simp only[cU] at G;have e1:=cD G.1;have e2:=aV G.2;have z:Aj VE es A r (rows.set p.1 row)=some out:=z
   obtain⟨t',k1,k2⟩:=Yx O (t:=t.set p.1 s) ⟨by rw[mU];exact h.1,fun q M I=>by
    rw[RT.dn];rw[TL] at I
    by_cases e:q=p.1
    ·subst e;rw[bj rfl] at I⊢;rw[bj (by rw[h.1];exact e2)] at I
     cases I
     exact⟨s,rfl,aq,U⟩
    rw[aZ (fun k=>e k.symm)] at I;rw[aZ e]
    exact h.2 q M I⟩ z
   refine⟨t',?_,k2⟩;show ob (p.2.ev E) none (fun v=>ob (iD v) none fun new=>aD (Nat.beq (gz new) es) (aD (Nat.ble (Nat.succ p.1) A) (rh E es A r (t.set p.1 new)) none) none)=some t';rw[h1,cS,h3,cS,oL,hl,G.1,et,G.2,et,k1]
theorem Zg{elem es aE G:Nat}{zero:List ak}{z:List VV}{U:List DC}{ps:List (Nat×aI)}{rows:aj}(b:Nat)(Z:nr b VE=true)(hB:lW b B=true)(hz:pR zero=some z)(I:iu z=some U)(L:zero.length=es)(hb:Aj VE es G ps (List.replicate G U)=some rows)
  (hq:Q (.bs b G es) ((b,.arr elem aE es G rows)::B)):VI T (.sM elem es aE G zero ps) VE B [] Q:=fun _ _ E H β Y=>by
 obtain⟨t,h1,h2,h3⟩:=Yx Y (t:=nR zero G) ⟨vi,fun q row A=>by
  rw[afJ] at A
  split at A
  ·rename_i M
   cases A
   exact⟨zero,by rw[KB,bj M],L,(FE (β:=β) hz).data I⟩
  cases A⟩ hb
 have O:∀call,(bm.sM elem es aE G zero ps).ev call E H= .ok (.slice H.next G 0 G es) ⟨H.next+1,H.aQ,H.ws,H.t.set H.next (.row elem es aE G G 0 t)⟩:=fun call=>by
  show ob (rh E es G ps (nR zero G)) (.err 24) (fun t=>H.alloc (.row elem es aE G G 0 t) fun f H=>.ok (.slice f G 0 G es) H)=_;rw[h1,cS,alloc_eq]
 refine eU O (KF (b:=b) (s:=.arr elem aE es G rows) Y Z hB rfl (fun f hf=>by show(H.t.set H.next _).get f=_;rw[GT.dn,aZ aq]) rfl rfl (fun X β' _ k2=>?_) (fun X β' k=>by simp only[aG];rw[k]) hq);refine⟨G,t,by show(H.t.set H.next _).get H.next=_;rw[GT.dn,bj rfl,h2],bt _,aq,fun q row A=>?_⟩;obtain⟨l,j1,j2,j3⟩:=h3 q row A;exact⟨l,j1,j2,k2 _ _ j3⟩
end
end Go.Ev
