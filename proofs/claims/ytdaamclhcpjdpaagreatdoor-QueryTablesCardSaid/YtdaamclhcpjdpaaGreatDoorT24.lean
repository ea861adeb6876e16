/- Part 24 of rules for walks through the code of a program, and of such walks; what each part proves is said by its theorems. -/
import Derived.Test.YtdaamclhcpjdpaaGreatDoorT20
import Derived.Test.YtdaamclhcpjdpaaGreatDoorT21
import Derived.Test.YtdaamclhcpjdpaaGreatDoorT22
import Derived.Test.YtdaamclhcpjdpaaGreatDoorT23
set_option linter.unusedVariables false
set_option linter.unusedSimpArgs false
noncomputable section
set_option maxRecDepth 100000
set_option maxHeartbeats 4000000
namespace Go.Ev.Rp
open Go Go.Ev.Pp
attribute [local irreducible] VC VO VQ VI Sound cF
theorem af7{wc w w':aj}{v k:Int}{r:List DC}{j:Nat}{n c:DC}(h:w'=(wc.take v.toNat).map (mJ w))(h0:0≤v)(z:wc[v.toNat]?=some [.i .i64 k,n,c])(A:1≤k)(h2:k≤w.length)(G:w[j]?=some r)(e:(j:Int)=k-1):w'++[r]=(wc.take (v+1).toNat).map (mJ w):=by
 rw[AO h0 z,lK,←h,TQ];have:mJ w [.i .i64 k,n,c]=r:=by
  simp only[mJ];rw[bj ⟨A,h2⟩,show(k-1).toNat=j by omega,G];rfl
 rw[this]
theorem af8{wc w w':aj}{v k:Int}{n c:DC}(h:w'=(wc.take v.toNat).map (mJ w))(h0:0≤v)(z:wc[v.toNat]?=some [.i .i64 k,n,c])(A:¬(1≤k∧k≤w.length)):w'++[[.i .i64 0,.i .i64 0,.s 0 0]]=(wc.take (v+1).toNat).map (mJ w):=by
 rw[AO h0 z,lK,←h,TQ];have:mJ w [.i .i64 k,n,c]=[.i .i64 0,.i .i64 0,.s 0 0]:=by
  simp only[mJ];rw[aZ A]
 rw[this]
theorem prj_A{wc w w':aj}{v:Int}(h:w'=(wc.take v.toNat).map (mJ w))(z:(wc.length:Int)≤v):w'=J6 wc w:=by rwa [o5 aq] at h
def gC(t:Int)(r:List DC):Prop:=∃i v a b c d,r=[i,v,.i .i64 a,.i .i64 b,.i .i64 c,.i .i64 d]∧(0≤a∧a<b∧b≤1000000)∧(0≤c∧c<d∧d≤1099511627776)∧c≤t∧t<d
theorem gC.no{t a b c d:Int}{i v:DC}(h:¬((0≤a∧a<b∧b≤1000000)∧(0≤c∧c<d∧d≤1099511627776)∧c≤t∧t<d)):¬gC t [i,v,.i .i64 a,.i .i64 b,.i .i64 c,.i .i64 d]:=by
 rintro⟨_,_,_,_,_,_,e,k⟩
 cases e
 exact h k
theorem gC.mk{t a b c d:Int}{i v:DC}(h:(0≤a∧a<b∧b≤1000000)∧(0≤c∧c<d∧d≤1099511627776)∧c≤t∧t<d):gC t [i,v,.i .i64 a,.i .i64 b,.i .i64 c,.i .i64 d]:=⟨_,_,_,_,_,_,rfl,h⟩
def kV(r y:List DC):Prop:=∃i v a b c d w x l,r=[i,v,a,b,c,d]∧y=[x,a,b,l]∧ao w v∧ao w x∧ao [[i]] l
theorem kV.mk{i v a b c d x l:DC}{w w':aj}(h:ao w v)(k:ao w' x)(e:w'=w)(z:ao [[i]] l):kV [i,v,a,b,c,d] [x,a,b,l]:=⟨_,_,_,_,_,_,w,_,_,rfl,rfl,h,e▸k,z⟩
def zP(t:Int)(r y:List DC):Prop:=∃n k v x w z,r=[n,k,v]∧y=[n,k,x]∧ao w v∧ao z x∧bU (gC t) kV w z
theorem zP.mk{t:Int}{n k v x:DC}{w z:aj}(h:ao w v)(h':ao z x)(A:bU (gC t) kV w z):zP t [n,k,v] [n,k,x]:=⟨_,_,_,_,_,_,rfl,rfl,h,h',A⟩
def pG(wc:aj)(r y:List DC):Prop:=∃i v x rest w,r=i::v::rest∧y=i::x::rest∧ao w v∧ao (J6 wc w) x
theorem pG.mk{wc w w':aj}{i v x:DC}{rest:List DC}(h:ao w v)(k:ao w' x)(e:w'=J6 wc w):pG wc (i::v::rest) (i::x::rest):=⟨_,_,_,_,w,rfl,rfl,h,e▸k⟩
def sm(t:Int)(r h:List DC):Prop:=∃n d a b c v k x w wc z A,r=[n,d,a,b,c,v]∧h=[n,k,x]∧ao w d∧js t w wc∧ao (wc.map BW) k∧ao z v∧ao A x∧fB (pG wc) z A
theorem sm.mk{t:Int}{n d a b c v k x:DC}{w wc z A:aj}(G:ao w d)(I:fV w t)(h:fV w t→js t w wc)(L:eJ t [n,d,a,b,c] [n,k])(M:ao z v)(h2:ao A x)(O:fB (pG wc) z A):sm t [n,d,a,b,c,v] [n,k,x]:=by
 obtain⟨_,_,_,w',U,_,e,Y,Z,e3,e4⟩:=L
 cases e;cases e3
 obtain rfl:=ao.inj G Y;obtain rfl:=(h I).inj Z;exact⟨_,_,_,_,_,_,_,_,_,_,_,_,aa,aa,G,h I,e4,M,h2,O⟩
theorem bU.mono{K L:List DC→Prop}{R S:List DC→List DC→Prop}:∀{w a:aj},bU K R w a→(∀r,K r↔L r)→(∀r x,R r x→S r x)→bU L S w a
 |[],a,h,_,_=>h
 |r::w,a,h,z,A=>by
  rcases h with⟨k,x,t,rfl,q,h⟩|⟨k,h⟩
  ·exact .inl ⟨(z r).1 k,x,t,aa,A _ _ q,bU.mono h z A⟩
  exact .inr ⟨fun e=>k ((z r).2 e),bU.mono h z A⟩
theorem bU.at{K:List DC→Prop}{R S:List DC→List DC→Prop}:∀{k:Nat}{w a b:aj}{r:List DC},bU K R w a→bU K S (w.take k) b→w[k]?=some r→K r→∃x,a[b.length]?=some x∧R r x
 |k,[],a,b,r,h,g,z,A=>by simp at z
 |0,s::w,a,b,r,h,g,z,A=>by
  cases z
  cases (g:b=[])
  rcases h with⟨_,x,t,rfl,L,_⟩|⟨M,_⟩
  ·exact⟨x,aa,L⟩
  exact absurd A M
 |k+1,s::w,a,b,r,h,g,z,A=>by
  rw[vh] at g;rcases h with⟨G,x,t,rfl,L,h⟩|⟨G,h⟩<;>rcases g with⟨I,y,u,rfl,O,g⟩|⟨I,g⟩
  ·have e:=bU.at h g (by simpa using z) A;exact e
  ·exact absurd G I
  ·exact absurd I G
  exact bU.at h g (by simpa using z) A
theorem ProjE{T:aO}(F:FT T){a0 a1 a2 a3:DC}(cC:tJ.ok a0)(bX:tJ.ok a1){G:aj}(Z:ao G a2)(cX:G.length≤13)(bS:af gB G){Y:aj}(ez:ao Y a3)(fe:Y.length≤1000000000)(dQ:af cn Y):Sound T 68 [.agg [.d a0,.d a1,.d a2],.d a3] fun r=>∃y0 U,r= .d y0∧ao U y0∧(U.length:Int)≤13∧af cn U∧0≤(U.length:Int)∧(U=[]→y0= .nil)∧(U=J6 G Y):=by
 refine bg F.q68 aa ?_;rcases cC,bX with⟨⟨aK,rfl,gZ,hD⟩,⟨aH,rfl,ey,dW⟩⟩
 refine r0 15 aa (de 5 90 121 32 3 aa aa (bd [4,2,1,0] [2] aa aa (fun e0 b0 k VE B=>∃z A,an ((5,.ac 90 A.length 3)::(6,.d (dJ z))::e0) VE∧an ((90,.acc 121 32 3 A)::b0) B∧k=((G.length:Int) -z).toNat∧(0≤z∧(z≤(G.length:Int)∨z=0))∧((A.length:Int)≤z)∧(af cn A)∧(A=(G.take z.toNat).map (mJ Y))) ?_ fin));rintro _ VE B⟨z,A,hV,hB,rfl,bR,cM,I,hH⟩;refine aS _ _ hV hB (aB 6 aa (aM aa Z ?_));refine ro 2 aa ?_;refine ax aa ?_ ?_<;>intro g1
 ·refine rc 8 aa ?_;obtain⟨_,⟨ml,rfl,mT,nM⟩,ff,iW,fg,fT,bM⟩:=qI z bS;refine aw (aF aa aa Z ae bM aa ?_);refine ro 6 aa (rp 3 aa ?_);refine bk aa ?_ ?_<;>intro g3
  ·refine ro 2 aa (bw aa aa (aM aa ez ?_));refine ro 3 aa ?_;refine ax aa ?_ ?_<;>intro g4
   ·refine aB 4 aa (dO aa aa ae ae ?_);obtain⟨_,⟨L,rfl,xv,xw⟩,_,⟨M,rfl,Dv,Dw⟩,_,⟨O,rfl,adS⟩,eQ⟩:=qI (ml-1) dQ;refine aw (aF aa aa ez ae eQ aa ?_);refine ro 2 aa ?_;refine aw (aW (rows:=A) (ys:=[[(dJ L),(dJ M),(al O)]]) rfl rfl rfl (.bs (rows:=[[(dJ L),(dJ M),(al O)]]) rfl) au ae (fun h=>by rw[h];rfl) (fun h=>by rw[h];rfl) ?_);refine aJ 4 aa (bB aa aa ae ae ?_);refine cA 2 aa ?_;exact⟨((G.length:Int) -((z+1))).toNat,ae,(z+1),(A++[[(dJ L),(dJ M),(al O)]]),⟨rfl,rfl,rfl,rfl,rfl,rfl,trivial⟩,⟨rfl,rfl,trivial⟩,rfl,ae,cE,(df I (c9 (ah ai (ah ai (ah (bC aq) bf))))),(by first|rfl|exact af7 (by assumption) ae (by assumption) ae ae (by assumption) ae|exact af8 (by assumption) ae (by assumption) ae|assumption)⟩
   refine rc 4 aa ?_;refine aw (aW (rows:=A) (ys:=[[i0,i0,(al [])]]) rfl rfl rfl (.bs (rows:=[[i0,i0,(al [])]]) rfl) au ae (fun h=>by rw[h];rfl) (fun h=>by rw[h];rfl) ?_);refine aJ 4 aa (bB aa aa ae ae ?_);refine cA 2 aa ?_;exact⟨((G.length:Int) -((z+1))).toNat,ae,(z+1),(A++[[i0,i0,(al [])]]),⟨rfl,rfl,rfl,rfl,rfl,rfl,trivial⟩,⟨rfl,rfl,trivial⟩,rfl,ae,cE,(df I (c9 (ah ai (ah ai (ah (bC (s:=[]) au) bf))))),(by first|rfl|exact af7 (by assumption) ae (by assumption) ae ae (by assumption) ae|exact af8 (by assumption) ae (by assumption) ae|assumption)⟩
  refine ro 6 aa (dc aa aa (rc 4 aa ?_));refine aw (aW (rows:=A) (ys:=[[i0,i0,(al [])]]) rfl rfl rfl (.bs (rows:=[[i0,i0,(al [])]]) rfl) au ae (fun h=>by rw[h];rfl) (fun h=>by rw[h];rfl) ?_);exact W
 refine rc 6 aa (cl 4 90 aa aa (fun _=>⟨aa,aa⟩) (dH 1 aa ?_));exact bD rfl rfl ⟨(.cm A),A,rfl,(.acc _),ae,I,ae,(fun h=>by rw[h];rfl),(prj_A dz ae)⟩
theorem vdaysE{T:aO}(F:FT T){aK:Int}(I:(-9223372036854775808)≤aK)(L:aK≤9223372036854775807){aH:Int}(M:(-9223372036854775808)≤aH)(O:aH≤9223372036854775807):Sound T 143 [.agg [.d (dJ aK),.d (dJ aH)]] fun r=>∃A,r=dB A∧(A=true↔(0≤aK∧aK<aH∧aH≤1000000)):=by
 refine bg F.aiP aa (cf 8 aa (aA aa (Sb (aK:=aK) (aH:=aH) F ae ae ae ae) ?_));rintro _ _⟨G,rfl,z⟩;refine ro 1 aa ?_;refine bk aa ?_ ?_<;>intro h2
 ·have U:=z.1 (by simpa using h2);exact dR 7 aa (bD aa aa ⟨decide (aH≤1000000),aa,rP⟩)
 have U:¬_:=fun p=>absurd (z.2 p) (by simpa using h2)
 exact dR 7 aa (bD aa aa ⟨false,aa,rP⟩)
theorem usableE{T:aO}(F:FT T){I L:DC}(U:(Ty.x).ok I)(Y:(Ty.x).ok L){bA:Int}(Z:(-9223372036854775808)≤bA)(nw:bA≤9223372036854775807){bn:Int}(jG:(-9223372036854775808)≤bn)(jH:bn≤9223372036854775807){bT:Int}(oE:(-9223372036854775808)≤bT)(oF:bT≤9223372036854775807){bO:Int}(nx:(-9223372036854775808)≤bO)(ny:bO≤9223372036854775807):Sound T 124 [.agg [.d I,.d L,.d (dJ bA),.d (dJ bn),.d (dJ bT),.d (dJ bO)]] fun r=>∃M,r=dB M∧(M=true↔(0≤bA∧bA<bn∧bn≤1000000)∧(0≤bT∧bT<bO∧bO≤1099511627776)):=by
 refine bg F.aiM aa (cf 9 aa (aA aa (vdaysE (aK:=bA) (aH:=bn) F ae ae ae ae) ?_));rintro _ _⟨O,rfl,z⟩;refine ro 1 aa ?_;refine bk aa ?_ ?_<;>intro h2
 ·have k2:=z.1 (by simpa using h2);refine ro 2 aa (bw aa aa (aA aa (Sb (aK:=bT) (aH:=bO) F ae ae ae ae) ?_));rintro _ _⟨A,rfl,G⟩;exact dR 4 aa (bD aa aa ⟨A,aa,rP⟩)
 have k2:¬_:=fun p=>absurd (z.2 p) (by simpa using h2)
 exact dR 7 aa (bD aa aa ⟨false,aa,rP⟩)
theorem AsOfE{T:aO}(F:FT T){a0:DC}{I:aj}(cg:ao I a0)(cI:I.length≤4096)(bJ:af fC I){aH:Int}(jE:(-9223372036854775808)≤aH)(jF:aH≤9223372036854775807):Sound T 64 [.d a0,.d (dJ aH)] fun r=>∃y0 U,r= .d y0∧ao U y0∧(U.length:Int)≤4096∧af fI U∧0≤(U.length:Int)∧(U=[]→y0= .nil)∧(bU (gC aH) kV I U):=by
 refine bg F.q64 aa (cf 12 aa (aM aa cg ?_));refine ro 3 aa (de 5 90 148 64 4 aa aa (bd [9,8,4,1,0] [] aa aa (fun e0 b0 k VE B=>∃z A,an ((5,.ac 90 A.length 4)::(10,.d (dJ z))::e0) VE∧an ((90,.acc 148 64 4 A)::b0) B∧k=((I.length:Int) -z).toNat∧(0≤z∧(z≤(I.length:Int)∨z=0))∧((A.length:Int)≤z)∧(af fI A)∧(bU (gC aH) kV (I.take z.toNat) A)) ?_ fin));rintro _ VE B⟨z,A,hV,hB,rfl,bR,cM,G,hH⟩;refine aS _ _ hV hB (rc 5 aa ?_);refine ax aa ?_ ?_<;>intro g1
 ·refine rc 5 aa ?_;obtain⟨_,⟨L,rfl,mT,nM⟩,Y,⟨jy,ia,jg,gk⟩,_,⟨M,rfl,xx,xz⟩,_,⟨O,rfl,L2,L3⟩,_,⟨Z,rfl,adT,adU⟩,_,⟨Bq,rfl,Sc,Sd⟩,bM⟩:=qI z bJ;refine aw (aF aa aa cg ae bM aa ?_);refine aJ 7 aa (aA aa (usableE (bA:=M) (bn:=O) (bT:=Z) (bO:=Bq) F bP bP ae ae ae ae ae ae ae ae) ?_);rintro _ _⟨jX,rfl,lC⟩;refine ro 1 aa ?_;refine bk aa ?_ ?_<;>intro h4
  ·have k4:=lC.1 (by simpa using h4);refine ro 3 aa (bw aa aa (aA aa (inclX (aK:=Z) (aH:=Bq) (bA:=aH) F ae ae ae ae ae ae) ?_));rintro _ _⟨gM,rfl,kS⟩;refine ro 2 aa ?_;refine cO aa ?_ ?_<;>intro h6
   ·have k6:=kS.1 (by simpa using h6);refine rc 1 aa (rp 8 aa ?_);have wL:af bc [[(dJ L)]]:=(cJ (ah ai bf) ca);refine eV 29 29 aa aa (fun _=>⟨aa,aa⟩) (ro 2 aa ?_);refine aw (aW (rows:=A) (ys:=[[Y,(dJ M),(dJ O),(.sl [[(dJ L)]])]]) rfl rfl rfl (.bs (rows:=[[Y,(dJ M),(dJ O),(.sl [[(dJ L)]])]]) rfl) au ae (fun h=>by rw[h];rfl) (fun h=>by rw[h];rfl) ?_);refine aJ 3 aa (bB aa aa ae ae ?_);refine cA 2 aa ?_;exact⟨((I.length:Int) -((z+1))).toNat,ae,(z+1),(A++[[Y,(dJ M),(dJ O),(.sl [[(dJ L)]])]]),⟨rfl,rfl,rfl,rfl,rfl,rfl,rfl,trivial⟩,⟨rfl,trivial⟩,rfl,ae,cE,(df G (c9 (ah (aL ia ae gk) (ah ai (ah ai (ah (aL (.inl rfl) ae wL) bf)))))),(by first|exact nN|exact bU.T (by assumption) ae (by assumption) (gC.mk (by(try unfold eF at*);omega)) (kV.mk (by assumption) (by assumption) rfl (.inl rfl))|exact bU.F (by assumption) ae (by assumption) (gC.no (by(try unfold eF at*);omega))|assumption)⟩
   have k6:¬_:=fun p=>absurd (kS.2 p) (by simpa using h6)
   refine aB 2 aa (bB aa aa ae ae ?_);refine cA 2 aa ?_;exact⟨((I.length:Int) -((z+1))).toNat,ae,(z+1),A,⟨rfl,rfl,rfl,rfl,rfl,rfl,rfl,trivial⟩,⟨rfl,trivial⟩,rfl,ae,ae,G,(by first|exact nN|exact bU.T (by assumption) ae (by assumption) (gC.mk (by(try unfold eF at*);omega)) (kV.mk (by assumption) (by assumption) rfl (.inl rfl))|exact bU.F (by assumption) ae (by assumption) (gC.no (by(try unfold eF at*);omega))|assumption)⟩
  have k4:¬_:=fun p=>absurd (lC.2 p) (by simpa using h4)
  refine ro 6 aa (dc aa aa (aB 2 aa (bB aa aa ae ae ?_)));refine cA 2 aa ?_;exact⟨((I.length:Int) -((z+1))).toNat,ae,(z+1),A,⟨rfl,rfl,rfl,rfl,rfl,rfl,rfl,trivial⟩,⟨rfl,trivial⟩,rfl,ae,ae,G,(by first|exact nN|exact bU.T (by assumption) ae (by assumption) (gC.mk (by(try unfold eF at*);omega)) (kV.mk (by assumption) (by assumption) rfl (.inl rfl))|exact bU.F (by assumption) ae (by assumption) (gC.no (by(try unfold eF at*);omega))|assumption)⟩
 refine rc 6 aa (cl 4 90 aa aa (fun _=>⟨aa,aa⟩) (dH 1 aa ?_));exact bD rfl rfl ⟨(.cm A),A,rfl,(.acc _),ae,G,ae,(fun h=>by rw[h];rfl),(CY dz ae)⟩
end Go.Ev.Rp
namespace Go.Ev.Rp
open Go Go.Ev.Pp
attribute [local irreducible] VC VO VQ VI Sound cF
def tb(z:Int)(A:aj)(r:List DC):Bool:= @decide (∃a b,r[4]?=some (dJ a)∧r[5]?=some (dJ b)∧af5 z A a b) (Classical.propDecidable _)
theorem GU{R:List DC→List DC→Prop}{w:aj}:fB R (w.take (0:Int).toNat) []:=⟨by simp,fun q r r' h=>by simp at h⟩
theorem FV{R:List DC→List DC→Prop}{w w':aj}{k:Int}{r r':List DC}(h:fB R (w.take k.toNat) w')(h0:0≤k)(L:w[k.toNat]?=some r)(M:R r r'):fB R (w.take (k+1).toNat) (w'++[r']):=by
 have U:=(List.getElem?_eq_some_iff.1 L).1;have O:w'.length=k.toNat:=by rw[←h.1,m6];omega
 have e:w.take (k+1).toNat=w.take k.toNat++[r]:=by rw[show(k+1).toNat=k.toNat+1 by omega,Be,L];rfl
 rw[e];refine⟨by rw[fv,fv,h.1];rfl,fun q a b z A=>?_⟩;have G:(w.take k.toNat).length=k.toNat:=by rw[m6];omega
 by_cases Y:q<k.toNat
 ·rw[tB aq] at z A;exact h.2 q a b z A
 rw[vH aq,G] at z;rw[vH aq,O] at A;have I:q-k.toNat=0:=by
  rcases Nat.eq_zero_or_pos (q-k.toNat) with h|h
  ·exact h
  rw[yz (by simp;omega)] at z;cases z
 rw[I] at z A
 cases z;cases A
 exact M
theorem Ax{R:List DC→List DC→Prop}{w w':aj}{k:Int}(h:fB R (w.take k.toNat) w')(z:(w.length:Int)≤k):fB R w w':=by rwa [o5 aq] at h
def af9(z:Int)(I:aj)(r r':List DC):Prop:=∃A v k f c x G w,r=[A,v,k,f,c,x]∧r'=[A,v,k,f,c,G]∧ao w x∧ao (w.filter (tb z I)) G
theorem af9.mk{z:Int}{I w:aj}{A v k f c x G:DC}(h:ao w x)(h':ao (w.filter (tb z I)) G):af9 z I [A,v,k,f,c,x] [A,v,k,f,c,G]:=⟨A,v,k,f,c,x,G,w,rfl,rfl,h,h'⟩
end Go.Ev.Rp
namespace Go.Ev.Rp
open Go Go.Ev.Pp
attribute [local irreducible] VC VO VQ VI Sound cF
theorem typ_at{t v:Int}{A G wo:aj}{n d a b c u:DC}{w:aj}{S:List DC→List DC→Prop}(h:bU (ew t) (eJ t) (A.map (List.take 5)) G)(g:bU (ew t) S (A.take v.toNat) wo)(I:A[v.toNat]?=some [n,d,a,b,c,u])(L:ao w d)(M:fV w t):∃k,G[wo.length]?=some [n,k]∧eJ t [n,d,a,b,c] [n,k]:=by
 have h:=bU.map h;have O:ew t [n,d,a,b,c]:=ew.mk L M;have g':bU (fun r=>ew t (List.take 5 r)) (fun r y=>A=A) (A.take v.toNat) wo:=by
  refine bU.mono g (fun r=>?_) fun _ _ _=>aa
  constructor
  ·rintro⟨x,y,z,w,rfl,k⟩;exact⟨x,y,z.take 3,w,rfl,k⟩
  rintro⟨x,y,z,w,e,k⟩
  match r,e with
  |x'::y'::U,e=>cases e;exact⟨_,_,U,w,rfl,k⟩
 obtain⟨x,Y,q⟩:=bU.at h g' I O;obtain⟨_,_,_,Z,wc,k,e,e1,e2,rfl,e4⟩:=q
 cases e
 exact⟨k,Y,_,_,_,Z,wc,k,aa,e1,e2,aa,e4⟩
theorem SchemasE{T:aO}(F:FT T){a0 a1 a2 a3 a4 a5:DC}(cC:(Ty.x).ok a0)(bX:(Ty.x).ok a1){G:aj}(cu:ao G a2)(cX:G.length≤16)(bS:af [.s 1000,.l 27 dk,.l 200 bc,.l 4 dy,.l 4 dj,.l 4096 fC] G)(ch:(Ty.x).ok a3)(bY:(Ty.x).ok a4)(cB:(Ty.x).ok a5):Sound T 66 [.agg [.d a0,.d a1,.d a2,.d a3,.d a4,.d a5]] fun r=>∃y0 M,r= .d y0∧ao M y0∧(M.length:Int)≤16∧af [.s 1000,.l 27 dk,.l 200 bc,.l 4 dy,.l 4 dj] M∧0≤(M.length:Int)∧(M=[]→y0= .nil)∧(M=G.map (List.take 5)):=by
 refine bg F.q66 aa (r0 15 aa (de 3 90 55 112 5 aa aa (bd [2,1,0] [1] aa aa (fun e0 b0 k VE B=>∃z A,an ((3,.ac 90 A.length 5)::(4,.d (dJ z))::e0) VE∧an ((90,.acc 55 112 5 A)::b0) B∧k=((G.length:Int) -z).toNat∧(0≤z∧(z≤(G.length:Int)∨z=0))∧((A.length:Int)≤z)∧(af [.s 1000,.l 27 dk,.l 200 bc,.l 4 dy,.l 4 dj] A)∧(A=(G.take z.toNat).map (List.take 5))) ?_ fin)));rintro _ VE B⟨z,A,hV,hB,rfl,bR,cM,L,hH⟩;refine aS _ _ hV hB (aB 6 aa (aM aa cu ?_));refine ro 2 aa ?_;refine ax aa ?_ ?_<;>intro g1
 ·refine rc 8 aa ?_;obtain⟨_,⟨I,rfl,rm⟩,O,⟨jy,ia,jg,gk⟩,U,⟨yg,uX,p5,p7⟩,Y,⟨DT,uY,Dx,ru⟩,Z,⟨Uo,AP,Se,AQ⟩,I9,yh,bM⟩:=qI z bS;refine aw (aF aa aa cu ae bM aa ?_);refine ro 3 aa ?_;refine aw (aW (rows:=A) (ys:=[[(al I),O,U,Y,Z]]) rfl rfl rfl (.bs (rows:=[[(al I),O,U,Y,Z]]) rfl) au ae (fun h=>by rw[h];rfl) (fun h=>by rw[h];rfl) ?_);refine aJ 4 aa (bB aa aa ae ae ?_);refine cA 2 aa ?_;exact⟨((G.length:Int) -((z+1))).toNat,ae,(z+1),(A++[[(al I),O,U,Y,Z]]),⟨rfl,rfl,rfl,rfl,rfl,trivial⟩,⟨rfl,rfl,trivial⟩,rfl,ae,cE,(df L (c9 (ah (bC aq) (ah (aL ia ae gk) (ah (aL uX ae p7) (ah (aL uY ae ru) (ah (aL AP ae AQ) bf))))))),(by first|rfl|exact Zk (by assumption) ae (by assumption) rfl)⟩
 refine rc 6 aa (cl 2 90 aa aa (fun _=>⟨aa,aa⟩) (dH 1 aa ?_));exact bD rfl rfl ⟨(.cm A),A,rfl,(.acc _),ae,L,ae,(fun h=>by rw[h];rfl),(YH dz ae)⟩
theorem convertedE{T:aO}(F:FT T){a0 a1 a2 a3 a4 a5:DC}(cC:(Ty.x).ok a0)(bX:(Ty.x).ok a1){L:aj}(Y:ao L a2)(cX:L.length≤16)(bS:af [.s 1000,.l 27 dk,.l 200 bc,.l 4 dy,.l 4 dj,.l 4096 fC] L)(ch:(Ty.x).ok a3)(bY:(Ty.x).ok a4)(cB:(Ty.x).ok a5){bx:Int}(lX:(-9223372036854775808)≤bx)(lY:bx≤9223372036854775807):Sound T 32 [.agg [.d a0,.d a1,.d a2,.d a3,.d a4,.d a5],.d (dJ bx),dB false] fun r=>∃y0 br,r= .d y0∧ao br y0∧(br.length:Int)≤16∧af [.s 1000,.l 200 bc,.l 4096 fC] br∧0≤(br.length:Int)∧(br=[]→y0= .nil)∧(bU (ew bx) (sm bx) L br):=by
 refine bg F.q32 aa (cf 8 aa (aA aa (SchemasE F bP bP Y ae bS bP bP bP) ?_));rintro _ _⟨eo,eY,rfl,gP,jh,fF,ku,lv,AS⟩;refine aJ 2 aa (aA aa (TypesE (aH:=bx) F gP ae fF ae ae) ?_);rintro _ _⟨jV,vz,rfl,Dy,AT,uZ,GV,Sf,L4⟩;refine ro 4 aa ?_;have kt:bU (ew bx) (eJ bx) (L.map (List.take 5)) vz:=by rw[←AS];exact L4
 refine rp 8 aa (de 8 90 161 64 3 aa aa (bd [7,6,3,2,1,0] [3] aa aa (fun e0 b0 k VE B=>∃G I,an ((8,.ac 90 I.length 3)::(9,.d (dJ G))::e0) VE∧an ((90,.acc 161 64 3 I)::b0) B∧k=((L.length:Int) -G).toNat∧(0≤G∧(G≤(L.length:Int)∨G=0))∧((I.length:Int)≤G)∧(af [.s 1000,.l 200 bc,.l 4096 fC] I)∧(bU (ew bx) (sm bx) (L.take G.toNat) I)) ?_ fin));rintro _ VE B⟨G,I,hV,hB,rfl,bR,cM,O,hH⟩;refine aS _ _ hV hB (aB 6 aa (aM aa Y ?_));refine ro 2 aa ?_;refine ax aa ?_ ?_<;>intro g3
 ·refine rc 8 aa ?_;obtain⟨po,kB,fu,⟨DU,xA,Dz,xB⟩,qE,oW,Og,tc,Oh,td,Oi,⟨U,GW,hnx4_5,Sg⟩,cZ⟩:=qI G bS;refine aw (aF aa aa Y ae cZ aa ?_);refine aJ 3 aa (aA aa (ai5 (bO:=bx) F kB xA ae xB oW tc td ae ae) ?_);rintro _ _⟨gM,VU,Of,wy5_2,y5_4,rfl,kS,Ic,hdy5_2,hny5_2,hry5_2,hmy5_2,hfy5_2,aga⟩;refine ro 13 aa ?_;refine cO aa ?_ ?_<;>intro h6
  ·have k6:¬_:=fun p=>absurd (aga.2 p) (by simpa using h6)
   refine aB 3 aa (bB aa aa ae ae ?_);refine cA 2 aa ?_;exact⟨((L.length:Int) -((G+1))).toNat,ae,(G+1),I,⟨rfl,rfl,rfl,rfl,rfl,rfl,rfl,rfl,trivial⟩,⟨rfl,rfl,trivial⟩,rfl,ae,ae,O,(by first|exact nN|exact bU.T (by assumption) ae (by assumption) (ew.mk (by assumption) (by assumption)) (sm.mk (by assumption) (by assumption) (by assumption) (by assumption) (by assumption) (.acc _) (Ax (by assumption) ae))|exact bU.F (by assumption) ae (by assumption) (ew.no (by assumption) (by assumption))|assumption)⟩
  have k6:=aga.1 (by simpa using h6);refine rc 6 aa ?_;obtain⟨ky,J7,hty⟩:=typ_at kt dz dz dz dz;have kb:=(List.getElem?_eq_some_iff.1 J7).1;obtain⟨jY,lD,Z,⟨Up,xC,Sh,xD⟩,eL⟩:=qI (I.length:Int) uZ;refine aw (aF aa aa Dy ae eL aa ?_);refine ro 1 aa ?_;have e7:some [jY,Z]=some [_,ky]:=eL.symm.trans J7;simp only[eA,vg,and_true] at e7;obtain⟨e8,e9⟩:=e7;subst e8;subst e9;refine rp 10 aa (iQ 12 2 91 156 64 6 aa aa aa (bd [39,24,12,11,10,9,8,7,6,3,2,1,0] [90,10,3] aa aa (fun e0 b0 k VE B=>∃A z,an ((13,.d (dJ A))::e0) VE∧an ((12,.one 161 64 [.d jY,.d Z,.ac 91 z.length 6])::(91,.acc 156 64 6 z)::b0) B∧k=((U.length:Int) -A).toNat∧(0≤A∧(A≤(U.length:Int)∨A=0))∧((z.length:Int)≤A)∧(af fC z)∧(fB (pG wy5_2) (U.take A.toNat) z)) ?_ fin));rintro _ VE B⟨A,z,hV,hB,rfl,fh,gn,M,I8⟩;refine aS _ _ hV hB (aB 7 aa (aF aa aa Y ae cZ aa ?_));refine aJ 2 aa (aM aa GW ?_);refine ro 2 aa ?_;refine ax aa ?_ ?_<;>intro g8
  ·refine aB 8 aa (aF aa aa Y ae cZ aa ?_);refine ro 3 aa ?_;obtain⟨_,⟨nX,rfl,DA,L5⟩,oh,⟨M3,u6,L6,u7⟩,_,⟨nU,rfl,L0,L1⟩,_,⟨qe,rfl,Si,Sj⟩,_,⟨tf,rfl,adV,adW⟩,_,⟨tg,rfl,adX,adY⟩,eW⟩:=qI A Sg;refine aw (aF aa aa GW ae eW aa ?_);refine aJ 9 aa (aA aa (ProjE F kS Ic hdy5_2 ae hry5_2 u6 ae u7) ?_);rintro _ _⟨iF,xE,rfl,sQ,xm,sR,C8,Q7,Q8⟩;refine ro 4 aa (rp 4 aa ?_);refine aw (aW (rows:=z) (ys:=[[(dJ nX),iF,(dJ nU),(dJ qe),(dJ tf),(dJ tg)]]) rfl rfl rfl (.bs (rows:=[[(dJ nX),iF,(dJ nU),(dJ qe),(dJ tf),(dJ tg)]]) rfl) au ae (fun h=>by rw[h];rfl) (fun h=>by rw[h];rfl) ?_);refine aJ 5 aa (bB aa aa ae ae ?_);refine cA 2 aa ?_;exact⟨((U.length:Int) -((A+1))).toNat,ae,(A+1),(z++[[(dJ nX),iF,(dJ nU),(dJ qe),(dJ tf),(dJ tg)]]),⟨rfl,rfl,rfl,rfl,rfl,rfl,rfl,rfl,rfl,rfl,rfl,rfl,rfl,rfl,trivial⟩,⟨rfl,rfl,rfl,rfl,rfl,trivial⟩,rfl,ae,cE,(df M (c9 (ah ai (ah (aL sQ ae sR) (ah ai (ah ai (ah ai (ah ai bf)))))))),(by first|exact GU|exact FV (by assumption) ae (by assumption) (pG.mk (by assumption) (by assumption) (by assumption))|assumption)⟩
  refine rc 4 aa (eK 78 91 aa aa dx ?_);obtain⟨Uq,rfl,hsx7_0⟩:=Ty.bC lD;refine ro 1 aa ?_;refine aw (aW (rows:=I) (ys:=[[(al Uq),Z,(.cm z)]]) rfl rfl rfl (.bs (rows:=[[(al Uq),Z,(.cm z)]]) rfl) au ae (fun h=>by rw[h];rfl) (fun h=>by rw[h];rfl) ?_);have kt:bU (ew bx) (eJ bx) (L.map (List.take 5)) vz:=by rw[←AS];exact L4
  refine aJ 4 aa (bB aa aa ae ae ?_);refine cA 2 aa ?_;exact⟨((L.length:Int) -((G+1))).toNat,ae,(G+1),(I++[[(al Uq),Z,(.cm z)]]),⟨rfl,rfl,rfl,rfl,rfl,rfl,rfl,rfl,trivial⟩,⟨rfl,rfl,trivial⟩,rfl,ae,cE,(df O (c9 (ah (bC aq) (ah (aL xC ae xD) (ah (aL (.acc _) ae M) bf))))),(by first|exact nN|exact bU.T (by assumption) ae (by assumption) (ew.mk (by assumption) (by assumption)) (sm.mk (by assumption) (by assumption) (by assumption) (by assumption) (by assumption) (.acc _) (Ax (by assumption) ae))|exact bU.F (by assumption) ae (by assumption) (ew.no (by assumption) (by assumption))|assumption)⟩
 refine rc 6 aa (cl 6 90 aa aa (fun _=>⟨aa,aa⟩) (dH 1 aa ?_));exact bD rfl rfl ⟨(.cm I),I,rfl,(.acc _),ae,O,ae,(fun h=>by rw[h];rfl),(CY dz ae)⟩
end Go.Ev.Rp
namespace Go.Ev.Rp
open Go Go.Ev.Pp
attribute [local irreducible] VC VO VQ VI Sound cF
def Pa(t:Int)(r y:List DC):Prop:=∃x,sm t r x∧zP t x y
theorem TAsE{T:aO}(F:FT T){a0:DC}{G:aj}(cg:ao G a0)(cI:G.length≤16)(bJ:af [.s 1000,.l 200 bc,.l 4096 fC] G){aH:Int}(jE:(-9223372036854775808)≤aH)(jF:aH≤9223372036854775807):Sound T 31 [.d a0,.d (dJ aH)] fun r=>∃y0 M,r= .d y0∧ao M y0∧(M.length:Int)≤16∧af [.s 1000,.l 200 bc,.l 4096 fI] M∧0≤(M.length:Int)∧(M=[]→y0= .nil)∧(fB (zP aH) G M):=by
 refine bg F.q31 aa (cf 12 aa (aM aa cg ?_));refine ro 3 aa (de 5 90 87 64 3 aa aa (bd [9,8,4,1,0] [] aa aa (fun e0 b0 k VE B=>∃z A,an ((5,.ac 90 A.length 3)::(10,.d (dJ z))::e0) VE∧an ((90,.acc 87 64 3 A)::b0) B∧k=((G.length:Int) -z).toNat∧(0≤z∧(z≤(G.length:Int)∨z=0))∧((A.length:Int)≤z)∧(af [.s 1000,.l 200 bc,.l 4096 fI] A)∧(fB (zP aH) (G.take z.toNat) A)) ?_ fin));rintro _ VE B⟨z,A,hV,hB,rfl,bR,cM,L,hH⟩;refine aS _ _ hV hB (rc 5 aa ?_);refine ax aa ?_ ?_<;>intro g1
 ·refine rc 5 aa ?_;obtain⟨_,⟨I,rfl,rm⟩,O,⟨jy,Y,jg,Z⟩,fg,⟨yg,uX,p5,p7⟩,bM⟩:=qI z bJ;refine aw (aF aa aa cg ae bM aa ?_);refine ro 11 aa (aP aa (aA aa (AsOfE (aH:=aH) F uX ae p7 ae ae) ?_));rintro _ _⟨U,nW,rfl,rn,AN,p0,GS,L7,hfy3_0⟩;refine rq 2 aa ?_;refine aP rfl (aW (rows:=A) (ys:=[[(al I),O,U]]) rfl rfl rfl (.bs (rows:=[[(al I),O,U]]) rfl) au ae (fun h=>by rw[h];rfl) (fun h=>by rw[h];rfl) ?_);refine rq 3 aa (aw (bB aa aa ae ae ?_));refine cA 2 aa ?_;exact⟨((G.length:Int) -((z+1))).toNat,ae,(z+1),(A++[[(al I),O,U]]),⟨rfl,rfl,rfl,rfl,rfl,rfl,rfl,trivial⟩,⟨rfl,trivial⟩,rfl,ae,cE,(df L (c9 (ah (bC aq) (ah (aL Y ae Z) (ah (aL rn ae p0) bf))))),(by first|exact GU|exact FV (by assumption) ae (by assumption) (zP.mk (by assumption) (by assumption) (by assumption))|assumption)⟩
 refine rc 6 aa (cl 4 90 aa aa (fun _=>⟨aa,aa⟩) (dH 1 aa ?_));exact bD rfl rfl ⟨(.cm A),A,rfl,(.acc _),ae,L,ae,(fun h=>by rw[h];rfl),(Ax dz ae)⟩
theorem abH{T:aO}(F:FT T){a0 a1 a2 a3 a4 a5:DC}(cC:(Ty.x).ok a0)(bX:(Ty.x).ok a1){A:aj}(Y:ao A a2)(cX:A.length≤16)(Z:af [.s 1000,.l 27 dk,.l 200 bc,.l 4 dy,.l 4 dj,.l 4096 fC] A)(ch:(Ty.x).ok a3)(bY:(Ty.x).ok a4)(cB:(Ty.x).ok a5){bx:Int}(lX:(-9223372036854775808)≤bx)(lY:bx≤9223372036854775807):Sound T 15 [.agg [.d a0,.d a1,.d a2,.d a3,.d a4,.d a5],.d (dJ bx)] fun r=>∃y0 z,r= .d y0∧ao z y0∧(z.length:Int)≤16∧af [.s 1000,.l 200 bc,.l 4096 fI] z∧0≤(z.length:Int)∧(z=[]→y0= .nil)∧(bU (ew bx) (Pa bx) A z):=by
 refine bg F.q15 aa (cf 9 aa (aA aa (convertedE (bx:=bx) F bP bP Y ae Z bP bP bP ae ae) ?_));rintro _ _⟨eo,eY,rfl,G,jh,I,ku,lv,AS⟩;refine aJ 1 aa (aA aa (TAsE (aH:=bx) F G ae I ae ae) ?_);rintro _ _⟨jV,U,rfl,L,AT,M,GV,O,L4⟩;exact dR 3 aa (bD aa aa ⟨jV,U,aa,L,ae,M,ae,O,(bU.comp dz dz)⟩)
end Go.Ev.Rp
namespace Go.Ev.Rp
open Go Go.Ev.Pp
attribute [local irreducible] VC VO VQ VI Sound cF
theorem js.mkE{w wc w':aj}{v t f g:Int}{c:DC}(h:gl w v t)(h0:0≤v)(z:w[v.toNat]?=some [.i .i64 f,.i .i64 g,c])(A:f≤t)(h2:t<g)(G:ao w' c)(e:wc=w'):js t w wc:=e▸js.mk h h0 z A h2 G
def mapA(f:List DC→List DC)(z:List DC)(wc:aj)(v:Int):aj:=(wc.take v.toNat).map f++List.replicate (wc.length-v.toNat) z
theorem GX{f:List DC→List DC}{z:List DC}{wc w:aj}{n:Nat}(h:w=List.replicate n z)(A:(wc.length:Int)=n):w=mapA f z wc 0:=by
 obtain rfl:wc.length=n:=Int.ofNat.inj A;simp[mapA,h]
theorem adZ{f:List DC→List DC}{z r:List DC}{wc:aj}{v:Int}(h0:0≤v)(A:wc[v.toNat]?=some r):mapA f z wc v=(wc.take v.toNat).map f++z::List.replicate (wc.length-(v+1).toNat) z∧((wc.take v.toNat).map f).length=v.toNat:=by
 have G:=(List.getElem?_eq_some_iff.1 A).1;refine⟨?_,by rw[n6,m6];omega⟩;rw[mapA,show wc.length-v.toNat=(wc.length-(v+1).toNat)+1 by omega,List.replicate_succ]
theorem mapA.S{f:List DC→List DC}{z r x:List DC}{wc w:aj}{v:Int}(h:w=mapA f z wc v)(h0:0≤v)(A:wc[v.toNat]?=some r)(e:f r=x):w.set v.toNat x=mapA f z wc (v+1):=by
 obtain⟨G,h2⟩:=adZ (f:=f) (z:=z) h0 A;rw[h,G,afN _ _ aq,h2,Nat.sub_self,mapA,AO h0 A,lK,TR,←e];rfl
theorem mapA.F{f:List DC→List DC}{z r:List DC}{wc w:aj}{v:Int}(h:w=mapA f z wc v)(h0:0≤v)(A:wc[v.toNat]?=some r)(e:f r=z):w=mapA f z wc (v+1):=by
 obtain⟨G,h2⟩:=adZ (f:=f) (z:=z) h0 A;rw[h,G,mapA,AO h0 A,lK,TR,TQ,e];rfl
theorem mapA.A{f:List DC→List DC}{z:List DC}{wc w:aj}{v:Int}(h:w=mapA f z wc v)(G:(wc.length:Int)≤v):w=wc.map f:=by
 rw[h,mapA,o5 aq,show wc.length-v.toNat=0 by omega];simp
theorem mapA.S2{f:List DC→List DC}{z r x:List DC}{wc w w':aj}{v:Int}{j:Nat}(h:w=mapA f z wc v)(h0:0≤v)(A:wc[v.toNat]?=some r)(I:v=(j:Int))(G:w'=w.set j x)(e:f r=x):w'=mapA f z wc (v+1):=by
 rw[G,show j=v.toNat by omega];exact mapA.S h h0 A e
theorem Ur{w:aj}{k:Int}{r:List DC}{j:Nat}{n c:DC}(z:1≤k)(h2:k≤w.length)(A:w[j]?=some r)(e:(j:Int)=k-1):mJ w [.i .i64 k,n,c]=r:=by
 simp only[mJ];rw[bj ⟨z,h2⟩,show(k-1).toNat=j by omega,A];rfl
theorem Us{w:aj}{k:Int}{n c:DC}(z:¬(1≤k∧k≤w.length)):mJ w [.i .i64 k,n,c]=[.i .i64 0,.i .i64 0,.s 0 0]:=by
 simp only[mJ];rw[aZ z]
def Cy(t:Int)(s y:List DC):Prop:=∃n d rest w wc c,s=n::d::rest∧ao w d∧js t w wc∧y=[n,c]∧ao wc c
theorem Cy.mk{t:Int}{n d c:DC}{rest:List DC}{w wc:aj}(z:ao w d)(A:fV w t)(h:fV w t→js t w wc)(G:ao wc c):Cy t (n::d::rest) [n,c]:=⟨n,d,rest,w,wc,c,rfl,z,h A,rfl,G⟩
def Fo(r y:List DC):Prop:=∃n c wc k,r=[n,c]∧y=[n,k]∧ao wc c∧ao (wc.map BW) k
theorem Fo.mk{n c k:DC}{wc z:aj}(h:ao wc c)(A:ao z k)(e:z=wc.map BW):Fo [n,c] [n,k]:=⟨n,c,wc,k,rfl,rfl,h,e▸A⟩
theorem tyR_of{t:Int}{w a b:aj}(h:bU (ew t) (Cy t) w a)(k:fB Fo a b):bU (ew t) (eJ t) w b:=
 bU.mono (bU.comp h k) (fun _=>iG) fun r y⟨x,⟨n,d,rest,u,wc,c,z,A,G,I,L⟩,n',Z,M,q,O,U,Y,f4⟩=>by
  subst I
  cases O
  obtain rfl:=ao.inj L Y;exact⟨n,d,rest,u,wc,q,z,A,G,U,f4⟩
theorem clCE{T:aO}(F:FT T){M:DC}{z:aj}(I:ao z M)(O:z.length≤13)(L:af gB z):Sound T 210 [.d M] fun r=>∃U A,r= .d U∧ao A U∧(A.length:Int)≤13∧af gB A∧0≤(A.length:Int)∧(A=z):=by
 refine bg F.q210 aa (r0 8 aa ?_);rcases I with G|⟨Y,G⟩
 ·subst G;refine aw (Qt aa aa ?_);refine ro 1 aa (dc aa aa (aB 5 aa (Gm (rows:=[]) (ys:=z) aa aa aa (.sD (.inl aa) (cP L aa)) au ae ?_)));exact ro 2 aa (mS 2 5 aa aa (fun _=>⟨aa,aa⟩) (W))
 subst G;refine aw (P' aa aa ?_);refine ro 1 aa (eM aa aa (dH 5 aa ?_));exact bD rfl rfl ⟨.nil,[],rfl,(.inr ⟨rfl,rfl⟩),ae,ca,ae,(by first|exact Y.symm|exact IM _|rfl)⟩
theorem clVE{T:aO}(F:FT T){M:DC}{z:aj}(I:ao z M)(O:z.length≤1000000000)(L:af cn z):Sound T 63 [.d M] fun r=>∃U A,r= .d U∧ao A U∧(A.length:Int)≤1000000000∧af cn A∧0≤(A.length:Int)∧(A=z):=by
 refine bg F.q63 aa (r0 8 aa ?_);rcases I with G|⟨Y,G⟩
 ·subst G;refine aw (Qt aa aa ?_);refine ro 1 aa (dc aa aa (aB 5 aa (Gm (rows:=[]) (ys:=z) aa aa aa (.sD (.inl aa) (cP L aa)) au ae ?_)));exact ro 2 aa (mS 2 5 aa aa (fun _=>⟨aa,aa⟩) (W))
 subst G;refine aw (P' aa aa ?_);refine ro 1 aa (eM aa aa (dH 5 aa ?_));exact bD rfl rfl ⟨.nil,[],rfl,(.inr ⟨rfl,rfl⟩),ae,ca,ae,(by first|exact Y.symm|exact IM _|rfl)⟩
theorem cloneVE{T:aO}(F:FT T){Z a1 a2:DC}(cC:tJ.ok Z)(bX:tJ.ok a1){A:aj}(G:ao A a2)(cX:A.length≤13)(I:af gB A):Sound T 122 [.agg [.d Z,.d a1,.d a2]] fun r=>∃y0 z,r= .agg [.d Z,.d a1,.d y0]∧ao z y0∧(z.length:Int)≤13∧af gB z∧0≤(z.length:Int)∧(z=A):=by
 refine bg F.q122 aa ?_;rcases cC,bX with⟨⟨aK,rfl,gZ,hD⟩,⟨aH,rfl,ey,dW⟩⟩
 refine cf 9 aa (aA aa (clCE F G ae I) ?_);rintro _ _⟨eo,eY,rfl,L,M,O,U,Y⟩;exact W
theorem agb{T:aO}(F:FT T){a0 a1 a2 a3 a4:DC}(cC:(Ty.s 1000).ok a0){A:aj}(U:ao A a1)(dg:A.length≤27)(cq:af dk A)(cN:(Ty.l 200 bc).ok a2)(ch:(Ty.l 4 dy).ok a3)(bY:(Ty.l 4 dj).ok a4){bO:Int}(nx:(-9223372036854775808)≤bO)(ny:bO≤9223372036854775807):Sound T 59 [.agg [.d a0,.d a1,.d a2,.d a3,.d a4],.d (dJ bO)] fun r=>∃y0 y1 y2 G y4,r= .tuple [.agg [.d y0,.d y1,.d y2],dB y4]∧tJ.ok y0∧tJ.ok y1∧ao G y2∧(G.length:Int)≤13∧af gB G∧0≤(G.length:Int)∧((fV A bO→js bO A G))∧(y4=true↔fV A bO):=by
 refine bg F.q59 aa ?_;rcases cC,cN,ch,bY with⟨⟨gN,rfl,jl⟩,⟨bu,cu,cX,bS⟩,⟨da,ez,fe,dQ⟩,⟨ed,dY,fJ,dw⟩⟩
 refine cf 11 aa (aM aa U ?_);refine ro 3 aa (bd [10,9,5,4,2,1,0] [4,2] aa aa (fun e0 b0 k VE B=>∃z,an ((11,.d (dJ z))::e0) VE∧an b0 B∧k=((A.length:Int) -z).toNat∧(0≤z∧(z≤(A.length:Int)∨z=0))∧(gl A z bO)) ?_ fin);rintro _ VE B⟨z,hV,hB,rfl,bR,cM⟩;refine aS _ _ hV hB (rc 5 aa ?_);refine ax aa ?_ ?_<;>intro g1
 ·refine rc 5 aa ?_;obtain⟨_,⟨Y,rfl,mT,nM⟩,_,⟨Z,rfl,uV,pY⟩,fg,⟨yg,I,p5,L⟩,bM⟩:=qI z cq;refine aw (aF aa aa U ae bM aa ?_);refine ro 6 aa ?_;skip;refine rp 6 aa ?_;refine bk aa ?_ ?_<;>intro g3
  ·refine ro 7 aa ?_;refine ax aa ?_ ?_<;>intro g4
   ·refine aB 3 aa (aA aa (cloneVE F ai ai I ae L) ?_);rintro _ _⟨gM,gV,rfl,M,pZ,O,ry,hfy5_0⟩;refine dR 4 aa ?_;exact bD rfl rfl ⟨(dJ Y),(dJ Z),gM,gV,true,rfl,ai,ai,M,ae,O,ae,(by first|exact fun h=>absurd h (gl.all (by assumption) ae)|exact fun _=>js.mkE (by assumption) ae (by assumption) ae ae (by assumption) (by assumption)),(by first|exact⟨fun _=>fV.mk (by assumption) ae ae,fun _=>rfl⟩|exact⟨fun h=>(by cases h),fun h=>absurd h (gl.all (by assumption) ae)⟩)⟩
   refine aB 2 aa (bB aa aa ae ae ?_);refine cA 2 aa ?_;exact⟨((A.length:Int) -((z+1))).toNat,ae,(z+1),⟨rfl,rfl,rfl,rfl,rfl,rfl,rfl,rfl,trivial⟩,⟨rfl,rfl,trivial⟩,rfl,ae,(by first|exact C7|exact gl.succ (by assumption) ae (by assumption) ae)⟩
  refine ro 7 aa (dc aa aa (aB 2 aa (bB aa aa ae ae ?_)));refine cA 2 aa ?_;exact⟨((A.length:Int) -((z+1))).toNat,ae,(z+1),⟨rfl,rfl,rfl,rfl,rfl,rfl,rfl,rfl,trivial⟩,⟨rfl,rfl,trivial⟩,rfl,ae,(by first|exact C7|exact gl.succ (by assumption) ae (by assumption) ae)⟩
 refine dH 8 aa ?_;exact bD rfl rfl ⟨i0,i0,.nil,[],false,rfl,ai,ai,(.inr ⟨rfl,rfl⟩),ae,ca,ae,(by first|exact fun h=>absurd h (gl.all (by assumption) ae)|exact fun _=>js.mkE (by assumption) ae (by assumption) ae ae (by assumption) (by assumption)),(by first|exact⟨fun _=>fV.mk (by assumption) ae ae,fun _=>rfl⟩|exact⟨fun h=>(by cases h),fun h=>absurd h (gl.all (by assumption) ae)⟩)⟩
theorem visE{T:aO}(F:FT T){a0:DC}{G:aj}(cg:ao G a0)(cI:G.length≤16)(bJ:af [.s 1000,.l 27 dk,.l 200 bc,.l 4 dy,.l 4 dj] G){aH:Int}(jE:(-9223372036854775808)≤aH)(jF:aH≤9223372036854775807):Sound T 93 [.d a0,.d (dJ aH),dB false] fun r=>∃y0 M,r= .d y0∧ao M y0∧(M.length:Int)≤16∧af [.s 1000,.l 13 gB] M∧0≤(M.length:Int)∧(M=[]→y0= .nil)∧(bU (ew aH) (Cy aH) G M):=by
 refine bg F.q93 aa (cf 12 aa (aM aa cg ?_));refine ro 3 aa (de 7 90 315 40 2 aa aa (bd [13,12,6,2,1,0] [] aa aa (fun e0 b0 k VE B=>∃z A,an ((7,.ac 90 A.length 2)::(14,.d (dJ z))::e0) VE∧an ((90,.acc 315 40 2 A)::b0) B∧k=((G.length:Int) -z).toNat∧(0≤z∧(z≤(G.length:Int)∨z=0))∧((A.length:Int)≤z)∧(af [.s 1000,.l 13 gB] A)∧(bU (ew aH) (Cy aH) (G.take z.toNat) A)) ?_ fin));rintro _ VE B⟨z,A,hV,hB,rfl,bR,cM,I,hH⟩;refine aS _ _ hV hB (rc 5 aa ?_);refine ax aa ?_ ?_<;>intro g1
 ·refine rc 5 aa ?_;obtain⟨gm,O,ff,⟨jy,Z,jg,gk⟩,fg,fT,jB,iV,pn,mX,bM⟩:=qI z bJ;refine aw (aF aa aa cg ae bM aa ?_);refine aJ 8 aa (aA aa (agb (bO:=aH) F O Z ae gk fT iV mX ae ae) ?_);rintro _ _⟨jX,zh,U,agc,ai6,rfl,lC,Br,Sk,ad0,Sl,ad1,Sm,Y⟩;refine ro 13 aa ?_;refine cO aa ?_ ?_<;>intro h4
  ·have k4:¬_:=fun p=>absurd (Y.2 p) (by simpa using h4)
   refine aB 2 aa (bB aa aa ae ae ?_);refine cA 2 aa ?_;exact⟨((G.length:Int) -((z+1))).toNat,ae,(z+1),A,⟨rfl,rfl,rfl,rfl,rfl,rfl,rfl,rfl,trivial⟩,⟨rfl,trivial⟩,rfl,ae,ae,I,(by first|exact nN|exact bU.T (by assumption) ae (by assumption) (ew.mk (by assumption) (by assumption)) (Cy.mk (by assumption) (by assumption) (by assumption) (by assumption))|exact bU.F (by assumption) ae (by assumption) (ew.no (by assumption) (by assumption))|assumption)⟩
  have k4:=Y.1 (by simpa using h4);refine rc 6 aa (dc aa aa (rc 2 aa ?_));obtain⟨L,rfl,rm⟩:=Ty.bC O;refine rp 7 aa ?_;refine aw (aW (rows:=A) (ys:=[[(al L),U]]) rfl rfl rfl (.bs (rows:=[[(al L),U]]) rfl) au ae (fun h=>by rw[h];rfl) (fun h=>by rw[h];rfl) ?_);refine aJ 3 aa (bB aa aa ae ae ?_);refine cA 2 aa ?_;exact⟨((G.length:Int) -((z+1))).toNat,ae,(z+1),(A++[[(al L),U]]),⟨rfl,rfl,rfl,rfl,rfl,rfl,rfl,rfl,trivial⟩,⟨rfl,trivial⟩,rfl,ae,cE,(df I (c9 (ah (bC aq) (ah (aL Sk ae Sl) bf)))),(by first|exact nN|exact bU.T (by assumption) ae (by assumption) (ew.mk (by assumption) (by assumption)) (Cy.mk (by assumption) (by assumption) (by assumption) (by assumption))|exact bU.F (by assumption) ae (by assumption) (ew.no (by assumption) (by assumption))|assumption)⟩
 refine rc 6 aa (cl 6 90 aa aa (fun _=>⟨aa,aa⟩) (dH 1 aa ?_));exact bD rfl rfl ⟨(.cm A),A,rfl,(.acc _),ae,I,ae,(fun h=>by rw[h];rfl),(CY dz ae)⟩
theorem typsE{T:aO}(F:FT T){a0:DC}{bV:aj}(cg:ao bV a0)(cI:bV.length≤16)(bJ:af [.s 1000,.l 13 gB] bV):Sound T 102 [.d a0] fun r=>∃y0 br,r= .d y0∧ao br y0∧(br.length:Int)≤16∧af ph br∧0≤(br.length:Int)∧(br=[]→y0= .nil)∧(fB Fo bV br):=by
 refine bg F.q102 aa (cf 12 aa (aM aa cg ?_));refine ro 3 aa (de 3 90 85 40 2 aa aa (bd [10,9,2,0] [] aa aa (fun e0 b0 k VE B=>∃G M,an ((3,.ac 90 M.length 2)::(11,.d (dJ G))::e0) VE∧an ((90,.acc 85 40 2 M)::b0) B∧k=((bV.length:Int) -G).toNat∧(0≤G∧(G≤(bV.length:Int)∨G=0))∧((M.length:Int)≤G)∧(af ph M)∧(fB Fo (bV.take G.toNat) M)) ?_ fin));rintro _ VE B⟨G,M,hV,hB,rfl,bR,cM,AU,hH⟩;refine aS _ _ hV hB (rc 5 aa ?_);refine ax aa ?_ ?_<;>intro g1
 ·refine rc 5 aa ?_;obtain⟨_,⟨M1,rfl,rm⟩,ff,⟨O,Z,jg,gk⟩,bM⟩:=qI G bJ;refine aw (aF aa aa cg ae bM aa ?_);refine ro 6 aa (iw 2 aa (aM aa Z ?_));obtain⟨n3,fY⟩:∃n:Nat,(O.length:Int)=n:=⟨((O.length:Int)).toNat,(vl ae).symm⟩;refine aw (Aw (n:=n3) 18 rfl rfl rfl rfl rfl (by rw[←fY];rfl) (by rw[←fY];rfl) ae ae (fun w3 J8 J9=>?_));have qS:af bc w3:=by subst J8;exact Au (ah ai bf)
  refine aJ 7 aa (aM aa Z ?_);refine ro 3 aa ?_;refine bd [21,20,12,11,10,9,5,3,2,0] [90,5] rfl rfl (fun e0 b0 k VE B=>∃I U L,an ((6,.bs 18 U 1)::(22,.d (dJ I))::e0) VE∧an ((18,.arr 3 8 1 U L)::b0) B∧k=((O.length:Int) -I).toNat∧(0≤I∧(I≤(O.length:Int)∨I=0))∧(L.length=U)∧(U=w3.length)∧(af bc L)∧(L=mapA BW [.i .i64 0] O I)) ?_ (k:=((O.length:Int) -0).toNat) ⟨0,(w3.length),w3,⟨rfl,rfl,rfl,rfl,rfl,rfl,rfl,rfl,rfl,rfl,rfl,rfl,trivial⟩,⟨rfl,rfl,rfl,trivial⟩,rfl,ae,H6,ae,qS,(by first|exact GX (by assumption) (by assumption)|exact mapA.S2 (by assumption) ae (by assumption) (by assumption) (by assumption) rfl|assumption)⟩;rintro _ VE B⟨I,U,L,hV,hB,rfl,fh,rfl,Oj,Y,I'⟩;refine aS _ _ hV hB (rc 5 aa ?_);refine ax aa ?_ ?_<;>intro g4
  ·refine rc 6 aa ?_;obtain⟨BV,x8,zi,vA,EN,DV,eQ⟩:=qI I gk;refine aw (aF aa aa Z ae eQ aa ?_);refine ro 10 aa ?_;obtain⟨j6,pH,mK⟩:=bF (z:=I) (n:=L.length) ae ae;obtain⟨zg,rF,e6⟩:=qN mK Y;refine aw (fb rfl (by rw[←pH];rfl) mK ?_);refine jv (q9 aa aa aa aa aa aa au au e6 (fun w7 Cz zQ=>?_));have wL:af bc w7:=by rw[Cz];exact fm Y (ah DV bf)
   rw[←zQ];refine aJ 2 aa (bB aa aa ae ae ?_);refine cA 2 aa ?_;exact⟨((O.length:Int) -((I+1))).toNat,ae,(I+1),(w7.length),w7,⟨rfl,rfl,rfl,rfl,rfl,rfl,rfl,rfl,rfl,rfl,rfl,rfl,trivial⟩,⟨rfl,rfl,rfl,trivial⟩,rfl,ae,H6,ae,wL,(by first|exact GX (by assumption) (by assumption)|exact mapA.S2 (by assumption) ae (by assumption) (by assumption) (by assumption) rfl|assumption)⟩
  refine rc 1 aa (mS 6 18 aa aa (fun _=>⟨aa,aa⟩) (rc 1 aa (rp 6 aa ?_)));refine aw (aW (rows:=M) (ys:=[[(al M1),(.sl L)]]) rfl rfl rfl (.bs (rows:=[[(al M1),(.sl L)]]) rfl) au ae (fun h=>by rw[h];rfl) (fun h=>by rw[h];rfl) ?_);refine aJ 3 aa (bB aa aa ae ae ?_);refine cA 2 aa ?_;exact⟨((bV.length:Int) -((G+1))).toNat,ae,(G+1),(M++[[(al M1),(.sl L)]]),⟨rfl,rfl,rfl,rfl,rfl,rfl,trivial⟩,⟨rfl,trivial⟩,rfl,ae,cE,(df AU (c9 (ah (bC aq) (ah (aL (.inl rfl) ae Y) bf)))),(by first|exact GU|exact FV (by assumption) ae (by assumption) (Fo.mk (by assumption) (.inl rfl) (mapA.A (by assumption) ae))|assumption)⟩
 refine rc 6 aa (cl 2 90 aa aa (fun _=>⟨aa,aa⟩) (dH 1 aa ?_));exact bD rfl rfl ⟨(.cm M),M,rfl,(.acc _),ae,AU,ae,(fun h=>by rw[h];rfl),(Ax dz ae)⟩
theorem TypsE{T:aO}(F:FT T){a0:DC}{A:aj}(Y:ao A a0)(cI:A.length≤16)(Z:af [.s 1000,.l 27 dk,.l 200 bc,.l 4 dy,.l 4 dj] A){aH:Int}(jE:(-9223372036854775808)≤aH)(jF:aH≤9223372036854775807):Sound T 60 [.d a0,.d (dJ aH),dB false] fun r=>∃y0 z,r= .d y0∧ao z y0∧(z.length:Int)≤16∧af ph z∧0≤(z.length:Int)∧(z=[]→y0= .nil)∧(bU (ew aH) (eJ aH) A z):=by
 refine bg F.q60 aa (cf 9 aa (aA aa (visE (aH:=aH) F Y ae Z ae ae) ?_));rintro _ _⟨eo,eY,rfl,G,jh,I,ku,lv,AS⟩;refine aw (aA aa (typsE F G ae I) ?_);rintro _ _⟨jV,U,rfl,L,AT,M,GV,O,L4⟩;exact dR 3 aa (bD aa aa ⟨jV,U,aa,L,ae,M,ae,O,(tyR_of dz dz)⟩)
end Go.Ev.Rp
