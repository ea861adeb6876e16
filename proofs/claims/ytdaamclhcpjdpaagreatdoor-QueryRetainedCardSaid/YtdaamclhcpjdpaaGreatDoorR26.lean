/- Part 26 of rules for walks through the code of a program, and of such walks; what each part proves is said by its theorems. -/
import Derived.Test.YtdaamclhcpjdpaaGreatDoorR22
import Derived.Test.YtdaamclhcpjdpaaGreatDoorR23
import Derived.Test.YtdaamclhcpjdpaaGreatDoorR24
import Derived.Test.YtdaamclhcpjdpaaGreatDoorR25
set_option linter.unusedVariables false
set_option linter.unusedSimpArgs false
noncomputable section
set_option maxRecDepth 100000
set_option maxHeartbeats 4000000
namespace Go.Ev.Rp
open Go Go.Ev.Pp
attribute [local irreducible] VC VO VQ VI Sound cm
theorem QR{v zh a b:Int}{A s:ak}(G:A=[pW 0 zh])(I:A[v.toNat]?=some (pW a b))(h0:0≤v)(M:v<1)(L:s=[pW a b])(z:0≤a∧a<b∧b≤1099511627776):(v+1=0∧s=[])∨(v+1=1∧sf zh s):=by
 obtain⟨rfl,rfl⟩:=adz G I;subst L;exact .inr ⟨ah,cut0_1 z.2.1⟩
theorem QS{v zh a b:Int}{z s:ak}(A:z=[pW 0 zh])(L:0≤zh∧zh≤1000)(G:z[v.toNat]?=some (pW a b))(h0:0≤v)(M:v<1)(h:(v=0∧s=[])∨(v=1∧sf zh s))(I:¬(0≤a∧a<b∧b≤1099511627776)):(v+1=0∧s=[])∨(v+1=1∧sf zh s):=by
 obtain⟨rfl,rfl⟩:=adz A G;rcases h with⟨_,rfl⟩|h
 ·exact .inr ⟨ah,cut0_0 ah⟩
 omega
theorem norm1_E{v zh:Int}{s:ak}(h:(v=0∧s=[])∨(v=1∧sf zh s))(z:1≤v):sf zh s:=by
 rcases h with h|h
 ·omega
 exact h.2
theorem norm1_N{v zh:Int}{s:ak}(h:(v=0∧s=[])∨(v=1∧sf zh s))(z:v<1):s=[]:=by
 rcases h with h|h
 ·exact h.2
 omega
def xS(r:List DC):List DC:=r.drop 1
theorem afU{w:ak}:([]:ak)=(w.take (0:Int).toNat).map xS:=by simp
theorem afV{v:Int}{w z:ak}{x a b:DC}(h:w=(z.take v.toNat).map xS)(h0:0≤v)(A:z[v.toNat]?=some [x,a,b]):w++[[a,b]]=(z.take (v+1).toNat).map xS:=by
 rw[nN h0 A,pb,←h];rfl
def Oa(z:Int)(A w:ak):Prop:=eJ w∧∀t,eQ w t↔(0≤t∧t<z∧¬iT A t (t+1))
theorem LU{G:ak}{t:Int}(L:af qb G)(ht:0≤t):vM (G.map xS) t↔iT G t (t+1):=by
 constructor
 ·rintro⟨a,b,m,⟨M,h2,O⟩,h4,h5⟩;obtain⟨r,A,e⟩:=List.mem_map.1 m;obtain⟨q,I,U⟩:=List.mem_iff_getElem.1 A;obtain⟨x,_,rfl,Y,y,_,rfl,Z,z,_,rfl,kz,rfl⟩:=L r A;have e:[y,z]=pW a b:=e;simp only[xC,and_true] at e;obtain⟨rfl,rfl⟩:=e;exact⟨q,_,a,b,by rw[c7 I,U],rfl,rfl,by unfold da;omega⟩
 rintro⟨q,r,a,b,I,M,h2,O⟩;have A:=hZ I;obtain⟨x,_,rfl,Y,y,_,rfl,Z,z,_,rfl,kz,rfl⟩:=L r A
 cases M;cases h2
 unfold da at O;exact⟨a,b,List.mem_map.2 ⟨_,A,aa⟩,⟨ah,ah,ah⟩,ah,ah⟩
theorem fgtS_of{z k:Int}{v w A:ak}(h:oo z v w)(G:v=(A.take k.toNat).map xS)(L:(A.length:Int)≤k)(I:af qb A):Oa z A w:=by
 rw[mq ah] at G;subst G;refine⟨h.1,fun t=>(h.2 t).trans ⟨fun⟨a,b,c⟩=>⟨a,b,fun e=>c ((LU I a).2 e)⟩,fun⟨a,b,c⟩=>⟨a,b,fun e=>c ((LU I a).1 e)⟩⟩⟩
theorem insX{T:aN}(F:FT T){a0:DC}{I:ak}(N5:0≤I.length)(Y:I=[]→a0= .nil)(O:aA I a0)(cK:I.length≤1000000000)(Z:af ep I){aJ:Int}(kJ:(-9223372036854775808)≤aJ)(kK:aJ≤9223372036854775807){bf:Int}(nz:(-9223372036854775808)≤bf)(kL:bf≤9223372036854775807)(Xg:I=[]):Sound T 118 [.d a0,.agg [.d (dJ aJ),.d (dJ bf)]] fun r=>∃y0 M,r= .d y0∧aA M y0∧(M.length:Int)≤1∧af ep M∧1≤(M.length:Int)∧(M=[]→y0= .nil)∧(M=[pW aJ bf]):=by
 refine bj F.ait aa ?_;have kX:I.length=0:=by rw[Xg];rfl
 refine r0 15 aa (dh 5 90 47 16 2 aa aa (bd [4,3,1,0] [3] aa aa (fun e0 b0 k VE B=>∃G A,an ((5,.ac 90 A.length 2)::(6,.d (dJ G))::e0) VE∧an ((90,.acc 47 16 2 A)::b0) B∧k=((I.length:Int) -G).toNat∧(0≤G∧(G≤(I.length:Int)∨G=0))∧((A.length:Int)≤G)∧(af ep A)∧(A=[])) ?_ fin));rintro _ VE B⟨G,A,hV,hB,rfl,bS,cM,U,js⟩;refine aU _ _ hV hB (rc 5 aa (aR (aO aa O ?_)));refine rq 2 aa ?_;refine dw aa ?_ ?_<;>intro h1
 ·exact W
 refine rq 10 aa (eo aa aa (rc 3 aa (bd [20,5,4,3,1,0] [90,3] aa aa (fun e0 b0 k VE B=>∃L,an ((6,.d (dJ L))::e0) VE∧an b0 B∧dP k G L (I.length:Int)) ?_ fin)));rintro _ VE B⟨L,hV,hB,rfl,eU⟩;refine aU _ _ hV hB (rc 5 aa (aR (aO aa O ?_)));refine rq 2 aa ?_;refine dw aa ?_ ?_<;>intro h2
 ·exact W
 refine rq 10 aa (eo aa aa (rc 6 aa (aP aa (aX (rows:=A) (ys:=[[(dJ aJ),(dJ bf)]]) aa aa aa (.bs (rows:=[[(dJ aJ),(dJ bf)]]) aa) ao ae bN bN ?_))));refine rq 2 aa ?_;obtain⟨j3,B5,wy⟩:=bz (z:=L) (n:=I.length+1) ae ae;refine aR (eI (l:=j3) (h:=I.length) rfl O Z rfl Y rfl ⟨_,(by rw[←B5];rfl)⟩ ae ae (fun d4 w4 hd4 Xh OZ=>?_));refine aP aa (aX (rows:=(A++[[(dJ aJ),(dJ bf)]])) (ys:=w4) aa aa aa (.sD hd4 (cO OZ aa)) ao ae (fun h=>absurd h bB) (fun h=>absurd h bB) ?_);refine rq 2 aa (cf 4 90 aa aa (fun _=>⟨aa,aa⟩) (dO 1 aa ?_));exact bI rfl rfl ⟨(.cE ((A++[[(dJ aJ),(dJ bf)]])++w4)),((A++[[(dJ aJ),(dJ bf)]])++w4),rfl,(.acc _),oe,(dC (dC U (dr (aj ai (aj ai bg)))) OZ),ae,(fun h=>by rw[h];rfl),(by rw[(by assumption:A=[])];exact app_nil' ae)⟩
theorem normX{T:aN}(F:FT T){zh:Int}{a0:DC}{G:ak}(Y:aA G a0)(cK:G.length≤1)(bM:af ep G)(hw:G=[pW 0 zh])(hz:0≤zh∧zh≤1000):Sound T 55 [.d a0] fun r=>∃y0 U,r= .d y0∧aA U y0∧(U.length:Int)≤1∧af ep U∧0≤(U.length:Int)∧(U=[]→y0= .nil)∧(sf zh U):=by
 refine bj F.q55 aa ?_;have kX:G.length=1:=by rw[hw];rfl
 refine r0 14 aa ?_;refine bd [2,0] [] rfl rfl (fun e0 b0 k VE B=>∃I A z,an ((3,.d I)::(4,.d (dJ z))::e0) VE∧an b0 B∧k=((G.length:Int) -z).toNat∧(aA A I)∧((A.length:Int)≤1)∧(af ep A)∧(A=[]→I= .nil)∧(0≤z∧(z≤(G.length:Int)∨z=0))∧((z=0∧A=[])∨(z=1∧sf zh A))) ?_ (k:=((G.length:Int) -0).toNat) ⟨DC.nil,[],0,⟨rfl,rfl,rfl,rfl,trivial⟩,trivial,rfl,(.inr ⟨rfl,rfl⟩),ae,bT,(fun _=>rfl),ae,(by first|exact .inl ⟨rfl,rfl⟩|assumption|exact QR hw (by assumption) ae ae (by assumption) (by assumption)|exact QS hw hz (by assumption) ae ae (by assumption) (by assumption))⟩;rintro _ VE B⟨I,A,z,hV,hB,rfl,L,cM,M,O,qM,uc⟩;refine aU _ _ hV hB (aB 5 aa (aO aa Y ?_));refine ro 2 aa ?_;refine au aa ?_ ?_<;>intro g1
 ·refine rc 7 aa ?_;obtain⟨_,⟨Z,rfl,qe,rB⟩,_,⟨lz,rfl,oU,l9⟩,bQ⟩:=qI z bM;refine ax (aI aa aa Y ae bQ aa ?_);refine aK 1 aa (ay aa (GH (aE:=Z) (aJ:=lz) F ae ae ae ae) ?_);rintro _ _⟨jL,rfl,mj⟩;refine ro 1 aa ?_;refine cH aa ?_ ?_<;>intro h4
  ·have k4:=mj.1 (by simpa using h4);refine aB 4 aa (aI aa aa Y ae bQ aa ?_);refine aK 1 aa (ay aa (insX (aJ:=Z) (bf:=lz) F ae O L ae M ae ae ae ae (norm1_N dm ae)) ?_);rintro _ _⟨gV,gR,rfl,jY,qf,jl,rD,qg,hfy5_0⟩;refine aK 4 aa (bC aa aa ae ae ?_);refine cW 2 aa ?_;exact⟨((G.length:Int) -((z+1))).toNat,ae,gV,gR,(z+1),⟨rfl,rfl,rfl,rfl,trivial⟩,trivial,rfl,jY,ae,jl,qg,ae,(by first|exact .inl ⟨rfl,rfl⟩|assumption|exact QR hw (by assumption) ae ae (by assumption) (by assumption)|exact QS hw hz (by assumption) ae ae (by assumption) (by assumption))⟩
  have k4:¬_:=fun p=>absurd (mj.2 p) (by simpa using h4)
  refine aB 3 aa (bC aa aa ae ae ?_);refine cW 2 aa ?_;exact⟨((G.length:Int) -((z+1))).toNat,ae,I,A,(z+1),⟨rfl,rfl,rfl,rfl,trivial⟩,trivial,rfl,L,ae,M,O,ae,(by first|exact .inl ⟨rfl,rfl⟩|assumption|exact QR hw (by assumption) ae ae (by assumption) (by assumption)|exact QS hw hz (by assumption) ae ae (by assumption) (by assumption))⟩
 exact dO 7 aa (bI aa aa ⟨I,A,aa,L,ae,M,ae,O,(norm1_E dm ae)⟩)
theorem subSX{T:aN}(F:FT T){zh:Int}{a0 a1:DC}{bP:ak}(cr:aA bP a0)(cK:bP.length≤1)(bM:af ep bP){M:ak}(cN:aA M a1)(df:M.length≤13)(cb:af ep M)(hw:bP=[pW 0 zh])(hz:0≤zh∧zh≤1000):Sound T 26 [.d a0,.d a1] fun r=>∃y0 bu,r= .d y0∧aA bu y0∧(bu.length:Int)≤8192∧af ep bu∧0≤(bu.length:Int)∧(oo zh M bu):=by
 refine bj F.q26 aa (r0 6 aa ?_);have k0:=aiS;refine gz 1 aa (ay aa (normX (zh:=zh) F cr ae bM hw hz) ?_);rintro _ _⟨ez,fg,rfl,gL,jE,fy,lu,mT,adD⟩;refine ro 8 aa ?_;refine bd [4,1,0] [] rfl rfl (fun e0 b0 k VE B=>∃U A G,an ((5,.d U)::(6,.d (dJ G))::e0) VE∧an b0 B∧k=((M.length:Int) -G).toNat∧(aA A U)∧((A.length:Int)≤dd G)∧(af ep A)∧(A=[]→U= .nil)∧(0≤G∧(G≤(M.length:Int)∨G=0))∧(oo zh (M.take G.toNat) A)) ?_ (k:=((M.length:Int) -0).toNat) ⟨ez,fg,0,⟨rfl,rfl,rfl,rfl,rfl,trivial⟩,trivial,rfl,gL,ae,fy,mT,ae,(by first|exact adA (by assumption)|assumption|exact oo.step (by assumption) (by assumption) ae ae (by assumption))⟩;rintro _ VE B⟨U,A,G,hV,hB,rfl,O,cM,Y,RX,qM,uc⟩;refine aU _ _ hV hB (rc 4 aa ?_);have k9:=afT (z:=G) ae ae;refine gz 1 aa (aO aa cN ?_);refine ro 2 aa ?_;refine au aa ?_ ?_<;>intro g2
 ·refine rc 5 aa ?_;obtain⟨_,⟨AM,rfl,GG,CW⟩,_,⟨Dr,rfl,adp,adq⟩,fD⟩:=qI G cb;have k1:=N' (z:=G) ae;refine rp 8 aa (dh 7 90 47 16 2 aa aa ?_);refine bd [14,6,5,4,1,0] [] rfl rfl (fun e0 b0 k VE B=>∃I L,an ((7,.ac 90 L.length 2)::(8,.d (dJ I))::e0) VE∧an ((90,.acc 47 16 2 L)::b0) B∧k=((A.length:Int) -I).toNat∧(0≤I∧(I≤(A.length:Int)∨I=0))∧((L.length:Int)≤2*I)∧(af ep L)∧(vN A I AM Dr L)) ?_ (k:=((A.length:Int) -0).toNat) ⟨0,[],⟨rfl,rfl,rfl,rfl,rfl,rfl,rfl,rfl,trivial⟩,⟨rfl,trivial⟩,rfl,ae,cJ,bT,(by first|exact adB|assumption|exact vN.step (by assumption) (by assumption) ae ae (by assumption) (by assumption))⟩;rintro _ VE B⟨I,L,hV,hB,rfl,eU,fO,Z,En⟩;refine aU _ _ hV hB (aB 5 aa (aO aa O ?_));refine ro 2 aa ?_;refine au aa ?_ ?_<;>intro g4
  ·refine rc 7 aa ?_;obtain⟨_,⟨tu,rfl,xj,xk⟩,_,⟨Du,rfl,CX,CY⟩,eW⟩:=qI I Y;refine aR (aI aa aa O ae eW aa ?_);refine cD aa aa (gm aa (aS aa) (aS aa) ?_);refine cZ 2 aa (aI aa aa cN ae fD aa ?_);refine cD aa aa (gm aa (aS aa) (aS aa) ?_);refine aP aa (ay aa (subX (aE:=tu) (aJ:=Du) (bf:=AM) (aW:=Dr) F ae ae ae ae ae ae ae ae) ?_);rintro _ _⟨kD,nZ,rfl,oW,xm,ma,RZ,hfy6_0⟩;refine aP rfl (aX (rows:=L) (ys:=nZ) rfl rfl rfl (.sD oW (cO ma rfl)) ao ae (fun h=>by rw[h];rfl) (fun h=>by rw[h];rfl) ?_);obtain⟨_,⟨zx7_0,rfl,hzx7_0,kzx7_0⟩,_,⟨TU,rfl,hzx7_1,kzx7_1⟩,eV⟩:=qI G cb;have k1:=N' (z:=G) ae;refine rq 4 aa (ax (bC aa aa ae ae ?_));refine cW 2 aa ?_;exact⟨((A.length:Int) -((I+1))).toNat,ae,(I+1),(L++nZ),⟨rfl,rfl,rfl,rfl,rfl,rfl,rfl,rfl,trivial⟩,⟨rfl,trivial⟩,rfl,ae,cJ,(dC Z ma),(by first|exact adB|assumption|exact vN.step (by assumption) (by assumption) ae ae (by assumption) (by assumption))⟩
  refine rc 1 aa (cf 7 90 aa aa (fun _=>⟨aa,aa⟩) (aB 6 aa (bC aa aa ae ae ?_)));refine cW 2 aa ?_;exact⟨((M.length:Int) -((G+1))).toNat,ae,(.cE L),L,(G+1),⟨rfl,rfl,rfl,rfl,rfl,trivial⟩,trivial,rfl,(.acc _),ae,Z,(fun h=>by rw[h];rfl),ae,(by first|exact adA (by assumption)|assumption|exact oo.step (by assumption) (by assumption) ae ae (by assumption))⟩
 refine dO 7 aa ?_;exact bI rfl rfl ⟨U,A,rfl,O,ae,Y,ae,(by exact oo.fin (by assumption) ae)⟩
theorem forgR{T:aN}(F:FT T){a0 a1 a2 a4 a5:DC}(cU:(Ty.x).ok a0)(bW:(Ty.x).ok a1)(cG:(Ty.x).ok a2){aW:Int}(gi:0≤aW)(gj:aW≤1000){G:ak}(Z:aA G a4)(fu:G.length≤13)(dg:af qb G)(cl:(Ty.x).ok a5):Sound T 11 [.agg [.d a0,.d a1,.d a2,.d (dJ aW),.d a4,.d a5]] fun r=>∃y0 O,r= .d y0∧aA O y0∧(O.length:Int)≤8192∧af ep O∧0≤(O.length:Int)∧(Oa aW G O):=by
 refine bj F.q11 aa (r0 15 aa (dh 3 90 47 16 2 aa aa (bd [2,1,0] [1] aa aa (fun e0 b0 k VE B=>∃z A,an ((3,.ac 90 A.length 2)::(4,.d (dJ z))::e0) VE∧an ((90,.acc 47 16 2 A)::b0) B∧k=((G.length:Int) -z).toNat∧(0≤z∧(z≤(G.length:Int)∨z=0))∧((A.length:Int)≤z)∧(af ep A)∧(A=(G.take z.toNat).map xS)) ?_ fin)));rintro _ VE B⟨z,A,hV,hB,rfl,bS,cM,M,js⟩;refine aU _ _ hV hB (aB 6 aa (aO aa Z ?_));refine ro 2 aa ?_;refine au aa ?_ ?_<;>intro g1
 ·refine rc 8 aa ?_;obtain⟨gW,iG,_,⟨I,rfl,oU,l9⟩,_,⟨L,rfl,uX,uY⟩,bQ⟩:=qI z dg;refine ax (aI aa aa Z ae bQ aa ?_);refine ro 3 aa ?_;refine ax (aX (rows:=A) (ys:=[[(dJ I),(dJ L)]]) rfl rfl rfl (.bs (rows:=[[(dJ I),(dJ L)]]) rfl) ao ae (fun h=>by rw[h];rfl) (fun h=>by rw[h];rfl) ?_);refine aK 4 aa (bC aa aa ae ae ?_);refine cW 2 aa ?_;exact⟨((G.length:Int) -((z+1))).toNat,ae,(z+1),(A++[[(dJ I),(dJ L)]]),⟨rfl,rfl,rfl,rfl,rfl,trivial⟩,⟨rfl,rfl,trivial⟩,rfl,ae,cJ,(dC M (dr (aj ai (aj ai bg)))),(by first|exact afU|assumption|exact afV (by assumption) ae (by assumption))⟩
 refine rc 1 aa (cf 3 90 aa aa (fun _=>⟨aa,aa⟩) (rc 7 aa ?_));have oF:af ep [[i0,(dJ aW)]]:=(cA (aj ai (aj ai bg)) bT);refine eT 24 24 aa aa (fun _=>⟨aa,aa⟩) (ax (ay aa (subSX (zh:=aW) F (.inl aa) ae oF (.acc _) ae M aa ae) ?_));rintro _ _⟨fJ,jH,rfl,U,th,Y,xn,hfy4_0⟩;exact et 3 aa (bI aa aa ⟨fJ,jH,aa,U,ae,Y,ae,(fgtS_of dm dm ae dg)⟩)
end Go.Ev.Rp
namespace Go.Ev.Rp
open Go Go.Ev.Pp
attribute [local irreducible] VC VO VQ VI Sound cm
def kT(v:Int)(w0 w:ak):Prop:=(∀r,r∈w→∃a b,r=pW a b∧fx a b)∧∀t,eQ w t↔vM (w0.take v.toNat) t
theorem R0{w0:ak}:kT 0 w0 []:=⟨fun _ h=>(by cases h),fun t=>⟨fun k=>(oP k).elim,fun⟨_,_,m,_⟩=>by simp at m⟩⟩
theorem aas{w:ak}{a b t:Int}:vM (w++[pW a b]) t↔vM w t∨(fx a b∧a≤t∧t<b):=by
 constructor
 ·rintro⟨c,d,m,k⟩;rcases List.mem_append.1 m with m|m
  ·exact .inl ⟨c,d,m,k⟩
  obtain⟨rfl,rfl⟩:=iD (List.mem_singleton.1 m);exact .inr k
 rintro(⟨c,d,m,k⟩|k)
 ·exact⟨c,d,List.mem_append.2 (.inl m),k⟩
 exact⟨a,b,List.mem_append.2 (.inr (List.mem_singleton.2 aa)),k⟩
theorem kT.T{v a b:Int}{w0 w:ak}(h:kT v w0 w)(h0:0≤v)(G:w0[v.toNat]?=some (pW a b))(A:0≤a∧a<b∧b≤1099511627776):kT (v+1) w0 (w++[pW a b]):=by
 rw[kT,nN h0 G];refine⟨fun r z=>?_,fun t=>?_⟩
 ·rcases List.mem_append.1 z with z|z
  ·exact h.1 r z
  exact⟨a,b,List.mem_singleton.1 z,A⟩
 rw[mS,aas,h.2 t];exact or_congr gS ⟨fun k=>⟨A,k⟩,fun k=>k.2⟩
theorem kT.F{v a b:Int}{w0 w:ak}(h:kT v w0 w)(h0:0≤v)(z:w0[v.toNat]?=some (pW a b))(A:¬(0≤a∧a<b∧b≤1099511627776)):kT (v+1) w0 w:=by
 rw[kT,nN h0 z];refine⟨h.1,fun t=>?_⟩;rw[aas,h.2 t];exact⟨.inl,fun k=>k.resolve_right fun k=>A k.1⟩
def lN(v:Int)(w o:ak):Prop:=eJ o∧(∀t,eQ o t↔eQ (w.take v.toNat) t)∧∀a b,pW a b∈o→∃z,pW a z∈w.take v.toNat
theorem adE{w:ak}:lN 0 w []:=⟨wN,fun t=>⟨fun k=>(oP k).elim,fun⟨_,_,m,_⟩=>by simp at m⟩,fun _ _ m=>by cases m⟩
theorem lN.app{v c d:Int}{w o:ak}(h:lN v w o)(h0:0≤v)(A:w[v.toNat]?=some (pW c d))(G:ny o c)(z:c<d):lN (v+1) w (o++[pW c d]):=by
 rw[lN,nN h0 A];refine⟨h.1.app G z,fun t=>?_,fun a b m=>?_⟩
 ·rw[mS,mS,h.2.1 t]
 rcases List.mem_append.1 m with m|m
 ·obtain⟨I,k⟩:=h.2.2 a b m;exact⟨I,List.mem_append.2 (.inl k)⟩
 obtain⟨rfl,rfl⟩:=iD (List.mem_singleton.1 m);exact⟨_,List.mem_append.2 (.inr (List.mem_singleton.2 aa))⟩
theorem up_nil{o:ak}{c:Int}(h:(o.length:Int)≤0):ny o c:=by
 rw[o8 (l:=o) ah];exact Gb
theorem last_eq{α:Type}{o:List α}{j:Nat}{r:α}(z:o[j]?=some r)(G:j+1=o.length):o=o.take j++[r]:=by
 have A:=(List.getElem?_eq_some_iff.1 z).1
 conv=>lhs;rw[←DT j o]
 rw[IA A,(List.getElem?_eq_some_iff.1 z).2,UR ah]
theorem up_last{o:ak}{j:Nat}{a b c:Int}(h:eJ o)(z:o[j]?=some (pW a b))(O:j+1=o.length)(A:b<c):ny o c:=fun x y m=>by
 obtain⟨q,G,e⟩:=List.mem_iff_getElem.1 m;rcases US q j with k|k
 ·have:=eJ.lt h k (by rw[c7 G,e]) z;obtain⟨U,Y,I,L⟩:=h.1 _ (hZ z);obtain⟨rfl,rfl⟩:=iD I;omega
 have:q=j:=by omega
 subst this;have M:=(List.getElem?_eq_some_iff.1 z).2;obtain⟨rfl,rfl⟩:=iD (e.symm.trans M);exact A
theorem lN.set{v a b c d z n:Int}{j:Nat}{w o:ak}(h:lN v w o)(h0:0≤v)(O:w[v.toNat]?=some (pW c d))(Z:og w n)(hn:v<n)(A:o[j]?=some (pW a b))(hl:j+1=o.length)(JY:c≤b)(hcd:c<d)(hz:b≤z∧d≤z∧(z=b∨z=d)):lN (v+1) w (o.set j (pW a z)):=by
 have e:=last_eq A hl;have I:(o.take j).length=j:=by rw[lF];omega
 have e2:o.set j (pW a z)=o.take j++[pW a z]:=by
  conv=>lhs;rw[e]
  rw[afv _ _ ah,I,Nat.sub_self];rfl
 have hac:a≤c:=by
  obtain⟨G,m⟩:=h.2.2 a b (hZ A);obtain⟨q,L,U⟩:=List.mem_iff_getElem.1 m;rw[lF] at L;rw[Mq] at U;have k:=Z q v.toNat ah ah;rw[ts O,ts (show w[q]?=some (pW a G) by rw[c7 ah,U])] at k;exact k
 have hab:a<b:=by
  obtain⟨x,y,e4,k⟩:=h.1.1 _ (hZ A);obtain⟨rfl,rfl⟩:=iD e4;exact k
 have M:eJ (o.take j):=⟨fun r hr=>h.1.1 r (yh hr),h.1.2.sublist (Mp _ _)⟩;have hu:ny (o.take j) a:=fun x y m=>by
  obtain⟨q,L,Y⟩:=List.mem_iff_getElem.1 m;rw[lF] at L;rw[Mq] at Y;exact eJ.lt h.1 (i:=q) (j:=j) ah (by rw[c7 ah,Y]) A
 rw[lN,nN h0 O,e2];refine⟨M.app hu ah,fun t=>?_,fun x y m=>?_⟩
 ·have k:=h.2.1 t;rw[e,mS] at k;rw[mS,mS,←k];constructor
  ·rintro(p|p)
   ·exact .inl (.inl p)
   by_cases q:t<b
   ·exact .inl (.inr ah)
   exact .inr ah
  rintro((p|p)|p)
  ·exact .inl p
  ·exact .inr ah
  exact .inr ah
 rcases List.mem_append.1 m with m|m
 ·obtain⟨G,k⟩:=h.2.2 x y (yh m);exact⟨G,List.mem_append.2 (.inl k)⟩
 obtain⟨rfl,rfl⟩:=iD (List.mem_singleton.1 m);obtain⟨G,k⟩:=h.2.2 x b (hZ A);exact⟨G,List.mem_append.2 (.inl k)⟩
def Ob(w0 o:ak):Prop:=eJ o∧∀t,eQ o t↔vM w0 t
theorem gH.eQ{v w:ak}(h:gH v w)(t:Int):eQ v t↔eQ w t:=⟨fun⟨a,b,m,k⟩=>⟨a,b,(h _).1 m,k⟩,fun⟨a,b,m,k⟩=>⟨a,b,(h _).2 m,k⟩⟩
theorem Lc{k n:Int}{w0 w3 w o:ak}(h:kT k w0 w3)(G:(w0.length:Int)≤k)(A:gH w w3)(z:lN n w o)(I:(w.length:Int)≤n):Ob w0 o:=by
 refine⟨z.1,fun t=>(z.2.1 t).trans ?_⟩;rw[mq ah,gH.eQ A t,h.2 t,mq ah]
theorem R1{k a b:Int}{j:Nat}{w0 w3 w:ak}(h:kT k w0 w3)(z:gH w w3)(A:w[j]?=some (pW a b)):fx a b:=by
 obtain⟨c,d,e,k⟩:=h.1 _ ((z _).1 (hZ A));obtain⟨rfl,rfl⟩:=iD e;exact k
theorem afW{T:aN}(F:FT T){a0:DC}{Y:ak}(cr:aA Y a0)(cK:Y.length≤12)(bM:af ep Y):Sound T 54 [.d a0] fun r=>∃y0 bu,r= .d y0∧aA bu y0∧(bu.length:Int)≤Y.length∧af ep bu∧0≤(bu.length:Int)∧(Ob Y bu):=by
 refine bj F.q54 aa (bY 13 aa (aO aa cr ?_));refine ro 3 aa (dh 3 90 47 16 2 aa aa ?_);refine bd [11,10,4,2,0] [] rfl rfl (fun e0 b0 k VE B=>∃I L,an ((3,.ac 90 L.length 2)::(12,.d (dJ I))::e0) VE∧an ((90,.acc 47 16 2 L)::b0) B∧k=((Y.length:Int) -I).toNat∧(0≤I∧(I≤(Y.length:Int)∨I=0))∧((L.length:Int)≤I)∧(af ep L)∧(kT I Y L)) ?_ (k:=((Y.length:Int) -0).toNat) ⟨0,[],⟨rfl,rfl,rfl,rfl,rfl,rfl,rfl,trivial⟩,⟨rfl,trivial⟩,rfl,ae,cJ,bT,(by first|exact R0|exact kT.T (by assumption) ae (by assumption) (by assumption)|exact kT.F (by assumption) ae (by assumption) (by assumption))⟩;rintro _ VE B⟨I,L,hV,hB,rfl,bS,cM,xo,js⟩;refine aU _ _ hV hB (rc 5 aa ?_);refine au aa ?_ ?_<;>intro g1
 ·refine rc 5 aa ?_;obtain⟨_,⟨ka,rfl,qe,rB⟩,_,⟨lz,rfl,oU,l9⟩,bQ⟩:=qI I bM;refine ax (aI aa aa cr ae bQ aa ?_);refine aK 7 aa (ay aa (adr (aE:=ka) (aJ:=lz) F ae ae ae ae) ?_);rintro _ _⟨jL,rfl,mj⟩;refine ro 1 aa ?_;refine cH aa ?_ ?_<;>intro h4
  ·have k4:=mj.1 (by simpa using h4);refine aB 4 aa (aX (rows:=L) (ys:=[[(dJ ka),(dJ lz)]]) aa aa aa (.bs (rows:=[[(dJ ka),(dJ lz)]]) aa) ao ae bN bN ?_);refine aK 3 aa (bC aa aa ae ae ?_);refine cW 2 aa ?_;exact⟨((Y.length:Int) -((I+1))).toNat,ae,(I+1),(L++[[(dJ ka),(dJ lz)]]),⟨rfl,rfl,rfl,rfl,rfl,rfl,rfl,trivial⟩,⟨rfl,trivial⟩,rfl,ae,cJ,(dC xo (dr (aj ai (aj ai bg)))),(by first|exact R0|exact kT.T (by assumption) ae (by assumption) (by assumption)|exact kT.F (by assumption) ae (by assumption) (by assumption))⟩
  have k4:¬_:=fun p=>absurd (mj.2 p) (by simpa using h4)
  refine aB 2 aa (bC aa aa ae ae ?_);refine cW 2 aa ?_;exact⟨((Y.length:Int) -((I+1))).toNat,ae,(I+1),L,⟨rfl,rfl,rfl,rfl,rfl,rfl,rfl,trivial⟩,⟨rfl,trivial⟩,rfl,ae,ae,xo,(by first|exact R0|exact kT.T (by assumption) ae (by assumption) (by assumption)|exact kT.F (by assumption) ae (by assumption) (by assumption))⟩
 refine rc 4 aa ?_;rcases NA (L=[]) with J4|J4
 ·subst J4;refine zQ 3 (dN) aa (fun H X β a _ h=>LO h) (zQ 23 (dN) aa (fun H X β a _ h=>LO h) (zN 90 (ax (ay aa (sortN2 F) (fun r6 _ hp6=>?_)))));refine ro 9 aa (dh 4 91 47 16 2 aa aa ?_);refine bd [26,25,13,12,11,10,3,2,0] [] rfl rfl (fun e0 b0 k VE B=>∃A G,an ((4,.ac 91 G.length 2)::(27,.d (dJ A))::e0) VE∧an ((91,.acc 47 16 2 G)::b0) B∧k=((0:Int) -A).toNat∧(0≤A∧(A≤0∨A=0))∧((G.length:Int)≤A)∧(af ep G)∧(lN A ([]:ak) G)) ?_ (k:=((0:Int) -0).toNat) ⟨0,[],⟨rfl,rfl,rfl,rfl,rfl,rfl,rfl,rfl,rfl,rfl,rfl,trivial⟩,⟨rfl,trivial⟩,rfl,ae,cJ,bT,(by first|exact adE|exact km)⟩;rintro _ VE B⟨A,G,hV,hB,rfl,eU,fO,M,En⟩;refine aU _ _ hV hB (rc 5 aa ?_);refine au aa ?_ ?_<;>intro h7
  ·exact W
  refine rc 6 aa (cf 2 91 aa aa (fun _=>⟨aa,aa⟩) (dO 1 aa ?_));exact bI rfl rfl ⟨(.cE G),G,rfl,(.acc _),ae,M,ae,(by first|exact Lc (by assumption) ae (Hx (by assumption:gH _ _∧og _ _)) (by assumption) ae|exact Lc (w3:=[]) (w:=[]) (by assumption) ae gH.refl (by assumption) ae)⟩
 have hw1:1≤(L.length:Int):=Int.ofNat_le.2 (List.length_pos_iff.2 J4);refine ax (mM (dj:=[.ac 1001 L.length 2,.fn 116 []]) (Bi:=[(1001,.acc 47 16 2 L)]) [(1001,90)] 2000 aa aa aa aa aa aa aa ⟨aa,aa,trivial⟩ (sortY F xo ae ae) ?_);rintro _ _⟨w8,rfl,wA,uu,O0⟩;refine zQ 3 (.ac 90 w8.length 2) rfl (fun H X β a _ h=>by rw[uu];exact h) ?_;refine ro 9 aa (dh 4 91 47 16 2 aa aa ?_);refine bd [26,25,13,12,11,10,3,2,0] [90] rfl rfl (fun e0 b0 k VE B=>∃A G,an ((4,.ac 91 G.length 2)::(27,.d (dJ A))::e0) VE∧an ((91,.acc 47 16 2 G)::b0) B∧k=((w8.length:Int) -A).toNat∧(0≤A∧(A≤(w8.length:Int)∨A=0))∧((G.length:Int)≤A)∧(af ep G)∧(lN A w8 G)) ?_ (k:=((w8.length:Int) -0).toNat) ⟨0,[],⟨rfl,rfl,rfl,rfl,rfl,rfl,rfl,rfl,rfl,rfl,rfl,trivial⟩,⟨rfl,rfl,trivial⟩,rfl,ae,cJ,bT,(by first|exact adE|exact km)⟩;rintro _ VE B⟨A,G,hV,hB,rfl,eU,fO,M,En⟩;refine aU _ _ hV hB (rc 5 aa ?_);refine au aa ?_ ?_<;>intro g9
 ·refine rc 5 aa ?_;obtain⟨B9,vP,ou⟩:=bz (z:=A) (n:=w8.length) ae ae;obtain⟨_,⟨O,rfl,abj,abk⟩,_,⟨U,rfl,hzx10_1,kzx10_1⟩,Z⟩:=qN ou wA;refine ax (cX rfl (by rw[←vP];rfl) ou ?_);refine ax (Cn (rows:=w8) aa aa Z (aS aa) (aS aa) ?_);refine ro 15 aa ?_;refine dw aa ?_ ?_<;>intro ld
  ·refine rq 4 aa (ca aa aa (dq aa aa ae ae ?_));obtain⟨J5,vQ,sj⟩:=bz (z:=((G.length:Int) -1)) (n:=G.length) ae ae;obtain⟨_,⟨adF,rfl,abl,abm⟩,_,⟨zx12_1,rfl,hzx12_1,kzx12_1⟩,gI⟩:=qN sj M;refine ca rfl rfl (cX rfl (by rw[←vQ];rfl) sj ?_);refine rq 1 aa (eL aa aa aa (eX (rows:=G) aa aa gI aa ?_));refine rq 3 aa ?_;refine au aa ?_ ?_<;>intro sK
   ·refine rc 4 aa (aR (dq aa aa ae ae ?_));refine cZ 2 aa (dq aa aa ae ae ?_);obtain⟨oG,sk,pA⟩:=bz (z:=((G.length:Int) -1)) (n:=G.length) ae ae;obtain⟨_,⟨C4,rfl,Gd,Ge⟩,_,⟨Ai,rfl,QP,QQ⟩,gX⟩:=qN pA M;refine aR (cX rfl (by rw[←sk];rfl) pA ?_);refine rq 1 aa (aP aa (eX (rows:=G) aa aa gX aa ?_));refine cZ 2 aa (pZ aa aa (fun z15 aiT=>?_));obtain⟨jQ,pB,pC⟩:=bz (z:=((G.length:Int) -1)) (n:=G.length) ae ae;obtain⟨AQ,GK,_,⟨zx16_1,rfl,hzx16_1,kzx16_1⟩,qR⟩:=qN pC M;refine aR (cX rfl (by rw[←pB];rfl) pC ?_);refine rq 1 aa (gK aa (fZ aa aa aa aa aa aa ao ao qR (fun sL Oc Ew=>?_)));have aiU:af ep sL:=by rw[Oc];exact e8 M (aj GK (aj ai bg))
    rw[←Ew];refine rq 3 aa ?_;obtain⟨zx16_0,rfl,hzx16_0,kzx16_0⟩:=Ty.dH GK;have pv:=R1 dm O0.1 Z;unfold fx at pv;have e41:=iD (Mo (qR.symm.trans ((congrArg (fun q:Nat=>G[q]?) (show jQ=J5 by omega)).trans gI)));have e52:=iD (Mo (qR.symm.trans ((congrArg (fun q:Nat=>G[q]?) (show jQ=oG by omega)).trans gX)));have km:lN (A+1) w8 sL:=by
     rw[Oc];exact lN.set dm ae (show w8[A.toNat]?=some _ by rw[show A.toNat=B9 by omega];exact Z) O0.2 ae qR ae ah ah ah
    exact W
   refine rc 2 aa (gz 3 aa (aX (rows:=G) (ys:=[[(dJ O),(dJ U)]]) aa aa aa (.bs (rows:=[[(dJ O),(dJ U)]]) aa) ao ae bN bN ?_));refine ro 3 aa ?_;have pv:=R1 dm O0.1 Z;unfold fx at pv;have km:=lN.app dm ae (show w8[A.toNat]?=some _ by rw[show A.toNat=B9 by omega];exact Z) (up_last (by assumption:lN _ _ _).1 gI ae ah) ah;exact W
  refine rq 11 aa (eo aa aa (rc 2 aa (gz 3 aa (aX (rows:=G) (ys:=[[(dJ O),(dJ U)]]) aa aa aa (.bs (rows:=[[(dJ O),(dJ U)]]) aa) ao ae bN bN ?_))));refine ro 3 aa ?_;have pv:=R1 dm O0.1 Z;unfold fx at pv;have km:=lN.app dm ae (show w8[A.toNat]?=some _ by rw[show A.toNat=B9 by omega];exact Z) (up_nil ae) ah;exact W
 refine rc 6 aa (cf 2 91 aa aa (fun _=>⟨aa,aa⟩) (dO 1 aa ?_));exact bI rfl rfl ⟨(.cE G),G,rfl,(.acc _),ae,M,ae,(by first|exact Lc (by assumption) ae (Hx (by assumption:gH _ _∧og _ _)) (by assumption) ae|exact Lc (w3:=[]) (w:=[]) (by assumption) ae gH.refl (by assumption) ae)⟩
end Go.Ev.Rp
namespace Go.Ev.Rp
open Go Go.Ev.Pp
attribute [local irreducible] VC VO VQ VI Sound cm
def kU(j at' z p1:Int)(A prev w:ak):Prop:=eJ w∧(∀t,eQ w t↔eQ prev t∨(z≤t∧t<at'∧t<p1∧¬eQ (A.take j.toNat) t))∧(∀t,eQ (A.take j.toNat) t→z≤t→t<p1→t<at')∧z≤at'∧ny w at'∧(at'=z∨∃c,pW c at'∈A.take j.toNat)∧∀x y,pW x y∈w→pW x y∈prev∨y≤p1
def Bs(v:Int)(z G w:ak):Prop:=eJ w∧(∀t,eQ w t↔eQ (z.take v.toNat) t∧¬eQ G t)∧∀x y,pW x y∈w→∃I A,pW I A∈z.take v.toNat∧y≤A
theorem cutO_0{z A:ak}:Bs 0 z A []:=⟨wN,fun t=>⟨fun k=>(oP k).elim,fun⟨⟨_,_,m,_⟩,_⟩=>by simp at m⟩,fun x y k=>by cases k⟩
theorem QT{w:ak}{v:Int}{a b c d:Int}(z:eJ w)(h0:0≤v)(A:w[v.toNat]?=some (pW c d))(m:pW a b∈w.take v.toNat):b<c:=by
 obtain⟨q,G,e⟩:=List.mem_iff_getElem.1 m;rw[lF] at G;rw[Mq] at e;exact eJ.lt z (i:=q) (j:=v.toNat) ah (by rw[c7 ah,e]) A
theorem afX{w:ak}{j:Nat}{c d:Int}(z:eJ w)(A:w[j]?=some (pW c d)):c<d:=by
 obtain⟨a,b,e,k⟩:=z.1 _ (hZ A);obtain⟨rfl,rfl⟩:=iD e;exact k
theorem cutA_0{v z p1:Int}{A I w:ak}(h:Bs v A I w)(G:eJ A)(h0:0≤v)(L:A[v.toNat]?=some (pW z p1)):kU 0 z z p1 I w w:=
 ⟨h.1,fun t=>⟨.inl,fun k=>k.elim id fun k=>by omega⟩,fun t⟨_,_,m,_⟩=>by simp at m,mb _,fun x y m=>by
  obtain⟨O,U,M,k⟩:=h.2.2 x y m;have:=QT G h0 L M
  omega,.inl rfl,fun x y m=>.inl m⟩
theorem Gf{c d t:Int}:eQ [pW c d] t↔(c≤t∧t<d):=(mS (w:=[])).trans ⟨fun k=>k.resolve_left oP,.inr⟩
theorem kU.skip{j a L p1 c d:Int}{G prev w:ak}(h:kU j a L p1 G prev w)(A:eJ G)(h0:0≤j)(M:G[j.toNat]?=some (pW c d))(z:d≤a∨p1≤c):kU (j+1) a L p1 G prev w:=by
 obtain⟨h1,h2,h3,h4,h5,I,h7⟩:=h;have hcd:=afX A M;have ha:d≤a→a=L:=fun k=>by
  rcases I with I|⟨x,m⟩
  ·exact I
  have:=QT A h0 M m;omega
 rw[kU,nN h0 M];refine⟨h1,fun t=>(h2 t).trans ?_,fun t m k l=>?_,h4,h5,I.imp id fun⟨x,m⟩=>⟨x,List.mem_append.2 (.inl m)⟩,h7⟩
 ·rw[zu,Gf];constructor
  ·rintro(k|⟨O,U,Y,Z⟩)
   ·exact .inl k
   refine .inr ⟨O,U,Y,fun m=>m.elim Z fun m=>?_⟩;rcases z with z|z
   ·have:=ha z;omega
   omega
  rintro(k|⟨O,U,Y,Z⟩)
  ·exact .inl k
  exact .inr ⟨O,U,Y,fun m=>Z (.inl m)⟩
 rcases zu.1 m with m|m
 ·exact h3 t m k l
 have:=Gf.1 m;rcases z with z|z<;>omega
theorem kU.step{j a M p1 c d:Int}{z prev w v:ak}(h:kU j a M p1 z prev w)(A:eJ z)(h0:0≤j)(O:z[j.toNat]?=some (pW c d))(nr:¬d≤a)(WT:¬p1≤c)(G:(a<c∧v=w++[pW a c])∨(¬a<c∧v=w)):kU (j+1) d M p1 z prev v:=by
 obtain⟨h1,h2,h3,h4,U,Y,h7⟩:=h;have Z:=afX A O;have ha:¬a<c→a=M:=fun k=>by
  rcases Y with Y|⟨x,m⟩
  ·exact Y
  have:=QT A h0 O m;omega
 have mE:∀t,eQ v t↔eQ w t∨(a≤t∧t<c):=fun t=>by
  rcases G with⟨k,rfl⟩|⟨k,rfl⟩
  ·exact mS
  exact⟨.inl,fun m=>m.resolve_right ah⟩
 rw[kU,nN h0 O];refine⟨?_,fun t=>?_,fun t m k l=>?_,ah,?_,.inr ⟨c,List.mem_append.2 (.inr (List.mem_singleton.2 aa))⟩,?_⟩
 ·rcases G with⟨k,rfl⟩|⟨k,rfl⟩
  ·exact h1.app U k
  exact h1
 ·rw[mE t,h2 t,zu,Gf];constructor
  ·rintro((k|⟨I,k2,k3,L⟩)|⟨I,k2⟩)
   ·exact .inl k
   ·refine .inr ⟨I,ah,k3,fun m=>m.elim L fun m=>?_⟩
    by_cases q:a<c
    ·omega
    have:=ha q;omega
   refine .inr ⟨ah,ah,ah,fun m=>m.elim (fun m=>?_) fun m=>by omega⟩;have:=h3 t m ah ah;omega
  rintro(k|⟨I,k2,k3,L⟩)
  ·exact .inl (.inl k)
  have n1:¬eQ (z.take j.toNat) t:=fun m=>L (.inl m)
  have n2:¬(c≤t∧t<d):=fun m=>L (.inr m)
  by_cases q:t<a
  ·exact .inl (.inr ⟨I,q,k3,n1⟩)
  exact .inr ah
 ·rcases zu.1 m with m|m
  ·have:=h3 t m k l;omega
  have:=Gf.1 m;omega
 ·rcases G with⟨k,rfl⟩|⟨k,rfl⟩
  ·exact(U.mono ah).app Z
  exact U.mono ah
 rcases G with⟨k,rfl⟩|⟨k,rfl⟩
 ·intro x y m;rcases List.mem_append.1 m with m|m
  ·exact h7 x y m
  obtain⟨rfl,rfl⟩:=iD (List.mem_singleton.1 m);exact .inr ah
 exact h7
theorem kU.fin{j v a M p1:Int}{O L prev w u:ak}(h:kU j a M p1 L prev w)(hj:(L.length:Int)≤j)(ho:Bs v O L prev)(h0:0≤v)(hg:O[v.toNat]?=some (pW M p1))(U:(a<p1∧u=w++[pW a p1])∨(¬a<p1∧u=w)):Bs (v+1) O L u:=by
 obtain⟨Y,h2,Z,h4,h5,h6,h7⟩:=h;rw[mq ah] at h2 Z;rw[Bs,nN h0 hg];refine⟨?_,fun t=>?_,?_⟩
 ·rcases U with⟨k,rfl⟩|⟨k,rfl⟩
  ·exact Y.app h5 k
  exact Y
 ·have e:eQ u t↔eQ prev t∨(M≤t∧t<p1∧¬eQ L t):=by
   rcases U with⟨k,rfl⟩|⟨k,rfl⟩
   ·rw[mS,h2 t];constructor
    ·rintro((m|⟨z,I,A,G⟩)|⟨z,I⟩)
     ·exact .inl m
     ·exact .inr ⟨z,A,G⟩
     exact .inr ⟨ah,I,fun m=>by have:=Z t m ah I;omega⟩
    rintro(m|⟨z,A,G⟩)
    ·exact .inl (.inl m)
    by_cases q:t<a
    ·exact .inl (.inr ⟨z,q,A,G⟩)
    exact .inr ah
   rw[h2 t];exact or_congr gS ⟨fun⟨z,I,A,G⟩=>⟨z,A,G⟩,fun⟨z,A,G⟩=>⟨z,ah,A,G⟩⟩
  rw[e,ho.2.1 t,zu,Gf];constructor
  ·rintro(⟨m,k⟩|⟨z,I,A⟩)
   ·exact⟨.inl m,k⟩
   exact⟨.inr ⟨z,I⟩,A⟩
  rintro⟨m|m,k⟩
  ·exact .inl ⟨m,k⟩
  exact .inr ⟨m.1,m.2,k⟩
 have k7:∀x y,pW x y∈u→pW x y∈prev∨y≤p1:=by
  rcases U with⟨k,rfl⟩|⟨k,rfl⟩
  ·intro x y m;rcases List.mem_append.1 m with m|m
   ·exact h7 x y m
   obtain⟨rfl,rfl⟩:=iD (List.mem_singleton.1 m);exact .inr ah
  exact h7
 intro x y m;rcases k7 x y m with m|m
 ·obtain⟨x',y',m',k⟩:=ho.2.2 x y m;exact⟨x',y',List.mem_append.2 (.inl m'),k⟩
 exact⟨M,p1,List.mem_append.2 (.inr (List.mem_singleton.2 aa)),m⟩
def Vn(z A w:ak):Prop:=eJ w∧∀t,eQ w t↔vM z t∧¬vM A t
theorem difS_of{v:Int}{A G z I w:ak}(L:Ob A z)(M:Ob G I)(h:Bs v z I w)(U:(z.length:Int)≤v):Vn A G w:=by
 obtain⟨O,h2,_⟩:=h;rw[mq ah] at h2;exact⟨O,fun t=>by rw[h2 t,L.2 t,M.2 t]⟩
theorem fgtS_dif{z k:Int}{v w A:ak}(h:Vn [pW 0 z] v w)(L:0≤z∧z≤1000)(G:v=(A.take k.toNat).map xS)(M:(A.length:Int)≤k)(I:af qb A):Oa z A w:=by
 rw[mq ah] at G;subst G;refine⟨h.1,fun t=>(h.2 t).trans ?_⟩;have e:vM [pW 0 z] t↔(0≤t∧t<z):=by
  constructor
  ·rintro⟨a,b,m,_,k⟩;obtain⟨rfl,rfl⟩:=iD (List.mem_singleton.1 m);exact k
  exact fun k=>⟨0,z,List.mem_singleton.2 aa,⟨ah,ah,ah⟩,k.1,k.2⟩
 rw[e];exact⟨fun⟨⟨a,b⟩,c⟩=>⟨a,b,fun e=>c ((LU I a).2 e)⟩,fun⟨a,b,c⟩=>⟨⟨a,b⟩,fun e=>c ((LU I a).1 e)⟩⟩
theorem subY{T:aN}(F:FT T){a0 a1:DC}{bP:ak}(cr:aA bP a0)(cK:bP.length≤1)(bM:af ep bP){bL:ak}(cN:aA bL a1)(df:bL.length≤12)(cb:af ep bL):Sound T 25 [.d a0,.d a1] fun r=>∃y0 bu,r= .d y0∧aA bu y0∧(bu.length:Int)≤13∧af ep bu∧0≤(bu.length:Int)∧(Vn bP bL bu):=by
 refine bj F.q25 aa (bY 11 aa (ay aa (afW F cN ae cb) ?_));rintro _ _⟨ez,O,rfl,Z,jE,fy,lu,M⟩;refine aK 6 aa (ay aa (afW F cr ae bM) ?_);rintro _ _⟨mz,U,rfl,Aj,GL,uZ,R2,hfy2_0⟩;refine ax (aO aa Aj ?_);refine ro 3 aa (dh 5 90 47 16 2 aa aa ?_);refine bd [15,14,4,1,0] [] rfl rfl (fun e0 b0 k VE B=>∃z G,an ((5,.ac 90 G.length 2)::(16,.d (dJ z))::e0) VE∧an ((90,.acc 47 16 2 G)::b0) B∧k=((U.length:Int) -z).toNat∧(0≤z∧(z≤(U.length:Int)∨z=0))∧((G.length:Int)≤13*z)∧(af ep G)∧(Bs z U O G)) ?_ (k:=((U.length:Int) -0).toNat) ⟨0,[],⟨rfl,rfl,rfl,rfl,rfl,rfl,rfl,trivial⟩,⟨rfl,trivial⟩,rfl,ae,cJ,bT,(by first|exact cutO_0|exact kO)⟩;rintro _ VE B⟨z,G,hV,hB,rfl,bS,cM,nO,js⟩;refine aU _ _ hV hB (rc 5 aa ?_);refine au aa ?_ ?_<;>intro g3
 ·refine rc 5 aa ?_;obtain⟨_,⟨tt,rfl,qc,qd⟩,_,⟨Y,rfl,hzx4_1,kzx4_1⟩,cY⟩:=qI z uZ;refine ax (aI aa aa Aj ae cY aa ?_);refine ro 6 aa ?_;skip;refine rp 7 aa ?_;have kA:=cutA_0 dm (hfy2_0).1 ae cY;refine gz 1 aa (aO aa Z ?_);refine ro 3 aa (bd [23,22,17,16,15,14,7,4,1,0] [7] aa aa (fun e0 b0 k VE B=>∃I A L,an ((5,.ac 90 L.length 2)::(8,.d (dJ I))::(24,.d (dJ A))::e0) VE∧an ((90,.acc 47 16 2 L)::b0) B∧k=((O.length:Int) -A).toNat∧(-9223372036854775808≤I∧I≤9223372036854775807)∧(0≤A∧(A≤(O.length:Int)∨A=0))∧((L.length:Int)≤13*z+A)∧(af ep L)∧(kU A I tt Y O G L)) ?_ fin);rintro _ VE B⟨I,A,L,hV,hB,rfl,eU,fO,Od,GM,Eo⟩;refine aU _ _ hV hB (rc 5 aa ?_);refine au aa ?_ ?_<;>intro g5
  ·refine rc 5 aa ?_;obtain⟨_,⟨vn,rfl,GN,GO⟩,_,⟨zx6_1,rfl,hzx6_1,kzx6_1⟩,e7⟩:=qI A fy;refine ax (aI aa aa Z ae e7 aa ?_);refine ro 7 aa (rp 5 aa ?_);refine bm aa ?_ ?_<;>intro g7
   ·refine ro 7 aa (eG aa aa (rc 2 aa ?_));have kq:=kU.skip dm (M).1 ae e7 ah;exact W
   refine ro 4 aa (rp 3 aa ?_);refine au aa ?_ ?_<;>intro g8
   ·refine rc 2 aa ?_;have kq:=kU.skip dm (M).1 ae e7 ah;exact W
   refine rc 9 aa ?_;refine au aa ?_ ?_<;>intro g9
   ·refine aB 7 aa (aX (rows:=L) (ys:=[[(dJ I),(dJ vn)]]) aa aa aa (.bs (rows:=[[(dJ I),(dJ vn)]]) aa) ao ae bN bN ?_);refine ro 8 aa ?_;have kq:=kU.step dm (M).1 ae e7 ae ae (.inl ⟨ae,rfl⟩);exact W
   refine rc 7 aa ?_;have kq:=kU.step dm (M).1 ae e7 ae ae (.inr ⟨ae,rfl⟩);exact W
  refine rc 8 aa ?_;refine au aa ?_ ?_<;>intro sM
  ·refine aB 7 aa (aX (rows:=L) (ys:=[[(dJ I),(dJ Y)]]) aa aa aa (.bs (rows:=[[(dJ I),(dJ Y)]]) aa) ao ae bN bN ?_);refine ro 3 aa ?_;have kO:=kU.fin dm ae dm ae cY (.inl ⟨ae,rfl⟩);exact W
  refine rc 2 aa ?_;have kO:=kU.fin dm ae dm ae cY (.inr ⟨ae,rfl⟩);exact W
 exact rc 6 aa (cf 4 90 aa aa (fun _=>⟨aa,aa⟩) (dO 1 aa (bI aa aa ⟨(.cE G),G,aa,(.acc _),ae,nO,ae,(difS_of dm dm dm ae)⟩)))
theorem forgY{T:aN}(F:FT T){a0 a1 a2 a4 a5:DC}(cU:(Ty.x).ok a0)(bW:(Ty.x).ok a1)(cG:(Ty.x).ok a2){aW:Int}(gi:0≤aW)(gj:aW≤1000){G:ak}(Z:aA G a4)(fu:G.length≤12)(dg:af qb G)(cl:(Ty.x).ok a5):Sound T 10 [.agg [.d a0,.d a1,.d a2,.d (dJ aW),.d a4,.d a5]] fun r=>∃y0 O,r= .d y0∧aA O y0∧(O.length:Int)≤13∧af ep O∧0≤(O.length:Int)∧(Oa aW G O):=by
 refine bj F.q10 aa (bY 14 aa (aO aa Z ?_));refine ro 3 aa (dh 3 90 47 16 2 aa aa (bd [8,7,2,1,0] [1] aa aa (fun e0 b0 k VE B=>∃z A,an ((3,.ac 90 A.length 2)::(9,.d (dJ z))::e0) VE∧an ((90,.acc 47 16 2 A)::b0) B∧k=((G.length:Int) -z).toNat∧(0≤z∧(z≤(G.length:Int)∨z=0))∧((A.length:Int)≤z)∧(af ep A)∧(A=(G.take z.toNat).map xS)) ?_ fin));rintro _ VE B⟨z,A,hV,hB,rfl,bS,cM,M,js⟩;refine aU _ _ hV hB (rc 5 aa ?_);refine au aa ?_ ?_<;>intro g1
 ·refine rc 5 aa ?_;obtain⟨gW,iG,_,⟨I,rfl,oU,l9⟩,_,⟨L,rfl,uX,uY⟩,bQ⟩:=qI z dg;refine ax (aI aa aa Z ae bQ aa ?_);refine ro 5 aa (rp 4 aa ?_);refine ax (aX (rows:=A) (ys:=[[(dJ I),(dJ L)]]) rfl rfl rfl (.bs (rows:=[[(dJ I),(dJ L)]]) rfl) ao ae (fun h=>by rw[h];rfl) (fun h=>by rw[h];rfl) ?_);refine aK 3 aa (bC aa aa ae ae ?_);refine cW 2 aa ?_;exact⟨((G.length:Int) -((z+1))).toNat,ae,(z+1),(A++[[(dJ I),(dJ L)]]),⟨rfl,rfl,rfl,rfl,rfl,rfl,rfl,trivial⟩,⟨rfl,rfl,trivial⟩,rfl,ae,cJ,(dC M (dr (aj ai (aj ai bg)))),(by first|exact afU|assumption|exact afV (by assumption) ae (by assumption))⟩
 refine rc 1 aa (cf 3 90 aa aa (fun _=>⟨aa,aa⟩) (rc 7 aa ?_));have oF:af ep [[i0,(dJ aW)]]:=(cA (aj ai (aj ai bg)) bT);refine eT 22 22 aa aa (fun _=>⟨aa,aa⟩) (ax (ay aa (subY F (.inl aa) ae oF (.acc _) ae M) ?_));rintro _ _⟨fJ,jH,rfl,U,th,Y,xn,hfy4_0⟩;exact et 3 aa (bI aa aa ⟨fJ,jH,aa,U,ae,Y,ae,(fgtS_dif dm ae dm ae dg)⟩)
end Go.Ev.Rp
