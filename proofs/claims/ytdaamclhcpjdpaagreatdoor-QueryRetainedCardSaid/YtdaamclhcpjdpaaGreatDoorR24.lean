/- Part 24 of rules for walks through the code of a program, and of such walks; what each part proves is said by its theorems. -/
import Derived.Test.YtdaamclhcpjdpaaGreatDoorR20
import Derived.Test.YtdaamclhcpjdpaaGreatDoorR21
import Derived.Test.YtdaamclhcpjdpaaGreatDoorR22
import Derived.Test.YtdaamclhcpjdpaaGreatDoorR23
set_option linter.unusedVariables false
set_option linter.unusedSimpArgs false
noncomputable section
set_option maxRecDepth 100000
set_option maxHeartbeats 4000000
namespace Go.Ev.Rp
open Go Go.Ev.Pp
attribute [local irreducible] VC VO VQ VI Sound cm
theorem norm1X{T:aN}(F:FT T){aE:Int}(M:(-9223372036854775808)≤aE)(O:aE≤9223372036854775807){aJ:Int}(U:(-9223372036854775808)≤aJ)(Y:aJ≤9223372036854775807){bf:Int}(Z:(-9223372036854775808)≤bf)(kL:bf≤9223372036854775807){aW:Int}(gi:(-9223372036854775808)≤aW)(gj:aW≤9223372036854775807):Sound T 116 [.agg [.d (dJ aE),.d (dJ aJ)],.agg [.d (dJ bf),.d (dJ aW)]] fun r=>∃z,r= .d (dJ z)∧((-1)≤z∧z≤1∧((z<0↔aE<bf))):=by
 refine bj F.q116 aa (bY 12 aa (ay aa (cmpP (aE:=aE) (aJ:=bf) F ae ae ae ae) ?_));rintro _ _⟨L,rfl,A,G,I⟩;exact W
theorem insY{T:aN}(F:FT T){O:ak}(bM:af ep O)(cK:(O.length:Int)≤12)(N5:1≤(O.length:Int)){bf:Int}(nz:(O.length:Int)≤bf)(kL:bf≤(O.length:Int)):cm T 308 [.ac 1001 O.length 2,.d i0,.d (dJ bf),.fn 116 []] [(1001,.acc 47 16 2 O)] fun r B=>∃wr:ak,B=[(1001,.acc 47 16 2 wr)]∧af ep wr∧wr.length=O.length∧(gH wr O∧og wr (O.length:Int)):=by
 refine kM F.aiA aa (bY 3 aa (bC aa aa ae ae ?_));refine ro 3 aa (bd [3,2,1] [] aa aa (fun e0 b0 k VE B=>∃I M,an ((0,.ac 1001 M.length 2)::(8,.d (dJ I))::e0) VE∧an ((1001,.acc 47 16 2 M)::b0) B∧k=((bf:Int) -I).toNat∧(1≤I∧(I≤bf∨I=1))∧((M.length:Int)≤12)∧(af ep M)∧(M.length=O.length)∧(gH M O)∧(og M I)) ?_ fin);rintro _ VE B⟨I,M,hV,hB,rfl,bS,cM,U,js,qM,uc⟩;refine aU _ _ hV hB (rc 7 aa ?_);refine au aa ?_ ?_<;>intro g1
 ·refine rc 9 aa ?_;refine bd [14,8,3,2,1] [] rfl rfl (fun e0 b0 k VE B=>∃G A,an ((0,.ac 1001 A.length 2)::(9,.d (dJ G))::e0) VE∧an ((1001,.acc 47 16 2 A)::b0) B∧k=(G).toNat∧(0≤G∧G≤I)∧((A.length:Int)≤12)∧(af ep A)∧(A.length=O.length)∧(gH A O)∧(po A I G)) ?_ (k:=(I).toNat) ⟨I,M,⟨rfl,rfl,rfl,rfl,rfl,rfl,rfl,trivial⟩,⟨rfl,trivial⟩,rfl,ae,ae,U,MD,(by first|assumption|exact gH.trans ks.2 (by assumption)),(by first|exact ks.1|exact adn (by assumption))⟩;rintro _ VE B⟨G,A,hV,hB,rfl,eU,fO,L,En,Eo,I2⟩;refine aU _ _ hV hB (rc 7 aa ?_);refine dw aa ?_ ?_<;>intro g2
  ·refine rq 3 aa ?_;obtain⟨j3,B5,wy⟩:=bz (z:=G) (n:=A.length) ae ae;obtain⟨_,⟨AM,rfl,GG,CW⟩,_,⟨Dr,rfl,adp,adq⟩,fD⟩:=qN wy L;refine ca rfl rfl (cX rfl (by rw[←B5];rfl) wy ?_);refine eL aa aa aa (Cn (rows:=A) aa aa fD (aS aa) (aS aa) ?_);refine rq 2 aa (ca aa aa (dq aa aa ae ae ?_));obtain⟨j4,pM,nA⟩:=bz (z:=(G-1)) (n:=A.length) ae ae;obtain⟨_,⟨tt,rfl,qc,qd⟩,_,⟨zx4_1,rfl,hzx4_1,kzx4_1⟩,cY⟩:=qN nA L;refine ca rfl rfl (cX rfl (by rw[←pM];rfl) nA ?_);refine eL aa aa aa (Cn (rows:=A) aa aa cY (aS aa) (aS aa) ?_);refine eL aa aa aa (vi_callv aa aa (xh aa) (norm1X (aE:=AM) (aJ:=Dr) (bf:=tt) (aW:=zx4_1) F ae ae ae ae ae ae ae ae) ?_);rintro _ _⟨gV,rfl,ly5_0,uy5_0,rK⟩;refine rq 3 aa ?_;refine au aa ?_ ?_<;>intro g6
   ·refine rc 8 aa ?_;skip;refine aR (dq aa aa ae ae ?_);refine cZ 2 aa (dq aa aa ae ae ?_);obtain⟨j7,jv,fR⟩:=bz (z:=(G-1)) (n:=A.length) ae ae;obtain⟨nf,mW,oh,rL,eV⟩:=qN fR L;refine aR (cX rfl (by rw[←jv];rfl) fR ?_);refine aP aa (Cn (rows:=A) aa aa eV (aS aa) (aS aa) ?_);refine rq 2 aa ?_;obtain⟨j8,B6,sH⟩:=bz (z:=G) (n:=A.length) ae ae;obtain⟨N6,afO,Ve,MM,hH⟩:=qN sH L;refine aR (cX rfl (by rw[←B6];rfl) sH ?_);refine aP aa (Cn (rows:=A) aa aa hH (aS aa) (aS aa) ?_);obtain⟨j9,sI,pN⟩:=bz (z:=G) (n:=A.length) ae ae;obtain⟨oi,kP,pr,rM,fc⟩:=qN pN L;refine aR (cX rfl (by rw[←sI];rfl) pN ?_);refine gK aa (fZ aa aa aa aa aa aa ao ao fc (fun ze Z Vf=>?_));have Bm:af ep ze:=by rw[Z];exact e8 L (aj mW (aj rL bg))
    rw[←Vf];obtain⟨mG,sb,Bo⟩:=bz (z:=(G-1)) (n:=ze.length) ae ae;obtain⟨afP,RO,MN,Ad,sd⟩:=qN Bo Bm;refine aR (cX rfl (by rw[←sb];rfl) Bo ?_);refine gK aa (fZ aa aa aa aa aa aa ao ao sd (fun Y aiK Vg=>?_));have I3:af ep Y:=by rw[aiK];exact e8 Bm (aj afO (aj MM bg))
    rw[←Vg];refine rq 3 aa ?_;have ks:po Y I (G-1)∧gH Y A:=by
     rw[aiK,Z];have q1:=ts fD;have q2:=ts cY;have q3:=ts hH;have q4:=ts eV;rw[show j8=j3 by omega] at q3;rw[show j7=j4 by omega] at q4;simp only[gh] at q1 q2;exact po.swap dm ah ah (by rw[show j9=j8 by omega];exact hH) (by rw[show mG=j7 by omega];exact eV) ah (by rw[show j9=j3 by omega,show mG=j4 by omega];omega)
    refine ax (dq aa aa ae ae ?_);refine cW 2 aa ?_;exact⟨(((G-1))).toNat,ae,(G-1),Y,⟨rfl,rfl,rfl,rfl,rfl,rfl,rfl,trivial⟩,⟨rfl,trivial⟩,rfl,ae,ae,I3,MD,(by first|assumption|exact gH.trans ks.2 (by assumption)),(by first|exact ks.1|exact adn (by assumption))⟩
   refine rc 3 aa ?_;have kc:Kq A (G-1).toNat≤Kq A G.toNat:=by
    rw[show(G-1).toNat=j4 by omega,show G.toNat=j3 by omega,ts cY,ts fD];simp only[gh];omega
   refine ax (bC aa aa ae ae ?_);refine cW 2 aa ?_;exact⟨((bf:Int) -((I+1))).toNat,ae,(I+1),A,⟨rfl,rfl,rfl,rfl,rfl,trivial⟩,⟨rfl,trivial⟩,rfl,ae,ae,L,MD,(by first|assumption|exact gH.refl),(by first|exact adm|exact po.fin (by assumption) ae (fun h=>by omega)|exact po.fin (by assumption) ae (fun _=>kc))⟩
  refine rq 14 aa (eo aa aa (rc 3 aa ?_));skip;refine ax (bC aa aa ae ae ?_);refine cW 2 aa ?_;exact⟨((bf:Int) -((I+1))).toNat,ae,(I+1),A,⟨rfl,rfl,rfl,rfl,rfl,trivial⟩,⟨rfl,trivial⟩,rfl,ae,ae,L,MD,(by first|assumption|exact gH.refl),(by first|exact adm|exact po.fin (by assumption) ae (fun h=>by omega)|exact po.fin (by assumption) ae (fun _=>kc))⟩
 refine rc 1 aa ?_;exact⟨_,[(1001,.acc 47 16 2 M)],rfl,⟨rfl,trivial⟩,⟨_,rfl,U,afF,⟨by assumption,og.mono dm ae⟩⟩⟩
theorem insN2{T:aN}(F:FT T):Sound T 308 [dN,.d i0,.d i0,.fn 116 []] fun r=>True:=by
 refine bj F.aiA aa (bY 3 aa (bC aa aa ae ae ?_));refine ro 3 aa (bd [3,2,1,0] [] aa aa (fun e0 G k VE B=>∃z,an ((8,.d (dJ z))::e0) VE∧an G B∧dP k 1 z 0) ?_ fin);rintro _ VE B⟨z,I,L,rfl,A⟩;exact aU _ _ I L (W)
theorem pdqY{T:aN}(F:FT T){I:DC}{z:ak}(A:af ep z)(L:(z.length:Int)≤12)(M:1≤(z.length:Int)){bf:Int}(Y:(z.length:Int)≤bf)(Z:bf≤(z.length:Int))(G:tJ.ok I):cm T 206 [.ac 1001 z.length 2,.d i0,.d (dJ bf),.d I,.fn 116 []] [(1001,.acc 47 16 2 z)] fun r B=>∃wr:ak,B=[(1001,.acc 47 16 2 wr)]∧af ep wr∧wr.length=z.length∧(gH wr z∧og wr (z.length:Int)):=by
 refine kM F.aiw aa ?_;obtain⟨aW,rfl,O,U⟩:=G;refine r0 9 aa (bd [11,10,4,3,2,1,0] [1001] aa aa (fun e0 b0 k VE B=>an e0 VE∧an b0 B∧k=((0:Int)).toNat) ?_ fin);rintro _ VE B⟨hV,hB,rfl⟩;refine aU _ _ hV hB (aB 5 aa (dq aa aa ae ae ?_));refine ro 8 aa ?_;refine au aa ?_ ?_<;>intro g1
 ·refine aB 6 aa (mM (dj:=[.ac 1001 z.length 2,.d i0,.d (dJ bf),.fn 116 []]) (Bi:=[(1001,.acc 47 16 2 z)]) [(1001,1001)] 2000 aa aa aa aa aa aa aa ⟨aa,aa,trivial⟩ (insY (bf:=bf) F A ae ae ae ae) ?_);rintro _ _⟨w2,rfl,sB,wt,hf2⟩;exact W
 exact W
theorem pdqN2{T:aN}(F:FT T){A:DC}(z:tJ.ok A):Sound T 206 [dN,.d i0,.d i0,.d A,.fn 116 []] fun r=>True:=by
 refine bj F.aiw aa ?_;obtain⟨aW,rfl,G,I⟩:=z;refine r0 9 aa (bd [11,10,4,3,2,1,0] [] aa aa (fun e0 L k VE B=>an e0 VE∧an L B∧k=((0:Int)).toNat) ?_ fin);rintro _ VE B⟨M,O,rfl⟩;refine aU _ _ M O (aB 5 aa (dq aa aa ae ae ?_));refine ro 8 aa ?_;refine au aa ?_ ?_<;>intro Y
 ·refine aB 6 aa (ay aa (insN2 F) (fun Z _ U=>?_));exact W
 exact W
theorem sortY{T:aN}(F:FT T){z:ak}(G:af ep z)(O:(z.length:Int)≤12)(U:1≤(z.length:Int)):cm T 115 [.ac 1001 z.length 2,.fn 116 []] [(1001,.acc 47 16 2 z)] fun r B=>∃wr:ak,B=[(1001,.acc 47 16 2 wr)]∧af ep wr∧wr.length=z.length∧(gH wr z∧og wr (z.length:Int)):=by
 refine kM F.ais aa (iF (gP 3 aa (uF (lI 3 aa (ax (fr aa ao ae ae ?_))))));refine ax (ay aa (aiJ (aE:=(z.length:Int)) F ae ae) ?_);rintro _ _⟨I,rfl,A⟩;refine lI 1 aa (ax (mM (dj:=[.ac 1001 z.length 2,.d i0,.d (dJ (z.length:Int)),.d I,.fn 116 []]) (Bi:=[(1001,.acc 47 16 2 z)]) [(1001,1001)] 2000 aa aa aa aa aa aa aa ⟨aa,aa,trivial⟩ (pdqY (bf:=(z.length:Int)) F G ae ae ae ae A) ?_));rintro _ _⟨Y,rfl,L,M,Z⟩;refine zQ 0 (.ac 1001 Y.length 2) rfl (fun H X β a _ h=>by rw[M];exact h) ?_;exact Ab (⟨_,[(1001,.acc 47 16 2 Y)],aa,⟨aa,trivial⟩,⟨_,aa,L,afF,dm⟩⟩)
theorem sortN2{T:aN}(F:FT T):Sound T 115 [dN,.fn 116 []] fun r=>True:=by
 refine bj F.ais aa (bY 10 aa (fr aa ao ae ae ?_));refine ax (ay aa (aiJ (aE:=0) F ae ae) ?_);rintro _ _⟨A,rfl,z⟩;refine aK 1 aa (ay aa (pdqN2 F z) (fun I _ G=>?_));exact W
end Go.Ev.Rp
namespace Go.Ev.Rp
open Go Go.Ev.Pp
attribute [local irreducible] VC VO VQ VI Sound cm
theorem cont_iff{y:Int}{H:Prop}(h:(0≤y→H)∧(y<0→¬H)):0≤y↔H:=⟨h.1,fun k=>by
 by_cases e:0≤y
 ·exact e
 exact absurd k (h.2 ah)⟩
def da(a b c d:Int):Prop:=0≤a∧a<b∧b≤1099511627776∧0≤c∧c<d∧d≤1099511627776∧a<d∧c<b
def iT(w:ak)(f t:Int):Prop:=∃(q:Nat)(row:List DC)(a b:Int),w[q]?=some row∧row[1]?=some (dJ a)∧row[2]?=some (dJ b)∧da f t a b
def iu(k:Int)(w:ak)(f t:Int):Prop:=∀(q:Nat)(row:List DC)(a b:Int),(q:Int)<k→w[q]?=some row→row[1]?=some (dJ a)→row[2]?=some (dJ b)→¬da f t a b
theorem iT.mk{w:ak}{q:Nat}{row:List DC}{a b f t:Int}(z:w[q]?=some row)(h2:row[1]?=some (dJ a))(A:row[2]?=some (dJ b))(G:da f t a b):iT w f t:=⟨q,row,a,b,z,h2,A,G⟩
theorem MO{w:ak}{f t:Int}:iu 0 w f t:=fun q _ _ _ h=>by omega
theorem iu.step{k:Int}{w:ak}{row:List DC}{a b f t:Int}(h:iu k w f t)(h0:0≤k)(I:w[k.toNat]?=some row)(L:row[1]?=some (dJ a))(h2:row[2]?=some (dJ b))(M:¬da f t a b):iu (k+1) w f t:=fun q r c d U z A G=>by
 by_cases O:(q:Int)<k
 ·exact h q r c d O z A G
 have:q=k.toNat:=by omega
 subst this;rw[I] at z;cases z;rw[L] at A;cases A;rw[h2] at G;cases G;exact M
theorem iu.all{k:Int}{w:ak}{f t:Int}(h:iu k w f t)(L:(w.length:Int)≤k):¬iT w f t:=fun⟨q,row,a,b,z,A,G,I⟩=>h q row a b (by have:=(List.getElem?_eq_some_iff.1 z).1;omega) z A G I
def keptP(z:Int)(w:ak)(f t:Int):Prop:=(z<t∧0≤f∧f<t∧t≤1099511627776)∨iT w f t
theorem adr{T:aN}(F:FT T){aE:Int}(A: -9223372036854775808≤aE)(G:aE≤9223372036854775807){aJ:Int}(I: -9223372036854775808≤aJ)(L:aJ≤9223372036854775807):Sound T 76 [.agg [.d (dJ aE),.d (dJ aJ)]] fun r=>∃z,r=dB z∧(z=true↔(0≤aE∧aE<aJ∧aJ≤1099511627776)):=by
 refine bj F.q76 aa (r0 11 aa ?_);refine bm aa ?_ ?_<;>intro M
 ·refine ro 7 aa ?_;refine bm aa ?_ ?_<;>intro O
  ·exact et 7 aa (bI aa aa ⟨decide (aJ≤1099511627776),aa,vI⟩)
  exact et 7 aa (bI aa aa ⟨false,aa,vI⟩)
 exact et 14 aa (bI aa aa ⟨false,aa,vI⟩)
theorem RP{T:aN}(F:FT T){aE:Int}(A: -9223372036854775808≤aE)(G:aE≤9223372036854775807){aJ:Int}(I: -9223372036854775808≤aJ)(L:aJ≤9223372036854775807):Sound T 39 [.agg [.d (dJ aE),.d (dJ aJ)]] fun r=>∃z,r=dB z∧(z=true↔(0≤aE∧aE<aJ∧aJ≤1099511627776)):=by
 refine bj F.Xc aa (r0 11 aa ?_);refine bm aa ?_ ?_<;>intro M
 ·refine ro 7 aa ?_;refine bm aa ?_ ?_<;>intro O
  ·exact et 7 aa (bI aa aa ⟨decide (aJ≤1099511627776),aa,vI⟩)
  exact et 7 aa (bI aa aa ⟨false,aa,vI⟩)
 exact et 14 aa (bI aa aa ⟨false,aa,vI⟩)
theorem ads{T:aN}(F:FT T){aE:Int}(Z: -9223372036854775808≤aE)(iX:aE≤9223372036854775807){aJ:Int}(kJ: -9223372036854775808≤aJ)(kK:aJ≤9223372036854775807){bf:Int}(nz: -9223372036854775808≤bf)(kL:bf≤9223372036854775807){aW:Int}(gi: -9223372036854775808≤aW)(gj:aW≤9223372036854775807):Sound T 119 [.agg [.d (dJ aE),.d (dJ aJ)],.agg [.d (dJ bf),.d (dJ aW)]] fun r=>∃G I L,r= .tuple [.agg [.d G,.d I],dB L]∧tJ.ok G∧tJ.ok I∧(L=true↔da aE aJ bf aW):=by
 refine bj F.Vc aa (bY 13 aa (pZ aa aa (fun z1 E5=>?_)));refine aK 4 aa (zP aa aa (fun z2 oD=>?_));refine aK 8 aa (ay aa (RP (aE:=aE) (aJ:=aJ) F ae ae ae ae) ?_);rintro _ _⟨M,rfl,z⟩;refine ro 2 aa ?_;refine bm aa ?_ ?_<;>intro O
 ·have k4:¬_:=fun p=>absurd (z.2 p) (by simpa using O)
  refine ro 12 aa (eG aa aa (dO 7 aa ?_));exact bI rfl rfl ⟨i0,i0,false,rfl,ai,ai,(by first|(simp only[eK,fW,false_iff,true_iff,da] at*;omega)|(simp[da] at*;omega))⟩
 have k4:=z.1 (by simpa using O);refine ro 1 aa (bJ aa aa (ay aa (RP (aE:=bf) (aJ:=aW) F ae ae ae ae) ?_));rintro _ _⟨U,rfl,A⟩;refine ro 3 aa ?_;refine bm aa ?_ ?_<;>intro Y
 ·have k6:¬_:=fun p=>absurd (A.2 p) (by simpa using Y)
  refine ro 7 aa (eG aa aa (dO 7 aa ?_));exact bI rfl rfl ⟨i0,i0,false,rfl,ai,ai,(by first|(simp only[eK,fW,false_iff,true_iff,da] at*;omega)|(simp[da] at*;omega))⟩
 have k6:=A.1 (by simpa using Y);refine ro 7 aa ?_;refine au aa ?_ ?_<;>intro g7
 ·refine dO 7 aa ?_;exact bI rfl rfl ⟨i0,i0,false,rfl,ai,ai,(by first|(simp only[eK,fW,false_iff,true_iff,da] at*;omega)|(simp[da] at*;omega))⟩
 refine dO 8 aa ?_;exact bI rfl rfl ⟨(dJ z1),(dJ z2),true,rfl,ai,ai,(by first|(simp only[eK,fW,false_iff,true_iff,da] at*;omega)|(simp[da] at*;omega))⟩
theorem TA{T:aN}(F:FT T){a0 a1 a2 a4 a5 a6 a7 a8 a9:DC}(cU:tJ.ok a0)(bW:tJ.ok a1)(cG:(Ty.x).ok a2){aW:Int}(gi: -9223372036854775808≤aW)(gj:aW≤9223372036854775807){G:ak}(I:aA G a4)(fu:G.length≤20)(U:af qb G)(cl:(Ty.x).ok a5)(fw:tJ.ok a6)(fS:(Ty.l 1000000000 cC).ok a7)(gk:tJ.ok a8)(iO:tJ.ok a9){A:Int}(la10: -9223372036854775808≤A)(ua10:A≤9223372036854775807){ic:Int}(aiL: -9223372036854775808≤ic)(aiM:ic≤9223372036854775807):Sound T 223 [.agg [.d a0,.d a1,.d a2,.d (dJ aW),.d a4,.d a5],.agg [.d a6,.d a7,.d a8,.d a9,.d (dJ A),.d (dJ ic)]] fun r=>∃y0,r=dB y0∧(y0=true↔keptP aW G A ic):=by
 refine bj F.aix aa ?_;rcases cU,bW,fw,fS,gk,iO with⟨⟨aE,rfl,iU,iV⟩,⟨aJ,rfl,eC,eg⟩,⟨bx,rfl,oj,om⟩,⟨wz,Ep,N7,Er⟩,⟨hJ,rfl,yD,yE⟩,⟨gl,rfl,Bp,Bq⟩⟩
 refine r0 16 aa ?_;refine bm aa ?_ ?_<;>intro g1
 ·refine ro 2 aa (bJ aa aa (ay aa (RP (aE:=A) (aJ:=ic) F ae ae ae ae) ?_));rintro _ _⟨mz,rfl,M⟩;refine ro 2 aa ?_;refine cH aa ?_ ?_<;>intro h3
  ·have k3:=M.1 (by simpa using h3);refine dO 5 aa ?_;exact bI rfl rfl ⟨true,rfl,(by first|exact iff_of_true rfl (.inl ah)|exact iff_of_true rfl (.inr (iT.mk (by assumption) rfl rfl (by assumption)))|exact iff_of_false ao (fun h=>h.elim (fun k=>by omega) (iu.all (by assumption) ae)))⟩
  have k3:¬_:=fun p=>absurd (M.2 p) (by simpa using h3)
  refine rc 7 aa (bd [18,4,3,2,1,0] [3,2] aa aa (fun e0 b0 k VE B=>∃z,an ((5,.d (dJ z))::e0) VE∧an b0 B∧k=((G.length:Int) -z).toNat∧(0≤z∧(z≤(G.length:Int)∨z=0))∧(iu z G A ic)) ?_ fin);rintro _ VE B⟨z,hV,hB,rfl,bS,cM⟩;refine aU _ _ hV hB (aB 6 aa (aO aa I ?_));refine ro 2 aa ?_;refine au aa ?_ ?_<;>intro g4
  ·refine rc 10 aa ?_;obtain⟨Et,AN,_,⟨Y,rfl,CX,CY⟩,_,⟨Z,rfl,adt,adu⟩,eW⟩:=qI z U;refine aR (aI aa aa I ae eW aa ?_);refine rq 1 aa (cD aa aa (gm aa (aS aa) (aS aa) ?_));refine aP aa (ay aa (ads (aE:=A) (aJ:=ic) (bf:=Y) (aW:=Z) F ae ae ae ae ae ae ae ae) ?_);rintro _ _⟨kD,vL,qP,rfl,qp,rN,O⟩;refine rq 11 aa ?_;refine cH aa ?_ ?_<;>intro h7
   ·have k7:=O.1 (by simpa using h7);refine dO 5 aa ?_;exact bI rfl rfl ⟨true,rfl,(by first|exact iff_of_true rfl (.inl ah)|exact iff_of_true rfl (.inr (iT.mk (by assumption) rfl rfl (by assumption)))|exact iff_of_false ao (fun h=>h.elim (fun k=>by omega) (iu.all (by assumption) ae)))⟩
   have k7:¬_:=fun p=>absurd (O.2 p) (by simpa using h7)
   refine aB 3 aa (bC aa aa ae ae ?_);refine cW 2 aa ?_;exact⟨((G.length:Int) -((z+1))).toNat,ae,(z+1),⟨rfl,rfl,rfl,rfl,rfl,rfl,rfl,trivial⟩,⟨rfl,rfl,trivial⟩,rfl,ae,(by first|assumption|exact MO|exact iu.step (by assumption) ae (by assumption) rfl rfl (by assumption))⟩
  refine dO 6 aa ?_;exact bI rfl rfl ⟨false,rfl,(by first|exact iff_of_true rfl (.inl ah)|exact iff_of_true rfl (.inr (iT.mk (by assumption) rfl rfl (by assumption)))|exact iff_of_false ao (fun h=>h.elim (fun k=>by omega) (iu.all (by assumption) ae)))⟩
 refine ro 5 aa (eo aa aa (rc 7 aa (bd [18,4,3,2,1,0] [3,2] aa aa (fun e0 b0 k VE B=>∃z,an ((5,.d (dJ z))::e0) VE∧an b0 B∧k=((G.length:Int) -z).toNat∧(0≤z∧(z≤(G.length:Int)∨z=0))∧(iu z G A ic)) ?_ fin)));rintro _ VE B⟨z,hV,hB,rfl,bS,cM⟩;refine aU _ _ hV hB (aB 6 aa (aO aa I ?_));refine ro 2 aa ?_;refine au aa ?_ ?_<;>intro g8
 ·refine rc 10 aa ?_;obtain⟨oi,kP,_,⟨MP,rfl,adv,adw⟩,_,⟨Ds,rfl,adx,ady⟩,fc⟩:=qI z U;refine aR (aI aa aa I ae fc aa ?_);refine rq 1 aa (cD aa aa (gm aa (aS aa) (aS aa) ?_));refine aP aa (ay aa (ads (aE:=A) (aJ:=ic) (bf:=MP) (aW:=Ds) F ae ae ae ae ae ae ae ae) ?_);rintro _ _⟨mg,AO,HY,rfl,Ae,RQ,L⟩;refine rq 11 aa ?_;refine cH aa ?_ ?_<;>intro sJ
  ·have k11:=L.1 (by simpa using sJ);refine dO 5 aa ?_;exact bI rfl rfl ⟨true,rfl,(by first|exact iff_of_true rfl (.inl ah)|exact iff_of_true rfl (.inr (iT.mk (by assumption) rfl rfl (by assumption)))|exact iff_of_false ao (fun h=>h.elim (fun k=>by omega) (iu.all (by assumption) ae)))⟩
  have k11:¬_:=fun p=>absurd (L.2 p) (by simpa using sJ)
  refine aB 3 aa (bC aa aa ae ae ?_);refine cW 2 aa ?_;exact⟨((G.length:Int) -((z+1))).toNat,ae,(z+1),⟨rfl,rfl,rfl,rfl,rfl,rfl,rfl,trivial⟩,⟨rfl,rfl,trivial⟩,rfl,ae,(by first|assumption|exact MO|exact iu.step (by assumption) ae (by assumption) rfl rfl (by assumption))⟩
 refine dO 6 aa ?_;exact bI rfl rfl ⟨false,rfl,(by first|exact iff_of_true rfl (.inl ah)|exact iff_of_true rfl (.inr (iT.mk (by assumption) rfl rfl (by assumption)))|exact iff_of_false ao (fun h=>h.elim (fun k=>by omega) (iu.all (by assumption) ae)))⟩
end Go.Ev.Rp
namespace Go.Ev.Rp
open Go Go.Ev.Pp
attribute [local irreducible] VC VO VQ VI Sound cm
def Vh(now z:Int)(w:ak)(t:Int):Prop:=0≤t∧t≤now∧(z≤t∨iT w t (t+1))
theorem Vi{b:Bool}{z t:Int}{H:Prop}(h:b=true↔H)(k:0≤t∧t<z):(!b)=true↔(0≤t∧t<z∧¬H):=by
 cases b<;>simp_all
theorem Vj{b:Bool}{now z t:Int}{w:ak}(h:b=true↔(0≤t∧t<z∧¬iT w t (t+1)))(k:0≤t)(l:t≤now):(!b)=true↔Vh now z w t:=by
 have e:((!b)=true)↔¬(b=true):=by cases b<;>simp
 rw[e,h];refine⟨fun n=>⟨k,l,?_⟩,fun q p=>q.2.2.elim (fun a=>by omega) p.2.2⟩
 by_cases c:z≤t
 ·exact .inl c
 exact .inr (Dj fun m=>n ⟨k,ah,m⟩)
theorem inclP{T:aN}(F:FT T){aE:Int}(I:(-9223372036854775808)≤aE)(L:aE≤9223372036854775807){aJ:Int}(M:(-9223372036854775808)≤aJ)(O:aJ≤9223372036854775807){bf:Int}(U:(-9223372036854775808)≤bf)(Y:bf≤9223372036854775807):Sound T 38 [.agg [.d (dJ aE),.d (dJ aJ)],.d (dJ bf)] fun r=>∃A,r=dB A∧(A=true↔da bf (bf+1) aE aJ):=by
 refine bj F.q38 aa (bY 8 aa (ay aa (adr (aE:=aE) (aJ:=aJ) F ae ae ae ae) ?_));rintro _ _⟨G,rfl,z⟩;refine ro 1 aa ?_;refine bm aa ?_ ?_<;>intro h2
 ·have Z:=z.1 (by simpa using h2);refine ro 6 aa ?_;refine bm aa ?_ ?_<;>intro g3
  ·refine et 8 aa ?_;exact bI rfl rfl ⟨decide (bf<aJ),rfl,(by first|(simp only[eK,fW,false_iff,true_iff,da] at*;omega)|(simp[da] at*;omega)|(unfold da;omega))⟩
  refine et 8 aa ?_;exact bI rfl rfl ⟨false,rfl,(by first|(simp only[eK,fW,false_iff,true_iff,da] at*;omega)|(simp[da] at*;omega)|(unfold da;omega))⟩
 have Z:¬_:=fun p=>absurd (z.2 p) (by simpa using h2)
 refine et 14 aa ?_;exact bI rfl rfl ⟨false,rfl,(by first|(simp only[eK,fW,false_iff,true_iff,da] at*;omega)|(simp[da] at*;omega)|(unfold da;omega))⟩
theorem clo76{T:aN}(F:FT T){G:DC}(z:tJ.ok G){aJ:Int}(U:(-9223372036854775808)≤aJ)(Y:aJ≤9223372036854775807){bf:Int}(Z:(-9223372036854775808)≤bf)(kL:bf≤9223372036854775807){bR:Int}(pO:(-9223372036854775808)≤bR)(pP:bR≤9223372036854775807):cm T 37 [.agg [.d G,.d (dJ aJ),.d (dJ bf)],.vp 1004 0] [(1004,.one 3 8 [.d (dJ bR)])] fun r B=>∃I,r=dB I∧B=[(1004,.one 3 8 [.d (dJ bR)])]∧(I=true↔da bR (bR+1) aJ bf):=by
 refine kM F.q37 aa ?_;obtain⟨aE,rfl,L,M⟩:=z;refine bY 10 aa (ay aa (inclP (aE:=aJ) (aJ:=bf) (bf:=bR) F ae ae ae ae ae ae) ?_);rintro _ _⟨O,rfl,A⟩;exact W
theorem idxI{T:aN}(F:FT T){a0:DC}{A:ak}(M:aA A a0)(cK:A.length≤20)(U:af qb A){aW:Int}(gi:(-9223372036854775808)≤aW)(gj:aW≤9223372036854775807):cm T 75 [.d a0,.fn 37 [.vp 1003 0]] [(1003,.one 3 8 [.d (dJ aW)])] fun r B=>∃Y,r= .d (dJ Y)∧B=[(1003,.one 3 8 [.d (dJ aW)])]∧((-1)≤Y∧Y≤(A.length:Int) -1∧((0≤Y→iT A aW (aW+1))∧(Y<0→¬iT A aW (aW+1)))):=by
 refine kM F.q75 aa (bY 8 aa (aO aa M ?_));refine ro 3 aa (bd [7,4,1,0] [1003] aa aa (fun e0 b0 k VE B=>∃z,an ((8,.d (dJ z))::e0) VE∧an b0 B∧k=((A.length:Int) -z).toNat∧(0≤z∧(z≤(A.length:Int)∨z=0))∧(iu z A aW (aW+1))) ?_ fin);rintro _ VE B⟨z,hV,hB,rfl,bS,cM⟩;refine aU _ _ hV hB (rc 5 aa ?_);refine au aa ?_ ?_<;>intro g1
 ·refine rc 13 aa ?_;obtain⟨Z,O,_,⟨G,rfl,oU,l9⟩,_,⟨I,rfl,uX,uY⟩,bQ⟩:=qI z U;refine ax (aI aa aa M ae bQ aa ?_);refine aK 1 aa (vi_callvM (dj:=[.agg [.d Z,.d (dJ G),.d (dJ I)],.vp 1004 0]) (Bi:=[(1004,.one 3 8 [.d (dJ aW)])]) [(1004,1003)] 2000 aa aa aa aa aa aa aa aa aa ⟨aa,aa,trivial⟩ (clo76 (aJ:=G) (bf:=I) (bR:=aW) F O ae ae ae ae ae ae) ?_);rintro _ _⟨jL,rfl,rfl,L⟩;refine ro 1 aa ?_;refine cH aa ?_ ?_<;>intro h4
  ·have k4:=L.1 (by simpa using h4);refine rc 6 aa ?_;exact⟨_,[(1003,.one 3 8 [.d (dJ aW)])],rfl,⟨rfl,trivial⟩,⟨z,rfl,rfl,⟨ae,ae,(by first|exact⟨fun _=>iT.mk (by assumption) rfl rfl (by assumption),fun h=>absurd h ah⟩|exact⟨fun h=>absurd h ao,fun _=>iu.all (by assumption) ae⟩)⟩⟩⟩
  have k4:¬_:=fun p=>absurd (L.2 p) (by simpa using h4)
  refine aB 2 aa (bC aa aa ae ae ?_);refine cW 2 aa ?_;exact⟨((A.length:Int) -((z+1))).toNat,ae,(z+1),⟨rfl,rfl,rfl,rfl,rfl,trivial⟩,⟨rfl,trivial⟩,rfl,ae,(by first|assumption|exact MO|exact iu.step (by assumption) ae (by assumption) rfl rfl (by assumption))⟩
 refine rc 6 aa ?_;exact⟨_,[(1003,.one 3 8 [.d (dJ aW)])],rfl,⟨rfl,trivial⟩,⟨(-1),rfl,rfl,⟨ae,ae,(by first|exact⟨fun _=>iT.mk (by assumption) rfl rfl (by assumption),fun h=>absurd h ah⟩|exact⟨fun h=>absurd h ao,fun _=>iu.all (by assumption) ae⟩)⟩⟩⟩
theorem contI{T:aN}(F:FT T){L:DC}{z:ak}(A:aA z L)(Y:z.length≤20)(G:af qb z){aW:Int}(gi:(-9223372036854775808)≤aW)(gj:aW≤9223372036854775807):cm T 36 [.d L,.fn 37 [.vp 1003 0]] [(1003,.one 3 8 [.d (dJ aW)])] fun r B=>∃Z,r=dB Z∧B=[(1003,.one 3 8 [.d (dJ aW)])]∧(Z=true↔iT z aW (aW+1)):=by
 refine kM F.q36 aa (bY 8 aa (mM (dj:=[.d L,.fn 37 [.vp 1003 0]]) (Bi:=[(1003,.one 3 8 [.d (dJ aW)])]) [(1003,1003)] 2000 aa aa aa aa aa aa aa ⟨aa,aa,trivial⟩ (idxI (aW:=aW) F A ae G ae ae) ?_));rintro _ _⟨I,rfl,rfl,M,O,U⟩;refine ro 4 aa ?_;exact⟨_,[(1003,.one 3 8 [.d (dJ aW)])],rfl,⟨rfl,trivial⟩,⟨decide (0≤I),rfl,rfl,(by simp only[eK];exact cont_iff (by assumption))⟩⟩
theorem fgtP{T:aN}(F:FT T){O U Y L Z:DC}(cU:(Ty.x).ok O)(bW:(Ty.x).ok U)(cG:(Ty.x).ok Y){aW:Int}(gi:(-9223372036854775808)≤aW)(gj:aW≤9223372036854775807){z:ak}(A:aA z L)(fu:z.length≤20)(G:af qb z)(cl:(Ty.x).ok Z){bx:Int}(mH:(-9223372036854775808)≤bx)(mI:bx≤9223372036854775807):Sound T 18 [.agg [.d O,.d U,.d Y,.d (dJ aW),.d L,.d Z],.d (dJ bx)] fun r=>∃y0,r=dB y0∧(y0=true↔(0≤bx∧bx<aW∧¬iT z bx (bx+1))):=by
 refine bj F.q18 aa (r0 12 aa ?_);refine bm aa ?_ ?_<;>intro g1
 ·refine ro 6 aa (eG aa aa (dO 5 aa ?_));exact bI rfl rfl ⟨false,rfl,(by first|exact Vi (by assumption) ae|exact iff_of_false ao (fun h=>by omega))⟩
 refine ro 6 aa ?_;refine au aa ?_ ?_<;>intro g2
 ·refine dO 5 aa ?_;exact bI rfl rfl ⟨false,rfl,(by first|exact Vi (by assumption) ae|exact iff_of_false ao (fun h=>by omega))⟩
 refine aB 6 aa (mM (dj:=[.d L,.fn 37 [.vp 1003 0]]) (Bi:=[(1003,.one 3 8 [.d (dJ bx)])]) [(1003,3)] 2000 aa aa aa aa aa aa aa ⟨aa,aa,trivial⟩ (contI (aW:=bx) F A ae G ae ae) ?_);rintro _ _⟨I,rfl,rfl,M⟩;refine et 4 aa ?_;exact bI rfl rfl ⟨(!I),rfl,(by first|exact Vi (by assumption) ae|exact iff_of_false ao (fun h=>by omega))⟩
theorem aiN{T:aN}(F:FT T){M O U Y:DC}{aE:Int}(jw:(-9223372036854775808)≤aE)(iX:aE≤9223372036854775807)(bW:(Ty.x).ok M)(cG:(Ty.x).ok O){aW:Int}(gi:(-9223372036854775808)≤aW)(gj:aW≤9223372036854775807){z:ak}(A:aA z U)(Z:z.length≤20)(G:af qb z)(cl:(Ty.x).ok Y){bx:Int}(mH:(-9223372036854775808)≤bx)(mI:bx≤9223372036854775807):Sound T 6 [.agg [.d (dJ aE),.d M,.d O,.d (dJ aW),.d U,.d Y],.d (dJ bx)] fun r=>∃y0,r=dB y0∧(y0=true↔Vh aE aW z bx):=by
 refine bj F.q6 aa (r0 10 aa ?_);refine bm aa ?_ ?_<;>intro g1
 ·refine ro 6 aa ?_;refine bm aa ?_ ?_<;>intro g2
  ·refine ro 2 aa (bJ aa aa (ay aa (fgtP (aW:=aW) (bx:=bx) F bX bX bX ae ae A ae G bX ae ae) ?_));rintro _ _⟨I,rfl,L⟩;refine et 5 aa ?_;exact bI rfl rfl ⟨(!I),rfl,(by first|exact Vj (by assumption) ae ae|exact iff_of_false ao (fun h=>by have:=h.1;have:=h.2.1;omega))⟩
  refine et 8 aa ?_;exact bI rfl rfl ⟨false,rfl,(by first|exact Vj (by assumption) ae ae|exact iff_of_false ao (fun h=>by have:=h.1;have:=h.2.1;omega))⟩
 refine et 14 aa ?_;exact bI rfl rfl ⟨false,rfl,(by first|exact Vj (by assumption) ae ae|exact iff_of_false ao (fun h=>by have:=h.1;have:=h.2.1;omega))⟩
end Go.Ev.Rp
namespace Go.Ev.Rp
open Go Go.Ev.Pp
attribute [local irreducible] VC VO VQ VI Sound cm
theorem GH{T:aN}(F:FT T){aE:Int}(A:(-9223372036854775808)≤aE)(G:aE≤9223372036854775807){aJ:Int}(I:(-9223372036854775808)≤aJ)(L:aJ≤9223372036854775807):Sound T 39 [.agg [.d (dJ aE),.d (dJ aJ)]] fun r=>∃z,r=dB z∧(z=true↔(0≤aE∧aE<aJ∧aJ≤1099511627776)):=by
 refine bj F.Xc aa (r0 11 aa ?_);refine bm aa ?_ ?_<;>intro M
 ·refine ro 7 aa ?_;refine bm aa ?_ ?_<;>intro O
  ·exact et 7 aa (bI aa aa ⟨decide (aJ≤1099511627776),aa,vI⟩)
  exact et 7 aa (bI aa aa ⟨false,aa,vI⟩)
 exact et 14 aa (bI aa aa ⟨false,aa,vI⟩)
theorem inclX{T:aN}(F:FT T){aE:Int}(I:(-9223372036854775808)≤aE)(L:aE≤9223372036854775807){aJ:Int}(M:(-9223372036854775808)≤aJ)(O:aJ≤9223372036854775807){bf:Int}(U:(-9223372036854775808)≤bf)(Y:bf≤9223372036854775807):Sound T 19 [.agg [.d (dJ aE),.d (dJ aJ)],.d (dJ bf)] fun r=>∃A,r=dB A∧(A=true↔da bf (bf+1) aE aJ):=by
 refine bj F.q19 aa (bY 8 aa (ay aa (GH (aE:=aE) (aJ:=aJ) F ae ae ae ae) ?_));rintro _ _⟨G,rfl,z⟩;refine ro 1 aa ?_;refine bm aa ?_ ?_<;>intro h2
 ·have Z:=z.1 (by simpa using h2);refine ro 6 aa ?_;refine bm aa ?_ ?_<;>intro g3
  ·refine et 8 aa ?_;exact bI rfl rfl ⟨decide (bf<aJ),rfl,(by first|(simp only[eK,fW,false_iff,true_iff,da] at*;omega)|(simp[da] at*;omega)|(unfold da;omega))⟩
  refine et 8 aa ?_;exact bI rfl rfl ⟨false,rfl,(by first|(simp only[eK,fW,false_iff,true_iff,da] at*;omega)|(simp[da] at*;omega)|(unfold da;omega))⟩
 have Z:¬_:=fun p=>absurd (z.2 p) (by simpa using h2)
 refine et 14 aa ?_;exact bI rfl rfl ⟨false,rfl,(by first|(simp only[eK,fW,false_iff,true_iff,da] at*;omega)|(simp[da] at*;omega)|(unfold da;omega))⟩
theorem aiO{T:aN}(F:FT T){a1 a2 a4 a5:DC}{aE:Int}(jw:(-9223372036854775808)≤aE)(iX:aE≤9223372036854775807)(bW:(Ty.x).ok a1)(cG:(Ty.x).ok a2){aW:Int}(gi:(-9223372036854775808)≤aW)(gj:aW≤9223372036854775807){A:ak}(I:aA A a4)(fu:A.length≤20)(O:af qb A)(cl:(Ty.x).ok a5){bx:Int}(mH:(-9223372036854775808)≤bx)(mI:bx≤9223372036854775807):Sound T 7 [.agg [.d (dJ aE),.d a1,.d a2,.d (dJ aW),.d a4,.d a5],.d (dJ bx)] fun r=>∃y0,r=dB y0∧(y0=true↔Vh aE aW A bx):=by
 refine bj F.q7 aa (r0 11 aa ?_);refine bm aa ?_ ?_<;>intro g1
 ·refine ro 6 aa (eG aa aa (dO 5 aa ?_));exact bI rfl rfl ⟨false,rfl,(by first|exact iff_of_true rfl ⟨ae,ae,.inr (iT.mk (by assumption) rfl rfl (by assumption))⟩|exact iff_of_false ao (fun h=>by have:=h.1;have:=h.2.1;omega)|(simp only[eK];exact⟨fun k=>⟨ae,ae,.inl ae⟩,fun h=>h.2.2.elim id fun k=>absurd k (iu.all (by assumption) ae)⟩))⟩
 refine ro 6 aa ?_;refine au aa ?_ ?_<;>intro g2
 ·refine dO 5 aa ?_;exact bI rfl rfl ⟨false,rfl,(by first|exact iff_of_true rfl ⟨ae,ae,.inr (iT.mk (by assumption) rfl rfl (by assumption))⟩|exact iff_of_false ao (fun h=>by have:=h.1;have:=h.2.1;omega)|(simp only[eK];exact⟨fun k=>⟨ae,ae,.inl ae⟩,fun h=>h.2.2.elim id fun k=>absurd k (iu.all (by assumption) ae)⟩))⟩
 refine rc 7 aa (bd [13,4,2,1,0] [2] aa aa (fun e0 b0 k VE B=>∃z,an ((5,.d (dJ z))::e0) VE∧an b0 B∧k=((A.length:Int) -z).toNat∧(0≤z∧(z≤(A.length:Int)∨z=0))∧(iu z A bx (bx+1))) ?_ fin);rintro _ VE B⟨z,hV,hB,rfl,bS,cM⟩;refine aU _ _ hV hB (aB 6 aa (aO aa I ?_));refine ro 2 aa ?_;refine au aa ?_ ?_<;>intro g3
 ·refine rc 8 aa ?_;obtain⟨pw,kQ,_,⟨L,rfl,U,Y⟩,_,⟨M,rfl,Z,kzx4_2⟩,cY⟩:=qI z O;refine ax (aI aa aa I ae cY aa ?_);refine aK 3 aa (ay aa (inclX (aE:=L) (aJ:=M) (bf:=bx) F ae ae ae ae ae ae) ?_);rintro _ _⟨gV,rfl,G⟩;refine ro 1 aa ?_;refine cH aa ?_ ?_<;>intro h6
  ·have k6:=G.1 (by simpa using h6);refine dO 5 aa ?_;exact bI rfl rfl ⟨true,rfl,(by first|exact iff_of_true rfl ⟨ae,ae,.inr (iT.mk (by assumption) rfl rfl (by assumption))⟩|exact iff_of_false ao (fun h=>by have:=h.1;have:=h.2.1;omega)|(simp only[eK];exact⟨fun k=>⟨ae,ae,.inl ae⟩,fun h=>h.2.2.elim id fun k=>absurd k (iu.all (by assumption) ae)⟩))⟩
  have k6:¬_:=fun p=>absurd (G.2 p) (by simpa using h6)
  refine aB 3 aa (bC aa aa ae ae ?_);refine cW 2 aa ?_;exact⟨((A.length:Int) -((z+1))).toNat,ae,(z+1),⟨rfl,rfl,rfl,rfl,rfl,rfl,trivial⟩,⟨rfl,trivial⟩,rfl,ae,(by first|assumption|exact MO|exact iu.step (by assumption) ae (by assumption) rfl rfl (by assumption))⟩
 refine dO 10 aa ?_;exact bI rfl rfl ⟨decide (aW≤bx),rfl,(by first|exact iff_of_true rfl ⟨ae,ae,.inr (iT.mk (by assumption) rfl rfl (by assumption))⟩|exact iff_of_false ao (fun h=>by have:=h.1;have:=h.2.1;omega)|(simp only[eK];exact⟨fun k=>⟨ae,ae,.inl ae⟩,fun h=>h.2.2.elim id fun k=>absurd k (iu.all (by assumption) ae)⟩))⟩
end Go.Ev.Rp
