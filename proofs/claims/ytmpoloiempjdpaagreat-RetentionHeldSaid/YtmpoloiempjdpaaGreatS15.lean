/- Part 15 of rules for walks through the code of a program, and of such walks; what each part proves is said by its theorems. -/
import Derived.Test.YtmpoloiempjdpaaGreatS10
import Derived.Test.YtmpoloiempjdpaaGreatS12
import Derived.Test.YtmpoloiempjdpaaGreatS13
import Derived.Test.YtmpoloiempjdpaaGreatS14
set_option linter.unusedVariables false
set_option linter.unusedSimpArgs false
noncomputable section
set_option maxRecDepth 100000
set_option maxHeartbeats 4000000
namespace Go.Ev.Rp
open Go Go.Ev.Pp
attribute [local irreducible] VC VO VQ VI Sound bW
theorem abh{y:Int}{H:Prop}(h:(0≤y→H)∧(y<0→¬H)):0≤y↔H:=⟨h.1,fun k=>by
 by_cases e:0≤y
 ·exact e
 exact absurd k (h.2 an)⟩
def fN(a b c d:Int):Prop:=0≤a∧a<b∧b≤1099511627776∧0≤c∧c<d∧d≤1099511627776∧a<d∧c<b
def jq(w:ah)(f t:Int):Prop:=∃(q:Nat)(row:List DC)(a b:Int),w[q]?=some row∧row[1]?=some (dJ a)∧row[2]?=some (dJ b)∧fN f t a b
def js(k:Int)(w:ah)(f t:Int):Prop:=∀(q:Nat)(row:List DC)(a b:Int),(q:Int)<k→w[q]?=some row→row[1]?=some (dJ a)→row[2]?=some (dJ b)→¬fN f t a b
theorem jq.mk{w:ah}{q:Nat}{row:List DC}{a b f t:Int}(z:w[q]?=some row)(h2:row[1]?=some (dJ a))(A:row[2]?=some (dJ b))(G:fN f t a b):jq w f t:=⟨q,row,a,b,z,h2,A,G⟩
theorem MT{w:ah}{f t:Int}:js 0 w f t:=fun q _ _ _ h=>by omega
theorem js.step{k:Int}{w:ah}{row:List DC}{a b f t:Int}(h:js k w f t)(h0:0≤k)(I:w[k.toNat]?=some row)(L:row[1]?=some (dJ a))(h2:row[2]?=some (dJ b))(M:¬fN f t a b):js (k+1) w f t:=fun q r c d U z A G=>by
 by_cases O:(q:Int)<k
 ·exact h q r c d O z A G
 have:q=k.toNat:=by omega
 subst this;rw[I] at z;cases z;rw[L] at A;cases A;rw[h2] at G;cases G;exact M
theorem js.all{k:Int}{w:ah}{f t:Int}(h:js k w f t)(L:(w.length:Int)≤k):¬jq w f t:=fun⟨q,row,a,b,z,A,G,I⟩=>h q row a b (by have:=(List.getElem?_eq_some_iff.1 z).1;omega) z A G I
def DK(z:Int)(w:ah)(f t:Int):Prop:=(z<t∧0≤f∧f<t∧t≤1099511627776)∨jq w f t
theorem Dd{T:aL}(F:FT T){aI:Int}(A: -9223372036854775808≤aI)(G:aI≤9223372036854775807){aN:Int}(I: -9223372036854775808≤aN)(L:aN≤9223372036854775807):Sound T 18 [.agg [.d (dJ aI),.d (dJ aN)]] fun r=>∃z,r=dB z∧(z=true↔(0≤aI∧aI<aN∧aN≤1099511627776)):=by
 refine bk F.q18 aa (r0 11 aa ?_);refine bu aa ?_ ?_<;>intro M
 ·refine ro 7 aa ?_;refine bu aa ?_ ?_<;>intro g2
  ·exact eV 7 aa (bN aa aa ⟨decide (aN≤1099511627776),aa,Er⟩)
  exact eV 7 aa (bN aa aa ⟨false,aa,Er⟩)
 exact eV 14 aa (bN aa aa ⟨false,aa,Er⟩)
theorem SI{T:aL}(F:FT T){aI:Int}(A: -9223372036854775808≤aI)(G:aI≤9223372036854775807){aN:Int}(I: -9223372036854775808≤aN)(L:aN≤9223372036854775807):Sound T 79 [.agg [.d (dJ aI),.d (dJ aN)]] fun r=>∃z,r=dB z∧(z=true↔(0≤aI∧aI<aN∧aN≤1099511627776)):=by
 refine bk F.q79 aa (r0 11 aa ?_);refine bu aa ?_ ?_<;>intro M
 ·refine ro 7 aa ?_;refine bu aa ?_ ?_<;>intro g2
  ·exact eV 7 aa (bN aa aa ⟨decide (aN≤1099511627776),aa,Er⟩)
  exact eV 7 aa (bN aa aa ⟨false,aa,Er⟩)
 exact eV 14 aa (bN aa aa ⟨false,aa,Er⟩)
theorem acg{T:aL}(F:FT T){aI:Int}(Z: -9223372036854775808≤aI)(jf:aI≤9223372036854775807){aN:Int}(jJ: -9223372036854775808≤aN)(jK:aN≤9223372036854775807){bo:Int}(nz: -9223372036854775808≤bo)(mI:bo≤9223372036854775807){aZ:Int}(ij: -9223372036854775808≤aZ)(ik:aZ≤9223372036854775807):Sound T 42 [.agg [.d (dJ aI),.d (dJ aN)],.agg [.d (dJ bo),.d (dJ aZ)]] fun r=>∃G I L,r= .tuple [.agg [.d G,.d I],dB L]∧tJ.ok G∧tJ.ok I∧(L=true↔fN aI aN bo aZ):=by
 refine bk F.q42 aa (bV 13 aa (mR aa aa (fun z1 Cm=>?_)));refine aP 4 aa (tO aa aa (fun z2 ny=>?_));refine aP 8 aa (aA aa (Dd (aI:=aI) (aN:=aN) F ae ae ae ae) ?_);rintro _ _⟨M,rfl,z⟩;refine ro 2 aa ?_;refine bu aa ?_ ?_<;>intro O
 ·have k4:¬_:=fun p=>absurd (z.2 p) (by simpa using O)
  refine ro 12 aa (eA aa aa (fE 7 aa ?_));exact bN rfl rfl ⟨i0,i0,false,rfl,al,al,(by first|(simp only[eM,gA,false_iff,true_iff,fN] at*;omega)|(simp[fN] at*;omega))⟩
 have k4:=z.1 (by simpa using O);refine ro 1 aa (bw aa aa (aA aa (Dd (aI:=bo) (aN:=aZ) F ae ae ae ae) ?_));rintro _ _⟨U,rfl,A⟩;refine ro 3 aa ?_;refine bu aa ?_ ?_<;>intro Y
 ·have k6:¬_:=fun p=>absurd (A.2 p) (by simpa using Y)
  refine ro 7 aa (eA aa aa (fE 7 aa ?_));exact bN rfl rfl ⟨i0,i0,false,rfl,al,al,(by first|(simp only[eM,gA,false_iff,true_iff,fN] at*;omega)|(simp[fN] at*;omega))⟩
 have k6:=A.1 (by simpa using Y);refine ro 7 aa ?_;refine ay aa ?_ ?_<;>intro g7
 ·refine fE 7 aa ?_;exact bN rfl rfl ⟨i0,i0,false,rfl,al,al,(by first|(simp only[eM,gA,false_iff,true_iff,fN] at*;omega)|(simp[fN] at*;omega))⟩
 refine fE 8 aa ?_;exact bN rfl rfl ⟨(dJ z1),(dJ z2),true,rfl,al,al,(by first|(simp only[eM,gA,false_iff,true_iff,fN] at*;omega)|(simp[fN] at*;omega))⟩
theorem aeh{T:aL}(F:FT T){aI:Int}(Z: -9223372036854775808≤aI)(jf:aI≤9223372036854775807){aN:Int}(jJ: -9223372036854775808≤aN)(jK:aN≤9223372036854775807){bo:Int}(nz: -9223372036854775808≤bo)(mI:bo≤9223372036854775807){aZ:Int}(ij: -9223372036854775808≤aZ)(ik:aZ≤9223372036854775807):Sound T 135 [.agg [.d (dJ aI),.d (dJ aN)],.agg [.d (dJ bo),.d (dJ aZ)]] fun r=>∃G I L,r= .tuple [.agg [.d G,.d I],dB L]∧tJ.ok G∧tJ.ok I∧(L=true↔fN aI aN bo aZ):=by
 refine bk F.aje aa (bV 13 aa (mR aa aa (fun z1 Cm=>?_)));refine aP 4 aa (tO aa aa (fun z2 ny=>?_));refine aP 8 aa (aA aa (SI (aI:=aI) (aN:=aN) F ae ae ae ae) ?_);rintro _ _⟨M,rfl,z⟩;refine ro 2 aa ?_;refine bu aa ?_ ?_<;>intro O
 ·have k4:¬_:=fun p=>absurd (z.2 p) (by simpa using O)
  refine ro 12 aa (eA aa aa (fE 7 aa ?_));exact bN rfl rfl ⟨i0,i0,false,rfl,al,al,(by first|(simp only[eM,gA,false_iff,true_iff,fN] at*;omega)|(simp[fN] at*;omega))⟩
 have k4:=z.1 (by simpa using O);refine ro 1 aa (bw aa aa (aA aa (SI (aI:=bo) (aN:=aZ) F ae ae ae ae) ?_));rintro _ _⟨U,rfl,A⟩;refine ro 3 aa ?_;refine bu aa ?_ ?_<;>intro Y
 ·have k6:¬_:=fun p=>absurd (A.2 p) (by simpa using Y)
  refine ro 7 aa (eA aa aa (fE 7 aa ?_));exact bN rfl rfl ⟨i0,i0,false,rfl,al,al,(by first|(simp only[eM,gA,false_iff,true_iff,fN] at*;omega)|(simp[fN] at*;omega))⟩
 have k6:=A.1 (by simpa using Y);refine ro 7 aa ?_;refine ay aa ?_ ?_<;>intro g7
 ·refine fE 7 aa ?_;exact bN rfl rfl ⟨i0,i0,false,rfl,al,al,(by first|(simp only[eM,gA,false_iff,true_iff,fN] at*;omega)|(simp[fN] at*;omega))⟩
 refine fE 8 aa ?_;exact bN rfl rfl ⟨(dJ z1),(dJ z2),true,rfl,al,al,(by first|(simp only[eM,gA,false_iff,true_iff,fN] at*;omega)|(simp[fN] at*;omega))⟩
theorem Uj{T:aL}(F:FT T){a0 a1 a2 a4 a5 a6 a7 a8 a9:DC}(cV:tJ.ok a0)(bX:tJ.ok a1)(cK:(Ty.x).ok a2){aZ:Int}(ij: -9223372036854775808≤aZ)(ik:aZ≤9223372036854775807){G:ah}(I:au G a4)(e9:G.length≤20)(U:af ga G)(cq:(Ty.x).ok a5)(fC:tJ.ok a6)(gn:(Ty.l 1000000000 cB).ok a7)(gp:tJ.ok a8)(il:tJ.ok a9){A:Int}(la10: -9223372036854775808≤A)(ua10:A≤9223372036854775807){fh:Int}(OI: -9223372036854775808≤fh)(OJ:fh≤9223372036854775807):Sound T 136 [.agg [.d a0,.d a1,.d a2,.d (dJ aZ),.d a4,.d a5],.agg [.d a6,.d a7,.d a8,.d a9,.d (dJ A),.d (dJ fh)]] fun r=>∃y0,r=dB y0∧(y0=true↔DK aZ G A fh):=by
 refine bk F.ajf aa ?_;rcases cV,bX,fC,gn,gp,il with⟨⟨aI,rfl,iF,iG⟩,⟨aN,rfl,eD,eo⟩,⟨bE,rfl,o0,o4⟩,⟨wV,Eu,OK,Ew⟩,⟨gS,rfl,wb,wg⟩,⟨hZ,rfl,BI,BJ⟩⟩
 refine r0 16 aa ?_;refine bu aa ?_ ?_<;>intro g1
 ·refine ro 2 aa (bw aa aa (aA aa (SI (aI:=A) (aN:=fh) F ae ae ae ae) ?_));rintro _ _⟨n6,rfl,M⟩;refine ro 2 aa ?_;refine cF aa ?_ ?_<;>intro h3
  ·have k3:=M.1 (by simpa using h3);refine fE 5 aa ?_;exact bN rfl rfl ⟨true,rfl,(by first|exact iff_of_true rfl (.inl an)|exact iff_of_true rfl (.inr (jq.mk (by assumption) rfl rfl (by assumption)))|exact iff_of_false ao (fun h=>h.elim (fun k=>by omega) (js.all (by assumption) ae)))⟩
  have k3:¬_:=fun p=>absurd (M.2 p) (by simpa using h3)
  refine rc 7 aa (bh [18,4,3,2,1,0] [3,2] aa aa (fun e0 b0 k VE B=>∃z,ak ((5,.d (dJ z))::e0) VE∧ak b0 B∧k=((G.length:Int) -z).toNat∧(0≤z∧(z≤(G.length:Int)∨z=0))∧(js z G A fh)) ?_ fin);rintro _ VE B⟨z,hV,hB,rfl,bU,cN⟩;refine aT _ _ hV hB (aB 6 aa (aR aa I ?_));refine ro 2 aa ?_;refine ay aa ?_ ?_<;>intro g4
  ·refine rc 10 aa ?_;obtain⟨Ey,A6,_,⟨Y,rfl,De,Df⟩,_,⟨Z,rfl,aei,aej⟩,eW⟩:=qI z U;refine aU (aH aa aa I ae eW aa ?_);refine rq 1 aa (cE aa aa (ia aa (aV aa) (aV aa) ?_));refine aO aa (aA aa (aeh (aI:=A) (aN:=fh) (bo:=Y) (aZ:=Z) F ae ae ae ae ae ae ae ae) ?_);rintro _ _⟨lP,yN,uw,rfl,t6,vK,O⟩;refine rq 11 aa ?_;refine cF aa ?_ ?_<;>intro h7
   ·have k7:=O.1 (by simpa using h7);refine fE 5 aa ?_;exact bN rfl rfl ⟨true,rfl,(by first|exact iff_of_true rfl (.inl an)|exact iff_of_true rfl (.inr (jq.mk (by assumption) rfl rfl (by assumption)))|exact iff_of_false ao (fun h=>h.elim (fun k=>by omega) (js.all (by assumption) ae)))⟩
   have k7:¬_:=fun p=>absurd (O.2 p) (by simpa using h7)
   refine aB 3 aa (bB aa aa ae ae ?_);refine dC 2 aa ?_;exact⟨((G.length:Int) -((z+1))).toNat,ae,(z+1),⟨rfl,rfl,rfl,rfl,rfl,rfl,rfl,trivial⟩,⟨rfl,rfl,trivial⟩,rfl,ae,(by first|assumption|exact MT|exact js.step (by assumption) ae (by assumption) rfl rfl (by assumption))⟩
  refine fE 6 aa ?_;exact bN rfl rfl ⟨false,rfl,(by first|exact iff_of_true rfl (.inl an)|exact iff_of_true rfl (.inr (jq.mk (by assumption) rfl rfl (by assumption)))|exact iff_of_false ao (fun h=>h.elim (fun k=>by omega) (js.all (by assumption) ae)))⟩
 refine ro 5 aa (dn aa aa (rc 7 aa (bh [18,4,3,2,1,0] [3,2] aa aa (fun e0 b0 k VE B=>∃z,ak ((5,.d (dJ z))::e0) VE∧ak b0 B∧k=((G.length:Int) -z).toNat∧(0≤z∧(z≤(G.length:Int)∨z=0))∧(js z G A fh)) ?_ fin)));rintro _ VE B⟨z,hV,hB,rfl,bU,cN⟩;refine aT _ _ hV hB (aB 6 aa (aR aa I ?_));refine ro 2 aa ?_;refine ay aa ?_ ?_<;>intro g8
 ·refine rc 10 aa ?_;obtain⟨n7,kW,_,⟨MU,rfl,aek,ael⟩,_,⟨DL,rfl,aem,aen⟩,fw⟩:=qI z U;refine aU (aH aa aa I ae fw aa ?_);refine rq 1 aa (cE aa aa (ia aa (aV aa) (aV aa) ?_));refine aO aa (aA aa (aeh (aI:=A) (aN:=fh) (bo:=MU) (aZ:=DL) F ae ae ae ae ae ae ae ae) ?_);rintro _ _⟨nO,A7,DM,rfl,Av,SJ,L⟩;refine rq 11 aa ?_;refine cF aa ?_ ?_<;>intro wW
  ·have k11:=L.1 (by simpa using wW);refine fE 5 aa ?_;exact bN rfl rfl ⟨true,rfl,(by first|exact iff_of_true rfl (.inl an)|exact iff_of_true rfl (.inr (jq.mk (by assumption) rfl rfl (by assumption)))|exact iff_of_false ao (fun h=>h.elim (fun k=>by omega) (js.all (by assumption) ae)))⟩
  have k11:¬_:=fun p=>absurd (L.2 p) (by simpa using wW)
  refine aB 3 aa (bB aa aa ae ae ?_);refine dC 2 aa ?_;exact⟨((G.length:Int) -((z+1))).toNat,ae,(z+1),⟨rfl,rfl,rfl,rfl,rfl,rfl,rfl,trivial⟩,⟨rfl,rfl,trivial⟩,rfl,ae,(by first|assumption|exact MT|exact js.step (by assumption) ae (by assumption) rfl rfl (by assumption))⟩
 refine fE 6 aa ?_;exact bN rfl rfl ⟨false,rfl,(by first|exact iff_of_true rfl (.inl an)|exact iff_of_true rfl (.inr (jq.mk (by assumption) rfl rfl (by assumption)))|exact iff_of_false ao (fun h=>h.elim (fun k=>by omega) (js.all (by assumption) ae)))⟩
theorem clo96{T:aL}(F:FT T){L:DC}(z:tJ.ok L){aN:Int}(jJ: -9223372036854775808≤aN)(jK:aN≤9223372036854775807){bo:Int}(nz: -9223372036854775808≤bo)(mI:bo≤9223372036854775807){bF:Int}(oo: -9223372036854775808≤bF)(oq:bF≤9223372036854775807){cm:Int}(tb: -9223372036854775808≤cm)(tc:cm≤9223372036854775807):bW T 59 [.agg [.d L,.d (dJ aN),.d (dJ bo)],.vp 1004 0] [(1004,.one 46 16 [.d (dJ bF),.d (dJ cm)])] fun r B=>∃M,r=dB M∧B=[(1004,.one 46 16 [.d (dJ bF),.d (dJ cm)])]∧(M=true↔fN bF cm aN bo):=by
 refine gq F.q59 aa ?_;obtain⟨aI,rfl,O,U⟩:=z;refine bV 10 aa (aA aa (acg (aI:=bF) (aN:=cm) (bo:=aN) (aZ:=bo) F ae ae ae ae ae ae ae ae) ?_);rintro _ _⟨Y,Z,wh,rfl,A,G,I⟩;exact W
theorem idxF{T:aL}(F:FT T){a0:DC}{A:ah}(M:au A a0)(cM:A.length≤20)(U:af ga A){aZ:Int}(ij: -9223372036854775808≤aZ)(ik:aZ≤9223372036854775807){bF:Int}(oo: -9223372036854775808≤bF)(oq:bF≤9223372036854775807):bW T 76 [.d a0,.fn 59 [.vp 1003 0]] [(1003,.one 46 16 [.d (dJ aZ),.d (dJ bF)])] fun r B=>∃Y,r= .d (dJ Y)∧B=[(1003,.one 46 16 [.d (dJ aZ),.d (dJ bF)])]∧((-1)≤Y∧Y≤(A.length:Int) -1∧((0≤Y→jq A aZ bF)∧(Y<0→¬jq A aZ bF))):=by
 refine gq F.q76 aa (bV 8 aa (aR aa M ?_));refine ro 3 aa (bh [7,4,1,0] [1003] aa aa (fun e0 b0 k VE B=>∃z,ak ((8,.d (dJ z))::e0) VE∧ak b0 B∧k=((A.length:Int) -z).toNat∧(0≤z∧(z≤(A.length:Int)∨z=0))∧(js z A aZ bF)) ?_ fin);rintro _ VE B⟨z,hV,hB,rfl,bU,cN⟩;refine aT _ _ hV hB (rc 5 aa ?_);refine ay aa ?_ ?_<;>intro g1
 ·refine rc 13 aa ?_;obtain⟨Z,O,_,⟨G,rfl,tU,oG⟩,_,⟨I,rfl,vt,vu⟩,bQ⟩:=qI z U;refine aq (aH aa aa M ae bQ aa ?_);refine aP 1 aa (KL (dc:=[.agg [.d Z,.d (dJ G),.d (dJ I)],.vp 1004 0]) (Bi:=[(1004,.one 46 16 [.d (dJ aZ),.d (dJ bF)])]) [(1004,1003)] 2000 aa aa aa aa aa aa aa aa aa ⟨aa,aa,trivial⟩ (clo96 (aN:=G) (bo:=I) (bF:=aZ) (cm:=bF) F O ae ae ae ae ae ae ae ae) ?_);rintro _ _⟨jb,rfl,rfl,L⟩;refine ro 1 aa ?_;refine cF aa ?_ ?_<;>intro h4
  ·have k4:=L.1 (by simpa using h4);refine rc 6 aa ?_;exact⟨_,[(1003,.one 46 16 [.d (dJ aZ),.d (dJ bF)])],rfl,⟨rfl,trivial⟩,⟨z,rfl,rfl,⟨ae,ae,(by first|exact⟨fun _=>jq.mk (by assumption) rfl rfl (by assumption),fun h=>absurd h an⟩|exact⟨fun h=>absurd h ao,fun _=>js.all (by assumption) ae⟩)⟩⟩⟩
  have k4:¬_:=fun p=>absurd (L.2 p) (by simpa using h4)
  refine aB 2 aa (bB aa aa ae ae ?_);refine dC 2 aa ?_;exact⟨((A.length:Int) -((z+1))).toNat,ae,(z+1),⟨rfl,rfl,rfl,rfl,rfl,trivial⟩,⟨rfl,trivial⟩,rfl,ae,(by first|assumption|exact MT|exact js.step (by assumption) ae (by assumption) rfl rfl (by assumption))⟩
 refine rc 6 aa ?_;exact⟨_,[(1003,.one 46 16 [.d (dJ aZ),.d (dJ bF)])],rfl,⟨rfl,trivial⟩,⟨(-1),rfl,rfl,⟨ae,ae,(by first|exact⟨fun _=>jq.mk (by assumption) rfl rfl (by assumption),fun h=>absurd h an⟩|exact⟨fun h=>absurd h ao,fun _=>js.all (by assumption) ae⟩)⟩⟩⟩
theorem agH{T:aL}(F:FT T){L:DC}{z:ah}(A:au z L)(Y:z.length≤20)(G:af ga z){aZ:Int}(ij: -9223372036854775808≤aZ)(ik:aZ≤9223372036854775807){bF:Int}(oo: -9223372036854775808≤bF)(oq:bF≤9223372036854775807):bW T 46 [.d L,.fn 59 [.vp 1003 0]] [(1003,.one 46 16 [.d (dJ aZ),.d (dJ bF)])] fun r B=>∃Z,r=dB Z∧B=[(1003,.one 46 16 [.d (dJ aZ),.d (dJ bF)])]∧(Z=true↔jq z aZ bF):=by
 refine gq F.q46 aa (bV 8 aa (iP (dc:=[.d L,.fn 59 [.vp 1003 0]]) (Bi:=[(1003,.one 46 16 [.d (dJ aZ),.d (dJ bF)])]) [(1003,1003)] 2000 aa aa aa aa aa aa aa ⟨aa,aa,trivial⟩ (idxF (aZ:=aZ) (bF:=bF) F A ae G ae ae ae ae) ?_));rintro _ _⟨I,rfl,rfl,M,O,U⟩;refine ro 4 aa ?_;exact⟨_,[(1003,.one 46 16 [.d (dJ aZ),.d (dJ bF)])],rfl,⟨rfl,trivial⟩,⟨decide (0≤I),rfl,rfl,(by simp only[eM];exact abh (by assumption))⟩⟩
theorem keptPr{T:aL}(F:FT T){a0 a1 a2 O a5:DC}(U:tJ.ok a0)(Y:tJ.ok a1)(cK:(Ty.x).ok a2){aZ:Int}(ij: -9223372036854775808≤aZ)(ik:aZ≤9223372036854775807){A:ah}(G:au A O)(e9:A.length≤20)(I:af ga A)(cq:(Ty.x).ok a5){bE:Int}(ot: -9223372036854775808≤bE)(ou:bE≤9223372036854775807){ca:Int}(qf: -9223372036854775808≤ca)(qg:ca≤9223372036854775807):Sound T 35 [.agg [.d a0,.d a1,.d a2,.d (dJ aZ),.d O,.d a5],.agg [.d (dJ bE),.d (dJ ca)]] fun r=>∃y0,r=dB y0∧(y0=true↔DK aZ A bE ca):=by
 refine bk F.q35 aa ?_;rcases U,Y with⟨⟨aI,rfl,iF,iG⟩,⟨aN,rfl,eD,eo⟩⟩
 refine bV 10 aa (aA aa (Dd (aI:=bE) (aN:=ca) F ae ae ae ae) ?_);rintro _ _⟨dG,rfl,z⟩;refine ro 1 aa ?_;refine bu aa ?_ ?_<;>intro h2
 ·have k2:=z.1 (by simpa using h2);refine ro 7 aa ?_;refine ay aa ?_ ?_<;>intro g3
  ·refine fE 5 aa ?_;exact bN rfl rfl ⟨true,rfl,(by first|exact iff_of_true rfl (.inl an)|exact Iff.trans (by assumption) ⟨.inr,fun h=>h.elim (fun k=>by omega) id⟩)⟩
  refine aB 6 aa (iP (dc:=[.d O,.fn 59 [.vp 1003 0]]) (Bi:=[(1003,.one 46 16 [.d (dJ bE),.d (dJ ca)])]) [(1003,3)] 2000 aa aa aa aa aa aa aa ⟨aa,aa,trivial⟩ (agH (aZ:=bE) (bF:=ca) F G ae I ae ae ae ae) ?_);rintro _ _⟨L,rfl,rfl,Z⟩;refine eV 3 aa ?_;exact bN rfl rfl ⟨L,rfl,(by first|exact iff_of_true rfl (.inl an)|exact Iff.trans (by assumption) ⟨.inr,fun h=>h.elim (fun k=>by omega) id⟩)⟩
 have k2:¬_:=fun p=>absurd (z.2 p) (by simpa using h2)
 refine ro 7 aa (dn aa aa (aB 6 aa (iP (dc:=[.d O,.fn 59 [.vp 1003 0]]) (Bi:=[(1003,.one 46 16 [.d (dJ bE),.d (dJ ca)])]) [(1003,3)] 2000 aa aa aa aa aa aa aa ⟨aa,aa,trivial⟩ (agH (aZ:=bE) (bF:=ca) F G ae I ae ae ae ae) ?_)));rintro _ _⟨M,rfl,rfl,pH⟩;refine eV 3 aa ?_;exact bN rfl rfl ⟨M,rfl,(by first|exact iff_of_true rfl (.inl an)|exact Iff.trans (by assumption) ⟨.inr,fun h=>h.elim (fun k=>by omega) id⟩)⟩
end Go.Ev.Rp
namespace Go.Ev.Rp
open Go Go.Ev.Pp
attribute [local irreducible] VC VO VQ VI Sound bW
def jl(z:Int)(A:ah)(r:List DC):Bool:= @decide (∃a b,r[4]?=some (dJ a)∧r[5]?=some (dJ b)∧DK z A a b) (Classical.propDecidable _)
theorem MV{z:Int}{A:ah}{r:List DC}{a b:Int}(G:r[4]?=some (dJ a))(h2:r[5]?=some (dJ b))(h:DK z A a b):jl z A r=true:=by
 unfold jl;exact @decide_eq_true _ (Classical.propDecidable _) ⟨a,b,G,h2,h⟩
theorem H4{z:Int}{A:ah}{r:List DC}{a b:Int}(L:r[4]?=some (dJ a))(h2:r[5]?=some (dJ b))(h:¬DK z A a b):jl z A r=false:=by
 unfold jl;refine @decide_eq_false _ (Classical.propDecidable _) ?_;rintro⟨c,d,G,I,M⟩;rw[L] at G;cases G;rw[h2] at I;cases I;exact h M
theorem aeo{R:List DC→List DC→Prop}{w:ah}:lO R (w.take (0:Int).toNat) []:=⟨by simp,fun q r r' h=>by simp at h⟩
theorem aao{R:List DC→List DC→Prop}{w w':ah}{k:Int}{r r':List DC}(h:lO R (w.take k.toNat) w')(h0:0≤k)(L:w[k.toNat]?=some r)(M:R r r'):lO R (w.take (k+1).toNat) (w'++[r']):=by
 have U:=(List.getElem?_eq_some_iff.1 L).1;have O:w'.length=k.toNat:=by rw[←h.1,iD];omega
 have e:w.take (k+1).toNat=w.take k.toNat++[r]:=by rw[show(k+1).toNat=k.toNat+1 by omega,t3,L];rfl
 rw[e];refine⟨by rw[e7,e7,h.1];rfl,fun q a b z A=>?_⟩;have G:(w.take k.toNat).length=k.toNat:=by rw[iD];omega
 by_cases Y:q<k.toNat
 ·rw[sA an] at z A;exact h.2 q a b z A
 rw[rl an,G] at z;rw[rl an,O] at A;have I:q-k.toNat=0:=by
  rcases Nat.eq_zero_or_pos (q-k.toNat) with h|h
  ·exact h
  rw[yB (by simp;omega)] at z;cases z
 rw[I] at z A
 cases z;cases A
 exact M
theorem abi{R:List DC→List DC→Prop}{w w':ah}{k:Int}(h:lO R (w.take k.toNat) w')(z:(w.length:Int)≤k):lO R w w':=by rwa [rf an] at h
def agI(z:Int)(I:ah)(r r':List DC):Prop:=∃A v k f c x G w,r=[A,v,k,f,c,x]∧r'=[A,v,k,f,c,G]∧au w x∧au (w.filter (jl z I)) G
theorem agI.mk{z:Int}{I w:ah}{A v k f c x G:DC}(h:au w x)(h':au (w.filter (jl z I)) G):agI z I [A,v,k,f,c,x] [A,v,k,f,c,G]:=⟨A,v,k,f,c,x,G,w,rfl,rfl,h,h'⟩
end Go.Ev.Rp
namespace Go.Ev.Rp
open Go Go.Ev.Pp
attribute [local irreducible] VC VO VQ VI Sound bW
theorem aep{w:ah}{z:Int}{a:Nat}{r:List DC}(h:z=a)(A:w[a]?=some r):w[z.toNat]?=some r:=by subst h;exact A
theorem aap{row:List Ty}{w:ah}{p:List DC→Bool}(h:af row w):af row (w.filter p):=fun r z=>h r (List.mem_filter.1 z).1
theorem agJ{T:aL}(F:FT T){a0 a1 a2 a3 U a9 A G I:DC}(Y:tJ.ok a0)(Z:(Ty.l 1000000000 cB).ok a1)(cK:tJ.ok a2)(cw:tJ.ok a3){bF:Int}(oo: -9223372036854775808≤bF)(oq:bF≤9223372036854775807){cm:Int}(tb: -9223372036854775808≤cm)(tc:cm≤9223372036854775807)(gp:tJ.ok U)(il:tJ.ok a9)(nk:(Ty.x).ok A){fh:Int}(OI: -9223372036854775808≤fh)(OJ:fh≤9223372036854775807){z:ah}(L:au z G)(agK:z.length≤20)(M:af ga z)(yO:(Ty.x).ok I):bW T 34 [.agg [.d a0,.d a1,.d a2,.d a3,.d (dJ bF),.d (dJ cm)],.vp 1007 0] [(1008,.one 29 96 [.d U,.d a9,.d A,.d (dJ fh),.d G,.d I]),(1007,.one 61 8 [.vp 1008 0])] fun r B=>∃y0,r=dB y0∧B=[(1008,.one 29 96 [.d U,.d a9,.d A,.d (dJ fh),.d G,.d I]),(1007,.one 61 8 [.vp 1008 0])]∧(y0=true↔¬DK fh z bF cm):=by
 refine gq F.q34 aa ?_;rcases Y,Z,cK,cw,gp,il with⟨⟨aI,rfl,iF,iG⟩,⟨bD,cO,dm,cl⟩,⟨bo,rfl,lA,lB⟩,⟨aZ,rfl,kC,kD⟩,⟨gS,rfl,wb,wg⟩,⟨hZ,rfl,BI,BJ⟩⟩
 refine r0 12 aa (aO aa (aA aa (keptPr (aZ:=fh) (bE:=bF) (ca:=cm) F al al cg ae ae L ae M cg ae ae ae ae) ?_));rintro _ _⟨O,rfl,mh⟩;exact rq 4 aa (⟨_,[(1008,.one 29 96 [.d (dJ gS),.d (dJ hZ),.d A,.d (dJ fh),.d G,.d I]),(1007,.one 61 8 [.vp 1008 0])],aa,⟨aa,⟨aa,trivial⟩⟩,⟨(!O),aa,aa,(nb_iff dZ)⟩⟩)
theorem idxV{T:aL}(F:FT T){a4 a5 a6 a8 a9:DC}{A:ah}(bO:af gj A)(Jb:0≤(A.length:Int))(ajq:(A.length:Int)≤100000)(cb:tJ.ok a4)(cq:tJ.ok a5)(fC:(Ty.x).ok a6){ca:Int}(qf: -9223372036854775808≤ca)(qg:ca≤9223372036854775807){I:ah}(lC:au I a8)(sK:I.length≤20)(lQ:af ga I)(il:(Ty.x).ok a9):bW T 58 [.bs 1001 A.length 6,.fn 34 [.vp 1003 0]] [(1001,.arr 48 64 6 A.length A),(1004,.one 29 96 [.d a4,.d a5,.d a6,.d (dJ ca),.d a8,.d a9]),(1003,.one 61 8 [.vp 1004 0])] fun r B=>∃U,r= .d (dJ U)∧B=[(1001,.arr 48 64 6 A.length A),(1004,.one 29 96 [.d a4,.d a5,.d a6,.d (dJ ca),.d a8,.d a9]),(1003,.one 61 8 [.vp 1004 0])]∧((-1)≤U∧U≤(A.length:Int) -1∧((0≤U→n5 U A (jl ca I)∧∃r,A[Int.toNat U]?=some r∧jl ca I r=false)∧(U<0→A.filter (jl ca I)=A))):=by
 refine gq F.q58 aa ?_;rcases cb,cq with⟨⟨bF,rfl,mw,my⟩,⟨cm,rfl,nq,nr⟩⟩
 refine r0 12 aa (bh [7,4,1,0] [1004,1003,1001] aa aa (fun e0 b0 k VE B=>∃G,ak ((8,.d (dJ G))::e0) VE∧ak b0 B∧k=((A.length:Int) -G).toNat∧(0≤G∧(G≤(A.length:Int)∨G=0))∧(n5 G A (jl ca I))) ?_ fin);rintro _ VE B⟨G,hV,hB,rfl,bU,cN⟩;refine aT _ _ hV hB (rc 5 aa ?_);refine ay aa ?_ ?_<;>intro g1
 ·refine rc 13 aa ?_;obtain⟨j2,qh,Y⟩:=bx (z:=G) (n:=A.length) ae ae;obtain⟨gC,Z,fJ,iX,fW,iC,lD,lL,_,⟨L,rfl,hzx2_4,kzx2_4⟩,_,⟨M,rfl,aeq,aer⟩,bQ⟩:=qN Y bO;refine aq (eP rfl (by rw[←qh];rfl) Y ?_);refine aq (Fy (rows:=A) aa aa (bd _) (bd _) Y bQ (aV aa) (aV aa) ?_);refine aq (KL (dc:=[.agg [.d gC,.d fJ,.d fW,.d lD,.d (dJ L),.d (dJ M)],.vp 1007 0]) (Bi:=[(1008,.one 29 96 [.d (dJ bF),.d (dJ cm),.d a6,.d (dJ ca),.d a8,.d a9]),(1007,.one 61 8 [.vp 1008 0])]) [(1008,1004),(1007,1003)] 2000 aa aa aa aa aa aa aa aa aa ⟨aa,aa,⟨aa,aa,trivial⟩⟩ (agJ (bF:=L) (cm:=M) (fh:=ca) F Z iX iC lL ae ae ae ae al al cg ae ae lC ae lQ cg) ?_);rintro _ _⟨jb,rfl,rfl,O⟩;refine ro 1 aa ?_;refine cF aa ?_ ?_<;>intro h4
  ·have k4:=O.1 (by simpa using h4);refine rc 6 aa ?_;exact⟨_,[(1001,.arr 48 64 6 A.length A),(1004,.one 29 96 [.d (dJ bF),.d (dJ cm),.d a6,.d (dJ ca),.d a8,.d a9]),(1003,.one 61 8 [.vp 1004 0])],rfl,⟨rfl,⟨rfl,⟨rfl,trivial⟩⟩⟩,⟨G,rfl,rfl,⟨ae,ae,(by first|exact⟨fun _=>⟨by assumption,_,aep (by assumption) (by assumption),H4 rfl rfl (by assumption)⟩,fun h=>absurd h an⟩|exact⟨fun h=>absurd h ao,fun _=>n5.all (by assumption) ae⟩)⟩⟩⟩
  have k4:¬_:=fun p=>absurd (O.2 p) (by simpa using h4)
  refine aB 2 aa (bB aa aa ae ae ?_);refine dC 2 aa ?_;exact⟨((A.length:Int) -((G+1))).toNat,ae,(G+1),⟨rfl,rfl,rfl,rfl,rfl,trivial⟩,⟨rfl,rfl,rfl,trivial⟩,rfl,ae,(by first|exact allK_0|exact n5.step (by assumption) (by assumption) (by assumption) (MV rfl rfl (Classical.not_not.1 (by assumption)))|assumption)⟩
 refine rc 6 aa ?_;exact⟨_,[(1001,.arr 48 64 6 A.length A),(1004,.one 29 96 [.d (dJ bF),.d (dJ cm),.d a6,.d (dJ ca),.d a8,.d a9]),(1003,.one 61 8 [.vp 1004 0])],rfl,⟨rfl,⟨rfl,⟨rfl,trivial⟩⟩⟩,⟨(-1),rfl,rfl,⟨ae,ae,(by first|exact⟨fun _=>⟨by assumption,_,aep (by assumption) (by assumption),H4 rfl rfl (by assumption)⟩,fun h=>absurd h an⟩|exact⟨fun h=>absurd h ao,fun _=>n5.all (by assumption) ae⟩)⟩⟩⟩
theorem delF{T:aL}(F:FT T){a4 a5 a6 a8 a9:DC}{G:ah}(Y:af gj G)(Jb:0≤(G.length:Int))(ajq:(G.length:Int)≤100000)(cb:tJ.ok a4)(cq:tJ.ok a5)(fC:(Ty.x).ok a6){ca:Int}(qf: -9223372036854775808≤ca)(qg:ca≤9223372036854775807){U:ah}(lC:au U a8)(sK:U.length≤20)(lQ:af ga U)(il:(Ty.x).ok a9):bW T 33 [.bs 1001 G.length 6,.fn 34 [.vp 1003 0]] [(1001,.arr 48 64 6 G.length G),(1004,.one 29 96 [.d a4,.d a5,.d a6,.d (dJ ca),.d a8,.d a9]),(1003,.one 61 8 [.vp 1004 0])] fun r B=>∃y0 Z,r= .d y0∧B=[(1004,.one 29 96 [.d a4,.d a5,.d a6,.d (dJ ca),.d a8,.d a9]),(1003,.one 61 8 [.vp 1004 0])]∧au Z y0∧(Z.length:Int)≤G.length∧af gj Z∧0≤(Z.length:Int)∧(Z=G.filter (jl ca U)):=by
 refine gq F.q33 aa ?_;rcases cb,cq with⟨⟨bF,rfl,mw,my⟩,⟨cm,rfl,nq,nr⟩⟩
 refine bV 8 aa (iP (dc:=[.bs 1001 (G.length) 6,.fn 34 [.vp 1003 0]]) (Bi:=[(1001,.arr 48 64 6 (G.length) G),(1004,.one 29 96 [.d (dJ bF),.d (dJ cm),.d a6,.d (dJ ca),.d a8,.d a9]),(1003,.one 61 8 [.vp 1004 0])]) [(1001,1001),(1004,1004),(1003,1003)] 2000 aa aa aa aa aa aa aa ⟨aa,aa,⟨aa,aa,⟨aa,aa,trivial⟩⟩⟩ (idxV (ca:=ca) F Y ae ae al al cg ae ae lC ae lQ cg) ?_);rintro _ _⟨dG,rfl,rfl,agL,agM,mh⟩;refine ro 8 aa ?_;refine ay aa ?_ ?_<;>intro g2
 ·refine rc 2 aa ?_;have hrX:=(mh.2 an).symm;exact rp 3 aa (kN 4 1001 aa aa (fun _=>⟨aa,aa⟩) (W))
 refine rc 4 aa ?_;obtain⟨Xr,rk,hgk,hpk⟩:=mh.1 an;refine hY 1 aa (bB aa aa ae ae ?_);refine ro 3 aa ?_;refine bh [12,4,1] [1004,1003] rfl rfl (fun e0 b0 k VE B=>∃O I M A,ak ((0,.bs 1001 M 6)::(5,.d (dJ O))::(6,.d (dJ I))::e0) VE∧ak ((1001,.arr 48 64 6 M A)::b0) B∧k=((G.length:Int) -I).toNat∧(0≤O∧O<I)∧(0≤I∧(I≤(G.length:Int)∨I=0))∧(A.length=M)∧(M=G.length)∧(af gj A)∧(A.take O.toNat=(G.take I.toNat).filter (jl ca U))∧(∀q:Nat,I≤q→A[q]?=G[q]?)) ?_ (k:=((G.length:Int) -((dG+1))).toNat) ⟨dG,(dG+1),(G.length),G,⟨rfl,rfl,rfl,rfl,rfl,rfl,trivial⟩,⟨rfl,rfl,rfl,trivial⟩,rfl,ae,ae,Uo,ae,Y,(by first|exact SD ae (by assumption) (by assumption) (by assumption)|exact DI (by assumption) (by assumption) ae ae (by assumption) (by assumption) (by assumption) (MV rfl rfl (Classical.not_not.1 (by assumption))) (by assumption) rfl|exact DI (by assumption) (by assumption) ae ae (by assumption) (by assumption) (by assumption) (by assumption) (by assumption) rfl|exact Ut (by assumption) (by assumption) (by assumption) (by assumption) (H4 rfl rfl (by assumption))|assumption),(by first|exact fun _ _=>rfl|exact SE (by assumption) (by assumption) (by assumption) ae|exact Uu (by assumption)|assumption)⟩;rintro _ VE B⟨O,I,M,A,hV,hB,rfl,bU,cN,rfl,lR,L,BK,ajr⟩;refine aT _ _ hV hB (rc 8 aa ?_);refine ay aa ?_ ?_<;>intro g3
 ·refine rc 7 aa ?_;obtain⟨j4,ov,lG⟩:=bx (z:=I) (n:=A.length) ae ae;obtain⟨o5,kx,fr,jT,pU,oO,Jc,sq,_,⟨H5,rfl,hzx4_4,kzx4_4⟩,_,⟨H6,rfl,hzx4_5,kzx4_5⟩,dh⟩:=qN lG L;refine aq (eP rfl (by rw[←ov];rfl) lG ?_);refine aq (Fy (rows:=A) aa aa (bd _) (bd _) lG dh (aV aa) (aV aa) ?_);refine aP 7 aa (KL (dc:=[.agg [.d o5,.d fr,.d pU,.d Jc,.d (dJ H5),.d (dJ H6)],.vp 1007 0]) (Bi:=[(1008,.one 29 96 [.d (dJ bF),.d (dJ cm),.d a6,.d (dJ ca),.d a8,.d a9]),(1007,.one 61 8 [.vp 1008 0])]) [(1008,1004),(1007,1003)] 2000 aa aa aa aa aa aa aa aa aa ⟨aa,aa,⟨aa,aa,trivial⟩⟩ (agJ (bF:=H5) (cm:=H6) (fh:=ca) F kx jT oO sq ae ae ae ae al al cg ae ae lC ae lQ cg) ?_);rintro _ _⟨jG,rfl,rfl,pH⟩;refine ro 2 aa ?_;refine cF aa ?_ ?_<;>intro h6
  ·have k6:¬_:=fun p=>absurd (pH.2 p) (by simpa using h6)
   refine rc 5 aa ?_;obtain⟨j7,im,fm⟩:=bx (z:=O) (n:=A.length) ae ae;obtain⟨ns,nf,n9,qW,yP,yi,VT,H7,VU,H8,VW,hx7_5,eF⟩:=qN fm L;refine aq (eP rfl (by rw[←im];rfl) fm ?_);refine iT (rT aa aa aa aa aa aa ao ao eF (fun w8 ow ql=>?_));have td:af gj w8:=by rw[ow];exact ff L (aj kx (aj jT (aj oO (aj sq (aj al (aj al bm))))))
   rw[←ql];refine aP 3 aa (bB aa aa ae ae ?_);refine aP 4 aa (bB aa aa ae ae ?_);refine dC 2 aa ?_;exact⟨((G.length:Int) -((I+1))).toNat,ae,(O+1),(I+1),(w8.length),w8,⟨rfl,rfl,rfl,rfl,rfl,rfl,trivial⟩,⟨rfl,rfl,rfl,trivial⟩,rfl,ae,ae,Uo,ae,td,(by first|exact SD ae (by assumption) (by assumption) (by assumption)|exact DI (by assumption) (by assumption) ae ae (by assumption) (by assumption) (by assumption) (MV rfl rfl (Classical.not_not.1 (by assumption))) (by assumption) rfl|exact DI (by assumption) (by assumption) ae ae (by assumption) (by assumption) (by assumption) (by assumption) (by assumption) rfl|exact Ut (by assumption) (by assumption) (by assumption) (by assumption) (H4 rfl rfl (by assumption))|assumption),(by first|exact fun _ _=>rfl|exact SE (by assumption) (by assumption) (by assumption) ae|exact Uu (by assumption)|assumption)⟩
  have k6:=pH.1 (by simpa using h6);refine aB 3 aa (bB aa aa ae ae ?_);refine dC 2 aa ?_;exact⟨((G.length:Int) -((I+1))).toNat,ae,O,(I+1),(A.length),A,⟨rfl,rfl,rfl,rfl,rfl,rfl,trivial⟩,⟨rfl,rfl,rfl,trivial⟩,rfl,ae,ae,Uo,ae,L,(by first|exact SD ae (by assumption) (by assumption) (by assumption)|exact DI (by assumption) (by assumption) ae ae (by assumption) (by assumption) (by assumption) (MV rfl rfl (Classical.not_not.1 (by assumption))) (by assumption) rfl|exact DI (by assumption) (by assumption) ae ae (by assumption) (by assumption) (by assumption) (by assumption) (by assumption) rfl|exact Ut (by assumption) (by assumption) (by assumption) (by assumption) (H4 rfl rfl (by assumption))|assumption),(by first|exact fun _ _=>rfl|exact SE (by assumption) (by assumption) (by assumption) ae|exact Uu (by assumption)|assumption)⟩
 refine rc 5 aa (GJ 1001 aa (fun p9=>?_));obtain⟨rN,pV,nu⟩:=bx (z:=O) (n:=A.length+1) ae ae;refine aq (Rg rfl rfl (by rw[←pV];rfl) ae ?_);refine iT (abb (b:=1001) (zr:=[i0,.nil,i0,i0,i0,i0]) (n:=A.length) (j:=rN) (rows:=A) aa aa aa ae aa aa ao ?_);refine ro 5 aa ?_;obtain⟨mJ,pW,Jd⟩:=bx (z:=O) (n:=A.length+1) ae ae;refine aq (aba rfl rfl (by rw[←pW];rfl) ae ?_);refine ro 2 aa ?_;refine ab7 4 1001 (n:=A.length) rfl (by simp only[e7,iD,qQ];omega) rfl ae ?_;have hres12:(((A.take rN++List.replicate (A.length-rN) ([i0,.nil,i0,i0,i0,i0]:List DC)):ah).take mJ)=G.filter (jl ca U):=del_R dZ ae dZ dZ ae;have hok12:af gj (((A.take rN++List.replicate (A.length-rN) ([i0,.nil,i0,i0,i0,i0]:List DC)):ah).take mJ):=by rw[hres12];exact aap Y
 exact W
end Go.Ev.Rp
namespace Go.Ev.Rp
open Go Go.Ev.Pp
attribute [local irreducible] VC VO VQ VI Sound bW
theorem A3.mk{f t d z:DC}{w w':ah}(h:au w d)(h':au w' z)(e:w'=w):A3 [f,t,d] [f,t,z]:=⟨f,t,d,z,w,rfl,rfl,h,e▸h'⟩
theorem Au.mk{k d z:DC}{w w':ah}(h:au w d)(h':au w' z)(e:w'=w):Au [k,d] [k,z]:=⟨k,d,z,w,rfl,rfl,h,e▸h'⟩
theorem take_0{w:ah}:[]=w.take (0:Int).toNat:=by simp
theorem take_S{w w':ah}{k:Int}{r:List DC}(h:w'=w.take k.toNat)(h0:0≤k)(z:w[k.toNat]?=some r):w'++[r]=w.take (k+1).toNat:=by
 rw[show(k+1).toNat=k.toNat+1 by omega,t3,z,h];rfl
theorem take_A{w w':ah}{k:Int}(h:w'=w.take k.toNat)(z:(w.length:Int)≤k):w'=w:=by rwa [rf an] at h
theorem clI{T:aL}(F:FT T){M:DC}{z:ah}(I:au z M)(O:z.length≤200)(L:af bn z):Sound T 56 [.d M] fun r=>∃U A,r= .d U∧au A U∧(A.length:Int)≤200∧af bn A∧0≤(A.length:Int)∧(A=z):=by
 refine bk F.XS aa (r0 8 aa ?_);rcases I with G|⟨Y,G⟩
 ·subst G;refine aq (qB aa aa ?_);refine ro 1 aa (dn aa aa (aB 5 aa (qC (rows:=[]) (ys:=z) aa aa aa (.sD (.inl aa) (cC L aa)) ao ae ?_)));exact ro 2 aa (kN 2 5 aa aa (fun _=>⟨aa,aa⟩) (W))
 subst G;refine aq (tA aa aa ?_);refine ro 1 aa (eA aa aa (fE 5 aa ?_));exact bN rfl rfl ⟨.nil,[],rfl,(.inr ⟨rfl,rfl⟩),ae,cj,ae,(by first|exact Y.symm|exact Bu _|rfl)⟩
theorem clC{T:aL}(F:FT T){M:DC}{z:ah}(I:au z M)(O:z.length≤13)(L:af lN z):Sound T 57 [.d M] fun r=>∃U A,r= .d U∧au A U∧(A.length:Int)≤13∧af lN A∧0≤(A.length:Int)∧(A=z):=by
 refine bk F.q57 aa (r0 8 aa ?_);rcases I with G|⟨Y,G⟩
 ·subst G;refine aq (qB aa aa ?_);refine ro 1 aa (dn aa aa (aB 5 aa (qC (rows:=[]) (ys:=z) aa aa aa (.sD (.inl aa) (cC L aa)) ao ae ?_)));exact ro 2 aa (kN 2 5 aa aa (fun _=>⟨aa,aa⟩) (W))
 subst G;refine aq (tA aa aa ?_);refine ro 1 aa (eA aa aa (fE 5 aa ?_));exact bN rfl rfl ⟨.nil,[],rfl,(.inr ⟨rfl,rfl⟩),ae,cj,ae,(by first|exact Y.symm|exact Bu _|rfl)⟩
theorem clV{T:aL}(F:FT T){M:DC}{z:ah}(I:au z M)(O:z.length≤1000000000)(L:af cB z):Sound T 31 [.d M] fun r=>∃U A,r= .d U∧au A U∧(A.length:Int)≤1000000000∧af cB A∧0≤(A.length:Int)∧(A=z):=by
 refine bk F.q31 aa (r0 8 aa ?_);rcases I with G|⟨Y,G⟩
 ·subst G;refine aq (qB aa aa ?_);refine ro 1 aa (dn aa aa (aB 5 aa (qC (rows:=[]) (ys:=z) aa aa aa (.sD (.inl aa) (cC L aa)) ao ae ?_)));exact ro 2 aa (kN 2 5 aa aa (fun _=>⟨aa,aa⟩) (W))
 subst G;refine aq (tA aa aa ?_);refine ro 1 aa (eA aa aa (fE 5 aa ?_));exact bN rfl rfl ⟨.nil,[],rfl,(.inr ⟨rfl,rfl⟩),ae,cj,ae,(by first|exact Y.symm|exact Bu _|rfl)⟩
theorem clE{T:aL}(F:FT T){A:DC}(z:(Ty.e (DC.sl [[DC.i .i64 1]])).ok A):Sound T 56 [.d A] fun r=>∃G,r= .d G∧(Ty.e (DC.sl [[DC.i .i64 1]])).ok G:=by
 refine bk F.XS aa ?_;obtain rfl:=z;refine bV 8 aa (qB aa aa ?_);refine ro 1 aa (dn aa aa (aB 5 aa (qC (rows:=[]) (ys:=([[DC.i .i64 1]]:ah)) aa aa aa (.sD (.inl aa) (cC DH aa)) ao ae ?_)));exact ro 2 aa (kN 2 5 aa aa (fun _=>⟨aa,aa⟩) (W))
theorem clSchema{T:aL}(F:FT T){a0 a1 a2 a3 a4:DC}(cV:(Ty.s 1000).ok a0){bD:ah}(cO:au bD a1)(dm:bD.length≤100)(cl:af dX bD){bz:ah}(cr:au bz a2)(cY:bz.length≤200)(bY:af bn bz){dD:ah}(eZ:au dD a3)(fO:dD.length≤4)(eu:af ew dD){et:ah}(dE:au et a4)(e9:et.length≤4)(dk:af dW et):Sound T 29 [.agg [.d a0,.d a1,.d a2,.d a3,.d a4]] fun r=>∃y0 bt y2 dH y4 pe y6 Kc,r= .agg [.d a0,.d y0,.d y2,.d y4,.d y6]∧au bt y0∧(bt.length:Int)≤100∧af dX bt∧0≤(bt.length:Int)∧(lO A3 bD bt)∧au dH y2∧(dH.length:Int)≤200∧af bn dH∧0≤(dH.length:Int)∧(dH=bz)∧au pe y4∧(pe.length:Int)≤4∧af ew pe∧0≤(pe.length:Int)∧(pe=dD)∧au Kc y6∧(Kc.length:Int)≤4∧af dW Kc∧0≤(Kc.length:Int)∧(lO Au et Kc):=by
 refine bk F.q29 aa ?_;obtain⟨gU,rfl,kE⟩:=cV;refine r0 11 aa (aO aa (aA aa (clI F cr ae bY) ?_));rintro _ _⟨dG,fq,rfl,gY,jP,fF,nJ,hfy1_0⟩;refine rq 9 aa (aq (aR aa cO ?_));refine ro 3 aa (jh 3 1 90 129 40 3 aa aa aa (bh [18,17,3,2,1,0] [2,1] aa aa (fun e0 b0 k VE B=>∃I z,ak ((19,.d (dJ I))::e0) VE∧ak ((3,.one 40 112 [dS gU,.ac 90 z.length 3,.d dG,dN,dN])::(90,.acc 129 40 3 z)::b0) B∧k=((bD.length:Int) -I).toNat∧(0≤I∧(I≤(bD.length:Int)∨I=0))∧((z.length:Int)≤I)∧(af dX z)∧(lO A3 (bD.take I.toNat) z)) ?_ fin));rintro _ VE B⟨I,z,hV,hB,rfl,bU,cN,O,lR⟩;refine aT _ _ hV hB (rc 5 aa ?_);refine ay aa ?_ ?_<;>intro g2
 ·refine rc 5 aa ?_;obtain⟨_,⟨yj,rfl,GO,Dg⟩,_,⟨H9,rfl,hzx3_1,kzx3_1⟩,BL,⟨UA,SK,SL,SM⟩,fL⟩:=qI I cl;refine aq (aH aa aa cO ae fL aa ?_);refine ro 11 aa (aO aa (aA aa (clC F SK ae SM) ?_));rintro _ _⟨gk,kX,rfl,tV,sa,sb,Aw,hfy4_0⟩;refine rq 2 aa ?_;refine aO rfl (aY (rows:=z) (ys:=[[(dJ yj),(dJ H9),gk]]) rfl rfl rfl (.bs (rows:=[[(dJ yj),(dJ H9),gk]]) rfl) ao ae (fun h=>by rw[h];rfl) (fun h=>by rw[h];rfl) ?_);refine rq 4 aa (aq (bB aa aa ae ae ?_));refine dC 2 aa ?_;exact⟨((bD.length:Int) -((I+1))).toNat,ae,(I+1),(z++[[(dJ yj),(dJ H9),gk]]),⟨rfl,rfl,rfl,rfl,rfl,rfl,rfl,trivial⟩,⟨rfl,rfl,rfl,rfl,trivial⟩,rfl,ae,dj,(eB O (ee (aj al (aj al (aj (aM tV ae sb) bm))))),(by first|exact aeo|exact aao (by assumption) ae (by assumption) (A3.mk (by assumption) (by assumption) (by assumption))|assumption)⟩
 refine aB 6 aa (aR aa eZ ?_);refine ro 3 aa (jh 3 3 91 123 64 3 aa aa aa (bh [37,36,20,19,18,17,3,2,1,0] [90,2,1] aa aa (fun e0 b0 k VE B=>∃L A,ak ((38,.d (dJ L))::e0) VE∧ak ((3,.one 40 112 [dS gU,.ac 90 z.length 3,.d dG,.ac 91 A.length 3,dN])::(91,.acc 123 64 3 A)::b0) B∧k=((dD.length:Int) -L).toNat∧(0≤L∧(L≤(dD.length:Int)∨L=0))∧((A.length:Int)≤L)∧(af ew A)∧(A=dD.take L.toNat)) ?_ fin));rintro _ VE B⟨L,A,hV,hB,rfl,fi,gl,U,VX⟩;refine aT _ _ hV hB (rc 5 aa ?_);refine ay aa ?_ ?_<;>intro g5
 ·refine rc 5 aa ?_;obtain⟨_,rfl,_,⟨UB,rfl,hsx6_1⟩,_,rfl,eX⟩:=qI L eu;refine aq (aH aa aa eZ ae eX aa ?_);refine ro 5 aa ?_;skip;refine rp 4 aa (aO aa (aA aa (clE F uq) ?_));rintro _ _⟨_,rfl,rfl⟩;refine rq 4 aa (aO aa (aA aa (clE F uq) ?_));rintro _ _⟨_,rfl,rfl⟩;refine rq 2 aa ?_;refine aO rfl (aY (rows:=A) (ys:=[[(DC.sl [[DC.i .i64 1]]),(aw UB),(DC.sl [[DC.i .i64 1]])]]) rfl rfl rfl (.bs (rows:=[[(DC.sl [[DC.i .i64 1]]),(aw UB),(DC.sl [[DC.i .i64 1]])]]) rfl) ao ae (fun h=>by rw[h];rfl) (fun h=>by rw[h];rfl) ?_);refine rq 4 aa (aq (bB aa aa ae ae ?_));refine dC 2 aa ?_;exact⟨((dD.length:Int) -((L+1))).toNat,ae,(L+1),(A++[[(DC.sl [[DC.i .i64 1]]),(aw UB),(DC.sl [[DC.i .i64 1]])]]),⟨rfl,rfl,rfl,rfl,rfl,rfl,rfl,rfl,rfl,rfl,rfl,trivial⟩,⟨rfl,rfl,rfl,rfl,rfl,trivial⟩,rfl,ae,dj,(eB U (ee (aj uq (aj (bH an) (aj uq bm))))),(by first|exact take_0|exact take_S (by assumption) ae (by assumption)|assumption)⟩
 refine aB 6 aa (aR aa dE ?_);refine ro 3 aa (jh 3 4 92 132 32 2 aa aa aa (bh [59,58,39,38,37,36,20,19,18,17,3,2,1,0] [91,90,2,1] aa aa (fun e0 b0 k VE B=>∃M G,ak ((60,.d (dJ M))::e0) VE∧ak ((3,.one 40 112 [dS gU,.ac 90 z.length 3,.d dG,.ac 91 A.length 3,.ac 92 G.length 2])::(92,.acc 132 32 2 G)::b0) B∧k=((et.length:Int) -M).toNat∧(0≤M∧(M≤(et.length:Int)∨M=0))∧((G.length:Int)≤M)∧(af dW G)∧(lO Au (et.take M.toNat) G)) ?_ fin));rintro _ VE B⟨M,G,hV,hB,rfl,oa,wi,Y,f2_3⟩;refine aT _ _ hV hB (rc 5 aa ?_);refine ay aa ?_ ?_<;>intro g9
 ·refine rc 5 aa ?_;obtain⟨_,⟨Z,rfl,RJ,RL⟩,qX,⟨aes,RM,ach,RN⟩,gv⟩:=qI M dk;refine aq (aH aa aa dE ae gv aa ?_);refine ro 11 aa (aO aa (aA aa (clI F RM ae RN) ?_));rintro _ _⟨ng,L3,rfl,Gk,Lm,Ah,hmy11_0,hfy11_0⟩;refine rq 2 aa ?_;refine aO rfl (aY (rows:=G) (ys:=[[(dJ Z),ng]]) rfl rfl rfl (.bs (rows:=[[(dJ Z),ng]]) rfl) ao ae (fun h=>by rw[h];rfl) (fun h=>by rw[h];rfl) ?_);refine rq 4 aa (aq (bB aa aa ae ae ?_));refine dC 2 aa ?_;exact⟨((et.length:Int) -((M+1))).toNat,ae,(M+1),(G++[[(dJ Z),ng]]),⟨rfl,rfl,rfl,rfl,rfl,rfl,rfl,rfl,rfl,rfl,rfl,rfl,rfl,rfl,rfl,trivial⟩,⟨rfl,rfl,rfl,rfl,rfl,rfl,trivial⟩,rfl,ae,dj,(eB Y (ee (aj al (aj (aM Gk ae Ah) bm)))),(by first|exact aeo|exact aao (by assumption) ae (by assumption) (Au.mk (by assumption) (by assumption) (by assumption))|assumption)⟩
 exact rc 4 aa (eL 76 90 aa aa dA (eL 76 91 aa aa dA (eL 76 92 aa aa dA (eV 3 aa (bN aa aa ⟨(.cR z),z,dG,fq,(.cR A),A,(.cR G),G,aa,(.acc _),ae,O,ae,(abi dZ ae),gY,ae,fF,ae,dZ,(.acc _),ae,U,ae,(take_A dZ ae),(.acc _),ae,Y,ae,(abi dZ ae)⟩)))))
end Go.Ev.Rp
namespace Go.Ev.Rp
open Go Go.Ev.Pp
theorem gf{T:aL}{VE:bb}{B:aK}{fs:da}{a:List bl}{c:IC}{R:Ex→bb→aK→da→Prop}(h:VO T a VE B fun bj B'=>VD T c bj B' fs R):VD T (.seq (.region false a) c) VE B fs R:=mY (mg (iu h))
theorem vd_sq{T:aL}{VE:bb}{B:aK}{fs:da}{a:List bl}{c:IC}{R:Ex→bb→aK→da→Prop}(h:VQ T a VE B [] fun bj B'=>VD T c bj B' fs R):VD T (.seq (.region true a) c) VE B fs R:=mY (mg (rX h))
theorem clVe{T:aL}(F:FT T){L:DC}{z:ah}(G:au z L)(M:z.length≤1000000000)(I:af cB z):Sound T 31 [.d L] fun r=>r= .d L:=by
 refine bk F.q31 aa (r0 8 aa ?_);rcases G with A|⟨O,A⟩
 ·subst A;refine aq (qB aa aa ?_);refine ro 1 aa (dn aa aa (aB 5 aa (qC (rows:=[]) (ys:=z) aa aa aa (.sD (.inl aa) (cC I aa)) ao ae ?_)));exact ro 2 aa (kN 2 5 aa aa (fun _=>⟨aa,aa⟩) (fE 1 aa (bN aa aa aa)))
 subst A;refine aq (tA aa aa ?_);exact ro 1 aa (eA aa aa (fE 5 aa (bN aa aa aa)))
theorem clVerN{T:aL}(F:FT T):Sound T 30 [dN] fun r=>r=dN:=by
 refine bk F.q30 aa (bV 8 aa (tA aa aa ?_));exact ro 1 aa (eA aa aa (fE 5 aa (bN aa aa aa)))
theorem clVerB{T:aL}(F:FT T){w:ah}(A:w.length≤100000)(z:af gj w):At T 30 [.d (.sl w)] fun r B=>r= .bs 5 w.length 6∧B=[(5,.arr 48 64 6 w.length w)]:=by
 refine gq F.q30 aa (bV 8 aa (qB aa aa ?_));refine ro 1 aa (dn aa aa (aB 5 aa (qC (rows:=[]) (ys:=w) aa aa aa (.sD (.inl aa) (cC z aa)) ao ae ?_)));exact ro 3 aa (⟨[_],[(5,.arr 48 64 6 w.length w)],aa,⟨aa,trivial⟩,aa,aa⟩)
def zZ(r r':List DC)(l:da):Prop:=∃A v v' k G f f' c I x z,r=[A,v,k,f,c,x]∧r'=[A,v',G,f',I,z]∧
 (∃w w',au w v∧au w' v'∧lO A3 w w'∧af dX w')∧(∃w,au w k∧au w G)∧(∃w,au w f∧au w f')∧(∃w w',au w c∧au w' I∧lO Au w w'∧af dW w')∧
 ((x= .nil∧z= .nil∧l=[])∨∃w g,x= .sl w∧z= .raw g w.length 6∧l=[(g,.arr 48 64 6 w.length w)])
def gg:ah→ah→da→Prop
 |[],[],fs=>fs=[]
 |r::R,r'::z,fs=>∃l cT,fs=l++cT∧zZ r r' l∧gg R z cT
 |_,_,_=>False
theorem gg.snoc{r r':List DC}{l:da}(h:zZ r r' l):∀{R z:ah}{fs:da},gg R z fs→gg (R++[r]) (z++[r']) (fs++l)
 |[],[],fs,k=>by
  simp only[gg] at k;subst k;simp only[Bu,gg];exact⟨l,[],by simp,h,rfl⟩
 |a::R,b::z,fs,k=>by
  simp only[gg,Bo] at k⊢;obtain⟨m,cT,rfl,A,G⟩:=k;exact⟨m,cT++l,by simp,A,gg.snoc h G⟩
 |[],_::_,_,k=>by simp only[gg] at k
 |_::_,[],_,k=>by simp only[gg] at k
theorem gg.len:∀{R z:ah}{fs:da},gg R z fs→R.length=z.length
 |[],[],_,_=>rfl
 |_::_,_::_,_,k=>by
  simp only[gg] at k;obtain⟨_,_,_,_,k⟩:=k;simp[gg.len k]
 |[],_::_,_,k=>by simp only[gg] at k
 |_::_,[],_,k=>by simp only[gg] at k
theorem take_succ{w:ah}{k:Int}{r:List DC}(h0:0≤k)(z:w[k.toNat]?=some r):w.take (k+1).toNat=w.take k.toNat++[r]:=by
 rw[show(k+1).toNat=k.toNat+1 by omega,t3,z];rfl
theorem putD_same{row:List DC}{o:Nat}{x:DC}(h:row[o]?=some x):jV row o [x]=row:=by
 have ho:=(List.getElem?_eq_some_iff.1 h);obtain⟨ho,rfl⟩:=ho;unfold jV
 cases z:Nat.beq ([row[o]]:List DC).length row.length with
 |true=>
  have:=cW z;simp only[List.length_singleton] at this;show [row[o]]=row
  match row,this,ho with
  |[a],_,ho=>
   have:o=0:=by simpa using ho
   subst this;rfl
 |false=>
  show row.take o++(row[o]::row.drop (o+1))=row;rw[←Br ho,Ea]
end Go.Ev.Rp
namespace Go.Ev
open Go
mutual
def lE(δ:Nat):ai→ai
 |.slice f g o l es=>.slice (f+δ) g o l es
 |.agg cs=>.agg (qY δ cs)
 |.tuple cs=>.tuple (qY δ cs)
 |x=>x
def qY(δ:Nat):List ai→List ai
 |[]=>[]
 |x::r=>lE δ x::qY δ r
end
mutual
def gx(S:Nat→Bool):ai→Bool
 |.bool _=>true
 |.int _ _=>true
 |.str _ _=>true
 |.fV=>true
 |.slice f _ _ _ _=>S f
 |.agg cs=>rA S cs
 |.tuple cs=>rA S cs
 |_=>false
def rA(S:Nat→Bool):List ai→Bool
 |[]=>true
 |x::r=>gx S x&&rA S r
end
theorem aaq{S:Nat→Bool}{δ:Nat}{a:ai}(z:gx S a=true)(h:eQ a=true):eQ (lE δ a)=true:=by
 cases a<;>first|exact h|(simp[gx] at z)|(simp only[lE];exact h)
theorem CH{δ:Nat}:∀l:List ai,qY δ l=l.map (lE δ)
 |[]=>rfl
 |x::r=>by simp only[qY,lM,CH r]
theorem Rj{S:Nat→Bool}:∀{l:List ai},rA S l=true→∀{i:Nat}{x:ai},l[i]?=some x→gx S x=true
 |y::r,h,i,x,z=>by
  simp only[rA,cU] at h
  cases i with
  |zero=>simp at z;subst z;exact h.1
  |succ i=>exact Rj h.2 (by simpa using z)
mutual
theorem SN{S:Nat→Bool}{δ:Nat}{ρ0 ρ':Ho}(A:∀f g h,S f=true→ρ0 f g=some h→ρ' (f+δ) g=some h):∀{a:ai}{v:Value},gx S a=true→VR ρ0 a v→VR ρ' (lE δ a) v
 |.bool _,_,_,h=>by simpa[VR,lE] using h
 |.int _ _,_,_,h=>by simpa[VR,lE] using h
 |.str _ _,_,_,h=>by simpa[VR,lE] using h
 |.fV,_,_,h=>by simpa[VR,lE] using h
 |.slice f g o l es,_,z,h=>by
  simp only[VR,lE,gx] at h z⊢;obtain⟨x,a,c,G,e⟩:=h;exact⟨x,a,c,A _ _ _ z G,e⟩
 |.agg cs,_,z,h=>by
  simp only[VR,lE,gx] at h z⊢;obtain⟨vs,e,I,h2⟩:=h;refine⟨vs,e,RO A z I,?_⟩;rw[CH,List.all_map,uf];intro x G;obtain⟨i,hi⟩:=List.mem_iff_getElem?.1 G;exact aaq (Rj z hi) ((List.all_eq_true.1 h2) x G)
 |.tuple cs,_,z,h=>by
  simp only[VR,lE,gx] at h z⊢;obtain⟨vs,e,I⟩:=h;exact⟨vs,e,RO A z I⟩
 |.ptr _ _ _,_,z,_=>by simp[gx] at z
 |.mT,_,z,_=>by simp[gx] at z
 |.func _ _ _,_,z,_=>by simp[gx] at z
 |.nF,_,z,_=>by simp[gx] at z
 |.iface _ _,_,z,_=>by simp[gx] at z
 |.kJ,_,z,_=>by simp[gx] at z
 |.map _,_,z,_=>by simp[gx] at z
 |.vl,_,z,_=>by simp[gx] at z
 |.undef,_,z,_=>by simp[gx] at z
theorem RO{S:Nat→Bool}{δ:Nat}{ρ0 ρ':Ho}(z:∀f g h,S f=true→ρ0 f g=some h→ρ' (f+δ) g=some h):∀{l:List ai}{vs:List Value},rA S l=true→bR ρ0 l vs→bR ρ' (qY δ l) vs
 |[],_,_,h=>by simpa[bR,qY] using h
 |x::r,_,A,h=>by
  simp only[bR,qY,rA,cU] at h A⊢;obtain⟨v,t,e,G,h2⟩:=h;exact⟨v,t,e,SN z A.1 G,RO z A.2 h2⟩
end
def BM(δ:Nat):cX→cX
 |.row elem es aC n lo fl cs=>.row elem es aC n lo fl (gJ ((List.range n).map fun i=>qY δ ((cs.get i).getD [])) .emp 0)
 |o=>o
def Ez(S:Nat→Bool):cX→Bool
 |.row _ _ _ n _ _ cs=>(List.range n).all fun i=>match cs.get i with
  |some l=>rA S l
  |none=>false
 |_=>false
theorem abj{S:Nat→Bool}{δ elem es aC n lo fl:Nat}{cs:RT}(G:Ez S (.row elem es aC n lo fl cs)=true):∃z,BM δ (.row elem es aC n lo fl cs)= .row elem es aC n lo fl z∧∀i,i<n→∃l,cs.get i=some l∧rA S l=true∧z.get i=some (qY δ l):=by
 refine⟨_,rfl,fun i hi=>?_⟩;simp only[Ez,uf] at G;have h:=G i (List.mem_range.2 hi)
 cases A:cs.get i with
 |none=>rw[A] at h;cases h
 |some l=>
  rw[A] at h;refine⟨l,rfl,h,?_⟩;rw[uT,bg ⟨gL _,by simp;exact hi⟩];simp[hi,A]
theorem ObjAt_rel{S:Nat→Bool}{δ:Nat}{ρ0 ρ':Ho}{w:World}{h:Hm}{g:Nat}{o:cX}(G:∀f g h,S f=true→ρ0 f g=some h→ρ' (f+δ) g=some h)(I:Ez S o=true)(k:A0 ρ0 w h g o):A0 ρ' w h g (BM δ o):=by
 cases o with
 |map es=>simp[Ez] at I
 |row elem es aC n lo fl cs=>
  obtain⟨O,e,U⟩:=abj (δ:=δ) I;rw[e];obtain⟨Y,Z,k3,k4⟩:=k;refine⟨Y,Z,k3,fun a b=>?_⟩;have r:=k4 a b;refine⟨r.row,r.fits,fun i hi=>?_,r.DA,r.DB,r.I3,r.JT⟩;obtain⟨l,h1,h2,h3⟩:=r.cell i hi;obtain⟨l',L,j2,j3⟩:=U i an;rw[h1] at L;cases L;refine⟨_,j3,by rw[CH,pM];exact h2,fun j x z=>?_⟩;rw[CH,yC] at z
  cases A:l[j]?with
  |none=>rw[A] at z;cases z
  |some y=>
   rw[A] at z;simp only[sw,eE] at z;subst z;obtain⟨o1,cv,o2,o3⟩:=h3 j y A;have M:=Rj j2 A;exact⟨aaq M o1,cv,o2,SN G M o3⟩
def rB(S:Nat→Bool)(δ:Nat)(t0:HT):Nat→HT→HT
 |0,t=>t
 |k+1,t=>match S k,t0.get k with
  |true,some o=>(rB S δ t0 k t).set (k+δ) (BM δ o)
  |_,_=>rB S δ t0 k t
theorem abk{S:Nat→Bool}{δ:Nat}{t0:HT}:∀(k:Nat)(t:HT)(f:Nat),(rB S δ t0 k t).get f=if δ≤f∧f<k+δ∧S (f-δ)=true∧(t0.get (f-δ)).isSome=true then(t0.get (f-δ)).map (BM δ) else t.get f
 |0,t,f=>by rw[aX an];rfl
 |k+1,t,f=>by
  have z:=abk (S:=S) (δ:=δ) (t0:=t0) k t f
  by_cases e:f=k+δ
  ·subst e;rw[show k+δ-δ=k by omega] at z⊢;have A:¬(δ≤k+δ∧k+δ<k+δ∧S k=true∧(t0.get k).isSome=true):=by omega
   rw[aX A] at z;unfold rB
   cases I:S k
   ·rw[aX (by simp)];exact z
   cases ho:t0.get k with
   |none=>rw[aX (by simp)];exact z
   |some o=>
    rw[bg ⟨an,an,rfl,rfl⟩];show((rB S δ t0 k t).set (k+δ) (BM δ o)).get (k+δ)=_;rw[GT.df,bg rfl];rfl
  have G:(rB S δ t0 (k+1) t).get f=(rB S δ t0 k t).get f:=by
   rw[show rB S δ t0 (k+1) t=(match S k,t0.get k with
    |true,some o=>(rB S δ t0 k t).set (k+δ) (BM δ o)
    |_,_=>rB S δ t0 k t) from rfl]
   split
   ·rw[GT.df,aX e]
   rfl
  rw[G,z]
  by_cases c:δ≤f∧f<k+δ∧S (f-δ)=true∧(t0.get (f-δ)).isSome=true
  ·rw[bg c,bg ⟨c.1,an,c.2.2⟩]
  rw[aX c,aX (fun d=>c ⟨d.1,an,d.2.2⟩)]
def BN(S:Nat→Bool)(H1:ax):Prop:=∀f,S f=true→f<H1.next∧∃o,H1.t.get f=some o∧Ez S o=true
def oP(S:Nat→Bool)(H1 H:ax):ax:=⟨H.next+H1.next,H.aS,H.ws,rB S H.next H1.t H1.next H.t⟩
theorem zT{S:Nat→Bool}{H1 H:ax}(z:BN S H1)(f:Nat):(oP S H1 H).t.get f=if H.next≤f∧S (f-H.next)=true then(H1.t.get (f-H.next)).map (BM H.next) else H.t.get f:=by
 show(rB S H.next H1.t H1.next H.t).get f=_;rw[abk]
 by_cases c:H.next≤f∧S (f-H.next)=true
 ·obtain⟨A,o,h2,_⟩:=z _ c.2;rw[bg c,bg ⟨c.1,an,c.2,by rw[h2];rfl⟩]
 rw[aX c,aX (fun d=>c ⟨d.1,d.2.2.1⟩)]
theorem overH_tame{S:Nat→Bool}{H1 H:ax}(z:BN S H1)(I:H.aS≤H.next):eH H (oP S H1 H):=by
 refine⟨MC _ _,rfl,fun _ h=>h,fun f A _=>?_,fun G f A=>?_,fun f A=>?_⟩
 ·rw[zT z,aX (fun c=>by omega)]
 ·rw[zT z];have A:H.next+H1.next≤f:=A;rw[aX (fun c=>by have:=(z _ c.2).1;omega)];exact G f an
 rw[zT z]
 split
 ·rename_i c;obtain⟨_,o,h2,_⟩:=z _ c.2;rw[h2];simp
 exact A
theorem post_over{P:Program}{S:Nat→Bool}{ρ:Ho}{C:Nat→Option cX}{w w':World}{H H1:ax}{n:Nat}{v0:ai}{cv:Value}(hn:P.globals.size≤n)(Z:∀f,S f=true→n≤f)(hS:BN S H1)(hd:gx S v0=true)(oi:∀x,H.next≤x→H.t.get x=none)(hR:R ρ C w)(hF:fI ρ H.next (oP S H1 H).next)
  (hp:c9 (Ev.base P) (fun _=>none) w (H0 n) v0 H1 cv w'):c9 ρ C w H (lE H.next v0) (oP S H1 H) cv w':=by
 have Y:=hp.kept;obtain⟨ρ0,hv,hx,I⟩:=hp
 let ρ':Ho:=fun f g=>if H.next≤f∧f<H.next+H1.next then(if S (f-H.next)=true then ρ0 (f-H.next) g else none) else ρ f g
 have L:∀f g h,S f=true→ρ0 f g=some h→ρ' (f+H.next) g=some h:=fun f g h hs e=>by
  show(if H.next≤f+H.next∧f+H.next<H.next+H1.next then(if S (f+H.next-H.next)=true then ρ0 (f+H.next-H.next) g else none) else ρ (f+H.next) g)=_;have:=(hS f hs).1;rw[bg ⟨an,an⟩,show f+H.next-H.next=f by omega,bg hs];exact e
 have z:∀f g h,ρ' f g=some h→(H.next≤f∧f<H.next+H1.next∧S (f-H.next)=true∧ρ0 (f-H.next) g=some h)∨(¬(H.next≤f∧f<H.next+H1.next)∧ρ f g=some h):=fun f g h e=>by
  have e:(if H.next≤f∧f<H.next+H1.next then(if S (f-H.next)=true then ρ0 (f-H.next) g else none) else ρ f g)=some h:=e
  split at e
  ·rename_i c
   split at e
   ·rename_i c2;exact .inl ⟨c.1,c.2,c2,e⟩
   cases e
  rename_i c;exact .inr ⟨c,e⟩
 have hle:ρ.le ρ':=fun f g h e=>by
  show(if H.next≤f∧f<H.next+H1.next then _ else ρ f g)=_;rw[aX (fun c=>by rw[hF f g c.1 c.2] at e;cases e)];exact e
 have A:∀f g h,S f=true→ρ0 f g=some h→w.heap.size≤h.bG∧h.ro=false:=fun f g h hs e=>by
  rcases hx.bG f g h e with e|e|⟨g0,h0,e,_⟩
  ·obtain⟨k,_⟩:=qA e;have:=Z f hs;omega
  ·exact e
  obtain⟨k,_⟩:=qA e;have:=Z f hs;omega
 have M:=hR.kept Y;refine⟨ρ',SN L hd hv,⟨hle,fun f g h e=>?_,fun f g h e=>?_,fun b O _=>Y.uG b O,Y.size,MC _ _,Y.os,Y.tape,Y.output⟩,⟨fun f o ho g h e=>?_,fun f g h f' g' h' e G fB O=>?_,fun f g h e=>?_,fun f g h g' h' e G O=>?_,fun f g h e hr hpn=>?_⟩⟩
 ·rcases z f g h e with⟨a,b,_,_⟩|⟨_,e⟩
  ·exact .inr ⟨a,b⟩
  exact .inl ⟨g,h,e⟩
 ·rcases z f g h e with⟨a,b,c,e⟩|⟨_,e⟩
  ·exact .inr (.inl (A _ g h c e))
  exact .inl e
 ·rcases z f g h e with⟨a,b,c,e⟩|⟨c,e⟩
  ·unfold ep at ho;rw[bg ⟨a,b⟩,zT hS,bg ⟨a,c⟩] at ho;obtain⟨h1,o1,h2,h3⟩:=hS _ c;rw[h2] at ho
   cases ho
   have hup:ep (fun _=>none) (H0 n) H1 (f-H.next)=some o1:=by
    unfold ep
    split
    ·exact h2
    split
    ·rename_i k;rw[h2,show(H0 n).t.get (f-H.next)=none from GT.tI _] at k;cases k
    exact h2
   exact ObjAt_rel L h3 (I.obj _ _ hup g h e)
  have zg:C f=some o:=by
   unfold ep at ho;rw[aX (show¬(H.next≤f∧f<(oP S H1 H).next) from c)] at ho;have U:(oP S H1 H).t.get f=H.t.get f:=by
    rw[zT hS,aX (fun d=>c ⟨d.1,by have:=(hS _ d.2).1;omega⟩)]
   rw[bg U] at ho;exact ho
  exact(M.obj f o zg g h e).gN hle rfl
 ·rcases z f g h e with⟨a,b,c,e⟩|⟨c,e⟩<;>rcases z f' g' h' G with⟨a',b',c',G⟩|⟨c',G⟩
  ·exact I.oY _ g h _ g' h' e G an O
  ·have h1:=(A _ _ _ c e).1;have h2:=hR.hU _ _ _ G;omega
  ·have h1:=(A _ _ _ c' G).1;have h2:=hR.hU _ _ _ e;omega
  exact hR.oY f g h f' g' h' e G fB O
 ·rcases z f g h e with⟨a,b,c,e⟩|⟨c,e⟩
  ·exact I.hU _ _ _ e
  exact M.hU _ _ _ e
 ·rcases z f g h e with⟨a,b,c,e⟩|⟨c,e⟩<;>rcases z f g' h' G with⟨a',b',c',G⟩|⟨c',G⟩
  ·exact I.uniq _ _ _ _ _ e G O
  ·exact absurd ⟨a,b⟩ c'
  ·exact absurd ⟨a',b'⟩ c
  exact hR.uniq f g h g' h' e G O
 rcases z f g h e with⟨a,b,c,e⟩|⟨c,e⟩
 ·rw[(A _ _ _ c e).2] at hr;cases hr
 have k:=M.bK f g h e hr hpn;refine⟨fun g2 h2 e2=>?_,k.2⟩;rcases z f g2 h2 e2 with⟨a',b',_,_⟩|⟨_,e3⟩
 ·exact absurd ⟨a',b'⟩ c
 exact k.1 g2 h2 e3
def BO:ai→List Nat
 |.slice f _ _ _ _=>[f]
 |.agg cs=>cs.flatMap fun x=>match x with
  |.slice f _ _ _ _=>[f]
  |_=>[]
 |.tuple cs=>cs.flatMap fun x=>match x with
  |.slice f _ _ _ _=>[f]
  |.agg z=>z.flatMap fun y=>match y with
   |.slice f _ _ _ _=>[f]
   |_=>[]
  |_=>[]
 |_=>[]
def rowsOf(t:HT)(f:Nat):List (List ai):=match t.get f with
 |some (.row _ _ _ n _ _ cs)=>(List.range n).map fun i=>(cs.get i).getD []
 |_=>[]
def reach(t:HT):Nat→List Nat→List Nat
 |0,l=>l
 |m+1,l=>l++reach t m (l.flatMap fun f=>(rowsOf t f).flatMap fun r=>r.flatMap BO)
def jl(H1:ax)(v:ai)(n:Nat)(L:List Nat):Bool:=gx (fun f=>L.contains f) v&&L.all fun f=>Nat.ble n f&&Nat.blt f H1.next&&(match H1.t.get f with
 |some o=>Ez (fun f=>L.contains f) o
 |none=>false)
theorem Rk{H1:ax}{v:ai}{n:Nat}{L:List Nat}(h:jl H1 v n L=true):gx (fun f=>L.contains f) v=true∧(∀f,L.contains f=true→n≤f)∧BN (fun f=>L.contains f) H1:=by
 simp only[jl,cU,uf] at h;refine⟨h.1,fun f A=>aV (h.2 f (by simpa using A)).1.1,fun f A=>?_⟩;obtain⟨⟨_,h2⟩,z⟩:=h.2 f (by simpa using A);refine⟨by simpa[Nat.blt_eq] using h2,?_⟩
 cases ho:H1.t.get f with
 |none=>rw[ho] at z;cases z
 |some o=>rw[ho] at z;exact⟨o,rfl,z⟩
def told(iM:Tr aQ)(iN:Tr Nat)(N n f:Nat)(args:List ai)(H:ax):aD:=
 match args with
 |[.str l s]=>match sZ iM iN .leaf N N f [.str l s] (H0 n) with
  |.ok v H1=>bif jl H1 v n (reach H1.t 6 (BO v)) then .ok (lE H.next v) (oP (fun f=>(reach H1.t 6 (BO v)).contains f) H1 H) else .err 95
  |.err e=>.err e
 |_=>.err 95
theorem aci{iM:Tr aQ}{iN:Tr Nat}{N n f:Nat}{args:List ai}{H H':ax}{v:ai}(h:told iM iN N n f args H= .ok v H'):∃l s z H1 L,args=[.str l s]∧sZ iM iN .leaf N N f [.str l s] (H0 n)= .ok z H1∧jl H1 z n L=true∧v=lE H.next z∧H'=oP (fun f=>L.contains f) H1 H:=by
 unfold told at h
 split at h
 ·rename_i l s
  split at h
  ·rename_i z H1 G
   cases A:jl H1 z n (reach H1.t 6 (BO z)) with
   |false=>rw[A] at h;cases h
   |true=>rw[A] at h;cases h;exact⟨l,s,z,H1,_,rfl,G,A,rfl,rfl⟩
  cases h
 cases h
theorem toldOk{P:Program}(z:P.follows .mixedOrders=true){iM:Tr aQ}{iN:Tr Nat}{N n f:Nat}(hT:Ga P iM)(hx:MH P iN)(hn:P.globals.size≤n):Sv P f (told iM iN N n f):=by
 refine⟨fun args H hm v H' h=>?_,fun args H v H' ρ C w dc h hm I hR hK hF hG hv=>?_⟩
 ·obtain⟨l,s,A,H1,L,rfl,G,M,rfl,rfl⟩:=aci h;exact overH_tame (Rk M).2.2 hm
 obtain⟨l,s,A,H1,L,rfl,G,M,rfl,rfl⟩:=aci h;obtain⟨k1,k2,k3⟩:=Rk M;have O:xZ P w:=Sy hR hG;have U:bR (Ev.base P) [.str l s] dc.toList:=by
  simp only[bR,VR] at hv⊢;exact hv
 have post:∀{cv w'},c9 (Ev.base P) (fun _=>none) w (H0 n) A H1 cv w'→c9 ρ C w H (lE H.next A) (oP (fun f=>L.contains f) H1 H) cv w':=fun Y=>post_over hn k2 k3 k1 I hR hF Y
 rcases(LV z hT hx Zp N).sound f [.str l s] (H0 n) A H1 (Ev.base P) (fun _=>none) w dc G (gL _) agt (C6 O) aaM (Z2 hn _) QB U with⟨Z,h2⟩|⟨cv,w',Z,h2⟩
 ·exact .inl ⟨Z,Calls.mono h2 fun e w'⟨cv,G,Y⟩=>⟨cv,G,post Y⟩⟩
 exact .inr ⟨cv,w',Z,post h2⟩
end Go.Ev
