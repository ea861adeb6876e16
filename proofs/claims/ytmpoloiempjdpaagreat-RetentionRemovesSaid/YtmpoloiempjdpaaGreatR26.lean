/- Part 26 of rules for walks through the code of a program, and of such walks; what each part proves is said by its theorems. -/
import Derived.Test.YtmpoloiempjdpaaGreatR21
import Derived.Test.YtmpoloiempjdpaaGreatR24
import Derived.Test.YtmpoloiempjdpaaGreatR25
set_option linter.unusedVariables false
set_option linter.unusedSimpArgs false
noncomputable section
set_option maxRecDepth 100000
set_option maxHeartbeats 4000000
namespace Go.Ev.Rp
open Go Go.Ev.Pp
attribute [local irreducible] VC VO VQ VI Sound bY
theorem abi{y:Int}{H:Prop}(h:(0≤y→H)∧(y<0→¬H)):0≤y↔H:=⟨h.1,fun k=>by
 by_cases e:0≤y
 ·exact e
 exact absurd k (h.2 al)⟩
def fo(a b c d:Int):Prop:=0≤a∧a<b∧b≤1099511627776∧0≤c∧c<d∧d≤1099511627776∧a<d∧c<b
def jy(w:ai)(f t:Int):Prop:=∃(q:Nat)(row:List DC)(a b:Int),w[q]?=some row∧row[1]?=some (dJ a)∧row[2]?=some (dJ b)∧fo f t a b
def jk(k:Int)(w:ai)(f t:Int):Prop:=∀(q:Nat)(row:List DC)(a b:Int),(q:Int)<k→w[q]?=some row→row[1]?=some (dJ a)→row[2]?=some (dJ b)→¬fo f t a b
theorem jy.mk{w:ai}{q:Nat}{row:List DC}{a b f t:Int}(z:w[q]?=some row)(h2:row[1]?=some (dJ a))(A:row[2]?=some (dJ b))(G:fo f t a b):jy w f t:=⟨q,row,a,b,z,h2,A,G⟩
theorem ME{w:ai}{f t:Int}:jk 0 w f t:=fun q _ _ _ h=>by omega
theorem jk.step{k:Int}{w:ai}{row:List DC}{a b f t:Int}(h:jk k w f t)(h0:0≤k)(I:w[k.toNat]?=some row)(L:row[1]?=some (dJ a))(h2:row[2]?=some (dJ b))(M:¬fo f t a b):jk (k+1) w f t:=fun q r c d U z A G=>by
 by_cases O:(q:Int)<k
 ·exact h q r c d O z A G
 have:q=k.toNat:=by omega
 subst this;rw[I] at z;cases z;rw[L] at A;cases A;rw[h2] at G;cases G;exact M
theorem jk.all{k:Int}{w:ai}{f t:Int}(h:jk k w f t)(L:(w.length:Int)≤k):¬jy w f t:=fun⟨q,row,a,b,z,A,G,I⟩=>h q row a b (by have:=(List.getElem?_eq_some_iff.1 z).1;omega) z A G I
def tF(z:Int)(w:ai)(f t:Int):Prop:=(z<t∧0≤f∧f<t∧t≤1099511627776)∨jy w f t
theorem LJ{T:aM}(F:FT T){aJ:Int}(A: -9223372036854775808≤aJ)(G:aJ≤9223372036854775807){aS:Int}(I: -9223372036854775808≤aS)(L:aS≤9223372036854775807):Sound T 18 [.agg [.d (dJ aJ),.d (dJ aS)]] fun r=>∃z,r=dB z∧(z=true↔(0≤aJ∧aJ<aS∧aS≤1099511627776)):=by
 refine bm F.q18 aa (r0 11 aa ?_);refine br aa ?_ ?_<;>intro M
 ·refine ro 7 aa ?_;refine br aa ?_ ?_<;>intro O
  ·exact eJ 7 aa (bL aa aa ⟨decide (aS≤1099511627776),aa,Eg⟩)
  exact eJ 7 aa (bL aa aa ⟨false,aa,Eg⟩)
 exact eJ 14 aa (bL aa aa ⟨false,aa,Eg⟩)
theorem So{T:aM}(F:FT T){aJ:Int}(A: -9223372036854775808≤aJ)(G:aJ≤9223372036854775807){aS:Int}(I: -9223372036854775808≤aS)(L:aS≤9223372036854775807):Sound T 79 [.agg [.d (dJ aJ),.d (dJ aS)]] fun r=>∃z,r=dB z∧(z=true↔(0≤aJ∧aJ<aS∧aS≤1099511627776)):=by
 refine bm F.q79 aa (r0 11 aa ?_);refine br aa ?_ ?_<;>intro M
 ·refine ro 7 aa ?_;refine br aa ?_ ?_<;>intro O
  ·exact eJ 7 aa (bL aa aa ⟨decide (aS≤1099511627776),aa,Eg⟩)
  exact eJ 7 aa (bL aa aa ⟨false,aa,Eg⟩)
 exact eJ 14 aa (bL aa aa ⟨false,aa,Eg⟩)
theorem interPr{T:aM}(F:FT T){aJ:Int}(Z: -9223372036854775808≤aJ)(ic:aJ≤9223372036854775807){aS:Int}(mA: -9223372036854775808≤aS)(mB:aS≤9223372036854775807){bz:Int}(pY: -9223372036854775808≤bz)(nh:bz≤9223372036854775807){aT:Int}(fV: -9223372036854775808≤aT)(fW:aT≤9223372036854775807):Sound T 42 [.agg [.d (dJ aJ),.d (dJ aS)],.agg [.d (dJ bz),.d (dJ aT)]] fun r=>∃G I L,r= .tuple [.agg [.d G,.d I],dB L]∧tJ.ok G∧tJ.ok I∧(L=true↔fo aJ aS bz aT):=by
 refine bm F.q42 aa (ch 13 aa (om aa aa (fun z1 E0=>?_)));refine aN 4 aa (tf aa aa (fun z2 ng=>?_));refine aN 8 aa (aB aa (LJ (aJ:=aJ) (aS:=aS) F ae ae ae ae) ?_);rintro _ _⟨M,rfl,z⟩;refine ro 2 aa ?_;refine br aa ?_ ?_<;>intro O
 ·have k4:¬_:=fun p=>absurd (z.2 p) (by simpa using O)
  refine ro 12 aa (eu aa aa (eA 7 aa ?_));exact bL rfl rfl ⟨i0,i0,false,rfl,ak,ak,(by first|(simp only[eW,gU,false_iff,true_iff,fo] at*;omega)|(simp[fo] at*;omega))⟩
 have k4:=z.1 (by simpa using O);refine ro 1 aa (bM aa aa (aB aa (LJ (aJ:=bz) (aS:=aT) F ae ae ae ae) ?_));rintro _ _⟨U,rfl,A⟩;refine ro 3 aa ?_;refine br aa ?_ ?_<;>intro Y
 ·have k6:¬_:=fun p=>absurd (A.2 p) (by simpa using Y)
  refine ro 7 aa (eu aa aa (eA 7 aa ?_));exact bL rfl rfl ⟨i0,i0,false,rfl,ak,ak,(by first|(simp only[eW,gU,false_iff,true_iff,fo] at*;omega)|(simp[fo] at*;omega))⟩
 have k6:=A.1 (by simpa using Y);refine ro 7 aa ?_;refine ay aa ?_ ?_<;>intro g7
 ·refine eA 7 aa ?_;exact bL rfl rfl ⟨i0,i0,false,rfl,ak,ak,(by first|(simp only[eW,gU,false_iff,true_iff,fo] at*;omega)|(simp[fo] at*;omega))⟩
 refine eA 8 aa ?_;exact bL rfl rfl ⟨(dJ z1),(dJ z2),true,rfl,ak,ak,(by first|(simp only[eW,gU,false_iff,true_iff,fo] at*;omega)|(simp[fo] at*;omega))⟩
theorem aep{T:aM}(F:FT T){aJ:Int}(Z: -9223372036854775808≤aJ)(ic:aJ≤9223372036854775807){aS:Int}(mA: -9223372036854775808≤aS)(mB:aS≤9223372036854775807){bz:Int}(pY: -9223372036854775808≤bz)(nh:bz≤9223372036854775807){aT:Int}(fV: -9223372036854775808≤aT)(fW:aT≤9223372036854775807):Sound T 135 [.agg [.d (dJ aJ),.d (dJ aS)],.agg [.d (dJ bz),.d (dJ aT)]] fun r=>∃G I L,r= .tuple [.agg [.d G,.d I],dB L]∧tJ.ok G∧tJ.ok I∧(L=true↔fo aJ aS bz aT):=by
 refine bm F.ajy aa (ch 13 aa (om aa aa (fun z1 E0=>?_)));refine aN 4 aa (tf aa aa (fun z2 ng=>?_));refine aN 8 aa (aB aa (So (aJ:=aJ) (aS:=aS) F ae ae ae ae) ?_);rintro _ _⟨M,rfl,z⟩;refine ro 2 aa ?_;refine br aa ?_ ?_<;>intro O
 ·have k4:¬_:=fun p=>absurd (z.2 p) (by simpa using O)
  refine ro 12 aa (eu aa aa (eA 7 aa ?_));exact bL rfl rfl ⟨i0,i0,false,rfl,ak,ak,(by first|(simp only[eW,gU,false_iff,true_iff,fo] at*;omega)|(simp[fo] at*;omega))⟩
 have k4:=z.1 (by simpa using O);refine ro 1 aa (bM aa aa (aB aa (So (aJ:=bz) (aS:=aT) F ae ae ae ae) ?_));rintro _ _⟨U,rfl,A⟩;refine ro 3 aa ?_;refine br aa ?_ ?_<;>intro Y
 ·have k6:¬_:=fun p=>absurd (A.2 p) (by simpa using Y)
  refine ro 7 aa (eu aa aa (eA 7 aa ?_));exact bL rfl rfl ⟨i0,i0,false,rfl,ak,ak,(by first|(simp only[eW,gU,false_iff,true_iff,fo] at*;omega)|(simp[fo] at*;omega))⟩
 have k6:=A.1 (by simpa using Y);refine ro 7 aa ?_;refine ay aa ?_ ?_<;>intro g7
 ·refine eA 7 aa ?_;exact bL rfl rfl ⟨i0,i0,false,rfl,ak,ak,(by first|(simp only[eW,gU,false_iff,true_iff,fo] at*;omega)|(simp[fo] at*;omega))⟩
 refine eA 8 aa ?_;exact bL rfl rfl ⟨(dJ z1),(dJ z2),true,rfl,ak,ak,(by first|(simp only[eW,gU,false_iff,true_iff,fo] at*;omega)|(simp[fo] at*;omega))⟩
theorem Uj{T:aM}(F:FT T){a0 a1 a2 a4 a5 a6 a7 a8 a9:DC}(cP:tJ.ok a0)(bV:tJ.ok a1)(cG:(Ty.x).ok a2){aT:Int}(fV: -9223372036854775808≤aT)(fW:aT≤9223372036854775807){A:ai}(G:au A a4)(eU:A.length≤20)(O:af kH A)(cj:(Ty.x).ok a5)(fi:tJ.ok a6)(fX:(Ty.l 1000000000 cu).ok a7)(gk:tJ.ok a8)(ig:tJ.ok a9){jj:Int}(la10: -9223372036854775808≤jj)(ua10:jj≤9223372036854775807){eD:Int}(Om: -9223372036854775808≤eD)(On:eD≤9223372036854775807):Sound T 136 [.agg [.d a0,.d a1,.d a2,.d (dJ aT),.d a4,.d a5],.agg [.d a6,.d a7,.d a8,.d a9,.d (dJ jj),.d (dJ eD)]] fun r=>∃y0,r=dB y0∧(y0=true↔tF aT A jj eD):=by
 refine bm F.ajz aa ?_;rcases cP,bV,fi,fX,gk,ig with⟨⟨aJ,rfl,iv,iw⟩,⟨aS,rfl,eB,ee⟩,⟨bu,rfl,nP,nQ⟩,⟨wJ,Ei,Oo,Ej⟩,⟨gC,rfl,t6,t7⟩,⟨fQ,rfl,yH,yI⟩⟩
 refine r0 16 aa ?_;refine br aa ?_ ?_<;>intro g1
 ·refine ro 2 aa (bM aa aa (aB aa (So (aJ:=jj) (aS:=eD) F ae ae ae ae) ?_));rintro _ _⟨nR,rfl,L⟩;refine ro 2 aa ?_;refine cE aa ?_ ?_<;>intro h3
  ·have k3:=L.1 (by simpa using h3);refine eA 5 aa ?_;exact bL rfl rfl ⟨true,rfl,(by first|exact iff_of_true rfl (.inl al)|exact iff_of_true rfl (.inr (jy.mk (by assumption) rfl rfl (by assumption)))|exact iff_of_false ao (fun h=>h.elim (fun k=>by omega) (jk.all (by assumption) ae)))⟩
  have k3:¬_:=fun p=>absurd (L.2 p) (by simpa using h3)
  refine rc 7 aa (bj [18,4,3,2,1,0] [3,2] aa aa (fun e0 b0 k VE B=>∃z,an ((5,.d (dJ z))::e0) VE∧an b0 B∧k=((A.length:Int) -z).toNat∧(0≤z∧(z≤(A.length:Int)∨z=0))∧(jk z A jj eD)) ?_ fin);rintro _ VE B⟨z,hV,hB,rfl,bU,cS⟩;refine aU _ _ hV hB (aA 6 aa (aQ aa G ?_));refine ro 2 aa ?_;refine ay aa ?_ ?_<;>intro g4
  ·refine rc 10 aa ?_;obtain⟨Ek,AQ,_,⟨U,rfl,GB,GC⟩,_,⟨Y,rfl,aeq,aer⟩,e9⟩:=qI z O;refine aV (aH aa aa G ae e9 aa ?_);refine rq 1 aa (cJ aa aa (iJ aa (aX aa) (aX aa) ?_));refine aP aa (aB aa (aep (aJ:=jj) (aS:=eD) (bz:=U) (aT:=Y) F ae ae ae ae ae ae ae ae) ?_);rintro _ _⟨lg,vU,pO,rfl,qG,rX,M⟩;refine rq 11 aa ?_;refine cE aa ?_ ?_<;>intro h7
   ·have k7:=M.1 (by simpa using h7);refine eA 5 aa ?_;exact bL rfl rfl ⟨true,rfl,(by first|exact iff_of_true rfl (.inl al)|exact iff_of_true rfl (.inr (jy.mk (by assumption) rfl rfl (by assumption)))|exact iff_of_false ao (fun h=>h.elim (fun k=>by omega) (jk.all (by assumption) ae)))⟩
   have k7:¬_:=fun p=>absurd (M.2 p) (by simpa using h7)
   refine aA 3 aa (bx aa aa ae ae ?_);refine cL 2 aa ?_;exact⟨((A.length:Int) -((z+1))).toNat,ae,(z+1),⟨rfl,rfl,rfl,rfl,rfl,rfl,rfl,trivial⟩,⟨rfl,rfl,trivial⟩,rfl,ae,(by first|assumption|exact ME|exact jk.step (by assumption) ae (by assumption) rfl rfl (by assumption))⟩
  refine eA 6 aa ?_;exact bL rfl rfl ⟨false,rfl,(by first|exact iff_of_true rfl (.inl al)|exact iff_of_true rfl (.inr (jy.mk (by assumption) rfl rfl (by assumption)))|exact iff_of_false ao (fun h=>h.elim (fun k=>by omega) (jk.all (by assumption) ae)))⟩
 refine ro 5 aa (dq aa aa (rc 7 aa (bj [18,4,3,2,1,0] [3,2] aa aa (fun e0 b0 k VE B=>∃z,an ((5,.d (dJ z))::e0) VE∧an b0 B∧k=((A.length:Int) -z).toNat∧(0≤z∧(z≤(A.length:Int)∨z=0))∧(jk z A jj eD)) ?_ fin)));rintro _ VE B⟨z,hV,hB,rfl,bU,cS⟩;refine aU _ _ hV hB (aA 6 aa (aQ aa G ?_));refine ro 2 aa ?_;refine ay aa ?_ ?_<;>intro g8
 ·refine rc 10 aa ?_;obtain⟨pP,lX,_,⟨Z,rfl,aes,aet⟩,_,⟨Dx,rfl,aeu,aev⟩,fw⟩:=qI z O;refine aV (aH aa aa G ae fw aa ?_);refine rq 1 aa (cJ aa aa (iJ aa (aX aa) (aX aa) ?_));refine aP aa (aB aa (aep (aJ:=jj) (aS:=eD) (bz:=Z) (aT:=Dx) F ae ae ae ae ae ae ae ae) ?_);rintro _ _⟨nD,AS,HK,rfl,Aj,Sp,I⟩;refine rq 11 aa ?_;refine cE aa ?_ ?_<;>intro ur
  ·have k11:=I.1 (by simpa using ur);refine eA 5 aa ?_;exact bL rfl rfl ⟨true,rfl,(by first|exact iff_of_true rfl (.inl al)|exact iff_of_true rfl (.inr (jy.mk (by assumption) rfl rfl (by assumption)))|exact iff_of_false ao (fun h=>h.elim (fun k=>by omega) (jk.all (by assumption) ae)))⟩
  have k11:¬_:=fun p=>absurd (I.2 p) (by simpa using ur)
  refine aA 3 aa (bx aa aa ae ae ?_);refine cL 2 aa ?_;exact⟨((A.length:Int) -((z+1))).toNat,ae,(z+1),⟨rfl,rfl,rfl,rfl,rfl,rfl,rfl,trivial⟩,⟨rfl,rfl,trivial⟩,rfl,ae,(by first|assumption|exact ME|exact jk.step (by assumption) ae (by assumption) rfl rfl (by assumption))⟩
 refine eA 6 aa ?_;exact bL rfl rfl ⟨false,rfl,(by first|exact iff_of_true rfl (.inl al)|exact iff_of_true rfl (.inr (jy.mk (by assumption) rfl rfl (by assumption)))|exact iff_of_false ao (fun h=>h.elim (fun k=>by omega) (jk.all (by assumption) ae)))⟩
theorem clo96{T:aM}(F:FT T){L:DC}(z:tJ.ok L){aS:Int}(mA: -9223372036854775808≤aS)(mB:aS≤9223372036854775807){bz:Int}(pY: -9223372036854775808≤bz)(nh:bz≤9223372036854775807){bA:Int}(mC: -9223372036854775808≤bA)(mD:bA≤9223372036854775807){cg:Int}(rl: -9223372036854775808≤cg)(rm:cg≤9223372036854775807):bY T 59 [.agg [.d L,.d (dJ aS),.d (dJ bz)],.vp 1004 0] [(1004,.one 46 16 [.d (dJ bA),.d (dJ cg)])] fun r B=>∃M,r=dB M∧B=[(1004,.one 46 16 [.d (dJ bA),.d (dJ cg)])]∧(M=true↔fo bA cg aS bz):=by
 refine ij F.q59 aa ?_;obtain⟨aJ,rfl,O,U⟩:=z;refine ch 10 aa (aB aa (interPr (aJ:=bA) (aS:=cg) (bz:=aS) (aT:=bz) F ae ae ae ae ae ae ae ae) ?_);rintro _ _⟨Y,Z,t8,rfl,A,G,I⟩;exact W
theorem idxF{T:aM}(F:FT T){a0:DC}{A:ai}(M:au A a0)(cT:A.length≤20)(U:af kH A){aT:Int}(fV: -9223372036854775808≤aT)(fW:aT≤9223372036854775807){bA:Int}(mC: -9223372036854775808≤bA)(mD:bA≤9223372036854775807):bY T 76 [.d a0,.fn 59 [.vp 1003 0]] [(1003,.one 46 16 [.d (dJ aT),.d (dJ bA)])] fun r B=>∃Y,r= .d (dJ Y)∧B=[(1003,.one 46 16 [.d (dJ aT),.d (dJ bA)])]∧((-1)≤Y∧Y≤(A.length:Int) -1∧((0≤Y→jy A aT bA)∧(Y<0→¬jy A aT bA))):=by
 refine ij F.q76 aa (ch 8 aa (aQ aa M ?_));refine ro 3 aa (bj [7,4,1,0] [1003] aa aa (fun e0 b0 k VE B=>∃z,an ((8,.d (dJ z))::e0) VE∧an b0 B∧k=((A.length:Int) -z).toNat∧(0≤z∧(z≤(A.length:Int)∨z=0))∧(jk z A aT bA)) ?_ fin);rintro _ VE B⟨z,hV,hB,rfl,bU,cS⟩;refine aU _ _ hV hB (rc 5 aa ?_);refine ay aa ?_ ?_<;>intro g1
 ·refine rc 13 aa ?_;obtain⟨Z,O,_,⟨G,rfl,u9,qv⟩,_,⟨I,rfl,xv,xw⟩,bS⟩:=qI z U;refine aw (aH aa aa M ae bS aa ?_);refine aN 1 aa (Ks (di:=[.agg [.d Z,.d (dJ G),.d (dJ I)],.vp 1004 0]) (Bi:=[(1004,.one 46 16 [.d (dJ aT),.d (dJ bA)])]) [(1004,1003)] 2000 aa aa aa aa aa aa aa aa aa ⟨aa,aa,trivial⟩ (clo96 (aS:=G) (bz:=I) (bA:=aT) (cg:=bA) F O ae ae ae ae ae ae ae ae) ?_);rintro _ _⟨lh,rfl,rfl,L⟩;refine ro 1 aa ?_;refine cE aa ?_ ?_<;>intro h4
  ·have k4:=L.1 (by simpa using h4);refine rc 6 aa ?_;exact⟨_,[(1003,.one 46 16 [.d (dJ aT),.d (dJ bA)])],rfl,⟨rfl,trivial⟩,⟨z,rfl,rfl,⟨ae,ae,(by first|exact⟨fun _=>jy.mk (by assumption) rfl rfl (by assumption),fun h=>absurd h al⟩|exact⟨fun h=>absurd h ao,fun _=>jk.all (by assumption) ae⟩)⟩⟩⟩
  have k4:¬_:=fun p=>absurd (L.2 p) (by simpa using h4)
  refine aA 2 aa (bx aa aa ae ae ?_);refine cL 2 aa ?_;exact⟨((A.length:Int) -((z+1))).toNat,ae,(z+1),⟨rfl,rfl,rfl,rfl,rfl,trivial⟩,⟨rfl,trivial⟩,rfl,ae,(by first|assumption|exact ME|exact jk.step (by assumption) ae (by assumption) rfl rfl (by assumption))⟩
 refine rc 6 aa ?_;exact⟨_,[(1003,.one 46 16 [.d (dJ aT),.d (dJ bA)])],rfl,⟨rfl,trivial⟩,⟨(-1),rfl,rfl,⟨ae,ae,(by first|exact⟨fun _=>jy.mk (by assumption) rfl rfl (by assumption),fun h=>absurd h al⟩|exact⟨fun h=>absurd h ao,fun _=>jk.all (by assumption) ae⟩)⟩⟩⟩
theorem agV{T:aM}(F:FT T){L:DC}{z:ai}(A:au z L)(Y:z.length≤20)(G:af kH z){aT:Int}(fV: -9223372036854775808≤aT)(fW:aT≤9223372036854775807){bA:Int}(mC: -9223372036854775808≤bA)(mD:bA≤9223372036854775807):bY T 46 [.d L,.fn 59 [.vp 1003 0]] [(1003,.one 46 16 [.d (dJ aT),.d (dJ bA)])] fun r B=>∃Z,r=dB Z∧B=[(1003,.one 46 16 [.d (dJ aT),.d (dJ bA)])]∧(Z=true↔jy z aT bA):=by
 refine ij F.q46 aa (ch 8 aa (kD (di:=[.d L,.fn 59 [.vp 1003 0]]) (Bi:=[(1003,.one 46 16 [.d (dJ aT),.d (dJ bA)])]) [(1003,1003)] 2000 aa aa aa aa aa aa aa ⟨aa,aa,trivial⟩ (idxF (aT:=aT) (bA:=bA) F A ae G ae ae ae ae) ?_));rintro _ _⟨I,rfl,rfl,M,O,U⟩;refine ro 4 aa ?_;exact⟨_,[(1003,.one 46 16 [.d (dJ aT),.d (dJ bA)])],rfl,⟨rfl,trivial⟩,⟨decide (0≤I),rfl,rfl,(by simp only[eW];exact abi (by assumption))⟩⟩
theorem keptPr{T:aM}(F:FT T){a0 a1 a2 O a5:DC}(U:tJ.ok a0)(Y:tJ.ok a1)(cG:(Ty.x).ok a2){aT:Int}(fV: -9223372036854775808≤aT)(fW:aT≤9223372036854775807){A:ai}(G:au A O)(eU:A.length≤20)(I:af kH A)(cj:(Ty.x).ok a5){bu:Int}(kr: -9223372036854775808≤bu)(ku:bu≤9223372036854775807){bT:Int}(oZ: -9223372036854775808≤bT)(o0:bT≤9223372036854775807):Sound T 35 [.agg [.d a0,.d a1,.d a2,.d (dJ aT),.d O,.d a5],.agg [.d (dJ bu),.d (dJ bT)]] fun r=>∃y0,r=dB y0∧(y0=true↔tF aT A bu bT):=by
 refine bm F.q35 aa ?_;rcases U,Y with⟨⟨aJ,rfl,iv,iw⟩,⟨aS,rfl,eB,ee⟩⟩
 refine ch 10 aa (aB aa (LJ (aJ:=bu) (aS:=bT) F ae ae ae ae) ?_);rintro _ _⟨dD,rfl,z⟩;refine ro 1 aa ?_;refine br aa ?_ ?_<;>intro h2
 ·have k2:=z.1 (by simpa using h2);refine ro 7 aa ?_;refine ay aa ?_ ?_<;>intro g3
  ·refine eA 5 aa ?_;exact bL rfl rfl ⟨true,rfl,(by first|exact iff_of_true rfl (.inl al)|exact Iff.trans (by assumption) ⟨.inr,fun h=>h.elim (fun k=>by omega) id⟩)⟩
  refine aA 6 aa (kD (di:=[.d O,.fn 59 [.vp 1003 0]]) (Bi:=[(1003,.one 46 16 [.d (dJ bu),.d (dJ bT)])]) [(1003,3)] 2000 aa aa aa aa aa aa aa ⟨aa,aa,trivial⟩ (agV (aT:=bu) (bA:=bT) F G ae I ae ae ae ae) ?_);rintro _ _⟨L,rfl,rfl,Z⟩;refine eJ 3 aa ?_;exact bL rfl rfl ⟨L,rfl,(by first|exact iff_of_true rfl (.inl al)|exact Iff.trans (by assumption) ⟨.inr,fun h=>h.elim (fun k=>by omega) id⟩)⟩
 have k2:¬_:=fun p=>absurd (z.2 p) (by simpa using h2)
 refine ro 7 aa (dq aa aa (aA 6 aa (kD (di:=[.d O,.fn 59 [.vp 1003 0]]) (Bi:=[(1003,.one 46 16 [.d (dJ bu),.d (dJ bT)])]) [(1003,3)] 2000 aa aa aa aa aa aa aa ⟨aa,aa,trivial⟩ (agV (aT:=bu) (bA:=bT) F G ae I ae ae ae ae) ?_)));rintro _ _⟨M,rfl,rfl,pw⟩;refine eJ 3 aa ?_;exact bL rfl rfl ⟨M,rfl,(by first|exact iff_of_true rfl (.inl al)|exact Iff.trans (by assumption) ⟨.inr,fun h=>h.elim (fun k=>by omega) id⟩)⟩
end Go.Ev.Rp
namespace Go.Ev.Rp
open Go Go.Ev.Pp
attribute [local irreducible] VC VO VQ VI Sound bY
def VZ(now z:Int)(w:ai)(t:Int):Prop:=0≤t∧t≤now∧(z≤t∨jy w t (t+1))
theorem V0{b:Bool}{z t:Int}{H:Prop}(h:b=true↔H)(k:0≤t∧t<z):(!b)=true↔(0≤t∧t<z∧¬H):=by
 cases b<;>simp_all
theorem V1{b:Bool}{now z t:Int}{w:ai}(h:b=true↔(0≤t∧t<z∧¬jy w t (t+1)))(k:0≤t)(l:t≤now):(!b)=true↔VZ now z w t:=by
 have e:((!b)=true)↔¬(b=true):=by cases b<;>simp
 rw[e,h];refine⟨fun n=>⟨k,l,?_⟩,fun q p=>q.2.2.elim (fun a=>by omega) p.2.2⟩
 by_cases c:z≤t
 ·exact .inl c
 exact .inr (AG fun m=>n ⟨k,al,m⟩)
theorem inclP{T:aM}(F:FT T){aJ:Int}(I:(-9223372036854775808)≤aJ)(L:aJ≤9223372036854775807){aS:Int}(M:(-9223372036854775808)≤aS)(O:aS≤9223372036854775807){bz:Int}(U:(-9223372036854775808)≤bz)(Y:bz≤9223372036854775807):Sound T 48 [.agg [.d (dJ aJ),.d (dJ aS)],.d (dJ bz)] fun r=>∃A,r=dB A∧(A=true↔fo bz (bz+1) aJ aS):=by
 refine bm F.q48 aa (ch 8 aa (aB aa (LJ (aJ:=aJ) (aS:=aS) F ae ae ae ae) ?_));rintro _ _⟨G,rfl,z⟩;refine ro 1 aa ?_;refine br aa ?_ ?_<;>intro h2
 ·have Z:=z.1 (by simpa using h2);refine ro 6 aa ?_;refine br aa ?_ ?_<;>intro g3
  ·refine eJ 8 aa ?_;exact bL rfl rfl ⟨decide (bz<aS),rfl,(by first|(simp only[eW,gU,false_iff,true_iff,fo] at*;omega)|(simp[fo] at*;omega)|(unfold fo;omega))⟩
  refine eJ 8 aa ?_;exact bL rfl rfl ⟨false,rfl,(by first|(simp only[eW,gU,false_iff,true_iff,fo] at*;omega)|(simp[fo] at*;omega)|(unfold fo;omega))⟩
 have Z:¬_:=fun p=>absurd (z.2 p) (by simpa using h2)
 refine eJ 14 aa ?_;exact bL rfl rfl ⟨false,rfl,(by first|(simp only[eW,gU,false_iff,true_iff,fo] at*;omega)|(simp[fo] at*;omega)|(unfold fo;omega))⟩
theorem clo76{T:aM}(F:FT T){G:DC}(z:tJ.ok G){aS:Int}(U:(-9223372036854775808)≤aS)(Y:aS≤9223372036854775807){bz:Int}(Z:(-9223372036854775808)≤bz)(nh:bz≤9223372036854775807){bA:Int}(mC:(-9223372036854775808)≤bA)(mD:bA≤9223372036854775807):bY T 47 [.agg [.d G,.d (dJ aS),.d (dJ bz)],.vp 1004 0] [(1004,.one 3 8 [.d (dJ bA)])] fun r B=>∃I,r=dB I∧B=[(1004,.one 3 8 [.d (dJ bA)])]∧(I=true↔fo bA (bA+1) aS bz):=by
 refine ij F.q47 aa ?_;obtain⟨aJ,rfl,L,M⟩:=z;refine ch 10 aa (aB aa (inclP (aJ:=aS) (aS:=bz) (bz:=bA) F ae ae ae ae ae ae) ?_);rintro _ _⟨O,rfl,A⟩;exact W
theorem idxI{T:aM}(F:FT T){a0:DC}{A:ai}(M:au A a0)(cT:A.length≤20)(U:af kH A){aT:Int}(fV:(-9223372036854775808)≤aT)(fW:aT≤9223372036854775807):bY T 76 [.d a0,.fn 47 [.vp 1003 0]] [(1003,.one 3 8 [.d (dJ aT)])] fun r B=>∃Y,r= .d (dJ Y)∧B=[(1003,.one 3 8 [.d (dJ aT)])]∧((-1)≤Y∧Y≤(A.length:Int) -1∧((0≤Y→jy A aT (aT+1))∧(Y<0→¬jy A aT (aT+1)))):=by
 refine ij F.q76 aa (ch 8 aa (aQ aa M ?_));refine ro 3 aa (bj [7,4,1,0] [1003] aa aa (fun e0 b0 k VE B=>∃z,an ((8,.d (dJ z))::e0) VE∧an b0 B∧k=((A.length:Int) -z).toNat∧(0≤z∧(z≤(A.length:Int)∨z=0))∧(jk z A aT (aT+1))) ?_ fin);rintro _ VE B⟨z,hV,hB,rfl,bU,cS⟩;refine aU _ _ hV hB (rc 5 aa ?_);refine ay aa ?_ ?_<;>intro g1
 ·refine rc 13 aa ?_;obtain⟨Z,O,_,⟨G,rfl,u9,qv⟩,_,⟨I,rfl,xv,xw⟩,bS⟩:=qI z U;refine aw (aH aa aa M ae bS aa ?_);refine aN 1 aa (Ks (di:=[.agg [.d Z,.d (dJ G),.d (dJ I)],.vp 1004 0]) (Bi:=[(1004,.one 3 8 [.d (dJ aT)])]) [(1004,1003)] 2000 aa aa aa aa aa aa aa aa aa ⟨aa,aa,trivial⟩ (clo76 (aS:=G) (bz:=I) (bA:=aT) F O ae ae ae ae ae ae) ?_);rintro _ _⟨lh,rfl,rfl,L⟩;refine ro 1 aa ?_;refine cE aa ?_ ?_<;>intro h4
  ·have k4:=L.1 (by simpa using h4);refine rc 6 aa ?_;exact⟨_,[(1003,.one 3 8 [.d (dJ aT)])],rfl,⟨rfl,trivial⟩,⟨z,rfl,rfl,⟨ae,ae,(by first|exact⟨fun _=>jy.mk (by assumption) rfl rfl (by assumption),fun h=>absurd h al⟩|exact⟨fun h=>absurd h ao,fun _=>jk.all (by assumption) ae⟩)⟩⟩⟩
  have k4:¬_:=fun p=>absurd (L.2 p) (by simpa using h4)
  refine aA 2 aa (bx aa aa ae ae ?_);refine cL 2 aa ?_;exact⟨((A.length:Int) -((z+1))).toNat,ae,(z+1),⟨rfl,rfl,rfl,rfl,rfl,trivial⟩,⟨rfl,trivial⟩,rfl,ae,(by first|assumption|exact ME|exact jk.step (by assumption) ae (by assumption) rfl rfl (by assumption))⟩
 refine rc 6 aa ?_;exact⟨_,[(1003,.one 3 8 [.d (dJ aT)])],rfl,⟨rfl,trivial⟩,⟨(-1),rfl,rfl,⟨ae,ae,(by first|exact⟨fun _=>jy.mk (by assumption) rfl rfl (by assumption),fun h=>absurd h al⟩|exact⟨fun h=>absurd h ao,fun _=>jk.all (by assumption) ae⟩)⟩⟩⟩
theorem contI{T:aM}(F:FT T){L:DC}{z:ai}(A:au z L)(Y:z.length≤20)(G:af kH z){aT:Int}(fV:(-9223372036854775808)≤aT)(fW:aT≤9223372036854775807):bY T 46 [.d L,.fn 47 [.vp 1003 0]] [(1003,.one 3 8 [.d (dJ aT)])] fun r B=>∃Z,r=dB Z∧B=[(1003,.one 3 8 [.d (dJ aT)])]∧(Z=true↔jy z aT (aT+1)):=by
 refine ij F.q46 aa (ch 8 aa (kD (di:=[.d L,.fn 47 [.vp 1003 0]]) (Bi:=[(1003,.one 3 8 [.d (dJ aT)])]) [(1003,1003)] 2000 aa aa aa aa aa aa aa ⟨aa,aa,trivial⟩ (idxI (aT:=aT) F A ae G ae ae) ?_));rintro _ _⟨I,rfl,rfl,M,O,U⟩;refine ro 4 aa ?_;exact⟨_,[(1003,.one 3 8 [.d (dJ aT)])],rfl,⟨rfl,trivial⟩,⟨decide (0≤I),rfl,rfl,(by simp only[eW];exact abi (by assumption))⟩⟩
theorem fgtP{T:aM}(F:FT T){O U Y L Z:DC}(cP:(Ty.x).ok O)(bV:(Ty.x).ok U)(cG:(Ty.x).ok Y){aT:Int}(fV:(-9223372036854775808)≤aT)(fW:aT≤9223372036854775807){z:ai}(A:au z L)(eU:z.length≤20)(G:af kH z)(cj:(Ty.x).ok Z){bu:Int}(kr:(-9223372036854775808)≤bu)(ku:bu≤9223372036854775807):Sound T 23 [.agg [.d O,.d U,.d Y,.d (dJ aT),.d L,.d Z],.d (dJ bu)] fun r=>∃y0,r=dB y0∧(y0=true↔(0≤bu∧bu<aT∧¬jy z bu (bu+1))):=by
 refine bm F.q23 aa (r0 12 aa ?_);refine br aa ?_ ?_<;>intro g1
 ·refine ro 6 aa (eu aa aa (eA 5 aa ?_));exact bL rfl rfl ⟨false,rfl,(by first|exact V0 (by assumption) ae|exact iff_of_false ao (fun h=>by omega))⟩
 refine ro 6 aa ?_;refine ay aa ?_ ?_<;>intro g2
 ·refine eA 5 aa ?_;exact bL rfl rfl ⟨false,rfl,(by first|exact V0 (by assumption) ae|exact iff_of_false ao (fun h=>by omega))⟩
 refine aA 6 aa (kD (di:=[.d L,.fn 47 [.vp 1003 0]]) (Bi:=[(1003,.one 3 8 [.d (dJ bu)])]) [(1003,3)] 2000 aa aa aa aa aa aa aa ⟨aa,aa,trivial⟩ (contI (aT:=bu) F A ae G ae ae) ?_);rintro _ _⟨I,rfl,rfl,M⟩;refine eJ 4 aa ?_;exact bL rfl rfl ⟨(!I),rfl,(by first|exact V0 (by assumption) ae|exact iff_of_false ao (fun h=>by omega))⟩
theorem retP{T:aM}(F:FT T){M O U Y:DC}{aJ:Int}(iY:(-9223372036854775808)≤aJ)(ic:aJ≤9223372036854775807)(bV:(Ty.x).ok M)(cG:(Ty.x).ok O){aT:Int}(fV:(-9223372036854775808)≤aT)(fW:aT≤9223372036854775807){z:ai}(A:au z U)(Z:z.length≤20)(G:af kH z)(cj:(Ty.x).ok Y){bu:Int}(kr:(-9223372036854775808)≤bu)(ku:bu≤9223372036854775807):Sound T 10 [.agg [.d (dJ aJ),.d M,.d O,.d (dJ aT),.d U,.d Y],.d (dJ bu)] fun r=>∃y0,r=dB y0∧(y0=true↔VZ aJ aT z bu):=by
 refine bm F.q10 aa (r0 10 aa ?_);refine br aa ?_ ?_<;>intro g1
 ·refine ro 6 aa ?_;refine br aa ?_ ?_<;>intro g2
  ·refine ro 2 aa (bM aa aa (aB aa (fgtP (aT:=aT) (bu:=bu) F bZ bZ bZ ae ae A ae G bZ ae ae) ?_));rintro _ _⟨I,rfl,L⟩;refine eJ 5 aa ?_;exact bL rfl rfl ⟨(!I),rfl,(by first|exact V1 (by assumption) ae ae|exact iff_of_false ao (fun h=>by have:=h.1;have:=h.2.1;omega))⟩
  refine eJ 8 aa ?_;exact bL rfl rfl ⟨false,rfl,(by first|exact V1 (by assumption) ae ae|exact iff_of_false ao (fun h=>by have:=h.1;have:=h.2.1;omega))⟩
 refine eJ 14 aa ?_;exact bL rfl rfl ⟨false,rfl,(by first|exact V1 (by assumption) ae ae|exact iff_of_false ao (fun h=>by have:=h.1;have:=h.2.1;omega))⟩
end Go.Ev.Rp
namespace Go.Ev.Rp
open Go Go.Ev.Pp
attribute [local irreducible] VC VO VQ VI Sound bY
def hY(z:Int)(A:ai)(r:List DC):Bool:= @decide (∃a b,r[4]?=some (dJ a)∧r[5]?=some (dJ b)∧tF z A a b) (Classical.propDecidable _)
theorem Dy{z:Int}{A:ai}{r:List DC}{a b:Int}(G:r[4]?=some (dJ a))(h2:r[5]?=some (dJ b))(h:tF z A a b):hY z A r=true:=by
 unfold hY;exact @decide_eq_true _ (Classical.propDecidable _) ⟨a,b,G,h2,h⟩
theorem Dz{z:Int}{A:ai}{r:List DC}{a b:Int}(L:r[4]?=some (dJ a))(h2:r[5]?=some (dJ b))(h:¬tF z A a b):hY z A r=false:=by
 unfold hY;refine @decide_eq_false _ (Classical.propDecidable _) ?_;rintro⟨c,d,G,I,M⟩;rw[L] at G;cases G;rw[h2] at I;cases I;exact h M
theorem aew{R:List DC→List DC→Prop}{w:ai}:kg R (w.take (0:Int).toNat) []:=⟨by simp,fun q r r' h=>by simp at h⟩
theorem aau{R:List DC→List DC→Prop}{w w':ai}{k:Int}{r r':List DC}(h:kg R (w.take k.toNat) w')(h0:0≤k)(L:w[k.toNat]?=some r)(M:R r r'):kg R (w.take (k+1).toNat) (w'++[r']):=by
 have U:=(List.getElem?_eq_some_iff.1 L).1;have O:w'.length=k.toNat:=by rw[←h.1,ju];omega
 have e:w.take (k+1).toNat=w.take k.toNat++[r]:=by rw[show(k+1).toNat=k.toNat+1 by omega,oC,L];rfl
 rw[e];refine⟨by rw[eT,eT,h.1];rfl,fun q a b z A=>?_⟩;have G:(w.take k.toNat).length=k.toNat:=by rw[ju];omega
 by_cases Y:q<k.toNat
 ·rw[sg al] at z A;exact h.2 q a b z A
 rw[qR al,G] at z;rw[qR al,O] at A;have I:q-k.toNat=0:=by
  rcases Nat.eq_zero_or_pos (q-k.toNat) with h|h
  ·exact h
  rw[yp (by simp;omega)] at z;cases z
 rw[I] at z A
 cases z;cases A
 exact M
theorem abj{R:List DC→List DC→Prop}{w w':ai}{k:Int}(h:kg R (w.take k.toNat) w')(z:(w.length:Int)≤k):kg R w w':=by rwa [pF al] at h
def agW(z:Int)(I:ai)(r r':List DC):Prop:=∃A v k f c x G w,r=[A,v,k,f,c,x]∧r'=[A,v,k,f,c,G]∧au w x∧au (w.filter (hY z I)) G
theorem agW.mk{z:Int}{I w:ai}{A v k f c x G:DC}(h:au w x)(h':au (w.filter (hY z I)) G):agW z I [A,v,k,f,c,x] [A,v,k,f,c,G]:=⟨A,v,k,f,c,x,G,w,rfl,rfl,h,h'⟩
end Go.Ev.Rp
