/- Part 25 of rules for walks through the code of a program, and of such walks; what each part proves is said by its theorems. -/
import Derived.Test.YtdaamclhcpjdpaaGreatDoorT21
import Derived.Test.YtdaamclhcpjdpaaGreatDoorT22
import Derived.Test.YtdaamclhcpjdpaaGreatDoorT24
set_option linter.unusedVariables false
set_option linter.unusedSimpArgs false
noncomputable section
set_option maxRecDepth 100000
set_option maxHeartbeats 4000000
namespace Go.Ev.Rp
open Go Go.Ev.Pp
attribute [local irreducible] VC VO VQ VI Sound cF
theorem ProjP{T:aO}(F:FT T){a0 a1 a2 a3:DC}(cC:tJ.ok a0)(bX:tJ.ok a1){M:aj}(U:ao M a2)(cX:M.length≤13)(bS:af gB M){Y:aj}(ez:ao Y a3)(fe:Y.length≤1000000000)(dQ:af cn Y):Sound T 61 [.agg [.d a0,.d a1,.d a2],.d a3] fun r=>∃y0 Z,r= .d y0∧ao Z y0∧(Z.length:Int)≤13∧af cn Z∧0≤(Z.length:Int)∧(Z=J6 M Y):=by
 refine bg F.q61 aa ?_;rcases cC,bX with⟨⟨aK,rfl,gZ,hD⟩,⟨aH,rfl,ey,dW⟩⟩
 refine cf 9 aa (aM aa U ?_);obtain⟨n1,CA⟩:∃n:Nat,(M.length:Int)=n:=⟨((M.length:Int)).toNat,(vl ae).symm⟩;refine aw (Aw (n:=n1) 11 rfl rfl rfl rfl rfl (by rw[←CA];rfl) (by rw[←CA];rfl) ae ae (fun w1 hw1 wD=>?_));have hb1:af cn w1:=by subst hw1;exact Au (ah ai (ah ai (ah (bC (s:=[]) au) bf)))
 refine aJ 7 aa (aM aa U ?_);refine ro 3 aa ?_;refine bd [14,13,4,2,1,0] [2] rfl rfl (fun e0 b0 k VE B=>∃G O I,an ((5,.bs 11 O 3)::(15,.d (dJ G))::e0) VE∧an ((11,.arr 121 32 3 O I)::b0) B∧k=((M.length:Int) -G).toNat∧(0≤G∧(G≤(M.length:Int)∨G=0))∧(I.length=O)∧(O=w1.length)∧(af cn I)∧(I=mapA (mJ Y) [.i .i64 0,.i .i64 0,.s 0 0] M G)) ?_ (k:=((M.length:Int) -0).toNat) ⟨0,(w1.length),w1,⟨rfl,rfl,rfl,rfl,rfl,rfl,rfl,rfl,trivial⟩,⟨rfl,rfl,trivial⟩,rfl,ae,H6,ae,hb1,(by first|exact GX (by assumption) (by assumption)|exact mapA.S2 (by assumption) ae (by assumption) (by assumption) (by assumption) (Ur ae ae (by assumption) ae)|exact mapA.F (by assumption) ae (by assumption) (Us ae)|assumption)⟩;rintro _ VE B⟨G,O,I,hV,hB,rfl,bR,rfl,rQ,L,tZ⟩;refine aS _ _ hV hB (rc 5 aa ?_);refine ax aa ?_ ?_<;>intro g2
 ·refine rc 6 aa ?_;obtain⟨_,⟨M4,rfl,L8,GY⟩,_,⟨sx3_1,rfl,hsx3_1⟩,_,⟨agd,rfl,Sn,So⟩,eS⟩:=qI G bS;refine aw (aF aa aa U ae eS aa ?_);refine ro 7 aa ?_;skip;refine rp 4 aa ?_;refine bk aa ?_ ?_<;>intro g4
  ·refine ro 3 aa (bw aa aa (aM aa ez ?_));refine ro 3 aa ?_;refine ax aa ?_ ?_<;>intro g5
   ·refine aB 6 aa (dO aa aa ae ae ?_);obtain⟨zg,rF,vV,rG,Ok,DX,e6⟩:=qI (M4-1) dQ;refine aw (aF aa aa ez ae e6 aa ?_);refine ro 1 aa ?_;obtain⟨j7,jI,fZ⟩:=bF (z:=G) (n:=I.length) ae ae;obtain⟨jY,lD,oi,th,zj,yi,eL⟩:=qN fZ L;refine aw (fb rfl (by rw[←jI];rfl) fZ ?_);refine jv (q9 aa aa aa aa aa aa au au eL (fun w8 sn uo=>?_));have sq:af cn w8:=by rw[sn];exact fm L (ah rF (ah rG (ah DX bf)))
    rw[←uo];refine aJ 2 aa (bB aa aa ae ae ?_);refine cA 2 aa ?_;exact⟨((M.length:Int) -((G+1))).toNat,ae,(G+1),(w8.length),w8,⟨rfl,rfl,rfl,rfl,rfl,rfl,rfl,rfl,trivial⟩,⟨rfl,rfl,trivial⟩,rfl,ae,H6,ae,sq,(by first|exact GX (by assumption) (by assumption)|exact mapA.S2 (by assumption) ae (by assumption) (by assumption) (by assumption) (Ur ae ae (by assumption) ae)|exact mapA.F (by assumption) ae (by assumption) (Us ae)|assumption)⟩
   refine aB 2 aa (bB aa aa ae ae ?_);refine cA 2 aa ?_;exact⟨((M.length:Int) -((G+1))).toNat,ae,(G+1),(I.length),I,⟨rfl,rfl,rfl,rfl,rfl,rfl,rfl,rfl,trivial⟩,⟨rfl,rfl,trivial⟩,rfl,ae,H6,ae,L,(by first|exact GX (by assumption) (by assumption)|exact mapA.S2 (by assumption) ae (by assumption) (by assumption) (by assumption) (Ur ae ae (by assumption) ae)|exact mapA.F (by assumption) ae (by assumption) (Us ae)|assumption)⟩
  exact W
 exact rc 6 aa (mS 4 11 aa aa (fun _=>⟨aa,aa⟩) (dH 1 aa (bD aa aa ⟨(.sl I),I,aa,(.inl aa),ae,L,ae,(mapA.A dz ae)⟩)))
theorem Q9{T:aO}(F:FT T){aK:Int}(A:(-9223372036854775808)≤aK)(G:aK≤9223372036854775807){aH:Int}(I:(-9223372036854775808)≤aH)(L:aH≤9223372036854775807):Sound T 76 [.agg [.d (dJ aK),.d (dJ aH)]] fun r=>∃z,r=dB z∧(z=true↔(0≤aK∧aK<aH∧aH≤1099511627776)):=by
 refine bg F.q76 aa (r0 11 aa ?_);refine bk aa ?_ ?_<;>intro M
 ·refine ro 7 aa ?_;refine bk aa ?_ ?_<;>intro O
  ·exact dR 7 aa (bD aa aa ⟨decide (aH≤1099511627776),aa,rP⟩)
  exact dR 7 aa (bD aa aa ⟨false,aa,rP⟩)
 exact dR 14 aa (bD aa aa ⟨false,aa,rP⟩)
theorem inclPE{T:aO}(F:FT T){aK:Int}(I:(-9223372036854775808)≤aK)(L:aK≤9223372036854775807){aH:Int}(M:(-9223372036854775808)≤aH)(O:aH≤9223372036854775807){bA:Int}(U:(-9223372036854775808)≤bA)(Y:bA≤9223372036854775807):Sound T 38 [.agg [.d (dJ aK),.d (dJ aH)],.d (dJ bA)] fun r=>∃A,r=dB A∧(A=true↔eF bA (bA+1) aK aH):=by
 refine bg F.q38 aa (cf 8 aa (aA aa (Q9 (aK:=aK) (aH:=aH) F ae ae ae ae) ?_));rintro _ _⟨G,rfl,z⟩;refine ro 1 aa ?_;refine bk aa ?_ ?_<;>intro h2
 ·have Z:=z.1 (by simpa using h2);refine ro 6 aa ?_;refine bk aa ?_ ?_<;>intro g3
  ·refine dR 8 aa ?_;exact bD rfl rfl ⟨decide (bA<aH),rfl,(by first|(simp only[fy,gK,false_iff,true_iff,eF] at*;omega)|(simp[eF] at*;omega)|(unfold eF;omega))⟩
  refine dR 8 aa ?_;exact bD rfl rfl ⟨false,rfl,(by first|(simp only[fy,gK,false_iff,true_iff,eF] at*;omega)|(simp[eF] at*;omega)|(unfold eF;omega))⟩
 have Z:¬_:=fun p=>absurd (z.2 p) (by simpa using h2)
 refine dR 14 aa ?_;exact bD rfl rfl ⟨false,rfl,(by first|(simp only[fy,gK,false_iff,true_iff,eF] at*;omega)|(simp[eF] at*;omega)|(unfold eF;omega))⟩
theorem vdaysP{T:aO}(F:FT T){aK:Int}(I:(-9223372036854775808)≤aK)(L:aK≤9223372036854775807){aH:Int}(M:(-9223372036854775808)≤aH)(O:aH≤9223372036854775807):Sound T 123 [.agg [.d (dJ aK),.d (dJ aH)]] fun r=>∃A,r=dB A∧(A=true↔(0≤aK∧aK<aH∧aH≤1000000)):=by
 refine bg F.q123 aa (cf 8 aa (aA aa (Q9 (aK:=aK) (aH:=aH) F ae ae ae ae) ?_));rintro _ _⟨G,rfl,z⟩;refine ro 1 aa ?_;refine bk aa ?_ ?_<;>intro h2
 ·have U:=z.1 (by simpa using h2);exact dR 7 aa (bD aa aa ⟨decide (aH≤1000000),aa,rP⟩)
 have U:¬_:=fun p=>absurd (z.2 p) (by simpa using h2)
 exact dR 7 aa (bD aa aa ⟨false,aa,rP⟩)
theorem propP{T:aO}(F:FT T){I L:DC}(U:(Ty.x).ok I)(Y:(Ty.x).ok L){bA:Int}(Z:(-9223372036854775808)≤bA)(nw:bA≤9223372036854775807){bn:Int}(jG:(-9223372036854775808)≤bn)(jH:bn≤9223372036854775807){bT:Int}(oE:(-9223372036854775808)≤bT)(oF:bT≤9223372036854775807){bO:Int}(nx:(-9223372036854775808)≤bO)(ny:bO≤9223372036854775807):Sound T 62 [.agg [.d I,.d L,.d (dJ bA),.d (dJ bn),.d (dJ bT),.d (dJ bO)]] fun r=>∃M,r=dB M∧(M=true↔(0≤bA∧bA<bn∧bn≤1000000)∧(0≤bT∧bT<bO∧bO≤1099511627776)):=by
 refine bg F.q62 aa (cf 9 aa (aA aa (vdaysP (aK:=bA) (aH:=bn) F ae ae ae ae) ?_));rintro _ _⟨O,rfl,z⟩;refine ro 1 aa ?_;refine bk aa ?_ ?_<;>intro h2
 ·have k2:=z.1 (by simpa using h2);refine ro 2 aa (bw aa aa (aA aa (Q9 (aK:=bT) (aH:=bO) F ae ae ae ae) ?_));rintro _ _⟨A,rfl,G⟩;exact dR 4 aa (bD aa aa ⟨A,aa,rP⟩)
 have k2:¬_:=fun p=>absurd (z.2 p) (by simpa using h2)
 exact dR 7 aa (bD aa aa ⟨false,aa,rP⟩)
theorem AsOfP{T:aO}(F:FT T){a0:DC}{I:aj}(cg:ao I a0)(cI:I.length≤4096)(bJ:af fC I){aH:Int}(jE:(-9223372036854775808)≤aH)(jF:aH≤9223372036854775807):Sound T 30 [.d a0,.d (dJ aH)] fun r=>∃y0 U,r= .d y0∧ao U y0∧(U.length:Int)≤4096∧af fI U∧0≤(U.length:Int)∧(U=[]→y0= .nil)∧(bU (gC aH) kV I U):=by
 refine bg F.q30 aa (cf 12 aa (aM aa cg ?_));refine ro 3 aa (de 5 90 148 64 4 aa aa (bd [9,8,4,1,0] [] aa aa (fun e0 b0 k VE B=>∃z A,an ((5,.ac 90 A.length 4)::(10,.d (dJ z))::e0) VE∧an ((90,.acc 148 64 4 A)::b0) B∧k=((I.length:Int) -z).toNat∧(0≤z∧(z≤(I.length:Int)∨z=0))∧((A.length:Int)≤z)∧(af fI A)∧(bU (gC aH) kV (I.take z.toNat) A)) ?_ fin));rintro _ VE B⟨z,A,hV,hB,rfl,bR,cM,G,hH⟩;refine aS _ _ hV hB (rc 5 aa ?_);refine ax aa ?_ ?_<;>intro g1
 ·refine rc 5 aa ?_;obtain⟨_,⟨L,rfl,mT,nM⟩,ff,⟨jy,ia,jg,gk⟩,_,⟨M,rfl,xx,xz⟩,_,⟨O,rfl,L2,L3⟩,_,⟨Y,rfl,adT,adU⟩,_,⟨Z,rfl,Sc,Sd⟩,bM⟩:=qI z bJ;refine aw (aF aa aa cg ae bM aa ?_);refine aJ 7 aa (aA aa (propP (bA:=M) (bn:=O) (bT:=Y) (bO:=Z) F bP bP ae ae ae ae ae ae ae ae) ?_);rintro _ _⟨jX,rfl,lC⟩;refine ro 1 aa ?_;refine bk aa ?_ ?_<;>intro h4
  ·have k4:=lC.1 (by simpa using h4);refine ro 3 aa (bw aa aa (aA aa (inclPE (aK:=Y) (aH:=Z) (bA:=aH) F ae ae ae ae ae ae) ?_));rintro _ _⟨gM,rfl,kS⟩;refine ro 2 aa ?_;refine cO aa ?_ ?_<;>intro h6
   ·have k6:=kS.1 (by simpa using h6);refine rc 4 aa (aP aa (aA aa (clVE F ia ae gk) ?_));rintro _ _⟨nf,yj,rfl,GZ,L9,G0,Sp,ad2⟩;refine rq 5 aa ?_;have sq:af bc [[(dJ L)]]:=(cJ (ah ai bf) ca);refine R4 30 30 aa aa (fun _=>⟨aa,aa⟩) (rq 2 aa ?_);refine aP rfl (aW (rows:=A) (ys:=[[nf,(dJ M),(dJ O),(.sl [[(dJ L)]])]]) rfl rfl rfl (.bs (rows:=[[nf,(dJ M),(dJ O),(.sl [[(dJ L)]])]]) rfl) au ae (fun h=>by rw[h];rfl) (fun h=>by rw[h];rfl) ?_);refine rq 3 aa (aw (bB aa aa ae ae ?_));refine cA 2 aa ?_;exact⟨((I.length:Int) -((z+1))).toNat,ae,(z+1),(A++[[nf,(dJ M),(dJ O),(.sl [[(dJ L)]])]]),⟨rfl,rfl,rfl,rfl,rfl,rfl,rfl,trivial⟩,⟨rfl,trivial⟩,rfl,ae,cE,(df G (c9 (ah (aL GZ ae G0) (ah ai (ah ai (ah (aL (.inl rfl) ae sq) bf)))))),(by first|exact nN|exact bU.T (by assumption) ae (by assumption) (gC.mk (by(try unfold eF at*);omega)) (kV.mk (by assumption) (by assumption) (by assumption) (.inl rfl))|exact bU.F (by assumption) ae (by assumption) (gC.no (by(try unfold eF at*);omega))|assumption)⟩
   have k6:¬_:=fun p=>absurd (kS.2 p) (by simpa using h6)
   refine aB 2 aa (bB aa aa ae ae ?_);refine cA 2 aa ?_;exact⟨((I.length:Int) -((z+1))).toNat,ae,(z+1),A,⟨rfl,rfl,rfl,rfl,rfl,rfl,rfl,trivial⟩,⟨rfl,trivial⟩,rfl,ae,ae,G,(by first|exact nN|exact bU.T (by assumption) ae (by assumption) (gC.mk (by(try unfold eF at*);omega)) (kV.mk (by assumption) (by assumption) (by assumption) (.inl rfl))|exact bU.F (by assumption) ae (by assumption) (gC.no (by(try unfold eF at*);omega))|assumption)⟩
  have k4:¬_:=fun p=>absurd (lC.2 p) (by simpa using h4)
  refine ro 6 aa (dc aa aa (aB 2 aa (bB aa aa ae ae ?_)));refine cA 2 aa ?_;exact⟨((I.length:Int) -((z+1))).toNat,ae,(z+1),A,⟨rfl,rfl,rfl,rfl,rfl,rfl,rfl,trivial⟩,⟨rfl,trivial⟩,rfl,ae,ae,G,(by first|exact nN|exact bU.T (by assumption) ae (by assumption) (gC.mk (by(try unfold eF at*);omega)) (kV.mk (by assumption) (by assumption) (by assumption) (.inl rfl))|exact bU.F (by assumption) ae (by assumption) (gC.no (by(try unfold eF at*);omega))|assumption)⟩
 refine rc 6 aa (cl 4 90 aa aa (fun _=>⟨aa,aa⟩) (dH 1 aa ?_));exact bD rfl rfl ⟨(.cm A),A,rfl,(.acc _),ae,G,ae,(fun h=>by rw[h];rfl),(CY dz ae)⟩
end Go.Ev.Rp
namespace Go.Ev.Rp
open Go Go.Ev.Pp
attribute [local irreducible] VC VO VQ VI Sound cF
theorem typ_one{t:Int}{z:aj}{n d:DC}{rest:List DC}{w:aj}(h:bU (ew t) (eJ t) [n::d::rest] z)(A:ao w d)(G:fV w t):∃k,z[(0:Int).toNat]?=some [n,k]∧eJ t (n::d::rest) [n,k]:=by
 rcases h with⟨_,x,u,rfl,q,h⟩|⟨h,_⟩
 ·obtain⟨_,_,_,I,wc,k,e,L,M,rfl,O⟩:=q
  cases e
  exact⟨k,aa,_,_,_,I,wc,k,aa,L,M,aa,O⟩
 exact absurd (ew.mk A G) h
theorem histE{T:aO}(F:FT T){a0 a1 a2 a3 a4 a5:DC}(cC:(Ty.x).ok a0)(bX:(Ty.x).ok a1){O:aj}(cu:ao O a2)(cX:O.length≤16)(bS:af [.s 1000,.l 27 dk,.l 200 bc,.l 4 dy,.l 4 dj,.l 4096 fC] O)(ch:(Ty.x).ok a3)(bY:(Ty.x).ok a4)(cB:(Ty.x).ok a5){bx:Int}(lX:(-9223372036854775808)≤bx)(lY:bx≤9223372036854775807):Sound T 29 [.agg [.d a0,.d a1,.d a2,.d a3,.d a4,.d a5],.d (dJ bx),dB false] fun r=>∃y0 br,r= .d y0∧ao br y0∧(br.length:Int)≤16∧af [.s 1000,.l 200 bc,.l 4096 fC] br∧0≤(br.length:Int)∧(br=[]→y0= .nil)∧(bU (ew bx) (sm bx) O br):=by
 refine bg F.q29 aa (cf 14 aa (aM aa cu ?_));refine ro 3 aa (de 7 90 94 64 3 aa aa (bd [17,16,6,3,2,1,0] [3] aa aa (fun e0 b0 k VE B=>∃A I,an ((7,.ac 90 I.length 3)::(18,.d (dJ A))::e0) VE∧an ((90,.acc 94 64 3 I)::b0) B∧k=((O.length:Int) -A).toNat∧(0≤A∧(A≤(O.length:Int)∨A=0))∧((I.length:Int)≤A)∧(af [.s 1000,.l 200 bc,.l 4096 fC] I)∧(bU (ew bx) (sm bx) (O.take A.toNat) I)) ?_ fin));rintro _ VE B⟨A,I,hV,hB,rfl,bR,cM,U,hH⟩;refine aS _ _ hV hB (rc 5 aa ?_);refine ax aa ?_ ?_<;>intro g1
 ·refine rc 5 aa ?_;obtain⟨gm,gx,ff,⟨jy,ia,jg,gk⟩,fg,fT,jB,iV,pn,mX,I9,⟨Y,L',ad3,G1⟩,bM⟩:=qI A bS;refine aw (aF aa aa cu ae bM aa ?_);refine aJ 9 aa (aA aa (agb (bO:=bx) F gx ia ae gk fT iV mX ae ae) ?_);rintro _ _⟨jX,zh,EM,agc,ai6,rfl,lC,Br,Sk,ad0,Sl,ad1,Sm,Ut⟩;refine ro 13 aa ?_;refine cO aa ?_ ?_<;>intro h4
  ·have k4:¬_:=fun p=>absurd (Ut.2 p) (by simpa using h4)
   refine aB 2 aa (bB aa aa ae ae ?_);refine cA 2 aa ?_;exact⟨((O.length:Int) -((A+1))).toNat,ae,(A+1),I,⟨rfl,rfl,rfl,rfl,rfl,rfl,rfl,rfl,rfl,trivial⟩,⟨rfl,rfl,trivial⟩,rfl,ae,ae,U,(by first|exact nN|exact bU.T (by assumption) ae (by assumption) (ew.mk (by assumption) (by assumption)) (sm.mk (by assumption) (by assumption) (by assumption) (by assumption) (by assumption) (.acc _) (Ax (by assumption) ae))|exact bU.F (by assumption) ae (by assumption) (ew.no (by assumption) (by assumption))|assumption)⟩
  have k4:=Ut.1 (by simpa using h4);refine rc 3 aa ?_;rcases Ty.bC gx,Ty.aL fT,Ty.aL iV,Ty.aL mX with⟨⟨L,rfl,rm⟩,⟨yg,uX,p5,p7⟩,⟨DT,uY,Dx,ru⟩,⟨Uo,AP,Se,AQ⟩⟩
  refine rp 5 aa ?_;have CB:af [.s 1000,.l 27 dk,.l 200 bc,.l 4 dy,.l 4 dj] [[(al L),ff,fg,jB,pn]]:=(cJ (ah (bC aq) (ah (aL ia ae gk) (ah (aL uX ae p7) (ah (aL uY ae ru) (ah (aL AP ae AQ) bf))))) ca);refine eV 33 33 aa aa (fun _=>⟨aa,aa⟩) (aw (aA aa (TypsE (aH:=bx) F (.inl aa) ae CB ae ae) ?_));rintro _ _⟨jW,oX,rfl,oP,u9,lz,Ma,Mb,Sq⟩;obtain⟨ky,J7,hty⟩:=typ_one Sq dz dz;have kb:=(List.getElem?_eq_some_iff.1 J7).1;obtain⟨jY,lD,Z,⟨Up,xC,Sh,xD⟩,eL⟩:=qI 0 lz;refine aw (aF aa aa oP ae eL aa ?_);refine ro 1 aa ?_;have e7:some [jY,Z]=some [_,ky]:=eL.symm.trans J7;simp only[eA,vg,and_true] at e7;obtain⟨e8,e9⟩:=e7;subst e8;subst e9;refine rp 7 aa (iw 2 aa (aM aa L' ?_));refine ro 3 aa (iQ 12 2 91 156 64 6 aa aa aa (bd [42,41,30,19,18,17,16,12,11,10,9,7,6,3,2,1,0] [90,10,9,3] aa aa (fun e0 b0 k VE B=>∃G z,an ((43,.d (dJ G))::e0) VE∧an ((12,.one 94 64 [dS L,.d Z,.ac 91 z.length 6])::(91,.acc 156 64 6 z)::b0) B∧k=((Y.length:Int) -G).toNat∧(0≤G∧(G≤(Y.length:Int)∨G=0))∧((z.length:Int)≤G)∧(af fC z)∧(fB (pG agc) (Y.take G.toNat) z)) ?_ fin));rintro _ VE B⟨G,z,hV,hB,rfl,fh,gn,M,I8⟩;refine aS _ _ hV hB (rc 5 aa ?_);refine ax aa ?_ ?_<;>intro g8
  ·refine rc 5 aa ?_;obtain⟨_,⟨nX,rfl,DA,L5⟩,oh,⟨M3,u6,L6,u7⟩,_,⟨nU,rfl,L0,L1⟩,_,⟨qe,rfl,Si,Sj⟩,_,⟨tf,rfl,adV,adW⟩,_,⟨tg,rfl,adX,adY⟩,eW⟩:=qI G G1;refine aw (aF aa aa L' ae eW aa ?_);refine aJ 9 aa (aA aa (ProjP F lC Br Sk ae Sl u6 ae u7) ?_);rintro _ _⟨iF,xE,rfl,sQ,xm,sR,C8,Q8⟩;refine ro 4 aa (rp 4 aa ?_);refine aw (aW (rows:=z) (ys:=[[(dJ nX),iF,(dJ nU),(dJ qe),(dJ tf),(dJ tg)]]) rfl rfl rfl (.bs (rows:=[[(dJ nX),iF,(dJ nU),(dJ qe),(dJ tf),(dJ tg)]]) rfl) au ae (fun h=>by rw[h];rfl) (fun h=>by rw[h];rfl) ?_);refine aJ 4 aa (bB aa aa ae ae ?_);refine cA 2 aa ?_;exact⟨((Y.length:Int) -((G+1))).toNat,ae,(G+1),(z++[[(dJ nX),iF,(dJ nU),(dJ qe),(dJ tf),(dJ tg)]]),⟨rfl,rfl,rfl,rfl,rfl,rfl,rfl,rfl,rfl,rfl,rfl,rfl,rfl,rfl,rfl,rfl,rfl,rfl,trivial⟩,⟨rfl,rfl,rfl,rfl,rfl,rfl,trivial⟩,rfl,ae,cE,(df M (c9 (ah ai (ah (aL sQ ae sR) (ah ai (ah ai (ah ai (ah ai bf)))))))),(by first|exact GU|exact FV (by assumption) ae (by assumption) (pG.mk (by assumption) (by assumption) (by assumption))|assumption)⟩
  refine rc 4 aa (eK 60 91 aa aa dx (ro 1 aa ?_));refine aw (aW (rows:=I) (ys:=[[(al L),Z,(.cm z)]]) rfl rfl rfl (.bs (rows:=[[(al L),Z,(.cm z)]]) rfl) au ae (fun h=>by rw[h];rfl) (fun h=>by rw[h];rfl) ?_);refine aJ 3 aa (bB aa aa ae ae ?_);refine cA 2 aa ?_;exact⟨((O.length:Int) -((A+1))).toNat,ae,(A+1),(I++[[(al L),Z,(.cm z)]]),⟨rfl,rfl,rfl,rfl,rfl,rfl,rfl,rfl,rfl,trivial⟩,⟨rfl,rfl,trivial⟩,rfl,ae,cE,(df U (c9 (ah (bC aq) (ah (aL xC ae xD) (ah (aL (.acc _) ae M) bf))))),(by first|exact nN|exact bU.T (by assumption) ae (by assumption) (ew.mk (by assumption) (by assumption)) (sm.mk (by assumption) (by assumption) (by assumption) (by assumption) (by assumption) (.acc _) (Ax (by assumption) ae))|exact bU.F (by assumption) ae (by assumption) (ew.no (by assumption) (by assumption))|assumption)⟩
 refine rc 6 aa (cl 6 90 aa aa (fun _=>⟨aa,aa⟩) (dH 1 aa ?_));exact bD rfl rfl ⟨(.cm I),I,rfl,(.acc _),ae,U,ae,(fun h=>by rw[h];rfl),(CY dz ae)⟩
theorem abI{T:aO}(F:FT T){a0 a1 a2 a3 a4 a5:DC}(cC:(Ty.x).ok a0)(bX:(Ty.x).ok a1){Z:aj}(cu:ao Z a2)(cX:Z.length≤16)(bS:af [.s 1000,.l 27 dk,.l 200 bc,.l 4 dy,.l 4 dj,.l 4096 fC] Z)(ch:(Ty.x).ok a3)(bY:(Ty.x).ok a4)(cB:(Ty.x).ok a5){bx:Int}(lX:(-9223372036854775808)≤bx)(lY:bx≤9223372036854775807):Sound T 14 [.agg [.d a0,.d a1,.d a2,.d a3,.d a4,.d a5],.d (dJ bx)] fun r=>∃y0 O,r= .d y0∧ao O y0∧(O.length:Int)≤16∧af [.s 1000,.l 200 bc,.l 4096 fI] O∧0≤(O.length:Int)∧(O=[]→y0= .nil)∧(bU (ew bx) (Pa bx) Z O):=by
 refine bg F.q14 aa (cf 14 aa (aA aa (histE (bx:=bx) F bP bP cu ae bS bP bP bP ae ae) ?_));rintro _ _⟨eo,G,rfl,L,jh,fF,ku,lv,AS⟩;refine aw (aM aa L ?_);refine ro 3 aa (de 5 90 87 64 3 aa aa (bd [11,10,4,2,1,0] [2] aa aa (fun e0 b0 k VE B=>∃z A,an ((5,.ac 90 A.length 3)::(12,.d (dJ z))::e0) VE∧an ((90,.acc 87 64 3 A)::b0) B∧k=((G.length:Int) -z).toNat∧(0≤z∧(z≤(G.length:Int)∨z=0))∧((A.length:Int)≤z)∧(af [.s 1000,.l 200 bc,.l 4096 fI] A)∧(fB (zP bx) (G.take z.toNat) A)) ?_ fin));rintro _ VE B⟨z,A,hV,hB,rfl,bR,cM,M,hH⟩;refine aS _ _ hV hB (rc 5 aa ?_);refine ax aa ?_ ?_<;>intro g2
 ·refine rc 5 aa ?_;obtain⟨_,⟨I,rfl,hsx3_0⟩,U,⟨age,Mc,ad4,Md⟩,vX,⟨M5,Sr,Me,G2⟩,eS⟩:=qI z fF;refine aw (aF aa aa L ae eS aa ?_);refine ro 11 aa (aP aa (aA aa (AsOfP (aH:=bx) F Sr ae G2 ae ae) ?_));rintro _ _⟨Y,lE,rfl,xF,va,vb,AV,AW,hfy4_0⟩;refine rq 2 aa ?_;refine aP rfl (aW (rows:=A) (ys:=[[(al I),U,Y]]) rfl rfl rfl (.bs (rows:=[[(al I),U,Y]]) rfl) au ae (fun h=>by rw[h];rfl) (fun h=>by rw[h];rfl) ?_);refine rq 3 aa (aw (bB aa aa ae ae ?_));refine cA 2 aa ?_;exact⟨((G.length:Int) -((z+1))).toNat,ae,(z+1),(A++[[(al I),U,Y]]),⟨rfl,rfl,rfl,rfl,rfl,rfl,rfl,rfl,trivial⟩,⟨rfl,rfl,trivial⟩,rfl,ae,cE,(df M (c9 (ah (bC aq) (ah (aL Mc ae Md) (ah (aL xF ae vb) bf))))),(by first|exact GU|exact FV (by assumption) ae (by assumption) (zP.mk (by assumption) (by assumption) (by assumption))|assumption)⟩
 refine rc 6 aa (cl 4 90 aa aa (fun _=>⟨aa,aa⟩) (dH 1 aa ?_));exact bD rfl rfl ⟨(.cm A),A,rfl,(.acc _),ae,M,ae,(fun h=>by rw[h];rfl),(bU.comp dz (Ax dz ae))⟩
end Go.Ev.Rp
namespace Go.Ev.Rp
open Go Go.Ev.Pp
attribute [local irreducible] VC VO VQ VI Sound cF
theorem fB.mono{R S:List DC→List DC→Prop}{a b:aj}(h:fB R a b)(f:∀x y,R x y→S x y):fB S a b:=⟨h.1,fun q r s z h2=>f _ _ (h.2 q r s z h2)⟩
theorem bU.pre{K:List DC→Prop}{Q R:List DC→List DC→Prop}(A:∀r s,Q r s→(K r↔K s)):∀{w v a:aj},fB Q w v→bU K R v a→bU K (fun r y=>∃s,Q r s∧R s y) w a
 |[],v,a,h,k=>by cases (o0 h.1.symm:v=[]);exact k
 |r::w,v,a,h,k=>by
  obtain⟨s,u,rfl,q,h⟩:=aaM h;rcases k with⟨G,x,z,rfl,I,k⟩|⟨G,k⟩
  ·exact .inl ⟨(A _ _ q).2 G,x,z,aa,⟨s,q,I⟩,bU.pre A h k⟩
  exact .inr ⟨fun e=>G ((A _ _ q).1 e),bU.pre A h k⟩
def VW(x y:List DC):Prop:=∃v v' a b l z w A,x=[v,a,b,l]∧y=[v',a,b,z]∧ao w v∧ao w v'∧ao A l∧ao A z
def ai7(x y:List DC):Prop:=∃n k z t t' A w w',x=[n,k,t]∧y=[n,z,t']∧ao A k∧ao A z∧ao w t∧ao w' t'∧fB VW w w'
theorem ad5{t:Int}{wc:aj}{r s:List DC}(h:pG wc r s):gC t r↔gC t s:=by
 obtain⟨i,v,x,rest,w,rfl,rfl,_,_⟩:=h;constructor
 ·rintro⟨_,_,a,b,c,d,e,k⟩;cases e;exact⟨_,_,a,b,c,d,rfl,k⟩
 rintro⟨_,_,a,b,c,d,e,k⟩;cases e;exact⟨_,_,a,b,c,d,rfl,k⟩
theorem tup_same{t:Int}{wc A x y a b:aj}(h:fB (pG wc) A x)(k:fB (pG wc) A y)(G:bU (gC t) kV x a)(I:bU (gC t) kV y b):fB VW a b:=by
 have L:=bU.pre (K:=gC t) (Q:=pG wc) (R:=kV) (fun _ _=>ad5) h G;have M:=bU.pre (K:=gC t) (Q:=pG wc) (R:=kV) (fun _ _=>ad5) k I;refine fB.mono (bU.same L M) fun p q⟨r,_,_,⟨s,e,f⟩,⟨s',O,f'⟩⟩=>?_
 obtain⟨i,v,x,rest,w,rfl,rfl,U,Y⟩:=e;obtain⟨_,_,x',_,w',Z,rfl,e4,e5⟩:=O
 cases Z
 obtain rfl:=ao.inj U e4;obtain⟨_,_,_,_,_,_,u,z,l,g,rfl,f1,f2,f3⟩:=f
 cases g
 obtain⟨_,_,_,_,_,_,u',z',l',g,rfl,f4,f5,f6⟩:=f'
 cases g
 obtain rfl:=ao.inj Y f1;obtain rfl:=ao.inj e5 f4;exact⟨_,_,_,_,_,_,_,_,aa,aa,f2,f5,f3,f6⟩
theorem abJ{t:Int}{w a b:aj}(h:bU (ew t) (Pa t) w a)(k:bU (ew t) (Pa t) w b):fB ai7 a b:=
 fB.mono (bU.same h k) fun p q⟨r,_,_,⟨x,z,t1⟩,⟨y,A,t2⟩⟩=>by
  obtain⟨n,d,a,b,c,v,k1,x1,w1,wc,wv,wx,rfl,rfl,G,I,L,M,O,U⟩:=z;obtain⟨_,_,_,_,_,_,k2,x2,w2,Y,Z,wx2,g,rfl,f1,f2,f3,f4,f5,f6⟩:=A
  cases g
  obtain rfl:=ao.inj G f1;obtain rfl:=js.inj I f2;obtain rfl:=ao.inj M f4;obtain⟨_,_,_,z1,u1,wt1,g,rfl,p1,p2,p3⟩:=t1
  cases g
  obtain⟨_,_,_,z2,u2,wt2,g,rfl,q1,q2,q3⟩:=t2
  cases g
  obtain rfl:=ao.inj O p1;obtain rfl:=ao.inj f5 q1;exact⟨_,_,_,_,_,_,_,_,aa,aa,L,f3,p2,q2,tup_same U f6 p3 q3⟩
theorem sameIT{T:aO}(F:FT T){U Y:DC}{A:aj}(G:ao A U)(Z:A.length≤1000000000)(L:af bc A)(I:ao A Y):Sound T 27 [.d U,.d Y] fun r=>r=dB true:=by
 refine bg F.q27 aa (cf 8 aa (aM aa G ?_));refine aJ 1 aa (aM aa I ?_);refine ro 2 aa (dc aa bh (rc 7 aa (bd [10,4,1,0] [] aa aa (fun e0 b0 k VE B=>∃z,an ((5,.d (dJ z))::e0) VE∧an b0 B∧dT k 0 z (A.length:Int)) ?_ fin)));rintro _ VE B⟨z,hV,hB,rfl,bR⟩;refine aS _ _ hV hB (aB 5 aa (aM aa G ?_));refine ro 2 aa ?_;refine ax aa ?_ ?_<;>intro g1
 ·refine rc 7 aa ?_;obtain⟨gm,O,M⟩:=qI z L;refine aT (aF aa aa G ae M aa ?_);refine cr aa aa (c4 aa aa ?_);refine c7 2 aa (aF aa aa I ae M aa ?_);refine cr aa aa (c4 aa aa ?_);exact W
 exact dH 6 aa (bD aa aa aa)
theorem compT{T:aO}(F:FT T){z A G:DC}(I:tJ.ok z)(L:tJ.ok A)(M:(Ty.s 1000).ok G):Sound T 209 [.agg [.d z,.d A,.d G],.agg [.d z,.d A,.d G]] fun r=>r= .d i0:=by
 refine bg F.aiR aa ?_;rcases I,L,M with⟨⟨aK,rfl,U,Y⟩,⟨aH,rfl,Z,dW⟩,⟨O,rfl,VX⟩⟩
 refine r0 16 aa (bw aa bh (pQ aa ?_));refine bw aa bh (iP aa aa aa ?_);refine bw aa bh (pQ aa ?_);refine bw aa bh (iP aa aa aa ?_);refine bw aa bh (LV aa aa ?_);refine bw aa bh (sU aa ?_);refine bw aa bh (pQ aa ?_);refine bw aa bh (iP aa aa aa ?_);refine bw aa bh (pQ aa ?_);refine bw aa bh (iP aa aa aa ?_);refine bw aa bh (R3 aa aa ?_);refine bw aa bh (FO aa bh aa ?_);refine aw (CR aa bh aa ?_);refine ro 1 aa (bw aa bh (pQ aa ?_));refine bw aa bh (iP aa aa aa ?_);refine bw aa bh (pQ aa ?_);refine bw aa bh (iP aa aa aa ?_);refine bw aa bh (LV aa aa ?_);refine bw aa bh (sU aa ?_);refine bw aa bh (pQ aa ?_);refine bw aa bh (iP aa aa aa ?_);refine bw aa bh (pQ aa ?_);refine bw aa bh (iP aa aa aa ?_);refine bw aa bh (LV aa aa ?_);refine bw aa bh (FO aa bh aa ?_);refine bw aa bh (sU aa ?_);refine bw aa bh (pQ aa ?_);refine bw aa bh (iP aa aa aa ?_);refine bw aa bh (pQ aa ?_);refine bw aa bh (iP aa aa aa ?_);refine bw aa bh (vi_ltSS aa aa (.inl aa) ?_);refine bw aa bh (FO aa bh aa ?_);refine aw (CR aa bh aa ?_);refine ro 2 aa (dc aa aa (aB 4 aa (abx (r:=[(dJ aK),(dJ aH),(al O)]) aa aa aa ?_)));exact ro 2 aa (eM aa aa (dH 5 aa (bD aa aa aa)))
theorem compRT{T:aO}(F:FT T){Z a1:DC}{I:aj}(z:ao I Z)(cI:I.length≤1000000000)(U:af cn I)(A:ao I a1):Sound T 120 [.d Z,.d a1] fun r=>r= .d i0:=by
 refine bg F.aiK aa (r0 10 aa (bd [4,1,0] [] aa aa (fun e0 b0 k VE B=>∃G,an ((5,.d (dJ G))::e0) VE∧an b0 B∧dT k 0 G (I.length:Int)) ?_ fin));rintro _ VE B⟨G,hV,hB,rfl,bR⟩;refine aS _ _ hV hB (aB 5 aa (aM aa z ?_));refine ro 2 aa ?_;refine bk aa ?_ ?_<;>intro g1
 ·refine ro 2 aa (bw aa aa (aM aa A ?_));refine ro 3 aa ?_;refine ax aa ?_ ?_<;>intro g2
  ·refine rc 7 aa ?_;obtain⟨ng,L,qF,M,vX,O,Y⟩:=qI G U;refine aT (aF aa aa z ae Y aa ?_);refine cr aa aa (gr aa (aV aa) (aV aa) ?_);refine c7 2 aa (aF aa aa A ae Y aa ?_);refine cr aa aa (gr aa (aV aa) (aV aa) ?_);refine aP aa (aA aa (compT F L M O) ?_);rintro _ _ rfl;exact W
  refine aB 6 aa (aM aa z ?_);refine aJ 1 aa (aM aa A ?_);refine ro 3 aa (dc aa bh (aB 3 aa (aM aa z ?_)));refine aJ 1 aa (aM aa A ?_);exact ro 3 aa (dc aa bh (dH 6 aa (bD aa aa aa)))
 refine ro 6 aa (dc aa aa (aB 6 aa (aM aa z ?_)));refine aJ 1 aa (aM aa A ?_);refine ro 3 aa (dc aa bh (aB 3 aa (aM aa z ?_)));refine aJ 1 aa (aM aa A ?_);exact ro 3 aa (dc aa bh (dH 6 aa (bD aa aa aa)))
theorem compIT{T:aO}(F:FT T){Z a1:DC}{I:aj}(z:ao I Z)(cI:I.length≤1000000000)(M:af bc I)(A:ao I a1):Sound T 121 [.d Z,.d a1] fun r=>r= .d i0:=by
 refine bg F.aiL aa (r0 10 aa (bd [4,1,0] [] aa aa (fun e0 b0 k VE B=>∃G,an ((5,.d (dJ G))::e0) VE∧an b0 B∧dT k 0 G (I.length:Int)) ?_ fin));rintro _ VE B⟨G,hV,hB,rfl,bR⟩;refine aS _ _ hV hB (aB 5 aa (aM aa z ?_));refine ro 2 aa ?_;refine bk aa ?_ ?_<;>intro g1
 ·refine ro 2 aa (bw aa aa (aM aa A ?_));refine ro 3 aa ?_;refine ax aa ?_ ?_<;>intro g2
  ·refine rc 8 aa ?_;obtain⟨_,⟨Y,rfl,O,U⟩,L⟩:=qI G M;refine aT (aF aa aa z ae L aa ?_);refine cr aa aa (c4 aa aa ?_);refine c7 2 aa (aF aa aa A ae L aa ?_);refine cr aa aa (c4 aa aa ?_);refine rq 2 aa (dc aa bh (rc 5 aa (aT (aF aa aa z ae L aa ?_))));refine cr aa aa (c4 aa aa ?_);refine c7 2 aa (aF aa aa A ae L aa ?_);refine cr aa aa (c4 aa aa ?_);exact W
  refine aB 6 aa (aM aa z ?_);refine aJ 1 aa (aM aa A ?_);refine ro 3 aa (dc aa bh (aB 3 aa (aM aa z ?_)));refine aJ 1 aa (aM aa A ?_);exact ro 3 aa (dc aa bh (dH 6 aa (bD aa aa aa)))
 refine ro 6 aa (dc aa aa (aB 6 aa (aM aa z ?_)));refine aJ 1 aa (aM aa A ?_);refine ro 3 aa (dc aa bh (aB 3 aa (aM aa z ?_)));refine aJ 1 aa (aM aa A ?_);exact ro 3 aa (dc aa bh (dH 6 aa (bD aa aa aa)))
theorem sameRT{T:aO}(F:FT T){Y Z a2 a3:DC}{z:aj}(G:ao z Y)(cI:z.length≤1000000000)(I:af cn z){A:aj}(L:ao A Z)(dg:A.length≤1000000000)(M:af bc A)(O:ao z a2)(U:ao A a3):Sound T 57 [.agg [.d Y,.d Z],.agg [.d a2,.d a3]] fun r=>r=dB true:=by
 refine bg F.q57 aa (cf 12 aa (aA aa (compRT F G ae I O) ?_));rintro _ _ rfl;refine ro 6 aa (bw aa aa (aA aa (compIT F L ae M U) ?_));rintro _ _ rfl;exact dR 5 aa (bD aa aa aa)
theorem ai8{T:aO}(F:FT T){z G I A:DC}(L:(Ty.x).ok z)(M:(Ty.x).ok G)(O:(Ty.x).ok I)(U:(Ty.x).ok A):Sound T 58 [.agg [.d z,.d G,.d I,.d A]] fun r=>r= .agg [.d z,.d A]:=by
 exact bg F.q58 aa (r0x 15 aa (bD aa aa aa))
theorem sameTT{T:aO}(F:FT T){a0 a1:DC}{L:aj}(A:ao L a0)(cI:L.length≤4096)(bJ:af fI L){U:aj}(M:ao U a1)(cq:af fI U)(O:fB VW L U):Sound T 28 [.d a0,.d a1] fun r=>r=dB true:=by
 refine bg F.q28 aa ?_;have wD:=O.1;refine cf 8 aa (aM aa A ?_);refine aJ 1 aa (aM aa M ?_);refine ro 2 aa ?_;refine ax aa ?_ ?_<;>intro h1
 ·exact W
 refine rc 7 aa (bd [10,4,1,0] [] aa aa (fun e0 b0 k VE B=>∃z,an ((5,.d (dJ z))::e0) VE∧an b0 B∧dT k 0 z (L.length:Int)) ?_ fin);rintro _ VE B⟨z,hV,hB,rfl,bR⟩;refine aS _ _ hV hB (aB 5 aa (aM aa A ?_));refine ro 2 aa ?_;refine ax aa ?_ ?_<;>intro g2
 ·refine rc 7 aa ?_;obtain⟨ng,⟨DY,G,DB,Y⟩,_,⟨Uu,rfl,hzx3_1,kzx3_1⟩,_,⟨agd,rfl,Sn,So⟩,VY,⟨wx3_3,I,hnx3_3,Z⟩,eS⟩:=qI z bJ;refine aT (aF aa aa A ae eS aa ?_);refine rq 1 aa (cr aa aa (gr aa (aV aa) (aV aa) ?_));refine rq 2 aa ?_;obtain⟨r4,cZ⟩:∃r,U[(z:Int).toNat]?=some r:=⟨_,dm (by have:=O.1;omega)⟩;obtain⟨_,v4,_,_,_,l4,u4,m4,XH,rfl,J',sr,Ka,CC⟩:=O.2 _ _ _ eS cZ
  cases XH
  obtain rfl:=ao.uniq J' G;obtain rfl:=ao.uniq Ka I;refine aT (aF aa aa M ae cZ aa ?_);refine rq 1 aa (cr aa aa (gr aa (aV aa) (aV aa) ?_));refine aT (abx (r:=[(dJ Uu),(dJ agd)]) aa aa aa ?_);refine rq 3 aa (cb aa aa (aF aa aa A ae eS aa ?_));refine rq 1 aa (eD aa aa aa (aA aa (ai8 F bP bP bP bP) ?_));rintro _ _ rfl;refine rq 2 aa (cb aa aa (aF aa aa M ae cZ aa ?_));refine rq 1 aa (eD aa aa aa (aA aa (ai8 F bP bP bP bP) ?_));rintro _ _ rfl;refine eD aa aa aa (aA aa (sameRT F G ae Y I ae Z sr CC) ?_);rintro _ _ rfl;exact rq 2 aa (W)
 exact dH 6 aa (bD aa aa aa)
theorem aaN{T:aO}(F:FT T){a0 a1:DC}{M:aj}(z:ao M a0)(cI:M.length≤16)(bJ:af [.s 1000,.l 200 bc,.l 4096 fI] M){Y:aj}(G:ao Y a1)(cq:af [.s 1000,.l 200 bc,.l 4096 fI] Y)(O:fB ai7 M Y):Sound T 13 [.d a0,.d a1] fun r=>r=dB true:=by
 refine bg F.q13 aa ?_;have wD:=O.1;refine cf 8 aa (aM aa z ?_);refine aJ 1 aa (aM aa G ?_);refine ro 2 aa ?_;refine ax aa ?_ ?_<;>intro h1
 ·exact W
 refine rc 7 aa (bd [10,4,1,0] [] aa aa (fun e0 b0 k VE B=>∃A,an ((5,.d (dJ A))::e0) VE∧an b0 B∧dT k 0 A (M.length:Int)) ?_ fin);rintro _ VE B⟨A,hV,hB,rfl,bR⟩;refine aS _ _ hV hB (aB 5 aa (aM aa z ?_));refine ro 2 aa ?_;refine ax aa ?_ ?_<;>intro g2
 ·refine rc 7 aa ?_;obtain⟨_,⟨sx3_0,rfl,hsx3_0⟩,qF,⟨age,I,ad4,Z⟩,vX,⟨M5,L,Me,G2⟩,eS⟩:=qI A bJ;refine aT (aF aa aa z ae eS aa ?_);refine rq 2 aa (cr aa aa (c4 aa aa ?_));refine rq 2 aa ?_;obtain⟨r4,U⟩:∃r,Y[(A:Int).toNat]?=some r:=⟨_,dm (by have:=O.1;omega)⟩;have hrb4:=mb cq U;obtain⟨_,_,k4,_,t4,uk4,ut4,wt4,XH,rfl,J',sr,Ka,CC,q4⟩:=O.2 _ _ _ eS U
  cases XH
  obtain rfl:=ao.uniq J' I;obtain rfl:=ao.uniq Ka L;obtain⟨_,_,e_,_,_,_,rfl,_,_,_,rfl,⟨_,o4,_,rt4⟩,_⟩:=hrb4
  cases e_
  obtain rfl:=ao.uniq o4 CC;refine aT (aF aa aa G ae U aa ?_);refine rq 2 aa (cr aa aa (c4 aa aa ?_));refine aT (nE aa aa ?_);refine rq 1 aa (cb aa bh (sU aa ?_));refine cb aa bh (sU aa ?_);refine cb aa bh (aF aa aa z ae eS aa ?_);refine cb aa bh (F1 aa ?_);refine cb aa bh (F1 aa ?_);refine eD aa bh aa (c4 aa aa ?_);refine cb aa bh (sU aa ?_);refine cb aa bh (sU aa ?_);refine cb aa bh (aF aa aa G ae U aa ?_);refine cb aa bh (F1 aa ?_);refine cb aa bh (F1 aa ?_);refine eD aa bh aa (c4 aa aa ?_);refine eD aa bh aa (aA aa (sameIT F I ae Z sr) ?_);rintro _ _ rfl;refine cb aa bh (adB aa ?_);refine aT (CR aa bh aa ?_);refine rq 3 aa (cb aa aa (aF aa aa z ae eS aa ?_));refine rq 4 aa (cb aa aa (aF aa aa G ae U aa ?_));refine rq 2 aa (eD aa aa aa (aA aa (sameTT F L ae G2 CC rt4 q4) ?_));rintro _ _ rfl;exact rq 2 aa (W)
 exact dH 6 aa (bD aa aa aa)
end Go.Ev.Rp
namespace Go.Ev.Rp
open Go Go.Ev.Pp
attribute [local irreducible] VC VO VQ VI Sound cF
theorem intvC{T:aO}(F:FT T){A:DC}(z:tJ.ok A):Sound T 89 [.d A] fun r=>∃G I L,r= .agg [.d G,.d I,.d L]∧tJ.ok G∧tJ.ok I∧(Ty.s 1000).ok L:=by
 refine bg F.q89 aa ?_;obtain⟨aK,rfl,M,O⟩:=z;exact W
theorem agf{T:aO}(F:FT T){aK:Int}(A:0≤aK)(G:aK≤65535){aH:Int}(I:1≤aH)(L:aH≤1000):Sound T 12 [.d (dJ aK),.d (dJ aH)] fun r=>∃z,r= .d z∧(Ty.i .i64 0 (aH-1)).ok z:=by
 refine bg F.q12 aa (r0 10 aa ?_);refine ax aa ?_ ?_<;>intro Z
 ·exact W
 refine aB 5 aa (Q5 aa aa ae ae (fun z2 M O=>?_));refine aJ 1 aa (bB aa aa ae ae ?_);refine aJ 1 aa (Q5 aa aa ae ae (fun z3 U Y=>?_));exact dR 3 aa (bD aa aa fin)
theorem vY{T:aO}(F:FT T){a0 a1:DC}(L:(Ty.i .i64 0 65535).ok a0)(M:(Ty.i .u16 0 65535).ok a1):Sound T 44 [.d a0,.d a1] fun r=>∃y0 y1 y2,r= .agg [.d y0,.d y1,.d y2]∧tJ.ok y0∧tJ.ok y1∧(Ty.s 1000).ok y2:=by
 refine bg F.q44 aa ?_;rcases L,M with⟨⟨aK,rfl,gZ,hD⟩,⟨aH,rfl,ey,dW⟩⟩
 refine cf 8 aa (c6 aa aa aa ae ae ?_);refine ro 2 aa ?_;refine ax aa ?_ ?_<;>intro h1
 ·exact W
 refine aB 5 aa (c6 aa aa aa ae ae ?_);refine ro 2 aa ?_;refine ax aa ?_ ?_<;>intro g2
 ·refine aB 3 aa (c6 aa aa aa ae ae ?_);refine aw (fR aa au ae ae ?_);refine aw (dO aa aa ae ae ?_);refine aw (aA aa (intvC F ai) ?_);rintro _ _⟨jX,zh,EM,rfl,O,U,Y⟩;exact W
 refine aB 5 aa (c6 aa aa aa ae ae ?_);have Z:af VS [[(al [])],[(al [97])],[(al [98,39])]]:=(cJ (ah (bC (s:=[]) au) bf) (cJ (ah (bC (s:=[97]) au) bf) (cJ (ah (bC (s:=[98,39]) au) bf) ca)));obtain⟨j4,ss,A⟩:=bF (z:=(aH % 3)) (n:=3) ae ae;obtain⟨r4,G⟩:∃r,([[(al [])],[(al [97])],[(al [98,39])]]:aj)[j4]?=some r:=⟨_,dm Uc⟩;have hr4:=mb Z G;obtain⟨_,⟨sx4_0,rfl,I⟩,rfl⟩:=qO hr4;refine aw (fb rfl (by rw[←ss];rfl) A ?_);refine aw (jK (rows:=[[(al [])],[(al [97])],[(al [98,39])]]) aa aa (bt _) (bt _) A G aa ?_);exact ro 4 aa (bD aa aa fin)
theorem VZ{T:aO}(F:FT T){G I:DC}(z:(Ty.i .u16 0 65535).ok G)(A:(Ty.i .u16 0 65535).ok I):Sound T 131 [.d G,.d I] fun r=>∃L M,r= .agg [.d L,.d M]∧(Ty.i .i64 0 40).ok L∧(Ty.i .i64 0 1000000).ok M:=by
 refine bg F.q131 aa ?_;rcases z,A with⟨⟨aK,rfl,O,U⟩,⟨aH,rfl,Y,Z⟩⟩
 refine cf 7 aa (c6 aa aa aa ae ae ?_);refine aw (fR aa au ae ae ?_);refine aJ 8 aa (c6 aa aa aa ae ae ?_);refine ro 2 aa ?_;refine ax aa ?_ ?_<;>intro h1
 ·exact W
 refine aB 3 aa (bB aa aa ae ae ?_);refine aJ 1 aa (c6 aa aa aa ae ae ?_);refine aw (fR aa au ae ae ?_);refine aw (bB aa aa ae ae ?_);exact dR 9 aa (bD aa aa fin)
theorem ai9{T:aO}(F:FT T){Y:DC}(I:(Ty.i .u16 0 65535).ok Y):Sound T 41 [.d Y] fun r=>∃Z,r= .d Z∧(Ty.s 10).ok Z:=by
 refine bg F.q41 aa ?_;obtain⟨aK,rfl,gZ,hD⟩:=I;refine cf 8 aa (c6 aa aa aa ae ae ?_);have L:af VS [[(al [116])],[(al [117])],[(al [119])]]:=(cJ (ah (bC (s:=[116]) au) bf) (cJ (ah (bC (s:=[117]) au) bf) (cJ (ah (bC (s:=[119]) au) bf) ca)));obtain⟨j1,M,A⟩:=bF (z:=(aK % 3)) (n:=3) ae ae;obtain⟨r1,G⟩:∃r,([[(al [116])],[(al [117])],[(al [119])]]:aj)[j1]?=some r:=⟨_,dm Uc⟩;have O:=mb L G;obtain⟨aja,U,rfl⟩:=qO O;refine aw (fb rfl (by rw[←M];rfl) A ?_);refine aw (jK (rows:=[[(al [116])],[(al [117])],[(al [119])]]) aa aa (bt _) (bt _) A G aa ?_);exact dR 3 aa (bD aa aa fin)
theorem V0{T:aO}(F:FT T){a0:DC}(I:(Ty.i .i64 0 4).ok a0):Sound T 40 [.d a0] fun r=>∃y0 y1 y2,r= .agg [.d y0,.d y1,.d y2]∧(Ty.i .i64 1 12).ok y0∧(Ty.s 1000).ok y1∧tJ.ok y2:=by
 refine bg F.q40 aa ?_;obtain⟨aK,rfl,gZ,hD⟩:=I;refine r0 19 aa (aT (bB aa aa ae ae ?_));refine rq 1 aa ?_;obtain⟨A,L,M⟩:=bF (z:=aK) (n:=5) ae ae;refine aT (bI rfl (by rw[←L];rfl) M ?_);obtain⟨m1,O,im⟩:∃m:List UInt8,([.d (al [97]),.d (al [98]),.d (al [99]),.d (al [100]),.d (al [101])]:List VV)[0+A*1]?=some (.d (al m))∧m.length≤1:=by
  rcases(by omega:A=0∨A=1∨A=2∨A=3∨A=4) with rfl|rfl|rfl|rfl|rfl<;>exact⟨_,rfl,au⟩
 refine aP aa (iP aa aa O ?_);refine rq 1 aa ?_;obtain⟨G,U,Y⟩:=bF (z:=aK) (n:=5) ae ae;refine aT (bI rfl (by rw[←U];rfl) Y ?_);obtain⟨m2,Z,hO,um2⟩:∃m:Int,([.d (.i .i64 1),.d (.i .i64 2),.d (.i .i64 1),.d (.i .i64 3),.d (.i .i64 2)]:List VV)[0+G*1]?=some (.d (.i .i64 m))∧1≤m∧m≤3:=by
  rcases(by omega:G=0∨G=1∨G=2∨G=3∨G=4) with rfl|rfl|rfl|rfl|rfl<;>exact⟨_,rfl,ae,ae⟩
 refine aP aa (iP aa aa Z ?_);exact W
theorem ad6{T:aO}(F:FT T):Sound T 133 [] fun r=>∃A z,r= .d A∧ao z A∧(z.length:Int)≤2∧af bc z∧2≤(z.length:Int):=by
 refine bg F.q133 aa (r0 9 aa ?_);have G:af bc [[(dJ 1)],[(dJ 2)]]:=(cJ (ah ai bf) (cJ (ah ai bf) ca));exact mS 0 1 aa aa (fun _=>⟨aa,aa⟩) (W)
theorem agh{T:aO}(F:FT T){Y Z:DC}(z:tJ.ok Y)(A:(Ty.i .u16 0 65535).ok Z):Sound T 224 [.d Y,.d Z] fun r=>∃y0 y1 y2,r= .agg [.d y0,.d y1,.d y2]∧tJ.ok y0∧tJ.ok y1∧(Ty.s 1000).ok y2:=by
 refine bg F.q224 aa ?_;rcases z,A with⟨⟨aK,rfl,gZ,hD⟩,⟨aH,rfl,ey,dW⟩⟩
 refine r0 15 aa ?_;refine ax aa ?_ ?_<;>intro g1
 ·refine aB 3 aa (c6 aa aa aa ae ae ?_);refine aw (aA aa (vY F ai ai) ?_);rintro _ _⟨jV,V1,Ol,rfl,G,I,L⟩;exact W
 refine rc 5 aa ?_;refine ax aa ?_ ?_<;>intro g3
 ·refine aB 3 aa (c6 aa aa aa ae ae ?_);refine aw (aA aa (vY F ai ai) ?_);rintro _ _⟨gh,rR,ua,rfl,M,O,U⟩;exact W
 refine rc 5 aa ?_;refine ax aa ?_ ?_<;>intro g5
 ·refine aB 3 aa (c6 aa aa aa ae ae ?_);refine aw (fR aa au ae ae ?_);exact dR 4 aa (bD aa aa fin)
 exact W
end Go.Ev.Rp
