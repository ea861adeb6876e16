/- Part 27 of rules for walks through the code of a program, and of such walks; what each part proves is said by its theorems. -/
import Derived.Test.YtmpoloiempjdpaaGreatR21
import Derived.Test.YtmpoloiempjdpaaGreatR22
import Derived.Test.YtmpoloiempjdpaaGreatR23
import Derived.Test.YtmpoloiempjdpaaGreatR24
import Derived.Test.YtmpoloiempjdpaaGreatR25
import Derived.Test.YtmpoloiempjdpaaGreatR26
set_option linter.unusedVariables false
set_option linter.unusedSimpArgs false
noncomputable section
set_option maxRecDepth 100000
set_option maxHeartbeats 4000000
namespace Go.Ev.Rp
open Go Go.Ev.Pp
attribute [local irreducible] VC VO VQ VI Sound bY
theorem aex{w:ai}{z:Int}{a:Nat}{r:List DC}(h:z=a)(A:w[a]?=some r):w[z.toNat]?=some r:=by subst h;exact A
theorem aav{row:List Ty}{w:ai}{p:List DC→Bool}(h:af row w):af row (w.filter p):=fun r z=>h r (List.mem_filter.1 z).1
theorem agX{T:aM}(F:FT T){a0 a1 a2 a3 U a9 A G I:DC}(Y:tJ.ok a0)(Z:(Ty.l 1000000000 cu).ok a1)(cG:tJ.ok a2)(cr:tJ.ok a3){bA:Int}(mC: -9223372036854775808≤bA)(mD:bA≤9223372036854775807){cg:Int}(rl: -9223372036854775808≤cg)(rm:cg≤9223372036854775807)(gk:tJ.ok U)(ig:tJ.ok a9)(mV:(Ty.x).ok A){eD:Int}(Om: -9223372036854775808≤eD)(On:eD≤9223372036854775807){z:ai}(L:au z G)(agY:z.length≤20)(M:af kH z)(yJ:(Ty.x).ok I):bY T 34 [.agg [.d a0,.d a1,.d a2,.d a3,.d (dJ bA),.d (dJ cg)],.vp 1007 0] [(1008,.one 29 96 [.d U,.d a9,.d A,.d (dJ eD),.d G,.d I]),(1007,.one 61 8 [.vp 1008 0])] fun r B=>∃y0,r=dB y0∧B=[(1008,.one 29 96 [.d U,.d a9,.d A,.d (dJ eD),.d G,.d I]),(1007,.one 61 8 [.vp 1008 0])]∧(y0=true↔¬tF eD z bA cg):=by
 refine ij F.q34 aa ?_;rcases Y,Z,cG,cr,gk,ig with⟨⟨aJ,rfl,iv,iw⟩,⟨bJ,cO,dn,cq⟩,⟨bz,rfl,lF,lG⟩,⟨aT,rfl,mf,mg⟩,⟨gC,rfl,t6,t7⟩,⟨fQ,rfl,yH,yI⟩⟩
 refine r0 12 aa (aP aa (aB aa (keptPr (aT:=eD) (bu:=bA) (bT:=cg) F ak ak bZ ae ae L ae M bZ ae ae ae ae) ?_));rintro _ _⟨O,rfl,mR⟩;exact rq 4 aa (⟨_,[(1008,.one 29 96 [.d (dJ gC),.d (dJ fQ),.d A,.d (dJ eD),.d G,.d I]),(1007,.one 61 8 [.vp 1008 0])],aa,⟨aa,⟨aa,trivial⟩⟩,⟨(!O),aa,aa,(nb_iff dC)⟩⟩)
theorem idxV{T:aM}(F:FT T){a4 a5 a6 a8 a9:DC}{A:ai}(bN:af gb A)(Oq:0≤(A.length:Int))(hxa0:(A.length:Int)≤100000)(ca:tJ.ok a4)(cj:tJ.ok a5)(fi:(Ty.x).ok a6){bT:Int}(oZ: -9223372036854775808≤bT)(o0:bT≤9223372036854775807){I:ai}(lj:au I a8)(t9:I.length≤20)(lH:af kH I)(ig:(Ty.x).ok a9):bY T 58 [.bs 1001 A.length 6,.fn 34 [.vp 1003 0]] [(1001,.arr 48 64 6 A.length A),(1004,.one 29 96 [.d a4,.d a5,.d a6,.d (dJ bT),.d a8,.d a9]),(1003,.one 61 8 [.vp 1004 0])] fun r B=>∃U,r= .d (dJ U)∧B=[(1001,.arr 48 64 6 A.length A),(1004,.one 29 96 [.d a4,.d a5,.d a6,.d (dJ bT),.d a8,.d a9]),(1003,.one 61 8 [.vp 1004 0])]∧((-1)≤U∧U≤(A.length:Int) -1∧((0≤U→nO U A (hY bT I)∧∃r,A[Int.toNat U]?=some r∧hY bT I r=false)∧(U<0→A.filter (hY bT I)=A))):=by
 refine ij F.q58 aa ?_;rcases ca,cj with⟨⟨bA,rfl,mW,mX⟩,⟨cg,rfl,mY,mZ⟩⟩
 refine r0 12 aa (bj [7,4,1,0] [1004,1003,1001] aa aa (fun e0 b0 k VE B=>∃G,an ((8,.d (dJ G))::e0) VE∧an b0 B∧k=((A.length:Int) -G).toNat∧(0≤G∧(G≤(A.length:Int)∨G=0))∧(nO G A (hY bT I))) ?_ fin);rintro _ VE B⟨G,hV,hB,rfl,bU,cS⟩;refine aU _ _ hV hB (rc 5 aa ?_);refine ay aa ?_ ?_<;>intro g1
 ·refine rc 13 aa ?_;obtain⟨j2,pZ,Y⟩:=bD (z:=G) (n:=A.length) ae ae;obtain⟨gW,Z,fH,iQ,gf,iq,lk,lC,_,⟨L,rfl,hzx2_4,kzx2_4⟩,_,⟨M,rfl,aey,aez⟩,bS⟩:=qN Y bN;refine aw (eL rfl (by rw[←pZ];rfl) Y ?_);refine aw (Fm (rows:=A) aa aa (bf _) (bf _) Y bS (aX aa) (aX aa) ?_);refine aw (Ks (di:=[.agg [.d gW,.d fH,.d gf,.d lk,.d (dJ L),.d (dJ M)],.vp 1007 0]) (Bi:=[(1008,.one 29 96 [.d (dJ bA),.d (dJ cg),.d a6,.d (dJ bT),.d a8,.d a9]),(1007,.one 61 8 [.vp 1008 0])]) [(1008,1004),(1007,1003)] 2000 aa aa aa aa aa aa aa aa aa ⟨aa,aa,⟨aa,aa,trivial⟩⟩ (agX (bA:=L) (cg:=M) (eD:=bT) F Z iQ iq lC ae ae ae ae ak ak bZ ae ae lj ae lH bZ) ?_);rintro _ _⟨lh,rfl,rfl,O⟩;refine ro 1 aa ?_;refine cE aa ?_ ?_<;>intro h4
  ·have k4:=O.1 (by simpa using h4);refine rc 6 aa ?_;exact⟨_,[(1001,.arr 48 64 6 A.length A),(1004,.one 29 96 [.d (dJ bA),.d (dJ cg),.d a6,.d (dJ bT),.d a8,.d a9]),(1003,.one 61 8 [.vp 1004 0])],rfl,⟨rfl,⟨rfl,⟨rfl,trivial⟩⟩⟩,⟨G,rfl,rfl,⟨ae,ae,(by first|exact⟨fun _=>⟨by assumption,_,aex (by assumption) (by assumption),Dz rfl rfl (by assumption)⟩,fun h=>absurd h al⟩|exact⟨fun h=>absurd h ao,fun _=>nO.all (by assumption) ae⟩)⟩⟩⟩
  have k4:¬_:=fun p=>absurd (O.2 p) (by simpa using h4)
  refine aA 2 aa (bx aa aa ae ae ?_);refine cL 2 aa ?_;exact⟨((A.length:Int) -((G+1))).toNat,ae,(G+1),⟨rfl,rfl,rfl,rfl,rfl,trivial⟩,⟨rfl,rfl,rfl,trivial⟩,rfl,ae,(by first|exact allK_0|exact nO.step (by assumption) (by assumption) (by assumption) (Dy rfl rfl (Classical.not_not.1 (by assumption)))|assumption)⟩
 refine rc 6 aa ?_;exact⟨_,[(1001,.arr 48 64 6 A.length A),(1004,.one 29 96 [.d (dJ bA),.d (dJ cg),.d a6,.d (dJ bT),.d a8,.d a9]),(1003,.one 61 8 [.vp 1004 0])],rfl,⟨rfl,⟨rfl,⟨rfl,trivial⟩⟩⟩,⟨(-1),rfl,rfl,⟨ae,ae,(by first|exact⟨fun _=>⟨by assumption,_,aex (by assumption) (by assumption),Dz rfl rfl (by assumption)⟩,fun h=>absurd h al⟩|exact⟨fun h=>absurd h ao,fun _=>nO.all (by assumption) ae⟩)⟩⟩⟩
theorem delF{T:aM}(F:FT T){a4 a5 a6 a8 a9:DC}{G:ai}(Y:af gb G)(Oq:0≤(G.length:Int))(hxa0:(G.length:Int)≤100000)(ca:tJ.ok a4)(cj:tJ.ok a5)(fi:(Ty.x).ok a6){bT:Int}(oZ: -9223372036854775808≤bT)(o0:bT≤9223372036854775807){U:ai}(lj:au U a8)(t9:U.length≤20)(lH:af kH U)(ig:(Ty.x).ok a9):bY T 33 [.bs 1001 G.length 6,.fn 34 [.vp 1003 0]] [(1001,.arr 48 64 6 G.length G),(1004,.one 29 96 [.d a4,.d a5,.d a6,.d (dJ bT),.d a8,.d a9]),(1003,.one 61 8 [.vp 1004 0])] fun r B=>∃y0 Z,r= .d y0∧B=[(1004,.one 29 96 [.d a4,.d a5,.d a6,.d (dJ bT),.d a8,.d a9]),(1003,.one 61 8 [.vp 1004 0])]∧au Z y0∧(Z.length:Int)≤G.length∧af gb Z∧0≤(Z.length:Int)∧(Z=G.filter (hY bT U)):=by
 refine ij F.q33 aa ?_;rcases ca,cj with⟨⟨bA,rfl,mW,mX⟩,⟨cg,rfl,mY,mZ⟩⟩
 refine ch 8 aa (kD (di:=[.bs 1001 (G.length) 6,.fn 34 [.vp 1003 0]]) (Bi:=[(1001,.arr 48 64 6 (G.length) G),(1004,.one 29 96 [.d (dJ bA),.d (dJ cg),.d a6,.d (dJ bT),.d a8,.d a9]),(1003,.one 61 8 [.vp 1004 0])]) [(1001,1001),(1004,1004),(1003,1003)] 2000 aa aa aa aa aa aa aa ⟨aa,aa,⟨aa,aa,⟨aa,aa,trivial⟩⟩⟩ (idxV (bT:=bT) F Y ae ae ak ak bZ ae ae lj ae lH bZ) ?_);rintro _ _⟨dD,rfl,rfl,ly1_0,uy1_0,mR⟩;refine ro 8 aa ?_;refine ay aa ?_ ?_<;>intro g2
 ·refine rc 2 aa ?_;have hrX:=(mR.2 al).symm;exact rp 3 aa (lz 4 1001 aa aa (fun _=>⟨aa,aa⟩) (W))
 refine rc 4 aa ?_;obtain⟨Xw,rk,hgk,hpk⟩:=mR.1 al;refine iD 1 aa (bx aa aa ae ae ?_);refine ro 3 aa ?_;refine bj [12,4,1] [1004,1003] rfl rfl (fun e0 b0 k VE B=>∃(O:Int)(I:Int)(M:Nat)(A:ai),an ((0,.bs 1001 M 6)::(5,.d (dJ O))::(6,.d (dJ I))::e0) VE∧an ((1001,.arr 48 64 6 M A)::b0) B∧k=((G.length:Int) -I).toNat∧(0≤O∧O<I)∧(0≤I∧(I≤(G.length:Int)∨I=0))∧(A.length=M)∧(M=G.length)∧(af gb A)∧(A.take O.toNat=(G.take I.toNat).filter (hY bT U))∧(∀q:Nat,I≤q→A[q]?=G[q]?)) ?_ (k:=((G.length:Int) -((dD+1))).toNat) ⟨dD,(dD+1),(G.length),G,⟨rfl,rfl,rfl,rfl,rfl,rfl,trivial⟩,⟨rfl,rfl,rfl,trivial⟩,rfl,ae,ae,Uo,ae,Y,(by first|exact Si ae (by assumption) (by assumption) (by assumption)|exact Dv (by assumption) (by assumption) ae ae (by assumption) (by assumption) (by assumption) (Dy rfl rfl (Classical.not_not.1 (by assumption))) (by assumption) rfl|exact Dv (by assumption) (by assumption) ae ae (by assumption) (by assumption) (by assumption) (by assumption) (by assumption) rfl|exact Ut (by assumption) (by assumption) (by assumption) (by assumption) (Dz rfl rfl (by assumption))|assumption),(by first|exact fun _ _=>rfl|exact Sj (by assumption) (by assumption) (by assumption) ae|exact Uu (by assumption)|assumption)⟩;rintro _ VE B⟨O,I,M,A,hV,hB,rfl,bU,cS,rfl,mh,L,yK,f0_6⟩;refine aU _ _ hV hB (rc 8 aa ?_);refine ay aa ?_ ?_<;>intro g3
 ·refine rc 7 aa ?_;obtain⟨j4,p0,ni⟩:=bD (z:=I) (n:=A.length) ae ae;obtain⟨oS,ka,e5,kO,pQ,oH,IQ,rY,_,⟨DA,rfl,hzx4_4,kzx4_4⟩,_,⟨DB,rfl,hzx4_5,kzx4_5⟩,dj⟩:=qN ni L;refine aw (eL rfl (by rw[←p0];rfl) ni ?_);refine aw (Fm (rows:=A) aa aa (bf _) (bf _) ni dj (aX aa) (aX aa) ?_);refine aN 7 aa (Ks (di:=[.agg [.d oS,.d e5,.d pQ,.d IQ,.d (dJ DA),.d (dJ DB)],.vp 1007 0]) (Bi:=[(1008,.one 29 96 [.d (dJ bA),.d (dJ cg),.d a6,.d (dJ bT),.d a8,.d a9]),(1007,.one 61 8 [.vp 1008 0])]) [(1008,1004),(1007,1003)] 2000 aa aa aa aa aa aa aa aa aa ⟨aa,aa,⟨aa,aa,trivial⟩⟩ (agX (bA:=DA) (cg:=DB) (eD:=bT) F ka kO oH rY ae ae ae ae ak ak bZ ae ae lj ae lH bZ) ?_);rintro _ _⟨jz,rfl,rfl,pw⟩;refine ro 2 aa ?_;refine cE aa ?_ ?_<;>intro h6
  ·have k6:¬_:=fun p=>absurd (pw.2 p) (by simpa using h6)
   refine rc 5 aa ?_;obtain⟨j7,iZ,fx⟩:=bD (z:=O) (n:=A.length) ae ae;obtain⟨nT,oI,oT,tG,yL,xX,V2,HL,V3,HM,V4,AT,eK⟩:=qN fx L;refine aw (eL rfl (by rw[←iZ];rfl) fx ?_);refine jd (rF aa aa aa aa aa aa ao ao eK (fun w8 n9 sP=>?_));have wK:af gb w8:=by rw[n9];exact fk L (ah ka (ah kO (ah oH (ah rY (ah ak (ah ak bl))))))
   rw[←sP];refine aN 3 aa (bx aa aa ae ae ?_);refine aN 4 aa (bx aa aa ae ae ?_);refine cL 2 aa ?_;exact⟨((G.length:Int) -((I+1))).toNat,ae,(O+1),(I+1),(w8.length),w8,⟨rfl,rfl,rfl,rfl,rfl,rfl,trivial⟩,⟨rfl,rfl,rfl,trivial⟩,rfl,ae,ae,Uo,ae,wK,(by first|exact Si ae (by assumption) (by assumption) (by assumption)|exact Dv (by assumption) (by assumption) ae ae (by assumption) (by assumption) (by assumption) (Dy rfl rfl (Classical.not_not.1 (by assumption))) (by assumption) rfl|exact Dv (by assumption) (by assumption) ae ae (by assumption) (by assumption) (by assumption) (by assumption) (by assumption) rfl|exact Ut (by assumption) (by assumption) (by assumption) (by assumption) (Dz rfl rfl (by assumption))|assumption),(by first|exact fun _ _=>rfl|exact Sj (by assumption) (by assumption) (by assumption) ae|exact Uu (by assumption)|assumption)⟩
  have k6:=pw.1 (by simpa using h6);refine aA 3 aa (bx aa aa ae ae ?_);refine cL 2 aa ?_;exact⟨((G.length:Int) -((I+1))).toNat,ae,O,(I+1),(A.length),A,⟨rfl,rfl,rfl,rfl,rfl,rfl,trivial⟩,⟨rfl,rfl,rfl,trivial⟩,rfl,ae,ae,Uo,ae,L,(by first|exact Si ae (by assumption) (by assumption) (by assumption)|exact Dv (by assumption) (by assumption) ae ae (by assumption) (by assumption) (by assumption) (Dy rfl rfl (Classical.not_not.1 (by assumption))) (by assumption) rfl|exact Dv (by assumption) (by assumption) ae ae (by assumption) (by assumption) (by assumption) (by assumption) (by assumption) rfl|exact Ut (by assumption) (by assumption) (by assumption) (by assumption) (Dz rfl rfl (by assumption))|assumption),(by first|exact fun _ _=>rfl|exact Sj (by assumption) (by assumption) (by assumption) ae|exact Uu (by assumption)|assumption)⟩
 refine rc 5 aa (Sg 1001 aa (fun p9=>?_));obtain⟨wL,vV,qW⟩:=bD (z:=O) (n:=A.length+1) ae ae;refine aw (vi_slKlo rfl rfl (by rw[←vV];rfl) ae ?_);refine jd (vi_clear (b:=1001) (zr:=[i0,.nil,i0,i0,i0,i0]) (n:=A.length) (j:=wL) (rows:=A) aa aa aa ae aa aa ao ?_);refine ro 5 aa ?_;obtain⟨nj,sq,IS⟩:=bD (z:=O) (n:=A.length+1) ae ae;refine aw (vi_slKhi rfl rfl (by rw[←sq];rfl) ae ?_);refine ro 2 aa ?_;refine vc_frzN 4 1001 (n:=A.length) rfl (by simp only[eT,ju,rS];omega) rfl ae ?_;have hres12:(((A.take wL++List.replicate (A.length-wL) ([i0,.nil,i0,i0,i0,i0]:List DC)):ai).take nj)=G.filter (hY bT U):=del_R dC ae dC dC ae;have hok12:af gb (((A.take wL++List.replicate (A.length-wL) ([i0,.nil,i0,i0,i0,i0]:List DC)):ai).take nj):=by rw[hres12];exact aav Y
 exact W
end Go.Ev.Rp
namespace Go.Ev.Rp
open Go Go.Ev.Pp
attribute [local irreducible] VC VO VQ VI Sound bY
theorem AN.mk{f t d z:DC}{w w':ai}(h:au w d)(h':au w' z)(e:w'=w):AN [f,t,d] [f,t,z]:=⟨f,t,d,z,w,rfl,rfl,h,e▸h'⟩
theorem Ah.mk{k d z:DC}{w w':ai}(h:au w d)(h':au w' z)(e:w'=w):Ah [k,d] [k,z]:=⟨k,d,z,w,rfl,rfl,h,e▸h'⟩
theorem take_0{w:ai}:[]=w.take (0:Int).toNat:=by simp
theorem take_S{w w':ai}{k:Int}{r:List DC}(h:w'=w.take k.toNat)(h0:0≤k)(z:w[k.toNat]?=some r):w'++[r]=w.take (k+1).toNat:=by
 rw[show(k+1).toNat=k.toNat+1 by omega,oC,z,h];rfl
theorem take_A{w w':ai}{k:Int}(h:w'=w.take k.toNat)(z:(w.length:Int)≤k):w'=w:=by rwa [pF al] at h
theorem clI{T:aM}(F:FT T){M:DC}{z:ai}(I:au z M)(O:z.length≤200)(L:af bn z):Sound T 56 [.d M] fun r=>∃U A,r= .d U∧au A U∧(A.length:Int)≤200∧af bn A∧0≤(A.length:Int)∧(A=z):=by
 refine bm F.XV aa (r0 8 aa ?_);rcases I with G|⟨Y,G⟩
 ·subst G;refine aw (qg aa aa ?_);refine ro 1 aa (dq aa aa (aA 5 aa (rL (rows:=[]) (ys:=z) aa aa aa (.sD (.inl aa) (cD L aa)) ao ae ?_)));exact ro 2 aa (lz 2 5 aa aa (fun _=>⟨aa,aa⟩) (W))
 subst G;refine aw (s8 aa aa ?_);refine ro 1 aa (eu aa aa (eA 5 aa ?_));exact bL rfl rfl ⟨.nil,[],rfl,(.inr ⟨rfl,rfl⟩),ae,cb,ae,(by first|exact Y.symm|exact Bd _|rfl)⟩
theorem clC{T:aM}(F:FT T){M:DC}{z:ai}(I:au z M)(O:z.length≤13)(L:af lE z):Sound T 57 [.d M] fun r=>∃U A,r= .d U∧au A U∧(A.length:Int)≤13∧af lE A∧0≤(A.length:Int)∧(A=z):=by
 refine bm F.q57 aa (r0 8 aa ?_);rcases I with G|⟨Y,G⟩
 ·subst G;refine aw (qg aa aa ?_);refine ro 1 aa (dq aa aa (aA 5 aa (rL (rows:=[]) (ys:=z) aa aa aa (.sD (.inl aa) (cD L aa)) ao ae ?_)));exact ro 2 aa (lz 2 5 aa aa (fun _=>⟨aa,aa⟩) (W))
 subst G;refine aw (s8 aa aa ?_);refine ro 1 aa (eu aa aa (eA 5 aa ?_));exact bL rfl rfl ⟨.nil,[],rfl,(.inr ⟨rfl,rfl⟩),ae,cb,ae,(by first|exact Y.symm|exact Bd _|rfl)⟩
theorem clV{T:aM}(F:FT T){M:DC}{z:ai}(I:au z M)(O:z.length≤1000000000)(L:af cu z):Sound T 31 [.d M] fun r=>∃U A,r= .d U∧au A U∧(A.length:Int)≤1000000000∧af cu A∧0≤(A.length:Int)∧(A=z):=by
 refine bm F.q31 aa (r0 8 aa ?_);rcases I with G|⟨Y,G⟩
 ·subst G;refine aw (qg aa aa ?_);refine ro 1 aa (dq aa aa (aA 5 aa (rL (rows:=[]) (ys:=z) aa aa aa (.sD (.inl aa) (cD L aa)) ao ae ?_)));exact ro 2 aa (lz 2 5 aa aa (fun _=>⟨aa,aa⟩) (W))
 subst G;refine aw (s8 aa aa ?_);refine ro 1 aa (eu aa aa (eA 5 aa ?_));exact bL rfl rfl ⟨.nil,[],rfl,(.inr ⟨rfl,rfl⟩),ae,cb,ae,(by first|exact Y.symm|exact Bd _|rfl)⟩
theorem clE{T:aM}(F:FT T){A:DC}(z:(Ty.e (DC.sl [[DC.i .i64 1]])).ok A):Sound T 56 [.d A] fun r=>∃G,r= .d G∧(Ty.e (DC.sl [[DC.i .i64 1]])).ok G:=by
 refine bm F.XV aa ?_;obtain rfl:=z;refine ch 8 aa (qg aa aa ?_);refine ro 1 aa (dq aa aa (aA 5 aa (rL (rows:=[]) (ys:=([[DC.i .i64 1]]:ai)) aa aa aa (.sD (.inl aa) (cD Dw aa)) ao ae ?_)));exact ro 2 aa (lz 2 5 aa aa (fun _=>⟨aa,aa⟩) (W))
theorem clSchema{T:aM}(F:FT T){a0 a1 a2 a3 a4:DC}(cP:(Ty.s 1000).ok a0){bJ:ai}(cO:au bJ a1)(dn:bJ.length≤100)(cq:af dV bJ){bo:ai}(ct:au bo a2)(df:bo.length≤200)(bQ:af bn bo){du:ai}(eS:au du a3)(fI:du.length≤4)(et:af ep du){dK:ai}(dx:au dK a4)(eU:dK.length≤4)(dg:af dT dK):Sound T 29 [.agg [.d a0,.d a1,.d a2,.d a3,.d a4]] fun r=>∃y0 bw y2 dE y4 o4 y6 JU,r= .agg [.d a0,.d y0,.d y2,.d y4,.d y6]∧au bw y0∧(bw.length:Int)≤100∧af dV bw∧0≤(bw.length:Int)∧(kg AN bJ bw)∧au dE y2∧(dE.length:Int)≤200∧af bn dE∧0≤(dE.length:Int)∧(dE=bo)∧au o4 y4∧(o4.length:Int)≤4∧af ep o4∧0≤(o4.length:Int)∧(o4=du)∧au JU y6∧(JU.length:Int)≤4∧af dT JU∧0≤(JU.length:Int)∧(kg Ah dK JU):=by
 refine bm F.q29 aa ?_;obtain⟨gO,rfl,ki⟩:=cP;refine r0 11 aa (aP aa (aB aa (clI F ct ae bQ) ?_));rintro _ _⟨dD,fg,rfl,hJ,kI,fT,mN,aeA⟩;refine rq 9 aa (aw (aQ aa cO ?_));refine ro 3 aa (ja 3 1 90 129 40 3 aa aa aa (bj [18,17,3,2,1,0] [2,1] aa aa (fun e0 b0 k VE B=>∃I z,an ((19,.d (dJ I))::e0) VE∧an ((3,.one 40 112 [dS gO,.ac 90 z.length 3,.d dD,dN,dN])::(90,.acc 129 40 3 z)::b0) B∧k=((bJ.length:Int) -I).toNat∧(0≤I∧(I≤(bJ.length:Int)∨I=0))∧((z.length:Int)≤I)∧(af dV z)∧(kg AN (bJ.take I.toNat) z)) ?_ fin));rintro _ VE B⟨I,z,hV,hB,rfl,bU,cS,O,mh⟩;refine aU _ _ hV hB (rc 5 aa ?_);refine ay aa ?_ ?_<;>intro g2
 ·refine rc 5 aa ?_;obtain⟨_,⟨DD,rfl,LK,GD⟩,_,⟨HN,rfl,hzx3_1,kzx3_1⟩,Br,⟨UB,Sq,Sr,Ss⟩,fJ⟩:=qI I cq;refine aw (aH aa aa cO ae fJ aa ?_);refine ro 11 aa (aP aa (aB aa (clC F Sq ae Ss) ?_));rintro _ _⟨gp,lD,rfl,va,tq,ts,Ak,hfy4_0⟩;refine rq 2 aa ?_;refine aP rfl (aY (rows:=z) (ys:=[[(dJ DD),(dJ HN),gp]]) rfl rfl rfl (.bs (rows:=[[(dJ DD),(dJ HN),gp]]) rfl) ao ae (fun h=>by rw[h];rfl) (fun h=>by rw[h];rfl) ?_);refine rq 4 aa (aw (bx aa aa ae ae ?_));refine cL 2 aa ?_;exact⟨((bJ.length:Int) -((I+1))).toNat,ae,(I+1),(z++[[(dJ DD),(dJ HN),gp]]),⟨rfl,rfl,rfl,rfl,rfl,rfl,rfl,trivial⟩,⟨rfl,rfl,rfl,rfl,trivial⟩,rfl,ae,cR,(dW O (dG (ah ak (ah ak (ah (aL va ae ts) bl))))),(by first|exact aew|exact aau (by assumption) ae (by assumption) (AN.mk (by assumption) (by assumption) (by assumption))|assumption)⟩
 refine aA 6 aa (aQ aa eS ?_);refine ro 3 aa (ja 3 3 91 123 64 3 aa aa aa (bj [37,36,20,19,18,17,3,2,1,0] [90,2,1] aa aa (fun e0 b0 k VE B=>∃L A,an ((38,.d (dJ L))::e0) VE∧an ((3,.one 40 112 [dS gO,.ac 90 z.length 3,.d dD,.ac 91 A.length 3,dN])::(91,.acc 123 64 3 A)::b0) B∧k=((du.length:Int) -L).toNat∧(0≤L∧(L≤(du.length:Int)∨L=0))∧((A.length:Int)≤L)∧(af ep A)∧(A=du.take L.toNat)) ?_ fin));rintro _ VE B⟨L,A,hV,hB,rfl,fu,gL,U,V5⟩;refine aU _ _ hV hB (rc 5 aa ?_);refine ay aa ?_ ?_<;>intro g5
 ·refine rc 5 aa ?_;obtain⟨_,rfl,_,⟨UC,rfl,hsx6_1⟩,_,rfl,fE⟩:=qI L et;refine aw (aH aa aa eS ae fE aa ?_);refine ro 5 aa ?_;skip;refine rp 4 aa (aP aa (aB aa (clE F t4) ?_));rintro _ _⟨_,rfl,rfl⟩;refine rq 4 aa (aP aa (aB aa (clE F t4) ?_));rintro _ _⟨_,rfl,rfl⟩;refine rq 2 aa ?_;refine aP rfl (aY (rows:=A) (ys:=[[(DC.sl [[DC.i .i64 1]]),(aq UC),(DC.sl [[DC.i .i64 1]])]]) rfl rfl rfl (.bs (rows:=[[(DC.sl [[DC.i .i64 1]]),(aq UC),(DC.sl [[DC.i .i64 1]])]]) rfl) ao ae (fun h=>by rw[h];rfl) (fun h=>by rw[h];rfl) ?_);refine rq 4 aa (aw (bx aa aa ae ae ?_));refine cL 2 aa ?_;exact⟨((du.length:Int) -((L+1))).toNat,ae,(L+1),(A++[[(DC.sl [[DC.i .i64 1]]),(aq UC),(DC.sl [[DC.i .i64 1]])]]),⟨rfl,rfl,rfl,rfl,rfl,rfl,rfl,rfl,rfl,rfl,rfl,trivial⟩,⟨rfl,rfl,rfl,rfl,rfl,trivial⟩,rfl,ae,cR,(dW U (dG (ah t4 (ah (bB al) (ah t4 bl))))),(by first|exact take_0|exact take_S (by assumption) ae (by assumption)|assumption)⟩
 refine aA 6 aa (aQ aa dx ?_);refine ro 3 aa (ja 3 4 92 132 32 2 aa aa aa (bj [59,58,39,38,37,36,20,19,18,17,3,2,1,0] [91,90,2,1] aa aa (fun e0 b0 k VE B=>∃M G,an ((60,.d (dJ M))::e0) VE∧an ((3,.one 40 112 [dS gO,.ac 90 z.length 3,.d dD,.ac 91 A.length 3,.ac 92 G.length 2])::(92,.acc 132 32 2 G)::b0) B∧k=((dK.length:Int) -M).toNat∧(0≤M∧(M≤(dK.length:Int)∨M=0))∧((G.length:Int)≤M)∧(af dT G)∧(kg Ah (dK.take M.toNat) G)) ?_ fin));rintro _ VE B⟨M,G,hV,hB,rfl,na,vW,Y,f2_3⟩;refine aU _ _ hV hB (rc 5 aa ?_);refine ay aa ?_ ?_<;>intro g9
 ·refine rc 5 aa ?_;obtain⟨_,⟨Z,rfl,ace,acf⟩,pz,⟨aeB,Rl,acg,Rm⟩,gg⟩:=qI M dg;refine aw (aH aa aa dx ae gg aa ?_);refine ro 11 aa (aP aa (aB aa (clI F Rl ae Rm) ?_));rintro _ _⟨nE,St,rfl,Rn,Ro,F8,hmy11_0,hfy11_0⟩;refine rq 2 aa ?_;refine aP rfl (aY (rows:=G) (ys:=[[(dJ Z),nE]]) rfl rfl rfl (.bs (rows:=[[(dJ Z),nE]]) rfl) ao ae (fun h=>by rw[h];rfl) (fun h=>by rw[h];rfl) ?_);refine rq 4 aa (aw (bx aa aa ae ae ?_));refine cL 2 aa ?_;exact⟨((dK.length:Int) -((M+1))).toNat,ae,(M+1),(G++[[(dJ Z),nE]]),⟨rfl,rfl,rfl,rfl,rfl,rfl,rfl,rfl,rfl,rfl,rfl,rfl,rfl,rfl,rfl,trivial⟩,⟨rfl,rfl,rfl,rfl,rfl,rfl,trivial⟩,rfl,ae,cR,(dW Y (dG (ah ak (ah (aL Rn ae F8) bl)))),(by first|exact aew|exact aau (by assumption) ae (by assumption) (Ah.mk (by assumption) (by assumption) (by assumption))|assumption)⟩
 exact rc 4 aa (eH 76 90 aa aa dr (eH 76 91 aa aa dr (eH 76 92 aa aa dr (eJ 3 aa (bL aa aa ⟨(.cF z),z,dD,fg,(.cF A),A,(.cF G),G,aa,(.acc _),ae,O,ae,(abj dC ae),hJ,ae,fT,ae,dC,(.acc _),ae,U,ae,(take_A dC ae),(.acc _),ae,Y,ae,(abj dC ae)⟩)))))
end Go.Ev.Rp
namespace Go.Ev.Rp
open Go Go.Ev.Pp
theorem pA{T:aM}{VE:bb}{B:aK}{fs:de}{a:List bk}{c:IC}{R:Ex→bb→aK→de→Prop}(h:VO T a VE B fun bh B'=>VD T c bh B' fs R):VD T (.seq (.region false a) c) VE B fs R:=xr (oF (i7 h))
theorem clVe{T:aM}(F:FT T){L:DC}{z:ai}(G:au z L)(M:z.length≤1000000000)(I:af cu z):Sound T 31 [.d L] fun r=>r= .d L:=by
 refine bm F.q31 aa (r0 8 aa ?_);rcases G with A|⟨O,A⟩
 ·subst A;refine aw (qg aa aa ?_);refine ro 1 aa (dq aa aa (aA 5 aa (rL (rows:=[]) (ys:=z) aa aa aa (.sD (.inl aa) (cD I aa)) ao ae ?_)));exact ro 2 aa (lz 2 5 aa aa (fun _=>⟨aa,aa⟩) (eA 1 aa (bL aa aa aa)))
 subst A;refine aw (s8 aa aa ?_);exact ro 1 aa (eu aa aa (eA 5 aa (bL aa aa aa)))
theorem clVerN{T:aM}(F:FT T):Sound T 30 [dN] fun r=>r=dN:=by
 refine bm F.q30 aa (ch 8 aa (s8 aa aa ?_));exact ro 1 aa (eu aa aa (eA 5 aa (bL aa aa aa)))
theorem clVerB{T:aM}(F:FT T){w:ai}(A:w.length≤100000)(z:af gb w):Ag T 30 [.d (.sl w)] fun r B=>r= .bs 5 w.length 6∧B=[(5,.arr 48 64 6 w.length w)]:=by
 refine ij F.q30 aa (ch 8 aa (qg aa aa ?_));refine ro 1 aa (dq aa aa (aA 5 aa (rL (rows:=[]) (ys:=w) aa aa aa (.sD (.inl aa) (cD z aa)) ao ae ?_)));exact ro 3 aa (⟨[_],[(5,.arr 48 64 6 w.length w)],aa,⟨aa,trivial⟩,aa,aa⟩)
def zP(r r':List DC)(l:de):Prop:=∃A v v' k G f f' c I x z,r=[A,v,k,f,c,x]∧r'=[A,v',G,f',I,z]∧
 (∃w w',au w v∧au w' v'∧kg AN w w'∧af dV w')∧(∃w,au w k∧au w G)∧(∃w,au w f∧au w f')∧(∃w w',au w c∧au w' I∧kg Ah w w'∧af dT w')∧
 ((x= .nil∧z= .nil∧l=[])∨∃w g,x= .sl w∧z= .raw g w.length 6∧l=[(g,.arr 48 64 6 w.length w)])
def jg:ai→ai→de→Prop
 |[],[],fs=>fs=[]
 |r::R,r'::z,fs=>∃l cX,fs=l++cX∧zP r r' l∧jg R z cX
 |_,_,_=>False
theorem jg.snoc{r r':List DC}{l:de}(h:zP r r' l):∀{R z:ai}{fs:de},jg R z fs→jg (R++[r]) (z++[r']) (fs++l)
 |[],[],fs,k=>by
  simp only[jg] at k;subst k;simp only[Bd,jg];exact⟨l,[],by simp,h,rfl⟩
 |a::R,b::z,fs,k=>by
  simp only[jg,A9] at k⊢;obtain⟨m,cX,rfl,A,G⟩:=k;exact⟨m,cX++l,by simp,A,jg.snoc h G⟩
 |[],_::_,_,k=>by simp only[jg] at k
 |_::_,[],_,k=>by simp only[jg] at k
theorem jg.len:∀{R z:ai}{fs:de},jg R z fs→R.length=z.length
 |[],[],_,_=>rfl
 |_::_,_::_,_,k=>by
  simp only[jg] at k;obtain⟨_,_,_,_,k⟩:=k;simp[jg.len k]
 |[],_::_,_,k=>by simp only[jg] at k
 |_::_,[],_,k=>by simp only[jg] at k
theorem take_succ{w:ai}{k:Int}{r:List DC}(h0:0≤k)(z:w[k.toNat]?=some r):w.take (k+1).toNat=w.take k.toNat++[r]:=by
 rw[show(k+1).toNat=k.toNat+1 by omega,oC,z];rfl
theorem putD_same{row:List DC}{o:Nat}{x:DC}(h:row[o]?=some x):jQ row o [x]=row:=by
 have ho:=(List.getElem?_eq_some_iff.1 h);obtain⟨ho,rfl⟩:=ho;unfold jQ
 cases z:Nat.beq ([row[o]]:List DC).length row.length with
 |true=>
  have:=cU z;simp only[agD] at this;show [row[o]]=row
  match row,this,ho with
  |[a],_,ho=>
   have:o=0:=by simpa using ho
   subst this;rfl
 |false=>
  show row.take o++(row[o]::row.drop (o+1))=row;rw[←vD ho,yn]
end Go.Ev.Rp
