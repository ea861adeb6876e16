/- Part 40 of rules for walks through the code of a program, and of such walks; what each part proves is said by its theorems. -/
import Derived.Test.YtdaamclhcpjdpaaGreatDoorR21
import Derived.Test.YtdaamclhcpjdpaaGreatDoorR22
import Derived.Test.YtdaamclhcpjdpaaGreatDoorR23
import Derived.Test.YtdaamclhcpjdpaaGreatDoorR35
import Derived.Test.YtdaamclhcpjdpaaGreatDoorR37
set_option linter.unusedVariables false
set_option linter.unusedSimpArgs false
noncomputable section
set_option maxRecDepth 100000
set_option maxHeartbeats 4000000
namespace Go.Ev.Rp
open Go Go.Ev.Pp
attribute [local irreducible] VC VO VQ VI Sound cm
theorem ajV{T:aN}(F:FT T){a0 a1 a2 a3 a4:DC}(cU:(Ty.s 1000).ok a0){A:ak}(G:aA A a1)(df:A.length≤100)(O:af en A)(cG:(Ty.l 200 br).ok a2)(cn:(Ty.l 4 eD).ok a3)(bZ:(Ty.l 4 ee).ok a4){cQ:Int}(uv:(-9223372036854775808)≤cQ)(uw:cQ≤9223372036854775807):Sound T 67 [.agg [.d a0,.d a1,.d a2,.d a3,.d a4],.d (dJ cQ)] fun r=>∃y0 y1 y2 y3,r= .tuple [.agg [.d y0,.d y1,.d y2],dB y3]∧tJ.ok y0∧tJ.ok y1∧(Ty.l 13 mw).ok y2∧(y3=true↔sa A cQ):=by
 refine bj F.q67 aa ?_;rcases cU,cG,cn,bZ with⟨⟨iP,rfl,kE⟩,⟨bt,cF,dc,bV⟩,⟨de,e6,fI,eA⟩,⟨eu,er,fu,dg⟩⟩
 refine r0 12 aa (bd [5,4,2,1,0] [4,2] aa aa (fun e0 b0 k VE B=>∃z,an ((6,.d (dJ z))::e0) VE∧an b0 B∧k=((A.length:Int) -z).toNat∧(0≤z∧(z≤(A.length:Int)∨z=0))∧(rJ A z cQ)) ?_ fin);rintro _ VE B⟨z,hV,hB,rfl,bS,cM⟩;refine aU _ _ hV hB (aB 6 aa (aO aa G ?_));refine ro 2 aa ?_;refine au aa ?_ ?_<;>intro g1
 ·refine rc 8 aa ?_;obtain⟨_,⟨I,rfl,Z,rB⟩,_,⟨L,rfl,oU,l9⟩,U,M,Y⟩:=qI z O;refine ax (aI aa aa G ae Y aa ?_);refine ro 7 aa ?_;skip;refine rp 5 aa ?_;refine bm aa ?_ ?_<;>intro g3
  ·refine ro 6 aa ?_;refine au aa ?_ ?_<;>intro g4
   ·refine aB 5 aa (aI aa aa G ae Y aa ?_);refine et 5 aa ?_;exact bI rfl rfl ⟨(dJ I),(dJ L),U,true,rfl,ai,ai,M,(by first|exact⟨fun _=>sa.mk (by assumption) ae ae,fun _=>rfl⟩|exact⟨fun h=>(by cases h),fun h=>absurd h (rJ.all (by assumption) ae)⟩)⟩
   refine aB 3 aa (bC aa aa ae ae ?_);refine cW 2 aa ?_;exact⟨((A.length:Int) -((z+1))).toNat,ae,(z+1),⟨rfl,rfl,rfl,rfl,rfl,rfl,trivial⟩,⟨rfl,rfl,trivial⟩,rfl,ae,(by first|exact abf|exact rJ.succ (by assumption) ae (by assumption) ae)⟩
  refine ro 6 aa (eo aa aa (aB 3 aa (bC aa aa ae ae ?_)));refine cW 2 aa ?_;exact⟨((A.length:Int) -((z+1))).toNat,ae,(z+1),⟨rfl,rfl,rfl,rfl,rfl,rfl,trivial⟩,⟨rfl,rfl,trivial⟩,rfl,ae,(by first|exact abf|exact rJ.succ (by assumption) ae (by assumption) ae)⟩
 refine dO 8 aa ?_;exact bI rfl rfl ⟨i0,i0,.nil,false,rfl,ai,ai,gp,(by first|exact⟨fun _=>sa.mk (by assumption) ae ae,fun _=>rfl⟩|exact⟨fun h=>(by cases h),fun h=>absurd h (rJ.all (by assumption) ae)⟩)⟩
theorem acH{T:aN}(F:FT T){a0 a1 a2 a3 a4:DC}(cU:(Ty.s 1000).ok a0){I:ak}(O:aA I a1)(df:I.length≤100)(U:af en I)(cG:(Ty.l 200 br).ok a2)(cn:(Ty.l 4 eD).ok a3)(bZ:(Ty.l 4 ee).ok a4){cQ:Int}(uv:(-9223372036854775808)≤cQ)(uw:cQ≤9223372036854775807):Sound T 125 [.agg [.d a0,.d a1,.d a2,.d a3,.d a4],.d (dJ cQ),dB false] fun r=>∃y0 M y2,r= .tuple [.d y0,dB y2]∧aA M y0∧(M.length:Int)≤13∧af mw M∧(y2=true↔sa I cQ):=by
 refine bj F.q125 aa ?_;rcases cU,cG,cn,bZ with⟨⟨iP,rfl,kE⟩,⟨bt,Y,dc,Z⟩,⟨de,e6,fI,eA⟩,⟨eu,er,fu,dg⟩⟩
 refine bY 10 aa (ay aa (ajV (cQ:=cQ) F (bE ah) O ae U (aM Y ae Z) (aM e6 ae eA) (aM er ae dg) ae ae) ?_);rintro _ _⟨ez,Bt,v3,Vu,rfl,qw,DH,⟨z,L,xu,A⟩,G⟩;refine ro 13 aa ?_;refine cH aa ?_ ?_<;>intro h2
 ·have k2:¬_:=fun p=>absurd (G.2 p) (by simpa using h2)
  refine dO 6 aa ?_;exact bI rfl rfl ⟨.nil,[],false,rfl,(.inr ⟨rfl,rfl⟩),ae,bT,(by first|exact⟨fun h=>(by cases h),fun h=>absurd h (by assumption)⟩|exact⟨fun _=>(by assumption),fun _=>rfl⟩)⟩
 have k2:=G.1 (by simpa using h2);refine rc 3 aa (gz 2 aa (dQ (ys:=z) 21 aa aa aa aa aa (.sD L (cO A aa)) ao ae ?_));refine ro 7 aa (eo aa aa (rc 7 aa (cf 6 21 aa aa (fun _=>⟨aa,aa⟩) (dO 1 aa ?_))));exact bI rfl rfl ⟨(.cE z),z,true,rfl,(.acc _),ae,A,(by first|exact⟨fun h=>(by cases h),fun h=>absurd h (by assumption)⟩|exact⟨fun _=>(by assumption),fun _=>rfl⟩)⟩
theorem visibleV{T:aN}(F:FT T){a0 a1:DC}{I:ak}(A:aA I a0)(cK:I.length≤16)(bM:af [.s 1000,.l 100 en,.l 200 br,.l 4 eD,.l 4 ee] I)(bW:(Ty.s 1000).ok a1){bf:Int}(nz:(-9223372036854775808)≤bf)(kL:bf≤9223372036854775807):Sound T 514 [.d a0,.d a1,.d (dJ bf),dB false] fun r=>∃y0 O y2,r= .tuple [.d y0,.d y2]∧aA O y0∧(O.length:Int)≤13∧af mw O∧(Ty.b).ok y2:=by
 refine bj F.q514 aa ?_;obtain⟨sa1,rfl,hsa1⟩:=bW;refine r0 11 aa (bd [9,8,3,2,1,0] [] aa aa (fun e0 b0 k VE B=>∃z,an ((10,.d (dJ z))::e0) VE∧an b0 B∧dP k 0 z (I.length:Int)) ?_ fin);rintro _ VE B⟨z,hV,hB,rfl,bS⟩;refine aU _ _ hV hB (aB 5 aa (aO aa A ?_));refine ro 2 aa ?_;refine au aa ?_ ?_<;>intro g1
 ·refine rc 7 aa ?_;obtain⟨_,⟨sx2_0,rfl,Ha⟩,fP,⟨n7,L,nR,M⟩,gb,U,lM,Y,vZ,Z,bQ⟩:=qI z bM;refine ax (aI aa aa A ae bQ aa ?_);refine aK 3 aa (zI aa aa ?_);refine ro 1 aa ?_;refine au aa ?_ ?_<;>intro g4
  ·refine aB 4 aa (aI aa aa A ae bQ aa ?_);refine aK 3 aa (ay aa (acH (cQ:=bf) F (bE ah) L ae M U Y Z ae ae) ?_);rintro _ _⟨gV,gR,V5,rfl,jY,qf,jl,G⟩;refine ro 10 aa ?_;refine cH aa ?_ ?_<;>intro h6
   ·have k6:=G.1 (by simpa using h6);exact W
   have k6:¬_:=fun p=>absurd (G.2 p) (by simpa using h6)
   exact W
  exact W
 exact W
theorem afi{T:aN}(F:FT T){a0:DC}{L:ak}(cr:aA L a0)(cK:L.length≤16)(bM:af [.s 1000,.l 100 en,.l 200 br,.l 4 eD,.l 4 ee] L){aJ:Int}(kJ:(-9223372036854775808)≤aJ)(kK:aJ≤9223372036854775807):Sound T 65 [.d a0,.d (dJ aJ),dB false] fun r=>∃y0 Z,r= .d y0∧aA Z y0∧(Z.length:Int)≤16∧af yC Z∧0≤(Z.length:Int)∧(Z=[]→y0= .nil)∧((Z.length:Int)=jh aJ L):=by
 refine bj F.q65 aa (r0 14 aa (dh 7 90 85 40 2 aa aa (bd [6,2,1,0] [] aa aa (fun e0 b0 k VE B=>∃A G,an ((7,.ac 90 G.length 2)::(8,.d (dJ A))::e0) VE∧an ((90,.acc 85 40 2 G)::b0) B∧k=((L.length:Int) -A).toNat∧(0≤A∧(A≤(L.length:Int)∨A=0))∧((G.length:Int)≤A)∧(af yC G)∧((G.length:Int)=jh aJ (L.take A.toNat))) ?_ fin)));rintro _ VE B⟨A,G,hV,hB,rfl,bS,cM,M,js⟩;refine aU _ _ hV hB (aB 5 aa (aO aa cr ?_));refine ro 2 aa ?_;refine au aa ?_ ?_<;>intro g1
 ·refine rc 7 aa ?_;obtain⟨gW,iG,fP,⟨n7,nU,nR,nV⟩,gb,iS,lM,mi,vZ,xX,bQ⟩:=qI A bM;refine ax (aI aa aa cr ae bQ aa ?_);refine aK 3 aa (ay aa (acH (cQ:=aJ) F iG nU ae nV iS mi xX ae ae) ?_);rintro _ _⟨jL,o4,I5,rfl,Y,GJ,xl,Iv⟩;refine ro 12 aa ?_;refine cH aa ?_ ?_<;>intro h4
  ·have k4:¬_:=fun p=>absurd (Iv.2 p) (by simpa using h4)
   refine aB 3 aa (bC aa aa ae ae ?_);refine cW 2 aa ?_;exact⟨((L.length:Int) -((A+1))).toNat,ae,(A+1),G,⟨rfl,rfl,rfl,rfl,rfl,rfl,trivial⟩,⟨rfl,trivial⟩,rfl,ae,ae,M,(by first|rfl|(simp only[fA,gr,jF];exact F9 (by assumption) ae (by assumption) (by assumption) (by assumption))|exact La (by assumption) ae (by assumption) (by assumption) (by assumption))⟩
  have k4:=Iv.1 (by simpa using h4);refine aB 5 aa (aI aa aa cr ae bQ aa ?_);refine ro 12 aa (jz 11 1 91 3 8 1 aa aa aa (bd [30,16,11,10,9,8,7,6,2,1,0] [90] aa aa (fun e0 b0 k VE B=>∃I z,an ((12,.d (dJ I))::e0) VE∧an ((11,.one 85 40 [.d gW,.ac 91 z.length 1])::(91,.acc 3 8 1 z)::b0) B∧k=((o4.length:Int) -I).toNat∧(0≤I∧(I≤(o4.length:Int)∨I=0))∧((z.length:Int)≤I)∧(af br z)) ?_ fin));rintro _ VE B⟨I,z,hV,hB,rfl,eU,fO,O⟩;refine aU _ _ hV hB (aB 5 aa (aO aa Y ?_));refine ro 2 aa ?_;refine au aa ?_ ?_<;>intro g5
  ·refine rc 8 aa ?_;obtain⟨Jl,AV,BC,xV,_,⟨T0,rfl,hzx6_2,kzx6_2⟩,e7⟩:=qI I xl;refine aR (aI aa aa Y ae e7 aa ?_);refine rq 1 aa (cD aa aa (dx aa aa ?_));refine rq 1 aa ?_;refine aP rfl (aX (rows:=z) (ys:=[[(dJ T0)]]) rfl rfl rfl (.bs (rows:=[[(dJ T0)]]) rfl) ao ae (fun h=>by rw[h];rfl) (fun h=>by rw[h];rfl) ?_);exact W
  refine rc 4 aa (eS 54 91 aa aa dz ?_);obtain⟨U,rfl,Ha⟩:=Ty.bE iG;refine ro 1 aa ?_;refine ax (aX (rows:=G) (ys:=[[(aq U),(.cE z)]]) rfl rfl rfl (.bs (rows:=[[(aq U),(.cE z)]]) rfl) ao ae (fun h=>by rw[h];rfl) (fun h=>by rw[h];rfl) ?_);refine aK 4 aa (bC aa aa ae ae ?_);refine cW 2 aa ?_;exact⟨((L.length:Int) -((A+1))).toNat,ae,(A+1),(G++[[(aq U),(.cE z)]]),⟨rfl,rfl,rfl,rfl,rfl,rfl,trivial⟩,⟨rfl,trivial⟩,rfl,ae,cJ,(dC M (dr (aj (bE ah) (aj (aM (.acc _) ae O) bg)))),(by first|rfl|(simp only[fA,gr,jF];exact F9 (by assumption) ae (by assumption) (by assumption) (by assumption))|exact La (by assumption) ae (by assumption) (by assumption) (by assumption))⟩
 refine rc 6 aa (cf 6 90 aa aa (fun _=>⟨aa,aa⟩) (dO 1 aa ?_));exact bI rfl rfl ⟨(.cE G),G,rfl,(.acc _),ae,M,ae,(fun h=>by rw[h];rfl),(visN_all dm ae)⟩
end Go.Ev.Rp
namespace Go.Ev.Rp
open Go Go.Ev.Pp
attribute [local irreducible] VC VO VQ VI Sound cm
theorem aax{T:aN}(F:FT T){X:List Int}{a0 a1 a2 a3 a4 a5:DC}(cU:(Ty.x).ok a0)(bW:(Ty.x).ok a1){G:ak}(cF:aA G a2)(dc:G.length≤16)(bV:af (AL X) G)(cn:(Ty.x).ok a3)(bZ:(Ty.x).ok a4)(cl:(Ty.x).ok a5):Sound T 66 [.agg [.d a0,.d a1,.d a2,.d a3,.d a4,.d a5]] fun r=>∃y0 M,r= .d y0∧aA M y0∧(M.length:Int)≤16∧af [.s 1000,.l 100 en,.l 200 br,.l 4 eD,.l 4 ee] M∧0≤(M.length:Int)∧(M=[]→y0= .nil)∧(M=G.map (List.take 5)):=by
 refine bj F.q66 aa (r0 15 aa (dh 3 90 55 112 5 aa aa (bd [2,1,0] [1] aa aa (fun e0 b0 k VE B=>∃z A,an ((3,.ac 90 A.length 5)::(4,.d (dJ z))::e0) VE∧an ((90,.acc 55 112 5 A)::b0) B∧k=((G.length:Int) -z).toNat∧(0≤z∧(z≤(G.length:Int)∨z=0))∧((A.length:Int)≤z)∧(af [.s 1000,.l 100 en,.l 200 br,.l 4 eD,.l 4 ee] A)∧(A=(G.take z.toNat).map (List.take 5))) ?_ fin)));rintro _ VE B⟨z,A,hV,hB,rfl,bS,cM,L,js⟩;refine aU _ _ hV hB (aB 6 aa (aO aa cF ?_));refine ro 2 aa ?_;refine au aa ?_ ?_<;>intro g1
 ·refine rc 8 aa ?_;obtain⟨_,⟨I,rfl,Ha⟩,O,⟨n7,nU,nR,nV⟩,U,⟨Nr,S0,Af,Dd⟩,Y,⟨Nd,GV,L5,Ar⟩,Z,⟨wx2_4,S1,hnx2_4,S2⟩,Wq,A1,bQ⟩:=qI z bV;refine ax (aI aa aa cF ae bQ aa ?_);refine ro 3 aa ?_;refine ax (aX (rows:=A) (ys:=[[(aq I),O,U,Y,Z]]) rfl rfl rfl (.bs (rows:=[[(aq I),O,U,Y,Z]]) rfl) ao ae (fun h=>by rw[h];rfl) (fun h=>by rw[h];rfl) ?_);refine aK 4 aa (bC aa aa ae ae ?_);refine cW 2 aa ?_;exact⟨((G.length:Int) -((z+1))).toNat,ae,(z+1),(A++[[(aq I),O,U,Y,Z]]),⟨rfl,rfl,rfl,rfl,rfl,trivial⟩,⟨rfl,rfl,trivial⟩,rfl,ae,cJ,(dC L (dr (aj (bE ah) (aj (aM nU ae nV) (aj (aM S0 ae Dd) (aj (aM GV ae Ar) (aj (aM S1 ae S2) bg))))))),(by first|rfl|exact map_take_s (by assumption) ae (by assumption) rfl)⟩
 refine rc 6 aa (cf 2 90 aa aa (fun _=>⟨aa,aa⟩) (dO 1 aa ?_));exact bI rfl rfl ⟨(.cE A),A,rfl,(.acc _),ae,L,ae,(fun h=>by rw[h];rfl),(map_take_all dm ae)⟩
theorem YY{T:aN}(F:FT T){X:List Int}{a0 a1 a2 a3 a4 a5:DC}(cU:(Ty.x).ok a0)(bW:(Ty.x).ok a1){L:ak}(M:aA L a2)(dc:L.length≤16)(bV:af (AL X) L)(cn:(Ty.x).ok a3)(bZ:(Ty.x).ok a4)(cl:(Ty.x).ok a5){bx:Int}(mH:(-9223372036854775808)≤bx)(mI:bx≤9223372036854775807)(hX:X.length≤2000000):Sound T 32 [.agg [.d a0,.d a1,.d a2,.d a3,.d a4,.d a5],.d (dJ bx),dB false] fun r=>∃y0 bu,r= .d y0∧aA bu y0∧(bu.length:Int)≤16∧af (TN X) bu∧0≤(bu.length:Int)∧(bu=[]→y0= .nil):=by
 refine bj F.q32 aa (bY 8 aa (ay aa (aax (X:=X) F bX bX M ae bV bX bX bX) ?_));rintro _ _⟨ez,fg,rfl,gL,jE,fy,lu,mT,Y⟩;refine aK 2 aa (ay aa (afi (aJ:=bx) F gL ae fy ae ae) ?_);rintro _ _⟨mz,DM,rfl,Aj,GL,uZ,R2,aeY,Z⟩;refine ro 4 aa ?_;have kt:(DM.length:Int)=jh bx L:=by rw[Z,Y,aam ao]
 refine rp 8 aa (dh 8 90 161 64 3 aa aa (bd [7,6,3,2,1,0] [3] aa aa (fun e0 b0 k VE B=>∃A I,an ((8,.ac 90 I.length 3)::(9,.d (dJ A))::e0) VE∧an ((90,.acc 161 64 3 I)::b0) B∧k=((L.length:Int) -A).toNat∧(0≤A∧(A≤(L.length:Int)∨A=0))∧((I.length:Int)≤A)∧(af (TN X) I)∧((I.length:Int)=jh bx (L.take A.toNat))) ?_ fin));rintro _ VE B⟨A,I,hV,hB,rfl,bS,cM,Di,js⟩;refine aU _ _ hV hB (aB 6 aa (aO aa M ?_));refine ro 2 aa ?_;refine au aa ?_ ?_<;>intro g3
 ·refine rc 8 aa ?_;obtain⟨pw,kQ,fo,⟨Ir,De,G5,Df⟩,sg,rO,Wt,x8,Wu,x9,Wv,⟨ahg,afj,hnx4_5,hrx4_5⟩,cY⟩:=qI A bV;refine ax (aI aa aa M ae cY aa ?_);refine aK 3 aa (ay aa (ajV (cQ:=bx) F kQ De ae Df rO x8 x9 ae ae) ?_);rintro _ _⟨gV,ajc,V5,y5_3,rfl,rK,Ua,Ii,ahh⟩;refine ro 13 aa ?_;refine cH aa ?_ ?_<;>intro h6
  ·have k6:¬_:=fun p=>absurd (ahh.2 p) (by simpa using h6)
   refine aB 3 aa (bC aa aa ae ae ?_);refine cW 2 aa ?_;exact⟨((L.length:Int) -((A+1))).toNat,ae,(A+1),I,⟨rfl,rfl,rfl,rfl,rfl,rfl,rfl,rfl,trivial⟩,⟨rfl,rfl,trivial⟩,rfl,ae,ae,Di,(by first|rfl|(simp only[fA,gr,jF];exact F9 (by assumption) ae (by assumption) (by assumption) (by assumption))|exact La (by assumption) ae (by assumption) (by assumption) (by assumption))⟩
  have k6:=ahh.1 (by simpa using h6);refine rc 6 aa ?_;have kv:=visN_lt (w:=L) (t:=bx) (v:=A) ae dm dm dm;obtain⟨nf,mW,oh,⟨wx7_1,Md,hnx7_1,Me⟩,eV⟩:=qI (I.length:Int) uZ;refine ax (aI aa aa Aj ae eV aa ?_);refine ro 11 aa (jz 12 2 91 156 64 6 aa aa aa (bd [39,24,12,11,10,9,8,7,6,3,2,1,0] [90,10,3] aa aa (fun e0 b0 k VE B=>∃G z,an ((13,.d (dJ G))::e0) VE∧an ((12,.one 161 64 [.d nf,.d oh,.ac 91 z.length 6])::(91,.acc 156 64 6 z)::b0) B∧k=((ahg.length:Int) -G).toNat∧(0≤G∧(G≤(ahg.length:Int)∨G=0))∧((z.length:Int)≤G)∧(af (TL X) z)) ?_ fin));rintro _ VE B⟨G,z,hV,hB,rfl,eU,fO,O⟩;refine aU _ _ hV hB (aB 7 aa (aI aa aa M ae cY aa ?_));refine aK 2 aa (aO aa afj ?_);refine ro 2 aa ?_;refine au aa ?_ ?_<;>intro g8
  ·refine aB 8 aa (aI aa aa M ae cY aa ?_);refine ro 3 aa ?_;obtain⟨oi,kP,pr,⟨ag4,G9,aeV,G'⟩,_,⟨Ds,rfl,adx,ady⟩,_,⟨M5,rfl,hzx9_3,kzx9_3⟩,_,⟨ahi,rfl,hzx9_4,kzx9_4⟩,_,⟨ahj,rfl,hzx9_5,kzx9_5⟩,fc⟩:=qI G hrx4_5;refine ax (aI aa aa afj ae fc aa ?_);refine aK 9 aa (ay aa (ProjC F rK Ua Ii G9 ae G') ?_);rintro _ _⟨mg,Al,rfl,CA,CB,CC,Lf,hey10_0⟩;refine ro 4 aa ?_;obtain⟨DE,rfl,L3,hqx9_0⟩:=Ty.bA kP;refine rp 4 aa ?_;refine ax (aX (rows:=z) (ys:=[[(dJ DE),mg,(dJ Ds),(dJ M5),(dJ ahi),(dJ ahj)]]) rfl rfl rfl (.bs (rows:=[[(dJ DE),mg,(dJ Ds),(dJ M5),(dJ ahi),(dJ ahj)]]) rfl) ao ae (fun h=>by rw[h];rfl) (fun h=>by rw[h];rfl) ?_);exact W
  refine rc 4 aa (eS 78 91 aa aa dz ?_);obtain⟨U,rfl,hsx7_0⟩:=Ty.bE mW;refine ro 1 aa ?_;refine ax (aX (rows:=I) (ys:=[[(aq U),oh,(.cE z)]]) rfl rfl rfl (.bs (rows:=[[(aq U),oh,(.cE z)]]) rfl) ao ae (fun h=>by rw[h];rfl) (fun h=>by rw[h];rfl) ?_);have kt:(DM.length:Int)=jh bx L:=by rw[Z,Y,aam ao]
  refine aK 4 aa (bC aa aa ae ae ?_);refine cW 2 aa ?_;exact⟨((L.length:Int) -((A+1))).toNat,ae,(A+1),(I++[[(aq U),oh,(.cE z)]]),⟨rfl,rfl,rfl,rfl,rfl,rfl,rfl,rfl,trivial⟩,⟨rfl,rfl,trivial⟩,rfl,ae,cJ,(dC Di (dr (aj (bE ah) (aj (aM Md ae Me) (aj (aM (.acc _) ae O) bg))))),(by first|rfl|(simp only[fA,gr,jF];exact F9 (by assumption) ae (by assumption) (by assumption) (by assumption))|exact La (by assumption) ae (by assumption) (by assumption) (by assumption))⟩
 exact rc 6 aa (cf 6 90 aa aa (fun _=>⟨aa,aa⟩) (W))
theorem TablesX{T:aN}(F:FT T){X:List Int}{a0 a1 a2 a3 a4 a5:DC}(cU:(Ty.x).ok a0)(bW:(Ty.x).ok a1){G:ak}(L:aA G a2)(dc:G.length≤16)(M:af (AL X) G)(cn:(Ty.x).ok a3)(bZ:(Ty.x).ok a4)(cl:(Ty.x).ok a5){bx:Int}(mH:(-9223372036854775808)≤bx)(mI:bx≤9223372036854775807)(hX:X.length≤2000000):Sound T 15 [.agg [.d a0,.d a1,.d a2,.d a3,.d a4,.d a5],.d (dJ bx)] fun r=>∃y0 I,r= .d y0∧aA I y0∧(I.length:Int)≤16∧af (MK X) I:=by
 refine bj F.q15 aa (bY 9 aa (ay aa (YY (bx:=bx) (X:=X) F bX bX L ae M bX bX bX ae ae ae) ?_));rintro _ _⟨ez,fg,rfl,z,O,A,U,Y⟩;refine aK 1 aa (ay aa (TAsX (X:=X) F z ae A ai ae) ?_);rintro _ _⟨mz,DM,rfl,Z,GL,uZ,R2,aeY⟩;exact W
end Go.Ev.Rp
namespace Go.Ev.Rp
open Go Go.Ev.Pp
attribute [local irreducible] VC VO VQ VI Sound cm
theorem opX{T:aN}(F:FT T){O:DC}(G:(Ty.i .i64 0 12).ok O):Sound T 515 [.d O] fun r=>∃U,r= .d U∧(Ty.i .i64 0 100).ok U:=by
 refine bj F.q515 aa ?_;obtain⟨aE,rfl,Y,Z⟩:=G;refine r0 13 aa ?_;obtain⟨A,I,L⟩:=bz (z:=aE) (n:=13) ae ae;refine ax (bG rfl (by rw[←I];rfl) L ?_);obtain⟨m1,M,ij,um1⟩:∃m:Int,([.d (.i .i64 0),.d (.i .i64 1),.d (.i .i64 2),.d (.i .i64 3),.d (.i .i64 4),.d (.i .i64 5),.d (.i .i64 6),.d (.i .i64 7),.d (.i .i64 7),.d (.i .i64 8),.d (.i .i64 9),.d (.i .i64 10),.d (.i .i64 11)]:List VV)[0+A*1]?=some (.d (.i .i64 m))∧0≤m∧m≤11:=by
  rcases(by omega:A=0∨A=1∨A=2∨A=3∨A=4∨A=5∨A=6∨A=7∨A=8∨A=9∨A=10∨A=11∨A=12) with rfl|rfl|rfl|rfl|rfl|rfl|rfl|rfl|rfl|rfl|rfl|rfl|rfl<;>exact⟨_,rfl,ae,ae⟩
 refine ax (oJ aa aa M ?_);exact et 3 aa (bI aa aa fin)
theorem aay{T:aN}(F:FT T){a0 a1 a2 a3 a4 a5 a6 a7 a8 a9:DC}(z:(Ty.i .i64 0 12).ok a0)(A:(Ty.i .i64 0 30).ok a1)(G:(Ty.i .i64 0 30).ok a2)(I:(Ty.s 1000).ok a3)(L:(Ty.s 1000).ok a4)(M:tJ.ok a5)(O:tJ.ok a6)(U:(Ty.s 1000).ok a7)(Y:(Ty.i .i64 0 60).ok a8)(Z:(Ty.i .i64 0 40).ok a9):Sound T 419 [.agg [.d a0,.d a1,.d a2,.d a3,.d a4,.d a5,.d a6,.d a7],.d a8,.d a9] fun r=>∃y0 y1 y2 y3 y4 y5 y6,r= .agg [.d y0,.d y1,.d y2,.d y3,.d y4,.d y5,.d y6]∧(Ty.i .i64 0 100).ok y0∧(Ty.i .i64 0 100).ok y1∧(Ty.i .i64 0 100).ok y2∧(Ty.i .i64 0 100).ok y3∧tJ.ok y4∧tJ.ok y5∧(Ty.s 1000).ok y6:=by
 refine bj F.q419 aa ?_;rcases z,A,G,I,L,M,O,U,Y,Z with⟨⟨aE,rfl,iU,iV⟩,⟨aJ,rfl,eC,eg⟩,⟨bf,rfl,lJ,lK⟩,⟨sa3,rfl,aiP⟩,⟨sa4,rfl,hsa4⟩,⟨cQ,rfl,ov,ow⟩,⟨bx,rfl,oj,om⟩,⟨Pd,rfl,Oq⟩,⟨hJ,rfl,yD,yE⟩,⟨gl,rfl,Bp,Bq⟩⟩
 refine bY 9 aa (ay aa (opX F ai) ?_);rintro _ _⟨ez,rfl,qw⟩;exact W
theorem Cw{T:aN}(F:FT T){ne:Nat}{a0 a1 a2 a3 a4 a5 a6:DC}(Z:(Ty.b).ok a0)(bW:(Ty.q (Bj xN ne)).ok a1)(cG:(Ty.q (AK ne)).ok a2){G:ak}(e6:aA G a3)(fI:G.length≤2)(eA:af xO G)(bZ:(Ty.i .i64 (-1) 30).ok a4)(cl:(Ty.b).ok a5)(fw:(Ty.l 4 [.i .i64 0 ((ne:Int) -1)]).ok a6)(fL:ne≤30):Sound T 420 [.agg [.d a0,.d a1,.d a2,.d a3,.d a4,.d a5,.d a6]] fun r=>∃y0,r= .d y0∧(Ty.b).ok y0:=by
 refine bj F.q420 aa ?_;rcases Z,Ty.bA bW,Ty.bA cG with⟨⟨XX,rfl⟩,⟨bL,cN,df,cb⟩,⟨bt,I,dc,A⟩⟩
 have L:=A.1;rcases bZ,cl,fw with⟨⟨bR,rfl,oq,ot⟩,⟨Pg,rfl⟩,⟨gB,fY,yJ,iM⟩⟩
 refine r0 11 aa (bd [2,1,0] [1] aa aa (fun e0 b0 k VE B=>∃z,an ((3,.d (dJ z))::e0) VE∧an b0 B∧dP k 0 z (bt.length:Int)) ?_ fin);rintro _ VE B⟨z,hV,hB,rfl,bS⟩;refine aU _ _ hV hB (aB 6 aa (aO aa I ?_));refine ro 2 aa ?_;refine au aa ?_ ?_<;>intro g1
 ·refine rc 8 aa ?_;obtain⟨_,⟨ka,rfl,M,O⟩,_,⟨lz,rfl,U,Y⟩,gb,iS,bQ⟩:=qI z L;have sA:=p5.get A bQ;exact W
 exact W
theorem aaz{T:aN}(F:FT T){ne:Nat}{a0 a1 a2 a3 a4 a5 a6 a7:DC}(cU:(Ty.b).ok a0)(bW:(Ty.q (Bj xN ne)).ok a1)(cG:(Ty.q (AK ne)).ok a2){I:ak}(e6:aA I a3)(fI:I.length≤2)(eA:af xO I)(bZ:(Ty.i .i64 (-1) 30).ok a4)(cl:(Ty.b).ok a5)(fw:(Ty.l 4 [.i .i64 0 ((ne:Int) -1)]).ok a6)(fS:tJ.ok a7)(fL:ne≤30):Sound T 418 [.agg [.d a0,.d a1,.d a2,.d a3,.d a4,.d a5,.d a6],.d a7] fun r=>∃y0,r= .d y0∧tJ.ok y0:=by
 refine bj F.q418 aa ?_;rcases cU,Ty.bA bW,Ty.bA cG with⟨⟨XX,rfl⟩,⟨bL,cN,df,cb⟩,⟨M,O,dc,L⟩⟩
 have U:=L.1;rcases bZ,cl,fw,fS with⟨⟨bR,rfl,oq,ot⟩,⟨Pg,rfl⟩,⟨gB,fY,yJ,iM⟩,⟨db,rfl,sn,sq⟩⟩
 refine r0 15 aa (bd [4,2,1,0] [2] aa aa (fun e0 b0 k VE B=>∃A z,an ((5,.d (dJ A))::(6,.d (dJ z))::e0) VE∧an b0 B∧k=((M.length:Int) -z).toNat∧(0≤A∧A≤31)∧(0≤z∧(z≤(M.length:Int)∨z=0))) ?_ fin);rintro _ VE B⟨A,z,hV,hB,rfl,bS,cM⟩;refine aU _ _ hV hB (aB 6 aa (aO aa O ?_));refine ro 2 aa ?_;refine au aa ?_ ?_<;>intro g1
 ·refine rc 8 aa ?_;obtain⟨_,⟨ka,rfl,Y,Z⟩,_,⟨lz,rfl,oU,l9⟩,gb,iS,bQ⟩:=qI z U;have sA:=p5.get L bQ;exact W
 refine rc 8 aa ?_;refine au aa ?_ ?_<;>intro h4
 ·exact W
 refine rc 7 aa (bd [31,12,6,5,4,2,1,0] [2] aa aa (fun e0 b0 k VE B=>∃G,an ((7,.d (dJ G))::e0) VE∧an b0 B∧dP k 1 G (I.length:Int)) ?_ fin);rintro _ VE B⟨G,hV,hB,rfl,eU⟩;exact aU _ _ hV hB (W)
theorem acI{T:aN}(F:FT T){a0 a1 a2 a3 a4 a5 a6 a7 a8 a9 Y Z:DC}{I:ak}(cr:aA I a0)(cK:I.length≤2)(bM:af nY I){G:ak}(M:aA G a1)(df:G.length≤26)(cb:af nY G){L:ak}(v7:G.length≤L.length)(O:aA L a2)(dc:L.length≤26)(bV:af [.i .i64 0 ((I.length:Int) -1)] L)(cn:(Ty.i .i64 0 12).ok a3)(bZ:(Ty.i .i64 0 30).ok a4)(cl:(Ty.i .i64 0 30).ok a5)(fw:(Ty.s 1000).ok a6)(fS:(Ty.s 1000).ok a7)(gk:tJ.ok a8)(iO:tJ.ok a9)(ni:(Ty.s 1000).ok Y)(pE:tJ.ok Z):Sound T 417 [.agg [.d a0,.d a1,.d a2],.agg [.d a3,.d a4,.d a5,.d a6,.d a7,.d a8,.d a9,.d Y],.d Z] fun r=>∃y0 y1,r= .tuple [.d y0,.d y1]∧(Ty.i .i64 0 40).ok y0∧tJ.ok y1:=by
 refine bj F.q417 aa ?_;rcases cn,bZ,cl,fw,fS,gk,iO,ni,pE with⟨⟨aW,rfl,mA,mB⟩,⟨bR,rfl,oq,ot⟩,⟨cQ,rfl,ov,ow⟩,⟨E7,rfl,Oj⟩,⟨Pd,rfl,Oq⟩,⟨hJ,rfl,yD,yE⟩,⟨gl,rfl,Bp,Bq⟩,⟨sa10,rfl,hsa10⟩,⟨ic,rfl,Uf,Ug⟩⟩
 refine r0 17 aa (bd [7,6,4,3,2,1,0] [4,3] aa aa (fun e0 b0 k VE B=>∃A z,an ((8,.d (dJ A))::(9,.d (dJ z))::e0) VE∧an b0 B∧k=((G.length:Int) -z).toNat∧(-1≤A∧A≤25)∧(0≤z∧(z≤(G.length:Int)∨z=0))) ?_ fin);rintro _ VE B⟨A,z,hV,hB,rfl,bS,cM⟩;refine aU _ _ hV hB (aB 6 aa (aO aa M ?_));refine ro 2 aa ?_;refine au aa ?_ ?_<;>intro g1
 ·refine rc 9 aa ?_;obtain⟨_,⟨U,rfl,qe,rB⟩,bQ⟩:=qI z bV;refine aR (aI aa aa O ae bQ aa ?_);refine cD aa aa (dx aa aa ?_);refine rq 3 aa ?_;refine dw aa ?_ ?_<;>intro g3
  ·refine rq 14 aa (bK aa (dA aa (bK aa (dA aa (bK aa (bK aa (dA aa (bK aa (dA aa ?_)))))))));exact bK aa (dA aa (bK aa (rq 2 aa (W))))
  refine rq 3 aa ?_;obtain⟨_,⟨sx4_0,rfl,hsx4_0⟩,cY⟩:=qI z cb;refine ca aa aa (aI aa aa M ae cY aa ?_);refine rq 3 aa (ca aa aa (oM aa aa ?_));refine rq 2 aa ?_;refine dw aa ?_ ?_<;>intro g6
  ·refine rq 4 aa (bK aa (dA aa (bK aa (dA aa (bK aa (bK aa (dA aa (bK aa (dA aa ?_)))))))));exact bK aa (dA aa (bK aa (rq 2 aa (W))))
  refine rq 2 aa (ca aa aa (oM (b:=[]) aa aa ?_));refine rq 1 aa ?_;refine dw aa ?_ ?_<;>intro g8
  ·refine rq 5 aa (ca aa aa (aI aa aa O ae bQ aa ?_));refine rq 1 aa ?_;obtain⟨_,⟨sx9_0,rfl,hsx9_0⟩,fc⟩:=qI U bM;refine ca aa aa (aI aa aa cr ae fc aa ?_);refine rq 3 aa (ca aa aa (oM aa aa ?_));exact rq 2 aa (W)
  exact rq 14 aa (W)
 exact W
end Go.Ev.Rp
namespace Go.Ev.Rp
open Go Go.Ev.Pp
attribute [local irreducible] VC VO VQ VI Sound cm
theorem ahk{T:aN}(F:FT T){ne:Nat}{a0 a1 a2 a3 a4 a5 a6 a7:DC}(cU:(Ty.b).ok a0)(bW:(Ty.q (Bj xN ne)).ok a1)(cG:(Ty.q (AK ne)).ok a2){Z:ak}(e6:aA Z a3)(fI:Z.length≤2)(eA:af xO Z)(bZ:(Ty.i .i64 (-1) 30).ok a4)(cl:(Ty.b).ok a5)(fw:(Ty.l 4 [.i .i64 0 ((ne:Int) -1)]).ok a6){wz:ak}(Ep:aA wz a7)(N7:wz.length≤16)(Er:af [.s 1000,.l 100 en,.l 200 br,.l 4 eD,.l 4 ee] wz){hJ:Int}(la8:(-9223372036854775808)≤hJ)(ua8:hJ≤9223372036854775807)(fL:ne≤30):Sound T 416 [.agg [.d a0,.d a1,.d a2,.d a3,.d a4,.d a5,.d a6],.d a7,.d (dJ hJ),dB false] fun r=>∃y0 bu y2 dT y4 zs y6,r= .tuple [.agg [.d y0,.d y2,.d y4],.d (dJ y6)]∧aA bu y0∧(bu.length:Int)≤2∧af nY bu∧aA dT y2∧(dT.length:Int)≤26∧af nY dT∧aA zs y4∧(zs.length:Int)≤26∧af [.i .i64 0 ((Z.length:Int) -1)] zs∧((-9223372036854775808)≤y6∧y6≤9223372036854775807∧(y6=0→(bu.length:Int)=Z.length∧zs.length=dT.length)):=by
 refine bj F.q416 aa ?_;rcases cU,Ty.bA bW,Ty.bA cG with⟨⟨XX,rfl⟩,⟨bL,cN,df,cb⟩,⟨bt,cF,dc,hqa2⟩⟩
 have bV:=hqa2.1;rcases bZ,cl,fw with⟨⟨bR,rfl,oq,ot⟩,⟨Pg,rfl⟩,⟨gB,fY,yJ,iM⟩⟩
 refine r0 16 aa (jz 10 0 90 9 16 1 aa aa aa (jz 10 1 91 9 16 1 aa aa aa (jz 10 2 92 3 8 1 aa aa aa (bd [10,9,8,4,3,2,1,0] [8,4] aa aa (fun e0 b0 k VE B=>∃G A M O,an ((11,.d (dJ G))::e0) VE∧an ((10,.one 574 72 [.ac 90 A.length 1,.ac 91 M.length 1,.ac 92 O.length 1])::(90,.acc 9 16 1 A)::(91,.acc 9 16 1 M)::(92,.acc 3 8 1 O)::b0) B∧k=((Z.length:Int) -G).toNat∧(0≤G∧(G≤(Z.length:Int)∨G=0))∧((A.length:Int)≤G)∧(af nY A)∧((M.length:Int)≤13*G)∧(af nY M)∧((O.length:Int)≤13*G)∧(af [.i .i64 0 ((Z.length:Int) -1)] O)∧((A.length:Int)=G)∧(O.length=M.length)) ?_ fin))));rintro _ VE B⟨G,A,M,O,hV,hB,rfl,bS,cM,hrw10_0_0,js,hrw10_1_0,uc,hrw10_2_0,ajW,f0_8⟩;refine aU _ _ hV hB (aB 6 aa (aO aa e6 ?_));refine ro 2 aa ?_;refine au aa ?_ ?_<;>intro g1
 ·refine rc 9 aa ?_;obtain⟨gW,iG,fP,jf,gb,iS,lM,mi,bQ⟩:=qI G eA;refine ax (aI aa aa e6 ae bQ aa ?_);refine aK 4 aa (ay aa (visibleV (bf:=hJ) F Ep ae Er jf ae ae) ?_);rintro _ _⟨jL,o4,_,rfl,C5,GJ,xl,afS,rfl⟩;refine ro 9 aa (rp 3 aa ?_);refine cH aa ?_ ?_<;>intro h4
  ·exact rc 3 aa (eS 39 90 aa aa dz (eS 39 91 aa aa dz (eS 39 92 aa aa dz (W))))
  refine aB 6 aa (aI aa aa e6 ae bQ aa ?_);refine ro 4 aa (dE [38,21,13,12,11,10,9,8,4,3,2,1,0] [92,91,90,10,8,4] aa aa (fun e0 b0 VE B=>∃Ta,an ((14,.d Ta)::e0) VE∧an b0 B∧((Ty.s 1000).ok Ta)) ?_ ?_)
  ·exact W
  rintro VE B⟨Ta,hV,hB,acJ⟩;refine aU _ _ hV hB (rc 6 aa (bd [38,21,14,13,12,11,10,9,8,4,3,2,1,0] [92,91,90,10,8,4] aa aa (fun e0 b0 k VE B=>∃Nt,an ((15,.d (dJ Nt))::e0) VE∧an b0 B∧dP k 0 Nt (A.length:Int)) ?_ fin));rintro _ VE B⟨Nt,hV,hB,rfl,eU⟩;refine aU _ _ hV hB (rc 9 aa ?_);refine au aa ?_ ?_<;>intro g7
  ·refine rc 8 aa ?_;obtain⟨j8,B6,sH⟩:=bz (z:=Nt) (n:=A.length) ae ae;obtain⟨_,⟨sx8_0,rfl,hsx8_0⟩,hH⟩:=qN sH hrw10_0_0;refine ax (cX rfl (by rw[←B6];rfl) sH ?_);refine ax (eX (rows:=A) aa aa hH aa ?_);obtain⟨Y,rfl,hsv14_j4⟩:=Ty.bE acJ;refine aK 1 aa (zI aa aa ?_);refine ro 1 aa ?_;refine au aa ?_ ?_<;>intro sM
   ·exact rc 3 aa (eS 68 90 aa aa dz (eS 68 91 aa aa dz (eS 68 92 aa aa dz (W))))
   exact W
  refine rc 3 aa ?_;obtain⟨Y,rfl,hsv14_j4⟩:=Ty.bE acJ;refine rp 4 aa ?_;refine ax (aX (rows:=A) (ys:=[[(aq Y)]]) rfl rfl rfl (.bs (rows:=[[(aq Y)]]) rfl) ao ae (fun h=>by rw[h];rfl) (fun h=>by rw[h];rfl) ?_);refine ro 8 aa (bd [58,38,21,15,14,13,12,11,10,9,8,4,3,2,1,0] [90,72,8,4] aa aa (fun e0 b0 k VE B=>∃U I L,an ((16,.d (dJ U))::e0) VE∧an ((10,.one 574 72 [.ac 90 (A++[[(aq Y)]]).length 1,.ac 91 I.length 1,.ac 92 L.length 1])::(91,.acc 9 16 1 I)::(92,.acc 3 8 1 L)::b0) B∧k=((o4.length:Int) -U).toNat∧(0≤U∧(U≤(o4.length:Int)∨U=0))∧((I.length:Int)≤13*G+U)∧(af nY I)∧((L.length:Int)≤13*G+U)∧(af [.i .i64 0 ((Z.length:Int) -1)] L)∧(L.length=I.length)) ?_ fin);rintro _ VE B⟨U,I,L,hV,hB,rfl,ox,yN,hrw10_1_2,f2_3,hrw10_2_2,f2_5⟩;refine aU _ _ hV hB (aB 5 aa (aO aa C5 ?_));refine ro 2 aa ?_;refine au aa ?_ ?_<;>intro ld
  ·refine rc 9 aa ?_;obtain⟨qu,nP,_,⟨afk,rfl,hsx12_1⟩,Uc,L6,gI⟩:=qI U xl;refine aR (aI aa aa C5 ae gI aa ?_);refine rq 1 aa (cD aa aa (dx aa aa ?_));refine rq 1 aa ?_;refine aP rfl (aX (rows:=I) (ys:=[[(aq afk)]]) rfl rfl rfl (.bs (rows:=[[(aq afk)]]) rfl) ao ae (fun h=>by rw[h];rfl) (fun h=>by rw[h];rfl) ?_);refine rq 8 aa ?_;refine ax (aX (rows:=L) (ys:=[[(dJ G)]]) rfl rfl rfl (.bs (rows:=[[(dJ G)]]) rfl) ao ae (fun h=>by rw[h];rfl) (fun h=>by rw[h];rfl) ?_);exact W
  exact W
 exact rc 4 aa (eS 97 90 aa aa dz (eS 97 91 aa aa dz (eS 97 92 aa aa dz (W))))
end Go.Ev.Rp
namespace Go.Ev.Rp
open Go Go.Ev.Pp
attribute [local irreducible] VC VO VQ VI Sound cm
theorem ZI{T:aN}(F:FT T){ne:Nat}{a0 a1 a2 a3 a4 a5 a6 a7 a8 a9:DC}(cU:(Ty.b).ok a0)(bW:(Ty.q (Bj xN ne)).ok a1)(cG:(Ty.q (AK ne)).ok a2){Z:ak}(e6:aA Z a3)(fI:Z.length≤2)(eA:af xO Z)(bZ:(Ty.i .i64 (-1) 30).ok a4)(cl:(Ty.b).ok a5)(fw:(Ty.l 4 [.i .i64 0 ((ne:Int) -1)]).ok a6){O:ak}(Ep:aA O a7)(N7:O.length≤2)(Er:af nY O){rf:ak}(oy:aA rf a8)(yK:rf.length≤26)(pF:af nY rf){lg:ak}(fv:aA lg a9)(Jw:lg.length≤26)(ig:af [.i .i64 0 ((O.length:Int) -1)] lg)(fL:ne≤30):Sound T 421 [.agg [.d a0,.d a1,.d a2,.d a3,.d a4,.d a5,.d a6],.agg [.d a7,.d a8,.d a9]] fun r=>∃y0 bu,r= .d y0∧aA bu y0∧(bu.length:Int)≤26∧af nY bu:=by
 refine bj F.q421 aa ?_;rcases cU,Ty.bA bW,Ty.bA cG with⟨⟨XX,rfl⟩,⟨bL,U,df,cb⟩,⟨bt,I,dc,Y⟩⟩
 have bV:=Y.1;rcases bZ,cl,fw with⟨⟨bR,rfl,oq,ot⟩,⟨Pg,rfl⟩,⟨gB,fY,yJ,iM⟩⟩
 refine bY 11 aa (aO aa I ?_);refine ro 2 aa ?_;refine au aa ?_ ?_<;>intro h1
 ·exact W
 refine rc 17 aa (dh 5 90 9 16 1 aa aa (bd [12,6,4,3,2,1,0] [6,3,2] aa aa (fun e0 b0 k VE B=>∃G A,an ((5,.ac 90 A.length 1)::(7,.d (dJ G))::e0) VE∧an ((90,.acc 9 16 1 A)::b0) B∧k=((bt.length:Int) -G).toNat∧(0≤G∧(G≤(bt.length:Int)∨G=0))∧((A.length:Int)≤G)∧(af nY A)) ?_ fin));rintro _ VE B⟨G,A,hV,hB,rfl,bS,cM,nO⟩;refine aU _ _ hV hB (aB 6 aa (aO aa I ?_));refine ro 2 aa ?_;refine au aa ?_ ?_<;>intro g2
 ·refine rc 8 aa ?_;obtain⟨_,⟨AM,rfl,GG,CW⟩,_,⟨Dr,rfl,adp,adq⟩,_,⟨L,rfl,hsx3_2⟩,fD⟩:=qI G bV;have hi3:=p5.get Y fD;refine ax (aI aa aa I ae fD aa ?_);refine ro 7 aa (gz 2 aa (oM (b:=[]) aa aa ?_));refine ro 2 aa ?_;refine au aa ?_ ?_<;>intro g5
  ·refine rc 5 aa ?_;refine ax (aX (rows:=A) (ys:=[[(aq L)]]) rfl rfl rfl (.bs (rows:=[[(aq L)]]) rfl) ao ae (fun h=>by rw[h];rfl) (fun h=>by rw[h];rfl) ?_);exact W
  refine rc 7 aa ?_;refine au aa ?_ ?_<;>intro g6
  ·refine rc 4 aa ?_;obtain⟨j7,jv,fR⟩:=bz (z:=AM) (n:=5) ae ae;refine ax (bG rfl (by rw[←jv];rfl) fR ?_);obtain⟨m7,hm7,wb⟩:∃m:List UInt8,([.d (aq []),.d (aq [99,111,117,110,116]),.d (aq [115,117,109]),.d (aq [109,105,110]),.d (aq [109,97,120])]:List VV)[0+j7*1]?=some (.d (aq m))∧m.length≤5:=by
    rcases(by omega:j7=0∨j7=1∨j7=2∨j7=3∨j7=4) with rfl|rfl|rfl|rfl|rfl<;>exact⟨_,rfl,ao⟩
   refine ax (oJ aa aa hm7 ?_);refine ro 1 aa ?_;refine ax (aX (rows:=A) (ys:=[[(aq m7)]]) rfl rfl rfl (.bs (rows:=[[(aq m7)]]) rfl) ao ae (fun h=>by rw[h];rfl) (fun h=>by rw[h];rfl) ?_);exact W
  refine rc 6 aa ?_;obtain⟨_,⟨H4,rfl,ad0,ad1⟩,Ve,MM,x8_2,hx8_2,x8_3,hx8_3,_,⟨M,rfl,hsx8_4⟩,x8_5,hx8_5,x8_6,hx8_6,x8_7,hx8_7,hH⟩:=qI Dr cb;refine ax (aI aa aa U ae hH aa ?_);refine ro 5 aa ?_;refine au aa ?_ ?_<;>intro g9
  ·refine aB 6 aa (aI aa aa U ae hH aa ?_);refine ro 3 aa ?_;refine ax (aX (rows:=A) (ys:=[[(aq M)]]) rfl rfl rfl (.bs (rows:=[[(aq M)]]) rfl) ao ae (fun h=>by rw[h];rfl) (fun h=>by rw[h];rfl) ?_);exact W
  refine rc 3 aa ?_;refine ax (aX (rows:=A) (ys:=[[(aq [101,120,112,114])]]) rfl rfl rfl (.bs (rows:=[[(aq [101,120,112,114])]]) rfl) ao ae (fun h=>by rw[h];rfl) (fun h=>by rw[h];rfl) ?_);exact W
 exact rc 6 aa (cf 4 90 aa aa (fun _=>⟨aa,aa⟩) (W))
end Go.Ev.Rp
