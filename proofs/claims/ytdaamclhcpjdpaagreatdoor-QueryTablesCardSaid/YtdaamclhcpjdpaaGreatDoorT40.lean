/- Part 40 of walks through the code of a program. -/
import Derived.Test.YtdaamclhcpjdpaaGreatDoorT37
set_option linter.unusedVariables false
set_option linter.unusedSimpArgs false
noncomputable section
set_option maxRecDepth 100000
set_option maxHeartbeats 4000000
namespace Go.Ev.Rp
open Go Go.Ev.Pp
attribute [local irreducible] VC VO VQ VI Sound cF
theorem aaS{T:aO}(F:FT T){X:List Int}{a0 a1 a2 a3 a4 a5:DC}(cC:(Ty.x).ok a0)(bX:(Ty.x).ok a1){G:aj}(cu:ao G a2)(cX:G.length≤16)(bS:af (Bo X) G)(ch:(Ty.x).ok a3)(bY:(Ty.x).ok a4)(cB:(Ty.x).ok a5):Sound T 66 [.agg [.d a0,.d a1,.d a2,.d a3,.d a4,.d a5]] fun r=>∃y0 M,r= .d y0∧ao M y0∧(M.length:Int)≤16∧af [.s 1000,.l 100 dk,.l 200 bc,.l 4 dy,.l 4 dj] M∧0≤(M.length:Int)∧(M=[]→y0= .nil)∧(M=G.map (List.take 5)):=by
 refine bg F.q66 aa (r0 15 aa (de 3 90 55 112 5 aa aa (bd [2,1,0] [1] aa aa (fun e0 b0 k VE B=>∃z A,an ((3,.ac 90 A.length 5)::(4,.d (dJ z))::e0) VE∧an ((90,.acc 55 112 5 A)::b0) B∧k=((G.length:Int) -z).toNat∧(0≤z∧(z≤(G.length:Int)∨z=0))∧((A.length:Int)≤z)∧(af [.s 1000,.l 100 dk,.l 200 bc,.l 4 dy,.l 4 dj] A)∧(A=(G.take z.toNat).map (List.take 5))) ?_ fin)));rintro _ VE B⟨z,A,hV,hB,rfl,bR,cM,L,hH⟩;refine aS _ _ hV hB (aB 6 aa (aM aa cu ?_));refine ro 2 aa ?_;refine ax aa ?_ ?_<;>intro g1
 ·refine rc 8 aa ?_;obtain⟨_,⟨I,rfl,rm⟩,O,⟨jy,ia,jg,gk⟩,U,⟨yg,uX,p5,p7⟩,Y,⟨DT,uY,Dx,ru⟩,Z,⟨Uo,AP,Se,AQ⟩,I9,yh,bM⟩:=qI z bS;refine aw (aF aa aa cu ae bM aa ?_);refine ro 3 aa ?_;refine aw (aW (rows:=A) (ys:=[[(al I),O,U,Y,Z]]) rfl rfl rfl (.bs (rows:=[[(al I),O,U,Y,Z]]) rfl) au ae (fun h=>by rw[h];rfl) (fun h=>by rw[h];rfl) ?_);refine aJ 4 aa (bB aa aa ae ae ?_);refine cA 2 aa ?_;exact⟨((G.length:Int) -((z+1))).toNat,ae,(z+1),(A++[[(al I),O,U,Y,Z]]),⟨rfl,rfl,rfl,rfl,rfl,trivial⟩,⟨rfl,rfl,trivial⟩,rfl,ae,cE,(df L (c9 (ah (bC aq) (ah (aL ia ae gk) (ah (aL uX ae p7) (ah (aL uY ae ru) (ah (aL AP ae AQ) bf))))))),(by first|rfl|exact Zk (by assumption) ae (by assumption) rfl)⟩
 refine rc 6 aa (cl 2 90 aa aa (fun _=>⟨aa,aa⟩) (dH 1 aa ?_));exact bD rfl rfl ⟨(.cm A),A,rfl,(.acc _),ae,L,ae,(fun h=>by rw[h];rfl),(YH dz ae)⟩
theorem Zo{T:aO}(F:FT T){X:List Int}{a0 a1 a2 a3 a4 a5:DC}(cC:(Ty.x).ok a0)(bX:(Ty.x).ok a1){L:aj}(M:ao L a2)(cX:L.length≤16)(bS:af (Bo X) L)(ch:(Ty.x).ok a3)(bY:(Ty.x).ok a4)(cB:(Ty.x).ok a5){bx:Int}(lX:(-9223372036854775808)≤bx)(lY:bx≤9223372036854775807)(hX:X.length≤2000000):Sound T 32 [.agg [.d a0,.d a1,.d a2,.d a3,.d a4,.d a5],.d (dJ bx),dB false] fun r=>∃y0 br,r= .d y0∧ao br y0∧(br.length:Int)≤16∧af (Ul X) br∧0≤(br.length:Int)∧(br=[]→y0= .nil):=by
 refine bg F.q32 aa (cf 8 aa (aA aa (aaS (X:=X) F bP bP M ae bS bP bP bP) ?_));rintro _ _⟨eo,eY,rfl,gP,jh,fF,ku,lv,Y⟩;refine aJ 2 aa (aA aa (adO (aH:=bx) F gP ae fF ae ae) ?_);rintro _ _⟨jV,vz,rfl,Dy,AT,uZ,GV,Sf,Z⟩;refine ro 4 aa ?_;have kt:(vz.length:Int)=jk bx L:=by rw[Z,Y,aaI au]
 refine rp 8 aa (de 8 90 161 64 3 aa aa (bd [7,6,3,2,1,0] [3] aa aa (fun e0 b0 k VE B=>∃A I,an ((8,.ac 90 I.length 3)::(9,.d (dJ A))::e0) VE∧an ((90,.acc 161 64 3 I)::b0) B∧k=((L.length:Int) -A).toNat∧(0≤A∧(A≤(L.length:Int)∨A=0))∧((I.length:Int)≤A)∧(af (Ul X) I)∧((I.length:Int)=jk bx (L.take A.toNat))) ?_ fin));rintro _ VE B⟨A,I,hV,hB,rfl,bR,cM,DN,hH⟩;refine aS _ _ hV hB (aB 6 aa (aM aa M ?_));refine ro 2 aa ?_;refine ax aa ?_ ?_<;>intro g3
 ·refine rc 8 aa ?_;obtain⟨po,kB,fu,⟨DU,xA,Dz,xB⟩,qE,oW,Og,tc,Oh,td,Oi,⟨ahA,GW,hnx4_5,Sg⟩,cZ⟩:=qI A bS;refine aw (aF aa aa M ae cZ aa ?_);refine aJ 3 aa (aA aa (ai4 (bO:=bx) F kB xA ae xB oW tc td ae ae) ?_);rintro _ _⟨gM,VU,Of,y5_3,rfl,kS,Ic,Iv,ahB⟩;refine ro 13 aa ?_;refine cO aa ?_ ?_<;>intro h6
  ·have k6:¬_:=fun p=>absurd (ahB.2 p) (by simpa using h6)
   refine aB 3 aa (bB aa aa ae ae ?_);refine cA 2 aa ?_;exact⟨((L.length:Int) -((A+1))).toNat,ae,(A+1),I,⟨rfl,rfl,rfl,rfl,rfl,rfl,rfl,rfl,trivial⟩,⟨rfl,rfl,trivial⟩,rfl,ae,ae,DN,(by first|rfl|(simp only[fv,gy,jP];exact Gp (by assumption) ae (by assumption) (by assumption) (by assumption))|exact Lh (by assumption) ae (by assumption) (by assumption) (by assumption))⟩
  have k6:=ahB.1 (by simpa using h6);refine rc 6 aa ?_;have kv:=visN_lt (w:=L) (t:=bx) (v:=A) ae dz dz dz;obtain⟨jY,lD,oi,⟨Up,xC,Sh,xD⟩,eL⟩:=qI (I.length:Int) uZ;refine aw (aF aa aa Dy ae eL aa ?_);refine ro 11 aa (iQ 12 2 91 156 64 6 aa aa aa (bd [39,24,12,11,10,9,8,7,6,3,2,1,0] [90,10,3] aa aa (fun e0 b0 k VE B=>∃G z,an ((13,.d (dJ G))::e0) VE∧an ((12,.one 161 64 [.d jY,.d oi,.ac 91 z.length 6])::(91,.acc 156 64 6 z)::b0) B∧k=((ahA.length:Int) -G).toNat∧(0≤G∧(G≤(ahA.length:Int)∨G=0))∧((z.length:Int)≤G)∧(af (Uk X) z)) ?_ fin));rintro _ VE B⟨G,z,hV,hB,rfl,fh,gn,O⟩;refine aS _ _ hV hB (aB 7 aa (aF aa aa M ae cZ aa ?_));refine aJ 2 aa (aM aa GW ?_);refine ro 2 aa ?_;refine ax aa ?_ ?_<;>intro g8
  ·refine aB 8 aa (aF aa aa M ae cZ aa ?_);refine ro 3 aa ?_;obtain⟨pj,lB,oh,⟨M3,u6,L6,u7⟩,_,⟨nU,rfl,L0,L1⟩,_,⟨qe,rfl,Si,Sj⟩,_,⟨tf,rfl,adV,adW⟩,_,⟨tg,rfl,adX,adY⟩,eW⟩:=qI G Sg;refine aw (aF aa aa GW ae eW aa ?_);refine aJ 9 aa (aA aa (ProjC F kS Ic Iv u6 ae u7) ?_);rintro _ _⟨iF,xE,rfl,sQ,xm,sR,C8,Q7⟩;refine ro 4 aa ?_;obtain⟨nX,rfl,DA,hqx9_0⟩:=Ty.bE lB;refine rp 4 aa ?_;refine aw (aW (rows:=z) (ys:=[[(dJ nX),iF,(dJ nU),(dJ qe),(dJ tf),(dJ tg)]]) rfl rfl rfl (.bs (rows:=[[(dJ nX),iF,(dJ nU),(dJ qe),(dJ tf),(dJ tg)]]) rfl) au ae (fun h=>by rw[h];rfl) (fun h=>by rw[h];rfl) ?_);exact W
  refine rc 4 aa (eK 78 91 aa aa dx ?_);obtain⟨U,rfl,hsx7_0⟩:=Ty.bC lD;refine ro 1 aa ?_;refine aw (aW (rows:=I) (ys:=[[(al U),oi,(.cm z)]]) rfl rfl rfl (.bs (rows:=[[(al U),oi,(.cm z)]]) rfl) au ae (fun h=>by rw[h];rfl) (fun h=>by rw[h];rfl) ?_);have kt:(vz.length:Int)=jk bx L:=by rw[Z,Y,aaI au]
  refine aJ 4 aa (bB aa aa ae ae ?_);refine cA 2 aa ?_;exact⟨((L.length:Int) -((A+1))).toNat,ae,(A+1),(I++[[(al U),oi,(.cm z)]]),⟨rfl,rfl,rfl,rfl,rfl,rfl,rfl,rfl,trivial⟩,⟨rfl,rfl,trivial⟩,rfl,ae,cE,(df DN (c9 (ah (bC aq) (ah (aL xC ae xD) (ah (aL (.acc _) ae O) bf))))),(by first|rfl|(simp only[fv,gy,jP];exact Gp (by assumption) ae (by assumption) (by assumption) (by assumption))|exact Lh (by assumption) ae (by assumption) (by assumption) (by assumption))⟩
 exact rc 6 aa (cl 6 90 aa aa (fun _=>⟨aa,aa⟩) (W))
theorem TablesX{T:aO}(F:FT T){X:List Int}{a0 a1 a2 a3 a4 a5:DC}(cC:(Ty.x).ok a0)(bX:(Ty.x).ok a1){G:aj}(L:ao G a2)(cX:G.length≤16)(M:af (Bo X) G)(ch:(Ty.x).ok a3)(bY:(Ty.x).ok a4)(cB:(Ty.x).ok a5){bx:Int}(lX:(-9223372036854775808)≤bx)(lY:bx≤9223372036854775807)(hX:X.length≤2000000):Sound T 15 [.agg [.d a0,.d a1,.d a2,.d a3,.d a4,.d a5],.d (dJ bx)] fun r=>∃y0 I,r= .d y0∧ao I y0∧(I.length:Int)≤16∧af (MZ X) I:=by
 refine bg F.q15 aa (cf 9 aa (aA aa (Zo (bx:=bx) (X:=X) F bP bP L ae M bP bP bP ae ae ae) ?_));rintro _ _⟨eo,eY,rfl,z,O,A,U,Y⟩;refine aJ 1 aa (aA aa (TAsX (X:=X) F z ae A ai ae) ?_);rintro _ _⟨jV,vz,rfl,Z,AT,uZ,GV,Sf⟩;exact W
end Go.Ev.Rp
namespace Go.Ev.Rp
open Go Go.Ev.Pp
attribute [local irreducible] VC VO VQ VI Sound cF
theorem opX{T:aO}(F:FT T){O:DC}(G:(Ty.i .i64 0 12).ok O):Sound T 515 [.d O] fun r=>∃U,r= .d U∧(Ty.i .i64 0 100).ok U:=by
 refine bg F.q515 aa ?_;obtain⟨aK,rfl,Y,Z⟩:=G;refine r0 13 aa ?_;obtain⟨A,I,L⟩:=bF (z:=aK) (n:=13) ae ae;refine aw (bI rfl (by rw[←I];rfl) L ?_);obtain⟨m1,M,im,um1⟩:∃m:Int,([.d (.i .i64 0),.d (.i .i64 1),.d (.i .i64 2),.d (.i .i64 3),.d (.i .i64 4),.d (.i .i64 5),.d (.i .i64 6),.d (.i .i64 7),.d (.i .i64 7),.d (.i .i64 8),.d (.i .i64 9),.d (.i .i64 10),.d (.i .i64 11)]:List VV)[0+A*1]?=some (.d (.i .i64 m))∧0≤m∧m≤11:=by
  rcases(by omega:A=0∨A=1∨A=2∨A=3∨A=4∨A=5∨A=6∨A=7∨A=8∨A=9∨A=10∨A=11∨A=12) with rfl|rfl|rfl|rfl|rfl|rfl|rfl|rfl|rfl|rfl|rfl|rfl|rfl<;>exact⟨_,rfl,ae,ae⟩
 refine aw (iP aa aa M ?_);exact dR 3 aa (bD aa aa fin)
theorem aaT{T:aO}(F:FT T){a0 a1 a2 a3 a4 a5 a6 a7 a8 a9:DC}(z:(Ty.i .i64 0 12).ok a0)(A:(Ty.i .i64 0 30).ok a1)(G:(Ty.i .i64 0 30).ok a2)(I:(Ty.s 1000).ok a3)(L:(Ty.s 1000).ok a4)(M:tJ.ok a5)(O:tJ.ok a6)(U:(Ty.s 1000).ok a7)(Y:(Ty.i .i64 0 60).ok a8)(Z:(Ty.i .i64 0 40).ok a9):Sound T 419 [.agg [.d a0,.d a1,.d a2,.d a3,.d a4,.d a5,.d a6,.d a7],.d a8,.d a9] fun r=>∃y0 y1 y2 y3 y4 y5 y6,r= .agg [.d y0,.d y1,.d y2,.d y3,.d y4,.d y5,.d y6]∧(Ty.i .i64 0 100).ok y0∧(Ty.i .i64 0 100).ok y1∧(Ty.i .i64 0 100).ok y2∧(Ty.i .i64 0 100).ok y3∧tJ.ok y4∧tJ.ok y5∧(Ty.s 1000).ok y6:=by
 refine bg F.q419 aa ?_;rcases z,A,G,I,L,M,O,U,Y,Z with⟨⟨aK,rfl,gZ,hD⟩,⟨aH,rfl,ey,dW⟩,⟨bA,rfl,lN,lO⟩,⟨sa3,rfl,ajf⟩,⟨sa4,rfl,hsa4⟩,⟨bO,rfl,oo,oq⟩,⟨bx,rfl,oe,og⟩,⟨Pq,rfl,OE⟩,⟨hY,rfl,zb,zc⟩,⟨fP,rfl,EK,EL⟩⟩
 refine cf 9 aa (aA aa (opX F ai) ?_);rintro _ _⟨eo,rfl,oV⟩;exact W
theorem C1{T:aO}(F:FT T){ne:Nat}{a0 a1 a2 a3 a4 a5 a6:DC}(Z:(Ty.b).ok a0)(bX:(Ty.q (BR yb ne)).ok a1)(cN:(Ty.q (Bl ne)).ok a2){G:aj}(ez:ao G a3)(fe:G.length≤2)(dQ:af yd G)(bY:(Ty.i .i64 (-1) 30).ok a4)(cB:(Ty.b).ok a5)(fE:(Ty.l 4 [.i .i64 0 ((ne:Int) -1)]).ok a6)(fO:ne≤30):Sound T 420 [.agg [.d a0,.d a1,.d a2,.d a3,.d a4,.d a5,.d a6]] fun r=>∃y0,r= .d y0∧(Ty.b).ok y0:=by
 refine bg F.q420 aa ?_;rcases Z,Ty.bE bX,Ty.bE cN with⟨⟨Yq,rfl⟩,⟨bN,cW,dg,cq⟩,⟨bu,I,cX,A⟩⟩
 have L:=A.1;rcases bY,cB,fE with⟨⟨bT,rfl,oj,om⟩,⟨Pt,rfl⟩,⟨gG,gi,zn,iN⟩⟩
 refine r0 11 aa (bd [2,1,0] [1] aa aa (fun e0 b0 k VE B=>∃z,an ((3,.d (dJ z))::e0) VE∧an b0 B∧dT k 0 z (bu.length:Int)) ?_ fin);rintro _ VE B⟨z,hV,hB,rfl,bR⟩;refine aS _ _ hV hB (aB 6 aa (aM aa I ?_));refine ro 2 aa ?_;refine ax aa ?_ ?_<;>intro g1
 ·refine rc 8 aa ?_;obtain⟨_,⟨ml,rfl,M,O⟩,_,⟨vE,rfl,U,Y⟩,fg,fT,bM⟩:=qI z L;have sd:=pT.get A bM;exact W
 exact W
theorem aaU{T:aO}(F:FT T){ne:Nat}{a0 a1 a2 a3 a4 a5 a6 a7:DC}(cC:(Ty.b).ok a0)(bX:(Ty.q (BR yb ne)).ok a1)(cN:(Ty.q (Bl ne)).ok a2){I:aj}(ez:ao I a3)(fe:I.length≤2)(dQ:af yd I)(bY:(Ty.i .i64 (-1) 30).ok a4)(cB:(Ty.b).ok a5)(fE:(Ty.l 4 [.i .i64 0 ((ne:Int) -1)]).ok a6)(fX:tJ.ok a7)(fO:ne≤30):Sound T 418 [.agg [.d a0,.d a1,.d a2,.d a3,.d a4,.d a5,.d a6],.d a7] fun r=>∃y0,r= .d y0∧tJ.ok y0:=by
 refine bg F.q418 aa ?_;rcases cC,Ty.bE bX,Ty.bE cN with⟨⟨Yq,rfl⟩,⟨bN,cW,dg,cq⟩,⟨M,O,cX,L⟩⟩
 have U:=L.1;rcases bY,cB,fE,fX with⟨⟨bT,rfl,oj,om⟩,⟨Pt,rfl⟩,⟨gG,gi,zn,iN⟩,⟨dh,rfl,rS,rT⟩⟩
 refine r0 15 aa (bd [4,2,1,0] [2] aa aa (fun e0 b0 k VE B=>∃A z,an ((5,.d (dJ A))::(6,.d (dJ z))::e0) VE∧an b0 B∧k=((M.length:Int) -z).toNat∧(0≤A∧A≤31)∧(0≤z∧(z≤(M.length:Int)∨z=0))) ?_ fin);rintro _ VE B⟨A,z,hV,hB,rfl,bR,cM⟩;refine aS _ _ hV hB (aB 6 aa (aM aa O ?_));refine ro 2 aa ?_;refine ax aa ?_ ?_<;>intro g1
 ·refine rc 8 aa ?_;obtain⟨_,⟨ml,rfl,Y,Z⟩,_,⟨vE,rfl,uV,pY⟩,fg,fT,bM⟩:=qI z U;have sd:=pT.get L bM;exact W
 refine rc 8 aa ?_;refine ax aa ?_ ?_<;>intro h4
 ·exact W
 refine rc 7 aa (bd [31,12,6,5,4,2,1,0] [2] aa aa (fun e0 b0 k VE B=>∃G,an ((7,.d (dJ G))::e0) VE∧an b0 B∧dT k 1 G (I.length:Int)) ?_ fin);rintro _ VE B⟨G,hV,hB,rfl,fh⟩;exact aS _ _ hV hB (W)
theorem ac5{T:aO}(F:FT T){a0 a1 a2 a3 a4 a5 a6 a7 a8 a9 Y Z:DC}{I:aj}(cg:ao I a0)(cI:I.length≤2)(bJ:af nV I){G:aj}(M:ao G a1)(dg:G.length≤26)(cq:af nV G){L:aj}(wu:G.length≤L.length)(O:ao L a2)(cX:L.length≤26)(bS:af [.i .i64 0 ((I.length:Int) -1)] L)(ch:(Ty.i .i64 0 12).ok a3)(bY:(Ty.i .i64 0 30).ok a4)(cB:(Ty.i .i64 0 30).ok a5)(fE:(Ty.s 1000).ok a6)(fX:(Ty.s 1000).ok a7)(gq:tJ.ok a8)(jr:tJ.ok a9)(lT:(Ty.s 1000).ok Y)(pv:tJ.ok Z):Sound T 417 [.agg [.d a0,.d a1,.d a2],.agg [.d a3,.d a4,.d a5,.d a6,.d a7,.d a8,.d a9,.d Y],.d Z] fun r=>∃y0 y1,r= .tuple [.d y0,.d y1]∧(Ty.i .i64 0 40).ok y0∧tJ.ok y1:=by
 refine bg F.q417 aa ?_;rcases ch,bY,cB,fE,fX,gq,jr,lT,pv with⟨⟨bn,rfl,mB,mC⟩,⟨bT,rfl,oj,om⟩,⟨bO,rfl,oo,oq⟩,⟨Fs,rfl,Ov⟩,⟨Pq,rfl,OE⟩,⟨hY,rfl,zb,zc⟩,⟨fP,rfl,EK,EL⟩,⟨sa10,rfl,hsa10⟩,⟨ik,rfl,UP,UQ⟩⟩
 refine r0 17 aa (bd [7,6,4,3,2,1,0] [4,3] aa aa (fun e0 b0 k VE B=>∃A z,an ((8,.d (dJ A))::(9,.d (dJ z))::e0) VE∧an b0 B∧k=((G.length:Int) -z).toNat∧(-1≤A∧A≤25)∧(0≤z∧(z≤(G.length:Int)∨z=0))) ?_ fin);rintro _ VE B⟨A,z,hV,hB,rfl,bR,cM⟩;refine aS _ _ hV hB (aB 6 aa (aM aa M ?_));refine ro 2 aa ?_;refine ax aa ?_ ?_<;>intro g1
 ·refine rc 9 aa ?_;obtain⟨_,⟨U,rfl,mT,nM⟩,bM⟩:=qI z bS;refine aT (aF aa aa O ae bM aa ?_);refine cr aa aa (c4 aa aa ?_);refine rq 3 aa ?_;refine dK aa ?_ ?_<;>intro g3
  ·refine rq 14 aa (bL aa (dA aa (bL aa (dA aa (bL aa (bL aa (dA aa (bL aa (dA aa ?_)))))))));exact bL aa (dA aa (bL aa (rq 2 aa (W))))
  refine rq 3 aa ?_;obtain⟨_,⟨sx4_0,rfl,hsx4_0⟩,cZ⟩:=qI z cq;refine cb aa aa (aF aa aa M ae cZ aa ?_);refine rq 3 aa (cb aa aa (nE aa aa ?_));refine rq 2 aa ?_;refine dK aa ?_ ?_<;>intro g6
  ·refine rq 4 aa (bL aa (dA aa (bL aa (dA aa (bL aa (bL aa (dA aa (bL aa (dA aa ?_)))))))));exact bL aa (dA aa (bL aa (rq 2 aa (W))))
  refine rq 2 aa (cb aa aa (nE (b:=[]) aa aa ?_));refine rq 1 aa ?_;refine dK aa ?_ ?_<;>intro g8
  ·refine rq 5 aa (cb aa aa (aF aa aa O ae bM aa ?_));refine rq 1 aa ?_;obtain⟨_,⟨sx9_0,rfl,hsx9_0⟩,eW⟩:=qI U bJ;refine cb aa aa (aF aa aa cg ae eW aa ?_);refine rq 3 aa (cb aa aa (nE aa aa ?_));exact rq 2 aa (W)
  exact rq 14 aa (W)
 exact W
end Go.Ev.Rp
namespace Go.Ev.Rp
open Go Go.Ev.Pp
attribute [local irreducible] VC VO VQ VI Sound cF
theorem ahC{T:aO}(F:FT T){ne:Nat}{a0 a1 a2 a3 a4 a5 a6 a7:DC}(cC:(Ty.b).ok a0)(bX:(Ty.q (BR yb ne)).ok a1)(cN:(Ty.q (Bl ne)).ok a2){Z:aj}(ez:ao Z a3)(fe:Z.length≤2)(dQ:af yd Z)(bY:(Ty.i .i64 (-1) 30).ok a4)(cB:(Ty.b).ok a5)(fE:(Ty.l 4 [.i .i64 0 ((ne:Int) -1)]).ok a6){wK:aj}(EI:ao wK a7)(Oe:wK.length≤16)(EJ:af [.s 1000,.l 100 dk,.l 200 bc,.l 4 dy,.l 4 dj] wK){hY:Int}(la8:(-9223372036854775808)≤hY)(ua8:hY≤9223372036854775807)(fO:ne≤30):Sound T 416 [.agg [.d a0,.d a1,.d a2,.d a3,.d a4,.d a5,.d a6],.d a7,.d (dJ hY),dB false] fun r=>∃y0 br y2 ee y4 Ag y6,r= .tuple [.agg [.d y0,.d y2,.d y4],.d (dJ y6)]∧ao br y0∧(br.length:Int)≤2∧af nV br∧ao ee y2∧(ee.length:Int)≤26∧af nV ee∧ao Ag y4∧(Ag.length:Int)≤26∧af [.i .i64 0 ((Z.length:Int) -1)] Ag∧((-9223372036854775808)≤y6∧y6≤9223372036854775807∧(y6=0→(br.length:Int)=Z.length∧Ag.length=ee.length)):=by
 refine bg F.q416 aa ?_;rcases cC,Ty.bE bX,Ty.bE cN with⟨⟨Yq,rfl⟩,⟨bN,cW,dg,cq⟩,⟨bu,cu,cX,hqa2⟩⟩
 have bS:=hqa2.1;rcases bY,cB,fE with⟨⟨bT,rfl,oj,om⟩,⟨Pt,rfl⟩,⟨gG,gi,zn,iN⟩⟩
 refine r0 16 aa (iQ 10 0 90 9 16 1 aa aa aa (iQ 10 1 91 9 16 1 aa aa aa (iQ 10 2 92 3 8 1 aa aa aa (bd [10,9,8,4,3,2,1,0] [8,4] aa aa (fun e0 b0 k VE B=>∃G A M O,an ((11,.d (dJ G))::e0) VE∧an ((10,.one 574 72 [.ac 90 A.length 1,.ac 91 M.length 1,.ac 92 O.length 1])::(90,.acc 9 16 1 A)::(91,.acc 9 16 1 M)::(92,.acc 3 8 1 O)::b0) B∧k=((Z.length:Int) -G).toNat∧(0≤G∧(G≤(Z.length:Int)∨G=0))∧((A.length:Int)≤G)∧(af nV A)∧((M.length:Int)≤13*G)∧(af nV M)∧((O.length:Int)≤13*G)∧(af [.i .i64 0 ((Z.length:Int) -1)] O)∧((A.length:Int)=G)∧(O.length=M.length)) ?_ fin))));rintro _ VE B⟨G,A,M,O,hV,hB,rfl,bR,cM,hrw10_0_0,hH,hrw10_1_0,BX,hrw10_2_0,akc,f0_8⟩;refine aS _ _ hV hB (aB 6 aa (aM aa ez ?_));refine ro 2 aa ?_;refine ax aa ?_ ?_<;>intro g1
 ·refine rc 9 aa ?_;obtain⟨gm,gx,ff,iW,fg,fT,jB,iV,bM⟩:=qI G dQ;refine aw (aF aa aa ez ae bM aa ?_);refine aJ 4 aa (aA aa (visibleV (bA:=hY) F EI ae EJ iW ae ae) ?_);rintro _ _⟨jX,nW,_,rfl,rn,AN,p0,ahb,rfl⟩;refine ro 9 aa (rp 3 aa ?_);refine cO aa ?_ ?_<;>intro h4
  ·exact rc 3 aa (eK 39 90 aa aa dx (eK 39 91 aa aa dx (eK 39 92 aa aa dx (W))))
  refine aB 6 aa (aF aa aa ez ae bM aa ?_);refine ro 4 aa (dE [38,21,13,12,11,10,9,8,4,3,2,1,0] [92,91,90,10,8,4] aa aa (fun e0 b0 VE B=>∃TD,an ((14,.d TD)::e0) VE∧an b0 B∧((Ty.s 1000).ok TD)) ?_ ?_)
  ·exact W
  rintro VE B⟨TD,hV,hB,ac6⟩;refine aS _ _ hV hB (rc 6 aa (bd [38,21,14,13,12,11,10,9,8,4,3,2,1,0] [92,91,90,10,8,4] aa aa (fun e0 b0 k VE B=>∃NC,an ((15,.d (dJ NC))::e0) VE∧an b0 B∧dT k 0 NC (A.length:Int)) ?_ fin));rintro _ VE B⟨NC,hV,hB,rfl,fh⟩;refine aS _ _ hV hB (rc 9 aa ?_);refine ax aa ?_ ?_<;>intro g7
  ·refine rc 8 aa ?_;obtain⟨j8,Kn,zW⟩:=bF (z:=NC) (n:=A.length) ae ae;obtain⟨_,⟨sx8_0,rfl,hsx8_0⟩,jt⟩:=qN zW hrw10_0_0;refine aw (di rfl (by rw[←Kn];rfl) zW ?_);refine aw (fk (rows:=A) aa aa jt aa ?_);obtain⟨Y,rfl,hsv14_j4⟩:=Ty.bC ac6;refine aJ 1 aa (Ar aa aa ?_);refine ro 1 aa ?_;refine ax aa ?_ ?_<;>intro uq
   ·exact rc 3 aa (eK 68 90 aa aa dx (eK 68 91 aa aa dx (eK 68 92 aa aa dx (W))))
   exact W
  refine rc 3 aa ?_;obtain⟨Y,rfl,hsv14_j4⟩:=Ty.bC ac6;refine rp 4 aa ?_;refine aw (aW (rows:=A) (ys:=[[(al Y)]]) rfl rfl rfl (.bs (rows:=[[(al Y)]]) rfl) au ae (fun h=>by rw[h];rfl) (fun h=>by rw[h];rfl) ?_);refine ro 8 aa (bd [58,38,21,15,14,13,12,11,10,9,8,4,3,2,1,0] [90,72,8,4] aa aa (fun e0 b0 k VE B=>∃U I L,an ((16,.d (dJ U))::e0) VE∧an ((10,.one 574 72 [.ac 90 (A++[[(al Y)]]).length 1,.ac 91 I.length 1,.ac 92 L.length 1])::(91,.acc 9 16 1 I)::(92,.acc 3 8 1 L)::b0) B∧k=((nW.length:Int) -U).toNat∧(0≤U∧(U≤(nW.length:Int)∨U=0))∧((I.length:Int)≤13*G+U)∧(af nV I)∧((L.length:Int)≤13*G+U)∧(af [.i .i64 0 ((Z.length:Int) -1)] L)∧(L.length=I.length)) ?_ fin);rintro _ VE B⟨U,I,L,hV,hB,rfl,ot,zu,hrw10_1_2,f2_3,hrw10_2_2,f2_5⟩;refine aS _ _ hV hB (aB 5 aa (aM aa rn ?_));refine ro 2 aa ?_;refine ax aa ?_ ?_<;>intro l7
  ·refine rc 9 aa ?_;obtain⟨qh,nO,_,⟨afD,rfl,hsx12_1⟩,UM,Mq,iY⟩:=qI U p0;refine aT (aF aa aa rn ae iY aa ?_);refine rq 1 aa (cr aa aa (c4 aa aa ?_));refine rq 1 aa ?_;refine aP rfl (aW (rows:=I) (ys:=[[(al afD)]]) rfl rfl rfl (.bs (rows:=[[(al afD)]]) rfl) au ae (fun h=>by rw[h];rfl) (fun h=>by rw[h];rfl) ?_);refine rq 8 aa ?_;refine aw (aW (rows:=L) (ys:=[[(dJ G)]]) rfl rfl rfl (.bs (rows:=[[(dJ G)]]) rfl) au ae (fun h=>by rw[h];rfl) (fun h=>by rw[h];rfl) ?_);exact W
  exact W
 exact rc 4 aa (eK 97 90 aa aa dx (eK 97 91 aa aa dx (eK 97 92 aa aa dx (W))))
end Go.Ev.Rp
namespace Go.Ev.Rp
open Go Go.Ev.Pp
attribute [local irreducible] VC VO VQ VI Sound cF
theorem Z7{T:aO}(F:FT T){ne:Nat}{a0 a1 a2 a3 a4 a5 a6 a7 a8 a9:DC}(cC:(Ty.b).ok a0)(bX:(Ty.q (BR yb ne)).ok a1)(cN:(Ty.q (Bl ne)).ok a2){Z:aj}(ez:ao Z a3)(fe:Z.length≤2)(dQ:af yd Z)(bY:(Ty.i .i64 (-1) 30).ok a4)(cB:(Ty.b).ok a5)(fE:(Ty.l 4 [.i .i64 0 ((ne:Int) -1)]).ok a6){O:aj}(EI:ao O a7)(Oe:O.length≤2)(EJ:af nV O){qX:aj}(ou:ao qX a8)(zo:qX.length≤26)(pw:af nV qX){lg:aj}(fD:ao lg a9)(Jz:lg.length≤26)(il:af [.i .i64 0 ((O.length:Int) -1)] lg)(fO:ne≤30):Sound T 421 [.agg [.d a0,.d a1,.d a2,.d a3,.d a4,.d a5,.d a6],.agg [.d a7,.d a8,.d a9]] fun r=>∃y0 br,r= .d y0∧ao br y0∧(br.length:Int)≤26∧af nV br:=by
 refine bg F.q421 aa ?_;rcases cC,Ty.bE bX,Ty.bE cN with⟨⟨Yq,rfl⟩,⟨bN,U,dg,cq⟩,⟨bu,I,cX,Y⟩⟩
 have bS:=Y.1;rcases bY,cB,fE with⟨⟨bT,rfl,oj,om⟩,⟨Pt,rfl⟩,⟨gG,gi,zn,iN⟩⟩
 refine cf 11 aa (aM aa I ?_);refine ro 2 aa ?_;refine ax aa ?_ ?_<;>intro h1
 ·exact W
 refine rc 17 aa (de 5 90 9 16 1 aa aa (bd [12,6,4,3,2,1,0] [6,3,2] aa aa (fun e0 b0 k VE B=>∃G A,an ((5,.ac 90 A.length 1)::(7,.d (dJ G))::e0) VE∧an ((90,.acc 9 16 1 A)::b0) B∧k=((bu.length:Int) -G).toNat∧(0≤G∧(G≤(bu.length:Int)∨G=0))∧((A.length:Int)≤G)∧(af nV A)) ?_ fin));rintro _ VE B⟨G,A,hV,hB,rfl,bR,cM,p9⟩;refine aS _ _ hV hB (aB 6 aa (aM aa I ?_));refine ro 2 aa ?_;refine ax aa ?_ ?_<;>intro g2
 ·refine rc 8 aa ?_;obtain⟨_,⟨M4,rfl,L8,GY⟩,_,⟨Uu,rfl,hzx3_1,kzx3_1⟩,_,⟨L,rfl,hsx3_2⟩,eS⟩:=qI G bS;have hi3:=pT.get Y eS;refine aw (aF aa aa I ae eS aa ?_);refine ro 7 aa (iw 2 aa (nE (b:=[]) aa aa ?_));refine ro 2 aa ?_;refine ax aa ?_ ?_<;>intro g5
  ·refine rc 5 aa ?_;refine aw (aW (rows:=A) (ys:=[[(al L)]]) rfl rfl rfl (.bs (rows:=[[(al L)]]) rfl) au ae (fun h=>by rw[h];rfl) (fun h=>by rw[h];rfl) ?_);exact W
  refine rc 7 aa ?_;refine ax aa ?_ ?_<;>intro g6
  ·refine rc 4 aa ?_;obtain⟨j7,jI,fZ⟩:=bF (z:=M4) (n:=5) ae ae;refine aw (bI rfl (by rw[←jI];rfl) fZ ?_);obtain⟨m7,hm7,wB⟩:∃m:List UInt8,([.d (al []),.d (al [99,111,117,110,116]),.d (al [115,117,109]),.d (al [109,105,110]),.d (al [109,97,120])]:List VV)[0+j7*1]?=some (.d (al m))∧m.length≤5:=by
    rcases(by omega:j7=0∨j7=1∨j7=2∨j7=3∨j7=4) with rfl|rfl|rfl|rfl|rfl<;>exact⟨_,rfl,au⟩
   refine aw (iP aa aa hm7 ?_);refine ro 1 aa ?_;refine aw (aW (rows:=A) (ys:=[[(al m7)]]) rfl rfl rfl (.bs (rows:=[[(al m7)]]) rfl) au ae (fun h=>by rw[h];rfl) (fun h=>by rw[h];rfl) ?_);exact W
  refine rc 6 aa ?_;obtain⟨_,⟨Ih,rfl,aeq,aer⟩,ajr,ag1,x8_2,hx8_2,x8_3,hx8_3,_,⟨M,rfl,hsx8_4⟩,x8_5,hx8_5,x8_6,hx8_6,x8_7,hx8_7,jt⟩:=qI Uu cq;refine aw (aF aa aa U ae jt aa ?_);refine ro 5 aa ?_;refine ax aa ?_ ?_<;>intro g9
  ·refine aB 6 aa (aF aa aa U ae jt aa ?_);refine ro 3 aa ?_;refine aw (aW (rows:=A) (ys:=[[(al M)]]) rfl rfl rfl (.bs (rows:=[[(al M)]]) rfl) au ae (fun h=>by rw[h];rfl) (fun h=>by rw[h];rfl) ?_);exact W
  refine rc 3 aa ?_;refine aw (aW (rows:=A) (ys:=[[(al [101,120,112,114])]]) rfl rfl rfl (.bs (rows:=[[(al [101,120,112,114])]]) rfl) au ae (fun h=>by rw[h];rfl) (fun h=>by rw[h];rfl) ?_);exact W
 exact rc 6 aa (cl 4 90 aa aa (fun _=>⟨aa,aa⟩) (W))
end Go.Ev.Rp
