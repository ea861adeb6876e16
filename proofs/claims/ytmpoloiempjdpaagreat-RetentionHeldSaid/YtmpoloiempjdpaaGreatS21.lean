/- Part 21 of rules for walks through the code of a program, and of such walks; what each part proves is said by its theorems. -/
import Derived.Test.YtmpoloiempjdpaaGreatS12
import Derived.Test.YtmpoloiempjdpaaGreatS14
import Derived.Test.YtmpoloiempjdpaaGreatS19
import Derived.Test.YtmpoloiempjdpaaGreatS20
set_option linter.unusedVariables false
set_option linter.unusedSimpArgs false
noncomputable section
set_option maxRecDepth 100000
set_option maxHeartbeats 4000000
namespace Go.Ev.Rp
open Go Go.Ev.Pp
attribute [local irreducible] VC VO VQ VI Sound bW
theorem ColumnsC{T:aL}(F:FT T){a0 a1:DC}{bM:ah}(I:au bM a0)(cM:bM.length≤1000000000)(bO:af ey bM)(bX:tJ.ok a1):Sound T 202 [.d a0,.d a1] fun r=>∃y0 bt,r= .d y0∧au bt y0∧(bt.length:Int)≤1000000000∧af bn bt∧0≤(bt.length:Int)∧(bt=[]→y0= .nil):=by
 refine bk F.q202 aa ?_;obtain⟨aN,rfl,eD,eo⟩:=bX;refine r0 10 aa ?_;refine bu aa ?_ ?_<;>intro h1
 ·exact W
 refine ro 2 aa (bw aa aa (aR aa I ?_));refine ro 3 aa ?_;refine ay aa ?_ ?_<;>intro h2
 ·exact W
 refine aB 4 aa (bB aa aa ae ae ?_);obtain⟨n3,gV⟩:∃n:Nat,(aN+1)=n:=⟨((aN+1)).toNat,(AX ae).symm⟩;refine aq (FM (n:=n3) 19 rfl rfl rfl rfl rfl (by rw[←gV];rfl) (by rw[←gV];rfl) ae ae (fun w3 Ys P0=>?_));have qo:af [.b] w3:=by subst Ys;exact FK (aj eU bm)
 refine ro 6 aa ?_;obtain⟨j4,ov,lG⟩:=bx (z:=aN) (n:=w3.length) ae ae;obtain⟨o5,kx,dh⟩:=qN lG qo;refine aq (eP rfl (by rw[←ov];rfl) lG ?_);refine iT (rT aa aa aa aa aa aa ao ao dh (fun w5 Kf Fq=>?_));have Cv:af [.b] w5:=by rw[Kf];exact ff qo (aj eU bm)
 rw[←Fq];refine ro 12 aa (bh [16,4,1,0] [] aa aa (fun e0 b0 k VE B=>∃O mD Y Z A,ak ((5,.bs 19 Z 1)::(6,.d mD)::(7,.d (dJ O))::e0) VE∧ak ((19,.arr 4 1 1 Z A)::b0) B∧k=(O+1).toNat∧(-1≤O∧O≤aN)∧(au Y mD)∧((Y.length:Int)≤aN-O)∧(af bn Y)∧(Y=[]→mD= .nil)∧(A.length=Z)∧(Z=w5.length)∧(af [.b] A)) ?_ fin);rintro _ VE B⟨O,mD,Y,Z,A,hV,hB,rfl,bU,hdv6_0,uC,hrv6_0,hev6_0,rfl,ajr,R0⟩;refine aT _ _ hV hB (rc 6 aa ?_);refine ay aa ?_ ?_<;>intro g6
 ·refine rc 8 aa ?_;obtain⟨j7,im,fm⟩:=bx (z:=O) (n:=A.length) ae ae;obtain⟨_,⟨bx7_0,rfl⟩,eF⟩:=qN fm R0;refine aq (eP rfl (by rw[←im];rfl) fm ?_);refine aq (jM (rows:=A) aa aa (bd _) (bd _) fm eF aa ?_);refine ro 2 aa ?_;refine cF aa ?_ ?_<;>intro h8
  ·exact W
  refine rc 5 aa ?_;obtain⟨_,⟨Il,rfl,Tl,kzx9_0⟩,_,⟨MU,rfl,aek,ael⟩,_,⟨DL,rfl,aem,aen⟩,_,⟨Ng,rfl,hzx9_3,kzx9_3⟩,EE,uc,EF,Bf,Pa,DY,fw⟩:=qI O bO;refine aq (aH aa aa I ae fw aa ?_);refine aP 2 aa (aA aa (M7 (aI:=Il) F ae ae) ?_);rintro _ _⟨nO,rfl,Av⟩;refine ro 2 aa (dP [32,25,16,8,7,6,4,1,0] [] aa aa (fun e0 b0 VE B=>∃L G,ak ((5,.bs 19 L 1)::e0) VE∧ak ((19,.arr 4 1 1 L G)::b0) B∧(G.length=L)∧(L=A.length)∧(af [.b] G)) ?_ ?_)
  ·refine rc 5 aa ?_;refine bu aa ?_ ?_<;>intro lY
   ·refine ro 2 aa (bw aa aa (aH aa aa I ae fw aa ?_));refine ro 2 aa (rp 3 aa ?_);refine bu aa ?_ ?_<;>intro zy
    ·refine ro 2 aa (bw aa aa (aH aa aa I ae fw aa ?_));refine ro 6 aa ?_;refine ay aa ?_ ?_<;>intro ox
     ·refine aB 4 aa (aH aa aa I ae fw aa ?_);refine ro 2 aa ?_;obtain⟨qn,sP,pY⟩:=bx (z:=MU) (n:=A.length) ae ae;obtain⟨MY,GQ,iI⟩:=qN pY R0;refine aq (eP rfl (by rw[←sP];rfl) pY ?_);refine iT (rT aa aa aa aa aa aa ao ao iI (fun Fi hw15 ajS=>?_));have ajL:af [.b] Fi:=by rw[hw15];exact ff R0 (aj eU bm)
      rw[←ajS];exact W
     exact W
    exact W
   exact W
  rintro VE B⟨L,G,hV,hB,rfl,UP,abr⟩;refine aT _ _ hV hB (dP [32,25,16,8,7,6,4,1,0] [] aa aa (fun e0 b0 VE B=>∃M U,ak ((5,.bs 19 M 1)::e0) VE∧ak ((19,.arr 4 1 1 M U)::b0) B∧(U.length=M)∧(M=G.length)∧(af [.b] U)) ?_ ?_)
  ·refine rc 5 aa ?_;refine bu aa ?_ ?_<;>intro qs
   ·refine ro 2 aa (bw aa aa (aH aa aa I ae fw aa ?_));refine ro 2 aa (rp 3 aa ?_);refine bu aa ?_ ?_<;>intro tn
    ·refine ro 2 aa (bw aa aa (aH aa aa I ae fw aa ?_));refine ro 6 aa ?_;refine ay aa ?_ ?_<;>intro uM
     ·refine aB 4 aa (aH aa aa I ae fw aa ?_);refine ro 2 aa ?_;obtain⟨tp,BW,BX⟩:=bx (z:=DL) (n:=G.length) ae ae;obtain⟨yn,G0,oc⟩:=qN BX abr;refine aq (eP rfl (by rw[←BW];rfl) BX ?_);refine iT (rT aa aa aa aa aa aa ao ao oc (fun mN B7 yV=>?_));have uB:af [.b] mN:=by rw[B7];exact ff abr (aj eU bm)
      rw[←yV];exact W
     exact W
    exact W
   exact W
  rintro VE B⟨M,U,hV,hB,rfl,aht,hrw19_j6⟩;refine aT _ _ hV hB (aB 4 aa (aH aa aa I ae fw aa ?_));refine ro 4 aa ?_;refine ay aa ?_ ?_<;>intro Kn
  ·refine aB 4 aa (aH aa aa I ae fw aa ?_);refine ro 3 aa ?_;have hb22:af bn [[(dJ Ng)]]:=(cI (aj al bm) cj);refine eS 103 103 aa aa (fun _=>⟨aa,aa⟩) (aq (aA aa (xN F hdv6_0 ae hrv6_0 (.inl aa) ae hb22) ?_));rintro _ _⟨Nh,Tm,rfl,CW,R1,CX,acM,hey23_0⟩;exact W
  exact W
 exact W
theorem ae5{T:aL}(F:FT T){a0 a1 a2 a3 a4 a5 a6 a7:DC}(cV:(Ty.s 1000).ok a0){U:ah}(cO:au U a1)(dm:U.length≤100)(cl:af dX U)(cK:(Ty.l 200 bn).ok a2)(cw:(Ty.l 4 ew).ok a3)(cb:(Ty.l 4 dW).ok a4)(cq:tJ.ok a5){Y:ah}(M:au Y a6)(yW:Y.length≤1000000000)(O:af ey Y)(gn:tJ.ok a7):Sound T 143 [.agg [.d a0,.d a1,.d a2,.d a3,.d a4],.d a5,.d a6,.d a7] fun r=>∃y0 y1,r= .tuple [.d y0,.d y1]∧tJ.ok y0∧tJ.ok y1:=by
 refine bk F.q143 aa ?_;rcases cV,cK,cw,cb,cq,gn with⟨⟨gU,rfl,kE⟩,⟨bz,cr,cY,bY⟩,⟨dD,eZ,fO,eu⟩,⟨et,dE,e9,dk⟩,⟨cm,rfl,nq,nr⟩,⟨ca,rfl,sT,sU⟩⟩
 refine bV 10 aa (aA aa (Dn F (bH an) cO ae cl (aM cr ae bY) (aM eZ ae eu) (aM dE ae dk) al) ?_);rintro _ _⟨dG,fq,rfl,A,jP,I,nJ,hfy1_0⟩;refine aP 7 aa (aA aa (Dp F M ae O al A ae I) ?_);rintro _ _⟨n6,_,rfl,Ic,zy2_1,rfl,hzy2_1,kzy2_1⟩;refine ro 9 aa (rp 3 aa ?_);refine ay aa ?_ ?_<;>intro h3
 ·exact W
 refine aB 5 aa (aA aa (ColumnsC F M ae O al) ?_);rintro _ _⟨gk,Z,rfl,z,sa,L,Aw,Dm⟩;refine ro 8 aa (bh [26,13,12,11,10,9,8,4,3,2,1,0] [4] aa aa (fun e0 b0 k VE B=>∃G,ak ((14,.d (dJ G))::e0) VE∧ak b0 B∧eg k 0 G (Z.length:Int)) ?_ fin);rintro _ VE B⟨G,hV,hB,rfl,bU⟩;refine aT _ _ hV hB (aB 5 aa (aR aa z ?_));refine ro 2 aa ?_;refine ay aa ?_ ?_<;>intro g5
 ·refine rc 7 aa ?_;obtain⟨_,⟨ss,rfl,Ax,Ay⟩,eX⟩:=qI G L;refine aq (aH aa aa z ae eX aa ?_);refine ro 3 aa ?_;refine bu aa ?_ ?_<;>intro h7
  ·exact W
  refine ro 2 aa (bw aa aa (aH aa aa z ae eX aa ?_));refine ro 2 aa (bw aa aa (aR aa A ?_));refine ro 3 aa ?_;refine bu aa ?_ ?_<;>intro h8
  ·exact W
  refine ro 3 aa (bw aa aa (aH aa aa z ae eX aa ?_));refine ro 1 aa ?_;obtain⟨_,⟨Il,rfl,Tl,kzx9_0⟩,fw⟩:=qI ss I;refine bw aa aa (aH aa aa A ae fw aa ?_);refine ro 1 aa (rp 3 aa ?_);refine cF aa ?_ ?_<;>intro Yt
  ·exact W
  exact W
 exact W
theorem rowE{T:aL}(F:FT T){a0 a1 a2 a3 a4 a5 a6 a7 a8 a9 jt pg ph tu tv tw zA zB zD zE zF zG:DC}(cV:(Ty.s 1000).ok a0){bD:ah}(L:au bD a1)(dm:bD.length≤100)(M:af dX bD)(cK:(Ty.l 200 bn).ok a2)(cw:(Ty.l 4 ew).ok a3)(cb:(Ty.l 4 dW).ok a4)(cq:tJ.ok a5)(fC:tJ.ok a6)(gn:(Ty.s 1000).ok a7)(gp:(Ty.l 1000000000 cB).ok a8)(il:tJ.ok a9)(nk:tJ.ok jt)(qb:(Ty.l 100 ey).ok pg)(wH:tJ.ok ph)(yO:(Ty.l 10 ez).ok tu)(B8:(Ty.s 1000).ok tv)(B9:(Ty.l 100 dX).ok tw)(Jv:(Ty.l 200 bn).ok zA)(Jw:(Ty.l 4 ew).ok zB)(Jx:(Ty.l 4 dW).ok zD)(Jy:tJ.ok zE)(Jz:(Ty.s 1000).ok zF)(JA:tJ.ok zG):Sound T 104 [.agg [.d a0,.d a1,.d a2,.d a3,.d a4],.d a5,.agg [.d a6,.d a7,.d a8,.d a9,.d jt,.d pg,.d ph,.d tu,.d tv,.d tw,.d zA,.d zB,.d zD,.d zE,.d zF,.d zG]] fun r=>∃y0,r= .d y0∧tJ.ok y0:=by
 refine bk F.q104 aa ?_;rcases cV,cK,cw,cb,cq,fC,gn,gp,il,nk,qb,wH,yO,B8,B9,Jv,Jw,Jx,Jy,Jz,JA with⟨⟨gU,rfl,kE⟩,⟨bz,O,cY,U⟩,⟨dD,Y,fO,Z⟩,⟨et,dE,e9,dk⟩,⟨cm,rfl,nq,nr⟩,⟨bE,rfl,o0,o4⟩,⟨P',rfl,Pb⟩,⟨zH,lC,sK,lQ⟩,⟨hZ,rfl,BI,BJ⟩,⟨Pc,rfl,Ni,Nj⟩,⟨ajZ,Nk,ahu,Nl⟩,⟨za12,rfl,hza12,kza12⟩,⟨aj0,G,hna13,Nm⟩,⟨sa14,rfl,hsa14⟩,⟨wa15,UQ,hna15,UR⟩,⟨aj1,Im,ahv,Io⟩,⟨aj2,Ip,ahw,Iq⟩,⟨aj3,Ir,ahx,Is⟩,⟨za19,rfl,hza19,kza19⟩,⟨sa20,rfl,hsa20⟩,⟨za21,rfl,hza21,kza21⟩⟩
 refine bV 11 aa (aA aa (GW F al al) ?_);rintro _ _⟨_,rfl,UM,rfl⟩;refine ro 2 aa ?_;refine cF aa ?_ ?_<;>intro h2
 ·exact W
 refine rc 1 aa (dP [18,6,5,3,2,1,0] [5,3] aa aa (fun e0 b0 VE B=>ak e0 VE∧ak b0 B) ?_ ?_)
 ·refine rc 6 aa ?_;refine ay aa ?_ ?_<;>intro g3
  ·refine aB 8 aa (aA aa (ae5 F (bH an) L ae M (aM O ae U) (aM Y ae Z) (aM dE ae dk) al Nk ae Nl al) ?_);rintro _ _⟨gk,sR,rfl,t8,vL⟩;exact W
  exact W
 rintro VE B⟨hV,hB⟩;refine aT _ _ hV hB (rc 7 aa ?_);refine ay aa ?_ ?_<;>intro h8
 ·exact W
 refine aB 5 aa (aA aa (Dn F (bH an) L ae M (aM O ae U) (aM Y ae Z) (aM dE ae dk) al) ?_);rintro _ _⟨O6,wy9_0,rfl,I,hny9_0,hry9_0,hmy9_0,hfy9_0⟩;refine ro 8 aa (bh [43,18,9,6,5,3,2,1,0] [5,3] aa aa (fun e0 b0 k VE B=>∃z,ak ((10,.d (dJ z))::e0) VE∧ak b0 B∧eg k 0 z (aj0.length:Int)) ?_ fin);rintro _ VE B⟨z,hV,hB,rfl,bU⟩;refine aT _ _ hV hB (aB 6 aa (aR aa G ?_));refine ro 2 aa ?_;refine ay aa ?_ ?_<;>intro uK
 ·refine rc 8 aa ?_;obtain⟨_,⟨zx11_0,rfl,hzx11_0,kzx11_0⟩,MX,Az,sN⟩:=qI z Nm;refine aq (aH aa aa G ae sN aa ?_);refine ro 7 aa (rp 4 aa ?_);refine bu aa ?_ ?_<;>intro nB
  ·exact W
  refine ro 3 aa (bw aa aa (aR aa I ?_));refine ro 3 aa ?_;refine bu aa ?_ ?_<;>intro Kq
  ·exact W
  refine ro 3 aa ?_;obtain⟨_,⟨G1,rfl,Lz,LA⟩,iI⟩:=qI zx11_0 hry9_0;refine bw aa aa (aH aa aa I ae iI aa ?_);refine ro 1 aa (rp 3 aa ?_);refine ay aa ?_ ?_<;>intro P1
  ·exact W
  refine rc 7 aa (bh [76,51,43,18,11,10,9,6,5,3,2,1,0] [11,5,3] aa aa (fun e0 b0 k VE B=>∃A,ak ((12,.d (dJ A))::e0) VE∧ak b0 B∧eg k 0 A z) ?_ fin);rintro _ VE B⟨A,hV,hB,rfl,fi⟩;refine aT _ _ hV hB (rc 7 aa ?_);refine ay aa ?_ ?_<;>intro qs
  ·refine rc 8 aa ?_;obtain⟨x17_0,hx17_0,Iu,G2,kF⟩:=qI A Nm;refine aU (aH aa aa G ae kF aa ?_);refine rq 1 aa (cE aa aa (dy aa aa ?_));exact W
  refine aB 9 aa (aA aa (ae5 F (bH an) L ae M (aM O ae U) (aM Y ae Z) (aM dE ae dk) al Nk ae Nl Az) ?_);rintro _ _⟨UF,y19_1,rfl,hy19_0,hy19_1⟩;exact W
 exact W
end Go.Ev.Rp
namespace Go.Ev.Rp
open Go Go.Ev.Pp
attribute [local irreducible] VC VO VQ VI Sound bW
theorem Va5{T:aL}(F:FT T){p:Prop}(h:p:=by repeat' (first|refine wp 6 rfl ?_|refine wp 2 rfl ?_|refine wp 1 rfl ?_|(refine PJ ?_;first|exact bN rfl rfl fin|exact sJ|exact fin)|(refine PK ?_;first|exact⟨_,rz fin ae⟩|exact fin)|refine wo 1 rfl ?_|refine wc 1 rfl ?_|refine wq 1 rfl ?_|refine mc ?_|refine qU 8 rfl rfl ?_|refine qU 3 rfl rfl ?_|refine qU 1 rfl rfl ?_|refine dq ?_|refine Ar ?_|refine qV 8 rfl rfl ?_|refine qV 3 rfl rfl ?_|refine qV 1 rfl rfl ?_|refine A2 ?_|refine rX ?_|(refine ki ?_;exact bN rfl rfl fin)|(refine ki ?_;exact sJ)|refine eA rfl (by first|with_reducible rfl|assumption) ?_|refine dn rfl (by first|with_reducible rfl|assumption) ?_|(refine ay rfl (fun h=>?_) (fun h=>?_)<;>(try(have h:(_:Bool)=_:=h;subst h)))|refine jw ?_|refine mQ ?_|refine jN ?_|refine iu ?_|refine eR ?_|refine iv rfl ?_|refine bw rfl (by first|with_reducible rfl|assumption) (iO (d:=0) rfl ?_)|refine bw (W:=[]) rfl (by first|with_reducible rfl|assumption) ?_|refine lI rfl (by first|with_reducible exact Bool.not_true.symm|with_reducible exact Bool.not_false.symm|assumption) ?_|(refine bu rfl (fun h=>?_) (fun h=>?_)<;>(try(have h:(_:Bool)=_:=h;subst h)))|refine aq (W:=[]) ?_|refine tB rfl dZ rfl ?_|refine tC rfl dZ rfl ?_|refine iO (d:=0) rfl ?_|refine bB rfl rfl ae ae ?_|refine dr rfl rfl ae ae ?_|refine aR rfl Et ?_|(refine Lk rfl rfl Et dZ rfl ae ae ?_;repeat intro _)|(refine bJ (j:=0) rfl rfl (aV rfl) ?_)|refine c7 rfl rfl rfl ae ae ?_|refine pn rfl rfl ?_|refine pn (b:=[]) rfl rfl ?_|refine kL rfl rfl ?_|refine kL (b:=[]) rfl rfl ?_|refine rY rfl rfl rfl rfl ae ae ae ao ?_|refine eO rfl ao ae ae ?_|refine Af rfl rfl ao (fun _=>?_)|refine oB rfl rfl (fun _ _=>?_)|refine mR rfl rfl (fun _ _=>?_)|refine tO rfl rfl (fun _ _=>?_)|refine qB rfl rfl ?_|refine tA rfl rfl ?_|(refine aA rfl (by apply arithC F<;>first|assumption|exact ae|exact fin) ?_;rintro _ _⟨_,_,_,rfl,_,_,_⟩)|(refine aA rfl (by apply boolC F<;>first|assumption|exact ae|exact fin) ?_;rintro _ _⟨_,_,_,rfl,_,_,_⟩)|(refine aA rfl (by apply M5 F<;>first|assumption|exact ae|exact fin) ?_;rintro _ _⟨_,rfl,_⟩)|(refine aA rfl (by apply aeQ F<;>first|assumption|exact ae|exact fin) ?_;rintro _ _⟨_,rfl,_⟩)|(refine aA rfl (by apply M6 F<;>first|assumption|exact ae|exact fin) ?_;rintro _ _⟨_,rfl,_⟩)|(exfalso;first|omega|((try simp only[eM,gQ,gD,mE] at*);first|omega|(simp_all;done)))|exact⟨_,rz fin ae⟩|exact fin|refine aU (W:=[]) ?_|(rename (Ty.ok Ty.b _)=>z;obtain⟨_,e⟩:=Ty.eU z;subst e;clear z)|(rename (Ty.ok (Ty.i _ _ _) _)=>z;obtain⟨_,e,_,_⟩:=Ty.dV z;first|(subst e;clear z)|clear z)|(rename (Ty.ok (Ty.s _) _)=>z;obtain⟨_,e,_⟩:=Ty.bH z;first|(subst e;clear z)|clear z)|(rename (Ty.ok (Ty.l _ _) _)=>z;obtain⟨_,_,_,_⟩:=Ty.aM z;clear z))):p:=h
theorem evalC{T:aL}(F:FT T){a0 a2:DC}{bM:ah}(cJ:au bM a0)(cM:bM.length≤200)(bO:af ey bM){aN:Int}(jJ:0≤aN)(jK:aN≤(bM.length:Int) -1){bz:ah}(cr:au bz a2)(cY:bz.length≤1000000000)(bY:af cB bz){Y:ah}(eu:af cB Y)(hma3:aN+1≤(Y.length:Int)):bW T 265 [.d a0,.d (dJ aN),.d a2,.bs 1004 Y.length 3] [(1004,.arr 87 32 3 Y.length Y)] fun r B=>∃y0 y1 y2,r= .agg [.d y0,.d y1,.d y2]∧B=[(1004,.arr 87 32 3 Y.length Y)]∧tJ.ok y0∧tJ.ok y1∧(Ty.s 1000).ok y2:=by
 refine gq F.q265 aa (r0 8 aa ?_);obtain⟨_,⟨A,rfl,Ma,Mb⟩,_,⟨Z,rfl,Tg,Th⟩,_,⟨ud,rfl,Ti,Tj⟩,_,⟨zx1_3,rfl,hzx1_3,kzx1_3⟩,ajY,aho,O',ahp,WR,hx1_6,tt⟩:=qI aN bO;refine aq (aH aa aa cJ ae tt aa ?_);refine aP 8 aa (aA aa (M7 (aI:=A) F ae ae) ?_);rintro _ _⟨n6,rfl,Ic⟩;refine ro 2 aa (dP [10,9,8,3,2,1,0] [1004,9,8] aa aa (fun e0 b0 VE B=>ak e0 VE∧ak b0 B∧(((A=10∨A=11∨(3≤A∧A≤9))→0≤Z∧Z<aN)∧((3≤A∧A≤9)→0≤ud∧ud<aN))) ?_ ?_)
 ·exact Va5 F
 rintro VE B⟨hV,hB,fj0_0⟩;refine aT _ _ hV hB (rc 5 aa (dP [12,11,10,9,8,3,2,1,0] [1004,12,9,8] aa aa (fun e0 b0 VE B=>∃G I L,ak e0 VE∧ak ((11,.one 87 32 [.d G,.d I,.d L])::b0) B∧(tJ.ok G)∧(tJ.ok I)∧((Ty.s 1000).ok L)) ?_ ?_))
 ·refine rc 5 aa ?_;refine ay aa ?_ ?_<;>intro g6
  ·refine rc 4 aa ?_;obtain⟨j7,im,fm⟩:=bx (z:=Z) (n:=Y.length) ae ae;obtain⟨ns,nf,n9,qW,yP,yi,eF⟩:=qN fm eu;refine aq (eP rfl (by rw[←im];rfl) fm ?_);refine aq (Fy (rows:=Y) aa aa (bd _) (bd _) fm eF (aV aa) (aV aa) ?_);exact W
  exact W
 rintro VE B⟨G,I,L,hV,hB,hc11_0_j1,hc11_1_j1,hc11_2_j1⟩;refine aT _ _ hV hB (dP [12,11,10,9,8,3,2,1,0] [1004,11,9,8] aa aa (fun e0 b0 VE B=>∃M O U,ak e0 VE∧ak ((12,.one 87 32 [.d M,.d O,.d U])::b0) B∧(tJ.ok M)∧(tJ.ok O)∧((Ty.s 1000).ok U)) ?_ ?_)
 ·refine rc 5 aa ?_;refine ay aa ?_ ?_<;>intro g8
  ·refine rc 4 aa ?_;obtain⟨j9,tf,qm⟩:=bx (z:=ud) (n:=Y.length) ae ae;obtain⟨n7,kW,pX,sr,Ca,ue,fw⟩:=qN qm eu;refine aq (eP rfl (by rw[←tf];rfl) qm ?_);refine aq (Fy (rows:=Y) aa aa (bd _) (bd _) qm fw (aV aa) (aV aa) ?_);exact W
  exact W
 rintro VE B⟨M,O,U,hV,hB,hc12_0_j2,hc12_1_j2,hc12_2_j2⟩;exact aT _ _ hV hB (Va5 F)
theorem Bg{T:aL}(F:FT T){a0 a1 a2:DC}{O:ah}(M:au O a0)(cM:O.length≤200)(bO:af ey O)(bX:tJ.ok a1){U:ah}(cr:au U a2)(cY:U.length≤1000000000)(bY:af cB U):Sound T 230 [.d a0,.d a1,.d a2] fun r=>∃y0 y1 y2,r= .agg [.d y0,.d y1,.d y2]∧tJ.ok y0∧tJ.ok y1∧(Ty.s 1000).ok y2:=by
 refine bk F.q230 aa ?_;obtain⟨aN,rfl,eD,eo⟩:=bX;refine r0 10 aa ?_;refine bu aa ?_ ?_<;>intro h1
 ·exact W
 refine ro 2 aa (bw aa aa (aR aa M ?_));refine ro 3 aa ?_;refine ay aa ?_ ?_<;>intro h2
 ·exact W
 refine aB 4 aa (bB aa aa ae ae ?_);obtain⟨n3,gV⟩:∃n:Nat,(aN+1)=n:=⟨((aN+1)).toNat,(AX ae).symm⟩;refine aq (FM (n:=n3) 20 rfl rfl rfl rfl rfl (by rw[←gV];rfl) (by rw[←gV];rfl) ae ae (fun w3 Ys P0=>?_));have qo:af cB w3:=by subst Ys;exact FK (aj al (aj al (aj (bH (s:=[]) ao) bm)))
 refine ro 8 aa (bh [16,6,2,1,0] [6] aa aa (fun e0 b0 k VE B=>∃G L A,ak ((7,.bs 20 L 3)::(8,.d (dJ G))::e0) VE∧ak ((20,.arr 87 32 3 L A)::b0) B∧k=(((aN+1):Int) -G).toNat∧(0≤G∧(G≤(aN+1)∨G=0))∧(A.length=L)∧(L=w3.length)∧(af cB A)) ?_ fin);rintro _ VE B⟨G,L,A,hV,hB,rfl,bU,rfl,uC,I⟩;refine aT _ _ hV hB (rc 7 aa ?_);refine ay aa ?_ ?_<;>intro g4
 ·refine aB 10 aa (iP (dc:=[.d a0,.d (dJ G),.d a2,.bs 1004 (A.length) 3]) (Bi:=[(1004,.arr 87 32 3 (A.length) A)]) [(1004,20)] 2000 aa aa aa aa aa aa aa ⟨aa,aa,trivial⟩ (evalC (aN:=G) F M ae bO ae ae cr ae bY I ae) ?_);rintro _ _⟨jG,aj4,WS,rfl,rfl,Y,Z,Iv⟩;obtain⟨j6,ts,qy⟩:=bx (z:=G) (n:=A.length) ae ae;obtain⟨Ju,Be,yQ,yo,OM,DN,eX⟩:=qN qy I;refine aq (eP rfl (by rw[←ts];rfl) qy ?_);refine iT (rT aa aa aa aa aa aa ao ao eX (fun w7 Kt Fm=>?_));have Cu:af cB w7:=by rw[Kt];exact ff I (aj Y (aj Z (aj Iv bm)))
  rw[←Fm];exact W
 refine rc 5 aa ?_;obtain⟨j8,Cs,te⟩:=bx (z:=aN) (n:=A.length) ae ae;obtain⟨ON,agS,V4,MW,x8_2,hx8_2,jg⟩:=qN te I;refine aq (eP rfl (by rw[←Cs];rfl) te ?_);refine aq (Fy (rows:=A) aa aa (bd _) (bd _) te jg (aV aa) (aV aa) ?_);exact W
end Go.Ev.Rp
namespace Go.Ev.Rp
open Go Go.Ev.Pp
attribute [local irreducible] VC VO VQ VI Sound bW
theorem ahy{T:aL}(F:FT T){a0 a1 a2 a3 a4 a5:DC}(cV:(Ty.s 1000).ok a0){z:ah}(A:au z a1)(dm:z.length≤100)(I:af dX z)(cK:(Ty.l 200 bn).ok a2)(cw:(Ty.l 4 ew).ok a3)(cb:(Ty.l 4 dW).ok a4)(cq:tJ.ok a5):Sound T 93 [.agg [.d a0,.d a1,.d a2,.d a3,.d a4],.d a5] fun r=>∃y0 y1 y2 L y4,r= .tuple [.agg [.d y0,.d y1,.d y2],dB y4]∧tJ.ok y0∧tJ.ok y1∧au L y2∧(L.length:Int)≤12∧af lN L∧(y4=true→1≤(z.length:Int)):=by
 refine bk F.q93 aa ?_;rcases cV,cK,cw,cb,cq with⟨⟨gU,rfl,kE⟩,⟨bz,O,cY,U⟩,⟨dD,Y,fO,Z⟩,⟨et,dE,e9,dk⟩,⟨cm,rfl,nq,nr⟩⟩
 refine bV 10 aa (aA aa (aau F (bH an) A ae I (aM O ae U) (aM Y ae Z) (aM dE ae dk)) ?_);rintro _ _⟨dG,rfl,M⟩;refine ro 2 aa ?_;refine bu aa ?_ ?_<;>intro h2
 ·exact W
 have k2:=M (by simpa using h2);refine ro 4 aa ?_;refine ay aa ?_ ?_<;>intro h3
 ·exact W
 refine aB 7 aa (aR aa A ?_);refine aq (dr aa aa ae ae ?_);obtain⟨o5,kx,fr,jT,pU,⟨ahz,G,ae6,hrx4_2⟩,dh⟩:=qI ((z.length:Int) -1) I;refine aq (aH aa aa A ae dh aa ?_);have kb:=kO.get (And.right dZ) (qR _) dh rfl G;exact W
theorem Iw{T:aL}(F:FT T){a0 a1 a2 a3 a4 a5:DC}(cV:(Ty.s 1000).ok a0)(bX:(Ty.l 100 dX).ok a1)(cK:(Ty.l 200 bn).ok a2)(cw:(Ty.l 4 ew).ok a3)(cb:(Ty.l 4 dW).ok a4){I:ah}(Z:au I a5)(lS:I.length≤100000)(ig:af gj I):Sound T 68 [.agg [.d a0,.d a1,.d a2,.d a3,.d a4,.d a5]] fun r=>∃y0 L,r= .d y0∧au L y0∧(L.length:Int)≤I.length∧af jW L∧0≤(L.length:Int)∧(L=[]→y0= .nil):=by
 refine bk F.q68 aa ?_;rcases cV,bX,cK,cw,cb with⟨⟨gU,rfl,kE⟩,⟨bD,cO,dm,cl⟩,⟨bz,cr,cY,bY⟩,⟨dD,eZ,fO,eu⟩,⟨et,dE,e9,dk⟩⟩
 refine r0 15 aa (dz 3 90 203 64 4 aa aa (bh [2,1,0] [1] aa aa (fun e0 b0 k VE B=>∃z A,ak ((3,.ac 90 A.length 4)::(4,.d (dJ z))::e0) VE∧ak ((90,.acc 203 64 4 A)::b0) B∧k=((I.length:Int) -z).toNat∧(0≤z∧(z≤(I.length:Int)∨z=0))∧((A.length:Int)≤z)∧(af jW A)) ?_ fin));rintro _ VE B⟨z,A,hV,hB,rfl,bU,cN,Dh⟩;refine aT _ _ hV hB (aB 6 aa (aR aa Z ?_));refine ro 2 aa ?_;refine ay aa ?_ ?_<;>intro g1
 ·refine rc 8 aa ?_;obtain⟨_,⟨G,rfl,qJ,sd⟩,fJ,⟨nh,U,mZ,Y⟩,_,⟨M,rfl,vt,vu⟩,_,⟨O,rfl,ae7,ae8⟩,wI,yq,_,⟨Nn,rfl,aeq,aer⟩,bQ⟩:=qI z ig;refine aq (aH aa aa Z ae bQ aa ?_);refine ro 6 aa (rp 5 aa ?_);refine ay aa ?_ ?_<;>intro g3
  ·refine rc 6 aa (aO aa (aA aa (widthC F (bH an) (aM cO ae cl) (aM cr ae bY) (aM eZ ae eu) (aM dE ae dk)) ?_));rintro _ _⟨_,rfl,zy4_0,rfl,hzy4_0,kzy4_0⟩;refine aO aa (aA aa (ajW F U ae Y al) ?_);rintro _ _⟨jG,iY,rfl,me,sh,kQ,tY,tZ⟩;refine rq 5 aa ?_;have PU:af bn [[(dJ G)]]:=(cI (aj al bm) cj);refine SB 33 33 aa aa (fun _=>⟨aa,aa⟩) (rq 2 aa ?_);refine aO rfl (aY (rows:=A) (ys:=[[jG,(dJ M),(dJ O),(.sl [[(dJ G)]])]]) rfl rfl rfl (.bs (rows:=[[jG,(dJ M),(dJ O),(.sl [[(dJ G)]])]]) rfl) ao ae (fun h=>by rw[h];rfl) (fun h=>by rw[h];rfl) ?_);exact W
  exact W
 exact rc 6 aa (ct 2 90 aa aa (fun _=>⟨aa,aa⟩) (W))
theorem Qa{T:aL}(F:FT T){a0 a1 a2:DC}{I:ah}(G:au I a0)(cM:I.length≤1000000000)(bO:af jW I){bD:ah}(cO:au bD a1)(dm:bD.length≤1000000000)(cl:af bn bD){bz:ah}(cr:au bz a2)(cY:bz.length≤1000000000)(bY:af cB bz):Sound T 110 [.d a0,.d a1,.d a2] fun r=>∃y0 L,r= .d y0∧au L y0∧(L.length:Int)≤I.length∧af jW L∧0≤(L.length:Int)∧(L=[]→y0= .nil):=by
 refine bk F.q110 aa (r0 14 aa (dz 7 90 203 64 4 aa aa (bh [6,2,1,0] [] aa aa (fun e0 b0 k VE B=>∃z A,ak ((7,.ac 90 A.length 4)::(8,.d (dJ z))::e0) VE∧ak ((90,.acc 203 64 4 A)::b0) B∧k=((I.length:Int) -z).toNat∧(0≤z∧(z≤(I.length:Int)∨z=0))∧((A.length:Int)≤z)∧(af jW A)) ?_ fin)));rintro _ VE B⟨z,A,hV,hB,rfl,bU,cN,G3⟩;refine aT _ _ hV hB (aB 5 aa (aR aa G ?_));refine ro 2 aa ?_;refine ay aa ?_ ?_<;>intro g1
 ·refine rc 7 aa ?_;obtain⟨gC,⟨pJ,Z,vw,AH⟩,fJ,M,fW,O,lD,⟨No,Md,Me,Dq⟩,bQ⟩:=qI z bO;refine aq (aH aa aa G ae bQ aa ?_);refine aP 2 aa (aA aa (pB F M O) ?_);rintro _ _⟨_,rfl,Bc,rfl⟩;refine ro 1 aa ?_;refine bu aa ?_ ?_<;>intro h4
  ·refine ro 2 aa (bw aa aa (aH aa aa G ae bQ aa ?_));refine ro 3 aa (bw aa aa (aA aa (ahn F Z ae AH cO ae cl) ?_));rintro _ _⟨jG,iY,rfl,me,sh,kQ,tY,tZ⟩;refine ro 1 aa (bw aa aa (aA aa (ym F (aM me ae kQ) (aM cr ae bY)) ?_));rintro _ _⟨_,rfl,UH,rfl,aeI,aeJ⟩;refine ro 3 aa ?_;refine ay aa ?_ ?_<;>intro g7
   ·refine aB 4 aa (aH aa aa G ae bQ aa ?_);rcases Ty.dV M,Ty.dV O with⟨⟨U,rfl,tU,oG⟩,⟨Y,rfl,vt,vu⟩⟩
    refine ro 2 aa ?_;refine aq (aY (rows:=A) (ys:=[[gC,(dJ U),(dJ Y),lD]]) rfl rfl rfl (.bs (rows:=[[gC,(dJ U),(dJ Y),lD]]) rfl) ao ae (fun h=>by rw[h];rfl) (fun h=>by rw[h];rfl) ?_);exact W
   exact W
  exact W
 exact rc 6 aa (ct 6 90 aa aa (fun _=>⟨aa,aa⟩) (W))
theorem US{T:aL}(F:FT T){a0 a1:DC}{L:ah}(M:au L a0)(cM:L.length≤1000000)(bO:af jW L)(bX:tJ.ok a1):Sound T 112 [.d a0,.d a1] fun r=>∃y0 y1 O,r= .tuple [.d y0,.d y1]∧tJ.ok y0∧au O y1∧(O.length:Int)≤1000000000∧af bn O∧0≤(O.length:Int)∧(O=[]→y1= .nil):=by
 refine bk F.q112 aa ?_;obtain⟨aN,rfl,eD,eo⟩:=bX;refine r0 19 aa (bh [5,4,1,0] [] aa aa (fun e0 b0 k VE B=>∃G I A z,ak ((6,.d (dJ G))::(7,.d I)::(8,.d (dJ z))::e0) VE∧ak b0 B∧k=((L.length:Int) -z).toNat∧(0≤G∧G≤z)∧(au A I)∧((A.length:Int)≤200*z)∧(af bn A)∧(A=[]→I= .nil)∧(0≤z∧(z≤(L.length:Int)∨z=0))) ?_ fin);rintro _ VE B⟨G,I,A,z,hV,hB,rfl,bU,U,uC,Y,hev7_0,BK⟩;refine aT _ _ hV hB (aB 5 aa (aR aa M ?_));refine ro 2 aa ?_;refine ay aa ?_ ?_<;>intro g1
 ·refine rc 7 aa ?_;obtain⟨gC,jm,fJ,iX,fW,iC,lD,⟨No,Z,Me,Dq⟩,bQ⟩:=qI z bO;refine aq (aH aa aa M ae bQ aa ?_);refine aP 3 aa (aA aa (M4 F iX iC al) ?_);rintro _ _⟨_,rfl,Bc,rfl⟩;refine ro 1 aa ?_;refine cF aa ?_ ?_<;>intro h4
  ·refine aB 3 aa (bB aa aa ae ae ?_);refine aP 6 aa (aH aa aa M ae bQ aa ?_);refine aP 2 aa (aA aa (xN F U ae Y Z ae Dq) ?_);rintro _ _⟨jG,iY,rfl,me,sh,kQ,tY,tZ⟩;exact W
  exact W
 exact W
theorem acN{T:aL}(F:FT T){a0 a1 a2:DC}{M:ah}(U:au M a0)(cM:M.length≤1000000000)(Y:af cB M){bD:ah}(cO:au bD a1)(dm:bD.length≤200)(cl:af ey bD){O:ah}(Z:au O a2)(cY:O.length≤1000000000)(bY:af ez O):Sound T 204 [.d a0,.d a1,.d a2] fun r=>∃y0 bt,r= .d y0∧au bt y0∧(bt.length:Int)≤1000000000∧af cB bt:=by
 refine bk F.q204 aa (bV 7 aa (ed (ys:=M) 11 aa aa aa aa aa (.sD U (cC Y aa)) ao ae ?_));refine aP 6 aa (aR aa Z ?_);refine ro 3 aa (bh [13,12,6,2,1,0] [] aa aa (fun e0 b0 k VE B=>∃A I G,ak ((7,.ac 11 I 3)::(14,.d (dJ A))::e0) VE∧ak ((11,.acc 87 32 3 G)::b0) B∧k=((O.length:Int) -A).toNat∧(0≤A∧(A≤(O.length:Int)∨A=0))∧(G.length=I)∧(I=(M).length)∧(af cB G)) ?_ fin);rintro _ VE B⟨A,I,G,hV,hB,rfl,bU,rfl,uC,L⟩;refine aT _ _ hV hB (rc 5 aa ?_);refine ay aa ?_ ?_<;>intro g1
 ·refine rc 5 aa ?_;obtain⟨_,⟨oU,rfl,qJ,sd⟩,fJ,iX,bQ⟩:=qI A bY;refine aq (aH aa aa Z ae bQ aa ?_);refine ro 6 aa (rp 4 aa ?_);refine bu aa ?_ ?_<;>intro g3
  ·refine ro 3 aa (bw aa aa (abW aa ?_));refine ro 3 aa ?_;refine ay aa ?_ ?_<;>intro g4
   ·refine rc 8 aa (aO aa (aA aa (Bg F cO ae cl iX U ae Y) ?_));rintro _ _⟨jG,aj4,WS,rfl,pH,UT,Iv⟩;obtain⟨j6,ts,qy⟩:=bx (z:=oU) (n:=G.length) ae ae;obtain⟨Ju,Be,yQ,yo,OM,DN,eX⟩:=qN qy L;refine aU (cZ rfl (by rw[←ts];rfl) qy ?_);refine gX aa (gy aa aa aa aa aa aa ao ao eX (fun w7 Kt Fm=>?_));have Cu:af cB w7:=by rw[Kt];exact ff L (aj pH (aj UT (aj Iv bm)))
    rw[←Fm];exact W
   exact W
  exact W
 exact rc 6 aa (ct 6 11 aa aa (fun _=>⟨aa,aa⟩) (W))
end Go.Ev.Rp
namespace Go.Ev.Rp
open Go Go.Ev.Pp
attribute [local irreducible] VC VO VQ VI Sound bW
theorem ExpandC{T:aL}(F:FT T){a0 a1 a2 a3:DC}(cV:tJ.ok a0)(bX:tJ.ok a1){Y:ah}(M:au Y a2)(cY:Y.length≤13)(bY:af lN Y){dD:ah}(U:au dD a3)(fO:dD.length≤1000000000)(eu:af cB dD){bF:Int}(oo: -9223372036854775808≤bF)(oq:bF≤9223372036854775807):Sound T 102 [.agg [.d a0,.d a1,.d a2],.d a3,.d (dJ bF)] fun r=>∃y0 bt y2,r= .tuple [.d y0,.d y2]∧au bt y0∧(bt.length:Int)≤12∧af cB bt∧tJ.ok y2:=by
 refine bk F.q102 aa ?_;rcases cV,bX with⟨⟨aI,rfl,iF,iG⟩,⟨aN,rfl,eD,eo⟩⟩
 refine bV 10 aa (aR aa U ?_);refine aP 2 aa (aR aa M ?_);refine ro 2 aa ?_;refine bu aa ?_ ?_<;>intro h1
 ·exact W
 refine ro 4 aa ?_;refine ay aa ?_ ?_<;>intro h2
 ·exact W
 refine rc 7 aa (bh [20,7,6,3,2,1,0] [3] aa aa (fun e0 b0 k VE B=>∃G,ak ((8,.d (dJ G))::e0) VE∧ak b0 B∧k=((Y.length:Int) -G).toNat∧(0≤G∧(G≤(Y.length:Int)∨G=0))∧(ko G bF Y)) ?_ fin);rintro _ VE B⟨G,hV,hB,rfl,bU,cN⟩;refine aT _ _ hV hB (aB 6 aa (aR aa M ?_));refine ro 2 aa ?_;refine ay aa ?_ ?_<;>intro g3
 ·refine rc 8 aa ?_;obtain⟨_,⟨q7,rfl,qK,qL⟩,fr,jT,pU,oO,dh⟩:=qI G bY;refine aq (aH aa aa M ae dh aa ?_);refine ro 4 aa ?_;refine bu aa ?_ ?_<;>intro h5
  ·exact W
  refine ro 3 aa (bw aa aa (aH aa aa M ae dh aa ?_));refine ro 6 aa ?_;refine ay aa ?_ ?_<;>intro h6
  ·exact W
  refine aB 3 aa (bB aa aa ae ae ?_);refine dC 2 aa ?_;exact⟨((Y.length:Int) -((G+1))).toNat,ae,(G+1),⟨rfl,rfl,rfl,rfl,rfl,rfl,rfl,rfl,trivial⟩,⟨rfl,trivial⟩,rfl,ae,(by first|assumption|exact aa6|exact ko.step (by assumption) ae (by assumption) rfl ae ae)⟩
 refine aB 4 aa (mR aa aa (fun z7 Yu=>?_));obtain⟨n8,hn8⟩:∃n:Nat,z7=n:=⟨(z7).toNat,(AX ae).symm⟩;refine aq (FM (n:=n8) 47 rfl rfl rfl rfl rfl (by rw[←hn8];rfl) (by rw[←hn8];rfl) ae ae (fun w8 ow ql=>?_));have td:af cB w8:=by subst ow;exact FK (aj al (aj al (aj (bH (s:=[]) ao) bm)))
 refine ro 8 aa (bh [25,20,8,7,6,3,2,1,0] [3] aa aa (fun e0 b0 k VE B=>∃A O L,ak ((9,.bs 47 O 3)::(10,.d (dJ A))::e0) VE∧ak ((47,.arr 87 32 3 O L)::b0) B∧k=((Y.length:Int) -A).toNat∧(0≤A∧(A≤(Y.length:Int)∨A=0))∧(L.length=O)∧(O=w8.length)∧(af cB L)) ?_ fin);rintro _ VE B⟨A,O,L,hV,hB,rfl,fi,rfl,OP,I⟩;refine aT _ _ hV hB (aB 6 aa (aR aa M ?_));refine ro 2 aa ?_;refine ay aa ?_ ?_<;>intro g9
 ·refine rc 8 aa ?_;obtain⟨oT,qM,qX,Z,Ij,AF,gv⟩:=qI A eu;refine aU (aH aa aa U ae gv aa ?_);refine cE aa aa (ia aa (aV aa) (aV aa) ?_);refine aO aa (aA aa (aeP F qM Z AF) ?_);rintro _ _⟨_,rfl,by11_0,rfl⟩;refine rq 2 aa ?_;refine dL aa ?_ ?_<;>intro nB
  ·refine rq 7 aa (bL aa (bL aa (bL aa (bL aa (dK aa (bL aa (dK aa (bL aa (bL aa ?_)))))))));exact bL aa (dK aa (bL aa (rq 2 aa (W))))
  refine rq 2 aa (cn aa aa (aH aa aa U ae gv aa ?_));refine rq 2 aa ?_;obtain⟨ae2,rfl,RJ,RL⟩:=Ty.dV qM;refine rp 2 aa ?_;refine dL aa ?_ ?_<;>intro ox
  ·refine rq 2 aa (cn aa aa (aH aa aa U ae gv aa ?_));refine rq 5 aa ?_;obtain⟨_,⟨G1,rfl,Lz,LA⟩,UU,ae9,_,⟨zx14_2,rfl,hzx14_2,kzx14_2⟩,iI⟩:=qI A bY;refine cn aa aa (aH aa aa M ae iI aa ?_);refine rq 2 aa (rp 4 aa ?_);refine ay aa ?_ ?_<;>intro P1
   ·exact W
   refine rc 6 aa (aU (aH aa aa M ae iI aa ?_));refine rq 1 aa (cE aa aa (dy aa aa ?_));refine aU (dr aa aa ae ae ?_);refine db 2 aa (aH aa aa U ae gv aa ?_);refine cE aa aa (ia aa (aV aa) (aV aa) ?_);have kb:=ko.get (n:=bF) dZ ae iI rfl;obtain⟨lZ,pZ,p0⟩:=bx (z:=(G1-1)) (n:=L.length) ae ae;obtain⟨A9,L4,yl,L5,x16_2,hx16_2,wt⟩:=qN p0 I;refine aU (eP rfl (by rw[←pZ];rfl) p0 ?_);refine gX aa (rT aa aa aa aa aa aa ao ao wt (fun uJ V7 EB=>?_));have ajy:af cB uJ:=by rw[V7];exact ff I (aj al (aj Z (aj AF bm)))
   rw[←EB];exact W
  refine rq 15 aa (dn aa aa (rc 6 aa ?_));obtain⟨_,⟨Dr,rfl,hzx18_0,kzx18_0⟩,Ix,Tn,ahA,To,mC⟩:=qI A bY;refine aU (aH aa aa M ae mC aa ?_);refine rq 1 aa (cE aa aa (dy aa aa ?_));refine aU (dr aa aa ae ae ?_);refine db 2 aa (aH aa aa U ae gv aa ?_);refine cE aa aa (ia aa (aV aa) (aV aa) ?_);have kb:=ko.get (n:=bF) dZ ae mC rfl;obtain⟨tp,BW,BX⟩:=bx (z:=(Dr-1)) (n:=L.length) ae ae;obtain⟨yn,G0,DT,afa,x19_2,hx19_2,oc⟩:=qN BX I;refine aU (eP rfl (by rw[←BW];rfl) BX ?_);refine gX aa (rT aa aa aa aa aa aa ao ao oc (fun mN B7 yV=>?_));have uB:af cB mN:=by rw[B7];exact ff I (aj al (aj Z (aj AF bm)))
  rw[←yV];exact W
 exact rc 7 aa (kN 6 47 aa aa (fun _=>⟨aa,aa⟩) (W))
theorem R2{T:aL}(F:FT T){nv:Nat}{a0 a1 a2 a3 a4 a5 a6:DC}(cV:(Ty.s 1000).ok a0){A:ah}(Wh:1≤A.length)(I:au A a1)(dm:A.length≤nv)(G:af dX A)(cK:(Ty.l 200 bn).ok a2)(cw:(Ty.l 4 ew).ok a3)(cb:(Ty.l 4 dW).ok a4){L:ah}(fU:au L a5)(lS:L.length≤13)(ig:af lN L)(fC:tJ.ok a6)(jY:nv≤99):Sound T 97 [.agg [.d a0,.d a1,.d a2,.d a3,.d a4],.d a5,.d a6] fun r=>∃y0 y1 M y3 y4 y5,r= .agg [.d y0,.d y1,.d y3,.d y4,.d y5]∧(Ty.s 1000).ok y0∧au M y1∧(M.length:Int)≤nv+1∧af dX M∧(Ty.l 200 bn).ok y3∧(Ty.l 4 ew).ok y4∧(Ty.l 4 dW).ok y5:=by
 refine bk F.q97 aa ?_;rcases cV,cK,cw,cb,fC with⟨⟨gU,rfl,kE⟩,⟨bz,cr,cY,bY⟩,⟨dD,eZ,fO,eu⟩,⟨et,dE,e9,dk⟩,⟨bE,rfl,o0,o4⟩⟩
 refine bV 9 aa (aR aa I ?_);refine aP 6 aa (ed (ys:=A) 14 aa aa aa aa aa (.sD I (cC G aa)) ao ae ?_);refine aP 7 aa (dr aa aa ae ae ?_);obtain⟨j1,Kp,wY⟩:=bx (z:=((A.length:Int) -1)) (n:=((A).length)) ae ae;obtain⟨_,⟨Bh,rfl,Ma,Mb⟩,x1_1,hx1_1,x1_2,hx1_2,tt⟩:=qN wY G;refine aq (cZ rfl (by rw[←Kp];rfl) wY ?_);refine aP 2 aa (fe (rows:=A) aa aa tt aa ?_);refine ro 3 aa ?_;refine ay aa ?_ ?_<;>intro g2
 ·refine aB 3 aa (dr aa aa ae ae ?_);refine ro 1 aa ?_;obtain⟨j3,Ke,zs⟩:=bx (z:=((A.length:Int) -1)) (n:=((A).length)) ae ae;obtain⟨p',O,sM,U,BL,rb,fL⟩:=qN zs G;refine aq (cZ rfl (by rw[←Ke];rfl) zs ?_);refine ro 1 aa (iT (gy aa aa aa aa aa aa ao ao fL (fun w4 Yr P9=>?_)));have hb4:af dX w4:=by rw[Yr];exact ff G (aj O (aj U (aj (aM fU ae ig) bm)))
  rw[←P9];exact ro 5 aa (eL 44 14 aa aa (fun _=>⟨aa,aa⟩) (W))
 refine aB 4 aa (dr aa aa ae ae ?_);refine ro 1 aa ?_;obtain⟨j5,Cw,Cx⟩:=bx (z:=((A.length:Int) -1)) (n:=((A).length)) ae ae;obtain⟨Ey,Y,B5,yp,Jt,Z,eW⟩:=qN Cx G;refine aq (cZ rfl (by rw[←Cw];rfl) Cx ?_);refine ro 2 aa (iT (gy aa aa aa aa aa aa ao ao eW (fun w6 hw6 Yk=>?_)));have PU:af dX w6:=by rw[hw6];exact ff G (aj Y (aj al (aj Z bm)))
 rw[←Yk];refine aP 8 aa (aY (rows:=w6) (ys:=[[(dJ bE),(dJ 1099511627776),a5]]) aa aa aa (.bs (rows:=[[(dJ bE),(dJ 1099511627776),a5]]) aa) ao ae bP bP ?_);exact ro 6 aa (eL 44 14 aa aa (fun _=>⟨aa,aa⟩) (W))
theorem AddColC{T:aL}(F:FT T){nv:Nat}{a0 a1 a2 a3 a4 a5 a6 a7 a8:DC}(cV:(Ty.s 1000).ok a0){bD:ah}(A:au bD a1)(dm:bD.length≤nv)(G:af dX bD)(cK:(Ty.l 200 bn).ok a2)(cw:(Ty.l 4 ew).ok a3)(cb:(Ty.l 4 dW).ok a4)(cq:tJ.ok a5)(fC:(Ty.s 1000).ok a6)(gn:tJ.ok a7)(gp:tJ.ok a8)(jY:nv≤99):Sound T 62 [.agg [.d a0,.d a1,.d a2,.d a3,.d a4],.agg [.d a5,.d a6,.d a7],.d a8] fun r=>∃y0 y1 pf y3 y4 y5 y6,r= .tuple [.agg [.d y0,.d y1,.d y3,.d y4,.d y5],.d y6]∧(Ty.s 1000).ok y0∧au pf y1∧(pf.length:Int)≤nv+1∧af dX pf∧(Ty.l 200 bn).ok y3∧(Ty.l 4 ew).ok y4∧(Ty.l 4 dW).ok y5∧tJ.ok y6:=by
 refine bk F.q62 aa ?_;rcases cV,cK,cw,cb,cq,fC,gn,gp with⟨⟨gU,rfl,kE⟩,⟨bz,I,cY,L⟩,⟨dD,M,fO,O⟩,⟨et,U,e9,Y⟩,⟨cm,rfl,nq,nr⟩,⟨Fh,rfl,O2⟩,⟨ca,rfl,sT,sU⟩,⟨gS,rfl,wb,wg⟩⟩
 refine bV 11 aa (aA aa (ahy F (bH an) A ae G (aM I ae L) (aM M ae O) (aM U ae Y) al) ?_);rintro _ _⟨dG,yR,wh,Bj,BT,rfl,mh,DO,Z,AI,z,Np⟩;refine ro 15 aa ?_;refine cF aa ?_ ?_<;>intro h2
 ·exact W
 have k2:=Np (by simpa using h2);refine aB 4 aa (aA aa (Td F (bH an)) ?_);rintro _ _⟨_,rfl,Bc,rfl⟩;refine ro 3 aa ?_;refine cF aa ?_ ?_<;>intro h4
 ·exact W
 refine rc 6 aa ?_;refine bu aa ?_ ?_<;>intro h5
 ·exact W
 refine ro 6 aa ?_;refine ay aa ?_ ?_<;>intro h6
 ·exact W
 refine aB 5 aa (aA aa (Ta F mh DO Z ae z (bH an)) ?_);rintro _ _⟨sL,rfl,oR⟩;refine ro 3 aa ?_;refine ay aa ?_ ?_<;>intro h8
 ·exact W
 refine aB 3 aa (aA aa (L' F (bH an) A ae G (aM I ae L) (aM M ae O) (aM U ae Y)) ?_);rintro _ _⟨O6,rfl,ly9_0,uy9_0,M8⟩;refine ro 3 aa ?_;refine ay aa ?_ ?_<;>intro Yt
 ·exact W
 refine aB 4 aa (aA aa (L' F (bH an) A ae G (aM I ae L) (aM M ae O) (aM U ae Y)) ?_);rintro _ _⟨ng,rfl,ly11_0,uy11_0,si⟩;have kw:=qD.le si.2 M8.1 ae;refine aq (bB aa aa ae ae ?_);refine ro 8 aa (aO aa (VI.fresh aa (ed (ys:=Bj) 55 aa aa aa aa aa (.sD Z (cC z aa)) ao ae ?_)));refine rq 2 aa ?_;refine aO rfl (aY (rows:=Bj) (ys:=[[(dJ (ng+1)),(aw Fh),(dJ ca)]]) rfl rfl rfl (.bs (rows:=[[(dJ (ng+1)),(aw Fh),(dJ ca)]]) rfl) ao ae (fun h=>by rw[h];rfl) (fun h=>by rw[h];rfl) ?_);refine rq 1 aa (l9 58 55 aa aa (fun _=>⟨aa,aa⟩) (aO aa (aA aa (R2 (nv:=nv) F (bH an) ae A ae G (aM I ae L) (aM M ae O) (aM U ae Y) (.acc _) BD (eB z (ee (aj al (aj (bH an) (aj al bm))))) al ae) ?_)));rintro _ _⟨Iy,y12_1,wy12_1,y12_3,y12_4,y12_5,rfl,Mf,hdy12_1,hny12_1,hry12_1,hy12_3,hy12_4,hy12_5⟩;exact W
theorem DropColC{T:aL}(F:FT T){nv:Nat}{a0 a1 a2 a3 a4 a5 a6:DC}(cV:(Ty.s 1000).ok a0){bD:ah}(L:au bD a1)(dm:bD.length≤nv)(M:af dX bD)(cK:(Ty.l 200 bn).ok a2)(cw:(Ty.l 4 ew).ok a3)(cb:(Ty.l 4 dW).ok a4)(cq:tJ.ok a5)(fC:tJ.ok a6)(jY:nv≤99):Sound T 63 [.agg [.d a0,.d a1,.d a2,.d a3,.d a4],.d a5,.d a6] fun r=>∃y0 y1 pf y3 y4 y5 y6,r= .tuple [.agg [.d y0,.d y1,.d y3,.d y4,.d y5],.d y6]∧(Ty.s 1000).ok y0∧au pf y1∧(pf.length:Int)≤nv+1∧af dX pf∧(Ty.l 200 bn).ok y3∧(Ty.l 4 ew).ok y4∧(Ty.l 4 dW).ok y5∧tJ.ok y6:=by
 refine bk F.q63 aa ?_;rcases cV,cK,cw,cb,cq,fC with⟨⟨gU,rfl,kE⟩,⟨bz,O,cY,U⟩,⟨dD,Y,fO,Z⟩,⟨et,dE,e9,dk⟩,⟨cm,rfl,nq,nr⟩,⟨bE,rfl,o0,o4⟩⟩
 refine bV 10 aa (aA aa (ahy F (bH an) L ae M (aM O ae U) (aM Y ae Z) (aM dE ae dk) al) ?_);rintro _ _⟨dG,yR,wh,I,BT,rfl,mh,DO,A,AI,G,Np⟩;refine ro 13 aa ?_;refine cF aa ?_ ?_<;>intro h2
 ·exact W
 have k2:=Np (by simpa using h2);refine aB 5 aa (aA aa (O1 F mh DO A ae G al) ?_);rintro _ _⟨jb,rfl,nP⟩;refine ro 8 aa ?_;refine ay aa ?_ ?_<;>intro h4
 ·exact W
 refine aB 5 aa (aR aa L ?_);refine ro 4 aa ?_;obtain⟨ahl,rfl,SU,SV⟩:=Ty.dV mh;refine rp 6 aa ?_;refine bu aa ?_ ?_<;>intro g5
 ·refine ro 3 aa ?_;refine bu aa ?_ ?_<;>intro g6
  ·refine aP 18 aa (aR aa A ?_);refine ro 2 aa ?_;refine bu aa ?_ ?_<;>intro h7
   ·exact W
   refine ro 2 aa (bw aa aa (aA aa (UL F (bH an) (aM L ae M) (aM O ae U) (aM Y ae Z) (aM dE ae dk) al) ?_));rintro _ _⟨sQ,rfl,Bd⟩;exact W
  refine ro 3 aa (bw aa aa (dr aa aa ae ae ?_));obtain⟨oT,qM,qX,AE,Ij,⟨wx10_2,R3,hnx10_2,R4⟩,gv⟩:=qI ((bD.length:Int) -2) M;refine bw aa aa (aH aa aa L ae gv aa ?_);refine ro 2 aa (bw aa aa (aA aa (O1 F qM AE R3 ae R4 al) ?_));rintro _ _⟨ng,rfl,si⟩;refine aP 10 aa (aR aa A ?_);refine ro 2 aa ?_;refine bu aa ?_ ?_<;>intro nB
  ·exact W
  refine ro 2 aa (bw aa aa (aA aa (UL F (bH an) (aM L ae M) (aM O ae U) (aM Y ae Z) (aM dE ae dk) al) ?_));rintro _ _⟨_,rfl,by13_0,rfl⟩;refine ro 1 aa (rp 1 aa ?_);refine bu aa ?_ ?_<;>intro PW
  ·exact W
  refine ro 3 aa ?_;refine ay aa ?_ ?_<;>intro P1
  ·exact W
  refine rc 7 aa ?_;obtain⟨lZ,pZ,p0⟩:=bx (z:=jb) (n:=I.length+1) ae ae;refine aU (eC (l:=0) (h:=lZ) rfl A G rfl (oM ae) ⟨_,(by rw[←pZ];rfl)⟩ rfl ae ae (fun Yc uJ BV EB EC=>?_));refine aO aa (VI.fresh aa (ed (ys:=uJ) 69 aa aa aa aa aa (.sD BV (cC EC aa)) ao ae ?_));refine db 3 aa (bB aa aa ae ae ?_);obtain⟨qz,sV,sW⟩:=bx (z:=(jb+1)) (n:=I.length+1) ae ae;refine aU (eC (l:=qz) (h:=I.length) rfl A G rfl (oM ae) rfl ⟨_,(by rw[←sV];rfl)⟩ ae ae (fun d19 Yv WT hl19 yX=>?_));refine aO aa (aY (rows:=uJ) (ys:=Yv) aa aa aa (.sD WT (cC yX aa)) ao ae bP bP ?_);refine rq 1 aa (l9 75 69 aa aa (fun _=>⟨aa,aa⟩) (aO aa (aA aa (R2 (nv:=nv) F (bH an) ae L ae M (aM O ae U) (aM Y ae Z) (aM dE ae dk) (.acc _) BD (eB EC yX) al ae) ?_)));rintro _ _⟨Ia,y20_1,wy20_1,y20_3,y20_4,y20_5,rfl,hy20_0,hdy20_1,hny20_1,hry20_1,hy20_3,hy20_4,hy20_5⟩;exact W
 refine ro 3 aa (iv aa (iv aa (iv aa (iv aa (iv aa (iv aa (iv aa (iv aa (iv aa ?_)))))))));refine aP 9 aa (aR aa A ?_);refine ro 2 aa ?_;refine bu aa ?_ ?_<;>intro h21
 ·exact W
 refine ro 2 aa (bw aa aa (aA aa (UL F (bH an) (aM L ae M) (aM O ae U) (aM Y ae Z) (aM dE ae dk) al) ?_));rintro _ _⟨_,rfl,by22_0,rfl⟩;refine ro 1 aa (rp 1 aa ?_);refine bu aa ?_ ?_<;>intro Yw
 ·exact W
 refine ro 3 aa (dn aa aa (rc 7 aa ?_));obtain⟨Qb,WU,aj5⟩:=bx (z:=jb) (n:=I.length+1) ae ae;refine aU (eC (l:=0) (h:=Qb) rfl A G rfl (oM ae) ⟨_,(by rw[←WU];rfl)⟩ rfl ae ae (fun d25 w25 hd25 hl25 aj6=>?_));refine aO aa (VI.fresh aa (ed (ys:=w25) 69 aa aa aa aa aa (.sD hd25 (cC aj6 aa)) ao ae ?_));refine db 3 aa (bB aa aa ae ae ?_);obtain⟨zI,Cb,yY⟩:=bx (z:=(jb+1)) (n:=I.length+1) ae ae;refine aU (eC (l:=zI) (h:=I.length) rfl A G rfl (oM ae) rfl ⟨_,(by rw[←Cb];rfl)⟩ ae ae (fun d27 w27 hd27 hl27 aj7=>?_));refine aO aa (aY (rows:=w25) (ys:=w27) aa aa aa (.sD hd27 (cC aj7 aa)) ao ae bP bP ?_);refine rq 1 aa (l9 75 69 aa aa (fun _=>⟨aa,aa⟩) (aO aa (aA aa (R2 (nv:=nv) F (bH an) ae L ae M (aM O ae U) (aM Y ae Z) (aM dE ae dk) (.acc _) BD (eB aj6 aj7) al ae) ?_)));rintro _ _⟨UW,y28_1,wy28_1,y28_3,y28_4,y28_5,rfl,hy28_0,hdy28_1,hny28_1,hry28_1,hy28_3,hy28_4,hy28_5⟩;exact W
end Go.Ev.Rp
namespace Go.Ev.Rp
open Go Go.Ev.Pp
attribute [local irreducible] VC VO VQ VI Sound bW
theorem affC{T:aL}(F:FT T){a0 a1 a2 a3 a4:DC}{Y:ah}(cJ:au Y a0)(cM:Y.length≤1000000000)(bO:af gj Y)(bX:tJ.ok a1)(cK:tJ.ok a2){dD:ah}(eZ:au dD a3)(fO:dD.length≤200)(eu:af ey dD)(cb:tJ.ok a4):Sound T 203 [.d a0,.agg [.d a1,.d a2],.d a3,.d a4] fun r=>∃y0 Z,r= .d y0∧au Z y0∧(Z.length:Int)≤Y.length∧af gj Z∧0≤(Z.length:Int)∧(Z=[]→y0= .nil):=by
 refine bk F.q203 aa ?_;rcases bX,cK,cb with⟨⟨aN,rfl,eD,eo⟩,⟨bo,rfl,lA,lB⟩,⟨bF,rfl,mw,my⟩⟩
 refine bV 13 aa (aR aa cJ ?_);refine ro 3 aa (dz 9 90 48 64 6 aa aa (bh [16,15,8,5,3,2,1,0] [5] aa aa (fun e0 b0 k VE B=>∃L M,ak ((9,.ac 90 M.length 6)::(17,.d (dJ L))::e0) VE∧ak ((90,.acc 48 64 6 M)::b0) B∧k=((Y.length:Int) -L).toNat∧(0≤L∧(L≤(Y.length:Int)∨L=0))∧((M.length:Int)≤L)∧(af gj M)) ?_ fin));rintro _ VE B⟨L,M,hV,hB,rfl,bU,cN,Tp⟩;refine aT _ _ hV hB (rc 5 aa ?_);refine ay aa ?_ ?_<;>intro g1
 ·refine rc 5 aa ?_;obtain⟨_,⟨oU,rfl,qJ,sd⟩,fJ,⟨nh,O,mZ,U⟩,fW,iC,lD,lL,_,⟨ahB,rfl,hzx2_4,kzx2_4⟩,_,⟨Nn,rfl,aeq,aer⟩,bQ⟩:=qI L bO;refine aq (aH aa aa cJ ae bQ aa ?_);refine aP 9 aa (aA aa (Dl F iC lL al al) ?_);rintro _ _⟨jb,BR,_,rfl,nP,Nc,ahC,rfl⟩;refine ro 10 aa (rp 5 aa ?_);refine bu aa ?_ ?_<;>intro h4
  ·exact W
  refine ro 1 aa (rp 3 aa ?_);refine bu aa ?_ ?_<;>intro h5
  ·exact W
  refine ro 4 aa (bw aa aa (aA aa (Bg F eZ ae eu al O ae U) ?_));rintro _ _⟨lP,yN,uw,rfl,t6,vK,DZ⟩;refine bw aa aa (aA aa (M6 F t6 vK DZ) ?_);rintro _ _⟨_,rfl,by7_0,rfl⟩;refine ro 3 aa ?_;refine cF aa ?_ ?_<;>intro h8
  ·exact W
  refine rc 9 aa ?_;rcases Ty.dV iC,Ty.dV lL with⟨⟨M9,rfl,vt,vu⟩,⟨ahD,rfl,ae7,ae8⟩⟩
  refine rp 3 aa ?_;refine aq (aY (rows:=M) (ys:=[[(dJ oU),fJ,(dJ M9),(dJ ahD),(dJ ahB),(dJ Nn)]]) rfl rfl rfl (.bs (rows:=[[(dJ oU),fJ,(dJ M9),(dJ ahD),(dJ ahB),(dJ Nn)]]) rfl) ao ae (fun h=>by rw[h];rfl) (fun h=>by rw[h];rfl) ?_);refine ro 4 aa (bh [44,18,17,16,15,13,11,8,5,3,2,1,0] [49,12,11,5] aa aa (fun e0 b0 k VE B=>∃G I,ak ((9,.ac 90 I.length 6)::(14,.d (dJ G))::e0) VE∧ak ((90,.acc 48 64 6 I)::b0) B∧k=(G).toNat∧(0≤G∧G<(I.length:Int))∧((I.length:Int)≤L+1)∧(af gj I)) ?_ fin);rintro _ VE B⟨G,I,hV,hB,rfl,fi,gl,A⟩;refine aT _ _ hV hB (rc 6 aa ?_);refine dL aa ?_ ?_<;>intro g9
  ·refine rq 2 aa (cn aa aa (dr aa aa ae ae ?_));obtain⟨rN,pV,nu⟩:=bx (z:=(G-1)) (n:=I.length) ae ae;obtain⟨_,⟨ae2,rfl,RJ,RL⟩,qX,AE,Ij,AF,x10_3,hx10_3,x10_4,hx10_4,x10_5,hx10_5,gv⟩:=qN nu A;refine cn rfl rfl (cZ rfl (by rw[←pV];rfl) nu ?_);refine rq 1 aa (fx aa aa aa (fe (rows:=I) aa aa gv aa ?_));refine rq 2 aa (rp 3 aa ?_);refine ay aa ?_ ?_<;>intro lY
   ·refine aB 8 aa (dr aa aa ae ae ?_);obtain⟨Fg,sO,rD⟩:=bx (z:=(G-1)) (n:=I.length) ae ae;obtain⟨pI,nK,t9,xO,UX,Mg,x12_3,hx12_3,x12_4,hx12_4,x12_5,hx12_5,iH⟩:=qN rD A;refine aq (cZ rfl (by rw[←sO];rfl) rD ?_);refine aq (CG (rows:=I) aa aa iH (aV aa) (aV aa) ?_);obtain⟨Fo,B6,JB⟩:=bx (z:=G) (n:=I.length) ae ae;obtain⟨ra,oH,Ba,Tq,x13_2,afb,x13_3,afc,x13_4,afd,x13_5,hx13_5,mA⟩:=qN JB A;refine aq (cZ rfl (by rw[←B6];rfl) JB ?_);refine iT (gy aa aa aa aa aa aa ao ao mA (fun zJ WV Pd=>?_));have OY:af gj zJ:=by rw[WV];exact ff A (aj nK (aj xO (aj Mg (aj hx12_3 (aj hx12_4 (aj hx12_5 bm))))))
    rw[←Pd];exact W
   refine rc 5 aa ?_;obtain⟨Kg,BQ,yS⟩:=bx (z:=G) (n:=I.length) ae ae;obtain⟨Ik,Mc,DX,GY,x15_2,hx15_2,x15_3,hx15_3,x15_4,hx15_4,x15_5,hx15_5,B4⟩:=qN yS A;refine aq (cZ rfl (by rw[←BQ];rfl) yS ?_);refine iT (gy aa aa aa aa aa aa ao ao B4 (fun PQ hw16 V9=>?_));have OZ:af gj PQ:=by rw[hw16];exact ff A (aj al (aj (aM O ae U) (aj al (aj al (aj al (aj al bm))))))
   rw[←V9];exact W
  refine rq 11 aa (dn aa aa (rc 5 aa ?_));obtain⟨th,wx,wy⟩:=bx (z:=G) (n:=I.length) ae ae;obtain⟨x17_0,hx17_0,Iu,G2,ahE,afe,ahF,aff,ahG,afg,ahH,afh,kF⟩:=qN wy A;refine aq (cZ rfl (by rw[←wx];rfl) wy ?_);refine iT (gy aa aa aa aa aa aa ao ao kF (fun w18 hw18 ajC=>?_));have Wi:af gj w18:=by rw[hw18];exact ff A (aj al (aj (aM O ae U) (aj al (aj al (aj al (aj al bm))))))
  rw[←ajC];exact W
 exact rc 6 aa (ct 8 90 aa aa (fun _=>⟨aa,aa⟩) (W))
theorem ahI{T:aL}(F:FT T){a0 a1 a2 a3 a4 a5 a6:DC}{bM:ah}(cJ:au bM a0)(cM:bM.length≤1000000)(bO:af gj bM)(bX:tJ.ok a1)(cK:tJ.ok a2){dD:ah}(eZ:au dD a3)(fO:dD.length≤200)(eu:af ey dD)(cb:tJ.ok a4)(cq:(Ty.b).ok a5){gW:ah}(gw:au gW a6)(yW:gW.length≤1000000000)(jd:af ez gW):Sound T 144 [.d a0,.agg [.d a1,.d a2],.d a3,.d a4,.d a5,.d a6] fun r=>∃y0 bt y2 dH,r= .agg [.d y0,.d y2]∧au bt y0∧(bt.length:Int)≤bM.length∧af bn bt∧au dH y2∧(dH.length:Int)≤3*bM.length∧af jW dH:=by
 refine bk F.q144 aa ?_;rcases bX,cK,cb,cq with⟨⟨aN,rfl,eD,eo⟩,⟨bo,rfl,lA,lB⟩,⟨bF,rfl,mw,my⟩,⟨Qc,rfl⟩⟩
 refine bV 16 aa (aA aa (affC F cJ ae bO al al eZ ae eu al) ?_);rintro _ _⟨dG,fq,rfl,gY,jP,fF,nJ,pC⟩;refine aq (aR aa gY ?_);refine ro 3 aa (jh 13 0 90 3 8 1 aa aa aa (jh 13 1 91 203 64 4 aa aa aa (bh [24,23,13,12,7,5,4,3,2,1,0] [12,7] aa aa (fun e0 b0 k VE B=>∃U M A,ak ((25,.d (dJ U))::e0) VE∧ak ((13,.one 186 48 [.ac 90 M.length 1,.ac 91 A.length 4])::(90,.acc 3 8 1 M)::(91,.acc 203 64 4 A)::b0) B∧k=((fq.length:Int) -U).toNat∧(0≤U∧(U≤(fq.length:Int)∨U=0))∧((M.length:Int)≤U)∧(af bn M)∧((A.length:Int)≤3*U)∧(af jW A)) ?_ fin)));rintro _ VE B⟨U,M,A,hV,hB,rfl,bU,cN,hrw13_0_0,lR,hrw13_1_0⟩;refine aT _ _ hV hB (rc 5 aa ?_);refine ay aa ?_ ?_<;>intro g2
 ·refine rc 5 aa ?_;obtain⟨_,⟨z,rfl,GO,Dg⟩,O,⟨wx3_1,afi,hnx3_1,afj⟩,BL,rb,aj8,Y,aj9,Nq,aka,Nr,fL⟩:=qI U fF;refine aq (aH aa aa gY ae fL aa ?_);refine ro 6 aa (rp 5 aa ?_);refine aq (aY (rows:=M) (ys:=[[(dJ z)]]) rfl rfl rfl (.bs (rows:=[[(dJ z)]]) rfl) ao ae (fun h=>by rw[h];rfl) (fun h=>by rw[h];rfl) ?_);refine aP 15 aa (aA aa (Dl F rb Y al al) ?_);rintro _ _⟨_,_,uA,rfl,⟨I,rfl,hzy4_0,kzy4_0⟩,⟨G,rfl,hzy4_1,kzy4_1⟩,UJ⟩;refine ro 10 aa ?_;obtain⟨Z,rfl,hzx3_2,kzx3_2⟩:=Ty.dV rb;refine rp 7 aa ?_;refine ay aa ?_ ?_<;>intro g5
  ·have PU:af bn [[(dJ z)]]:=(cI (aj al bm) cj);refine kN 16 38 aa aa (fun _=>⟨aa,aa⟩) (rc 1 aa (rp 13 aa ?_));refine aq (aY (rows:=A) (ys:=[[O,(dJ Z),(dJ I),(.sl [[(dJ z)]])]]) rfl rfl rfl (.bs (rows:=[[O,(dJ Z),(dJ I),(.sl [[(dJ z)]])]]) rfl) ao ae (fun h=>by rw[h];rfl) (fun h=>by rw[h];rfl) ?_);refine ro 8 aa ?_;refine cF aa ?_ ?_<;>intro h7
   ·refine rc 7 aa (aO aa (aA aa (acN F afi ae afj eZ ae eu gw ae jd) ?_));rintro _ _⟨sQ,UG,rfl,Dk,SQ,GU⟩;refine rq 4 aa (aO aa (aY (rows:=(A++[[O,(dJ Z),(dJ I),(.sl [[(dJ z)]])]])) (ys:=[[sQ,(dJ I),(dJ G),(.sl [[(dJ z)]])]]) aa aa aa (.bs (rows:=[[sQ,(dJ I),(dJ G),(.sl [[(dJ z)]])]]) aa) ao ae (fun h=>absurd h bI) (fun h=>absurd h bI) ?_));refine rq 5 aa ?_;obtain⟨L,rfl,Ts,Tt⟩:=Ty.dV Y;refine rp 7 aa ?_;refine ay aa ?_ ?_<;>intro g9
    ·refine aB 14 aa (aY (rows:=((A++[[O,(dJ Z),(dJ I),(.sl [[(dJ z)]])]])++[[sQ,(dJ I),(dJ G),(.sl [[(dJ z)]])]])) (ys:=[[O,(dJ G),(dJ L),(.sl [[(dJ z)]])]]) aa aa aa (.bs (rows:=[[O,(dJ G),(dJ L),(.sl [[(dJ z)]])]]) aa) ao ae (fun h=>absurd h bI) (fun h=>absurd h bI) ?_);exact W
    exact W
   refine rc 3 aa ?_;obtain⟨L,rfl,Ts,Tt⟩:=Ty.dV Y;refine rp 7 aa ?_;refine ay aa ?_ ?_<;>intro uK
   ·refine aB 14 aa (aY (rows:=(A++[[O,(dJ Z),(dJ I),(.sl [[(dJ z)]])]])) (ys:=[[O,(dJ G),(dJ L),(.sl [[(dJ z)]])]]) aa aa aa (.bs (rows:=[[O,(dJ G),(dJ L),(.sl [[(dJ z)]])]]) aa) ao ae (fun h=>absurd h bI) (fun h=>absurd h bI) ?_);exact W
   exact W
  refine rc 6 aa ?_;refine cF aa ?_ ?_<;>intro wW
  ·have OO:af bn [[(dJ z)]]:=(cI (aj al bm) cj);refine kN 16 38 aa aa (fun _=>⟨aa,aa⟩) (rc 7 aa (aO aa (aA aa (acN F afi ae afj eZ ae eu gw ae jd) ?_)));rintro _ _⟨ub,afk,rfl,acO,acP,acQ⟩;refine rq 4 aa ?_;refine aO rfl (aY (rows:=A) (ys:=[[ub,(dJ I),(dJ G),(.sl [[(dJ z)]])]]) rfl rfl rfl (.bs (rows:=[[ub,(dJ I),(dJ G),(.sl [[(dJ z)]])]]) rfl) ao ae (fun h=>by rw[h];rfl) (fun h=>by rw[h];rfl) ?_);refine rq 5 aa ?_;obtain⟨L,rfl,Ts,Tt⟩:=Ty.dV Y;refine rp 7 aa ?_;refine ay aa ?_ ?_<;>intro tg
   ·refine aB 14 aa (aY (rows:=(A++[[ub,(dJ I),(dJ G),(.sl [[(dJ z)]])]])) (ys:=[[O,(dJ G),(dJ L),(.sl [[(dJ z)]])]]) aa aa aa (.bs (rows:=[[O,(dJ G),(dJ L),(.sl [[(dJ z)]])]]) aa) ao ae (fun h=>absurd h bI) (fun h=>absurd h bI) ?_);exact W
   exact W
  refine rc 3 aa ?_;obtain⟨L,rfl,Ts,Tt⟩:=Ty.dV Y;refine rp 7 aa ?_;refine ay aa ?_ ?_<;>intro xb
  ·have OZ:af bn [[(dJ z)]]:=(cI (aj al bm) cj);refine kN 16 38 aa aa (fun _=>⟨aa,aa⟩) (rc 1 aa (rp 13 aa ?_));refine aq (aY (rows:=A) (ys:=[[O,(dJ G),(dJ L),(.sl [[(dJ z)]])]]) rfl rfl rfl (.bs (rows:=[[O,(dJ G),(dJ L),(.sl [[(dJ z)]])]]) rfl) ao ae (fun h=>by rw[h];rfl) (fun h=>by rw[h];rfl) ?_);exact W
  exact W
 exact rc 4 aa (eL 103 90 aa aa dA (eL 103 91 aa aa dA (W)))
theorem acR{T:aL}(F:FT T){a0 a1 a2 a3 a4:DC}{z:ah}(L:au z a0)(cM:z.length≤1000000)(M:af gj z)(bX:tJ.ok a1)(cK:tJ.ok a2){A:ah}(O:au A a3)(fO:A.length≤200)(U:af ey A)(cb:tJ.ok a4):Sound T 106 [.d a0,.agg [.d a1,.d a2],.d a3,.d a4] fun r=>∃y0 G y2 I,r= .agg [.d y0,.d y2]∧au G y0∧(G.length:Int)≤z.length∧af bn G∧au I y2∧(I.length:Int)≤3*z.length∧af jW I:=by
 refine bk F.q106 aa ?_;rcases bX,cK,cb with⟨⟨aN,rfl,eD,eo⟩,⟨bo,rfl,lA,lB⟩,⟨bF,rfl,mw,my⟩⟩
 refine bV 11 aa (aA aa (ahI F L ae M al al O ae U al eU (.inr ⟨aa,aa⟩) ae cj) ?_);rintro _ _⟨dG,fq,wh,Bj,rfl,Y,Z,fF,xP,AI,xQ⟩;exact W
theorem acS{T:aL}(F:FT T){a0 a1 a2 a3 a4 a5:DC}{z:ah}(M:au z a0)(cM:z.length≤1000000)(O:af gj z)(bX:tJ.ok a1)(cK:tJ.ok a2){A:ah}(U:au A a3)(fO:A.length≤200)(Y:af ey A)(cb:tJ.ok a4){G:ah}(Z:au G a5)(lS:G.length≤1000000000)(ig:af ez G):Sound T 107 [.d a0,.agg [.d a1,.d a2],.d a3,.d a4,.d a5] fun r=>∃y0 I y2 L,r= .agg [.d y0,.d y2]∧au I y0∧(I.length:Int)≤z.length∧af bn I∧au L y2∧(L.length:Int)≤3*z.length∧af jW L:=by
 refine bk F.q107 aa ?_;rcases bX,cK,cb with⟨⟨aN,rfl,eD,eo⟩,⟨bo,rfl,lA,lB⟩,⟨bF,rfl,mw,my⟩⟩
 refine bV 12 aa (aA aa (ahI F M ae O al al U ae Y al eU Z ae ig) ?_);rintro _ _⟨dG,fq,wh,Bj,rfl,gY,jP,fF,xP,AI,xQ⟩;exact W
theorem findF{T:aL}(F:FT T){a0:DC}{A:ah}(G:au A a0)(cM:A.length≤1000000000)(I:af gj A){aN:Int}(jJ: -9223372036854775808≤aN)(jK:aN≤9223372036854775807):Sound T 145 [.d a0,.d (dJ aN)] fun r=>∃L,r= .d (dJ L)∧((-1)≤L∧L≤(A.length:Int) -1∧((0≤L→ur aN A)∧(L<0→lF A.length aN A))):=by
 refine bk F.q145 aa (bV 8 aa (aR aa G ?_));refine ro 3 aa (bh [8,7,4,1,0] [] aa aa (fun e0 b0 k VE B=>∃z,ak ((9,.d (dJ z))::e0) VE∧ak b0 B∧k=((A.length:Int) -z).toNat∧(0≤z∧(z≤(A.length:Int)∨z=0))∧(lF z aN A)) ?_ fin);rintro _ VE B⟨z,hV,hB,rfl,bU,cN⟩;refine aT _ _ hV hB (rc 5 aa ?_);refine ay aa ?_ ?_<;>intro g1
 ·refine rc 6 aa ?_;obtain⟨_,⟨Z,rfl,M,O⟩,fJ,iX,fW,iC,lD,lL,wI,yq,_,⟨Nn,rfl,U,Y⟩,bQ⟩:=qI z I;refine aq (aH aa aa G ae bQ aa ?_);refine ro 7 aa (rp 5 aa ?_);refine bu aa ?_ ?_<;>intro g3
  ·refine ro 3 aa (rp 3 aa ?_);refine ay aa ?_ ?_<;>intro g4
   ·refine fE 6 aa ?_;exact bN rfl rfl ⟨z,rfl,⟨ae,ae,(by first|exact⟨fun _=>ur.mk (by assumption) rfl rfl ae ae,fun h=>absurd h an⟩|exact⟨fun h=>absurd h ao,fun _=>lF.all (by assumption) ae⟩)⟩⟩
   refine aB 2 aa (bB aa aa ae ae ?_);refine dC 2 aa ?_;exact⟨((A.length:Int) -((z+1))).toNat,ae,(z+1),⟨rfl,rfl,rfl,rfl,rfl,rfl,trivial⟩,trivial,rfl,ae,(by first|assumption|exact agy|exact lF.agz (by assumption) ae (by assumption) rfl ae|exact lF.agA (by assumption) ae (by assumption) rfl ae)⟩
  refine ro 6 aa (dn aa aa (aB 2 aa (bB aa aa ae ae ?_)));refine dC 2 aa ?_;exact⟨((A.length:Int) -((z+1))).toNat,ae,(z+1),⟨rfl,rfl,rfl,rfl,rfl,rfl,trivial⟩,trivial,rfl,ae,(by first|assumption|exact agy|exact lF.agz (by assumption) ae (by assumption) rfl ae|exact lF.agA (by assumption) ae (by assumption) rfl ae)⟩
 refine fE 6 aa ?_;exact bN rfl rfl ⟨(-1),rfl,⟨ae,ae,(by first|exact⟨fun _=>ur.mk (by assumption) rfl rfl ae ae,fun h=>absurd h an⟩|exact⟨fun h=>absurd h ao,fun _=>lF.all (by assumption) ae⟩)⟩⟩
theorem G4{T:aL}(F:FT T){a0 a1 a2 a3 a4:DC}{bM:ah}(cJ:au bM a0)(cM:bM.length≤1000000)(bO:af gj bM){bD:ah}(cO:au bD a1)(dm:bD.length≤1000000)(cl:af bn bD){bz:ah}(cr:au bz a2)(cY:bz.length≤3000000)(bY:af jW bz)(cw:tJ.ok a3)(cb:tJ.ok a4):Sound T 108 [.d a0,.agg [.d a1,.d a2],.d a3,.d a4] fun r=>∃y0 bt y2,r= .tuple [.d y0,.d y2]∧au bt y0∧(bt.length:Int)≤(bM.length:Int)+bz.length∧af gj bt∧tJ.ok y2:=by
 refine bk F.q108 aa ?_;rcases cw,cb with⟨⟨aZ,rfl,kC,kD⟩,⟨bF,rfl,mw,my⟩⟩
 refine r0 12 aa ?_;refine bu aa ?_ ?_<;>intro h1
 ·exact W
 refine ro 4 aa ?_;refine bu aa ?_ ?_<;>intro h2
 ·exact W
 refine ro 4 aa ?_;refine bu aa ?_ ?_<;>intro h3
 ·exact W
 refine ro 4 aa ?_;refine ay aa ?_ ?_<;>intro h4
 ·exact W
 refine aB 5 aa (aR aa cJ ?_);refine ro 3 aa (bh [39,38,37,9,8,5,3,2,1,0] [5] aa aa (fun e0 b0 k VE B=>∃Iz,ak ((40,.d (dJ Iz))::e0) VE∧ak b0 B∧eg k 0 Iz (bM.length:Int)) ?_ fin);rintro _ VE B⟨Iz,hV,hB,rfl,bU⟩;refine aT _ _ hV hB (rc 5 aa ?_);refine ay aa ?_ ?_<;>intro g5
 ·refine rc 6 aa ?_;obtain⟨_,⟨ss,rfl,Ax,Ay⟩,yQ,yo,OM,DN,x6_3,hx6_3,x6_4,hx6_4,x6_5,hx6_5,eX⟩:=qI Iz bO;refine aq (aH aa aa cJ ae eX aa ?_);refine ro 8 aa (rp 5 aa ?_);refine ay aa ?_ ?_<;>intro h7
  ·exact W
  refine rc 6 aa (bh [48,41,40,39,38,37,11,10,9,8,5,3,2,1,0] [11,5] aa aa (fun e0 b0 k VE B=>∃Ns,ak ((12,.d (dJ Ns))::e0) VE∧ak b0 B∧eg k 0 Ns Iz) ?_ fin);rintro _ VE B⟨Ns,hV,hB,rfl,fi⟩;refine aT _ _ hV hB (rc 7 aa ?_);refine ay aa ?_ ?_<;>intro g8
  ·refine rc 7 aa ?_;obtain⟨n7,kW,pX,sr,Ca,ue,JC,D0,EE,uc,EF,Bf,fw⟩:=qI Ns bO;refine aU (aH aa aa cJ ae fw aa ?_);refine rq 1 aa (cE aa aa (dy aa aa ?_));exact W
  exact W
 refine aB 6 aa (aR aa cO ?_);refine ro 3 aa (bh [65,64,41,40,39,38,37,9,8,5,3,2,1,0] [5] aa aa (fun e0 b0 k VE B=>∃G,ak ((66,.d (dJ G))::e0) VE∧ak b0 B∧k=((bD.length:Int) -G).toNat∧(0≤G∧(G≤(bD.length:Int)∨G=0))∧(v8 G bM bD)) ?_ fin);rintro _ VE B⟨G,hV,hB,rfl,oa,wi⟩;refine aT _ _ hV hB (rc 5 aa ?_);refine ay aa ?_ ?_<;>intro lY
 ·refine rc 6 aa ?_;obtain⟨_,⟨zx12_0,rfl,hzx12_0,kzx12_0⟩,iH⟩:=qI G cl;refine aq (aH aa aa cO ae iH aa ?_);refine aP 8 aa (aA aa (findF (aN:=zx12_0) F cJ ae bO ae ae) ?_);rintro _ _⟨ub,rfl,ly13_0,uy13_0,GX⟩;have kv:=GX.1;refine ro 2 aa ?_;refine bu aa ?_ ?_<;>intro PW
  ·exact W
  refine ro 3 aa ?_;obtain⟨Kg,BQ,yS⟩:=bx (z:=G) (n:=bD.length+1) ae ae;refine bw rfl rfl (eC (l:=0) (h:=Kg) rfl cO cl rfl (oM ae) ⟨_,(by rw[←BQ];rfl)⟩ rfl ae ae (fun d16 PQ ajA V9 ajB=>?_));refine ro 1 aa (bw aa aa (aA aa (aat F ajA ae ajB al) ?_));rintro _ _⟨_,rfl,by17_0,rfl⟩;refine ro 2 aa ?_;refine cF aa ?_ ?_<;>intro Ym
  ·exact W
  refine aB 2 aa (bB aa aa ae ae ?_);refine dC 2 aa ?_;exact⟨((bD.length:Int) -((G+1))).toNat,ae,(G+1),⟨rfl,rfl,rfl,rfl,rfl,rfl,rfl,rfl,rfl,rfl,rfl,rfl,rfl,rfl,rfl,trivial⟩,⟨rfl,trivial⟩,rfl,ae,(by first|assumption|exact allV_0|exact v8.step (by assumption) ae (by assumption) rfl (kv ae))⟩
 refine aB 6 aa (aR aa cO ?_);refine ro 3 aa (bh [86,85,67,66,65,64,41,40,39,38,37,9,8,5,3,2,1,0] [5] aa aa (fun e0 b0 k VE B=>∃Nt,ak ((87,.d (dJ Nt))::e0) VE∧ak b0 B∧eg k 0 Nt (bD.length:Int)) ?_ fin);rintro _ VE B⟨Nt,hV,hB,rfl,Jr⟩;refine aT _ _ hV hB (rc 5 aa ?_);refine ay aa ?_ ?_<;>intro P8
 ·refine rc 5 aa ?_;obtain⟨_,⟨Ds,rfl,acT,acU⟩,nw⟩:=qI Nt cl;refine aq (aH aa aa cO ae nw aa ?_);refine aP 9 aa (aA aa (findF (aN:=Ds) F cJ ae bO ae ae) ?_);rintro _ _⟨y21_0,rfl,ly21_0,uy21_0,hy21_0⟩;have kb:=find_ge hy21_0 (v8.get (k:=G) dZ ae nw rfl);exact W
 refine aB 6 aa (aR aa cr ?_);refine ro 3 aa (bh [104,103,88,87,86,85,67,66,65,64,41,40,39,38,37,9,8,5,3,2,1,0] [5] aa aa (fun e0 b0 k VE B=>∃U,ak ((105,.d (dJ U))::e0) VE∧ak b0 B∧eg k 0 U (bz.length:Int)) ?_ fin);rintro _ VE B⟨U,hV,hB,rfl,Js⟩;refine aT _ _ hV hB (rc 5 aa ?_);refine ay aa ?_ ?_<;>intro X7
 ·refine rc 5 aa ?_;obtain⟨DU,afl,DV,Tu,x25_2,hx25_2,x25_3,hx25_3,wD⟩:=qI U bY;refine aq (aH aa aa cr ae wD aa ?_);refine aP 8 aa (aA aa (GW F Tu hx25_2) ?_);rintro _ _⟨UY,rfl,hy26_0⟩;exact W
 refine aB 9 aa (aR aa cJ ?_);refine ro 3 aa (dz 19 90 48 64 6 aa aa (bh [115,114,106,105,104,103,88,87,86,85,67,66,65,64,41,40,39,38,37,9,8,5,3,2,1,0] [5] aa aa (fun e0 b0 k VE B=>∃I L,ak ((19,.ac 90 L.length 6)::(116,.d (dJ I))::e0) VE∧ak ((90,.acc 48 64 6 L)::b0) B∧k=((bM.length:Int) -I).toNat∧(0≤I∧(I≤(bM.length:Int)∨I=0))∧((L.length:Int)≤I)∧(af gj L)) ?_ fin));rintro _ VE B⟨I,L,hV,hB,rfl,WW,WX,hrw19_5⟩;refine aT _ _ hV hB (rc 5 aa ?_);refine ay aa ?_ ?_<;>intro Qd
 ·refine rc 5 aa ?_;obtain⟨IA,vA,Bk,⟨wx29_1,acV,hnx29_1,acW⟩,_,⟨Y,rfl,hzx29_2,kzx29_2⟩,_,⟨Z,rfl,acX,acY⟩,_,⟨Mh,rfl,hzx29_4,kzx29_4⟩,_,⟨afm,rfl,hzx29_5,kzx29_5⟩,od⟩:=qI I bO;refine aq (aH aa aa cJ ae od aa ?_);refine aP 11 aa (aA aa (aat F cO ae cl vA) ?_);rintro _ _⟨_,rfl,by30_0,rfl⟩;refine ro 1 aa ?_;refine cF aa ?_ ?_<;>intro h31
  ·refine rc 3 aa (rp 6 aa ?_);refine ay aa ?_ ?_<;>intro h32
   ·exact W
   refine rc 8 aa ?_;obtain⟨M,rfl,acZ,ac0⟩:=Ty.dV vA;refine rp 3 aa ?_;refine aq (aY (rows:=L) (ys:=[[(dJ M),Bk,(dJ Y),(dJ Z),(dJ Mh),(dJ aZ)]]) rfl rfl rfl (.bs (rows:=[[(dJ M),Bk,(dJ Y),(dJ Z),(dJ Mh),(dJ aZ)]]) rfl) ao ae (fun h=>by rw[h];rfl) (fun h=>by rw[h];rfl) ?_);exact W
  refine rc 2 aa ?_;obtain⟨M,rfl,acZ,ac0⟩:=Ty.dV vA;refine rp 3 aa ?_;refine aq (aY (rows:=L) (ys:=[[(dJ M),Bk,(dJ Y),(dJ Z),(dJ Mh),(dJ afm)]]) rfl rfl rfl (.bs (rows:=[[(dJ M),Bk,(dJ Y),(dJ Z),(dJ Mh),(dJ afm)]]) rfl) ao ae (fun h=>by rw[h];rfl) (fun h=>by rw[h];rfl) ?_);exact W
 refine aB 6 aa (aR aa cr ?_);refine ro 3 aa (bh [140,139,117,116,115,114,106,105,104,103,88,87,86,85,67,66,65,64,41,40,39,38,37,9,8,5,3,2,1,0] [5] aa aa (fun e0 b0 k VE B=>∃A O,ak ((19,.ac 90 O.length 6)::(141,.d (dJ A))::e0) VE∧ak ((90,.acc 48 64 6 O)::b0) B∧k=((bz.length:Int) -A).toNat∧(0≤A∧(A≤(bz.length:Int)∨A=0))∧((O.length:Int)≤(bM.length:Int)+A)∧(af gj O)) ?_ fin);rintro _ VE B⟨A,O,hV,hB,rfl,akb,akc,hrw19_6⟩;refine aT _ _ hV hB (rc 5 aa ?_);refine ay aa ?_ ?_<;>intro PV
 ·refine rc 6 aa ?_;obtain⟨ahJ,⟨wx34_0,hdx34_0,hnx34_0,hrx34_0⟩,_,⟨afn,rfl,hzx34_1,kzx34_1⟩,_,⟨afo,rfl,hzx34_2,kzx34_2⟩,x34_3,hx34_3,hg34⟩:=qI A bY;refine aq (aH aa aa cr ae hg34 aa ?_);refine aP 9 aa (bB aa aa ae ae ?_);refine ro 8 aa ?_;refine aq (aY (rows:=O) (ys:=[[(dJ (bF+A)),ahJ,(dJ afn),(dJ afo),(dJ aZ),(dJ 1099511627776)]]) rfl rfl rfl (.bs (rows:=[[(dJ (bF+A)),ahJ,(dJ afn),(dJ afo),(dJ aZ),(dJ 1099511627776)]]) rfl) ao ae (fun h=>by rw[h];rfl) (fun h=>by rw[h];rfl) ?_);exact W
 exact rc 7 aa (ct 8 90 aa aa (fun _=>⟨aa,aa⟩) (W))
end Go.Ev.Rp
