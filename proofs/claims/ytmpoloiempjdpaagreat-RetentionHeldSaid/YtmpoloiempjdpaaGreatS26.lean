/- Part 26 of rules for walks through the code of a program, and of such walks; what each part proves is said by its theorems. -/
import Derived.Test.YtmpoloiempjdpaaGreatS13
import Derived.Test.YtmpoloiempjdpaaGreatS14
import Derived.Test.YtmpoloiempjdpaaGreatS23
import Derived.Test.YtmpoloiempjdpaaGreatS24
import Derived.Test.YtmpoloiempjdpaaGreatS25
set_option linter.unusedVariables false
set_option linter.unusedSimpArgs false
noncomputable section
set_option maxRecDepth 100000
set_option maxHeartbeats 4000000
namespace Go.Ev.Rp
open Go Go.Ev.Pp
attribute [local irreducible] VC VO VQ VI Sound bW
theorem TypesX{T:aL}(F:FT T){X:List Int}{a0:DC}{G:ah}(M:au G a0)(cM:G.length≤16)(U:af (HZ X) G):Sound T 172 [.d a0] fun r=>∃y0 I,r= .d y0∧au I y0∧(I.length:Int)≤16∧af yM I∧0≤(I.length:Int)∧(I=[]→y0= .nil):=by
 refine bk F.q172 aa (r0 14 aa (dz 3 90 230 40 2 aa aa (bh [2,0] [] aa aa (fun e0 b0 k VE B=>∃z A,ak ((3,.ac 90 A.length 2)::(4,.d (dJ z))::e0) VE∧ak ((90,.acc 230 40 2 A)::b0) B∧k=((G.length:Int) -z).toNat∧(0≤z∧(z≤(G.length:Int)∨z=0))∧((A.length:Int)≤z)∧(af yM A)) ?_ fin)));rintro _ VE B⟨z,A,hV,hB,rfl,bU,cN,Y⟩;refine aT _ _ hV hB (aB 5 aa (aR aa M ?_));refine ro 2 aa ?_;refine ay aa ?_ ?_<;>intro g1
 ·refine rc 7 aa ?_;obtain⟨_,⟨L,rfl,Z⟩,O,⟨nh,pD,mZ,pE⟩,fW,iC,bQ⟩:=qI z U;refine aq (aH aa aa M ae bQ aa ?_);refine ro 3 aa ?_;refine aq (aY (rows:=A) (ys:=[[(aw L),O]]) rfl rfl rfl (.bs (rows:=[[(aw L),O]]) rfl) ao ae (fun h=>by rw[h];rfl) (fun h=>by rw[h];rfl) ?_);exact W
 exact rc 6 aa (ct 2 90 aa aa (fun _=>⟨aa,aa⟩) (W))
theorem scanX{T:aL}(F:FT T){X:List Int}{L M:DC}{A:ah}(O:au A L)(U:A.length≤16)(Y:af (HZ X) A)(I:(Ty.s 1000).ok M):Sound T 174 [.d L,.d M] fun r=>∃Z G,r= .d Z∧au G Z∧(G.length:Int)≤100000∧af (dR X 13) G:=by
 refine bk F.q174 aa ?_;obtain⟨sa1,rfl,hsa1⟩:=I;refine r0 10 aa (bh [4,1,0] [] aa aa (fun e0 b0 k VE B=>∃z,ak ((5,.d (dJ z))::e0) VE∧ak b0 B∧eg k 0 z (A.length:Int)) ?_ fin);rintro _ VE B⟨z,hV,hB,rfl,bU⟩;exact aT _ _ hV hB (W)
theorem ProjectX{T:aL}(F:FT T){X:List Int}{m:Nat}{a0 a1 a2:DC}{I:ah}(U:au I a0)(cM:I.length≤1000000000)(bO:af (dR X m) I){bD:ah}(cO:au bD a1)(dm:bD.length≤200)(cl:af ey bD){bz:ah}(cr:au bz a2)(cY:bz.length≤64)(bY:af bn bz)(hX:X.length≤2000000)(hm:m≤100000000)(qd:64≤m):Sound T 176 [.d a0,.d a1,.d a2] fun r=>∃y0 L,r= .d y0∧au L y0∧(L.length:Int)≤I.length∧af (dR X m) L∧0≤(L.length:Int)∧(L=[]→y0= .nil):=by
 refine bk F.q176 aa (bV 12 aa (aR aa U ?_));refine ro 3 aa (dz 7 90 134 48 2 aa aa (bh [11,10,6,2,1,0] [] aa aa (fun e0 b0 k VE B=>∃z A,ak ((7,.ac 90 A.length 2)::(12,.d (dJ z))::e0) VE∧ak ((90,.acc 134 48 2 A)::b0) B∧k=((I.length:Int) -z).toNat∧(0≤z∧(z≤(I.length:Int)∨z=0))∧((A.length:Int)≤z)∧(af (dR X m) A)) ?_ fin));rintro _ VE B⟨z,A,hV,hB,rfl,bU,cN,G3⟩;refine aT _ _ hV hB (rc 5 aa ?_);refine ay aa ?_ ?_<;>intro g1
 ·refine rc 5 aa ?_;obtain⟨gC,⟨pJ,M,vw,O⟩,Y,iX,bQ⟩:=qI z bO;refine aq (aH aa aa U ae bQ aa ?_);refine ro 10 aa (aO aa (aA aa (valuesC F cO ae cl cr ae bY M ae O) ?_));rintro _ _⟨Z,oS,rfl,AB,Dj,vx,L6,TB⟩;obtain⟨nh,pD,G⟩:=Ty.bT iX;have pE:=G.1;have mZ:=cH.len G;refine rq 4 aa ?_;refine aO rfl (aY (rows:=A) (ys:=[[Z,Y]]) rfl rfl rfl (.bs (rows:=[[Z,Y]]) rfl) ao ae (fun h=>by rw[h];rfl) (fun h=>by rw[h];rfl) ?_);exact W
 exact rc 6 aa (ct 6 90 aa aa (fun _=>⟨aa,aa⟩) (W))
theorem EvalX{T:aL}(F:FT T){X:List Int}{a0 a1 a2:DC}{bM:ah}(cJ:au bM a0)(cM:bM.length≤20)(bO:af ku bM){bD:ah}(cO:au bD a1)(dm:bD.length≤200)(cl:af ey bD){bz:ah}(cr:au bz a2)(cY:bz.length≤16)(bY:af (HZ X) bz)(hX:X.length≤2000000):Sound T 124 [.agg [.d a0,.d a1],.d a2] fun r=>∃y0 bt y2,r= .tuple [.d y0,.d y2]∧au bt y0∧(bt.length:Int)≤4096∧af (dR X 100000000) bt∧tJ.ok y2:=by
 refine bk F.q124 aa (r0 10 aa (aO aa (aA aa (TypesX (X:=X) F cr ae bY) ?_)));rintro _ _⟨dG,fq,rfl,gY,jP,fF,nJ,pC⟩;refine aO aa (aA aa (abt F cJ ae bO cO ae cl gY ae fF) ?_);rintro _ _⟨n6,A',OW,rfl,GS,Di,tW,ly2_2,uy2_2,ag6⟩;refine rq 12 aa ?_;refine ay aa ?_ ?_<;>intro h3
 ·exact W
 refine rc 9 aa ?_;obtain⟨kf1,kf2,kf3,kf4⟩:=ag6 ae;refine hY 1 aa (aR aa cJ ?_);refine ro 3 aa (dz 8 90 88 24 1 aa aa (bh [27,26,23,7,6,5,4,2,1,0] [2] aa aa (fun e0 b0 k VE B=>∃A O,ak ((8,.ac 90 O.length 1)::(28,.d (dJ A))::e0) VE∧ak ((90,.acc 88 24 1 O)::b0) B∧k=((bM.length:Int) -A).toNat∧(0≤A∧(A≤(bM.length:Int)∨A=0))∧((O.length:Int)≤A)∧(af [.l 4096 (dR X (wm A))] O)∧((O.length:Int)=A)) ?_ fin));rintro _ VE B⟨A,O,hV,hB,rfl,bU,cN,Dw,lR⟩;refine aT _ _ hV hB (rc 5 aa ?_);refine ay aa ?_ ?_<;>intro g4
 ·refine rc 6 aa ?_;obtain⟨_,⟨t7,rfl,xK,xL⟩,_,⟨DQ,rfl,De,Df⟩,_,⟨NB,rfl,aei,aej⟩,akz,IN,akA,Vg,akB,⟨wx5_5,aga,hnx5_5,agb⟩,akC,⟨wx5_6,hdx5_6,hnx5_6,hrx5_6⟩,eW⟩:=qI A bO;refine aq (aH aa aa cJ ae eW aa ?_);refine ro 13 aa ?_;have kn:=mP.get kf4 ae ae eW;have km:=agD (z:=A) ae;refine rp 2 aa (dP [29,28,27,26,23,14,13,12,10,9,8,7,6,5,4,2,1,0] [90,10,2] aa aa (fun e0 b0 VE B=>∃TU Z,ak ((11,.d TU)::e0) VE∧ak b0 B∧(au Z TU)∧((Z.length:Int)≤4096)∧(af (dR X (wm A)) Z)) ?_ ?_)
  ·refine rc 6 aa ?_;refine ay aa ?_ ?_<;>intro g6
   ·refine rc 4 aa ?_;obtain⟨j7,im,fm⟩:=bx (z:=DQ) (n:=O.length) ae ae;obtain⟨ns,⟨wx7_0,hdx7_0,hnx7_0,hrx7_0⟩,eF⟩:=qN fm Dw;refine aq (cZ rfl (by rw[←im];rfl) fm ?_);refine aq (fe (rows:=O) aa aa eF aa ?_);exact ro 2 aa (fin)
   exact W
  rintro VE B⟨TU,Z,hV,hB,G,fj4_1,I⟩;refine aT _ _ hV hB (dP [29,28,27,26,23,14,13,11,10,9,8,7,6,5,4,2,1,0] [90,10,2] aa aa (fun e0 b0 VE B=>∃TV LG,ak ((12,.d TV)::e0) VE∧ak b0 B∧(au LG TV)∧((LG.length:Int)≤4096)∧(af (dR X (wm A)) LG)) ?_ ?_)
  ·refine aB 4 aa (aA aa (Cd (aI:=t7) F ae ae) ?_);rintro _ _⟨sQ,rfl,Bd⟩;refine ro 1 aa ?_;refine cF aa ?_ ?_<;>intro h9
   ·have k9:=Bd.1 (by simpa using h9);refine rc 4 aa ?_;obtain⟨rN,pV,nu⟩:=bx (z:=NB) (n:=O.length) ae ae;obtain⟨oT,⟨aeS,acB,acC,acD⟩,gv⟩:=qN nu Dw;refine aq (cZ rfl (by rw[←pV];rfl) nu ?_);refine aq (fe (rows:=O) aa aa gv aa ?_);exact ro 2 aa (fin)
   have k9:¬_:=fun p=>absurd (Bd.2 p) (by simpa using h9)
   exact W
  rintro VE B⟨TV,LG,hV,hB,L,UP,M⟩;refine aT _ _ hV hB (dP [29,28,27,26,23,13,12,11,10,9,8,7,6,5,4,2,1,0] [90,10,2] aa aa (fun e0 b0 VE B=>∃U,ak ((14,.d (dJ U))::e0) VE∧ak b0 B∧(-1≤U∧U≤64)) ?_ ?_)
  ·refine rc 6 aa ?_;refine ay aa ?_ ?_<;>intro lY
   ·refine rc 4 aa ?_;obtain⟨pI,⟨aeV,RY,acI,acJ⟩,iH⟩:=qI NB tW;refine aq (aH aa aa GS ae iH aa ?_);refine aP 1 aa (aR aa RY ?_);have kn:=mP.get kf4 ae ae eW;have km:=agD (z:=A) ae;exact W
   exact W
  rintro VE B⟨U,hV,hB,fj6_0⟩;refine aT _ _ hV hB (dP [29,28,27,26,23,14,12,11,10,9,8,7,6,5,4,2,1,0] [90,10,2] aa aa (fun e0 b0 VE B=>∃Y oD,ak ((13,.d Y)::e0) VE∧ak b0 B∧(au oD Y)∧((oD.length:Int)≤5000000000)∧(af (dR X (2*wm A)) oD)) ?_ ?_)
  ·refine rc 11 aa ?_;refine ay aa ?_ ?_<;>intro ox
   ·refine aB 4 aa (aA aa (scanX (X:=X) F cr ae bY Vg) ?_);rintro _ _⟨IG,G5,rfl,Ai,LC,Aj⟩;exact dC 2 aa (⟨IG,G5,⟨aa,aa,aa,aa,aa,aa,aa,aa,aa,aa,aa,aa,aa,aa,aa,aa,aa,aa,aa,trivial⟩,⟨aa,aa,aa,trivial⟩,Ai,ae,(uX Aj ae)⟩)
   refine rc 5 aa ?_;refine ay aa ?_ ?_<;>intro xb
   ·refine aB 6 aa (aA aa (SelectX (X:=X) (m:=(wm A)) F G ae I cO ae cl IN ae ae) ?_);rintro _ _⟨M',TN,rfl,Gs,adp,Gt,adq,adr⟩;exact dC 2 aa (⟨M',TN,⟨aa,aa,aa,aa,aa,aa,aa,aa,aa,aa,aa,aa,aa,aa,aa,aa,aa,aa,aa,trivial⟩,⟨aa,aa,aa,trivial⟩,Gs,ae,(uX Gt ae)⟩)
   refine rc 5 aa ?_;refine ay aa ?_ ?_<;>intro tn
   ·refine aB 6 aa (aA aa (ProjectX (X:=X) (m:=(wm A)) F G ae I cO ae cl aga ae agb ae ae ae) ?_);rintro _ _⟨ahQ,afM,rfl,Sf,hny18_0,Sg,hmy18_0,hey18_0⟩;exact dC 2 aa (⟨ahQ,afM,⟨aa,aa,aa,aa,aa,aa,aa,aa,aa,aa,aa,aa,aa,aa,aa,aa,aa,aa,aa,trivial⟩,⟨aa,aa,aa,trivial⟩,Sf,ae,(uX Sg ae)⟩)
   refine rc 6 aa ?_;refine ay aa ?_ ?_<;>intro P8
   ·refine rc 1 aa (eA aa aa (aB 8 aa (aA aa (ahX (bF:=U) (cm:=4096) (X:=X) (m:=(wm A)) F G ae I L ae M cO ae cl IN ae ae ae ae ae ae ae) ?_)));rintro _ _⟨Ia,aeD,rfl,acq,acr,acs,hmy20_0,hey20_0⟩;exact W
   refine rc 4 aa ?_;refine ay aa ?_ ?_<;>intro Kn
   ·refine aB 8 aa (aA aa (ahX (bF:=U) (cm:=4096) (X:=X) (m:=(wm A)) F G ae I L ae M cO ae cl IN ae ae ae ae ae ae ae) ?_);rintro _ _⟨Na,afu,rfl,LD,ac8,LF,ac9,ada⟩;exact W
   refine rc 5 aa ?_;refine ay aa ?_ ?_<;>intro g23
   ·refine aB 3 aa (aA aa (UnionM (X:=X) (m:=(wm A)) F G ae I L ae M ae ae) ?_);rintro _ _⟨D3,Mm,rfl,xB,R7,CY⟩;exact dC 2 aa (⟨D3,Mm,⟨aa,aa,aa,aa,aa,aa,aa,aa,aa,aa,aa,aa,aa,aa,aa,aa,aa,aa,aa,trivial⟩,⟨aa,aa,aa,trivial⟩,xB,ae,(uX CY ae)⟩)
   refine rc 5 aa ?_;refine ay aa ?_ ?_<;>intro X8
   ·refine aB 3 aa (aA aa (ExceptM (X:=X) (m:=(wm A)) F G ae I L ae M ae ae) ?_);rintro _ _⟨UY,wy26_0,rfl,hdy26_0,hny26_0,hry26_0⟩;exact dC 2 aa (⟨UY,wy26_0,⟨aa,aa,aa,aa,aa,aa,aa,aa,aa,aa,aa,aa,aa,aa,aa,aa,aa,aa,aa,trivial⟩,⟨aa,aa,aa,trivial⟩,hdy26_0,ae,(uX hry26_0 ae)⟩)
   refine rc 5 aa ?_;refine ay aa ?_ ?_<;>intro g27
   ·refine aB 3 aa (aA aa (InterM (X:=X) (m:=(wm A)) F G ae I L ae M ae ae) ?_);rintro _ _⟨UW,afs,rfl,R8,hny28_0,R9⟩;exact dC 2 aa (⟨UW,afs,⟨aa,aa,aa,aa,aa,aa,aa,aa,aa,aa,aa,aa,aa,aa,aa,aa,aa,aa,aa,trivial⟩,⟨aa,aa,aa,trivial⟩,R8,ae,(uX R9 ae)⟩)
   refine rc 5 aa ?_;refine ay aa ?_ ?_<;>intro X9
   ·refine aB 2 aa (aA aa (DistinctM (X:=X) (m:=(wm A)) F G ae I ae ae) ?_);rintro _ _⟨D4,TE,rfl,Gq,adb,Gr,ade,adf⟩;exact dC 2 aa (⟨D4,TE,⟨aa,aa,aa,aa,aa,aa,aa,aa,aa,aa,aa,aa,aa,aa,aa,aa,aa,aa,aa,trivial⟩,⟨aa,aa,aa,trivial⟩,Gq,ae,(uX Gr ae)⟩)
   refine aB 8 aa (aA aa (GroupX (X:=X) (m:=(wm A)) F G ae I cO ae cl aga ae agb hdx5_6 ae hrx5_6 ae ae ae) ?_);rintro _ _⟨UI,aeK,rfl,Ls,acy,Lt⟩;exact dC 2 aa (fin)
  rintro VE B⟨Y,oD,hV,hB,vc,ah1,xu⟩;refine aT _ _ hV hB (aB 4 aa (aR aa vc ?_));refine ro 2 aa ?_;refine ay aa ?_ ?_<;>intro h32
  ·exact W
  refine rc 3 aa ?_;have hw0:=rowD_mono (b:=2*wm A) Dw ae;skip;refine rp 3 aa ?_;refine aq (aY (rows:=O) (ys:=[[Y]]) rfl rfl rfl (.bs (rows:=[[Y]]) rfl) ao ae (fun h=>by rw[h];rfl) (fun h=>by rw[h];rfl) ?_);refine ro 4 aa ?_;have hw1:af [.l 4096 (dR X (wm (A+1)))] (O++[[Y]]):=by rw[wm_s ae];exact(eB hw0 (ee (aj (aM vc ae xu) bm)))
  refine hY 1 aa (bB aa aa ae ae ?_);refine aP 2 aa (aR aa cJ ?_);refine ro 2 aa ?_;refine ay aa ?_ ?_<;>intro PV
  ·refine aB 3 aa (aA aa (Ve (X:=X) (m:=(2*wm A)) F vc ae xu ae ae) ?_);rintro _ _⟨ahL,aft,rfl,R',hny34_0,Sa,hmy34_0,hey34_0⟩;exact eV 4 aa (bN aa aa ⟨ahL,aft,i0,aa,R',ae,(uX Sa ae),al⟩)
  exact W
 exact W
end Go.Ev.Rp
namespace Go.Ev.Rp
open Go Go.Ev.Pp
attribute [local irreducible] VC VO VQ VI Sound bW
theorem akD{T:aL}(F:FT T){a0 a1 a2 a3 a4:DC}(cV:(Ty.s 1000).ok a0){A:ah}(G:au A a1)(dm:A.length≤100)(O:af dX A)(cK:(Ty.l 200 bn).ok a2)(cw:(Ty.l 4 ew).ok a3)(cb:(Ty.l 4 dW).ok a4){cm:Int}(tb:(-9223372036854775808)≤cm)(tc:cm≤9223372036854775807):Sound T 101 [.agg [.d a0,.d a1,.d a2,.d a3,.d a4],.d (dJ cm)] fun r=>∃y0 y1 y2 y3,r= .tuple [.agg [.d y0,.d y1,.d y2],dB y3]∧tJ.ok y0∧tJ.ok y1∧(Ty.l 13 lN).ok y2∧(y3=true↔sI A cm):=by
 refine bk F.ajb aa ?_;rcases cV,cK,cw,cb with⟨⟨gU,rfl,kE⟩,⟨bz,cr,cY,bY⟩,⟨dD,eZ,fO,eu⟩,⟨et,dE,e9,dk⟩⟩
 refine r0 12 aa (bh [5,4,2,1,0] [4,2] aa aa (fun e0 b0 k VE B=>∃z,ak ((6,.d (dJ z))::e0) VE∧ak b0 B∧k=((A.length:Int) -z).toNat∧(0≤z∧(z≤(A.length:Int)∨z=0))∧(sn A z cm)) ?_ fin);rintro _ VE B⟨z,hV,hB,rfl,bU,cN⟩;refine aT _ _ hV hB (aB 6 aa (aR aa G ?_));refine ro 2 aa ?_;refine ay aa ?_ ?_<;>intro g1
 ·refine rc 8 aa ?_;obtain⟨_,⟨I,rfl,Z,sd⟩,_,⟨L,rfl,tU,oG⟩,U,M,Y⟩:=qI z O;refine aq (aH aa aa G ae Y aa ?_);refine ro 7 aa ?_;skip;refine rp 5 aa ?_;refine bu aa ?_ ?_<;>intro g3
  ·refine ro 6 aa ?_;refine ay aa ?_ ?_<;>intro g4
   ·refine aB 5 aa (aH aa aa G ae Y aa ?_);refine eV 5 aa ?_;exact bN rfl rfl ⟨(dJ I),(dJ L),U,true,rfl,al,al,M,(by first|exact⟨fun _=>sI.mk (by assumption) ae ae,fun _=>rfl⟩|exact⟨fun h=>(by cases h),fun h=>absurd h (sn.all (by assumption) ae)⟩)⟩
   refine aB 3 aa (bB aa aa ae ae ?_);refine dC 2 aa ?_;exact⟨((A.length:Int) -((z+1))).toNat,ae,(z+1),⟨rfl,rfl,rfl,rfl,rfl,rfl,trivial⟩,⟨rfl,rfl,trivial⟩,rfl,ae,(by first|exact acb|exact sn.succ (by assumption) ae (by assumption) ae)⟩
  refine ro 6 aa (dn aa aa (aB 3 aa (bB aa aa ae ae ?_)));refine dC 2 aa ?_;exact⟨((A.length:Int) -((z+1))).toNat,ae,(z+1),⟨rfl,rfl,rfl,rfl,rfl,rfl,trivial⟩,⟨rfl,rfl,trivial⟩,rfl,ae,(by first|exact acb|exact sn.succ (by assumption) ae (by assumption) ae)⟩
 refine fE 8 aa ?_;exact bN rfl rfl ⟨i0,i0,.nil,false,rfl,al,al,gK,(by first|exact⟨fun _=>sI.mk (by assumption) ae ae,fun _=>rfl⟩|exact⟨fun h=>(by cases h),fun h=>absurd h (sn.all (by assumption) ae)⟩)⟩
theorem adJ{T:aL}(F:FT T){a0 a1 a2 a3 a4:DC}(cV:(Ty.s 1000).ok a0){I:ah}(O:au I a1)(dm:I.length≤100)(U:af dX I)(cK:(Ty.l 200 bn).ok a2)(cw:(Ty.l 4 ew).ok a3)(cb:(Ty.l 4 dW).ok a4){cm:Int}(tb:(-9223372036854775808)≤cm)(tc:cm≤9223372036854775807):Sound T 227 [.agg [.d a0,.d a1,.d a2,.d a3,.d a4],.d (dJ cm),dB false] fun r=>∃y0 M y2,r= .tuple [.d y0,dB y2]∧au M y0∧(M.length:Int)≤13∧af lN M∧(y2=true↔sI I cm):=by
 refine bk F.q227 aa ?_;rcases cV,cK,cw,cb with⟨⟨gU,rfl,kE⟩,⟨bz,Y,cY,Z⟩,⟨dD,eZ,fO,eu⟩,⟨et,dE,e9,dk⟩⟩
 refine bV 10 aa (aA aa (akD (cm:=cm) F (bH an) O ae U (aM Y ae Z) (aM eZ ae eu) (aM dE ae dk) ae ae) ?_);rintro _ _⟨dG,yR,wh,Wj,rfl,mh,DO,⟨z,L,AI,A⟩,G⟩;refine ro 13 aa ?_;refine cF aa ?_ ?_<;>intro h2
 ·have k2:¬_:=fun p=>absurd (G.2 p) (by simpa using h2)
  refine fE 6 aa ?_;exact bN rfl rfl ⟨.nil,[],false,rfl,(.inr ⟨rfl,rfl⟩),ae,cj,(by first|exact⟨fun h=>(by cases h),fun h=>absurd h (by assumption)⟩|exact⟨fun _=>(by assumption),fun _=>rfl⟩)⟩
 have k2:=G.1 (by simpa using h2);refine rc 3 aa (hY 2 aa (ed (ys:=z) 21 aa aa aa aa aa (.sD L (cC A aa)) ao ae ?_));refine ro 7 aa (dn aa aa (rc 7 aa (ct 6 21 aa aa (fun _=>⟨aa,aa⟩) (fE 1 aa ?_))));exact bN rfl rfl ⟨(.cR z),z,true,rfl,(.acc _),ae,A,(by first|exact⟨fun h=>(by cases h),fun h=>absurd h (by assumption)⟩|exact⟨fun _=>(by assumption),fun _=>rfl⟩)⟩
theorem visibleV{T:aL}(F:FT T){a0 a1:DC}{I:ah}(A:au I a0)(cM:I.length≤16)(bO:af [.s 1000,.l 100 dX,.l 200 bn,.l 4 ew,.l 4 dW] I)(bX:(Ty.s 1000).ok a1){bo:Int}(nz:(-9223372036854775808)≤bo)(mI:bo≤9223372036854775807):Sound T 259 [.d a0,.d a1,.d (dJ bo),dB false] fun r=>∃y0 O y2,r= .tuple [.d y0,.d y2]∧au O y0∧(O.length:Int)≤13∧af lN O∧(Ty.b).ok y2:=by
 refine bk F.q259 aa ?_;obtain⟨sa1,rfl,hsa1⟩:=bX;refine r0 11 aa (bh [9,8,3,2,1,0] [] aa aa (fun e0 b0 k VE B=>∃z,ak ((10,.d (dJ z))::e0) VE∧ak b0 B∧eg k 0 z (I.length:Int)) ?_ fin);rintro _ VE B⟨z,hV,hB,rfl,bU⟩;refine aT _ _ hV hB (aB 5 aa (aR aa A ?_));refine ro 2 aa ?_;refine ay aa ?_ ?_<;>intro g1
 ·refine rc 7 aa ?_;obtain⟨_,⟨sx2_0,rfl,Hd⟩,fJ,⟨nh,L,mZ,M⟩,fW,U,lD,Y,wI,Z,bQ⟩:=qI z bO;refine aq (aH aa aa A ae bQ aa ?_);refine aP 3 aa (pn aa aa ?_);refine ro 1 aa ?_;refine ay aa ?_ ?_<;>intro g4
  ·refine aB 4 aa (aH aa aa A ae bQ aa ?_);refine aP 3 aa (aA aa (adJ (cm:=bo) F (bH an) L ae M U Y Z ae ae) ?_);rintro _ _⟨jG,iY,WS,rfl,me,sh,kQ,G⟩;refine ro 10 aa ?_;refine cF aa ?_ ?_<;>intro h6
   ·have k6:=G.1 (by simpa using h6);exact W
   have k6:¬_:=fun p=>absurd (G.2 p) (by simpa using h6)
   exact W
  exact W
 exact W
theorem agc{T:aL}(F:FT T){a0:DC}{L:ah}(cJ:au L a0)(cM:L.length≤16)(bO:af [.s 1000,.l 100 dX,.l 200 bn,.l 4 ew,.l 4 dW] L){aN:Int}(jJ:(-9223372036854775808)≤aN)(jK:aN≤9223372036854775807):Sound T 169 [.d a0,.d (dJ aN),dB false] fun r=>∃y0 Z,r= .d y0∧au Z y0∧(Z.length:Int)≤16∧af yM Z∧0≤(Z.length:Int)∧(Z=[]→y0= .nil)∧((Z.length:Int)=jF aN L):=by
 refine bk F.q169 aa (r0 14 aa (dz 7 90 230 40 2 aa aa (bh [6,2,1,0] [] aa aa (fun e0 b0 k VE B=>∃A G,ak ((7,.ac 90 G.length 2)::(8,.d (dJ A))::e0) VE∧ak ((90,.acc 230 40 2 G)::b0) B∧k=((L.length:Int) -A).toNat∧(0≤A∧(A≤(L.length:Int)∨A=0))∧((G.length:Int)≤A)∧(af yM G)∧((G.length:Int)=jF aN (L.take A.toNat))) ?_ fin)));rintro _ VE B⟨A,G,hV,hB,rfl,bU,cN,M,lR⟩;refine aT _ _ hV hB (aB 5 aa (aR aa cJ ?_));refine ro 2 aa ?_;refine ay aa ?_ ?_<;>intro g1
 ·refine rc 7 aa ?_;obtain⟨gC,jm,fJ,⟨nh,pD,mZ,pE⟩,fW,iC,lD,lL,wI,yq,bQ⟩:=qI A bO;refine aq (aH aa aa cJ ae bQ aa ?_);refine aP 3 aa (aA aa (adJ (cm:=aN) F jm pD ae pE iC lL yq ae ae) ?_);rintro _ _⟨jb,oS,OV,rfl,Y,Dj,vx,IK⟩;refine ro 12 aa ?_;refine cF aa ?_ ?_<;>intro h4
  ·have k4:¬_:=fun p=>absurd (IK.2 p) (by simpa using h4)
   refine aB 3 aa (bB aa aa ae ae ?_);refine dC 2 aa ?_;exact⟨((L.length:Int) -((A+1))).toNat,ae,(A+1),G,⟨rfl,rfl,rfl,rfl,rfl,rfl,trivial⟩,⟨rfl,trivial⟩,rfl,ae,ae,M,(by first|rfl|(simp only[e7,gB,jQ];exact Gh (by assumption) ae (by assumption) (by assumption) (by assumption))|exact Lj (by assumption) ae (by assumption) (by assumption) (by assumption))⟩
  have k4:=IK.1 (by simpa using h4);refine aB 5 aa (aH aa aa cJ ae bQ aa ?_);refine ro 12 aa (jh 11 1 91 3 8 1 aa aa aa (bh [30,16,11,10,9,8,7,6,2,1,0] [90] aa aa (fun e0 b0 k VE B=>∃I z,ak ((12,.d (dJ I))::e0) VE∧ak ((11,.one 230 40 [.d gC,.ac 91 z.length 1])::(91,.acc 3 8 1 z)::b0) B∧k=((oS.length:Int) -I).toNat∧(0≤I∧(I≤(oS.length:Int)∨I=0))∧((z.length:Int)≤I)∧(af bn z)) ?_ fin));rintro _ VE B⟨I,z,hV,hB,rfl,fi,gl,O⟩;refine aT _ _ hV hB (aB 5 aa (aR aa Y ?_));refine ro 2 aa ?_;refine ay aa ?_ ?_<;>intro g5
  ·refine rc 8 aa ?_;obtain⟨Ju,Be,yQ,yo,_,⟨UN,rfl,hzx6_2,kzx6_2⟩,eX⟩:=qI I vx;refine aU (aH aa aa Y ae eX aa ?_);refine rq 1 aa (cE aa aa (dy aa aa ?_));refine rq 1 aa ?_;refine aO rfl (aY (rows:=z) (ys:=[[(dJ UN)]]) rfl rfl rfl (.bs (rows:=[[(dJ UN)]]) rfl) ao ae (fun h=>by rw[h];rfl) (fun h=>by rw[h];rfl) ?_);exact W
  refine rc 4 aa (eL 54 91 aa aa dA ?_);obtain⟨U,rfl,Hd⟩:=Ty.bH jm;refine ro 1 aa ?_;refine aq (aY (rows:=G) (ys:=[[(aw U),(.cR z)]]) rfl rfl rfl (.bs (rows:=[[(aw U),(.cR z)]]) rfl) ao ae (fun h=>by rw[h];rfl) (fun h=>by rw[h];rfl) ?_);refine aP 4 aa (bB aa aa ae ae ?_);refine dC 2 aa ?_;exact⟨((L.length:Int) -((A+1))).toNat,ae,(A+1),(G++[[(aw U),(.cR z)]]),⟨rfl,rfl,rfl,rfl,rfl,rfl,trivial⟩,⟨rfl,trivial⟩,rfl,ae,dj,(eB M (ee (aj (bH an) (aj (aM (.acc _) ae O) bm)))),(by first|rfl|(simp only[e7,gB,jQ];exact Gh (by assumption) ae (by assumption) (by assumption) (by assumption))|exact Lj (by assumption) ae (by assumption) (by assumption) (by assumption))⟩
 refine rc 6 aa (ct 6 90 aa aa (fun _=>⟨aa,aa⟩) (fE 1 aa ?_));exact bN rfl rfl ⟨(.cR G),G,rfl,(.acc _),ae,M,ae,(fun h=>by rw[h];rfl),(visN_all dZ ae)⟩
end Go.Ev.Rp
namespace Go.Ev.Rp
open Go Go.Ev.Pp
attribute [local irreducible] VC VO VQ VI Sound bW
theorem abv{T:aL}(F:FT T){X:List Int}{a0 a1 a2 a3 a4 a5:DC}(cV:(Ty.x).ok a0)(bX:(Ty.x).ok a1){G:ah}(cr:au G a2)(cY:G.length≤16)(bY:af (A5 X) G)(cw:(Ty.x).ok a3)(cb:(Ty.x).ok a4)(cq:(Ty.x).ok a5):Sound T 122 [.agg [.d a0,.d a1,.d a2,.d a3,.d a4,.d a5]] fun r=>∃y0 M,r= .d y0∧au M y0∧(M.length:Int)≤16∧af [.s 1000,.l 100 dX,.l 200 bn,.l 4 ew,.l 4 dW] M∧0≤(M.length:Int)∧(M=[]→y0= .nil)∧(M=G.map (List.take 5)):=by
 refine bk F.q122 aa (r0 15 aa (dz 3 90 40 112 5 aa aa (bh [2,1,0] [1] aa aa (fun e0 b0 k VE B=>∃z A,ak ((3,.ac 90 A.length 5)::(4,.d (dJ z))::e0) VE∧ak ((90,.acc 40 112 5 A)::b0) B∧k=((G.length:Int) -z).toNat∧(0≤z∧(z≤(G.length:Int)∨z=0))∧((A.length:Int)≤z)∧(af [.s 1000,.l 100 dX,.l 200 bn,.l 4 ew,.l 4 dW] A)∧(A=(G.take z.toNat).map (List.take 5))) ?_ fin)));rintro _ VE B⟨z,A,hV,hB,rfl,bU,cN,L,lR⟩;refine aT _ _ hV hB (aB 6 aa (aR aa cr ?_));refine ro 2 aa ?_;refine ay aa ?_ ?_<;>intro g1
 ·refine rc 8 aa ?_;obtain⟨_,⟨I,rfl,Hd⟩,O,⟨nh,pD,mZ,pE⟩,U,⟨NA,afO,AD,Ha⟩,Y,⟨No,Md,Me,Dq⟩,Z,⟨wx2_4,afP,hnx2_4,afQ⟩,Pe,Vf,bQ⟩:=qI z bY;refine aq (aH aa aa cr ae bQ aa ?_);refine ro 3 aa ?_;refine aq (aY (rows:=A) (ys:=[[(aw I),O,U,Y,Z]]) rfl rfl rfl (.bs (rows:=[[(aw I),O,U,Y,Z]]) rfl) ao ae (fun h=>by rw[h];rfl) (fun h=>by rw[h];rfl) ?_);refine aP 4 aa (bB aa aa ae ae ?_);refine dC 2 aa ?_;exact⟨((G.length:Int) -((z+1))).toNat,ae,(z+1),(A++[[(aw I),O,U,Y,Z]]),⟨rfl,rfl,rfl,rfl,rfl,trivial⟩,⟨rfl,rfl,trivial⟩,rfl,ae,dj,(eB L (ee (aj (bH an) (aj (aM pD ae pE) (aj (aM afO ae Ha) (aj (aM Md ae Dq) (aj (aM afP ae afQ) bm))))))),(by first|rfl|exact map_take_s (by assumption) ae (by assumption) rfl)⟩
 refine rc 6 aa (ct 2 90 aa aa (fun _=>⟨aa,aa⟩) (fE 1 aa ?_));exact bN rfl rfl ⟨(.cR A),A,rfl,(.acc _),ae,L,ae,(fun h=>by rw[h];rfl),(map_take_all dZ ae)⟩
theorem ZH{T:aL}(F:FT T){X:List Int}{a0 a1 a2 a3 a4 a5:DC}(cV:(Ty.x).ok a0)(bX:(Ty.x).ok a1){L:ah}(M:au L a2)(cY:L.length≤16)(bY:af (A5 X) L)(cw:(Ty.x).ok a3)(cb:(Ty.x).ok a4)(cq:(Ty.x).ok a5){bE:Int}(ot:(-9223372036854775808)≤bE)(ou:bE≤9223372036854775807)(hX:X.length≤2000000):Sound T 123 [.agg [.d a0,.d a1,.d a2,.d a3,.d a4,.d a5],.d (dJ bE),dB false] fun r=>∃y0 bt,r= .d y0∧au bt y0∧(bt.length:Int)≤16∧af (Ux X) bt∧0≤(bt.length:Int)∧(bt=[]→y0= .nil):=by
 refine bk F.q123 aa (bV 8 aa (aA aa (abv (X:=X) F cg cg M ae bY cg cg cg) ?_));rintro _ _⟨dG,fq,rfl,gY,jP,fF,nJ,pC,Y⟩;refine aP 2 aa (aA aa (agc (aN:=bE) F gY ae fF ae ae) ?_);rintro _ _⟨n6,A',rfl,GS,Di,tW,afR,afS,Z⟩;refine ro 4 aa ?_;have kt:(A'.length:Int)=jF bE L:=by rw[Z,Y,abd ao]
 refine rp 8 aa (dz 8 90 232 64 3 aa aa (bh [7,6,3,2,1,0] [3] aa aa (fun e0 b0 k VE B=>∃A I,ak ((8,.ac 90 I.length 3)::(9,.d (dJ A))::e0) VE∧ak ((90,.acc 232 64 3 I)::b0) B∧k=((L.length:Int) -A).toNat∧(0≤A∧(A≤(L.length:Int)∨A=0))∧((I.length:Int)≤A)∧(af (Ux X) I)∧((I.length:Int)=jF bE (L.take A.toNat))) ?_ fin));rintro _ VE B⟨A,I,hV,hB,rfl,bU,cN,Dw,lR⟩;refine aT _ _ hV hB (aB 6 aa (aR aa M ?_));refine ro 2 aa ?_;refine ay aa ?_ ?_<;>intro g3
 ·refine rc 8 aa ?_;obtain⟨o5,kx,fr,⟨IH,He,G7,Hf⟩,pU,oO,Jc,sq,Xf,yv,Xg,⟨ah2,agd,hnx4_5,hrx4_5⟩,dh⟩:=qI A bY;refine aq (aH aa aa M ae dh aa ?_);refine aP 3 aa (aA aa (akD (cm:=bE) F kx He ae Hf oO sq yv ae ae) ?_);rintro _ _⟨jG,aj4,WS,y5_3,rfl,pH,UT,Iv,ah3⟩;refine ro 13 aa ?_;refine cF aa ?_ ?_<;>intro h6
  ·have k6:¬_:=fun p=>absurd (ah3.2 p) (by simpa using h6)
   refine aB 3 aa (bB aa aa ae ae ?_);refine dC 2 aa ?_;exact⟨((L.length:Int) -((A+1))).toNat,ae,(A+1),I,⟨rfl,rfl,rfl,rfl,rfl,rfl,rfl,rfl,trivial⟩,⟨rfl,rfl,trivial⟩,rfl,ae,ae,Dw,(by first|rfl|(simp only[e7,gB,jQ];exact Gh (by assumption) ae (by assumption) (by assumption) (by assumption))|exact Lj (by assumption) ae (by assumption) (by assumption) (by assumption))⟩
  have k6:=ah3.1 (by simpa using h6);refine rc 6 aa ?_;have kv:=visN_lt (w:=L) (t:=bE) (v:=A) ae dZ dZ dZ;obtain⟨ns,nf,n9,⟨wx7_1,Mp,hnx7_1,Mq⟩,eF⟩:=qI (I.length:Int) tW;refine aq (aH aa aa GS ae eF aa ?_);refine ro 11 aa (jh 12 2 91 48 64 6 aa aa aa (bh [39,24,12,11,10,9,8,7,6,3,2,1,0] [90,10,3] aa aa (fun e0 b0 k VE B=>∃G z,ak ((13,.d (dJ G))::e0) VE∧ak ((12,.one 232 64 [.d ns,.d n9,.ac 91 z.length 6])::(91,.acc 48 64 6 z)::b0) B∧k=((ah2.length:Int) -G).toNat∧(0≤G∧(G≤(ah2.length:Int)∨G=0))∧((z.length:Int)≤G)∧(af (Uw X) z)) ?_ fin));rintro _ VE B⟨G,z,hV,hB,rfl,fi,gl,O⟩;refine aT _ _ hV hB (aB 7 aa (aH aa aa M ae dh aa ?_));refine aP 2 aa (aR aa agd ?_);refine ro 2 aa ?_;refine ay aa ?_ ?_<;>intro g8
  ·refine aB 8 aa (aH aa aa M ae dh aa ?_);refine ro 3 aa ?_;obtain⟨n7,kW,pX,⟨ahO,Hb,afJ,Hc⟩,_,⟨DL,rfl,aem,aen⟩,_,⟨Ng,rfl,hzx9_3,kzx9_3⟩,_,⟨ah4,rfl,hzx9_4,kzx9_4⟩,_,⟨ah5,rfl,hzx9_5,kzx9_5⟩,fw⟩:=qI G hrx4_5;refine aq (aH aa aa agd ae fw aa ?_);refine aP 9 aa (aA aa (ProjC F pH UT Iv Hb ae Hc) ?_);rintro _ _⟨nO,GV,rfl,CU,Gl,CV,acx,hey10_0⟩;refine ro 4 aa ?_;obtain⟨Il,rfl,Tl,hqx9_0⟩:=Ty.bT kW;refine rp 4 aa ?_;refine aq (aY (rows:=z) (ys:=[[(dJ Il),nO,(dJ DL),(dJ Ng),(dJ ah4),(dJ ah5)]]) rfl rfl rfl (.bs (rows:=[[(dJ Il),nO,(dJ DL),(dJ Ng),(dJ ah4),(dJ ah5)]]) rfl) ao ae (fun h=>by rw[h];rfl) (fun h=>by rw[h];rfl) ?_);exact W
  refine rc 4 aa (eL 78 91 aa aa dA ?_);obtain⟨U,rfl,hsx7_0⟩:=Ty.bH nf;refine ro 1 aa ?_;refine aq (aY (rows:=I) (ys:=[[(aw U),n9,(.cR z)]]) rfl rfl rfl (.bs (rows:=[[(aw U),n9,(.cR z)]]) rfl) ao ae (fun h=>by rw[h];rfl) (fun h=>by rw[h];rfl) ?_);have kt:(A'.length:Int)=jF bE L:=by rw[Z,Y,abd ao]
  refine aP 4 aa (bB aa aa ae ae ?_);refine dC 2 aa ?_;exact⟨((L.length:Int) -((A+1))).toNat,ae,(A+1),(I++[[(aw U),n9,(.cR z)]]),⟨rfl,rfl,rfl,rfl,rfl,rfl,rfl,rfl,trivial⟩,⟨rfl,rfl,trivial⟩,rfl,ae,dj,(eB Dw (ee (aj (bH an) (aj (aM Mp ae Mq) (aj (aM (.acc _) ae O) bm))))),(by first|rfl|(simp only[e7,gB,jQ];exact Gh (by assumption) ae (by assumption) (by assumption) (by assumption))|exact Lj (by assumption) ae (by assumption) (by assumption) (by assumption))⟩
 exact rc 6 aa (ct 6 90 aa aa (fun _=>⟨aa,aa⟩) (W))
theorem TablesX{T:aL}(F:FT T){X:List Int}{a0 a1 a2 a3 a4 a5:DC}(cV:(Ty.x).ok a0)(bX:(Ty.x).ok a1){G:ah}(L:au G a2)(cY:G.length≤16)(M:af (A5 X) G)(cw:(Ty.x).ok a3)(cb:(Ty.x).ok a4)(cq:(Ty.x).ok a5){bE:Int}(ot:(-9223372036854775808)≤bE)(ou:bE≤9223372036854775807)(hX:X.length≤2000000):Sound T 126 [.agg [.d a0,.d a1,.d a2,.d a3,.d a4,.d a5],.d (dJ bE)] fun r=>∃y0 I,r= .d y0∧au I y0∧(I.length:Int)≤16∧af (MR X) I:=by
 refine bk F.q126 aa (bV 9 aa (aA aa (ZH (bE:=bE) (X:=X) F cg cg L ae M cg cg cg ae ae ae) ?_));rintro _ _⟨dG,fq,rfl,z,O,A,U,Y⟩;refine aP 1 aa (aA aa (TAsX (X:=X) F z ae A al ae) ?_);rintro _ _⟨n6,A',rfl,Z,Di,tW,afR,afS⟩;exact W
end Go.Ev.Rp
namespace Go.Ev.Rp
open Go Go.Ev.Pp
attribute [local irreducible] VC VO VQ VI Sound bW
theorem opX{T:aL}(F:FT T){O:DC}(G:(Ty.i .i64 0 12).ok O):Sound T 260 [.d O] fun r=>∃U,r= .d U∧(Ty.i .i64 0 100).ok U:=by
 refine bk F.q260 aa ?_;obtain⟨aI,rfl,Y,Z⟩:=G;refine r0 13 aa ?_;obtain⟨A,I,L⟩:=bx (z:=aI) (n:=13) ae ae;refine aq (bJ rfl (by rw[←I];rfl) L ?_);obtain⟨m1,M,gQ,um1⟩:∃m:Int,([.d (.i .i64 0),.d (.i .i64 1),.d (.i .i64 2),.d (.i .i64 3),.d (.i .i64 4),.d (.i .i64 5),.d (.i .i64 6),.d (.i .i64 7),.d (.i .i64 7),.d (.i .i64 8),.d (.i .i64 9),.d (.i .i64 10),.d (.i .i64 11)]:List VV)[0+A*1]?=some (.d (.i .i64 m))∧0≤m∧m≤11:=by
  rcases(by omega:A=0∨A=1∨A=2∨A=3∨A=4∨A=5∨A=6∨A=7∨A=8∨A=9∨A=10∨A=11∨A=12) with rfl|rfl|rfl|rfl|rfl|rfl|rfl|rfl|rfl|rfl|rfl|rfl|rfl<;>exact⟨_,rfl,ae,ae⟩
 refine aq (kI aa aa M ?_);exact eV 3 aa (bN aa aa fin)
theorem abw{T:aL}(F:FT T){a0 a1 a2 a3 a4 a5 a6 a7 a8 a9:DC}(z:(Ty.i .i64 0 12).ok a0)(A:(Ty.i .i64 0 30).ok a1)(G:(Ty.i .i64 0 30).ok a2)(I:(Ty.s 1000).ok a3)(L:(Ty.s 1000).ok a4)(M:tJ.ok a5)(O:tJ.ok a6)(U:(Ty.s 1000).ok a7)(Y:(Ty.i .i64 0 60).ok a8)(Z:(Ty.i .i64 0 40).ok a9):Sound T 224 [.agg [.d a0,.d a1,.d a2,.d a3,.d a4,.d a5,.d a6,.d a7],.d a8,.d a9] fun r=>∃y0 y1 y2 y3 y4 y5 y6,r= .agg [.d y0,.d y1,.d y2,.d y3,.d y4,.d y5,.d y6]∧(Ty.i .i64 0 100).ok y0∧(Ty.i .i64 0 100).ok y1∧(Ty.i .i64 0 100).ok y2∧(Ty.i .i64 0 100).ok y3∧tJ.ok y4∧tJ.ok y5∧(Ty.s 1000).ok y6:=by
 refine bk F.q224 aa ?_;rcases z,A,G,I,L,M,O,U,Y,Z with⟨⟨aI,rfl,iF,iG⟩,⟨aN,rfl,eD,eo⟩,⟨bo,rfl,lA,lB⟩,⟨sa3,rfl,ajQ⟩,⟨sa4,rfl,hsa4⟩,⟨cm,rfl,nq,nr⟩,⟨bE,rfl,o0,o4⟩,⟨P',rfl,Pb⟩,⟨gS,rfl,wb,wg⟩,⟨hZ,rfl,BI,BJ⟩⟩
 refine bV 9 aa (aA aa (opX F al) ?_);rintro _ _⟨dG,rfl,mh⟩;exact W
theorem CP{T:aL}(F:FT T){ne:Nat}{a0 a1 a2 a3 a4 a5 a6:DC}(Z:(Ty.b).ok a0)(bX:(Ty.q (BE yf ne)).ok a1)(cK:(Ty.q (A4 ne)).ok a2){G:ah}(eZ:au G a3)(fO:G.length≤2)(eu:af yg G)(cb:(Ty.i .i64 (-1) 30).ok a4)(cq:(Ty.b).ok a5)(fC:(Ty.l 4 [.i .i64 0 ((ne:Int) -1)]).ok a6)(fB:ne≤30):Sound T 225 [.agg [.d a0,.d a1,.d a2,.d a3,.d a4,.d a5,.d a6]] fun r=>∃y0,r= .d y0∧(Ty.b).ok y0:=by
 refine bk F.q225 aa ?_;rcases Z,Ty.bT bX,Ty.bT cK with⟨⟨YI,rfl⟩,⟨bD,cO,dm,cl⟩,⟨bz,I,cY,A⟩⟩
 have L:=A.1;rcases cb,cq,fC with⟨⟨bF,rfl,mw,my⟩,⟨Qc,rfl⟩,⟨gW,gw,yW,jd⟩⟩
 refine r0 11 aa (bh [2,1,0] [1] aa aa (fun e0 b0 k VE B=>∃z,ak ((3,.d (dJ z))::e0) VE∧ak b0 B∧eg k 0 z (bz.length:Int)) ?_ fin);rintro _ VE B⟨z,hV,hB,rfl,bU⟩;refine aT _ _ hV hB (aB 6 aa (aR aa I ?_));refine ro 2 aa ?_;refine ay aa ?_ ?_<;>intro g1
 ·refine rc 8 aa ?_;obtain⟨_,⟨oU,rfl,M,O⟩,_,⟨vN,rfl,U,Y⟩,fW,iC,bQ⟩:=qI z L;have wQ:=qE.get A bQ;exact W
 exact W
theorem abx{T:aL}(F:FT T){ne:Nat}{a0 a1 a2 a3 a4 a5 a6 a7:DC}(cV:(Ty.b).ok a0)(bX:(Ty.q (BE yf ne)).ok a1)(cK:(Ty.q (A4 ne)).ok a2){I:ah}(eZ:au I a3)(fO:I.length≤2)(eu:af yg I)(cb:(Ty.i .i64 (-1) 30).ok a4)(cq:(Ty.b).ok a5)(fC:(Ty.l 4 [.i .i64 0 ((ne:Int) -1)]).ok a6)(gn:tJ.ok a7)(fB:ne≤30):Sound T 223 [.agg [.d a0,.d a1,.d a2,.d a3,.d a4,.d a5,.d a6],.d a7] fun r=>∃y0,r= .d y0∧tJ.ok y0:=by
 refine bk F.q223 aa ?_;rcases cV,Ty.bT bX,Ty.bT cK with⟨⟨YI,rfl⟩,⟨bD,cO,dm,cl⟩,⟨M,O,cY,L⟩⟩
 have U:=L.1;rcases cb,cq,fC,gn with⟨⟨bF,rfl,mw,my⟩,⟨Qc,rfl⟩,⟨gW,gw,yW,jd⟩,⟨ca,rfl,sT,sU⟩⟩
 refine r0 15 aa (bh [4,2,1,0] [2] aa aa (fun e0 b0 k VE B=>∃A z,ak ((5,.d (dJ A))::(6,.d (dJ z))::e0) VE∧ak b0 B∧k=((M.length:Int) -z).toNat∧(0≤A∧A≤31)∧(0≤z∧(z≤(M.length:Int)∨z=0))) ?_ fin);rintro _ VE B⟨A,z,hV,hB,rfl,bU,cN⟩;refine aT _ _ hV hB (aB 6 aa (aR aa O ?_));refine ro 2 aa ?_;refine ay aa ?_ ?_<;>intro g1
 ·refine rc 8 aa ?_;obtain⟨_,⟨oU,rfl,Y,Z⟩,_,⟨vN,rfl,tU,oG⟩,fW,iC,bQ⟩:=qI z U;have wQ:=qE.get L bQ;exact W
 refine rc 8 aa ?_;refine ay aa ?_ ?_<;>intro h4
 ·exact W
 refine rc 7 aa (bh [31,12,6,5,4,2,1,0] [2] aa aa (fun e0 b0 k VE B=>∃G,ak ((7,.d (dJ G))::e0) VE∧ak b0 B∧eg k 1 G (I.length:Int)) ?_ fin);rintro _ VE B⟨G,hV,hB,rfl,fi⟩;exact aT _ _ hV hB (W)
theorem adK{T:aL}(F:FT T){a0 a1 a2 a3 a4 a5 a6 a7 a8 a9 Y Z:DC}{I:ah}(cJ:au I a0)(cM:I.length≤2)(bO:af oN I){G:ah}(M:au G a1)(dm:G.length≤26)(cl:af oN G){L:ah}(uy:G.length≤L.length)(O:au L a2)(cY:L.length≤26)(bY:af [.i .i64 0 ((I.length:Int) -1)] L)(cw:(Ty.i .i64 0 12).ok a3)(cb:(Ty.i .i64 0 30).ok a4)(cq:(Ty.i .i64 0 30).ok a5)(fC:(Ty.s 1000).ok a6)(gn:(Ty.s 1000).ok a7)(gp:tJ.ok a8)(il:tJ.ok a9)(nk:(Ty.s 1000).ok Y)(qb:tJ.ok Z):Sound T 222 [.agg [.d a0,.d a1,.d a2],.agg [.d a3,.d a4,.d a5,.d a6,.d a7,.d a8,.d a9,.d Y],.d Z] fun r=>∃y0 y1,r= .tuple [.d y0,.d y1]∧(Ty.i .i64 0 40).ok y0∧tJ.ok y1:=by
 refine bk F.q222 aa ?_;rcases cw,cb,cq,fC,gn,gp,il,nk,qb with⟨⟨aZ,rfl,kC,kD⟩,⟨bF,rfl,mw,my⟩,⟨cm,rfl,nq,nr⟩,⟨Fh,rfl,O2⟩,⟨P',rfl,Pb⟩,⟨gS,rfl,wb,wg⟩,⟨hZ,rfl,BI,BJ⟩,⟨sa10,rfl,hsa10⟩,⟨fh,rfl,U0,U1⟩⟩
 refine r0 17 aa (bh [7,6,4,3,2,1,0] [4,3] aa aa (fun e0 b0 k VE B=>∃A z,ak ((8,.d (dJ A))::(9,.d (dJ z))::e0) VE∧ak b0 B∧k=((G.length:Int) -z).toNat∧(-1≤A∧A≤25)∧(0≤z∧(z≤(G.length:Int)∨z=0))) ?_ fin);rintro _ VE B⟨A,z,hV,hB,rfl,bU,cN⟩;refine aT _ _ hV hB (aB 6 aa (aR aa M ?_));refine ro 2 aa ?_;refine ay aa ?_ ?_<;>intro g1
 ·refine rc 9 aa ?_;obtain⟨_,⟨U,rfl,qJ,sd⟩,bQ⟩:=qI z bY;refine aU (aH aa aa O ae bQ aa ?_);refine cE aa aa (dy aa aa ?_);refine rq 3 aa ?_;refine dL aa ?_ ?_<;>intro g3
  ·refine rq 14 aa (bL aa (dK aa (bL aa (dK aa (bL aa (bL aa (dK aa (bL aa (dK aa ?_)))))))));exact bL aa (dK aa (bL aa (rq 2 aa (W))))
  refine rq 3 aa ?_;obtain⟨_,⟨sx4_0,rfl,hsx4_0⟩,dh⟩:=qI z cl;refine cn aa aa (aH aa aa M ae dh aa ?_);refine rq 3 aa (cn aa aa (kL aa aa ?_));refine rq 2 aa ?_;refine dL aa ?_ ?_<;>intro g6
  ·refine rq 4 aa (bL aa (dK aa (bL aa (dK aa (bL aa (bL aa (dK aa (bL aa (dK aa ?_)))))))));exact bL aa (dK aa (bL aa (rq 2 aa (W))))
  refine rq 2 aa (cn aa aa (kL (b:=[]) aa aa ?_));refine rq 1 aa ?_;refine dL aa ?_ ?_<;>intro g8
  ·refine rq 5 aa (cn aa aa (aH aa aa O ae bQ aa ?_));refine rq 1 aa ?_;obtain⟨_,⟨sx9_0,rfl,hsx9_0⟩,fw⟩:=qI U bO;refine cn aa aa (aH aa aa cJ ae fw aa ?_);refine rq 3 aa (cn aa aa (kL aa aa ?_));exact rq 2 aa (W)
  exact rq 14 aa (W)
 exact W
end Go.Ev.Rp
namespace Go.Ev.Rp
open Go Go.Ev.Pp
attribute [local irreducible] VC VO VQ VI Sound bW
theorem ah6{T:aL}(F:FT T){ne:Nat}{a0 a1 a2 a3 a4 a5 a6 a7:DC}(cV:(Ty.b).ok a0)(bX:(Ty.q (BE yf ne)).ok a1)(cK:(Ty.q (A4 ne)).ok a2){Z:ah}(eZ:au Z a3)(fO:Z.length≤2)(eu:af yg Z)(cb:(Ty.i .i64 (-1) 30).ok a4)(cq:(Ty.b).ok a5)(fC:(Ty.l 4 [.i .i64 0 ((ne:Int) -1)]).ok a6){wV:ah}(Eu:au wV a7)(OK:wV.length≤16)(Ew:af [.s 1000,.l 100 dX,.l 200 bn,.l 4 ew,.l 4 dW] wV){gS:Int}(la8:(-9223372036854775808)≤gS)(ua8:gS≤9223372036854775807)(fB:ne≤30):Sound T 221 [.agg [.d a0,.d a1,.d a2,.d a3,.d a4,.d a5,.d a6],.d a7,.d (dJ gS),dB false] fun r=>∃y0 bt y2 dH y4 pe y6,r= .tuple [.agg [.d y0,.d y2,.d y4],.d (dJ y6)]∧au bt y0∧(bt.length:Int)≤2∧af oN bt∧au dH y2∧(dH.length:Int)≤26∧af oN dH∧au pe y4∧(pe.length:Int)≤26∧af [.i .i64 0 ((Z.length:Int) -1)] pe∧((-9223372036854775808)≤y6∧y6≤9223372036854775807∧(y6=0→(bt.length:Int)=Z.length∧pe.length=dH.length)):=by
 refine bk F.q221 aa ?_;rcases cV,Ty.bT bX,Ty.bT cK with⟨⟨YI,rfl⟩,⟨bD,cO,dm,cl⟩,⟨bz,cr,cY,hqa2⟩⟩
 have bY:=hqa2.1;rcases cb,cq,fC with⟨⟨bF,rfl,mw,my⟩,⟨Qc,rfl⟩,⟨gW,gw,yW,jd⟩⟩
 refine r0 16 aa (jh 10 0 90 9 16 1 aa aa aa (jh 10 1 91 9 16 1 aa aa aa (jh 10 2 92 3 8 1 aa aa aa (bh [10,9,8,4,3,2,1,0] [8,4] aa aa (fun e0 b0 k VE B=>∃G A M O,ak ((11,.d (dJ G))::e0) VE∧ak ((10,.one 351 72 [.ac 90 A.length 1,.ac 91 M.length 1,.ac 92 O.length 1])::(90,.acc 9 16 1 A)::(91,.acc 9 16 1 M)::(92,.acc 3 8 1 O)::b0) B∧k=((Z.length:Int) -G).toNat∧(0≤G∧(G≤(Z.length:Int)∨G=0))∧((A.length:Int)≤G)∧(af oN A)∧((M.length:Int)≤13*G)∧(af oN M)∧((O.length:Int)≤13*G)∧(af [.i .i64 0 ((Z.length:Int) -1)] O)∧((A.length:Int)=G)∧(O.length=M.length)) ?_ fin))));rintro _ VE B⟨G,A,M,O,hV,hB,rfl,bU,cN,hrw10_0_0,lR,hrw10_1_0,BK,hrw10_2_0,akE,f0_8⟩;refine aT _ _ hV hB (aB 6 aa (aR aa eZ ?_));refine ro 2 aa ?_;refine ay aa ?_ ?_<;>intro g1
 ·refine rc 9 aa ?_;obtain⟨gC,jm,fJ,iX,fW,iC,lD,lL,bQ⟩:=qI G eu;refine aq (aH aa aa eZ ae bQ aa ?_);refine aP 4 aa (aA aa (visibleV (bo:=gS) F Eu ae Ew iX ae ae) ?_);rintro _ _⟨jb,oS,_,rfl,AB,Dj,vx,ahC,rfl⟩;refine ro 9 aa (rp 3 aa ?_);refine cF aa ?_ ?_<;>intro h4
  ·exact rc 3 aa (eL 39 90 aa aa dA (eL 39 91 aa aa dA (eL 39 92 aa aa dA (W))))
  refine aB 6 aa (aH aa aa eZ ae bQ aa ?_);refine ro 4 aa (dP [38,21,13,12,11,10,9,8,4,3,2,1,0] [92,91,90,10,8,4] aa aa (fun e0 b0 VE B=>∃TW,ak ((14,.d TW)::e0) VE∧ak b0 B∧((Ty.s 1000).ok TW)) ?_ ?_)
  ·exact W
  rintro VE B⟨TW,hV,hB,adL⟩;refine aT _ _ hV hB (rc 6 aa (bh [38,21,14,13,12,11,10,9,8,4,3,2,1,0] [92,91,90,10,8,4] aa aa (fun e0 b0 k VE B=>∃NC,ak ((15,.d (dJ NC))::e0) VE∧ak b0 B∧eg k 0 NC (A.length:Int)) ?_ fin));rintro _ VE B⟨NC,hV,hB,rfl,fi⟩;refine aT _ _ hV hB (rc 9 aa ?_);refine ay aa ?_ ?_<;>intro g7
  ·refine rc 8 aa ?_;obtain⟨j8,Cs,te⟩:=bx (z:=NC) (n:=A.length) ae ae;obtain⟨_,⟨sx8_0,rfl,hsx8_0⟩,jg⟩:=qN te hrw10_0_0;refine aq (cZ rfl (by rw[←Cs];rfl) te ?_);refine aq (fe (rows:=A) aa aa jg aa ?_);obtain⟨Y,rfl,hsv14_j4⟩:=Ty.bH adL;refine aP 1 aa (pn aa aa ?_);refine ro 1 aa ?_;refine ay aa ?_ ?_<;>intro uK
   ·exact rc 3 aa (eL 68 90 aa aa dA (eL 68 91 aa aa dA (eL 68 92 aa aa dA (W))))
   exact W
  refine rc 3 aa ?_;obtain⟨Y,rfl,hsv14_j4⟩:=Ty.bH adL;refine rp 4 aa ?_;refine aq (aY (rows:=A) (ys:=[[(aw Y)]]) rfl rfl rfl (.bs (rows:=[[(aw Y)]]) rfl) ao ae (fun h=>by rw[h];rfl) (fun h=>by rw[h];rfl) ?_);refine ro 8 aa (bh [58,38,21,15,14,13,12,11,10,9,8,4,3,2,1,0] [90,72,8,4] aa aa (fun e0 b0 k VE B=>∃U I L,ak ((16,.d (dJ U))::e0) VE∧ak ((10,.one 351 72 [.ac 90 (A++[[(aw Y)]]).length 1,.ac 91 I.length 1,.ac 92 L.length 1])::(91,.acc 9 16 1 I)::(92,.acc 3 8 1 L)::b0) B∧k=((oS.length:Int) -U).toNat∧(0≤U∧(U≤(oS.length:Int)∨U=0))∧((I.length:Int)≤13*G+U)∧(af oN I)∧((L.length:Int)≤13*G+U)∧(af [.i .i64 0 ((Z.length:Int) -1)] L)∧(L.length=I.length)) ?_ fin);rintro _ VE B⟨U,I,L,hV,hB,rfl,oa,wi,hrw10_1_2,f2_3,hrw10_2_2,f2_5⟩;refine aT _ _ hV hB (aB 5 aa (aR aa AB ?_));refine ro 2 aa ?_;refine ay aa ?_ ?_<;>intro lY
  ·refine rc 9 aa ?_;obtain⟨pI,nK,_,⟨age,rfl,hsx12_1⟩,UX,Mg,iH⟩:=qI U vx;refine aU (aH aa aa AB ae iH aa ?_);refine rq 1 aa (cE aa aa (dy aa aa ?_));refine rq 1 aa ?_;refine aO rfl (aY (rows:=I) (ys:=[[(aw age)]]) rfl rfl rfl (.bs (rows:=[[(aw age)]]) rfl) ao ae (fun h=>by rw[h];rfl) (fun h=>by rw[h];rfl) ?_);refine rq 8 aa ?_;refine aq (aY (rows:=L) (ys:=[[(dJ G)]]) rfl rfl rfl (.bs (rows:=[[(dJ G)]]) rfl) ao ae (fun h=>by rw[h];rfl) (fun h=>by rw[h];rfl) ?_);exact W
  exact W
 exact rc 4 aa (eL 97 90 aa aa dA (eL 97 91 aa aa dA (eL 97 92 aa aa dA (W))))
end Go.Ev.Rp
namespace Go.Ev.Rp
open Go Go.Ev.Pp
attribute [local irreducible] VC VO VQ VI Sound bW
theorem aay{T:aL}(F:FT T){ne:Nat}{a0 a1 a2 a3 a4 a5 a6 a7 a8 a9:DC}(cV:(Ty.b).ok a0)(bX:(Ty.q (BE yf ne)).ok a1)(cK:(Ty.q (A4 ne)).ok a2){Z:ah}(eZ:au Z a3)(fO:Z.length≤2)(eu:af yg Z)(cb:(Ty.i .i64 (-1) 30).ok a4)(cq:(Ty.b).ok a5)(fC:(Ty.l 4 [.i .i64 0 ((ne:Int) -1)]).ok a6){O:ah}(Eu:au O a7)(OK:O.length≤2)(Ew:af oN O){zH:ah}(lC:au zH a8)(sK:zH.length≤26)(lQ:af oN zH){l7:ah}(fK:au l7 a9)(JD:l7.length≤26)(iJ:af [.i .i64 0 ((O.length:Int) -1)] l7)(fB:ne≤30):Sound T 226 [.agg [.d a0,.d a1,.d a2,.d a3,.d a4,.d a5,.d a6],.agg [.d a7,.d a8,.d a9]] fun r=>∃y0 bt,r= .d y0∧au bt y0∧(bt.length:Int)≤26∧af oN bt:=by
 refine bk F.q226 aa ?_;rcases cV,Ty.bT bX,Ty.bT cK with⟨⟨YI,rfl⟩,⟨bD,U,dm,cl⟩,⟨bz,I,cY,Y⟩⟩
 have bY:=Y.1;rcases cb,cq,fC with⟨⟨bF,rfl,mw,my⟩,⟨Qc,rfl⟩,⟨gW,gw,yW,jd⟩⟩
 refine bV 11 aa (aR aa I ?_);refine ro 2 aa ?_;refine ay aa ?_ ?_<;>intro h1
 ·exact W
 refine rc 17 aa (dz 5 90 9 16 1 aa aa (bh [12,6,4,3,2,1,0] [6,3,2] aa aa (fun e0 b0 k VE B=>∃G A,ak ((5,.ac 90 A.length 1)::(7,.d (dJ G))::e0) VE∧ak ((90,.acc 9 16 1 A)::b0) B∧k=((bz.length:Int) -G).toNat∧(0≤G∧(G≤(bz.length:Int)∨G=0))∧((A.length:Int)≤G)∧(af oN A)) ?_ fin));rintro _ VE B⟨G,A,hV,hB,rfl,bU,cN,pA⟩;refine aT _ _ hV hB (aB 6 aa (aR aa I ?_));refine ro 2 aa ?_;refine ay aa ?_ ?_<;>intro g2
 ·refine rc 8 aa ?_;obtain⟨_,⟨yj,rfl,GO,Dg⟩,_,⟨H9,rfl,hzx3_1,kzx3_1⟩,_,⟨L,rfl,hsx3_2⟩,fL⟩:=qI G bY;have hi3:=qE.get Y fL;refine aq (aH aa aa I ae fL aa ?_);refine ro 7 aa (hY 2 aa (kL (b:=[]) aa aa ?_));refine ro 2 aa ?_;refine ay aa ?_ ?_<;>intro g5
  ·refine rc 5 aa ?_;refine aq (aY (rows:=A) (ys:=[[(aw L)]]) rfl rfl rfl (.bs (rows:=[[(aw L)]]) rfl) ao ae (fun h=>by rw[h];rfl) (fun h=>by rw[h];rfl) ?_);exact W
  refine rc 7 aa ?_;refine ay aa ?_ ?_<;>intro g6
  ·refine rc 4 aa ?_;obtain⟨j7,im,fm⟩:=bx (z:=yj) (n:=5) ae ae;refine aq (bJ rfl (by rw[←im];rfl) fm ?_);obtain⟨m7,hm7,ze⟩:∃m:List UInt8,([.d (aw []),.d (aw [99,111,117,110,116]),.d (aw [115,117,109]),.d (aw [109,105,110]),.d (aw [109,97,120])]:List VV)[0+j7*1]?=some (.d (aw m))∧m.length≤5:=by
    rcases(by omega:j7=0∨j7=1∨j7=2∨j7=3∨j7=4) with rfl|rfl|rfl|rfl|rfl<;>exact⟨_,rfl,ao⟩
   refine aq (kI aa aa hm7 ?_);refine ro 1 aa ?_;refine aq (aY (rows:=A) (ys:=[[(aw m7)]]) rfl rfl rfl (.bs (rows:=[[(aw m7)]]) rfl) ao ae (fun h=>by rw[h];rfl) (fun h=>by rw[h];rfl) ?_);exact W
  refine rc 6 aa ?_;obtain⟨_,⟨Ig,rfl,aeW,aeX⟩,V4,MW,x8_2,hx8_2,x8_3,hx8_3,_,⟨M,rfl,hsx8_4⟩,x8_5,hx8_5,x8_6,hx8_6,x8_7,hx8_7,jg⟩:=qI H9 cl;refine aq (aH aa aa U ae jg aa ?_);refine ro 5 aa ?_;refine ay aa ?_ ?_<;>intro g9
  ·refine aB 6 aa (aH aa aa U ae jg aa ?_);refine ro 3 aa ?_;refine aq (aY (rows:=A) (ys:=[[(aw M)]]) rfl rfl rfl (.bs (rows:=[[(aw M)]]) rfl) ao ae (fun h=>by rw[h];rfl) (fun h=>by rw[h];rfl) ?_);exact W
  refine rc 3 aa ?_;refine aq (aY (rows:=A) (ys:=[[(aw [101,120,112,114])]]) rfl rfl rfl (.bs (rows:=[[(aw [101,120,112,114])]]) rfl) ao ae (fun h=>by rw[h];rfl) (fun h=>by rw[h];rfl) ?_);exact W
 exact rc 6 aa (ct 4 90 aa aa (fun _=>⟨aa,aa⟩) (W))
end Go.Ev.Rp
