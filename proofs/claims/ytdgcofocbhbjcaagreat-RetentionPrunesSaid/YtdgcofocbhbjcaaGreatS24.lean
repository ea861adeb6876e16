/- Part 24 of rules for walks through the code of a program, and of such walks; what each part proves is said by its theorems. -/
import Derived.Test.YtdgcofocbhbjcaaGreatS23
set_option linter.unusedVariables false
set_option linter.unusedSimpArgs false
noncomputable section
set_option maxRecDepth 100000
set_option maxHeartbeats 4000000
namespace Go.Ev.Rp
open Go Go.Ev.Pp
theorem pV{a b c d:Nat}{w:List (List DC)}(h:aH (fJ a b) w)(p:a≤c)(h2:b≤d):aH (fJ c d) w:=fun r z=>by
 have:=h r z
 obtain⟨x0,x1,x2,x3,x4,x5,rfl,A,F,G,I,J,K⟩:=fe this
 obtain⟨w1,L,M,O⟩:=Ty.au F
 obtain⟨w5,U,Y,Z⟩:=Ty.au K
 exact ao A (ao (au L (fY M p) O) (ao G (ao I (ao J (ao (au U (fY Y h2) Z) bm)))))
theorem Hw{n:Int}{w:List (List DC)}(h:gz w.length n w)(k:jP w.length w)(I:aH eB w)(Y:1≤(w.length:Int)):1≤n:=by
 obtain⟨r,F⟩:∃r,w[0]?=some r:=⟨_,dz ax⟩
 have J:=nu I F
 obtain⟨x0,x1,x2,rfl,Z,k1,K⟩:=c4 J
 obtain⟨L,G,e2,M⟩:=Ty.au K
 have hl:=k.get (o9 _) F rfl G
 have O:=h.get (o9 _) F rfl G
 obtain⟨c,p⟩:∃c,L[0]?=some c:=⟨_,dz ax⟩
 have A:=nu M p
 obtain⟨y0,_,rfl,U,A⟩:=b0 A
 obtain⟨z,rfl,z1,z2⟩:=Ty.az U
 have:=O.get (o9 _) p rfl
 omega
theorem vP{T:bC}(F:FT T){nv mv pR pS:Nat}{a0 a1 a2 a3 a4 a5 a7 a8 a9 U Y Z:DC}(cV:tJ.ok a0)(da:tJ.ok a1){p:List (List DC)}(zT:0≤p.length)(j0:p=[]→a2= .nil)(cO:aR p a2)(et:p.length≤16)(A:aH (fJ nv mv) p)(dk:tJ.ok a3)(dg:(Ty.l 50 fy).ok a4)(dm:(Ty.l 0 iR).ok a5){bA:Int}(wQ:0≤bA)(wS:bA≤(p.length:Int) -1)(nf:(Ty.s 1000).ok a7)(ng:(Ty.l pR eB).ok a8)(lY:(Ty.l 200 cl).ok a9)(pz:(Ty.l 4 fu).ok U)(qD:(Ty.l 4 ez).ok Y)(uc:(Ty.l pS gf).ok Z)(hN:nv≤pR)(hM:mv≤pS):Sound T 81 [.agg [.d a0,.d a1,.d a2,.d a3,.d a4,.d a5],.d (dJ bA),.agg [.d a7,.d a8,.d a9,.d U,.d Y,.d Z]] fun r=>∃(y0:DC)(y1:DC)(y2:DC)(G:List (List DC))(y4:DC)(y5:DC)(y6:DC),r= .agg [.d y0,.d y1,.d y2,.d y4,.d y5,.d y6]∧tJ.ok y0∧tJ.ok y1∧aR G y2∧(G.length:Int)≤16∧aH (fJ pR pS) G∧0≤(G.length:Int)∧(G=[]→y2= .nil)∧tJ.ok y4∧(Ty.l 50 fy).ok y5∧(Ty.l 0 iR).ok y6:=by
 refine ch F.q81 aa ?_
 obtain⟨aQ,rfl,iF,hJ⟩:=Ty.az cV
 obtain⟨aB,rfl,eS,eT⟩:=Ty.az da
 obtain⟨aO,rfl,lM,lN⟩:=Ty.az dk
 obtain⟨eU,cT,fo,dc⟩:=Ty.au dg
 obtain⟨wT,fq,nN,fi⟩:=Ty.au dm
 obtain⟨pQ,rfl,abE⟩:=Ty.aJ nf
 obtain⟨uw,iT,zo,lL⟩:=Ty.au ng
 obtain⟨wa9,sf,abW,zj⟩:=Ty.au lY
 obtain⟨wa10,I,hna10,J⟩:=Ty.au pz
 obtain⟨abF,K,Pt,L⟩:=Ty.au qD
 obtain⟨RJ,M,Zc,O⟩:=Ty.au uc
 refine aj (af 3 aa (aj (ak 2 aa (ai (iK (ys:=p) 9 aa aa aa aa aa (.sD cO (el (pV A hN hM) aa)) aD ae ?_)))))
 refine af 2 aa (aj (ak 4 aa ?_))
 obtain⟨j1,SU,G6⟩:=cE (z:=bA) (n:=((p).length)) ae ae
 obtain⟨r1,pJ⟩:∃r,p[j1]?=some r:=⟨_,dz (by simpa using G6)⟩
 have Ah:=nu (pV A hN hM) pJ
 obtain⟨Q7,Kz,KA,Q8,qG,sj,rfl,BD,EK,EL,JB,EM,JC⟩:=fe Ah
 refine ai (gk rfl (by rw[←SU];rfl) G6 ?_)
 refine jd (mC aa aa aa aa aa aa aD aD pJ (fun w2 SS Sj=>?_))
 have pI:aH (fJ pR pS) w2:=by rw[SS];exact hZ (pV A hN hM) (ao (aJ ax) (ao (au iT ae lL) (ao (au sf ae zj) (ao (au I ae J) (ao (au K ae L) (ao (au M ae O) bm))))))
 rw[←Sj]
 refine bn (aj (ak 1 aa (fO 16 9 aa aa eA (af 1 aa (ay ?_)))))
 exact aE rfl rfl ⟨(dJ aQ),(dJ aB),(.cS w2),w2,(dJ aO),a4,a5,rfl,ah,ah,(.acc _),ae,pI,ae,(fun h=>by rw[h];rfl),ah,(au cT ae dc),(au fq ae fi)⟩
theorem JY{T:bC}(F:FT T){nv mv:Nat}{a0 a1 I a3 K L a6:DC}(O:tJ.ok a0)(U:tJ.ok a1){z:List (List DC)}(zT:0≤z.length)(j0:z=[]→I= .nil)(A:aR z I)(et:z.length≤16)(J:aH (fJ nv mv) z)(Y:tJ.ok a3)(Z:(Ty.l 50 fy).ok K)(dm:(Ty.l 0 iR).ok L)(iX:(Ty.s 1000).ok a6)(my:nv≤99)(qR:mv≤100000):Sound T 76 [.agg [.d a0,.d a1,.d I,.d a3,.d K,.d L],.d a6] fun r=>∃(y0:Int),r= .d (dJ y0)∧((-1)≤y0∧y0≤(z.length:Int) -1∧(True)):=by
 refine ch F.q76 aa ?_
 obtain⟨aQ,rfl,iF,hJ⟩:=Ty.az O
 obtain⟨aB,rfl,eS,eT⟩:=Ty.az U
 obtain⟨aO,rfl,lM,lN⟩:=Ty.az Y
 obtain⟨eU,cT,fo,dc⟩:=Ty.au Z
 obtain⟨wT,fq,nN,fi⟩:=Ty.au dm
 obtain⟨nZ,rfl,Q6⟩:=Ty.aJ iX
 refine aj (af 2 aa (aA (aj (af 1 aa (bj (cb (fun k VE B=>∃(p:Int),(0≤p∧(p≤(z.length:Int)∨p=0))∧k=((z.length:Int) -p).toNat∧aT [(0,.agg [.d (dJ aQ),.d (dJ aB),.d I,.d (dJ aO),.d K,.d L]),(1,dS nZ),(2,.vp 2 0),(4,.d i0),(5,.d (dJ p))] VE∧aT [(2,.one 29 96 [.d (dJ aQ),.d (dJ aB),.d I,.d (dJ aO),.d K,.d L])] B) ?_ (k:=((z.length:Int) -0).toNat) ⟨0,ae,aa,⟨aa,aa,aa,aa,aa,trivial⟩,⟨aa,trivial⟩⟩))))))
 rintro _ VE B⟨p,c9,rfl,hV,hB⟩
 refine bz _ _ hV hB (aA (aj (ak 3 aa (ai (bu aa A ?_)))))
 refine af 1 aa (aN aa (fun h1 g1=>?_) (fun h1 g1=>?_))
 ·refine aG (aA (bj (aj (ak 3 aa ?_))))
  obtain⟨r2,dj,dA⟩:=bR p J
  obtain⟨fR,fh,gn,lu,oE,se,rfl,G,ij,iP,gC,kr,ov⟩:=fe dA
  refine ai (bo aa aa A ae dj aa ?_)
  obtain⟨Jx,rfl,M⟩:=Ty.aJ G
  refine ak 4 aa (ai (uW aa aa ?_))
  refine bn (aN aa (fun h4 g4=>?_) (fun h4 g4=>?_))
  ·exact aj (af 2 aa (ay (aE aa aa ⟨p,aa,⟨ae,ae,trivial⟩⟩)))
  refine aG (aS (ak 1 aa (ai (br aa aa ae ae ?_))))
  exact af 1 aa (⟨((z.length:Int) -((p+1))).toNat,ae,(p+1),ae,aa,⟨aa,aa,aa,aa,aa,trivial⟩,⟨aa,trivial⟩⟩)
 exact bV (aj (af 1 aa (ay (aE aa aa ⟨(-1),aa,⟨ae,ae,trivial⟩⟩))))
theorem modifyN{T:bC}(F:FT T){nv mv:Nat}{a0 a1 a2 a3 a4 a5 a7 a8 a9 kL pT oW jJ oX jK ke kf kg sH wZ xb a22:DC}(cV:tJ.ok a0)(da:tJ.ok a1){cu:List (List DC)}(zT:0≤cu.length)(j0:cu=[]→a2= .nil)(cO:aR cu a2)(et:cu.length≤16)(cK:aH (fJ nv mv) cu)(dk:tJ.ok a3)(dg:(Ty.l 50 fy).ok a4)(dm:(Ty.l 0 iR).ok a5){bA:Int}(wQ:0≤bA)(wS:bA≤(cu.length:Int) -1)(nf:tJ.ok a7)(ng:(Ty.s 1000).ok a8)(lY:(Ty.l 1000000000 ee).ok a9)(pz:tJ.ok kL)(qD:tJ.ok pT)(uc:(Ty.l 100 ji).ok oW)(wv:tJ.ok jJ)(zL:(Ty.l 10 fK).ok oX)(zM:(Ty.s 1000).ok jK)(Gi:(Ty.l 100 eB).ok ke)(Gj:(Ty.l 200 cl).ok kf)(Gk:(Ty.l 4 fu).ok kg)(Gl:(Ty.l 4 ez).ok sH)(Gm:tJ.ok wZ)(Gn:(Ty.s 1000).ok xb)(ha22:tJ.ok a22)(my:nv≤99)(qR:mv≤24000):Sound T 80 [.agg [.d a0,.d a1,.d a2,.d a3,.d a4,.d a5],.d (dJ bA),.agg [.d a7,.d a8,.d a9,.d kL,.d pT,.d oW,.d jJ,.d oX,.d jK,.d ke,.d kf,.d kg,.d sH,.d wZ,.d xb,.d a22]] fun r=>∃(y0:DC)(y1:DC)(y2:DC)(eJ:List (List DC))(y4:DC)(y5:DC)(y6:DC)(y7:DC),r= .tuple [.agg [.d y0,.d y1,.d y2,.d y4,.d y5,.d y6],.d y7]∧tJ.ok y0∧tJ.ok y1∧aR eJ y2∧(eJ.length:Int)≤16∧aH (fJ nv (4*mv+1)) eJ∧0≤(eJ.length:Int)∧(eJ=[]→y2= .nil)∧tJ.ok y4∧(Ty.l 50 fy).ok y5∧(Ty.l 0 iR).ok y6∧tJ.ok y7:=by
 refine ch F.q80 aa ?_
 obtain⟨aQ,rfl,iF,hJ⟩:=Ty.az cV
 obtain⟨aB,rfl,eS,eT⟩:=Ty.az da
 obtain⟨aO,rfl,lM,lN⟩:=Ty.az dk
 obtain⟨eU,cT,fo,dc⟩:=Ty.au dg
 obtain⟨wT,fq,nN,fi⟩:=Ty.au dm
 obtain⟨bI,rfl,RB,RC⟩:=Ty.az nf
 obtain⟨sa8,rfl,hsa8⟩:=Ty.aJ ng
 obtain⟨wa9,sf,abW,zj⟩:=Ty.au lY
 obtain⟨gg,rfl,PR,PT⟩:=Ty.az pz
 obtain⟨gH,rfl,hza11,kza11⟩:=Ty.az qD
 obtain⟨RJ,Fc,Zc,BQ⟩:=Ty.au uc
 obtain⟨RK,rfl,hza13,kza13⟩:=Ty.az wv
 obtain⟨wa14,P2,hna14,P3⟩:=Ty.au zL
 obtain⟨abX,rfl,hsa15⟩:=Ty.aJ zM
 obtain⟨abG,E5,ZO,E6⟩:=Ty.au Gi
 obtain⟨abH,E7,ZP,E8⟩:=Ty.au Gj
 obtain⟨abI,E9,ZQ,Fa⟩:=Ty.au Gk
 obtain⟨wa19,hda19,hna19,hra19⟩:=Ty.au Gl
 obtain⟨abY,rfl,hza20,kza20⟩:=Ty.az Gm
 obtain⟨abZ,rfl,hsa21⟩:=Ty.aJ Gn
 obtain⟨ab0,rfl,hza22,kza22⟩:=Ty.az ha22
 refine aj (af 4 aa (aj (ak 2 aa (ai (pZ aa aa (fun z1 uv=>?_))))))
 refine af 1 aa (aj (ak 3 aa ?_))
 obtain⟨r2,dj,dA⟩:=bR bA cK
 obtain⟨fR,fh,gn,lu,oE,se,rfl,Y,ij,Z,gC,kr,ov⟩:=fe dA
 refine ai (bo aa aa cO ae dj aa ?_)
 refine af 3 aa (aj (ak 2 aa ?_))
 obtain⟨ED,z,DN,A⟩:=Ty.au ij
 refine ai (aY aa (aV aa) (IX F Y z ae A Z gC kr) (fun r3 _ fv=>?_))
 obtain⟨iG,rfl,⟨ly3_0,uy3_0,kx⟩⟩:=fv
 refine af 1 aa (aj (af 1 aa (aA (aj (af 3 aa (aN aa (fun h4 g4=>?_) (fun h4 g4=>?_)))))))
 ·refine aA (aj (ak 2 aa (ai (aY aa (aV aa) (II F ah ah) (fun r5 _ dL=>?_)))))
  obtain⟨il,rfl,jS⟩:=dL
  obtain⟨EN,rfl⟩:=Ty.bQ jS
  refine af 1 aa (db aa (fun h6=>?_) (fun h6=>?_))
  ·exact aj (af 3 aa (ay (aE aa aa ⟨i0,i0,.nil,[],i0,.nil,.nil,(dJ 10),aa,ah,ah,(.inr ⟨aa,aa⟩),ae,bN,ae,(fun _=>aa),ah,bl,bl,ah⟩)))
  refine aG (aj (ak 3 aa (ai (aY aa (aV aa) (abB F Y z ae A Z gC kr ah) (fun r7 _ nc=>?_)))))
  obtain⟨wu,ab1,y7_2,wy7_2,y7_4,rfl,rJ,P4,hdy7_2,hny7_2,hry7_2,hmy7_2,hfy7_2,hy7_4⟩:=nc
  refine af 6 aa (aj (ak 4 aa (ai (aY aa (aV aa) (ExpandC (bc:=iG) F rJ P4 hdy7_2 ae hry7_2 sf ae zj ae ae) (fun r8 _ lW=>?_)))))
  obtain⟨qE,wy8_0,wF,rfl,I6,hny8_0,I7,P5⟩:=lW
  refine af 5 aa (aA (aj ?_))
  obtain⟨zy8_2,rfl,hzy8_2,kzy8_2⟩:=Ty.az P5
  refine af 2 aa (aN aa (fun h9 g9=>?_) (fun h9 g9=>?_))
  ·exact aj (af 4 aa (ay (aE aa aa ⟨i0,i0,.nil,[],i0,.nil,.nil,(dJ zy8_2),aa,ah,ah,(.inr ⟨aa,aa⟩),ae,bN,ae,(fun _=>aa),ah,bl,bl,ah⟩)))
  refine aG (aS (ak 3 aa (ai (aY aa (aV aa) (InsertC F (au I6 ae I7) ah ah) (fun mA _ oI=>?_)))))
  obtain⟨vF,wy10_0,y10_2,wy10_2,rfl,MG,hny10_0,MH,Wq,hny10_2,hry10_2⟩:=oI
  refine af 1 aa (aj (ak 6 aa ?_))
  obtain⟨yt,G,Nr,J⟩:=Ty.au ov
  refine ai (aY aa (aV aa) (D4 F G ae J MG ae MH Wq ae hry10_2 ah ah) (fun pN _ lO=>?_))
  obtain⟨pd,Xt,y11_2,rfl,Dv,VU,nA,Ox⟩:=lO
  refine af 5 aa (aA (aj ?_))
  obtain⟨zy11_2,rfl,hzy11_2,kzy11_2⟩:=Ty.az Ox
  refine af 2 aa (aN aa (fun eM gS=>?_) (fun eM gS=>?_))
  ·exact aj (af 4 aa (ay (aE aa aa ⟨i0,i0,.nil,[],i0,.nil,.nil,(dJ zy11_2),aa,ah,ah,(.inr ⟨aa,aa⟩),ae,bN,ae,(fun _=>aa),ah,bl,bl,ah⟩)))
  refine aG (aj (af 3 aa (aj (ak 3 aa (ai (aY aa (aV aa) (vP (bA:=bA) (nv:=nv) (mv:=mv) (pR:=nv) (pS:=4*mv+1) F ah ah ae j0 cO ae cK ah (au cT ae dc) (au fq ae fi) ae ae Y (au z ae A) Z gC kr (au Dv ae nA) ae ae) (fun qQ _ oF=>?_)))))))
  obtain⟨rM,y13_1,y13_2,wy13_2,y13_4,y13_5,y13_6,rfl,D2,hy13_1,hdy13_2,hny13_2,hry13_2,hmy13_2,hey13_2,hy13_4,hy13_5,hy13_6⟩:=oF
  refine af 1 aa (aj (ak 4 aa (ai (bu aa Wq ?_))))
  obtain⟨zy13_1,rfl,hzy13_1,kzy13_1⟩:=Ty.az hy13_1
  refine ai (pZ aa aa (fun z14 KK=>?_))
  exact af 2 aa (aj (af 3 aa (ay (aE aa aa ⟨rM,(dJ z14),y13_2,wy13_2,y13_4,y13_5,y13_6,i0,aa,D2,ah,hdy13_2,ae,hry13_2,ae,hey13_2,hy13_4,hy13_5,hy13_6,ah⟩))))
 refine aA (aj (ak 4 aa (ai (aY aa (aV aa) (rowE F Y z ae A Z gC kr ah ah (aJ ax) (au sf ae zj) ah ah (au Fc ae BQ) ah (au P2 ae P3) (aJ ax) (au E5 ae E6) (au E7 ae E8) (au E9 ae Fa) (au hda19 ae hra19) ah (aJ ax) ah) (fun sw _ oM=>?_)))))
 obtain⟨vN,rfl,vq⟩:=oM
 refine af 1 aa (aj ?_)
 obtain⟨I9,rfl,Wj,Wk⟩:=Ty.az vq
 refine af 2 aa (aN aa (fun eE jE=>?_) (fun eE jE=>?_))
 ·exact aj (af 4 aa (ay (aE aa aa ⟨i0,i0,.nil,[],i0,.nil,.nil,(dJ I9),aa,ah,ah,(.inr ⟨aa,aa⟩),ae,bN,ae,(fun _=>aa),ah,bl,bl,ah⟩)))
 refine aG (aj (af 1 aa (aA (aj (af 1 aa (bj ?_))))))
 obtain⟨yt,G,Nr,J⟩:=Ty.au ov
 refine ki 17 90 48 64 6 aa aa (cb (fun k VE B=>∃(p:Int)(K:List (List DC)),(0≤p∧(p≤(yt.length:Int)∨p=0))∧((K.length:Int)≤p)∧(aH gf K)∧k=((yt.length:Int) -p).toNat∧aT [(0,.agg [.d (dJ aQ),.d (dJ aB),.d a2,.d (dJ aO),.d a4,.d a5]),(1,.d (dJ bA)),(2,.agg [.d (dJ bI),dS sa8,.d a9,.d (dJ gg),.d (dJ gH),.d oW,.d (dJ RK),.d oX,dS abX,.d ke,.d kf,.d kg,.d sH,.d (dJ abY),dS abZ,.d (dJ ab0)]),(3,.vp 3 0),(5,.vp 5 0),(6,.vp 6 0),(7,.d i0),(8,.d (dJ z1)),(9,.vp 9 0),(10,.d (dJ iG)),(11,.vp 11 0),(16,.d (dJ I9)),(17,.ac 90 K.length 6),(18,.d (dJ p)),(37,dB (decide (bI=1))),(72,dB ((!decide (I9=0))))] VE∧aT [(3,.one 29 96 [.d (dJ aQ),.d (dJ aB),.d a2,.d (dJ aO),.d a4,.d a5]),(5,.one 107 264 [.d (dJ bI),dS sa8,.d a9,.d (dJ gg),.d (dJ gH),.d oW,.d (dJ RK),.d oX,dS abX,.d ke,.d kf,.d kg,.d sH,.d (dJ abY),dS abZ,.d (dJ ab0)]),(6,.one 29 96 [.d i0,.d i0,dN,.d i0,dN,dN]),(9,.one 43 136 [.d fR,.d fh,.d gn,.d lu,.d oE,.d se]),(11,.one 198 48 [dN,dN]),(90,.acc 48 64 6 K)] B) ?_ (k:=((yt.length:Int) -0).toNat) ⟨0,[],ae,cn,bN,aa,⟨aa,aa,aa,aa,aa,aa,aa,aa,aa,aa,aa,aa,aa,aa,aa,aa,trivial⟩,⟨aa,aa,aa,aa,aa,aa,trivial⟩⟩)
 rintro _ VE B⟨p,K,c9,fr,I,rfl,hV,hB⟩
 refine bz _ _ hV hB (aA (aj (ak 3 aa (ai (bu aa G ?_)))))
 refine af 1 aa (aN aa (fun gR jF=>?_) (fun gR jF=>?_))
 ·refine aG (aA (bj (aj (ak 3 aa ?_))))
  obtain⟨CP,qI,zx⟩:=bR p J
  obtain⟨PE,BE,ZS,x18_3,x18_4,x18_5,rfl,A5,A6,I4,I',Oy,Yg⟩:=fe zx
  refine ai (bo aa aa G ae qI aa ?_)
  refine af 3 aa (aA (aj ?_))
  obtain⟨Ba,rfl,hzx18_5,kzx18_5⟩:=Ty.az Yg
  refine af 4 aa (aN aa (fun uA uC=>?_) (fun uA uC=>?_))
  ·refine aS (ak 3 aa ?_)
   obtain⟨wx18_1,MI,hnx18_1,MJ⟩:=Ty.au A6
   refine ai (aY aa (aV aa) (abx F MI ae MJ ah) (fun CQ _ F7=>?_))
   obtain⟨ym,wy20_0,rfl,hdy20_0,hny20_0,hry20_0,hmy20_0,hey20_0⟩:=F7
   refine af 2 aa (aS ?_)
   obtain⟨L,rfl,V',Wa⟩:=Ty.az A5
   obtain⟨M,rfl,hzx18_2,kzx18_2⟩:=Ty.az I4
   obtain⟨O,rfl,hzx18_3,kzx18_3⟩:=Ty.az I'
   obtain⟨U,rfl,hzx18_4,kzx18_4⟩:=Ty.az Oy
   refine ak 3 aa ?_
   refine ai (cr (rows:=K) (ys:=[[(dJ L),ym,(dJ M),(dJ O),(dJ U),(dJ Ba)]]) rfl rfl rfl (.bs (rows:=[[(dJ L),ym,(dJ M),(dJ O),(dJ U),(dJ Ba)]]) rfl) aD ae (fun h=>by rw[h];rfl) (fun h=>by rw[h];rfl) ?_)
   refine af 1 aa (aS (ak 1 aa (ai (br aa aa ae ae ?_))))
   exact af 1 aa (⟨((yt.length:Int) -((p+1))).toNat,ae,(p+1),(K++[[(dJ L),ym,(dJ M),(dJ O),(dJ U),(dJ Ba)]]),ae,cn,(bS I (bX (ao ah (ao (au hdy20_0 ae hry20_0) (ao ah (ao ah (ao ah (ao ah bm)))))))),aa,⟨aa,aa,aa,aa,aa,aa,aa,aa,aa,aa,aa,aa,aa,aa,aa,aa,trivial⟩,⟨aa,aa,aa,aa,aa,aa,trivial⟩⟩)
  refine aG (aS ?_)
  obtain⟨L,rfl,V',Wa⟩:=Ty.az A5
  obtain⟨wx18_1,MI,hnx18_1,MJ⟩:=Ty.au A6
  obtain⟨M,rfl,hzx18_2,kzx18_2⟩:=Ty.az I4
  obtain⟨O,rfl,hzx18_3,kzx18_3⟩:=Ty.az I'
  obtain⟨U,rfl,hzx18_4,kzx18_4⟩:=Ty.az Oy
  refine ak 3 aa ?_
  refine ai (cr (rows:=K) (ys:=[[(dJ L),BE,(dJ M),(dJ O),(dJ U),(dJ Ba)]]) rfl rfl rfl (.bs (rows:=[[(dJ L),BE,(dJ M),(dJ O),(dJ U),(dJ Ba)]]) rfl) aD ae (fun h=>by rw[h];rfl) (fun h=>by rw[h];rfl) ?_)
  refine af 1 aa (aS (ak 1 aa (ai (br aa aa ae ae ?_))))
  exact af 1 aa (⟨((yt.length:Int) -((p+1))).toNat,ae,(p+1),(K++[[(dJ L),BE,(dJ M),(dJ O),(dJ U),(dJ Ba)]]),ae,cn,(bS I (bX (ao ah (ao (au MI ae MJ) (ao ah (ao ah (ao ah (ao ah bm)))))))),aa,⟨aa,aa,aa,aa,aa,aa,aa,aa,aa,aa,aa,aa,aa,aa,aa,aa,trivial⟩,⟨aa,aa,aa,aa,aa,aa,trivial⟩⟩)
 refine bV (cN (cP 6 aa (aA (aj (af 2 aa (aN aa (fun gw l7=>?_) (fun gw l7=>?_)))))))
 ·refine aj (ak 1 aa (ai (bu aa Fc ?_)))
  refine af 1 aa (aS (ak 1 aa (ai (iK (ys:=RJ) 109 aa aa aa aa aa (.sD Fc (el BQ aa)) aD ae ?_))))
  refine ak 3 aa ?_
  refine ai (cr (rows:=RJ) (ys:=[[(dJ 1),i0,i0,i0,(dJ 3),(dJ 1),(al [])]]) rfl rfl rfl (.bs (rows:=[[(dJ 1),i0,i0,i0,(dJ 3),(dJ 1),(al [])]]) rfl) aD ae (fun h=>by rw[h];rfl) (fun h=>by rw[h];rfl) ?_)
  refine af 1 aa (aj (af 3 aa (aN aa (fun oQ oR=>?_) (fun oQ oR=>?_))))
  ·refine fm 17 90 aa aa (fun _=>⟨aa,aa⟩) (fm 20 109 aa aa (fun _=>⟨aa,aa⟩) (aS (ak 5 aa (ai (aY aa (aV aa) (Wd F (.acc _) ae I ah ah (.acc _) Bs (bS BQ (bX (ao ah (ao ah (ao ah (ao ah (ao ah (ao ah (ao (aJ (s:=[]) aD) bm))))))))) ah) (fun CS _ tX=>?_))))))
   obtain⟨BM,I0,y23_2,wy23_2,rfl,xz,Mt,xA,Ws,hny23_2,hry23_2⟩:=tX
   refine af 1 aa (aj (ak 6 aa (ai (aY aa (aV aa) (D4 F G ae J xz ae xA Ws ae hry23_2 ah ah) (fun GO _ zU=>?_)))))
   obtain⟨JZ,Yh,y24_2,rfl,AN,Wt,Ic,hy24_2⟩:=zU
   refine af 5 aa (aA (aj ?_))
   obtain⟨zy24_2,rfl,hzy24_2,kzy24_2⟩:=Ty.az hy24_2
   refine af 2 aa (aN aa (fun iJ qV=>?_) (fun iJ qV=>?_))
   ·exact aj (af 4 aa (ay (aE aa aa ⟨i0,i0,.nil,[],i0,.nil,.nil,(dJ zy24_2),aa,ah,ah,(.inr ⟨aa,aa⟩),ae,bN,ae,(fun _=>aa),ah,bl,bl,ah⟩)))
   refine aG (aj (af 3 aa (aj (ak 3 aa (ai (aY aa (aV aa) (vP (bA:=bA) (nv:=nv) (mv:=mv) (pR:=nv) (pS:=4*mv+1) F ah ah ae j0 cO ae cK ah (au cT ae dc) (au fq ae fi) ae ae Y (au z ae A) Z gC kr (au AN ae Ic) ae ae) (fun GP _ tV=>?_)))))))
   obtain⟨BG,Zt,PI,wy26_2,y26_4,y26_5,y26_6,rfl,sZ,NU,hdy26_2,hny26_2,hry26_2,hmy26_2,hey26_2,hy26_4,hy26_5,hy26_6⟩:=tV
   refine af 1 aa (aj (ak 4 aa (ai (bu aa Ws ?_))))
   obtain⟨zy26_1,rfl,hzy26_1,kzy26_1⟩:=Ty.az NU
   refine ai (pZ aa aa (fun z27 hz27=>?_))
   exact af 2 aa (aj (af 3 aa (ay (aE aa aa ⟨BG,(dJ z27),PI,wy26_2,y26_4,y26_5,y26_6,i0,aa,sZ,ah,hdy26_2,ae,hry26_2,ae,hey26_2,hy26_4,hy26_5,hy26_6,ah⟩))))
  refine fm 17 90 aa aa (fun _=>⟨aa,aa⟩) (fm 20 109 aa aa (fun _=>⟨aa,aa⟩) (aS (ak 7 aa (ai (aY aa (aV aa) (We F (.acc _) ae I ah ah (.acc _) Bs (bS BQ (bX (ao ah (ao ah (ao ah (ao ah (ao ah (ao ah (ao (aJ (s:=[]) aD) bm))))))))) ah P2 ae P3) (fun GQ _ tW=>?_))))))
  obtain⟨BH,wy28_0,Zu,wy28_2,rfl,hdy28_0,hny28_0,hry28_0,Wu,hny28_2,hry28_2⟩:=tW
  refine af 1 aa (aj (ak 6 aa (ai (aY aa (aV aa) (D4 F G ae J hdy28_0 ae hry28_0 Wu ae hry28_2 ah ah) (fun G9 _ RL=>?_)))))
  obtain⟨Z0,wy29_0,Z1,rfl,hdy29_0,hny29_0,hry29_0,hy29_2⟩:=RL
  refine af 5 aa (aA (aj ?_))
  obtain⟨zy29_2,rfl,hzy29_2,kzy29_2⟩:=Ty.az hy29_2
  refine af 2 aa (aN aa (fun K9 Sq=>?_) (fun K9 Sq=>?_))
  ·exact aj (af 4 aa (ay (aE aa aa ⟨i0,i0,.nil,[],i0,.nil,.nil,(dJ zy29_2),aa,ah,ah,(.inr ⟨aa,aa⟩),ae,bN,ae,(fun _=>aa),ah,bl,bl,ah⟩)))
  refine aG (aj (af 3 aa (aj (ak 3 aa (ai (aY aa (aV aa) (vP (bA:=bA) (nv:=nv) (mv:=mv) (pR:=nv) (pS:=4*mv+1) F ah ah ae j0 cO ae cK ah (au cT ae dc) (au fq ae fi) ae ae Y (au z ae A) Z gC kr (au hdy29_0 ae hry29_0) ae ae) (fun La _ zA=>?_)))))))
  obtain⟨JE,y31_1,y31_2,wy31_2,y31_4,y31_5,y31_6,rfl,NL,hy31_1,hdy31_2,hny31_2,hry31_2,hmy31_2,hey31_2,hy31_4,hy31_5,hy31_6⟩:=zA
  refine af 1 aa (aj (ak 4 aa (ai (bu aa Wu ?_))))
  obtain⟨zy31_1,rfl,hzy31_1,kzy31_1⟩:=Ty.az hy31_1
  refine ai (pZ aa aa (fun z32 hz32=>?_))
  exact af 2 aa (aj (af 3 aa (ay (aE aa aa ⟨JE,(dJ z32),y31_2,wy31_2,y31_4,y31_5,y31_6,i0,aa,NL,ah,hdy31_2,ae,hry31_2,ae,hey31_2,hy31_4,hy31_5,hy31_6,ah⟩))))
 refine aG (aj (af 3 aa (aN aa (fun q6 uJ=>?_) (fun q6 uJ=>?_))))
 ·refine fm 17 90 aa aa (fun _=>⟨aa,aa⟩) (aS (ak 5 aa (ai (aY aa (aV aa) (Wd F (.acc _) ae I ah ah Fc ae BQ ah) (fun r34 _ Rg=>?_)))))
  obtain⟨Zw,wy34_0,Zx,wy34_2,rfl,hdy34_0,hny34_0,hry34_0,Wv,hny34_2,hry34_2⟩:=Rg
  refine af 1 aa (aj (ak 6 aa (ai (aY aa (aV aa) (D4 F G ae J hdy34_0 ae hry34_0 Wv ae hry34_2 ah ah) (fun r35 _ RM=>?_)))))
  obtain⟨y35_0,wy35_0,y35_2,rfl,hdy35_0,hny35_0,hry35_0,Oz⟩:=RM
  refine af 5 aa (aA (aj ?_))
  obtain⟨zy35_2,rfl,hzy35_2,kzy35_2⟩:=Ty.az Oz
  refine af 2 aa (aN aa (fun h36 SO=>?_) (fun h36 SO=>?_))
  ·exact aj (af 4 aa (ay (aE aa aa ⟨i0,i0,.nil,[],i0,.nil,.nil,(dJ zy35_2),aa,ah,ah,(.inr ⟨aa,aa⟩),ae,bN,ae,(fun _=>aa),ah,bl,bl,ah⟩)))
  refine aG (aj (af 3 aa (aj (ak 3 aa (ai (aY aa (aV aa) (vP (bA:=bA) (nv:=nv) (mv:=mv) (pR:=nv) (pS:=4*mv+1) F ah ah ae j0 cO ae cK ah (au cT ae dc) (au fq ae fi) ae ae Y (au z ae A) Z gC kr (au hdy35_0 ae hry35_0) ae ae) (fun r37 _ hp37=>?_)))))))
  obtain⟨y37_0,y37_1,y37_2,wy37_2,y37_4,y37_5,y37_6,rfl,hy37_0,hy37_1,hdy37_2,hny37_2,hry37_2,hmy37_2,hey37_2,hy37_4,hy37_5,hy37_6⟩:=hp37
  refine af 1 aa (aj (ak 4 aa (ai (bu aa Wv ?_))))
  obtain⟨zy37_1,rfl,hzy37_1,kzy37_1⟩:=Ty.az hy37_1
  refine ai (pZ aa aa (fun z38 hz38=>?_))
  exact af 2 aa (aj (af 3 aa (ay (aE aa aa ⟨y37_0,(dJ z38),y37_2,wy37_2,y37_4,y37_5,y37_6,i0,aa,hy37_0,ah,hdy37_2,ae,hry37_2,ae,hey37_2,hy37_4,hy37_5,hy37_6,ah⟩))))
 refine fm 17 90 aa aa (fun _=>⟨aa,aa⟩) (aS (ak 7 aa (ai (aY aa (aV aa) (We F (.acc _) ae I ah ah Fc ae BQ ah P2 ae P3) (fun r39 _ Rh=>?_)))))
 obtain⟨y39_0,wy39_0,y39_2,wy39_2,rfl,hdy39_0,hny39_0,hry39_0,Ww,hny39_2,hry39_2⟩:=Rh
 refine af 1 aa (aj (ak 6 aa (ai (aY aa (aV aa) (D4 F G ae J hdy39_0 ae hry39_0 Ww ae hry39_2 ah ah) (fun r40 _ Ri=>?_)))))
 obtain⟨Zy,wy40_0,Zz,rfl,hdy40_0,hny40_0,hry40_0,NY⟩:=Ri
 refine af 5 aa (aA (aj ?_))
 obtain⟨zy40_2,rfl,hzy40_2,kzy40_2⟩:=Ty.az NY
 refine af 2 aa (aN aa (fun iY Aj=>?_) (fun iY Aj=>?_))
 ·exact aj (af 4 aa (ay (aE aa aa ⟨i0,i0,.nil,[],i0,.nil,.nil,(dJ zy40_2),aa,ah,ah,(.inr ⟨aa,aa⟩),ae,bN,ae,(fun _=>aa),ah,bl,bl,ah⟩)))
 refine aG (aj (af 3 aa (aj (ak 3 aa (ai (aY aa (aV aa) (vP (bA:=bA) (nv:=nv) (mv:=mv) (pR:=nv) (pS:=4*mv+1) F ah ah ae j0 cO ae cK ah (au cT ae dc) (au fq ae fi) ae ae Y (au z ae A) Z gC kr (au hdy40_0 ae hry40_0) ae ae) (fun r42 _ Rj=>?_)))))))
 obtain⟨ZA,y42_1,y42_2,wy42_2,y42_4,y42_5,y42_6,rfl,NZ,hy42_1,hdy42_2,hny42_2,hry42_2,hmy42_2,hey42_2,hy42_4,hy42_5,hy42_6⟩:=Rj
 refine af 1 aa (aj (ak 4 aa (ai (bu aa Ww ?_))))
 obtain⟨zy42_1,rfl,hzy42_1,kzy42_1⟩:=Ty.az hy42_1
 refine ai (pZ aa aa (fun z43 hz43=>?_))
 exact af 2 aa (aj (af 3 aa (ay (aE aa aa ⟨ZA,(dJ z43),y42_2,wy42_2,y42_4,y42_5,y42_6,i0,aa,NZ,ah,hdy42_2,ae,hry42_2,ae,hey42_2,hy42_4,hy42_5,hy42_6,ah⟩))))
theorem createN{T:bC}(F:FT T){nv mv:Nat}{a0 a1 a2 a3 a4 a5 a6 a7 a8 a9 kL:DC}(cV:tJ.ok a0)(da:tJ.ok a1){cu:List (List DC)}(zT:0≤cu.length)(j0:cu=[]→a2= .nil)(cO:aR cu a2)(et:cu.length≤16)(cK:aH (fJ nv mv) cu)(dk:tJ.ok a3)(dg:(Ty.l 50 fy).ok a4)(dm:(Ty.l 0 iR).ok a5)(iX:(Ty.s 1000).ok a6){K5:List (List DC)}(Kt:aR K5 a7)(hna7:K5.length≤100)(aa2:aH eB K5)(ng:(Ty.l 200 cl).ok a8)(lY:(Ty.l 4 fu).ok a9)(pz:(Ty.l 4 ez).ok kL)(my:nv≤99)(qR:mv≤100000)(SX:1≤nv):Sound T 75 [.agg [.d a0,.d a1,.d a2,.d a3,.d a4,.d a5],.agg [.d a6,.d a7,.d a8,.d a9,.d kL]] fun r=>∃(y0:DC)(y1:DC)(y2:DC)(eJ:List (List DC))(y4:DC)(y5:DC)(y6:DC)(y7:DC),r= .tuple [.agg [.d y0,.d y1,.d y2,.d y4,.d y5,.d y6],.d y7]∧tJ.ok y0∧tJ.ok y1∧aR eJ y2∧(eJ.length:Int)≤16∧aH (fJ nv mv) eJ∧0≤(eJ.length:Int)∧(eJ=[]→y2= .nil)∧tJ.ok y4∧(Ty.l 50 fy).ok y5∧(Ty.l 0 iR).ok y6∧tJ.ok y7:=by
 refine ch F.q75 aa ?_
 obtain⟨aQ,rfl,iF,hJ⟩:=Ty.az cV
 obtain⟨aB,rfl,eS,eT⟩:=Ty.az da
 obtain⟨aO,rfl,lM,lN⟩:=Ty.az dk
 obtain⟨eU,cT,fo,dc⟩:=Ty.au dg
 obtain⟨wT,fq,nN,fi⟩:=Ty.au dm
 obtain⟨nZ,rfl,Q6⟩:=Ty.aJ iX
 obtain⟨uw,iT,zo,lL⟩:=Ty.au ng
 obtain⟨wa9,sf,abW,zj⟩:=Ty.au lY
 obtain⟨wa10,Jv,hna10,hra10⟩:=Ty.au pz
 refine aj (af 4 aa (aj (ak 2 aa (ai (pZ aa aa (fun z1 uv=>?_))))))
 refine af 1 aa (aj (ak 2 aa (ai (aY aa (aV aa) (CreateSC F (aJ ax) Kt ae aa2 (au iT ae lL) (au sf ae zj) (au Jv ae hra10) ah) (fun r2 _ iu=>?_)))))
 obtain⟨jx,M,wy2_1,O,U,Y,qJ,rfl,qu,D7,hny2_1,L,Fe,hy2_4,Ff,⟨ly2_6,uy2_6,vQ⟩⟩:=iu
 refine af 6 aa (aA (bj (aj (af 3 aa (aN aa (fun h3 g3=>?_) (fun h3 g3=>?_))))))
 ·exact aj (af 4 aa (ay (aE aa aa ⟨i0,i0,.nil,[],i0,.nil,.nil,(dJ qJ),aa,ah,ah,(.inr ⟨aa,aa⟩),ae,bN,ae,(fun _=>aa),ah,bl,bl,ah⟩)))
 refine aj (ak 3 aa (ai (aY aa (aV aa) (JY (nv:=nv) (mv:=mv) F ah ah ae j0 cO ae cK ah (au cT ae dc) (au fq ae fi) (aJ ax) ae ae) (fun r4 _ eo=>?_))))
 obtain⟨fk,rfl,mN⟩:=eo
 refine af 2 aa (aN aa (fun h5 g5=>?_) (fun h5 g5=>?_))
 ·exact aj (af 3 aa (ay (aE aa aa ⟨i0,i0,.nil,[],i0,.nil,.nil,(dJ 9),aa,ah,ah,(.inr ⟨aa,aa⟩),ae,bN,ae,(fun _=>aa),ah,bl,bl,ah⟩)))
 refine aj (ak 2 aa (ai (bu aa cO ?_)))
 refine af 2 aa (aN aa (fun h6 g6=>?_) (fun h6 g6=>?_))
 ·exact aj (af 3 aa (ay (aE aa aa ⟨i0,i0,.nil,[],i0,.nil,.nil,(dJ 12),aa,ah,ah,(.inr ⟨aa,aa⟩),ae,bN,ae,(fun _=>aa),ah,bl,bl,ah⟩)))
 refine aG (aA (aj (af 1 aa (bj ?_))))
 obtain⟨vR,xX,hny2_4,Bb⟩:=Ty.au hy2_4
 refine cb (fun k VE B=>∃(K:Int),(0≤K∧(K≤(vR.length:Int)∨K=0))∧k=((vR.length:Int) -K).toNat∧aT [(0,.agg [.d (dJ aQ),.d (dJ aB),.d a2,.d (dJ aO),.d a4,.d a5]),(1,.agg [dS nZ,.d a7,.d a8,.d a9,.d kL]),(2,.vp 2 0),(3,.vp 3 0),(4,.vp 4 0),(5,.d i0),(6,.d (dJ z1)),(7,.vp 7 0),(8,.d (dJ qJ)),(9,.d (dJ K)),(26,dB ((!decide (qJ=0)))),(31,dB (decide (0≤fk))),(38,dB (decide (16≤(cu.length:Int))))] VE∧aT [(2,.one 29 96 [.d (dJ aQ),.d (dJ aB),.d a2,.d (dJ aO),.d a4,.d a5]),(3,.one 40 112 [dS nZ,.d a7,.d a8,.d a9,.d kL]),(4,.one 29 96 [.d i0,.d i0,dN,.d i0,dN,dN]),(7,.one 40 112 [.d jx,.d M,.d O,.d U,.d Y])] B) ?_ (k:=((vR.length:Int) -0).toNat) ⟨0,ae,aa,⟨aa,aa,aa,aa,aa,aa,aa,aa,aa,aa,aa,aa,aa,trivial⟩,⟨aa,aa,aa,aa,trivial⟩⟩
 rintro _ VE B⟨K,c9,rfl,hV,hB⟩
 refine bz _ _ hV hB (aA (aj (ak 3 aa (ai (bu aa xX ?_)))))
 refine af 1 aa (aN aa (fun h7 g7=>?_) (fun h7 g7=>?_))
 ·refine aG (aA (bj (aj (ak 3 aa ?_))))
  obtain⟨r8,qX,qY⟩:=bR K Bb
  obtain⟨sm,KC,F',rfl,td,BJ,BK⟩:=c4 qY
  refine ai (bo aa aa xX ae qX aa ?_)
  refine af 3 aa (aj (af 3 aa (aA (aj ?_))))
  obtain⟨BO,rfl,hsx8_1⟩:=Ty.aJ BJ
  obtain⟨I,rfl,Yi⟩:=Ty.aJ qu
  refine ak 4 aa (ai (xq aa aa ?_))
  refine bn (aN aa (fun gx fV=>?_) (fun gx fV=>?_))
  ·refine aj (ak 3 aa (ai (aY aa (aV aa) (JY (nv:=nv) (mv:=mv) F ah ah ae j0 cO ae cK ah (au cT ae dc) (au fq ae fi) (aJ ax) ae ae) (fun pN _ lO=>?_))))
   obtain⟨pd,rfl,D1⟩:=lO
   refine af 1 aa (aA (aj (af 2 aa (aN aa (fun eM gS=>?_) (fun eM gS=>?_)))))
   ·exact aj (af 3 aa (ay (aE aa aa ⟨i0,i0,.nil,[],i0,.nil,.nil,(dJ 8),aa,ah,ah,(.inr ⟨aa,aa⟩),ae,bN,ae,(fun _=>aa),ah,bl,bl,ah⟩)))
   refine aG (aS (ak 3 aa ?_))
   obtain⟨qQ,sk,qH⟩:=bR pd cK
   obtain⟨rK,yk,ZT,ZU,ZV,x13_5,rfl,sY,A4,XX,XY,XZ,hx13_5⟩:=fe qH
   refine ai (bo aa aa cO ae sk aa ?_)
   refine af 3 aa (cN (aP 2 aa (bP aa (aY aa (aV aa) (A8 F (aJ ax) D7 ae L Fe (au xX ae Bb) Ff ah) (fun sB _ zH=>?_)))))
   obtain⟨EW,Yf,rfl,ME,hny14_0,MF,hmy14_0,Wx⟩:=zH
   refine aP 2 aa ?_
   obtain⟨wx13_1,H7,hnx13_1,H8⟩:=Ty.au A4
   refine bP aa (aY aa (aV aa) (A8 F sY H7 ae H8 XX XY XZ ah) (fun sw _ oM=>?_))
   obtain⟨vN,wy15_0,rfl,Ie,hny15_0,MK,hmy15_0,hfy15_0⟩:=oM
   refine cP 2 aa (aj (af 1 aa (bj (cb (fun k VE B=>∃(p:Int),(0≤p∧(p≤(((([[DC.i .i64 1]]:List (List DC))).length:Nat):Int)∨p=0))∧k=(((((([[DC.i .i64 1]]:List (List DC))).length:Nat):Int):Int) -p).toNat∧aT [(0,.agg [.d (dJ aQ),.d (dJ aB),.d a2,.d (dJ aO),.d a4,.d a5]),(1,.agg [dS nZ,.d a7,.d a8,.d a9,.d kL]),(2,.vp 2 0),(3,.vp 3 0),(4,.vp 4 0),(5,.d i0),(6,.d (dJ z1)),(7,.vp 7 0),(8,.d (dJ qJ)),(9,.d (dJ K)),(10,.vp 10 0),(11,.vp 11 0),(12,.d (dJ pd)),(13,.d EW),(14,.d vN),(15,.d (dJ p)),(26,dB ((!decide (qJ=0)))),(31,dB (decide (0≤fk))),(38,dB (decide (16≤(cu.length:Int)))),(48,dB (decide (K<(vR.length:Int)))),(61,dB ((!decide (BO=I)))),(67,dB (decide (pd<0)))] VE∧aT [(2,.one 29 96 [.d (dJ aQ),.d (dJ aB),.d a2,.d (dJ aO),.d a4,.d a5]),(3,.one 40 112 [dS nZ,.d a7,.d a8,.d a9,.d kL]),(4,.one 29 96 [.d i0,.d i0,dN,.d i0,dN,dN]),(7,.one 40 112 [dS I,.d M,.d O,.d U,.d Y]),(10,.one 128 64 [.d sm,dS BO,.d F']),(11,.one 40 112 [.d rK,.d yk,.d ZT,.d ZU,.d ZV])] B) ?_ (k:=(((((([[DC.i .i64 1]]:List (List DC))).length:Nat):Int):Int) -0).toNat) ⟨0,ae,aa,⟨aa,aa,aa,aa,aa,aa,aa,aa,aa,aa,aa,aa,aa,aa,aa,aa,aa,aa,aa,aa,aa,aa,trivial⟩,⟨aa,aa,aa,aa,aa,aa,trivial⟩⟩))))
   rintro _ VE B⟨p,jj,rfl,hV,hB⟩
   refine bz _ _ hV hB (aA (aj ?_))
   obtain rfl:=Ty.gm BK
   refine ak 3 aa (ai (bu aa (.inl aa) ?_))
   refine af 1 aa (aN aa (fun eE jE=>?_) (fun eE jE=>?_))
   ·refine aG (aA (bj (cN (aP 3 aa ?_))))
    obtain⟨CN,wD,oL⟩:=bR p Bt
    obtain⟨ZR,_,rfl,I3,oL⟩:=b0 oL
    obtain rfl:=dy oL
    refine aU (bo aa aa (.inl aa) ae wD aa ?_)
    refine de aa aa (cF aa aa ?_)
    refine aP 1 aa (aU (bu aa Ie ?_))
    obtain⟨XV,rfl,hzx17_0,kzx17_0⟩:=Ty.az I3
    refine aP 2 aa (fA (g:=FD) aa (fun A ni=>?_) (fun A ni=>?_))
    ·refine bh aa A (bh aa A (ca aa A (bh aa A (bh aa A (ca aa A (bh aa A (bh aa A (ca aa A (bh aa A ?_)))))))))
     refine bh aa A (ca aa A (bh aa A (bh aa A (ca aa A ?_))))
     have kb:=Hw Wx (vQ ax).2 L (vQ ax).1
     refine bh aa A (bh aa A (ca aa A (bh aa A (aU (aW aa A aa ?_)))))
     exact cU (cg aa aa (aj (af 3 aa (ay (aE aa aa ⟨i0,i0,.nil,[],i0,.nil,.nil,(dJ 7),aa,ah,ah,(.inr ⟨aa,aa⟩),ae,bN,ae,(fun _=>aa),ah,bl,bl,ah⟩)))))
    refine bg aa A (bf aa ?_)
    refine bg aa A (bL aa ?_)
    refine cw aa A aa (bJ aa aa aa ?_)
    refine bg aa A (bf aa ?_)
    refine bg aa A (bo aa aa (.inl aa) ae wD aa ?_)
    refine cw aa A aa (cF aa aa ?_)
    refine bg aa A (eb aa aa ae ae ?_)
    obtain⟨Al,zI,lR⟩:=bR (XV-1) MK
    obtain⟨BL,_,rfl,DX,lR⟩:=b0 lR
    obtain rfl:=dy lR
    refine bg aa A (bo aa aa Ie ae zI aa ?_)
    refine cw aa A aa (cF aa aa ?_)
    refine bg aa A (bf aa ?_)
    refine bg aa A (bL aa ?_)
    refine cw aa A aa (bJ aa aa aa ?_)
    refine bg aa A (bf aa ?_)
    obtain rfl:=Ty.gm td
    obtain⟨CQ,wA,nQ⟩:=bR p Bt
    obtain⟨PF,_,rfl,DS,nQ⟩:=b0 nQ
    obtain rfl:=dy nQ
    refine bg aa A (bo aa aa (.inl aa) ae wA aa ?_)
    refine cw aa A aa (cF aa aa ?_)
    have kb:=Hw Wx (vQ ax).2 L (vQ ax).1
    obtain⟨Oo,rfl,hzx20_0,kzx20_0⟩:=Ty.az DS
    refine bg aa A (eb aa aa ae ae ?_)
    obtain⟨CR,wB,pE⟩:=bR (Oo-1) MF
    obtain⟨BF,_,rfl,xQ,pE⟩:=b0 pE
    obtain rfl:=dy pE
    refine bg aa A (bo aa aa ME ae wB aa ?_)
    refine cw aa A aa (cF aa aa ?_)
    obtain⟨zx19_0,rfl,hzx19_0,kzx19_0⟩:=Ty.az DX
    obtain⟨XE,rfl,hzx21_0,kzx21_0⟩:=Ty.az xQ
    refine bg aa A (eR aa aa ?_)
    refine aU (bd aa A aa ?_)
    refine cU (aN aa (fun oQ oR=>?_) (fun oQ oR=>?_))
    ·exact aj (af 3 aa (ay (aE aa aa ⟨i0,i0,.nil,[],i0,.nil,.nil,(dJ 7),aa,ah,ah,(.inr ⟨aa,aa⟩),ae,bN,ae,(fun _=>aa),ah,bl,bl,ah⟩)))
    refine aG (aS (ak 1 aa (ai (br aa aa ae ae ?_))))
    exact af 1 aa (⟨(((((([[DC.i .i64 1]]:List (List DC))).length:Nat):Int):Int) -((p+1))).toNat,ae,(p+1),ae,aa,⟨aa,aa,aa,aa,aa,aa,aa,aa,aa,aa,aa,aa,aa,aa,aa,aa,aa,aa,aa,aa,aa,aa,trivial⟩,⟨aa,aa,aa,aa,aa,aa,trivial⟩⟩)
   refine bV (aS (ak 1 aa (ai (br aa aa ae ae ?_))))
   exact af 1 aa (⟨((vR.length:Int) -((K+1))).toNat,ae,(K+1),ae,aa,⟨aa,aa,aa,aa,aa,aa,aa,aa,aa,aa,aa,aa,aa,trivial⟩,⟨aa,aa,aa,aa,trivial⟩⟩)
  refine aG (cN (aP 2 aa (bP aa (aY aa (aV aa) (A8 F (aJ ax) D7 ae L Fe (au xX ae Bb) Ff ah) (fun CS _ tX=>?_)))))
  obtain⟨BM,I0,rfl,xz,Mt,xA,V8,Wy⟩:=tX
  refine aP 2 aa (bP aa (aY aa (aV aa) (A8 F (aJ ax) D7 ae L Fe (au xX ae Bb) Ff ah) (fun GO _ zU=>?_)))
  obtain⟨JZ,Yh,rfl,AN,Wt,Ic,hmy24_0,hfy24_0⟩:=zU
  refine cP 2 aa (aj (af 1 aa (bj (cb (fun k VE B=>∃(p:Int),(0≤p∧(p≤(((([[DC.i .i64 1]]:List (List DC))).length:Nat):Int)∨p=0))∧k=(((((([[DC.i .i64 1]]:List (List DC))).length:Nat):Int):Int) -p).toNat∧aT [(0,.agg [.d (dJ aQ),.d (dJ aB),.d a2,.d (dJ aO),.d a4,.d a5]),(1,.agg [dS nZ,.d a7,.d a8,.d a9,.d kL]),(2,.vp 2 0),(3,.vp 3 0),(4,.vp 4 0),(5,.d i0),(6,.d (dJ z1)),(7,.vp 7 0),(8,.d (dJ qJ)),(9,.d (dJ K)),(10,.vp 10 0),(11,.vp 11 0),(13,.d BM),(14,.d JZ),(15,.d (dJ p)),(26,dB ((!decide (qJ=0)))),(31,dB (decide (0≤fk))),(38,dB (decide (16≤(cu.length:Int)))),(48,dB (decide (K<(vR.length:Int)))),(61,dB ((!decide (BO=I))))] VE∧aT [(2,.one 29 96 [.d (dJ aQ),.d (dJ aB),.d a2,.d (dJ aO),.d a4,.d a5]),(3,.one 40 112 [dS nZ,.d a7,.d a8,.d a9,.d kL]),(4,.one 29 96 [.d i0,.d i0,dN,.d i0,dN,dN]),(7,.one 40 112 [dS I,.d M,.d O,.d U,.d Y]),(10,.one 128 64 [.d sm,dS BO,.d F']),(11,.one 40 112 [dS I,.d M,.d O,.d U,.d Y])] B) ?_ (k:=(((((([[DC.i .i64 1]]:List (List DC))).length:Nat):Int):Int) -0).toNat) ⟨0,ae,aa,⟨aa,aa,aa,aa,aa,aa,aa,aa,aa,aa,aa,aa,aa,aa,aa,aa,aa,aa,aa,aa,trivial⟩,⟨aa,aa,aa,aa,aa,aa,trivial⟩⟩))))
  rintro _ VE B⟨p,jj,rfl,hV,hB⟩
  refine bz _ _ hV hB (aA (aj ?_))
  obtain rfl:=Ty.gm BK
  refine ak 3 aa (ai (bu aa (.inl aa) ?_))
  refine af 1 aa (aN aa (fun iJ qV=>?_) (fun iJ qV=>?_))
  ·refine aG (aA (bj (cN (aP 3 aa ?_))))
   obtain⟨GP,KJ,Cs⟩:=bR p Bt
   obtain⟨x26_0,_,rfl,hx26_0,Cs⟩:=b0 Cs
   obtain rfl:=dy Cs
   refine aU (bo aa aa (.inl aa) ae KJ aa ?_)
   refine de aa aa (cF aa aa ?_)
   refine aP 1 aa (aU (bu aa AN ?_))
   obtain⟨zx26_0,rfl,hzx26_0,kzx26_0⟩:=Ty.az hx26_0
   refine aP 2 aa (fA (g:=FD) aa (fun G g27=>?_) (fun G g27=>?_))
   ·refine bh aa G (bh aa G (ca aa G (bh aa G (bh aa G (ca aa G (bh aa G (bh aa G (ca aa G (bh aa G ?_)))))))))
    refine bh aa G (ca aa G (bh aa G (bh aa G (ca aa G ?_))))
    have kb:=Hw Wy (vQ ax).2 L (vQ ax).1
    refine bh aa G (bh aa G (ca aa G (bh aa G (aU (aW aa G aa ?_)))))
    exact cU (cg aa aa (aj (af 3 aa (ay (aE aa aa ⟨i0,i0,.nil,[],i0,.nil,.nil,(dJ 7),aa,ah,ah,(.inr ⟨aa,aa⟩),ae,bN,ae,(fun _=>aa),ah,bl,bl,ah⟩)))))
   refine bg aa G (bf aa ?_)
   refine bg aa G (bL aa ?_)
   refine cw aa G aa (bJ aa aa aa ?_)
   refine bg aa G (bf aa ?_)
   refine bg aa G (bo aa aa (.inl aa) ae KJ aa ?_)
   refine cw aa G aa (cF aa aa ?_)
   refine bg aa G (eb aa aa ae ae ?_)
   obtain⟨GQ,hg28,Ct⟩:=bR (zx26_0-1) Ic
   obtain⟨x28_0,_,rfl,hx28_0,Ct⟩:=b0 Ct
   obtain rfl:=dy Ct
   refine bg aa G (bo aa aa AN ae hg28 aa ?_)
   refine cw aa G aa (cF aa aa ?_)
   refine bg aa G (bf aa ?_)
   refine bg aa G (bL aa ?_)
   refine cw aa G aa (bJ aa aa aa ?_)
   refine bg aa G (bf aa ?_)
   obtain rfl:=Ty.gm td
   obtain⟨G9,zQ,ud⟩:=bR p Bt
   obtain⟨PZ,_,rfl,vo,ud⟩:=b0 ud
   obtain rfl:=dy ud
   refine bg aa G (bo aa aa (.inl aa) ae zQ aa ?_)
   refine cw aa G aa (cF aa aa ?_)
   have kb:=Hw Wy (vQ ax).2 L (vQ ax).1
   obtain⟨zx29_0,rfl,Wf,Wg⟩:=Ty.az vo
   refine bg aa G (eb aa aa ae ae ?_)
   obtain⟨wX,Ru,zG⟩:=bR (zx29_0-1) xA
   obtain⟨ZG,_,rfl,DV,zG⟩:=b0 zG
   obtain rfl:=dy zG
   refine bg aa G (bo aa aa xz ae Ru aa ?_)
   refine cw aa G aa (cF aa aa ?_)
   obtain⟨zx28_0,rfl,hzx28_0,kzx28_0⟩:=Ty.az hx28_0
   obtain⟨zx30_0,rfl,Mr,Ms⟩:=Ty.az DV
   refine bg aa G (eR aa aa ?_)
   refine aU (bd aa G aa ?_)
   refine cU (aN aa (fun gU SI=>?_) (fun gU SI=>?_))
   ·exact aj (af 3 aa (ay (aE aa aa ⟨i0,i0,.nil,[],i0,.nil,.nil,(dJ 7),aa,ah,ah,(.inr ⟨aa,aa⟩),ae,bN,ae,(fun _=>aa),ah,bl,bl,ah⟩)))
   refine aG (aS (ak 1 aa (ai (br aa aa ae ae ?_))))
   exact af 1 aa (⟨(((((([[DC.i .i64 1]]:List (List DC))).length:Nat):Int):Int) -((p+1))).toNat,ae,(p+1),ae,aa,⟨aa,aa,aa,aa,aa,aa,aa,aa,aa,aa,aa,aa,aa,aa,aa,aa,aa,aa,aa,aa,trivial⟩,⟨aa,aa,aa,aa,aa,aa,trivial⟩⟩)
  refine bV (aS (ak 1 aa (ai (br aa aa ae ae ?_))))
  exact af 1 aa (⟨((vR.length:Int) -((K+1))).toNat,ae,(K+1),ae,aa,⟨aa,aa,aa,aa,aa,aa,aa,aa,aa,aa,aa,aa,aa,trivial⟩,⟨aa,aa,aa,aa,trivial⟩⟩)
 refine bV (aj (af 1 aa (aA (bj (cb (fun k VE B=>∃(J:Int),(0≤J∧(J≤(cu.length:Int)∨J=0))∧k=((cu.length:Int) -J).toNat∧aT [(0,.agg [.d (dJ aQ),.d (dJ aB),.d a2,.d (dJ aO),.d a4,.d a5]),(1,.agg [dS nZ,.d a7,.d a8,.d a9,.d kL]),(2,.vp 2 0),(3,.vp 3 0),(4,.vp 4 0),(5,.d i0),(6,.d (dJ z1)),(7,.vp 7 0),(8,.d (dJ qJ)),(9,.d (dJ K)),(16,.d (dJ J)),(26,dB ((!decide (qJ=0)))),(31,dB (decide (0≤fk))),(38,dB (decide (16≤(cu.length:Int)))),(48,dB (decide (K<(vR.length:Int))))] VE∧aT [(2,.one 29 96 [.d (dJ aQ),.d (dJ aB),.d a2,.d (dJ aO),.d a4,.d a5]),(3,.one 40 112 [dS nZ,.d a7,.d a8,.d a9,.d kL]),(4,.one 29 96 [.d i0,.d i0,dN,.d i0,dN,dN]),(7,.one 40 112 [.d jx,.d M,.d O,.d U,.d Y])] B) ?_ (k:=((cu.length:Int) -0).toNat) ⟨0,ae,aa,⟨aa,aa,aa,aa,aa,aa,aa,aa,aa,aa,aa,aa,aa,aa,aa,trivial⟩,⟨aa,aa,aa,aa,trivial⟩⟩)))))
 rintro _ VE B⟨J,wq,rfl,hV,hB⟩
 refine bz _ _ hV hB (aA (cN (aP 3 aa (aU (bu aa cO ?_)))))
 refine aP 2 aa (fA (g:=Bf) aa (fun Z SW=>?_) (fun Z SW=>?_))
 ·refine bg aa Z (bL aa ?_)
  refine cw aa Z aa (bJ aa aa aa ?_)
  refine bg aa Z (bf aa ?_)
  obtain⟨r33,hg33,hr33⟩:=bR J cK
  obtain⟨x33_0,x33_1,x33_2,x33_3,x33_4,x33_5,rfl,hx33_0,hx33_1,hx33_2,hx33_3,hx33_4,hx33_5⟩:=fe hr33
  refine bg aa Z (bo aa aa cO ae hg33 aa ?_)
  refine bg aa Z (eL aa ?_)
  refine bg aa Z (eL aa ?_)
  refine cw aa Z aa (cF aa aa ?_)
  refine bg aa Z (bL aa ?_)
  refine cw aa Z aa (bJ aa aa aa ?_)
  obtain⟨sx33_0,rfl,hsx33_0⟩:=Ty.aJ hx33_0
  obtain⟨I,rfl,Yi⟩:=Ty.aJ qu
  refine bg aa Z (Mj aa aa aD (fun b34=>?_))
  refine aU (aW aa Z aa ?_)
  refine cU (db aa (fun GR=>?_) (fun GR=>?_))
  ·refine aG (bj (aS (ak 1 aa (ai (br aa aa ae ae ?_)))))
   exact af 1 aa (⟨((cu.length:Int) -((J+1))).toNat,ae,(J+1),ae,aa,⟨aa,aa,aa,aa,aa,aa,aa,aa,aa,aa,aa,aa,aa,aa,aa,trivial⟩,⟨aa,aa,aa,aa,trivial⟩⟩)
  refine bV (cN (aP 3 aa ?_))
  obtain⟨j36,hj36,kj36⟩:=cE (z:=J) (n:=cu.length+1) ae ae
  refine aU (fI (l:=0) (h:=j36) rfl cO cK rfl j0 ⟨_,(by rw[←hj36];rfl)⟩ rfl ae ae (fun d37 G' hd37 hl37 ab2=>?_))
  refine bP aa (VI.fresh aa (iK (ys:=G') 141 aa aa aa aa aa (.sD hd37 (el ab2 aa)) aD ae ?_))
  obtain⟨wy2_3,OA,hny2_3,OB⟩:=Ty.au Fe
  obtain⟨wy2_5,OC,hny2_5,OD⟩:=Ty.au Ff
  refine aP 3 aa (DM 2 aa (fun p38=>?_))
  refine U8 2 aa trivial aa aa (cr (rows:=G') (ys:=[[(al I),M,O,U,Y,.nil]]) aa aa aa (.bs (rows:=[[(al I),M,O,U,Y,.nil]]) aa) aD ae dF dF ?_)
  refine aP 1 aa (U9 aa aa trivial ⟨aa,trivial,trivial,trivial,trivial,trivial⟩ (VI.Y7 (b:=2) aa (bJ (b:=2) aa aa aa ?_)))
  refine aP 1 aa ?_
  obtain⟨j39,hj39,kj39⟩:=cE (z:=J) (n:=cu.length+1) ae ae
  refine aU (fI (l:=j39) (h:=cu.length) rfl cO cK rfl j0 rfl ⟨_,(by rw[←hj39];rfl)⟩ ae ae (fun d40 SY hd40 hl40 ab3=>?_))
  refine bP aa (cr (rows:=(G'++[[(al I),M,O,U,Y,.nil]])) (ys:=SY) aa aa aa (.sD hd40 (el ab3 aa)) aD ae (fun h=>absurd h bx) (fun h=>absurd h bx) ?_)
  refine cP 2 aa (aj (ak 1 aa (fO 152 141 aa aa eA (af 2 aa (ay ?_)))))
  exact aE rfl rfl ⟨(dJ aQ),(dJ aB),(.cS ((G'++[[(al I),M,O,U,Y,.nil]])++SY)),((G'++[[(al I),M,O,U,Y,.nil]])++SY),(dJ aO),a4,a5,i0,rfl,ah,ah,(.acc _),hH,(bS (bS ab2 (bX (ao (aJ ax) (ao (au D7 ae L) (ao (au OA ae OB) (ao (au xX ae Bb) (ao (au OC ae OD) (ao bl bm)))))))) ab3),ae,(fun h=>by rw[h];rfl),ah,(au cT ae dc),(au fq ae fi),ah⟩
 refine bh aa Z (ca aa Z (bh aa Z (bh aa Z (bh aa Z (bh aa Z (ca aa Z (bh aa Z (ca aa Z (bh aa Z ?_)))))))))
 refine aU (bd aa Z aa ?_)
 refine cU (cH aa aa (bV (cN (aP 3 aa ?_))))
 obtain⟨j41,hj41,kj41⟩:=cE (z:=J) (n:=cu.length+1) ae ae
 refine aU (fI (l:=0) (h:=j41) rfl cO cK rfl j0 ⟨_,(by rw[←hj41];rfl)⟩ rfl ae ae (fun d42 Ha hd42 hl42 ab4=>?_))
 refine bP aa (VI.fresh aa (iK (ys:=Ha) 141 aa aa aa aa aa (.sD hd42 (el ab4 aa)) aD ae ?_))
 obtain⟨I,rfl,Yi⟩:=Ty.aJ qu
 obtain⟨wy2_3,OA,hny2_3,OB⟩:=Ty.au Fe
 obtain⟨wy2_5,OC,hny2_5,OD⟩:=Ty.au Ff
 refine aP 3 aa (DM 2 aa (fun p43=>?_))
 refine U8 2 aa trivial aa aa (cr (rows:=Ha) (ys:=[[(al I),M,O,U,Y,.nil]]) aa aa aa (.bs (rows:=[[(al I),M,O,U,Y,.nil]]) aa) aD ae dF dF ?_)
 refine aP 1 aa (U9 aa aa trivial ⟨aa,trivial,trivial,trivial,trivial,trivial⟩ (VI.Y7 (b:=2) aa (bJ (b:=2) aa aa aa ?_)))
 refine aP 1 aa ?_
 obtain⟨j44,hj44,kj44⟩:=cE (z:=J) (n:=cu.length+1) ae ae
 refine aU (fI (l:=j44) (h:=cu.length) rfl cO cK rfl j0 rfl ⟨_,(by rw[←hj44];rfl)⟩ ae ae (fun d45 SZ hd45 hl45 ab5=>?_))
 refine bP aa (cr (rows:=(Ha++[[(al I),M,O,U,Y,.nil]])) (ys:=SZ) aa aa aa (.sD hd45 (el ab5 aa)) aD ae (fun h=>absurd h bx) (fun h=>absurd h bx) ?_)
 refine cP 2 aa (aj (ak 1 aa (fO 152 141 aa aa eA (af 2 aa (ay ?_)))))
 exact aE rfl rfl ⟨(dJ aQ),(dJ aB),(.cS ((Ha++[[(al I),M,O,U,Y,.nil]])++SZ)),((Ha++[[(al I),M,O,U,Y,.nil]])++SZ),(dJ aO),a4,a5,i0,rfl,ah,ah,(.acc _),hH,(bS (bS ab4 (bX (ao (aJ ax) (ao (au D7 ae L) (ao (au OA ae OB) (ao (au xX ae Bb) (ao (au OC ae OD) (ao bl bm)))))))) ab5),ae,(fun h=>by rw[h];rfl),ah,(au cT ae dc),(au fq ae fi),ah⟩
end Go.Ev.Rp
