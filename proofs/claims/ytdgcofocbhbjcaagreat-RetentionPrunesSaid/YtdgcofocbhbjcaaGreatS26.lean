/- Part 26 of rules for walks through the code of a program, and of such walks; what each part proves is said by its theorems. -/
import Derived.Test.YtdgcofocbhbjcaaGreatS25
set_option linter.unusedVariables false
set_option linter.unusedSimpArgs false
noncomputable section
set_option maxRecDepth 100000
set_option maxHeartbeats 4000000
namespace Go.Ev.Rp
open Go Go.Ev.Pp
theorem ApplyN{T:bC}(F:FT T){nv:Nat}{a0 a1 a2 a3 a4 a5 a6 a7 a8 a9 Z pT oW jJ oX jK:DC}(cV:tJ.ok a0)(da:tJ.ok a1){p:List (List DC)}(zT:0≤p.length)(j0:p=[]→a2= .nil)(cO:aR p a2)(et:p.length≤16)(cK:aH (fJ nv 4096) p)(dk:tJ.ok a3)(dg:(Ty.l 50 fy).ok a4)(dm:(Ty.l 0 iR).ok a5)(iX:(Ty.i .i64 1 1).ok a6)(nf:tJ.ok a7)(ng:(Ty.l 2 vD).ok a8)(lY:tJ.ok a9)(pz:tJ.ok Z)(qD:tJ.ok pT)(uc:(Ty.s 1000).ok oW)(wv:tJ.ok jJ)(zL:tJ.ok oX)(zM:tJ.ok jK)(my:nv≤97)(SX:1≤nv):Sound T 30 [.agg [.d a0,.d a1,.d a2,.d a3,.d a4,.d a5],.agg [.d a6,.d a7,.d a8,.d a9,.d Z,.d pT,.d oW,.d jJ,.d oX,.d jK]] fun r=>∃(y0:DC)(y1:DC)(y2:DC)(z:List (List DC))(y4:DC)(y5:DC)(y6:DC)(y7:DC),r= .tuple [.agg [.d y0,.d y1,.d y2,.d y4,.d y5,.d y6],.d y7]∧tJ.ok y0∧tJ.ok y1∧aR z y2∧(z.length:Int)≤16∧aH (fJ (nv+2) 4096) z∧0≤(z.length:Int)∧(z=[]→y2= .nil)∧tJ.ok y4∧(Ty.l 50 fy).ok y5∧(Ty.l 0 iR).ok y6∧tJ.ok y7:=by
 refine ch F.q30 aa ?_
 obtain⟨aQ,rfl,iF,hJ⟩:=Ty.az cV
 obtain⟨aB,rfl,eS,eT⟩:=Ty.az da
 obtain⟨aO,rfl,lM,lN⟩:=Ty.az dk
 obtain⟨eU,cT,fo,dc⟩:=Ty.au dg
 obtain⟨wT,fq,nN,fi⟩:=Ty.au dm
 obtain⟨bA,rfl,Cj,Ck⟩:=Ty.az iX
 obtain⟨bI,rfl,RB,RC⟩:=Ty.az nf
 obtain⟨uw,iT,zo,lL⟩:=Ty.au ng
 obtain⟨hU,rfl,Ku,Kv⟩:=Ty.az lY
 obtain⟨gg,rfl,PR,PT⟩:=Ty.az pz
 obtain⟨gH,rfl,hza11,kza11⟩:=Ty.az qD
 obtain⟨sa12,rfl,hsa12⟩:=Ty.aJ uc
 obtain⟨RK,rfl,hza13,kza13⟩:=Ty.az wv
 obtain⟨za14,rfl,hza14,kza14⟩:=Ty.az zL
 obtain⟨za15,rfl,hza15,kza15⟩:=Ty.az zM
 refine aj (af 4 aa (aA (aj (af 2 aa (bj (aj (af 2 aa (aN aa (fun h1 g1=>?_) (fun h1 g1=>?_)))))))))
 ·refine aj (ak 3 aa (ai (aY aa (aV aa) (CommitN (nv:=nv) F ah ah ae j0 cO ae cK ah (au cT ae dc) (au fq ae fi) iT ae lL ae ae) (fun r2 _ iu=>?_))))
  obtain⟨jx,Gh,KQ,J,y2_4,y2_5,qJ,y2_7,rfl,K,L,A,hny2_2,G,hmy2_2,I,M,O,U,Y⟩:=iu
  exact af 4 aa (ay (aE aa aa ⟨jx,Gh,KQ,J,y2_4,y2_5,qJ,y2_7,aa,K,L,A,ae,G,ae,I,M,O,U,Y⟩))
 exfalso;omega
theorem EmptyN{T:bC}(F:FT T):Sound T 21 [] fun r=>∃(A:DC)(G:DC)(z:DC)(p:List (List DC))(I:DC)(J:DC)(K:DC),r= .agg [.d A,.d G,.d z,.d I,.d J,.d K]∧tJ.ok A∧tJ.ok G∧aR p z∧(p.length:Int)≤16∧aH (fJ 1 4096) p∧0≤(p.length:Int)∧(p=[]→z= .nil)∧tJ.ok I∧(Ty.l 50 fy).ok J∧(Ty.l 0 iR).ok K:=by
 exact ch F.q21 aa (aj (af 1 aa (aj (af 2 aa (ay (aE aa aa ⟨i0,(dJ 1),.nil,[],i0,.nil,.nil,aa,ah,ah,(.inr ⟨aa,aa⟩),ae,bN,ae,(fun _=>aa),ah,bl,bl⟩))))))
theorem PlayN{T:bC}(F:FT T){a0:DC}{dP:List (List DC)}(dW:aR dP a0)(ed:dP.length≤11)(cW:aH Ks dP):Sound T 13 [.d a0] fun r=>∃(y0:DC)(y1:DC)(y2:DC)(eJ:List (List DC))(y4:DC)(y5:DC)(y6:DC),r= .agg [.d y0,.d y1,.d y2,.d y4,.d y5,.d y6]∧tJ.ok y0∧tJ.ok y1∧aR eJ y2∧(eJ.length:Int)≤16∧aH (fJ 23 4096) eJ∧0≤(eJ.length:Int)∧(eJ=[]→y2= .nil)∧tJ.ok y4∧(Ty.l 50 fy).ok y5∧(Ty.l 0 iR).ok y6:=by
 refine ch F.q13 aa (aj (af 1 aa (aj (ai (aY aa (aV aa) (EmptyN F) (fun r1 _ dh=>?_))))))
 obtain⟨dV,KG,wE,wy1_2,RE,y1_5,y1_6,rfl,dY,Fb,hdy1_2,I5,hry1_2,hmy1_2,hey1_2,vL,J3,hy1_6⟩:=dh
 refine af 2 aa (aA (aj (af 1 aa (bj (cb (fun k VE B=>∃(z:Int)(G:DC)(I:DC)(A:DC)(p:List (List DC))(J:DC)(K:DC)(L:DC),(0≤z∧(z≤(dP.length:Int)∨z=0))∧(tJ.ok G)∧(tJ.ok I)∧(aR p A)∧((p.length:Int)≤16)∧(aH (fJ (1+2*z.toNat) 4096) p)∧(p=[]→A= .nil)∧(tJ.ok J)∧((Ty.l 50 fy).ok K)∧((Ty.l 0 iR).ok L)∧k=((dP.length:Int) -z).toNat∧aT [(0,.d a0),(2,.vp 2 0),(3,.vp 3 0),(4,.d (dJ z))] VE∧aT [(2,.one 29 96 [.d i0,.d i0,dN,.d i0,dN,dN]),(3,.one 29 96 [.d G,.d I,.d A,.d J,.d K,.d L])] B) ?_ (k:=((dP.length:Int) -0).toNat) ⟨0,dV,KG,wE,wy1_2,RE,y1_5,y1_6,ae,dY,Fb,hdy1_2,ae,(pV hry1_2 ae ae),hey1_2,vL,J3,hy1_6,aa,⟨aa,aa,aa,aa,trivial⟩,⟨aa,aa,trivial⟩⟩)))))
 rintro _ VE B⟨z,G,I,A,p,J,K,L,c9,Y,Z,M,KE,O,U,MS,MT,MU,rfl,hV,hB⟩
 refine bz _ _ hV hB (aA (aj (ak 2 aa (ai (bu aa dW ?_)))))
 refine af 1 aa (aN aa (fun h2 g2=>?_) (fun h2 g2=>?_))
 ·refine aG (aA (bj (cN (aP 3 aa ?_))))
  obtain⟨r3,fG,gQ⟩:=bR z cW
  obtain⟨oD,qC,wo,abL,abM,abN,x3_6,x3_7,x3_8,x3_9,rfl,kt,mM,qp,tg,JV,JW,P8,P9,P',Qa⟩:=okR_n10 gQ
  refine aU (bo aa aa dW ae fG aa ?_)
  refine de aa aa (eF aa (aX aa) (aX aa) ?_)
  refine bP aa (aY aa (aV aa) (ApplyN (nv:=1+2*z.toNat) F Y Z ae U M ae O MS MT MU kt mM qp tg JV JW P8 P9 P' Qa ae ae) (fun r4 _ eo=>?_))
  obtain⟨fk,zN,Cv,Fg,Gt,Gu,Gv,RN,rfl,mN,ph,D8,Yj,D9,Yk,D',Fh,Fi,Fj,Fk⟩:=eo
  refine cP 6 aa (aj ?_)
  obtain⟨Z6,rfl,hzy4_7,kzy4_7⟩:=Ty.az Fk
  refine af 2 aa (aN aa (fun h5 g5=>?_) (fun h5 g5=>?_))
  ·refine aS (af 2 aa (aS (ak 1 aa (ai (br aa aa ae ae ?_)))))
   exact af 1 aa (⟨((dP.length:Int) -((z+1))).toNat,ae,(z+1),fk,zN,Cv,Fg,Gt,Gu,Gv,ae,mN,ph,D8,ae,(pV D9 ae ae),D',Fh,Fi,Fj,aa,⟨aa,aa,aa,aa,trivial⟩,⟨aa,aa,trivial⟩⟩)
  refine aG (aS (ak 1 aa (ai (br aa aa ae ae ?_))))
  exact af 1 aa (⟨((dP.length:Int) -((z+1))).toNat,ae,(z+1),G,I,A,p,J,K,L,ae,Y,Z,M,ae,(pV O ae ae),U,MS,MT,MU,aa,⟨aa,aa,aa,aa,trivial⟩,⟨aa,aa,trivial⟩⟩)
 exact bV (aj (af 2 aa (ay (aE aa aa ⟨G,I,A,p,J,K,L,aa,Y,Z,M,ae,(pV O ae ae),ae,U,MS,MT,MU⟩))))
theorem ValsB{T:bC}(F:FT T){a0 a1:DC}(cV:(Ty.i .u16 0 65535).ok a0)(da:(Ty.i .u16 0 65535).ok a1):DK T 99 [.d a0,.d a1] fun r B=>∃(K:List (List DC)),r= .bs 9 K.length 3∧B=[(9,.arr 95 32 3 K.length K)]∧aH ee K∧2≤(K.length:Int)∧(K.length:Int)≤2:=by
 refine lF F.q99 aa ?_
 obtain⟨aQ,rfl,iF,hJ⟩:=Ty.az cV
 obtain⟨aB,rfl,eS,eT⟩:=Ty.az da
 refine aj (af 1 aa (aj (ak 1 aa (ai (aY aa (aV aa) (tT F ah ah) (fun r1 _ dh=>?_))))))
 obtain⟨dV,KG,wE,rfl,L,M,O⟩:=dh
 refine ak 1 aa (ai (aY aa (aV aa) (tT F ah ah) (fun r2 _ iu=>?_)))
 obtain⟨jx,Gh,KQ,rfl,U,Y,Z⟩:=iu
 obtain⟨p,rfl,XW,ND⟩:=Ty.az L
 obtain⟨z,rfl,hzy1_1,kzy1_1⟩:=Ty.az M
 obtain⟨A,rfl,hsy1_2⟩:=Ty.aJ O
 obtain⟨G,rfl,OP,OQ⟩:=Ty.az U
 obtain⟨I,rfl,hzy2_1,kzy2_1⟩:=Ty.az Y
 obtain⟨J,rfl,hsy2_2⟩:=Ty.aJ Z
 refine af 2 aa (ay ?_)
 have sC:aH ee [[(dJ p),(dJ z),(al A)],[(dJ G),(dJ I),(al J)]]:=(cY (ao ah (ao ah (ao (aJ ax) bm))) (cY (ao ah (ao ah (ao (aJ ax) bm))) bN))
 exact⟨_,[(9,.arr 95 32 3 2 [[(dJ p),(dJ z),(al A)],[(dJ G),(dJ I),(al J)]])],aa,⟨aa,trivial⟩,⟨[[(dJ p),(dJ z),(al A)],[(dJ G),(dJ I),(al J)]],aa,aa,sC,cn,cn⟩⟩
theorem Z7{T:bC}(F:FT T){a1 a2 a3 a4 a5:DC}{O:List (List DC)}(hma1:2≤O.length)(M:aR O a1)(fS:O.length≤2)(du:aH cl O)(dE:(Ty.i .u16 0 65535).ok a2)(dk:(Ty.i .u16 0 65535).ok a3)(dg:(Ty.i .u16 0 65535).ok a4)(dm:(Ty.i .u16 0 65535).ok a5):DK T 102 [dN,.d a1,.agg [.d a2,.d a3,.d a4,.d a5]] fun r B=>∃(U:List (List DC))(y1:DC),r= .tuple [.ac 28 U.length 7,.d y1]∧B=[(28,.acc 181 64 7 U)]∧aH ji U∧1≤(U.length:Int)∧(U.length:Int)≤4∧(Ty.i .i64 0 3).ok y1:=by
 refine lF F.q102 aa ?_
 obtain⟨bk,rfl,pA,pB⟩:=Ty.az dE
 obtain⟨aO,rfl,lM,lN⟩:=Ty.az dk
 obtain⟨bc,rfl,sh,si⟩:=Ty.az dg
 obtain⟨bH,rfl,pC,pD⟩:=Ty.az dm
 refine aj (af 3 aa (cN (aU (cx (j:=0) aa aa (aX aa) ?_))))
 refine aP 1 aa (aU (kn aa aD ae ae ?_))
 refine aP 1 aa (aU (bu aa M ?_))
 refine bP aa (aY aa (aV aa) (Zk (aQ:=bk) (aB:=(O.length:Int)) F ae ae ae ae) (fun r1 _ dh=>?_))
 obtain⟨dV,rfl,dY⟩:=dh
 refine aU (cx (j:=1) aa aa (aX aa) ?_)
 refine aP 1 aa (aU (kn aa aD ae ae ?_))
 refine aP 1 aa (aU (bu aa M ?_))
 refine bP aa (aY aa (aV aa) (Zk (aQ:=aO) (aB:=(O.length:Int)) F ae ae ae ae) (fun r2 _ iu=>?_))
 obtain⟨jx,rfl,qu⟩:=iu
 refine cP 2 aa (aj ?_)
 obtain⟨p,rfl,XW,ND⟩:=Ty.az dY
 refine ak 4 aa (ai (iK (ys:=[[(dJ 2),i0,i0,(dJ p),i0,i0,(al [])]]) 28 aa aa aa aa aa (.bs (rows:=[[(dJ 2),i0,i0,(dJ p),i0,i0,(al [])]]) aa) aD ae ?_))
 refine af 1 aa (aj (ak 2 aa (ai (eb aa aa ae ae ?_))))
 refine af 1 aa (aA (aj (ai (cx (j:=2) aa aa (aX aa) ?_))))
 refine ak 1 aa (ai (dC aa aa aa ae ae ?_))
 refine af 1 aa (aN aa (fun h3 g3=>?_) (fun h3 g3=>?_))
 ·refine aj (ak 4 aa (ai (cr (rows:=[[(dJ 2),i0,i0,(dJ p),i0,i0,(al [])]]) (ys:=[[(dJ 11),(dJ (((([[(dJ 2),i0,i0,(dJ p),i0,i0,(al [])]]).length:Nat):Int) -1)),i0,i0,i0,i0,(al [])]]) aa aa aa (.bs (rows:=[[(dJ 11),(dJ (((([[(dJ 2),i0,i0,(dJ p),i0,i0,(al [])]]).length:Nat):Int) -1)),i0,i0,i0,i0,(al [])]]) aa) aD ae (fun h=>absurd h bx) (fun h=>absurd h bx) ?_)))
  refine af 1 aa (aj (ak 3 aa (ai (eb aa aa ae ae ?_))))
  exact af 2 aa (ay (⟨_,[(28,.acc 181 64 7 ([[(dJ 2),i0,i0,(dJ p),i0,i0,(al [])]]++[[(dJ 11),(dJ (((([[(dJ 2),i0,i0,(dJ p),i0,i0,(al [])]]).length:Nat):Int) -1)),i0,i0,i0,i0,(al [])]]))],aa,⟨aa,trivial⟩,⟨([[(dJ 2),i0,i0,(dJ p),i0,i0,(al [])]]++[[(dJ 11),(dJ (((([[(dJ 2),i0,i0,(dJ p),i0,i0,(al [])]]).length:Nat):Int) -1)),i0,i0,i0,i0,(al [])]]),(dJ (((([[(dJ 2),i0,i0,(dJ p),i0,i0,(al [])]]++[[(dJ 11),(dJ (((([[(dJ 2),i0,i0,(dJ p),i0,i0,(al [])]]).length:Nat):Int) -1)),i0,i0,i0,i0,(al [])]]).length:Nat):Int) -1)),aa,aa,(bS (bX (ao ah (ao ah (ao ah (ao ah (ao ah (ao ah (ao (aJ (s:=[]) aD) bm)))))))) (bX (ao ah (ao ah (ao ah (ao ah (ao ah (ao ah (ao (aJ (s:=[]) aD) bm))))))))),cn,cn,ah⟩⟩))
 refine aG (aA (cN (aP 2 aa ?_)))
 obtain⟨r4,eg,eZ⟩:=bR p du
 obtain⟨jw,_,rfl,gB,eZ⟩:=b0 eZ
 obtain rfl:=dy eZ
 refine aU (bo aa aa M ae eg aa ?_)
 refine de aa aa (cF aa aa ?_)
 obtain⟨L,rfl,OP,OQ⟩:=Ty.az qu
 refine aP 2 aa ?_
 obtain⟨r5,iq,jo⟩:=bR L du
 obtain⟨zn,_,rfl,nI,jo⟩:=b0 jo
 obtain rfl:=dy jo
 refine aU (bo aa aa M ae iq aa ?_)
 refine de aa aa (cF aa aa ?_)
 obtain⟨EJ,rfl,rl,rm⟩:=Ty.az gB
 obtain⟨EU,rfl,IK,IL⟩:=Ty.az nI
 refine aP 2 aa (fA (g:=jV) aa (fun Y g6=>?_) (fun Y g6=>?_))
 ·refine bg aa Y (cx (j:=2) aa aa (aX aa) ?_)
  refine cw aa Y aa (bJ aa aa aa ?_)
  refine bg aa Y (dC aa aa aa ae ae ?_)
  refine bg aa Y (eH aa aa ?_)
  refine aU (aW aa Y aa ?_)
  refine cU (aN aa (fun h7 g7=>?_) (fun h7 g7=>?_))
  ·refine aS (ak 4 aa (ai (cr (rows:=[[(dJ 2),i0,i0,(dJ p),i0,i0,(al [])]]) (ys:=[[(dJ 2),i0,i0,(dJ L),i0,i0,(al [])]]) aa aa aa (.bs (rows:=[[(dJ 2),i0,i0,(dJ L),i0,i0,(al [])]]) aa) aD ae (fun h=>absurd h bx) (fun h=>absurd h bx) ?_)))
   refine af 1 aa (aj (af 1 aa (aA (aj (ai (cx (j:=2) aa aa (aX aa) ?_))))))
   refine ak 1 aa (ai (dC aa aa aa ae ae ?_))
   refine af 1 aa (aN aa (fun h8 g8=>?_) (fun h8 g8=>?_))
   ·refine aS (af 1 aa (aj (ak 4 aa (ai (br aa aa ae ae ?_)))))
    refine ak 2 aa (ai (cr (rows:=([[(dJ 2),i0,i0,(dJ p),i0,i0,(al [])]]++[[(dJ 2),i0,i0,(dJ L),i0,i0,(al [])]])) (ys:=[[(dJ 7),(dJ (((([[(dJ 2),i0,i0,(dJ p),i0,i0,(al [])]]).length:Nat):Int) -1)),(dJ ((((([[(dJ 2),i0,i0,(dJ p),i0,i0,(al [])]]).length:Nat):Int) -1)+1)),i0,i0,i0,(al [])]]) aa aa aa (.bs (rows:=[[(dJ 7),(dJ (((([[(dJ 2),i0,i0,(dJ p),i0,i0,(al [])]]).length:Nat):Int) -1)),(dJ ((((([[(dJ 2),i0,i0,(dJ p),i0,i0,(al [])]]).length:Nat):Int) -1)+1)),i0,i0,i0,(al [])]]) aa) aD ae (fun h=>absurd h bx) (fun h=>absurd h bx) ?_))
    refine af 1 aa (aA (aj (ai (cx (j:=3) aa aa (aX aa) ?_))))
    refine ak 1 aa (ai (dC aa aa aa ae ae ?_))
    refine af 1 aa (aN aa (fun h9 g9=>?_) (fun h9 g9=>?_))
    ·refine aS (ak 3 aa (ai (eb aa aa ae ae ?_)))
     refine ak 2 aa (ai (cr (rows:=(([[(dJ 2),i0,i0,(dJ p),i0,i0,(al [])]]++[[(dJ 2),i0,i0,(dJ L),i0,i0,(al [])]])++[[(dJ 7),(dJ (((([[(dJ 2),i0,i0,(dJ p),i0,i0,(al [])]]).length:Nat):Int) -1)),(dJ ((((([[(dJ 2),i0,i0,(dJ p),i0,i0,(al [])]]).length:Nat):Int) -1)+1)),i0,i0,i0,(al [])]])) (ys:=[[(dJ 10),(dJ ((((([[(dJ 2),i0,i0,(dJ p),i0,i0,(al [])]]++[[(dJ 2),i0,i0,(dJ L),i0,i0,(al [])]])++[[(dJ 7),(dJ (((([[(dJ 2),i0,i0,(dJ p),i0,i0,(al [])]]).length:Nat):Int) -1)),(dJ ((((([[(dJ 2),i0,i0,(dJ p),i0,i0,(al [])]]).length:Nat):Int) -1)+1)),i0,i0,i0,(al [])]]).length:Nat):Int) -1)),i0,i0,i0,i0,(al [])]]) aa aa aa (.bs (rows:=[[(dJ 10),(dJ ((((([[(dJ 2),i0,i0,(dJ p),i0,i0,(al [])]]++[[(dJ 2),i0,i0,(dJ L),i0,i0,(al [])]])++[[(dJ 7),(dJ (((([[(dJ 2),i0,i0,(dJ p),i0,i0,(al [])]]).length:Nat):Int) -1)),(dJ ((((([[(dJ 2),i0,i0,(dJ p),i0,i0,(al [])]]).length:Nat):Int) -1)+1)),i0,i0,i0,(al [])]]).length:Nat):Int) -1)),i0,i0,i0,i0,(al [])]]) aa) aD ae (fun h=>absurd h bx) (fun h=>absurd h bx) ?_))
     refine af 1 aa (aj (ak 3 aa (ai (eb aa aa ae ae ?_))))
     exact af 2 aa (ay (⟨_,[(28,.acc 181 64 7 ((([[(dJ 2),i0,i0,(dJ p),i0,i0,(al [])]]++[[(dJ 2),i0,i0,(dJ L),i0,i0,(al [])]])++[[(dJ 7),(dJ (((([[(dJ 2),i0,i0,(dJ p),i0,i0,(al [])]]).length:Nat):Int) -1)),(dJ ((((([[(dJ 2),i0,i0,(dJ p),i0,i0,(al [])]]).length:Nat):Int) -1)+1)),i0,i0,i0,(al [])]])++[[(dJ 10),(dJ ((((([[(dJ 2),i0,i0,(dJ p),i0,i0,(al [])]]++[[(dJ 2),i0,i0,(dJ L),i0,i0,(al [])]])++[[(dJ 7),(dJ (((([[(dJ 2),i0,i0,(dJ p),i0,i0,(al [])]]).length:Nat):Int) -1)),(dJ ((((([[(dJ 2),i0,i0,(dJ p),i0,i0,(al [])]]).length:Nat):Int) -1)+1)),i0,i0,i0,(al [])]]).length:Nat):Int) -1)),i0,i0,i0,i0,(al [])]]))],aa,⟨aa,trivial⟩,⟨((([[(dJ 2),i0,i0,(dJ p),i0,i0,(al [])]]++[[(dJ 2),i0,i0,(dJ L),i0,i0,(al [])]])++[[(dJ 7),(dJ (((([[(dJ 2),i0,i0,(dJ p),i0,i0,(al [])]]).length:Nat):Int) -1)),(dJ ((((([[(dJ 2),i0,i0,(dJ p),i0,i0,(al [])]]).length:Nat):Int) -1)+1)),i0,i0,i0,(al [])]])++[[(dJ 10),(dJ ((((([[(dJ 2),i0,i0,(dJ p),i0,i0,(al [])]]++[[(dJ 2),i0,i0,(dJ L),i0,i0,(al [])]])++[[(dJ 7),(dJ (((([[(dJ 2),i0,i0,(dJ p),i0,i0,(al [])]]).length:Nat):Int) -1)),(dJ ((((([[(dJ 2),i0,i0,(dJ p),i0,i0,(al [])]]).length:Nat):Int) -1)+1)),i0,i0,i0,(al [])]]).length:Nat):Int) -1)),i0,i0,i0,i0,(al [])]]),(dJ (((((([[(dJ 2),i0,i0,(dJ p),i0,i0,(al [])]]++[[(dJ 2),i0,i0,(dJ L),i0,i0,(al [])]])++[[(dJ 7),(dJ (((([[(dJ 2),i0,i0,(dJ p),i0,i0,(al [])]]).length:Nat):Int) -1)),(dJ ((((([[(dJ 2),i0,i0,(dJ p),i0,i0,(al [])]]).length:Nat):Int) -1)+1)),i0,i0,i0,(al [])]])++[[(dJ 10),(dJ ((((([[(dJ 2),i0,i0,(dJ p),i0,i0,(al [])]]++[[(dJ 2),i0,i0,(dJ L),i0,i0,(al [])]])++[[(dJ 7),(dJ (((([[(dJ 2),i0,i0,(dJ p),i0,i0,(al [])]]).length:Nat):Int) -1)),(dJ ((((([[(dJ 2),i0,i0,(dJ p),i0,i0,(al [])]]).length:Nat):Int) -1)+1)),i0,i0,i0,(al [])]]).length:Nat):Int) -1)),i0,i0,i0,i0,(al [])]]).length:Nat):Int) -1)),aa,aa,(bS (bS (bS (bX (ao ah (ao ah (ao ah (ao ah (ao ah (ao ah (ao (aJ (s:=[]) aD) bm)))))))) (bX (ao ah (ao ah (ao ah (ao ah (ao ah (ao ah (ao (aJ (s:=[]) aD) bm))))))))) (bX (ao ah (ao ah (ao ah (ao ah (ao ah (ao ah (ao (aJ (s:=[]) aD) bm))))))))) (bX (ao ah (ao ah (ao ah (ao ah (ao ah (ao ah (ao (aJ (s:=[]) aD) bm))))))))),cn,cn,ah⟩⟩))
    refine aG (aj (ak 3 aa (ai (eb aa aa ae ae ?_))))
    exact af 2 aa (ay (⟨_,[(28,.acc 181 64 7 (([[(dJ 2),i0,i0,(dJ p),i0,i0,(al [])]]++[[(dJ 2),i0,i0,(dJ L),i0,i0,(al [])]])++[[(dJ 7),(dJ (((([[(dJ 2),i0,i0,(dJ p),i0,i0,(al [])]]).length:Nat):Int) -1)),(dJ ((((([[(dJ 2),i0,i0,(dJ p),i0,i0,(al [])]]).length:Nat):Int) -1)+1)),i0,i0,i0,(al [])]]))],aa,⟨aa,trivial⟩,⟨(([[(dJ 2),i0,i0,(dJ p),i0,i0,(al [])]]++[[(dJ 2),i0,i0,(dJ L),i0,i0,(al [])]])++[[(dJ 7),(dJ (((([[(dJ 2),i0,i0,(dJ p),i0,i0,(al [])]]).length:Nat):Int) -1)),(dJ ((((([[(dJ 2),i0,i0,(dJ p),i0,i0,(al [])]]).length:Nat):Int) -1)+1)),i0,i0,i0,(al [])]]),(dJ ((((([[(dJ 2),i0,i0,(dJ p),i0,i0,(al [])]]++[[(dJ 2),i0,i0,(dJ L),i0,i0,(al [])]])++[[(dJ 7),(dJ (((([[(dJ 2),i0,i0,(dJ p),i0,i0,(al [])]]).length:Nat):Int) -1)),(dJ ((((([[(dJ 2),i0,i0,(dJ p),i0,i0,(al [])]]).length:Nat):Int) -1)+1)),i0,i0,i0,(al [])]]).length:Nat):Int) -1)),aa,aa,(bS (bS (bX (ao ah (ao ah (ao ah (ao ah (ao ah (ao ah (ao (aJ (s:=[]) aD) bm)))))))) (bX (ao ah (ao ah (ao ah (ao ah (ao ah (ao ah (ao (aJ (s:=[]) aD) bm))))))))) (bX (ao ah (ao ah (ao ah (ao ah (ao ah (ao ah (ao (aJ (s:=[]) aD) bm))))))))),cn,cn,ah⟩⟩))
   refine aG (aj (ak 4 aa (ai (br aa aa ae ae ?_))))
   refine ak 2 aa (ai (cr (rows:=([[(dJ 2),i0,i0,(dJ p),i0,i0,(al [])]]++[[(dJ 2),i0,i0,(dJ L),i0,i0,(al [])]])) (ys:=[[(dJ 6),(dJ (((([[(dJ 2),i0,i0,(dJ p),i0,i0,(al [])]]).length:Nat):Int) -1)),(dJ ((((([[(dJ 2),i0,i0,(dJ p),i0,i0,(al [])]]).length:Nat):Int) -1)+1)),i0,i0,i0,(al [])]]) aa aa aa (.bs (rows:=[[(dJ 6),(dJ (((([[(dJ 2),i0,i0,(dJ p),i0,i0,(al [])]]).length:Nat):Int) -1)),(dJ ((((([[(dJ 2),i0,i0,(dJ p),i0,i0,(al [])]]).length:Nat):Int) -1)+1)),i0,i0,i0,(al [])]]) aa) aD ae (fun h=>absurd h bx) (fun h=>absurd h bx) ?_))
   refine af 1 aa (aA (aj (ai (cx (j:=3) aa aa (aX aa) ?_))))
   refine ak 1 aa (ai (dC aa aa aa ae ae ?_))
   refine af 1 aa (aN aa (fun gx fV=>?_) (fun gx fV=>?_))
   ·refine aS (ak 3 aa (ai (eb aa aa ae ae ?_)))
    refine ak 2 aa (ai (cr (rows:=(([[(dJ 2),i0,i0,(dJ p),i0,i0,(al [])]]++[[(dJ 2),i0,i0,(dJ L),i0,i0,(al [])]])++[[(dJ 6),(dJ (((([[(dJ 2),i0,i0,(dJ p),i0,i0,(al [])]]).length:Nat):Int) -1)),(dJ ((((([[(dJ 2),i0,i0,(dJ p),i0,i0,(al [])]]).length:Nat):Int) -1)+1)),i0,i0,i0,(al [])]])) (ys:=[[(dJ 10),(dJ ((((([[(dJ 2),i0,i0,(dJ p),i0,i0,(al [])]]++[[(dJ 2),i0,i0,(dJ L),i0,i0,(al [])]])++[[(dJ 6),(dJ (((([[(dJ 2),i0,i0,(dJ p),i0,i0,(al [])]]).length:Nat):Int) -1)),(dJ ((((([[(dJ 2),i0,i0,(dJ p),i0,i0,(al [])]]).length:Nat):Int) -1)+1)),i0,i0,i0,(al [])]]).length:Nat):Int) -1)),i0,i0,i0,i0,(al [])]]) aa aa aa (.bs (rows:=[[(dJ 10),(dJ ((((([[(dJ 2),i0,i0,(dJ p),i0,i0,(al [])]]++[[(dJ 2),i0,i0,(dJ L),i0,i0,(al [])]])++[[(dJ 6),(dJ (((([[(dJ 2),i0,i0,(dJ p),i0,i0,(al [])]]).length:Nat):Int) -1)),(dJ ((((([[(dJ 2),i0,i0,(dJ p),i0,i0,(al [])]]).length:Nat):Int) -1)+1)),i0,i0,i0,(al [])]]).length:Nat):Int) -1)),i0,i0,i0,i0,(al [])]]) aa) aD ae (fun h=>absurd h bx) (fun h=>absurd h bx) ?_))
    refine af 1 aa (aj (ak 3 aa (ai (eb aa aa ae ae ?_))))
    exact af 2 aa (ay (⟨_,[(28,.acc 181 64 7 ((([[(dJ 2),i0,i0,(dJ p),i0,i0,(al [])]]++[[(dJ 2),i0,i0,(dJ L),i0,i0,(al [])]])++[[(dJ 6),(dJ (((([[(dJ 2),i0,i0,(dJ p),i0,i0,(al [])]]).length:Nat):Int) -1)),(dJ ((((([[(dJ 2),i0,i0,(dJ p),i0,i0,(al [])]]).length:Nat):Int) -1)+1)),i0,i0,i0,(al [])]])++[[(dJ 10),(dJ ((((([[(dJ 2),i0,i0,(dJ p),i0,i0,(al [])]]++[[(dJ 2),i0,i0,(dJ L),i0,i0,(al [])]])++[[(dJ 6),(dJ (((([[(dJ 2),i0,i0,(dJ p),i0,i0,(al [])]]).length:Nat):Int) -1)),(dJ ((((([[(dJ 2),i0,i0,(dJ p),i0,i0,(al [])]]).length:Nat):Int) -1)+1)),i0,i0,i0,(al [])]]).length:Nat):Int) -1)),i0,i0,i0,i0,(al [])]]))],aa,⟨aa,trivial⟩,⟨((([[(dJ 2),i0,i0,(dJ p),i0,i0,(al [])]]++[[(dJ 2),i0,i0,(dJ L),i0,i0,(al [])]])++[[(dJ 6),(dJ (((([[(dJ 2),i0,i0,(dJ p),i0,i0,(al [])]]).length:Nat):Int) -1)),(dJ ((((([[(dJ 2),i0,i0,(dJ p),i0,i0,(al [])]]).length:Nat):Int) -1)+1)),i0,i0,i0,(al [])]])++[[(dJ 10),(dJ ((((([[(dJ 2),i0,i0,(dJ p),i0,i0,(al [])]]++[[(dJ 2),i0,i0,(dJ L),i0,i0,(al [])]])++[[(dJ 6),(dJ (((([[(dJ 2),i0,i0,(dJ p),i0,i0,(al [])]]).length:Nat):Int) -1)),(dJ ((((([[(dJ 2),i0,i0,(dJ p),i0,i0,(al [])]]).length:Nat):Int) -1)+1)),i0,i0,i0,(al [])]]).length:Nat):Int) -1)),i0,i0,i0,i0,(al [])]]),(dJ (((((([[(dJ 2),i0,i0,(dJ p),i0,i0,(al [])]]++[[(dJ 2),i0,i0,(dJ L),i0,i0,(al [])]])++[[(dJ 6),(dJ (((([[(dJ 2),i0,i0,(dJ p),i0,i0,(al [])]]).length:Nat):Int) -1)),(dJ ((((([[(dJ 2),i0,i0,(dJ p),i0,i0,(al [])]]).length:Nat):Int) -1)+1)),i0,i0,i0,(al [])]])++[[(dJ 10),(dJ ((((([[(dJ 2),i0,i0,(dJ p),i0,i0,(al [])]]++[[(dJ 2),i0,i0,(dJ L),i0,i0,(al [])]])++[[(dJ 6),(dJ (((([[(dJ 2),i0,i0,(dJ p),i0,i0,(al [])]]).length:Nat):Int) -1)),(dJ ((((([[(dJ 2),i0,i0,(dJ p),i0,i0,(al [])]]).length:Nat):Int) -1)+1)),i0,i0,i0,(al [])]]).length:Nat):Int) -1)),i0,i0,i0,i0,(al [])]]).length:Nat):Int) -1)),aa,aa,(bS (bS (bS (bX (ao ah (ao ah (ao ah (ao ah (ao ah (ao ah (ao (aJ (s:=[]) aD) bm)))))))) (bX (ao ah (ao ah (ao ah (ao ah (ao ah (ao ah (ao (aJ (s:=[]) aD) bm))))))))) (bX (ao ah (ao ah (ao ah (ao ah (ao ah (ao ah (ao (aJ (s:=[]) aD) bm))))))))) (bX (ao ah (ao ah (ao ah (ao ah (ao ah (ao ah (ao (aJ (s:=[]) aD) bm))))))))),cn,cn,ah⟩⟩))
   refine aG (aj (ak 3 aa (ai (eb aa aa ae ae ?_))))
   exact af 2 aa (ay (⟨_,[(28,.acc 181 64 7 (([[(dJ 2),i0,i0,(dJ p),i0,i0,(al [])]]++[[(dJ 2),i0,i0,(dJ L),i0,i0,(al [])]])++[[(dJ 6),(dJ (((([[(dJ 2),i0,i0,(dJ p),i0,i0,(al [])]]).length:Nat):Int) -1)),(dJ ((((([[(dJ 2),i0,i0,(dJ p),i0,i0,(al [])]]).length:Nat):Int) -1)+1)),i0,i0,i0,(al [])]]))],aa,⟨aa,trivial⟩,⟨(([[(dJ 2),i0,i0,(dJ p),i0,i0,(al [])]]++[[(dJ 2),i0,i0,(dJ L),i0,i0,(al [])]])++[[(dJ 6),(dJ (((([[(dJ 2),i0,i0,(dJ p),i0,i0,(al [])]]).length:Nat):Int) -1)),(dJ ((((([[(dJ 2),i0,i0,(dJ p),i0,i0,(al [])]]).length:Nat):Int) -1)+1)),i0,i0,i0,(al [])]]),(dJ ((((([[(dJ 2),i0,i0,(dJ p),i0,i0,(al [])]]++[[(dJ 2),i0,i0,(dJ L),i0,i0,(al [])]])++[[(dJ 6),(dJ (((([[(dJ 2),i0,i0,(dJ p),i0,i0,(al [])]]).length:Nat):Int) -1)),(dJ ((((([[(dJ 2),i0,i0,(dJ p),i0,i0,(al [])]]).length:Nat):Int) -1)+1)),i0,i0,i0,(al [])]]).length:Nat):Int) -1)),aa,aa,(bS (bS (bX (ao ah (ao ah (ao ah (ao ah (ao ah (ao ah (ao (aJ (s:=[]) aD) bm)))))))) (bX (ao ah (ao ah (ao ah (ao ah (ao ah (ao ah (ao (aJ (s:=[]) aD) bm))))))))) (bX (ao ah (ao ah (ao ah (ao ah (ao ah (ao ah (ao (aJ (s:=[]) aD) bm))))))))),cn,cn,ah⟩⟩))
  refine fB (aP 3 aa (aU (bo aa aa M ae eg aa ?_)))
  refine de aa aa (cF aa aa ?_)
  refine aU (cx (j:=3) aa aa (aX aa) ?_)
  refine aP 1 aa (bP aa (aY aa (aV aa) (Zl F ah ah) (fun pN _ lO=>?_)))
  obtain⟨pd,vS,y11_2,rfl,Z,Bc,Ox⟩:=lO
  obtain⟨z,rfl,hzy11_0,kzy11_0⟩:=Ty.az Z
  obtain⟨A,rfl,Ig,Ih⟩:=Ty.az Bc
  obtain⟨G,rfl,hsy11_2⟩:=Ty.aJ Ox
  refine aP 2 aa (bP aa (cr (rows:=[[(dJ 2),i0,i0,(dJ p),i0,i0,(al [])]]) (ys:=[[(dJ 1),i0,i0,i0,(dJ z),(dJ A),(al G)]]) aa aa aa (.bs (rows:=[[(dJ 1),i0,i0,i0,(dJ z),(dJ A),(al G)]]) aa) aD ae (fun h=>absurd h bx) (fun h=>absurd h bx) ?_))
  refine cP 1 aa (aj (af 1 aa (aA (aj (ai (cx (j:=2) aa aa (aX aa) ?_))))))
  refine ak 1 aa (ai (dC aa aa aa ae ae ?_))
  refine af 1 aa (aN aa (fun eM gS=>?_) (fun eM gS=>?_))
  ·refine aS (af 1 aa (aj (ak 4 aa (ai (br aa aa ae ae ?_)))))
   refine ak 2 aa (ai (cr (rows:=([[(dJ 2),i0,i0,(dJ p),i0,i0,(al [])]]++[[(dJ 1),i0,i0,i0,(dJ z),(dJ A),(al G)]])) (ys:=[[(dJ 7),(dJ (((([[(dJ 2),i0,i0,(dJ p),i0,i0,(al [])]]).length:Nat):Int) -1)),(dJ ((((([[(dJ 2),i0,i0,(dJ p),i0,i0,(al [])]]).length:Nat):Int) -1)+1)),i0,i0,i0,(al [])]]) aa aa aa (.bs (rows:=[[(dJ 7),(dJ (((([[(dJ 2),i0,i0,(dJ p),i0,i0,(al [])]]).length:Nat):Int) -1)),(dJ ((((([[(dJ 2),i0,i0,(dJ p),i0,i0,(al [])]]).length:Nat):Int) -1)+1)),i0,i0,i0,(al [])]]) aa) aD ae (fun h=>absurd h bx) (fun h=>absurd h bx) ?_))
   refine af 1 aa (aA (aj (ai (cx (j:=3) aa aa (aX aa) ?_))))
   refine ak 1 aa (ai (dC aa aa aa ae ae ?_))
   refine af 1 aa (aN aa (fun eD iv=>?_) (fun eD iv=>?_))
   ·refine aS (ak 3 aa (ai (eb aa aa ae ae ?_)))
    refine ak 2 aa (ai (cr (rows:=(([[(dJ 2),i0,i0,(dJ p),i0,i0,(al [])]]++[[(dJ 1),i0,i0,i0,(dJ z),(dJ A),(al G)]])++[[(dJ 7),(dJ (((([[(dJ 2),i0,i0,(dJ p),i0,i0,(al [])]]).length:Nat):Int) -1)),(dJ ((((([[(dJ 2),i0,i0,(dJ p),i0,i0,(al [])]]).length:Nat):Int) -1)+1)),i0,i0,i0,(al [])]])) (ys:=[[(dJ 10),(dJ ((((([[(dJ 2),i0,i0,(dJ p),i0,i0,(al [])]]++[[(dJ 1),i0,i0,i0,(dJ z),(dJ A),(al G)]])++[[(dJ 7),(dJ (((([[(dJ 2),i0,i0,(dJ p),i0,i0,(al [])]]).length:Nat):Int) -1)),(dJ ((((([[(dJ 2),i0,i0,(dJ p),i0,i0,(al [])]]).length:Nat):Int) -1)+1)),i0,i0,i0,(al [])]]).length:Nat):Int) -1)),i0,i0,i0,i0,(al [])]]) aa aa aa (.bs (rows:=[[(dJ 10),(dJ ((((([[(dJ 2),i0,i0,(dJ p),i0,i0,(al [])]]++[[(dJ 1),i0,i0,i0,(dJ z),(dJ A),(al G)]])++[[(dJ 7),(dJ (((([[(dJ 2),i0,i0,(dJ p),i0,i0,(al [])]]).length:Nat):Int) -1)),(dJ ((((([[(dJ 2),i0,i0,(dJ p),i0,i0,(al [])]]).length:Nat):Int) -1)+1)),i0,i0,i0,(al [])]]).length:Nat):Int) -1)),i0,i0,i0,i0,(al [])]]) aa) aD ae (fun h=>absurd h bx) (fun h=>absurd h bx) ?_))
    refine af 1 aa (aj (ak 3 aa (ai (eb aa aa ae ae ?_))))
    exact af 2 aa (ay (⟨_,[(28,.acc 181 64 7 ((([[(dJ 2),i0,i0,(dJ p),i0,i0,(al [])]]++[[(dJ 1),i0,i0,i0,(dJ z),(dJ A),(al G)]])++[[(dJ 7),(dJ (((([[(dJ 2),i0,i0,(dJ p),i0,i0,(al [])]]).length:Nat):Int) -1)),(dJ ((((([[(dJ 2),i0,i0,(dJ p),i0,i0,(al [])]]).length:Nat):Int) -1)+1)),i0,i0,i0,(al [])]])++[[(dJ 10),(dJ ((((([[(dJ 2),i0,i0,(dJ p),i0,i0,(al [])]]++[[(dJ 1),i0,i0,i0,(dJ z),(dJ A),(al G)]])++[[(dJ 7),(dJ (((([[(dJ 2),i0,i0,(dJ p),i0,i0,(al [])]]).length:Nat):Int) -1)),(dJ ((((([[(dJ 2),i0,i0,(dJ p),i0,i0,(al [])]]).length:Nat):Int) -1)+1)),i0,i0,i0,(al [])]]).length:Nat):Int) -1)),i0,i0,i0,i0,(al [])]]))],aa,⟨aa,trivial⟩,⟨((([[(dJ 2),i0,i0,(dJ p),i0,i0,(al [])]]++[[(dJ 1),i0,i0,i0,(dJ z),(dJ A),(al G)]])++[[(dJ 7),(dJ (((([[(dJ 2),i0,i0,(dJ p),i0,i0,(al [])]]).length:Nat):Int) -1)),(dJ ((((([[(dJ 2),i0,i0,(dJ p),i0,i0,(al [])]]).length:Nat):Int) -1)+1)),i0,i0,i0,(al [])]])++[[(dJ 10),(dJ ((((([[(dJ 2),i0,i0,(dJ p),i0,i0,(al [])]]++[[(dJ 1),i0,i0,i0,(dJ z),(dJ A),(al G)]])++[[(dJ 7),(dJ (((([[(dJ 2),i0,i0,(dJ p),i0,i0,(al [])]]).length:Nat):Int) -1)),(dJ ((((([[(dJ 2),i0,i0,(dJ p),i0,i0,(al [])]]).length:Nat):Int) -1)+1)),i0,i0,i0,(al [])]]).length:Nat):Int) -1)),i0,i0,i0,i0,(al [])]]),(dJ (((((([[(dJ 2),i0,i0,(dJ p),i0,i0,(al [])]]++[[(dJ 1),i0,i0,i0,(dJ z),(dJ A),(al G)]])++[[(dJ 7),(dJ (((([[(dJ 2),i0,i0,(dJ p),i0,i0,(al [])]]).length:Nat):Int) -1)),(dJ ((((([[(dJ 2),i0,i0,(dJ p),i0,i0,(al [])]]).length:Nat):Int) -1)+1)),i0,i0,i0,(al [])]])++[[(dJ 10),(dJ ((((([[(dJ 2),i0,i0,(dJ p),i0,i0,(al [])]]++[[(dJ 1),i0,i0,i0,(dJ z),(dJ A),(al G)]])++[[(dJ 7),(dJ (((([[(dJ 2),i0,i0,(dJ p),i0,i0,(al [])]]).length:Nat):Int) -1)),(dJ ((((([[(dJ 2),i0,i0,(dJ p),i0,i0,(al [])]]).length:Nat):Int) -1)+1)),i0,i0,i0,(al [])]]).length:Nat):Int) -1)),i0,i0,i0,i0,(al [])]]).length:Nat):Int) -1)),aa,aa,(bS (bS (bS (bX (ao ah (ao ah (ao ah (ao ah (ao ah (ao ah (ao (aJ (s:=[]) aD) bm)))))))) (bX (ao ah (ao ah (ao ah (ao ah (ao ah (ao ah (ao (aJ ax) bm))))))))) (bX (ao ah (ao ah (ao ah (ao ah (ao ah (ao ah (ao (aJ (s:=[]) aD) bm))))))))) (bX (ao ah (ao ah (ao ah (ao ah (ao ah (ao ah (ao (aJ (s:=[]) aD) bm))))))))),cn,cn,ah⟩⟩))
   refine aG (aj (ak 3 aa (ai (eb aa aa ae ae ?_))))
   exact af 2 aa (ay (⟨_,[(28,.acc 181 64 7 (([[(dJ 2),i0,i0,(dJ p),i0,i0,(al [])]]++[[(dJ 1),i0,i0,i0,(dJ z),(dJ A),(al G)]])++[[(dJ 7),(dJ (((([[(dJ 2),i0,i0,(dJ p),i0,i0,(al [])]]).length:Nat):Int) -1)),(dJ ((((([[(dJ 2),i0,i0,(dJ p),i0,i0,(al [])]]).length:Nat):Int) -1)+1)),i0,i0,i0,(al [])]]))],aa,⟨aa,trivial⟩,⟨(([[(dJ 2),i0,i0,(dJ p),i0,i0,(al [])]]++[[(dJ 1),i0,i0,i0,(dJ z),(dJ A),(al G)]])++[[(dJ 7),(dJ (((([[(dJ 2),i0,i0,(dJ p),i0,i0,(al [])]]).length:Nat):Int) -1)),(dJ ((((([[(dJ 2),i0,i0,(dJ p),i0,i0,(al [])]]).length:Nat):Int) -1)+1)),i0,i0,i0,(al [])]]),(dJ ((((([[(dJ 2),i0,i0,(dJ p),i0,i0,(al [])]]++[[(dJ 1),i0,i0,i0,(dJ z),(dJ A),(al G)]])++[[(dJ 7),(dJ (((([[(dJ 2),i0,i0,(dJ p),i0,i0,(al [])]]).length:Nat):Int) -1)),(dJ ((((([[(dJ 2),i0,i0,(dJ p),i0,i0,(al [])]]).length:Nat):Int) -1)+1)),i0,i0,i0,(al [])]]).length:Nat):Int) -1)),aa,aa,(bS (bS (bX (ao ah (ao ah (ao ah (ao ah (ao ah (ao ah (ao (aJ (s:=[]) aD) bm)))))))) (bX (ao ah (ao ah (ao ah (ao ah (ao ah (ao ah (ao (aJ ax) bm))))))))) (bX (ao ah (ao ah (ao ah (ao ah (ao ah (ao ah (ao (aJ (s:=[]) aD) bm))))))))),cn,cn,ah⟩⟩))
  refine aG (aj (ak 4 aa (ai (br aa aa ae ae ?_))))
  refine ak 2 aa (ai (cr (rows:=([[(dJ 2),i0,i0,(dJ p),i0,i0,(al [])]]++[[(dJ 1),i0,i0,i0,(dJ z),(dJ A),(al G)]])) (ys:=[[(dJ 6),(dJ (((([[(dJ 2),i0,i0,(dJ p),i0,i0,(al [])]]).length:Nat):Int) -1)),(dJ ((((([[(dJ 2),i0,i0,(dJ p),i0,i0,(al [])]]).length:Nat):Int) -1)+1)),i0,i0,i0,(al [])]]) aa aa aa (.bs (rows:=[[(dJ 6),(dJ (((([[(dJ 2),i0,i0,(dJ p),i0,i0,(al [])]]).length:Nat):Int) -1)),(dJ ((((([[(dJ 2),i0,i0,(dJ p),i0,i0,(al [])]]).length:Nat):Int) -1)+1)),i0,i0,i0,(al [])]]) aa) aD ae (fun h=>absurd h bx) (fun h=>absurd h bx) ?_))
  refine af 1 aa (aA (aj (ai (cx (j:=3) aa aa (aX aa) ?_))))
  refine ak 1 aa (ai (dC aa aa aa ae ae ?_))
  refine af 1 aa (aN aa (fun fw kG=>?_) (fun fw kG=>?_))
  ·refine aS (ak 3 aa (ai (eb aa aa ae ae ?_)))
   refine ak 2 aa (ai (cr (rows:=(([[(dJ 2),i0,i0,(dJ p),i0,i0,(al [])]]++[[(dJ 1),i0,i0,i0,(dJ z),(dJ A),(al G)]])++[[(dJ 6),(dJ (((([[(dJ 2),i0,i0,(dJ p),i0,i0,(al [])]]).length:Nat):Int) -1)),(dJ ((((([[(dJ 2),i0,i0,(dJ p),i0,i0,(al [])]]).length:Nat):Int) -1)+1)),i0,i0,i0,(al [])]])) (ys:=[[(dJ 10),(dJ ((((([[(dJ 2),i0,i0,(dJ p),i0,i0,(al [])]]++[[(dJ 1),i0,i0,i0,(dJ z),(dJ A),(al G)]])++[[(dJ 6),(dJ (((([[(dJ 2),i0,i0,(dJ p),i0,i0,(al [])]]).length:Nat):Int) -1)),(dJ ((((([[(dJ 2),i0,i0,(dJ p),i0,i0,(al [])]]).length:Nat):Int) -1)+1)),i0,i0,i0,(al [])]]).length:Nat):Int) -1)),i0,i0,i0,i0,(al [])]]) aa aa aa (.bs (rows:=[[(dJ 10),(dJ ((((([[(dJ 2),i0,i0,(dJ p),i0,i0,(al [])]]++[[(dJ 1),i0,i0,i0,(dJ z),(dJ A),(al G)]])++[[(dJ 6),(dJ (((([[(dJ 2),i0,i0,(dJ p),i0,i0,(al [])]]).length:Nat):Int) -1)),(dJ ((((([[(dJ 2),i0,i0,(dJ p),i0,i0,(al [])]]).length:Nat):Int) -1)+1)),i0,i0,i0,(al [])]]).length:Nat):Int) -1)),i0,i0,i0,i0,(al [])]]) aa) aD ae (fun h=>absurd h bx) (fun h=>absurd h bx) ?_))
   refine af 1 aa (aj (ak 3 aa (ai (eb aa aa ae ae ?_))))
   exact af 2 aa (ay (⟨_,[(28,.acc 181 64 7 ((([[(dJ 2),i0,i0,(dJ p),i0,i0,(al [])]]++[[(dJ 1),i0,i0,i0,(dJ z),(dJ A),(al G)]])++[[(dJ 6),(dJ (((([[(dJ 2),i0,i0,(dJ p),i0,i0,(al [])]]).length:Nat):Int) -1)),(dJ ((((([[(dJ 2),i0,i0,(dJ p),i0,i0,(al [])]]).length:Nat):Int) -1)+1)),i0,i0,i0,(al [])]])++[[(dJ 10),(dJ ((((([[(dJ 2),i0,i0,(dJ p),i0,i0,(al [])]]++[[(dJ 1),i0,i0,i0,(dJ z),(dJ A),(al G)]])++[[(dJ 6),(dJ (((([[(dJ 2),i0,i0,(dJ p),i0,i0,(al [])]]).length:Nat):Int) -1)),(dJ ((((([[(dJ 2),i0,i0,(dJ p),i0,i0,(al [])]]).length:Nat):Int) -1)+1)),i0,i0,i0,(al [])]]).length:Nat):Int) -1)),i0,i0,i0,i0,(al [])]]))],aa,⟨aa,trivial⟩,⟨((([[(dJ 2),i0,i0,(dJ p),i0,i0,(al [])]]++[[(dJ 1),i0,i0,i0,(dJ z),(dJ A),(al G)]])++[[(dJ 6),(dJ (((([[(dJ 2),i0,i0,(dJ p),i0,i0,(al [])]]).length:Nat):Int) -1)),(dJ ((((([[(dJ 2),i0,i0,(dJ p),i0,i0,(al [])]]).length:Nat):Int) -1)+1)),i0,i0,i0,(al [])]])++[[(dJ 10),(dJ ((((([[(dJ 2),i0,i0,(dJ p),i0,i0,(al [])]]++[[(dJ 1),i0,i0,i0,(dJ z),(dJ A),(al G)]])++[[(dJ 6),(dJ (((([[(dJ 2),i0,i0,(dJ p),i0,i0,(al [])]]).length:Nat):Int) -1)),(dJ ((((([[(dJ 2),i0,i0,(dJ p),i0,i0,(al [])]]).length:Nat):Int) -1)+1)),i0,i0,i0,(al [])]]).length:Nat):Int) -1)),i0,i0,i0,i0,(al [])]]),(dJ (((((([[(dJ 2),i0,i0,(dJ p),i0,i0,(al [])]]++[[(dJ 1),i0,i0,i0,(dJ z),(dJ A),(al G)]])++[[(dJ 6),(dJ (((([[(dJ 2),i0,i0,(dJ p),i0,i0,(al [])]]).length:Nat):Int) -1)),(dJ ((((([[(dJ 2),i0,i0,(dJ p),i0,i0,(al [])]]).length:Nat):Int) -1)+1)),i0,i0,i0,(al [])]])++[[(dJ 10),(dJ ((((([[(dJ 2),i0,i0,(dJ p),i0,i0,(al [])]]++[[(dJ 1),i0,i0,i0,(dJ z),(dJ A),(al G)]])++[[(dJ 6),(dJ (((([[(dJ 2),i0,i0,(dJ p),i0,i0,(al [])]]).length:Nat):Int) -1)),(dJ ((((([[(dJ 2),i0,i0,(dJ p),i0,i0,(al [])]]).length:Nat):Int) -1)+1)),i0,i0,i0,(al [])]]).length:Nat):Int) -1)),i0,i0,i0,i0,(al [])]]).length:Nat):Int) -1)),aa,aa,(bS (bS (bS (bX (ao ah (ao ah (ao ah (ao ah (ao ah (ao ah (ao (aJ (s:=[]) aD) bm)))))))) (bX (ao ah (ao ah (ao ah (ao ah (ao ah (ao ah (ao (aJ ax) bm))))))))) (bX (ao ah (ao ah (ao ah (ao ah (ao ah (ao ah (ao (aJ (s:=[]) aD) bm))))))))) (bX (ao ah (ao ah (ao ah (ao ah (ao ah (ao ah (ao (aJ (s:=[]) aD) bm))))))))),cn,cn,ah⟩⟩))
  refine aG (aj (ak 3 aa (ai (eb aa aa ae ae ?_))))
  exact af 2 aa (ay (⟨_,[(28,.acc 181 64 7 (([[(dJ 2),i0,i0,(dJ p),i0,i0,(al [])]]++[[(dJ 1),i0,i0,i0,(dJ z),(dJ A),(al G)]])++[[(dJ 6),(dJ (((([[(dJ 2),i0,i0,(dJ p),i0,i0,(al [])]]).length:Nat):Int) -1)),(dJ ((((([[(dJ 2),i0,i0,(dJ p),i0,i0,(al [])]]).length:Nat):Int) -1)+1)),i0,i0,i0,(al [])]]))],aa,⟨aa,trivial⟩,⟨(([[(dJ 2),i0,i0,(dJ p),i0,i0,(al [])]]++[[(dJ 1),i0,i0,i0,(dJ z),(dJ A),(al G)]])++[[(dJ 6),(dJ (((([[(dJ 2),i0,i0,(dJ p),i0,i0,(al [])]]).length:Nat):Int) -1)),(dJ ((((([[(dJ 2),i0,i0,(dJ p),i0,i0,(al [])]]).length:Nat):Int) -1)+1)),i0,i0,i0,(al [])]]),(dJ ((((([[(dJ 2),i0,i0,(dJ p),i0,i0,(al [])]]++[[(dJ 1),i0,i0,i0,(dJ z),(dJ A),(al G)]])++[[(dJ 6),(dJ (((([[(dJ 2),i0,i0,(dJ p),i0,i0,(al [])]]).length:Nat):Int) -1)),(dJ ((((([[(dJ 2),i0,i0,(dJ p),i0,i0,(al [])]]).length:Nat):Int) -1)+1)),i0,i0,i0,(al [])]]).length:Nat):Int) -1)),aa,aa,(bS (bS (bX (ao ah (ao ah (ao ah (ao ah (ao ah (ao ah (ao (aJ (s:=[]) aD) bm)))))))) (bX (ao ah (ao ah (ao ah (ao ah (ao ah (ao ah (ao (aJ ax) bm))))))))) (bX (ao ah (ao ah (ao ah (ao ah (ao ah (ao ah (ao (aJ (s:=[]) aD) bm))))))))),cn,cn,ah⟩⟩))
 refine bh aa Y (ca aa Y (bh aa Y (bh aa Y (aU (bd aa Y aa ?_)))))
 refine cU (cH aa aa (fB (aP 3 aa (aU (bo aa aa M ae eg aa ?_)))))
 refine de aa aa (cF aa aa ?_)
 refine aU (cx (j:=3) aa aa (aX aa) ?_)
 refine aP 1 aa (bP aa (aY aa (aV aa) (Zl F ah ah) (fun sw _ oM=>?_)))
 obtain⟨vN,P7,y15_2,rfl,vq,hy15_1,hy15_2⟩:=oM
 obtain⟨I,rfl,Wj,Wk⟩:=Ty.az vq
 obtain⟨J,rfl,hzy15_1,kzy15_1⟩:=Ty.az hy15_1
 obtain⟨K,rfl,hsy15_2⟩:=Ty.aJ hy15_2
 refine aP 2 aa (bP aa (cr (rows:=[[(dJ 2),i0,i0,(dJ p),i0,i0,(al [])]]) (ys:=[[(dJ 1),i0,i0,i0,(dJ I),(dJ J),(al K)]]) aa aa aa (.bs (rows:=[[(dJ 1),i0,i0,i0,(dJ I),(dJ J),(al K)]]) aa) aD ae (fun h=>absurd h bx) (fun h=>absurd h bx) ?_))
 refine cP 1 aa (aj (af 1 aa (aA (aj (ai (cx (j:=2) aa aa (aX aa) ?_))))))
 refine ak 1 aa (ai (dC aa aa aa ae ae ?_))
 refine af 1 aa (aN aa (fun eE jE=>?_) (fun eE jE=>?_))
 ·refine aS (af 1 aa (aj (ak 4 aa (ai (br aa aa ae ae ?_)))))
  refine ak 2 aa (ai (cr (rows:=([[(dJ 2),i0,i0,(dJ p),i0,i0,(al [])]]++[[(dJ 1),i0,i0,i0,(dJ I),(dJ J),(al K)]])) (ys:=[[(dJ 7),(dJ (((([[(dJ 2),i0,i0,(dJ p),i0,i0,(al [])]]).length:Nat):Int) -1)),(dJ ((((([[(dJ 2),i0,i0,(dJ p),i0,i0,(al [])]]).length:Nat):Int) -1)+1)),i0,i0,i0,(al [])]]) aa aa aa (.bs (rows:=[[(dJ 7),(dJ (((([[(dJ 2),i0,i0,(dJ p),i0,i0,(al [])]]).length:Nat):Int) -1)),(dJ ((((([[(dJ 2),i0,i0,(dJ p),i0,i0,(al [])]]).length:Nat):Int) -1)+1)),i0,i0,i0,(al [])]]) aa) aD ae (fun h=>absurd h bx) (fun h=>absurd h bx) ?_))
  refine af 1 aa (aA (aj (ai (cx (j:=3) aa aa (aX aa) ?_))))
  refine ak 1 aa (ai (dC aa aa aa ae ae ?_))
  refine af 1 aa (aN aa (fun gR jF=>?_) (fun gR jF=>?_))
  ·refine aS (ak 3 aa (ai (eb aa aa ae ae ?_)))
   refine ak 2 aa (ai (cr (rows:=(([[(dJ 2),i0,i0,(dJ p),i0,i0,(al [])]]++[[(dJ 1),i0,i0,i0,(dJ I),(dJ J),(al K)]])++[[(dJ 7),(dJ (((([[(dJ 2),i0,i0,(dJ p),i0,i0,(al [])]]).length:Nat):Int) -1)),(dJ ((((([[(dJ 2),i0,i0,(dJ p),i0,i0,(al [])]]).length:Nat):Int) -1)+1)),i0,i0,i0,(al [])]])) (ys:=[[(dJ 10),(dJ ((((([[(dJ 2),i0,i0,(dJ p),i0,i0,(al [])]]++[[(dJ 1),i0,i0,i0,(dJ I),(dJ J),(al K)]])++[[(dJ 7),(dJ (((([[(dJ 2),i0,i0,(dJ p),i0,i0,(al [])]]).length:Nat):Int) -1)),(dJ ((((([[(dJ 2),i0,i0,(dJ p),i0,i0,(al [])]]).length:Nat):Int) -1)+1)),i0,i0,i0,(al [])]]).length:Nat):Int) -1)),i0,i0,i0,i0,(al [])]]) aa aa aa (.bs (rows:=[[(dJ 10),(dJ ((((([[(dJ 2),i0,i0,(dJ p),i0,i0,(al [])]]++[[(dJ 1),i0,i0,i0,(dJ I),(dJ J),(al K)]])++[[(dJ 7),(dJ (((([[(dJ 2),i0,i0,(dJ p),i0,i0,(al [])]]).length:Nat):Int) -1)),(dJ ((((([[(dJ 2),i0,i0,(dJ p),i0,i0,(al [])]]).length:Nat):Int) -1)+1)),i0,i0,i0,(al [])]]).length:Nat):Int) -1)),i0,i0,i0,i0,(al [])]]) aa) aD ae (fun h=>absurd h bx) (fun h=>absurd h bx) ?_))
   refine af 1 aa (aj (ak 3 aa (ai (eb aa aa ae ae ?_))))
   exact af 2 aa (ay (⟨_,[(28,.acc 181 64 7 ((([[(dJ 2),i0,i0,(dJ p),i0,i0,(al [])]]++[[(dJ 1),i0,i0,i0,(dJ I),(dJ J),(al K)]])++[[(dJ 7),(dJ (((([[(dJ 2),i0,i0,(dJ p),i0,i0,(al [])]]).length:Nat):Int) -1)),(dJ ((((([[(dJ 2),i0,i0,(dJ p),i0,i0,(al [])]]).length:Nat):Int) -1)+1)),i0,i0,i0,(al [])]])++[[(dJ 10),(dJ ((((([[(dJ 2),i0,i0,(dJ p),i0,i0,(al [])]]++[[(dJ 1),i0,i0,i0,(dJ I),(dJ J),(al K)]])++[[(dJ 7),(dJ (((([[(dJ 2),i0,i0,(dJ p),i0,i0,(al [])]]).length:Nat):Int) -1)),(dJ ((((([[(dJ 2),i0,i0,(dJ p),i0,i0,(al [])]]).length:Nat):Int) -1)+1)),i0,i0,i0,(al [])]]).length:Nat):Int) -1)),i0,i0,i0,i0,(al [])]]))],aa,⟨aa,trivial⟩,⟨((([[(dJ 2),i0,i0,(dJ p),i0,i0,(al [])]]++[[(dJ 1),i0,i0,i0,(dJ I),(dJ J),(al K)]])++[[(dJ 7),(dJ (((([[(dJ 2),i0,i0,(dJ p),i0,i0,(al [])]]).length:Nat):Int) -1)),(dJ ((((([[(dJ 2),i0,i0,(dJ p),i0,i0,(al [])]]).length:Nat):Int) -1)+1)),i0,i0,i0,(al [])]])++[[(dJ 10),(dJ ((((([[(dJ 2),i0,i0,(dJ p),i0,i0,(al [])]]++[[(dJ 1),i0,i0,i0,(dJ I),(dJ J),(al K)]])++[[(dJ 7),(dJ (((([[(dJ 2),i0,i0,(dJ p),i0,i0,(al [])]]).length:Nat):Int) -1)),(dJ ((((([[(dJ 2),i0,i0,(dJ p),i0,i0,(al [])]]).length:Nat):Int) -1)+1)),i0,i0,i0,(al [])]]).length:Nat):Int) -1)),i0,i0,i0,i0,(al [])]]),(dJ (((((([[(dJ 2),i0,i0,(dJ p),i0,i0,(al [])]]++[[(dJ 1),i0,i0,i0,(dJ I),(dJ J),(al K)]])++[[(dJ 7),(dJ (((([[(dJ 2),i0,i0,(dJ p),i0,i0,(al [])]]).length:Nat):Int) -1)),(dJ ((((([[(dJ 2),i0,i0,(dJ p),i0,i0,(al [])]]).length:Nat):Int) -1)+1)),i0,i0,i0,(al [])]])++[[(dJ 10),(dJ ((((([[(dJ 2),i0,i0,(dJ p),i0,i0,(al [])]]++[[(dJ 1),i0,i0,i0,(dJ I),(dJ J),(al K)]])++[[(dJ 7),(dJ (((([[(dJ 2),i0,i0,(dJ p),i0,i0,(al [])]]).length:Nat):Int) -1)),(dJ ((((([[(dJ 2),i0,i0,(dJ p),i0,i0,(al [])]]).length:Nat):Int) -1)+1)),i0,i0,i0,(al [])]]).length:Nat):Int) -1)),i0,i0,i0,i0,(al [])]]).length:Nat):Int) -1)),aa,aa,(bS (bS (bS (bX (ao ah (ao ah (ao ah (ao ah (ao ah (ao ah (ao (aJ (s:=[]) aD) bm)))))))) (bX (ao ah (ao ah (ao ah (ao ah (ao ah (ao ah (ao (aJ ax) bm))))))))) (bX (ao ah (ao ah (ao ah (ao ah (ao ah (ao ah (ao (aJ (s:=[]) aD) bm))))))))) (bX (ao ah (ao ah (ao ah (ao ah (ao ah (ao ah (ao (aJ (s:=[]) aD) bm))))))))),cn,cn,ah⟩⟩))
  refine aG (aj (ak 3 aa (ai (eb aa aa ae ae ?_))))
  exact af 2 aa (ay (⟨_,[(28,.acc 181 64 7 (([[(dJ 2),i0,i0,(dJ p),i0,i0,(al [])]]++[[(dJ 1),i0,i0,i0,(dJ I),(dJ J),(al K)]])++[[(dJ 7),(dJ (((([[(dJ 2),i0,i0,(dJ p),i0,i0,(al [])]]).length:Nat):Int) -1)),(dJ ((((([[(dJ 2),i0,i0,(dJ p),i0,i0,(al [])]]).length:Nat):Int) -1)+1)),i0,i0,i0,(al [])]]))],aa,⟨aa,trivial⟩,⟨(([[(dJ 2),i0,i0,(dJ p),i0,i0,(al [])]]++[[(dJ 1),i0,i0,i0,(dJ I),(dJ J),(al K)]])++[[(dJ 7),(dJ (((([[(dJ 2),i0,i0,(dJ p),i0,i0,(al [])]]).length:Nat):Int) -1)),(dJ ((((([[(dJ 2),i0,i0,(dJ p),i0,i0,(al [])]]).length:Nat):Int) -1)+1)),i0,i0,i0,(al [])]]),(dJ ((((([[(dJ 2),i0,i0,(dJ p),i0,i0,(al [])]]++[[(dJ 1),i0,i0,i0,(dJ I),(dJ J),(al K)]])++[[(dJ 7),(dJ (((([[(dJ 2),i0,i0,(dJ p),i0,i0,(al [])]]).length:Nat):Int) -1)),(dJ ((((([[(dJ 2),i0,i0,(dJ p),i0,i0,(al [])]]).length:Nat):Int) -1)+1)),i0,i0,i0,(al [])]]).length:Nat):Int) -1)),aa,aa,(bS (bS (bX (ao ah (ao ah (ao ah (ao ah (ao ah (ao ah (ao (aJ (s:=[]) aD) bm)))))))) (bX (ao ah (ao ah (ao ah (ao ah (ao ah (ao ah (ao (aJ ax) bm))))))))) (bX (ao ah (ao ah (ao ah (ao ah (ao ah (ao ah (ao (aJ (s:=[]) aD) bm))))))))),cn,cn,ah⟩⟩))
 refine aG (aj (ak 4 aa (ai (br aa aa ae ae ?_))))
 refine ak 2 aa (ai (cr (rows:=([[(dJ 2),i0,i0,(dJ p),i0,i0,(al [])]]++[[(dJ 1),i0,i0,i0,(dJ I),(dJ J),(al K)]])) (ys:=[[(dJ 6),(dJ (((([[(dJ 2),i0,i0,(dJ p),i0,i0,(al [])]]).length:Nat):Int) -1)),(dJ ((((([[(dJ 2),i0,i0,(dJ p),i0,i0,(al [])]]).length:Nat):Int) -1)+1)),i0,i0,i0,(al [])]]) aa aa aa (.bs (rows:=[[(dJ 6),(dJ (((([[(dJ 2),i0,i0,(dJ p),i0,i0,(al [])]]).length:Nat):Int) -1)),(dJ ((((([[(dJ 2),i0,i0,(dJ p),i0,i0,(al [])]]).length:Nat):Int) -1)+1)),i0,i0,i0,(al [])]]) aa) aD ae (fun h=>absurd h bx) (fun h=>absurd h bx) ?_))
 refine af 1 aa (aA (aj (ai (cx (j:=3) aa aa (aX aa) ?_))))
 refine ak 1 aa (ai (dC aa aa aa ae ae ?_))
 refine af 1 aa (aN aa (fun eO ni=>?_) (fun eO ni=>?_))
 ·refine aS (ak 3 aa (ai (eb aa aa ae ae ?_)))
  refine ak 2 aa (ai (cr (rows:=(([[(dJ 2),i0,i0,(dJ p),i0,i0,(al [])]]++[[(dJ 1),i0,i0,i0,(dJ I),(dJ J),(al K)]])++[[(dJ 6),(dJ (((([[(dJ 2),i0,i0,(dJ p),i0,i0,(al [])]]).length:Nat):Int) -1)),(dJ ((((([[(dJ 2),i0,i0,(dJ p),i0,i0,(al [])]]).length:Nat):Int) -1)+1)),i0,i0,i0,(al [])]])) (ys:=[[(dJ 10),(dJ ((((([[(dJ 2),i0,i0,(dJ p),i0,i0,(al [])]]++[[(dJ 1),i0,i0,i0,(dJ I),(dJ J),(al K)]])++[[(dJ 6),(dJ (((([[(dJ 2),i0,i0,(dJ p),i0,i0,(al [])]]).length:Nat):Int) -1)),(dJ ((((([[(dJ 2),i0,i0,(dJ p),i0,i0,(al [])]]).length:Nat):Int) -1)+1)),i0,i0,i0,(al [])]]).length:Nat):Int) -1)),i0,i0,i0,i0,(al [])]]) aa aa aa (.bs (rows:=[[(dJ 10),(dJ ((((([[(dJ 2),i0,i0,(dJ p),i0,i0,(al [])]]++[[(dJ 1),i0,i0,i0,(dJ I),(dJ J),(al K)]])++[[(dJ 6),(dJ (((([[(dJ 2),i0,i0,(dJ p),i0,i0,(al [])]]).length:Nat):Int) -1)),(dJ ((((([[(dJ 2),i0,i0,(dJ p),i0,i0,(al [])]]).length:Nat):Int) -1)+1)),i0,i0,i0,(al [])]]).length:Nat):Int) -1)),i0,i0,i0,i0,(al [])]]) aa) aD ae (fun h=>absurd h bx) (fun h=>absurd h bx) ?_))
  refine af 1 aa (aj (ak 3 aa (ai (eb aa aa ae ae ?_))))
  exact af 2 aa (ay (⟨_,[(28,.acc 181 64 7 ((([[(dJ 2),i0,i0,(dJ p),i0,i0,(al [])]]++[[(dJ 1),i0,i0,i0,(dJ I),(dJ J),(al K)]])++[[(dJ 6),(dJ (((([[(dJ 2),i0,i0,(dJ p),i0,i0,(al [])]]).length:Nat):Int) -1)),(dJ ((((([[(dJ 2),i0,i0,(dJ p),i0,i0,(al [])]]).length:Nat):Int) -1)+1)),i0,i0,i0,(al [])]])++[[(dJ 10),(dJ ((((([[(dJ 2),i0,i0,(dJ p),i0,i0,(al [])]]++[[(dJ 1),i0,i0,i0,(dJ I),(dJ J),(al K)]])++[[(dJ 6),(dJ (((([[(dJ 2),i0,i0,(dJ p),i0,i0,(al [])]]).length:Nat):Int) -1)),(dJ ((((([[(dJ 2),i0,i0,(dJ p),i0,i0,(al [])]]).length:Nat):Int) -1)+1)),i0,i0,i0,(al [])]]).length:Nat):Int) -1)),i0,i0,i0,i0,(al [])]]))],aa,⟨aa,trivial⟩,⟨((([[(dJ 2),i0,i0,(dJ p),i0,i0,(al [])]]++[[(dJ 1),i0,i0,i0,(dJ I),(dJ J),(al K)]])++[[(dJ 6),(dJ (((([[(dJ 2),i0,i0,(dJ p),i0,i0,(al [])]]).length:Nat):Int) -1)),(dJ ((((([[(dJ 2),i0,i0,(dJ p),i0,i0,(al [])]]).length:Nat):Int) -1)+1)),i0,i0,i0,(al [])]])++[[(dJ 10),(dJ ((((([[(dJ 2),i0,i0,(dJ p),i0,i0,(al [])]]++[[(dJ 1),i0,i0,i0,(dJ I),(dJ J),(al K)]])++[[(dJ 6),(dJ (((([[(dJ 2),i0,i0,(dJ p),i0,i0,(al [])]]).length:Nat):Int) -1)),(dJ ((((([[(dJ 2),i0,i0,(dJ p),i0,i0,(al [])]]).length:Nat):Int) -1)+1)),i0,i0,i0,(al [])]]).length:Nat):Int) -1)),i0,i0,i0,i0,(al [])]]),(dJ (((((([[(dJ 2),i0,i0,(dJ p),i0,i0,(al [])]]++[[(dJ 1),i0,i0,i0,(dJ I),(dJ J),(al K)]])++[[(dJ 6),(dJ (((([[(dJ 2),i0,i0,(dJ p),i0,i0,(al [])]]).length:Nat):Int) -1)),(dJ ((((([[(dJ 2),i0,i0,(dJ p),i0,i0,(al [])]]).length:Nat):Int) -1)+1)),i0,i0,i0,(al [])]])++[[(dJ 10),(dJ ((((([[(dJ 2),i0,i0,(dJ p),i0,i0,(al [])]]++[[(dJ 1),i0,i0,i0,(dJ I),(dJ J),(al K)]])++[[(dJ 6),(dJ (((([[(dJ 2),i0,i0,(dJ p),i0,i0,(al [])]]).length:Nat):Int) -1)),(dJ ((((([[(dJ 2),i0,i0,(dJ p),i0,i0,(al [])]]).length:Nat):Int) -1)+1)),i0,i0,i0,(al [])]]).length:Nat):Int) -1)),i0,i0,i0,i0,(al [])]]).length:Nat):Int) -1)),aa,aa,(bS (bS (bS (bX (ao ah (ao ah (ao ah (ao ah (ao ah (ao ah (ao (aJ (s:=[]) aD) bm)))))))) (bX (ao ah (ao ah (ao ah (ao ah (ao ah (ao ah (ao (aJ ax) bm))))))))) (bX (ao ah (ao ah (ao ah (ao ah (ao ah (ao ah (ao (aJ (s:=[]) aD) bm))))))))) (bX (ao ah (ao ah (ao ah (ao ah (ao ah (ao ah (ao (aJ (s:=[]) aD) bm))))))))),cn,cn,ah⟩⟩))
 refine aG (aj (ak 3 aa (ai (eb aa aa ae ae ?_))))
 exact af 2 aa (ay (⟨_,[(28,.acc 181 64 7 (([[(dJ 2),i0,i0,(dJ p),i0,i0,(al [])]]++[[(dJ 1),i0,i0,i0,(dJ I),(dJ J),(al K)]])++[[(dJ 6),(dJ (((([[(dJ 2),i0,i0,(dJ p),i0,i0,(al [])]]).length:Nat):Int) -1)),(dJ ((((([[(dJ 2),i0,i0,(dJ p),i0,i0,(al [])]]).length:Nat):Int) -1)+1)),i0,i0,i0,(al [])]]))],aa,⟨aa,trivial⟩,⟨(([[(dJ 2),i0,i0,(dJ p),i0,i0,(al [])]]++[[(dJ 1),i0,i0,i0,(dJ I),(dJ J),(al K)]])++[[(dJ 6),(dJ (((([[(dJ 2),i0,i0,(dJ p),i0,i0,(al [])]]).length:Nat):Int) -1)),(dJ ((((([[(dJ 2),i0,i0,(dJ p),i0,i0,(al [])]]).length:Nat):Int) -1)+1)),i0,i0,i0,(al [])]]),(dJ ((((([[(dJ 2),i0,i0,(dJ p),i0,i0,(al [])]]++[[(dJ 1),i0,i0,i0,(dJ I),(dJ J),(al K)]])++[[(dJ 6),(dJ (((([[(dJ 2),i0,i0,(dJ p),i0,i0,(al [])]]).length:Nat):Int) -1)),(dJ ((((([[(dJ 2),i0,i0,(dJ p),i0,i0,(al [])]]).length:Nat):Int) -1)+1)),i0,i0,i0,(al [])]]).length:Nat):Int) -1)),aa,aa,(bS (bS (bX (ao ah (ao ah (ao ah (ao ah (ao ah (ao ah (ao (aJ (s:=[]) aD) bm)))))))) (bX (ao ah (ao ah (ao ah (ao ah (ao ah (ao ah (ao (aJ ax) bm))))))))) (bX (ao ah (ao ah (ao ah (ao ah (ao ah (ao ah (ao (aJ (s:=[]) aD) bm))))))))),cn,cn,ah⟩⟩))
theorem WD{T:bC}(F:FT T){a0:DC}(cV:(Ty.s 1000).ok a0){aB:Int}(nd:0≤aB)(mB:aB≤65535){bk:Int}(sz:0≤bk)(sA:bk≤65535){aO:Int}(oN:0≤aO)(oO:aO≤65535){bc:Int}(pL:0≤bc)(pM:bc≤65535)(hx:¬aO % 5=1):Sound T 62 [.d a0,.agg [dU aB,dU bk,dU aO,dU bc]] fun r=>∃(y0:DC)(y1:DC)(Y:List (List DC))(y3:DC)(y4:DC)(y5:DC),r= .agg [.d y0,.d y1,.d y3,.d y4,.d y5]∧(Ty.s 1000).ok y0∧aR Y y1∧(Y.length:Int)≤1∧aH eB Y∧(Ty.l 200 cl).ok y3∧(Ty.l 4 fu).ok y4∧(Ty.l 4 ez).ok y5:=by
 refine ch F.q62 aa ?_
 obtain⟨M,rfl,kD⟩:=Ty.aJ cV
 refine aj (af 2 aa (aj (af 4 aa (aA (aj (af 1 aa (bj (xk 5 2 90 105 32 3 aa aa aa (cb (fun k VE B=>∃(z:Int)(p:List (List DC)),(0≤z∧(z≤(2+(aB % 2))∨z=0))∧((p.length:Int)≤z)∧(aH mo p)∧k=(((2+(aB % 2)):Int) -z).toNat∧aT [(0,dS M),(1,.agg [dU aB,dU bk,dU aO,dU bc]),(3,.vp 3 0),(4,.vp 4 0),(5,.vp 5 0),(6,.d (dJ z))] VE∧aT [(3,.one 125 8 [dU aB,dU bk,dU aO,dU bc]),(4,.one 40 112 [dS [],dN,dN,dN,dN]),(5,.one 135 40 [.d i0,.d (dJ 1099511627776),.ac 90 p.length 3]),(90,.acc 105 32 3 p)] B) ?_ (k:=(((2+(aB % 2)):Int) -0).toNat) ⟨0,[],ae,cn,bN,aa,⟨aa,aa,aa,aa,aa,aa,trivial⟩,⟨aa,aa,aa,aa,trivial⟩⟩)))))))))
 rintro _ VE B⟨z,p,c9,fr,I,rfl,hV,hB⟩
 refine bz _ _ hV hB (aA (aj (ak 1 aa (ai (cx (j:=0) aa aa (aX aa) ?_)))))
 refine ak 1 aa (ai (dC aa aa aa ae ae ?_))
 refine ai (kn aa aD ae ae ?_)
 refine ai (br aa aa ae ae ?_)
 refine af 1 aa (aN aa (fun h1 g1=>?_) (fun h1 g1=>?_))
 ·refine aG (aA (bj (fB (aP 3 aa (bP aa (aY aa (aV aa) (Q5 F ah) (fun r2 _ iu=>?_)))))))
  obtain⟨jx,Gh,KQ,rfl,Z,E3,Qb⟩:=iu
  obtain⟨J,rfl,OP,OQ⟩:=Ty.az Z
  obtain⟨K,rfl,hsy2_1⟩:=Ty.aJ E3
  obtain⟨L,rfl,hzy2_2,kzy2_2⟩:=Ty.az Qb
  refine aP 1 aa ?_
  refine bP rfl (cr (rows:=p) (ys:=[[(dJ J),(al K),(dJ L)]]) rfl rfl rfl (.bs (rows:=[[(dJ J),(al K),(dJ L)]]) rfl) aD ae (fun h=>by rw[h];rfl) (fun h=>by rw[h];rfl) ?_)
  refine cP 2 aa (aS (ak 1 aa (ai (br aa aa ae ae ?_))))
  exact af 1 aa (⟨(((2+(aB % 2)):Int) -((z+1))).toNat,ae,(z+1),(p++[[(dJ J),(al K),(dJ L)]]),ae,cn,(bS I (bX (ao ah (ao (aJ ax) (ao ah bm))))),aa,⟨aa,aa,aa,aa,aa,aa,trivial⟩,⟨aa,aa,aa,aa,trivial⟩⟩)
 refine bV (aj (ak 2 aa (fO 27 90 aa aa eA (ak 1 aa ?_))))
 have sC:aH eB [[i0,(dJ 1099511627776),(.cS p)]]:=(cY (ao ah (ao ah (ao (au (.acc _) ae I) bm))) bN)
 refine eV 28 28 aa aa (fun _=>⟨aa,aa⟩) (af 3 aa (kM (fun VE B=>∃(A:DC),((Ty.l 200 cl).ok A)∧aT [(0,dS M),(1,.agg [dU aB,dU bk,dU aO,dU bc]),(3,.vp 3 0),(4,.vp 4 0),(6,.d (dJ z)),(7,.vp 7 0),(16,dB (decide (z<(2+(aB % 2)))))] VE∧aT [(3,.one 125 8 [dU aB,dU bk,dU aO,dU bc]),(4,.one 40 112 [dS [],dN,dN,dN,dN]),(7,.one 40 112 [dS M,.d (.sl [[i0,(dJ 1099511627776),(.cS p)]]),.d A,dN,dN])] B) ?_ ?_))
 ·refine aj (ai (cx (j:=1) aa aa (aX aa) ?_))
  refine ak 1 aa (ai (dC aa aa aa ae ae ?_))
  refine bn (bj (aj (af 2 aa (aN aa (fun h4 g4=>?_) (fun h4 g4=>?_)))))
  ·refine aS (ak 2 aa ?_)
   have uB:aH cl [[(dJ 1)]]:=(cY (ao ah bm) bN)
   exact eV 35 35 aa aa (fun _=>⟨aa,aa⟩) (af 1 aa (⟨(.sl [[(dJ 1)]]),(au (.inl aa) ae uB),⟨aa,aa,aa,aa,aa,aa,aa,trivial⟩,⟨aa,aa,aa,trivial⟩⟩))
  refine aj (af 2 aa (aN aa (fun h6 g6=>?_) (fun h6 g6=>?_)))
  ·refine aS (ak 2 aa ?_)
   have uG:aH cl [[(dJ 2)],[(dJ 1)]]:=(cY (ao ah bm) (cY (ao ah bm) bN))
   exact eV 39 39 aa aa (fun _=>⟨aa,aa⟩) (af 1 aa (⟨(.sl [[(dJ 2)],[(dJ 1)]]),(au (.inl aa) ae uG),⟨aa,aa,aa,aa,aa,aa,aa,trivial⟩,⟨aa,aa,aa,trivial⟩⟩))
  exact aG (⟨.nil,bl,⟨aa,aa,aa,aa,aa,aa,aa,trivial⟩,⟨aa,aa,aa,trivial⟩⟩)
 rintro VE B⟨A,O,hV,hB⟩
 refine bz _ _ hV hB (aA (aj (ai (cx (j:=2) aa aa (aX aa) ?_))))
 refine ak 1 aa (ai (dC aa aa aa ae ae ?_))
 refine af 1 aa (aN aa (fun h8 g8=>?_) (fun h8 g8=>?_))
 ·exfalso;omega
 refine aG (kM (fun VE B=>∃(G:DC),((Ty.l 4 ez).ok G)∧aT [(0,dS M),(1,.agg [dU aB,dU bk,dU aO,dU bc]),(3,.vp 3 0),(4,.vp 4 0),(6,.d (dJ z)),(7,.vp 7 0),(16,dB (decide (z<(2+(aB % 2))))),(44,dB (decide ((aO % 5)=1)))] VE∧aT [(3,.one 125 8 [dU aB,dU bk,dU aO,dU bc]),(4,.one 40 112 [dS [],dN,dN,dN,dN]),(7,.one 40 112 [dS M,.d (.sl [[i0,(dJ 1099511627776),(.cS p)]]),.d A,dN,.d G])] B) ?_ ?_)
 ·refine aj (ai (cx (j:=3) aa aa (aX aa) ?_))
  refine ak 1 aa (ai (dC aa aa aa ae ae ?_))
  refine bn (bj (aj (af 2 aa (aN aa (fun h9 g9=>?_) (fun h9 g9=>?_)))))
  ·refine aS (ak 1 aa ?_)
   have ab6:aH cl [[(dJ 2)]]:=(cY (ao ah bm) bN)
   refine eV 59 59 aa aa (fun _=>⟨aa,aa⟩) (ak 3 aa ?_)
   have ab7:aH ez [[(dJ 1),(.sl [[(dJ 2)]])]]:=(cY (ao ah (ao (au (.inl rfl) ae ab6) bm)) bN)
   exact eV 61 61 aa aa (fun _=>⟨aa,aa⟩) (af 1 aa (⟨(.sl [[(dJ 1),(.sl [[(dJ 2)]])]]),(au (.inl aa) ae ab7),⟨aa,aa,aa,aa,aa,aa,aa,aa,trivial⟩,⟨aa,aa,aa,trivial⟩⟩))
  refine aj (af 2 aa (aN aa (fun eM gS=>?_) (fun eM gS=>?_)))
  ·refine aS (ak 1 aa ?_)
   have zR:aH cl [[(dJ 1)],[(dJ 2)]]:=(cY (ao ah bm) (cY (ao ah bm) bN))
   refine eV 65 65 aa aa (fun _=>⟨aa,aa⟩) (ak 3 aa ?_)
   have Gq:aH ez [[(dJ 2),(.sl [[(dJ 1)],[(dJ 2)]])]]:=(cY (ao ah (ao (au (.inl rfl) ae zR) bm)) bN)
   exact eV 67 67 aa aa (fun _=>⟨aa,aa⟩) (af 1 aa (⟨(.sl [[(dJ 2),(.sl [[(dJ 1)],[(dJ 2)]])]]),(au (.inl aa) ae Gq),⟨aa,aa,aa,aa,aa,aa,aa,aa,trivial⟩,⟨aa,aa,aa,trivial⟩⟩))
  exact aG (⟨.nil,bl,⟨aa,aa,aa,aa,aa,aa,aa,aa,trivial⟩,⟨aa,aa,aa,trivial⟩⟩)
 rintro VE B⟨G,U,hV,hB⟩
 exact bz _ _ hV hB (aj (af 2 aa (ay (aE aa aa ⟨(al M),(.sl [[i0,(dJ 1099511627776),(.cS p)]]),[[i0,(dJ 1099511627776),(.cS p)]],A,.nil,G,aa,(aJ ax),(.inl aa),hH,sC,O,bl,U⟩))))
theorem SchemaB{T:bC}(F:FT T){a0:DC}(cV:(Ty.s 1000).ok a0){aB:Int}(nd:0≤aB)(mB:aB≤65535){bk:Int}(sz:0≤bk)(sA:bk≤65535){aO:Int}(oN:0≤aO)(oO:aO≤65535){bc:Int}(pL:0≤bc)(pM:bc≤65535)(hx:aO % 5=1):DK T 62 [.d a0,.agg [dU aB,dU bk,dU aO,dU bc]] fun r B=>∃(y0:DC)(y1:DC)(kH:List (List DC))(y3:DC)(O:List (List DC))(y5:DC),r= .agg [.d y0,.d y1,.d y3,.bs 52 O.length 3,.d y5]∧B=[(52,.arr 128 64 3 O.length O)]∧(Ty.s 1000).ok y0∧aR kH y1∧(kH.length:Int)≤1∧aH eB kH∧(Ty.l 200 cl).ok y3∧aH fu O∧1≤(O.length:Int)∧(O.length:Int)≤1∧(Ty.l 4 ez).ok y5:=by
 refine lF F.q62 aa ?_
 obtain⟨U,rfl,kD⟩:=Ty.aJ cV
 refine aj (af 2 aa (aj (af 4 aa (aA (aj (af 1 aa (bj (xk 5 2 90 105 32 3 aa aa aa (cb (fun k VE B=>∃(z:Int)(p:List (List DC)),(0≤z∧(z≤(2+(aB % 2))∨z=0))∧((p.length:Int)≤z)∧(aH mo p)∧k=(((2+(aB % 2)):Int) -z).toNat∧aT [(0,dS U),(1,.agg [dU aB,dU bk,dU aO,dU bc]),(3,.vp 3 0),(4,.vp 4 0),(5,.vp 5 0),(6,.d (dJ z))] VE∧aT [(3,.one 125 8 [dU aB,dU bk,dU aO,dU bc]),(4,.one 40 112 [dS [],dN,dN,dN,dN]),(5,.one 135 40 [.d i0,.d (dJ 1099511627776),.ac 90 p.length 3]),(90,.acc 105 32 3 p)] B) ?_ (k:=(((2+(aB % 2)):Int) -0).toNat) ⟨0,[],ae,cn,bN,aa,⟨aa,aa,aa,aa,aa,aa,trivial⟩,⟨aa,aa,aa,aa,trivial⟩⟩)))))))))
 rintro _ VE B⟨z,p,c9,fr,I,rfl,hV,hB⟩
 refine bz _ _ hV hB (aA (aj (ak 1 aa (ai (cx (j:=0) aa aa (aX aa) ?_)))))
 refine ak 1 aa (ai (dC aa aa aa ae ae ?_))
 refine ai (kn aa aD ae ae ?_)
 refine ai (br aa aa ae ae ?_)
 refine af 1 aa (aN aa (fun h1 g1=>?_) (fun h1 g1=>?_))
 ·refine aG (aA (bj (fB (aP 3 aa (bP aa (aY aa (aV aa) (Q5 F ah) (fun r2 _ iu=>?_)))))))
  obtain⟨jx,Gh,KQ,rfl,qu,E3,Qb⟩:=iu
  obtain⟨K,rfl,OP,OQ⟩:=Ty.az qu
  obtain⟨L,rfl,hsy2_1⟩:=Ty.aJ E3
  obtain⟨M,rfl,hzy2_2,kzy2_2⟩:=Ty.az Qb
  refine aP 1 aa ?_
  refine bP rfl (cr (rows:=p) (ys:=[[(dJ K),(al L),(dJ M)]]) rfl rfl rfl (.bs (rows:=[[(dJ K),(al L),(dJ M)]]) rfl) aD ae (fun h=>by rw[h];rfl) (fun h=>by rw[h];rfl) ?_)
  refine cP 2 aa (aS (ak 1 aa (ai (br aa aa ae ae ?_))))
  exact af 1 aa (⟨(((2+(aB % 2)):Int) -((z+1))).toNat,ae,(z+1),(p++[[(dJ K),(al L),(dJ M)]]),ae,cn,(bS I (bX (ao ah (ao (aJ ax) (ao ah bm))))),aa,⟨aa,aa,aa,aa,aa,aa,trivial⟩,⟨aa,aa,aa,aa,trivial⟩⟩)
 refine bV (aj (ak 2 aa (fO 27 90 aa aa eA (ak 1 aa ?_))))
 have sC:aH eB [[i0,(dJ 1099511627776),(.cS p)]]:=(cY (ao ah (ao ah (ao (au (.acc _) ae I) bm))) bN)
 refine eV 28 28 aa aa (fun _=>⟨aa,aa⟩) (af 3 aa (kM (fun VE B=>∃(A:DC),((Ty.l 200 cl).ok A)∧aT [(0,dS U),(1,.agg [dU aB,dU bk,dU aO,dU bc]),(3,.vp 3 0),(4,.vp 4 0),(6,.d (dJ z)),(7,.vp 7 0),(16,dB (decide (z<(2+(aB % 2)))))] VE∧aT [(3,.one 125 8 [dU aB,dU bk,dU aO,dU bc]),(4,.one 40 112 [dS [],dN,dN,dN,dN]),(7,.one 40 112 [dS U,.d (.sl [[i0,(dJ 1099511627776),(.cS p)]]),.d A,dN,dN])] B) ?_ ?_))
 ·refine aj (ai (cx (j:=1) aa aa (aX aa) ?_))
  refine ak 1 aa (ai (dC aa aa aa ae ae ?_))
  refine bn (bj (aj (af 2 aa (aN aa (fun h4 g4=>?_) (fun h4 g4=>?_)))))
  ·refine aS (ak 2 aa ?_)
   have uB:aH cl [[(dJ 1)]]:=(cY (ao ah bm) bN)
   exact eV 35 35 aa aa (fun _=>⟨aa,aa⟩) (af 1 aa (⟨(.sl [[(dJ 1)]]),(au (.inl aa) ae uB),⟨aa,aa,aa,aa,aa,aa,aa,trivial⟩,⟨aa,aa,aa,trivial⟩⟩))
  refine aj (af 2 aa (aN aa (fun h6 g6=>?_) (fun h6 g6=>?_)))
  ·refine aS (ak 2 aa ?_)
   have uG:aH cl [[(dJ 2)],[(dJ 1)]]:=(cY (ao ah bm) (cY (ao ah bm) bN))
   exact eV 39 39 aa aa (fun _=>⟨aa,aa⟩) (af 1 aa (⟨(.sl [[(dJ 2)],[(dJ 1)]]),(au (.inl aa) ae uG),⟨aa,aa,aa,aa,aa,aa,aa,trivial⟩,⟨aa,aa,aa,trivial⟩⟩))
  exact aG (⟨.nil,bl,⟨aa,aa,aa,aa,aa,aa,aa,trivial⟩,⟨aa,aa,aa,trivial⟩⟩)
 rintro VE B⟨A,Y,hV,hB⟩
 refine bz _ _ hV hB (aA (aj (ai (cx (j:=2) aa aa (aX aa) ?_))))
 refine ak 1 aa (ai (dC aa aa aa ae ae ?_))
 refine af 1 aa (aN aa (fun h8 g8=>?_) (fun h8 g8=>?_))
 ·refine aS (ak 1 aa (ai (cx (j:=2) aa aa (aX aa) ?_)))
  refine ak 1 aa (ai (Du aa aa aa aa ae ae ae aD ?_))
  refine ai (aY aa (aV aa) (abi F ah) (fun r9 _ oU=>?_))
  obtain⟨jk,rfl,kX⟩:=oU
  refine ak 1 aa ?_
  have ab6:aH cl [[(dJ 1)]]:=(cY (ao ah bm) bN)
  refine eV 45 45 aa aa (fun _=>⟨aa,aa⟩) ?_
  have ab7:aH cl [[(dJ 1)]]:=(cY (ao ah bm) bN)
  refine eV 50 50 aa aa (fun _=>⟨aa,aa⟩) ?_
  obtain⟨J,rfl,hsy9_0⟩:=Ty.aJ kX
  refine af 4 aa (kM (fun VE B=>∃(G:DC),((Ty.l 4 ez).ok G)∧aT [(0,dS U),(1,.agg [dU aB,dU bk,dU aO,dU bc]),(3,.vp 3 0),(4,.vp 4 0),(6,.d (dJ z)),(7,.vp 7 0),(16,dB (decide (z<(2+(aB % 2))))),(44,dB (decide ((aO % 5)=1)))] VE∧aT [(3,.one 125 8 [dU aB,dU bk,dU aO,dU bc]),(4,.one 40 112 [dS [],dN,dN,dN,dN]),(7,.one 40 112 [dS U,.d (.sl [[i0,(dJ 1099511627776),(.cS p)]]),.d A,.bs 52 1 3,.d G]),(52,.arr 128 64 3 1 [[(.sl [[(dJ 1)]]),(al J),(.sl [[(dJ 1)]])]])] B) ?_ ?_)
  ·refine aj (ai (cx (j:=3) aa aa (aX aa) ?_))
   refine ak 1 aa (ai (dC aa aa aa ae ae ?_))
   refine bn (bj (aj (af 2 aa (aN aa (fun eM gS=>?_) (fun eM gS=>?_)))))
   ·refine aS (ak 1 aa ?_)
    have zR:aH cl [[(dJ 2)]]:=(cY (ao ah bm) bN)
    refine eV 59 59 aa aa (fun _=>⟨aa,aa⟩) (ak 3 aa ?_)
    have Gq:aH ez [[(dJ 1),(.sl [[(dJ 2)]])]]:=(cY (ao ah (ao (au (.inl rfl) ae zR) bm)) bN)
    exact eV 61 61 aa aa (fun _=>⟨aa,aa⟩) (af 1 aa (⟨(.sl [[(dJ 1),(.sl [[(dJ 2)]])]]),(au (.inl aa) ae Gq),⟨aa,aa,aa,aa,aa,aa,aa,aa,trivial⟩,⟨aa,aa,aa,aa,trivial⟩⟩))
   refine aj (af 2 aa (aN aa (fun nj kI=>?_) (fun nj kI=>?_)))
   ·refine aS (ak 1 aa ?_)
    have zO:aH cl [[(dJ 1)],[(dJ 2)]]:=(cY (ao ah bm) (cY (ao ah bm) bN))
    refine eV 65 65 aa aa (fun _=>⟨aa,aa⟩) (ak 3 aa ?_)
    have RD:aH ez [[(dJ 2),(.sl [[(dJ 1)],[(dJ 2)]])]]:=(cY (ao ah (ao (au (.inl rfl) ae zO) bm)) bN)
    exact eV 67 67 aa aa (fun _=>⟨aa,aa⟩) (af 1 aa (⟨(.sl [[(dJ 2),(.sl [[(dJ 1)],[(dJ 2)]])]]),(au (.inl aa) ae RD),⟨aa,aa,aa,aa,aa,aa,aa,aa,trivial⟩,⟨aa,aa,aa,aa,trivial⟩⟩))
   exact aG (⟨.nil,bl,⟨aa,aa,aa,aa,aa,aa,aa,aa,trivial⟩,⟨aa,aa,aa,aa,trivial⟩⟩)
  rintro VE B⟨G,Z,hV,hB⟩
  refine bz _ _ hV hB (aj (af 2 aa (ay ?_)))
  have Gr:aH fu [[(.sl [[(dJ 1)]]),(al J),(.sl [[(dJ 1)]])]]:=(cY (ao gm (ao (aJ ax) (ao gm bm))) bN)
  exact⟨_,[(52,.arr 128 64 3 1 [[(.sl [[(dJ 1)]]),(al J),(.sl [[(dJ 1)]])]])],aa,⟨aa,trivial⟩,⟨(al U),(.sl [[i0,(dJ 1099511627776),(.cS p)]]),[[i0,(dJ 1099511627776),(.cS p)]],A,[[(.sl [[(dJ 1)]]),(al J),(.sl [[(dJ 1)]])]],G,aa,aa,(aJ ax),(.inl aa),hH,sC,Y,Gr,cn,cn,Z⟩⟩
 exfalso;omega
theorem SetupC{T:bC}(F:FT T){aQ:Int}(S2:0≤aQ)(wP:aQ≤65535){aB:Int}(nd:0≤aB)(mB:aB≤65535){bk:Int}(sz:0≤bk)(sA:bk≤65535){aO:Int}(oN:0≤aO)(oO:aO≤65535){bc:Int}(pL:0≤bc)(pM:bc≤65535){bH:Int}(Af:0≤bH)(Ag:bH≤65535){bA:Int}(wQ:0≤bA)(wS:bA≤65535){bI:Int}(nX:0≤bI)(nY:bI≤65535):Sound T 31 [.agg [dU aQ,dU aB,dU bk,dU aO,dU bc,dU bH,dU bA,dU bI]] fun r=>∃(y0:DC)(cQ:List (List DC)),r= .d y0∧aR cQ y0∧(cQ.length:Int)≤2∧aH vD cQ∧2≤(cQ.length:Int):=by
 refine ch F.q31 aa (aj (af 2 aa (cN (aU (cx (j:=0) aa aa (aX aa) ?_)))))
 refine aP 1 aa (aU (cx (j:=1) aa aa (aX aa) ?_))
 refine aP 1 aa (aU (cx (j:=3) aa aa (aX aa) ?_))
 refine aP 2 aa (bP aa (aY aa (aV aa) (WD (aB:=aQ) (bk:=aB) (aO:=0) (bc:=aO) F (aJ (s:=[116]) aD) ae ae ae ae ae ae ae ae ae) (fun r1 _ dh=>?_)))
 obtain⟨dV,A,wy1_1,G,I,J,rfl,dY,Yo,hny1_1,Yp,Z8,vL,J3⟩:=dh
 refine aU (cx (j:=4) aa aa (aX aa) ?_)
 refine aP 1 aa (aU (cx (j:=5) aa aa (aX aa) ?_))
 refine aP 1 aa (aU (cx (j:=6) aa aa (aX aa) ?_))
 refine aP 1 aa (aU (cx (j:=7) aa aa (aX aa) ?_))
 refine aP 2 aa ?_
 by_cases qP:bA % 5=1
 ·refine bP aa (C9 2000 aa aa aa aa (SchemaB (aB:=bc) (bk:=bH) (aO:=bA) (bc:=bI) F (aJ (s:=[117]) aD) ae ae ae ae ae ae ae ae ae) (fun r3 Bn3 fv=>?_))
  obtain⟨iG,zJ,wy3_1,RO,wy3_4,RP,rfl,rfl,kx,hdy3_1,hny3_1,hry3_1,hy3_3,Yq,hly3_4,huy3_4,hy3_5⟩:=fv
  refine cP 4 aa (aA (aj (ai (cx (j:=6) aa aa (aX aa) ?_))))
  refine ak 1 aa (ai (dC aa aa aa ae ae ?_))
  refine af 1 aa (aN aa (fun h4 g4=>?_) (fun h4 g4=>?_))
  ·refine fB (aP 3 aa (aU (cx (j:=6) aa aa (aX aa) ?_)))
   refine aP 1 aa (aU (Du aa aa aa aa ae ae ae aD ?_))
   refine aU (dC aa aa aa ae ae ?_)
   have n5:aH QS [[(al [116])],[(al [117])]]:=(cY (ao (aJ (s:=[116]) aD) bm) (cY (ao (aJ (s:=[117]) aD) bm) bN))
   obtain⟨j5,Ao,wY⟩:=cE (z:=((bA/5) % 2)) (n:=2) ae ae
   obtain⟨r5,iq⟩:∃r,([[(al [116])],[(al [117])]]:List (List DC))[j5]?=some r:=⟨_,dz Pk⟩
   have jo:=nu n5 iq
   obtain⟨zn,_,rfl,nI,jo⟩:=b0 jo
   obtain rfl:=dy jo
   refine aU (e9 rfl (by rw[←Ao];rfl) wY ?_)
   refine bP aa (nq (rows:=[[(al [116])],[(al [117])]]) aa aa (bM _) (bM _) wY iq aa ?_)
   obtain⟨j7,lD,gu⟩:=cE (z:=0) (n:=wy3_4.length) ae ae
   obtain⟨r7,eY,gv⟩:=dX gu Yq
   obtain⟨nP,qF,wx,rfl,ku,mj,nJ⟩:=c4 gv
   refine aU (e9 rfl (by rw[←lD];rfl) gu ?_)
   refine aP 1 aa (oa aa (pU aa aa aa aa aa aa aD aD eY (fun w8 nh qS=>?_)))
   obtain⟨sx5_0,rfl,hsx5_0⟩:=Ty.aJ nI
   have oP:aH fu w8:=by rw[nh];exact hZ Yq (ao ku (ao (aJ ax) (ao nJ bm)))
   rw[←qS]
   refine cU (aj (ak 3 aa (eV 40 2052 aa aa eA ?_)))
   obtain⟨p,rfl,hsy1_0⟩:=Ty.aJ dY
   obtain⟨wy1_3,K,hny1_3,L⟩:=Ty.au Z8
   obtain⟨wy1_4,M,hny1_4,O⟩:=Ty.au vL
   obtain⟨wy1_5,U,hny1_5,Y⟩:=Ty.au J3
   obtain⟨Qc,rfl,hsy3_0⟩:=Ty.aJ kx
   obtain⟨wy3_3,hdy3_3,hny3_3,hry3_3⟩:=Ty.au hy3_3
   obtain⟨wy3_5,hdy3_5,hny3_5,hry3_5⟩:=Ty.au hy3_5
   refine af 3 aa ?_
   have Ap:aH vD [[(dJ 4),(al []),.nil,i0,i0,.nil,i0,.nil,(al p),A,G,I,J,i0,(al []),i0],[(dJ 4),(al []),.nil,i0,i0,.nil,i0,.nil,(al Qc),zJ,RO,(.sl w8),RP,i0,(al []),i0]]:=(cY (ao ah (ao (aJ (s:=[]) aD) (ao bl (ao ah (ao ah (ao bl (ao ah (ao bl (ao (aJ ax) (ao (au Yo ae Yp) (ao (au K ae L) (ao (au M ae O) (ao (au U ae Y) (ao ah (ao (aJ (s:=[]) aD) (ao ah bm)))))))))))))))) (cY (ao ah (ao (aJ (s:=[]) aD) (ao bl (ao ah (ao ah (ao bl (ao ah (ao bl (ao (aJ ax) (ao (au hdy3_1 ae hry3_1) (ao (au hdy3_3 ae hry3_3) (ao (au (.inl rfl) ae oP) (ao (au hdy3_5 ae hry3_5) (ao ah (ao (aJ (s:=[]) aD) (ao ah bm)))))))))))))))) bN))
   exact ma 2 42 aa aa (fun _=>⟨aa,aa⟩) (ay (aE aa aa ⟨(.sl [[(dJ 4),(al []),.nil,i0,i0,.nil,i0,.nil,(al p),A,G,I,J,i0,(al []),i0],[(dJ 4),(al []),.nil,i0,i0,.nil,i0,.nil,(al Qc),zJ,RO,(.sl w8),RP,i0,(al []),i0]]),[[(dJ 4),(al []),.nil,i0,i0,.nil,i0,.nil,(al p),A,G,I,J,i0,(al []),i0],[(dJ 4),(al []),.nil,i0,i0,.nil,i0,.nil,(al Qc),zJ,RO,(.sl w8),RP,i0,(al []),i0]],aa,(.inl aa),hH,Ap,ae⟩))
  exfalso;omega
 refine bP aa (aY aa (aV aa) (WD (aB:=bc) (bk:=bH) (aO:=bA) (bc:=bI) F (aJ (s:=[117]) aD) ae ae ae ae ae ae ae ae ae) (fun mA _ oI=>?_))
 obtain⟨vF,By,Yd,J0,J1,J2,rfl,xL,Ia,Wp,Ib,OG,OH,OI⟩:=oI
 refine cP 4 aa (aA (aj (ai (cx (j:=6) aa aa (aX aa) ?_))))
 refine ak 1 aa (ai (dC aa aa aa ae ae ?_))
 refine af 1 aa (aN aa (fun ir fT=>?_) (fun ir fT=>?_))
 ·exfalso;omega
 refine aG (aj ?_)
 obtain⟨p,rfl,hsy1_0⟩:=Ty.aJ dY
 obtain⟨wy1_3,K,hny1_3,L⟩:=Ty.au Z8
 obtain⟨wy1_4,M,hny1_4,O⟩:=Ty.au vL
 obtain⟨wy1_5,U,hny1_5,Y⟩:=Ty.au J3
 obtain⟨Z,rfl,hsy10_0⟩:=Ty.aJ xL
 obtain⟨wy10_3,hdy10_3,hny10_3,hry10_3⟩:=Ty.au OG
 obtain⟨wy10_4,hdy10_4,hny10_4,hry10_4⟩:=Ty.au OH
 obtain⟨wy10_5,hdy10_5,hny10_5,hry10_5⟩:=Ty.au OI
 refine af 6 aa ?_
 have zP:aH vD [[(dJ 4),(al []),.nil,i0,i0,.nil,i0,.nil,(al p),A,G,I,J,i0,(al []),i0],[(dJ 4),(al []),.nil,i0,i0,.nil,i0,.nil,(al Z),By,J0,J1,J2,i0,(al []),i0]]:=(cY (ao ah (ao (aJ (s:=[]) aD) (ao bl (ao ah (ao ah (ao bl (ao ah (ao bl (ao (aJ ax) (ao (au Yo ae Yp) (ao (au K ae L) (ao (au M ae O) (ao (au U ae Y) (ao ah (ao (aJ (s:=[]) aD) (ao ah bm)))))))))))))))) (cY (ao ah (ao (aJ (s:=[]) aD) (ao bl (ao ah (ao ah (ao bl (ao ah (ao bl (ao (aJ ax) (ao (au Ia ae Ib) (ao (au hdy10_3 ae hry10_3) (ao (au hdy10_4 ae hry10_4) (ao (au hdy10_5 ae hry10_5) (ao ah (ao (aJ (s:=[]) aD) (ao ah bm)))))))))))))))) bN))
 exact ma 2 42 aa aa (fun _=>⟨aa,aa⟩) (ay (aE aa aa ⟨(.sl [[(dJ 4),(al []),.nil,i0,i0,.nil,i0,.nil,(al p),A,G,I,J,i0,(al []),i0],[(dJ 4),(al []),.nil,i0,i0,.nil,i0,.nil,(al Z),By,J0,J1,J2,i0,(al []),i0]]),[[(dJ 4),(al []),.nil,i0,i0,.nil,i0,.nil,(al p),A,G,I,J,i0,(al []),i0],[(dJ 4),(al []),.nil,i0,i0,.nil,i0,.nil,(al Z),By,J0,J1,J2,i0,(al []),i0]],aa,(.inl aa),hH,zP,ae⟩))
end Go.Ev.Rp
