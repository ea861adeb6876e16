/- Part 27 of rules for walks through the code of a program, and of such walks; what each part proves is said by its theorems. -/
import Derived.Test.YtdgcofocbhbjcaaGreatS26
set_option linter.unusedVariables false
set_option linter.unusedSimpArgs false
noncomputable section
set_option maxRecDepth 100000
set_option maxHeartbeats 4000000
namespace Go.Ev.Rp
open Go Go.Ev.Pp
theorem Z9{T:bC}(F:FT T){aQ:Int}(S2:0≤aQ)(wP:aQ≤65535){aB:Int}(nd:0≤aB)(mB:aB≤65535){bk:Int}(sz:0≤bk)(sA:bk≤65535){aO:Int}(oN:0≤aO)(oO:aO≤65535){bc:Int}(pL:0≤bc)(pM:bc≤65535){bH:Int}(Af:0≤bH)(Ag:bH≤65535){bA:Int}(wQ:0≤bA)(wS:bA≤65535){bI:Int}(nX:0≤bI)(nY:bI≤65535):Sound T 64 [.agg [dU aQ,dU aB,dU bk,dU aO,dU bc,dU bH,dU bA,dU bI]] fun r=>∃y0 y1 y2 y3 y4 y5 y6 y7 y8 y9 y10 y11 y12 y13 y14 y15,r= .agg [.d y0,.d y1,.d y2,.d y3,.d y4,.d y5,.d y6,.d y7,.d y8,.d y9,.d y10,.d y11,.d y12,.d y13,.d y14,.d y15]∧tJ.ok y0∧(Ty.s 1000).ok y1∧(Ty.l 1000000000 ee).ok y2∧tJ.ok y3∧tJ.ok y4∧(Ty.l 100 ji).ok y5∧tJ.ok y6∧(Ty.l 10 fK).ok y7∧(Ty.s 1000).ok y8∧(Ty.l 100 eB).ok y9∧(Ty.l 200 cl).ok y10∧(Ty.l 4 fu).ok y11∧(Ty.l 4 ez).ok y12∧tJ.ok y13∧(Ty.s 1000).ok y14∧tJ.ok y15:=by
 refine ch F.q64 aa (aj (af 2 aa (aj (ai (cx (j:=1) aa aa (aX aa) ?_)))))
 refine ak 1 aa (ai (aY aa (aV aa) (abi F ah) (fun r1 _ dh=>?_)))
 obtain⟨J,rfl,dY⟩:=dh
 refine af 3 aa (aj (af 3 aa (aj (ai (cx (j:=0) aa aa (aX aa) ?_)))))
 refine ak 1 aa (ai (dC aa aa aa ae ae ?_))
 obtain⟨j2,ux,uK⟩:=cE (z:=(aQ % 9)) (n:=9) ae ae
 refine ai (cx rfl (by rw[←ux];rfl) uK ?_)
 obtain⟨G,GH,qK,um2⟩:∃m:Int,([.d (.i .i64 1),.d (.i .i64 1),.d (.i .i64 1),.d (.i .i64 1),.d (.i .i64 3),.d (.i .i64 3),.d (.i .i64 2),.d (.i .i64 5),.d (.i .i64 6)]:List VV)[0+j2*1]?=some (.d (.i .i64 m))∧1≤m∧m≤6:=by
  rcases(by omega:j2=0∨j2=1∨j2=2∨j2=3∨j2=4∨j2=5∨j2=6∨j2=7∨j2=8) with rfl|rfl|rfl|rfl|rfl|rfl|rfl|rfl|rfl<;>exact⟨_,rfl,ae,ae⟩
 refine ai (bJ aa aa GH ?_)
 refine af 2 aa (bz [(0,.agg [dU aQ,dU aB,dU bk,dU aO,dU bc,dU bH,dU bA,dU bI]),(1,.vp 1 0),(2,.vp 2 0),(3,.vp 3 0),(4,.vp 4 0)] [(1,.one 23 16 [dU aQ,dU aB,dU bk,dU aO,dU bc,dU bH,dU bA,dU bI]),(2,.one 107 264 [.d i0,dS [],dN,.d i0,.d i0,dN,.d i0,dN,dS [],dN,dN,dN,dN,.d i0,dS [],.d i0]),(3,.one 107 264 [.d (dJ G),.d J,dN,.d i0,.d i0,dN,.d i0,dN,dS [],dN,dN,dN,dN,.d i0,dS [],.d i0]),(4,.one 173 72 [.d (dJ 1),.d (dJ 1),.d (dJ 1),.d (dJ 1),.d (dJ 3),.d (dJ 3),.d (dJ 2),.d (dJ 5),.d (dJ 6)])] ⟨aa,aa,aa,aa,aa,trivial⟩ ⟨aa,aa,aa,aa,trivial⟩ (aA (aj (af 2 aa (bj (aj (af 2 aa (aN aa (fun h3 g3=>?_) (fun h3 g3=>?_)))))))))
 ·refine aj (ai (cx (j:=2) aa aa (aX aa) ?_))
  refine ak 1 aa (ai (cx (j:=3) aa aa (aX aa) ?_))
  refine ak 1 aa (ai (C9 2000 aa aa aa aa (ValsB F ah ah) (fun r4 Bn4 eo=>?_)))
  obtain⟨rI,rfl,rfl,oj,hly4_0,huy4_0⟩:=eo
  refine af 2 aa (bz [(0,.agg [dU aQ,dU aB,dU bk,dU aO,dU bc,dU bH,dU bA,dU bI]),(1,.vp 1 0),(2,.vp 2 0),(3,.vp 3 0),(4,.vp 4 0),(19,.d (dJ G)),(20,dB (decide (G=1)))] [(1,.one 23 16 [dU aQ,dU aB,dU bk,dU aO,dU bc,dU bH,dU bA,dU bI]),(2,.one 107 264 [.d i0,dS [],dN,.d i0,.d i0,dN,.d i0,dN,dS [],dN,dN,dN,dN,.d i0,dS [],.d i0]),(3,.one 107 264 [.d (dJ G),.d J,.bs 2009 rI.length 3,.d i0,.d i0,dN,.d i0,dN,dS [],dN,dN,dN,dN,.d i0,dS [],.d i0]),(4,.one 173 72 [.d (dJ 1),.d (dJ 1),.d (dJ 1),.d (dJ 1),.d (dJ 3),.d (dJ 3),.d (dJ 2),.d (dJ 5),.d (dJ 6)]),(2009,.arr 95 32 3 rI.length rI)] ⟨aa,aa,aa,aa,aa,aa,aa,trivial⟩ ⟨aa,aa,aa,aa,aa,trivial⟩ (aA (aj (af 1 aa (bj (cb (fun k VE B=>∃(jz:Int)(mG:List (List DC)),(2≤jz∧(jz≤(2+((bc % 5)/3))∨jz=2))∧((mG.length:Int)≤jz)∧(aH ee mG)∧k=(((2+((bc % 5)/3)):Int) -jz).toNat∧aT [(0,.agg [dU aQ,dU aB,dU bk,dU aO,dU bc,dU bH,dU bA,dU bI]),(1,.vp 1 0),(2,.vp 2 0),(3,.vp 3 0),(4,.vp 4 0),(5,.d (dJ jz)),(19,.d (dJ G)),(20,dB (decide (G=1)))] VE∧aT [(1,.one 23 16 [dU aQ,dU aB,dU bk,dU aO,dU bc,dU bH,dU bA,dU bI]),(2,.one 107 264 [.d i0,dS [],dN,.d i0,.d i0,dN,.d i0,dN,dS [],dN,dN,dN,dN,.d i0,dS [],.d i0]),(3,.one 107 264 [.d (dJ G),.d J,.bs 2009 mG.length 3,.d i0,.d i0,dN,.d i0,dN,dS [],dN,dN,dN,dN,.d i0,dS [],.d i0]),(4,.one 173 72 [.d (dJ 1),.d (dJ 1),.d (dJ 1),.d (dJ 1),.d (dJ 3),.d (dJ 3),.d (dJ 2),.d (dJ 5),.d (dJ 6)]),(2009,.arr 95 32 3 mG.length mG)] B) ?_ (k:=(((2+((bc % 5)/3)):Int) -2).toNat) ⟨2,rI,ae,ae,oj,aa,⟨aa,aa,aa,aa,aa,aa,aa,aa,trivial⟩,⟨aa,aa,aa,aa,aa,trivial⟩⟩))))))
  rintro _ VE B⟨jz,mG,c9,fr,Vc,rfl,hV,hB⟩
  refine bz _ _ hV hB (aA (aj (ak 1 aa (ai (cx (j:=4) aa aa (aX aa) ?_)))))
  refine ak 1 aa (ai (dC aa aa aa ae ae ?_))
  refine ai (kn aa aD ae ae ?_)
  refine ai (Du aa aa aa aa ae ae ae aD ?_)
  refine ai (br aa aa ae ae ?_)
  refine af 1 aa (aN aa (fun h5 g5=>?_) (fun h5 g5=>?_))
  ·refine aG (bz [(0,.agg [dU aQ,dU aB,dU bk,dU aO,dU bc,dU bH,dU bA,dU bI]),(1,.vp 1 0),(2,.vp 2 0),(3,.vp 3 0),(4,.vp 4 0),(5,.d (dJ jz)),(19,.d (dJ G)),(20,dB (decide (G=1))),(35,dB (decide (jz<(2+((bc % 5)/3)))))] [(1,.one 23 16 [dU aQ,dU aB,dU bk,dU aO,dU bc,dU bH,dU bA,dU bI]),(2,.one 107 264 [.d i0,dS [],dN,.d i0,.d i0,dN,.d i0,dN,dS [],dN,dN,dN,dN,.d i0,dS [],.d i0]),(3,.one 107 264 [.d (dJ G),.d J,.bs 2009 mG.length 3,.d i0,.d i0,dN,.d i0,dN,dS [],dN,dN,dN,dN,.d i0,dS [],.d i0]),(4,.one 173 72 [.d (dJ 1),.d (dJ 1),.d (dJ 1),.d (dJ 1),.d (dJ 3),.d (dJ 3),.d (dJ 2),.d (dJ 5),.d (dJ 6)]),(2009,.arr 95 32 3 mG.length mG)] ⟨aa,aa,aa,aa,aa,aa,aa,aa,aa,trivial⟩ ⟨aa,aa,aa,aa,aa,trivial⟩ (aA (bj (fB (aP 2 aa (aU (cx (j:=5) aa aa (aX aa) ?_)))))))
   refine aP 1 aa (bP aa (aY aa (aV aa) (tT F ah ah) (fun r6 _ iW=>?_)))
   obtain⟨oH,F0,mW,rfl,rG,rH,yq⟩:=iW
   obtain⟨JQ,rfl,Og,Oh⟩:=Ty.az rG
   obtain⟨Qd,rfl,hzy6_1,kzy6_1⟩:=Ty.az rH
   obtain⟨Qe,rfl,hsy6_2⟩:=Ty.aJ yq
   refine aP 1 aa (bP aa (sR (rows:=mG) (ys:=[[(dJ JQ),(dJ Qd),(al Qe)]]) aa aa aa (.bs (rows:=[[(dJ JQ),(dJ Qd),(al Qe)]]) aa) aD ae ?_))
   refine cP 2 aa (aS (ak 1 aa (ai (br aa aa ae ae ?_))))
   exact af 1 aa (⟨(((2+((bc % 5)/3)):Int) -((jz+1))).toNat,ae,(jz+1),(mG++[[(dJ JQ),(dJ Qd),(al Qe)]]),ae,cn,(bS Vc (bX (ao ah (ao ah (ao (aJ ax) bm))))),aa,⟨aa,aa,aa,aa,aa,aa,aa,aa,trivial⟩,⟨aa,aa,aa,aa,aa,trivial⟩⟩)
  refine bV (aS (ai (cx (j:=6) aa aa (aX aa) ?_)))
  refine ak 1 aa (ai (cx (j:=7) aa aa (aX aa) ?_))
  refine ak 1 aa (ai (aY aa (aV aa) (Q4 F ah ah) (fun r7 _ nc=>?_)))
  obtain⟨wu,ab1,rfl,rJ,P4⟩:=nc
  refine af 2 aa (bz [(0,.agg [dU aQ,dU aB,dU bk,dU aO,dU bc,dU bH,dU bA,dU bI]),(1,.vp 1 0),(2,.vp 2 0),(3,.vp 3 0),(4,.vp 4 0),(5,.d (dJ jz)),(19,.d (dJ G)),(20,dB (decide (G=1))),(35,dB (decide (jz<(2+((bc % 5)/3)))))] [(1,.one 23 16 [dU aQ,dU aB,dU bk,dU aO,dU bc,dU bH,dU bA,dU bI]),(2,.one 107 264 [.d i0,dS [],dN,.d i0,.d i0,dN,.d i0,dN,dS [],dN,dN,dN,dN,.d i0,dS [],.d i0]),(3,.one 107 264 [.d (dJ G),.d J,.bs 2009 mG.length 3,.d wu,.d ab1,dN,.d i0,dN,dS [],dN,dN,dN,dN,.d i0,dS [],.d i0]),(4,.one 173 72 [.d (dJ 1),.d (dJ 1),.d (dJ 1),.d (dJ 1),.d (dJ 3),.d (dJ 3),.d (dJ 2),.d (dJ 5),.d (dJ 6)]),(2009,.arr 95 32 3 mG.length mG)] ⟨aa,aa,aa,aa,aa,aa,aa,aa,aa,trivial⟩ ⟨aa,aa,aa,aa,aa,trivial⟩ (aj (ak 1 aa (eV 148 2009 aa aa eA (af 1 aa (ay ?_))))))
  obtain⟨I,rfl,K⟩:=Ty.aJ dY
  obtain⟨zy7_0,rfl,hzy7_0,kzy7_0⟩:=Ty.az rJ
  obtain⟨zy7_1,rfl,hzy7_1,kzy7_1⟩:=Ty.az P4
  exact aE aa aa ⟨(dJ G),(al I),(.sl mG),(dJ zy7_0),(dJ zy7_1),.nil,i0,.nil,(al []),.nil,.nil,.nil,.nil,i0,(al []),i0,aa,ah,(aJ ax),(au (.inl aa) ae Vc),ah,ah,bl,ah,bl,(aJ (s:=[]) aD),bl,bl,bl,bl,ah,(aJ (s:=[]) aD),ah⟩
 refine bz [(0,.agg [dU aQ,dU aB,dU bk,dU aO,dU bc,dU bH,dU bA,dU bI]),(1,.vp 1 0),(2,.vp 2 0),(3,.vp 3 0),(4,.vp 4 0),(19,.d (dJ G)),(20,dB (decide (G=1)))] [(1,.one 23 16 [dU aQ,dU aB,dU bk,dU aO,dU bc,dU bH,dU bA,dU bI]),(2,.one 107 264 [.d i0,dS [],dN,.d i0,.d i0,dN,.d i0,dN,dS [],dN,dN,dN,dN,.d i0,dS [],.d i0]),(3,.one 107 264 [.d (dJ G),.d J,dN,.d i0,.d i0,dN,.d i0,dN,dS [],dN,dN,dN,dN,.d i0,dS [],.d i0]),(4,.one 173 72 [.d (dJ 1),.d (dJ 1),.d (dJ 1),.d (dJ 1),.d (dJ 3),.d (dJ 3),.d (dJ 2),.d (dJ 5),.d (dJ 6)])] ⟨aa,aa,aa,aa,aa,aa,aa,trivial⟩ ⟨aa,aa,aa,aa,trivial⟩ (aA (aj (af 2 aa (aN aa (fun h8 g8=>?_) (fun h8 g8=>?_)))))
 ·refine aG (cg aa h8 (aj (ai (cx (j:=6) aa aa (aX aa) ?_))))
  refine ak 1 aa (ai (cx (j:=7) aa aa (aX aa) ?_))
  refine ak 1 aa (ai (aY aa (aV aa) (Q4 F ah ah) (fun r9 _ oU=>?_)))
  obtain⟨jk,lS,rfl,kX,vT⟩:=oU
  refine af 2 aa (bz [(0,.agg [dU aQ,dU aB,dU bk,dU aO,dU bc,dU bH,dU bA,dU bI]),(1,.vp 1 0),(2,.vp 2 0),(3,.vp 3 0),(4,.vp 4 0),(19,.d (dJ G)),(20,dB (decide (G=1))),(52,dB (decide (G=3)))] [(1,.one 23 16 [dU aQ,dU aB,dU bk,dU aO,dU bc,dU bH,dU bA,dU bI]),(2,.one 107 264 [.d i0,dS [],dN,.d i0,.d i0,dN,.d i0,dN,dS [],dN,dN,dN,dN,.d i0,dS [],.d i0]),(3,.one 107 264 [.d (dJ G),.d J,dN,.d jk,.d lS,dN,.d i0,dN,dS [],dN,dN,dN,dN,.d i0,dS [],.d i0]),(4,.one 173 72 [.d (dJ 1),.d (dJ 1),.d (dJ 1),.d (dJ 1),.d (dJ 3),.d (dJ 3),.d (dJ 2),.d (dJ 5),.d (dJ 6)])] ⟨aa,aa,aa,aa,aa,aa,aa,aa,trivial⟩ ⟨aa,aa,aa,aa,trivial⟩ (cN (bP aa (aY aa (aV aa) (Xy F) (fun mA _ oI=>?_)))))
  obtain⟨vF,wy10_0,rfl,MG,hny10_0,MH,hmy10_0⟩:=oI
  refine aU (cx (j:=2) aa aa (aX aa) ?_)
  refine aP 1 aa (aU (cx (j:=3) aa aa (aX aa) ?_))
  refine aP 1 aa (aU (cx (j:=4) aa aa (aX aa) ?_))
  refine aP 1 aa (aU (cx (j:=5) aa aa (aX aa) ?_))
  refine aP 2 aa (bP aa (C9 2000 aa aa aa aa (Z7 F ae MG ae MH ah ah ah ah) (fun pN Bn11 lO=>?_)))
  obtain⟨p,vS,rfl,rfl,nA,hly11_0,huy11_0,Bc⟩:=lO
  refine cP 7 aa (bz [(0,.agg [dU aQ,dU aB,dU bk,dU aO,dU bc,dU bH,dU bA,dU bI]),(1,.vp 1 0),(2,.vp 2 0),(3,.vp 3 0),(4,.vp 4 0),(19,.d (dJ G)),(20,dB (decide (G=1))),(52,dB (decide (G=3)))] [(1,.one 23 16 [dU aQ,dU aB,dU bk,dU aO,dU bc,dU bH,dU bA,dU bI]),(2,.one 107 264 [.d i0,dS [],dN,.d i0,.d i0,dN,.d i0,dN,dS [],dN,dN,dN,dN,.d i0,dS [],.d i0]),(3,.one 107 264 [.d (dJ G),.d J,dN,.d jk,.d lS,.ac 2028 p.length 7,.d vS,dN,dS [],dN,dN,dN,dN,.d i0,dS [],.d i0]),(4,.one 173 72 [.d (dJ 1),.d (dJ 1),.d (dJ 1),.d (dJ 1),.d (dJ 3),.d (dJ 3),.d (dJ 2),.d (dJ 5),.d (dJ 6)]),(2028,.acc 181 64 7 p)] ⟨aa,aa,aa,aa,aa,aa,aa,aa,trivial⟩ ⟨aa,aa,aa,aa,aa,trivial⟩ (aA (aj (ai (cx (j:=4) aa aa (aX aa) ?_)))))
  refine ak 1 aa (ai (dC aa aa aa ae ae ?_))
  refine af 1 aa (aN aa (fun eM gS=>?_) (fun eM gS=>?_))
  ·refine aS (af 2 aa (bz [(0,.agg [dU aQ,dU aB,dU bk,dU aO,dU bc,dU bH,dU bA,dU bI]),(1,.vp 1 0),(2,.vp 2 0),(3,.vp 3 0),(4,.vp 4 0),(19,.d (dJ G)),(20,dB (decide (G=1))),(52,dB (decide (G=3))),(80,dB (decide ((bc % 4)=3)))] [(1,.one 23 16 [dU aQ,dU aB,dU bk,dU aO,dU bc,dU bH,dU bA,dU bI]),(2,.one 107 264 [.d i0,dS [],dN,.d i0,.d i0,dN,.d i0,dN,dS [],dN,dN,dN,dN,.d i0,dS [],.d i0]),(3,.one 107 264 [.d (dJ G),.d J,dN,.d jk,.d lS,.ac 2028 p.length 7,.d (dJ (-1)),dN,dS [],dN,dN,dN,dN,.d i0,dS [],.d i0]),(4,.one 173 72 [.d (dJ 1),.d (dJ 1),.d (dJ 1),.d (dJ 1),.d (dJ 3),.d (dJ 3),.d (dJ 2),.d (dJ 5),.d (dJ 6)]),(2028,.acc 181 64 7 p)] ⟨aa,aa,aa,aa,aa,aa,aa,aa,aa,trivial⟩ ⟨aa,aa,aa,aa,aa,trivial⟩ (aj (af 3 aa (aN aa (fun eD iv=>?_) (fun eD iv=>?_))))))
   ·refine aj (af 4 aa (cN (aP 3 aa (aU (cx (j:=2) aa aa (aX aa) ?_)))))
    refine aP 1 aa (aU (kn aa aD ae ae ?_))
    refine aU (cx (j:=5) aa aa (aX aa) ?_)
    refine aP 1 aa (bP aa (aY aa (aV aa) (tT F ah ah) (fun sB _ zH=>?_)))
    obtain⟨EW,y14_1,y14_2,rfl,N8,hy14_1,hy14_2⟩:=zH
    refine aP 3 aa (aU (br aa aa ae ae ?_))
    obtain⟨L,rfl,hzy14_0,kzy14_0⟩:=Ty.az N8
    obtain⟨M,rfl,hzy14_1,kzy14_1⟩:=Ty.az hy14_1
    obtain⟨O,rfl,hsy14_2⟩:=Ty.aJ hy14_2
    have zK:aH ji [[(dJ 2),i0,i0,i0,i0,i0,(al [])],[(dJ 1),i0,i0,i0,(dJ L),(dJ M),(al O)],[(dJ 3),(dJ (p.length:Int)),(dJ ((p.length:Int)+1)),i0,i0,i0,(al [])]]:=(cY (ao ah (ao ah (ao ah (ao ah (ao ah (ao ah (ao (aJ (s:=[]) aD) bm))))))) (cY (ao ah (ao ah (ao ah (ao ah (ao ah (ao ah (ao (aJ ax) bm))))))) (cY (ao ah (ao ah (ao ah (ao ah (ao ah (ao ah (ao (aJ (s:=[]) aD) bm))))))) bN)))
    refine aP 2 aa (bP aa (cr (rows:=p) (ys:=[[(dJ 2),i0,i0,i0,i0,i0,(al [])],[(dJ 1),i0,i0,i0,(dJ L),(dJ M),(al O)],[(dJ 3),(dJ (p.length:Int)),(dJ ((p.length:Int)+1)),i0,i0,i0,(al [])]]) aa aa aa (.bs (rows:=[[(dJ 2),i0,i0,i0,i0,i0,(al [])],[(dJ 1),i0,i0,i0,(dJ L),(dJ M),(al O)],[(dJ 3),(dJ (p.length:Int)),(dJ ((p.length:Int)+1)),i0,i0,i0,(al [])]]) aa) aD ae dF dF ?_))
    refine cP 2 aa (bz [(0,.agg [dU aQ,dU aB,dU bk,dU aO,dU bc,dU bH,dU bA,dU bI]),(1,.vp 1 0),(2,.vp 2 0),(3,.vp 3 0),(4,.vp 4 0),(6,.d (dJ (p.length:Int))),(19,.d (dJ G)),(20,dB (decide (G=1))),(52,dB (decide (G=3))),(80,dB (decide ((bc % 4)=3))),(84,dB (decide (G=3)))] [(1,.one 23 16 [dU aQ,dU aB,dU bk,dU aO,dU bc,dU bH,dU bA,dU bI]),(2,.one 107 264 [.d i0,dS [],dN,.d i0,.d i0,dN,.d i0,dN,dS [],dN,dN,dN,dN,.d i0,dS [],.d i0]),(3,.one 107 264 [.d (dJ G),.d J,dN,.d jk,.d lS,.ac 2028 (p++[[(dJ 2),i0,i0,i0,i0,i0,(al [])],[(dJ 1),i0,i0,i0,(dJ L),(dJ M),(al O)],[(dJ 3),(dJ (p.length:Int)),(dJ ((p.length:Int)+1)),i0,i0,i0,(al [])]]).length 7,.d (dJ (-1)),dN,dS [],dN,dN,dN,dN,.d i0,dS [],.d i0]),(4,.one 173 72 [.d (dJ 1),.d (dJ 1),.d (dJ 1),.d (dJ 1),.d (dJ 3),.d (dJ 3),.d (dJ 2),.d (dJ 5),.d (dJ 6)]),(102,.arr 181 64 7 3 [[(dJ 2),i0,i0,i0,i0,i0,(al [])],[(dJ 1),i0,i0,i0,(dJ L),(dJ M),(al O)],[(dJ 3),(dJ (p.length:Int)),(dJ ((p.length:Int)+1)),i0,i0,i0,(al [])]]),(2028,.acc 181 64 7 (p++[[(dJ 2),i0,i0,i0,i0,i0,(al [])],[(dJ 1),i0,i0,i0,(dJ L),(dJ M),(al O)],[(dJ 3),(dJ (p.length:Int)),(dJ ((p.length:Int)+1)),i0,i0,i0,(al [])]]))] ⟨aa,aa,aa,aa,aa,aa,aa,aa,aa,aa,aa,trivial⟩ ⟨aa,aa,aa,aa,aa,aa,trivial⟩ (aj (ai (cx (j:=2) aa aa (aX aa) ?_))))
    refine ak 1 aa (ai (dC aa aa aa ae ae ?_))
    refine ai (kn aa aD ae ae ?_)
    refine ak 1 aa (ai (br aa aa ae ae ?_))
    refine af 4 aa (aj (ai (cx (j:=2) aa aa (aX aa) ?_)))
    refine ak 1 aa (ai (dC aa aa aa ae ae ?_))
    refine ak 2 aa (bZ (g:=Be) aa (fun eE jE=>?_) (fun eE jE=>?_))
    ·refine aq aa eE (cx (j:=5) aa aa (aX aa) ?_)
     refine aq aa eE (bJ aa aa aa ?_)
     refine aq aa eE (dC aa aa aa ae ae ?_)
     refine aq aa eE (en aa aa ?_)
     refine ai (aW aa eE aa ?_)
     refine bn (aN aa (fun gR jF=>?_) (fun gR jF=>?_))
     ·refine aS (ak 3 aa (ai (br aa aa ae ae ?_)))
      refine ai (e9 (j:=0) aa aa aD ?_)
      refine ak 1 aa (jd (C3 (rows:=[[(dJ (bk % 2)),(dJ ((p.length:Int)+1))]]) aa aa aa aa aa aa aD aD aa ?_))
      refine bn (bz [(0,.agg [dU aQ,dU aB,dU bk,dU aO,dU bc,dU bH,dU bA,dU bI]),(1,.vp 1 0),(2,.vp 2 0),(3,.vp 3 0),(4,.vp 4 0),(6,.d (dJ (p.length:Int))),(19,.d (dJ G)),(20,dB (decide (G=1))),(52,dB (decide (G=3))),(80,dB (decide ((bc % 4)=3))),(84,dB (decide (G=3))),(123,dB (decide ((bH % 3)=0)))] [(1,.one 23 16 [dU aQ,dU aB,dU bk,dU aO,dU bc,dU bH,dU bA,dU bI]),(2,.one 107 264 [.d i0,dS [],dN,.d i0,.d i0,dN,.d i0,dN,dS [],dN,dN,dN,dN,.d i0,dS [],.d i0]),(3,.one 107 264 [.d (dJ G),.d J,dN,.d jk,.d lS,.ac 2028 (p++[[(dJ 2),i0,i0,i0,i0,i0,(al [])],[(dJ 1),i0,i0,i0,(dJ L),(dJ M),(al O)],[(dJ 3),(dJ (p.length:Int)),(dJ ((p.length:Int)+1)),i0,i0,i0,(al [])]]).length 7,.d (dJ (-1)),.bs 112 1 2,dS [],dN,dN,dN,dN,.d i0,dS [],.d i0]),(4,.one 173 72 [.d (dJ 1),.d (dJ 1),.d (dJ 1),.d (dJ 1),.d (dJ 3),.d (dJ 3),.d (dJ 2),.d (dJ 5),.d (dJ 6)]),(102,.arr 181 64 7 3 [[(dJ 2),i0,i0,i0,i0,i0,(al [])],[(dJ 1),i0,i0,i0,(dJ L),(dJ M),(al O)],[(dJ 3),(dJ (p.length:Int)),(dJ ((p.length:Int)+1)),i0,i0,i0,(al [])]]),(112,.arr 183 16 2 1 [[(dJ (bk % 2)),(dJ ((p.length:Int)+2))]]),(2028,.acc 181 64 7 (p++[[(dJ 2),i0,i0,i0,i0,i0,(al [])],[(dJ 1),i0,i0,i0,(dJ L),(dJ M),(al O)],[(dJ 3),(dJ (p.length:Int)),(dJ ((p.length:Int)+1)),i0,i0,i0,(al [])]]))] ⟨aa,aa,aa,aa,aa,aa,aa,aa,aa,aa,aa,aa,trivial⟩ ⟨aa,aa,aa,aa,aa,aa,aa,trivial⟩ (aj (ak 1 aa (fO 148 2028 aa aa eA ?_))))
      have Gr:aH fK [[(dJ (bk % 2)),(dJ ((p.length:Int)+2))]]:=(cY (ao ah (ao ah bm)) bN)
      refine eV 148 112 aa aa eA (af 1 aa (ay ?_))
      obtain⟨I,rfl,K⟩:=Ty.aJ dY
      obtain⟨kY,rfl,s0,s7⟩:=Ty.az kX
      obtain⟨mQ,rfl,xY,xZ⟩:=Ty.az vT
      exact aE aa aa ⟨(dJ G),(al I),.nil,(dJ kY),(dJ mQ),(.cS (p++[[(dJ 2),i0,i0,i0,i0,i0,(al [])],[(dJ 1),i0,i0,i0,(dJ L),(dJ M),(al O)],[(dJ 3),(dJ (p.length:Int)),(dJ ((p.length:Int)+1)),i0,i0,i0,(al [])]])),(dJ (-1)),(.sl [[(dJ (bk % 2)),(dJ ((p.length:Int)+2))]]),(al []),.nil,.nil,.nil,.nil,i0,(al []),i0,aa,ah,(aJ ax),bl,ah,ah,(au (.acc _) ae (bS nA zK)),ah,(au (.inl aa) ae Gr),(aJ (s:=[]) aD),bl,bl,bl,bl,ah,(aJ (s:=[]) aD),ah⟩
     refine aG (bz [(0,.agg [dU aQ,dU aB,dU bk,dU aO,dU bc,dU bH,dU bA,dU bI]),(1,.vp 1 0),(2,.vp 2 0),(3,.vp 3 0),(4,.vp 4 0),(6,.d (dJ (p.length:Int))),(19,.d (dJ G)),(20,dB (decide (G=1))),(52,dB (decide (G=3))),(80,dB (decide ((bc % 4)=3))),(84,dB (decide (G=3))),(123,dB (decide ((bH % 3)=0)))] [(1,.one 23 16 [dU aQ,dU aB,dU bk,dU aO,dU bc,dU bH,dU bA,dU bI]),(2,.one 107 264 [.d i0,dS [],dN,.d i0,.d i0,dN,.d i0,dN,dS [],dN,dN,dN,dN,.d i0,dS [],.d i0]),(3,.one 107 264 [.d (dJ G),.d J,dN,.d jk,.d lS,.ac 2028 (p++[[(dJ 2),i0,i0,i0,i0,i0,(al [])],[(dJ 1),i0,i0,i0,(dJ L),(dJ M),(al O)],[(dJ 3),(dJ (p.length:Int)),(dJ ((p.length:Int)+1)),i0,i0,i0,(al [])]]).length 7,.d (dJ (-1)),.bs 112 1 2,dS [],dN,dN,dN,dN,.d i0,dS [],.d i0]),(4,.one 173 72 [.d (dJ 1),.d (dJ 1),.d (dJ 1),.d (dJ 1),.d (dJ 3),.d (dJ 3),.d (dJ 2),.d (dJ 5),.d (dJ 6)]),(102,.arr 181 64 7 3 [[(dJ 2),i0,i0,i0,i0,i0,(al [])],[(dJ 1),i0,i0,i0,(dJ L),(dJ M),(al O)],[(dJ 3),(dJ (p.length:Int)),(dJ ((p.length:Int)+1)),i0,i0,i0,(al [])]]),(112,.arr 183 16 2 1 [[(dJ (bk % 2)),(dJ ((p.length:Int)+1))]]),(2028,.acc 181 64 7 (p++[[(dJ 2),i0,i0,i0,i0,i0,(al [])],[(dJ 1),i0,i0,i0,(dJ L),(dJ M),(al O)],[(dJ 3),(dJ (p.length:Int)),(dJ ((p.length:Int)+1)),i0,i0,i0,(al [])]]))] ⟨aa,aa,aa,aa,aa,aa,aa,aa,aa,aa,aa,aa,trivial⟩ ⟨aa,aa,aa,aa,aa,aa,aa,trivial⟩ (aj (ak 1 aa (fO 148 2028 aa aa eA ?_))))
     have hb19:aH fK [[(dJ (bk % 2)),(dJ ((p.length:Int)+1))]]:=(cY (ao ah (ao ah bm)) bN)
     refine eV 148 112 aa aa eA (af 1 aa (ay ?_))
     obtain⟨I,rfl,K⟩:=Ty.aJ dY
     obtain⟨kY,rfl,s0,s7⟩:=Ty.az kX
     obtain⟨mQ,rfl,xY,xZ⟩:=Ty.az vT
     exact aE aa aa ⟨(dJ G),(al I),.nil,(dJ kY),(dJ mQ),(.cS (p++[[(dJ 2),i0,i0,i0,i0,i0,(al [])],[(dJ 1),i0,i0,i0,(dJ L),(dJ M),(al O)],[(dJ 3),(dJ (p.length:Int)),(dJ ((p.length:Int)+1)),i0,i0,i0,(al [])]])),(dJ (-1)),(.sl [[(dJ (bk % 2)),(dJ ((p.length:Int)+1))]]),(al []),.nil,.nil,.nil,.nil,i0,(al []),i0,aa,ah,(aJ ax),bl,ah,ah,(au (.acc _) ae (bS nA zK)),ah,(au (.inl aa) ae hb19),(aJ (s:=[]) aD),bl,bl,bl,bl,ah,(aJ (s:=[]) aD),ah⟩
    refine an aa eE (an aa eE (an aa eE (an aa eE (ai (bd aa eE aa ?_)))))
    refine bn (cH aa aa (aG (bz [(0,.agg [dU aQ,dU aB,dU bk,dU aO,dU bc,dU bH,dU bA,dU bI]),(1,.vp 1 0),(2,.vp 2 0),(3,.vp 3 0),(4,.vp 4 0),(6,.d (dJ (p.length:Int))),(19,.d (dJ G)),(20,dB (decide (G=1))),(52,dB (decide (G=3))),(80,dB (decide ((bc % 4)=3))),(84,dB (decide (G=3))),(123,dB false)] [(1,.one 23 16 [dU aQ,dU aB,dU bk,dU aO,dU bc,dU bH,dU bA,dU bI]),(2,.one 107 264 [.d i0,dS [],dN,.d i0,.d i0,dN,.d i0,dN,dS [],dN,dN,dN,dN,.d i0,dS [],.d i0]),(3,.one 107 264 [.d (dJ G),.d J,dN,.d jk,.d lS,.ac 2028 (p++[[(dJ 2),i0,i0,i0,i0,i0,(al [])],[(dJ 1),i0,i0,i0,(dJ L),(dJ M),(al O)],[(dJ 3),(dJ (p.length:Int)),(dJ ((p.length:Int)+1)),i0,i0,i0,(al [])]]).length 7,.d (dJ (-1)),.bs 112 1 2,dS [],dN,dN,dN,dN,.d i0,dS [],.d i0]),(4,.one 173 72 [.d (dJ 1),.d (dJ 1),.d (dJ 1),.d (dJ 1),.d (dJ 3),.d (dJ 3),.d (dJ 2),.d (dJ 5),.d (dJ 6)]),(102,.arr 181 64 7 3 [[(dJ 2),i0,i0,i0,i0,i0,(al [])],[(dJ 1),i0,i0,i0,(dJ L),(dJ M),(al O)],[(dJ 3),(dJ (p.length:Int)),(dJ ((p.length:Int)+1)),i0,i0,i0,(al [])]]),(112,.arr 183 16 2 1 [[(dJ (bk % 2)),(dJ ((p.length:Int)+1))]]),(2028,.acc 181 64 7 (p++[[(dJ 2),i0,i0,i0,i0,i0,(al [])],[(dJ 1),i0,i0,i0,(dJ L),(dJ M),(al O)],[(dJ 3),(dJ (p.length:Int)),(dJ ((p.length:Int)+1)),i0,i0,i0,(al [])]]))] ⟨aa,aa,aa,aa,aa,aa,aa,aa,aa,aa,aa,aa,trivial⟩ ⟨aa,aa,aa,aa,aa,aa,aa,trivial⟩ (aj (ak 1 aa (fO 148 2028 aa aa eA ?_))))))
    have ub:aH fK [[(dJ (bk % 2)),(dJ ((p.length:Int)+1))]]:=(cY (ao ah (ao ah bm)) bN)
    refine eV 148 112 aa aa eA (af 1 aa (ay ?_))
    obtain⟨I,rfl,K⟩:=Ty.aJ dY
    obtain⟨kY,rfl,s0,s7⟩:=Ty.az kX
    obtain⟨mQ,rfl,xY,xZ⟩:=Ty.az vT
    exact aE aa aa ⟨(dJ G),(al I),.nil,(dJ kY),(dJ mQ),(.cS (p++[[(dJ 2),i0,i0,i0,i0,i0,(al [])],[(dJ 1),i0,i0,i0,(dJ L),(dJ M),(al O)],[(dJ 3),(dJ (p.length:Int)),(dJ ((p.length:Int)+1)),i0,i0,i0,(al [])]])),(dJ (-1)),(.sl [[(dJ (bk % 2)),(dJ ((p.length:Int)+1))]]),(al []),.nil,.nil,.nil,.nil,i0,(al []),i0,aa,ah,(aJ ax),bl,ah,ah,(au (.acc _) ae (bS nA zK)),ah,(au (.inl aa) ae ub),(aJ (s:=[]) aD),bl,bl,bl,bl,ah,(aJ (s:=[]) aD),ah⟩
   refine aG (bz [(0,.agg [dU aQ,dU aB,dU bk,dU aO,dU bc,dU bH,dU bA,dU bI]),(1,.vp 1 0),(2,.vp 2 0),(3,.vp 3 0),(4,.vp 4 0),(19,.d (dJ G)),(20,dB (decide (G=1))),(52,dB (decide (G=3))),(80,dB (decide ((bc % 4)=3))),(84,dB (decide (G=3)))] [(1,.one 23 16 [dU aQ,dU aB,dU bk,dU aO,dU bc,dU bH,dU bA,dU bI]),(2,.one 107 264 [.d i0,dS [],dN,.d i0,.d i0,dN,.d i0,dN,dS [],dN,dN,dN,dN,.d i0,dS [],.d i0]),(3,.one 107 264 [.d (dJ G),.d J,dN,.d jk,.d lS,.ac 2028 p.length 7,.d (dJ (-1)),dN,dS [],dN,dN,dN,dN,.d i0,dS [],.d i0]),(4,.one 173 72 [.d (dJ 1),.d (dJ 1),.d (dJ 1),.d (dJ 1),.d (dJ 3),.d (dJ 3),.d (dJ 2),.d (dJ 5),.d (dJ 6)]),(2028,.acc 181 64 7 p)] ⟨aa,aa,aa,aa,aa,aa,aa,aa,aa,aa,trivial⟩ ⟨aa,aa,aa,aa,aa,trivial⟩ (aj (ak 1 aa (fO 148 2028 aa aa eA (af 1 aa (ay ?_))))))
   obtain⟨I,rfl,K⟩:=Ty.aJ dY
   obtain⟨kY,rfl,s0,s7⟩:=Ty.az kX
   obtain⟨mQ,rfl,xY,xZ⟩:=Ty.az vT
   exact aE aa aa ⟨(dJ G),(al I),.nil,(dJ kY),(dJ mQ),(.cS p),(dJ (-1)),.nil,(al []),.nil,.nil,.nil,.nil,i0,(al []),i0,aa,ah,(aJ ax),bl,ah,ah,(au (.acc _) ae nA),ah,bl,(aJ (s:=[]) aD),bl,bl,bl,bl,ah,(aJ (s:=[]) aD),ah⟩
  refine aG (bz [(0,.agg [dU aQ,dU aB,dU bk,dU aO,dU bc,dU bH,dU bA,dU bI]),(1,.vp 1 0),(2,.vp 2 0),(3,.vp 3 0),(4,.vp 4 0),(19,.d (dJ G)),(20,dB (decide (G=1))),(52,dB (decide (G=3))),(80,dB (decide ((bc % 4)=3)))] [(1,.one 23 16 [dU aQ,dU aB,dU bk,dU aO,dU bc,dU bH,dU bA,dU bI]),(2,.one 107 264 [.d i0,dS [],dN,.d i0,.d i0,dN,.d i0,dN,dS [],dN,dN,dN,dN,.d i0,dS [],.d i0]),(3,.one 107 264 [.d (dJ G),.d J,dN,.d jk,.d lS,.ac 2028 p.length 7,.d vS,dN,dS [],dN,dN,dN,dN,.d i0,dS [],.d i0]),(4,.one 173 72 [.d (dJ 1),.d (dJ 1),.d (dJ 1),.d (dJ 1),.d (dJ 3),.d (dJ 3),.d (dJ 2),.d (dJ 5),.d (dJ 6)]),(2028,.acc 181 64 7 p)] ⟨aa,aa,aa,aa,aa,aa,aa,aa,aa,trivial⟩ ⟨aa,aa,aa,aa,aa,trivial⟩ (aj (af 3 aa (aN aa (fun gw l7=>?_) (fun gw l7=>?_)))))
  ·refine aj (af 4 aa (cN (aP 3 aa (aU (cx (j:=2) aa aa (aX aa) ?_)))))
   refine aP 1 aa (aU (kn aa aD ae ae ?_))
   refine aU (cx (j:=5) aa aa (aX aa) ?_)
   refine aP 1 aa (bP aa (aY aa (aV aa) (tT F ah ah) (fun CT _ tY=>?_)))
   obtain⟨JP,y22_1,y22_2,rfl,IU,hy22_1,hy22_2⟩:=tY
   refine aP 3 aa (aU (br aa aa ae ae ?_))
   obtain⟨U,rfl,hzy22_0,kzy22_0⟩:=Ty.az IU
   obtain⟨Y,rfl,hzy22_1,kzy22_1⟩:=Ty.az hy22_1
   obtain⟨Z,rfl,hsy22_2⟩:=Ty.aJ hy22_2
   have RQ:aH ji [[(dJ 2),i0,i0,i0,i0,i0,(al [])],[(dJ 1),i0,i0,i0,(dJ U),(dJ Y),(al Z)],[(dJ 3),(dJ (p.length:Int)),(dJ ((p.length:Int)+1)),i0,i0,i0,(al [])]]:=(cY (ao ah (ao ah (ao ah (ao ah (ao ah (ao ah (ao (aJ (s:=[]) aD) bm))))))) (cY (ao ah (ao ah (ao ah (ao ah (ao ah (ao ah (ao (aJ ax) bm))))))) (cY (ao ah (ao ah (ao ah (ao ah (ao ah (ao ah (ao (aJ (s:=[]) aD) bm))))))) bN)))
   refine aP 2 aa (bP aa (cr (rows:=p) (ys:=[[(dJ 2),i0,i0,i0,i0,i0,(al [])],[(dJ 1),i0,i0,i0,(dJ U),(dJ Y),(al Z)],[(dJ 3),(dJ (p.length:Int)),(dJ ((p.length:Int)+1)),i0,i0,i0,(al [])]]) aa aa aa (.bs (rows:=[[(dJ 2),i0,i0,i0,i0,i0,(al [])],[(dJ 1),i0,i0,i0,(dJ U),(dJ Y),(al Z)],[(dJ 3),(dJ (p.length:Int)),(dJ ((p.length:Int)+1)),i0,i0,i0,(al [])]]) aa) aD ae dF dF ?_))
   refine cP 2 aa (bz [(0,.agg [dU aQ,dU aB,dU bk,dU aO,dU bc,dU bH,dU bA,dU bI]),(1,.vp 1 0),(2,.vp 2 0),(3,.vp 3 0),(4,.vp 4 0),(6,.d (dJ (p.length:Int))),(19,.d (dJ G)),(20,dB (decide (G=1))),(52,dB (decide (G=3))),(80,dB (decide ((bc % 4)=3))),(84,dB (decide (G=3)))] [(1,.one 23 16 [dU aQ,dU aB,dU bk,dU aO,dU bc,dU bH,dU bA,dU bI]),(2,.one 107 264 [.d i0,dS [],dN,.d i0,.d i0,dN,.d i0,dN,dS [],dN,dN,dN,dN,.d i0,dS [],.d i0]),(3,.one 107 264 [.d (dJ G),.d J,dN,.d jk,.d lS,.ac 2028 (p++[[(dJ 2),i0,i0,i0,i0,i0,(al [])],[(dJ 1),i0,i0,i0,(dJ U),(dJ Y),(al Z)],[(dJ 3),(dJ (p.length:Int)),(dJ ((p.length:Int)+1)),i0,i0,i0,(al [])]]).length 7,.d vS,dN,dS [],dN,dN,dN,dN,.d i0,dS [],.d i0]),(4,.one 173 72 [.d (dJ 1),.d (dJ 1),.d (dJ 1),.d (dJ 1),.d (dJ 3),.d (dJ 3),.d (dJ 2),.d (dJ 5),.d (dJ 6)]),(102,.arr 181 64 7 3 [[(dJ 2),i0,i0,i0,i0,i0,(al [])],[(dJ 1),i0,i0,i0,(dJ U),(dJ Y),(al Z)],[(dJ 3),(dJ (p.length:Int)),(dJ ((p.length:Int)+1)),i0,i0,i0,(al [])]]),(2028,.acc 181 64 7 (p++[[(dJ 2),i0,i0,i0,i0,i0,(al [])],[(dJ 1),i0,i0,i0,(dJ U),(dJ Y),(al Z)],[(dJ 3),(dJ (p.length:Int)),(dJ ((p.length:Int)+1)),i0,i0,i0,(al [])]]))] ⟨aa,aa,aa,aa,aa,aa,aa,aa,aa,aa,aa,trivial⟩ ⟨aa,aa,aa,aa,aa,aa,trivial⟩ (aj (ai (cx (j:=2) aa aa (aX aa) ?_))))
   refine ak 1 aa (ai (dC aa aa aa ae ae ?_))
   refine ai (kn aa aD ae ae ?_)
   refine ak 1 aa (ai (br aa aa ae ae ?_))
   refine af 4 aa (aj (ai (cx (j:=2) aa aa (aX aa) ?_)))
   refine ak 1 aa (ai (dC aa aa aa ae ae ?_))
   refine ak 2 aa (bZ (g:=Be) aa (fun gy Am=>?_) (fun gy Am=>?_))
   ·refine aq aa gy (cx (j:=5) aa aa (aX aa) ?_)
    refine aq aa gy (bJ aa aa aa ?_)
    refine aq aa gy (dC aa aa aa ae ae ?_)
    refine aq aa gy (en aa aa ?_)
    refine ai (aW aa gy aa ?_)
    refine bn (aN aa (fun iJ qV=>?_) (fun iJ qV=>?_))
    ·refine aS (ak 3 aa (ai (br aa aa ae ae ?_)))
     refine ai (e9 (j:=0) aa aa aD ?_)
     refine ak 1 aa (jd (C3 (rows:=[[(dJ (bk % 2)),(dJ ((p.length:Int)+1))]]) aa aa aa aa aa aa aD aD aa ?_))
     refine bn (bz [(0,.agg [dU aQ,dU aB,dU bk,dU aO,dU bc,dU bH,dU bA,dU bI]),(1,.vp 1 0),(2,.vp 2 0),(3,.vp 3 0),(4,.vp 4 0),(6,.d (dJ (p.length:Int))),(19,.d (dJ G)),(20,dB (decide (G=1))),(52,dB (decide (G=3))),(80,dB (decide ((bc % 4)=3))),(84,dB (decide (G=3))),(123,dB (decide ((bH % 3)=0)))] [(1,.one 23 16 [dU aQ,dU aB,dU bk,dU aO,dU bc,dU bH,dU bA,dU bI]),(2,.one 107 264 [.d i0,dS [],dN,.d i0,.d i0,dN,.d i0,dN,dS [],dN,dN,dN,dN,.d i0,dS [],.d i0]),(3,.one 107 264 [.d (dJ G),.d J,dN,.d jk,.d lS,.ac 2028 (p++[[(dJ 2),i0,i0,i0,i0,i0,(al [])],[(dJ 1),i0,i0,i0,(dJ U),(dJ Y),(al Z)],[(dJ 3),(dJ (p.length:Int)),(dJ ((p.length:Int)+1)),i0,i0,i0,(al [])]]).length 7,.d vS,.bs 112 1 2,dS [],dN,dN,dN,dN,.d i0,dS [],.d i0]),(4,.one 173 72 [.d (dJ 1),.d (dJ 1),.d (dJ 1),.d (dJ 1),.d (dJ 3),.d (dJ 3),.d (dJ 2),.d (dJ 5),.d (dJ 6)]),(102,.arr 181 64 7 3 [[(dJ 2),i0,i0,i0,i0,i0,(al [])],[(dJ 1),i0,i0,i0,(dJ U),(dJ Y),(al Z)],[(dJ 3),(dJ (p.length:Int)),(dJ ((p.length:Int)+1)),i0,i0,i0,(al [])]]),(112,.arr 183 16 2 1 [[(dJ (bk % 2)),(dJ ((p.length:Int)+2))]]),(2028,.acc 181 64 7 (p++[[(dJ 2),i0,i0,i0,i0,i0,(al [])],[(dJ 1),i0,i0,i0,(dJ U),(dJ Y),(al Z)],[(dJ 3),(dJ (p.length:Int)),(dJ ((p.length:Int)+1)),i0,i0,i0,(al [])]]))] ⟨aa,aa,aa,aa,aa,aa,aa,aa,aa,aa,aa,aa,trivial⟩ ⟨aa,aa,aa,aa,aa,aa,aa,trivial⟩ (aj (ak 1 aa (fO 148 2028 aa aa eA ?_))))
     have hb26:aH fK [[(dJ (bk % 2)),(dJ ((p.length:Int)+2))]]:=(cY (ao ah (ao ah bm)) bN)
     refine eV 148 112 aa aa eA (af 1 aa (ay ?_))
     obtain⟨I,rfl,K⟩:=Ty.aJ dY
     obtain⟨kY,rfl,s0,s7⟩:=Ty.az kX
     obtain⟨mQ,rfl,xY,xZ⟩:=Ty.az vT
     obtain⟨x7,rfl,Ig,Ih⟩:=Ty.az Bc
     exact aE aa aa ⟨(dJ G),(al I),.nil,(dJ kY),(dJ mQ),(.cS (p++[[(dJ 2),i0,i0,i0,i0,i0,(al [])],[(dJ 1),i0,i0,i0,(dJ U),(dJ Y),(al Z)],[(dJ 3),(dJ (p.length:Int)),(dJ ((p.length:Int)+1)),i0,i0,i0,(al [])]])),(dJ x7),(.sl [[(dJ (bk % 2)),(dJ ((p.length:Int)+2))]]),(al []),.nil,.nil,.nil,.nil,i0,(al []),i0,aa,ah,(aJ ax),bl,ah,ah,(au (.acc _) ae (bS nA RQ)),ah,(au (.inl aa) ae hb26),(aJ (s:=[]) aD),bl,bl,bl,bl,ah,(aJ (s:=[]) aD),ah⟩
    refine aG (bz [(0,.agg [dU aQ,dU aB,dU bk,dU aO,dU bc,dU bH,dU bA,dU bI]),(1,.vp 1 0),(2,.vp 2 0),(3,.vp 3 0),(4,.vp 4 0),(6,.d (dJ (p.length:Int))),(19,.d (dJ G)),(20,dB (decide (G=1))),(52,dB (decide (G=3))),(80,dB (decide ((bc % 4)=3))),(84,dB (decide (G=3))),(123,dB (decide ((bH % 3)=0)))] [(1,.one 23 16 [dU aQ,dU aB,dU bk,dU aO,dU bc,dU bH,dU bA,dU bI]),(2,.one 107 264 [.d i0,dS [],dN,.d i0,.d i0,dN,.d i0,dN,dS [],dN,dN,dN,dN,.d i0,dS [],.d i0]),(3,.one 107 264 [.d (dJ G),.d J,dN,.d jk,.d lS,.ac 2028 (p++[[(dJ 2),i0,i0,i0,i0,i0,(al [])],[(dJ 1),i0,i0,i0,(dJ U),(dJ Y),(al Z)],[(dJ 3),(dJ (p.length:Int)),(dJ ((p.length:Int)+1)),i0,i0,i0,(al [])]]).length 7,.d vS,.bs 112 1 2,dS [],dN,dN,dN,dN,.d i0,dS [],.d i0]),(4,.one 173 72 [.d (dJ 1),.d (dJ 1),.d (dJ 1),.d (dJ 1),.d (dJ 3),.d (dJ 3),.d (dJ 2),.d (dJ 5),.d (dJ 6)]),(102,.arr 181 64 7 3 [[(dJ 2),i0,i0,i0,i0,i0,(al [])],[(dJ 1),i0,i0,i0,(dJ U),(dJ Y),(al Z)],[(dJ 3),(dJ (p.length:Int)),(dJ ((p.length:Int)+1)),i0,i0,i0,(al [])]]),(112,.arr 183 16 2 1 [[(dJ (bk % 2)),(dJ ((p.length:Int)+1))]]),(2028,.acc 181 64 7 (p++[[(dJ 2),i0,i0,i0,i0,i0,(al [])],[(dJ 1),i0,i0,i0,(dJ U),(dJ Y),(al Z)],[(dJ 3),(dJ (p.length:Int)),(dJ ((p.length:Int)+1)),i0,i0,i0,(al [])]]))] ⟨aa,aa,aa,aa,aa,aa,aa,aa,aa,aa,aa,aa,trivial⟩ ⟨aa,aa,aa,aa,aa,aa,aa,trivial⟩ (aj (ak 1 aa (fO 148 2028 aa aa eA ?_))))
    have hb27:aH fK [[(dJ (bk % 2)),(dJ ((p.length:Int)+1))]]:=(cY (ao ah (ao ah bm)) bN)
    refine eV 148 112 aa aa eA (af 1 aa (ay ?_))
    obtain⟨I,rfl,K⟩:=Ty.aJ dY
    obtain⟨kY,rfl,s0,s7⟩:=Ty.az kX
    obtain⟨mQ,rfl,xY,xZ⟩:=Ty.az vT
    obtain⟨x7,rfl,Ig,Ih⟩:=Ty.az Bc
    exact aE aa aa ⟨(dJ G),(al I),.nil,(dJ kY),(dJ mQ),(.cS (p++[[(dJ 2),i0,i0,i0,i0,i0,(al [])],[(dJ 1),i0,i0,i0,(dJ U),(dJ Y),(al Z)],[(dJ 3),(dJ (p.length:Int)),(dJ ((p.length:Int)+1)),i0,i0,i0,(al [])]])),(dJ x7),(.sl [[(dJ (bk % 2)),(dJ ((p.length:Int)+1))]]),(al []),.nil,.nil,.nil,.nil,i0,(al []),i0,aa,ah,(aJ ax),bl,ah,ah,(au (.acc _) ae (bS nA RQ)),ah,(au (.inl aa) ae hb27),(aJ (s:=[]) aD),bl,bl,bl,bl,ah,(aJ (s:=[]) aD),ah⟩
   refine an aa gy (an aa gy (an aa gy (an aa gy (ai (bd aa gy aa ?_)))))
   refine bn (cH aa aa (aG (bz [(0,.agg [dU aQ,dU aB,dU bk,dU aO,dU bc,dU bH,dU bA,dU bI]),(1,.vp 1 0),(2,.vp 2 0),(3,.vp 3 0),(4,.vp 4 0),(6,.d (dJ (p.length:Int))),(19,.d (dJ G)),(20,dB (decide (G=1))),(52,dB (decide (G=3))),(80,dB (decide ((bc % 4)=3))),(84,dB (decide (G=3))),(123,dB false)] [(1,.one 23 16 [dU aQ,dU aB,dU bk,dU aO,dU bc,dU bH,dU bA,dU bI]),(2,.one 107 264 [.d i0,dS [],dN,.d i0,.d i0,dN,.d i0,dN,dS [],dN,dN,dN,dN,.d i0,dS [],.d i0]),(3,.one 107 264 [.d (dJ G),.d J,dN,.d jk,.d lS,.ac 2028 (p++[[(dJ 2),i0,i0,i0,i0,i0,(al [])],[(dJ 1),i0,i0,i0,(dJ U),(dJ Y),(al Z)],[(dJ 3),(dJ (p.length:Int)),(dJ ((p.length:Int)+1)),i0,i0,i0,(al [])]]).length 7,.d vS,.bs 112 1 2,dS [],dN,dN,dN,dN,.d i0,dS [],.d i0]),(4,.one 173 72 [.d (dJ 1),.d (dJ 1),.d (dJ 1),.d (dJ 1),.d (dJ 3),.d (dJ 3),.d (dJ 2),.d (dJ 5),.d (dJ 6)]),(102,.arr 181 64 7 3 [[(dJ 2),i0,i0,i0,i0,i0,(al [])],[(dJ 1),i0,i0,i0,(dJ U),(dJ Y),(al Z)],[(dJ 3),(dJ (p.length:Int)),(dJ ((p.length:Int)+1)),i0,i0,i0,(al [])]]),(112,.arr 183 16 2 1 [[(dJ (bk % 2)),(dJ ((p.length:Int)+1))]]),(2028,.acc 181 64 7 (p++[[(dJ 2),i0,i0,i0,i0,i0,(al [])],[(dJ 1),i0,i0,i0,(dJ U),(dJ Y),(al Z)],[(dJ 3),(dJ (p.length:Int)),(dJ ((p.length:Int)+1)),i0,i0,i0,(al [])]]))] ⟨aa,aa,aa,aa,aa,aa,aa,aa,aa,aa,aa,aa,trivial⟩ ⟨aa,aa,aa,aa,aa,aa,aa,trivial⟩ (aj (ak 1 aa (fO 148 2028 aa aa eA ?_))))))
   have Gs:aH fK [[(dJ (bk % 2)),(dJ ((p.length:Int)+1))]]:=(cY (ao ah (ao ah bm)) bN)
   refine eV 148 112 aa aa eA (af 1 aa (ay ?_))
   obtain⟨I,rfl,K⟩:=Ty.aJ dY
   obtain⟨kY,rfl,s0,s7⟩:=Ty.az kX
   obtain⟨mQ,rfl,xY,xZ⟩:=Ty.az vT
   obtain⟨x7,rfl,Ig,Ih⟩:=Ty.az Bc
   exact aE aa aa ⟨(dJ G),(al I),.nil,(dJ kY),(dJ mQ),(.cS (p++[[(dJ 2),i0,i0,i0,i0,i0,(al [])],[(dJ 1),i0,i0,i0,(dJ U),(dJ Y),(al Z)],[(dJ 3),(dJ (p.length:Int)),(dJ ((p.length:Int)+1)),i0,i0,i0,(al [])]])),(dJ x7),(.sl [[(dJ (bk % 2)),(dJ ((p.length:Int)+1))]]),(al []),.nil,.nil,.nil,.nil,i0,(al []),i0,aa,ah,(aJ ax),bl,ah,ah,(au (.acc _) ae (bS nA RQ)),ah,(au (.inl aa) ae Gs),(aJ (s:=[]) aD),bl,bl,bl,bl,ah,(aJ (s:=[]) aD),ah⟩
  refine aG (bz [(0,.agg [dU aQ,dU aB,dU bk,dU aO,dU bc,dU bH,dU bA,dU bI]),(1,.vp 1 0),(2,.vp 2 0),(3,.vp 3 0),(4,.vp 4 0),(19,.d (dJ G)),(20,dB (decide (G=1))),(52,dB (decide (G=3))),(80,dB (decide ((bc % 4)=3))),(84,dB (decide (G=3)))] [(1,.one 23 16 [dU aQ,dU aB,dU bk,dU aO,dU bc,dU bH,dU bA,dU bI]),(2,.one 107 264 [.d i0,dS [],dN,.d i0,.d i0,dN,.d i0,dN,dS [],dN,dN,dN,dN,.d i0,dS [],.d i0]),(3,.one 107 264 [.d (dJ G),.d J,dN,.d jk,.d lS,.ac 2028 p.length 7,.d vS,dN,dS [],dN,dN,dN,dN,.d i0,dS [],.d i0]),(4,.one 173 72 [.d (dJ 1),.d (dJ 1),.d (dJ 1),.d (dJ 1),.d (dJ 3),.d (dJ 3),.d (dJ 2),.d (dJ 5),.d (dJ 6)]),(2028,.acc 181 64 7 p)] ⟨aa,aa,aa,aa,aa,aa,aa,aa,aa,aa,trivial⟩ ⟨aa,aa,aa,aa,aa,trivial⟩ (aj (ak 1 aa (fO 148 2028 aa aa eA (af 1 aa (ay ?_))))))
  obtain⟨I,rfl,K⟩:=Ty.aJ dY
  obtain⟨kY,rfl,s0,s7⟩:=Ty.az kX
  obtain⟨mQ,rfl,xY,xZ⟩:=Ty.az vT
  obtain⟨x7,rfl,Ig,Ih⟩:=Ty.az Bc
  exact aE aa aa ⟨(dJ G),(al I),.nil,(dJ kY),(dJ mQ),(.cS p),(dJ x7),.nil,(al []),.nil,.nil,.nil,.nil,i0,(al []),i0,aa,ah,(aJ ax),bl,ah,ah,(au (.acc _) ae nA),ah,bl,(aJ (s:=[]) aD),bl,bl,bl,bl,ah,(aJ (s:=[]) aD),ah⟩
 refine aS (af 2 aa (aN aa (fun kJ GV=>?_) (fun kJ GV=>?_)))
 ·refine bz [(0,.agg [dU aQ,dU aB,dU bk,dU aO,dU bc,dU bH,dU bA,dU bI]),(1,.vp 1 0),(2,.vp 2 0),(3,.vp 3 0),(4,.vp 4 0),(19,.d (dJ G)),(20,dB (decide (G=1))),(52,dB (decide (G=2)))] [(1,.one 23 16 [dU aQ,dU aB,dU bk,dU aO,dU bc,dU bH,dU bA,dU bI]),(2,.one 107 264 [.d i0,dS [],dN,.d i0,.d i0,dN,.d i0,dN,dS [],dN,dN,dN,dN,.d i0,dS [],.d i0]),(3,.one 107 264 [.d (dJ G),.d J,dN,.d i0,.d i0,dN,.d i0,dN,dS [],dN,dN,dN,dN,.d i0,dS [],.d i0]),(4,.one 173 72 [.d (dJ 1),.d (dJ 1),.d (dJ 1),.d (dJ 1),.d (dJ 3),.d (dJ 3),.d (dJ 2),.d (dJ 5),.d (dJ 6)])] ⟨aa,aa,aa,aa,aa,aa,aa,aa,trivial⟩ ⟨aa,aa,aa,aa,trivial⟩ (aj (ai (cx (j:=6) aa aa (aX aa) ?_)))
  refine ak 1 aa (ai (cx (j:=7) aa aa (aX aa) ?_))
  refine ak 1 aa (ai (aY aa (aV aa) (Q4 F ah ah) (fun wX _ oK=>?_)))
  obtain⟨jT,mP,rfl,mb,rz⟩:=oK
  refine af 2 aa (cN (bP aa (aY aa (aV aa) (Xy F) (fun La _ zA=>?_))))
  obtain⟨JE,wy31_0,rfl,ML,hny31_0,MM,hmy31_0⟩:=zA
  refine aU (cx (j:=2) aa aa (aX aa) ?_)
  refine aP 1 aa (aU (cx (j:=3) aa aa (aX aa) ?_))
  refine aP 1 aa (aU (cx (j:=4) aa aa (aX aa) ?_))
  refine aP 1 aa (aU (cx (j:=5) aa aa (aX aa) ?_))
  refine aP 2 aa (bP aa (C9 2000 aa aa aa aa (Z7 F ae ML ae MM ah ah ah ah) (fun Lb Bn32 zF=>?_)))
  obtain⟨A,yu,rfl,rfl,sU,hly32_0,huy32_0,Ja⟩:=zF
  refine cP 7 aa (bz [(0,.agg [dU aQ,dU aB,dU bk,dU aO,dU bc,dU bH,dU bA,dU bI]),(1,.vp 1 0),(2,.vp 2 0),(3,.vp 3 0),(4,.vp 4 0),(19,.d (dJ G)),(20,dB (decide (G=1))),(52,dB (decide (G=2)))] [(1,.one 23 16 [dU aQ,dU aB,dU bk,dU aO,dU bc,dU bH,dU bA,dU bI]),(2,.one 107 264 [.d i0,dS [],dN,.d i0,.d i0,dN,.d i0,dN,dS [],dN,dN,dN,dN,.d i0,dS [],.d i0]),(3,.one 107 264 [.d (dJ G),.d J,dN,.d jT,.d mP,.ac 2028 A.length 7,.d yu,dN,dS [],dN,dN,dN,dN,.d i0,dS [],.d i0]),(4,.one 173 72 [.d (dJ 1),.d (dJ 1),.d (dJ 1),.d (dJ 1),.d (dJ 3),.d (dJ 3),.d (dJ 2),.d (dJ 5),.d (dJ 6)]),(2028,.acc 181 64 7 A)] ⟨aa,aa,aa,aa,aa,aa,aa,aa,trivial⟩ ⟨aa,aa,aa,aa,aa,trivial⟩ (aA (aj (ai (cx (j:=4) aa aa (aX aa) ?_)))))
  refine ak 1 aa (ai (dC aa aa aa ae ae ?_))
  refine af 1 aa (aN aa (fun q6 uJ=>?_) (fun q6 uJ=>?_))
  ·refine aS (af 2 aa (bz [(0,.agg [dU aQ,dU aB,dU bk,dU aO,dU bc,dU bH,dU bA,dU bI]),(1,.vp 1 0),(2,.vp 2 0),(3,.vp 3 0),(4,.vp 4 0),(19,.d (dJ G)),(20,dB (decide (G=1))),(52,dB (decide (G=2))),(80,dB (decide ((bc % 4)=3)))] [(1,.one 23 16 [dU aQ,dU aB,dU bk,dU aO,dU bc,dU bH,dU bA,dU bI]),(2,.one 107 264 [.d i0,dS [],dN,.d i0,.d i0,dN,.d i0,dN,dS [],dN,dN,dN,dN,.d i0,dS [],.d i0]),(3,.one 107 264 [.d (dJ G),.d J,dN,.d jT,.d mP,.ac 2028 A.length 7,.d (dJ (-1)),dN,dS [],dN,dN,dN,dN,.d i0,dS [],.d i0]),(4,.one 173 72 [.d (dJ 1),.d (dJ 1),.d (dJ 1),.d (dJ 1),.d (dJ 3),.d (dJ 3),.d (dJ 2),.d (dJ 5),.d (dJ 6)]),(2028,.acc 181 64 7 A)] ⟨aa,aa,aa,aa,aa,aa,aa,aa,aa,trivial⟩ ⟨aa,aa,aa,aa,aa,trivial⟩ (aj (af 3 aa (aN aa (fun jG G1=>?_) (fun jG G1=>?_))))))
   ·refine aj (af 4 aa (cN (aP 3 aa (aU (cx (j:=2) aa aa (aX aa) ?_)))))
    refine aP 1 aa (aU (kn aa aD ae ae ?_))
    refine aU (cx (j:=5) aa aa (aX aa) ?_)
    refine aP 1 aa (bP aa (aY aa (aV aa) (tT F ah ah) (fun r35 _ RM=>?_)))
    obtain⟨y35_0,y35_1,y35_2,rfl,hy35_0,hy35_1,Oz⟩:=RM
    refine aP 3 aa (aU (br aa aa ae ae ?_))
    obtain⟨kP,rfl,hzy35_0,kzy35_0⟩:=Ty.az hy35_0
    obtain⟨kQ,rfl,hzy35_1,kzy35_1⟩:=Ty.az hy35_1
    obtain⟨kR,rfl,hsy35_2⟩:=Ty.aJ Oz
    have RR:aH ji [[(dJ 2),i0,i0,i0,i0,i0,(al [])],[(dJ 1),i0,i0,i0,(dJ kP),(dJ kQ),(al kR)],[(dJ 3),(dJ (A.length:Int)),(dJ ((A.length:Int)+1)),i0,i0,i0,(al [])]]:=(cY (ao ah (ao ah (ao ah (ao ah (ao ah (ao ah (ao (aJ (s:=[]) aD) bm))))))) (cY (ao ah (ao ah (ao ah (ao ah (ao ah (ao ah (ao (aJ ax) bm))))))) (cY (ao ah (ao ah (ao ah (ao ah (ao ah (ao ah (ao (aJ (s:=[]) aD) bm))))))) bN)))
    refine aP 2 aa (bP aa (cr (rows:=A) (ys:=[[(dJ 2),i0,i0,i0,i0,i0,(al [])],[(dJ 1),i0,i0,i0,(dJ kP),(dJ kQ),(al kR)],[(dJ 3),(dJ (A.length:Int)),(dJ ((A.length:Int)+1)),i0,i0,i0,(al [])]]) aa aa aa (.bs (rows:=[[(dJ 2),i0,i0,i0,i0,i0,(al [])],[(dJ 1),i0,i0,i0,(dJ kP),(dJ kQ),(al kR)],[(dJ 3),(dJ (A.length:Int)),(dJ ((A.length:Int)+1)),i0,i0,i0,(al [])]]) aa) aD ae dF dF ?_))
    refine cP 2 aa (bz [(0,.agg [dU aQ,dU aB,dU bk,dU aO,dU bc,dU bH,dU bA,dU bI]),(1,.vp 1 0),(2,.vp 2 0),(3,.vp 3 0),(4,.vp 4 0),(6,.d (dJ (A.length:Int))),(19,.d (dJ G)),(20,dB (decide (G=1))),(52,dB (decide (G=2))),(80,dB (decide ((bc % 4)=3))),(84,dB (decide (G=3)))] [(1,.one 23 16 [dU aQ,dU aB,dU bk,dU aO,dU bc,dU bH,dU bA,dU bI]),(2,.one 107 264 [.d i0,dS [],dN,.d i0,.d i0,dN,.d i0,dN,dS [],dN,dN,dN,dN,.d i0,dS [],.d i0]),(3,.one 107 264 [.d (dJ G),.d J,dN,.d jT,.d mP,.ac 2028 (A++[[(dJ 2),i0,i0,i0,i0,i0,(al [])],[(dJ 1),i0,i0,i0,(dJ kP),(dJ kQ),(al kR)],[(dJ 3),(dJ (A.length:Int)),(dJ ((A.length:Int)+1)),i0,i0,i0,(al [])]]).length 7,.d (dJ (-1)),dN,dS [],dN,dN,dN,dN,.d i0,dS [],.d i0]),(4,.one 173 72 [.d (dJ 1),.d (dJ 1),.d (dJ 1),.d (dJ 1),.d (dJ 3),.d (dJ 3),.d (dJ 2),.d (dJ 5),.d (dJ 6)]),(102,.arr 181 64 7 3 [[(dJ 2),i0,i0,i0,i0,i0,(al [])],[(dJ 1),i0,i0,i0,(dJ kP),(dJ kQ),(al kR)],[(dJ 3),(dJ (A.length:Int)),(dJ ((A.length:Int)+1)),i0,i0,i0,(al [])]]),(2028,.acc 181 64 7 (A++[[(dJ 2),i0,i0,i0,i0,i0,(al [])],[(dJ 1),i0,i0,i0,(dJ kP),(dJ kQ),(al kR)],[(dJ 3),(dJ (A.length:Int)),(dJ ((A.length:Int)+1)),i0,i0,i0,(al [])]]))] ⟨aa,aa,aa,aa,aa,aa,aa,aa,aa,aa,aa,trivial⟩ ⟨aa,aa,aa,aa,aa,aa,trivial⟩ (aj (ai (cx (j:=2) aa aa (aX aa) ?_))))
    refine ak 1 aa (ai (dC aa aa aa ae ae ?_))
    refine ai (kn aa aD ae ae ?_)
    refine ak 1 aa (ai (br aa aa ae ae ?_))
    refine af 4 aa (aj (ai (cx (j:=2) aa aa (aX aa) ?_)))
    refine ak 1 aa (ai (dC aa aa aa ae ae ?_))
    refine ak 2 aa (bZ (g:=Be) aa (fun jI SP=>?_) (fun jI SP=>?_))
    ·refine aq aa jI (cx (j:=5) aa aa (aX aa) ?_)
     refine aq aa jI (bJ aa aa aa ?_)
     refine aq aa jI (dC aa aa aa ae ae ?_)
     refine aq aa jI (en aa aa ?_)
     refine ai (aW aa jI aa ?_)
     refine bn (aN aa (fun SQ SR=>?_) (fun SQ SR=>?_))
     ·refine aS (ak 3 aa (ai (br aa aa ae ae ?_)))
      refine ai (e9 (j:=0) aa aa aD ?_)
      refine ak 1 aa (jd (C3 (rows:=[[(dJ (bk % 2)),(dJ ((A.length:Int)+1))]]) aa aa aa aa aa aa aD aD aa ?_))
      refine bn (bz [(0,.agg [dU aQ,dU aB,dU bk,dU aO,dU bc,dU bH,dU bA,dU bI]),(1,.vp 1 0),(2,.vp 2 0),(3,.vp 3 0),(4,.vp 4 0),(6,.d (dJ (A.length:Int))),(19,.d (dJ G)),(20,dB (decide (G=1))),(52,dB (decide (G=2))),(80,dB (decide ((bc % 4)=3))),(84,dB (decide (G=3))),(123,dB (decide ((bH % 3)=0)))] [(1,.one 23 16 [dU aQ,dU aB,dU bk,dU aO,dU bc,dU bH,dU bA,dU bI]),(2,.one 107 264 [.d i0,dS [],dN,.d i0,.d i0,dN,.d i0,dN,dS [],dN,dN,dN,dN,.d i0,dS [],.d i0]),(3,.one 107 264 [.d (dJ G),.d J,dN,.d jT,.d mP,.ac 2028 (A++[[(dJ 2),i0,i0,i0,i0,i0,(al [])],[(dJ 1),i0,i0,i0,(dJ kP),(dJ kQ),(al kR)],[(dJ 3),(dJ (A.length:Int)),(dJ ((A.length:Int)+1)),i0,i0,i0,(al [])]]).length 7,.d (dJ (-1)),.bs 112 1 2,dS [],dN,dN,dN,dN,.d i0,dS [],.d i0]),(4,.one 173 72 [.d (dJ 1),.d (dJ 1),.d (dJ 1),.d (dJ 1),.d (dJ 3),.d (dJ 3),.d (dJ 2),.d (dJ 5),.d (dJ 6)]),(102,.arr 181 64 7 3 [[(dJ 2),i0,i0,i0,i0,i0,(al [])],[(dJ 1),i0,i0,i0,(dJ kP),(dJ kQ),(al kR)],[(dJ 3),(dJ (A.length:Int)),(dJ ((A.length:Int)+1)),i0,i0,i0,(al [])]]),(112,.arr 183 16 2 1 [[(dJ (bk % 2)),(dJ ((A.length:Int)+2))]]),(2028,.acc 181 64 7 (A++[[(dJ 2),i0,i0,i0,i0,i0,(al [])],[(dJ 1),i0,i0,i0,(dJ kP),(dJ kQ),(al kR)],[(dJ 3),(dJ (A.length:Int)),(dJ ((A.length:Int)+1)),i0,i0,i0,(al [])]]))] ⟨aa,aa,aa,aa,aa,aa,aa,aa,aa,aa,aa,aa,trivial⟩ ⟨aa,aa,aa,aa,aa,aa,aa,trivial⟩ (aj (ak 1 aa (fO 148 2028 aa aa eA ?_))))
      have hb39:aH fK [[(dJ (bk % 2)),(dJ ((A.length:Int)+2))]]:=(cY (ao ah (ao ah bm)) bN)
      refine eV 148 112 aa aa eA (af 1 aa (ay ?_))
      obtain⟨I,rfl,K⟩:=Ty.aJ dY
      obtain⟨mH,rfl,xB,xC⟩:=Ty.az mb
      obtain⟨mI,rfl,xD,xE⟩:=Ty.az rz
      exact aE aa aa ⟨(dJ G),(al I),.nil,(dJ mH),(dJ mI),(.cS (A++[[(dJ 2),i0,i0,i0,i0,i0,(al [])],[(dJ 1),i0,i0,i0,(dJ kP),(dJ kQ),(al kR)],[(dJ 3),(dJ (A.length:Int)),(dJ ((A.length:Int)+1)),i0,i0,i0,(al [])]])),(dJ (-1)),(.sl [[(dJ (bk % 2)),(dJ ((A.length:Int)+2))]]),(al []),.nil,.nil,.nil,.nil,i0,(al []),i0,aa,ah,(aJ ax),bl,ah,ah,(au (.acc _) ae (bS sU RR)),ah,(au (.inl aa) ae hb39),(aJ (s:=[]) aD),bl,bl,bl,bl,ah,(aJ (s:=[]) aD),ah⟩
     refine aG (bz [(0,.agg [dU aQ,dU aB,dU bk,dU aO,dU bc,dU bH,dU bA,dU bI]),(1,.vp 1 0),(2,.vp 2 0),(3,.vp 3 0),(4,.vp 4 0),(6,.d (dJ (A.length:Int))),(19,.d (dJ G)),(20,dB (decide (G=1))),(52,dB (decide (G=2))),(80,dB (decide ((bc % 4)=3))),(84,dB (decide (G=3))),(123,dB (decide ((bH % 3)=0)))] [(1,.one 23 16 [dU aQ,dU aB,dU bk,dU aO,dU bc,dU bH,dU bA,dU bI]),(2,.one 107 264 [.d i0,dS [],dN,.d i0,.d i0,dN,.d i0,dN,dS [],dN,dN,dN,dN,.d i0,dS [],.d i0]),(3,.one 107 264 [.d (dJ G),.d J,dN,.d jT,.d mP,.ac 2028 (A++[[(dJ 2),i0,i0,i0,i0,i0,(al [])],[(dJ 1),i0,i0,i0,(dJ kP),(dJ kQ),(al kR)],[(dJ 3),(dJ (A.length:Int)),(dJ ((A.length:Int)+1)),i0,i0,i0,(al [])]]).length 7,.d (dJ (-1)),.bs 112 1 2,dS [],dN,dN,dN,dN,.d i0,dS [],.d i0]),(4,.one 173 72 [.d (dJ 1),.d (dJ 1),.d (dJ 1),.d (dJ 1),.d (dJ 3),.d (dJ 3),.d (dJ 2),.d (dJ 5),.d (dJ 6)]),(102,.arr 181 64 7 3 [[(dJ 2),i0,i0,i0,i0,i0,(al [])],[(dJ 1),i0,i0,i0,(dJ kP),(dJ kQ),(al kR)],[(dJ 3),(dJ (A.length:Int)),(dJ ((A.length:Int)+1)),i0,i0,i0,(al [])]]),(112,.arr 183 16 2 1 [[(dJ (bk % 2)),(dJ ((A.length:Int)+1))]]),(2028,.acc 181 64 7 (A++[[(dJ 2),i0,i0,i0,i0,i0,(al [])],[(dJ 1),i0,i0,i0,(dJ kP),(dJ kQ),(al kR)],[(dJ 3),(dJ (A.length:Int)),(dJ ((A.length:Int)+1)),i0,i0,i0,(al [])]]))] ⟨aa,aa,aa,aa,aa,aa,aa,aa,aa,aa,aa,aa,trivial⟩ ⟨aa,aa,aa,aa,aa,aa,aa,trivial⟩ (aj (ak 1 aa (fO 148 2028 aa aa eA ?_))))
     have hb40:aH fK [[(dJ (bk % 2)),(dJ ((A.length:Int)+1))]]:=(cY (ao ah (ao ah bm)) bN)
     refine eV 148 112 aa aa eA (af 1 aa (ay ?_))
     obtain⟨I,rfl,K⟩:=Ty.aJ dY
     obtain⟨mH,rfl,xB,xC⟩:=Ty.az mb
     obtain⟨mI,rfl,xD,xE⟩:=Ty.az rz
     exact aE aa aa ⟨(dJ G),(al I),.nil,(dJ mH),(dJ mI),(.cS (A++[[(dJ 2),i0,i0,i0,i0,i0,(al [])],[(dJ 1),i0,i0,i0,(dJ kP),(dJ kQ),(al kR)],[(dJ 3),(dJ (A.length:Int)),(dJ ((A.length:Int)+1)),i0,i0,i0,(al [])]])),(dJ (-1)),(.sl [[(dJ (bk % 2)),(dJ ((A.length:Int)+1))]]),(al []),.nil,.nil,.nil,.nil,i0,(al []),i0,aa,ah,(aJ ax),bl,ah,ah,(au (.acc _) ae (bS sU RR)),ah,(au (.inl aa) ae hb40),(aJ (s:=[]) aD),bl,bl,bl,bl,ah,(aJ (s:=[]) aD),ah⟩
    refine an aa jI (an aa jI (an aa jI (an aa jI (ai (bd aa jI aa ?_)))))
    refine bn (cH aa aa (aG (bz [(0,.agg [dU aQ,dU aB,dU bk,dU aO,dU bc,dU bH,dU bA,dU bI]),(1,.vp 1 0),(2,.vp 2 0),(3,.vp 3 0),(4,.vp 4 0),(6,.d (dJ (A.length:Int))),(19,.d (dJ G)),(20,dB (decide (G=1))),(52,dB (decide (G=2))),(80,dB (decide ((bc % 4)=3))),(84,dB (decide (G=3))),(123,dB false)] [(1,.one 23 16 [dU aQ,dU aB,dU bk,dU aO,dU bc,dU bH,dU bA,dU bI]),(2,.one 107 264 [.d i0,dS [],dN,.d i0,.d i0,dN,.d i0,dN,dS [],dN,dN,dN,dN,.d i0,dS [],.d i0]),(3,.one 107 264 [.d (dJ G),.d J,dN,.d jT,.d mP,.ac 2028 (A++[[(dJ 2),i0,i0,i0,i0,i0,(al [])],[(dJ 1),i0,i0,i0,(dJ kP),(dJ kQ),(al kR)],[(dJ 3),(dJ (A.length:Int)),(dJ ((A.length:Int)+1)),i0,i0,i0,(al [])]]).length 7,.d (dJ (-1)),.bs 112 1 2,dS [],dN,dN,dN,dN,.d i0,dS [],.d i0]),(4,.one 173 72 [.d (dJ 1),.d (dJ 1),.d (dJ 1),.d (dJ 1),.d (dJ 3),.d (dJ 3),.d (dJ 2),.d (dJ 5),.d (dJ 6)]),(102,.arr 181 64 7 3 [[(dJ 2),i0,i0,i0,i0,i0,(al [])],[(dJ 1),i0,i0,i0,(dJ kP),(dJ kQ),(al kR)],[(dJ 3),(dJ (A.length:Int)),(dJ ((A.length:Int)+1)),i0,i0,i0,(al [])]]),(112,.arr 183 16 2 1 [[(dJ (bk % 2)),(dJ ((A.length:Int)+1))]]),(2028,.acc 181 64 7 (A++[[(dJ 2),i0,i0,i0,i0,i0,(al [])],[(dJ 1),i0,i0,i0,(dJ kP),(dJ kQ),(al kR)],[(dJ 3),(dJ (A.length:Int)),(dJ ((A.length:Int)+1)),i0,i0,i0,(al [])]]))] ⟨aa,aa,aa,aa,aa,aa,aa,aa,aa,aa,aa,aa,trivial⟩ ⟨aa,aa,aa,aa,aa,aa,aa,trivial⟩ (aj (ak 1 aa (fO 148 2028 aa aa eA ?_))))))
    have hb41:aH fK [[(dJ (bk % 2)),(dJ ((A.length:Int)+1))]]:=(cY (ao ah (ao ah bm)) bN)
    refine eV 148 112 aa aa eA (af 1 aa (ay ?_))
    obtain⟨I,rfl,K⟩:=Ty.aJ dY
    obtain⟨mH,rfl,xB,xC⟩:=Ty.az mb
    obtain⟨mI,rfl,xD,xE⟩:=Ty.az rz
    exact aE aa aa ⟨(dJ G),(al I),.nil,(dJ mH),(dJ mI),(.cS (A++[[(dJ 2),i0,i0,i0,i0,i0,(al [])],[(dJ 1),i0,i0,i0,(dJ kP),(dJ kQ),(al kR)],[(dJ 3),(dJ (A.length:Int)),(dJ ((A.length:Int)+1)),i0,i0,i0,(al [])]])),(dJ (-1)),(.sl [[(dJ (bk % 2)),(dJ ((A.length:Int)+1))]]),(al []),.nil,.nil,.nil,.nil,i0,(al []),i0,aa,ah,(aJ ax),bl,ah,ah,(au (.acc _) ae (bS sU RR)),ah,(au (.inl aa) ae hb41),(aJ (s:=[]) aD),bl,bl,bl,bl,ah,(aJ (s:=[]) aD),ah⟩
   refine aG (bz [(0,.agg [dU aQ,dU aB,dU bk,dU aO,dU bc,dU bH,dU bA,dU bI]),(1,.vp 1 0),(2,.vp 2 0),(3,.vp 3 0),(4,.vp 4 0),(19,.d (dJ G)),(20,dB (decide (G=1))),(52,dB (decide (G=2))),(80,dB (decide ((bc % 4)=3))),(84,dB (decide (G=3)))] [(1,.one 23 16 [dU aQ,dU aB,dU bk,dU aO,dU bc,dU bH,dU bA,dU bI]),(2,.one 107 264 [.d i0,dS [],dN,.d i0,.d i0,dN,.d i0,dN,dS [],dN,dN,dN,dN,.d i0,dS [],.d i0]),(3,.one 107 264 [.d (dJ G),.d J,dN,.d jT,.d mP,.ac 2028 A.length 7,.d (dJ (-1)),dN,dS [],dN,dN,dN,dN,.d i0,dS [],.d i0]),(4,.one 173 72 [.d (dJ 1),.d (dJ 1),.d (dJ 1),.d (dJ 1),.d (dJ 3),.d (dJ 3),.d (dJ 2),.d (dJ 5),.d (dJ 6)]),(2028,.acc 181 64 7 A)] ⟨aa,aa,aa,aa,aa,aa,aa,aa,aa,aa,trivial⟩ ⟨aa,aa,aa,aa,aa,trivial⟩ (aj (ak 1 aa (fO 148 2028 aa aa eA (af 1 aa (ay ?_))))))
   obtain⟨I,rfl,K⟩:=Ty.aJ dY
   obtain⟨mH,rfl,xB,xC⟩:=Ty.az mb
   obtain⟨mI,rfl,xD,xE⟩:=Ty.az rz
   exact aE aa aa ⟨(dJ G),(al I),.nil,(dJ mH),(dJ mI),(.cS A),(dJ (-1)),.nil,(al []),.nil,.nil,.nil,.nil,i0,(al []),i0,aa,ah,(aJ ax),bl,ah,ah,(au (.acc _) ae sU),ah,bl,(aJ (s:=[]) aD),bl,bl,bl,bl,ah,(aJ (s:=[]) aD),ah⟩
  refine aG (bz [(0,.agg [dU aQ,dU aB,dU bk,dU aO,dU bc,dU bH,dU bA,dU bI]),(1,.vp 1 0),(2,.vp 2 0),(3,.vp 3 0),(4,.vp 4 0),(19,.d (dJ G)),(20,dB (decide (G=1))),(52,dB (decide (G=2))),(80,dB (decide ((bc % 4)=3)))] [(1,.one 23 16 [dU aQ,dU aB,dU bk,dU aO,dU bc,dU bH,dU bA,dU bI]),(2,.one 107 264 [.d i0,dS [],dN,.d i0,.d i0,dN,.d i0,dN,dS [],dN,dN,dN,dN,.d i0,dS [],.d i0]),(3,.one 107 264 [.d (dJ G),.d J,dN,.d jT,.d mP,.ac 2028 A.length 7,.d yu,dN,dS [],dN,dN,dN,dN,.d i0,dS [],.d i0]),(4,.one 173 72 [.d (dJ 1),.d (dJ 1),.d (dJ 1),.d (dJ 1),.d (dJ 3),.d (dJ 3),.d (dJ 2),.d (dJ 5),.d (dJ 6)]),(2028,.acc 181 64 7 A)] ⟨aa,aa,aa,aa,aa,aa,aa,aa,aa,trivial⟩ ⟨aa,aa,aa,aa,aa,trivial⟩ (aj (af 3 aa (aN aa (fun jH GS=>?_) (fun jH GS=>?_)))))
  ·refine aj (af 4 aa (cN (aP 3 aa (aU (cx (j:=2) aa aa (aX aa) ?_)))))
   refine aP 1 aa (aU (kn aa aD ae ae ?_))
   refine aU (cx (j:=5) aa aa (aX aa) ?_)
   refine aP 1 aa (bP aa (aY aa (aV aa) (tT F ah ah) (fun r43 _ F9=>?_)))
   obtain⟨PN,ZB,ZC,rfl,DU,N0,N1⟩:=F9
   refine aP 3 aa (aU (br aa aa ae ae ?_))
   obtain⟨kS,rfl,hzy43_0,kzy43_0⟩:=Ty.az DU
   obtain⟨kT,rfl,hzy43_1,kzy43_1⟩:=Ty.az N0
   obtain⟨kU,rfl,hsy43_2⟩:=Ty.aJ N1
   have RU:aH ji [[(dJ 2),i0,i0,i0,i0,i0,(al [])],[(dJ 1),i0,i0,i0,(dJ kS),(dJ kT),(al kU)],[(dJ 3),(dJ (A.length:Int)),(dJ ((A.length:Int)+1)),i0,i0,i0,(al [])]]:=(cY (ao ah (ao ah (ao ah (ao ah (ao ah (ao ah (ao (aJ (s:=[]) aD) bm))))))) (cY (ao ah (ao ah (ao ah (ao ah (ao ah (ao ah (ao (aJ ax) bm))))))) (cY (ao ah (ao ah (ao ah (ao ah (ao ah (ao ah (ao (aJ (s:=[]) aD) bm))))))) bN)))
   refine aP 2 aa (bP aa (cr (rows:=A) (ys:=[[(dJ 2),i0,i0,i0,i0,i0,(al [])],[(dJ 1),i0,i0,i0,(dJ kS),(dJ kT),(al kU)],[(dJ 3),(dJ (A.length:Int)),(dJ ((A.length:Int)+1)),i0,i0,i0,(al [])]]) aa aa aa (.bs (rows:=[[(dJ 2),i0,i0,i0,i0,i0,(al [])],[(dJ 1),i0,i0,i0,(dJ kS),(dJ kT),(al kU)],[(dJ 3),(dJ (A.length:Int)),(dJ ((A.length:Int)+1)),i0,i0,i0,(al [])]]) aa) aD ae dF dF ?_))
   refine cP 2 aa (bz [(0,.agg [dU aQ,dU aB,dU bk,dU aO,dU bc,dU bH,dU bA,dU bI]),(1,.vp 1 0),(2,.vp 2 0),(3,.vp 3 0),(4,.vp 4 0),(6,.d (dJ (A.length:Int))),(19,.d (dJ G)),(20,dB (decide (G=1))),(52,dB (decide (G=2))),(80,dB (decide ((bc % 4)=3))),(84,dB (decide (G=3)))] [(1,.one 23 16 [dU aQ,dU aB,dU bk,dU aO,dU bc,dU bH,dU bA,dU bI]),(2,.one 107 264 [.d i0,dS [],dN,.d i0,.d i0,dN,.d i0,dN,dS [],dN,dN,dN,dN,.d i0,dS [],.d i0]),(3,.one 107 264 [.d (dJ G),.d J,dN,.d jT,.d mP,.ac 2028 (A++[[(dJ 2),i0,i0,i0,i0,i0,(al [])],[(dJ 1),i0,i0,i0,(dJ kS),(dJ kT),(al kU)],[(dJ 3),(dJ (A.length:Int)),(dJ ((A.length:Int)+1)),i0,i0,i0,(al [])]]).length 7,.d yu,dN,dS [],dN,dN,dN,dN,.d i0,dS [],.d i0]),(4,.one 173 72 [.d (dJ 1),.d (dJ 1),.d (dJ 1),.d (dJ 1),.d (dJ 3),.d (dJ 3),.d (dJ 2),.d (dJ 5),.d (dJ 6)]),(102,.arr 181 64 7 3 [[(dJ 2),i0,i0,i0,i0,i0,(al [])],[(dJ 1),i0,i0,i0,(dJ kS),(dJ kT),(al kU)],[(dJ 3),(dJ (A.length:Int)),(dJ ((A.length:Int)+1)),i0,i0,i0,(al [])]]),(2028,.acc 181 64 7 (A++[[(dJ 2),i0,i0,i0,i0,i0,(al [])],[(dJ 1),i0,i0,i0,(dJ kS),(dJ kT),(al kU)],[(dJ 3),(dJ (A.length:Int)),(dJ ((A.length:Int)+1)),i0,i0,i0,(al [])]]))] ⟨aa,aa,aa,aa,aa,aa,aa,aa,aa,aa,aa,trivial⟩ ⟨aa,aa,aa,aa,aa,aa,trivial⟩ (aj (ai (cx (j:=2) aa aa (aX aa) ?_))))
   refine ak 1 aa (ai (dC aa aa aa ae ae ?_))
   refine ai (kn aa aD ae ae ?_)
   refine ak 1 aa (ai (br aa aa ae ae ?_))
   refine af 4 aa (aj (ai (cx (j:=2) aa aa (aX aa) ?_)))
   refine ak 1 aa (ai (dC aa aa aa ae ae ?_))
   refine ak 2 aa (bZ (g:=Be) aa (fun kK Su=>?_) (fun kK Su=>?_))
   ·refine aq aa kK (cx (j:=5) aa aa (aX aa) ?_)
    refine aq aa kK (bJ aa aa aa ?_)
    refine aq aa kK (dC aa aa aa ae ae ?_)
    refine aq aa kK (en aa aa ?_)
    refine ai (aW aa kK aa ?_)
    refine bn (aN aa (fun qW Sv=>?_) (fun qW Sv=>?_))
    ·refine aS (ak 3 aa (ai (br aa aa ae ae ?_)))
     refine ai (e9 (j:=0) aa aa aD ?_)
     refine ak 1 aa (jd (C3 (rows:=[[(dJ (bk % 2)),(dJ ((A.length:Int)+1))]]) aa aa aa aa aa aa aD aD aa ?_))
     refine bn (bz [(0,.agg [dU aQ,dU aB,dU bk,dU aO,dU bc,dU bH,dU bA,dU bI]),(1,.vp 1 0),(2,.vp 2 0),(3,.vp 3 0),(4,.vp 4 0),(6,.d (dJ (A.length:Int))),(19,.d (dJ G)),(20,dB (decide (G=1))),(52,dB (decide (G=2))),(80,dB (decide ((bc % 4)=3))),(84,dB (decide (G=3))),(123,dB (decide ((bH % 3)=0)))] [(1,.one 23 16 [dU aQ,dU aB,dU bk,dU aO,dU bc,dU bH,dU bA,dU bI]),(2,.one 107 264 [.d i0,dS [],dN,.d i0,.d i0,dN,.d i0,dN,dS [],dN,dN,dN,dN,.d i0,dS [],.d i0]),(3,.one 107 264 [.d (dJ G),.d J,dN,.d jT,.d mP,.ac 2028 (A++[[(dJ 2),i0,i0,i0,i0,i0,(al [])],[(dJ 1),i0,i0,i0,(dJ kS),(dJ kT),(al kU)],[(dJ 3),(dJ (A.length:Int)),(dJ ((A.length:Int)+1)),i0,i0,i0,(al [])]]).length 7,.d yu,.bs 112 1 2,dS [],dN,dN,dN,dN,.d i0,dS [],.d i0]),(4,.one 173 72 [.d (dJ 1),.d (dJ 1),.d (dJ 1),.d (dJ 1),.d (dJ 3),.d (dJ 3),.d (dJ 2),.d (dJ 5),.d (dJ 6)]),(102,.arr 181 64 7 3 [[(dJ 2),i0,i0,i0,i0,i0,(al [])],[(dJ 1),i0,i0,i0,(dJ kS),(dJ kT),(al kU)],[(dJ 3),(dJ (A.length:Int)),(dJ ((A.length:Int)+1)),i0,i0,i0,(al [])]]),(112,.arr 183 16 2 1 [[(dJ (bk % 2)),(dJ ((A.length:Int)+2))]]),(2028,.acc 181 64 7 (A++[[(dJ 2),i0,i0,i0,i0,i0,(al [])],[(dJ 1),i0,i0,i0,(dJ kS),(dJ kT),(al kU)],[(dJ 3),(dJ (A.length:Int)),(dJ ((A.length:Int)+1)),i0,i0,i0,(al [])]]))] ⟨aa,aa,aa,aa,aa,aa,aa,aa,aa,aa,aa,aa,trivial⟩ ⟨aa,aa,aa,aa,aa,aa,aa,trivial⟩ (aj (ak 1 aa (fO 148 2028 aa aa eA ?_))))
     have hb47:aH fK [[(dJ (bk % 2)),(dJ ((A.length:Int)+2))]]:=(cY (ao ah (ao ah bm)) bN)
     refine eV 148 112 aa aa eA (af 1 aa (ay ?_))
     obtain⟨I,rfl,K⟩:=Ty.aJ dY
     obtain⟨mH,rfl,xB,xC⟩:=Ty.az mb
     obtain⟨mI,rfl,xD,xE⟩:=Ty.az rz
     obtain⟨x8,rfl,MV,MW⟩:=Ty.az Ja
     exact aE aa aa ⟨(dJ G),(al I),.nil,(dJ mH),(dJ mI),(.cS (A++[[(dJ 2),i0,i0,i0,i0,i0,(al [])],[(dJ 1),i0,i0,i0,(dJ kS),(dJ kT),(al kU)],[(dJ 3),(dJ (A.length:Int)),(dJ ((A.length:Int)+1)),i0,i0,i0,(al [])]])),(dJ x8),(.sl [[(dJ (bk % 2)),(dJ ((A.length:Int)+2))]]),(al []),.nil,.nil,.nil,.nil,i0,(al []),i0,aa,ah,(aJ ax),bl,ah,ah,(au (.acc _) ae (bS sU RU)),ah,(au (.inl aa) ae hb47),(aJ (s:=[]) aD),bl,bl,bl,bl,ah,(aJ (s:=[]) aD),ah⟩
    refine aG (bz [(0,.agg [dU aQ,dU aB,dU bk,dU aO,dU bc,dU bH,dU bA,dU bI]),(1,.vp 1 0),(2,.vp 2 0),(3,.vp 3 0),(4,.vp 4 0),(6,.d (dJ (A.length:Int))),(19,.d (dJ G)),(20,dB (decide (G=1))),(52,dB (decide (G=2))),(80,dB (decide ((bc % 4)=3))),(84,dB (decide (G=3))),(123,dB (decide ((bH % 3)=0)))] [(1,.one 23 16 [dU aQ,dU aB,dU bk,dU aO,dU bc,dU bH,dU bA,dU bI]),(2,.one 107 264 [.d i0,dS [],dN,.d i0,.d i0,dN,.d i0,dN,dS [],dN,dN,dN,dN,.d i0,dS [],.d i0]),(3,.one 107 264 [.d (dJ G),.d J,dN,.d jT,.d mP,.ac 2028 (A++[[(dJ 2),i0,i0,i0,i0,i0,(al [])],[(dJ 1),i0,i0,i0,(dJ kS),(dJ kT),(al kU)],[(dJ 3),(dJ (A.length:Int)),(dJ ((A.length:Int)+1)),i0,i0,i0,(al [])]]).length 7,.d yu,.bs 112 1 2,dS [],dN,dN,dN,dN,.d i0,dS [],.d i0]),(4,.one 173 72 [.d (dJ 1),.d (dJ 1),.d (dJ 1),.d (dJ 1),.d (dJ 3),.d (dJ 3),.d (dJ 2),.d (dJ 5),.d (dJ 6)]),(102,.arr 181 64 7 3 [[(dJ 2),i0,i0,i0,i0,i0,(al [])],[(dJ 1),i0,i0,i0,(dJ kS),(dJ kT),(al kU)],[(dJ 3),(dJ (A.length:Int)),(dJ ((A.length:Int)+1)),i0,i0,i0,(al [])]]),(112,.arr 183 16 2 1 [[(dJ (bk % 2)),(dJ ((A.length:Int)+1))]]),(2028,.acc 181 64 7 (A++[[(dJ 2),i0,i0,i0,i0,i0,(al [])],[(dJ 1),i0,i0,i0,(dJ kS),(dJ kT),(al kU)],[(dJ 3),(dJ (A.length:Int)),(dJ ((A.length:Int)+1)),i0,i0,i0,(al [])]]))] ⟨aa,aa,aa,aa,aa,aa,aa,aa,aa,aa,aa,aa,trivial⟩ ⟨aa,aa,aa,aa,aa,aa,aa,trivial⟩ (aj (ak 1 aa (fO 148 2028 aa aa eA ?_))))
    have hb48:aH fK [[(dJ (bk % 2)),(dJ ((A.length:Int)+1))]]:=(cY (ao ah (ao ah bm)) bN)
    refine eV 148 112 aa aa eA (af 1 aa (ay ?_))
    obtain⟨I,rfl,K⟩:=Ty.aJ dY
    obtain⟨mH,rfl,xB,xC⟩:=Ty.az mb
    obtain⟨mI,rfl,xD,xE⟩:=Ty.az rz
    obtain⟨x8,rfl,MV,MW⟩:=Ty.az Ja
    exact aE aa aa ⟨(dJ G),(al I),.nil,(dJ mH),(dJ mI),(.cS (A++[[(dJ 2),i0,i0,i0,i0,i0,(al [])],[(dJ 1),i0,i0,i0,(dJ kS),(dJ kT),(al kU)],[(dJ 3),(dJ (A.length:Int)),(dJ ((A.length:Int)+1)),i0,i0,i0,(al [])]])),(dJ x8),(.sl [[(dJ (bk % 2)),(dJ ((A.length:Int)+1))]]),(al []),.nil,.nil,.nil,.nil,i0,(al []),i0,aa,ah,(aJ ax),bl,ah,ah,(au (.acc _) ae (bS sU RU)),ah,(au (.inl aa) ae hb48),(aJ (s:=[]) aD),bl,bl,bl,bl,ah,(aJ (s:=[]) aD),ah⟩
   refine an aa kK (an aa kK (an aa kK (an aa kK (ai (bd aa kK aa ?_)))))
   refine bn (cH aa aa (aG (bz [(0,.agg [dU aQ,dU aB,dU bk,dU aO,dU bc,dU bH,dU bA,dU bI]),(1,.vp 1 0),(2,.vp 2 0),(3,.vp 3 0),(4,.vp 4 0),(6,.d (dJ (A.length:Int))),(19,.d (dJ G)),(20,dB (decide (G=1))),(52,dB (decide (G=2))),(80,dB (decide ((bc % 4)=3))),(84,dB (decide (G=3))),(123,dB false)] [(1,.one 23 16 [dU aQ,dU aB,dU bk,dU aO,dU bc,dU bH,dU bA,dU bI]),(2,.one 107 264 [.d i0,dS [],dN,.d i0,.d i0,dN,.d i0,dN,dS [],dN,dN,dN,dN,.d i0,dS [],.d i0]),(3,.one 107 264 [.d (dJ G),.d J,dN,.d jT,.d mP,.ac 2028 (A++[[(dJ 2),i0,i0,i0,i0,i0,(al [])],[(dJ 1),i0,i0,i0,(dJ kS),(dJ kT),(al kU)],[(dJ 3),(dJ (A.length:Int)),(dJ ((A.length:Int)+1)),i0,i0,i0,(al [])]]).length 7,.d yu,.bs 112 1 2,dS [],dN,dN,dN,dN,.d i0,dS [],.d i0]),(4,.one 173 72 [.d (dJ 1),.d (dJ 1),.d (dJ 1),.d (dJ 1),.d (dJ 3),.d (dJ 3),.d (dJ 2),.d (dJ 5),.d (dJ 6)]),(102,.arr 181 64 7 3 [[(dJ 2),i0,i0,i0,i0,i0,(al [])],[(dJ 1),i0,i0,i0,(dJ kS),(dJ kT),(al kU)],[(dJ 3),(dJ (A.length:Int)),(dJ ((A.length:Int)+1)),i0,i0,i0,(al [])]]),(112,.arr 183 16 2 1 [[(dJ (bk % 2)),(dJ ((A.length:Int)+1))]]),(2028,.acc 181 64 7 (A++[[(dJ 2),i0,i0,i0,i0,i0,(al [])],[(dJ 1),i0,i0,i0,(dJ kS),(dJ kT),(al kU)],[(dJ 3),(dJ (A.length:Int)),(dJ ((A.length:Int)+1)),i0,i0,i0,(al [])]]))] ⟨aa,aa,aa,aa,aa,aa,aa,aa,aa,aa,aa,aa,trivial⟩ ⟨aa,aa,aa,aa,aa,aa,aa,trivial⟩ (aj (ak 1 aa (fO 148 2028 aa aa eA ?_))))))
   have hb49:aH fK [[(dJ (bk % 2)),(dJ ((A.length:Int)+1))]]:=(cY (ao ah (ao ah bm)) bN)
   refine eV 148 112 aa aa eA (af 1 aa (ay ?_))
   obtain⟨I,rfl,K⟩:=Ty.aJ dY
   obtain⟨mH,rfl,xB,xC⟩:=Ty.az mb
   obtain⟨mI,rfl,xD,xE⟩:=Ty.az rz
   obtain⟨x8,rfl,MV,MW⟩:=Ty.az Ja
   exact aE aa aa ⟨(dJ G),(al I),.nil,(dJ mH),(dJ mI),(.cS (A++[[(dJ 2),i0,i0,i0,i0,i0,(al [])],[(dJ 1),i0,i0,i0,(dJ kS),(dJ kT),(al kU)],[(dJ 3),(dJ (A.length:Int)),(dJ ((A.length:Int)+1)),i0,i0,i0,(al [])]])),(dJ x8),(.sl [[(dJ (bk % 2)),(dJ ((A.length:Int)+1))]]),(al []),.nil,.nil,.nil,.nil,i0,(al []),i0,aa,ah,(aJ ax),bl,ah,ah,(au (.acc _) ae (bS sU RU)),ah,(au (.inl aa) ae hb49),(aJ (s:=[]) aD),bl,bl,bl,bl,ah,(aJ (s:=[]) aD),ah⟩
  refine aG (bz [(0,.agg [dU aQ,dU aB,dU bk,dU aO,dU bc,dU bH,dU bA,dU bI]),(1,.vp 1 0),(2,.vp 2 0),(3,.vp 3 0),(4,.vp 4 0),(19,.d (dJ G)),(20,dB (decide (G=1))),(52,dB (decide (G=2))),(80,dB (decide ((bc % 4)=3))),(84,dB (decide (G=3)))] [(1,.one 23 16 [dU aQ,dU aB,dU bk,dU aO,dU bc,dU bH,dU bA,dU bI]),(2,.one 107 264 [.d i0,dS [],dN,.d i0,.d i0,dN,.d i0,dN,dS [],dN,dN,dN,dN,.d i0,dS [],.d i0]),(3,.one 107 264 [.d (dJ G),.d J,dN,.d jT,.d mP,.ac 2028 A.length 7,.d yu,dN,dS [],dN,dN,dN,dN,.d i0,dS [],.d i0]),(4,.one 173 72 [.d (dJ 1),.d (dJ 1),.d (dJ 1),.d (dJ 1),.d (dJ 3),.d (dJ 3),.d (dJ 2),.d (dJ 5),.d (dJ 6)]),(2028,.acc 181 64 7 A)] ⟨aa,aa,aa,aa,aa,aa,aa,aa,aa,aa,trivial⟩ ⟨aa,aa,aa,aa,aa,trivial⟩ (aj (ak 1 aa (fO 148 2028 aa aa eA (af 1 aa (ay ?_))))))
  obtain⟨I,rfl,K⟩:=Ty.aJ dY
  obtain⟨mH,rfl,xB,xC⟩:=Ty.az mb
  obtain⟨mI,rfl,xD,xE⟩:=Ty.az rz
  obtain⟨x8,rfl,MV,MW⟩:=Ty.az Ja
  exact aE aa aa ⟨(dJ G),(al I),.nil,(dJ mH),(dJ mI),(.cS A),(dJ x8),.nil,(al []),.nil,.nil,.nil,.nil,i0,(al []),i0,aa,ah,(aJ ax),bl,ah,ah,(au (.acc _) ae sU),ah,bl,(aJ (s:=[]) aD),bl,bl,bl,bl,ah,(aJ (s:=[]) aD),ah⟩
 refine bz [(0,.agg [dU aQ,dU aB,dU bk,dU aO,dU bc,dU bH,dU bA,dU bI]),(1,.vp 1 0),(2,.vp 2 0),(3,.vp 3 0),(4,.vp 4 0),(19,.d (dJ G)),(20,dB (decide (G=1))),(52,dB (decide (G=2)))] [(1,.one 23 16 [dU aQ,dU aB,dU bk,dU aO,dU bc,dU bH,dU bA,dU bI]),(2,.one 107 264 [.d i0,dS [],dN,.d i0,.d i0,dN,.d i0,dN,dS [],dN,dN,dN,dN,.d i0,dS [],.d i0]),(3,.one 107 264 [.d (dJ G),.d J,dN,.d i0,.d i0,dN,.d i0,dN,dS [],dN,dN,dN,dN,.d i0,dS [],.d i0]),(4,.one 173 72 [.d (dJ 1),.d (dJ 1),.d (dJ 1),.d (dJ 1),.d (dJ 3),.d (dJ 3),.d (dJ 2),.d (dJ 5),.d (dJ 6)])] ⟨aa,aa,aa,aa,aa,aa,aa,aa,trivial⟩ ⟨aa,aa,aa,aa,trivial⟩ (aj (af 2 aa (aN aa (fun oT SM=>?_) (fun oT SM=>?_))))
 ·refine aS (ai (cx (j:=2) aa aa (aX aa) ?_))
  refine ak 1 aa (ai (dC aa aa aa ae ae ?_))
  refine ai (kn aa aD ae ae ?_)
  refine ai (br aa aa ae ae ?_)
  refine ai (aY aa (aV aa) (Q5 F ah) (fun r51 _ Re=>?_))
  obtain⟨Zq,Z',aaa,rfl,NP,hy51_1,hy51_2⟩:=Re
  refine af 2 aa (bz [(0,.agg [dU aQ,dU aB,dU bk,dU aO,dU bc,dU bH,dU bA,dU bI]),(1,.vp 1 0),(2,.vp 2 0),(3,.vp 3 0),(4,.vp 4 0),(19,.d (dJ G)),(20,dB (decide (G=1))),(52,dB (decide (G=2))),(130,dB (decide (G=5)))] [(1,.one 23 16 [dU aQ,dU aB,dU bk,dU aO,dU bc,dU bH,dU bA,dU bI]),(2,.one 107 264 [.d i0,dS [],dN,.d i0,.d i0,dN,.d i0,dN,dS [],dN,dN,dN,dN,.d i0,dS [],.d i0]),(3,.one 107 264 [.d (dJ G),.d J,dN,.d i0,.d i0,dN,.d i0,dN,dS [],dN,dN,dN,dN,.d Zq,.d Z',.d aaa]),(4,.one 173 72 [.d (dJ 1),.d (dJ 1),.d (dJ 1),.d (dJ 1),.d (dJ 3),.d (dJ 3),.d (dJ 2),.d (dJ 5),.d (dJ 6)])] ⟨aa,aa,aa,aa,aa,aa,aa,aa,aa,trivial⟩ ⟨aa,aa,aa,aa,trivial⟩ (aj (ak 1 aa (af 1 aa (ay ?_)))))
  obtain⟨I,rfl,K⟩:=Ty.aJ dY
  obtain⟨zy51_0,rfl,hzy51_0,kzy51_0⟩:=Ty.az NP
  exact aE aa aa ⟨(dJ G),(al I),.nil,i0,i0,.nil,i0,.nil,(al []),.nil,.nil,.nil,.nil,(dJ zy51_0),Z',aaa,aa,ah,(aJ ax),bl,ah,ah,bl,ah,bl,(aJ (s:=[]) aD),bl,bl,bl,bl,ah,hy51_1,hy51_2⟩
 refine aj (af 2 aa (aN aa (fun Sx g52=>?_) (fun Sx g52=>?_)))
 ·refine aS (ai (cx (j:=2) aa aa (aX aa) ?_))
  refine ak 1 aa (ai (dC aa aa aa ae ae ?_))
  refine ai (kn aa aD ae ae ?_)
  refine ai (br aa aa ae ae ?_)
  refine af 3 aa (bz [(0,.agg [dU aQ,dU aB,dU bk,dU aO,dU bc,dU bH,dU bA,dU bI]),(1,.vp 1 0),(2,.vp 2 0),(3,.vp 3 0),(4,.vp 4 0),(19,.d (dJ G)),(20,dB (decide (G=1))),(52,dB (decide (G=2))),(130,dB (decide (G=5))),(139,dB (decide (G=6)))] [(1,.one 23 16 [dU aQ,dU aB,dU bk,dU aO,dU bc,dU bH,dU bA,dU bI]),(2,.one 107 264 [.d i0,dS [],dN,.d i0,.d i0,dN,.d i0,dN,dS [],dN,dN,dN,dN,.d i0,dS [],.d i0]),(3,.one 107 264 [.d (dJ G),.d J,dN,.d i0,.d i0,dN,.d i0,dN,dS [],dN,dN,dN,dN,.d (dJ (2+(bk % 4))),dS [],.d i0]),(4,.one 173 72 [.d (dJ 1),.d (dJ 1),.d (dJ 1),.d (dJ 1),.d (dJ 3),.d (dJ 3),.d (dJ 2),.d (dJ 5),.d (dJ 6)])] ⟨aa,aa,aa,aa,aa,aa,aa,aa,aa,aa,trivial⟩ ⟨aa,aa,aa,aa,trivial⟩ (aj (ak 1 aa (af 1 aa (ay ?_)))))
  obtain⟨I,rfl,K⟩:=Ty.aJ dY
  exact aE aa aa ⟨(dJ G),(al I),.nil,i0,i0,.nil,i0,.nil,(al []),.nil,.nil,.nil,.nil,(dJ (2+(bk % 4))),(al []),i0,aa,ah,(aJ ax),bl,ah,ah,bl,ah,bl,(aJ (s:=[]) aD),bl,bl,bl,bl,ah,(aJ (s:=[]) aD),ah⟩
 refine aG (aj (ak 1 aa (af 1 aa (ay ?_))))
 obtain⟨I,rfl,K⟩:=Ty.aJ dY
 exact aE aa aa ⟨(dJ G),(al I),.nil,i0,i0,.nil,i0,.nil,(al []),.nil,.nil,.nil,.nil,i0,(al []),i0,aa,ah,(aJ ax),bl,ah,ah,bl,ah,bl,(aJ (s:=[]) aD),bl,bl,bl,bl,ah,(aJ (s:=[]) aD),ah⟩
theorem CommandC{T:bC}(F:FT T){aQ:Int}(S2:0≤aQ)(wP:aQ≤6){aB:Int}(nd:0≤aB)(mB:aB≤65535){bk:Int}(sz:0≤bk)(sA:bk≤65535){aO:Int}(oN:0≤aO)(oO:aO≤65535){bc:Int}(pL:0≤bc)(pM:bc≤65535){bH:Int}(Af:0≤bH)(Ag:bH≤65535){bA:Int}(wQ:0≤bA)(wS:bA≤65535){bI:Int}(nX:0≤bI)(nY:bI≤65535){gr:Int}(la8:0≤gr)(ua8:gr≤65535):Sound T 32 [.agg [dU aQ,dU aB,dU bk,dU aO,dU bc,dU bH,dU bA,dU bI,dU gr]] fun r=>∃y0 y1 y2 y3 y4 y5 y6 y7 y8 y9,r= .agg [.d y0,.d y1,.d y2,.d y3,.d y4,.d y5,.d y6,.d y7,.d y8,.d y9]∧(Ty.i .i64 1 1).ok y0∧tJ.ok y1∧(Ty.l 2 vD).ok y2∧tJ.ok y3∧tJ.ok y4∧tJ.ok y5∧(Ty.s 1000).ok y6∧tJ.ok y7∧tJ.ok y8∧tJ.ok y9:=by
 refine ch F.q32 aa (aj (af 2 aa (aj (ai (cx (j:=1) aa aa (aX aa) ?_)))))
 refine ak 1 aa (ai (cx (j:=2) aa aa (aX aa) ?_))
 refine ak 1 aa (ai (cx (j:=3) aa aa (aX aa) ?_))
 refine ak 1 aa (ai (cx (j:=4) aa aa (aX aa) ?_))
 refine ak 1 aa (ai (cx (j:=5) aa aa (aX aa) ?_))
 refine ak 1 aa (ai (cx (j:=6) aa aa (aX aa) ?_))
 refine ak 1 aa (ai (cx (j:=7) aa aa (aX aa) ?_))
 refine ak 1 aa (ai (cx (j:=8) aa aa (aX aa) ?_))
 refine af 4 aa (bz [(0,.agg [dU aQ,dU aB,dU bk,dU aO,dU bc,dU bH,dU bA,dU bI,dU gr]),(1,.vp 1 0),(2,.vp 2 0),(3,.vp 3 0)] [(1,.one 82 18 [dU aQ,dU aB,dU bk,dU aO,dU bc,dU bH,dU bA,dU bI,dU gr]),(2,.one 80 104 [.d i0,.d i0,dN,.d i0,.d i0,.d i0,dS [],.d i0,.d i0,.d i0]),(3,.one 23 16 [dU aB,dU bk,dU aO,dU bc,dU bH,dU bA,dU bI,dU gr])] ⟨aa,aa,aa,aa,trivial⟩ ⟨aa,aa,aa,trivial⟩ (aA (aj (ai (cx (j:=0) aa aa (aX aa) ?_)))))
 refine ak 1 aa (ai (dC aa aa aa ae ae ?_))
 refine bn (bj (aA (aj (af 2 aa (aN aa (fun h1 g1=>?_) (fun h1 g1=>?_))))))
 ·exfalso;omega
 refine aS (af 2 aa (aN aa (fun h2 g2=>?_) (fun h2 g2=>?_)))
 ·exfalso;omega
 refine bz [(0,.agg [dU aQ,dU aB,dU bk,dU aO,dU bc,dU bH,dU bA,dU bI,dU gr]),(1,.vp 1 0),(2,.vp 2 0),(3,.vp 3 0),(26,dU (aQ % 12)),(27,dB (decide ((aQ % 12)=8)))] [(1,.one 82 18 [dU aQ,dU aB,dU bk,dU aO,dU bc,dU bH,dU bA,dU bI,dU gr]),(2,.one 80 104 [.d i0,.d i0,dN,.d i0,.d i0,.d i0,dS [],.d i0,.d i0,.d i0]),(3,.one 23 16 [dU aB,dU bk,dU aO,dU bc,dU bH,dU bA,dU bI,dU gr])] ⟨aa,aa,aa,aa,aa,aa,trivial⟩ ⟨aa,aa,aa,trivial⟩ (aj (af 2 aa (aN aa (fun h3 g3=>?_) (fun h3 g3=>?_))))
 ·exfalso;omega
 refine aj (af 2 aa (aN aa (fun h4 g4=>?_) (fun h4 g4=>?_)))
 ·exfalso;omega
 refine bz [(0,.agg [dU aQ,dU aB,dU bk,dU aO,dU bc,dU bH,dU bA,dU bI,dU gr]),(1,.vp 1 0),(2,.vp 2 0),(3,.vp 3 0),(26,dU (aQ % 12)),(27,dB (decide ((aQ % 12)=8))),(48,dB (decide ((aQ % 12)=9))),(78,dB (decide ((aQ % 12)=10)))] [(1,.one 82 18 [dU aQ,dU aB,dU bk,dU aO,dU bc,dU bH,dU bA,dU bI,dU gr]),(2,.one 80 104 [.d i0,.d i0,dN,.d i0,.d i0,.d i0,dS [],.d i0,.d i0,.d i0]),(3,.one 23 16 [dU aB,dU bk,dU aO,dU bc,dU bH,dU bA,dU bI,dU gr])] ⟨aa,aa,aa,aa,aa,aa,aa,aa,trivial⟩ ⟨aa,aa,aa,trivial⟩ (aj (af 2 aa (aN aa (fun h5 g5=>?_) (fun h5 g5=>?_))))
 ·exfalso;omega
 refine aG (aj (ak 1 aa (ai (aY aa (aV aa) (Z9 (aQ:=aB) (aB:=bk) (bk:=aO) (aO:=bc) (bc:=bH) (bH:=bA) (bA:=bI) (bI:=gr) F ae ae ae ae ae ae ae ae ae ae ae ae ae ae ae ae) (fun r6 _ iW=>?_)))))
 obtain⟨oH,F0,mW,y6_3,y6_4,ue,y6_6,uf,y6_8,ug,K,L,M,y6_13,y6_14,y6_15,rfl,rG,rH,yq,Qf,Qg,Qh,Qi,Qj,Qk,Ql,hy6_10,hy6_11,hy6_12,hy6_13,hy6_14,hy6_15⟩:=iW
 obtain⟨O,rfl,Og,Oh⟩:=Ty.az rG
 obtain⟨U,rfl,hsy6_1⟩:=Ty.aJ rH
 obtain⟨wy6_2,Jb,hny6_2,Jc⟩:=Ty.au yq
 obtain⟨Y,rfl,hzy6_3,kzy6_3⟩:=Ty.az Qf
 obtain⟨Z,rfl,hzy6_4,kzy6_4⟩:=Ty.az Qg
 obtain⟨wy6_5,Yr,hny6_5,Ys⟩:=Ty.au Qh
 obtain⟨vU,rfl,hzy6_6,kzy6_6⟩:=Ty.az Qi
 obtain⟨wy6_7,Yt,hny6_7,Yu⟩:=Ty.au Qj
 obtain⟨vV,rfl,hsy6_8⟩:=Ty.aJ Qk
 obtain⟨wy6_9,Yv,hny6_9,Yw⟩:=Ty.au Ql
 obtain⟨wy6_10,WE,hny6_10,WG⟩:=Ty.au hy6_10
 obtain⟨wy6_11,WH,hny6_11,WI⟩:=Ty.au hy6_11
 obtain⟨wy6_12,WJ,hny6_12,WK⟩:=Ty.au hy6_12
 obtain⟨p,rfl,hzy6_13,kzy6_13⟩:=Ty.az hy6_13
 obtain⟨z,rfl,hsy6_14⟩:=Ty.aJ hy6_14
 obtain⟨A,rfl,hzy6_15,kzy6_15⟩:=Ty.az hy6_15
 refine af 4 aa (bz [(0,.agg [dU aQ,dU aB,dU bk,dU aO,dU bc,dU bH,dU bA,dU bI,dU gr]),(1,.vp 1 0),(2,.vp 2 0),(3,.vp 3 0),(6,.vp 6 0),(26,dU (aQ % 12)),(27,dB (decide ((aQ % 12)=8))),(48,dB (decide ((aQ % 12)=9))),(78,dB (decide ((aQ % 12)=10))),(86,dB (decide ((aQ % 12)=11)))] [(1,.one 82 18 [dU aQ,dU aB,dU bk,dU aO,dU bc,dU bH,dU bA,dU bI,dU gr]),(2,.one 80 104 [.d i0,.d i0,dN,.d i0,.d i0,.d i0,dS [],.d i0,.d i0,.d i0]),(3,.one 23 16 [dU aB,dU bk,dU aO,dU bc,dU bH,dU bA,dU bI,dU gr]),(6,.one 80 104 [.d (dJ 1),.d i0,.bs 95 1 16,.d i0,.d i0,.d i0,dS [],.d i0,.d i0,.d i0]),(95,.arr 107 264 16 1 [[(dJ O),(al U),mW,(dJ Y),(dJ Z),ue,(dJ vU),uf,(al vV),ug,K,L,M,(dJ p),(al z),(dJ A)]])] ⟨aa,aa,aa,aa,aa,aa,aa,aa,aa,aa,trivial⟩ ⟨aa,aa,aa,aa,aa,trivial⟩ (aA (aj (ai (cx (j:=0) aa aa (aX aa) ?_)))))
 refine ak 1 aa (ai (dC aa aa aa ae ae ?_))
 refine af 1 aa (aN aa (fun h7 g7=>?_) (fun h7 g7=>?_))
 ·refine fB (aP 2 aa (aU (cx (j:=8) aa aa (aX aa) ?_)))
  refine aP 1 aa (aU (cx (j:=2) aa aa (aX aa) ?_))
  refine aP 1 aa (aU (cx (j:=4) aa aa (aX aa) ?_))
  refine aP 1 aa (aU (cx (j:=3) aa aa (aX aa) ?_))
  refine aP 1 aa (aU (cx (j:=6) aa aa (aX aa) ?_))
  refine aP 1 aa (aU (cx (j:=5) aa aa (aX aa) ?_))
  refine aP 1 aa (aU (cx (j:=1) aa aa (aX aa) ?_))
  refine aP 1 aa (aU (cx (j:=7) aa aa (aX aa) ?_))
  refine aP 2 aa (bP aa (aY aa (aV aa) (Z9 (aQ:=gr) (aB:=bk) (bk:=bc) (aO:=aO) (bc:=bA) (bH:=bH) (bA:=aB) (bI:=bI) F ae ae ae ae ae ae ae ae ae ae ae ae ae ae ae ae) (fun r8 _ lW=>?_)))
  obtain⟨qE,RH,wF,y8_3,y8_4,zV,y8_6,zW,y8_8,zX,yv,yw,yy,y8_13,y8_14,y8_15,rfl,tc,hy8_1,P5,hy8_3,hy8_4,hy8_5,hy8_6,hy8_7,hy8_8,hy8_9,hy8_10,hy8_11,hy8_12,hy8_13,hy8_14,hy8_15⟩:=lW
  obtain⟨vO,rfl,hzy8_0,kzy8_0⟩:=Ty.az tc
  obtain⟨yz,rfl,hsy8_1⟩:=Ty.aJ hy8_1
  obtain⟨wy8_2,hdy8_2,hny8_2,hry8_2⟩:=Ty.au P5
  obtain⟨yA,rfl,hzy8_3,kzy8_3⟩:=Ty.az hy8_3
  obtain⟨yB,rfl,hzy8_4,kzy8_4⟩:=Ty.az hy8_4
  obtain⟨wy8_5,hdy8_5,hny8_5,hry8_5⟩:=Ty.au hy8_5
  obtain⟨yC,rfl,hzy8_6,kzy8_6⟩:=Ty.az hy8_6
  obtain⟨wy8_7,hdy8_7,hny8_7,hry8_7⟩:=Ty.au hy8_7
  obtain⟨yD,rfl,hsy8_8⟩:=Ty.aJ hy8_8
  obtain⟨wy8_9,hdy8_9,hny8_9,hry8_9⟩:=Ty.au hy8_9
  obtain⟨wy8_10,hdy8_10,hny8_10,hry8_10⟩:=Ty.au hy8_10
  obtain⟨wy8_11,hdy8_11,hny8_11,hry8_11⟩:=Ty.au hy8_11
  obtain⟨wy8_12,hdy8_12,hny8_12,hry8_12⟩:=Ty.au hy8_12
  obtain⟨G,rfl,hzy8_13,kzy8_13⟩:=Ty.az hy8_13
  obtain⟨I,rfl,hsy8_14⟩:=Ty.aJ hy8_14
  obtain⟨J,rfl,hzy8_15,kzy8_15⟩:=Ty.az hy8_15
  refine aP 1 aa (bP aa (sR (rows:=[[(dJ O),(al U),mW,(dJ Y),(dJ Z),ue,(dJ vU),uf,(al vV),ug,K,L,M,(dJ p),(al z),(dJ A)]]) (ys:=[[(dJ vO),(al yz),wF,(dJ yA),(dJ yB),zV,(dJ yC),zW,(al yD),zX,yv,yw,yy,(dJ G),(al I),(dJ J)]]) aa aa aa (.bs (rows:=[[(dJ vO),(al yz),wF,(dJ yA),(dJ yB),zV,(dJ yC),zW,(al yD),zX,yv,yw,yy,(dJ G),(al I),(dJ J)]]) aa) aD ae ?_))
  exact cP 2 aa (bz [(0,.agg [dU aQ,dU aB,dU bk,dU aO,dU bc,dU bH,dU bA,dU bI,dU gr]),(1,.vp 1 0),(2,.vp 2 0),(3,.vp 3 0),(6,.vp 6 0),(26,dU (aQ % 12)),(27,dB (decide ((aQ % 12)=8))),(48,dB (decide ((aQ % 12)=9))),(78,dB (decide ((aQ % 12)=10))),(86,dB (decide ((aQ % 12)=11))),(100,dB (decide ((aQ % 12)<3)))] [(1,.one 82 18 [dU aQ,dU aB,dU bk,dU aO,dU bc,dU bH,dU bA,dU bI,dU gr]),(2,.one 80 104 [.d i0,.d i0,dN,.d i0,.d i0,.d i0,dS [],.d i0,.d i0,.d i0]),(3,.one 23 16 [dU aB,dU bk,dU aO,dU bc,dU bH,dU bA,dU bI,dU gr]),(6,.one 80 104 [.d (dJ 1),.d i0,.bs 95 ([[(dJ O),(al U),mW,(dJ Y),(dJ Z),ue,(dJ vU),uf,(al vV),ug,K,L,M,(dJ p),(al z),(dJ A)]]++[[(dJ vO),(al yz),wF,(dJ yA),(dJ yB),zV,(dJ yC),zW,(al yD),zX,yv,yw,yy,(dJ G),(al I),(dJ J)]]).length 16,.d i0,.d i0,.d i0,dS [],.d i0,.d i0,.d i0]),(95,.arr 107 264 16 ([[(dJ O),(al U),mW,(dJ Y),(dJ Z),ue,(dJ vU),uf,(al vV),ug,K,L,M,(dJ p),(al z),(dJ A)]]++[[(dJ vO),(al yz),wF,(dJ yA),(dJ yB),zV,(dJ yC),zW,(al yD),zX,yv,yw,yy,(dJ G),(al I),(dJ J)]]).length ([[(dJ O),(al U),mW,(dJ Y),(dJ Z),ue,(dJ vU),uf,(al vV),ug,K,L,M,(dJ p),(al z),(dJ A)]]++[[(dJ vO),(al yz),wF,(dJ yA),(dJ yB),zV,(dJ yC),zW,(al yD),zX,yv,yw,yy,(dJ G),(al I),(dJ J)]])),(121,.arr 107 264 16 1 [[(dJ vO),(al yz),wF,(dJ yA),(dJ yB),zV,(dJ yC),zW,(al yD),zX,yv,yw,yy,(dJ G),(al I),(dJ J)]])] ⟨aa,aa,aa,aa,aa,aa,aa,aa,aa,aa,aa,trivial⟩ ⟨aa,aa,aa,aa,aa,aa,trivial⟩ (aj (ak 1 aa (eV 124 95 aa aa eA (af 1 aa (ay (aE aa aa ⟨(dJ 1),i0,(.sl ([[(dJ O),(al U),mW,(dJ Y),(dJ Z),ue,(dJ vU),uf,(al vV),ug,K,L,M,(dJ p),(al z),(dJ A)]]++[[(dJ vO),(al yz),wF,(dJ yA),(dJ yB),zV,(dJ yC),zW,(al yD),zX,yv,yw,yy,(dJ G),(al I),(dJ J)]])),i0,i0,i0,(al []),i0,i0,i0,aa,ah,ah,(au (.inl aa) ae (bS (bX (ao ah (ao (aJ ax) (ao (au Jb ae Jc) (ao ah (ao ah (ao (au Yr ae Ys) (ao ah (ao (au Yt ae Yu) (ao (aJ ax) (ao (au Yv ae Yw) (ao (au WE ae WG) (ao (au WH ae WI) (ao (au WJ ae WK) (ao ah (ao (aJ ax) (ao ah bm))))))))))))))))) (bX (ao ah (ao (aJ ax) (ao (au hdy8_2 ae hry8_2) (ao ah (ao ah (ao (au hdy8_5 ae hry8_5) (ao ah (ao (au hdy8_7 ae hry8_7) (ao (aJ ax) (ao (au hdy8_9 ae hry8_9) (ao (au hdy8_10 ae hry8_10) (ao (au hdy8_11 ae hry8_11) (ao (au hdy8_12 ae hry8_12) (ao ah (ao (aJ ax) (ao ah bm))))))))))))))))))),ah,ah,ah,(aJ (s:=[]) aD),ah,ah,ah⟩)))))))
 refine aG (aj (ak 1 aa ?_))
 have Ap:aH vD [[(dJ O),(al U),mW,(dJ Y),(dJ Z),ue,(dJ vU),uf,(al vV),ug,K,L,M,(dJ p),(al z),(dJ A)]]:=(cY (ao ah (ao (aJ ax) (ao (au Jb ae Jc) (ao ah (ao ah (ao (au Yr ae Ys) (ao ah (ao (au Yt ae Yu) (ao (aJ ax) (ao (au Yv ae Yw) (ao (au WE ae WG) (ao (au WH ae WI) (ao (au WJ ae WK) (ao ah (ao (aJ ax) (ao ah bm)))))))))))))))) bN)
 exact eV 124 95 aa aa eA (af 1 aa (ay (aE aa aa ⟨(dJ 1),i0,(.sl [[(dJ O),(al U),mW,(dJ Y),(dJ Z),ue,(dJ vU),uf,(al vV),ug,K,L,M,(dJ p),(al z),(dJ A)]]),i0,i0,i0,(al []),i0,i0,i0,aa,ah,ah,(au (.inl aa) ae Ap),ah,ah,ah,(aJ (s:=[]) aD),ah,ah,ah⟩)))
theorem CommitsC{T:bC}(F:FT T){a8:DC}{aQ:Int}(S2:0≤aQ)(wP:aQ≤65535){aB:Int}(nd:0≤aB)(mB:aB≤65535){bk:Int}(sz:0≤bk)(sA:bk≤65535){aO:Int}(oN:0≤aO)(oO:aO≤65535){bc:Int}(pL:0≤bc)(pM:bc≤65535){bH:Int}(Af:0≤bH)(Ag:bH≤65535){bA:Int}(wQ:0≤bA)(wS:bA≤65535){bI:Int}(nX:0≤bI)(nY:bI≤65535){G:List (List DC)}(iT:aR G a8)(zo:G.length≤9223372036854775807)(lL:aH tU9 G){hU:Int}(la9:0≤hU)(ua9:hU≤10):Sound T 14 [.agg [dU aQ,dU aB,dU bk,dU aO,dU bc,dU bH,dU bA,dU bI],.d a8,.d (dJ hU)] fun r=>∃(y0:DC)(cQ:List (List DC)),r= .d y0∧aR cQ y0∧(cQ.length:Int)≤11∧aH Ks cQ:=by
 refine ch F.q14 aa (aj (af 2 aa (aj (ak 1 aa (ai (aY aa (aV aa) (SetupC (aQ:=aQ) (aB:=aB) (bk:=bk) (aO:=aO) (bc:=bc) (bH:=bH) (bA:=bA) (bI:=bI) F ae ae ae ae ae ae ae ae ae ae ae ae ae ae ae ae) (fun r1 _ dh=>?_)))))))
 obtain⟨dV,Pv,rfl,o7,rn,oi,vh⟩:=dh
 refine af 3 aa (aA (aj (af 1 aa (bj ?_))))
 have pI:aH Ks [[(dJ 1),i0,dV,i0,i0,i0,(al []),i0,i0,i0]]:=(cY (ao ah (ao ah (ao (au o7 ae oi) (ao ah (ao ah (ao ah (ao (aJ (s:=[]) aD) (ao ah (ao ah (ao ah bm)))))))))) bN)
 refine cb (fun k VE B=>∃(z:Int)(p:List (List DC)),(0≤z∧(z≤(G.length:Int)∨z=0))∧((p.length:Int)≤z+1)∧(aH Ks p)∧(z≤hU)∧k=((G.length:Int) -z).toNat∧aT [(0,.agg [dU aQ,dU aB,dU bk,dU aO,dU bc,dU bH,dU bA,dU bI]),(1,.d a8),(2,.d (dJ hU)),(3,.vp 3 0),(6,dN),(7,.bs 13 p.length 10),(8,.d (dJ z))] VE∧aT [(3,.one 23 16 [dU aQ,dU aB,dU bk,dU aO,dU bc,dU bH,dU bA,dU bI]),(13,.arr 80 104 10 p.length p)] B) ?_ (k:=((G.length:Int) -0).toNat) ⟨0,[[(dJ 1),i0,dV,i0,i0,i0,(al []),i0,i0,i0]],ae,cn,pI,ae,aa,⟨aa,aa,aa,aa,aa,aa,aa,trivial⟩,⟨aa,aa,trivial⟩⟩
 rintro _ VE B⟨z,p,c9,fr,A,Cl,rfl,hV,hB⟩
 refine bz _ _ hV hB (aA (aj (ak 2 aa (ai (bu aa iT ?_)))))
 refine ak 2 aa (bZ (g:=rV) aa (fun h3 g3=>?_) (fun h3 g3=>?_))
 ·refine aq aa h3 (bf aa ?_)
  refine aq aa h3 (bf aa ?_)
  refine aq aa h3 (eH aa aa ?_)
  refine ai (aW aa h3 aa ?_)
  refine bn (aN aa (fun h4 g4=>?_) (fun h4 g4=>?_))
  ·refine aG (aA (bj (aj (ak 2 aa ?_))))
   obtain⟨r5,iq,jo⟩:=bR z lL
   obtain⟨zn,FZ,Kw,x5_3,x5_4,x5_5,x5_6,x5_7,x5_8,rfl,nI,yn,yp,hx5_3,hx5_4,hx5_5,hx5_6,hx5_7,hx5_8⟩:=okR_n9 jo
   refine ai (bo aa aa iT ae iq aa ?_)
   refine af 3 aa (aj (ai (cx (j:=0) aa aa (aX aa) ?_)))
   obtain⟨EU,rfl,IK,IL⟩:=Ty.az nI
   refine ak 1 aa (ai (dC aa aa aa ae ae ?_))
   refine ai (cx (j:=0) aa aa (aX aa) ?_)
   refine af 1 aa (aS (ak 2 aa ?_))
   obtain⟨ZF,rfl,Nm,Nn⟩:=Ty.az yn
   obtain⟨zx5_2,rfl,hzx5_2,kzx5_2⟩:=Ty.az yp
   obtain⟨zx5_3,rfl,hzx5_3,kzx5_3⟩:=Ty.az hx5_3
   obtain⟨zx5_4,rfl,hzx5_4,kzx5_4⟩:=Ty.az hx5_4
   obtain⟨zx5_5,rfl,hzx5_5,kzx5_5⟩:=Ty.az hx5_5
   obtain⟨zx5_6,rfl,hzx5_6,kzx5_6⟩:=Ty.az hx5_6
   obtain⟨zx5_7,rfl,hzx5_7,kzx5_7⟩:=Ty.az hx5_7
   obtain⟨zx5_8,rfl,hzx5_8,kzx5_8⟩:=Ty.az hx5_8
   refine ai (aY aa (aV aa) (CommandC (aQ:=(EU % 7)) (aB:=ZF) (bk:=zx5_2) (aO:=zx5_3) (bc:=zx5_4) (bH:=zx5_5) (bA:=zx5_6) (bI:=zx5_7) (gr:=zx5_8) F ae ae ae ae ae ae ae ae ae ae ae ae ae ae ae ae ae ae) (fun r6 _ iW=>?_))
   obtain⟨oH,F0,mW,y6_3,y6_4,ue,y6_6,uf,y6_8,ug,rfl,rG,rH,yq,Qf,Qg,Qh,Qi,Qj,Qk,Ql⟩:=iW
   obtain⟨I,rfl,Og,Oh⟩:=Ty.az rG
   obtain⟨J,rfl,hzy6_1,kzy6_1⟩:=Ty.az rH
   obtain⟨wy6_2,Jb,hny6_2,Jc⟩:=Ty.au yq
   obtain⟨K,rfl,hzy6_3,kzy6_3⟩:=Ty.az Qf
   obtain⟨L,rfl,hzy6_4,kzy6_4⟩:=Ty.az Qg
   obtain⟨M,rfl,hzy6_5,kzy6_5⟩:=Ty.az Qh
   obtain⟨O,rfl,hsy6_6⟩:=Ty.aJ Qi
   obtain⟨U,rfl,hzy6_7,kzy6_7⟩:=Ty.az Qj
   obtain⟨Y,rfl,hzy6_8,kzy6_8⟩:=Ty.az Qk
   obtain⟨Z,rfl,hzy6_9,kzy6_9⟩:=Ty.az Ql
   refine ak 1 aa (ai (sR (rows:=p) (ys:=[[(dJ I),(dJ J),mW,(dJ K),(dJ L),(dJ M),(al O),(dJ U),(dJ Y),(dJ Z)]]) aa aa aa (.bs (rows:=[[(dJ I),(dJ J),mW,(dJ K),(dJ L),(dJ M),(al O),(dJ U),(dJ Y),(dJ Z)]]) aa) aD ae ?_))
   refine af 1 aa (aS (ak 1 aa (ai (br aa aa ae ae ?_))))
   exact af 1 aa (⟨((G.length:Int) -((z+1))).toNat,ae,(z+1),(p++[[(dJ I),(dJ J),mW,(dJ K),(dJ L),(dJ M),(al O),(dJ U),(dJ Y),(dJ Z)]]),ae,cn,(bS A (bX (ao ah (ao ah (ao (au Jb ae Jc) (ao ah (ao ah (ao ah (ao (aJ ax) (ao ah (ao ah (ao ah bm)))))))))))),ae,aa,⟨aa,aa,aa,aa,aa,aa,aa,trivial⟩,⟨aa,aa,trivial⟩⟩)
  exact bV (aj (af 2 aa (ma 6 13 aa aa (fun _=>⟨aa,aa⟩) (ay (aE aa aa ⟨(.sl p),p,aa,(.inl aa),ae,A⟩)))))
 refine an aa h3 (an aa h3 (an aa h3 (ai (bd aa h3 aa ?_))))
 exact bn (cH aa aa (bV (aj (af 2 aa (ma 6 13 aa aa (fun _=>⟨aa,aa⟩) (ay (aE aa aa ⟨(.sl p),p,aa,(.inl aa),ae,A⟩)))))))
end Go.Ev.Rp
