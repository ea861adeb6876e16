/- Part 36 of rules for walks through the code of a program, and of such walks; what each part proves is said by its theorems. -/
import Derived.Test.YtmpoloiempjdpaaGreatR24
import Derived.Test.YtmpoloiempjdpaaGreatR25
import Derived.Test.YtmpoloiempjdpaaGreatR33
import Derived.Test.YtmpoloiempjdpaaGreatR34
import Derived.Test.YtmpoloiempjdpaaGreatR35
set_option linter.unusedVariables false
set_option linter.unusedSimpArgs false
noncomputable section
set_option maxRecDepth 100000
set_option maxHeartbeats 4000000
namespace Go.Ev.Rp
open Go Go.Ev.Pp
attribute [local irreducible] VC VO VQ VI Sound bY
theorem Va5{T:aM}(F:FT T){p:Prop}(h:p:=by repeat' (first|refine wp 6 rfl ?_|refine wp 2 rfl ?_|refine wp 1 rfl ?_|(refine Pg ?_;first|exact bL rfl rfl fin|exact sn|exact fin)|(refine Ph ?_;first|exact⟨_,me fin ae⟩|exact fin)|refine wo 1 rfl ?_|refine wc 1 rfl ?_|refine wq 1 rfl ?_|refine qs ?_|refine qE 8 rfl rfl ?_|refine qE 3 rfl rfl ?_|refine qE 1 rfl rfl ?_|refine ew ?_|refine Af ?_|refine qF 8 rfl rfl ?_|refine qF 3 rfl rfl ?_|refine qF 1 rfl rfl ?_|refine Dt ?_|refine te ?_|(refine mM ?_;exact bL rfl rfl fin)|(refine mM ?_;exact sn)|refine eu rfl (by first|with_reducible rfl|assumption) ?_|refine dq rfl (by first|with_reducible rfl|assumption) ?_|(refine ay rfl (fun h=>?_) (fun h=>?_)<;>(try(have h:(_:Bool)=_:=h;subst h)))|refine lv ?_|refine oj ?_|refine kz ?_|refine i7 ?_|refine ff ?_|refine fS rfl ?_|refine bM rfl (by first|with_reducible rfl|assumption) (iI (d:=0) rfl ?_)|refine bM (W:=[]) rfl (by first|with_reducible rfl|assumption) ?_|refine oh rfl (by first|with_reducible exact Bool.not_true.symm|with_reducible exact Bool.not_false.symm|assumption) ?_|(refine br rfl (fun h=>?_) (fun h=>?_)<;>(try(have h:(_:Bool)=_:=h;subst h)))|refine aw (W:=[]) ?_|refine Cp rfl dC rfl ?_|refine zH rfl dC rfl ?_|refine iI (d:=0) rfl ?_|refine bx rfl rfl ae ae ?_|refine dQ rfl rfl ae ae ?_|refine aQ rfl Eh ?_|(refine K4 rfl rfl Eh dC rfl ae ae ?_;repeat intro _)|(refine bG (j:=0) rfl rfl (aX rfl) ?_)|refine c6 rfl rfl rfl ae ae ?_|refine pb rfl rfl ?_|refine pb (b:=[]) rfl rfl ?_|refine kE rfl rfl ?_|refine kE (b:=[]) rfl rfl ?_|refine rM rfl rfl rfl rfl ae ae ae ao ?_|refine fm rfl ao ae ae ?_|refine zV rfl rfl ao (fun _=>?_)|refine qh rfl rfl (fun _ _=>?_)|refine om rfl rfl (fun _ _=>?_)|refine tf rfl rfl (fun _ _=>?_)|refine qg rfl rfl ?_|refine s8 rfl rfl ?_|(refine aB rfl (by apply arithC F<;>first|assumption|exact ae|exact fin) ?_;rintro _ _⟨_,_,_,rfl,_,_,_⟩)|(refine aB rfl (by apply boolC F<;>first|assumption|exact ae|exact fin) ?_;rintro _ _⟨_,_,_,rfl,_,_,_⟩)|(refine aB rfl (by apply MJ F<;>first|assumption|exact ae|exact fin) ?_;rintro _ _⟨_,rfl,_⟩)|(refine aB rfl (by apply aeQ F<;>first|assumption|exact ae|exact fin) ?_;rintro _ _⟨_,rfl,_⟩)|(refine aB rfl (by apply MK F<;>first|assumption|exact ae|exact fin) ?_;rintro _ _⟨_,rfl,_⟩)|(exfalso;first|omega|((try simp only[eW,gM,gx,mq] at*);first|omega|(simp_all;done)))|exact⟨_,me fin ae⟩|exact fin|refine aV (W:=[]) ?_|(rename (Ty.ok Ty.b _)=>z;obtain⟨_,e⟩:=Ty.eI z;subst e;clear z)|(rename (Ty.ok (Ty.i _ _ _) _)=>z;obtain⟨_,e,_,_⟩:=Ty.dY z;first|(subst e;clear z)|clear z)|(rename (Ty.ok (Ty.s _) _)=>z;obtain⟨_,e,_⟩:=Ty.bB z;first|(subst e;clear z)|clear z)|(rename (Ty.ok (Ty.l _ _) _)=>z;obtain⟨_,_,_,_⟩:=Ty.aL z;clear z))):p:=h
theorem evalC{T:aM}(F:FT T){a0 a2:DC}{bW:ai}(cM:au bW a0)(cT:bW.length≤200)(bN:af ey bW){aS:Int}(mA:0≤aS)(mB:aS≤(bW.length:Int) -1){bo:ai}(ct:au bo a2)(df:bo.length≤1000000000)(bQ:af cu bo){Y:ai}(et:af cu Y)(hma3:aS+1≤(Y.length:Int)):bY T 265 [.d a0,.d (dJ aS),.d a2,.bs 1004 Y.length 3] [(1004,.arr 87 32 3 Y.length Y)] fun r B=>∃y0 y1 y2,r= .agg [.d y0,.d y1,.d y2]∧B=[(1004,.arr 87 32 3 Y.length Y)]∧tJ.ok y0∧tJ.ok y1∧(Ty.s 1000).ok y2:=by
 refine ij F.q265 aa (r0 8 aa ?_);obtain⟨_,⟨A,rfl,LU,LV⟩,_,⟨Z,rfl,SY,SZ⟩,_,⟨tM,rfl,S0,S1⟩,_,⟨zx1_3,rfl,hzx1_3,kzx1_3⟩,WR,ahx,I',HU,WS,hx1_6,qd⟩:=qI aS bN;refine aw (aH aa aa cM ae qd aa ?_);refine aN 8 aa (aB aa (ML (aJ:=A) F ae ae) ?_);rintro _ _⟨nR,rfl,DF⟩;refine ro 2 aa (dM [10,9,8,3,2,1,0] [1004,9,8] aa aa (fun e0 b0 VE B=>an e0 VE∧an b0 B∧(((A=10∨A=11∨(3≤A∧A≤9))→0≤Z∧Z<aS)∧((3≤A∧A≤9)→0≤tM∧tM<aS))) ?_ ?_)
 ·exact Va5 F
 rintro VE B⟨hV,hB,fj0_0⟩;refine aU _ _ hV hB (rc 5 aa (dM [12,11,10,9,8,3,2,1,0] [1004,12,9,8] aa aa (fun e0 b0 VE B=>∃G I L,an e0 VE∧an ((11,.one 87 32 [.d G,.d I,.d L])::b0) B∧(tJ.ok G)∧(tJ.ok I)∧((Ty.s 1000).ok L)) ?_ ?_))
 ·refine rc 5 aa ?_;refine ay aa ?_ ?_<;>intro g6
  ·refine rc 4 aa ?_;obtain⟨j7,iZ,fx⟩:=bD (z:=Z) (n:=Y.length) ae ae;obtain⟨nT,oI,oT,tG,yL,xX,eK⟩:=qN fx et;refine aw (eL rfl (by rw[←iZ];rfl) fx ?_);refine aw (Fm (rows:=Y) aa aa (bf _) (bf _) fx eK (aX aa) (aX aa) ?_);exact W
  exact W
 rintro VE B⟨G,I,L,hV,hB,hc11_0_j1,hc11_1_j1,hc11_2_j1⟩;refine aU _ _ hV hB (dM [12,11,10,9,8,3,2,1,0] [1004,11,9,8] aa aa (fun e0 b0 VE B=>∃M O U,an e0 VE∧an ((12,.one 87 32 [.d M,.d O,.d U])::b0) B∧(tJ.ok M)∧(tJ.ok O)∧((Ty.s 1000).ok U)) ?_ ?_)
 ·refine rc 5 aa ?_;refine ay aa ?_ ?_<;>intro g8
  ·refine rc 4 aa ?_;obtain⟨j9,wN,uA⟩:=bD (z:=tM) (n:=Y.length) ae ae;obtain⟨pP,lX,q7,tN,BO,tO,fw⟩:=qN uA et;refine aw (eL rfl (by rw[←wN];rfl) uA ?_);refine aw (Fm (rows:=Y) aa aa (bf _) (bf _) uA fw (aX aa) (aX aa) ?_);exact W
  exact W
 rintro VE B⟨M,O,U,hV,hB,hc12_0_j2,hc12_1_j2,hc12_2_j2⟩;exact aU _ _ hV hB (Va5 F)
theorem A0{T:aM}(F:FT T){a0 a1 a2:DC}{O:ai}(M:au O a0)(cT:O.length≤200)(bN:af ey O)(bV:tJ.ok a1){U:ai}(ct:au U a2)(df:U.length≤1000000000)(bQ:af cu U):Sound T 230 [.d a0,.d a1,.d a2] fun r=>∃y0 y1 y2,r= .agg [.d y0,.d y1,.d y2]∧tJ.ok y0∧tJ.ok y1∧(Ty.s 1000).ok y2:=by
 refine bm F.q230 aa ?_;obtain⟨aS,rfl,eB,ee⟩:=bV;refine r0 10 aa ?_;refine br aa ?_ ?_<;>intro h1
 ·exact W
 refine ro 2 aa (bM aa aa (aQ aa M ?_));refine ro 3 aa ?_;refine ay aa ?_ ?_<;>intro h2
 ·exact W
 refine aA 4 aa (bx aa aa ae ae ?_);obtain⟨n3,gP⟩:∃n:Nat,(aS+1)=n:=⟨((aS+1)).toNat,(AI ae).symm⟩;refine aw (FB (n:=n3) 20 rfl rfl rfl rfl rfl (by rw[←gP];rfl) (by rw[←gP];rfl) ae ae (fun w3 Yx Pv=>?_));have uv:af cu w3:=by subst Yx;exact FA (ah ak (ah ak (ah (bB (s:=[]) ao) bl)))
 refine ro 8 aa (bj [16,6,2,1,0] [6] aa aa (fun e0 b0 k VE B=>∃G L A,an ((7,.bs 20 L 3)::(8,.d (dJ G))::e0) VE∧an ((20,.arr 87 32 3 L A)::b0) B∧k=(((aS+1):Int) -G).toNat∧(0≤G∧(G≤(aS+1)∨G=0))∧(A.length=L)∧(L=w3.length)∧(af cu A)) ?_ fin);rintro _ VE B⟨G,L,A,hV,hB,rfl,bU,rfl,ug,I⟩;refine aU _ _ hV hB (rc 7 aa ?_);refine ay aa ?_ ?_<;>intro g4
 ·refine aA 10 aa (kD (di:=[.d a0,.d (dJ G),.d a2,.bs 1004 (A.length) 3]) (Bi:=[(1004,.arr 87 32 3 (A.length) A)]) [(1004,20)] 2000 aa aa aa aa aa aa aa ⟨aa,aa,trivial⟩ (evalC (aS:=G) F M ae bN ae ae ct ae bQ I ae) ?_);rintro _ _⟨jz,aj9,WT,rfl,rfl,Y,Z,H6⟩;obtain⟨j6,sX,qc⟩:=bD (z:=G) (n:=A.length) ae ae;obtain⟨I9,AZ,BE,yb,WU,M0,fE⟩:=qN qc I;refine aw (eL rfl (by rw[←sX];rfl) qc ?_);refine jd (rF aa aa aa aa aa aa ao ao fE (fun w7 Ka E9=>?_));have JY:af cu w7:=by rw[Ka];exact fk I (ah Y (ah Z (ah H6 bl)))
  rw[←E9];exact W
 refine rc 5 aa ?_;obtain⟨j8,J',zo⟩:=bD (z:=aS) (n:=A.length) ae ae;obtain⟨OO,hx8_0,WV,US,aka,ahI,iG⟩:=qN zo I;refine aw (eL rfl (by rw[←J'];rfl) zo ?_);refine aw (Fm (rows:=A) aa aa (bf _) (bf _) zo iG (aX aa) (aX aa) ?_);exact W
end Go.Ev.Rp
namespace Go.Ev.Rp
open Go Go.Ev.Pp
attribute [local irreducible] VC VO VQ VI Sound bY
theorem ahJ{T:aM}(F:FT T){a0 a1 a2 a3 a4 a5:DC}(cP:(Ty.s 1000).ok a0){z:ai}(A:au z a1)(dn:z.length≤100)(I:af dV z)(cG:(Ty.l 200 bn).ok a2)(cr:(Ty.l 4 ep).ok a3)(ca:(Ty.l 4 dT).ok a4)(cj:tJ.ok a5):Sound T 93 [.agg [.d a0,.d a1,.d a2,.d a3,.d a4],.d a5] fun r=>∃y0 y1 y2 L y4,r= .tuple [.agg [.d y0,.d y1,.d y2],dB y4]∧tJ.ok y0∧tJ.ok y1∧au L y2∧(L.length:Int)≤12∧af lE L∧(y4=true→1≤(z.length:Int)):=by
 refine bm F.q93 aa ?_;rcases cP,cG,cr,ca,cj with⟨⟨gO,rfl,ki⟩,⟨bo,O,df,U⟩,⟨du,Y,fI,Z⟩,⟨dK,dx,eU,dg⟩,⟨cg,rfl,mY,mZ⟩⟩
 refine ch 10 aa (aB aa (aaz F (bB al) A ae I (aL O ae U) (aL Y ae Z) (aL dx ae dg)) ?_);rintro _ _⟨dD,rfl,M⟩;refine ro 2 aa ?_;refine br aa ?_ ?_<;>intro h2
 ·exact W
 have k2:=M (by simpa using h2);refine ro 4 aa ?_;refine ay aa ?_ ?_<;>intro h3
 ·exact W
 refine aA 7 aa (aQ aa A ?_);refine aw (dQ aa aa ae ae ?_);obtain⟨oS,ka,e5,kO,pQ,⟨ahK,G,afa,hrx4_2⟩,dj⟩:=qI ((z.length:Int) -1) I;refine aw (aH aa aa A ae dj aa ?_);have kb:=kG.get (And.right dC) (qA _) dj rfl G;exact W
theorem H7{T:aM}(F:FT T){a0 a1 a2 a3 a4 a5:DC}(cP:(Ty.s 1000).ok a0)(bV:(Ty.l 100 dV).ok a1)(cG:(Ty.l 200 bn).ok a2)(cr:(Ty.l 4 ep).ok a3)(ca:(Ty.l 4 dT).ok a4){I:ai}(Z:au I a5)(nc:I.length≤100000)(ib:af gb I):Sound T 68 [.agg [.d a0,.d a1,.d a2,.d a3,.d a4,.d a5]] fun r=>∃y0 L,r= .d y0∧au L y0∧(L.length:Int)≤I.length∧af jS L∧0≤(L.length:Int)∧(L=[]→y0= .nil):=by
 refine bm F.q68 aa ?_;rcases cP,bV,cG,cr,ca with⟨⟨gO,rfl,ki⟩,⟨bJ,cO,dn,cq⟩,⟨bo,ct,df,bQ⟩,⟨du,eS,fI,et⟩,⟨dK,dx,eU,dg⟩⟩
 refine r0 15 aa (dP 3 90 203 64 4 aa aa (bj [2,1,0] [1] aa aa (fun e0 b0 k VE B=>∃z A,an ((3,.ac 90 A.length 4)::(4,.d (dJ z))::e0) VE∧an ((90,.acc 203 64 4 A)::b0) B∧k=((I.length:Int) -z).toNat∧(0≤z∧(z≤(I.length:Int)∨z=0))∧((A.length:Int)≤z)∧(af jS A)) ?_ fin));rintro _ VE B⟨z,A,hV,hB,rfl,bU,cS,GG⟩;refine aU _ _ hV hB (aA 6 aa (aQ aa Z ?_));refine ro 2 aa ?_;refine ay aa ?_ ?_<;>intro g1
 ·refine rc 8 aa ?_;obtain⟨_,⟨G,rfl,tv,ve⟩,fH,⟨nF,U,nz,Y⟩,_,⟨M,rfl,xv,xw⟩,_,⟨O,rfl,afb,afc⟩,wu,yf,_,⟨M1,rfl,aey,aez⟩,bS⟩:=qI z ib;refine aw (aH aa aa Z ae bS aa ?_);refine ro 6 aa (rp 5 aa ?_);refine ay aa ?_ ?_<;>intro g3
  ·refine rc 6 aa (aP aa (aB aa (widthC F (bB al) (aL cO ae cq) (aL ct ae bQ) (aL eS ae et) (aL dx ae dg)) ?_));rintro _ _⟨_,rfl,zy4_0,rfl,hzy4_0,kzy4_0⟩;refine aP aa (aB aa (aj2 F U ae Y ak) ?_);rintro _ _⟨jz,iR,rfl,lV,rP,kK,tw,tz⟩;refine rq 5 aa ?_;have Pr:af bn [[(dJ G)]]:=(cH (ah ak bl) cb);refine aej 33 33 aa aa (fun _=>⟨aa,aa⟩) (rq 2 aa ?_);refine aP rfl (aY (rows:=A) (ys:=[[jz,(dJ M),(dJ O),(.sl [[(dJ G)]])]]) rfl rfl rfl (.bs (rows:=[[jz,(dJ M),(dJ O),(.sl [[(dJ G)]])]]) rfl) ao ae (fun h=>by rw[h];rfl) (fun h=>by rw[h];rfl) ?_);exact W
  exact W
 exact rc 6 aa (cA 2 90 aa aa (fun _=>⟨aa,aa⟩) (W))
theorem PC{T:aM}(F:FT T){a0 a1 a2:DC}{I:ai}(G:au I a0)(cT:I.length≤1000000000)(bN:af jS I){bJ:ai}(cO:au bJ a1)(dn:bJ.length≤1000000000)(cq:af bn bJ){bo:ai}(ct:au bo a2)(df:bo.length≤1000000000)(bQ:af cu bo):Sound T 110 [.d a0,.d a1,.d a2] fun r=>∃y0 L,r= .d y0∧au L y0∧(L.length:Int)≤I.length∧af jS L∧0≤(L.length:Int)∧(L=[]→y0= .nil):=by
 refine bm F.q110 aa (r0 14 aa (dP 7 90 203 64 4 aa aa (bj [6,2,1,0] [] aa aa (fun e0 b0 k VE B=>∃z A,an ((7,.ac 90 A.length 4)::(8,.d (dJ z))::e0) VE∧an ((90,.acc 203 64 4 A)::b0) B∧k=((I.length:Int) -z).toNat∧(0≤z∧(z≤(I.length:Int)∨z=0))∧((A.length:Int)≤z)∧(af jS A)) ?_ fin)));rintro _ VE B⟨z,A,hV,hB,rfl,bU,cS,GN⟩;refine aU _ _ hV hB (aA 5 aa (aQ aa G ?_));refine ro 2 aa ?_;refine ay aa ?_ ?_<;>intro g1
 ·refine rc 7 aa ?_;obtain⟨gW,⟨pB,Z,vb,Aq⟩,fH,M,gf,O,lk,⟨M3,GO,LZ,Ar⟩,bS⟩:=qI z bN;refine aw (aH aa aa G ae bS aa ?_);refine aN 2 aa (aB aa (ph F M O) ?_);rintro _ _⟨_,rfl,AX,rfl⟩;refine ro 1 aa ?_;refine br aa ?_ ?_<;>intro h4
  ·refine ro 2 aa (bM aa aa (aH aa aa G ae bS aa ?_));refine ro 3 aa (bM aa aa (aB aa (ahw F Z ae Aq cO ae cq) ?_));rintro _ _⟨jz,iR,rfl,lV,rP,kK,tw,tz⟩;refine ro 1 aa (bM aa aa (aB aa (x7 F (aL lV ae kK) (aL ct ae bQ)) ?_));rintro _ _⟨_,rfl,UG,rfl,aeI,aeJ⟩;refine ro 3 aa ?_;refine ay aa ?_ ?_<;>intro g7
   ·refine aA 4 aa (aH aa aa G ae bS aa ?_);rcases Ty.dY M,Ty.dY O with⟨⟨U,rfl,u9,qv⟩,⟨Y,rfl,xv,xw⟩⟩
    refine ro 2 aa ?_;refine aw (aY (rows:=A) (ys:=[[gW,(dJ U),(dJ Y),lk]]) rfl rfl rfl (.bs (rows:=[[gW,(dJ U),(dJ Y),lk]]) rfl) ao ae (fun h=>by rw[h];rfl) (fun h=>by rw[h];rfl) ?_);exact W
   exact W
  exact W
 exact rc 6 aa (cA 6 90 aa aa (fun _=>⟨aa,aa⟩) (W))
theorem UT{T:aM}(F:FT T){a0 a1:DC}{L:ai}(M:au L a0)(cT:L.length≤1000000)(bN:af jS L)(bV:tJ.ok a1):Sound T 112 [.d a0,.d a1] fun r=>∃y0 y1 O,r= .tuple [.d y0,.d y1]∧tJ.ok y0∧au O y1∧(O.length:Int)≤1000000000∧af bn O∧0≤(O.length:Int)∧(O=[]→y1= .nil):=by
 refine bm F.q112 aa ?_;obtain⟨aS,rfl,eB,ee⟩:=bV;refine r0 19 aa (bj [5,4,1,0] [] aa aa (fun e0 b0 k VE B=>∃G I A z,an ((6,.d (dJ G))::(7,.d I)::(8,.d (dJ z))::e0) VE∧an b0 B∧k=((L.length:Int) -z).toNat∧(0≤G∧G≤z)∧(au A I)∧((A.length:Int)≤200*z)∧(af bn A)∧(A=[]→I= .nil)∧(0≤z∧(z≤(L.length:Int)∨z=0))) ?_ fin);rintro _ VE B⟨G,I,A,z,hV,hB,rfl,bU,U,ug,Y,hev7_0,yK⟩;refine aU _ _ hV hB (aA 5 aa (aQ aa M ?_));refine ro 2 aa ?_;refine ay aa ?_ ?_<;>intro g1
 ·refine rc 7 aa ?_;obtain⟨gW,jt,fH,iQ,gf,iq,lk,⟨M3,Z,LZ,Ar⟩,bS⟩:=qI z bN;refine aw (aH aa aa M ae bS aa ?_);refine aN 3 aa (aB aa (MI F iQ iq ak) ?_);rintro _ _⟨_,rfl,AX,rfl⟩;refine ro 1 aa ?_;refine cE aa ?_ ?_<;>intro h4
  ·refine aA 3 aa (bx aa aa ae ae ?_);refine aN 6 aa (aH aa aa M ae bS aa ?_);refine aN 2 aa (aB aa (xA F U ae Y Z ae Ar) ?_);rintro _ _⟨jz,iR,rfl,lV,rP,kK,tw,tz⟩;exact W
  exact W
 exact W
theorem acM{T:aM}(F:FT T){a0 a1 a2:DC}{M:ai}(U:au M a0)(cT:M.length≤1000000000)(Y:af cu M){bJ:ai}(cO:au bJ a1)(dn:bJ.length≤200)(cq:af ey bJ){O:ai}(Z:au O a2)(df:O.length≤1000000000)(bQ:af ez O):Sound T 204 [.d a0,.d a1,.d a2] fun r=>∃y0 bw,r= .d y0∧au bw y0∧(bw.length:Int)≤1000000000∧af cu bw:=by
 refine bm F.q204 aa (ch 7 aa (eb (ys:=M) 11 aa aa aa aa aa (.sD U (cD Y aa)) ao ae ?_));refine aN 6 aa (aQ aa Z ?_);refine ro 3 aa (bj [13,12,6,2,1,0] [] aa aa (fun e0 b0 k VE B=>∃A I G,an ((7,.ac 11 I 3)::(14,.d (dJ A))::e0) VE∧an ((11,.acc 87 32 3 G)::b0) B∧k=((O.length:Int) -A).toNat∧(0≤A∧(A≤(O.length:Int)∨A=0))∧(G.length=I)∧(I=(M).length)∧(af cu G)) ?_ fin);rintro _ VE B⟨A,I,G,hV,hB,rfl,bU,rfl,ug,L⟩;refine aU _ _ hV hB (rc 5 aa ?_);refine ay aa ?_ ?_<;>intro g1
 ·refine rc 5 aa ?_;obtain⟨_,⟨oM,rfl,tv,ve⟩,fH,iQ,bS⟩:=qI A bQ;refine aw (aH aa aa Z ae bS aa ?_);refine ro 6 aa (rp 4 aa ?_);refine br aa ?_ ?_<;>intro g3
  ·refine ro 3 aa (bM aa aa (abV aa ?_));refine ro 3 aa ?_;refine ay aa ?_ ?_<;>intro g4
   ·refine rc 8 aa (aP aa (aB aa (A0 F cO ae cq iQ U ae Y) ?_));rintro _ _⟨jz,aj9,WT,rfl,pw,UU,H6⟩;obtain⟨j6,sX,qc⟩:=bD (z:=oM) (n:=G.length) ae ae;obtain⟨I9,AZ,BE,yb,WU,M0,fE⟩:=qN qc L;refine aV (dk rfl (by rw[←sX];rfl) qc ?_);refine iK aa (gZ aa aa aa aa aa aa ao ao fE (fun w7 Ka E9=>?_));have JY:af cu w7:=by rw[Ka];exact fk L (ah pw (ah UU (ah H6 bl)))
    rw[←E9];exact W
   exact W
  exact W
 exact rc 6 aa (cA 6 11 aa aa (fun _=>⟨aa,aa⟩) (W))
end Go.Ev.Rp
namespace Go.Ev.Rp
open Go Go.Ev.Pp
attribute [local irreducible] VC VO VQ VI Sound bY
theorem ExpandC{T:aM}(F:FT T){a0 a1 a2 a3:DC}(cP:tJ.ok a0)(bV:tJ.ok a1){Y:ai}(M:au Y a2)(df:Y.length≤13)(bQ:af lE Y){du:ai}(U:au du a3)(fI:du.length≤1000000000)(et:af cu du){bA:Int}(mC: -9223372036854775808≤bA)(mD:bA≤9223372036854775807):Sound T 102 [.agg [.d a0,.d a1,.d a2],.d a3,.d (dJ bA)] fun r=>∃y0 bw y2,r= .tuple [.d y0,.d y2]∧au bw y0∧(bw.length:Int)≤12∧af cu bw∧tJ.ok y2:=by
 refine bm F.q102 aa ?_;rcases cP,bV with⟨⟨aJ,rfl,iv,iw⟩,⟨aS,rfl,eB,ee⟩⟩
 refine ch 10 aa (aQ aa U ?_);refine aN 2 aa (aQ aa M ?_);refine ro 2 aa ?_;refine br aa ?_ ?_<;>intro h1
 ·exact W
 refine ro 4 aa ?_;refine ay aa ?_ ?_<;>intro h2
 ·exact W
 refine rc 7 aa (bj [20,7,6,3,2,1,0] [3] aa aa (fun e0 b0 k VE B=>∃G,an ((8,.d (dJ G))::e0) VE∧an b0 B∧k=((Y.length:Int) -G).toNat∧(0≤G∧(G≤(Y.length:Int)∨G=0))∧(jZ G bA Y)) ?_ fin);rintro _ VE B⟨G,hV,hB,rfl,bU,cS⟩;refine aU _ _ hV hB (aA 6 aa (aQ aa M ?_));refine ro 2 aa ?_;refine ay aa ?_ ?_<;>intro g3
 ·refine rc 8 aa ?_;obtain⟨_,⟨DE,rfl,tt,tu⟩,e5,kO,pQ,oH,dj⟩:=qI G bQ;refine aw (aH aa aa M ae dj aa ?_);refine ro 4 aa ?_;refine br aa ?_ ?_<;>intro h5
  ·exact W
  refine ro 3 aa (bM aa aa (aH aa aa M ae dj aa ?_));refine ro 6 aa ?_;refine ay aa ?_ ?_<;>intro h6
  ·exact W
  refine aA 3 aa (bx aa aa ae ae ?_);refine cL 2 aa ?_;exact⟨((Y.length:Int) -((G+1))).toNat,ae,(G+1),⟨rfl,rfl,rfl,rfl,rfl,rfl,rfl,rfl,trivial⟩,⟨rfl,trivial⟩,rfl,ae,(by first|assumption|exact aba|exact jZ.step (by assumption) ae (by assumption) rfl ae ae)⟩
 refine aA 4 aa (om aa aa (fun z7 hz7=>?_));obtain⟨n8,hn8⟩:∃n:Nat,z7=n:=⟨(z7).toNat,(AI ae).symm⟩;refine aw (FB (n:=n8) 47 rfl rfl rfl rfl rfl (by rw[←hn8];rfl) (by rw[←hn8];rfl) ae ae (fun w8 n9 sP=>?_));have wK:af cu w8:=by subst n9;exact FA (ah ak (ah ak (ah (bB (s:=[]) ao) bl)))
 refine ro 8 aa (bj [25,20,8,7,6,3,2,1,0] [3] aa aa (fun e0 b0 k VE B=>∃A O L,an ((9,.bs 47 O 3)::(10,.d (dJ A))::e0) VE∧an ((47,.arr 87 32 3 O L)::b0) B∧k=((Y.length:Int) -A).toNat∧(0≤A∧(A≤(Y.length:Int)∨A=0))∧(L.length=O)∧(O=w8.length)∧(af cu L)) ?_ fin);rintro _ VE B⟨A,O,L,hV,hB,rfl,fu,rfl,OL,I⟩;refine aU _ _ hV hB (aA 6 aa (aQ aa M ?_));refine ro 2 aa ?_;refine ay aa ?_ ?_<;>intro g9
 ·refine rc 8 aa ?_;obtain⟨nH,pj,pz,Z,DO,xD,gg⟩:=qI A et;refine aV (aH aa aa U ae gg aa ?_);refine cJ aa aa (iJ aa (aX aa) (aX aa) ?_);refine aP aa (aB aa (aeP F pj Z xD) ?_);rintro _ _⟨_,rfl,by11_0,rfl⟩;refine rq 2 aa ?_;refine dL aa ?_ ?_<;>intro oc
  ·refine rq 7 aa (bK aa (bK aa (bK aa (bK aa (dF aa (bK aa (dF aa (bK aa (bK aa ?_)))))))));exact bK aa (dF aa (bK aa (rq 2 aa (W))))
  refine rq 2 aa (cl aa aa (aH aa aa U ae gg aa ?_));refine rq 2 aa ?_;obtain⟨ae2,rfl,ace,acf⟩:=Ty.dY pj;refine rp 2 aa ?_;refine dL aa ?_ ?_<;>intro sT
  ·refine rq 2 aa (cl aa aa (aH aa aa U ae gg aa ?_));refine rq 5 aa ?_;obtain⟨_,⟨C5,rfl,Gb,Gc⟩,M4,S7,_,⟨zx14_2,rfl,hzx14_2,kzx14_2⟩,gX⟩:=qI A bQ;refine cl aa aa (aH aa aa M ae gX aa ?_);refine rq 2 aa (rp 4 aa ?_);refine ay aa ?_ ?_<;>intro J9
   ·exact W
   refine rc 6 aa (aV (aH aa aa M ae gX aa ?_));refine rq 1 aa (cJ aa aa (dy aa aa ?_));refine aV (dQ aa aa ae ae ?_);refine dh 2 aa (aH aa aa U ae gg aa ?_);refine cJ aa aa (iJ aa (aX aa) (aX aa) ?_);have kb:=jZ.get (n:=bA) dC ae gX rfl;obtain⟨mE,sA,uf⟩:=bD (z:=(C5-1)) (n:=L.length) ae ae;obtain⟨DK,afd,AW,S2,x16_2,hx16_2,BD⟩:=qN uf I;refine aV (eL rfl (by rw[←sA];rfl) uf ?_);refine iK aa (rF aa aa aa aa aa aa ao ao BD (fun zm hw17 OG=>?_));have hb17:af cu zm:=by rw[hw17];exact fk I (ah ak (ah Z (ah xD bl)))
   rw[←OG];exact W
  refine rq 15 aa (dq aa aa (rc 6 aa ?_));obtain⟨_,⟨zx18_0,rfl,hzx18_0,kzx18_0⟩,ahL,S8,ahM,S9,nV⟩:=qI A bQ;refine aV (aH aa aa M ae nV aa ?_);refine rq 1 aa (cJ aa aa (dy aa aa ?_));refine aV (dQ aa aa ae ae ?_);refine dh 2 aa (aH aa aa U ae gg aa ?_);refine cJ aa aa (iJ aa (aX aa) (aX aa) ?_);have kb:=jZ.get (n:=bA) dC ae nV rfl;obtain⟨sV,By,Bz⟩:=bD (z:=(zx18_0-1)) (n:=L.length) ae ae;obtain⟨x8,GL,DL,afe,x19_2,hx19_2,nU⟩:=qN Bz I;refine aV (eL rfl (by rw[←By];rfl) Bz ?_);refine iK aa (rF aa aa aa aa aa aa ao ao nU (fun mF BK yO=>?_));have uc:af cu mF:=by rw[BK];exact fk I (ah ak (ah Z (ah xD bl)))
  rw[←yO];exact W
 exact rc 7 aa (lz 6 47 aa aa (fun _=>⟨aa,aa⟩) (W))
theorem RD{T:aM}(F:FT T){nv:Nat}{a0 a1 a2 a3 a4 a5 a6:DC}(cP:(Ty.s 1000).ok a0){A:ai}(Wh:1≤A.length)(I:au A a1)(dn:A.length≤nv)(G:af dV A)(cG:(Ty.l 200 bn).ok a2)(cr:(Ty.l 4 ep).ok a3)(ca:(Ty.l 4 dT).ok a4){L:ai}(gh:au L a5)(nc:L.length≤13)(ib:af lE L)(fi:tJ.ok a6)(mw:nv≤99):Sound T 97 [.agg [.d a0,.d a1,.d a2,.d a3,.d a4],.d a5,.d a6] fun r=>∃y0 y1 M y3 y4 y5,r= .agg [.d y0,.d y1,.d y3,.d y4,.d y5]∧(Ty.s 1000).ok y0∧au M y1∧(M.length:Int)≤nv+1∧af dV M∧(Ty.l 200 bn).ok y3∧(Ty.l 4 ep).ok y4∧(Ty.l 4 dT).ok y5:=by
 refine bm F.q97 aa ?_;rcases cP,cG,cr,ca,fi with⟨⟨gO,rfl,ki⟩,⟨bo,ct,df,bQ⟩,⟨du,eS,fI,et⟩,⟨dK,dx,eU,dg⟩,⟨bu,rfl,nP,nQ⟩⟩
 refine ch 9 aa (aQ aa I ?_);refine aN 6 aa (eb (ys:=A) 14 aa aa aa aa aa (.sD I (cD G aa)) ao ae ?_);refine aN 7 aa (dQ aa aa ae ae ?_);obtain⟨j1,J4,zl⟩:=bD (z:=((A.length:Int) -1)) (n:=((A).length)) ae ae;obtain⟨_,⟨A1,rfl,LU,LV⟩,akb,hx1_1,akc,hx1_2,qd⟩:=qN zl G;refine aw (dk rfl (by rw[←J4];rfl) zl ?_);refine aN 2 aa (fb (rows:=A) aa aa qd aa ?_);refine ro 3 aa ?_;refine ay aa ?_ ?_<;>intro g2
 ·refine aA 3 aa (dQ aa aa ae ae ?_);refine ro 1 aa ?_;obtain⟨j3,Yc,J5⟩:=bD (z:=((A.length:Int) -1)) (n:=((A).length)) ae ae;obtain⟨pS,O,ud,U,Br,qL,fJ⟩:=qN J5 G;refine aw (dk rfl (by rw[←Yc];rfl) J5 ?_);refine ro 1 aa (jd (gZ aa aa aa aa aa aa ao ao fJ (fun w4 Yv hl4=>?_)));have hb4:af dV w4:=by rw[Yv];exact fk G (ah O (ah U (ah (aL gh ae ib) bl)))
  rw[←hl4];exact ro 5 aa (eH 44 14 aa aa (fun _=>⟨aa,aa⟩) (W))
 refine aA 4 aa (dQ aa aa ae ae ?_);refine ro 1 aa ?_;obtain⟨j5,Cc,Cd⟩:=bD (z:=((A.length:Int) -1)) (n:=((A).length)) ae ae;obtain⟨Ek,Y,BG,yd,I8,Z,e9⟩:=qN Cd G;refine aw (dk rfl (by rw[←Cc];rfl) Cd ?_);refine ro 2 aa (jd (gZ aa aa aa aa aa aa ao ao e9 (fun w6 hw6 Ym=>?_)));have Pr:af dV w6:=by rw[hw6];exact fk G (ah Y (ah ak (ah Z bl)))
 rw[←Ym];refine aN 8 aa (aY (rows:=w6) (ys:=[[(dJ bu),(dJ 1099511627776),a5]]) aa aa aa (.bs (rows:=[[(dJ bu),(dJ 1099511627776),a5]]) aa) ao ae bR bR ?_);exact ro 6 aa (eH 44 14 aa aa (fun _=>⟨aa,aa⟩) (W))
theorem AddColC{T:aM}(F:FT T){nv:Nat}{a0 a1 a2 a3 a4 a5 a6 a7 a8:DC}(cP:(Ty.s 1000).ok a0){bJ:ai}(A:au bJ a1)(dn:bJ.length≤nv)(G:af dV bJ)(cG:(Ty.l 200 bn).ok a2)(cr:(Ty.l 4 ep).ok a3)(ca:(Ty.l 4 dT).ok a4)(cj:tJ.ok a5)(fi:(Ty.s 1000).ok a6)(fX:tJ.ok a7)(gk:tJ.ok a8)(mw:nv≤99):Sound T 62 [.agg [.d a0,.d a1,.d a2,.d a3,.d a4],.agg [.d a5,.d a6,.d a7],.d a8] fun r=>∃y0 y1 kx y3 y4 y5 y6,r= .tuple [.agg [.d y0,.d y1,.d y3,.d y4,.d y5],.d y6]∧(Ty.s 1000).ok y0∧au kx y1∧(kx.length:Int)≤nv+1∧af dV kx∧(Ty.l 200 bn).ok y3∧(Ty.l 4 ep).ok y4∧(Ty.l 4 dT).ok y5∧tJ.ok y6:=by
 refine bm F.q62 aa ?_;rcases cP,cG,cr,ca,cj,fi,fX,gk with⟨⟨gO,rfl,ki⟩,⟨bo,I,df,L⟩,⟨du,M,fI,O⟩,⟨dK,U,eU,Y⟩,⟨cg,rfl,mY,mZ⟩,⟨E6,rfl,OD⟩,⟨bT,rfl,su,sv⟩,⟨gC,rfl,t6,t7⟩⟩
 refine ch 11 aa (aB aa (ahJ F (bB al) A ae G (aL I ae L) (aL M ae O) (aL U ae Y) ak) ?_);rintro _ _⟨dD,Bw,t8,vA,ss,rfl,mR,yg,Z,xE,z,H8⟩;refine ro 15 aa ?_;refine cE aa ?_ ?_<;>intro h2
 ·exact W
 have k2:=H8 (by simpa using h2);refine aA 4 aa (aB aa (SV F (bB al)) ?_);rintro _ _⟨_,rfl,AX,rfl⟩;refine ro 3 aa ?_;refine cE aa ?_ ?_<;>intro h4
 ·exact W
 refine rc 6 aa ?_;refine br aa ?_ ?_<;>intro h5
 ·exact W
 refine ro 6 aa ?_;refine ay aa ?_ ?_<;>intro h6
 ·exact W
 refine aA 5 aa (aB aa (SQ F mR yg Z ae z (bB al)) ?_);rintro _ _⟨wa,rfl,sa⟩;refine ro 3 aa ?_;refine ay aa ?_ ?_<;>intro h8
 ·exact W
 refine aA 3 aa (aB aa (LS F (bB al) A ae G (aL I ae L) (aL M ae O) (aL U ae Y)) ?_);rintro _ _⟨I4,rfl,ly9_0,uy9_0,MN⟩;refine ro 3 aa ?_;refine ay aa ?_ ?_<;>intro Yy
 ·exact W
 refine aA 4 aa (aB aa (LS F (bB al) A ae G (aL I ae L) (aL M ae O) (aL U ae Y)) ?_);rintro _ _⟨nE,rfl,ly11_0,uy11_0,rQ⟩;have kw:=ql.le rQ.2 MN.1 ae;refine aw (bx aa aa ae ae ?_);refine ro 8 aa (aP aa (VI.fresh aa (eb (ys:=vA) 55 aa aa aa aa aa (.sD Z (cD z aa)) ao ae ?_)));refine rq 2 aa ?_;refine aP rfl (aY (rows:=vA) (ys:=[[(dJ (nE+1)),(aq E6),(dJ bT)]]) rfl rfl rfl (.bs (rows:=[[(dJ (nE+1)),(aq E6),(dJ bT)]]) rfl) ao ae (fun h=>by rw[h];rfl) (fun h=>by rw[h];rfl) ?_);refine rq 1 aa (lQ 58 55 aa aa (fun _=>⟨aa,aa⟩) (aP aa (aB aa (RD (nv:=nv) F (bB al) ae A ae G (aL I ae L) (aL M ae O) (aL U ae Y) (.acc _) Bm (dW z (dG (ah ak (ah (bB al) (ah ak bl))))) ak ae) ?_)));rintro _ _⟨DS,ahN,aff,ahO,ahP,ahQ,rfl,GP,acN,acO,acP,afg,afh,afi⟩;exact W
theorem DropColC{T:aM}(F:FT T){nv:Nat}{a0 a1 a2 a3 a4 a5 a6:DC}(cP:(Ty.s 1000).ok a0){bJ:ai}(L:au bJ a1)(dn:bJ.length≤nv)(M:af dV bJ)(cG:(Ty.l 200 bn).ok a2)(cr:(Ty.l 4 ep).ok a3)(ca:(Ty.l 4 dT).ok a4)(cj:tJ.ok a5)(fi:tJ.ok a6)(mw:nv≤99):Sound T 63 [.agg [.d a0,.d a1,.d a2,.d a3,.d a4],.d a5,.d a6] fun r=>∃y0 y1 kx y3 y4 y5 y6,r= .tuple [.agg [.d y0,.d y1,.d y3,.d y4,.d y5],.d y6]∧(Ty.s 1000).ok y0∧au kx y1∧(kx.length:Int)≤nv+1∧af dV kx∧(Ty.l 200 bn).ok y3∧(Ty.l 4 ep).ok y4∧(Ty.l 4 dT).ok y5∧tJ.ok y6:=by
 refine bm F.q63 aa ?_;rcases cP,cG,cr,ca,cj,fi with⟨⟨gO,rfl,ki⟩,⟨bo,O,df,U⟩,⟨du,Y,fI,Z⟩,⟨dK,dx,eU,dg⟩,⟨cg,rfl,mY,mZ⟩,⟨bu,rfl,nP,nQ⟩⟩
 refine ch 10 aa (aB aa (ahJ F (bB al) L ae M (aL O ae U) (aL Y ae Z) (aL dx ae dg) ak) ?_);rintro _ _⟨dD,Bw,t8,I,ss,rfl,mR,yg,A,xE,G,H8⟩;refine ro 13 aa ?_;refine cE aa ?_ ?_<;>intro h2
 ·exact W
 have k2:=H8 (by simpa using h2);refine aA 5 aa (aB aa (OC F mR yg A ae G ak) ?_);rintro _ _⟨lh,rfl,x9⟩;refine ro 8 aa ?_;refine ay aa ?_ ?_<;>intro h4
 ·exact W
 refine aA 5 aa (aQ aa L ?_);refine ro 4 aa ?_;obtain⟨ahu,rfl,Sz,SA⟩:=Ty.dY mR;refine rp 6 aa ?_;refine br aa ?_ ?_<;>intro g5
 ·refine ro 3 aa ?_;refine br aa ?_ ?_<;>intro g6
  ·refine aN 18 aa (aQ aa A ?_);refine ro 2 aa ?_;refine br aa ?_ ?_<;>intro h7
   ·exact W
   refine ro 2 aa (bM aa aa (aB aa (UJ F (bB al) (aL L ae M) (aL O ae U) (aL Y ae Z) (aL dx ae dg) ak) ?_));rintro _ _⟨wh,rfl,AY⟩;exact W
  refine ro 3 aa (bM aa aa (dQ aa aa ae ae ?_));obtain⟨nH,pj,pz,xC,DO,⟨wx10_2,RE,hnx10_2,RF⟩,gg⟩:=qI ((bJ.length:Int) -2) M;refine bM aa aa (aH aa aa L ae gg aa ?_);refine ro 2 aa (bM aa aa (aB aa (OC F pj xC RE ae RF ak) ?_));rintro _ _⟨nE,rfl,rQ⟩;refine aN 10 aa (aQ aa A ?_);refine ro 2 aa ?_;refine br aa ?_ ?_<;>intro oc
  ·exact W
  refine ro 2 aa (bM aa aa (aB aa (UJ F (bB al) (aL L ae M) (aL O ae U) (aL Y ae Z) (aL dx ae dg) ak) ?_));rintro _ _⟨_,rfl,by13_0,rfl⟩;refine ro 1 aa (rp 1 aa ?_);refine br aa ?_ ?_<;>intro h14
  ·exact W
  refine ro 3 aa ?_;refine ay aa ?_ ?_<;>intro J9
  ·exact W
  refine rc 7 aa ?_;obtain⟨mE,sA,uf⟩:=bD (z:=lh) (n:=I.length+1) ae ae;refine aV (eQ (l:=0) (h:=mE) rfl A G rfl (tE ae) ⟨_,(by rw[←sA];rfl)⟩ rfl ae ae (fun Ye zm Bx OG Eo=>?_));refine aP aa (VI.fresh aa (eb (ys:=zm) 69 aa aa aa aa aa (.sD Bx (cD Eo aa)) ao ae ?_));refine dh 3 aa (bx aa aa ae ae ?_);obtain⟨qe,sB,sC⟩:=bD (z:=(lh+1)) (n:=I.length+1) ae ae;refine aV (eQ (l:=qe) (h:=I.length) rfl A G rfl (tE ae) rfl ⟨_,(by rw[←sB];rfl)⟩ ae ae (fun d19 Yz WW hl19 yQ=>?_));refine aP aa (aY (rows:=zm) (ys:=Yz) aa aa aa (.sD WW (cD yQ aa)) ao ae bR bR ?_);refine rq 1 aa (lQ 75 69 aa aa (fun _=>⟨aa,aa⟩) (aP aa (aB aa (RD (nv:=nv) F (bB al) ae L ae M (aL O ae U) (aL Y ae Z) (aL dx ae dg) (.acc _) Bm (dW Eo yQ) ak ae) ?_)));rintro _ _⟨y20_0,y20_1,wy20_1,y20_3,y20_4,y20_5,rfl,hy20_0,hdy20_1,hny20_1,hry20_1,hy20_3,hy20_4,hy20_5⟩;exact W
 refine ro 3 aa (fS aa (fS aa (fS aa (fS aa (fS aa (fS aa (fS aa (fS aa (fS aa ?_)))))))));refine aN 9 aa (aQ aa A ?_);refine ro 2 aa ?_;refine br aa ?_ ?_<;>intro h21
 ·exact W
 refine ro 2 aa (bM aa aa (aB aa (UJ F (bB al) (aL L ae M) (aL O ae U) (aL Y ae Z) (aL dx ae dg) ak) ?_));rintro _ _⟨_,rfl,by22_0,rfl⟩;refine ro 1 aa (rp 1 aa ?_);refine br aa ?_ ?_<;>intro YA
 ·exact W
 refine ro 3 aa (dq aa aa (rc 7 aa ?_));obtain⟨PD,WX,akd⟩:=bD (z:=lh) (n:=I.length+1) ae ae;refine aV (eQ (l:=0) (h:=PD) rfl A G rfl (tE ae) ⟨_,(by rw[←WX];rfl)⟩ rfl ae ae (fun d25 w25 hd25 hl25 ake=>?_));refine aP aa (VI.fresh aa (eb (ys:=w25) 69 aa aa aa aa aa (.sD hd25 (cD ake aa)) ao ae ?_));refine dh 3 aa (bx aa aa ae ae ?_);obtain⟨zy,BP,yR⟩:=bD (z:=(lh+1)) (n:=I.length+1) ae ae;refine aV (eQ (l:=zy) (h:=I.length) rfl A G rfl (tE ae) rfl ⟨_,(by rw[←BP];rfl)⟩ ae ae (fun d27 w27 hd27 hl27 akf=>?_));refine aP aa (aY (rows:=w25) (ys:=w27) aa aa aa (.sD hd27 (cD akf aa)) ao ae bR bR ?_);refine rq 1 aa (lQ 75 69 aa aa (fun _=>⟨aa,aa⟩) (aP aa (aB aa (RD (nv:=nv) F (bB al) ae L ae M (aL O ae U) (aL Y ae Z) (aL dx ae dg) (.acc _) Bm (dW ake akf) ak ae) ?_)));rintro _ _⟨UW,y28_1,wy28_1,y28_3,y28_4,y28_5,rfl,hy28_0,hdy28_1,hny28_1,hry28_1,hy28_3,hy28_4,hy28_5⟩;exact W
end Go.Ev.Rp
