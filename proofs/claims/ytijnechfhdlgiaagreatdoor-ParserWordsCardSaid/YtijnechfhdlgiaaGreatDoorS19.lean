/- Part 19 of rules for walks through the code of a program, and of such walks; what each part proves is said by its theorems. -/
import Derived.Test.YtijnechfhdlgiaaGreatDoorS17
import Derived.Test.YtijnechfhdlgiaaGreatDoorS18
set_option linter.unusedVariables false
set_option linter.unusedSimpArgs false
namespace Go.Ev.Pp
open Go
set_option maxRecDepth 10000
set_option maxHeartbeats 2000000 in
theorem Ti{T:bf}(F:FT T){D:Rd}{n:Nat}(hS:RT T 282 (eW D n) (n+1) (10*n+1)):RT T 280 (chain (eW D n) lB) (n+1) (10*n+2):=by
 intro a p e N hp Y he hN
 have yy:n≤61:=by omega
 have Z:=zh D hp Y
 refine cr F.aaM aa (ak 1 aa (ai (ae 2 aa (jm (hS a p e N hp Y he hN) aa aa aa aa (fun e1 g1=>?_)))))
 refine ae 1 aa (af ?_)
 refine aM (bN ?_)
 refine d6 (fun k VE B=>∃(x:Int)(q:PS)(e1:List aL),j' (eW D n) lB k x q=(chain (eW D n) lB p)∧(q.err=0→x+1=(e1.length:Nat))∧q.aA.length≤k+q.aJ∧St q∧q.depth=p.depth∧q.aA=p.aA∧EG q e1 (N+(10*n+2))∧bw [(0,.vp 1000 0),(1,.ac 1050 (e1.map aL.enc).length 8)] VE∧bw (PS.be a q e1) B) ?_ (k:=p.aA.length) ⟨(eW D n p).1,(eW D n p).2,e1,rfl,qS g1 (Gl D n p hp Y),by rw[Z.aA];omega,Z.st,Z.depth,Z.aA,g1.dz (by omega),⟨rfl,rfl,trivial⟩,⟨rfl,rfl,trivial⟩⟩
 clear g1
 rintro k VE B⟨x,q,e1,z,hx,hk,K,O,gi,hg,hV,hB⟩
 refine eA (PS.be a q e1) hB ?_
 have hB:bw (PS.be a q e1) (PS.be a q e1):=⟨rfl,rfl,trivial⟩
 have pj:=hg.small K.ok (by omega)
 refine dx _ _ hV hB (aM (ai (ae 1 aa (bI (mr F K.ok eS) aa aa aa aa (af (aK aa (fun A=>?_) (fun A=>?_)))))))
 ·have U:lB q=some (5,(q.sign eS).2):=by unfold lB;rw[aw A]
  have I:=GH A
  obtain⟨k,rfl⟩:∃k',k=k'+1:=⟨k-1,by have:=K.ok.lt;omega⟩
  rw[qd U] at z
  have h2:=BT q _ _ K U
  have h0:=(qs A).1
  have hl:=pC (hx h0)
  have gz:=(hg.zero K.ok h0).km h2 (oy ..)
  generalize (q.sign eS).2=G at U z h2 I gz⊢
  have J:G.depth+(n+1)=61:=by rw[h2.depth,O];exact Y
  have h3:=zh D h2.st J
  refine aU (bN (ai (ae 2 aa ?_)))
  refine al (gj rfl rfl (by simp only[cC,bb];omega) (by simp only[cC,bb];omega) ?_)
  rw[hl]
  refine ae 1 aa (af ?_)
  refine bG (ae 2 aa ?_)
  refine jm (hS a G e1 0 h2.st J gz (by omega)) rfl rfl rfl rfl (fun e2 g2=>?_)
  refine ae 1 aa ?_
  refine uH (uI F (e:=e2) (g2.small h3.st.ok (by omega)) 5 x) rfl rfl rfl ?_
  refine ae 1 aa (af ?_)
  have h4:=bD.push K.ok (k:=0) ((h2.trans h3).dz (by omega)) (⟨5,x,(eW D n G).1,[],[],cq⟩:aL)
  exact⟨k,by omega,((eW D n G).2.push (⟨5,x,(eW D n G).1,[],[],cq⟩:aL)).1,((eW D n G).2.push (⟨5,x,(eW D n G).1,[],[],cq⟩:aL)).2,e2++[(⟨5,x,((e2.map aL.enc).length:Nat) -Int.ofNat 1,[],[],cq⟩:aL)],z,zb g2,by rw[h4.aA];have:=h3.aJ;show q.aA.length≤k+(eW D n G).2.aJ;omega,h4.st,h4.depth.trans O,h4.aA.trans gi,(g2.join (Gl D n G h2.st J) 5 x).dz (by omega),⟨rfl,rfl,trivial⟩,⟨rfl,rfl,trivial⟩⟩
 have U:lB q=none:=by unfold lB;rw[aj (by rw[A];decide)]
 rw[rO U] at z
 rw[PS.ig A]
 refine dM (ak 2 aa (ax ?_))
 rw[←z]
 exact⟨_,PS.be a q e1,aa,⟨aa,aa,trivial⟩,⟨e1,aa,aa,hg⟩⟩
set_option maxHeartbeats 2000000 in
theorem Wu{T:bf}(F:FT T){D:Rd}{n:Nat}(hS:RT T 263 (eE D (n+1)) (n+1) (10*n+5)):RT T 235 (chain (eE D (n+1)) mb) (n+1) (10*n+6):=by
 intro a p e N hp Y he hN
 have yy:n≤61:=by omega
 have Z:=(fun a b=>(pE D (n+1)).2 _ a b) hp Y
 refine cr F.aam aa (ak 1 aa (ai (ae 2 aa (jm (hS a p e N hp Y he hN) aa aa aa aa (fun e1 g1=>?_)))))
 refine ae 1 aa (af ?_)
 refine aM (bN ?_)
 refine d6 (fun k VE B=>∃(x:Int)(q:PS)(e1:List aL),j' (eE D (n+1)) mb k x q=(chain (eE D (n+1)) mb p)∧(q.err=0→x+1=(e1.length:Nat))∧q.aA.length≤k+q.aJ∧St q∧q.depth=p.depth∧q.aA=p.aA∧EG q e1 (N+(10*n+6))∧bw [(0,.vp 1000 0),(1,.ac 1050 (e1.map aL.enc).length 8)] VE∧bw (PS.be a q e1) B) ?_ (k:=p.aA.length) ⟨(eE D (n+1) p).1,(eE D (n+1) p).2,e1,rfl,qS g1 ((vL D (n+1)).2 p hp Y),by rw[Z.aA];omega,Z.st,Z.depth,Z.aA,g1.dz (by omega),⟨rfl,rfl,trivial⟩,⟨rfl,rfl,trivial⟩⟩
 clear g1
 rintro k VE B⟨x,q,e1,z,hx,hk,K,O,gi,hg,hV,hB⟩
 refine eA (PS.be a q e1) hB ?_
 have hB:bw (PS.be a q e1) (PS.be a q e1):=⟨rfl,rfl,trivial⟩
 have pj:=hg.small K.ok (by omega)
 refine dx _ _ hV hB (aM (ai (ae 1 aa (bI (fD F K.ok ma) aa aa aa aa (af (aK aa (fun A=>?_) (fun A=>?_)))))))
 ·have U:mb q=some (9,(q.keyword ma).2):=by unfold mb;rw[aw A]
  have I:=y6 A
  obtain⟨k,rfl⟩:∃k',k=k'+1:=⟨k-1,by have:=K.ok.lt;omega⟩
  rw[qd U] at z
  have h2:=B3 q _ _ K U
  have h0:=(uG A).1
  have hl:=pC (hx h0)
  have gz:=(hg.zero K.ok h0).km h2 (mi ..)
  generalize (q.keyword ma).2=G at U z h2 I gz⊢
  have J:G.depth+(n+1)=61:=by rw[h2.depth,O];exact Y
  have h3:=(fun a b=>(pE D (n+1)).2 _ a b) h2.st J
  refine aU (bN (ai (ae 2 aa ?_)))
  refine al (gj rfl rfl (by simp only[cC,bb];omega) (by simp only[cC,bb];omega) ?_)
  rw[hl]
  refine ae 1 aa (af ?_)
  refine bG (ae 2 aa ?_)
  refine jm (hS a G e1 0 h2.st J gz (by omega)) rfl rfl rfl rfl (fun e2 g2=>?_)
  refine ae 1 aa ?_
  refine uH (uI F (e:=e2) (g2.small h3.st.ok (by omega)) 9 x) rfl rfl rfl ?_
  refine ae 1 aa (af ?_)
  have h4:=bD.push K.ok (k:=0) ((h2.trans h3).dz (by omega)) (⟨9,x,(eE D (n+1) G).1,[],[],cq⟩:aL)
  exact⟨k,by omega,((eE D (n+1) G).2.push (⟨9,x,(eE D (n+1) G).1,[],[],cq⟩:aL)).1,((eE D (n+1) G).2.push (⟨9,x,(eE D (n+1) G).1,[],[],cq⟩:aL)).2,e2++[(⟨9,x,((e2.map aL.enc).length:Nat) -Int.ofNat 1,[],[],cq⟩:aL)],z,zb g2,by rw[h4.aA];have:=h3.aJ;show q.aA.length≤k+(eE D (n+1) G).2.aJ;omega,h4.st,h4.depth.trans O,h4.aA.trans gi,(g2.join ((vL D (n+1)).2 G h2.st J) 9 x).dz (by omega),⟨rfl,rfl,trivial⟩,⟨rfl,rfl,trivial⟩⟩
 have U:mb q=none:=by unfold mb;rw[aj (by rw[A];decide)]
 rw[rO U] at z
 rw[PS.cL A]
 refine dM (ak 2 aa (ax ?_))
 rw[←z]
 exact⟨_,PS.be a q e1,aa,⟨aa,aa,trivial⟩,⟨e1,aa,aa,hg⟩⟩
set_option maxHeartbeats 2000000 in
theorem Wv{T:bf}(F:FT T){D:Rd}{n:Nat}(hS:RT T 235 (iY D n) (n+1) (10*n+6)):RT T 199 (chain (iY D n) mC) (n+1) (10*n+7):=by
 intro a p e N hp Y he hN
 have yy:n≤61:=by omega
 have Z:=Cp D hp Y
 refine cr F.Z1 aa (ak 1 aa (ai (ae 2 aa (jm (hS a p e N hp Y he hN) aa aa aa aa (fun e1 g1=>?_)))))
 refine ae 1 aa (af ?_)
 refine aM (bN ?_)
 refine d6 (fun k VE B=>∃(x:Int)(q:PS)(e1:List aL),j' (iY D n) mC k x q=(chain (iY D n) mC p)∧(q.err=0→x+1=(e1.length:Nat))∧q.aA.length≤k+q.aJ∧St q∧q.depth=p.depth∧q.aA=p.aA∧EG q e1 (N+(10*n+7))∧bw [(0,.vp 1000 0),(1,.ac 1050 (e1.map aL.enc).length 8)] VE∧bw (PS.be a q e1) B) ?_ (k:=p.aA.length) ⟨(iY D n p).1,(iY D n p).2,e1,rfl,qS g1 (L9 D n p hp Y),by rw[Z.aA];omega,Z.st,Z.depth,Z.aA,g1.dz (by omega),⟨rfl,rfl,trivial⟩,⟨rfl,rfl,trivial⟩⟩
 clear g1
 rintro k VE B⟨x,q,e1,z,hx,hk,K,O,gi,hg,hV,hB⟩
 refine eA (PS.be a q e1) hB ?_
 have hB:bw (PS.be a q e1) (PS.be a q e1):=⟨rfl,rfl,trivial⟩
 have pj:=hg.small K.ok (by omega)
 refine dx _ _ hV hB (aM (ai (ae 1 aa (bI (fD F K.ok mg) aa aa aa aa (af (aK aa (fun A=>?_) (fun A=>?_)))))))
 ·have U:mC q=some (10,(q.keyword mg).2):=by unfold mC;rw[aw A]
  have I:=y6 A
  obtain⟨k,rfl⟩:∃k',k=k'+1:=⟨k-1,by have:=K.ok.lt;omega⟩
  rw[qd U] at z
  have h2:=GC q _ _ K U
  have h0:=(uG A).1
  have hl:=pC (hx h0)
  have gz:=(hg.zero K.ok h0).km h2 (mi ..)
  generalize (q.keyword mg).2=G at U z h2 I gz⊢
  have J:G.depth+(n+1)=61:=by rw[h2.depth,O];exact Y
  have h3:=Cp D h2.st J
  refine aU (bN (ai (ae 2 aa ?_)))
  refine al (gj rfl rfl (by simp only[cC,bb];omega) (by simp only[cC,bb];omega) ?_)
  rw[hl]
  refine ae 1 aa (af ?_)
  refine bG (ae 2 aa ?_)
  refine jm (hS a G e1 0 h2.st J gz (by omega)) rfl rfl rfl rfl (fun e2 g2=>?_)
  refine ae 1 aa ?_
  refine uH (uI F (e:=e2) (g2.small h3.st.ok (by omega)) 10 x) rfl rfl rfl ?_
  refine ae 1 aa (af ?_)
  have h4:=bD.push K.ok (k:=0) ((h2.trans h3).dz (by omega)) (⟨10,x,(iY D n G).1,[],[],cq⟩:aL)
  exact⟨k,by omega,((iY D n G).2.push (⟨10,x,(iY D n G).1,[],[],cq⟩:aL)).1,((iY D n G).2.push (⟨10,x,(iY D n G).1,[],[],cq⟩:aL)).2,e2++[(⟨10,x,((e2.map aL.enc).length:Nat) -Int.ofNat 1,[],[],cq⟩:aL)],z,zb g2,by rw[h4.aA];have:=h3.aJ;show q.aA.length≤k+(iY D n G).2.aJ;omega,h4.st,h4.depth.trans O,h4.aA.trans gi,(g2.join (L9 D n G h2.st J) 10 x).dz (by omega),⟨rfl,rfl,trivial⟩,⟨rfl,rfl,trivial⟩⟩
 have U:mC q=none:=by unfold mC;rw[aj (by rw[A];decide)]
 rw[rO U] at z
 rw[PS.cL A]
 refine dM (ak 2 aa (ax ?_))
 rw[←z]
 exact⟨_,PS.be a q e1,aa,⟨aa,aa,trivial⟩,⟨e1,aa,aa,hg⟩⟩
open Go
set_option maxRecDepth 10000
set_option maxHeartbeats 2000000 in
theorem aaR{T:bf}(F:FT T){D:Rd}{n:Nat}(hS:RT T 280 (e8 D n) (n+1) (10*n+2)):RT T 278 (chain (e8 D n) kj) (n+1) (10*n+3):=by
 intro a p e N hp hd he hN
 have yy:n≤61:=by omega
 have h1:=vA D hp hd
 refine cr F.aaK aa (ak 1 aa (ai (ae 2 aa (jm (hS a p e N hp hd he hN) aa aa aa aa (fun e1 g1=>?_)))))
 refine ae 1 aa (af ?_)
 refine bN ?_
 refine d6 (fun k VE B=>∃(x:Int)(q:PS)(e1:List aL),j' (e8 D n) kj k x q=(chain (e8 D n) kj p)∧(q.err=0→x+1=(e1.length:Nat))∧q.aA.length≤k+q.aJ∧St q∧q.depth=p.depth∧q.aA=p.aA∧EG q e1 (N+(10*n+3))∧bw [(0,.vp 1000 0),(1,.ac 1050 (e1.map aL.enc).length 8)] VE∧bw (PS.be a q e1) B) ?_ (k:=p.aA.length) ⟨(e8 D n p).1,(e8 D n p).2,e1,rfl,qS g1 (B6 D n p hp hd),by rw[h1.aA];omega,h1.st,h1.depth,h1.aA,g1.dz (by omega),⟨rfl,rfl,trivial⟩,⟨rfl,rfl,trivial⟩⟩
 clear g1
 rintro k VE B⟨x,q,e1,z,hx,hk,G,U,gi,hg,hV,hB⟩
 refine eA (PS.be a q e1) hB ?_
 have hB:bw (PS.be a q e1) (PS.be a q e1):=⟨rfl,rfl,trivial⟩
 have pj:=hg.small G.ok (by omega)
 refine dx _ _ hV hB (bN (ai (ae 2 aa ?_)))
 refine al (gj rfl rfl (by simp only[cC,bb];omega) (by simp only[cC,bb];omega) ?_)
 obtain⟨v,hv⟩:∃v:Int,(((e1.map aL.enc).length:Nat):Int) -Int.ofNat 1=v:=⟨_,rfl⟩
 rw[hv]
 refine ae 1 aa (af ?_)
 refine bN (ai (ae 1 aa (bI (mr F G.ok nK) aa aa aa aa (ae 1 aa (af ?_)))))
 refine aK aa (fun bJ=>?_) (fun bJ=>?_)
 ·have Y:=Si bJ
  have I:=GH bJ
  obtain⟨k,rfl⟩:∃k',k=k'+1:=⟨k-1,by have:=G.ok.lt;omega⟩
  rw[qd Y] at z
  have h2:=wZ q _ _ G Y
  have h0:=(qs bJ).1
  have Z:x=v:=(pC (hx h0)).symm.trans hv
  subst Z
  have gz:=(hg.zero G.ok h0).km h2 (oy ..)
  generalize (q.sign nK).2=A at Y z h2 I gz⊢
  have J:A.depth+(n+1)=61:=by rw[h2.depth,U];exact hd
  have K:=vA D h2.st J
  refine bG (ae 2 aa ?_)
  refine jm (hS a A e1 0 h2.st J gz (by omega)) rfl rfl rfl rfl (fun e2 g2=>?_)
  refine ae 1 aa ?_
  refine uH (uI F (e:=e2) (g2.small K.st.ok (by omega)) 3 x) rfl rfl rfl ?_
  refine ae 1 aa (af ?_)
  exact⟨k,by omega,((e8 D n A).2.push (⟨3,x,(e8 D n A).1,[],[],cq⟩:aL)).1,((e8 D n A).2.push (⟨3,x,(e8 D n A).1,[],[],cq⟩:aL)).2,e2++[(⟨3,x,((e2.map aL.enc).length:Nat) -Int.ofNat 1,[],[],cq⟩:aL)],z,zb g2,by rw[(bD.push G.ok (k:=0) ((h2.trans K).dz (by omega)) (⟨3,x,(e8 D n A).1,[],[],cq⟩:aL)).aA];have:=K.aJ;show q.aA.length≤k+(e8 D n A).2.aJ;omega,(bD.push G.ok (k:=0) ((h2.trans K).dz (by omega)) (⟨3,x,(e8 D n A).1,[],[],cq⟩:aL)).st,(bD.push G.ok (k:=0) ((h2.trans K).dz (by omega)) (⟨3,x,(e8 D n A).1,[],[],cq⟩:aL)).depth.trans U,(bD.push G.ok (k:=0) ((h2.trans K).dz (by omega)) (⟨3,x,(e8 D n A).1,[],[],cq⟩:aL)).aA.trans gi,(g2.join (B6 D n A h2.st J) 3 x).dz (by omega),⟨rfl,rfl,trivial⟩,⟨rfl,rfl,trivial⟩⟩
 rw[PS.ig bJ]
 refine ai (ae 1 aa (bI (mr F G.ok gH) aa aa aa aa (ae 1 aa (af ?_))))
 refine aK aa (fun O=>?_) (fun O=>?_)
 ·have Y:=Rz O
  have I:=GH O
  obtain⟨k,rfl⟩:∃k',k=k'+1:=⟨k-1,by have:=G.ok.lt;omega⟩
  rw[qd Y] at z
  have h2:=wZ q _ _ G Y
  have h0:=(qs O).1
  have Z:x=v:=(pC (hx h0)).symm.trans hv
  subst Z
  have gz:=(hg.zero G.ok h0).km h2 (oy ..)
  generalize (q.sign gH).2=A at Y z h2 I gz⊢
  have J:A.depth+(n+1)=61:=by rw[h2.depth,U];exact hd
  have K:=vA D h2.st J
  refine bG (ae 2 aa ?_)
  refine jm (hS a A e1 0 h2.st J gz (by omega)) rfl rfl rfl rfl (fun e2 g2=>?_)
  refine ae 1 aa ?_
  refine uH (uI F (e:=e2) (g2.small K.st.ok (by omega)) 4 x) rfl rfl rfl ?_
  refine ae 1 aa (af ?_)
  exact⟨k,by omega,((e8 D n A).2.push (⟨4,x,(e8 D n A).1,[],[],cq⟩:aL)).1,((e8 D n A).2.push (⟨4,x,(e8 D n A).1,[],[],cq⟩:aL)).2,e2++[(⟨4,x,((e2.map aL.enc).length:Nat) -Int.ofNat 1,[],[],cq⟩:aL)],z,zb g2,by rw[(bD.push G.ok (k:=0) ((h2.trans K).dz (by omega)) (⟨4,x,(e8 D n A).1,[],[],cq⟩:aL)).aA];have:=K.aJ;show q.aA.length≤k+(e8 D n A).2.aJ;omega,(bD.push G.ok (k:=0) ((h2.trans K).dz (by omega)) (⟨4,x,(e8 D n A).1,[],[],cq⟩:aL)).st,(bD.push G.ok (k:=0) ((h2.trans K).dz (by omega)) (⟨4,x,(e8 D n A).1,[],[],cq⟩:aL)).depth.trans U,(bD.push G.ok (k:=0) ((h2.trans K).dz (by omega)) (⟨4,x,(e8 D n A).1,[],[],cq⟩:aL)).aA.trans gi,(g2.join (B6 D n A h2.st J) 4 x).dz (by omega),⟨rfl,rfl,trivial⟩,⟨rfl,rfl,trivial⟩⟩
 have Y:=Uo bJ O
 rw[rO Y] at z
 rw[PS.ig O]
 refine ak 2 aa (ax ?_)
 rw[←z]
 exact⟨_,PS.be a q e1,aa,⟨aa,aa,trivial⟩,⟨e1,aa,aa,hg⟩⟩
set_option maxHeartbeats 2000000 in
theorem QW{T:bf}(F:FT T){D:Rd}{n:Nat}(hS:RT T 278 (eo D n) (n+1) (10*n+3)):RT T 274 (iD (eo D n)) (n+1) (10*n+4):=by
 intro a p e N hp hd he hN
 have yy:n≤61:=by omega
 have G:=tJ D hp hd
 refine cr F.aaF aa (ak 1 aa (ai (ae 2 aa (jm (hS a p e N hp hd he hN) aa aa aa aa (fun e1 g1=>?_)))))
 have pj:=g1.small G.st.ok (by omega)
 refine ae 1 aa (af ?_)
 refine ai (ae 2 aa ?_)
 refine al (gj rfl rfl (by simp only[cC,bb];omega) (by simp only[cC,bb];omega) ?_)
 obtain⟨v,hv⟩:∃v:Int,(((e1.map aL.enc).length:Nat):Int) -Int.ofNat 1=v:=⟨_,rfl⟩
 rw[hv]
 refine ae 1 aa (af ?_)
 refine aM (bN (ai (ae 1 aa (bI (mr F G.st.ok mS) aa aa aa aa (ae 1 aa (af ?_))))))
 refine aK aa (fun A=>?_) (fun A=>?_)
 ·have U:iD (eo D n) p=rK (eo D n) 6 (eo D n p).1 ((eo D n p).2.sign mS).2:=by unfold iD;rw[aw A]
  have Y:=bD.sign G.st A
  have h2:=G.trans Y
  have h0:=(qs A).1
  have J:(eo D n p).1=v:=(pC (qS g1 (vG D n p hp hd) h0)).symm.trans hv
  rw[←J]
  have gz:=(g1.zero G.st.ok h0).km Y (oy ..)
  generalize ((eo D n p).2.sign mS).2=Z at U h2 gz⊢
  have z:Z.depth+(n+1)=61:=by rw[h2.depth];exact hd
  have h3:=tJ D h2.st z
  refine ai (ae 2 aa ?_)
  refine jm (hS a Z e1 0 h2.st z gz (by omega)) rfl rfl rfl rfl (fun e2 g2=>?_)
  refine ae 1 aa ?_
  refine uH (uI F (e:=e2) (g2.small h3.st.ok (by omega)) 6 _) rfl rfl rfl ?_
  refine ae 1 aa (af ?_)
  refine ax ?_
  rw[U]
  exact⟨_,PS.be a _ _,rfl,⟨rfl,rfl,trivial⟩,⟨_,rfl,rfl,(g2.join (vG D n Z h2.st z) 6 _).dz (by omega)⟩⟩
 rw[PS.ig A]
 refine ai (ae 1 aa (bI (mr F G.st.ok uD) aa aa aa aa (ae 1 aa (af ?_))))
 refine aK aa (fun I=>?_) (fun I=>?_)
 ·have U:iD (eo D n) p=rK (eo D n) 7 (eo D n p).1 ((eo D n p).2.sign uD).2:=by unfold iD;rw[aj (by rw[A];decide),aw I]
  have Y:=bD.sign G.st I
  have h2:=G.trans Y
  have h0:=(qs I).1
  have J:(eo D n p).1=v:=(pC (qS g1 (vG D n p hp hd) h0)).symm.trans hv
  rw[←J]
  have gz:=(g1.zero G.st.ok h0).km Y (oy ..)
  generalize ((eo D n p).2.sign uD).2=Z at U h2 gz⊢
  have z:Z.depth+(n+1)=61:=by rw[h2.depth];exact hd
  have h3:=tJ D h2.st z
  refine ai (ae 2 aa ?_)
  refine jm (hS a Z e1 0 h2.st z gz (by omega)) rfl rfl rfl rfl (fun e2 g2=>?_)
  refine ae 1 aa ?_
  refine uH (uI F (e:=e2) (g2.small h3.st.ok (by omega)) 7 _) rfl rfl rfl ?_
  refine ae 1 aa (af ?_)
  refine ax ?_
  rw[U]
  exact⟨_,PS.be a _ _,rfl,⟨rfl,rfl,trivial⟩,⟨_,rfl,rfl,(g2.join (vG D n Z h2.st z) 7 _).dz (by omega)⟩⟩
 rw[PS.ig I]
 refine ai (ae 1 aa (bI (mr F G.st.ok uE) aa aa aa aa (ae 1 aa (af ?_))))
 refine aK aa (fun K=>?_) (fun K=>?_)
 ·have U:iD (eo D n) p=rK (eo D n) 8 (eo D n p).1 ((eo D n p).2.sign uE).2:=by unfold iD;rw[aj (by rw[A];decide),aj (by rw[I];decide),aw K]
  have Y:=bD.sign G.st K
  have h2:=G.trans Y
  have h0:=(qs K).1
  have J:(eo D n p).1=v:=(pC (qS g1 (vG D n p hp hd) h0)).symm.trans hv
  rw[←J]
  have gz:=(g1.zero G.st.ok h0).km Y (oy ..)
  generalize ((eo D n p).2.sign uE).2=Z at U h2 gz⊢
  have z:Z.depth+(n+1)=61:=by rw[h2.depth];exact hd
  have h3:=tJ D h2.st z
  refine ai (ae 2 aa ?_)
  refine jm (hS a Z e1 0 h2.st z gz (by omega)) rfl rfl rfl rfl (fun e2 g2=>?_)
  refine ae 1 aa ?_
  refine uH (uI F (e:=e2) (g2.small h3.st.ok (by omega)) 8 _) rfl rfl rfl ?_
  refine ae 1 aa (af ?_)
  refine ax ?_
  rw[U]
  exact⟨_,PS.be a _ _,rfl,⟨rfl,rfl,trivial⟩,⟨_,rfl,rfl,(g2.join (vG D n Z h2.st z) 8 _).dz (by omega)⟩⟩
 rw[PS.ig K]
 refine ai (ae 1 aa (bI (fD F G.st.ok yQ) aa aa aa aa (ae 1 aa (af ?_))))
 refine aK aa (fun O=>?_) (fun O=>?_)
 ·have U:iD (eo D n) p=un (((eo D n p).2.keyword yQ).2.aW [ld]) 12 (eo D n p).1:=by unfold iD;rw[aj (by rw[A];decide),aj (by rw[I];decide),aj (by rw[K];decide),aw O]
  have Y:=bD.keyword G.st O
  have h2:=G.trans Y
  have h0:=(uG O).1
  have J:v=(eo D n p).1:=hv.symm.trans (pC (qS g1 (vG D n p hp hd) h0))
  have gz:=((g1.zero G.st.ok h0).km Y (mi ..)).km (bD.aW (l:=[ld]) h2.st) pn
  refine ai (ae 1 aa (bI (iW F h2.st.ok ld) aa aa aa aa (af (ai (ae 4 aa ?_)))))
  refine al (ey (rows:=e1.map aL.enc) (ys:=[(⟨12,v,0,[],[],cq⟩:aL).enc]) rfl rfl rfl (.bs (rows:=[(⟨12,v,0,[],[],cq⟩:aL).enc]) rfl) (bW rfl) (by rw[bK,cC];simp only[dk,dO];omega) (fun h=>by rw[h];rfl) (fun h=>by rw[h];rfl) ?_)
  refine ae 1 aa (af ?_)
  refine ax ?_
  rw[U]
  exact⟨_,PS.be a (un _ 12 _).2 (e1++[⟨12,v,0,[],[],cq⟩]),rfl,As rfl rfl,⟨e1++[⟨12,v,0,[],[],cq⟩],by rw[dT];rfl,rfl,(gz.un (fun _=>J) 12).dz (by omega)⟩⟩
 have U:iD (eo D n) p=eo D n p:=by unfold iD;rw[aj (by rw[A];decide),aj (by rw[I];decide),aj (by rw[K];decide),aj (by rw[O];decide)]
 rw[PS.cL O]
 refine aU (ak 2 aa (ax ?_))
 rw[U]
 exact⟨_,PS.be a _ e1,rfl,⟨rfl,rfl,trivial⟩,⟨e1,rfl,rfl,g1.dz (by omega)⟩⟩
open Go
set_option maxRecDepth 10000
set_option maxHeartbeats 2000000 in
theorem Sj{T:bf}(F:FT T){D:Rd}{n:Nat}(hS:RT T 274 (cmpL D n) (n+1) (10*n+4))(hI:RT T 263 (eE D n) n (10*n)):RT T 263 (eE D (n+1)) (n+1) (10*n+5):=by
 intro a p e N hp hd he hN
 have yy:n≤61:=by omega
 refine cr F.aay aa (ak 1 aa (aM (ai (ae 1 aa (bI (yS F hp.ok 1 wo) aa aa aa aa (ae 1 aa (af ?_)))))))
 refine aK aa (fun U=>?_) (fun U=>?_)
 ·have G:p.next 1 wo=false:=by simpa using U
  have K:eE D (n+1) p=cmpL D n p:=by rw[wQ];unfold ni;rw[aw G]
  refine ai (ae 2 aa (jm (hS a p e N hp hd he hN) aa aa aa aa (fun e1 I=>?_)))
  refine ae 1 aa (af ?_)
  refine ax ?_
  rw[K]
  exact⟨_,PS.be a _ e1,rfl,⟨rfl,rfl,trivial⟩,⟨e1,rfl,rfl,I.dz (by omega)⟩⟩
 have G:p.next 1 wo=true:=by simpa using U
 have J:=PS.kV hp.ok (kind:=1) (by decide) G
 refine aU (aM (ai (ae 1 aa (bI (Oc F hp.ok (PS.w4 G) J) aa aa aa aa (ae 1 aa (af ?_))))))
 refine aK aa (fun bJ=>?_) (fun bJ=>?_)
 ·have z:p.enter.1=false:=by simpa using bJ
  have K:eE D (n+1) p=(0,p.enter.2):=by rw[wQ];unfold ni;rw[aj (by rw[G];decide),aw z]
  rw[aj (by rw[z];decide)]
  have I:EG p.enter.2 e N:=by rw[PS.xe z];exact he.km (bD.fail hp (by decide)) (vF ..)
  refine ak 2 aa (ax ?_)
  rw[K]
  exact⟨_,PS.be a _ e,rfl,⟨rfl,rfl,trivial⟩,⟨e,rfl,rfl,I.dz (by omega)⟩⟩
 have z:p.enter.1=true:=by simpa using bJ
 have J:=PS.kV hp.ok (kind:=1) (by decide) G
 obtain⟨Y,O⟩:=hp.qV z J
 have A:p.enter.2.step.depth+n=61:=by rw[O];omega
 have gd:=he.deep z
 rw[aw z]
 have K:eE D (n+1) p=un (eE D n p.enter.2.step).2.up 11 (eE D n p.enter.2.step).1:=by rw[wQ];unfold ni;rw[aj (by rw[G];decide),aj (by rw[z];decide)]
 have Z:=(pE D n).2 _ Y A
 have p':1≤((eE D n p.enter.2.step).2).depth:=by rw[Z.depth,O];omega
 have hrl:=Z.st.ok.kD
 have mT:((((eE D n p.enter.2.step).2).depth:Nat):Int) -Int.ofNat 1=((((eE D n p.enter.2.step).2).depth-1:Nat):Int):=by simp only[bb];omega
 refine aU (ai (ae 2 aa (jm (hI a p.enter.2.step e N Y A gd hN) aa aa aa aa (fun e1 I=>?_))))
 refine ae 1 aa (af ?_)
 refine ai (ae 4 aa ?_)
 refine al (gj rfl rfl (by simp only[bb];omega) (by simp only[bb];omega) ?_)
 rw[mT]
 refine ae 3 aa (af ?_)
 refine ai (ez (PS.be a (eE D n p.enter.2.step).2.up e1) ⟨aa,aa,trivial⟩ ?_)
 have pj:=I.small Z.st.ok (by omega)
 refine ae 3 aa ?_
 refine al (gj rfl rfl (by simp only[cC,bb];omega) (by simp only[cC,bb];omega) ?_)
 obtain⟨v,hv⟩:∃v:Int,(((e1.map aL.enc).length:Nat):Int) -Int.ofNat 1=v:=⟨_,rfl⟩
 rw[hv]
 refine ae 2 aa ?_
 refine al (ey (rows:=e1.map aL.enc) (ys:=[(⟨11,v,0,[],[],cq⟩:aL).enc]) rfl rfl rfl (.bs (rows:=[(⟨11,v,0,[],[],cq⟩:aL).enc]) rfl) (bW rfl) (by rw[bK,cC];simp only[dk,dO];omega) (fun h=>by rw[h];rfl) (fun h=>by rw[h];rfl) ?_)
 refine ae 1 aa (af ?_)
 refine ax ?_
 rw[K]
 exact⟨_,PS.be a (un _ 11 _).2 (e1++[⟨11,v,0,[],[],cq⟩]),rfl,As rfl rfl,⟨e1++[⟨11,v,0,[],[],cq⟩],by rw[dT];rfl,rfl,(I.up.un (fun h0=>hv.symm.trans (pC (qS I ((vL D n).2 _ Y A) h0))) 11).dz (by omega)⟩⟩
set_option maxHeartbeats 2000000 in
theorem Tj{T:bf}(F:FT T){D:Rd}(Lq:ke T D){n:Nat}(hI:RT T 199 (lC D n) n (10*n)):RT T 282 (eW D n) (n+1) (10*n+1):=by
 intro a p e N hp hd he hN
 have yy:n≤61:=by omega
 refine cr F.aaO aa (ak 1 aa (aM (ak 5 aa (aK aa (fun I=>?_) (fun I=>?_)))))
 ·have h0:¬p.err=0:=by simpa using I
  have A:eW D n p=(0,p):=by unfold eW lg;rw[aw h0]
  refine ak 2 aa (ax ?_)
  rw[A]
  exact⟨_,PS.be a _ e,rfl,⟨rfl,rfl,trivial⟩,⟨e,rfl,rfl,he.dz (by omega)⟩⟩
 have h0:p.err=0:=by simpa using I
 refine aU (aM (ai (ae 1 aa (bI (yS F hp.ok 5 cm) aa aa aa aa (af (aK aa (fun J=>?_) (fun J=>?_)))))))
 ·have K:p.next 5 cm=true:=J
  have O:=PS.kV hp.ok (kind:=5) (by decide) K
  refine aM (ai (ae 1 aa (bI (Oc F hp.ok h0 O) aa aa aa aa (af (aK aa (fun U=>?_) (fun U=>?_))))))
  ·have z:p.enter.1=true:=by simpa using U
   have O:=PS.kV hp.ok (kind:=5) (by decide) K
   obtain⟨hq,PR⟩:=hp.qV z O
   have G:p.enter.2.step.depth+n=61:=by rw[PR];omega
   have gd:=he.deep z
   rw[aw z]
   have A:eW D n p=((lC D n p.enter.2.step).1,((lC D n p.enter.2.step).2.bx dL).up):=by unfold eW lg;rw[aj (by simpa using h0),aw K,aj (by rw[z];decide)];rfl
   have Y:=(pE D n).1 _ hq G
   have nz:=bD.bx Y.st dL
   have hr:=Y.trans nz
   have p':1≤(((lC D n p.enter.2.step).2.bx dL)).depth:=by rw[hr.depth,PR];omega
   have hrl:=hr.st.ok.kD
   have mT:(((((lC D n p.enter.2.step).2.bx dL)).depth:Nat):Int) -Int.ofNat 1=(((((lC D n p.enter.2.step).2.bx dL)).depth-1:Nat):Int):=by simp only[bb];omega
   refine ai (ae 2 aa (jm (hI a p.enter.2.step e N hq G gd hN) aa aa aa aa (fun e1 g1=>?_)))
   refine ae 1 aa (af ?_)
   refine ai (ae 1 aa (bI (oj F Y.st.ok dL) aa aa aa aa (af (bG (ae 4 aa ?_)))))
   refine al (gj rfl rfl (by simp only[bb];omega) (by simp only[bb];omega) ?_)
   rw[mT]
   refine ae 3 aa (af ?_)
   refine ak 2 aa (ax ?_)
   rw[A]
   exact⟨_,PS.be a ((lC D n p.enter.2.step).2.bx dL).up e1,rfl,⟨rfl,rfl,trivial⟩,⟨e1,rfl,rfl,((g1.km nz (rN ..)).up).dz (by omega)⟩⟩
  have z:p.enter.1=false:=by simpa using U
  have A:eW D n p=(0,p.enter.2):=by unfold eW lg;rw[aj (by simpa using h0),aw K,aw z]
  rw[aj (by rw[z];decide)]
  have g1:EG p.enter.2 e N:=by rw[PS.xe z];exact he.km (bD.fail hp (by decide)) (vF ..)
  refine aU (ak 2 aa (ax ?_))
  rw[A]
  exact⟨_,PS.be a _ e,rfl,⟨rfl,rfl,trivial⟩,⟨e,rfl,rfl,g1.dz (by omega)⟩⟩
 have K:p.next 5 cm=false:=J
 have sG:(p.aA.map cM.enc)[p.aJ]?=some p.tok.enc:=by rw[iw,hp.ok.get];rfl
 refine aU (aM (eX (bo 8 aa (dG (kZ (row:=p.tok.enc) aa aa sG aa ?_)))))
 refine bo 3 aa (dc ?_)
 refine aK aa (fun Z=>?_) (fun Z=>?_)
 ·have hk:p.tok.kind=2:=by simpa using Z
  have A:eW D n p=p.f5:=by unfold eW lg;rw[aj (by simpa using h0),aj (by rw[K];decide),aw hk]
  refine ai (ae 2 aa (jm (L' F a p e N hp trivial he hN) aa aa aa aa (fun e1 g1=>?_)))
  refine ae 1 aa (af ?_)
  refine ax ?_
  rw[A]
  exact⟨_,PS.be a _ e1,rfl,⟨rfl,rfl,trivial⟩,⟨e1,rfl,rfl,g1.dz (by omega)⟩⟩
 have hk:¬p.tok.kind=2:=by simpa using Z
 have A:eW D n p=(p.literal D).2.push ⟨1,0,0,[],[],(p.literal D).1⟩:=by unfold eW lg;rw[aj (by simpa using h0),aj (by rw[K];decide),aj hk]
 have gl:EG (p.literal D).2 e N:=he.km (bD.Gh hp D h0) (Ry ..)
 refine aU (ai (ae 1 aa (al (Od (Lo F Lq hp) aa aa aa (fun v b q k1 k2=>?_)))))
 refine ae 6 aa (af ?_)
 refine aM (ak 2 aa (aK aa (fun IT=>?_) (fun IT=>?_)))
 ·have hb:b=false:=by simpa using IT
  obtain⟨hqp,hl⟩:=k2 hb
  obtain rfl:=hqp.symm
  have hle:¬(p.literal D).2.err=0:=by rw[hl,vB h0];decide
  refine ai (ae 1 aa ?_)
  refine bI (lX F hp.ok (by decide)) rfl rfl rfl rfl ?_
  refine af (ak 2 aa (ax ?_))
  rw[A]
  exact⟨_,PS.be a ((p.literal D).2.push ⟨1,0,0,[],[],(p.literal D).1⟩).2 e,rfl,⟨by rw[show((p.literal D).2.push ⟨1,0,0,[],[],(p.literal D).1⟩).2.lL a=(p.literal D).2.lL a from rfl,hl];rfl,rfl,trivial⟩,⟨e,rfl,rfl,⟨fun h=>absurd h hle,by have:=gl.len;show e.length≤(p.literal D).2.aJ+_;omega⟩⟩⟩
 have hb:b=true:=by simpa using IT
 obtain⟨rfl,hl⟩:=k1 hb
 have pj:=gl.small (PS.JZ hp D).ok (by omega)
 refine aU (ai (ae 4 aa ?_))
 refine al (ey (rows:=e.map aL.enc) (ys:=[(⟨1,0,0,[],[],v⟩:aL).enc]) rfl rfl rfl (.bs (rows:=[(⟨1,0,0,[],[],v⟩:aL).enc]) rfl) (bW rfl) (by rw[bK,cC];simp only[dk,dO];omega) (fun h=>by rw[h];rfl) (fun h=>by rw[h];rfl) ?_)
 refine ae 1 aa (af ?_)
 refine ax ?_
 rw[A]
 exact⟨_,PS.be a ((p.literal D).2.push ⟨1,0,0,[],[],(p.literal D).1⟩).2 (e++[⟨1,0,0,[],[],v⟩]),rfl,As rfl rfl,⟨e++[⟨1,0,0,[],[],v⟩],by rw[dT];rfl,rfl,(gl.push (fun h=>by rw[hl h])).dz (by omega)⟩⟩
theorem MQ{T:bf}(F:FT T){D:Rd}(z:ke T D):∀n,RT T 199 (lC D n) n (10*n)∧RT T 263 (eE D n) n (10*n)
 |0=>⟨fun a p e N h G=>absurd h.ok.kD (by omega),fun a p e N h G=>absurd h.ok.kD (by omega)⟩
 |n+1=>by
  obtain⟨I,h2⟩:=MQ F z n
  have J:=Tj F z I
  have K:RT T 280 (e8 D n) (n+1) (10*n+2):=Ti F J
  have O:RT T 278 (eo D n) (n+1) (10*n+3):=aaR F K
  have U:RT T 274 (cmpL D n) (n+1) (10*n+4):=QW F O
  have A:=Sj F U h2
  exact⟨RT.dz (Wv F (Wu F A)) (by omega),RT.dz A (by omega)⟩
open Go
set_option maxRecDepth 10000
set_option maxHeartbeats 1000000 in
theorem zV{T:bf}(F:FT T){a:Bool}{p:PS}(hp:bd p):bX T 200 [.vp 1000 0] (PS.bq a p) fun r Bn=>r= .d (fR p.names.1)∧Bn=PS.bq a p.names.2:=by
 refine cr F.Z2 aa ?_
 have U:=hp.gK cm
 have G:∀p,bd p→bQ p (PS.name p).2:=fun _ h=>h.name
 refine ak 1 aa (ak 1 aa (ai (ae 1 aa (bI (oj F hp.ok cm) aa aa aa aa (af (ai (ae 2 aa (bI (kM F U.ok) aa aa aa aa (ae 1 aa ?_)))))))))
 refine al (T3 (ys:=[[cJ (p.bx cm).name.1]]) 1101 rfl rfl rfl rfl rfl (.bs (rows:=[[cJ (p.bx cm).name.1]]) rfl) (bW rfl) (by simp only[dk,dO];omega) ?_)
 refine ae 1 aa (af ?_)
 refine aM (bN (d6 (fun k VE B=>∃(l:List _)(q:PS),kv PS.name k l q=(jc PS.name (p.bx cm))∧l≠[]∧l.length≤q.aJ+1∧(p.bx cm).aA.length≤k+q.aJ∧bQ (p.bx cm) q∧bw [(0,.vp 1000 0),(3,.ac 1101 (l.map (fun s=>[cJ s])).length 1)] VE∧bw (PS.bq a q++[(1101,.acc 9 16 1 (l.map (fun s=>[cJ s])))]) B) ?_ (k:=(p.bx cm).aA.length) ⟨[(PS.name (p.bx cm)).1],(PS.name (p.bx cm)).2,aa,pO _ _,mG (df _),jQ _ _,G _ U.top,⟨aa,aa,trivial⟩,cG aa ⟨aa,trivial⟩⟩))
 rintro k VE B⟨l,q,z,K,Z,hk,I,hV,O⟩
 refine eA (PS.bq a q++[(1101,.acc 9 16 1 (l.map (fun s=>[cJ s])))]) O ?_
 have O:bw (PS.bq a q++[(1101,.acc 9 16 1 (l.map (fun s=>[cJ s])))]) (PS.bq a q++[(1101,.acc 9 16 1 (l.map (fun s=>[cJ s])))]):=cG rfl ⟨rfl,trivial⟩
 have gi:q.aA.length=(p.bx cm).aA.length:=by rw[I.aA]
 refine dx _ _ hV O (aM (ai (ae 1 aa (bI (mr F I.ok cF) aa aa aa aa (af (aK aa (fun A=>?_) (fun A=>?_)))))))
 ·have h2:=I.top.sign cF
  have J:=ov I.ok A
  have fu:=I.ok.dY
  obtain⟨k,rfl⟩:∃k',k=k'+1:=⟨k-1,by have:=J.2;omega⟩
  rw[ow A] at z
  have Y:=h2.trans (G _ h2.top)
  refine aU (bN (bG (ae 2 aa (bI (kM F h2.top.ok) aa aa aa aa (ae 1 aa ?_)))))
  refine al (ey (rows:=l.map (fun s=>[cJ s])) (ys:=[[cJ (PS.name (q.sign cF).2).1]]) rfl rfl rfl (.bs (rows:=[[cJ (PS.name (q.sign cF).2).1]]) rfl) (bW rfl) (by simp only[bK,cC,dk,dO];omega) (fun h=>by rw[h];rfl) (fun h=>by rw[h];rfl) ?_)
  refine ae 1 aa (af ?_)
  refine⟨k,fZ k,l++[(PS.name (q.sign cF).2).1],(PS.name (q.sign cF).2).2,z,mo K _,?_,?_,I.trans Y,?_,?_⟩
  ·have:=Y.aJ;have:=J.1;have:=(G _ h2.top).aJ;rw[bK,eK];show l.length+1≤(PS.name (q.sign cF).2).2.aJ+1;omega
  ·have:=(G _ h2.top).aJ;have:=J.1;show(p.bx cm).aA.length≤k+(PS.name (q.sign cF).2).2.aJ;omega
  ·try simp only[dT,eB,fy]
   exact⟨aa,aa,trivial⟩
  try simp only[dT,eB,fy]
  exact cG aa ⟨aa,trivial⟩
 rw[ox A] at z
 rw[PS.ig A]
 refine dM (ai (ae 1 aa (bI (oj F I.ok dL) aa aa aa aa (af (ai (ae 1 aa (fx 20 1101 aa aa (fun _=>⟨aa,aa⟩) (ae 1 aa (af ?_)))))))))
 refine ax ?_
 have hm:p.names=(l,q.bx dL):=by unfold PS.names;rw[←z]
 rw[hm]
 unfold fR
 exact⟨_,PS.bq a _,aa,⟨aa,trivial⟩,aa,aa⟩
theorem FG{T:bf}(F:FT T){a:Bool}{p:PS}(hp:bd p):bX T 157 [.vp 1000 0] (PS.bq a p) fun r Bn=>r=et (cS p.column.1)∧Bn=PS.bq a p.column.2:=by
 refine cr F.ZD aa (ak 1 aa (ai (ae 1 aa (bI (kM F hp.ok) aa aa aa aa (ae 3 aa (af ?_))))))
 refine aM (bN (ai (ae 1 aa (bI (fD F hp.name.ok yu) aa aa aa aa (ae 1 aa (af ?_))))))
 refine aK aa (fun G=>?_) (fun G=>?_)
 ·have A:p.column=((p.name.1,1),(p.name.2.keyword yu).2):=by unfold PS.column PS.nF;rw[aw G]
  refine bG (ae 2 aa (af ?_))
  refine ak 2 aa (ax ?_)
  rw[A]
  exact⟨_,PS.bq a _,aa,⟨aa,trivial⟩,aa,aa⟩
 rw[PS.cL G]
 refine ai (ae 1 aa (bI (fD F hp.name.ok x6) aa aa aa aa (ae 1 aa (af ?_))))
 refine aK aa (fun bJ=>?_) (fun bJ=>?_)
 ·have A:p.column=((p.name.1,2),(p.name.2.keyword x6).2):=by unfold PS.column PS.nF;rw[aj (by rw[G];decide),aw bJ]
  refine bG (ae 2 aa (af ?_))
  refine ak 2 aa (ax ?_)
  rw[A]
  exact⟨_,PS.bq a _,aa,⟨aa,trivial⟩,aa,aa⟩
 rw[PS.cL bJ]
 refine ai (ae 1 aa (bI (fD F hp.name.ok x7) aa aa aa aa (ae 1 aa (af ?_))))
 refine aK aa (fun z=>?_) (fun z=>?_)
 ·have A:p.column=((p.name.1,3),(p.name.2.keyword x7).2):=by unfold PS.column PS.nF;rw[aj (by rw[G];decide),aj (by rw[bJ];decide),aw z]
  refine bG (ae 2 aa (af ?_))
  refine ak 2 aa (ax ?_)
  rw[A]
  exact⟨_,PS.bq a _,aa,⟨aa,trivial⟩,aa,aa⟩
 have A:p.column=((p.name.1,0),p.name.2.fail 5):=by unfold PS.column PS.nF;rw[aj (by rw[G];decide),aj (by rw[bJ];decide),aj (by rw[z];decide)]
 rw[PS.cL z]
 refine bG (ae 1 aa ?_)
 refine bI (lX F hp.name.ok (by decide)) rfl rfl rfl rfl ?_
 refine af (ak 2 aa (ax ?_))
 rw[A]
 exact⟨_,PS.bq a _,aa,⟨aa,trivial⟩,aa,aa⟩
theorem Ma{p:PS}{e:Int}(he:e≠0):¬(p.fail e).err=0:=by unfold PS.fail;split<;>assumption
theorem KE{T:bf}(F:FT T){D:Rd}(J:ke T D){a:Bool}{p:PS}(hp:St p):bX T 150 [.vp 1000 0] (PS.bq a p) fun r Bn=>(∃v:gU,r=et v.enc∧((p.literal D).2.err=0→v=(p.literal D).1))∧Bn=PS.bq a (p.literal D).2:=by
 refine cr F.Zx aa (ak 1 aa (ai (ae 1 aa (al (Od (Lo F J hp) aa aa aa (fun v b q K O=>?_))))))
 refine ae 6 aa (af ?_)
 refine aM (ak 2 aa (aK aa (fun z=>?_) (fun z=>?_)))
 ·have A:b=false:=by simpa using z
  obtain⟨G,I⟩:=O A
  obtain rfl:=G.symm
  rw[I]
  refine bG (ae 1 aa ?_)
  refine bI (lX F hp.ok (by decide)) rfl rfl rfl rfl ?_
  refine af (ak 2 aa (ax ?_))
  exact⟨_,PS.bq a (p.fail 5),rfl,⟨rfl,trivial⟩,⟨v,rfl,fun k=>absurd k (Ma (by decide))⟩,rfl⟩
 have A:b=true:=by simpa using z
 obtain⟨rfl,I⟩:=K A
 exact aU (ak 2 aa (ax (⟨_,PS.bq a _,aa,⟨aa,trivial⟩,⟨v,aa,I⟩,aa⟩)))
set_option maxHeartbeats 2000000 in
theorem GI{T:bf}(F:FT T){a:Bool}{p:PS}(hp:bd p)(f:Bool):bX T 204 [.vp 1000 0,dB f] (PS.bq a p) fun r Bn=>r=et (p.source (f&&a)).1.enc∧Bn=PS.bq a (p.source (f&&a)).2:=by
 refine cr F.Z6 aa ?_
 have hN:=hp.name.top
 refine ak 1 aa (ai (ae 1 aa (bI (kM F hp.ok) aa aa aa aa (ae 3 aa (af ?_)))))
 refine aM (ai (ae 1 aa (bI (yS F hN.ok 1 fc) aa aa aa aa (ae 1 aa (af ?_)))))
 refine aK aa (fun U=>?_) (fun U=>?_)
 ·have K:p.name.2.next 1 fc=false:=by simpa using U
  have I:p.source (f&&a)=(⟨false,p.name.1,[], -1⟩,p.name.2):=by unfold PS.source PS.alias;rw[aw K]
  refine ak 2 aa (ax ?_)
  rw[I]
  exact⟨_,PS.bq a _,aa,⟨aa,trivial⟩,aa,aa⟩
 have K:p.name.2.next 1 fc=true:=by simpa using U
 have J:=PS.w4 K
 have dR:=PS.kV hN.ok (kind:=1) (by decide) K
 have fu:=hN.ok.dY
 have Z:=hN.step J dR
 have O:(p.name.2.aA.map cM.enc)[p.name.2.aJ+1]?=some p.name.2.after.enc:=by rw[iw,eY dR];unfold PS.after;rw[eY dR];rfl
 refine aU (aM (eX (bo 2 aa (vz (g:=aX) aa (fun G=>?_) (fun G=>?_)))))
 ·refine eb aa (G) (bM aa ?_)
  refine eb aa (G) (pr aa ?_)
  refine eb aa (G) (du aa ?_)
  refine kp aa (G) aa (c8 aa aa aa ?_)
  refine dG (cU aa (G) aa ?_)
  refine bo 1 aa (vz (g:=bl) aa (fun z=>?_) (fun z=>?_))
  ·refine eb aa (z) (bM aa ?_)
   refine eb aa (z) (pr aa ?_)
   refine eb aa (z) (du aa ?_)
   refine kp aa (z) aa (c8 aa aa aa ?_)
   refine eb aa (z) (bM aa ?_)
   refine eb aa (z) (pr aa ?_)
   refine eb aa (z) (du aa ?_)
   refine kp aa (z) aa (c8 aa aa aa ?_)
   refine eb rfl (z) (cX rfl rfl (by omega) ?_)
   refine eb aa (z) (kZ (row:=p.name.2.after.enc) aa aa O aa ?_)
   refine eb aa (z) (tD aa ?_)
   refine kp aa (z) aa (lT aa aa ?_)
   refine eb aa (z) (gZ aa aa ?_)
   refine dG (cU aa (z) aa ?_)
   refine bo 1 aa (vz (g:=ck) aa (fun A=>?_) (fun A=>?_))
   ·skip
    refine eb aa (A) (bM aa ?_)
    refine eb aa (A) (pr aa ?_)
    refine eb aa (A) (du aa ?_)
    refine kp aa (A) aa (c8 aa aa aa ?_)
    refine eb aa (A) (bM aa ?_)
    refine eb aa (A) (pr aa ?_)
    refine eb aa (A) (du aa ?_)
    refine kp aa (A) aa (c8 aa aa aa ?_)
    refine eb rfl (A) (cX rfl rfl (by omega) ?_)
    refine eb aa (A) (kZ (row:=p.name.2.after.enc) aa aa O aa ?_)
    refine eb aa (A) (tD aa ?_)
    refine kp aa (A) aa (lT aa aa ?_)
    refine eb aa (A) (oo (b:=j6) aa aa ?_)
    refine dG (cU aa (A) aa ?_)
    refine dc (aK aa (fun Y=>?_) (fun Y=>?_))
    ·have I:p.source (f&&a)=(⟨false,p.name.1,[], -1⟩,p.name.2):=by unfold PS.source PS.alias;rw[aj (by rw[K];decide),aw ⟨by rw[G,z];rfl,by simpa using A,by simpa using Y⟩]
     refine ak 2 aa (ax ?_)
     rw[I]
     exact⟨_,PS.bq a _,aa,⟨aa,trivial⟩,aa,aa⟩
    have I:p.source (f&&a)=(⟨false,p.name.1,p.name.2.step.name.1, -1⟩,p.name.2.step.name.2):=by unfold PS.source PS.alias;rw[aj (by rw[K];decide),aj (fun k=>absurd k.2.2 (by simpa using Y))]
    refine aU (ai (ae 4 aa ?_))
    refine al (cX rfl rfl (by omega) ?_)
    refine ae 3 aa (af ?_)
    refine ai ?_
    refine ez (PS.bq a p.name.2.step++[(5,.one 169 48 [dB false,dS p.name.1,dS [],dI (-1)]),(4,.one 169 48 [dB false,dS [],dS [],d0])]) (cG (by rw[tv J];rfl) ⟨rfl,rfl,trivial⟩) ?_
    refine ae 1 aa (bI (kM F Z.ok) aa aa aa aa (ae 2 aa (af ?_)))
    refine ak 2 aa (ax ?_)
    rw[I]
    exact⟨_,PS.bq a _,aa,⟨aa,trivial⟩,aa,aa⟩
   have I:p.source (f&&a)=(⟨false,p.name.1,p.name.2.step.name.1, -1⟩,p.name.2.step.name.2):=by unfold PS.source PS.alias;rw[aj (by rw[K];decide),aj (fun k=>absurd k.2.1 (by simpa using A))]
   refine cP aa (A) (cP aa (A) (cP aa (A) (iJ aa (A) (cP aa (A) (cP aa (A) (cP aa (A) (iJ aa (A) (cP aa (A) (cP aa (A) ?_)))))))))
   refine cP aa (A) (iJ aa (A) (cP aa (A) (dG (cK aa (A) aa ?_))))
   refine dc (eJ aa aa (aU (ai (ae 4 aa ?_))))
   refine al (cX rfl rfl (by omega) ?_)
   refine ae 3 aa (af ?_)
   refine ai ?_
   refine ez (PS.bq a p.name.2.step++[(5,.one 169 48 [dB false,dS p.name.1,dS [],dI (-1)]),(4,.one 169 48 [dB false,dS [],dS [],d0])]) (cG (by rw[tv J];rfl) ⟨rfl,rfl,trivial⟩) ?_
   refine ae 1 aa (bI (kM F Z.ok) aa aa aa aa (ae 2 aa (af ?_)))
   refine ak 2 aa (ax ?_)
   rw[I]
   exact⟨_,PS.bq a _,aa,⟨aa,trivial⟩,aa,aa⟩
  have I:p.source (f&&a)=(⟨false,p.name.1,p.name.2.step.name.1, -1⟩,p.name.2.step.name.2):=by unfold PS.source PS.alias;rw[aj (by rw[K];decide),aj (fun k=>absurd k.1 (by rw[z];simp))]
  refine cP aa (z) (cP aa (z) (cP aa (z) (iJ aa (z) (cP aa (z) (cP aa (z) (cP aa (z) (iJ aa (z) (cP aa (z) (cP aa (z) ?_)))))))))
  refine cP aa (z) (iJ aa (z) (cP aa (z) (dG (cK aa (z) aa ?_))))
  refine bo 1 aa (cP aa aa (cP aa aa (cP aa aa (iJ aa aa (cP aa aa (cP aa aa (cP aa aa (iJ aa aa (cP aa aa ?_)))))))))
  refine cP aa aa (cP aa aa (iJ aa aa (cP aa aa (bo 1 aa (dc ?_)))))
  refine eJ aa aa (aU (ai (ae 4 aa ?_)))
  refine al (cX rfl rfl (by omega) ?_)
  refine ae 3 aa (af ?_)
  refine ai ?_
  refine ez (PS.bq a p.name.2.step++[(5,.one 169 48 [dB false,dS p.name.1,dS [],dI (-1)]),(4,.one 169 48 [dB false,dS [],dS [],d0])]) (cG (by rw[tv J];rfl) ⟨rfl,rfl,trivial⟩) ?_
  refine ae 1 aa (bI (kM F Z.ok) aa aa aa aa (ae 2 aa (af ?_)))
  refine ak 2 aa (ax ?_)
  rw[I]
  exact⟨_,PS.bq a _,aa,⟨aa,trivial⟩,aa,aa⟩
 have I:p.source (f&&a)=(⟨false,p.name.1,p.name.2.step.name.1, -1⟩,p.name.2.step.name.2):=by unfold PS.source PS.alias;rw[aj (by rw[K];decide),aj (fun k=>absurd k.1 (by rw[G];simp))]
 refine cP aa (G) (cP aa (G) (cP aa (G) (iJ aa (G) (dG (cK aa (G) aa ?_)))))
 refine bo 1 aa (cP aa aa (cP aa aa (cP aa aa (iJ aa aa (cP aa aa (cP aa aa (cP aa aa (iJ aa aa (cP aa aa ?_)))))))))
 refine cP aa aa (cP aa aa (iJ aa aa (cP aa aa (bo 2 aa (cP aa aa (cP aa aa (cP aa aa (iJ aa aa (cP aa aa ?_)))))))))
 refine cP aa aa (cP aa aa (iJ aa aa (cP aa aa (cP aa aa (cP aa aa (iJ aa aa (cP aa aa (bo 1 aa (dc ?_)))))))))
 refine eJ aa aa (aU (ai (ae 4 aa ?_)))
 refine al (cX rfl rfl (by omega) ?_)
 refine ae 3 aa (af ?_)
 refine ai ?_
 refine ez (PS.bq a p.name.2.step++[(5,.one 169 48 [dB false,dS p.name.1,dS [],dI (-1)]),(4,.one 169 48 [dB false,dS [],dS [],d0])]) (cG (by rw[tv J];rfl) ⟨rfl,rfl,trivial⟩) ?_
 refine ae 1 aa (bI (kM F Z.ok) aa aa aa aa (ae 2 aa (af ?_)))
 refine ak 2 aa (ax ?_)
 rw[I]
 exact⟨_,PS.bq a _,aa,⟨aa,trivial⟩,aa,aa⟩
end Go.Ev.Pp
namespace Go.Ev
open Go
variable{T:bf}
theorem RA{E:Env}{H:aB}{x i:aG}{z es f g o:Nat}{k:IntKind}{j:Nat}{Q:an→aB→Prop}(G:x.ev E=some (.ptr f g o))(hi:i.ev E=some (.int k (j:Int)))(I:j<z)(J:Q (.ptr f g (o+j*es)) H):iP T (.kr z es x i) E H Q:=
 gf (fun _=>by
  show bB x E (.err 11) (fun v=>iu v (.err 11) fun f g off=>bB i E (.err 11) fun A=>idx A z (.err 11) fun j=>dr (Nat.add off (Nat.mul j es)) fun off=>.ok (.ptr f g off) H)=_
  rw[dp,G,dh]
  show bB i E (.err 11) (fun A=>idx A z (.err 11) fun j=>dr (Nat.add o (Nat.mul j es)) fun off=>.ok (.ptr f g off) H)=_
  rw[dp,hi,dh]
  show aH (Nat.ble (Nat.succ j) z) (dr (o+j*es) fun off=>aE.ok (.ptr f g off) H) (aE.err 11)=_
  rw[jz I,im];rfl) J
variable{VE:b0}{B:br}{Q:VV→br→Prop}
theorem om{x i:aG}{G es b o j:Nat}{k:IntKind}(I:x.vv VE=some (.vp b o))(hi:i.vv VE=some (.d (.i k (j:Int))))(J:j<G)(K:Q (.vp b (o+j*es)) B):VI T (.kr G es x i) VE B [] Q:=fun _ _ _ _ _ z=>by
 obtain⟨_,O,h2⟩:=z.b9 I
 obtain⟨_,U,A⟩:=z.b9 hi
 simp only[aN] at h2 A
 simp only[cO] at A
 subst A;subst h2
 exact RA O U J (e7 z (v:=.vp b (o+j*es)) (by simp only[aN]) K)
open Go
variable{T:bf}{VE:b0}{B:br}{R:Ex→b0→br→Prop}
theorem zW{a b:IC}(M:b0→br→Prop)(I:∀VE B,M VE B→VC T b VE B R)(J:VC T a VE B fun x eh B'=>match x with|.normal=>M eh B'|x=>R x eh B'):VC T (.seq a b) VE B R:=
 aM fun H0 X0 E H β K=>(J H0 X0 E H β K).mono fun x E' H' hp=>by
  obtain⟨eh,B',β',A,z,G⟩:=hp
  cases x with
  |normal=>exact⟨eh,B',β',A,z,I _ _ G⟩
  |exit id=>exact⟨eh,B',β',A,z,G⟩
  |ret=>exact⟨eh,B',β',A,z,G⟩
end Go.Ev
namespace Go.Ev.Pp
open Go
variable{p q:PS}{a:Bool}{D:Rd}{e:List aL}{N M n:Nat}
def Vu:List (List UInt8):=[nj,nk,nm]
def yb(i:Nat):List UInt8:=(Vu[i]?).getD []
def PS.lM(p:PS):Nat→Int×PS
 |0=>(Int.ofNat 0,p)
 |i+1=>if(p.lM i).1=0 then(if((p.lM i).2.keyword (yb i)).1=true then(Int.ofNat 2+(i:Nat),((p.lM i).2.keyword (yb i)).2) else p.lM i) else p.lM i
theorem CN{i:Nat}{g:Int}(h:p.lM i=(g,q))(z:g=0)(hk:(q.keyword (yb i)).1=true):p.lM (i+1)=(Int.ofNat 2+(i:Nat),(q.keyword (yb i)).2):=by
 unfold PS.lM;rw[h,aw z,aw hk]
theorem CO{i:Nat}{g:Int}(h:p.lM i=(g,q))(z:g=0)(hk:(q.keyword (yb i)).1=false):p.lM (i+1)=(g,q):=by
 unfold PS.lM;rw[h,aw z,aj (by rw[hk];decide)]
theorem CP{i:Nat}{g:Int}(h:p.lM i=(g,q))(z:¬g=0):p.lM (i+1)=(g,q):=by
 unfold PS.lM;rw[h,aj z]
theorem Oe(p:PS):p.lM 3=p.agg:=by
 have h0:p.lM 0=(0,p):=rfl
 unfold PS.agg
 cases G:(p.keyword nj).1
 ·have A:=CO h0 rfl G
  cases h2:(p.keyword nk).1
  ·have z:=CO A rfl h2
   cases I:(p.keyword nm).1
   ·rw[CO z rfl I];simp
   rw[CN z rfl I];simp;rfl
  have z:=CN A rfl h2
  rw[CP z (by decide)];simp;rfl
 have A:=CN h0 rfl G
 have z:=CP A (by decide)
 rw[CP z (by decide)];simp;rfl
theorem Cr(p:PS):∀i,(p.lM i).2.ex=p.ex
 |0=>rfl
 |i+1=>by
  unfold PS.lM
  split
  ·split
   ·rw[show∀(q:PS)s,(q.keyword s).2.ex=q.ex from mi];exact Cr p i
   exact Cr p i
  exact Cr p i
theorem Ww(h:p.agg.1=0):p.agg.2=p:=by
 unfold PS.agg at h⊢
 repeat' split at h
 all_goals first|exact absurd h (by decide)|(simp_all)
theorem EG.go2(h:EG p e N)(g:bQ p q)(z:q.ex=p.ex):EG q e N:=h.go (fun h0=>⟨g.er h0,z⟩) g.aJ
theorem t6{T:bf}(F:FT T){D:Rd}(A:ke T D){a:Bool}{p:PS}{e:List aL}{N:Nat}(h:bd p)(he:EG p e N)(hN:N≤100000):bX T 199 [.vp 1000 0,.ac 1050 (e.map aL.enc).length 8] (p.be a e) fun r Bn=>∃z,r= .ac 1050 (z.map aL.enc).length 8∧Bn=(p.expr D).2.be a z∧EG (p.expr D).2 z (N+610):=
 (MQ F A 61).1 a p e N h.st (by rw[h.d0]) he hN
theorem qN(h:bd p)(he:EG (p.expr D).2 e N)(h0:(p.expr D).2.err=0):(((e.map aL.enc).length:Nat):Int) -Int.ofNat 1=(p.expr D).1:=pC (qS he ((vL D 61).1 p h.st (by rw[h.d0])) h0)
theorem w5(r:PS):r.alias false=if(r.keyword fc).1=true then(r.keyword fc).2.name else([],r):=by
 unfold PS.alias PS.keyword PS.accept
 cases h:r.next 1 fc
 ·simp
 simp
theorem vD(r:PS)(b:Bool):(r.alias b).2.ex=r.ex:=by
 unfold PS.alias
 split
 ·rfl
 split
 ·rfl
 exact ql ..
def PS.ib(a:Bool)(q:PS)(d:Bool)(e:List aL)(cn:List Item):br:=[(1000,.one 164 64 (q.lL a)),(1001,.one 106 120 [dB d,.ac 1050 (e.map aL.enc).length 8,.ac 1051 (cn.map Item.enc).length 3,dN,dI (-1),dB false,dN]),(1050,.acc 142 88 8 (e.map aL.enc)),(1051,.acc 167 32 3 (cn.map Item.enc))]
theorem xB{B:br}{d:Bool}{cn:List Item}{z:Item}(A:aZ B 1000=some (.one 164 64 (q.lL a)))(h2:aZ B 1001=some (.one 106 120 [dB d,.ac 1050 (e.map aL.enc).length 8,.ac 1051 (cn.map Item.enc++[z.enc]).length 3,dN,dI (-1),dB false,dN]))(G:aZ B 1050=some (.acc 142 88 8 (e.map aL.enc)))(I:aZ B 1051=some (.acc 167 32 3 (cn.map Item.enc++[z.enc]))):bw (q.ib a d e (cn++[z])) B:=by
 unfold PS.ib
 rw[dT]
 exact⟨A,h2,G,I,trivial⟩
open Go
set_option maxRecDepth 10000
set_option maxHeartbeats 4000000 in
theorem Of{T:bf}(F:FT T){D:Rd}(Lq:ke T D){a:Bool}{p:PS}(hp:bd p)(d:Bool){e:List aL}{cn:List Item}{N:Nat}(he:EG p e N)(hN:N≤100000)(hl:cn.length≤100000):bX T 203 [.vp 1000 0,.vp 1001 0] (PS.ib a p d e cn) fun r Bn=>∃e' it,r= .tuple []∧Bn=PS.ib a (p.item D).2 d e' (cn++[it])∧EG (p.item D).2 e' (N+620)∧((p.item D).2.err=0→it=(p.item D).1):=by
 refine cr F.Z5 aa ?_
 have pj:=he.small hp.ok (by omega)
 refine eA (PS.bq a p++[(1001,.one 106 120 [dB d,.ac 1050 (e.map aL.enc).length 8,.ac 1051 (cn.map Item.enc).length 3,dN,dI (-1),dB false,dN]),(1050,.acc 142 88 8 (e.map aL.enc)),(1051,.acc 167 32 3 (cn.map Item.enc))]) (cG aa ⟨aa,aa,aa,trivial⟩) (ak 3 aa (ak 3 aa (aM (ai (ae 1 aa (bI (fD F hp.ok jv) aa aa aa aa (af (aK aa (fun Bq=>?_) (fun Bq=>?_)))))))))
 ·have hb:p.iF D=((1, -1),((((p.keyword jv).2.bx cm).bx eS).bx dL)):=by unfold PS.iF;rw[aw Bq]
  have g1:=hp.kw jv
  have Y:=g1.trans (g1.top.gK cm)
  have Z:=Y.trans (Y.top.gK eS)
  have O:=Z.trans (Z.top.gK dL)
  have J:EG ((((p.keyword jv).2.bx cm).bx eS).bx dL) e (N+620):=(he.go2 O (by rw[rN,rN,rN,mi])).dz (by omega)
  refine ai (ae 1 aa (bI (oj F g1.ok cm) aa aa aa aa (af (ai (ae 1 aa (bI (oj F Y.ok eS) aa aa aa aa (af (ai (ae 1 aa ?_)))))))))
  refine bI (oj F Z.ok dL) aa aa aa aa (af (ak 2 aa (bG (ae 2 aa (af ?_)))))
  refine aM (ai (ae 1 aa (bI (fD F O.ok fc) aa aa aa aa (af (aK aa (fun G=>?_) (fun G=>?_))))))
  ·have z:=w5 ((((p.keyword jv).2.bx cm).bx eS).bx dL)
   have K:=O.top.alias false
   have U:EG (((((p.keyword jv).2.bx cm).bx eS).bx dL).alias false).2 e (N+620):=J.go2 K (vD ..)
   rw[aw G] at z
   rw[z] at U K
   have hm:p.item D=(⟨1, -1,(((((p.keyword jv).2.bx cm).bx eS).bx dL).keyword fc).2.name.1⟩,(((((p.keyword jv).2.bx cm).bx eS).bx dL).keyword fc).2.name.2):=by unfold PS.item;rw[hb,z]
   refine bG (ae 1 aa (bI (kM F (O.trans (O.top.kw fc)).ok) aa aa aa aa (ae 2 aa (af ?_))))
   refine iK (bo 7 aa ?_)
   refine eL rfl (ey (rows:=cn.map Item.enc) (ys:=[(⟨1,(-1),(((((p.keyword jv).2.bx cm).bx eS).bx dL).keyword fc).2.name.1⟩:Item).enc]) rfl rfl rfl (.bs (rows:=[(⟨1,(-1),(((((p.keyword jv).2.bx cm).bx eS).bx dL).keyword fc).2.name.1⟩:Item).enc]) rfl) (bW rfl) (by rw[bK,cC];simp only[dk,dO];omega) (fun h=>by rw[h];rfl) (fun h=>by rw[h];rfl) ?_)
   refine bo 3 aa (dc ?_)
   rw[hm]
   exact⟨_,PS.ib a (((((p.keyword jv).2.bx cm).bx eS).bx dL).keyword fc).2.name.2 d e (cn++[(⟨1,(-1),(((((p.keyword jv).2.bx cm).bx eS).bx dL).keyword fc).2.name.1⟩:Item)]),aa,xB aa aa aa aa,⟨e,(⟨1,(-1),(((((p.keyword jv).2.bx cm).bx eS).bx dL).keyword fc).2.name.1⟩:Item),aa,aa,U,fun h0=>aa⟩⟩
  have z:=w5 ((((p.keyword jv).2.bx cm).bx eS).bx dL)
  have K:=O.top.alias false
  have U:EG (((((p.keyword jv).2.bx cm).bx eS).bx dL).alias false).2 e (N+620):=J.go2 K (vD ..)
  rw[aj (by rw[G];decide)] at z
  rw[z] at U K
  rw[PS.cL G]
  have hm:p.item D=(⟨1, -1,[]⟩,((((p.keyword jv).2.bx cm).bx eS).bx dL)):=by unfold PS.item;rw[hb,z]
  refine aU (iK (bo 7 aa ?_))
  refine eL rfl (ey (rows:=cn.map Item.enc) (ys:=[(⟨1,(-1),[]⟩:Item).enc]) rfl rfl rfl (.bs (rows:=[(⟨1,(-1),[]⟩:Item).enc]) rfl) (bW rfl) (by rw[bK,cC];simp only[dk,dO];omega) (fun h=>by rw[h];rfl) (fun h=>by rw[h];rfl) ?_)
  refine bo 3 aa (dc ?_)
  rw[hm]
  exact⟨_,PS.ib a ((((p.keyword jv).2.bx cm).bx eS).bx dL) d e (cn++[(⟨1,(-1),[]⟩:Item)]),aa,xB aa aa aa aa,⟨e,(⟨1,(-1),[]⟩:Item),aa,aa,U,fun h0=>aa⟩⟩
 rw[PS.cL Bq]
 refine aM (ak 1 aa (bN ?_))
 refine d6 (fun k VE B=>∃(i:Nat)(g:Int)(q:PS),i≤3∧k=3-i∧p.lM i=(g,q)∧bQ p q∧bw [(0,.vp 1000 0),(1,.vp 1001 0),(4,.vp 4 0),(5,.vp 5 0),(6,dI (i:Nat))] VE∧bw (PS.bq a q++[(1001,.one 106 120 [dB d,.ac 1050 (e.map aL.enc).length 8,.ac 1051 (cn.map Item.enc).length 3,dN,dI (-1),dB false,dN]),(1050,.acc 142 88 8 (e.map aL.enc)),(1051,.acc 167 32 3 (cn.map Item.enc)),(4,.one 167 32 [dI g,d0,dS []]),(5,.one 248 48 [VV.d (cJ nj),dS nk,dS nm])]) B) ?_ (k:=3) ⟨0,Int.ofNat 0,p,by decide,rfl,rfl,.refl hp,⟨rfl,rfl,rfl,rfl,rfl,trivial⟩,cG rfl ⟨rfl,rfl,rfl,rfl,rfl,trivial⟩⟩
 rintro k VE B⟨i,g,q,hi,rfl,hP,hq,hV,hB⟩
 refine eA (PS.bq a q++[(1001,.one 106 120 [dB d,.ac 1050 (e.map aL.enc).length 8,.ac 1051 (cn.map Item.enc).length 3,dN,dI (-1),dB false,dN]),(1050,.acc 142 88 8 (e.map aL.enc)),(1051,.acc 167 32 3 (cn.map Item.enc)),(4,.one 167 32 [dI g,d0,dS []]),(5,.one 248 48 [VV.d (cJ nj),dS nk,dS nm])]) hB ?_
 have hB:bw (PS.bq a q++[(1001,.one 106 120 [dB d,.ac 1050 (e.map aL.enc).length 8,.ac 1051 (cn.map Item.enc).length 3,dN,dI (-1),dB false,dN]),(1050,.acc 142 88 8 (e.map aL.enc)),(1051,.acc 167 32 3 (cn.map Item.enc)),(4,.one 167 32 [dI g,d0,dS []]),(5,.one 248 48 [VV.d (cJ nj),dS nk,dS nm])]) (PS.bq a q++[(1001,.one 106 120 [dB d,.ac 1050 (e.map aL.enc).length 8,.ac 1051 (cn.map Item.enc).length 3,dN,dI (-1),dB false,dN]),(1050,.acc 142 88 8 (e.map aL.enc)),(1051,.acc 167 32 3 (cn.map Item.enc)),(4,.one 167 32 [dI g,d0,dS []]),(5,.one 248 48 [VV.d (cJ nj),dS nk,dS nm])]):=cG rfl ⟨rfl,rfl,rfl,rfl,rfl,trivial⟩
 refine dx _ _ hV hB (aM (ak 2 aa (aK aa (fun tg=>?_) (fun tg=>?_))))
 ·have hi3:i<3:=by simp at tg;omega
  obtain⟨s,hs,hk⟩:∃s,yb i=s∧[VV.d (cJ nj),.d (cJ nk),.d (cJ nm)][0+i*1]?=some (.d (cJ s)):=by
   rcases(by omega:i=0∨i=1∨i=2) with rfl|rfl|rfl<;>exact⟨_,rfl,rfl⟩
  refine aU (aM (bN (ai (ae 4 aa (da (g:=bR) aa (fun A=>?_) (fun A=>?_))))))
  ·have hg:g=0:=by simpa using A
   refine au aa (A) (bM aa ?_)
   refine au aa (A) (bM aa ?_)
   refine au aa (A) (om aa aa hi3 ?_)
   refine au aa (A) (c8 aa aa hk ?_)
   refine au aa (A) (vZ (fD F hq.ok s) aa aa aa aa ?_)
   refine al (cU aa (A) aa ?_)
   refine af (aK aa (fun ph=>?_) (fun ph=>?_))
   ·have hA:=CN hP hg (by rw[hs];exact ph)
    rw[hs] at hA
    have Br:=hq.trans (hq.top.kw s)
    refine bG (ae 1 aa (al (Cm aa aa ?_)))
    rw[wrap_i64 (by simp only[bb];omega) (by simp only[bb];omega)]
    refine ae 2 aa (af ?_)
    refine bG (ae 1 aa ?_)
    refine al (cX rfl rfl (by omega) ?_)
    refine ae 1 aa (af ?_)
    exact⟨3-(i+1),by omega,i+1,_,_,by omega,rfl,hA,Br,⟨rfl,rfl,rfl,rfl,rfl,trivial⟩,cG rfl ⟨rfl,rfl,rfl,rfl,rfl,trivial⟩⟩
   have hA:=CO hP hg (by rw[hs];exact ph)
   have Br:=hq
   rw[PS.cL ph]
   refine aU (bG (ae 1 aa ?_))
   refine al (cX rfl rfl (by omega) ?_)
   refine ae 1 aa (af ?_)
   exact⟨3-(i+1),by omega,i+1,_,_,by omega,rfl,hA,Br,⟨rfl,rfl,rfl,rfl,rfl,trivial⟩,cG rfl ⟨rfl,rfl,rfl,rfl,rfl,trivial⟩⟩
  have hg:¬g=0:=by simpa using A
  have hA:=CP hP hg
  have Br:=hq
  refine aS aa (A) (aS aa (A) (aS aa (A) (aS aa (A) (aS aa (A) (al (cK aa (A) aa ?_))))))
  refine af (eJ aa aa (aU (bG (ae 1 aa ?_))))
  refine al (cX rfl rfl (by omega) ?_)
  refine ae 1 aa (af ?_)
  exact⟨3-(i+1),by omega,i+1,_,_,by omega,rfl,hA,Br,⟨rfl,rfl,rfl,rfl,rfl,trivial⟩,cG rfl ⟨rfl,rfl,rfl,rfl,rfl,trivial⟩⟩
 have h3:i=3:=by simp at tg;omega
 subst h3
 rw[Oe] at hP
 have hx:q.ex=p.ex:=by have:=Cr p 3;rw[Oe,hP] at this;exact this
 refine dM (aM (ak 3 aa (aK aa (fun Bs=>?_) (fun Bs=>?_))))
 ·have hg:¬g=0:=by simpa using Bs
  have hb:p.iF D=((g,(q.fN D).1),(q.fN D).2):=by unfold PS.iF;rw[aj (by rw[Bq];decide),hP,aj hg]
  have g1:=hq.trans (hq.top.gK cm)
  have Y:=g1.trans (g1.top.expr D)
  have O:bQ p (q.fN D).2:=Y.trans (Y.top.gK dL)
  have hz:EG (q.bx cm) e N:=he.go2 g1 (by rw[rN,hx])
  refine bG (ae 1 aa (bI (oj F hq.ok cm) aa aa aa aa (af (ai (ae 6 aa (js 1001 1 aa aa (ez (PS.bq a (q.bx cm)++[(1001,.one 106 120 [dB d,.undef,.ac 1051 (cn.map Item.enc).length 3,dN,dI (-1),dB false,dN]),(1050,.acc 142 88 8 (e.map aL.enc)),(1051,.acc 167 32 3 (cn.map Item.enc)),(4,.one 167 32 [dI g,d0,dS []]),(5,.one 248 48 [VV.d (cJ nj),dS nk,dS nm])]) (cG aa ⟨aa,aa,aa,aa,aa,trivial⟩) (jm (t6 F Lq g1.top hz hN) aa aa aa aa (fun e1 Z=>?_)))))))))
  have pj:=Z.small Y.ok (by omega)
  refine ae 3 aa (af ?_)
  refine ai (ae 5 aa ?_)
  refine al (gj rfl rfl (by simp only[cC,bb];omega) (by simp only[cC,bb];omega) ?_)
  obtain⟨v,hv⟩:∃v:Int,(((e1.map aL.enc).length:Nat):Int) -Int.ofNat 1=v:=⟨_,rfl⟩
  rw[hv]
  refine ae 2 aa (af ?_)
  refine ak 3 aa (fe aa (Bs) (bG (ae 1 aa (bI (oj F Y.ok dL) aa aa aa aa (af (aM (ai (ae 1 aa (bI (fD F O.ok fc) aa aa aa aa ?_)))))))))
  refine af (aK aa (fun G=>?_) (fun G=>?_))
  ·have z:=w5 (q.fN D).2
   have K:=O.top.alias false
   have J:EG (q.fN D).2 e1 (N+620):=(Z.go2 (Y.top.gK dL) (rN ..)).dz (by omega)
   have U:EG ((q.fN D).2.alias false).2 e1 (N+620):=J.go2 K (vD ..)
   have I:((q.fN D).2.alias false).2.err=0→v=(q.fN D).1:=fun h0=>hv.symm.trans (qN g1.top Z ((Y.top.gK dL).er (K.er h0)))
   rw[aw G] at z
   rw[z] at U K
   have hm:p.item D=(⟨g,(q.fN D).1,((q.fN D).2.keyword fc).2.name.1⟩,((q.fN D).2.keyword fc).2.name.2):=by unfold PS.item;rw[hb,z]
   rw[z] at I
   refine bG (ae 1 aa (bI (kM F (O.trans (O.top.kw fc)).ok) aa aa aa aa (ae 2 aa (af ?_))))
   refine iK (bo 7 aa ?_)
   refine eL rfl (ey (rows:=cn.map Item.enc) (ys:=[(⟨g,v,((q.fN D).2.keyword fc).2.name.1⟩:Item).enc]) rfl rfl rfl (.bs (rows:=[(⟨g,v,((q.fN D).2.keyword fc).2.name.1⟩:Item).enc]) rfl) (bW rfl) (by rw[bK,cC];simp only[dk,dO];omega) (fun h=>by rw[h];rfl) (fun h=>by rw[h];rfl) ?_)
   refine bo 3 aa (dc ?_)
   rw[hm]
   exact⟨_,PS.ib a ((q.fN D).2.keyword fc).2.name.2 d e1 (cn++[(⟨g,v,((q.fN D).2.keyword fc).2.name.1⟩:Item)]),rfl,xB rfl rfl rfl rfl,⟨e1,(⟨g,v,((q.fN D).2.keyword fc).2.name.1⟩:Item),rfl,rfl,U,fun h0=>by rw[I h0]⟩⟩
  have z:=w5 (q.fN D).2
  have K:=O.top.alias false
  have J:EG (q.fN D).2 e1 (N+620):=(Z.go2 (Y.top.gK dL) (rN ..)).dz (by omega)
  have U:EG ((q.fN D).2.alias false).2 e1 (N+620):=J.go2 K (vD ..)
  have I:((q.fN D).2.alias false).2.err=0→v=(q.fN D).1:=fun h0=>hv.symm.trans (qN g1.top Z ((Y.top.gK dL).er (K.er h0)))
  rw[aj (by rw[G];decide)] at z
  rw[z] at U K
  rw[PS.cL G]
  have hm:p.item D=(⟨g,(q.fN D).1,[]⟩,(q.fN D).2):=by unfold PS.item;rw[hb,z]
  rw[z] at I
  refine aU (iK (bo 7 aa ?_))
  refine eL rfl (ey (rows:=cn.map Item.enc) (ys:=[(⟨g,v,[]⟩:Item).enc]) rfl rfl rfl (.bs (rows:=[(⟨g,v,[]⟩:Item).enc]) rfl) (bW rfl) (by rw[bK,cC];simp only[dk,dO];omega) (fun h=>by rw[h];rfl) (fun h=>by rw[h];rfl) ?_)
  refine bo 3 aa (dc ?_)
  rw[hm]
  exact⟨_,PS.ib a (q.fN D).2 d e1 (cn++[(⟨g,v,[]⟩:Item)]),rfl,xB rfl rfl rfl rfl,⟨e1,(⟨g,v,[]⟩:Item),rfl,rfl,U,fun h0=>by rw[I h0]⟩⟩
 have hg:g=0:=by simpa using Bs
 obtain rfl:q=p:=by have:=Ww (p:=p) (by rw[hP];exact hg);rw[hP] at this;exact this
 have hb:q.iF D=((0,(q.expr D).1),(q.expr D).2):=by unfold PS.iF;rw[aj (by rw[Bq];decide),hP,aw hg]
 have Y:=hp.expr D
 have O:=Y
 subst hg
 refine aU (ai (ae 6 aa (js 1001 1 aa aa (ez (PS.bq a q++[(1001,.one 106 120 [dB d,.undef,.ac 1051 (cn.map Item.enc).length 3,dN,dI (-1),dB false,dN]),(1050,.acc 142 88 8 (e.map aL.enc)),(1051,.acc 167 32 3 (cn.map Item.enc)),(4,.one 167 32 [d0,d0,dS []]),(5,.one 248 48 [VV.d (cJ nj),dS nk,dS nm])]) (cG aa ⟨aa,aa,aa,aa,aa,trivial⟩) (jm (t6 F Lq hp he hN) aa aa aa aa (fun e1 Z=>?_))))))
 have pj:=Z.small Y.ok (by omega)
 refine ae 3 aa (af ?_)
 refine ai (ae 5 aa ?_)
 refine al (gj rfl rfl (by simp only[cC,bb];omega) (by simp only[cC,bb];omega) ?_)
 obtain⟨v,hv⟩:∃v:Int,(((e1.map aL.enc).length:Nat):Int) -Int.ofNat 1=v:=⟨_,rfl⟩
 rw[hv]
 refine ae 2 aa (af ?_)
 refine ak 3 aa (eJ aa (Bs) (aU (aM (ai (ae 1 aa (bI (fD F O.ok fc) aa aa aa aa (af (aK aa (fun G=>?_) (fun G=>?_)))))))))
 ·have z:=w5 (q.expr D).2
  have K:=O.top.alias false
  have J:EG (q.expr D).2 e1 (N+620):=Z.dz (by omega)
  have U:EG ((q.expr D).2.alias false).2 e1 (N+620):=J.go2 K (vD ..)
  have I:((q.expr D).2.alias false).2.err=0→v=(q.expr D).1:=fun h0=>hv.symm.trans (qN hp Z (K.er h0))
  rw[aw G] at z
  rw[z] at U K
  have hm:q.item D=(⟨0,(q.expr D).1,((q.expr D).2.keyword fc).2.name.1⟩,((q.expr D).2.keyword fc).2.name.2):=by unfold PS.item;rw[hb,z]
  rw[z] at I
  refine bG (ae 1 aa (bI (kM F (O.trans (O.top.kw fc)).ok) aa aa aa aa (ae 2 aa (af ?_))))
  refine iK (bo 7 aa ?_)
  refine eL rfl (ey (rows:=cn.map Item.enc) (ys:=[(⟨0,v,((q.expr D).2.keyword fc).2.name.1⟩:Item).enc]) rfl rfl rfl (.bs (rows:=[(⟨0,v,((q.expr D).2.keyword fc).2.name.1⟩:Item).enc]) rfl) (bW rfl) (by rw[bK,cC];simp only[dk,dO];omega) (fun h=>by rw[h];rfl) (fun h=>by rw[h];rfl) ?_)
  refine bo 3 aa (dc ?_)
  rw[hm]
  exact⟨_,PS.ib a ((q.expr D).2.keyword fc).2.name.2 d e1 (cn++[(⟨0,v,((q.expr D).2.keyword fc).2.name.1⟩:Item)]),rfl,xB rfl rfl rfl rfl,⟨e1,(⟨0,v,((q.expr D).2.keyword fc).2.name.1⟩:Item),rfl,rfl,U,fun h0=>by rw[I h0]⟩⟩
 have z:=w5 (q.expr D).2
 have K:=O.top.alias false
 have J:EG (q.expr D).2 e1 (N+620):=Z.dz (by omega)
 have U:EG ((q.expr D).2.alias false).2 e1 (N+620):=J.go2 K (vD ..)
 have I:((q.expr D).2.alias false).2.err=0→v=(q.expr D).1:=fun h0=>hv.symm.trans (qN hp Z (K.er h0))
 rw[aj (by rw[G];decide)] at z
 rw[z] at U K
 rw[PS.cL G]
 have hm:q.item D=(⟨0,(q.expr D).1,[]⟩,(q.expr D).2):=by unfold PS.item;rw[hb,z]
 rw[z] at I
 refine aU (iK (bo 7 aa ?_))
 refine eL rfl (ey (rows:=cn.map Item.enc) (ys:=[(⟨0,v,[]⟩:Item).enc]) rfl rfl rfl (.bs (rows:=[(⟨0,v,[]⟩:Item).enc]) rfl) (bW rfl) (by rw[bK,cC];simp only[dk,dO];omega) (fun h=>by rw[h];rfl) (fun h=>by rw[h];rfl) ?_)
 refine bo 3 aa (dc ?_)
 rw[hm]
 exact⟨_,PS.ib a (q.expr D).2 d e1 (cn++[(⟨0,v,[]⟩:Item)]),rfl,xB rfl rfl rfl rfl,⟨e1,(⟨0,v,[]⟩:Item),rfl,rfl,U,fun h0=>by rw[I h0]⟩⟩
end Go.Ev.Pp
