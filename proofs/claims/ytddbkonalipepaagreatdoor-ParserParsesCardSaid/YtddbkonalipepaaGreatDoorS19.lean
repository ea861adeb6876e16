/- Part 19 of rules for walks through the code of a program, and of such walks; what each part proves is said by its theorems. -/
import Derived.Test.YtddbkonalipepaaGreatDoorS17
import Derived.Test.YtddbkonalipepaaGreatDoorS18
set_option linter.unusedVariables false
set_option linter.unusedSimpArgs false
namespace Go.Ev.Pp
open Go
set_option maxRecDepth 10000
set_option maxHeartbeats 2000000 in
theorem S4{T:bf}(F:FT T){D:Rd}{n:Nat}(hS:RT T 256 (eT D n) (n+1) (10*n+1)):RT T 254 (chain (eT D n) lA) (n+1) (10*n+2):=by
 intro a p e N hp Y he hN
 have yv:n≤61:=by omega
 have Z:=zg D hp Y
 refine cl F.ZY aa (ak 1 aa (ai (ae 2 aa (jn (hS a p e N hp Y he hN) aa aa aa aa (fun e1 g1=>?_)))))
 refine ae 1 aa (af ?_)
 refine aM (bN ?_)
 refine d7 (fun k VE B=>∃(x:Int)(q:PS)(e1:List aL),j8 (eT D n) lA k x q=(chain (eT D n) lA p)∧(q.err=0→x+1=(e1.length:Nat))∧q.ay.length≤k+q.aI∧St q∧q.depth=p.depth∧q.ay=p.ay∧EG q e1 (N+(10*n+2))∧bu [(0,.vp 1000 0),(1,.ac 1050 (e1.map aL.enc).length 8)] VE∧bu (PS.be a q e1) B) ?_ (k:=p.ay.length) ⟨(eT D n p).1,(eT D n p).2,e1,rfl,qR g1 (Gf D n p hp Y),by rw[Z.ay];omega,Z.st,Z.depth,Z.ay,g1.dz (by omega),⟨rfl,rfl,trivial⟩,⟨rfl,rfl,trivial⟩⟩
 clear g1
 rintro k VE B⟨x,q,e1,z,hx,hk,K,O,gh,hg,hV,hB⟩
 refine ey (PS.be a q e1) hB ?_
 have hB:bu (PS.be a q e1) (PS.be a q e1):=⟨rfl,rfl,trivial⟩
 have pf:=hg.small K.ok (by omega)
 refine dy _ _ hV hB (aM (ai (ae 1 aa (bH (mj F K.ok eM) aa aa aa aa (af (aJ aa (fun A=>?_) (fun A=>?_)))))))
 ·have U:lA q=some (5,(q.sign eM).2):=by unfold lA;rw[aq A]
  have I:=Gy A
  obtain⟨k,rfl⟩:∃k',k=k'+1:=⟨k-1,by have:=K.ok.lt;omega⟩
  rw[qa U] at z
  have h2:=BT q _ _ K U
  have h0:=(qp A).1
  have hl:=pz (hx h0)
  have gz:=(hg.zero K.ok h0).kn h2 (ow ..)
  generalize (q.sign eM).2=G at U z h2 I gz⊢
  have J:G.depth+(n+1)=61:=by rw[h2.depth,O];exact Y
  have h3:=zg D h2.st J
  refine aT (bN (ai (ae 2 aa ?_)))
  refine al (gi rfl rfl (by simp only[cF,aZ];omega) (by simp only[cF,aZ];omega) ?_)
  rw[hl]
  refine ae 1 aa (af ?_)
  refine bG (ae 2 aa ?_)
  refine jn (hS a G e1 0 h2.st J gz (by omega)) rfl rfl rfl rfl (fun e2 g2=>?_)
  refine ae 1 aa ?_
  refine uD (uE F (e:=e2) (g2.small h3.st.ok (by omega)) 5 x) rfl rfl rfl ?_
  refine ae 1 aa (af ?_)
  have h4:=bC.push K.ok (k:=0) ((h2.trans h3).dz (by omega)) (⟨5,x,(eT D n G).1,[],[],cj⟩:aL)
  exact⟨k,by omega,((eT D n G).2.push (⟨5,x,(eT D n G).1,[],[],cj⟩:aL)).1,((eT D n G).2.push (⟨5,x,(eT D n G).1,[],[],cj⟩:aL)).2,e2++[(⟨5,x,((e2.map aL.enc).length:Nat) -Int.ofNat 1,[],[],cj⟩:aL)],z,za g2,by rw[h4.ay];have:=h3.aI;show q.ay.length≤k+(eT D n G).2.aI;omega,h4.st,h4.depth.trans O,h4.ay.trans gh,(g2.join (Gf D n G h2.st J) 5 x).dz (by omega),⟨rfl,rfl,trivial⟩,⟨rfl,rfl,trivial⟩⟩
 have U:lA q=none:=by unfold lA;rw[aj (by rw[A];decide)]
 rw[rH U] at z
 rw[PS.ic A]
 refine dM (ak 2 aa (ax ?_))
 rw[←z]
 exact⟨_,PS.be a q e1,aa,⟨aa,aa,trivial⟩,⟨e1,aa,aa,hg⟩⟩
set_option maxHeartbeats 2000000 in
theorem Wb{T:bf}(F:FT T){D:Rd}{n:Nat}(hS:RT T 234 (eB D (n+1)) (n+1) (10*n+5)):RT T 206 (chain (eB D (n+1)) l5) (n+1) (10*n+6):=by
 intro a p e N hp Y he hN
 have yv:n≤61:=by omega
 have Z:=(fun a b=>(pA D (n+1)).2 _ a b) hp Y
 refine cl F.Zy aa (ak 1 aa (ai (ae 2 aa (jn (hS a p e N hp Y he hN) aa aa aa aa (fun e1 g1=>?_)))))
 refine ae 1 aa (af ?_)
 refine aM (bN ?_)
 refine d7 (fun k VE B=>∃(x:Int)(q:PS)(e1:List aL),j8 (eB D (n+1)) l5 k x q=(chain (eB D (n+1)) l5 p)∧(q.err=0→x+1=(e1.length:Nat))∧q.ay.length≤k+q.aI∧St q∧q.depth=p.depth∧q.ay=p.ay∧EG q e1 (N+(10*n+6))∧bu [(0,.vp 1000 0),(1,.ac 1050 (e1.map aL.enc).length 8)] VE∧bu (PS.be a q e1) B) ?_ (k:=p.ay.length) ⟨(eB D (n+1) p).1,(eB D (n+1) p).2,e1,rfl,qR g1 ((vL D (n+1)).2 p hp Y),by rw[Z.ay];omega,Z.st,Z.depth,Z.ay,g1.dz (by omega),⟨rfl,rfl,trivial⟩,⟨rfl,rfl,trivial⟩⟩
 clear g1
 rintro k VE B⟨x,q,e1,z,hx,hk,K,O,gh,hg,hV,hB⟩
 refine ey (PS.be a q e1) hB ?_
 have hB:bu (PS.be a q e1) (PS.be a q e1):=⟨rfl,rfl,trivial⟩
 have pf:=hg.small K.ok (by omega)
 refine dy _ _ hV hB (aM (ai (ae 1 aa (bH (fC F K.ok l4) aa aa aa aa (af (aJ aa (fun A=>?_) (fun A=>?_)))))))
 ·have U:l5 q=some (9,(q.keyword l4).2):=by unfold l5;rw[aq A]
  have I:=y5 A
  obtain⟨k,rfl⟩:∃k',k=k'+1:=⟨k-1,by have:=K.ok.lt;omega⟩
  rw[qa U] at z
  have h2:=B3 q _ _ K U
  have h0:=(uC A).1
  have hl:=pz (hx h0)
  have gz:=(hg.zero K.ok h0).kn h2 (mb ..)
  generalize (q.keyword l4).2=G at U z h2 I gz⊢
  have J:G.depth+(n+1)=61:=by rw[h2.depth,O];exact Y
  have h3:=(fun a b=>(pA D (n+1)).2 _ a b) h2.st J
  refine aT (bN (ai (ae 2 aa ?_)))
  refine al (gi rfl rfl (by simp only[cF,aZ];omega) (by simp only[cF,aZ];omega) ?_)
  rw[hl]
  refine ae 1 aa (af ?_)
  refine bG (ae 2 aa ?_)
  refine jn (hS a G e1 0 h2.st J gz (by omega)) rfl rfl rfl rfl (fun e2 g2=>?_)
  refine ae 1 aa ?_
  refine uD (uE F (e:=e2) (g2.small h3.st.ok (by omega)) 9 x) rfl rfl rfl ?_
  refine ae 1 aa (af ?_)
  have h4:=bC.push K.ok (k:=0) ((h2.trans h3).dz (by omega)) (⟨9,x,(eB D (n+1) G).1,[],[],cj⟩:aL)
  exact⟨k,by omega,((eB D (n+1) G).2.push (⟨9,x,(eB D (n+1) G).1,[],[],cj⟩:aL)).1,((eB D (n+1) G).2.push (⟨9,x,(eB D (n+1) G).1,[],[],cj⟩:aL)).2,e2++[(⟨9,x,((e2.map aL.enc).length:Nat) -Int.ofNat 1,[],[],cj⟩:aL)],z,za g2,by rw[h4.ay];have:=h3.aI;show q.ay.length≤k+(eB D (n+1) G).2.aI;omega,h4.st,h4.depth.trans O,h4.ay.trans gh,(g2.join ((vL D (n+1)).2 G h2.st J) 9 x).dz (by omega),⟨rfl,rfl,trivial⟩,⟨rfl,rfl,trivial⟩⟩
 have U:l5 q=none:=by unfold l5;rw[aj (by rw[A];decide)]
 rw[rH U] at z
 rw[PS.cK A]
 refine dM (ak 2 aa (ax ?_))
 rw[←z]
 exact⟨_,PS.be a q e1,aa,⟨aa,aa,trivial⟩,⟨e1,aa,aa,hg⟩⟩
set_option maxHeartbeats 2000000 in
theorem Wc{T:bf}(F:FT T){D:Rd}{n:Nat}(hS:RT T 206 (ja D n) (n+1) (10*n+6)):RT T 171 (chain (ja D n) my) (n+1) (10*n+7):=by
 intro a p e N hp Y he hN
 have yv:n≤61:=by omega
 have Z:=Cp D hp Y
 refine cl F.Zc aa (ak 1 aa (ai (ae 2 aa (jn (hS a p e N hp Y he hN) aa aa aa aa (fun e1 g1=>?_)))))
 refine ae 1 aa (af ?_)
 refine aM (bN ?_)
 refine d7 (fun k VE B=>∃(x:Int)(q:PS)(e1:List aL),j8 (ja D n) my k x q=(chain (ja D n) my p)∧(q.err=0→x+1=(e1.length:Nat))∧q.ay.length≤k+q.aI∧St q∧q.depth=p.depth∧q.ay=p.ay∧EG q e1 (N+(10*n+7))∧bu [(0,.vp 1000 0),(1,.ac 1050 (e1.map aL.enc).length 8)] VE∧bu (PS.be a q e1) B) ?_ (k:=p.ay.length) ⟨(ja D n p).1,(ja D n p).2,e1,rfl,qR g1 (LZ D n p hp Y),by rw[Z.ay];omega,Z.st,Z.depth,Z.ay,g1.dz (by omega),⟨rfl,rfl,trivial⟩,⟨rfl,rfl,trivial⟩⟩
 clear g1
 rintro k VE B⟨x,q,e1,z,hx,hk,K,O,gh,hg,hV,hB⟩
 refine ey (PS.be a q e1) hB ?_
 have hB:bu (PS.be a q e1) (PS.be a q e1):=⟨rfl,rfl,trivial⟩
 have pf:=hg.small K.ok (by omega)
 refine dy _ _ hV hB (aM (ai (ae 1 aa (bH (fC F K.ok l9) aa aa aa aa (af (aJ aa (fun A=>?_) (fun A=>?_)))))))
 ·have U:my q=some (10,(q.keyword l9).2):=by unfold my;rw[aq A]
  have I:=y5 A
  obtain⟨k,rfl⟩:∃k',k=k'+1:=⟨k-1,by have:=K.ok.lt;omega⟩
  rw[qa U] at z
  have h2:=Gu q _ _ K U
  have h0:=(uC A).1
  have hl:=pz (hx h0)
  have gz:=(hg.zero K.ok h0).kn h2 (mb ..)
  generalize (q.keyword l9).2=G at U z h2 I gz⊢
  have J:G.depth+(n+1)=61:=by rw[h2.depth,O];exact Y
  have h3:=Cp D h2.st J
  refine aT (bN (ai (ae 2 aa ?_)))
  refine al (gi rfl rfl (by simp only[cF,aZ];omega) (by simp only[cF,aZ];omega) ?_)
  rw[hl]
  refine ae 1 aa (af ?_)
  refine bG (ae 2 aa ?_)
  refine jn (hS a G e1 0 h2.st J gz (by omega)) rfl rfl rfl rfl (fun e2 g2=>?_)
  refine ae 1 aa ?_
  refine uD (uE F (e:=e2) (g2.small h3.st.ok (by omega)) 10 x) rfl rfl rfl ?_
  refine ae 1 aa (af ?_)
  have h4:=bC.push K.ok (k:=0) ((h2.trans h3).dz (by omega)) (⟨10,x,(ja D n G).1,[],[],cj⟩:aL)
  exact⟨k,by omega,((ja D n G).2.push (⟨10,x,(ja D n G).1,[],[],cj⟩:aL)).1,((ja D n G).2.push (⟨10,x,(ja D n G).1,[],[],cj⟩:aL)).2,e2++[(⟨10,x,((e2.map aL.enc).length:Nat) -Int.ofNat 1,[],[],cj⟩:aL)],z,za g2,by rw[h4.ay];have:=h3.aI;show q.ay.length≤k+(ja D n G).2.aI;omega,h4.st,h4.depth.trans O,h4.ay.trans gh,(g2.join (LZ D n G h2.st J) 10 x).dz (by omega),⟨rfl,rfl,trivial⟩,⟨rfl,rfl,trivial⟩⟩
 have U:my q=none:=by unfold my;rw[aj (by rw[A];decide)]
 rw[rH U] at z
 rw[PS.cK A]
 refine dM (ak 2 aa (ax ?_))
 rw[←z]
 exact⟨_,PS.be a q e1,aa,⟨aa,aa,trivial⟩,⟨e1,aa,aa,hg⟩⟩
open Go
set_option maxRecDepth 10000
set_option maxHeartbeats 2000000 in
theorem Z3{T:bf}(F:FT T){D:Rd}{n:Nat}(hS:RT T 254 (eX D n) (n+1) (10*n+2)):RT T 252 (chain (eX D n) km) (n+1) (10*n+3):=by
 intro a p e N hp hd he hN
 have yv:n≤61:=by omega
 have h1:=vz D hp hd
 refine cl F.ZW aa (ak 1 aa (ai (ae 2 aa (jn (hS a p e N hp hd he hN) aa aa aa aa (fun e1 g1=>?_)))))
 refine ae 1 aa (af ?_)
 refine bN ?_
 refine d7 (fun k VE B=>∃(x:Int)(q:PS)(e1:List aL),j8 (eX D n) km k x q=(chain (eX D n) km p)∧(q.err=0→x+1=(e1.length:Nat))∧q.ay.length≤k+q.aI∧St q∧q.depth=p.depth∧q.ay=p.ay∧EG q e1 (N+(10*n+3))∧bu [(0,.vp 1000 0),(1,.ac 1050 (e1.map aL.enc).length 8)] VE∧bu (PS.be a q e1) B) ?_ (k:=p.ay.length) ⟨(eX D n p).1,(eX D n p).2,e1,rfl,qR g1 (B6 D n p hp hd),by rw[h1.ay];omega,h1.st,h1.depth,h1.ay,g1.dz (by omega),⟨rfl,rfl,trivial⟩,⟨rfl,rfl,trivial⟩⟩
 clear g1
 rintro k VE B⟨x,q,e1,z,hx,hk,G,U,gh,hg,hV,hB⟩
 refine ey (PS.be a q e1) hB ?_
 have hB:bu (PS.be a q e1) (PS.be a q e1):=⟨rfl,rfl,trivial⟩
 have pf:=hg.small G.ok (by omega)
 refine dy _ _ hV hB (bN (ai (ae 2 aa ?_)))
 refine al (gi rfl rfl (by simp only[cF,aZ];omega) (by simp only[cF,aZ];omega) ?_)
 obtain⟨v,hv⟩:∃v:Int,(((e1.map aL.enc).length:Nat):Int) -Int.ofNat 1=v:=⟨_,rfl⟩
 rw[hv]
 refine ae 1 aa (af ?_)
 refine bN (ai (ae 1 aa (bH (mj F G.ok nJ) aa aa aa aa (ae 1 aa (af ?_)))))
 refine aJ aa (fun bI=>?_) (fun bI=>?_)
 ·have Y:=R6 bI
  have I:=Gy bI
  obtain⟨k,rfl⟩:∃k',k=k'+1:=⟨k-1,by have:=G.ok.lt;omega⟩
  rw[qa Y] at z
  have h2:=wW q _ _ G Y
  have h0:=(qp bI).1
  have Z:x=v:=(pz (hx h0)).symm.trans hv
  subst Z
  have gz:=(hg.zero G.ok h0).kn h2 (ow ..)
  generalize (q.sign nJ).2=A at Y z h2 I gz⊢
  have J:A.depth+(n+1)=61:=by rw[h2.depth,U];exact hd
  have K:=vz D h2.st J
  refine bG (ae 2 aa ?_)
  refine jn (hS a A e1 0 h2.st J gz (by omega)) rfl rfl rfl rfl (fun e2 g2=>?_)
  refine ae 1 aa ?_
  refine uD (uE F (e:=e2) (g2.small K.st.ok (by omega)) 3 x) rfl rfl rfl ?_
  refine ae 1 aa (af ?_)
  exact⟨k,by omega,((eX D n A).2.push (⟨3,x,(eX D n A).1,[],[],cj⟩:aL)).1,((eX D n A).2.push (⟨3,x,(eX D n A).1,[],[],cj⟩:aL)).2,e2++[(⟨3,x,((e2.map aL.enc).length:Nat) -Int.ofNat 1,[],[],cj⟩:aL)],z,za g2,by rw[(bC.push G.ok (k:=0) ((h2.trans K).dz (by omega)) (⟨3,x,(eX D n A).1,[],[],cj⟩:aL)).ay];have:=K.aI;show q.ay.length≤k+(eX D n A).2.aI;omega,(bC.push G.ok (k:=0) ((h2.trans K).dz (by omega)) (⟨3,x,(eX D n A).1,[],[],cj⟩:aL)).st,(bC.push G.ok (k:=0) ((h2.trans K).dz (by omega)) (⟨3,x,(eX D n A).1,[],[],cj⟩:aL)).depth.trans U,(bC.push G.ok (k:=0) ((h2.trans K).dz (by omega)) (⟨3,x,(eX D n A).1,[],[],cj⟩:aL)).ay.trans gh,(g2.join (B6 D n A h2.st J) 3 x).dz (by omega),⟨rfl,rfl,trivial⟩,⟨rfl,rfl,trivial⟩⟩
 rw[PS.ic bI]
 refine ai (ae 1 aa (bH (mj F G.ok gM) aa aa aa aa (ae 1 aa (af ?_))))
 refine aJ aa (fun O=>?_) (fun O=>?_)
 ·have Y:=Rl O
  have I:=Gy O
  obtain⟨k,rfl⟩:∃k',k=k'+1:=⟨k-1,by have:=G.ok.lt;omega⟩
  rw[qa Y] at z
  have h2:=wW q _ _ G Y
  have h0:=(qp O).1
  have Z:x=v:=(pz (hx h0)).symm.trans hv
  subst Z
  have gz:=(hg.zero G.ok h0).kn h2 (ow ..)
  generalize (q.sign gM).2=A at Y z h2 I gz⊢
  have J:A.depth+(n+1)=61:=by rw[h2.depth,U];exact hd
  have K:=vz D h2.st J
  refine bG (ae 2 aa ?_)
  refine jn (hS a A e1 0 h2.st J gz (by omega)) rfl rfl rfl rfl (fun e2 g2=>?_)
  refine ae 1 aa ?_
  refine uD (uE F (e:=e2) (g2.small K.st.ok (by omega)) 4 x) rfl rfl rfl ?_
  refine ae 1 aa (af ?_)
  exact⟨k,by omega,((eX D n A).2.push (⟨4,x,(eX D n A).1,[],[],cj⟩:aL)).1,((eX D n A).2.push (⟨4,x,(eX D n A).1,[],[],cj⟩:aL)).2,e2++[(⟨4,x,((e2.map aL.enc).length:Nat) -Int.ofNat 1,[],[],cj⟩:aL)],z,za g2,by rw[(bC.push G.ok (k:=0) ((h2.trans K).dz (by omega)) (⟨4,x,(eX D n A).1,[],[],cj⟩:aL)).ay];have:=K.aI;show q.ay.length≤k+(eX D n A).2.aI;omega,(bC.push G.ok (k:=0) ((h2.trans K).dz (by omega)) (⟨4,x,(eX D n A).1,[],[],cj⟩:aL)).st,(bC.push G.ok (k:=0) ((h2.trans K).dz (by omega)) (⟨4,x,(eX D n A).1,[],[],cj⟩:aL)).depth.trans U,(bC.push G.ok (k:=0) ((h2.trans K).dz (by omega)) (⟨4,x,(eX D n A).1,[],[],cj⟩:aL)).ay.trans gh,(g2.join (B6 D n A h2.st J) 4 x).dz (by omega),⟨rfl,rfl,trivial⟩,⟨rfl,rfl,trivial⟩⟩
 have Y:=T' bI O
 rw[rH Y] at z
 rw[PS.ic O]
 refine ak 2 aa (ax ?_)
 rw[←z]
 exact⟨_,PS.be a q e1,aa,⟨aa,aa,trivial⟩,⟨e1,aa,aa,hg⟩⟩
set_option maxHeartbeats 2000000 in
theorem QJ{T:bf}(F:FT T){D:Rd}{n:Nat}(hS:RT T 252 (eh D n) (n+1) (10*n+3)):RT T 247 (iC (eh D n)) (n+1) (10*n+4):=by
 intro a p e N hp hd he hN
 have yv:n≤61:=by omega
 have G:=ts D hp hd
 refine cl F.ZR aa (ak 1 aa (ai (ae 2 aa (jn (hS a p e N hp hd he hN) aa aa aa aa (fun e1 g1=>?_)))))
 have pf:=g1.small G.st.ok (by omega)
 refine ae 1 aa (af ?_)
 refine ai (ae 2 aa ?_)
 refine al (gi rfl rfl (by simp only[cF,aZ];omega) (by simp only[cF,aZ];omega) ?_)
 obtain⟨v,hv⟩:∃v:Int,(((e1.map aL.enc).length:Nat):Int) -Int.ofNat 1=v:=⟨_,rfl⟩
 rw[hv]
 refine ae 1 aa (af ?_)
 refine aM (bN (ai (ae 1 aa (bH (mj F G.st.ok mT) aa aa aa aa (ae 1 aa (af ?_))))))
 refine aJ aa (fun A=>?_) (fun A=>?_)
 ·have U:iC (eh D n) p=rB (eh D n) 6 (eh D n p).1 ((eh D n p).2.sign mT).2:=by unfold iC;rw[aq A]
  have Y:=bC.sign G.st A
  have h2:=G.trans Y
  have h0:=(qp A).1
  have J:(eh D n p).1=v:=(pz (qR g1 (vF D n p hp hd) h0)).symm.trans hv
  rw[←J]
  have gz:=(g1.zero G.st.ok h0).kn Y (ow ..)
  generalize ((eh D n p).2.sign mT).2=Z at U h2 gz⊢
  have z:Z.depth+(n+1)=61:=by rw[h2.depth];exact hd
  have h3:=ts D h2.st z
  refine ai (ae 2 aa ?_)
  refine jn (hS a Z e1 0 h2.st z gz (by omega)) rfl rfl rfl rfl (fun e2 g2=>?_)
  refine ae 1 aa ?_
  refine uD (uE F (e:=e2) (g2.small h3.st.ok (by omega)) 6 _) rfl rfl rfl ?_
  refine ae 1 aa (af ?_)
  refine ax ?_
  rw[U]
  exact⟨_,PS.be a _ _,rfl,⟨rfl,rfl,trivial⟩,⟨_,rfl,rfl,(g2.join (vF D n Z h2.st z) 6 _).dz (by omega)⟩⟩
 rw[PS.ic A]
 refine ai (ae 1 aa (bH (mj F G.st.ok uz) aa aa aa aa (ae 1 aa (af ?_))))
 refine aJ aa (fun I=>?_) (fun I=>?_)
 ·have U:iC (eh D n) p=rB (eh D n) 7 (eh D n p).1 ((eh D n p).2.sign uz).2:=by unfold iC;rw[aj (by rw[A];decide),aq I]
  have Y:=bC.sign G.st I
  have h2:=G.trans Y
  have h0:=(qp I).1
  have J:(eh D n p).1=v:=(pz (qR g1 (vF D n p hp hd) h0)).symm.trans hv
  rw[←J]
  have gz:=(g1.zero G.st.ok h0).kn Y (ow ..)
  generalize ((eh D n p).2.sign uz).2=Z at U h2 gz⊢
  have z:Z.depth+(n+1)=61:=by rw[h2.depth];exact hd
  have h3:=ts D h2.st z
  refine ai (ae 2 aa ?_)
  refine jn (hS a Z e1 0 h2.st z gz (by omega)) rfl rfl rfl rfl (fun e2 g2=>?_)
  refine ae 1 aa ?_
  refine uD (uE F (e:=e2) (g2.small h3.st.ok (by omega)) 7 _) rfl rfl rfl ?_
  refine ae 1 aa (af ?_)
  refine ax ?_
  rw[U]
  exact⟨_,PS.be a _ _,rfl,⟨rfl,rfl,trivial⟩,⟨_,rfl,rfl,(g2.join (vF D n Z h2.st z) 7 _).dz (by omega)⟩⟩
 rw[PS.ic I]
 refine ai (ae 1 aa (bH (mj F G.st.ok uA) aa aa aa aa (ae 1 aa (af ?_))))
 refine aJ aa (fun K=>?_) (fun K=>?_)
 ·have U:iC (eh D n) p=rB (eh D n) 8 (eh D n p).1 ((eh D n p).2.sign uA).2:=by unfold iC;rw[aj (by rw[A];decide),aj (by rw[I];decide),aq K]
  have Y:=bC.sign G.st K
  have h2:=G.trans Y
  have h0:=(qp K).1
  have J:(eh D n p).1=v:=(pz (qR g1 (vF D n p hp hd) h0)).symm.trans hv
  rw[←J]
  have gz:=(g1.zero G.st.ok h0).kn Y (ow ..)
  generalize ((eh D n p).2.sign uA).2=Z at U h2 gz⊢
  have z:Z.depth+(n+1)=61:=by rw[h2.depth];exact hd
  have h3:=ts D h2.st z
  refine ai (ae 2 aa ?_)
  refine jn (hS a Z e1 0 h2.st z gz (by omega)) rfl rfl rfl rfl (fun e2 g2=>?_)
  refine ae 1 aa ?_
  refine uD (uE F (e:=e2) (g2.small h3.st.ok (by omega)) 8 _) rfl rfl rfl ?_
  refine ae 1 aa (af ?_)
  refine ax ?_
  rw[U]
  exact⟨_,PS.be a _ _,rfl,⟨rfl,rfl,trivial⟩,⟨_,rfl,rfl,(g2.join (vF D n Z h2.st z) 8 _).dz (by omega)⟩⟩
 rw[PS.ic K]
 refine ai (ae 1 aa (bH (fC F G.st.ok yP) aa aa aa aa (ae 1 aa (af ?_))))
 refine aJ aa (fun O=>?_) (fun O=>?_)
 ·have U:iC (eh D n) p=un (((eh D n p).2.keyword yP).2.aU [k0]) 12 (eh D n p).1:=by unfold iC;rw[aj (by rw[A];decide),aj (by rw[I];decide),aj (by rw[K];decide),aq O]
  have Y:=bC.keyword G.st O
  have h2:=G.trans Y
  have h0:=(uC O).1
  have J:v=(eh D n p).1:=hv.symm.trans (pz (qR g1 (vF D n p hp hd) h0))
  have gz:=((g1.zero G.st.ok h0).kn Y (mb ..)).kn (bC.aU (l:=[k0]) h2.st) pg
  refine ai (ae 1 aa (bH (iY F h2.st.ok k0) aa aa aa aa (af (ai (ae 4 aa ?_)))))
  refine al (eu (rows:=e1.map aL.enc) (ys:=[(⟨12,v,0,[],[],cj⟩:aL).enc]) rfl rfl rfl (.bs (rows:=[(⟨12,v,0,[],[],cj⟩:aL).enc]) rfl) (bS rfl) (by rw[bJ,cF];simp only[dj,dJ];omega) (fun h=>by rw[h];rfl) (fun h=>by rw[h];rfl) ?_)
  refine ae 1 aa (af ?_)
  refine ax ?_
  rw[U]
  exact⟨_,PS.be a (un _ 12 _).2 (e1++[⟨12,v,0,[],[],cj⟩]),rfl,Ar rfl rfl,⟨e1++[⟨12,v,0,[],[],cj⟩],by rw[dX];rfl,rfl,(gz.un (fun _=>J) 12).dz (by omega)⟩⟩
 have U:iC (eh D n) p=eh D n p:=by unfold iC;rw[aj (by rw[A];decide),aj (by rw[I];decide),aj (by rw[K];decide),aj (by rw[O];decide)]
 rw[PS.cK O]
 refine aT (ak 2 aa (ax ?_))
 rw[U]
 exact⟨_,PS.be a _ e1,rfl,⟨rfl,rfl,trivial⟩,⟨e1,rfl,rfl,g1.dz (by omega)⟩⟩
open Go
set_option maxRecDepth 10000
set_option maxHeartbeats 2000000 in
theorem R7{T:bf}(F:FT T){D:Rd}{n:Nat}(hS:RT T 247 (cmpL D n) (n+1) (10*n+4))(hI:RT T 234 (eB D n) n (10*n)):RT T 234 (eB D (n+1)) (n+1) (10*n+5):=by
 intro a p e N hp hd he hN
 have yv:n≤61:=by omega
 refine cl F.ZK aa (ak 1 aa (aM (ai (ae 1 aa (bH (yR F hp.ok 1 wo) aa aa aa aa (ae 1 aa (af ?_)))))))
 refine aJ aa (fun U=>?_) (fun U=>?_)
 ·have G:p.next 1 wo=false:=by simpa using U
  have K:eB D (n+1) p=cmpL D n p:=by rw[wN];unfold nj;rw[aq G]
  refine ai (ae 2 aa (jn (hS a p e N hp hd he hN) aa aa aa aa (fun e1 I=>?_)))
  refine ae 1 aa (af ?_)
  refine ax ?_
  rw[K]
  exact⟨_,PS.be a _ e1,rfl,⟨rfl,rfl,trivial⟩,⟨e1,rfl,rfl,I.dz (by omega)⟩⟩
 have G:p.next 1 wo=true:=by simpa using U
 have J:=PS.kR hp.ok (kind:=1) (by decide) G
 refine aT (aM (ai (ae 1 aa (bH (NZ F hp.ok (PS.wY G) J) aa aa aa aa (ae 1 aa (af ?_))))))
 refine aJ aa (fun bI=>?_) (fun bI=>?_)
 ·have z:p.enter.1=false:=by simpa using bI
  have K:eB D (n+1) p=(0,p.enter.2):=by rw[wN];unfold nj;rw[aj (by rw[G];decide),aq z]
  rw[aj (by rw[z];decide)]
  have I:EG p.enter.2 e N:=by rw[PS.w9 z];exact he.kn (bC.fail hp (by decide)) (vE ..)
  refine ak 2 aa (ax ?_)
  rw[K]
  exact⟨_,PS.be a _ e,rfl,⟨rfl,rfl,trivial⟩,⟨e,rfl,rfl,I.dz (by omega)⟩⟩
 have z:p.enter.1=true:=by simpa using bI
 have J:=PS.kR hp.ok (kind:=1) (by decide) G
 obtain⟨Y,O⟩:=hp.qV z J
 have A:p.enter.2.step.depth+n=61:=by rw[O];omega
 have gd:=he.deep z
 rw[aq z]
 have K:eB D (n+1) p=un (eB D n p.enter.2.step).2.up 11 (eB D n p.enter.2.step).1:=by rw[wN];unfold nj;rw[aj (by rw[G];decide),aj (by rw[z];decide)]
 have Z:=(pA D n).2 _ Y A
 have p7:1≤((eB D n p.enter.2.step).2).depth:=by rw[Z.depth,O];omega
 have hrl:=Z.st.ok.kD
 have mU:((((eB D n p.enter.2.step).2).depth:Nat):Int) -Int.ofNat 1=((((eB D n p.enter.2.step).2).depth-1:Nat):Int):=by simp only[aZ];omega
 refine aT (ai (ae 2 aa (jn (hI a p.enter.2.step e N Y A gd hN) aa aa aa aa (fun e1 I=>?_))))
 refine ae 1 aa (af ?_)
 refine ai (ae 4 aa ?_)
 refine al (gi rfl rfl (by simp only[aZ];omega) (by simp only[aZ];omega) ?_)
 rw[mU]
 refine ae 3 aa (af ?_)
 refine ai (ew (PS.be a (eB D n p.enter.2.step).2.up e1) ⟨aa,aa,trivial⟩ ?_)
 have pf:=I.small Z.st.ok (by omega)
 refine ae 3 aa ?_
 refine al (gi rfl rfl (by simp only[cF,aZ];omega) (by simp only[cF,aZ];omega) ?_)
 obtain⟨v,hv⟩:∃v:Int,(((e1.map aL.enc).length:Nat):Int) -Int.ofNat 1=v:=⟨_,rfl⟩
 rw[hv]
 refine ae 2 aa ?_
 refine al (eu (rows:=e1.map aL.enc) (ys:=[(⟨11,v,0,[],[],cj⟩:aL).enc]) rfl rfl rfl (.bs (rows:=[(⟨11,v,0,[],[],cj⟩:aL).enc]) rfl) (bS rfl) (by rw[bJ,cF];simp only[dj,dJ];omega) (fun h=>by rw[h];rfl) (fun h=>by rw[h];rfl) ?_)
 refine ae 1 aa (af ?_)
 refine ax ?_
 rw[K]
 exact⟨_,PS.be a (un _ 11 _).2 (e1++[⟨11,v,0,[],[],cj⟩]),rfl,Ar rfl rfl,⟨e1++[⟨11,v,0,[],[],cj⟩],by rw[dX];rfl,rfl,(I.up.un (fun h0=>hv.symm.trans (pz (qR I ((vL D n).2 _ Y A) h0))) 11).dz (by omega)⟩⟩
set_option maxHeartbeats 2000000 in
theorem S5{T:bf}(F:FT T){D:Rd}(Lq:ka T D){n:Nat}(hI:RT T 171 (lB D n) n (10*n)):RT T 256 (eT D n) (n+1) (10*n+1):=by
 intro a p e N hp hd he hN
 have yv:n≤61:=by omega
 refine cl F.Z0 aa (ak 1 aa (aM (ak 5 aa (aJ aa (fun I=>?_) (fun I=>?_)))))
 ·have h0:¬p.err=0:=by simpa using I
  have A:eT D n p=(0,p):=by unfold eT k9;rw[aq h0]
  refine ak 2 aa (ax ?_)
  rw[A]
  exact⟨_,PS.be a _ e,rfl,⟨rfl,rfl,trivial⟩,⟨e,rfl,rfl,he.dz (by omega)⟩⟩
 have h0:p.err=0:=by simpa using I
 refine aT (aM (ai (ae 1 aa (bH (yR F hp.ok 5 cg) aa aa aa aa (af (aJ aa (fun J=>?_) (fun J=>?_)))))))
 ·have K:p.next 5 cg=true:=J
  have O:=PS.kR hp.ok (kind:=5) (by decide) K
  refine aM (ai (ae 1 aa (bH (NZ F hp.ok h0 O) aa aa aa aa (af (aJ aa (fun U=>?_) (fun U=>?_))))))
  ·have z:p.enter.1=true:=by simpa using U
   have O:=PS.kR hp.ok (kind:=5) (by decide) K
   obtain⟨hq,PD⟩:=hp.qV z O
   have G:p.enter.2.step.depth+n=61:=by rw[PD];omega
   have gd:=he.deep z
   rw[aq z]
   have A:eT D n p=((lB D n p.enter.2.step).1,((lB D n p.enter.2.step).2.bw dG).up):=by unfold eT k9;rw[aj (by simpa using h0),aq K,aj (by rw[z];decide)];rfl
   have Y:=(pA D n).1 _ hq G
   have nz:=bC.bw Y.st dG
   have hr:=Y.trans nz
   have p7:1≤(((lB D n p.enter.2.step).2.bw dG)).depth:=by rw[hr.depth,PD];omega
   have hrl:=hr.st.ok.kD
   have mU:(((((lB D n p.enter.2.step).2.bw dG)).depth:Nat):Int) -Int.ofNat 1=(((((lB D n p.enter.2.step).2.bw dG)).depth-1:Nat):Int):=by simp only[aZ];omega
   refine ai (ae 2 aa (jn (hI a p.enter.2.step e N hq G gd hN) aa aa aa aa (fun e1 g1=>?_)))
   refine ae 1 aa (af ?_)
   refine ai (ae 1 aa (bH (oh F Y.st.ok dG) aa aa aa aa (af (bG (ae 4 aa ?_)))))
   refine al (gi rfl rfl (by simp only[aZ];omega) (by simp only[aZ];omega) ?_)
   rw[mU]
   refine ae 3 aa (af ?_)
   refine ak 2 aa (ax ?_)
   rw[A]
   exact⟨_,PS.be a ((lB D n p.enter.2.step).2.bw dG).up e1,rfl,⟨rfl,rfl,trivial⟩,⟨e1,rfl,rfl,((g1.kn nz (rG ..)).up).dz (by omega)⟩⟩
  have z:p.enter.1=false:=by simpa using U
  have A:eT D n p=(0,p.enter.2):=by unfold eT k9;rw[aj (by simpa using h0),aq K,aq z]
  rw[aj (by rw[z];decide)]
  have g1:EG p.enter.2 e N:=by rw[PS.w9 z];exact he.kn (bC.fail hp (by decide)) (vE ..)
  refine aT (ak 2 aa (ax ?_))
  rw[A]
  exact⟨_,PS.be a _ e,rfl,⟨rfl,rfl,trivial⟩,⟨e,rfl,rfl,g1.dz (by omega)⟩⟩
 have K:p.next 5 cg=false:=J
 have sr:(p.ay.map cL.enc)[p.aI]?=some p.tok.enc:=by rw[iO,hp.ok.get];rfl
 refine aT (aM (eU (bm 8 aa (dE (lS (row:=p.tok.enc) aa aa sr aa ?_)))))
 refine bm 3 aa (da ?_)
 refine aJ aa (fun Z=>?_) (fun Z=>?_)
 ·have hk:p.tok.kind=2:=by simpa using Z
  have A:eT D n p=p.fU:=by unfold eT k9;rw[aj (by simpa using h0),aj (by rw[K];decide),aq hk]
  refine ai (ae 2 aa (jn (L0 F a p e N hp trivial he hN) aa aa aa aa (fun e1 g1=>?_)))
  refine ae 1 aa (af ?_)
  refine ax ?_
  rw[A]
  exact⟨_,PS.be a _ e1,rfl,⟨rfl,rfl,trivial⟩,⟨e1,rfl,rfl,g1.dz (by omega)⟩⟩
 have hk:¬p.tok.kind=2:=by simpa using Z
 have A:eT D n p=(p.literal D).2.push ⟨1,0,0,[],[],(p.literal D).1⟩:=by unfold eT k9;rw[aj (by simpa using h0),aj (by rw[K];decide),aj hk]
 have gl:EG (p.literal D).2 e N:=he.kn (bC.Gb hp D h0) (Rk ..)
 refine aT (ai (ae 1 aa (al (N0 (Le F Lq hp) aa aa aa (fun v b q k1 k2=>?_)))))
 refine ae 6 aa (af ?_)
 refine aM (ak 2 aa (aJ aa (fun IH=>?_) (fun IH=>?_)))
 ·have hb:b=false:=by simpa using IH
  obtain⟨hqp,hl⟩:=k2 hb
  obtain rfl:=hqp.symm
  have hle:¬(p.literal D).2.err=0:=by rw[hl,vA h0];decide
  refine ai (ae 1 aa ?_)
  refine bH (lV F hp.ok (by decide)) rfl rfl rfl rfl ?_
  refine af (ak 2 aa (ax ?_))
  rw[A]
  exact⟨_,PS.be a ((p.literal D).2.push ⟨1,0,0,[],[],(p.literal D).1⟩).2 e,rfl,⟨by rw[show((p.literal D).2.push ⟨1,0,0,[],[],(p.literal D).1⟩).2.lI a=(p.literal D).2.lI a from rfl,hl];rfl,rfl,trivial⟩,⟨e,rfl,rfl,⟨fun h=>absurd h hle,by have:=gl.len;show e.length≤(p.literal D).2.aI+_;omega⟩⟩⟩
 have hb:b=true:=by simpa using IH
 obtain⟨rfl,hl⟩:=k1 hb
 have pf:=gl.small (PS.JR hp D).ok (by omega)
 refine aT (ai (ae 4 aa ?_))
 refine al (eu (rows:=e.map aL.enc) (ys:=[(⟨1,0,0,[],[],v⟩:aL).enc]) rfl rfl rfl (.bs (rows:=[(⟨1,0,0,[],[],v⟩:aL).enc]) rfl) (bS rfl) (by rw[bJ,cF];simp only[dj,dJ];omega) (fun h=>by rw[h];rfl) (fun h=>by rw[h];rfl) ?_)
 refine ae 1 aa (af ?_)
 refine ax ?_
 rw[A]
 exact⟨_,PS.be a ((p.literal D).2.push ⟨1,0,0,[],[],(p.literal D).1⟩).2 (e++[⟨1,0,0,[],[],v⟩]),rfl,Ar rfl rfl,⟨e++[⟨1,0,0,[],[],v⟩],by rw[dX];rfl,rfl,(gl.push (fun h=>by rw[hl h])).dz (by omega)⟩⟩
theorem MF{T:bf}(F:FT T){D:Rd}(z:ka T D):∀n,RT T 171 (lB D n) n (10*n)∧RT T 234 (eB D n) n (10*n)
 |0=>⟨fun a p e N h G=>absurd h.ok.kD (by omega),fun a p e N h G=>absurd h.ok.kD (by omega)⟩
 |n+1=>by
  obtain⟨I,h2⟩:=MF F z n
  have J:=S5 F z I
  have K:RT T 254 (eX D n) (n+1) (10*n+2):=S4 F J
  have O:RT T 252 (eh D n) (n+1) (10*n+3):=Z3 F K
  have U:RT T 247 (cmpL D n) (n+1) (10*n+4):=QJ F O
  have A:=R7 F U h2
  exact⟨RT.dz (Wc F (Wb F A)) (by omega),RT.dz A (by omega)⟩
open Go
set_option maxRecDepth 10000
set_option maxHeartbeats 1000000 in
theorem zU{T:bf}(F:FT T){a:Bool}{p:PS}(hp:bd p):bV T 172 [.vp 1000 0] (PS.bq a p) fun r Bn=>r= .d (fP p.names.1)∧Bn=PS.bq a p.names.2:=by
 refine cl F.Zd aa ?_
 have U:=hp.gP cg
 have G:∀p,bd p→bO p (PS.name p).2:=fun _ h=>h.name
 refine ak 1 aa (ak 1 aa (ai (ae 1 aa (bH (oh F hp.ok cg) aa aa aa aa (af (ai (ae 2 aa (bH (kM F U.ok) aa aa aa aa (ae 1 aa ?_)))))))))
 refine al (TL (ys:=[[cJ (p.bw cg).name.1]]) 1101 rfl rfl rfl rfl rfl (.bs (rows:=[[cJ (p.bw cg).name.1]]) rfl) (bS rfl) (by simp only[dj,dJ];omega) ?_)
 refine ae 1 aa (af ?_)
 refine aM (bN (d7 (fun k VE B=>∃(l:List _)(q:PS),kv PS.name k l q=(je PS.name (p.bw cg))∧l≠[]∧l.length≤q.aI+1∧(p.bw cg).ay.length≤k+q.aI∧bO (p.bw cg) q∧bu [(0,.vp 1000 0),(3,.ac 1101 (l.map (fun s=>[cJ s])).length 1)] VE∧bu (PS.bq a q++[(1101,.acc 9 16 1 (l.map (fun s=>[cJ s])))]) B) ?_ (k:=(p.bw cg).ay.length) ⟨[(PS.name (p.bw cg)).1],(PS.name (p.bw cg)).2,aa,pK _ _,mD (dh _),jP _ _,G _ U.top,⟨aa,aa,trivial⟩,cG aa ⟨aa,trivial⟩⟩))
 rintro k VE B⟨l,q,z,K,Z,hk,I,hV,O⟩
 refine ey (PS.bq a q++[(1101,.acc 9 16 1 (l.map (fun s=>[cJ s])))]) O ?_
 have O:bu (PS.bq a q++[(1101,.acc 9 16 1 (l.map (fun s=>[cJ s])))]) (PS.bq a q++[(1101,.acc 9 16 1 (l.map (fun s=>[cJ s])))]):=cG rfl ⟨rfl,trivial⟩
 have gh:q.ay.length=(p.bw cg).ay.length:=by rw[I.ay]
 refine dy _ _ hV O (aM (ai (ae 1 aa (bH (mj F I.ok cE) aa aa aa aa (af (aJ aa (fun A=>?_) (fun A=>?_)))))))
 ·have h2:=I.top.sign cE
  have J:=ot I.ok A
  have fi:=I.ok.dY
  obtain⟨k,rfl⟩:∃k',k=k'+1:=⟨k-1,by have:=J.2;omega⟩
  rw[ou A] at z
  have Y:=h2.trans (G _ h2.top)
  refine aT (bN (bG (ae 2 aa (bH (kM F h2.top.ok) aa aa aa aa (ae 1 aa ?_)))))
  refine al (eu (rows:=l.map (fun s=>[cJ s])) (ys:=[[cJ (PS.name (q.sign cE).2).1]]) rfl rfl rfl (.bs (rows:=[[cJ (PS.name (q.sign cE).2).1]]) rfl) (bS rfl) (by simp only[bJ,cF,dj,dJ];omega) (fun h=>by rw[h];rfl) (fun h=>by rw[h];rfl) ?_)
  refine ae 1 aa (af ?_)
  refine⟨k,fS k,l++[(PS.name (q.sign cE).2).1],(PS.name (q.sign cE).2).2,z,mh K _,?_,?_,I.trans Y,?_,?_⟩
  ·have:=Y.aI;have:=J.1;have:=(G _ h2.top).aI;rw[bJ,eG];show l.length+1≤(PS.name (q.sign cE).2).2.aI+1;omega
  ·have:=(G _ h2.top).aI;have:=J.1;show(p.bw cg).ay.length≤k+(PS.name (q.sign cE).2).2.aI;omega
  ·try simp only[dX,ez,fw]
   exact⟨aa,aa,trivial⟩
  try simp only[dX,ez,fw]
  exact cG aa ⟨aa,trivial⟩
 rw[ov A] at z
 rw[PS.ic A]
 refine dM (ai (ae 1 aa (bH (oh F I.ok dG) aa aa aa aa (af (ai (ae 1 aa (fu 20 1101 aa aa (fun _=>⟨aa,aa⟩) (ae 1 aa (af ?_)))))))))
 refine ax ?_
 have hm:p.names=(l,q.bw dG):=by unfold PS.names;rw[←z]
 rw[hm]
 unfold fP
 exact⟨_,PS.bq a _,aa,⟨aa,trivial⟩,aa,aa⟩
theorem FA{T:bf}(F:FT T){a:Bool}{p:PS}(hp:bd p):bV T 133 [.vp 1000 0] (PS.bq a p) fun r Bn=>r=ep (cP p.column.1)∧Bn=PS.bq a p.column.2:=by
 refine cl F.YO aa (ak 1 aa (ai (ae 1 aa (bH (kM F hp.ok) aa aa aa aa (ae 3 aa (af ?_))))))
 refine aM (bN (ai (ae 1 aa (bH (fC F hp.name.ok yq) aa aa aa aa (ae 1 aa (af ?_))))))
 refine aJ aa (fun G=>?_) (fun G=>?_)
 ·have A:p.column=((p.name.1,1),(p.name.2.keyword yq).2):=by unfold PS.column PS.nF;rw[aq G]
  refine bG (ae 2 aa (af ?_))
  refine ak 2 aa (ax ?_)
  rw[A]
  exact⟨_,PS.bq a _,aa,⟨aa,trivial⟩,aa,aa⟩
 rw[PS.cK G]
 refine ai (ae 1 aa (bH (fC F hp.name.ok xY) aa aa aa aa (ae 1 aa (af ?_))))
 refine aJ aa (fun bI=>?_) (fun bI=>?_)
 ·have A:p.column=((p.name.1,2),(p.name.2.keyword xY).2):=by unfold PS.column PS.nF;rw[aj (by rw[G];decide),aq bI]
  refine bG (ae 2 aa (af ?_))
  refine ak 2 aa (ax ?_)
  rw[A]
  exact⟨_,PS.bq a _,aa,⟨aa,trivial⟩,aa,aa⟩
 rw[PS.cK bI]
 refine ai (ae 1 aa (bH (fC F hp.name.ok xZ) aa aa aa aa (ae 1 aa (af ?_))))
 refine aJ aa (fun z=>?_) (fun z=>?_)
 ·have A:p.column=((p.name.1,3),(p.name.2.keyword xZ).2):=by unfold PS.column PS.nF;rw[aj (by rw[G];decide),aj (by rw[bI];decide),aq z]
  refine bG (ae 2 aa (af ?_))
  refine ak 2 aa (ax ?_)
  rw[A]
  exact⟨_,PS.bq a _,aa,⟨aa,trivial⟩,aa,aa⟩
 have A:p.column=((p.name.1,0),p.name.2.fail 5):=by unfold PS.column PS.nF;rw[aj (by rw[G];decide),aj (by rw[bI];decide),aj (by rw[z];decide)]
 rw[PS.cK z]
 refine bG (ae 1 aa ?_)
 refine bH (lV F hp.name.ok (by decide)) rfl rfl rfl rfl ?_
 refine af (ak 2 aa (ax ?_))
 rw[A]
 exact⟨_,PS.bq a _,aa,⟨aa,trivial⟩,aa,aa⟩
theorem L1{p:PS}{e:Int}(he:e≠0):¬(p.fail e).err=0:=by unfold PS.fail;split<;>assumption
theorem Kw{T:bf}(F:FT T){D:Rd}(J:ka T D){a:Bool}{p:PS}(hp:St p):bV T 126 [.vp 1000 0] (PS.bq a p) fun r Bn=>(∃v:gX,r=ep v.enc∧((p.literal D).2.err=0→v=(p.literal D).1))∧Bn=PS.bq a (p.literal D).2:=by
 refine cl F.YI aa (ak 1 aa (ai (ae 1 aa (al (N0 (Le F J hp) aa aa aa (fun v b q K O=>?_))))))
 refine ae 6 aa (af ?_)
 refine aM (ak 2 aa (aJ aa (fun z=>?_) (fun z=>?_)))
 ·have A:b=false:=by simpa using z
  obtain⟨G,I⟩:=O A
  obtain rfl:=G.symm
  rw[I]
  refine bG (ae 1 aa ?_)
  refine bH (lV F hp.ok (by decide)) rfl rfl rfl rfl ?_
  refine af (ak 2 aa (ax ?_))
  exact⟨_,PS.bq a (p.fail 5),rfl,⟨rfl,trivial⟩,⟨v,rfl,fun k=>absurd k (L1 (by decide))⟩,rfl⟩
 have A:b=true:=by simpa using z
 obtain⟨rfl,I⟩:=K A
 exact aT (ak 2 aa (ax (⟨_,PS.bq a _,aa,⟨aa,trivial⟩,⟨v,aa,I⟩,aa⟩)))
set_option maxHeartbeats 2000000 in
theorem Gz{T:bf}(F:FT T){a:Bool}{p:PS}(hp:bd p)(f:Bool):bV T 176 [.vp 1000 0,dB f] (PS.bq a p) fun r Bn=>r=ep (p.source (f&&a)).1.enc∧Bn=PS.bq a (p.source (f&&a)).2:=by
 refine cl F.Zh aa ?_
 have hN:=hp.name.top
 refine ak 1 aa (ai (ae 1 aa (bH (kM F hp.ok) aa aa aa aa (ae 3 aa (af ?_)))))
 refine aM (ai (ae 1 aa (bH (yR F hN.ok 1 e6) aa aa aa aa (ae 1 aa (af ?_)))))
 refine aJ aa (fun U=>?_) (fun U=>?_)
 ·have K:p.name.2.next 1 e6=false:=by simpa using U
  have I:p.source (f&&a)=(⟨false,p.name.1,[], -1⟩,p.name.2):=by unfold PS.source PS.alias;rw[aq K]
  refine ak 2 aa (ax ?_)
  rw[I]
  exact⟨_,PS.bq a _,aa,⟨aa,trivial⟩,aa,aa⟩
 have K:p.name.2.next 1 e6=true:=by simpa using U
 have J:=PS.wY K
 have dR:=PS.kR hN.ok (kind:=1) (by decide) K
 have fi:=hN.ok.dY
 have Z:=hN.step J dR
 have O:(p.name.2.ay.map cL.enc)[p.name.2.aI+1]?=some p.name.2.after.enc:=by rw[iO,eY dR];unfold PS.after;rw[eY dR];rfl
 refine aT (aM (eU (bm 2 aa (vx (g:=aX) aa (fun G=>?_) (fun G=>?_)))))
 ·refine dZ aa (G) (bM aa ?_)
  refine dZ aa (G) (pj aa ?_)
  refine dZ aa (G) (dq aa ?_)
  refine kq aa (G) aa (cW aa aa aa ?_)
  refine dE (cS aa (G) aa ?_)
  refine bm 1 aa (vx (g:=bn) aa (fun z=>?_) (fun z=>?_))
  ·refine dZ aa (z) (bM aa ?_)
   refine dZ aa (z) (pj aa ?_)
   refine dZ aa (z) (dq aa ?_)
   refine kq aa (z) aa (cW aa aa aa ?_)
   refine dZ aa (z) (bM aa ?_)
   refine dZ aa (z) (pj aa ?_)
   refine dZ aa (z) (dq aa ?_)
   refine kq aa (z) aa (cW aa aa aa ?_)
   refine dZ rfl (z) (cV rfl rfl (by omega) ?_)
   refine dZ aa (z) (lS (row:=p.name.2.after.enc) aa aa O aa ?_)
   refine dZ aa (z) (tl aa ?_)
   refine kq aa (z) aa (mA aa aa ?_)
   refine dZ aa (z) (hH aa aa ?_)
   refine dE (cS aa (z) aa ?_)
   refine bm 1 aa (vx (g:=ck) aa (fun A=>?_) (fun A=>?_))
   ·skip
    refine dZ aa (A) (bM aa ?_)
    refine dZ aa (A) (pj aa ?_)
    refine dZ aa (A) (dq aa ?_)
    refine kq aa (A) aa (cW aa aa aa ?_)
    refine dZ aa (A) (bM aa ?_)
    refine dZ aa (A) (pj aa ?_)
    refine dZ aa (A) (dq aa ?_)
    refine kq aa (A) aa (cW aa aa aa ?_)
    refine dZ rfl (A) (cV rfl rfl (by omega) ?_)
    refine dZ aa (A) (lS (row:=p.name.2.after.enc) aa aa O aa ?_)
    refine dZ aa (A) (tl aa ?_)
    refine kq aa (A) aa (mA aa aa ?_)
    refine dZ aa (A) (oj (b:=jZ) aa aa ?_)
    refine dE (cS aa (A) aa ?_)
    refine da (aJ aa (fun Y=>?_) (fun Y=>?_))
    ·have I:p.source (f&&a)=(⟨false,p.name.1,[], -1⟩,p.name.2):=by unfold PS.source PS.alias;rw[aj (by rw[K];decide),aq ⟨by rw[G,z];rfl,by simpa using A,by simpa using Y⟩]
     refine ak 2 aa (ax ?_)
     rw[I]
     exact⟨_,PS.bq a _,aa,⟨aa,trivial⟩,aa,aa⟩
    have I:p.source (f&&a)=(⟨false,p.name.1,p.name.2.step.name.1, -1⟩,p.name.2.step.name.2):=by unfold PS.source PS.alias;rw[aj (by rw[K];decide),aj (fun k=>absurd k.2.2 (by simpa using Y))]
    refine aT (ai (ae 4 aa ?_))
    refine al (cV rfl rfl (by omega) ?_)
    refine ae 3 aa (af ?_)
    refine ai ?_
    refine ew (PS.bq a p.name.2.step++[(5,.one 146 48 [dB false,dS p.name.1,dS [],dI (-1)]),(4,.one 146 48 [dB false,dS [],dS [],d0])]) (cG (by rw[td J];rfl) ⟨rfl,rfl,trivial⟩) ?_
    refine ae 1 aa (bH (kM F Z.ok) aa aa aa aa (ae 2 aa (af ?_)))
    refine ak 2 aa (ax ?_)
    rw[I]
    exact⟨_,PS.bq a _,aa,⟨aa,trivial⟩,aa,aa⟩
   have I:p.source (f&&a)=(⟨false,p.name.1,p.name.2.step.name.1, -1⟩,p.name.2.step.name.2):=by unfold PS.source PS.alias;rw[aj (by rw[K];decide),aj (fun k=>absurd k.2.1 (by simpa using A))]
   refine cN aa (A) (cN aa (A) (cN aa (A) (iJ aa (A) (cN aa (A) (cN aa (A) (cN aa (A) (iJ aa (A) (cN aa (A) (cN aa (A) ?_)))))))))
   refine cN aa (A) (iJ aa (A) (cN aa (A) (dE (cI aa (A) aa ?_))))
   refine da (eI aa aa (aT (ai (ae 4 aa ?_))))
   refine al (cV rfl rfl (by omega) ?_)
   refine ae 3 aa (af ?_)
   refine ai ?_
   refine ew (PS.bq a p.name.2.step++[(5,.one 146 48 [dB false,dS p.name.1,dS [],dI (-1)]),(4,.one 146 48 [dB false,dS [],dS [],d0])]) (cG (by rw[td J];rfl) ⟨rfl,rfl,trivial⟩) ?_
   refine ae 1 aa (bH (kM F Z.ok) aa aa aa aa (ae 2 aa (af ?_)))
   refine ak 2 aa (ax ?_)
   rw[I]
   exact⟨_,PS.bq a _,aa,⟨aa,trivial⟩,aa,aa⟩
  have I:p.source (f&&a)=(⟨false,p.name.1,p.name.2.step.name.1, -1⟩,p.name.2.step.name.2):=by unfold PS.source PS.alias;rw[aj (by rw[K];decide),aj (fun k=>absurd k.1 (by rw[z];simp))]
  refine cN aa (z) (cN aa (z) (cN aa (z) (iJ aa (z) (cN aa (z) (cN aa (z) (cN aa (z) (iJ aa (z) (cN aa (z) (cN aa (z) ?_)))))))))
  refine cN aa (z) (iJ aa (z) (cN aa (z) (dE (cI aa (z) aa ?_))))
  refine bm 1 aa (cN aa aa (cN aa aa (cN aa aa (iJ aa aa (cN aa aa (cN aa aa (cN aa aa (iJ aa aa (cN aa aa ?_)))))))))
  refine cN aa aa (cN aa aa (iJ aa aa (cN aa aa (bm 1 aa (da ?_)))))
  refine eI aa aa (aT (ai (ae 4 aa ?_)))
  refine al (cV rfl rfl (by omega) ?_)
  refine ae 3 aa (af ?_)
  refine ai ?_
  refine ew (PS.bq a p.name.2.step++[(5,.one 146 48 [dB false,dS p.name.1,dS [],dI (-1)]),(4,.one 146 48 [dB false,dS [],dS [],d0])]) (cG (by rw[td J];rfl) ⟨rfl,rfl,trivial⟩) ?_
  refine ae 1 aa (bH (kM F Z.ok) aa aa aa aa (ae 2 aa (af ?_)))
  refine ak 2 aa (ax ?_)
  rw[I]
  exact⟨_,PS.bq a _,aa,⟨aa,trivial⟩,aa,aa⟩
 have I:p.source (f&&a)=(⟨false,p.name.1,p.name.2.step.name.1, -1⟩,p.name.2.step.name.2):=by unfold PS.source PS.alias;rw[aj (by rw[K];decide),aj (fun k=>absurd k.1 (by rw[G];simp))]
 refine cN aa (G) (cN aa (G) (cN aa (G) (iJ aa (G) (dE (cI aa (G) aa ?_)))))
 refine bm 1 aa (cN aa aa (cN aa aa (cN aa aa (iJ aa aa (cN aa aa (cN aa aa (cN aa aa (iJ aa aa (cN aa aa ?_)))))))))
 refine cN aa aa (cN aa aa (iJ aa aa (cN aa aa (bm 2 aa (cN aa aa (cN aa aa (cN aa aa (iJ aa aa (cN aa aa ?_)))))))))
 refine cN aa aa (cN aa aa (iJ aa aa (cN aa aa (cN aa aa (cN aa aa (iJ aa aa (cN aa aa (bm 1 aa (da ?_)))))))))
 refine eI aa aa (aT (ai (ae 4 aa ?_)))
 refine al (cV rfl rfl (by omega) ?_)
 refine ae 3 aa (af ?_)
 refine ai ?_
 refine ew (PS.bq a p.name.2.step++[(5,.one 146 48 [dB false,dS p.name.1,dS [],dI (-1)]),(4,.one 146 48 [dB false,dS [],dS [],d0])]) (cG (by rw[td J];rfl) ⟨rfl,rfl,trivial⟩) ?_
 refine ae 1 aa (bH (kM F Z.ok) aa aa aa aa (ae 2 aa (af ?_)))
 refine ak 2 aa (ax ?_)
 rw[I]
 exact⟨_,PS.bq a _,aa,⟨aa,trivial⟩,aa,aa⟩
end Go.Ev.Pp
namespace Go.Ev
open Go
variable{T:bf}
theorem Rm{E:Env}{H:az}{x i:aF}{z es f g o:Nat}{k:IntKind}{j:Nat}{Q:an→az→Prop}(G:x.ev E=some (.ptr f g o))(hi:i.ev E=some (.int k (j:Int)))(I:j<z)(J:Q (.ptr f g (o+j*es)) H):iS T (.lr z es x i) E H Q:=
 fZ (fun _=>by
  show bA x E (.err 11) (fun v=>iv v (.err 11) fun f g off=>bA i E (.err 11) fun A=>idx A z (.err 11) fun j=>dp (Nat.add off (Nat.mul j es)) fun off=>.ok (.ptr f g off) H)=_
  rw[dm,G,df]
  show bA i E (.err 11) (fun A=>idx A z (.err 11) fun j=>dp (Nat.add o (Nat.mul j es)) fun off=>.ok (.ptr f g off) H)=_
  rw[dm,hi,df]
  show aH (Nat.ble (Nat.succ j) z) (dp (o+j*es) fun off=>aD.ok (.ptr f g off) H) (aD.err 11)=_
  rw[jA I,iq];rfl) J
variable{VE:b0}{B:br}{Q:VV→br→Prop}
theorem oi{x i:aF}{G es b o j:Nat}{k:IntKind}(I:x.vv VE=some (.vp b o))(hi:i.vv VE=some (.d (.i k (j:Int))))(J:j<G)(K:Q (.vp b (o+j*es)) B):VI T (.lr G es x i) VE B [] Q:=fun _ _ _ _ _ z=>by
 obtain⟨_,O,h2⟩:=z.b9 I
 obtain⟨_,U,A⟩:=z.b9 hi
 simp only[aN] at h2 A
 simp only[cM] at A
 subst A;subst h2
 exact Rm O U J (eW z (v:=.vp b (o+j*es)) (by simp only[aN]) K)
open Go
variable{T:bf}{VE:b0}{B:br}{R:Ex→b0→br→Prop}
theorem zV{a b:IC}(M:b0→br→Prop)(I:∀VE B,M VE B→VC T b VE B R)(J:VC T a VE B fun x eb B'=>match x with|.normal=>M eb B'|x=>R x eb B'):VC T (.seq a b) VE B R:=
 aM fun H0 X0 E H β K=>(J H0 X0 E H β K).mono fun x E' H' hp=>by
  obtain⟨eb,B',β',A,z,G⟩:=hp
  cases x with
  |normal=>exact⟨eb,B',β',A,z,I _ _ G⟩
  |exit id=>exact⟨eb,B',β',A,z,G⟩
  |ret=>exact⟨eb,B',β',A,z,G⟩
end Go.Ev
namespace Go.Ev.Pp
open Go
variable{p q:PS}{a:Bool}{D:Rd}{e:List aL}{N M n:Nat}
def Vd:List (List UInt8):=[nk,nm,nq]
def x8(i:Nat):List UInt8:=(Vd[i]?).getD []
def PS.lJ(p:PS):Nat→Int×PS
 |0=>(Int.ofNat 0,p)
 |i+1=>if(p.lJ i).1=0 then(if((p.lJ i).2.keyword (x8 i)).1=true then(Int.ofNat 2+(i:Nat),((p.lJ i).2.keyword (x8 i)).2) else p.lJ i) else p.lJ i
theorem CM{i:Nat}{g:Int}(h:p.lJ i=(g,q))(z:g=0)(hk:(q.keyword (x8 i)).1=true):p.lJ (i+1)=(Int.ofNat 2+(i:Nat),(q.keyword (x8 i)).2):=by
 unfold PS.lJ;rw[h,aq z,aq hk]
theorem CN{i:Nat}{g:Int}(h:p.lJ i=(g,q))(z:g=0)(hk:(q.keyword (x8 i)).1=false):p.lJ (i+1)=(g,q):=by
 unfold PS.lJ;rw[h,aq z,aj (by rw[hk];decide)]
theorem CO{i:Nat}{g:Int}(h:p.lJ i=(g,q))(z:¬g=0):p.lJ (i+1)=(g,q):=by
 unfold PS.lJ;rw[h,aj z]
theorem N1(p:PS):p.lJ 3=p.agg:=by
 have h0:p.lJ 0=(0,p):=rfl
 unfold PS.agg
 cases G:(p.keyword nk).1
 ·have A:=CN h0 rfl G
  cases h2:(p.keyword nm).1
  ·have z:=CN A rfl h2
   cases I:(p.keyword nq).1
   ·rw[CN z rfl I];simp
   rw[CM z rfl I];simp;rfl
  have z:=CM A rfl h2
  rw[CO z (by decide)];simp;rfl
 have A:=CM h0 rfl G
 have z:=CO A (by decide)
 rw[CO z (by decide)];simp;rfl
theorem Cr(p:PS):∀i,(p.lJ i).2.ex=p.ex
 |0=>rfl
 |i+1=>by
  unfold PS.lJ
  split
  ·split
   ·rw[show∀(q:PS)s,(q.keyword s).2.ex=q.ex from mb];exact Cr p i
   exact Cr p i
  exact Cr p i
theorem Wd(h:p.agg.1=0):p.agg.2=p:=by
 unfold PS.agg at h⊢
 repeat' split at h
 all_goals first|exact absurd h (by decide)|(simp_all)
theorem EG.go2(h:EG p e N)(g:bO p q)(z:q.ex=p.ex):EG q e N:=h.go (fun h0=>⟨g.er h0,z⟩) g.aI
theorem tJ{T:bf}(F:FT T){D:Rd}(A:ka T D){a:Bool}{p:PS}{e:List aL}{N:Nat}(h:bd p)(he:EG p e N)(hN:N≤100000):bV T 171 [.vp 1000 0,.ac 1050 (e.map aL.enc).length 8] (p.be a e) fun r Bn=>∃z,r= .ac 1050 (z.map aL.enc).length 8∧Bn=(p.expr D).2.be a z∧EG (p.expr D).2 z (N+610):=
 (MF F A 61).1 a p e N h.st (by rw[h.d0]) he hN
theorem qM(h:bd p)(he:EG (p.expr D).2 e N)(h0:(p.expr D).2.err=0):(((e.map aL.enc).length:Nat):Int) -Int.ofNat 1=(p.expr D).1:=pz (qR he ((vL D 61).1 p h.st (by rw[h.d0])) h0)
theorem wZ(r:PS):r.alias false=if(r.keyword e6).1=true then(r.keyword e6).2.name else([],r):=by
 unfold PS.alias PS.keyword PS.accept
 cases h:r.next 1 e6
 ·simp
 simp
theorem vC(r:PS)(b:Bool):(r.alias b).2.ex=r.ex:=by
 unfold PS.alias
 split
 ·rfl
 split
 ·rfl
 exact qg ..
def PS.ib(a:Bool)(q:PS)(d:Bool)(e:List aL)(ch:List Item):br:=[(1000,.one 141 64 (q.lI a)),(1001,.one 87 120 [dB d,.ac 1050 (e.map aL.enc).length 8,.ac 1051 (ch.map Item.enc).length 3,dN,dI (-1),dB false,dN]),(1050,.acc 116 88 8 (e.map aL.enc)),(1051,.acc 144 32 3 (ch.map Item.enc))]
theorem xx{B:br}{d:Bool}{ch:List Item}{z:Item}(A:aY B 1000=some (.one 141 64 (q.lI a)))(h2:aY B 1001=some (.one 87 120 [dB d,.ac 1050 (e.map aL.enc).length 8,.ac 1051 (ch.map Item.enc++[z.enc]).length 3,dN,dI (-1),dB false,dN]))(G:aY B 1050=some (.acc 116 88 8 (e.map aL.enc)))(I:aY B 1051=some (.acc 144 32 3 (ch.map Item.enc++[z.enc]))):bu (q.ib a d e (ch++[z])) B:=by
 unfold PS.ib
 rw[dX]
 exact⟨A,h2,G,I,trivial⟩
open Go
set_option maxRecDepth 10000
set_option maxHeartbeats 4000000 in
theorem N3{T:bf}(F:FT T){D:Rd}(Lq:ka T D){a:Bool}{p:PS}(hp:bd p)(d:Bool){e:List aL}{ch:List Item}{N:Nat}(he:EG p e N)(hN:N≤100000)(hl:ch.length≤100000):bV T 175 [.vp 1000 0,.vp 1001 0] (PS.ib a p d e ch) fun r Bn=>∃e' it,r= .tuple []∧Bn=PS.ib a (p.item D).2 d e' (ch++[it])∧EG (p.item D).2 e' (N+620)∧((p.item D).2.err=0→it=(p.item D).1):=by
 refine cl F.Zg aa ?_
 have pf:=he.small hp.ok (by omega)
 refine ey (PS.bq a p++[(1001,.one 87 120 [dB d,.ac 1050 (e.map aL.enc).length 8,.ac 1051 (ch.map Item.enc).length 3,dN,dI (-1),dB false,dN]),(1050,.acc 116 88 8 (e.map aL.enc)),(1051,.acc 144 32 3 (ch.map Item.enc))]) (cG aa ⟨aa,aa,aa,trivial⟩) (ak 3 aa (ak 3 aa (aM (ai (ae 1 aa (bH (fC F hp.ok jw) aa aa aa aa (af (aJ aa (fun Bq=>?_) (fun Bq=>?_)))))))))
 ·have hb:p.iE D=((1, -1),((((p.keyword jw).2.bw cg).bw eM).bw dG)):=by unfold PS.iE;rw[aq Bq]
  have g1:=hp.kw jw
  have Y:=g1.trans (g1.top.gP cg)
  have Z:=Y.trans (Y.top.gP eM)
  have O:=Z.trans (Z.top.gP dG)
  have J:EG ((((p.keyword jw).2.bw cg).bw eM).bw dG) e (N+620):=(he.go2 O (by rw[rG,rG,rG,mb])).dz (by omega)
  refine ai (ae 1 aa (bH (oh F g1.ok cg) aa aa aa aa (af (ai (ae 1 aa (bH (oh F Y.ok eM) aa aa aa aa (af (ai (ae 1 aa ?_)))))))))
  refine bH (oh F Z.ok dG) aa aa aa aa (af (ak 2 aa (bG (ae 2 aa (af ?_)))))
  refine aM (ai (ae 1 aa (bH (fC F O.ok e6) aa aa aa aa (af (aJ aa (fun G=>?_) (fun G=>?_))))))
  ·have z:=wZ ((((p.keyword jw).2.bw cg).bw eM).bw dG)
   have K:=O.top.alias false
   have U:EG (((((p.keyword jw).2.bw cg).bw eM).bw dG).alias false).2 e (N+620):=J.go2 K (vC ..)
   rw[aq G] at z
   rw[z] at U K
   have hm:p.item D=(⟨1, -1,(((((p.keyword jw).2.bw cg).bw eM).bw dG).keyword e6).2.name.1⟩,(((((p.keyword jw).2.bw cg).bw eM).bw dG).keyword e6).2.name.2):=by unfold PS.item;rw[hb,z]
   refine bG (ae 1 aa (bH (kM F (O.trans (O.top.kw e6)).ok) aa aa aa aa (ae 2 aa (af ?_))))
   refine iK (bm 7 aa ?_)
   refine eJ rfl (eu (rows:=ch.map Item.enc) (ys:=[(⟨1,(-1),(((((p.keyword jw).2.bw cg).bw eM).bw dG).keyword e6).2.name.1⟩:Item).enc]) rfl rfl rfl (.bs (rows:=[(⟨1,(-1),(((((p.keyword jw).2.bw cg).bw eM).bw dG).keyword e6).2.name.1⟩:Item).enc]) rfl) (bS rfl) (by rw[bJ,cF];simp only[dj,dJ];omega) (fun h=>by rw[h];rfl) (fun h=>by rw[h];rfl) ?_)
   refine bm 3 aa (da ?_)
   rw[hm]
   exact⟨_,PS.ib a (((((p.keyword jw).2.bw cg).bw eM).bw dG).keyword e6).2.name.2 d e (ch++[(⟨1,(-1),(((((p.keyword jw).2.bw cg).bw eM).bw dG).keyword e6).2.name.1⟩:Item)]),aa,xx aa aa aa aa,⟨e,(⟨1,(-1),(((((p.keyword jw).2.bw cg).bw eM).bw dG).keyword e6).2.name.1⟩:Item),aa,aa,U,fun h0=>aa⟩⟩
  have z:=wZ ((((p.keyword jw).2.bw cg).bw eM).bw dG)
  have K:=O.top.alias false
  have U:EG (((((p.keyword jw).2.bw cg).bw eM).bw dG).alias false).2 e (N+620):=J.go2 K (vC ..)
  rw[aj (by rw[G];decide)] at z
  rw[z] at U K
  rw[PS.cK G]
  have hm:p.item D=(⟨1, -1,[]⟩,((((p.keyword jw).2.bw cg).bw eM).bw dG)):=by unfold PS.item;rw[hb,z]
  refine aT (iK (bm 7 aa ?_))
  refine eJ rfl (eu (rows:=ch.map Item.enc) (ys:=[(⟨1,(-1),[]⟩:Item).enc]) rfl rfl rfl (.bs (rows:=[(⟨1,(-1),[]⟩:Item).enc]) rfl) (bS rfl) (by rw[bJ,cF];simp only[dj,dJ];omega) (fun h=>by rw[h];rfl) (fun h=>by rw[h];rfl) ?_)
  refine bm 3 aa (da ?_)
  rw[hm]
  exact⟨_,PS.ib a ((((p.keyword jw).2.bw cg).bw eM).bw dG) d e (ch++[(⟨1,(-1),[]⟩:Item)]),aa,xx aa aa aa aa,⟨e,(⟨1,(-1),[]⟩:Item),aa,aa,U,fun h0=>aa⟩⟩
 rw[PS.cK Bq]
 refine aM (ak 1 aa (bN ?_))
 refine d7 (fun k VE B=>∃(i:Nat)(g:Int)(q:PS),i≤3∧k=3-i∧p.lJ i=(g,q)∧bO p q∧bu [(0,.vp 1000 0),(1,.vp 1001 0),(4,.vp 4 0),(5,.vp 5 0),(6,dI (i:Nat))] VE∧bu (PS.bq a q++[(1001,.one 87 120 [dB d,.ac 1050 (e.map aL.enc).length 8,.ac 1051 (ch.map Item.enc).length 3,dN,dI (-1),dB false,dN]),(1050,.acc 116 88 8 (e.map aL.enc)),(1051,.acc 144 32 3 (ch.map Item.enc)),(4,.one 144 32 [dI g,d0,dS []]),(5,.one 223 48 [VV.d (cJ nk),dS nm,dS nq])]) B) ?_ (k:=3) ⟨0,Int.ofNat 0,p,by decide,rfl,rfl,.refl hp,⟨rfl,rfl,rfl,rfl,rfl,trivial⟩,cG rfl ⟨rfl,rfl,rfl,rfl,rfl,trivial⟩⟩
 rintro k VE B⟨i,g,q,hi,rfl,hP,hq,hV,hB⟩
 refine ey (PS.bq a q++[(1001,.one 87 120 [dB d,.ac 1050 (e.map aL.enc).length 8,.ac 1051 (ch.map Item.enc).length 3,dN,dI (-1),dB false,dN]),(1050,.acc 116 88 8 (e.map aL.enc)),(1051,.acc 144 32 3 (ch.map Item.enc)),(4,.one 144 32 [dI g,d0,dS []]),(5,.one 223 48 [VV.d (cJ nk),dS nm,dS nq])]) hB ?_
 have hB:bu (PS.bq a q++[(1001,.one 87 120 [dB d,.ac 1050 (e.map aL.enc).length 8,.ac 1051 (ch.map Item.enc).length 3,dN,dI (-1),dB false,dN]),(1050,.acc 116 88 8 (e.map aL.enc)),(1051,.acc 144 32 3 (ch.map Item.enc)),(4,.one 144 32 [dI g,d0,dS []]),(5,.one 223 48 [VV.d (cJ nk),dS nm,dS nq])]) (PS.bq a q++[(1001,.one 87 120 [dB d,.ac 1050 (e.map aL.enc).length 8,.ac 1051 (ch.map Item.enc).length 3,dN,dI (-1),dB false,dN]),(1050,.acc 116 88 8 (e.map aL.enc)),(1051,.acc 144 32 3 (ch.map Item.enc)),(4,.one 144 32 [dI g,d0,dS []]),(5,.one 223 48 [VV.d (cJ nk),dS nm,dS nq])]):=cG rfl ⟨rfl,rfl,rfl,rfl,rfl,trivial⟩
 refine dy _ _ hV hB (aM (ak 2 aa (aJ aa (fun sW=>?_) (fun sW=>?_))))
 ·have hi3:i<3:=by simp at sW;omega
  obtain⟨s,hs,hk⟩:∃s,x8 i=s∧[VV.d (cJ nk),.d (cJ nm),.d (cJ nq)][0+i*1]?=some (.d (cJ s)):=by
   rcases(by omega:i=0∨i=1∨i=2) with rfl|rfl|rfl<;>exact⟨_,rfl,rfl⟩
  refine aT (aM (bN (ai (ae 4 aa (cX (g:=bU) aa (fun A=>?_) (fun A=>?_))))))
  ·have hg:g=0:=by simpa using A
   refine ao aa (A) (bM aa ?_)
   refine ao aa (A) (bM aa ?_)
   refine ao aa (A) (oi aa aa hi3 ?_)
   refine ao aa (A) (cW aa aa hk ?_)
   refine ao aa (A) (vY (fC F hq.ok s) aa aa aa aa ?_)
   refine al (cS aa (A) aa ?_)
   refine af (aJ aa (fun pd=>?_) (fun pd=>?_))
   ·have hA:=CM hP hg (by rw[hs];exact pd)
    rw[hs] at hA
    have Br:=hq.trans (hq.top.kw s)
    refine bG (ae 1 aa (al (Cm aa aa ?_)))
    rw[wrap_i64 (by simp only[aZ];omega) (by simp only[aZ];omega)]
    refine ae 2 aa (af ?_)
    refine bG (ae 1 aa ?_)
    refine al (cV rfl rfl (by omega) ?_)
    refine ae 1 aa (af ?_)
    exact⟨3-(i+1),by omega,i+1,_,_,by omega,rfl,hA,Br,⟨rfl,rfl,rfl,rfl,rfl,trivial⟩,cG rfl ⟨rfl,rfl,rfl,rfl,rfl,trivial⟩⟩
   have hA:=CN hP hg (by rw[hs];exact pd)
   have Br:=hq
   rw[PS.cK pd]
   refine aT (bG (ae 1 aa ?_))
   refine al (cV rfl rfl (by omega) ?_)
   refine ae 1 aa (af ?_)
   exact⟨3-(i+1),by omega,i+1,_,_,by omega,rfl,hA,Br,⟨rfl,rfl,rfl,rfl,rfl,trivial⟩,cG rfl ⟨rfl,rfl,rfl,rfl,rfl,trivial⟩⟩
  have hg:¬g=0:=by simpa using A
  have hA:=CO hP hg
  have Br:=hq
  refine aO aa (A) (aO aa (A) (aO aa (A) (aO aa (A) (aO aa (A) (al (cI aa (A) aa ?_))))))
  refine af (eI aa aa (aT (bG (ae 1 aa ?_))))
  refine al (cV rfl rfl (by omega) ?_)
  refine ae 1 aa (af ?_)
  exact⟨3-(i+1),by omega,i+1,_,_,by omega,rfl,hA,Br,⟨rfl,rfl,rfl,rfl,rfl,trivial⟩,cG rfl ⟨rfl,rfl,rfl,rfl,rfl,trivial⟩⟩
 have h3:i=3:=by simp at sW;omega
 subst h3
 rw[N1] at hP
 have hx:q.ex=p.ex:=by have:=Cr p 3;rw[N1,hP] at this;exact this
 refine dM (aM (ak 3 aa (aJ aa (fun Bs=>?_) (fun Bs=>?_))))
 ·have hg:¬g=0:=by simpa using Bs
  have hb:p.iE D=((g,(q.fJ D).1),(q.fJ D).2):=by unfold PS.iE;rw[aj (by rw[Bq];decide),hP,aj hg]
  have g1:=hq.trans (hq.top.gP cg)
  have Y:=g1.trans (g1.top.expr D)
  have O:bO p (q.fJ D).2:=Y.trans (Y.top.gP dG)
  have hz:EG (q.bw cg) e N:=he.go2 g1 (by rw[rG,hx])
  refine bG (ae 1 aa (bH (oh F hq.ok cg) aa aa aa aa (af (ai (ae 6 aa (jt 1001 1 aa aa (ew (PS.bq a (q.bw cg)++[(1001,.one 87 120 [dB d,.undef,.ac 1051 (ch.map Item.enc).length 3,dN,dI (-1),dB false,dN]),(1050,.acc 116 88 8 (e.map aL.enc)),(1051,.acc 144 32 3 (ch.map Item.enc)),(4,.one 144 32 [dI g,d0,dS []]),(5,.one 223 48 [VV.d (cJ nk),dS nm,dS nq])]) (cG aa ⟨aa,aa,aa,aa,aa,trivial⟩) (jn (tJ F Lq g1.top hz hN) aa aa aa aa (fun e1 Z=>?_)))))))))
  have pf:=Z.small Y.ok (by omega)
  refine ae 3 aa (af ?_)
  refine ai (ae 5 aa ?_)
  refine al (gi rfl rfl (by simp only[cF,aZ];omega) (by simp only[cF,aZ];omega) ?_)
  obtain⟨v,hv⟩:∃v:Int,(((e1.map aL.enc).length:Nat):Int) -Int.ofNat 1=v:=⟨_,rfl⟩
  rw[hv]
  refine ae 2 aa (af ?_)
  refine ak 3 aa (e7 aa (Bs) (bG (ae 1 aa (bH (oh F Y.ok dG) aa aa aa aa (af (aM (ai (ae 1 aa (bH (fC F O.ok e6) aa aa aa aa ?_)))))))))
  refine af (aJ aa (fun G=>?_) (fun G=>?_))
  ·have z:=wZ (q.fJ D).2
   have K:=O.top.alias false
   have J:EG (q.fJ D).2 e1 (N+620):=(Z.go2 (Y.top.gP dG) (rG ..)).dz (by omega)
   have U:EG ((q.fJ D).2.alias false).2 e1 (N+620):=J.go2 K (vC ..)
   have I:((q.fJ D).2.alias false).2.err=0→v=(q.fJ D).1:=fun h0=>hv.symm.trans (qM g1.top Z ((Y.top.gP dG).er (K.er h0)))
   rw[aq G] at z
   rw[z] at U K
   have hm:p.item D=(⟨g,(q.fJ D).1,((q.fJ D).2.keyword e6).2.name.1⟩,((q.fJ D).2.keyword e6).2.name.2):=by unfold PS.item;rw[hb,z]
   rw[z] at I
   refine bG (ae 1 aa (bH (kM F (O.trans (O.top.kw e6)).ok) aa aa aa aa (ae 2 aa (af ?_))))
   refine iK (bm 7 aa ?_)
   refine eJ rfl (eu (rows:=ch.map Item.enc) (ys:=[(⟨g,v,((q.fJ D).2.keyword e6).2.name.1⟩:Item).enc]) rfl rfl rfl (.bs (rows:=[(⟨g,v,((q.fJ D).2.keyword e6).2.name.1⟩:Item).enc]) rfl) (bS rfl) (by rw[bJ,cF];simp only[dj,dJ];omega) (fun h=>by rw[h];rfl) (fun h=>by rw[h];rfl) ?_)
   refine bm 3 aa (da ?_)
   rw[hm]
   exact⟨_,PS.ib a ((q.fJ D).2.keyword e6).2.name.2 d e1 (ch++[(⟨g,v,((q.fJ D).2.keyword e6).2.name.1⟩:Item)]),rfl,xx rfl rfl rfl rfl,⟨e1,(⟨g,v,((q.fJ D).2.keyword e6).2.name.1⟩:Item),rfl,rfl,U,fun h0=>by rw[I h0]⟩⟩
  have z:=wZ (q.fJ D).2
  have K:=O.top.alias false
  have J:EG (q.fJ D).2 e1 (N+620):=(Z.go2 (Y.top.gP dG) (rG ..)).dz (by omega)
  have U:EG ((q.fJ D).2.alias false).2 e1 (N+620):=J.go2 K (vC ..)
  have I:((q.fJ D).2.alias false).2.err=0→v=(q.fJ D).1:=fun h0=>hv.symm.trans (qM g1.top Z ((Y.top.gP dG).er (K.er h0)))
  rw[aj (by rw[G];decide)] at z
  rw[z] at U K
  rw[PS.cK G]
  have hm:p.item D=(⟨g,(q.fJ D).1,[]⟩,(q.fJ D).2):=by unfold PS.item;rw[hb,z]
  rw[z] at I
  refine aT (iK (bm 7 aa ?_))
  refine eJ rfl (eu (rows:=ch.map Item.enc) (ys:=[(⟨g,v,[]⟩:Item).enc]) rfl rfl rfl (.bs (rows:=[(⟨g,v,[]⟩:Item).enc]) rfl) (bS rfl) (by rw[bJ,cF];simp only[dj,dJ];omega) (fun h=>by rw[h];rfl) (fun h=>by rw[h];rfl) ?_)
  refine bm 3 aa (da ?_)
  rw[hm]
  exact⟨_,PS.ib a (q.fJ D).2 d e1 (ch++[(⟨g,v,[]⟩:Item)]),rfl,xx rfl rfl rfl rfl,⟨e1,(⟨g,v,[]⟩:Item),rfl,rfl,U,fun h0=>by rw[I h0]⟩⟩
 have hg:g=0:=by simpa using Bs
 obtain rfl:q=p:=by have:=Wd (p:=p) (by rw[hP];exact hg);rw[hP] at this;exact this
 have hb:q.iE D=((0,(q.expr D).1),(q.expr D).2):=by unfold PS.iE;rw[aj (by rw[Bq];decide),hP,aq hg]
 have Y:=hp.expr D
 have O:=Y
 subst hg
 refine aT (ai (ae 6 aa (jt 1001 1 aa aa (ew (PS.bq a q++[(1001,.one 87 120 [dB d,.undef,.ac 1051 (ch.map Item.enc).length 3,dN,dI (-1),dB false,dN]),(1050,.acc 116 88 8 (e.map aL.enc)),(1051,.acc 144 32 3 (ch.map Item.enc)),(4,.one 144 32 [d0,d0,dS []]),(5,.one 223 48 [VV.d (cJ nk),dS nm,dS nq])]) (cG aa ⟨aa,aa,aa,aa,aa,trivial⟩) (jn (tJ F Lq hp he hN) aa aa aa aa (fun e1 Z=>?_))))))
 have pf:=Z.small Y.ok (by omega)
 refine ae 3 aa (af ?_)
 refine ai (ae 5 aa ?_)
 refine al (gi rfl rfl (by simp only[cF,aZ];omega) (by simp only[cF,aZ];omega) ?_)
 obtain⟨v,hv⟩:∃v:Int,(((e1.map aL.enc).length:Nat):Int) -Int.ofNat 1=v:=⟨_,rfl⟩
 rw[hv]
 refine ae 2 aa (af ?_)
 refine ak 3 aa (eI aa (Bs) (aT (aM (ai (ae 1 aa (bH (fC F O.ok e6) aa aa aa aa (af (aJ aa (fun G=>?_) (fun G=>?_)))))))))
 ·have z:=wZ (q.expr D).2
  have K:=O.top.alias false
  have J:EG (q.expr D).2 e1 (N+620):=Z.dz (by omega)
  have U:EG ((q.expr D).2.alias false).2 e1 (N+620):=J.go2 K (vC ..)
  have I:((q.expr D).2.alias false).2.err=0→v=(q.expr D).1:=fun h0=>hv.symm.trans (qM hp Z (K.er h0))
  rw[aq G] at z
  rw[z] at U K
  have hm:q.item D=(⟨0,(q.expr D).1,((q.expr D).2.keyword e6).2.name.1⟩,((q.expr D).2.keyword e6).2.name.2):=by unfold PS.item;rw[hb,z]
  rw[z] at I
  refine bG (ae 1 aa (bH (kM F (O.trans (O.top.kw e6)).ok) aa aa aa aa (ae 2 aa (af ?_))))
  refine iK (bm 7 aa ?_)
  refine eJ rfl (eu (rows:=ch.map Item.enc) (ys:=[(⟨0,v,((q.expr D).2.keyword e6).2.name.1⟩:Item).enc]) rfl rfl rfl (.bs (rows:=[(⟨0,v,((q.expr D).2.keyword e6).2.name.1⟩:Item).enc]) rfl) (bS rfl) (by rw[bJ,cF];simp only[dj,dJ];omega) (fun h=>by rw[h];rfl) (fun h=>by rw[h];rfl) ?_)
  refine bm 3 aa (da ?_)
  rw[hm]
  exact⟨_,PS.ib a ((q.expr D).2.keyword e6).2.name.2 d e1 (ch++[(⟨0,v,((q.expr D).2.keyword e6).2.name.1⟩:Item)]),rfl,xx rfl rfl rfl rfl,⟨e1,(⟨0,v,((q.expr D).2.keyword e6).2.name.1⟩:Item),rfl,rfl,U,fun h0=>by rw[I h0]⟩⟩
 have z:=wZ (q.expr D).2
 have K:=O.top.alias false
 have J:EG (q.expr D).2 e1 (N+620):=Z.dz (by omega)
 have U:EG ((q.expr D).2.alias false).2 e1 (N+620):=J.go2 K (vC ..)
 have I:((q.expr D).2.alias false).2.err=0→v=(q.expr D).1:=fun h0=>hv.symm.trans (qM hp Z (K.er h0))
 rw[aj (by rw[G];decide)] at z
 rw[z] at U K
 rw[PS.cK G]
 have hm:q.item D=(⟨0,(q.expr D).1,[]⟩,(q.expr D).2):=by unfold PS.item;rw[hb,z]
 rw[z] at I
 refine aT (iK (bm 7 aa ?_))
 refine eJ rfl (eu (rows:=ch.map Item.enc) (ys:=[(⟨0,v,[]⟩:Item).enc]) rfl rfl rfl (.bs (rows:=[(⟨0,v,[]⟩:Item).enc]) rfl) (bS rfl) (by rw[bJ,cF];simp only[dj,dJ];omega) (fun h=>by rw[h];rfl) (fun h=>by rw[h];rfl) ?_)
 refine bm 3 aa (da ?_)
 rw[hm]
 exact⟨_,PS.ib a (q.expr D).2 d e1 (ch++[(⟨0,v,[]⟩:Item)]),rfl,xx rfl rfl rfl rfl,⟨e1,(⟨0,v,[]⟩:Item),rfl,rfl,U,fun h0=>by rw[I h0]⟩⟩
end Go.Ev.Pp
