/- Part 16 of rules for walks through the code of a program, and of such walks; what each part proves is said by its theorems. -/
import Derived.Test.YtijnechfhdlgiaaGreatDoorS15
set_option linter.unusedVariables false
set_option linter.unusedSimpArgs false
namespace Go.Ev.Pp
open Go
set_option maxRecDepth 10000
theorem qq{T:bf}(F:FT T){D:Rd}(I:gX T D){p:PS}(hp:bd p):bX T 179 [.vp 1000 0] (PS.bz p) fun r Bn=>r=dI p.hJ.1∧Bn=PS.bz p.hJ.2:=by
 refine cr F.ZT aa (ak 1 aa (aM (ai (ae 1 aa (dV (nB F hp.ok fc) aa aa aa aa (ae 1 aa (af ?_)))))))
 refine aK aa (fun A=>?_) (fun A=>?_)
 ·have z:(p.keyword fc).1=false:=by simpa using A
  have G:p.hJ=(1099511627776,p):=by unfold PS.hJ;rw[aj (by rw[z];decide)]
  rw[PS.cL z]
  refine ak 1 aa (ax ?_)
  rw[G]
  exact⟨_,PS.bz _,aa,fC aa,aa,aa⟩
 have z:(p.keyword fc).1=true:=by simpa using A
 have G:p.hJ=((p.keyword fc).2.aW [j6]).number (-1):=by unfold PS.hJ;rw[aw z]
 have h2:=(hp.kw fc).top.dF [j6]
 refine aU (ai (ae 2 aa (gn 7 7 aa aa (fun _=>⟨aa,aa⟩) ?_)))
 refine dV (qM F (hp.kw fc).ok [j6] (by decide)) rfl rfl rfl rfl ?_
 refine af (ai (ae 1 aa (dV (Ug F I h2.st (-1)) aa aa aa aa (ae 1 aa (af ?_)))))
 refine ax ?_
 rw[G]
 exact⟨_,PS.bz _,aa,fC aa,aa,aa⟩
set_option maxHeartbeats 1000000 in
theorem xz{T:bf}(F:FT T){p:PS}(hp:bd p)(a:Bool):bX T 219 [.vp 1000 0,dB a] (PS.bi p) fun r Bn=>r=dS (p.alias a).1∧Bn=PS.bi (p.alias a).2:=by
 refine cr F.aaf aa (ak 1 aa (aM (ai (ae 1 aa (bj (next F hp.ok 1 fc) aa aa aa aa aa (ae 1 aa (af ?_)))))))
 refine aK aa (fun O=>?_) (fun O=>?_)
 ·have G:p.next 1 fc=false:=by simpa using O
  have I:p.alias a=([],p):=by unfold PS.alias;rw[aw G]
  refine ak 1 aa (ax ?_)
  rw[I]
  exact⟨_,PS.bi _,aa,cI aa aa,aa,aa⟩
 have G:p.next 1 fc=true:=by simpa using O
 have dR:=PS.kV hp.ok (kind:=1) (by decide) G
 have fu:=hp.ok.dY
 have U:=hp.step (by unfold PS.next at G;simp only[eZ,eV] at G;exact G.1) dR
 have K:(p.aA.map cM.enc)[p.aJ+1]?=some p.after.enc:=by rw[iw,eY dR];unfold PS.after;rw[eY dR];rfl
 refine aU (aM (eX (bo 8 aa ?_)))
 refine dG (cX rfl rfl (by omega) ?_)
 refine dG (kZ (row:=p.after.enc) aa aa K aa ?_)
 refine bo 3 aa (dc ?_)
 refine ai (ae 2 aa (da (g:=bu) aa (fun z=>?_) (fun z=>?_)))
 ·refine au aa (z) (du aa ?_)
  refine au aa (z) (c8 aa aa aa ?_)
  refine au aa (z) (gZ aa aa ?_)
  refine al (cU aa (z) aa ?_)
  refine ae 1 aa (da (g:=bR) aa (fun A=>?_) (fun A=>?_))
  ·refine au aa (A) (du aa ?_)
   refine au aa (A) (c8 aa aa aa ?_)
   refine au aa (A) (oo (b:=j6) aa aa ?_)
   refine al (cU aa (A) aa ?_)
   refine af (aK aa (fun J=>?_) (fun J=>?_))
   ·have I:p.alias a=([],p):=by unfold PS.alias;rw[aj (by rw[G];decide),aw ⟨by simpa using z,by simpa using A,by simpa using J⟩]
    refine ak 1 aa (ax ?_)
    rw[I]
    exact⟨_,PS.bi _,aa,cI aa aa,aa,aa⟩
   have I:p.alias a=p.step.name:=by unfold PS.alias;rw[aj (by rw[G];decide),aj (fun k=>absurd k.2.2 (by simpa using J))]
   refine aU (ai (ae 4 aa ?_))
   refine al (cX rfl rfl (by omega) ?_)
   refine ae 3 aa (af ?_)
   refine ai (ae 1 aa (bj (name F U.st) aa aa aa aa aa (ae 1 aa (af ?_))))
   refine ax ?_
   rw[I]
   exact⟨_,PS.bi _,aa,cI aa aa,aa,aa⟩
  have I:p.alias a=p.step.name:=by unfold PS.alias;rw[aj (by rw[G];decide),aj (fun k=>absurd k.2.1 (by simpa using A))]
  refine ee aa (A) (ee aa (A) (ee aa (A) (al (cK aa (A) aa ?_))))
  refine af (eJ aa aa (aU (ai (ae 4 aa ?_))))
  refine al (cX rfl rfl (by omega) ?_)
  refine ae 3 aa (af ?_)
  refine ai (ae 1 aa (bj (name F U.st) aa aa aa aa aa (ae 1 aa (af ?_))))
  refine ax ?_
  rw[I]
  exact⟨_,PS.bi _,aa,cI aa aa,aa,aa⟩
 have I:p.alias a=p.step.name:=by unfold PS.alias;rw[aj (by rw[G];decide),aj (fun k=>by rw[k.1] at z;cases z)]
 refine ee aa (z) (ee aa (z) (ee aa (z) (al (cK aa (z) aa ?_))))
 refine ae 1 aa (ee aa aa (ee aa aa (ee aa aa (ae 1 aa (af ?_)))))
 refine eJ aa aa (aU (ai (ae 4 aa ?_)))
 refine al (cX rfl rfl (by omega) ?_)
 refine ae 3 aa (af ?_)
 refine ai (ae 1 aa (bj (name F U.st) aa aa aa aa aa (ae 1 aa (af ?_))))
 refine ax ?_
 rw[I]
 exact⟨_,PS.bi _,aa,cI aa aa,aa,aa⟩
theorem GG{T:bf}(F:FT T){p:PS}(hp:bd p)(a:Bool):bX T 220 [.vp 1000 0,dB a] (PS.bi p) fun r Bn=>r=et (p.source a).1.enc∧Bn=PS.bi (p.source a).2:=by
 refine cr F.aag aa (ak 1 aa (ai (ae 1 aa (bj (name F hp.st) aa aa aa aa aa (ae 3 aa (af ?_))))))
 refine ai (ae 2 aa (bj (xz F hp.name.top a) aa aa aa aa aa (ae 2 aa (af ?_))))
 exact ak 2 aa (ax (⟨_,PS.bi (p.source a).2,aa,cI aa aa,aa,aa⟩))
set_option maxHeartbeats 2000000 in
theorem Ob{T:bf}(F:FT T){D:Rd}(U:gX T D){p:PS}(hp:bd p):bX T 183 [.vp 1000 0] (PS.bi p) fun r Bn=>r=et (p.item D).1.enc∧Bn=PS.bi (p.item D).2:=by
 refine cr F.ZV aa (ak 1 aa (ak 3 aa (aM (bN (ai (ae 1 aa (bj (keyword F hp.ok jv) aa aa aa aa aa (ae 1 aa (af ?_)))))))))
 refine aK aa (fun O=>?_) (fun O=>?_)
 ·have z:p.iF D=((1, -1),((((p.keyword jv).2.bx cm).bx eS).bx dL)):=by unfold PS.iF;rw[aw O]
  have Y:=hp.kw jv
  have Z:=Y.top.gK cm
  have g3:=Z.top.gK eS
  have A:=hp.iF D
  rw[z] at A
  have K:p.item D=(⟨1, -1,(((((p.keyword jv).2.bx cm).bx eS).bx dL).alias false).1⟩,(((((p.keyword jv).2.bx cm).bx eS).bx dL).alias false).2):=by unfold PS.item;rw[z]
  refine ai (ae 1 aa (bj (bx F Y.ok cm) aa aa aa aa aa (af (ai (ae 1 aa (bj (bx F Z.ok eS) aa aa aa aa aa (af (ai (ae 1 aa ?_)))))))))
  refine bj (bx F g3.ok dL) aa aa aa aa aa (af (bG (ae 4 aa (af ?_))))
  refine aM (ai (ae 4 aa (au aa aa (du aa ?_))))
  refine au aa aa (c8 aa aa aa ?_)
  refine au aa aa (iq aa aa ?_)
  refine ae 1 aa (af ?_)
  refine eJ aa aa (aU (ai (ae 1 aa (bj (xz F A.top false) aa aa aa aa aa (ae 2 aa (af ?_))))))
  refine ak 2 aa (ax ?_)
  rw[K]
  exact⟨_,PS.bi _,aa,cI aa aa,aa,aa⟩
 rw[PS.cL O]
 refine ai (ae 1 aa (bj (keyword F hp.ok nj) aa aa aa aa aa (ae 1 aa (af ?_))))
 refine aK aa (fun ew=>?_) (fun ew=>?_)
 ·have I:p.agg=(2,(p.keyword nj).2):=by unfold PS.agg;rw[aw ew]
  have G:=hp.kw nj
  generalize (p.keyword nj).2=q at I G⊢
  have z:p.iF D=((2,(q.fN D).1),(q.fN D).2):=by unfold PS.iF;rw[aj (by rw[O];decide),aj (by rw[I];show¬((2:Int)=0);decide),I]
  have A:=hp.iF D
  rw[z] at A
  have K:p.item D=(⟨2,(q.fN D).1,((q.fN D).2.alias false).1⟩,((q.fN D).2.alias false).2):=by unfold PS.item;rw[z]
  refine bG (ae 2 aa (af ?_))
  refine aM (ai (ae 4 aa (au aa aa (du aa ?_))))
  refine au aa aa (c8 aa aa aa ?_)
  refine au aa aa (iq aa aa ?_)
  refine ae 1 aa (af ?_)
  refine fe aa aa (ai (ae 1 aa (bj (bx F G.ok cm) aa aa aa aa aa (af (ai (ae 1 aa (bj (uF F U (G.top.gK cm).top) aa aa aa aa aa (ae 2 aa (af ?_)))))))))
  refine bG (ae 1 aa (bj (bx F ((G.top.gK cm).top.expr D).ok dL) aa aa aa aa aa (af (ai (ae 1 aa (bj (xz F A.top false) aa aa aa aa aa (ae 2 aa (af ?_))))))))
  refine ak 2 aa (ax ?_)
  rw[K]
  exact⟨_,PS.bi _,aa,cI aa aa,aa,aa⟩
 rw[PS.cL ew]
 refine ai (ae 1 aa (bj (keyword F hp.ok nk) aa aa aa aa aa (ae 1 aa (af ?_))))
 refine aK aa (fun J=>?_) (fun J=>?_)
 ·have I:p.agg=(3,(p.keyword nk).2):=by unfold PS.agg;rw[aj (by rw[ew];decide),aw J]
  have G:=hp.kw nk
  generalize (p.keyword nk).2=q at I G⊢
  have z:p.iF D=((3,(q.fN D).1),(q.fN D).2):=by unfold PS.iF;rw[aj (by rw[O];decide),aj (by rw[I];show¬((3:Int)=0);decide),I]
  have A:=hp.iF D
  rw[z] at A
  have K:p.item D=(⟨3,(q.fN D).1,((q.fN D).2.alias false).1⟩,((q.fN D).2.alias false).2):=by unfold PS.item;rw[z]
  refine bG (ae 2 aa (af ?_))
  refine aM (ai (ae 4 aa (au aa aa (du aa ?_))))
  refine au aa aa (c8 aa aa aa ?_)
  refine au aa aa (iq aa aa ?_)
  refine ae 1 aa (af ?_)
  refine fe aa aa (ai (ae 1 aa (bj (bx F G.ok cm) aa aa aa aa aa (af (ai (ae 1 aa (bj (uF F U (G.top.gK cm).top) aa aa aa aa aa (ae 2 aa (af ?_)))))))))
  refine bG (ae 1 aa (bj (bx F ((G.top.gK cm).top.expr D).ok dL) aa aa aa aa aa (af (ai (ae 1 aa (bj (xz F A.top false) aa aa aa aa aa (ae 2 aa (af ?_))))))))
  refine ak 2 aa (ax ?_)
  rw[K]
  exact⟨_,PS.bi _,aa,cI aa aa,aa,aa⟩
 rw[PS.cL J]
 refine ai (ae 1 aa (bj (keyword F hp.ok nm) aa aa aa aa aa (ae 1 aa (af ?_))))
 refine aK aa (fun dq=>?_) (fun dq=>?_)
 ·have I:p.agg=(4,(p.keyword nm).2):=by unfold PS.agg;rw[aj (by rw[ew];decide),aj (by rw[J];decide),aw dq]
  have G:=hp.kw nm
  generalize (p.keyword nm).2=q at I G⊢
  have z:p.iF D=((4,(q.fN D).1),(q.fN D).2):=by unfold PS.iF;rw[aj (by rw[O];decide),aj (by rw[I];show¬((4:Int)=0);decide),I]
  have A:=hp.iF D
  rw[z] at A
  have K:p.item D=(⟨4,(q.fN D).1,((q.fN D).2.alias false).1⟩,((q.fN D).2.alias false).2):=by unfold PS.item;rw[z]
  refine bG (ae 2 aa (af ?_))
  refine aM (ai (ae 4 aa (au aa aa (du aa ?_))))
  refine au aa aa (c8 aa aa aa ?_)
  refine au aa aa (iq aa aa ?_)
  refine ae 1 aa (af ?_)
  refine fe aa aa (ai (ae 1 aa (bj (bx F G.ok cm) aa aa aa aa aa (af (ai (ae 1 aa (bj (uF F U (G.top.gK cm).top) aa aa aa aa aa (ae 2 aa (af ?_)))))))))
  refine bG (ae 1 aa (bj (bx F ((G.top.gK cm).top.expr D).ok dL) aa aa aa aa aa (af (ai (ae 1 aa (bj (xz F A.top false) aa aa aa aa aa (ae 2 aa (af ?_))))))))
  refine ak 2 aa (ax ?_)
  rw[K]
  exact⟨_,PS.bi _,aa,cI aa aa,aa,aa⟩
 rw[PS.cL dq]
 have I:p.agg=(0,p):=by unfold PS.agg;rw[aj (by rw[ew];decide),aj (by rw[J];decide),aj (by rw[dq];decide)]
 have z:p.iF D=((0,(p.expr D).1),(p.expr D).2):=by unfold PS.iF;rw[aj (by rw[O];decide),aw (by rw[I])]
 have A:=hp.iF D
 rw[z] at A
 have K:p.item D=(⟨0,(p.expr D).1,((p.expr D).2.alias false).1⟩,((p.expr D).2.alias false).2):=by unfold PS.item;rw[z]
 refine bG (ae 1 aa (bj (uF F U hp) aa aa aa aa aa (ae 2 aa (af ?_))))
 refine aM (ai (ae 4 aa (ee aa aa (ee aa aa (ee aa aa (ae 1 aa (af ?_)))))))
 refine eJ aa aa (aU (ai (ae 1 aa (bj (xz F A.top false) aa aa aa aa aa (ae 2 aa (af ?_))))))
 refine ak 2 aa (ax ?_)
 rw[K]
 exact⟨_,PS.bi _,aa,cI aa aa,aa,aa⟩
theorem Ed{T:bf}(F:FT T){p:PS}(hp:bd p):bX T 185 [.vp 1000 0] (PS.bi p) fun r Bn=>r=dI p.dy.1∧Bn=PS.bi p.dy.2:=by
 refine cr F.ZX aa (ak 1 aa (aM (ai (ae 6 aa (da (g:=aD) aa (fun A=>?_) (fun A=>?_))))))
 ·have h0:p.err=0:=by simpa using A
  refine au aa (A) (bM aa ?_)
  refine au aa (A) (HC (tok F hp.ok) aa aa aa aa aa ?_)
  refine au aa (A) (Cn aa aa ?_)
  refine au aa (A) (iq aa aa ?_)
  refine al (cU aa (A) aa ?_)
  refine af (aK aa (fun bJ=>?_) (fun bJ=>?_))
  ·have I:p.kb=p.fail 5:=by unfold PS.kb;rw[aw ⟨h0,by simpa using bJ⟩]
   have J:=hp.kb
   rw[I] at J
   refine bG (ae 1 aa (bj (fail F hp.ok 5) aa aa aa aa aa (af (aM (ak 5 aa (aK aa (fun z=>?_) (fun z=>?_)))))))
   ·have G:p.dy=(0,p.fail 5):=by unfold PS.dy;rw[I,aw (by simpa using z)]
    refine ak 1 aa (ax ?_)
    rw[G]
    exact⟨_,PS.bi _,aa,cI aa aa,aa,aa⟩
   have G:p.dy=(p.fail 5).f5:=by unfold PS.dy;rw[I,aj (by simpa using z)]
   refine aU (ai (ae 1 aa ?_))
   refine bj (f5 F J.st (by simpa using z)) rfl rfl rfl rfl rfl ?_
   refine ae 1 aa (af ?_)
   refine ax ?_
   rw[G]
   exact⟨_,PS.bi _,aa,cI aa aa,aa,aa⟩
  have I:p.kb=p:=by unfold PS.kb;rw[aj (fun k=>absurd k.2 (by simpa using bJ))]
  refine aU (aM (ak 5 aa (aK aa (fun z=>?_) (fun z=>?_))))
  ·have G:p.dy=(0,p):=by unfold PS.dy;rw[I,aw (by simpa using z)]
   refine ak 1 aa (ax ?_)
   rw[G]
   exact⟨_,PS.bi _,aa,cI aa aa,aa,aa⟩
  have G:p.dy=p.f5:=by unfold PS.dy;rw[I,aj (by simpa using z)]
  refine aU (ai (ae 1 aa ?_))
  refine bj (f5 F hp.st (by simpa using z)) rfl rfl rfl rfl rfl ?_
  refine ae 1 aa (af ?_)
  refine ax ?_
  rw[G]
  exact⟨_,PS.bi _,aa,cI aa aa,aa,aa⟩
 have h0:¬p.err=0:=by simpa using A
 have I:p.kb=p:=by unfold PS.kb;rw[aj (fun k=>h0 k.1)]
 refine ee aa (A) (ee aa (A) (ee aa (A) (ee aa (A) (al (cK aa (A) aa ?_)))))
 refine af (eJ aa aa (aU (aM (ak 5 aa (aK aa (fun z=>?_) (fun z=>?_))))))
 ·have G:p.dy=(0,p):=by unfold PS.dy;rw[I,aw (by simpa using z)]
  refine ak 1 aa (ax ?_)
  rw[G]
  exact⟨_,PS.bi _,aa,cI aa aa,aa,aa⟩
 have G:p.dy=p.f5:=by unfold PS.dy;rw[I,aj (by simpa using z)]
 refine aU (ai (ae 1 aa ?_))
 refine bj (f5 F hp.st (by simpa using z)) rfl rfl rfl rfl rfl ?_
 refine ae 1 aa (af ?_)
 refine ax ?_
 rw[G]
 exact⟨_,PS.bi _,aa,cI aa aa,aa,aa⟩
set_option maxHeartbeats 2000000 in
theorem MP{T:bf}(F:FT T){D:Rd}(Lf:gX T D){p:PS}(hp:bd p)(a:Bool):bX T 184 [.vp 1000 0,dB a] (PS.bi p) fun r Bn=>r= .d (.ff ((p.jS D a).1.map Src.enc))∧Bn=PS.bi (p.jS D a).2:=by
 refine cr F.ZW aa (ak 1 aa (ai (ae 2 aa (bj (GG F hp a) aa aa aa aa aa (ae 2 aa (af ?_))))))
 refine bN (d6 (fun k VE B=>∃(l:List Src)(q:PS),oR D k l q=p.jS D a∧l≠[]∧l.length≤q.aJ+1∧p.aA.length≤k+q.aJ∧bQ p q∧bw [(0,.vp 1000 0),(5,.bs 11 (l.map Src.enc).length 4)] VE∧bw (PS.bi q++[(11,.arr 169 48 4 (l.map Src.enc).length (l.map Src.enc))]) B) ?_ (k:=p.aA.length) ⟨[(p.source a).1],(p.source a).2,aa,pO _ _,mG (df _),jQ _ _,hp.source a,⟨aa,aa,trivial⟩,dj aa aa ⟨aa,trivial⟩⟩)
 rintro k VE B⟨l,q,z,U,jj,hk,K,hV,hB⟩
 refine eA (PS.bi q++[(11,.arr 169 48 4 (l.map Src.enc).length (l.map Src.enc))]) hB ?_
 have hB:bw (PS.bi q++[(11,.arr 169 48 4 (l.map Src.enc).length (l.map Src.enc))]) (PS.bi q++[(11,.arr 169 48 4 (l.map Src.enc).length (l.map Src.enc))]):=dj rfl rfl ⟨rfl,trivial⟩
 have gi:q.aA.length=p.aA.length:=by rw[K.aA]
 refine dx _ _ hV hB (bN (ai (ae 1 aa (bj (keyword F K.ok nL) aa aa aa aa aa (ae 1 aa (af ?_))))))
 refine aM (ak 1 aa (aK aa (fun A=>?_) (fun A=>?_)))
 ·have h2:=K.top.kw nL
  refine bG (ae 2 aa (gn 16 16 aa aa (fun _=>⟨aa,aa⟩) ?_))
  refine bj (aW F h2.ok [ka] (by decide)) rfl rfl rfl rfl rfl ?_
  refine af (ai ?_)
  have O:q.join=some (true,((q.keyword nL).2.aW [ka])):=by unfold PS.join;rw[aw A]
  obtain⟨J,Y,j0⟩:=K.top.join O
  have fu:=K.ok.dY
  obtain⟨k,rfl⟩:∃k',k=k'+1:=⟨k-1,by omega⟩
  rw[yZ O] at z
  rw[A]
  generalize ((q.keyword nL).2.aW [ka])=I at O J Y z⊢
  have g1:=J.top.source false
  have g2:=g1.top.dF [pd]
  have g3:=J.top.gx D true
  have ga:=g3.aJ
  refine ae 1 aa (bj (GG F J.top false) aa aa aa aa aa (ae 2 aa (af ?_)))
  refine ak 3 aa (ai (ae 2 aa (gn 27 27 aa aa (fun _=>⟨aa,aa⟩) ?_)))
  refine bj (aW F g1.ok [pd] (by decide)) rfl rfl rfl rfl rfl ?_
  refine af (ai (ae 1 aa (bj (uF F Lf g2.top) aa aa aa aa aa (ae 2 aa (af ?_)))))
  refine bG (ae 3 aa ?_)
  refine al (r5 (rows:=l.map Src.enc) (ys:=[(I.gx D true).1.enc]) rfl rfl rfl (.bs (rows:=[(I.gx D true).1.enc]) rfl) (bW rfl) (by simp only[bK,cC,dk,dO];omega) ?_)
  refine ae 1 aa (af ?_)
  refine⟨k,fZ k,l++[(I.gx D true).1],(I.gx D true).2,z,mo U _,?_,?_,(K.trans J).trans g3,?_,?_⟩
  ·rw[bK,eK];show l.length+1≤(I.gx D true).2.aJ+1;omega
  ·show p.aA.length≤k+(I.gx D true).2.aJ;omega
  ·simp only[dT,eB,fy];exact⟨rfl,rfl,trivial⟩
  simp only[dT,eB,fy];exact dj rfl rfl ⟨rfl,trivial⟩
 rw[PS.cL A]
 refine ai (ae 1 aa (bj (keyword F K.ok ka) aa aa aa aa aa (ae 1 aa (af ?_))))
 refine aK aa (fun Z=>?_) (fun Z=>?_)
 ·have G:(q.keyword ka).1=false:=by simpa using Z
  have O:q.join=none:=by unfold PS.join;rw[aj (by rw[A];decide),aj (by rw[G];decide)]
  rw[BE O] at z
  rw[PS.cL G]
  refine ai (ae 1 aa (gn 21 11 aa aa (fun _=>⟨aa,aa⟩) (ae 1 aa (af ?_))))
  refine ax ?_
  rw[←z,DC.qO (by simpa using U)]
  exact⟨_,PS.bi _,aa,cI aa aa,aa,aa⟩
 have G:(q.keyword ka).1=true:=by simpa using Z
 refine aU (ai ?_)
 have O:q.join=some (false,(q.keyword ka).2):=by unfold PS.join;rw[aj (by rw[A];decide),aw G]
 obtain⟨J,Y,j0⟩:=K.top.join O
 have fu:=K.ok.dY
 obtain⟨k,rfl⟩:∃k',k=k'+1:=⟨k-1,by omega⟩
 rw[yZ O] at z
 rw[A]
 generalize (q.keyword ka).2=I at O J Y z⊢
 have g1:=J.top.source false
 have g2:=g1.top.dF [pd]
 have g3:=J.top.gx D false
 have ga:=g3.aJ
 refine ae 1 aa (bj (GG F J.top false) aa aa aa aa aa (ae 2 aa (af ?_)))
 refine ak 3 aa (ai (ae 2 aa (gn 27 27 aa aa (fun _=>⟨aa,aa⟩) ?_)))
 refine bj (aW F g1.ok [pd] (by decide)) rfl rfl rfl rfl rfl ?_
 refine af (ai (ae 1 aa (bj (uF F Lf g2.top) aa aa aa aa aa (ae 2 aa (af ?_)))))
 refine bG (ae 3 aa ?_)
 refine al (r5 (rows:=l.map Src.enc) (ys:=[(I.gx D false).1.enc]) rfl rfl rfl (.bs (rows:=[(I.gx D false).1.enc]) rfl) (bW rfl) (by simp only[bK,cC,dk,dO];omega) ?_)
 refine ae 1 aa (af ?_)
 refine⟨k,fZ k,l++[(I.gx D false).1],(I.gx D false).2,z,mo U _,?_,?_,(K.trans J).trans g3,?_,?_⟩
 ·rw[bK,eK];show l.length+1≤(I.gx D false).2.aJ+1;omega
 ·show p.aA.length≤k+(I.gx D false).2.aJ;omega
 ·simp only[dT,eB,fy];exact⟨rfl,rfl,trivial⟩
 simp only[dT,eB,fy];exact dj rfl rfl ⟨rfl,trivial⟩
open Go
set_option maxRecDepth 10000
set_option maxHeartbeats 4000000 in
theorem coreC{T:bf}(F:FT T){D:Rd}(Lf:gX T D){p:PS}(hp:bd p)(a:Bool):bX T 132 [.vp 1000 0,dB a] (PS.bz p) fun r Bn=>r=et (p.core D a).1.enc∧Bn=PS.bz (p.core D a).2:=by
 refine cr F.Zl aa ?_
 have od:∀x:PS,bd x→bQ x (PS.item x D).2:=fun _ h=>h.item D
 have O:∀x:PS,bd x→bQ x (PS.dy x).2:=fun _ h=>h.dy
 refine ak 1 aa (ak 4 aa (ai (mV 1000 5 1050 142 88 8 aa aa aa (ae 2 aa (gn 10 10 aa aa (fun _=>⟨aa,aa⟩) ?_)))))
 refine bj (aW F hp.nil.ok [zB] (by decide)) rfl rfl rfl rfl rfl ?_
 refine af (ai (ae 1 aa (bj (keyword F hp.iM.ok ja) aa aa aa aa aa (ae 1 aa (rR 14 2 1102 167 32 3 aa aa aa (rR 14 6 1106 3 8 1 aa aa aa (ae 2 aa (af ?_))))))))
 refine aM (ai (ae 1 aa (bj (sign F hp.fq.ok eS) aa aa aa aa aa (ae 1 aa (af ?_)))))
 refine aK aa (fun vd=>?_) (fun vd=>?_)
 ·have Fh:(p.fq.sign eS).1=false:=by simpa using vd
  have hI0:p.fq.items D=jc (fun p=>p.item D) p.fq:=by unfold PS.items;rw[aj (by rw[Fh];decide)]
  rw[PS.ig Fh]
  refine eX (bo 3 aa (mQ (Ob F Lf hp.fq.top) aa aa aa aa aa aa (bo 1 aa (eL aa (ey (rows:=[]) (ys:=[(p.fq.item D).1.enc]) aa aa aa (.bs (rows:=[(p.fq.item D).1.enc]) aa) (bW aa) (bW aa) (fun _=>aa) (fun _=>aa) ?_)))))
  refine bo 2 aa (dc ?_)
  refine bN (d6 (fun k VE B=>∃(l:List _)(q:PS),kv (fun p=>PS.item p D) k l q=(jc (fun p=>PS.item p D) p.fq)∧l≠[]∧l.length≤q.aJ+1∧p.fq.aA.length≤k+q.aJ∧bQ p.fq q∧bw [(0,.vp 1000 0),(1,dB a),(4,.vp 4 0),(5,.vp 5 0)] VE∧bw (PS.bi q++[(5,.one 106 120 [dB (p.iM.keyword ja).1,dN,.ac 1102 (l.map Item.enc).length 3,dN,d0,dB false,.ac 1106 0 1]),(1102,.acc 167 32 3 (l.map Item.enc)),(1106,.acc 3 8 1 []),(4,.one 106 120 [dB false,dN,dN,dN,d0,dB false,dN])]) B) ?_ (k:=p.fq.aA.length) ⟨[(PS.item p.fq D).1],(PS.item p.fq D).2,aa,pO _ _,mG (df _),jQ _ _,od _ hp.fq.top,⟨aa,aa,aa,aa,trivial⟩,dj aa aa ⟨aa,aa,aa,aa,trivial⟩⟩)
  rintro k VE B⟨l,q,z,Y,jj,hk,A,hV,Z⟩
  refine eA (PS.bi q++[(5,.one 106 120 [dB (p.iM.keyword ja).1,dN,.ac 1102 (l.map Item.enc).length 3,dN,d0,dB false,.ac 1106 0 1]),(1102,.acc 167 32 3 (l.map Item.enc)),(1106,.acc 3 8 1 []),(4,.one 106 120 [dB false,dN,dN,dN,d0,dB false,dN])]) Z ?_
  have Z:bw (PS.bi q++[(5,.one 106 120 [dB (p.iM.keyword ja).1,dN,.ac 1102 (l.map Item.enc).length 3,dN,d0,dB false,.ac 1106 0 1]),(1102,.acc 167 32 3 (l.map Item.enc)),(1106,.acc 3 8 1 []),(4,.one 106 120 [dB false,dN,dN,dN,d0,dB false,dN])]) (PS.bi q++[(5,.one 106 120 [dB (p.iM.keyword ja).1,dN,.ac 1102 (l.map Item.enc).length 3,dN,d0,dB false,.ac 1106 0 1]),(1102,.acc 167 32 3 (l.map Item.enc)),(1106,.acc 3 8 1 []),(4,.one 106 120 [dB false,dN,dN,dN,d0,dB false,dN])]):=dj rfl rfl ⟨rfl,rfl,rfl,rfl,trivial⟩
  have gi:q.aA.length=p.fq.aA.length:=by rw[A.aA]
  refine dx _ _ hV Z (aM (ai (ae 1 aa (bj (sign F A.ok cF) aa aa aa aa aa (af (aK aa (fun pf=>?_) (fun pf=>?_)))))))
  ·have h2:=A.top.sign cF
   have G:=ov A.ok pf
   have fu:=A.ok.dY
   obtain⟨k,rfl⟩:∃k',k=k'+1:=⟨k-1,by have:=G.2;omega⟩
   rw[ow pf] at z
   have h3:=h2.trans (od _ h2.top)
   refine aU (bN (iK (bo 3 aa (mQ (Ob F Lf h2.top) aa aa aa aa aa aa (bo 1 aa ?_)))))
   refine eL rfl (ey (rows:=l.map Item.enc) (ys:=[((PS.item (q.sign cF).2 D).1).enc]) rfl rfl rfl (.bs (rows:=[((PS.item (q.sign cF).2 D).1).enc]) rfl) (bW rfl) (by simp only[bK,cC,dk,dO];omega) (fun h=>by rw[h];rfl) (fun h=>by rw[h];rfl) ?_)
   refine bo 2 aa (dc ?_)
   refine⟨k,fZ k,l++[(PS.item (q.sign cF).2 D).1],(PS.item (q.sign cF).2 D).2,z,mo Y _,?_,?_,A.trans h3,?_,?_⟩
   ·have:=h3.aJ;have:=G.1;have:=(od _ h2.top).aJ;rw[bK,eK];show l.length+1≤(PS.item (q.sign cF).2 D).2.aJ+1;omega
   ·have:=(od _ h2.top).aJ;have:=G.1;show p.fq.aA.length≤k+(PS.item (q.sign cF).2 D).2.aJ;omega
   ·try simp only[dT,eB,fy]
    exact⟨aa,aa,aa,aa,trivial⟩
   try simp only[dT,eB,fy]
   exact dj aa aa ⟨aa,aa,aa,aa,trivial⟩
  rw[ox pf] at z
  rw[PS.ig pf]
  have U:p.fq.items D=(l,q):=by rw[hI0,←z]
  refine dM (ai (ez (PS.bi q++[(5,.one 106 120 [dB (p.iM.keyword ja).1,dN,.ac 1102 (l.map Item.enc).length 3,dN,d0,dB false,.ac 1106 0 1]),(1102,.acc 167 32 3 (l.map Item.enc)),(1106,.acc 3 8 1 []),(4,.one 106 120 [dB false,dN,dN,dN,d0,dB false,dN])]) (dj aa aa ⟨aa,aa,aa,aa,trivial⟩) ?_))
  have IN:p.fv D=q.aW [hY]:=by unfold PS.fv;rw[U]
  refine ae 2 aa (gn 35 35 aa aa (fun _=>⟨aa,aa⟩) ?_)
  refine bj (aW F A.ok [hY] (by decide)) rfl rfl rfl rfl rfl ?_
  refine af (ai ?_)
  rw[←IN]
  refine ae 2 aa (bj (MP F Lf (hp.fv D).top a) aa aa aa aa aa (ae 2 aa (af ?_)))
  refine ai (ae 1 aa (bj (CL F Lf (hp.iV D a).top) aa aa aa aa aa (ae 2 aa (af ?_))))
  refine aM (ai (ae 1 aa (bj (keyword F (hp.dD D a).ok gp) aa aa aa aa aa (af (aK aa (fun K=>?_) (fun K=>?_))))))
  ·have j1:=(hp.dD D a).top.kw gp
   have j2:=j1.top.dF [gC]
   refine ai (ae 2 aa (gn 47 47 aa aa (fun _=>⟨aa,aa⟩) ?_))
   refine bj (aW F j1.ok [gC] (by decide)) rfl rfl rfl rfl rfl ?_
   refine af (ak 2 aa (eX (bo 3 aa (mQ (Ed F j2.top) aa aa aa aa aa aa (bo 1 aa (eL aa (ey (rows:=[]) (ys:=[[.i .i64 (((p.dD D a).keyword gp).2.aW [gC]).dy.1]]) aa aa aa (.bs (rows:=[[.i .i64 (((p.dD D a).keyword gp).2.aW [gC]).dy.1]]) aa) (bW aa) (bW aa) (fun _=>aa) (fun _=>aa) ?_)))))))
   refine bo 2 aa (dc ?_)
   refine bN ?_
   obtain⟨I,nY⟩:∃I,I=l:=⟨_,rfl⟩
   obtain⟨q0,td⟩:∃q0,q0=q:=⟨_,rfl⟩
   rw[←td] at U
   rw[←nY] at U⊢
   refine d6 (fun k VE B=>∃(l:List _)(q:PS),kv PS.dy k l q=(jc PS.dy (((p.dD D a).keyword gp).2.aW [gC]))∧l≠[]∧l.length≤q.aJ+1∧(((p.dD D a).keyword gp).2.aW [gC]).aA.length≤k+q.aJ∧bQ (((p.dD D a).keyword gp).2.aW [gC]) q∧bw [(0,.vp 1000 0),(4,.vp 4 0),(5,.vp 5 0)] VE∧bw (PS.bi q++[(5,.one 106 120 [dB (p.iM.keyword ja).1,dN,.ac 1102 (I.map Item.enc).length 3,.d (.ff (((p.fv D).jS D a).1.map Src.enc)),dI ((p.iV D a).dX D).1,dB true,.ac 1106 (l.map (fun i=>[DC.i .i64 i])).length 1]),(1102,.acc 167 32 3 (I.map Item.enc)),(1106,.acc 3 8 1 (l.map (fun i=>[DC.i .i64 i]))),(4,.one 106 120 [dB false,dN,dN,dN,d0,dB false,dN])]) B) ?_ (k:=(((p.dD D a).keyword gp).2.aW [gC]).aA.length) ⟨[(PS.dy (((p.dD D a).keyword gp).2.aW [gC])).1],(PS.dy (((p.dD D a).keyword gp).2.aW [gC])).2,aa,pO _ _,mG (df _),jQ _ _,O _ j2.top,⟨aa,aa,aa,trivial⟩,dj aa aa ⟨aa,aa,aa,aa,trivial⟩⟩
   clear nY td
   rintro k VE B⟨l,q,z,Y,jj,hk,A,hV,Z⟩
   refine eA (PS.bi q++[(5,.one 106 120 [dB (p.iM.keyword ja).1,dN,.ac 1102 (I.map Item.enc).length 3,.d (.ff (((p.fv D).jS D a).1.map Src.enc)),dI ((p.iV D a).dX D).1,dB true,.ac 1106 (l.map (fun i=>[DC.i .i64 i])).length 1]),(1102,.acc 167 32 3 (I.map Item.enc)),(1106,.acc 3 8 1 (l.map (fun i=>[DC.i .i64 i]))),(4,.one 106 120 [dB false,dN,dN,dN,d0,dB false,dN])]) Z ?_
   have Z:bw (PS.bi q++[(5,.one 106 120 [dB (p.iM.keyword ja).1,dN,.ac 1102 (I.map Item.enc).length 3,.d (.ff (((p.fv D).jS D a).1.map Src.enc)),dI ((p.iV D a).dX D).1,dB true,.ac 1106 (l.map (fun i=>[DC.i .i64 i])).length 1]),(1102,.acc 167 32 3 (I.map Item.enc)),(1106,.acc 3 8 1 (l.map (fun i=>[DC.i .i64 i]))),(4,.one 106 120 [dB false,dN,dN,dN,d0,dB false,dN])]) (PS.bi q++[(5,.one 106 120 [dB (p.iM.keyword ja).1,dN,.ac 1102 (I.map Item.enc).length 3,.d (.ff (((p.fv D).jS D a).1.map Src.enc)),dI ((p.iV D a).dX D).1,dB true,.ac 1106 (l.map (fun i=>[DC.i .i64 i])).length 1]),(1102,.acc 167 32 3 (I.map Item.enc)),(1106,.acc 3 8 1 (l.map (fun i=>[DC.i .i64 i]))),(4,.one 106 120 [dB false,dN,dN,dN,d0,dB false,dN])]):=dj rfl rfl ⟨rfl,rfl,rfl,rfl,trivial⟩
   have gi:q.aA.length=(((p.dD D a).keyword gp).2.aW [gC]).aA.length:=by rw[A.aA]
   refine dx _ _ hV Z (aM (ai (ae 1 aa (bj (sign F A.ok cF) aa aa aa aa aa (af (aK aa (fun J=>?_) (fun J=>?_)))))))
   ·have h2:=A.top.sign cF
    have G:=ov A.ok J
    have fu:=A.ok.dY
    obtain⟨k,rfl⟩:∃k',k=k'+1:=⟨k-1,by have:=G.2;omega⟩
    rw[ow J] at z
    have h3:=h2.trans (O _ h2.top)
    refine aU (bN (iK (bo 3 aa (mQ (Ed F h2.top) aa aa aa aa aa aa (bo 1 aa ?_)))))
    refine eL rfl (ey (rows:=l.map (fun i=>[DC.i .i64 i])) (ys:=[[.i .i64 (PS.dy (q.sign cF).2).1]]) rfl rfl rfl (.bs (rows:=[[.i .i64 (PS.dy (q.sign cF).2).1]]) rfl) (bW rfl) (by simp only[bK,cC,dk,dO];omega) (fun h=>by rw[h];rfl) (fun h=>by rw[h];rfl) ?_)
    refine bo 2 aa (dc ?_)
    refine⟨k,fZ k,l++[(PS.dy (q.sign cF).2).1],(PS.dy (q.sign cF).2).2,z,mo Y _,?_,?_,A.trans h3,?_,?_⟩
    ·have:=h3.aJ;have:=G.1;have:=(O _ h2.top).aJ;rw[bK,eK];show l.length+1≤(PS.dy (q.sign cF).2).2.aJ+1;omega
    ·have:=(O _ h2.top).aJ;have:=G.1;show(((p.dD D a).keyword gp).2.aW [gC]).aA.length≤k+(PS.dy (q.sign cF).2).2.aJ;omega
    ·try simp only[dT,eB,fy]
     exact⟨aa,aa,aa,trivial⟩
    try simp only[dT,eB,fy]
    exact dj aa aa ⟨aa,aa,aa,aa,trivial⟩
   rw[ox J] at z
   rw[PS.ig J]
   have hG:(p.dD D a).group=((true,l),q):=by unfold PS.group;rw[aw K,←z]
   have hm:p.core D a=(⟨(p.iM.keyword ja).1,q.ex,I,((p.fv D).jS D a).1,((p.iV D a).dX D).1,true,l⟩,q):=by unfold PS.core;rw[hG,U]
   refine dM (ai (ae 4 aa (fx 69 1050 aa aa (fun _=>⟨aa,aa⟩) (ae 2 aa (af ?_)))))
   refine ai (js 1000 5 aa aa (ae 1 aa ?_))
   refine fx 71 1102 rfl rfl (by refine⟨trivial,trivial,?_,trivial,trivial,trivial,?_,trivial⟩<;>intro h<;>first|exact⟨rfl,rfl⟩|exact absurd h (by decide)) ?_
   refine fx 71 1106 rfl rfl (by refine⟨trivial,trivial,trivial,trivial,trivial,trivial,?_,trivial⟩<;>intro h<;>first|exact⟨rfl,rfl⟩|exact absurd h (by decide)) ?_
   refine ae 1 aa (af ?_)
   refine ax ?_
   rw[hm]
   exact⟨_,PS.bz _,aa,fC aa,aa,aa⟩
  have hG:(p.dD D a).group=((false,[]),p.dD D a):=by unfold PS.group;rw[aj (by rw[K];decide)]
  have hm:p.core D a=(⟨(p.iM.keyword ja).1,(p.dD D a).ex,l,((p.fv D).jS D a).1,((p.iV D a).dX D).1,false,[]⟩,p.dD D a):=by unfold PS.core;rw[hG,U]
  rw[PS.cL K]
  refine aU (ai (ae 4 aa (fx 69 1050 aa aa (fun _=>⟨aa,aa⟩) (ae 2 aa (af ?_)))))
  refine ai (js 1000 5 aa aa (ae 1 aa ?_))
  refine fx 71 1102 rfl rfl (by refine⟨trivial,trivial,?_,trivial,trivial,trivial,?_,trivial⟩<;>intro h<;>first|exact⟨rfl,rfl⟩|exact absurd h (by decide)) ?_
  refine fx 71 1106 rfl rfl (by refine⟨trivial,trivial,trivial,trivial,trivial,trivial,?_,trivial⟩<;>intro h<;>first|exact⟨rfl,rfl⟩|exact absurd h (by decide)) ?_
  refine ae 1 aa (af ?_)
  refine ax ?_
  rw[hm]
  exact⟨_,PS.bz _,aa,fC aa,aa,aa⟩
 have Fh:(p.fq.sign eS).1=true:=by simpa using vd
 have U:p.fq.items D=([],(p.fq.sign eS).2):=by unfold PS.items;rw[aw Fh]
 obtain⟨l,hl⟩:∃l:List Item,[]=l:=⟨_,rfl⟩
 rw[hl] at U
 have A:=hp.fq.top.sign eS
 generalize (p.fq.sign eS).2=q at U A⊢
 refine aU (ai ?_)
 refine ez (PS.bi q++[(5,.one 106 120 [dB (p.iM.keyword ja).1,dN,.ac 1102 (l.map Item.enc).length 3,dN,d0,dB false,.ac 1106 0 1]),(1102,.acc 167 32 3 (l.map Item.enc)),(1106,.acc 3 8 1 []),(4,.one 106 120 [dB false,dN,dN,dN,d0,dB false,dN])]) ?_ ?_; · exact dj rfl rfl ⟨by rw[←hl];rfl,by rw[←hl];rfl,rfl,rfl,trivial⟩
 have IN:p.fv D=q.aW [hY]:=by unfold PS.fv;rw[U]
 refine ae 2 aa (gn 35 35 aa aa (fun _=>⟨aa,aa⟩) ?_)
 refine bj (aW F A.ok [hY] (by decide)) rfl rfl rfl rfl rfl ?_
 refine af (ai ?_)
 rw[←IN]
 refine ae 2 aa (bj (MP F Lf (hp.fv D).top a) aa aa aa aa aa (ae 2 aa (af ?_)))
 refine ai (ae 1 aa (bj (CL F Lf (hp.iV D a).top) aa aa aa aa aa (ae 2 aa (af ?_))))
 refine aM (ai (ae 1 aa (bj (keyword F (hp.dD D a).ok gp) aa aa aa aa aa (af (aK aa (fun K=>?_) (fun K=>?_))))))
 ·have j1:=(hp.dD D a).top.kw gp
  have j2:=j1.top.dF [gC]
  refine ai (ae 2 aa (gn 47 47 aa aa (fun _=>⟨aa,aa⟩) ?_))
  refine bj (aW F j1.ok [gC] (by decide)) rfl rfl rfl rfl rfl ?_
  refine af (ak 2 aa (eX (bo 3 aa (mQ (Ed F j2.top) aa aa aa aa aa aa (bo 1 aa (eL aa (ey (rows:=[]) (ys:=[[.i .i64 (((p.dD D a).keyword gp).2.aW [gC]).dy.1]]) aa aa aa (.bs (rows:=[[.i .i64 (((p.dD D a).keyword gp).2.aW [gC]).dy.1]]) aa) (bW aa) (bW aa) (fun _=>aa) (fun _=>aa) ?_)))))))
  refine bo 2 aa (dc ?_)
  refine bN ?_
  obtain⟨I,nY⟩:∃I,I=l:=⟨_,rfl⟩
  obtain⟨q0,td⟩:∃q0,q0=q:=⟨_,rfl⟩
  rw[←td] at U
  rw[←nY] at U⊢
  refine d6 (fun k VE B=>∃(l:List _)(q:PS),kv PS.dy k l q=(jc PS.dy (((p.dD D a).keyword gp).2.aW [gC]))∧l≠[]∧l.length≤q.aJ+1∧(((p.dD D a).keyword gp).2.aW [gC]).aA.length≤k+q.aJ∧bQ (((p.dD D a).keyword gp).2.aW [gC]) q∧bw [(0,.vp 1000 0),(4,.vp 4 0),(5,.vp 5 0)] VE∧bw (PS.bi q++[(5,.one 106 120 [dB (p.iM.keyword ja).1,dN,.ac 1102 (I.map Item.enc).length 3,.d (.ff (((p.fv D).jS D a).1.map Src.enc)),dI ((p.iV D a).dX D).1,dB true,.ac 1106 (l.map (fun i=>[DC.i .i64 i])).length 1]),(1102,.acc 167 32 3 (I.map Item.enc)),(1106,.acc 3 8 1 (l.map (fun i=>[DC.i .i64 i]))),(4,.one 106 120 [dB false,dN,dN,dN,d0,dB false,dN])]) B) ?_ (k:=(((p.dD D a).keyword gp).2.aW [gC]).aA.length) ⟨[(PS.dy (((p.dD D a).keyword gp).2.aW [gC])).1],(PS.dy (((p.dD D a).keyword gp).2.aW [gC])).2,aa,pO _ _,mG (df _),jQ _ _,O _ j2.top,⟨aa,aa,aa,trivial⟩,dj aa aa ⟨aa,aa,aa,aa,trivial⟩⟩
  clear nY td
  rintro k VE B⟨l,q,z,Y,jj,hk,A,hV,Z⟩
  refine eA (PS.bi q++[(5,.one 106 120 [dB (p.iM.keyword ja).1,dN,.ac 1102 (I.map Item.enc).length 3,.d (.ff (((p.fv D).jS D a).1.map Src.enc)),dI ((p.iV D a).dX D).1,dB true,.ac 1106 (l.map (fun i=>[DC.i .i64 i])).length 1]),(1102,.acc 167 32 3 (I.map Item.enc)),(1106,.acc 3 8 1 (l.map (fun i=>[DC.i .i64 i]))),(4,.one 106 120 [dB false,dN,dN,dN,d0,dB false,dN])]) Z ?_
  have Z:bw (PS.bi q++[(5,.one 106 120 [dB (p.iM.keyword ja).1,dN,.ac 1102 (I.map Item.enc).length 3,.d (.ff (((p.fv D).jS D a).1.map Src.enc)),dI ((p.iV D a).dX D).1,dB true,.ac 1106 (l.map (fun i=>[DC.i .i64 i])).length 1]),(1102,.acc 167 32 3 (I.map Item.enc)),(1106,.acc 3 8 1 (l.map (fun i=>[DC.i .i64 i]))),(4,.one 106 120 [dB false,dN,dN,dN,d0,dB false,dN])]) (PS.bi q++[(5,.one 106 120 [dB (p.iM.keyword ja).1,dN,.ac 1102 (I.map Item.enc).length 3,.d (.ff (((p.fv D).jS D a).1.map Src.enc)),dI ((p.iV D a).dX D).1,dB true,.ac 1106 (l.map (fun i=>[DC.i .i64 i])).length 1]),(1102,.acc 167 32 3 (I.map Item.enc)),(1106,.acc 3 8 1 (l.map (fun i=>[DC.i .i64 i]))),(4,.one 106 120 [dB false,dN,dN,dN,d0,dB false,dN])]):=dj rfl rfl ⟨rfl,rfl,rfl,rfl,trivial⟩
  have gi:q.aA.length=(((p.dD D a).keyword gp).2.aW [gC]).aA.length:=by rw[A.aA]
  refine dx _ _ hV Z (aM (ai (ae 1 aa (bj (sign F A.ok cF) aa aa aa aa aa (af (aK aa (fun J=>?_) (fun J=>?_)))))))
  ·have h2:=A.top.sign cF
   have G:=ov A.ok J
   have fu:=A.ok.dY
   obtain⟨k,rfl⟩:∃k',k=k'+1:=⟨k-1,by have:=G.2;omega⟩
   rw[ow J] at z
   have h3:=h2.trans (O _ h2.top)
   refine aU (bN (iK (bo 3 aa (mQ (Ed F h2.top) aa aa aa aa aa aa (bo 1 aa ?_)))))
   refine eL rfl (ey (rows:=l.map (fun i=>[DC.i .i64 i])) (ys:=[[.i .i64 (PS.dy (q.sign cF).2).1]]) rfl rfl rfl (.bs (rows:=[[.i .i64 (PS.dy (q.sign cF).2).1]]) rfl) (bW rfl) (by simp only[bK,cC,dk,dO];omega) (fun h=>by rw[h];rfl) (fun h=>by rw[h];rfl) ?_)
   refine bo 2 aa (dc ?_)
   refine⟨k,fZ k,l++[(PS.dy (q.sign cF).2).1],(PS.dy (q.sign cF).2).2,z,mo Y _,?_,?_,A.trans h3,?_,?_⟩
   ·have:=h3.aJ;have:=G.1;have:=(O _ h2.top).aJ;rw[bK,eK];show l.length+1≤(PS.dy (q.sign cF).2).2.aJ+1;omega
   ·have:=(O _ h2.top).aJ;have:=G.1;show(((p.dD D a).keyword gp).2.aW [gC]).aA.length≤k+(PS.dy (q.sign cF).2).2.aJ;omega
   ·try simp only[dT,eB,fy]
    exact⟨aa,aa,aa,trivial⟩
   try simp only[dT,eB,fy]
   exact dj aa aa ⟨aa,aa,aa,aa,trivial⟩
  rw[ox J] at z
  rw[PS.ig J]
  have hG:(p.dD D a).group=((true,l),q):=by unfold PS.group;rw[aw K,←z]
  have hm:p.core D a=(⟨(p.iM.keyword ja).1,q.ex,I,((p.fv D).jS D a).1,((p.iV D a).dX D).1,true,l⟩,q):=by unfold PS.core;rw[hG,U]
  refine dM (ai (ae 4 aa (fx 69 1050 aa aa (fun _=>⟨aa,aa⟩) (ae 2 aa (af ?_)))))
  refine ai (js 1000 5 aa aa (ae 1 aa ?_))
  refine fx 71 1102 rfl rfl (by refine⟨trivial,trivial,?_,trivial,trivial,trivial,?_,trivial⟩<;>intro h<;>first|exact⟨rfl,rfl⟩|exact absurd h (by decide)) ?_
  refine fx 71 1106 rfl rfl (by refine⟨trivial,trivial,trivial,trivial,trivial,trivial,?_,trivial⟩<;>intro h<;>first|exact⟨rfl,rfl⟩|exact absurd h (by decide)) ?_
  refine ae 1 aa (af ?_)
  refine ax ?_
  rw[hm]
  exact⟨_,PS.bz _,aa,fC aa,aa,aa⟩
 have hG:(p.dD D a).group=((false,[]),p.dD D a):=by unfold PS.group;rw[aj (by rw[K];decide)]
 have hm:p.core D a=(⟨(p.iM.keyword ja).1,(p.dD D a).ex,l,((p.fv D).jS D a).1,((p.iV D a).dX D).1,false,[]⟩,p.dD D a):=by unfold PS.core;rw[hG,U]
 rw[PS.cL K]
 refine aU (ai (ae 4 aa (fx 69 1050 aa aa (fun _=>⟨aa,aa⟩) (ae 2 aa (af ?_)))))
 refine ai (js 1000 5 aa aa (ae 1 aa ?_))
 refine fx 71 1102 rfl rfl (by refine⟨trivial,trivial,?_,trivial,trivial,trivial,?_,trivial⟩<;>intro h<;>first|exact⟨rfl,rfl⟩|exact absurd h (by decide)) ?_
 refine fx 71 1106 rfl rfl (by refine⟨trivial,trivial,trivial,trivial,trivial,trivial,?_,trivial⟩<;>intro h<;>first|exact⟨rfl,rfl⟩|exact absurd h (by decide)) ?_
 refine ae 1 aa (af ?_)
 refine ax ?_
 rw[hm]
 exact⟨_,PS.bz _,aa,fC aa,aa,aa⟩
open Go
set_option maxRecDepth 10000
set_option maxHeartbeats 4000000 in
theorem wx{T:bf}(F:FT T){D:Rd}(Lf:gX T D){p:PS}(hp:bd p)(a:Bool):bX T 64 [.vp 1000 0,dB a] (PS.bz p) fun r Bn=>r=et (p.cT D a).1.enc∧Bn=PS.bz (p.cT D a).2:=by
 refine cr F.f64 aa (ak 1 aa (ai (ae 2 aa (dV (coreC F Lf hp a) aa aa aa aa (ae 2 aa (rR 10 1 1101 3 8 1 aa aa aa (ae 2 aa (af ?_))))))))
 refine bN (d6 (fun k VE B=>∃(s:jr)(q:PS),p0 D a k s q=p.cT D a∧s.fP≠[]∧s.fP.length≤q.aJ+1∧s.ops.length≤q.aJ+1∧p.aA.length≤k+q.aJ∧bQ p q∧bw [(0,.vp 1000 0),(1,dB a),(4,.vp 4 0),(5,.vp 5 0)] VE∧bw (PS.bz q++[(5,.one 39 48 [.bs 9 (s.fP.map Core.enc).length 7,.ac 1101 (s.ops.map (fun i=>[DC.i .i64 i])).length 1]),(9,.arr 106 120 7 (s.fP.map Core.enc).length (s.fP.map Core.enc)),(1101,.acc 3 8 1 (s.ops.map (fun i=>[DC.i .i64 i]))),(4,.one 39 48 [dN,dN])]) B) ?_ (k:=p.aA.length) ⟨⟨[(p.core D a).1],[]⟩,(p.core D a).2,aa,pO _ _,mG (df _),df _,jQ _ _,hp.core D a,⟨aa,aa,aa,aa,trivial⟩,gh aa ⟨aa,aa,aa,aa,trivial⟩⟩)
 rintro k VE B⟨s,q,z,Z,jj,sX,hk,O,hV,hB⟩
 refine eA (PS.bz q++[(5,.one 39 48 [.bs 9 (s.fP.map Core.enc).length 7,.ac 1101 (s.ops.map (fun i=>[DC.i .i64 i])).length 1]),(9,.arr 106 120 7 (s.fP.map Core.enc).length (s.fP.map Core.enc)),(1101,.acc 3 8 1 (s.ops.map (fun i=>[DC.i .i64 i]))),(4,.one 39 48 [dN,dN])]) hB ?_
 have hB:bw (PS.bz q++[(5,.one 39 48 [.bs 9 (s.fP.map Core.enc).length 7,.ac 1101 (s.ops.map (fun i=>[DC.i .i64 i])).length 1]),(9,.arr 106 120 7 (s.fP.map Core.enc).length (s.fP.map Core.enc)),(1101,.acc 3 8 1 (s.ops.map (fun i=>[DC.i .i64 i]))),(4,.one 39 48 [dN,dN])]) (PS.bz q++[(5,.one 39 48 [.bs 9 (s.fP.map Core.enc).length 7,.ac 1101 (s.ops.map (fun i=>[DC.i .i64 i])).length 1]),(9,.arr 106 120 7 (s.fP.map Core.enc).length (s.fP.map Core.enc)),(1101,.acc 3 8 1 (s.ops.map (fun i=>[DC.i .i64 i]))),(4,.one 39 48 [dN,dN])]):=gh rfl ⟨rfl,rfl,rfl,rfl,trivial⟩
 have gi:q.aA.length=p.aA.length:=by rw[O.aA]
 have fu:=O.ok.dY
 refine dx _ _ hV hB (bN (aM (bN (ai (ae 1 aa (dV (nB F O.ok tZ) aa aa aa aa (ae 1 aa (af ?_))))))))
 refine aK aa (fun J=>?_) (fun J=>?_)
 ·have K:q.op=some (6,(q.keyword tZ).2):=by unfold PS.op;rw[aw J]
  obtain⟨A,U,j0⟩:=O.top.op K
  obtain⟨k,rfl⟩:∃k',k=k'+1:=⟨k-1,by omega⟩
  rw[vm K] at z
  generalize (q.keyword tZ).2=G at K A U z⊢
  have I:=A.top.dF [gE]
  have g2:=I.top.core D a
  have ga:=I.aJ
  have gb:=g2.aJ
  refine bG (ae 3 aa ?_)
  refine al (ey (rows:=(s.ops.map (fun i=>[DC.i .i64 i]))) (ys:=[[.i .i64 6]]) rfl rfl rfl (.bs (rows:=[[.i .i64 6]]) rfl) (bW rfl) (by simp only[bK,cC,dk,dO];omega) (fun h=>by rw[h];rfl) (fun h=>by rw[h];rfl) ?_)
  refine ae 2 aa (af ?_)
  refine ai (ae 2 aa (gn 37 37 aa aa (fun _=>⟨aa,aa⟩) ?_))
  refine dV (qM F A.ok [gE] (by decide)) rfl rfl rfl rfl ?_
  refine af (iK (bo 4 aa (Ia (coreC F Lf I.top a) aa aa aa aa aa (bo 1 aa ?_))))
  refine eL rfl (r5 (rows:=s.fP.map Core.enc) (ys:=[((G.aW [gE]).core D a).1.enc]) rfl rfl rfl (.bs (rows:=[((G.aW [gE]).core D a).1.enc]) rfl) (bW rfl) (by simp only[bK,cC,dk,dO];omega) ?_)
  refine bo 2 aa (dc ?_)
  refine⟨k,fZ k,⟨s.fP++[((G.aW [gE]).core D a).1],s.ops++[6]⟩,((G.aW [gE]).core D a).2,z,mo Z _,?_,?_,?_,(O.trans A).trans (I.trans g2),?_,?_⟩
  ·rw[bK,eK];omega
  ·rw[bK,eK];omega
  ·omega
  ·exact⟨aa,aa,aa,aa,trivial⟩
  simp only[dT,eB,fy]
  exact gh aa ⟨aa,aa,aa,aa,trivial⟩
 rw[PS.cL J]
 refine ai (ae 1 aa (dV (nB F O.ok tM) aa aa aa aa (ae 1 aa (af ?_))))
 refine aK aa (fun Y=>?_) (fun Y=>?_)
 ·have K:q.op=some (7,(q.keyword tM).2):=by unfold PS.op;rw[aj (by rw[J];decide),aw Y]
  obtain⟨A,U,j0⟩:=O.top.op K
  obtain⟨k,rfl⟩:∃k',k=k'+1:=⟨k-1,by omega⟩
  rw[vm K] at z
  generalize (q.keyword tM).2=G at K A U z⊢
  have I:=A.top.dF [gE]
  have g2:=I.top.core D a
  have ga:=I.aJ
  have gb:=g2.aJ
  refine bG (ae 3 aa ?_)
  refine al (ey (rows:=(s.ops.map (fun i=>[DC.i .i64 i]))) (ys:=[[.i .i64 7]]) rfl rfl rfl (.bs (rows:=[[.i .i64 7]]) rfl) (bW rfl) (by simp only[bK,cC,dk,dO];omega) (fun h=>by rw[h];rfl) (fun h=>by rw[h];rfl) ?_)
  refine ae 2 aa (af ?_)
  refine ai (ae 2 aa (gn 37 37 aa aa (fun _=>⟨aa,aa⟩) ?_))
  refine dV (qM F A.ok [gE] (by decide)) rfl rfl rfl rfl ?_
  refine af (iK (bo 4 aa (Ia (coreC F Lf I.top a) aa aa aa aa aa (bo 1 aa ?_))))
  refine eL rfl (r5 (rows:=s.fP.map Core.enc) (ys:=[((G.aW [gE]).core D a).1.enc]) rfl rfl rfl (.bs (rows:=[((G.aW [gE]).core D a).1.enc]) rfl) (bW rfl) (by simp only[bK,cC,dk,dO];omega) ?_)
  refine bo 2 aa (dc ?_)
  refine⟨k,fZ k,⟨s.fP++[((G.aW [gE]).core D a).1],s.ops++[7]⟩,((G.aW [gE]).core D a).2,z,mo Z _,?_,?_,?_,(O.trans A).trans (I.trans g2),?_,?_⟩
  ·rw[bK,eK];omega
  ·rw[bK,eK];omega
  ·omega
  ·exact⟨aa,aa,aa,aa,trivial⟩
  simp only[dT,eB,fy]
  exact gh aa ⟨aa,aa,aa,aa,trivial⟩
 rw[PS.cL Y]
 refine ai (ae 1 aa (dV (nB F O.ok tq) aa aa aa aa (ae 1 aa (af ?_))))
 refine aK aa (fun Fi=>?_) (fun Fi=>?_)
 ·have K:q.op=some (8,(q.keyword tq).2):=by unfold PS.op;rw[aj (by rw[J];decide),aj (by rw[Y];decide),aw Fi]
  obtain⟨A,U,j0⟩:=O.top.op K
  obtain⟨k,rfl⟩:∃k',k=k'+1:=⟨k-1,by omega⟩
  rw[vm K] at z
  generalize (q.keyword tq).2=G at K A U z⊢
  have I:=A.top.dF [gE]
  have g2:=I.top.core D a
  have ga:=I.aJ
  have gb:=g2.aJ
  refine bG (ae 3 aa ?_)
  refine al (ey (rows:=(s.ops.map (fun i=>[DC.i .i64 i]))) (ys:=[[.i .i64 8]]) rfl rfl rfl (.bs (rows:=[[.i .i64 8]]) rfl) (bW rfl) (by simp only[bK,cC,dk,dO];omega) (fun h=>by rw[h];rfl) (fun h=>by rw[h];rfl) ?_)
  refine ae 2 aa (af ?_)
  refine ai (ae 2 aa (gn 37 37 aa aa (fun _=>⟨aa,aa⟩) ?_))
  refine dV (qM F A.ok [gE] (by decide)) rfl rfl rfl rfl ?_
  refine af (iK (bo 4 aa (Ia (coreC F Lf I.top a) aa aa aa aa aa (bo 1 aa ?_))))
  refine eL rfl (r5 (rows:=s.fP.map Core.enc) (ys:=[((G.aW [gE]).core D a).1.enc]) rfl rfl rfl (.bs (rows:=[((G.aW [gE]).core D a).1.enc]) rfl) (bW rfl) (by simp only[bK,cC,dk,dO];omega) ?_)
  refine bo 2 aa (dc ?_)
  refine⟨k,fZ k,⟨s.fP++[((G.aW [gE]).core D a).1],s.ops++[8]⟩,((G.aW [gE]).core D a).2,z,mo Z _,?_,?_,?_,(O.trans A).trans (I.trans g2),?_,?_⟩
  ·rw[bK,eK];omega
  ·rw[bK,eK];omega
  ·omega
  ·exact⟨aa,aa,aa,aa,trivial⟩
  simp only[dT,eB,fy]
  exact gh aa ⟨aa,aa,aa,aa,trivial⟩
 have K:q.op=none:=by unfold PS.op;rw[aj (by rw[J];decide),aj (by rw[Y];decide),aj (by rw[Fi];decide)]
 rw[BV K] at z
 rw[PS.cL Fi]
 refine ai (ae 1 aa ?_)
 refine gn 11 9 rfl rfl ⟨fun _=>⟨rfl,rfl⟩,fun h=>absurd h (by decide),trivial⟩ ?_
 refine fx 11 1101 aa aa ⟨trivial,fun _=>⟨aa,aa⟩,trivial⟩ (ae 1 aa (af ?_))
 refine ax ?_
 rw[←z]
 unfold jr.enc
 rw[DC.qO (rows:=s.fP.map Core.enc) (by simpa using Z)]
 exact⟨_,PS.bz _,aa,fC aa,aa,aa⟩
set_option maxHeartbeats 4000000 in
theorem Vn{T:bf}(F:FT T){D:Rd}(K:gX T D){p:PS}(hp:bd p):bX T 131 [.vp 1000 0] (PS.bz p) fun r Bn=>r=et (p.query D).1.enc∧Bn=PS.bz (p.query D).2:=by
 refine cr F.Zk aa (ak 1 aa (ak 3 aa (aM (bN (ai (ae 1 aa (dV (nB F hp.ok oh) aa aa aa aa (ae 1 aa (af ?_)))))))))
 refine aK aa (fun h5=>?_) (fun h5=>?_)
 ·obtain⟨m,A⟩:∃m:Int,2=m:=⟨_,rfl⟩
  have O:p.mode=(m,(p.keyword oh).2):=by unfold PS.mode;rw[aw h5,A]
  have U:=hp.kw oh
  generalize (p.keyword oh).2=q at O U⊢
  refine bG (ae 2 aa (af ?_))
  refine ai ?_
  refine ez (PS.bz q++[(3,.one 50 328 [dI 1,dI m,dI (-1),dI 1099511627776,dN,dN,dS [],dS [],dN,d0,d0,dN,d0,dN,dN,dN,dN,dN,d0,d0,d0]),(2,.one 50 328 [d0,d0,d0,d0,dN,dN,dS [],dS [],dN,d0,d0,dN,d0,dN,dN,dN,dN,dN,d0,d0,d0])]) ?_ ?_; · exact gh rfl ⟨by rw[←A];rfl,rfl,trivial⟩
  refine ae 1 aa (dV (wx F K U.top true) aa aa aa aa (ae 2 aa (af ?_)))
  refine aM (ai ?_)
  have J:=U.top.cT D true
  refine ae 1 aa (dV (nB F J.ok jG) aa aa aa aa (af (aK aa (fun z=>?_) (fun z=>?_))))
  ·have G:(q.cT D true).2.gy D=(((q.cT D true).2.keyword jG).2.aW [jX]).day D:=by unfold PS.gy;rw[aw z]
   have Y:=J.top.kw jG
   have Z:=Y.top.dF [jX]
   have I:=J.top.gy D
   rw[G] at I
   refine ai (ae 2 aa (gn 27 27 aa aa (fun _=>⟨aa,aa⟩) ?_))
   refine dV (qM F Y.ok [jX] (by decide)) rfl rfl rfl rfl ?_
   refine af (bG (ae 1 aa (dV (yv F K Z.st) aa aa aa aa (ae 2 aa (af ?_)))))
   refine ai (ae 1 aa (dV (qq F K I.top) aa aa aa aa (ae 2 aa (af ?_))))
   refine ak 2 aa (ax ?_)
   unfold PS.query
   rw[O,G]
   exact⟨_,PS.bz _,aa,fC aa,aa,aa⟩
  have G:(q.cT D true).2.gy D=(-1,(q.cT D true).2):=by unfold PS.gy;rw[aj (by rw[z];decide)]
  rw[PS.cL z]
  have I:=J.top.gy D
  rw[G] at I
  refine aU (ai (ae 1 aa (dV (qq F K I.top) aa aa aa aa (ae 2 aa (af ?_)))))
  refine ak 2 aa (ax ?_)
  unfold PS.query
  rw[O,G]
  exact⟨_,PS.bz _,aa,fC aa,aa,aa⟩
 rw[PS.cL h5]
 refine ai (ae 1 aa (dV (nB F hp.ok og) aa aa aa aa (ae 1 aa (af ?_))))
 refine aK aa (fun h9=>?_) (fun h9=>?_)
 ·obtain⟨m,A⟩:∃m:Int,3=m:=⟨_,rfl⟩
  have O:p.mode=(m,(p.keyword og).2):=by unfold PS.mode;rw[aj (by rw[h5];decide),aw h9,A]
  have U:=hp.kw og
  generalize (p.keyword og).2=q at O U⊢
  refine bG (ae 2 aa (af ?_))
  refine ai ?_
  refine ez (PS.bz q++[(3,.one 50 328 [dI 1,dI m,dI (-1),dI 1099511627776,dN,dN,dS [],dS [],dN,d0,d0,dN,d0,dN,dN,dN,dN,dN,d0,d0,d0]),(2,.one 50 328 [d0,d0,d0,d0,dN,dN,dS [],dS [],dN,d0,d0,dN,d0,dN,dN,dN,dN,dN,d0,d0,d0])]) ?_ ?_; · exact gh rfl ⟨by rw[←A];rfl,rfl,trivial⟩
  refine ae 1 aa (dV (wx F K U.top true) aa aa aa aa (ae 2 aa (af ?_)))
  refine aM (ai ?_)
  have J:=U.top.cT D true
  refine ae 1 aa (dV (nB F J.ok jG) aa aa aa aa (af (aK aa (fun z=>?_) (fun z=>?_))))
  ·have G:(q.cT D true).2.gy D=(((q.cT D true).2.keyword jG).2.aW [jX]).day D:=by unfold PS.gy;rw[aw z]
   have Y:=J.top.kw jG
   have Z:=Y.top.dF [jX]
   have I:=J.top.gy D
   rw[G] at I
   refine ai (ae 2 aa (gn 27 27 aa aa (fun _=>⟨aa,aa⟩) ?_))
   refine dV (qM F Y.ok [jX] (by decide)) rfl rfl rfl rfl ?_
   refine af (bG (ae 1 aa (dV (yv F K Z.st) aa aa aa aa (ae 2 aa (af ?_)))))
   refine ai (ae 1 aa (dV (qq F K I.top) aa aa aa aa (ae 2 aa (af ?_))))
   refine ak 2 aa (ax ?_)
   unfold PS.query
   rw[O,G]
   exact⟨_,PS.bz _,aa,fC aa,aa,aa⟩
  have G:(q.cT D true).2.gy D=(-1,(q.cT D true).2):=by unfold PS.gy;rw[aj (by rw[z];decide)]
  rw[PS.cL z]
  have I:=J.top.gy D
  rw[G] at I
  refine aU (ai (ae 1 aa (dV (qq F K I.top) aa aa aa aa (ae 2 aa (af ?_)))))
  refine ak 2 aa (ax ?_)
  unfold PS.query
  rw[O,G]
  exact⟨_,PS.bz _,aa,fC aa,aa,aa⟩
 rw[PS.cL h9]
 refine ai (ae 1 aa (dV (nB F hp.ok oi) aa aa aa aa (ae 1 aa (af ?_))))
 refine aK aa (fun bJ=>?_) (fun bJ=>?_)
 ·obtain⟨m,A⟩:∃m:Int,4=m:=⟨_,rfl⟩
  have O:p.mode=(m,(p.keyword oi).2):=by unfold PS.mode;rw[aj (by rw[h5];decide),aj (by rw[h9];decide),aw bJ,A]
  have U:=hp.kw oi
  generalize (p.keyword oi).2=q at O U⊢
  refine bG (ae 2 aa (af ?_))
  refine ai ?_
  refine ez (PS.bz q++[(3,.one 50 328 [dI 1,dI m,dI (-1),dI 1099511627776,dN,dN,dS [],dS [],dN,d0,d0,dN,d0,dN,dN,dN,dN,dN,d0,d0,d0]),(2,.one 50 328 [d0,d0,d0,d0,dN,dN,dS [],dS [],dN,d0,d0,dN,d0,dN,dN,dN,dN,dN,d0,d0,d0])]) ?_ ?_; · exact gh rfl ⟨by rw[←A];rfl,rfl,trivial⟩
  refine ae 1 aa (dV (wx F K U.top true) aa aa aa aa (ae 2 aa (af ?_)))
  refine aM (ai ?_)
  have J:=U.top.cT D true
  refine ae 1 aa (dV (nB F J.ok jG) aa aa aa aa (af (aK aa (fun z=>?_) (fun z=>?_))))
  ·have G:(q.cT D true).2.gy D=(((q.cT D true).2.keyword jG).2.aW [jX]).day D:=by unfold PS.gy;rw[aw z]
   have Y:=J.top.kw jG
   have Z:=Y.top.dF [jX]
   have I:=J.top.gy D
   rw[G] at I
   refine ai (ae 2 aa (gn 27 27 aa aa (fun _=>⟨aa,aa⟩) ?_))
   refine dV (qM F Y.ok [jX] (by decide)) rfl rfl rfl rfl ?_
   refine af (bG (ae 1 aa (dV (yv F K Z.st) aa aa aa aa (ae 2 aa (af ?_)))))
   refine ai (ae 1 aa (dV (qq F K I.top) aa aa aa aa (ae 2 aa (af ?_))))
   refine ak 2 aa (ax ?_)
   unfold PS.query
   rw[O,G]
   exact⟨_,PS.bz _,aa,fC aa,aa,aa⟩
  have G:(q.cT D true).2.gy D=(-1,(q.cT D true).2):=by unfold PS.gy;rw[aj (by rw[z];decide)]
  rw[PS.cL z]
  have I:=J.top.gy D
  rw[G] at I
  refine aU (ai (ae 1 aa (dV (qq F K I.top) aa aa aa aa (ae 2 aa (af ?_)))))
  refine ak 2 aa (ax ?_)
  unfold PS.query
  rw[O,G]
  exact⟨_,PS.bz _,aa,fC aa,aa,aa⟩
 rw[PS.cL bJ]
 refine ai (ae 1 aa (dV (nB F hp.ok oe) aa aa aa aa (ae 1 aa (af ?_))))
 refine aK aa (fun vd=>?_) (fun vd=>?_)
 ·obtain⟨m,A⟩:∃m:Int,5=m:=⟨_,rfl⟩
  have O:p.mode=(m,(p.keyword oe).2):=by unfold PS.mode;rw[aj (by rw[h5];decide),aj (by rw[h9];decide),aj (by rw[bJ];decide),aw vd,A]
  have U:=hp.kw oe
  generalize (p.keyword oe).2=q at O U⊢
  refine bG (ae 2 aa (af ?_))
  refine ai ?_
  refine ez (PS.bz q++[(3,.one 50 328 [dI 1,dI m,dI (-1),dI 1099511627776,dN,dN,dS [],dS [],dN,d0,d0,dN,d0,dN,dN,dN,dN,dN,d0,d0,d0]),(2,.one 50 328 [d0,d0,d0,d0,dN,dN,dS [],dS [],dN,d0,d0,dN,d0,dN,dN,dN,dN,dN,d0,d0,d0])]) ?_ ?_; · exact gh rfl ⟨by rw[←A];rfl,rfl,trivial⟩
  refine ae 1 aa (dV (wx F K U.top true) aa aa aa aa (ae 2 aa (af ?_)))
  refine aM (ai ?_)
  have J:=U.top.cT D true
  refine ae 1 aa (dV (nB F J.ok jG) aa aa aa aa (af (aK aa (fun z=>?_) (fun z=>?_))))
  ·have G:(q.cT D true).2.gy D=(((q.cT D true).2.keyword jG).2.aW [jX]).day D:=by unfold PS.gy;rw[aw z]
   have Y:=J.top.kw jG
   have Z:=Y.top.dF [jX]
   have I:=J.top.gy D
   rw[G] at I
   refine ai (ae 2 aa (gn 27 27 aa aa (fun _=>⟨aa,aa⟩) ?_))
   refine dV (qM F Y.ok [jX] (by decide)) rfl rfl rfl rfl ?_
   refine af (bG (ae 1 aa (dV (yv F K Z.st) aa aa aa aa (ae 2 aa (af ?_)))))
   refine ai (ae 1 aa (dV (qq F K I.top) aa aa aa aa (ae 2 aa (af ?_))))
   refine ak 2 aa (ax ?_)
   unfold PS.query
   rw[O,G]
   exact⟨_,PS.bz _,aa,fC aa,aa,aa⟩
  have G:(q.cT D true).2.gy D=(-1,(q.cT D true).2):=by unfold PS.gy;rw[aj (by rw[z];decide)]
  rw[PS.cL z]
  have I:=J.top.gy D
  rw[G] at I
  refine aU (ai (ae 1 aa (dV (qq F K I.top) aa aa aa aa (ae 2 aa (af ?_)))))
  refine ak 2 aa (ax ?_)
  unfold PS.query
  rw[O,G]
  exact⟨_,PS.bz _,aa,fC aa,aa,aa⟩
 rw[PS.cL vd]
 obtain⟨m,A⟩:∃m:Int,1=m:=⟨_,rfl⟩
 obtain⟨q,td⟩:∃q,p=q:=⟨_,rfl⟩
 have O:p.mode=(m,q):=by unfold PS.mode;rw[aj (by rw[h5];decide),aj (by rw[h9];decide),aj (by rw[bJ];decide),aj (by rw[vd];decide),A,td]
 have U:bQ p q:=by rw[←td];exact .refl hp
 refine aU (ai ?_)
 refine ez (PS.bz q++[(3,.one 50 328 [dI 1,dI m,dI (-1),dI 1099511627776,dN,dN,dS [],dS [],dN,d0,d0,dN,d0,dN,dN,dN,dN,dN,d0,d0,d0]),(2,.one 50 328 [d0,d0,d0,d0,dN,dN,dS [],dS [],dN,d0,d0,dN,d0,dN,dN,dN,dN,dN,d0,d0,d0])]) ?_ ?_; · exact gh (by rw[←td];rfl) ⟨by rw[←A];rfl,rfl,trivial⟩
 refine ae 1 aa (dV (wx F K U.top true) aa aa aa aa (ae 2 aa (af ?_)))
 refine aM (ai ?_)
 have J:=U.top.cT D true
 refine ae 1 aa (dV (nB F J.ok jG) aa aa aa aa (af (aK aa (fun z=>?_) (fun z=>?_))))
 ·have G:(q.cT D true).2.gy D=(((q.cT D true).2.keyword jG).2.aW [jX]).day D:=by unfold PS.gy;rw[aw z]
  have Y:=J.top.kw jG
  have Z:=Y.top.dF [jX]
  have I:=J.top.gy D
  rw[G] at I
  refine ai (ae 2 aa (gn 27 27 aa aa (fun _=>⟨aa,aa⟩) ?_))
  refine dV (qM F Y.ok [jX] (by decide)) rfl rfl rfl rfl ?_
  refine af (bG (ae 1 aa (dV (yv F K Z.st) aa aa aa aa (ae 2 aa (af ?_)))))
  refine ai (ae 1 aa (dV (qq F K I.top) aa aa aa aa (ae 2 aa (af ?_))))
  refine ak 2 aa (ax ?_)
  unfold PS.query
  rw[O,G]
  exact⟨_,PS.bz _,aa,fC aa,aa,aa⟩
 have G:(q.cT D true).2.gy D=(-1,(q.cT D true).2):=by unfold PS.gy;rw[aj (by rw[z];decide)]
 rw[PS.cL z]
 have I:=J.top.gy D
 rw[G] at I
 refine aU (ai (ae 1 aa (dV (qq F K I.top) aa aa aa aa (ae 2 aa (af ?_)))))
 refine ak 2 aa (ax ?_)
 unfold PS.query
 rw[O,G]
 exact⟨_,PS.bz _,aa,fC aa,aa,aa⟩
set_option maxHeartbeats 2000000 in
theorem Wq{T:bf}(F:FT T){D:Rd}(z:gX T D){p:PS}(hp:bd p):bX T 127 [.vp 1000 0] (PS.bz p) fun r Bn=>r=et (p.qB D).1.enc∧Bn=PS.bz (p.qB D).2:=by
 refine cr F.Zi aa (ak 1 aa (ai (ae 1 aa (dV (wx F z hp false) aa aa aa aa (ae 3 aa (af ?_))))))
 refine ai (ae 2 aa (gn 8 8 aa aa (fun _=>⟨aa,aa⟩) ?_))
 refine dV (qM F (hp.cT D false).ok [jG,jX] (by decide)) rfl rfl rfl rfl ?_
 refine af (ai (ae 1 aa (dV (yv F z (hp.ri D).st) aa aa aa aa (ae 2 aa (af ?_)))))
 refine ai (ae 1 aa (dV (qq F z ((hp.ri D).top.day D).top) aa aa aa aa (ae 2 aa (af ?_))))
 exact ak 2 aa (ax (⟨_,PS.bz (p.qB D).2,aa,fC aa,aa,aa⟩))
set_option maxHeartbeats 2000000 in
theorem Ws{T:bf}(F:FT T){D:Rd}(A:gX T D){p:PS}(hp:bd p):bX T 128 [.vp 1000 0] (PS.bi p) fun r Bn=>r=et p.hold.1.enc∧Bn=PS.bi p.hold.2:=by
 refine cr F.Zj aa (ak 1 aa (ai (ae 1 aa (bj (number F A hp.st (-1)) aa aa aa aa aa (ae 3 aa (af ?_))))))
 refine ai (ae 2 aa (gn 8 8 aa aa (fun _=>⟨aa,aa⟩) ?_))
 refine bj (aW F (hp.number _).ok [hY] (by decide)) rfl rfl rfl rfl rfl ?_
 refine af (ai (ae 1 aa (bj (number F A hp.lW.st (-1)) aa aa aa aa aa (ae 3 aa (af ?_)))))
 refine ai (ae 2 aa (gn 15 15 aa aa (fun _=>⟨aa,aa⟩) ?_))
 refine bj (aW F (hp.lW.top.number _).ok [IM] (by decide)) rfl rfl rfl rfl rfl ?_
 refine af (aM (ai (ae 1 aa (bj (keyword F hp.mq.ok xx) aa aa aa aa aa (af (aK aa (fun z=>?_) (fun z=>?_)))))))
 ·have G:p.pS=(1099511627776,(p.mq.keyword xx).2):=by unfold PS.pS;rw[aw z]
  refine bG (ae 3 aa (af ?_))
  refine ak 2 aa (ax ?_)
  unfold PS.hold
  rw[G]
  exact⟨_,PS.bi _,aa,cI aa aa,aa,aa⟩
 have G:p.pS=p.mq.number (p.lW.number (-1)).1:=by unfold PS.pS;rw[aj (by rw[z];decide)]
 rw[PS.cL z]
 refine bG (ae 4 aa (bj (number F A hp.mq.st (p.lW.number (-1)).1) aa aa aa aa aa (ae 3 aa (af ?_))))
 refine ak 2 aa (ax ?_)
 unfold PS.hold
 rw[G]
 exact⟨_,PS.bi _,aa,cI aa aa,aa,aa⟩
end Go.Ev.Pp
