/- Part 20 of rules for walks through the code of a program, and of such walks; what each part proves is said by its theorems. -/
import Derived.Test.YtijnechfhdlgiaaGreatDoorS19
set_option linter.unusedVariables false
set_option linter.unusedSimpArgs false
noncomputable section
set_option maxRecDepth 100000
set_option maxHeartbeats 4000000
namespace Go.Ev.Pp
open Go
theorem MX(q:PS)(K:q.ok)(a:Bool):q.gJ.2.mn a=q.dU.2.mn a∧(q.dU.2.err=0→q.dU=q.gJ)∧q.gJ.2.err=q.dU.2.err∧q.gJ.2.aO=q.dU.2.aO:=by
 by_cases h0:q.err=0
 ·by_cases hk:q.tok.kind=2
  ·have z:q.kL=q:=by unfold PS.kL;rw[al (fun k=>k.2 hk)]
   have h2:q.dU=q.gJ:=by unfold PS.dU;rw[z,al (by simpa using h0)]
   rw[h2];exact⟨rfl,fun _=>rfl,rfl,rfl⟩
  have z:q.kL=q.fail 5:=by unfold PS.kL;rw[az ⟨h0,hk⟩]
  have A:(q.fail 5).err=5:=wP h0
  have h2:q.dU=(0,q.fail 5):=by unfold PS.dU;rw[z,az (by rw[A];decide)]
  have G:q.name=([],q.fail 5):=by unfold PS.name PS.take;rw[az h0,al hk]
  have I:((q.fail 5).sign jJ).1=false:=by rw[show(q.fail 5).sign jJ=_ from sY (by rw[A];decide) 5 jJ]
  have J:q.gJ=(q.fail 5).push ⟨2,0,0,[],[],cI⟩:=by unfold PS.gJ;rw[G,al (by rw[I];decide)]
  rw[h2,J];exact⟨rfl,fun h=>absurd (A.symm.trans h) aq,rfl,rfl⟩
 have z:q.kL=q:=by unfold PS.kL;rw[al (fun k=>h0 k.1)]
 have h2:q.dU=(0,q):=by unfold PS.dU;rw[z,az h0]
 have G:q.name=([],q):=by unfold PS.name PS.take;rw[al h0]
 have I:(q.sign jJ).1=false:=by rw[show q.sign jJ=_ from sY h0 5 jJ]
 have J:q.gJ=q.push ⟨2,0,0,[],[],cI⟩:=by unfold PS.gJ;rw[G,al (by rw[I];decide)]
 rw[h2,J];exact⟨rfl,fun h=>absurd h h0,rfl,rfl⟩
theorem EG.dU{q:PS}{e:List aT}{N:Nat}(z:q.ok)(h:EG q.gJ.2 e N):EG q.dU.2 e N:=by
 obtain⟨_,h2,A,G⟩:=MX q z true
 exact⟨fun h0=>by rw[h2 h0];exact h.eq (by rw[A];exact h0),by rw[←G];exact h.len⟩
theorem Vj{p:PS}(h:¬p.err=0):p.join=none:=by
 unfold PS.join
 simp only[show∀s,p.keyword s=(false,p) from fun s=>sY h 1 s]
 rfl
theorem Xx{p:PS}(h:¬p.err=0):p.op=none:=by
 unfold PS.op
 simp only[show∀s,p.keyword s=(false,p) from fun s=>sY h 1 s]
 rfl
theorem Vk{p:PS}(h:¬p.err=0)(s:List UInt8):p.sign s=(false,p):=sY h 5 s
theorem Hw(p:PS)(b:Bool):(p.source b).2.ex=p.ex:=(wR ..).trans (rf ..)
section
variable{T:bd}{VE:cj}{B:bw}
def uC(k:Nat):List (Nat×Nat):=[(1000,1000),(1001,k),(1050,1050),(1051,1051)]
theorem PW{f:Nat}{d:Key}{O:Option (List Nat)}{J:List bA}{l:List aI}{cm:List VV}{a dd:Bool}{p K:PS}{e:List aT}{cF:List Item}{G:List aT→Item→Prop}{Q:cj→bw→Prop}(k:Nat)(h:cg T f cm (p.ib a dd e cF) fun r Bn=>∃z A,r= .tuple []∧Bn=K.ib a dd z (cF++[A])∧G z A)
  (U:pb 2000 (uC k)=true) (Y:rF (uC k) 2000 (p.ib a dd e cF) B) (Z:jv VE l=some (jh (uC k) 2000 cm)) (hi:zR (uC k) (p.ib a dd e cF)=true)
  (hc:(lz 2000 (lH 1050 VE VE)&&(lA 2000 B&&clean (lH 1050 VE VE) (fg (uC k) B) (uC k)))=true) (hq:∀z A,G z A→VO T J ((d.n,.tuple [])::lH 1050 VE VE) (nA (uC k) 2000 (K.ib a dd z (cF++[A]))++fg (uC k) B) Q):VO T (⟨some d,none,O,.call f l⟩::J) VE B Q:=by
 obtain⟨a1,I⟩:=iX hc
 obtain⟨I,a3⟩:=iX I
 exact td (Bi:=p.ib a dd e cF) 1050 (uC k) 2000 rfl U a1 I hi a3 Z Y h fun r Bn hp=>by
  obtain⟨z,A,rfl,rfl,h5⟩:=hp
  exact hq z A h5
end
theorem FH{T:bd}(F:FT T){D:Rd}(Lq:kM T D){a:Bool}{p:PS}(hp:bk p):cg T 162 [.vp 1000 0] (PS.bq a p) fun r Bn=>(∃c:Core,r=eU c.enc∧((p.core D a).2.err=0→c=(p.core D a).1))∧Bn=PS.bq a (p.core D a).2:=by
 refine cL F.abR aa (eZ (PS.bq a {p with ex:=[]}) ⟨aa,trivial⟩ ?_)
 have h0:b8 {p with ex:=[]} {p with ex:=[]}:=.refl hp.nil.top
 have jC:b8 {p with ex:=[]} p.jk:=h0.trans (h0.top.d6 [Bu])
 have U:b8 {p with ex:=[]} p.fU:=jC.trans (jC.top.kw jE)
 have hz:EG {p with ex:=[]} [] 0:=⟨fun _=>rfl,dp _⟩
 have GJ:EG p.fU [] 0:=hz.go2 U (by unfold PS.fU;rw[mQ];exact qa)
 refine an 1 aa (an 3 aa (ai (ae 1 aa (bV (jx F h0.ok Bu) aa aa aa aa (aX (ai (ae 1 aa (bV (gn F jC.ok jE) aa aa aa aa ?_))))))))
 obtain⟨d,hd⟩:∃d,(p.jk.keyword jE).1=d:=⟨_,rfl⟩
 rw[hd]
 refine ak 2 aa (ri (fun VE B=>∃(q:PS)(e1:List aT)(cF:List Item),(p.fU.items D).2=q∧(q.err=0→cF=(p.fU.items D).1)∧b8 {p with ex:=[]} q∧EG q e1 1000∧bn [(0,.vp 1000 0),(2,.vp 2 0),(3,.vp 3 0)] VE∧bn (PS.bq a q++[(3,.one 106 120 [dB d,.ac 1050 (e1.map aT.enc).length 8,.ac 1051 (cF.map Item.enc).length 3,dN,dI (-1),dB false,dN]),(1050,.acc 142 88 8 (e1.map aT.enc)),(1051,.acc 167 32 3 (cF.map Item.enc)),(2,.one 106 120 [dB false,dN,dN,dN,d0,dB false,dN])]) B) ?_ ?_)
 ·rintro VE B⟨q,e1,cF,hq2,GM,A,Y,hV,K⟩
  refine eZ (PS.bq a q++[(3,.one 106 120 [dB d,.ac 1050 (e1.map aT.enc).length 8,.ac 1051 (cF.map Item.enc).length 3,dN,dI (-1),dB false,dN]),(1050,.acc 142 88 8 (e1.map aT.enc)),(1051,.acc 167 32 3 (cF.map Item.enc)),(2,.one 106 120 [dB false,dN,dN,dN,d0,dB false,dN])]) K ?_
  have K:bn (PS.bq a q++[(3,.one 106 120 [dB d,.ac 1050 (e1.map aT.enc).length 8,.ac 1051 (cF.map Item.enc).length 3,dN,dI (-1),dB false,dN]),(1050,.acc 142 88 8 (e1.map aT.enc)),(1051,.acc 167 32 3 (cF.map Item.enc)),(2,.one 106 120 [dB false,dN,dN,dN,d0,dB false,dN])]) (PS.bq a q++[(3,.one 106 120 [dB d,.ac 1050 (e1.map aT.enc).length 8,.ac 1051 (cF.map Item.enc).length 3,dN,dI (-1),dB false,dN]),(1050,.acc 142 88 8 (e1.map aT.enc)),(1051,.acc 167 32 3 (cF.map Item.enc)),(2,.one 106 120 [dB false,dN,dN,dN,d0,dB false,dN])]):=cU rfl ⟨rfl,rfl,rfl,rfl,trivial⟩
  subst hq2
  have Kf:b8 {p with ex:=[]} (p.f5 D):=A.trans (A.top.d6 [iO])
  have RA:EG (p.f5 D) e1 1000:=Y.go2 (A.top.d6 [iO]) qa
  have ac5:=(A.top.d6 [iO]).er
  replace GM:(p.f5 D).err=0→cF=(p.fU.items D).1:=fun h0=>GM (ac5 h0)
  refine db _ _ hV K (ai (ae 1 aa (bV (jx F A.ok iO) aa aa aa aa (nH 3 3 1052 169 48 4 aa aa aa (aX (eO (bD 3 aa (Am (Ia F Kf.top true) aa aa aa aa aa (bD 1 aa ?_)))))))))
  refine dy rfl (eD (rows:=[]) (ys:=[((p.f5 D).source a).1.enc]) rfl rfl rfl (.bs (rows:=[((p.f5 D).source a).1.enc]) rfl) (b0 rfl) (by simp only[bE,cV,dL];omega) (fun h=>rfl) (fun h=>rfl) ?_)
  refine du 2 aa (ri (fun VE B=>∃(q:PS)(e1:List aT)(src:List Src),(p.jw D a)=q∧(q.err=0→src=((p.f5 D).kv D a).1)∧src.length≤3000∧b8 (p.f5 D) q∧EG q e1 2000∧bn [(0,.vp 1000 0),(2,.vp 2 0),(3,.vp 3 0)] VE∧bn (PS.bq a q++[(3,.one 106 120 [dB d,.ac 1050 (e1.map aT.enc).length 8,.ac 1051 (cF.map Item.enc).length 3,.ac 1052 (src.map Src.enc).length 4,dI (-1),dB false,dN]),(1050,.acc 142 88 8 (e1.map aT.enc)),(1051,.acc 167 32 3 (cF.map Item.enc)),(1052,.acc 169 48 4 (src.map Src.enc)),(2,.one 106 120 [dB false,dN,dN,dN,d0,dB false,dN])]) B) ?_ ?_)
  ·rintro VE B⟨q,e1,src,hq4,RB,rJ,A,Y,hV,K⟩
   refine eZ (PS.bq a q++[(3,.one 106 120 [dB d,.ac 1050 (e1.map aT.enc).length 8,.ac 1051 (cF.map Item.enc).length 3,.ac 1052 (src.map Src.enc).length 4,dI (-1),dB false,dN]),(1050,.acc 142 88 8 (e1.map aT.enc)),(1051,.acc 167 32 3 (cF.map Item.enc)),(1052,.acc 169 48 4 (src.map Src.enc)),(2,.one 106 120 [dB false,dN,dN,dN,d0,dB false,dN])]) K ?_
   have K:bn (PS.bq a q++[(3,.one 106 120 [dB d,.ac 1050 (e1.map aT.enc).length 8,.ac 1051 (cF.map Item.enc).length 3,.ac 1052 (src.map Src.enc).length 4,dI (-1),dB false,dN]),(1050,.acc 142 88 8 (e1.map aT.enc)),(1051,.acc 167 32 3 (cF.map Item.enc)),(1052,.acc 169 48 4 (src.map Src.enc)),(2,.one 106 120 [dB false,dN,dN,dN,d0,dB false,dN])]) (PS.bq a q++[(3,.one 106 120 [dB d,.ac 1050 (e1.map aT.enc).length 8,.ac 1051 (cF.map Item.enc).length 3,.ac 1052 (src.map Src.enc).length 4,dI (-1),dB false,dN]),(1050,.acc 142 88 8 (e1.map aT.enc)),(1051,.acc 167 32 3 (cF.map Item.enc)),(1052,.acc 169 48 4 (src.map Src.enc)),(2,.one 106 120 [dB false,dN,dN,dN,d0,dB false,dN])]):=cU rfl ⟨rfl,rfl,rfl,rfl,rfl,trivial⟩
   subst hq4
   refine db _ _ hV K (ri (fun VE B=>∃(q:PS)(e1:List aT)(w:Int),(p.dZ D a)=q∧(q.err=0→w=((p.jw D a).eF D).1)∧b8 (p.jw D a) q∧EG q e1 3000∧bn [(0,.vp 1000 0),(2,.vp 2 0),(3,.vp 3 0)] VE∧bn (PS.bq a q++[(3,.one 106 120 [dB d,.ac 1050 (e1.map aT.enc).length 8,.ac 1051 (cF.map Item.enc).length 3,.ac 1052 (src.map Src.enc).length 4,dI w,dB false,dN]),(1050,.acc 142 88 8 (e1.map aT.enc)),(1051,.acc 167 32 3 (cF.map Item.enc)),(1052,.acc 169 48 4 (src.map Src.enc)),(2,.one 106 120 [dB false,dN,dN,dN,d0,dB false,dN])]) B) ?_ ?_)
   ·rintro VE B⟨q,e1,w,hq5,hw,CM,Y,hV,K⟩
    refine eZ (PS.bq a q++[(3,.one 106 120 [dB d,.ac 1050 (e1.map aT.enc).length 8,.ac 1051 (cF.map Item.enc).length 3,.ac 1052 (src.map Src.enc).length 4,dI w,dB false,dN]),(1050,.acc 142 88 8 (e1.map aT.enc)),(1051,.acc 167 32 3 (cF.map Item.enc)),(1052,.acc 169 48 4 (src.map Src.enc)),(2,.one 106 120 [dB false,dN,dN,dN,d0,dB false,dN])]) K ?_
    have K:bn (PS.bq a q++[(3,.one 106 120 [dB d,.ac 1050 (e1.map aT.enc).length 8,.ac 1051 (cF.map Item.enc).length 3,.ac 1052 (src.map Src.enc).length 4,dI w,dB false,dN]),(1050,.acc 142 88 8 (e1.map aT.enc)),(1051,.acc 167 32 3 (cF.map Item.enc)),(1052,.acc 169 48 4 (src.map Src.enc)),(2,.one 106 120 [dB false,dN,dN,dN,d0,dB false,dN])]) (PS.bq a q++[(3,.one 106 120 [dB d,.ac 1050 (e1.map aT.enc).length 8,.ac 1051 (cF.map Item.enc).length 3,.ac 1052 (src.map Src.enc).length 4,dI w,dB false,dN]),(1050,.acc 142 88 8 (e1.map aT.enc)),(1051,.acc 167 32 3 (cF.map Item.enc)),(1052,.acc 169 48 4 (src.map Src.enc)),(2,.one 106 120 [dB false,dN,dN,dN,d0,dB false,dN])]):=cU rfl ⟨rfl,rfl,rfl,rfl,rfl,trivial⟩
    subst hq5
    refine db _ _ hV K (aL (ai (ae 1 aa (bV (gn F CM.ok gS) aa aa aa aa (aX (aK aa (fun rM=>?_) (fun rM=>?_)))))))
    ·have Dl:(p.dZ D a).group=((true,(jG PS.dU (((p.dZ D a).keyword gS).2.bc [hJ])).1),(jG PS.dU (((p.dZ D a).keyword gS).2.bc [hJ])).2):=by unfold PS.group;rw[az rM]
     have Kg:=CM.top.kw gS
     have hG:=Kg.trans (Kg.top.d6 [hJ])
     have RC:EG (((p.dZ D a).keyword gS).2.bc [hJ]) e1 4000:=(Y.go2 hG (by rw[qa,mQ])).dW ah
     refine ai (ae 1 aa (bV (jx F Kg.ok hJ) aa aa aa aa (nH 3 6 1053 3 8 1 aa aa aa (aX (an 2 aa (bM (d7 (fun k VE B=>∃(l:List Int)(q:PS)(e1:List aT)(gs:List Int),lg PS.dU k (l++[q.dU.1]) q.dU.2=jG PS.dU (((p.dZ D a).keyword gS).2.bc [hJ])∧gs.length=l.length∧(q.err=0→gs=l)∧l.length≤q.aO+1∧(((p.dZ D a).keyword gS).2.bc [hJ]).aF.length≤k+q.aO∧b8 (((p.dZ D a).keyword gS).2.bc [hJ]) q∧EG q e1 4000∧bn [(0,.vp 1000 0),(2,.vp 2 0),(3,.vp 3 0)] VE∧bn (PS.bq a q++[(3,.one 106 120 [dB d,.ac 1050 (e1.map aT.enc).length 8,.ac 1051 (cF.map Item.enc).length 3,.ac 1052 (src.map Src.enc).length 4,dI w,dB true,.ac 1053 (gs.map (fun i=>[DC.i .i64 i])).length 1]),(1050,.acc 142 88 8 (e1.map aT.enc)),(1051,.acc 167 32 3 (cF.map Item.enc)),(1052,.acc 169 48 4 (src.map Src.enc)),(1053,.acc 3 8 1 (gs.map (fun i=>[DC.i .i64 i]))),(2,.one 106 120 [dB false,dN,dN,dN,d0,dB false,dN])]) B) ?_ (k:=(((p.dZ D a).keyword gS).2.bc [hJ]).aF.length) ⟨[],(((p.dZ D a).keyword gS).2.bc [hJ]),e1,[],aa,aa,fun _=>aa,dp _,ku _ _,.refl hG.top,RC,⟨aa,aa,aa,trivial⟩,cU aa ⟨aa,aa,aa,aa,aa,aa,trivial⟩⟩)))))))
     clear Y RC
     rintro k VE B⟨l,q,e1,gs,z,RD,uv,jM,hk,Z,Y,hV,K⟩
     refine eZ (PS.bq a q++[(3,.one 106 120 [dB d,.ac 1050 (e1.map aT.enc).length 8,.ac 1051 (cF.map Item.enc).length 3,.ac 1052 (src.map Src.enc).length 4,dI w,dB true,.ac 1053 (gs.map (fun i=>[DC.i .i64 i])).length 1]),(1050,.acc 142 88 8 (e1.map aT.enc)),(1051,.acc 167 32 3 (cF.map Item.enc)),(1052,.acc 169 48 4 (src.map Src.enc)),(1053,.acc 3 8 1 (gs.map (fun i=>[DC.i .i64 i]))),(2,.one 106 120 [dB false,dN,dN,dN,d0,dB false,dN])]) K ?_
     have K:bn (PS.bq a q++[(3,.one 106 120 [dB d,.ac 1050 (e1.map aT.enc).length 8,.ac 1051 (cF.map Item.enc).length 3,.ac 1052 (src.map Src.enc).length 4,dI w,dB true,.ac 1053 (gs.map (fun i=>[DC.i .i64 i])).length 1]),(1050,.acc 142 88 8 (e1.map aT.enc)),(1051,.acc 167 32 3 (cF.map Item.enc)),(1052,.acc 169 48 4 (src.map Src.enc)),(1053,.acc 3 8 1 (gs.map (fun i=>[DC.i .i64 i]))),(2,.one 106 120 [dB false,dN,dN,dN,d0,dB false,dN])]) (PS.bq a q++[(3,.one 106 120 [dB d,.ac 1050 (e1.map aT.enc).length 8,.ac 1051 (cF.map Item.enc).length 3,.ac 1052 (src.map Src.enc).length 4,dI w,dB true,.ac 1053 (gs.map (fun i=>[DC.i .i64 i])).length 1]),(1050,.acc 142 88 8 (e1.map aT.enc)),(1051,.acc 167 32 3 (cF.map Item.enc)),(1052,.acc 169 48 4 (src.map Src.enc)),(1053,.acc 3 8 1 (gs.map (fun i=>[DC.i .i64 i]))),(2,.one 106 120 [dB false,dN,dN,dN,d0,dB false,dN])]):=cU rfl ⟨rfl,rfl,rfl,rfl,rfl,rfl,trivial⟩
     have gM:q.aF.length=(((p.dZ D a).keyword gS).2.bc [hJ]).aF.length:=by rw[Z.aF]
     have fZ:=Z.ok.eG
     have Ao:=Z.ok.lt
     obtain⟨c1,c2,c3,c4⟩:=MX q Z.ok a
     have I:=Z.top.dU
     refine db _ _ hV K (bM (ai (ae 3 aa (jX 3 1 aa aa (eX (PS.bq a q++[(3,.one 106 120 [dB d,.undef,.ac 1051 (cF.map Item.enc).length 3,.ac 1052 (src.map Src.enc).length 4,dI w,dB true,.ac 1053 (gs.map (fun i=>[DC.i .i64 i])).length 1]),(1050,.acc 142 88 8 (e1.map aT.enc)),(1051,.acc 167 32 3 (cF.map Item.enc)),(1052,.acc 169 48 4 (src.map Src.enc)),(1053,.acc 3 8 1 (gs.map (fun i=>[DC.i .i64 i]))),(2,.one 106 120 [dB false,dN,dN,dN,d0,dB false,dN])]) (cU aa ⟨aa,aa,aa,aa,aa,aa,trivial⟩) (jQ (NG F a q e1 4000 Z.st trivial Y ah) aa aa aa aa (fun e2 g2=>?_)))))))
     have Dm:EG q.dU.2 e2 4001:=g2.dU Z.ok
     have p9:=Dm.small I.ok ah
     have hvz:(((e2.map aT.enc).length:Nat):Int) -Int.ofNat 1=(((e2.map aT.enc).length:Nat):Int) -Int.ofNat 1:=rfl
     refine eX (PS.bq a q.dU.2++[(3,.one 106 120 [dB d,.undef,.ac 1051 (cF.map Item.enc).length 3,.ac 1052 (src.map Src.enc).length 4,dI w,dB true,.ac 1053 (gs.map (fun i=>[DC.i .i64 i])).length 1]),(1050,.acc 142 88 8 (e2.map aT.enc)),(1051,.acc 167 32 3 (cF.map Item.enc)),(1052,.acc 169 48 4 (src.map Src.enc)),(1053,.acc 3 8 1 (gs.map (fun i=>[DC.i .i64 i]))),(2,.one 106 120 [dB false,dN,dN,dN,d0,dB false,dN])]) (cU (by rw[←c1];rfl) ⟨rfl,rfl,rfl,rfl,rfl,rfl,trivial⟩) ?_
     refine ak 2 aa (ai (ae 5 aa ?_))
     refine aj (f3 rfl rfl (by simp only[ca,bN];omega) (by simp only[ca,bN];omega) ?_)
     obtain⟨v,hv⟩:∃v:Int,(((e2.map aT.enc).length:Nat):Int) -Int.ofNat 1=v:=⟨_,rfl⟩
     rw[hv]
     have RE:q.dU.2.err=0→v=q.dU.1:=fun h0=>hv.symm.trans (qm (by rw[c2 h0,(g2.eq (by rw[c3];exact h0))];exact KF q))
     refine ae 1 aa ?_
     refine aj (eD (rows:=gs.map (fun i=>[DC.i .i64 i])) (ys:=[[.i .i64 v]]) rfl rfl rfl (.bs (rows:=[[.i .i64 v]]) rfl) (b0 rfl) (by rw[bE,ca];simp only[cV,dL];omega) (fun h=>by rw[h];rfl) (fun h=>by rw[h];rfl) ?_)
     refine ak 2 aa (ai (ae 1 aa (bV (m7 F I.ok cT) aa aa aa aa (ak 1 aa (aK aa (fun Dn=>?_) (fun Dn=>?_))))))
     ·have p':(q.dU.2.sign cT).1=false:=by simpa using Dn
      rw[PS.iS p']
      rw[pD p'] at z
      have GN:(p.dZ D a).group=((true,l++[q.dU.1]),q.dU.2):=by rw[Dl,←z]
      have PX:EG (p.dZ D a).group.2 e2 4001∧b8 (p.dZ D a) (p.dZ D a).group.2:=by rw[GN];exact⟨Dm,(hG.trans Z).trans I⟩
      refine dJ (ai (ae 1 aa (fN 99 1050 aa aa fJ (fN 99 1051 aa aa fJ (fN 99 1052 aa aa fJ (fN 99 1053 aa aa fJ (ak 1 aa (ay ?_))))))))
      have hc:(p.core D a).1=⟨(p.jk.keyword jE).1,(p.dZ D a).group.2.ex,(p.fU.items D).1,((p.f5 D).kv D a).1,((p.jw D a).eF D).1,(p.dZ D a).group.1.1,(p.dZ D a).group.1.2⟩:=rfl
      exact⟨_,PS.bq a q.dU.2,rfl,⟨rfl,trivial⟩,⟨⟨d,e2,cF,src,w,true,gs++[v]⟩,by simp only[Core.enc,dx,e7,gj];rfl,fun h0=>by
       have h5:=PX.2.er h0
       have h4:=CM.er h5
       have h3:=A.er h4
       have hz:q.dU.2.err=0:=by
        have h1:((p.dZ D a).group).2.err=0:=h0
        rw[GN] at h1;exact h1
       rw[hc,hd,←GM h3,←RB h4,←hw h5,←PX.1.eq h0,GN,RE hz,uv (I.er hz)]⟩,by show _=PS.bq a (p.dZ D a).group.2;rw[GN]⟩
     have p':(q.dU.2.sign cT).1=true:=by simpa using Dn
     have J:=(ru p').1
     have p6:=pB I.ok p'
     obtain⟨k,rfl⟩:∃k',k=k'+1:=⟨k-1,by have:=p6.2;have:=I.aF;omega⟩
     rw[pC p'] at z
     have hgct:q.dU.2.aF.length=q.aF.length:=by rw[I.aF]
     refine aQ (⟨k,gG k,l++[q.dU.1],(q.dU.2.sign cT).2,e2,gs++[v],z,?_,?_,?_,?_,(Z.trans I).trans (I.top.sign cT),(Dm.zero I.ok J).kV (bO.zT I.st cT) (pE ..)|>.dW ah,⟨aa,aa,aa,trivial⟩,?_⟩)
     ·rw[bE,bE,RD];rfl
     ·intro _;rw[RE J,uv (I.er J)]
     ·have:=I.aO;rw[bE,dY];omega
     ·have:=I.aO;omega
     rw[dx];exact cU rfl ⟨rfl,rfl,rfl,rfl,rfl,rfl,trivial⟩
    have Dl:(p.dZ D a).group=((false,[]),p.dZ D a):=by unfold PS.group;rw[al (by rw[rM];decide)]
    rw[PS.da rM]
    have z:EG (p.dZ D a).group.2 e1 4000∧b8 (p.dZ D a) (p.dZ D a).group.2:=by rw[Dl];exact⟨Y.dW ah,.refl CM.top⟩
    refine aQ (ai (ae 1 aa (fN 99 1050 aa aa fJ (fN 99 1051 aa aa fJ (fN 99 1052 aa aa fJ (ak 1 aa (ay ?_)))))))
    have hc:(p.core D a).1=⟨(p.jk.keyword jE).1,(p.dZ D a).group.2.ex,(p.fU.items D).1,((p.f5 D).kv D a).1,((p.jw D a).eF D).1,(p.dZ D a).group.1.1,(p.dZ D a).group.1.2⟩:=rfl
    exact⟨_,PS.bq a (p.dZ D a),rfl,⟨rfl,trivial⟩,⟨⟨d,e1,cF,src,w,false,[]⟩,rfl,fun h0=>by
     have h5:=z.2.er h0
     have h4:=CM.er h5
     have h3:=A.er h4
     rw[hc,hd,←GM h3,←RB h4,←hw h5,←z.1.eq h0,Dl]⟩,by show _=PS.bq a (p.dZ D a).group.2;rw[Dl]⟩
   refine ai (ae 1 aa (bV (gn F A.ok kt) aa aa aa aa (aX (aK aa (fun wv=>?_) (fun wv=>?_)))))
   ·refine ai (ae 3 aa (jX 3 1 aa aa (eX (PS.bq a ((p.jw D a).keyword kt).2++[(3,.one 106 120 [dB d,.undef,.ac 1051 (cF.map Item.enc).length 3,.ac 1052 (src.map Src.enc).length 4,dI (-1),dB false,dN]),(1050,.acc 142 88 8 (e1.map aT.enc)),(1051,.acc 167 32 3 (cF.map Item.enc)),(1052,.acc 169 48 4 (src.map Src.enc)),(2,.one 106 120 [dB false,dN,dN,dN,d0,dB false,dN])]) (cU aa ⟨aa,aa,aa,aa,aa,trivial⟩) (jQ (vh F Lq (A.top.kw kt).top (Y.go2 (A.top.kw kt) (mQ ..)) ah) aa aa aa aa (fun e2 g2=>?_)))))
    have p9:=g2.small ((A.top.kw kt).trans ((A.top.kw kt).top.expr D)).ok ah
    refine ak 2 aa (bC (ae 3 aa ?_))
    refine aj (f3 rfl rfl (by simp only[ca,bN];omega) (by simp only[ca,bN];omega) ?_)
    obtain⟨v,hv⟩:∃v:Int,(((e2.map aT.enc).length:Nat):Int) -Int.ofNat 1=v:=⟨_,rfl⟩
    rw[hv]
    refine ak 2 aa ?_
    exact⟨_,e2,v,by unfold PS.dZ PS.eF;rw[az wv],fun h0=>by unfold PS.eF;rw[az wv];exact hv.symm.trans (rS (A.top.kw kt).top g2 h0),(A.top.kw kt).trans ((A.top.kw kt).top.expr D),g2.dW ah,⟨rfl,rfl,rfl,trivial⟩,cU rfl ⟨rfl,rfl,rfl,rfl,rfl,trivial⟩⟩
   rw[PS.da wv]
   refine aQ ?_
   exact⟨_,e1, -1,by unfold PS.dZ PS.eF;rw[al (by rw[wv];decide)],fun h0=>by unfold PS.eF;rw[al (by rw[wv];decide)],.refl A.top,Y.dW ah,⟨rfl,rfl,rfl,trivial⟩,cU rfl ⟨rfl,rfl,rfl,rfl,rfl,trivial⟩⟩
  refine bM (d7 (fun k VE B=>∃(l:List Src)(q:PS)(e1:List aT)(src:List Src),pK D k l q=(p.f5 D).kv D a∧src.length=l.length∧(q.err=0→src=l)∧l.length≤q.aO+1∧(p.f5 D).aF.length≤k+q.aO∧b8 (p.f5 D) q∧EG q e1 2000∧bn [(0,.vp 1000 0),(2,.vp 2 0),(3,.vp 3 0)] VE∧bn (PS.bq a q++[(3,.one 106 120 [dB d,.ac 1050 (e1.map aT.enc).length 8,.ac 1051 (cF.map Item.enc).length 3,.ac 1052 (src.map Src.enc).length 4,dI (-1),dB false,dN]),(1050,.acc 142 88 8 (e1.map aT.enc)),(1051,.acc 167 32 3 (cF.map Item.enc)),(1052,.acc 169 48 4 (src.map Src.enc)),(2,.one 106 120 [dB false,dN,dN,dN,d0,dB false,dN])]) B) ?_ (k:=(p.f5 D).aF.length) ⟨[((p.f5 D).source a).1],((p.f5 D).source a).2,e1,[((p.f5 D).source a).1],aa,aa,fun _=>aa,nm (dp _),ku _ _,Kf.top.source a,(RA.go2 (Kf.top.source a) (Hw ..)).dW ah,⟨aa,aa,aa,trivial⟩,cU aa ⟨aa,aa,aa,aa,aa,trivial⟩⟩)
  clear RA Y
  rintro k VE B⟨l,q,e1,src,z,rJ,GO,jM,hk,A,Y,hV,K⟩
  refine eZ (PS.bq a q++[(3,.one 106 120 [dB d,.ac 1050 (e1.map aT.enc).length 8,.ac 1051 (cF.map Item.enc).length 3,.ac 1052 (src.map Src.enc).length 4,dI (-1),dB false,dN]),(1050,.acc 142 88 8 (e1.map aT.enc)),(1051,.acc 167 32 3 (cF.map Item.enc)),(1052,.acc 169 48 4 (src.map Src.enc)),(2,.one 106 120 [dB false,dN,dN,dN,d0,dB false,dN])]) K ?_
  have K:bn (PS.bq a q++[(3,.one 106 120 [dB d,.ac 1050 (e1.map aT.enc).length 8,.ac 1051 (cF.map Item.enc).length 3,.ac 1052 (src.map Src.enc).length 4,dI (-1),dB false,dN]),(1050,.acc 142 88 8 (e1.map aT.enc)),(1051,.acc 167 32 3 (cF.map Item.enc)),(1052,.acc 169 48 4 (src.map Src.enc)),(2,.one 106 120 [dB false,dN,dN,dN,d0,dB false,dN])]) (PS.bq a q++[(3,.one 106 120 [dB d,.ac 1050 (e1.map aT.enc).length 8,.ac 1051 (cF.map Item.enc).length 3,.ac 1052 (src.map Src.enc).length 4,dI (-1),dB false,dN]),(1050,.acc 142 88 8 (e1.map aT.enc)),(1051,.acc 167 32 3 (cF.map Item.enc)),(1052,.acc 169 48 4 (src.map Src.enc)),(2,.one 106 120 [dB false,dN,dN,dN,d0,dB false,dN])]):=cU rfl ⟨rfl,rfl,rfl,rfl,rfl,trivial⟩
  have gM:q.aF.length=(p.f5 D).aF.length:=by rw[A.aF]
  have fZ:=A.ok.eG
  have Ao:=A.ok.lt
  refine db _ _ hV K (aL (an 5 aa (aK aa (fun rN=>?_) (fun rN=>?_))))
  ·have J:q.err=0:=by simpa using rN
   refine aQ (bM (ai (ae 1 aa (bV (gn F A.ok oJ) aa aa aa aa (ak 1 aa (aL (an 1 aa (aK aa (fun uD=>?_) (fun uD=>?_)))))))))
   ·have hj:q.join=some (true,((q.keyword oJ).2.bc [kK])):=by unfold PS.join;rw[az uD]
    obtain⟨uE,o7,kC⟩:=A.top.join hj
    obtain⟨k,rfl⟩:∃k',k=k'+1:=⟨k-1,ah⟩
    rw[AT hj] at z
    have gz:EG ((q.keyword oJ).2.bc [kK]) e1 0:=((Y.zero A.ok J).kV (bO.HH A.st oJ) (mQ ..)).kV (bO.bc (A.top.kw oJ).st) qa
    refine bC (ae 1 aa (bV (jx F (A.top.kw oJ).ok kK) aa aa aa aa ?_))
    rw[uD]
    generalize ((q.keyword oJ).2.bc [kK])=G at hj uE o7 z gz⊢
    have s1:=uE.top.source false
    have s2:=s1.trans (s1.top.d6 [p5])
    have gs:=gz.go2 s2 (by rw[qa,Hw])
    have s3:=s2.trans (s2.top.expr D)
    refine aX (ai (ae 1 aa (bV (Ia F uE.top false) aa aa aa aa (ak 2 aa (an 3 aa (ai (ae 1 aa (bV (jx F s1.ok p5) aa aa aa aa (aX ?_)))))))))
    refine ai (ae 3 aa (jX 3 1 aa aa (eX (PS.bq a ((G.source false).2.bc [p5])++[(3,.one 106 120 [dB d,.undef,.ac 1051 (cF.map Item.enc).length 3,.ac 1052 (src.map Src.enc).length 4,dI (-1),dB false,dN]),(1050,.acc 142 88 8 (e1.map aT.enc)),(1051,.acc 167 32 3 (cF.map Item.enc)),(1052,.acc 169 48 4 (src.map Src.enc)),(5,.one 169 48 [dB true,dS (G.source false).1.table,dS (G.source false).1.alias,dI (-1)]),(2,.one 106 120 [dB false,dN,dN,dN,d0,dB false,dN])]) (cU aa ⟨aa,aa,aa,aa,aa,aa,trivial⟩) (jQ (vh F Lq s2.top gs ah) aa aa aa aa (fun e2 g2=>?_)))))
    have p9:=g2.small s3.ok ah
    refine ak 2 aa (ai (ae 3 aa ?_))
    refine aj (f3 rfl rfl (by simp only[ca,bN];omega) (by simp only[ca,bN];omega) ?_)
    obtain⟨v,hv⟩:∃v:Int,(((e2.map aT.enc).length:Nat):Int) -Int.ofNat 1=v:=⟨_,rfl⟩
    rw[hv]
    refine ak 2 aa (bC (ae 4 aa ?_))
    refine aj (eD (rows:=src.map Src.enc) (ys:=[(⟨true,(G.source false).1.table,(G.source false).1.alias,v⟩:Src).enc]) rfl rfl rfl (.bs (rows:=[(⟨true,(G.source false).1.table,(G.source false).1.alias,v⟩:Src).enc]) rfl) (b0 rfl) (by rw[bE,ca];simp only[cV,dL];omega) (fun h=>by rw[h];rfl) (fun h=>by rw[h];rfl) ?_)
    refine ak 2 aa ?_
    have gv:(G.gZ D true).2.err=0→v=(G.gZ D true).1.on:=fun h0=>hv.symm.trans (rS s2.top g2 h0)
    refine⟨k,gG k,l++[(G.gZ D true).1],(G.gZ D true).2,e2,src++[(⟨true,(G.source false).1.table,(G.source false).1.alias,v⟩:Src)],z,?_,?_,?_,?_,(A.trans uE).trans s3,g2.dW ah,⟨aa,aa,aa,trivial⟩,?_⟩
    ·rw[bE,bE,rJ];rfl
    ·intro h0;rw[gv h0,GO J];rfl
    ·have:G.aO≤(G.gZ D true).2.aO:=s3.aO;rw[bE,dY];omega
    ·have:G.aO≤(G.gZ D true).2.aO:=s3.aO;show(p.f5 D).aF.length≤k+(G.gZ D true).2.aO;omega
    rw[dx];exact cU rfl ⟨rfl,rfl,rfl,rfl,rfl,trivial⟩
   rw[PS.da uD]
   refine ai (ae 1 aa (bV (gn F A.ok kK) aa aa aa aa (ak 1 aa (aK aa (fun p8=>?_) (fun p8=>?_)))))
   ·have q8:(q.keyword kK).1=false:=by simpa using p8
    have hj:q.join=none:=by unfold PS.join;rw[al (by rw[uD];decide),al (by rw[q8];decide)]
    rw[DB hj] at z
    rw[PS.da q8]
    refine dJ ?_
    exact⟨q,e1,src,by unfold PS.jw;rw[←z],fun h0=>by rw[←z];exact GO h0,ah,A,Y,⟨rfl,rfl,rfl,trivial⟩,cU rfl ⟨rfl,rfl,rfl,rfl,rfl,trivial⟩⟩
   have q8:(q.keyword kK).1=true:=by simpa using p8
   have hj:q.join=some (false,(q.keyword kK).2):=by unfold PS.join;rw[al (by rw[uD];decide),az q8]
   obtain⟨uE,o7,kC⟩:=A.top.join hj
   obtain⟨k,rfl⟩:∃k',k=k'+1:=⟨k-1,ah⟩
   rw[AT hj] at z
   have gz:EG (q.keyword kK).2 e1 0:=(Y.zero A.ok J).kV (bO.HH A.st kK) (mQ ..)
   rw[uD]
   generalize (q.keyword kK).2=G at hj uE o7 z gz⊢
   have s1:=uE.top.source false
   have s2:=s1.trans (s1.top.d6 [p5])
   have gs:=gz.go2 s2 (by rw[qa,Hw])
   have s3:=s2.trans (s2.top.expr D)
   refine aQ (ai (ae 1 aa (bV (Ia F uE.top false) aa aa aa aa (ak 2 aa (an 3 aa (ai (ae 1 aa (bV (jx F s1.ok p5) aa aa aa aa (aX ?_)))))))))
   refine ai (ae 3 aa (jX 3 1 aa aa (eX (PS.bq a ((G.source false).2.bc [p5])++[(3,.one 106 120 [dB d,.undef,.ac 1051 (cF.map Item.enc).length 3,.ac 1052 (src.map Src.enc).length 4,dI (-1),dB false,dN]),(1050,.acc 142 88 8 (e1.map aT.enc)),(1051,.acc 167 32 3 (cF.map Item.enc)),(1052,.acc 169 48 4 (src.map Src.enc)),(5,.one 169 48 [dB false,dS (G.source false).1.table,dS (G.source false).1.alias,dI (-1)]),(2,.one 106 120 [dB false,dN,dN,dN,d0,dB false,dN])]) (cU aa ⟨aa,aa,aa,aa,aa,aa,trivial⟩) (jQ (vh F Lq s2.top gs ah) aa aa aa aa (fun e2 g2=>?_)))))
   have p9:=g2.small s3.ok ah
   refine ak 2 aa (ai (ae 3 aa ?_))
   refine aj (f3 rfl rfl (by simp only[ca,bN];omega) (by simp only[ca,bN];omega) ?_)
   obtain⟨v,hv⟩:∃v:Int,(((e2.map aT.enc).length:Nat):Int) -Int.ofNat 1=v:=⟨_,rfl⟩
   rw[hv]
   refine ak 2 aa (bC (ae 4 aa ?_))
   refine aj (eD (rows:=src.map Src.enc) (ys:=[(⟨false,(G.source false).1.table,(G.source false).1.alias,v⟩:Src).enc]) rfl rfl rfl (.bs (rows:=[(⟨false,(G.source false).1.table,(G.source false).1.alias,v⟩:Src).enc]) rfl) (b0 rfl) (by rw[bE,ca];simp only[cV,dL];omega) (fun h=>by rw[h];rfl) (fun h=>by rw[h];rfl) ?_)
   refine ak 2 aa ?_
   have gv:(G.gZ D false).2.err=0→v=(G.gZ D false).1.on:=fun h0=>hv.symm.trans (rS s2.top g2 h0)
   refine⟨k,gG k,l++[(G.gZ D false).1],(G.gZ D false).2,e2,src++[(⟨false,(G.source false).1.table,(G.source false).1.alias,v⟩:Src)],z,?_,?_,?_,?_,(A.trans uE).trans s3,g2.dW ah,⟨aa,aa,aa,trivial⟩,?_⟩
   ·rw[bE,bE,rJ];rfl
   ·intro h0;rw[gv h0,GO J];rfl
   ·have:G.aO≤(G.gZ D false).2.aO:=s3.aO;rw[bE,dY];omega
   ·have:G.aO≤(G.gZ D false).2.aO:=s3.aO;show(p.f5 D).aF.length≤k+(G.gZ D false).2.aO;omega
   rw[dx];exact cU rfl ⟨rfl,rfl,rfl,rfl,rfl,trivial⟩
  have J:¬q.err=0:=by simpa using rN
  have hj:q.join=none:=Vj J
  rw[DB hj] at z
  refine dJ ?_
  exact⟨q,e1,src,by unfold PS.jw;rw[←z],fun h0=>by rw[←z];exact GO h0,ah,A,Y,⟨rfl,rfl,rfl,trivial⟩,cU rfl ⟨rfl,rfl,rfl,rfl,rfl,trivial⟩⟩
 refine ai (nH 3 1 1050 142 88 8 aa aa aa (nH 3 2 1051 167 32 3 aa aa aa (ae 1 aa (bV (m7 F U.ok fv) aa aa aa aa (ak 1 aa (aK aa (fun O=>?_) (fun O=>?_)))))))
 ·have O:(p.fU.sign fv).1=false:=by simpa using O
  rw[PS.iS O]
  refine ai (ae 1 aa (PW 3 (PV F Lq U.top d (e:=[]) (cF:=[]) GJ ah (dp _)) aa ⟨aa,aa,aa,aa,aa,aa,aa,aa,trivial⟩ aa aa aa (fun e1 it1 Kh=>?_)))
  obtain⟨RF,RG⟩:=Kh
  refine aX (bM ?_)
  refine d7 (fun k VE B=>∃(l:List Item)(q:PS)(e1:List aT)(cF:List Item),lg (fun p=>p.item D) k l q=(jG (fun p=>p.item D) p.fU)∧cF.length=l.length∧(q.err=0→cF=l)∧l.length≤q.aO+1∧p.fU.aF.length≤k+q.aO∧b8 p.fU q∧EG q e1 1000∧bn [(0,.vp 1000 0),(2,.vp 2 0),(3,.vp 3 0)] VE∧bn (PS.bq a q++[(3,.one 106 120 [dB d,.ac 1050 (e1.map aT.enc).length 8,.ac 1051 (cF.map Item.enc).length 3,dN,dI (-1),dB false,dN]),(1050,.acc 142 88 8 (e1.map aT.enc)),(1051,.acc 167 32 3 (cF.map Item.enc)),(2,.one 106 120 [dB false,dN,dN,dN,d0,dB false,dN])]) B) ?_ (k:=p.fU.aF.length) ⟨[(p.fU.item D).1],(p.fU.item D).2,e1,[it1],rfl,rfl,fun h0=>by rw[RG h0],nm (dp _),ku _ _,U.top.item D,RF.dW ah,⟨rfl,rfl,rfl,trivial⟩,cU rfl ⟨rfl,rfl,rfl,rfl,trivial⟩⟩
  clear RF RG
  rintro k VE B⟨l,q,e1,cF,z,Dd,RH,jM,hk,A,Y,hV,K⟩
  refine eZ (PS.bq a q++[(3,.one 106 120 [dB d,.ac 1050 (e1.map aT.enc).length 8,.ac 1051 (cF.map Item.enc).length 3,dN,dI (-1),dB false,dN]),(1050,.acc 142 88 8 (e1.map aT.enc)),(1051,.acc 167 32 3 (cF.map Item.enc)),(2,.one 106 120 [dB false,dN,dN,dN,d0,dB false,dN])]) K ?_
  have K:bn (PS.bq a q++[(3,.one 106 120 [dB d,.ac 1050 (e1.map aT.enc).length 8,.ac 1051 (cF.map Item.enc).length 3,dN,dI (-1),dB false,dN]),(1050,.acc 142 88 8 (e1.map aT.enc)),(1051,.acc 167 32 3 (cF.map Item.enc)),(2,.one 106 120 [dB false,dN,dN,dN,d0,dB false,dN])]) (PS.bq a q++[(3,.one 106 120 [dB d,.ac 1050 (e1.map aT.enc).length 8,.ac 1051 (cF.map Item.enc).length 3,dN,dI (-1),dB false,dN]),(1050,.acc 142 88 8 (e1.map aT.enc)),(1051,.acc 167 32 3 (cF.map Item.enc)),(2,.one 106 120 [dB false,dN,dN,dN,d0,dB false,dN])]):=cU rfl ⟨rfl,rfl,rfl,rfl,trivial⟩
  have gM:q.aF.length=p.fU.aF.length:=by rw[A.aF]
  have fZ:=A.ok.eG
  have Ao:=A.ok.lt
  refine db _ _ hV K (aL (ai (ae 1 aa (bV (m7 F A.ok cT) aa aa aa aa (aX (aK aa (fun wx=>?_) (fun wx=>?_)))))))
  ·have h2:=A.top.sign cT
   have p6:=pB A.ok wx
   have J:=(ru wx).1
   obtain⟨k,rfl⟩:∃k',k=k'+1:=⟨k-1,by have:=p6.2;omega⟩
   rw[pC wx] at z
   have h3:=h2.trans (h2.top.item D)
   have gz:=(Y.zero A.ok J).kV (bO.zT A.st cT) (pE ..)
   refine aQ (bM (bC (ae 1 aa (PW 3 (PV F Lq h2.top d (e:=e1) (cF:=cF) gz ah ah) aa ⟨aa,aa,aa,aa,aa,aa,aa,aa,trivial⟩ aa aa aa (fun e2 it2 Kh=>?_)))))
   obtain⟨Dm,gi2⟩:=Kh
   refine aX (⟨k,gG k,l++[((q.sign cT).2.item D).1],((q.sign cT).2.item D).2,e2,cF++[it2],z,?_,?_,?_,?_,A.trans h3,Dm.dW ah,⟨aa,aa,aa,trivial⟩,cU aa ⟨aa,aa,aa,aa,trivial⟩⟩)
   ·rw[bE,bE,Dd];rfl
   ·intro h0;rw[gi2 h0,RH J]
   ·have:=h3.aO;have:=p6.1;have:=(h2.top.item D).aO;rw[bE,dY];show l.length+1≤((q.sign cT).2.item D).2.aO+1;omega
   have:=(h2.top.item D).aO;have:=p6.1;show p.fU.aF.length≤k+((q.sign cT).2.item D).2.aO;omega
  rw[pD wx] at z
  rw[PS.iS wx]
  refine dJ ?_
  exact⟨_,e1,cF,by unfold PS.items;rw[al (by rw[O];decide)];rw[←z],fun h0=>by unfold PS.items;rw[al (by rw[O];decide),←z];exact RH h0,U.trans A,Y,⟨rfl,rfl,rfl,trivial⟩,cU rfl ⟨rfl,rfl,rfl,rfl,trivial⟩⟩
 have O:(p.fU.sign fv).1=true:=by simpa using O
 refine aQ ?_
 exact⟨_,[],[],by unfold PS.items;rw[az O],fun _=>by unfold PS.items;rw[az O],U.trans (U.top.sign _),(EG.go2 hz (U.trans (U.top.sign _)) (by rw[pE];unfold PS.fU;rw[mQ];exact qa)).dW ah,⟨rfl,rfl,rfl,trivial⟩,cU rfl ⟨rfl,rfl,rfl,rfl,trivial⟩⟩
theorem Iv{T:bd}(F:FT T){D:Rd}(Lq:kM T D){a:Bool}{p:PS}(hp:bk p):cg T 101 [.vp 1000 0] (PS.bq a p) fun r Bn=>(∃s:jW,r=eU s.enc∧((p.dj D a).2.err=0→s=(p.dj D a).1))∧Bn=PS.bq a (p.dj D a).2:=by
 refine cL F.abe aa (an 1 aa (ai (ae 1 aa (aj (qM (FH F Lq hp) aa aa aa (fun r hr=>?_))))))
 obtain⟨c1,rfl,jC⟩:=hr
 refine ae 2 aa (s7 7 1 1101 3 8 1 aa aa aa (ak 2 aa (aL (bM ?_))))
 refine d7 (fun k VE B=>∃(s:jW)(q:PS)(cs:List Core)(os:List Int),qR D a k s q=p.dj D a∧cs≠[]∧cs.length=s.gB.length∧os=s.ops∧(q.err=0→cs=s.gB)∧s.gB.length≤q.aO+1∧s.ops.length≤q.aO+1∧p.aF.length≤k+q.aO∧b8 p q∧bn [(0,.vp 1000 0),(2,.vp 2 0),(3,.vp 3 0)] VE∧bn (PS.bq a q++[(3,.one 39 48 [.bs 6 (cs.map Core.enc).length 7,.ac 1101 (os.map (fun i=>[DC.i .i64 i])).length 1]),(6,.arr 106 120 7 (cs.map Core.enc).length (cs.map Core.enc)),(1101,.acc 3 8 1 (os.map (fun i=>[DC.i .i64 i]))),(2,.one 39 48 [dN,dN])]) B) ?_ (k:=p.aF.length) ⟨⟨[(p.core D a).1],[]⟩,(p.core D a).2,[c1],[],rfl,qz _ _,rfl,rfl,fun h0=>by rw[jC h0],nm (dp _),dp _,ku _ _,hp.core D a,⟨rfl,rfl,rfl,trivial⟩,cU rfl ⟨rfl,rfl,rfl,rfl,trivial⟩⟩
 clear jC
 rintro k VE B⟨s,q,cs,os,z,U,sN,J,Y,jM,uu,hk,O,hV,hB⟩
 refine eZ (PS.bq a q++[(3,.one 39 48 [.bs 6 (cs.map Core.enc).length 7,.ac 1101 (os.map (fun i=>[DC.i .i64 i])).length 1]),(6,.arr 106 120 7 (cs.map Core.enc).length (cs.map Core.enc)),(1101,.acc 3 8 1 (os.map (fun i=>[DC.i .i64 i]))),(2,.one 39 48 [dN,dN])]) hB ?_
 have hB:bn (PS.bq a q++[(3,.one 39 48 [.bs 6 (cs.map Core.enc).length 7,.ac 1101 (os.map (fun i=>[DC.i .i64 i])).length 1]),(6,.arr 106 120 7 (cs.map Core.enc).length (cs.map Core.enc)),(1101,.acc 3 8 1 (os.map (fun i=>[DC.i .i64 i]))),(2,.one 39 48 [dN,dN])]) (PS.bq a q++[(3,.one 39 48 [.bs 6 (cs.map Core.enc).length 7,.ac 1101 (os.map (fun i=>[DC.i .i64 i])).length 1]),(6,.arr 106 120 7 (cs.map Core.enc).length (cs.map Core.enc)),(1101,.acc 3 8 1 (os.map (fun i=>[DC.i .i64 i]))),(2,.one 39 48 [dN,dN])]):=cU rfl ⟨rfl,rfl,rfl,rfl,trivial⟩
 have gM:q.aF.length=p.aF.length:=by rw[O.aF]
 have fZ:=O.ok.eG
 have Ao:=O.ok.lt
 have hol:os.length=s.ops.length:=by rw[J]
 refine db _ _ hV hB (aL (an 5 aa (aK aa (fun xM=>?_) (fun xM=>?_))))
 ·have Z:q.err=0:=by simpa using xM
  refine aQ (bM (aL (bM (ai (ae 1 aa (bV (gn F O.ok vg) aa aa aa aa (ak 1 aa (aK aa (fun K=>?_) (fun K=>?_)))))))))
  ·have A:q.op=some (6,(q.keyword vg).2):=by unfold PS.op;rw[az K]
   obtain⟨G,o7,kC⟩:=O.top.op A
   obtain⟨k,rfl⟩:∃k',k=k'+1:=⟨k-1,ah⟩
   rw[wE A] at z
   generalize (q.keyword vg).2=q1 at A G o7 z⊢
   have I:=G.top.d6 [hY]
   have g2:=I.top.core D a
   have ga:=I.aO
   have gb:=g2.aO
   refine bC (ae 3 aa ?_)
   refine aj (eD (rows:=(os.map (fun i=>[DC.i .i64 i]))) (ys:=[[.i .i64 6]]) rfl rfl rfl (.bs (rows:=[[.i .i64 6]]) rfl) (b0 rfl) (by simp only[bE,ca,cV,dL];omega) (fun h=>by rw[h];rfl) (fun h=>by rw[h];rfl) ?_)
   refine ak 2 aa (ai (ae 1 aa (bV (jx F G.ok hY) aa aa aa aa (aX (im (bD 3 aa (dy aa (qM (FH F Lq I.top) aa aa aa (fun r hr=>?_)))))))))
   obtain⟨c2,rfl,sO⟩:=hr
   refine bD 1 aa ?_
   refine dy rfl (ot (rows:=cs.map Core.enc) (ys:=[c2.enc]) rfl rfl rfl (.bs (rows:=[c2.enc]) rfl) (b0 rfl) (by simp only[bE,ca,cV,dL];omega) ?_)
   refine du 2 aa (⟨k,gG k,⟨s.gB++[((q1.bc [hY]).core D a).1],s.ops++[6]⟩,((q1.bc [hY]).core D a).2,cs++[c2],os++[6],z,mX U _,?_,?_,?_,?_,?_,?_,(O.trans G).trans (I.trans g2),⟨aa,aa,aa,trivial⟩,?_⟩)
   ·rw[bE,bE,sN];rfl
   ·rw[J]
   ·intro h0;rw[sO h0,Y Z]
   ·rw[bE,dY];omega
   ·rw[bE,dY];omega
   ·omega
   simp only[dx,e7,gj]
   exact cU aa ⟨aa,aa,aa,aa,trivial⟩
  rw[PS.da K]
  refine ai (ae 1 aa (bV (gn F O.ok uZ) aa aa aa aa (ak 1 aa (aK aa (fun sU=>?_) (fun sU=>?_)))))
  ·have A:q.op=some (7,(q.keyword uZ).2):=by unfold PS.op;rw[al (by rw[K];decide),az sU]
   obtain⟨G,o7,kC⟩:=O.top.op A
   obtain⟨k,rfl⟩:∃k',k=k'+1:=⟨k-1,ah⟩
   rw[wE A] at z
   generalize (q.keyword uZ).2=q1 at A G o7 z⊢
   have I:=G.top.d6 [hY]
   have g2:=I.top.core D a
   have ga:=I.aO
   have gb:=g2.aO
   refine bC (ae 3 aa ?_)
   refine aj (eD (rows:=(os.map (fun i=>[DC.i .i64 i]))) (ys:=[[.i .i64 7]]) rfl rfl rfl (.bs (rows:=[[.i .i64 7]]) rfl) (b0 rfl) (by simp only[bE,ca,cV,dL];omega) (fun h=>by rw[h];rfl) (fun h=>by rw[h];rfl) ?_)
   refine ak 2 aa (ai (ae 1 aa (bV (jx F G.ok hY) aa aa aa aa (aX (im (bD 3 aa (dy aa (qM (FH F Lq I.top) aa aa aa (fun r hr=>?_)))))))))
   obtain⟨c2,rfl,sO⟩:=hr
   refine bD 1 aa ?_
   refine dy rfl (ot (rows:=cs.map Core.enc) (ys:=[c2.enc]) rfl rfl rfl (.bs (rows:=[c2.enc]) rfl) (b0 rfl) (by simp only[bE,ca,cV,dL];omega) ?_)
   refine du 2 aa (⟨k,gG k,⟨s.gB++[((q1.bc [hY]).core D a).1],s.ops++[7]⟩,((q1.bc [hY]).core D a).2,cs++[c2],os++[7],z,mX U _,?_,?_,?_,?_,?_,?_,(O.trans G).trans (I.trans g2),⟨aa,aa,aa,trivial⟩,?_⟩)
   ·rw[bE,bE,sN];rfl
   ·rw[J]
   ·intro h0;rw[sO h0,Y Z]
   ·rw[bE,dY];omega
   ·rw[bE,dY];omega
   ·omega
   simp only[dx,e7,gj]
   exact cU aa ⟨aa,aa,aa,aa,trivial⟩
  rw[PS.da sU]
  refine ai (ae 1 aa (bV (gn F O.ok uI) aa aa aa aa (ak 1 aa (aK aa (fun GP=>?_) (fun GP=>?_)))))
  ·have A:q.op=some (8,(q.keyword uI).2):=by unfold PS.op;rw[al (by rw[K];decide),al (by rw[sU];decide),az GP]
   obtain⟨G,o7,kC⟩:=O.top.op A
   obtain⟨k,rfl⟩:∃k',k=k'+1:=⟨k-1,ah⟩
   rw[wE A] at z
   generalize (q.keyword uI).2=q1 at A G o7 z⊢
   have I:=G.top.d6 [hY]
   have g2:=I.top.core D a
   have ga:=I.aO
   have gb:=g2.aO
   refine bC (ae 3 aa ?_)
   refine aj (eD (rows:=(os.map (fun i=>[DC.i .i64 i]))) (ys:=[[.i .i64 8]]) rfl rfl rfl (.bs (rows:=[[.i .i64 8]]) rfl) (b0 rfl) (by simp only[bE,ca,cV,dL];omega) (fun h=>by rw[h];rfl) (fun h=>by rw[h];rfl) ?_)
   refine ak 2 aa (ai (ae 1 aa (bV (jx F G.ok hY) aa aa aa aa (aX (im (bD 3 aa (dy aa (qM (FH F Lq I.top) aa aa aa (fun r hr=>?_)))))))))
   obtain⟨c2,rfl,sO⟩:=hr
   refine bD 1 aa ?_
   refine dy rfl (ot (rows:=cs.map Core.enc) (ys:=[c2.enc]) rfl rfl rfl (.bs (rows:=[c2.enc]) rfl) (b0 rfl) (by simp only[bE,ca,cV,dL];omega) ?_)
   refine du 2 aa (⟨k,gG k,⟨s.gB++[((q1.bc [hY]).core D a).1],s.ops++[8]⟩,((q1.bc [hY]).core D a).2,cs++[c2],os++[8],z,mX U _,?_,?_,?_,?_,?_,?_,(O.trans G).trans (I.trans g2),⟨aa,aa,aa,trivial⟩,?_⟩)
   ·rw[bE,bE,sN];rfl
   ·rw[J]
   ·intro h0;rw[sO h0,Y Z]
   ·rw[bE,dY];omega
   ·rw[bE,dY];omega
   ·omega
   simp only[dx,e7,gj]
   exact cU aa ⟨aa,aa,aa,aa,trivial⟩
  have A:q.op=none:=by unfold PS.op;rw[al (by rw[K];decide),al (by rw[sU];decide),al (by rw[GP];decide)]
  rw[DT A] at z
  rw[PS.da GP]
  refine ai (ae 1 aa (gD 13 6 aa aa fJ (fN 13 1101 aa aa fJ (ak 1 aa (ay ?_)))))
  rw[←z]
  subst J
  have he:jW.enc ⟨cs,s.ops⟩=[.sl (cs.map Core.enc),.fC (s.ops.map fun i=>[.i .i64 i])]:=by unfold jW.enc;rw[DC.rT (rows:=cs.map Core.enc) (by simpa using U)]
  exact⟨_,PS.bq a _,rfl,⟨rfl,trivial⟩,⟨⟨cs,s.ops⟩,by rw[he];rfl,fun h0=>by rw[Y h0]⟩,rfl⟩
 have Z:¬q.err=0:=by simpa using xM
 have A:=Xx Z
 rw[DT A] at z
 refine dJ (ai (ae 1 aa (gD 47 6 aa aa fJ (fN 47 1101 aa aa fJ (ak 1 aa (ay ?_))))))
 rw[←z]
 subst J
 have he:jW.enc ⟨cs,s.ops⟩=[.sl (cs.map Core.enc),.fC (s.ops.map fun i=>[.i .i64 i])]:=by unfold jW.enc;rw[DC.rT (rows:=cs.map Core.enc) (by simpa using U)]
 exact⟨_,PS.bq a _,rfl,⟨rfl,trivial⟩,⟨⟨cs,s.ops⟩,by rw[he];rfl,fun h0=>by rw[Y h0]⟩,rfl⟩
def CN(k:Int)(t:List UInt8)(v:Int×Int):Nat×BS:=(1001,.one 50 328 [dI k,d0,d0,d0,dN,dN,dS t,dS [],dN,dI v.1,dI v.2,dN,d0,dN,dN,dN,dN,dN,d0,d0,d0])
def Dp(k:Int)(t:List UInt8)(v:Int×Int)(n:Nat)(w:Int)(s:DC):Nat×BS:=(1001,.one 50 328 [dI k,d0,d0,d0,dN,dN,dS t,dS [],dN,dI v.1,dI v.2,.ac 1050 n 8,dI w,.d s,dN,dN,dN,dN,d0,d0,d0])
def CO(k:Int)(t:List UInt8)(v:Int×Int)(n m:Nat):Nat×BS:=(1001,.one 50 328 [dI k,d0,d0,d0,dN,dN,dS t,dS [],dN,dI v.1,dI v.2,.ac 1050 n 8,d0,.ac 1051 m 2,dN,dN,dN,dN,d0,d0,d0])
theorem MY{T:bd}(F:FT T){D:Rd}(G:kM T D){a:Bool}{p:PS}(hp:bk p)(k:Int)(t:List UInt8):cg T 153 [.vp 1000 0,.vp 1001 0] (PS.bq a p++[CN k t (0,0)]) fun r Bn=>∃v,r= .tuple []∧Bn=PS.bq a ((p.bc [lL,pw,kD]).period D).2++[CN k t v]∧(((p.bc [lL,pw,kD]).period D).2.err=0→v=((p.bc [lL,pw,kD]).period D).1):=by
 refine cL F.abJ aa ?_
 have z:=hp.d6 [lL]
 have A:=z.top.d6 [pw]
 have I:=A.top.d6 [kD]
 refine eZ (PS.bq a p++[(1001,.one 50 328 [dI k,d0,d0,d0,dN,dN,dS t,dS [],dN,dI (Prod.fst ((0,0):Int×Int)),dI (Prod.snd ((0,0):Int×Int)),dN,d0,dN,dN,dN,dN,dN,d0,d0,d0])]) (cU aa ⟨aa,trivial⟩) (ai (ae 1 aa (bV (jx F hp.ok lL) aa aa aa aa (aX (ai (ae 1 aa (bV (jx F z.ok pw) aa aa aa aa (aX (ai ?_)))))))))
 refine ae 1 aa (bV (jx F A.ok kD) aa aa aa aa (aX (bC (ae 2 aa (aj (qM (Nz F G I.st) aa aa aa (fun r J=>?_)))))))
 obtain⟨v,rfl,K⟩:=J
 exact ak 3 aa (⟨_,PS.bq a _++[CN k t v],aa,cU aa ⟨aa,trivial⟩,v,aa,aa,K⟩)
theorem Xy{T:bd}(F:FT T){D:Rd}(K:kM T D){a:Bool}{p:PS}(hp:bk p)(k:Int)(t:List UInt8)(v:Int×Int)(w:Int)(s:DC){e:List aT}{N:Nat}(he:EG p e N)(hN:N≤100000):cg T 154 [.vp 1000 0,.vp 1001 0] (PS.bq a p++[Dp k t v (e.map aT.enc).length w s,(1050,.acc 142 88 8 (e.map aT.enc))]) fun r Bn=>∃e1 x,r= .tuple []∧Bn=PS.bq a (p.eF D).2++[Dp k t v (e1.map aT.enc).length x s,(1050,.acc 142 88 8 (e1.map aT.enc))]∧EG (p.eF D).2 e1 (N+610)∧((p.eF D).2.err=0→x=(p.eF D).1):=by
 refine cL F.QI aa (eZ (PS.bq a p++[(1001,.one 50 328 [dI k,d0,d0,d0,dN,dN,dS t,dS [],dN,dI v.1,dI v.2,.ac 1050 (e.map aT.enc).length 8,dI w,.d s,dN,dN,dN,dN,d0,d0,d0]),(1050,.acc 142 88 8 (e.map aT.enc))]) (cU aa ⟨aa,aa,trivial⟩) (an 4 aa (ai (ae 1 aa (bV (gn F hp.ok kt) aa aa aa aa (aX (aK aa (fun z=>?_) (fun z=>?_))))))))
 ·have G:p.eF D=(p.keyword kt).2.expr D:=by unfold PS.eF;rw[az z]
  have A:=hp.kw kt
  have O:=A.top.expr D
  refine ai (ae 6 aa (jX 1001 11 aa aa (eX (PS.bq a (p.keyword kt).2++[(1001,.one 50 328 [dI k,d0,d0,d0,dN,dN,dS t,dS [],dN,dI v.1,dI v.2,.undef,dI (-1),.d s,dN,dN,dN,dN,d0,d0,d0]),(1050,.acc 142 88 8 (e.map aT.enc))]) (cU aa ⟨aa,aa,trivial⟩) (jQ (vh F K A.top (he.go2 A (mQ ..)) hN) aa aa aa aa (fun e1 I=>?_)))))
  have U:=I.small O.ok ah
  refine ak 3 aa (bC (ae 6 aa ?_))
  refine aj (f3 rfl rfl (by simp only[ca,bN];omega) (by simp only[ca,bN];omega) ?_)
  obtain⟨x,J⟩:∃x:Int,(((e1.map aT.enc).length:Nat):Int) -Int.ofNat 1=x:=⟨_,rfl⟩
  rw[J]
  refine ak 3 aa ?_
  rw[G]
  exact⟨_,PS.bq a _++[Dp k t v (e1.map aT.enc).length x s,(1050,.acc 142 88 8 (e1.map aT.enc))],aa,cU aa ⟨aa,aa,trivial⟩,e1,x,aa,aa,I.dW ah,fun h0=>J.symm.trans (rS A.top I h0)⟩
 have G:p.eF D=(-1,p):=by unfold PS.eF;rw[al (by rw[z];decide)]
 rw[PS.da z]
 refine aQ ?_
 rw[G]
 exact⟨_,PS.bq a _++[Dp k t v (e.map aT.enc).length (-1) s,(1050,.acc 142 88 8 (e.map aT.enc))],aa,cU aa ⟨aa,aa,trivial⟩,e, -1,aa,aa,he.dW ah,fun _=>aa⟩
theorem QP{T:bd}(F:FT T){D:Rd}(J:kM T D){a:Bool}{p:PS}(hp:bk p)(k:Int)(t:List UInt8)(v:Int×Int){ss:List (List UInt8×Int)}(K:ss.length≤100000){e:List aT}{N:Nat}(he:EG p e N)(hN:N≤100000):cg T 155 [.vp 1000 0,.vp 1001 0] (PS.bq a p++[CO k t v (e.map aT.enc).length (ss.map fm).length,(1050,.acc 142 88 8 (e.map aT.enc)),(1051,.acc 94 24 2 (ss.map fm))]) fun r Bn=>∃e1 x,r= .tuple []∧Bn=PS.bq a (p.set D).2++[CO k t v (e1.map aT.enc).length ((ss++[x]).map fm).length,(1050,.acc 142 88 8 (e1.map aT.enc)),(1051,.acc 94 24 2 ((ss++[x]).map fm))]∧EG (p.set D).2 e1 (N+610)∧((p.set D).2.err=0→x=(p.set D).1):=by
 refine cL F.abK aa ?_
 have A:=hp.name
 have z:=A.trans (A.top.ij nE)
 have O:=z.trans (z.top.expr D)
 refine eZ (PS.bq a p++[(1001,.one 50 328 [dI k,d0,d0,d0,dN,dN,dS t,dS [],dN,dI v.1,dI v.2,.ac 1050 (e.map aT.enc).length 8,d0,.ac 1051 (ss.map fm).length 2,dN,dN,dN,dN,d0,d0,d0]),(1050,.acc 142 88 8 (e.map aT.enc)),(1051,.acc 94 24 2 (ss.map fm))]) (cU aa ⟨aa,aa,aa,trivial⟩) (ai (ae 1 aa (bV (lI F hp.ok) aa aa aa aa (ak 3 aa (ai (ae 1 aa (bV (pv F A.ok nE) aa aa aa aa (aX (ai ?_)))))))))
 refine ae 6 aa (jX 1001 11 aa aa (eX (PS.bq a (p.name.2.bJ nE)++[(1001,.one 50 328 [dI k,d0,d0,d0,dN,dN,dS t,dS [],dN,dI v.1,dI v.2,.undef,d0,.ac 1051 (ss.map fm).length 2,dN,dN,dN,dN,d0,d0,d0]),(1050,.acc 142 88 8 (e.map aT.enc)),(1051,.acc 94 24 2 (ss.map fm)),(4,.one 94 24 [dS p.name.1,d0])]) (cU aa ⟨aa,aa,aa,aa,trivial⟩) ?_))
 refine jQ (vh F J z.top (he.go2 z (by rw[sW];exact rf ..)) hN) rfl rfl rfl rfl (fun e1 G=>?_)
 have U:=G.small O.ok ah
 refine ak 3 aa (ai (ae 5 aa ?_))
 refine aj (f3 rfl rfl (by simp only[ca,bN];omega) (by simp only[ca,bN];omega) ?_)
 obtain⟨x,I⟩:∃x:Int,(((e1.map aT.enc).length:Nat):Int) -Int.ofNat 1=x:=⟨_,rfl⟩
 rw[I]
 refine ak 2 aa (im (bD 7 aa ?_))
 refine dy rfl (eD (rows:=ss.map fm) (ys:=[(fm (p.name.1,x))]) rfl rfl rfl (.bs (rows:=[(fm (p.name.1,x))]) rfl) (b0 rfl) (by rw[bE,ca];simp only[cV,dL];omega) (fun h=>by rw[h];rfl) (fun h=>by rw[h];rfl) ?_)
 refine du 3 aa ?_
 exact⟨_,PS.bq a (p.set D).2++[CO k t v (e1.map aT.enc).length ((ss.map fm)++[(fm (p.name.1,x))]).length,(1050,.acc 142 88 8 (e1.map aT.enc)),(1051,.acc 94 24 2 ((ss.map fm)++[(fm (p.name.1,x))]))],rfl,cU rfl ⟨rfl,rfl,rfl,trivial⟩,e1,(p.name.1,x),rfl,by rw[dx];rfl,G.dW ah,fun h0=>by rw[←I,rS z.top G h0];rfl⟩
theorem QQ{T:bd}(F:FT T){a:Bool}{p:PS}(hp:bk p):cg T 100 [.vp 1000 0] (PS.bq a p) fun r Bn=>r= .tuple []∧Bn=PS.bq a p.fin:=by
 refine cL F.abd aa ?_
 have G:(p.aF.map cu.enc)[p.aO]?=some p.tok.enc:=by rw[iJ,hp.ok.get];rfl
 refine eO (bD 6 aa (wN (g:=aG) aa (fun z=>?_) (fun z=>?_)))
 ·have h0:p.err=0:=by simpa using z
  refine ey aa (z) (bY aa ?_)
  refine ey aa (z) (qc aa ?_)
  refine ey aa (z) (dD aa ?_)
  refine iR aa (z) aa (df aa aa aa ?_)
  refine ey aa (z) (bY aa ?_)
  refine ey aa (z) (qc aa ?_)
  refine ey aa (z) (dD aa ?_)
  refine iR aa (z) aa (df aa aa aa ?_)
  refine ey aa (z) (lF (row:=p.tok.enc) aa aa G aa ?_)
  refine ey aa (z) (oj aa ?_)
  refine iR aa (z) aa (km aa aa ?_)
  refine ey aa (z) (iV aa aa ?_)
  refine bG (c8 aa (z) aa ?_)
  refine ow (aK aa (fun A=>?_) (fun A=>?_))
  ·have hk:¬p.tok.kind=6:=by simpa using A
   have I:p.fin=p.fail 5:=by unfold PS.fin;rw[az ⟨h0,hk⟩]
   refine bC (ae 1 aa (bV (mD F hp.ok aq) aa aa aa aa (aX ?_)))
   rw[I]
   exact⟨_,PS.bq a _,aa,⟨aa,trivial⟩,aa,aa⟩
  have hk:p.tok.kind=6:=by simpa using A
  have I:p.fin=p:=by unfold PS.fin;rw[al (fun k=>k.2 hk)]
  refine aQ ?_
  rw[I]
  exact⟨_,PS.bq a _,aa,⟨aa,trivial⟩,aa,aa⟩
 have h0:¬p.err=0:=by simpa using z
 have I:p.fin=p:=by unfold PS.fin;rw[al (fun k=>h0 k.1)]
 refine dh aa (z) (dh aa (z) (dh aa (z) (ji aa (z) (dh aa (z) (dh aa (z) (dh aa (z) (ji aa (z) (dh aa (z) (dh aa (z) ?_)))))))))
 refine ji aa (z) (dh aa (z) (bG (cS aa (z) aa ?_)))
 refine ow (ef aa aa (aQ ?_))
 rw[I]
 exact⟨_,PS.bq a _,aa,⟨aa,trivial⟩,aa,aa⟩
end Go.Ev.Pp
