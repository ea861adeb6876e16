/- Part 16 of rules for walks through the code of a program, and of such walks; what each part proves is said by its theorems. -/
import Derived.Test.YtijnechfhdlgiaaGreatDoorS15
set_option linter.unusedVariables false
set_option linter.unusedSimpArgs false
noncomputable section
set_option maxRecDepth 100000
set_option maxHeartbeats 4000000
namespace Go.Ev.Pp
open Go
theorem coreC{T:bd}(F:FT T){D:Rd}(Lf:iF T D){p:PS}(hp:bk p)(a:Bool):cg T 132 [.vp 1000 0,dB a] (PS.bz p) fun r Bn=>r=eU (p.core D a).1.enc∧Bn=PS.bz (p.core D a).2:=by
 refine cL F.abu aa ?_
 have pf:∀x:PS,bk x→b8 x (PS.item x D).2:=fun _ h=>h.item D
 have K:∀x:PS,bk x→b8 x (PS.dU x).2:=fun _ h=>h.dU
 refine an 1 aa (an 4 aa (ai (nH 1000 5 1050 142 88 8 aa aa aa (ae 2 aa (gD 10 10 aa aa (fun _=>⟨aa,aa⟩) (bo (bc F hp.nil.ok [Bu] aq) aa aa aa aa aa (aX (ai (ae 1 aa ?_)))))))))
 refine bo (keyword F hp.jk.ok jE) aa aa aa aa aa (ae 1 aa (s7 14 2 1102 167 32 3 aa aa aa (s7 14 6 1106 3 8 1 aa aa aa (ak 2 aa (aL (ai (ae 1 aa (bo (sign F hp.fU.ok fv) aa aa aa aa aa (ak 1 aa ?_)))))))))
 refine aK aa (fun qZ=>?_) (fun qZ=>?_)
 ·have GK:(p.fU.sign fv).1=false:=by simpa using qZ
  have hI0:p.fU.items D=jG (fun p=>p.item D) p.fU:=by unfold PS.items;rw[al (by rw[GK];decide)]
  rw[PS.iS GK]
  refine eO (bD 3 aa (nB (PQ F Lf hp.fU.top) aa aa aa aa aa aa (bD 1 aa (dy aa (eD (rows:=[]) (ys:=[(p.fU.item D).1.enc]) aa aa aa (.bs (rows:=[(p.fU.item D).1.enc]) aa) (b0 aa) (b0 aa) (fun _=>aa) (fun _=>aa) ?_)))))
  refine du 2 aa (bM (d7 (fun k VE B=>∃(l:List _)(q:PS),lg (fun p=>PS.item p D) k l q=(jG (fun p=>PS.item p D) p.fU)∧l≠[]∧l.length≤q.aO+1∧p.fU.aF.length≤k+q.aO∧b8 p.fU q∧bn [(0,.vp 1000 0),(1,dB a),(4,.vp 4 0),(5,.vp 5 0)] VE∧bn (PS.bi q++[(5,.one 106 120 [dB (p.jk.keyword jE).1,dN,.ac 1102 (l.map Item.enc).length 3,dN,d0,dB false,.ac 1106 0 1]),(1102,.acc 167 32 3 (l.map Item.enc)),(1106,.acc 3 8 1 []),(4,.one 106 120 [dB false,dN,dN,dN,d0,dB false,dN])]) B) ?_ (k:=p.fU.aF.length) ⟨[(PS.item p.fU D).1],(PS.item p.fU D).2,aa,qz _ _,nm (dp _),ku _ _,pf _ hp.fU.top,⟨aa,aa,aa,aa,trivial⟩,dK aa aa ⟨aa,aa,aa,aa,trivial⟩⟩))
  rintro k VE B⟨l,q,z,U,jM,hk,A,hV,Y⟩
  refine eZ (PS.bi q++[(5,.one 106 120 [dB (p.jk.keyword jE).1,dN,.ac 1102 (l.map Item.enc).length 3,dN,d0,dB false,.ac 1106 0 1]),(1102,.acc 167 32 3 (l.map Item.enc)),(1106,.acc 3 8 1 []),(4,.one 106 120 [dB false,dN,dN,dN,d0,dB false,dN])]) Y ?_
  have Y:bn (PS.bi q++[(5,.one 106 120 [dB (p.jk.keyword jE).1,dN,.ac 1102 (l.map Item.enc).length 3,dN,d0,dB false,.ac 1106 0 1]),(1102,.acc 167 32 3 (l.map Item.enc)),(1106,.acc 3 8 1 []),(4,.one 106 120 [dB false,dN,dN,dN,d0,dB false,dN])]) (PS.bi q++[(5,.one 106 120 [dB (p.jk.keyword jE).1,dN,.ac 1102 (l.map Item.enc).length 3,dN,d0,dB false,.ac 1106 0 1]),(1102,.acc 167 32 3 (l.map Item.enc)),(1106,.acc 3 8 1 []),(4,.one 106 120 [dB false,dN,dN,dN,d0,dB false,dN])]):=dK rfl rfl ⟨rfl,rfl,rfl,rfl,trivial⟩
  have gM:q.aF.length=p.fU.aF.length:=by rw[A.aF]
  refine db _ _ hV Y (aL (ai (ae 1 aa (bo (sign F A.ok cT) aa aa aa aa aa (aX (aK aa (fun Z=>?_) (fun Z=>?_)))))))
  ·have h2:=A.top.sign cT
   have G:=pB A.ok Z
   have fZ:=A.ok.eG
   obtain⟨k,rfl⟩:∃k',k=k'+1:=⟨k-1,by have:=G.2;omega⟩
   rw[pC Z] at z
   have h3:=h2.trans (pf _ h2.top)
   refine aQ (bM (im (bD 3 aa (nB (PQ F Lf h2.top) aa aa aa aa aa aa (bD 1 aa ?_)))))
   refine dy rfl (eD (rows:=l.map Item.enc) (ys:=[((PS.item (q.sign cT).2 D).1).enc]) rfl rfl rfl (.bs (rows:=[((PS.item (q.sign cT).2 D).1).enc]) rfl) (b0 rfl) (by simp only[bE,ca,cV,dL];omega) (fun h=>by rw[h];rfl) (fun h=>by rw[h];rfl) ?_)
   refine du 2 aa (⟨k,gG k,l++[(PS.item (q.sign cT).2 D).1],(PS.item (q.sign cT).2 D).2,z,mX U _,?_,?_,A.trans h3,?_,?_⟩)
   ·have:=h3.aO;have:=G.1;have:=(pf _ h2.top).aO;rw[bE,dY];show l.length+1≤(PS.item (q.sign cT).2 D).2.aO+1;omega
   ·have:=(pf _ h2.top).aO;have:=G.1;show p.fU.aF.length≤k+(PS.item (q.sign cT).2 D).2.aO;omega
   ·try simp only[dx,e7,gj]
    exact⟨aa,aa,aa,aa,trivial⟩
   try simp only[dx,e7,gj]
   exact dK aa aa ⟨aa,aa,aa,aa,trivial⟩
  rw[pD Z] at z
  rw[PS.iS Z]
  have O:p.fU.items D=(l,q):=by rw[hI0,←z]
  refine dJ (ai (eX (PS.bi q++[(5,.one 106 120 [dB (p.jk.keyword jE).1,dN,.ac 1102 (l.map Item.enc).length 3,dN,d0,dB false,.ac 1106 0 1]),(1102,.acc 167 32 3 (l.map Item.enc)),(1106,.acc 3 8 1 []),(4,.one 106 120 [dB false,dN,dN,dN,d0,dB false,dN])]) (dK aa aa ⟨aa,aa,aa,aa,trivial⟩) ?_))
  have Kb:p.f5 D=q.bc [iO]:=by unfold PS.f5;rw[O]
  refine ae 2 aa (gD 35 35 aa aa (fun _=>⟨aa,aa⟩) (bo (bc F A.ok [iO] aq) aa aa aa aa aa (aX (ai ?_))))
  rw[←Kb]
  refine ae 2 aa (bo (On F Lf (hp.f5 D).top a) aa aa aa aa aa (ak 2 aa (ai (ae 1 aa (bo (ES F Lf (hp.jw D a).top) aa aa aa aa aa (ak 2 aa (aL (ai (ae 1 aa ?_)))))))))
  refine bo (keyword F (hp.dZ D a).ok gS) aa aa aa aa aa (aX (aK aa (fun J=>?_) (fun J=>?_)))
  ·have j1:=(hp.dZ D a).top.kw gS
   have j2:=j1.top.d6 [hJ]
   refine ai (ae 2 aa (gD 47 47 aa aa (fun _=>⟨aa,aa⟩) (bo (bc F j1.ok [hJ] aq) aa aa aa aa aa (aX (an 2 aa (eO (bD 3 aa (nB (FG F j2.top) aa aa aa aa aa aa (bD 1 aa ?_)))))))))
   refine dy aa (eD (rows:=[]) (ys:=[[.i .i64 (((p.dZ D a).keyword gS).2.bc [hJ]).dU.1]]) aa aa aa (.bs (rows:=[[.i .i64 (((p.dZ D a).keyword gS).2.bc [hJ]).dU.1]]) aa) (b0 aa) (b0 aa) (fun _=>aa) (fun _=>aa) ?_)
   refine du 2 aa (bM ?_)
   obtain⟨l0,o5⟩:∃l0,l0=l:=⟨_,rfl⟩
   obtain⟨q0,q6⟩:∃q0,q0=q:=⟨_,rfl⟩
   rw[←q6] at O
   rw[←o5] at O⊢
   refine d7 (fun k VE B=>∃(l:List _)(q:PS),lg PS.dU k l q=(jG PS.dU (((p.dZ D a).keyword gS).2.bc [hJ]))∧l≠[]∧l.length≤q.aO+1∧(((p.dZ D a).keyword gS).2.bc [hJ]).aF.length≤k+q.aO∧b8 (((p.dZ D a).keyword gS).2.bc [hJ]) q∧bn [(0,.vp 1000 0),(4,.vp 4 0),(5,.vp 5 0)] VE∧bn (PS.bi q++[(5,.one 106 120 [dB (p.jk.keyword jE).1,dN,.ac 1102 (l0.map Item.enc).length 3,.d (.fC (((p.f5 D).kv D a).1.map Src.enc)),dI ((p.jw D a).eF D).1,dB true,.ac 1106 (l.map (fun i=>[DC.i .i64 i])).length 1]),(1102,.acc 167 32 3 (l0.map Item.enc)),(1106,.acc 3 8 1 (l.map (fun i=>[DC.i .i64 i]))),(4,.one 106 120 [dB false,dN,dN,dN,d0,dB false,dN])]) B) ?_ (k:=(((p.dZ D a).keyword gS).2.bc [hJ]).aF.length) ⟨[(PS.dU (((p.dZ D a).keyword gS).2.bc [hJ])).1],(PS.dU (((p.dZ D a).keyword gS).2.bc [hJ])).2,aa,qz _ _,nm (dp _),ku _ _,K _ j2.top,⟨aa,aa,aa,trivial⟩,dK aa aa ⟨aa,aa,aa,aa,trivial⟩⟩
   clear o5 q6
   rintro k VE B⟨l,q,z,U,jM,hk,A,hV,Y⟩
   refine eZ (PS.bi q++[(5,.one 106 120 [dB (p.jk.keyword jE).1,dN,.ac 1102 (l0.map Item.enc).length 3,.d (.fC (((p.f5 D).kv D a).1.map Src.enc)),dI ((p.jw D a).eF D).1,dB true,.ac 1106 (l.map (fun i=>[DC.i .i64 i])).length 1]),(1102,.acc 167 32 3 (l0.map Item.enc)),(1106,.acc 3 8 1 (l.map (fun i=>[DC.i .i64 i]))),(4,.one 106 120 [dB false,dN,dN,dN,d0,dB false,dN])]) Y ?_
   have Y:bn (PS.bi q++[(5,.one 106 120 [dB (p.jk.keyword jE).1,dN,.ac 1102 (l0.map Item.enc).length 3,.d (.fC (((p.f5 D).kv D a).1.map Src.enc)),dI ((p.jw D a).eF D).1,dB true,.ac 1106 (l.map (fun i=>[DC.i .i64 i])).length 1]),(1102,.acc 167 32 3 (l0.map Item.enc)),(1106,.acc 3 8 1 (l.map (fun i=>[DC.i .i64 i]))),(4,.one 106 120 [dB false,dN,dN,dN,d0,dB false,dN])]) (PS.bi q++[(5,.one 106 120 [dB (p.jk.keyword jE).1,dN,.ac 1102 (l0.map Item.enc).length 3,.d (.fC (((p.f5 D).kv D a).1.map Src.enc)),dI ((p.jw D a).eF D).1,dB true,.ac 1106 (l.map (fun i=>[DC.i .i64 i])).length 1]),(1102,.acc 167 32 3 (l0.map Item.enc)),(1106,.acc 3 8 1 (l.map (fun i=>[DC.i .i64 i]))),(4,.one 106 120 [dB false,dN,dN,dN,d0,dB false,dN])]):=dK rfl rfl ⟨rfl,rfl,rfl,rfl,trivial⟩
   have gM:q.aF.length=(((p.dZ D a).keyword gS).2.bc [hJ]).aF.length:=by rw[A.aF]
   refine db _ _ hV Y (aL (ai (ae 1 aa (bo (sign F A.ok cT) aa aa aa aa aa (aX (aK aa (fun I=>?_) (fun I=>?_)))))))
   ·have h2:=A.top.sign cT
    have G:=pB A.ok I
    have fZ:=A.ok.eG
    obtain⟨k,rfl⟩:∃k',k=k'+1:=⟨k-1,by have:=G.2;omega⟩
    rw[pC I] at z
    have h3:=h2.trans (K _ h2.top)
    refine aQ (bM (im (bD 3 aa (nB (FG F h2.top) aa aa aa aa aa aa (bD 1 aa ?_)))))
    refine dy rfl (eD (rows:=l.map (fun i=>[DC.i .i64 i])) (ys:=[[.i .i64 (PS.dU (q.sign cT).2).1]]) rfl rfl rfl (.bs (rows:=[[.i .i64 (PS.dU (q.sign cT).2).1]]) rfl) (b0 rfl) (by simp only[bE,ca,cV,dL];omega) (fun h=>by rw[h];rfl) (fun h=>by rw[h];rfl) ?_)
    refine du 2 aa (⟨k,gG k,l++[(PS.dU (q.sign cT).2).1],(PS.dU (q.sign cT).2).2,z,mX U _,?_,?_,A.trans h3,?_,?_⟩)
    ·have:=h3.aO;have:=G.1;have:=(K _ h2.top).aO;rw[bE,dY];show l.length+1≤(PS.dU (q.sign cT).2).2.aO+1;omega
    ·have:=(K _ h2.top).aO;have:=G.1;show(((p.dZ D a).keyword gS).2.bc [hJ]).aF.length≤k+(PS.dU (q.sign cT).2).2.aO;omega
    ·try simp only[dx,e7,gj]
     exact⟨aa,aa,aa,trivial⟩
    try simp only[dx,e7,gj]
    exact dK aa aa ⟨aa,aa,aa,aa,trivial⟩
   rw[pD I] at z
   rw[PS.iS I]
   have hG:(p.dZ D a).group=((true,l),q):=by unfold PS.group;rw[az J,←z]
   have hm:p.core D a=(⟨(p.jk.keyword jE).1,q.ex,l0,((p.f5 D).kv D a).1,((p.jw D a).eF D).1,true,l⟩,q):=by unfold PS.core;rw[hG,O]
   refine dJ (ai (ae 4 aa (fN 69 1050 aa aa (fun _=>⟨aa,aa⟩) (ak 2 aa (ai (jX 1000 5 aa aa (ae 1 aa ?_)))))))
   refine fN 71 1102 rfl rfl (by refine⟨trivial,trivial,?_,trivial,trivial,trivial,?_,trivial⟩<;>intro h<;>first|exact⟨rfl,rfl⟩|exact absurd h aq) ?_
   refine fN 71 1106 rfl rfl (by refine⟨trivial,trivial,trivial,trivial,trivial,trivial,?_,trivial⟩<;>intro h<;>first|exact⟨rfl,rfl⟩|exact absurd h aq) ?_
   refine ak 1 aa (ay ?_)
   rw[hm]
   exact⟨_,PS.bz _,aa,gm aa,aa,aa⟩
  have hG:(p.dZ D a).group=((false,[]),p.dZ D a):=by unfold PS.group;rw[al (by rw[J];decide)]
  have hm:p.core D a=(⟨(p.jk.keyword jE).1,(p.dZ D a).ex,l,((p.f5 D).kv D a).1,((p.jw D a).eF D).1,false,[]⟩,p.dZ D a):=by unfold PS.core;rw[hG,O]
  rw[PS.da J]
  refine aQ (ai (ae 4 aa (fN 69 1050 aa aa (fun _=>⟨aa,aa⟩) (ak 2 aa (ai (jX 1000 5 aa aa (ae 1 aa ?_)))))))
  refine fN 71 1102 rfl rfl (by refine⟨trivial,trivial,?_,trivial,trivial,trivial,?_,trivial⟩<;>intro h<;>first|exact⟨rfl,rfl⟩|exact absurd h aq) ?_
  refine fN 71 1106 rfl rfl (by refine⟨trivial,trivial,trivial,trivial,trivial,trivial,?_,trivial⟩<;>intro h<;>first|exact⟨rfl,rfl⟩|exact absurd h aq) ?_
  refine ak 1 aa (ay ?_)
  rw[hm]
  exact⟨_,PS.bz _,aa,gm aa,aa,aa⟩
 have GK:(p.fU.sign fv).1=true:=by simpa using qZ
 have O:p.fU.items D=([],(p.fU.sign fv).2):=by unfold PS.items;rw[az GK]
 obtain⟨l,hl⟩:∃l:List Item,[]=l:=⟨_,rfl⟩
 rw[hl] at O
 have A:=hp.fU.top.sign fv
 generalize (p.fU.sign fv).2=q at O A⊢
 refine aQ (ai ?_)
 refine eX (PS.bi q++[(5,.one 106 120 [dB (p.jk.keyword jE).1,dN,.ac 1102 (l.map Item.enc).length 3,dN,d0,dB false,.ac 1106 0 1]),(1102,.acc 167 32 3 (l.map Item.enc)),(1106,.acc 3 8 1 []),(4,.one 106 120 [dB false,dN,dN,dN,d0,dB false,dN])]) ?_ ?_; · exact dK rfl rfl ⟨by rw[←hl];rfl,by rw[←hl];rfl,rfl,rfl,trivial⟩
 have Kb:p.f5 D=q.bc [iO]:=by unfold PS.f5;rw[O]
 refine ae 2 aa (gD 35 35 aa aa (fun _=>⟨aa,aa⟩) (bo (bc F A.ok [iO] aq) aa aa aa aa aa (aX (ai ?_))))
 rw[←Kb]
 refine ae 2 aa (bo (On F Lf (hp.f5 D).top a) aa aa aa aa aa (ak 2 aa (ai (ae 1 aa (bo (ES F Lf (hp.jw D a).top) aa aa aa aa aa (ak 2 aa (aL (ai (ae 1 aa ?_)))))))))
 refine bo (keyword F (hp.dZ D a).ok gS) aa aa aa aa aa (aX (aK aa (fun J=>?_) (fun J=>?_)))
 ·have j1:=(hp.dZ D a).top.kw gS
  have j2:=j1.top.d6 [hJ]
  refine ai (ae 2 aa (gD 47 47 aa aa (fun _=>⟨aa,aa⟩) (bo (bc F j1.ok [hJ] aq) aa aa aa aa aa (aX (an 2 aa (eO (bD 3 aa (nB (FG F j2.top) aa aa aa aa aa aa (bD 1 aa ?_)))))))))
  refine dy aa (eD (rows:=[]) (ys:=[[.i .i64 (((p.dZ D a).keyword gS).2.bc [hJ]).dU.1]]) aa aa aa (.bs (rows:=[[.i .i64 (((p.dZ D a).keyword gS).2.bc [hJ]).dU.1]]) aa) (b0 aa) (b0 aa) (fun _=>aa) (fun _=>aa) ?_)
  refine du 2 aa (bM ?_)
  obtain⟨l0,o5⟩:∃l0,l0=l:=⟨_,rfl⟩
  obtain⟨q0,q6⟩:∃q0,q0=q:=⟨_,rfl⟩
  rw[←q6] at O
  rw[←o5] at O⊢
  refine d7 (fun k VE B=>∃(l:List _)(q:PS),lg PS.dU k l q=(jG PS.dU (((p.dZ D a).keyword gS).2.bc [hJ]))∧l≠[]∧l.length≤q.aO+1∧(((p.dZ D a).keyword gS).2.bc [hJ]).aF.length≤k+q.aO∧b8 (((p.dZ D a).keyword gS).2.bc [hJ]) q∧bn [(0,.vp 1000 0),(4,.vp 4 0),(5,.vp 5 0)] VE∧bn (PS.bi q++[(5,.one 106 120 [dB (p.jk.keyword jE).1,dN,.ac 1102 (l0.map Item.enc).length 3,.d (.fC (((p.f5 D).kv D a).1.map Src.enc)),dI ((p.jw D a).eF D).1,dB true,.ac 1106 (l.map (fun i=>[DC.i .i64 i])).length 1]),(1102,.acc 167 32 3 (l0.map Item.enc)),(1106,.acc 3 8 1 (l.map (fun i=>[DC.i .i64 i]))),(4,.one 106 120 [dB false,dN,dN,dN,d0,dB false,dN])]) B) ?_ (k:=(((p.dZ D a).keyword gS).2.bc [hJ]).aF.length) ⟨[(PS.dU (((p.dZ D a).keyword gS).2.bc [hJ])).1],(PS.dU (((p.dZ D a).keyword gS).2.bc [hJ])).2,aa,qz _ _,nm (dp _),ku _ _,K _ j2.top,⟨aa,aa,aa,trivial⟩,dK aa aa ⟨aa,aa,aa,aa,trivial⟩⟩
  clear o5 q6
  rintro k VE B⟨l,q,z,U,jM,hk,A,hV,Y⟩
  refine eZ (PS.bi q++[(5,.one 106 120 [dB (p.jk.keyword jE).1,dN,.ac 1102 (l0.map Item.enc).length 3,.d (.fC (((p.f5 D).kv D a).1.map Src.enc)),dI ((p.jw D a).eF D).1,dB true,.ac 1106 (l.map (fun i=>[DC.i .i64 i])).length 1]),(1102,.acc 167 32 3 (l0.map Item.enc)),(1106,.acc 3 8 1 (l.map (fun i=>[DC.i .i64 i]))),(4,.one 106 120 [dB false,dN,dN,dN,d0,dB false,dN])]) Y ?_
  have Y:bn (PS.bi q++[(5,.one 106 120 [dB (p.jk.keyword jE).1,dN,.ac 1102 (l0.map Item.enc).length 3,.d (.fC (((p.f5 D).kv D a).1.map Src.enc)),dI ((p.jw D a).eF D).1,dB true,.ac 1106 (l.map (fun i=>[DC.i .i64 i])).length 1]),(1102,.acc 167 32 3 (l0.map Item.enc)),(1106,.acc 3 8 1 (l.map (fun i=>[DC.i .i64 i]))),(4,.one 106 120 [dB false,dN,dN,dN,d0,dB false,dN])]) (PS.bi q++[(5,.one 106 120 [dB (p.jk.keyword jE).1,dN,.ac 1102 (l0.map Item.enc).length 3,.d (.fC (((p.f5 D).kv D a).1.map Src.enc)),dI ((p.jw D a).eF D).1,dB true,.ac 1106 (l.map (fun i=>[DC.i .i64 i])).length 1]),(1102,.acc 167 32 3 (l0.map Item.enc)),(1106,.acc 3 8 1 (l.map (fun i=>[DC.i .i64 i]))),(4,.one 106 120 [dB false,dN,dN,dN,d0,dB false,dN])]):=dK rfl rfl ⟨rfl,rfl,rfl,rfl,trivial⟩
  have gM:q.aF.length=(((p.dZ D a).keyword gS).2.bc [hJ]).aF.length:=by rw[A.aF]
  refine db _ _ hV Y (aL (ai (ae 1 aa (bo (sign F A.ok cT) aa aa aa aa aa (aX (aK aa (fun I=>?_) (fun I=>?_)))))))
  ·have h2:=A.top.sign cT
   have G:=pB A.ok I
   have fZ:=A.ok.eG
   obtain⟨k,rfl⟩:∃k',k=k'+1:=⟨k-1,by have:=G.2;omega⟩
   rw[pC I] at z
   have h3:=h2.trans (K _ h2.top)
   refine aQ (bM (im (bD 3 aa (nB (FG F h2.top) aa aa aa aa aa aa (bD 1 aa ?_)))))
   refine dy rfl (eD (rows:=l.map (fun i=>[DC.i .i64 i])) (ys:=[[.i .i64 (PS.dU (q.sign cT).2).1]]) rfl rfl rfl (.bs (rows:=[[.i .i64 (PS.dU (q.sign cT).2).1]]) rfl) (b0 rfl) (by simp only[bE,ca,cV,dL];omega) (fun h=>by rw[h];rfl) (fun h=>by rw[h];rfl) ?_)
   refine du 2 aa (⟨k,gG k,l++[(PS.dU (q.sign cT).2).1],(PS.dU (q.sign cT).2).2,z,mX U _,?_,?_,A.trans h3,?_,?_⟩)
   ·have:=h3.aO;have:=G.1;have:=(K _ h2.top).aO;rw[bE,dY];show l.length+1≤(PS.dU (q.sign cT).2).2.aO+1;omega
   ·have:=(K _ h2.top).aO;have:=G.1;show(((p.dZ D a).keyword gS).2.bc [hJ]).aF.length≤k+(PS.dU (q.sign cT).2).2.aO;omega
   ·try simp only[dx,e7,gj]
    exact⟨aa,aa,aa,trivial⟩
   try simp only[dx,e7,gj]
   exact dK aa aa ⟨aa,aa,aa,aa,trivial⟩
  rw[pD I] at z
  rw[PS.iS I]
  have hG:(p.dZ D a).group=((true,l),q):=by unfold PS.group;rw[az J,←z]
  have hm:p.core D a=(⟨(p.jk.keyword jE).1,q.ex,l0,((p.f5 D).kv D a).1,((p.jw D a).eF D).1,true,l⟩,q):=by unfold PS.core;rw[hG,O]
  refine dJ (ai (ae 4 aa (fN 69 1050 aa aa (fun _=>⟨aa,aa⟩) (ak 2 aa (ai (jX 1000 5 aa aa (ae 1 aa ?_)))))))
  refine fN 71 1102 rfl rfl (by refine⟨trivial,trivial,?_,trivial,trivial,trivial,?_,trivial⟩<;>intro h<;>first|exact⟨rfl,rfl⟩|exact absurd h aq) ?_
  refine fN 71 1106 rfl rfl (by refine⟨trivial,trivial,trivial,trivial,trivial,trivial,?_,trivial⟩<;>intro h<;>first|exact⟨rfl,rfl⟩|exact absurd h aq) ?_
  refine ak 1 aa (ay ?_)
  rw[hm]
  exact⟨_,PS.bz _,aa,gm aa,aa,aa⟩
 have hG:(p.dZ D a).group=((false,[]),p.dZ D a):=by unfold PS.group;rw[al (by rw[J];decide)]
 have hm:p.core D a=(⟨(p.jk.keyword jE).1,(p.dZ D a).ex,l,((p.f5 D).kv D a).1,((p.jw D a).eF D).1,false,[]⟩,p.dZ D a):=by unfold PS.core;rw[hG,O]
 rw[PS.da J]
 refine aQ (ai (ae 4 aa (fN 69 1050 aa aa (fun _=>⟨aa,aa⟩) (ak 2 aa (ai (jX 1000 5 aa aa (ae 1 aa ?_)))))))
 refine fN 71 1102 rfl rfl (by refine⟨trivial,trivial,?_,trivial,trivial,trivial,?_,trivial⟩<;>intro h<;>first|exact⟨rfl,rfl⟩|exact absurd h aq) ?_
 refine fN 71 1106 rfl rfl (by refine⟨trivial,trivial,trivial,trivial,trivial,trivial,?_,trivial⟩<;>intro h<;>first|exact⟨rfl,rfl⟩|exact absurd h aq) ?_
 refine ak 1 aa (ay ?_)
 rw[hm]
 exact⟨_,PS.bz _,aa,gm aa,aa,aa⟩
theorem xF{T:bd}(F:FT T){D:Rd}(Lf:iF T D){p:PS}(hp:bk p)(a:Bool):cg T 64 [.vp 1000 0,dB a] (PS.bz p) fun r Bn=>r=eU (p.dj D a).1.enc∧Bn=PS.bz (p.dj D a).2:=by
 refine cL F.f64 aa (an 1 aa (ai (ae 2 aa (eA (coreC F Lf hp a) aa aa aa aa (ae 2 aa (s7 10 1 1101 3 8 1 aa aa aa (ak 2 aa (bM (d7 (fun k VE B=>∃(s:jW)(q:PS),qR D a k s q=p.dj D a∧s.gB≠[]∧s.gB.length≤q.aO+1∧s.ops.length≤q.aO+1∧p.aF.length≤k+q.aO∧b8 p q∧bn [(0,.vp 1000 0),(1,dB a),(4,.vp 4 0),(5,.vp 5 0)] VE∧bn (PS.bz q++[(5,.one 39 48 [.bs 9 (s.gB.map Core.enc).length 7,.ac 1101 (s.ops.map (fun i=>[DC.i .i64 i])).length 1]),(9,.arr 106 120 7 (s.gB.map Core.enc).length (s.gB.map Core.enc)),(1101,.acc 3 8 1 (s.ops.map (fun i=>[DC.i .i64 i]))),(4,.one 39 48 [dN,dN])]) B) ?_ (k:=p.aF.length) ⟨⟨[(p.core D a).1],[]⟩,(p.core D a).2,aa,qz _ _,nm (dp _),dp _,ku _ _,hp.core D a,⟨aa,aa,aa,aa,trivial⟩,gL aa ⟨aa,aa,aa,aa,trivial⟩⟩)))))))))
 rintro k VE B⟨s,q,z,Z,jM,uu,hk,O,hV,hB⟩
 refine eZ (PS.bz q++[(5,.one 39 48 [.bs 9 (s.gB.map Core.enc).length 7,.ac 1101 (s.ops.map (fun i=>[DC.i .i64 i])).length 1]),(9,.arr 106 120 7 (s.gB.map Core.enc).length (s.gB.map Core.enc)),(1101,.acc 3 8 1 (s.ops.map (fun i=>[DC.i .i64 i]))),(4,.one 39 48 [dN,dN])]) hB ?_
 have hB:bn (PS.bz q++[(5,.one 39 48 [.bs 9 (s.gB.map Core.enc).length 7,.ac 1101 (s.ops.map (fun i=>[DC.i .i64 i])).length 1]),(9,.arr 106 120 7 (s.gB.map Core.enc).length (s.gB.map Core.enc)),(1101,.acc 3 8 1 (s.ops.map (fun i=>[DC.i .i64 i]))),(4,.one 39 48 [dN,dN])]) (PS.bz q++[(5,.one 39 48 [.bs 9 (s.gB.map Core.enc).length 7,.ac 1101 (s.ops.map (fun i=>[DC.i .i64 i])).length 1]),(9,.arr 106 120 7 (s.gB.map Core.enc).length (s.gB.map Core.enc)),(1101,.acc 3 8 1 (s.ops.map (fun i=>[DC.i .i64 i]))),(4,.one 39 48 [dN,dN])]):=gL rfl ⟨rfl,rfl,rfl,rfl,trivial⟩
 have gM:q.aF.length=p.aF.length:=by rw[O.aF]
 have fZ:=O.ok.eG
 refine db _ _ hV hB (bM (aL (bM (ai (ae 1 aa (eA (oo F O.ok vg) aa aa aa aa (ak 1 aa (aK aa (fun J=>?_) (fun J=>?_)))))))))
 ·have K:q.op=some (6,(q.keyword vg).2):=by unfold PS.op;rw[az J]
  obtain⟨A,U,kC⟩:=O.top.op K
  obtain⟨k,rfl⟩:∃k',k=k'+1:=⟨k-1,ah⟩
  rw[wE K] at z
  generalize (q.keyword vg).2=G at K A U z⊢
  have I:=A.top.d6 [hY]
  have g2:=I.top.core D a
  have ga:=I.aO
  have gb:=g2.aO
  refine bC (ae 3 aa ?_)
  refine aj (eD (rows:=(s.ops.map (fun i=>[DC.i .i64 i]))) (ys:=[[.i .i64 6]]) rfl rfl rfl (.bs (rows:=[[.i .i64 6]]) rfl) (b0 rfl) (by simp only[bE,ca,cV,dL];omega) (fun h=>by rw[h];rfl) (fun h=>by rw[h];rfl) ?_)
  refine ak 2 aa (ai (ae 2 aa (gD 37 37 aa aa (fun _=>⟨aa,aa⟩) (eA (rR F A.ok [hY] aq) aa aa aa aa (aX (im (bD 4 aa (JB (coreC F Lf I.top a) aa aa aa aa aa (bD 1 aa ?_)))))))))
  refine dy rfl (ot (rows:=s.gB.map Core.enc) (ys:=[((G.bc [hY]).core D a).1.enc]) rfl rfl rfl (.bs (rows:=[((G.bc [hY]).core D a).1.enc]) rfl) (b0 rfl) (by simp only[bE,ca,cV,dL];omega) ?_)
  refine du 2 aa (⟨k,gG k,⟨s.gB++[((G.bc [hY]).core D a).1],s.ops++[6]⟩,((G.bc [hY]).core D a).2,z,mX Z _,?_,?_,?_,(O.trans A).trans (I.trans g2),?_,?_⟩)
  ·rw[bE,dY];omega
  ·rw[bE,dY];omega
  ·omega
  ·exact⟨aa,aa,aa,aa,trivial⟩
  simp only[dx,e7,gj]
  exact gL aa ⟨aa,aa,aa,aa,trivial⟩
 rw[PS.da J]
 refine ai (ae 1 aa (eA (oo F O.ok uZ) aa aa aa aa (ak 1 aa (aK aa (fun Y=>?_) (fun Y=>?_)))))
 ·have K:q.op=some (7,(q.keyword uZ).2):=by unfold PS.op;rw[al (by rw[J];decide),az Y]
  obtain⟨A,U,kC⟩:=O.top.op K
  obtain⟨k,rfl⟩:∃k',k=k'+1:=⟨k-1,ah⟩
  rw[wE K] at z
  generalize (q.keyword uZ).2=G at K A U z⊢
  have I:=A.top.d6 [hY]
  have g2:=I.top.core D a
  have ga:=I.aO
  have gb:=g2.aO
  refine bC (ae 3 aa ?_)
  refine aj (eD (rows:=(s.ops.map (fun i=>[DC.i .i64 i]))) (ys:=[[.i .i64 7]]) rfl rfl rfl (.bs (rows:=[[.i .i64 7]]) rfl) (b0 rfl) (by simp only[bE,ca,cV,dL];omega) (fun h=>by rw[h];rfl) (fun h=>by rw[h];rfl) ?_)
  refine ak 2 aa (ai (ae 2 aa (gD 37 37 aa aa (fun _=>⟨aa,aa⟩) (eA (rR F A.ok [hY] aq) aa aa aa aa (aX (im (bD 4 aa (JB (coreC F Lf I.top a) aa aa aa aa aa (bD 1 aa ?_)))))))))
  refine dy rfl (ot (rows:=s.gB.map Core.enc) (ys:=[((G.bc [hY]).core D a).1.enc]) rfl rfl rfl (.bs (rows:=[((G.bc [hY]).core D a).1.enc]) rfl) (b0 rfl) (by simp only[bE,ca,cV,dL];omega) ?_)
  refine du 2 aa (⟨k,gG k,⟨s.gB++[((G.bc [hY]).core D a).1],s.ops++[7]⟩,((G.bc [hY]).core D a).2,z,mX Z _,?_,?_,?_,(O.trans A).trans (I.trans g2),?_,?_⟩)
  ·rw[bE,dY];omega
  ·rw[bE,dY];omega
  ·omega
  ·exact⟨aa,aa,aa,aa,trivial⟩
  simp only[dx,e7,gj]
  exact gL aa ⟨aa,aa,aa,aa,trivial⟩
 rw[PS.da Y]
 refine ai (ae 1 aa (eA (oo F O.ok uI) aa aa aa aa (ak 1 aa (aK aa (fun GL=>?_) (fun GL=>?_)))))
 ·have K:q.op=some (8,(q.keyword uI).2):=by unfold PS.op;rw[al (by rw[J];decide),al (by rw[Y];decide),az GL]
  obtain⟨A,U,kC⟩:=O.top.op K
  obtain⟨k,rfl⟩:∃k',k=k'+1:=⟨k-1,ah⟩
  rw[wE K] at z
  generalize (q.keyword uI).2=G at K A U z⊢
  have I:=A.top.d6 [hY]
  have g2:=I.top.core D a
  have ga:=I.aO
  have gb:=g2.aO
  refine bC (ae 3 aa ?_)
  refine aj (eD (rows:=(s.ops.map (fun i=>[DC.i .i64 i]))) (ys:=[[.i .i64 8]]) rfl rfl rfl (.bs (rows:=[[.i .i64 8]]) rfl) (b0 rfl) (by simp only[bE,ca,cV,dL];omega) (fun h=>by rw[h];rfl) (fun h=>by rw[h];rfl) ?_)
  refine ak 2 aa (ai (ae 2 aa (gD 37 37 aa aa (fun _=>⟨aa,aa⟩) (eA (rR F A.ok [hY] aq) aa aa aa aa (aX (im (bD 4 aa (JB (coreC F Lf I.top a) aa aa aa aa aa (bD 1 aa ?_)))))))))
  refine dy rfl (ot (rows:=s.gB.map Core.enc) (ys:=[((G.bc [hY]).core D a).1.enc]) rfl rfl rfl (.bs (rows:=[((G.bc [hY]).core D a).1.enc]) rfl) (b0 rfl) (by simp only[bE,ca,cV,dL];omega) ?_)
  refine du 2 aa (⟨k,gG k,⟨s.gB++[((G.bc [hY]).core D a).1],s.ops++[8]⟩,((G.bc [hY]).core D a).2,z,mX Z _,?_,?_,?_,(O.trans A).trans (I.trans g2),?_,?_⟩)
  ·rw[bE,dY];omega
  ·rw[bE,dY];omega
  ·omega
  ·exact⟨aa,aa,aa,aa,trivial⟩
  simp only[dx,e7,gj]
  exact gL aa ⟨aa,aa,aa,aa,trivial⟩
 have K:q.op=none:=by unfold PS.op;rw[al (by rw[J];decide),al (by rw[Y];decide),al (by rw[GL];decide)]
 rw[DT K] at z
 rw[PS.da GL]
 refine ai (ae 1 aa (gD 11 9 aa aa fJ (fN 11 1101 aa aa fJ (ak 1 aa (ay ?_)))))
 rw[←z]
 unfold jW.enc
 rw[DC.rT (rows:=s.gB.map Core.enc) (by simpa using Z)]
 exact⟨_,PS.bz _,aa,gm aa,aa,aa⟩
theorem Xq{T:bd}(F:FT T){D:Rd}(K:iF T D){p:PS}(hp:bk p):cg T 131 [.vp 1000 0] (PS.bz p) fun r Bn=>r=eU (p.query D).1.enc∧Bn=PS.bz (p.query D).2:=by
 refine cL F.abt aa (an 1 aa (an 3 aa (aL (bM (ai (ae 1 aa (eA (oo F hp.ok po) aa aa aa aa (ak 1 aa (aK aa (fun h5=>?_) (fun h5=>?_))))))))))
 ·obtain⟨m,A⟩:∃m:Int,2=m:=⟨_,rfl⟩
  have O:p.mode=(m,(p.keyword po).2):=by unfold PS.mode;rw[az h5,A]
  have U:=hp.kw po
  generalize (p.keyword po).2=q at O U⊢
  refine bC (ak 2 aa (ai ?_))
  refine eX (PS.bz q++[(3,.one 50 328 [dI 1,dI m,dI (-1),dI 1099511627776,dN,dN,dS [],dS [],dN,d0,d0,dN,d0,dN,dN,dN,dN,dN,d0,d0,d0]),(2,.one 50 328 zS)]) ?_ ?_; · exact gL rfl ⟨by rw[←A];rfl,rfl,trivial⟩
  refine ae 1 aa (eA (xF F K U.top true) aa aa aa aa (ak 2 aa (aL (ai ?_))))
  have J:=U.top.dj D true
  refine ae 1 aa (eA (oo F J.ok kj) aa aa aa aa (aX (aK aa (fun z=>?_) (fun z=>?_))))
  ·have G:(q.dj D true).2.g7 D=(((q.dj D true).2.keyword kj).2.bc [kA]).day D:=by unfold PS.g7;rw[az z]
   have Y:=J.top.kw kj
   have Z:=Y.top.d6 [kA]
   have I:=J.top.g7 D
   rw[G] at I
   refine ai (ae 2 aa (gD 27 27 aa aa (fun _=>⟨aa,aa⟩) (eA (rR F Y.ok [kA] aq) aa aa aa aa (aX (bC (ae 1 aa (eA (Al F K Z.st) aa aa aa aa (ak 2 aa (ai ?_)))))))))
   refine ae 1 aa (eA (rq F K I.top) aa aa aa aa (ak 2 aa (an 2 aa (ay ?_))))
   unfold PS.query
   rw[O,G]
   exact⟨_,PS.bz _,aa,gm aa,aa,aa⟩
  have G:(q.dj D true).2.g7 D=(-1,(q.dj D true).2):=by unfold PS.g7;rw[al (by rw[z];decide)]
  rw[PS.da z]
  have I:=J.top.g7 D
  rw[G] at I
  refine aQ (ai (ae 1 aa (eA (rq F K I.top) aa aa aa aa (ak 2 aa (an 2 aa (ay ?_))))))
  unfold PS.query
  rw[O,G]
  exact⟨_,PS.bz _,aa,gm aa,aa,aa⟩
 rw[PS.da h5]
 refine ai (ae 1 aa (eA (oo F hp.ok pn) aa aa aa aa (ak 1 aa (aK aa (fun h9=>?_) (fun h9=>?_)))))
 ·obtain⟨m,A⟩:∃m:Int,3=m:=⟨_,rfl⟩
  have O:p.mode=(m,(p.keyword pn).2):=by unfold PS.mode;rw[al (by rw[h5];decide),az h9,A]
  have U:=hp.kw pn
  generalize (p.keyword pn).2=q at O U⊢
  refine bC (ak 2 aa (ai ?_))
  refine eX (PS.bz q++[(3,.one 50 328 [dI 1,dI m,dI (-1),dI 1099511627776,dN,dN,dS [],dS [],dN,d0,d0,dN,d0,dN,dN,dN,dN,dN,d0,d0,d0]),(2,.one 50 328 zS)]) ?_ ?_; · exact gL rfl ⟨by rw[←A];rfl,rfl,trivial⟩
  refine ae 1 aa (eA (xF F K U.top true) aa aa aa aa (ak 2 aa (aL (ai ?_))))
  have J:=U.top.dj D true
  refine ae 1 aa (eA (oo F J.ok kj) aa aa aa aa (aX (aK aa (fun z=>?_) (fun z=>?_))))
  ·have G:(q.dj D true).2.g7 D=(((q.dj D true).2.keyword kj).2.bc [kA]).day D:=by unfold PS.g7;rw[az z]
   have Y:=J.top.kw kj
   have Z:=Y.top.d6 [kA]
   have I:=J.top.g7 D
   rw[G] at I
   refine ai (ae 2 aa (gD 27 27 aa aa (fun _=>⟨aa,aa⟩) (eA (rR F Y.ok [kA] aq) aa aa aa aa (aX (bC (ae 1 aa (eA (Al F K Z.st) aa aa aa aa (ak 2 aa (ai ?_)))))))))
   refine ae 1 aa (eA (rq F K I.top) aa aa aa aa (ak 2 aa (an 2 aa (ay ?_))))
   unfold PS.query
   rw[O,G]
   exact⟨_,PS.bz _,aa,gm aa,aa,aa⟩
  have G:(q.dj D true).2.g7 D=(-1,(q.dj D true).2):=by unfold PS.g7;rw[al (by rw[z];decide)]
  rw[PS.da z]
  have I:=J.top.g7 D
  rw[G] at I
  refine aQ (ai (ae 1 aa (eA (rq F K I.top) aa aa aa aa (ak 2 aa (an 2 aa (ay ?_))))))
  unfold PS.query
  rw[O,G]
  exact⟨_,PS.bz _,aa,gm aa,aa,aa⟩
 rw[PS.da h9]
 refine ai (ae 1 aa (eA (oo F hp.ok pr) aa aa aa aa (ak 1 aa (aK aa (fun bQ=>?_) (fun bQ=>?_)))))
 ·obtain⟨m,A⟩:∃m:Int,4=m:=⟨_,rfl⟩
  have O:p.mode=(m,(p.keyword pr).2):=by unfold PS.mode;rw[al (by rw[h5];decide),al (by rw[h9];decide),az bQ,A]
  have U:=hp.kw pr
  generalize (p.keyword pr).2=q at O U⊢
  refine bC (ak 2 aa (ai ?_))
  refine eX (PS.bz q++[(3,.one 50 328 [dI 1,dI m,dI (-1),dI 1099511627776,dN,dN,dS [],dS [],dN,d0,d0,dN,d0,dN,dN,dN,dN,dN,d0,d0,d0]),(2,.one 50 328 zS)]) ?_ ?_; · exact gL rfl ⟨by rw[←A];rfl,rfl,trivial⟩
  refine ae 1 aa (eA (xF F K U.top true) aa aa aa aa (ak 2 aa (aL (ai ?_))))
  have J:=U.top.dj D true
  refine ae 1 aa (eA (oo F J.ok kj) aa aa aa aa (aX (aK aa (fun z=>?_) (fun z=>?_))))
  ·have G:(q.dj D true).2.g7 D=(((q.dj D true).2.keyword kj).2.bc [kA]).day D:=by unfold PS.g7;rw[az z]
   have Y:=J.top.kw kj
   have Z:=Y.top.d6 [kA]
   have I:=J.top.g7 D
   rw[G] at I
   refine ai (ae 2 aa (gD 27 27 aa aa (fun _=>⟨aa,aa⟩) (eA (rR F Y.ok [kA] aq) aa aa aa aa (aX (bC (ae 1 aa (eA (Al F K Z.st) aa aa aa aa (ak 2 aa (ai ?_)))))))))
   refine ae 1 aa (eA (rq F K I.top) aa aa aa aa (ak 2 aa (an 2 aa (ay ?_))))
   unfold PS.query
   rw[O,G]
   exact⟨_,PS.bz _,aa,gm aa,aa,aa⟩
  have G:(q.dj D true).2.g7 D=(-1,(q.dj D true).2):=by unfold PS.g7;rw[al (by rw[z];decide)]
  rw[PS.da z]
  have I:=J.top.g7 D
  rw[G] at I
  refine aQ (ai (ae 1 aa (eA (rq F K I.top) aa aa aa aa (ak 2 aa (an 2 aa (ay ?_))))))
  unfold PS.query
  rw[O,G]
  exact⟨_,PS.bz _,aa,gm aa,aa,aa⟩
 rw[PS.da bQ]
 refine ai (ae 1 aa (eA (oo F hp.ok pj) aa aa aa aa (ak 1 aa (aK aa (fun qZ=>?_) (fun qZ=>?_)))))
 ·obtain⟨m,A⟩:∃m:Int,5=m:=⟨_,rfl⟩
  have O:p.mode=(m,(p.keyword pj).2):=by unfold PS.mode;rw[al (by rw[h5];decide),al (by rw[h9];decide),al (by rw[bQ];decide),az qZ,A]
  have U:=hp.kw pj
  generalize (p.keyword pj).2=q at O U⊢
  refine bC (ak 2 aa (ai ?_))
  refine eX (PS.bz q++[(3,.one 50 328 [dI 1,dI m,dI (-1),dI 1099511627776,dN,dN,dS [],dS [],dN,d0,d0,dN,d0,dN,dN,dN,dN,dN,d0,d0,d0]),(2,.one 50 328 zS)]) ?_ ?_; · exact gL rfl ⟨by rw[←A];rfl,rfl,trivial⟩
  refine ae 1 aa (eA (xF F K U.top true) aa aa aa aa (ak 2 aa (aL (ai ?_))))
  have J:=U.top.dj D true
  refine ae 1 aa (eA (oo F J.ok kj) aa aa aa aa (aX (aK aa (fun z=>?_) (fun z=>?_))))
  ·have G:(q.dj D true).2.g7 D=(((q.dj D true).2.keyword kj).2.bc [kA]).day D:=by unfold PS.g7;rw[az z]
   have Y:=J.top.kw kj
   have Z:=Y.top.d6 [kA]
   have I:=J.top.g7 D
   rw[G] at I
   refine ai (ae 2 aa (gD 27 27 aa aa (fun _=>⟨aa,aa⟩) (eA (rR F Y.ok [kA] aq) aa aa aa aa (aX (bC (ae 1 aa (eA (Al F K Z.st) aa aa aa aa (ak 2 aa (ai ?_)))))))))
   refine ae 1 aa (eA (rq F K I.top) aa aa aa aa (ak 2 aa (an 2 aa (ay ?_))))
   unfold PS.query
   rw[O,G]
   exact⟨_,PS.bz _,aa,gm aa,aa,aa⟩
  have G:(q.dj D true).2.g7 D=(-1,(q.dj D true).2):=by unfold PS.g7;rw[al (by rw[z];decide)]
  rw[PS.da z]
  have I:=J.top.g7 D
  rw[G] at I
  refine aQ (ai (ae 1 aa (eA (rq F K I.top) aa aa aa aa (ak 2 aa (an 2 aa (ay ?_))))))
  unfold PS.query
  rw[O,G]
  exact⟨_,PS.bz _,aa,gm aa,aa,aa⟩
 rw[PS.da qZ]
 obtain⟨m,A⟩:∃m:Int,1=m:=⟨_,rfl⟩
 obtain⟨q,q6⟩:∃q,p=q:=⟨_,rfl⟩
 have O:p.mode=(m,q):=by unfold PS.mode;rw[al (by rw[h5];decide),al (by rw[h9];decide),al (by rw[bQ];decide),al (by rw[qZ];decide),A,q6]
 have U:b8 p q:=by rw[←q6];exact .refl hp
 refine aQ (ai ?_)
 refine eX (PS.bz q++[(3,.one 50 328 [dI 1,dI m,dI (-1),dI 1099511627776,dN,dN,dS [],dS [],dN,d0,d0,dN,d0,dN,dN,dN,dN,dN,d0,d0,d0]),(2,.one 50 328 zS)]) ?_ ?_; · exact gL (by rw[←q6];rfl) ⟨by rw[←A];rfl,rfl,trivial⟩
 refine ae 1 aa (eA (xF F K U.top true) aa aa aa aa (ak 2 aa (aL (ai ?_))))
 have J:=U.top.dj D true
 refine ae 1 aa (eA (oo F J.ok kj) aa aa aa aa (aX (aK aa (fun z=>?_) (fun z=>?_))))
 ·have G:(q.dj D true).2.g7 D=(((q.dj D true).2.keyword kj).2.bc [kA]).day D:=by unfold PS.g7;rw[az z]
  have Y:=J.top.kw kj
  have Z:=Y.top.d6 [kA]
  have I:=J.top.g7 D
  rw[G] at I
  refine ai (ae 2 aa (gD 27 27 aa aa (fun _=>⟨aa,aa⟩) (eA (rR F Y.ok [kA] aq) aa aa aa aa (aX (bC (ae 1 aa (eA (Al F K Z.st) aa aa aa aa (ak 2 aa (ai ?_)))))))))
  refine ae 1 aa (eA (rq F K I.top) aa aa aa aa (ak 2 aa (an 2 aa (ay ?_))))
  unfold PS.query
  rw[O,G]
  exact⟨_,PS.bz _,aa,gm aa,aa,aa⟩
 have G:(q.dj D true).2.g7 D=(-1,(q.dj D true).2):=by unfold PS.g7;rw[al (by rw[z];decide)]
 rw[PS.da z]
 have I:=J.top.g7 D
 rw[G] at I
 refine aQ (ai (ae 1 aa (eA (rq F K I.top) aa aa aa aa (ak 2 aa (an 2 aa (ay ?_))))))
 unfold PS.query
 rw[O,G]
 exact⟨_,PS.bz _,aa,gm aa,aa,aa⟩
theorem Yn{T:bd}(F:FT T){D:Rd}(z:iF T D){p:PS}(hp:bk p):cg T 127 [.vp 1000 0] (PS.bz p) fun r Bn=>r=eU (p.rH D).1.enc∧Bn=PS.bz (p.rH D).2:=by
 refine cL F.abq aa (an 1 aa (ai (ae 1 aa (eA (xF F z hp false) aa aa aa aa (ak 3 aa (ai (ae 2 aa (gD 8 8 aa aa (fun _=>⟨aa,aa⟩) (eA (rR F (hp.dj D false).ok [kj,kA] aq) aa aa aa aa ?_)))))))))
 refine aX (ai (ae 1 aa (eA (Al F z (hp.sv D).st) aa aa aa aa (ak 2 aa (ai (ae 1 aa (eA (rq F z ((hp.sv D).top.day D).top) aa aa aa aa (ak 2 aa (an 2 aa ?_)))))))))
 exact ay (⟨_,PS.bz (p.rH D).2,aa,gm aa,aa,aa⟩)
theorem Yo{T:bd}(F:FT T){D:Rd}(A:iF T D){p:PS}(hp:bk p):cg T 128 [.vp 1000 0] (PS.bi p) fun r Bn=>r=eU p.hold.1.enc∧Bn=PS.bi p.hold.2:=by
 refine cL F.abr aa (an 1 aa (ai (ae 1 aa (bo (number F A hp.st (-1)) aa aa aa aa aa (ak 3 aa (ai (ae 2 aa (gD 8 8 aa aa (fun _=>⟨aa,aa⟩) (bo (bc F (hp.number _).ok [iO] aq) aa aa aa aa aa ?_)))))))))
 refine aX (ai (ae 1 aa (bo (number F A hp.mC.st (-1)) aa aa aa aa aa (ak 3 aa (ai (ae 2 aa (gD 15 15 aa aa (fun _=>⟨aa,aa⟩) (bo (bc F (hp.mC.top.number _).ok [Ka] aq) aa aa aa aa aa (aX ?_)))))))))
 refine aL (ai (ae 1 aa (bo (keyword F hp.m6.ok yL) aa aa aa aa aa (aX (aK aa (fun z=>?_) (fun z=>?_))))))
 ·have G:p.qJ=(1099511627776,(p.m6.keyword yL).2):=by unfold PS.qJ;rw[az z]
  refine bC (ak 3 aa (an 2 aa (ay ?_)))
  unfold PS.hold
  rw[G]
  exact⟨_,PS.bi _,aa,cX aa aa,aa,aa⟩
 have G:p.qJ=p.m6.number (p.mC.number (-1)).1:=by unfold PS.qJ;rw[al (by rw[z];decide)]
 rw[PS.da z]
 refine bC (ae 4 aa (bo (number F A hp.m6.st (p.mC.number (-1)).1) aa aa aa aa aa (ak 3 aa (an 2 aa (ay ?_)))))
 unfold PS.hold
 rw[G]
 exact⟨_,PS.bi _,aa,cX aa aa,aa,aa⟩
theorem insertC{T:bd}(F:FT T){D:Rd}(K:iF T D){p:PS}(hp:bk p):cg T 122 [.vp 1000 0] (PS.bi p) fun r Bn=>r=eU (p.insert D).1.enc∧Bn=PS.bi (p.insert D).2:=by
 refine cL F.abl aa ?_
 have G:∀x:PS,bk x→b8 x (PS.literal x D).2:=fun _ h=>h.literal D
 refine an 1 aa (ai (ae 2 aa (gD 5 5 aa aa (fun _=>⟨aa,aa⟩) (bo (bc F hp.ok [mi] aq) aa aa aa aa aa (aX (ai (ae 1 aa (bo (name F (hp.d6 [mi]).st) aa aa aa aa aa (ae 1 aa ?_)))))))))
 refine s7 9 8 1108 92 32 3 aa aa aa (ak 2 aa (ai (ae 2 aa (gD 11 11 aa aa (fun _=>⟨aa,aa⟩) (bo (bc F hp.lM.ok [ma] aq) aa aa aa aa aa (aX (ai (ae 1 aa (bo (bJ F (hp.lM.top.d6 [ma]).ok cE) aa aa aa aa aa ?_)))))))))
 refine aX (eO (bD 3 aa (nB (literal F K hp.tQ.st) aa aa aa aa aa aa (bD 1 aa (dy aa (eD (rows:=[]) (ys:=[(((p.lM.bc [ma]).bJ cE).literal D).1.enc]) aa aa aa (.bs (rows:=[(((p.lM.bc [ma]).bJ cE).literal D).1.enc]) aa) (b0 aa) (b0 aa) (fun _=>aa) (fun _=>aa) ?_))))))
 refine du 2 aa (aL (bM (d7 (fun k VE B=>∃(l:List _)(q:PS),lg (fun p=>PS.literal p D) k l q=(jG (fun p=>PS.literal p D) ((p.lM.bc [ma]).bJ cE))∧l≠[]∧l.length≤q.aO+1∧((p.lM.bc [ma]).bJ cE).aF.length≤k+q.aO∧b8 ((p.lM.bc [ma]).bJ cE) q∧bn [(0,.vp 1000 0),(2,.vp 2 0),(3,.vp 3 0)] VE∧bn (PS.bi q++[(3,.one 50 328 [dI 2,d0,d0,d0,dN,dN,dS (p.bc [mi]).name.1,dS [],.ac 1108 (l.map iA.enc).length 3,d0,d0,dN,d0,dN,dN,dN,dN,dN,d0,d0,d0]),(1108,.acc 92 32 3 (l.map iA.enc)),(2,.one 50 328 zS)]) B) ?_ (k:=((p.lM.bc [ma]).bJ cE).aF.length) ⟨[(PS.literal ((p.lM.bc [ma]).bJ cE) D).1],(PS.literal ((p.lM.bc [ma]).bJ cE) D).2,aa,qz _ _,nm (dp _),ku _ _,G _ hp.tQ.top,⟨aa,aa,aa,trivial⟩,dK aa aa ⟨aa,aa,aa,trivial⟩⟩)))
 rintro k VE B⟨l,q,z,O,jM,hk,I,hV,U⟩
 refine eZ (PS.bi q++[(3,.one 50 328 [dI 2,d0,d0,d0,dN,dN,dS (p.bc [mi]).name.1,dS [],.ac 1108 (l.map iA.enc).length 3,d0,d0,dN,d0,dN,dN,dN,dN,dN,d0,d0,d0]),(1108,.acc 92 32 3 (l.map iA.enc)),(2,.one 50 328 zS)]) U ?_
 have U:bn (PS.bi q++[(3,.one 50 328 [dI 2,d0,d0,d0,dN,dN,dS (p.bc [mi]).name.1,dS [],.ac 1108 (l.map iA.enc).length 3,d0,d0,dN,d0,dN,dN,dN,dN,dN,d0,d0,d0]),(1108,.acc 92 32 3 (l.map iA.enc)),(2,.one 50 328 zS)]) (PS.bi q++[(3,.one 50 328 [dI 2,d0,d0,d0,dN,dN,dS (p.bc [mi]).name.1,dS [],.ac 1108 (l.map iA.enc).length 3,d0,d0,dN,d0,dN,dN,dN,dN,dN,d0,d0,d0]),(1108,.acc 92 32 3 (l.map iA.enc)),(2,.one 50 328 zS)]):=dK rfl rfl ⟨rfl,rfl,rfl,trivial⟩
 have gM:q.aF.length=((p.lM.bc [ma]).bJ cE).aF.length:=by rw[I.aF]
 refine db _ _ hV U (aL (ai (ae 1 aa (bo (sign F I.ok cT) aa aa aa aa aa (aX (aK aa (fun A=>?_) (fun A=>?_)))))))
 ·have h2:=I.top.sign cT
  have J:=pB I.ok A
  have fZ:=I.ok.eG
  obtain⟨k,rfl⟩:∃k',k=k'+1:=⟨k-1,by have:=J.2;omega⟩
  rw[pC A] at z
  have Z:=h2.trans (G _ h2.top)
  refine aQ (bM (im (bD 3 aa (nB (literal F K h2.top.st) aa aa aa aa aa aa (bD 1 aa ?_)))))
  refine dy rfl (eD (rows:=l.map iA.enc) (ys:=[((PS.literal (q.sign cT).2 D).1).enc]) rfl rfl rfl (.bs (rows:=[((PS.literal (q.sign cT).2 D).1).enc]) rfl) (b0 rfl) (by simp only[bE,ca,cV,dL];omega) (fun h=>by rw[h];rfl) (fun h=>by rw[h];rfl) ?_)
  refine du 2 aa (⟨k,gG k,l++[(PS.literal (q.sign cT).2 D).1],(PS.literal (q.sign cT).2 D).2,z,mX O _,?_,?_,I.trans Z,?_,?_⟩)
  ·have:=Z.aO;have:=J.1;have:=(G _ h2.top).aO;rw[bE,dY];show l.length+1≤(PS.literal (q.sign cT).2 D).2.aO+1;omega
  ·have:=(G _ h2.top).aO;have:=J.1;show((p.lM.bc [ma]).bJ cE).aF.length≤k+(PS.literal (q.sign cT).2 D).2.aO;omega
  ·try simp only[dx,e7,gj]
   exact⟨aa,aa,aa,trivial⟩
  try simp only[dx,e7,gj]
  exact dK aa aa ⟨aa,aa,aa,trivial⟩
 rw[pD A] at z
 rw[PS.iS A]
 have hI:p.ug D=(l,q):=by unfold PS.ug;rw[←z]
 have Y:p.qS D=(q.bJ ee).bc [lL]:=by unfold PS.qS;rw[hI]
 have g1:=I.top.ij ee
 have hm:p.insert D=({kind:=2,table:=(p.bc [mi]).name.1,row:=l,valid:=((p.qS D).period D).1},((p.qS D).period D).2):=by unfold PS.insert;rw[hI]
 refine dJ (ai (ae 1 aa (bo (bJ F I.ok ee) aa aa aa aa aa (aX (ai (ae 2 aa (gD 34 34 aa aa (fun _=>⟨aa,aa⟩) (bo (bc F g1.ok [lL] aq) aa aa aa aa aa (aX ?_)))))))))
 refine ai ?_
 rw[←Y]
 refine ae 1 aa (bo (period F K (hp.qS D).st) aa aa aa aa aa (ak 2 aa (ai (ae 1 aa (fN 39 1108 aa aa fJ (ak 1 aa (ay ?_)))))))
 rw[hm]
 exact⟨_,PS.bi _,aa,cX aa aa,aa,aa⟩
theorem Wh{T:bd}(F:FT T){D:Rd}(z:iF T D){p:PS}(hp:bk p):cg T 123 [.vp 1000 0] (PS.bi p) fun r Bn=>r=eU (p.remove D).1.enc∧Bn=PS.bz (p.remove D).2:=by
 refine cL F.abm aa (an 1 aa (ai (ae 2 aa (gD 5 5 aa aa (fun _=>⟨aa,aa⟩) (bo (bc F hp.ok [iO] aq) aa aa aa aa aa (aX (ai (ae 1 aa (bo (name F (hp.d6 [iO]).st) aa aa aa aa aa ?_)))))))))
 refine ak 3 aa (ai (ae 2 aa (gD 11 11 aa aa (fun _=>⟨aa,aa⟩) (bo (bc F (hp.d6 [iO]).top.name.ok [lL,pw,kD] aq) aa aa aa aa aa (aX (ai (ae 1 aa (bo (period F z hp.xC.st) aa aa aa aa aa (ak 2 aa ?_)))))))))
 refine ai (ae 1 aa (bo (ES F z (hp.n7 D).top) aa aa aa aa aa (ak 2 aa (ai (ae 4 aa (fN 22 1050 aa aa (fun _=>⟨aa,aa⟩) (ak 2 aa (ai (jX 1000 5 aa aa ?_)))))))))
 exact ak 2 aa (ay (⟨_,PS.bz (p.remove D).2,aa,gm aa,aa,aa⟩))
theorem Wi{T:bd}(F:FT T){D:Rd}(K:iF T D){p:PS}(hp:bk p):cg T 124 [.vp 1000 0] (PS.bi p) fun r Bn=>r=eU (p.update D).1.enc∧Bn=PS.bz (p.update D).2:=by
 refine cL F.abn aa ?_
 have G:∀x:PS,bk x→b8 x (PS.set x D).2:=fun _ h=>h.set D
 refine an 1 aa (ai (ae 1 aa (bo (name F hp.st) aa aa aa aa aa (ae 1 aa (s7 6 13 1113 94 24 2 aa aa aa (ak 2 aa (ai (ae 2 aa (gD 8 8 aa aa (fun _=>⟨aa,aa⟩) ?_)))))))))
 refine bo (bc F hp.name.ok [lL,pw,kD] aq) aa aa aa aa aa (aX (ai (ae 1 aa (bo (period F K hp.hD.st) aa aa aa aa aa (ak 2 aa (ai (ae 2 aa (gD 14 14 aa aa (fun _=>⟨aa,aa⟩) (bo (bc F (hp.hD.top.period D).ok [lv] aq) aa aa aa aa aa ?_)))))))))
 refine aX (eO (bD 3 aa (nB (gV F K (hp.zX D).top) aa aa aa aa aa aa (bD 1 aa (dy aa (eD (rows:=[]) (ys:=[fm (((p.hD.period D).2.bc [lv]).set D).1]) aa aa aa (.bs (rows:=[fm (((p.hD.period D).2.bc [lv]).set D).1]) aa) (b0 aa) (b0 aa) (fun _=>aa) (fun _=>aa) ?_))))))
 refine du 2 aa (aL (bM (d7 (fun k VE B=>∃(l:List _)(q:PS),lg (fun p=>PS.set p D) k l q=(jG (fun p=>PS.set p D) ((p.hD.period D).2.bc [lv]))∧l≠[]∧l.length≤q.aO+1∧((p.hD.period D).2.bc [lv]).aF.length≤k+q.aO∧b8 ((p.hD.period D).2.bc [lv]) q∧bn [(0,.vp 1000 0),(2,.vp 2 0),(3,.vp 3 0)] VE∧bn (PS.bi q++[(3,.one 50 328 [dI 4,d0,d0,d0,dN,dN,dS p.name.1,dS [],dN,dI (p.hD.period D).1.1,dI (p.hD.period D).1.2,dN,d0,.ac 1113 (l.map fm).length 2,dN,dN,dN,dN,d0,d0,d0]),(1113,.acc 94 24 2 (l.map fm)),(2,.one 50 328 zS)]) B) ?_ (k:=((p.hD.period D).2.bc [lv]).aF.length) ⟨[(PS.set ((p.hD.period D).2.bc [lv]) D).1],(PS.set ((p.hD.period D).2.bc [lv]) D).2,aa,qz _ _,nm (dp _),ku _ _,G _ (hp.zX D).top,⟨aa,aa,aa,trivial⟩,dK aa aa ⟨aa,aa,aa,trivial⟩⟩)))
 rintro k VE B⟨l,q,z,O,Z,hk,I,hV,U⟩
 refine eZ (PS.bi q++[(3,.one 50 328 [dI 4,d0,d0,d0,dN,dN,dS p.name.1,dS [],dN,dI (p.hD.period D).1.1,dI (p.hD.period D).1.2,dN,d0,.ac 1113 (l.map fm).length 2,dN,dN,dN,dN,d0,d0,d0]),(1113,.acc 94 24 2 (l.map fm)),(2,.one 50 328 zS)]) U ?_
 have U:bn (PS.bi q++[(3,.one 50 328 [dI 4,d0,d0,d0,dN,dN,dS p.name.1,dS [],dN,dI (p.hD.period D).1.1,dI (p.hD.period D).1.2,dN,d0,.ac 1113 (l.map fm).length 2,dN,dN,dN,dN,d0,d0,d0]),(1113,.acc 94 24 2 (l.map fm)),(2,.one 50 328 zS)]) (PS.bi q++[(3,.one 50 328 [dI 4,d0,d0,d0,dN,dN,dS p.name.1,dS [],dN,dI (p.hD.period D).1.1,dI (p.hD.period D).1.2,dN,d0,.ac 1113 (l.map fm).length 2,dN,dN,dN,dN,d0,d0,d0]),(1113,.acc 94 24 2 (l.map fm)),(2,.one 50 328 zS)]):=dK rfl rfl ⟨rfl,rfl,rfl,trivial⟩
 have gM:q.aF.length=((p.hD.period D).2.bc [lv]).aF.length:=by rw[I.aF]
 refine db _ _ hV U (aL (ai (ae 1 aa (bo (sign F I.ok cT) aa aa aa aa aa (aX (aK aa (fun A=>?_) (fun A=>?_)))))))
 ·have h2:=I.top.sign cT
  have J:=pB I.ok A
  have fZ:=I.ok.eG
  obtain⟨k,rfl⟩:∃k',k=k'+1:=⟨k-1,by have:=J.2;omega⟩
  rw[pC A] at z
  have Y:=h2.trans (G _ h2.top)
  refine aQ (bM (im (bD 3 aa (nB (gV F K h2.top) aa aa aa aa aa aa (bD 1 aa ?_)))))
  refine dy rfl (eD (rows:=l.map fm) (ys:=[fm ((PS.set (q.sign cT).2 D).1)]) rfl rfl rfl (.bs (rows:=[fm ((PS.set (q.sign cT).2 D).1)]) rfl) (b0 rfl) (by simp only[bE,ca,cV,dL];omega) (fun h=>by rw[h];rfl) (fun h=>by rw[h];rfl) ?_)
  refine du 2 aa (⟨k,gG k,l++[(PS.set (q.sign cT).2 D).1],(PS.set (q.sign cT).2 D).2,z,mX O _,?_,?_,I.trans Y,?_,?_⟩)
  ·have:=Y.aO;have:=J.1;have:=(G _ h2.top).aO;rw[bE,dY];show l.length+1≤(PS.set (q.sign cT).2 D).2.aO+1;omega
  ·have:=(G _ h2.top).aO;have:=J.1;show((p.hD.period D).2.bc [lv]).aF.length≤k+(PS.set (q.sign cT).2 D).2.aO;omega
  ·try simp only[dx,e7,gj]
   exact⟨aa,aa,aa,trivial⟩
  try simp only[dx,e7,gj]
  exact dK aa aa ⟨aa,aa,aa,trivial⟩
 rw[pD A] at z
 rw[PS.iS A]
 have hI:p.pV D=(l,q):=by unfold PS.pV;rw[←z]
 have hm:p.update D=({kind:=4,table:=p.name.1,valid:=(p.hD.period D).1,nC:=l,wh:=(q.eF D).1,exprs:=(q.eF D).2.ex},(q.eF D).2):=by unfold PS.update;rw[hI]
 refine dJ (ai (ae 1 aa (bo (ES F K I.top) aa aa aa aa aa (ak 2 aa (ai (ae 4 aa (fN 38 1050 aa aa (fun _=>⟨aa,aa⟩) (ak 2 aa (ai ?_)))))))))
 refine jX 1000 5 aa aa (ae 1 aa (fN 40 1113 aa aa fJ (ak 1 aa (ay ?_))))
 rw[hm]
 exact⟨_,PS.bz _,aa,gm aa,aa,aa⟩
theorem Xr{T:bd}(F:FT T){p:PS}(hp:bk p):cg T 126 [.vp 1000 0] (PS.bi p) fun r Bn=>r=eU p.alter.1.enc∧Bn=PS.bi p.alter.2:=by
 refine cL F.abp aa (an 1 aa (ai (ae 2 aa (gD 5 5 aa aa (fun _=>⟨aa,aa⟩) (bo (bc F hp.ok [dA] aq) aa aa aa aa aa (aX (ai (ae 1 aa (bo (name F (hp.d6 [dA]).st) aa aa aa aa aa ?_)))))))))
 refine ak 1 aa (aL (bM (ai (ae 1 aa (bo (keyword F hp.gP.ok o0) aa aa aa aa aa (ak 1 aa (aK aa (fun A=>?_) (fun A=>?_))))))))
 ·have I:=hp.gP.top.kw o0
  have G:p.alter=({kind:=6,table:=(p.bc [dA]).name.1,jK:=[(p.gP.keyword o0).2.column.1]},(p.gP.keyword o0).2.column.2):=by unfold PS.alter;rw[az A]
  refine ai (ae 2 aa (bo (H7 F I.top) aa aa aa aa aa (ae 1 aa (gD 15 15 aa aa (fun _=>⟨aa,aa⟩) (ak 2 aa (ay ?_))))))
  rw[G]
  exact⟨_,PS.bi _,aa,cX aa aa,aa,aa⟩
 rw[PS.da A]
 refine ai (ae 1 aa (bo (keyword F hp.gP.ok qI) aa aa aa aa aa (ak 1 aa (aK aa (fun z=>?_) (fun z=>?_)))))
 ·have I:=hp.gP.top.kw qI
  have G:p.alter=({kind:=7,table:=(p.bc [dA]).name.1,name:=(p.gP.keyword qI).2.name.1},(p.gP.keyword qI).2.name.2):=by unfold PS.alter;rw[al (by rw[A];decide),az z]
  refine ai (ae 2 aa (bo (name F I.st) aa aa aa aa aa (ak 2 aa (ay ?_))))
  rw[G]
  exact⟨_,PS.bi _,aa,cX aa aa,aa,aa⟩
 rw[PS.da z]
 have G:p.alter=(({}:Stmt),p.gP.fail 5):=by unfold PS.alter;rw[al (by rw[A];decide),al (by rw[z];decide)]
 refine aQ (ai (ae 1 aa (bo (fail F hp.gP.ok 5) aa aa aa aa aa (aX (an 2 aa (ay ?_))))))
 rw[G]
 exact⟨_,PS.bi _,aa,cX aa aa,aa,aa⟩
end Go.Ev.Pp
