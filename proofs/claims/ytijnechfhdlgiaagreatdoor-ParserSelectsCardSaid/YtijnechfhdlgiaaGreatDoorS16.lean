/- Part 16 of rules for walks through the code of a program, and of such walks; what each part proves is said by its theorems. -/
import Derived.Test.YtijnechfhdlgiaaGreatDoorS15
set_option linter.unusedVariables false
set_option linter.unusedSimpArgs false
namespace Go.Ev.Pp
open Go
set_option maxRecDepth 10000
set_option maxHeartbeats 4000000 in
theorem coreC{T:bd}(F:FT T){D:Rd}(Lf:hM T D){p:PS}(hp:bf p)(a:Bool):bY T 132 [.vp 1000 0,dB a] (PS.bz p) fun r Bn=>r=ez (p.core D a).1.enc∧Bn=PS.bz (p.core D a).2:=by
 refine cw F.Z1 aa ?_
 have ou:∀x:PS,bf x→bP x (PS.item x D).2:=fun _ h=>h.item D
 have O:∀x:PS,bf x→bP x (PS.dC x).2:=fun _ h=>h.dC
 refine al 1 aa (al 4 aa (ai (nf 1000 5 1050 142 88 8 aa aa aa (ae 2 aa (gq 10 10 aa aa (fun _=>⟨aa,aa⟩) ?_)))))
 refine bh (aU F hp.nil.ok [zW] (by decide)) rfl rfl rfl rfl rfl ?_
 refine af (ai (ae 1 aa (bh (keyword F hp.iQ.ok jg) aa aa aa aa aa (ae 1 aa (sa 14 2 1102 167 32 3 aa aa aa (sa 14 6 1106 3 8 1 aa aa aa (ae 2 aa (af ?_))))))))
 refine aK (ai (ae 1 aa (bh (sign F hp.fw.ok eV) aa aa aa aa aa (ae 1 aa (af ?_)))))
 refine aI aa (fun rX=>?_) (fun rX=>?_)
 ·have F4:(p.fw.sign eV).1=false:=by simpa using rX
  have hI0:p.fw.items D=jk (fun p=>p.item D) p.fw:=by unfold PS.items;rw[aj (by rw[F4];decide)]
  rw[PS.iA F4]
  refine eZ (bk 3 aa (m7 (OV F Lf hp.fw.top) aa aa aa aa aa aa (bk 1 aa (eo aa (dZ (rows:=[]) (ys:=[(p.fw.item D).1.enc]) aa aa aa (.bs (rows:=[(p.fw.item D).1.enc]) aa) (bO aa) (bO aa) (fun _=>aa) (fun _=>aa) ?_)))))
  refine bk 2 aa (c6 ?_)
  refine bJ (dY (fun k VE B=>∃(l:List _)(q:PS),kE (fun p=>PS.item p D) k l q=(jk (fun p=>PS.item p D) p.fw)∧l≠[]∧l.length≤q.aJ+1∧p.fw.aA.length≤k+q.aJ∧bP p.fw q∧br [(0,.vp 1000 0),(1,dB a),(4,.vp 4 0),(5,.vp 5 0)] VE∧br (PS.bi q++[(5,.one 106 120 [dB (p.iQ.keyword jg).1,dN,.ac 1102 (l.map Item.enc).length 3,dN,d0,dB false,.ac 1106 0 1]),(1102,.acc 167 32 3 (l.map Item.enc)),(1106,.acc 3 8 1 []),(4,.one 106 120 [dB false,dN,dN,dN,d0,dB false,dN])]) B) ?_ (k:=p.fw.aA.length) ⟨[(PS.item p.fw D).1],(PS.item p.fw D).2,aa,pX _ _,mR (da _),j0 _ _,ou _ hp.fw.top,⟨aa,aa,aa,aa,trivial⟩,dq aa aa ⟨aa,aa,aa,aa,trivial⟩⟩)
  rintro k VE B⟨l,q,z,Y,js,hk,A,hV,Z⟩
  refine eD (PS.bi q++[(5,.one 106 120 [dB (p.iQ.keyword jg).1,dN,.ac 1102 (l.map Item.enc).length 3,dN,d0,dB false,.ac 1106 0 1]),(1102,.acc 167 32 3 (l.map Item.enc)),(1106,.acc 3 8 1 []),(4,.one 106 120 [dB false,dN,dN,dN,d0,dB false,dN])]) Z ?_
  have Z:br (PS.bi q++[(5,.one 106 120 [dB (p.iQ.keyword jg).1,dN,.ac 1102 (l.map Item.enc).length 3,dN,d0,dB false,.ac 1106 0 1]),(1102,.acc 167 32 3 (l.map Item.enc)),(1106,.acc 3 8 1 []),(4,.one 106 120 [dB false,dN,dN,dN,d0,dB false,dN])]) (PS.bi q++[(5,.one 106 120 [dB (p.iQ.keyword jg).1,dN,.ac 1102 (l.map Item.enc).length 3,dN,d0,dB false,.ac 1106 0 1]),(1102,.acc 167 32 3 (l.map Item.enc)),(1106,.acc 3 8 1 []),(4,.one 106 120 [dB false,dN,dN,dN,d0,dB false,dN])]):=dq rfl rfl ⟨rfl,rfl,rfl,rfl,trivial⟩
  have gp:q.aA.length=p.fw.aA.length:=by rw[A.aA]
  refine dn _ _ hV Z (aK (ai (ae 1 aa (bh (sign F A.ok cH) aa aa aa aa aa (af (aI aa (fun nM=>?_) (fun nM=>?_)))))))
  ·have h2:=A.top.sign cH
   have G:=oR A.ok nM
   have fy:=A.ok.d8
   obtain⟨k,rfl⟩:∃k',k=k'+1:=⟨k-1,by have:=G.2;omega⟩
   rw[oT nM] at z
   have h3:=h2.trans (ou _ h2.top)
   refine aQ (bJ (iw (bk 3 aa (m7 (OV F Lf h2.top) aa aa aa aa aa aa (bk 1 aa ?_)))))
   refine eo rfl (dZ (rows:=l.map Item.enc) (ys:=[((PS.item (q.sign cH).2 D).1).enc]) rfl rfl rfl (.bs (rows:=[((PS.item (q.sign cH).2 D).1).enc]) rfl) (bO rfl) (by simp only[bC,bZ,cP,dx];omega) (fun h=>by rw[h];rfl) (fun h=>by rw[h];rfl) ?_)
   refine bk 2 aa (c6 ?_)
   refine⟨k,gh k,l++[(PS.item (q.sign cH).2 D).1],(PS.item (q.sign cH).2 D).2,z,mE Y _,?_,?_,A.trans h3,?_,?_⟩
   ·have:=h3.aJ;have:=G.1;have:=(ou _ h2.top).aJ;rw[bC,dU];show l.length+1≤(PS.item (q.sign cH).2 D).2.aJ+1;omega
   ·have:=(ou _ h2.top).aJ;have:=G.1;show p.fw.aA.length≤k+(PS.item (q.sign cH).2 D).2.aJ;omega
   ·try simp only[dr,eF,fH]
    exact⟨aa,aa,aa,aa,trivial⟩
   try simp only[dr,eF,fH]
   exact dq aa aa ⟨aa,aa,aa,aa,trivial⟩
  rw[oU nM] at z
  rw[PS.iA nM]
  have U:p.fw.items D=(l,q):=by rw[hI0,←z]
  refine dD (ai (eB (PS.bi q++[(5,.one 106 120 [dB (p.iQ.keyword jg).1,dN,.ac 1102 (l.map Item.enc).length 3,dN,d0,dB false,.ac 1106 0 1]),(1102,.acc 167 32 3 (l.map Item.enc)),(1106,.acc 3 8 1 []),(4,.one 106 120 [dB false,dN,dN,dN,d0,dB false,dN])]) (dq aa aa ⟨aa,aa,aa,aa,trivial⟩) ?_))
  have Jw:p.fA D=q.aU [il]:=by unfold PS.fA;rw[U]
  refine ae 2 aa (gq 35 35 aa aa (fun _=>⟨aa,aa⟩) ?_)
  refine bh (aU F A.ok [il] (by decide)) rfl rfl rfl rfl rfl ?_
  refine af (ai ?_)
  rw[←Jw]
  refine ae 2 aa (bh (Nw F Lf (hp.fA D).top a) aa aa aa aa aa (ae 2 aa (af ?_)))
  refine ai (ae 1 aa (bh (Dp F Lf (hp.ja D a).top) aa aa aa aa aa (ae 2 aa (af ?_))))
  refine aK (ai (ae 1 aa (bh (keyword F (hp.dH D a).ok gx) aa aa aa aa aa (af (aI aa (fun K=>?_) (fun K=>?_))))))
  ·have j1:=(hp.dH D a).top.kw gx
   have j2:=j1.top.dK [gI]
   refine ai (ae 2 aa (gq 47 47 aa aa (fun _=>⟨aa,aa⟩) ?_))
   refine bh (aU F j1.ok [gI] (by decide)) rfl rfl rfl rfl rfl ?_
   refine af (al 2 aa (eZ (bk 3 aa (m7 (EU F j2.top) aa aa aa aa aa aa (bk 1 aa (eo aa (dZ (rows:=[]) (ys:=[[.i .i64 (((p.dH D a).keyword gx).2.aU [gI]).dC.1]]) aa aa aa (.bs (rows:=[[.i .i64 (((p.dH D a).keyword gx).2.aU [gI]).dC.1]]) aa) (bO aa) (bO aa) (fun _=>aa) (fun _=>aa) ?_)))))))
   refine bk 2 aa (c6 ?_)
   refine bJ ?_
   obtain⟨I,od⟩:∃I,I=l:=⟨_,rfl⟩
   obtain⟨q0,tu⟩:∃q0,q0=q:=⟨_,rfl⟩
   rw[←tu] at U
   rw[←od] at U⊢
   refine dY (fun k VE B=>∃(l:List _)(q:PS),kE PS.dC k l q=(jk PS.dC (((p.dH D a).keyword gx).2.aU [gI]))∧l≠[]∧l.length≤q.aJ+1∧(((p.dH D a).keyword gx).2.aU [gI]).aA.length≤k+q.aJ∧bP (((p.dH D a).keyword gx).2.aU [gI]) q∧br [(0,.vp 1000 0),(4,.vp 4 0),(5,.vp 5 0)] VE∧br (PS.bi q++[(5,.one 106 120 [dB (p.iQ.keyword jg).1,dN,.ac 1102 (I.map Item.enc).length 3,.d (.e9 (((p.fA D).j6 D a).1.map Src.enc)),dI ((p.ja D a).d7 D).1,dB true,.ac 1106 (l.map (fun i=>[DC.i .i64 i])).length 1]),(1102,.acc 167 32 3 (I.map Item.enc)),(1106,.acc 3 8 1 (l.map (fun i=>[DC.i .i64 i]))),(4,.one 106 120 [dB false,dN,dN,dN,d0,dB false,dN])]) B) ?_ (k:=(((p.dH D a).keyword gx).2.aU [gI]).aA.length) ⟨[(PS.dC (((p.dH D a).keyword gx).2.aU [gI])).1],(PS.dC (((p.dH D a).keyword gx).2.aU [gI])).2,aa,pX _ _,mR (da _),j0 _ _,O _ j2.top,⟨aa,aa,aa,trivial⟩,dq aa aa ⟨aa,aa,aa,aa,trivial⟩⟩
   clear od tu
   rintro k VE B⟨l,q,z,Y,js,hk,A,hV,Z⟩
   refine eD (PS.bi q++[(5,.one 106 120 [dB (p.iQ.keyword jg).1,dN,.ac 1102 (I.map Item.enc).length 3,.d (.e9 (((p.fA D).j6 D a).1.map Src.enc)),dI ((p.ja D a).d7 D).1,dB true,.ac 1106 (l.map (fun i=>[DC.i .i64 i])).length 1]),(1102,.acc 167 32 3 (I.map Item.enc)),(1106,.acc 3 8 1 (l.map (fun i=>[DC.i .i64 i]))),(4,.one 106 120 [dB false,dN,dN,dN,d0,dB false,dN])]) Z ?_
   have Z:br (PS.bi q++[(5,.one 106 120 [dB (p.iQ.keyword jg).1,dN,.ac 1102 (I.map Item.enc).length 3,.d (.e9 (((p.fA D).j6 D a).1.map Src.enc)),dI ((p.ja D a).d7 D).1,dB true,.ac 1106 (l.map (fun i=>[DC.i .i64 i])).length 1]),(1102,.acc 167 32 3 (I.map Item.enc)),(1106,.acc 3 8 1 (l.map (fun i=>[DC.i .i64 i]))),(4,.one 106 120 [dB false,dN,dN,dN,d0,dB false,dN])]) (PS.bi q++[(5,.one 106 120 [dB (p.iQ.keyword jg).1,dN,.ac 1102 (I.map Item.enc).length 3,.d (.e9 (((p.fA D).j6 D a).1.map Src.enc)),dI ((p.ja D a).d7 D).1,dB true,.ac 1106 (l.map (fun i=>[DC.i .i64 i])).length 1]),(1102,.acc 167 32 3 (I.map Item.enc)),(1106,.acc 3 8 1 (l.map (fun i=>[DC.i .i64 i]))),(4,.one 106 120 [dB false,dN,dN,dN,d0,dB false,dN])]):=dq rfl rfl ⟨rfl,rfl,rfl,rfl,trivial⟩
   have gp:q.aA.length=(((p.dH D a).keyword gx).2.aU [gI]).aA.length:=by rw[A.aA]
   refine dn _ _ hV Z (aK (ai (ae 1 aa (bh (sign F A.ok cH) aa aa aa aa aa (af (aI aa (fun J=>?_) (fun J=>?_)))))))
   ·have h2:=A.top.sign cH
    have G:=oR A.ok J
    have fy:=A.ok.d8
    obtain⟨k,rfl⟩:∃k',k=k'+1:=⟨k-1,by have:=G.2;omega⟩
    rw[oT J] at z
    have h3:=h2.trans (O _ h2.top)
    refine aQ (bJ (iw (bk 3 aa (m7 (EU F h2.top) aa aa aa aa aa aa (bk 1 aa ?_)))))
    refine eo rfl (dZ (rows:=l.map (fun i=>[DC.i .i64 i])) (ys:=[[.i .i64 (PS.dC (q.sign cH).2).1]]) rfl rfl rfl (.bs (rows:=[[.i .i64 (PS.dC (q.sign cH).2).1]]) rfl) (bO rfl) (by simp only[bC,bZ,cP,dx];omega) (fun h=>by rw[h];rfl) (fun h=>by rw[h];rfl) ?_)
    refine bk 2 aa (c6 ?_)
    refine⟨k,gh k,l++[(PS.dC (q.sign cH).2).1],(PS.dC (q.sign cH).2).2,z,mE Y _,?_,?_,A.trans h3,?_,?_⟩
    ·have:=h3.aJ;have:=G.1;have:=(O _ h2.top).aJ;rw[bC,dU];show l.length+1≤(PS.dC (q.sign cH).2).2.aJ+1;omega
    ·have:=(O _ h2.top).aJ;have:=G.1;show(((p.dH D a).keyword gx).2.aU [gI]).aA.length≤k+(PS.dC (q.sign cH).2).2.aJ;omega
    ·try simp only[dr,eF,fH]
     exact⟨aa,aa,aa,trivial⟩
    try simp only[dr,eF,fH]
    exact dq aa aa ⟨aa,aa,aa,aa,trivial⟩
   rw[oU J] at z
   rw[PS.iA J]
   have hG:(p.dH D a).group=((true,l),q):=by unfold PS.group;rw[aw K,←z]
   have hm:p.core D a=(⟨(p.iQ.keyword jg).1,q.ex,I,((p.fA D).j6 D a).1,((p.ja D a).d7 D).1,true,l⟩,q):=by unfold PS.core;rw[hG,U]
   refine dD (ai (ae 4 aa (fo 69 1050 aa aa (fun _=>⟨aa,aa⟩) (ae 2 aa (af ?_)))))
   refine ai (jE 1000 5 aa aa (ae 1 aa ?_))
   refine fo 71 1102 rfl rfl (by refine⟨trivial,trivial,?_,trivial,trivial,trivial,?_,trivial⟩<;>intro h<;>first|exact⟨rfl,rfl⟩|exact absurd h (by decide)) ?_
   refine fo 71 1106 rfl rfl (by refine⟨trivial,trivial,trivial,trivial,trivial,trivial,?_,trivial⟩<;>intro h<;>first|exact⟨rfl,rfl⟩|exact absurd h (by decide)) ?_
   refine ae 1 aa (af ?_)
   refine ax ?_
   rw[hm]
   exact⟨_,PS.bz _,aa,fM aa,aa,aa⟩
  have hG:(p.dH D a).group=((false,[]),p.dH D a):=by unfold PS.group;rw[aj (by rw[K];decide)]
  have hm:p.core D a=(⟨(p.iQ.keyword jg).1,(p.dH D a).ex,l,((p.fA D).j6 D a).1,((p.ja D a).d7 D).1,false,[]⟩,p.dH D a):=by unfold PS.core;rw[hG,U]
  rw[PS.cQ K]
  refine aQ (ai (ae 4 aa (fo 69 1050 aa aa (fun _=>⟨aa,aa⟩) (ae 2 aa (af ?_)))))
  refine ai (jE 1000 5 aa aa (ae 1 aa ?_))
  refine fo 71 1102 rfl rfl (by refine⟨trivial,trivial,?_,trivial,trivial,trivial,?_,trivial⟩<;>intro h<;>first|exact⟨rfl,rfl⟩|exact absurd h (by decide)) ?_
  refine fo 71 1106 rfl rfl (by refine⟨trivial,trivial,trivial,trivial,trivial,trivial,?_,trivial⟩<;>intro h<;>first|exact⟨rfl,rfl⟩|exact absurd h (by decide)) ?_
  refine ae 1 aa (af ?_)
  refine ax ?_
  rw[hm]
  exact⟨_,PS.bz _,aa,fM aa,aa,aa⟩
 have F4:(p.fw.sign eV).1=true:=by simpa using rX
 have U:p.fw.items D=([],(p.fw.sign eV).2):=by unfold PS.items;rw[aw F4]
 obtain⟨l,hl⟩:∃l:List Item,[]=l:=⟨_,rfl⟩
 rw[hl] at U
 have A:=hp.fw.top.sign eV
 generalize (p.fw.sign eV).2=q at U A⊢
 refine aQ (ai ?_)
 refine eB (PS.bi q++[(5,.one 106 120 [dB (p.iQ.keyword jg).1,dN,.ac 1102 (l.map Item.enc).length 3,dN,d0,dB false,.ac 1106 0 1]),(1102,.acc 167 32 3 (l.map Item.enc)),(1106,.acc 3 8 1 []),(4,.one 106 120 [dB false,dN,dN,dN,d0,dB false,dN])]) ?_ ?_; · exact dq rfl rfl ⟨by rw[←hl];rfl,by rw[←hl];rfl,rfl,rfl,trivial⟩
 have Jw:p.fA D=q.aU [il]:=by unfold PS.fA;rw[U]
 refine ae 2 aa (gq 35 35 aa aa (fun _=>⟨aa,aa⟩) ?_)
 refine bh (aU F A.ok [il] (by decide)) rfl rfl rfl rfl rfl ?_
 refine af (ai ?_)
 rw[←Jw]
 refine ae 2 aa (bh (Nw F Lf (hp.fA D).top a) aa aa aa aa aa (ae 2 aa (af ?_)))
 refine ai (ae 1 aa (bh (Dp F Lf (hp.ja D a).top) aa aa aa aa aa (ae 2 aa (af ?_))))
 refine aK (ai (ae 1 aa (bh (keyword F (hp.dH D a).ok gx) aa aa aa aa aa (af (aI aa (fun K=>?_) (fun K=>?_))))))
 ·have j1:=(hp.dH D a).top.kw gx
  have j2:=j1.top.dK [gI]
  refine ai (ae 2 aa (gq 47 47 aa aa (fun _=>⟨aa,aa⟩) ?_))
  refine bh (aU F j1.ok [gI] (by decide)) rfl rfl rfl rfl rfl ?_
  refine af (al 2 aa (eZ (bk 3 aa (m7 (EU F j2.top) aa aa aa aa aa aa (bk 1 aa (eo aa (dZ (rows:=[]) (ys:=[[.i .i64 (((p.dH D a).keyword gx).2.aU [gI]).dC.1]]) aa aa aa (.bs (rows:=[[.i .i64 (((p.dH D a).keyword gx).2.aU [gI]).dC.1]]) aa) (bO aa) (bO aa) (fun _=>aa) (fun _=>aa) ?_)))))))
  refine bk 2 aa (c6 ?_)
  refine bJ ?_
  obtain⟨I,od⟩:∃I,I=l:=⟨_,rfl⟩
  obtain⟨q0,tu⟩:∃q0,q0=q:=⟨_,rfl⟩
  rw[←tu] at U
  rw[←od] at U⊢
  refine dY (fun k VE B=>∃(l:List _)(q:PS),kE PS.dC k l q=(jk PS.dC (((p.dH D a).keyword gx).2.aU [gI]))∧l≠[]∧l.length≤q.aJ+1∧(((p.dH D a).keyword gx).2.aU [gI]).aA.length≤k+q.aJ∧bP (((p.dH D a).keyword gx).2.aU [gI]) q∧br [(0,.vp 1000 0),(4,.vp 4 0),(5,.vp 5 0)] VE∧br (PS.bi q++[(5,.one 106 120 [dB (p.iQ.keyword jg).1,dN,.ac 1102 (I.map Item.enc).length 3,.d (.e9 (((p.fA D).j6 D a).1.map Src.enc)),dI ((p.ja D a).d7 D).1,dB true,.ac 1106 (l.map (fun i=>[DC.i .i64 i])).length 1]),(1102,.acc 167 32 3 (I.map Item.enc)),(1106,.acc 3 8 1 (l.map (fun i=>[DC.i .i64 i]))),(4,.one 106 120 [dB false,dN,dN,dN,d0,dB false,dN])]) B) ?_ (k:=(((p.dH D a).keyword gx).2.aU [gI]).aA.length) ⟨[(PS.dC (((p.dH D a).keyword gx).2.aU [gI])).1],(PS.dC (((p.dH D a).keyword gx).2.aU [gI])).2,aa,pX _ _,mR (da _),j0 _ _,O _ j2.top,⟨aa,aa,aa,trivial⟩,dq aa aa ⟨aa,aa,aa,aa,trivial⟩⟩
  clear od tu
  rintro k VE B⟨l,q,z,Y,js,hk,A,hV,Z⟩
  refine eD (PS.bi q++[(5,.one 106 120 [dB (p.iQ.keyword jg).1,dN,.ac 1102 (I.map Item.enc).length 3,.d (.e9 (((p.fA D).j6 D a).1.map Src.enc)),dI ((p.ja D a).d7 D).1,dB true,.ac 1106 (l.map (fun i=>[DC.i .i64 i])).length 1]),(1102,.acc 167 32 3 (I.map Item.enc)),(1106,.acc 3 8 1 (l.map (fun i=>[DC.i .i64 i]))),(4,.one 106 120 [dB false,dN,dN,dN,d0,dB false,dN])]) Z ?_
  have Z:br (PS.bi q++[(5,.one 106 120 [dB (p.iQ.keyword jg).1,dN,.ac 1102 (I.map Item.enc).length 3,.d (.e9 (((p.fA D).j6 D a).1.map Src.enc)),dI ((p.ja D a).d7 D).1,dB true,.ac 1106 (l.map (fun i=>[DC.i .i64 i])).length 1]),(1102,.acc 167 32 3 (I.map Item.enc)),(1106,.acc 3 8 1 (l.map (fun i=>[DC.i .i64 i]))),(4,.one 106 120 [dB false,dN,dN,dN,d0,dB false,dN])]) (PS.bi q++[(5,.one 106 120 [dB (p.iQ.keyword jg).1,dN,.ac 1102 (I.map Item.enc).length 3,.d (.e9 (((p.fA D).j6 D a).1.map Src.enc)),dI ((p.ja D a).d7 D).1,dB true,.ac 1106 (l.map (fun i=>[DC.i .i64 i])).length 1]),(1102,.acc 167 32 3 (I.map Item.enc)),(1106,.acc 3 8 1 (l.map (fun i=>[DC.i .i64 i]))),(4,.one 106 120 [dB false,dN,dN,dN,d0,dB false,dN])]):=dq rfl rfl ⟨rfl,rfl,rfl,rfl,trivial⟩
  have gp:q.aA.length=(((p.dH D a).keyword gx).2.aU [gI]).aA.length:=by rw[A.aA]
  refine dn _ _ hV Z (aK (ai (ae 1 aa (bh (sign F A.ok cH) aa aa aa aa aa (af (aI aa (fun J=>?_) (fun J=>?_)))))))
  ·have h2:=A.top.sign cH
   have G:=oR A.ok J
   have fy:=A.ok.d8
   obtain⟨k,rfl⟩:∃k',k=k'+1:=⟨k-1,by have:=G.2;omega⟩
   rw[oT J] at z
   have h3:=h2.trans (O _ h2.top)
   refine aQ (bJ (iw (bk 3 aa (m7 (EU F h2.top) aa aa aa aa aa aa (bk 1 aa ?_)))))
   refine eo rfl (dZ (rows:=l.map (fun i=>[DC.i .i64 i])) (ys:=[[.i .i64 (PS.dC (q.sign cH).2).1]]) rfl rfl rfl (.bs (rows:=[[.i .i64 (PS.dC (q.sign cH).2).1]]) rfl) (bO rfl) (by simp only[bC,bZ,cP,dx];omega) (fun h=>by rw[h];rfl) (fun h=>by rw[h];rfl) ?_)
   refine bk 2 aa (c6 ?_)
   refine⟨k,gh k,l++[(PS.dC (q.sign cH).2).1],(PS.dC (q.sign cH).2).2,z,mE Y _,?_,?_,A.trans h3,?_,?_⟩
   ·have:=h3.aJ;have:=G.1;have:=(O _ h2.top).aJ;rw[bC,dU];show l.length+1≤(PS.dC (q.sign cH).2).2.aJ+1;omega
   ·have:=(O _ h2.top).aJ;have:=G.1;show(((p.dH D a).keyword gx).2.aU [gI]).aA.length≤k+(PS.dC (q.sign cH).2).2.aJ;omega
   ·try simp only[dr,eF,fH]
    exact⟨aa,aa,aa,trivial⟩
   try simp only[dr,eF,fH]
   exact dq aa aa ⟨aa,aa,aa,aa,trivial⟩
  rw[oU J] at z
  rw[PS.iA J]
  have hG:(p.dH D a).group=((true,l),q):=by unfold PS.group;rw[aw K,←z]
  have hm:p.core D a=(⟨(p.iQ.keyword jg).1,q.ex,I,((p.fA D).j6 D a).1,((p.ja D a).d7 D).1,true,l⟩,q):=by unfold PS.core;rw[hG,U]
  refine dD (ai (ae 4 aa (fo 69 1050 aa aa (fun _=>⟨aa,aa⟩) (ae 2 aa (af ?_)))))
  refine ai (jE 1000 5 aa aa (ae 1 aa ?_))
  refine fo 71 1102 rfl rfl (by refine⟨trivial,trivial,?_,trivial,trivial,trivial,?_,trivial⟩<;>intro h<;>first|exact⟨rfl,rfl⟩|exact absurd h (by decide)) ?_
  refine fo 71 1106 rfl rfl (by refine⟨trivial,trivial,trivial,trivial,trivial,trivial,?_,trivial⟩<;>intro h<;>first|exact⟨rfl,rfl⟩|exact absurd h (by decide)) ?_
  refine ae 1 aa (af ?_)
  refine ax ?_
  rw[hm]
  exact⟨_,PS.bz _,aa,fM aa,aa,aa⟩
 have hG:(p.dH D a).group=((false,[]),p.dH D a):=by unfold PS.group;rw[aj (by rw[K];decide)]
 have hm:p.core D a=(⟨(p.iQ.keyword jg).1,(p.dH D a).ex,l,((p.fA D).j6 D a).1,((p.ja D a).d7 D).1,false,[]⟩,p.dH D a):=by unfold PS.core;rw[hG,U]
 rw[PS.cQ K]
 refine aQ (ai (ae 4 aa (fo 69 1050 aa aa (fun _=>⟨aa,aa⟩) (ae 2 aa (af ?_)))))
 refine ai (jE 1000 5 aa aa (ae 1 aa ?_))
 refine fo 71 1102 rfl rfl (by refine⟨trivial,trivial,?_,trivial,trivial,trivial,?_,trivial⟩<;>intro h<;>first|exact⟨rfl,rfl⟩|exact absurd h (by decide)) ?_
 refine fo 71 1106 rfl rfl (by refine⟨trivial,trivial,trivial,trivial,trivial,trivial,?_,trivial⟩<;>intro h<;>first|exact⟨rfl,rfl⟩|exact absurd h (by decide)) ?_
 refine ae 1 aa (af ?_)
 refine ax ?_
 rw[hm]
 exact⟨_,PS.bz _,aa,fM aa,aa,aa⟩
open Go
set_option maxRecDepth 10000
set_option maxHeartbeats 4000000 in
theorem wM{T:bd}(F:FT T){D:Rd}(Lf:hM T D){p:PS}(hp:bf p)(a:Bool):bY T 64 [.vp 1000 0,dB a] (PS.bz p) fun r Bn=>r=ez (p.cW D a).1.enc∧Bn=PS.bz (p.cW D a).2:=by
 refine cw F.f64 aa (al 1 aa (ai (ae 2 aa (dX (coreC F Lf hp a) aa aa aa aa (ae 2 aa (sa 10 1 1101 3 8 1 aa aa aa (ae 2 aa (af ?_))))))))
 refine bJ (dY (fun k VE B=>∃(s:jC)(q:PS),qc D a k s q=p.cW D a∧s.fZ≠[]∧s.fZ.length≤q.aJ+1∧s.ops.length≤q.aJ+1∧p.aA.length≤k+q.aJ∧bP p q∧br [(0,.vp 1000 0),(1,dB a),(4,.vp 4 0),(5,.vp 5 0)] VE∧br (PS.bz q++[(5,.one 39 48 [.bs 9 (s.fZ.map Core.enc).length 7,.ac 1101 (s.ops.map (fun i=>[DC.i .i64 i])).length 1]),(9,.arr 106 120 7 (s.fZ.map Core.enc).length (s.fZ.map Core.enc)),(1101,.acc 3 8 1 (s.ops.map (fun i=>[DC.i .i64 i]))),(4,.one 39 48 [dN,dN])]) B) ?_ (k:=p.aA.length) ⟨⟨[(p.core D a).1],[]⟩,(p.core D a).2,aa,pX _ _,mR (da _),da _,j0 _ _,hp.core D a,⟨aa,aa,aa,aa,trivial⟩,gn aa ⟨aa,aa,aa,aa,trivial⟩⟩)
 rintro k VE B⟨s,q,z,Z,js,tl,hk,O,hV,hB⟩
 refine eD (PS.bz q++[(5,.one 39 48 [.bs 9 (s.fZ.map Core.enc).length 7,.ac 1101 (s.ops.map (fun i=>[DC.i .i64 i])).length 1]),(9,.arr 106 120 7 (s.fZ.map Core.enc).length (s.fZ.map Core.enc)),(1101,.acc 3 8 1 (s.ops.map (fun i=>[DC.i .i64 i]))),(4,.one 39 48 [dN,dN])]) hB ?_
 have hB:br (PS.bz q++[(5,.one 39 48 [.bs 9 (s.fZ.map Core.enc).length 7,.ac 1101 (s.ops.map (fun i=>[DC.i .i64 i])).length 1]),(9,.arr 106 120 7 (s.fZ.map Core.enc).length (s.fZ.map Core.enc)),(1101,.acc 3 8 1 (s.ops.map (fun i=>[DC.i .i64 i]))),(4,.one 39 48 [dN,dN])]) (PS.bz q++[(5,.one 39 48 [.bs 9 (s.fZ.map Core.enc).length 7,.ac 1101 (s.ops.map (fun i=>[DC.i .i64 i])).length 1]),(9,.arr 106 120 7 (s.fZ.map Core.enc).length (s.fZ.map Core.enc)),(1101,.acc 3 8 1 (s.ops.map (fun i=>[DC.i .i64 i]))),(4,.one 39 48 [dN,dN])]):=gn rfl ⟨rfl,rfl,rfl,rfl,trivial⟩
 have gp:q.aA.length=p.aA.length:=by rw[O.aA]
 have fy:=O.ok.d8
 refine dn _ _ hV hB (bJ (aK (bJ (ai (ae 1 aa (dX (nP F O.ok uh) aa aa aa aa (ae 1 aa (af ?_))))))))
 refine aI aa (fun J=>?_) (fun J=>?_)
 ·have K:q.op=some (6,(q.keyword uh).2):=by unfold PS.op;rw[aw J]
  obtain⟨A,U,ke⟩:=O.top.op K
  obtain⟨k,rfl⟩:∃k',k=k'+1:=⟨k-1,by omega⟩
  rw[vC K] at z
  generalize (q.keyword uh).2=G at K A U z⊢
  have I:=A.top.dK [gK]
  have g2:=I.top.core D a
  have ga:=I.aJ
  have gb:=g2.aJ
  refine bD (ae 3 aa ?_)
  refine ak (dZ (rows:=(s.ops.map (fun i=>[DC.i .i64 i]))) (ys:=[[.i .i64 6]]) rfl rfl rfl (.bs (rows:=[[.i .i64 6]]) rfl) (bO rfl) (by simp only[bC,bZ,cP,dx];omega) (fun h=>by rw[h];rfl) (fun h=>by rw[h];rfl) ?_)
  refine ae 2 aa (af ?_)
  refine ai (ae 2 aa (gq 37 37 aa aa (fun _=>⟨aa,aa⟩) ?_))
  refine dX (qZ F A.ok [gK] (by decide)) rfl rfl rfl rfl ?_
  refine af (iw (bk 4 aa (IX (coreC F Lf I.top a) aa aa aa aa aa (bk 1 aa ?_))))
  refine eo rfl (sk (rows:=s.fZ.map Core.enc) (ys:=[((G.aU [gK]).core D a).1.enc]) rfl rfl rfl (.bs (rows:=[((G.aU [gK]).core D a).1.enc]) rfl) (bO rfl) (by simp only[bC,bZ,cP,dx];omega) ?_)
  refine bk 2 aa (c6 ?_)
  refine⟨k,gh k,⟨s.fZ++[((G.aU [gK]).core D a).1],s.ops++[6]⟩,((G.aU [gK]).core D a).2,z,mE Z _,?_,?_,?_,(O.trans A).trans (I.trans g2),?_,?_⟩
  ·rw[bC,dU];omega
  ·rw[bC,dU];omega
  ·omega
  ·exact⟨aa,aa,aa,aa,trivial⟩
  simp only[dr,eF,fH]
  exact gn aa ⟨aa,aa,aa,aa,trivial⟩
 rw[PS.cQ J]
 refine ai (ae 1 aa (dX (nP F O.ok t7) aa aa aa aa (ae 1 aa (af ?_))))
 refine aI aa (fun Y=>?_) (fun Y=>?_)
 ·have K:q.op=some (7,(q.keyword t7).2):=by unfold PS.op;rw[aj (by rw[J];decide),aw Y]
  obtain⟨A,U,ke⟩:=O.top.op K
  obtain⟨k,rfl⟩:∃k',k=k'+1:=⟨k-1,by omega⟩
  rw[vC K] at z
  generalize (q.keyword t7).2=G at K A U z⊢
  have I:=A.top.dK [gK]
  have g2:=I.top.core D a
  have ga:=I.aJ
  have gb:=g2.aJ
  refine bD (ae 3 aa ?_)
  refine ak (dZ (rows:=(s.ops.map (fun i=>[DC.i .i64 i]))) (ys:=[[.i .i64 7]]) rfl rfl rfl (.bs (rows:=[[.i .i64 7]]) rfl) (bO rfl) (by simp only[bC,bZ,cP,dx];omega) (fun h=>by rw[h];rfl) (fun h=>by rw[h];rfl) ?_)
  refine ae 2 aa (af ?_)
  refine ai (ae 2 aa (gq 37 37 aa aa (fun _=>⟨aa,aa⟩) ?_))
  refine dX (qZ F A.ok [gK] (by decide)) rfl rfl rfl rfl ?_
  refine af (iw (bk 4 aa (IX (coreC F Lf I.top a) aa aa aa aa aa (bk 1 aa ?_))))
  refine eo rfl (sk (rows:=s.fZ.map Core.enc) (ys:=[((G.aU [gK]).core D a).1.enc]) rfl rfl rfl (.bs (rows:=[((G.aU [gK]).core D a).1.enc]) rfl) (bO rfl) (by simp only[bC,bZ,cP,dx];omega) ?_)
  refine bk 2 aa (c6 ?_)
  refine⟨k,gh k,⟨s.fZ++[((G.aU [gK]).core D a).1],s.ops++[7]⟩,((G.aU [gK]).core D a).2,z,mE Z _,?_,?_,?_,(O.trans A).trans (I.trans g2),?_,?_⟩
  ·rw[bC,dU];omega
  ·rw[bC,dU];omega
  ·omega
  ·exact⟨aa,aa,aa,aa,trivial⟩
  simp only[dr,eF,fH]
  exact gn aa ⟨aa,aa,aa,aa,trivial⟩
 rw[PS.cQ Y]
 refine ai (ae 1 aa (dX (nP F O.ok tG) aa aa aa aa (ae 1 aa (af ?_))))
 refine aI aa (fun F5=>?_) (fun F5=>?_)
 ·have K:q.op=some (8,(q.keyword tG).2):=by unfold PS.op;rw[aj (by rw[J];decide),aj (by rw[Y];decide),aw F5]
  obtain⟨A,U,ke⟩:=O.top.op K
  obtain⟨k,rfl⟩:∃k',k=k'+1:=⟨k-1,by omega⟩
  rw[vC K] at z
  generalize (q.keyword tG).2=G at K A U z⊢
  have I:=A.top.dK [gK]
  have g2:=I.top.core D a
  have ga:=I.aJ
  have gb:=g2.aJ
  refine bD (ae 3 aa ?_)
  refine ak (dZ (rows:=(s.ops.map (fun i=>[DC.i .i64 i]))) (ys:=[[.i .i64 8]]) rfl rfl rfl (.bs (rows:=[[.i .i64 8]]) rfl) (bO rfl) (by simp only[bC,bZ,cP,dx];omega) (fun h=>by rw[h];rfl) (fun h=>by rw[h];rfl) ?_)
  refine ae 2 aa (af ?_)
  refine ai (ae 2 aa (gq 37 37 aa aa (fun _=>⟨aa,aa⟩) ?_))
  refine dX (qZ F A.ok [gK] (by decide)) rfl rfl rfl rfl ?_
  refine af (iw (bk 4 aa (IX (coreC F Lf I.top a) aa aa aa aa aa (bk 1 aa ?_))))
  refine eo rfl (sk (rows:=s.fZ.map Core.enc) (ys:=[((G.aU [gK]).core D a).1.enc]) rfl rfl rfl (.bs (rows:=[((G.aU [gK]).core D a).1.enc]) rfl) (bO rfl) (by simp only[bC,bZ,cP,dx];omega) ?_)
  refine bk 2 aa (c6 ?_)
  refine⟨k,gh k,⟨s.fZ++[((G.aU [gK]).core D a).1],s.ops++[8]⟩,((G.aU [gK]).core D a).2,z,mE Z _,?_,?_,?_,(O.trans A).trans (I.trans g2),?_,?_⟩
  ·rw[bC,dU];omega
  ·rw[bC,dU];omega
  ·omega
  ·exact⟨aa,aa,aa,aa,trivial⟩
  simp only[dr,eF,fH]
  exact gn aa ⟨aa,aa,aa,aa,trivial⟩
 have K:q.op=none:=by unfold PS.op;rw[aj (by rw[J];decide),aj (by rw[Y];decide),aj (by rw[F5];decide)]
 rw[Co K] at z
 rw[PS.cQ F5]
 refine ai (ae 1 aa ?_)
 refine gq 11 9 rfl rfl ⟨fun _=>⟨rfl,rfl⟩,fun h=>absurd h (by decide),trivial⟩ ?_
 refine fo 11 1101 aa aa ⟨trivial,fun _=>⟨aa,aa⟩,trivial⟩ (ae 1 aa (af ?_))
 refine ax ?_
 rw[←z]
 unfold jC.enc
 rw[DC.q7 (rows:=s.fZ.map Core.enc) (by simpa using Z)]
 exact⟨_,PS.bz _,aa,fM aa,aa,aa⟩
set_option maxHeartbeats 4000000 in
theorem V9{T:bd}(F:FT T){D:Rd}(K:hM T D){p:PS}(hp:bf p):bY T 131 [.vp 1000 0] (PS.bz p) fun r Bn=>r=ez (p.query D).1.enc∧Bn=PS.bz (p.query D).2:=by
 refine cw F.Z0 aa (al 1 aa (al 3 aa (aK (bJ (ai (ae 1 aa (dX (nP F hp.ok ox) aa aa aa aa (ae 1 aa (af ?_)))))))))
 refine aI aa (fun h5=>?_) (fun h5=>?_)
 ·obtain⟨m,A⟩:∃m:Int,2=m:=⟨_,rfl⟩
  have O:p.mode=(m,(p.keyword ox).2):=by unfold PS.mode;rw[aw h5,A]
  have U:=hp.kw ox
  generalize (p.keyword ox).2=q at O U⊢
  refine bD (ae 2 aa (af ?_))
  refine ai ?_
  refine eB (PS.bz q++[(3,.one 50 328 [dI 1,dI m,dI (-1),dI 1099511627776,dN,dN,dS [],dS [],dN,d0,d0,dN,d0,dN,dN,dN,dN,dN,d0,d0,d0]),(2,.one 50 328 [d0,d0,d0,d0,dN,dN,dS [],dS [],dN,d0,d0,dN,d0,dN,dN,dN,dN,dN,d0,d0,d0])]) ?_ ?_; · exact gn rfl ⟨by rw[←A];rfl,rfl,trivial⟩
  refine ae 1 aa (dX (wM F K U.top true) aa aa aa aa (ae 2 aa (af ?_)))
  refine aK (ai ?_)
  have J:=U.top.cW D true
  refine ae 1 aa (dX (nP F J.ok jT) aa aa aa aa (af (aI aa (fun z=>?_) (fun z=>?_))))
  ·have G:(q.cW D true).2.gE D=(((q.cW D true).2.keyword jT).2.aU [ka]).day D:=by unfold PS.gE;rw[aw z]
   have Y:=J.top.kw jT
   have Z:=Y.top.dK [ka]
   have I:=J.top.gE D
   rw[G] at I
   refine ai (ae 2 aa (gq 27 27 aa aa (fun _=>⟨aa,aa⟩) ?_))
   refine dX (qZ F Y.ok [ka] (by decide)) rfl rfl rfl rfl ?_
   refine af (bD (ae 1 aa (dX (yN F K Z.st) aa aa aa aa (ae 2 aa (af ?_)))))
   refine ai (ae 1 aa (dX (qF F K I.top) aa aa aa aa (ae 2 aa (af ?_))))
   refine al 2 aa (ax ?_)
   unfold PS.query
   rw[O,G]
   exact⟨_,PS.bz _,aa,fM aa,aa,aa⟩
  have G:(q.cW D true).2.gE D=(-1,(q.cW D true).2):=by unfold PS.gE;rw[aj (by rw[z];decide)]
  rw[PS.cQ z]
  have I:=J.top.gE D
  rw[G] at I
  refine aQ (ai (ae 1 aa (dX (qF F K I.top) aa aa aa aa (ae 2 aa (af ?_)))))
  refine al 2 aa (ax ?_)
  unfold PS.query
  rw[O,G]
  exact⟨_,PS.bz _,aa,fM aa,aa,aa⟩
 rw[PS.cQ h5]
 refine ai (ae 1 aa (dX (nP F hp.ok ow) aa aa aa aa (ae 1 aa (af ?_))))
 refine aI aa (fun h9=>?_) (fun h9=>?_)
 ·obtain⟨m,A⟩:∃m:Int,3=m:=⟨_,rfl⟩
  have O:p.mode=(m,(p.keyword ow).2):=by unfold PS.mode;rw[aj (by rw[h5];decide),aw h9,A]
  have U:=hp.kw ow
  generalize (p.keyword ow).2=q at O U⊢
  refine bD (ae 2 aa (af ?_))
  refine ai ?_
  refine eB (PS.bz q++[(3,.one 50 328 [dI 1,dI m,dI (-1),dI 1099511627776,dN,dN,dS [],dS [],dN,d0,d0,dN,d0,dN,dN,dN,dN,dN,d0,d0,d0]),(2,.one 50 328 [d0,d0,d0,d0,dN,dN,dS [],dS [],dN,d0,d0,dN,d0,dN,dN,dN,dN,dN,d0,d0,d0])]) ?_ ?_; · exact gn rfl ⟨by rw[←A];rfl,rfl,trivial⟩
  refine ae 1 aa (dX (wM F K U.top true) aa aa aa aa (ae 2 aa (af ?_)))
  refine aK (ai ?_)
  have J:=U.top.cW D true
  refine ae 1 aa (dX (nP F J.ok jT) aa aa aa aa (af (aI aa (fun z=>?_) (fun z=>?_))))
  ·have G:(q.cW D true).2.gE D=(((q.cW D true).2.keyword jT).2.aU [ka]).day D:=by unfold PS.gE;rw[aw z]
   have Y:=J.top.kw jT
   have Z:=Y.top.dK [ka]
   have I:=J.top.gE D
   rw[G] at I
   refine ai (ae 2 aa (gq 27 27 aa aa (fun _=>⟨aa,aa⟩) ?_))
   refine dX (qZ F Y.ok [ka] (by decide)) rfl rfl rfl rfl ?_
   refine af (bD (ae 1 aa (dX (yN F K Z.st) aa aa aa aa (ae 2 aa (af ?_)))))
   refine ai (ae 1 aa (dX (qF F K I.top) aa aa aa aa (ae 2 aa (af ?_))))
   refine al 2 aa (ax ?_)
   unfold PS.query
   rw[O,G]
   exact⟨_,PS.bz _,aa,fM aa,aa,aa⟩
  have G:(q.cW D true).2.gE D=(-1,(q.cW D true).2):=by unfold PS.gE;rw[aj (by rw[z];decide)]
  rw[PS.cQ z]
  have I:=J.top.gE D
  rw[G] at I
  refine aQ (ai (ae 1 aa (dX (qF F K I.top) aa aa aa aa (ae 2 aa (af ?_)))))
  refine al 2 aa (ax ?_)
  unfold PS.query
  rw[O,G]
  exact⟨_,PS.bz _,aa,fM aa,aa,aa⟩
 rw[PS.cQ h9]
 refine ai (ae 1 aa (dX (nP F hp.ok oy) aa aa aa aa (ae 1 aa (af ?_))))
 refine aI aa (fun bM=>?_) (fun bM=>?_)
 ·obtain⟨m,A⟩:∃m:Int,4=m:=⟨_,rfl⟩
  have O:p.mode=(m,(p.keyword oy).2):=by unfold PS.mode;rw[aj (by rw[h5];decide),aj (by rw[h9];decide),aw bM,A]
  have U:=hp.kw oy
  generalize (p.keyword oy).2=q at O U⊢
  refine bD (ae 2 aa (af ?_))
  refine ai ?_
  refine eB (PS.bz q++[(3,.one 50 328 [dI 1,dI m,dI (-1),dI 1099511627776,dN,dN,dS [],dS [],dN,d0,d0,dN,d0,dN,dN,dN,dN,dN,d0,d0,d0]),(2,.one 50 328 [d0,d0,d0,d0,dN,dN,dS [],dS [],dN,d0,d0,dN,d0,dN,dN,dN,dN,dN,d0,d0,d0])]) ?_ ?_; · exact gn rfl ⟨by rw[←A];rfl,rfl,trivial⟩
  refine ae 1 aa (dX (wM F K U.top true) aa aa aa aa (ae 2 aa (af ?_)))
  refine aK (ai ?_)
  have J:=U.top.cW D true
  refine ae 1 aa (dX (nP F J.ok jT) aa aa aa aa (af (aI aa (fun z=>?_) (fun z=>?_))))
  ·have G:(q.cW D true).2.gE D=(((q.cW D true).2.keyword jT).2.aU [ka]).day D:=by unfold PS.gE;rw[aw z]
   have Y:=J.top.kw jT
   have Z:=Y.top.dK [ka]
   have I:=J.top.gE D
   rw[G] at I
   refine ai (ae 2 aa (gq 27 27 aa aa (fun _=>⟨aa,aa⟩) ?_))
   refine dX (qZ F Y.ok [ka] (by decide)) rfl rfl rfl rfl ?_
   refine af (bD (ae 1 aa (dX (yN F K Z.st) aa aa aa aa (ae 2 aa (af ?_)))))
   refine ai (ae 1 aa (dX (qF F K I.top) aa aa aa aa (ae 2 aa (af ?_))))
   refine al 2 aa (ax ?_)
   unfold PS.query
   rw[O,G]
   exact⟨_,PS.bz _,aa,fM aa,aa,aa⟩
  have G:(q.cW D true).2.gE D=(-1,(q.cW D true).2):=by unfold PS.gE;rw[aj (by rw[z];decide)]
  rw[PS.cQ z]
  have I:=J.top.gE D
  rw[G] at I
  refine aQ (ai (ae 1 aa (dX (qF F K I.top) aa aa aa aa (ae 2 aa (af ?_)))))
  refine al 2 aa (ax ?_)
  unfold PS.query
  rw[O,G]
  exact⟨_,PS.bz _,aa,fM aa,aa,aa⟩
 rw[PS.cQ bM]
 refine ai (ae 1 aa (dX (nP F hp.ok ov) aa aa aa aa (ae 1 aa (af ?_))))
 refine aI aa (fun rX=>?_) (fun rX=>?_)
 ·obtain⟨m,A⟩:∃m:Int,5=m:=⟨_,rfl⟩
  have O:p.mode=(m,(p.keyword ov).2):=by unfold PS.mode;rw[aj (by rw[h5];decide),aj (by rw[h9];decide),aj (by rw[bM];decide),aw rX,A]
  have U:=hp.kw ov
  generalize (p.keyword ov).2=q at O U⊢
  refine bD (ae 2 aa (af ?_))
  refine ai ?_
  refine eB (PS.bz q++[(3,.one 50 328 [dI 1,dI m,dI (-1),dI 1099511627776,dN,dN,dS [],dS [],dN,d0,d0,dN,d0,dN,dN,dN,dN,dN,d0,d0,d0]),(2,.one 50 328 [d0,d0,d0,d0,dN,dN,dS [],dS [],dN,d0,d0,dN,d0,dN,dN,dN,dN,dN,d0,d0,d0])]) ?_ ?_; · exact gn rfl ⟨by rw[←A];rfl,rfl,trivial⟩
  refine ae 1 aa (dX (wM F K U.top true) aa aa aa aa (ae 2 aa (af ?_)))
  refine aK (ai ?_)
  have J:=U.top.cW D true
  refine ae 1 aa (dX (nP F J.ok jT) aa aa aa aa (af (aI aa (fun z=>?_) (fun z=>?_))))
  ·have G:(q.cW D true).2.gE D=(((q.cW D true).2.keyword jT).2.aU [ka]).day D:=by unfold PS.gE;rw[aw z]
   have Y:=J.top.kw jT
   have Z:=Y.top.dK [ka]
   have I:=J.top.gE D
   rw[G] at I
   refine ai (ae 2 aa (gq 27 27 aa aa (fun _=>⟨aa,aa⟩) ?_))
   refine dX (qZ F Y.ok [ka] (by decide)) rfl rfl rfl rfl ?_
   refine af (bD (ae 1 aa (dX (yN F K Z.st) aa aa aa aa (ae 2 aa (af ?_)))))
   refine ai (ae 1 aa (dX (qF F K I.top) aa aa aa aa (ae 2 aa (af ?_))))
   refine al 2 aa (ax ?_)
   unfold PS.query
   rw[O,G]
   exact⟨_,PS.bz _,aa,fM aa,aa,aa⟩
  have G:(q.cW D true).2.gE D=(-1,(q.cW D true).2):=by unfold PS.gE;rw[aj (by rw[z];decide)]
  rw[PS.cQ z]
  have I:=J.top.gE D
  rw[G] at I
  refine aQ (ai (ae 1 aa (dX (qF F K I.top) aa aa aa aa (ae 2 aa (af ?_)))))
  refine al 2 aa (ax ?_)
  unfold PS.query
  rw[O,G]
  exact⟨_,PS.bz _,aa,fM aa,aa,aa⟩
 rw[PS.cQ rX]
 obtain⟨m,A⟩:∃m:Int,1=m:=⟨_,rfl⟩
 obtain⟨q,tu⟩:∃q,p=q:=⟨_,rfl⟩
 have O:p.mode=(m,q):=by unfold PS.mode;rw[aj (by rw[h5];decide),aj (by rw[h9];decide),aj (by rw[bM];decide),aj (by rw[rX];decide),A,tu]
 have U:bP p q:=by rw[←tu];exact .refl hp
 refine aQ (ai ?_)
 refine eB (PS.bz q++[(3,.one 50 328 [dI 1,dI m,dI (-1),dI 1099511627776,dN,dN,dS [],dS [],dN,d0,d0,dN,d0,dN,dN,dN,dN,dN,d0,d0,d0]),(2,.one 50 328 [d0,d0,d0,d0,dN,dN,dS [],dS [],dN,d0,d0,dN,d0,dN,dN,dN,dN,dN,d0,d0,d0])]) ?_ ?_; · exact gn (by rw[←tu];rfl) ⟨by rw[←A];rfl,rfl,trivial⟩
 refine ae 1 aa (dX (wM F K U.top true) aa aa aa aa (ae 2 aa (af ?_)))
 refine aK (ai ?_)
 have J:=U.top.cW D true
 refine ae 1 aa (dX (nP F J.ok jT) aa aa aa aa (af (aI aa (fun z=>?_) (fun z=>?_))))
 ·have G:(q.cW D true).2.gE D=(((q.cW D true).2.keyword jT).2.aU [ka]).day D:=by unfold PS.gE;rw[aw z]
  have Y:=J.top.kw jT
  have Z:=Y.top.dK [ka]
  have I:=J.top.gE D
  rw[G] at I
  refine ai (ae 2 aa (gq 27 27 aa aa (fun _=>⟨aa,aa⟩) ?_))
  refine dX (qZ F Y.ok [ka] (by decide)) rfl rfl rfl rfl ?_
  refine af (bD (ae 1 aa (dX (yN F K Z.st) aa aa aa aa (ae 2 aa (af ?_)))))
  refine ai (ae 1 aa (dX (qF F K I.top) aa aa aa aa (ae 2 aa (af ?_))))
  refine al 2 aa (ax ?_)
  unfold PS.query
  rw[O,G]
  exact⟨_,PS.bz _,aa,fM aa,aa,aa⟩
 have G:(q.cW D true).2.gE D=(-1,(q.cW D true).2):=by unfold PS.gE;rw[aj (by rw[z];decide)]
 rw[PS.cQ z]
 have I:=J.top.gE D
 rw[G] at I
 refine aQ (ai (ae 1 aa (dX (qF F K I.top) aa aa aa aa (ae 2 aa (af ?_)))))
 refine al 2 aa (ax ?_)
 unfold PS.query
 rw[O,G]
 exact⟨_,PS.bz _,aa,fM aa,aa,aa⟩
set_option maxHeartbeats 2000000 in
theorem W8{T:bd}(F:FT T){D:Rd}(z:hM T D){p:PS}(hp:bf p):bY T 127 [.vp 1000 0] (PS.bz p) fun r Bn=>r=ez (p.qP D).1.enc∧Bn=PS.bz (p.qP D).2:=by
 refine cw F.ZY aa (al 1 aa (ai (ae 1 aa (dX (wM F z hp false) aa aa aa aa (ae 3 aa (af ?_))))))
 refine ai (ae 2 aa (gq 8 8 aa aa (fun _=>⟨aa,aa⟩) ?_))
 refine dX (qZ F (hp.cW D false).ok [jT,ka] (by decide)) rfl rfl rfl rfl ?_
 refine af (ai (ae 1 aa (dX (yN F z (hp.rD D).st) aa aa aa aa (ae 2 aa (af ?_)))))
 refine ai (ae 1 aa (dX (qF F z ((hp.rD D).top.day D).top) aa aa aa aa (ae 2 aa (af ?_))))
 exact al 2 aa (ax (⟨_,PS.bz (p.qP D).2,aa,fM aa,aa,aa⟩))
set_option maxHeartbeats 2000000 in
theorem W9{T:bd}(F:FT T){D:Rd}(A:hM T D){p:PS}(hp:bf p):bY T 128 [.vp 1000 0] (PS.bi p) fun r Bn=>r=ez p.hold.1.enc∧Bn=PS.bi p.hold.2:=by
 refine cw F.ZZ aa (al 1 aa (ai (ae 1 aa (bh (number F A hp.st (-1)) aa aa aa aa aa (ae 3 aa (af ?_))))))
 refine ai (ae 2 aa (gq 8 8 aa aa (fun _=>⟨aa,aa⟩) ?_))
 refine bh (aU F (hp.number _).ok [il] (by decide)) rfl rfl rfl rfl rfl ?_
 refine af (ai (ae 1 aa (bh (number F A hp.mg.st (-1)) aa aa aa aa aa (ae 3 aa (af ?_)))))
 refine ai (ae 2 aa (gq 15 15 aa aa (fun _=>⟨aa,aa⟩) ?_))
 refine bh (aU F (hp.mg.top.number _).ok [Jv] (by decide)) rfl rfl rfl rfl rfl ?_
 refine af (aK (ai (ae 1 aa (bh (keyword F hp.mF.ok xP) aa aa aa aa aa (af (aI aa (fun z=>?_) (fun z=>?_)))))))
 ·have G:p.p7=(1099511627776,(p.mF.keyword xP).2):=by unfold PS.p7;rw[aw z]
  refine bD (ae 3 aa (af ?_))
  refine al 2 aa (ax ?_)
  unfold PS.hold
  rw[G]
  exact⟨_,PS.bi _,aa,cL aa aa,aa,aa⟩
 have G:p.p7=p.mF.number (p.mg.number (-1)).1:=by unfold PS.p7;rw[aj (by rw[z];decide)]
 rw[PS.cQ z]
 refine bD (ae 4 aa (bh (number F A hp.mF.st (p.mg.number (-1)).1) aa aa aa aa aa (ae 3 aa (af ?_))))
 refine al 2 aa (ax ?_)
 unfold PS.hold
 rw[G]
 exact⟨_,PS.bi _,aa,cL aa aa,aa,aa⟩
open Go
set_option maxRecDepth 10000
set_option maxHeartbeats 4000000 in
theorem insertC{T:bd}(F:FT T){D:Rd}(K:hM T D){p:PS}(hp:bf p):bY T 122 [.vp 1000 0] (PS.bi p) fun r Bn=>r=ez (p.insert D).1.enc∧Bn=PS.bi (p.insert D).2:=by
 refine cw F.ZT aa ?_
 have G:∀x:PS,bf x→bP x (PS.literal x D).2:=fun _ h=>h.literal D
 refine al 1 aa (ai (ae 2 aa (gq 5 5 aa aa (fun _=>⟨aa,aa⟩) ?_)))
 refine bh (aU F hp.ok [lU] (by decide)) rfl rfl rfl rfl rfl ?_
 refine af (ai (ae 1 aa (bh (name F (hp.dK [lU]).st) aa aa aa aa aa (ae 1 aa (sa 9 8 1108 92 32 3 aa aa aa (ae 2 aa (af ?_)))))))
 refine ai (ae 2 aa (gq 11 11 aa aa (fun _=>⟨aa,aa⟩) ?_))
 refine bh (aU F hp.lg.ok [lM] (by decide)) rfl rfl rfl rfl rfl ?_
 refine af (ai (ae 1 aa (bh (bA F (hp.lg.top.dK [lM]).ok cq) aa aa aa aa aa (af (eZ (bk 3 aa (m7 (literal F K hp.sL.st) aa aa aa aa aa aa (bk 1 aa (eo aa (dZ (rows:=[]) (ys:=[(((p.lg.aU [lM]).bA cq).literal D).1.enc]) aa aa aa (.bs (rows:=[(((p.lg.aU [lM]).bA cq).literal D).1.enc]) aa) (bO aa) (bO aa) (fun _=>aa) (fun _=>aa) ?_))))))))))
 refine bk 2 aa (c6 ?_)
 refine aK (bJ (dY (fun k VE B=>∃(l:List _)(q:PS),kE (fun p=>PS.literal p D) k l q=(jk (fun p=>PS.literal p D) ((p.lg.aU [lM]).bA cq))∧l≠[]∧l.length≤q.aJ+1∧((p.lg.aU [lM]).bA cq).aA.length≤k+q.aJ∧bP ((p.lg.aU [lM]).bA cq) q∧br [(0,.vp 1000 0),(2,.vp 2 0),(3,.vp 3 0)] VE∧br (PS.bi q++[(3,.one 50 328 [dI 2,d0,d0,d0,dN,dN,dS (p.aU [lU]).name.1,dS [],.ac 1108 (l.map gZ.enc).length 3,d0,d0,dN,d0,dN,dN,dN,dN,dN,d0,d0,d0]),(1108,.acc 92 32 3 (l.map gZ.enc)),(2,.one 50 328 [d0,d0,d0,d0,dN,dN,dS [],dS [],dN,d0,d0,dN,d0,dN,dN,dN,dN,dN,d0,d0,d0])]) B) ?_ (k:=((p.lg.aU [lM]).bA cq).aA.length) ⟨[(PS.literal ((p.lg.aU [lM]).bA cq) D).1],(PS.literal ((p.lg.aU [lM]).bA cq) D).2,aa,pX _ _,mR (da _),j0 _ _,G _ hp.sL.top,⟨aa,aa,aa,trivial⟩,dq aa aa ⟨aa,aa,aa,trivial⟩⟩))
 rintro k VE B⟨l,q,z,O,js,hk,I,hV,U⟩
 refine eD (PS.bi q++[(3,.one 50 328 [dI 2,d0,d0,d0,dN,dN,dS (p.aU [lU]).name.1,dS [],.ac 1108 (l.map gZ.enc).length 3,d0,d0,dN,d0,dN,dN,dN,dN,dN,d0,d0,d0]),(1108,.acc 92 32 3 (l.map gZ.enc)),(2,.one 50 328 [d0,d0,d0,d0,dN,dN,dS [],dS [],dN,d0,d0,dN,d0,dN,dN,dN,dN,dN,d0,d0,d0])]) U ?_
 have U:br (PS.bi q++[(3,.one 50 328 [dI 2,d0,d0,d0,dN,dN,dS (p.aU [lU]).name.1,dS [],.ac 1108 (l.map gZ.enc).length 3,d0,d0,dN,d0,dN,dN,dN,dN,dN,d0,d0,d0]),(1108,.acc 92 32 3 (l.map gZ.enc)),(2,.one 50 328 [d0,d0,d0,d0,dN,dN,dS [],dS [],dN,d0,d0,dN,d0,dN,dN,dN,dN,dN,d0,d0,d0])]) (PS.bi q++[(3,.one 50 328 [dI 2,d0,d0,d0,dN,dN,dS (p.aU [lU]).name.1,dS [],.ac 1108 (l.map gZ.enc).length 3,d0,d0,dN,d0,dN,dN,dN,dN,dN,d0,d0,d0]),(1108,.acc 92 32 3 (l.map gZ.enc)),(2,.one 50 328 [d0,d0,d0,d0,dN,dN,dS [],dS [],dN,d0,d0,dN,d0,dN,dN,dN,dN,dN,d0,d0,d0])]):=dq rfl rfl ⟨rfl,rfl,rfl,trivial⟩
 have gp:q.aA.length=((p.lg.aU [lM]).bA cq).aA.length:=by rw[I.aA]
 refine dn _ _ hV U (aK (ai (ae 1 aa (bh (sign F I.ok cH) aa aa aa aa aa (af (aI aa (fun A=>?_) (fun A=>?_)))))))
 ·have h2:=I.top.sign cH
  have J:=oR I.ok A
  have fy:=I.ok.d8
  obtain⟨k,rfl⟩:∃k',k=k'+1:=⟨k-1,by have:=J.2;omega⟩
  rw[oT A] at z
  have Z:=h2.trans (G _ h2.top)
  refine aQ (bJ (iw (bk 3 aa (m7 (literal F K h2.top.st) aa aa aa aa aa aa (bk 1 aa ?_)))))
  refine eo rfl (dZ (rows:=l.map gZ.enc) (ys:=[((PS.literal (q.sign cH).2 D).1).enc]) rfl rfl rfl (.bs (rows:=[((PS.literal (q.sign cH).2 D).1).enc]) rfl) (bO rfl) (by simp only[bC,bZ,cP,dx];omega) (fun h=>by rw[h];rfl) (fun h=>by rw[h];rfl) ?_)
  refine bk 2 aa (c6 ?_)
  refine⟨k,gh k,l++[(PS.literal (q.sign cH).2 D).1],(PS.literal (q.sign cH).2 D).2,z,mE O _,?_,?_,I.trans Z,?_,?_⟩
  ·have:=Z.aJ;have:=J.1;have:=(G _ h2.top).aJ;rw[bC,dU];show l.length+1≤(PS.literal (q.sign cH).2 D).2.aJ+1;omega
  ·have:=(G _ h2.top).aJ;have:=J.1;show((p.lg.aU [lM]).bA cq).aA.length≤k+(PS.literal (q.sign cH).2 D).2.aJ;omega
  ·try simp only[dr,eF,fH]
   exact⟨aa,aa,aa,trivial⟩
  try simp only[dr,eF,fH]
  exact dq aa aa ⟨aa,aa,aa,trivial⟩
 rw[oU A] at z
 rw[PS.iA A]
 have hI:p.s7 D=(l,q):=by unfold PS.s7;rw[←z]
 have Y:p.qd D=(q.bA dP).aU [ld]:=by unfold PS.qd;rw[hI]
 have g1:=I.top.gQ dP
 have hm:p.insert D=({kind:=2,table:=(p.aU [lU]).name.1,row:=l,valid:=((p.qd D).period D).1},((p.qd D).period D).2):=by unfold PS.insert;rw[hI]
 refine dD (ai (ae 1 aa (bh (bA F I.ok dP) aa aa aa aa aa (af (ai (ae 2 aa (gq 34 34 aa aa (fun _=>⟨aa,aa⟩) ?_)))))))
 refine bh (aU F g1.ok [ld] (by decide)) rfl rfl rfl rfl rfl ?_
 refine af (ai ?_)
 rw[←Y]
 refine ae 1 aa (bh (period F K (hp.qd D).st) aa aa aa aa aa (ae 2 aa (af ?_)))
 refine ai (ae 1 aa (fo 39 1108 aa aa ⟨trivial,trivial,trivial,trivial,trivial,trivial,trivial,trivial,fun _=>⟨aa,aa⟩,trivial,trivial,trivial,trivial,trivial,trivial,trivial,trivial,trivial,trivial,trivial,trivial,trivial⟩ (ae 1 aa (af ?_))))
 refine ax ?_
 rw[hm]
 exact⟨_,PS.bi _,aa,cL aa aa,aa,aa⟩
set_option maxHeartbeats 4000000 in
theorem UW{T:bd}(F:FT T){D:Rd}(z:hM T D){p:PS}(hp:bf p):bY T 123 [.vp 1000 0] (PS.bi p) fun r Bn=>r=ez (p.remove D).1.enc∧Bn=PS.bz (p.remove D).2:=by
 refine cw F.ZU aa (al 1 aa (ai (ae 2 aa (gq 5 5 aa aa (fun _=>⟨aa,aa⟩) ?_))))
 refine bh (aU F hp.ok [il] (by decide)) rfl rfl rfl rfl rfl ?_
 refine af (ai (ae 1 aa (bh (name F (hp.dK [il]).st) aa aa aa aa aa (ae 3 aa (af ?_)))))
 refine ai (ae 2 aa (gq 11 11 aa aa (fun _=>⟨aa,aa⟩) ?_))
 refine bh (aU F (hp.dK [il]).top.name.ok [ld,oD,kf] (by decide)) rfl rfl rfl rfl rfl ?_
 refine af (ai (ae 1 aa (bh (period F z hp.wJ.st) aa aa aa aa aa (ae 2 aa (af ?_)))))
 refine ai (ae 1 aa (bh (Dp F z (hp.nE D).top) aa aa aa aa aa (ae 2 aa (af ?_))))
 refine ai (ae 4 aa (fo 22 1050 aa aa (fun _=>⟨aa,aa⟩) (ae 2 aa (af ?_))))
 refine ai (jE 1000 5 aa aa (ae 2 aa (af ?_)))
 exact ax (⟨_,PS.bz (p.remove D).2,aa,fM aa,aa,aa⟩)
set_option maxHeartbeats 4000000 in
theorem UX{T:bd}(F:FT T){D:Rd}(K:hM T D){p:PS}(hp:bf p):bY T 124 [.vp 1000 0] (PS.bi p) fun r Bn=>r=ez (p.update D).1.enc∧Bn=PS.bz (p.update D).2:=by
 refine cw F.ZV aa ?_
 have G:∀x:PS,bf x→bP x (PS.set x D).2:=fun _ h=>h.set D
 refine al 1 aa (ai (ae 1 aa (bh (name F hp.st) aa aa aa aa aa (ae 1 aa (sa 6 13 1113 94 24 2 aa aa aa (ae 2 aa (af ?_)))))))
 refine ai (ae 2 aa (gq 8 8 aa aa (fun _=>⟨aa,aa⟩) ?_))
 refine bh (aU F hp.name.ok [ld,oD,kf] (by decide)) rfl rfl rfl rfl rfl ?_
 refine af (ai (ae 1 aa (bh (period F K hp.gG.st) aa aa aa aa aa (ae 2 aa (af ?_)))))
 refine ai (ae 2 aa (gq 14 14 aa aa (fun _=>⟨aa,aa⟩) ?_))
 refine bh (aU F (hp.gG.top.period D).ok [kJ] (by decide)) rfl rfl rfl rfl rfl ?_
 refine af (eZ (bk 3 aa (m7 (gA F K (hp.yt D).top) aa aa aa aa aa aa (bk 1 aa (eo aa (dZ (rows:=[]) (ys:=[eR (((p.gG.period D).2.aU [kJ]).set D).1]) aa aa aa (.bs (rows:=[eR (((p.gG.period D).2.aU [kJ]).set D).1]) aa) (bO aa) (bO aa) (fun _=>aa) (fun _=>aa) ?_))))))
 refine bk 2 aa (c6 ?_)
 refine aK (bJ (dY (fun k VE B=>∃(l:List _)(q:PS),kE (fun p=>PS.set p D) k l q=(jk (fun p=>PS.set p D) ((p.gG.period D).2.aU [kJ]))∧l≠[]∧l.length≤q.aJ+1∧((p.gG.period D).2.aU [kJ]).aA.length≤k+q.aJ∧bP ((p.gG.period D).2.aU [kJ]) q∧br [(0,.vp 1000 0),(2,.vp 2 0),(3,.vp 3 0)] VE∧br (PS.bi q++[(3,.one 50 328 [dI 4,d0,d0,d0,dN,dN,dS p.name.1,dS [],dN,dI (p.gG.period D).1.1,dI (p.gG.period D).1.2,dN,d0,.ac 1113 (l.map eR).length 2,dN,dN,dN,dN,d0,d0,d0]),(1113,.acc 94 24 2 (l.map eR)),(2,.one 50 328 [d0,d0,d0,d0,dN,dN,dS [],dS [],dN,d0,d0,dN,d0,dN,dN,dN,dN,dN,d0,d0,d0])]) B) ?_ (k:=((p.gG.period D).2.aU [kJ]).aA.length) ⟨[(PS.set ((p.gG.period D).2.aU [kJ]) D).1],(PS.set ((p.gG.period D).2.aU [kJ]) D).2,aa,pX _ _,mR (da _),j0 _ _,G _ (hp.yt D).top,⟨aa,aa,aa,trivial⟩,dq aa aa ⟨aa,aa,aa,trivial⟩⟩))
 rintro k VE B⟨l,q,z,O,Z,hk,I,hV,U⟩
 refine eD (PS.bi q++[(3,.one 50 328 [dI 4,d0,d0,d0,dN,dN,dS p.name.1,dS [],dN,dI (p.gG.period D).1.1,dI (p.gG.period D).1.2,dN,d0,.ac 1113 (l.map eR).length 2,dN,dN,dN,dN,d0,d0,d0]),(1113,.acc 94 24 2 (l.map eR)),(2,.one 50 328 [d0,d0,d0,d0,dN,dN,dS [],dS [],dN,d0,d0,dN,d0,dN,dN,dN,dN,dN,d0,d0,d0])]) U ?_
 have U:br (PS.bi q++[(3,.one 50 328 [dI 4,d0,d0,d0,dN,dN,dS p.name.1,dS [],dN,dI (p.gG.period D).1.1,dI (p.gG.period D).1.2,dN,d0,.ac 1113 (l.map eR).length 2,dN,dN,dN,dN,d0,d0,d0]),(1113,.acc 94 24 2 (l.map eR)),(2,.one 50 328 [d0,d0,d0,d0,dN,dN,dS [],dS [],dN,d0,d0,dN,d0,dN,dN,dN,dN,dN,d0,d0,d0])]) (PS.bi q++[(3,.one 50 328 [dI 4,d0,d0,d0,dN,dN,dS p.name.1,dS [],dN,dI (p.gG.period D).1.1,dI (p.gG.period D).1.2,dN,d0,.ac 1113 (l.map eR).length 2,dN,dN,dN,dN,d0,d0,d0]),(1113,.acc 94 24 2 (l.map eR)),(2,.one 50 328 [d0,d0,d0,d0,dN,dN,dS [],dS [],dN,d0,d0,dN,d0,dN,dN,dN,dN,dN,d0,d0,d0])]):=dq rfl rfl ⟨rfl,rfl,rfl,trivial⟩
 have gp:q.aA.length=((p.gG.period D).2.aU [kJ]).aA.length:=by rw[I.aA]
 refine dn _ _ hV U (aK (ai (ae 1 aa (bh (sign F I.ok cH) aa aa aa aa aa (af (aI aa (fun A=>?_) (fun A=>?_)))))))
 ·have h2:=I.top.sign cH
  have J:=oR I.ok A
  have fy:=I.ok.d8
  obtain⟨k,rfl⟩:∃k',k=k'+1:=⟨k-1,by have:=J.2;omega⟩
  rw[oT A] at z
  have Y:=h2.trans (G _ h2.top)
  refine aQ (bJ (iw (bk 3 aa (m7 (gA F K h2.top) aa aa aa aa aa aa (bk 1 aa ?_)))))
  refine eo rfl (dZ (rows:=l.map eR) (ys:=[eR ((PS.set (q.sign cH).2 D).1)]) rfl rfl rfl (.bs (rows:=[eR ((PS.set (q.sign cH).2 D).1)]) rfl) (bO rfl) (by simp only[bC,bZ,cP,dx];omega) (fun h=>by rw[h];rfl) (fun h=>by rw[h];rfl) ?_)
  refine bk 2 aa (c6 ?_)
  refine⟨k,gh k,l++[(PS.set (q.sign cH).2 D).1],(PS.set (q.sign cH).2 D).2,z,mE O _,?_,?_,I.trans Y,?_,?_⟩
  ·have:=Y.aJ;have:=J.1;have:=(G _ h2.top).aJ;rw[bC,dU];show l.length+1≤(PS.set (q.sign cH).2 D).2.aJ+1;omega
  ·have:=(G _ h2.top).aJ;have:=J.1;show((p.gG.period D).2.aU [kJ]).aA.length≤k+(PS.set (q.sign cH).2 D).2.aJ;omega
  ·try simp only[dr,eF,fH]
   exact⟨aa,aa,aa,trivial⟩
  try simp only[dr,eF,fH]
  exact dq aa aa ⟨aa,aa,aa,trivial⟩
 rw[oU A] at z
 rw[PS.iA A]
 have hI:p.pn D=(l,q):=by unfold PS.pn;rw[←z]
 have hm:p.update D=({kind:=4,table:=p.name.1,valid:=(p.gG.period D).1,m8:=l,wh:=(q.d7 D).1,exprs:=(q.d7 D).2.ex},(q.d7 D).2):=by unfold PS.update;rw[hI]
 refine dD (ai (ae 1 aa (bh (Dp F K I.top) aa aa aa aa aa (ae 2 aa (af ?_)))))
 refine ai (ae 4 aa (fo 38 1050 aa aa (fun _=>⟨aa,aa⟩) (ae 2 aa (af ?_))))
 refine ai (jE 1000 5 aa aa (ae 1 aa (fo 40 1113 aa aa ⟨trivial,trivial,trivial,trivial,trivial,trivial,trivial,trivial,trivial,trivial,trivial,trivial,trivial,fun _=>⟨aa,aa⟩,trivial,trivial,trivial,trivial,trivial,trivial,trivial,trivial⟩ (ae 1 aa (af ?_)))))
 refine ax ?_
 rw[hm]
 exact⟨_,PS.bz _,aa,fM aa,aa,aa⟩
set_option maxHeartbeats 4000000 in
theorem V'{T:bd}(F:FT T){p:PS}(hp:bf p):bY T 126 [.vp 1000 0] (PS.bi p) fun r Bn=>r=ez p.alter.1.enc∧Bn=PS.bi p.alter.2:=by
 refine cw F.ZX aa (al 1 aa (ai (ae 2 aa (gq 5 5 aa aa (fun _=>⟨aa,aa⟩) ?_))))
 refine bh (aU F hp.ok [dh] (by decide)) rfl rfl rfl rfl rfl ?_
 refine af (ai (ae 1 aa (bh (name F (hp.dK [dh]).st) aa aa aa aa aa (ae 1 aa (af ?_)))))
 refine aK (bJ (ai (ae 1 aa (bh (keyword F hp.gu.ok n9) aa aa aa aa aa (ae 1 aa (af ?_))))))
 refine aI aa (fun A=>?_) (fun A=>?_)
 ·have I:=hp.gu.top.kw n9
  have G:p.alter=({kind:=6,table:=(p.aU [dh]).name.1,jq:=[(p.gu.keyword n9).2.column.1]},(p.gu.keyword n9).2.column.2):=by unfold PS.alter;rw[aw A]
  refine ai (ae 2 aa (bh (Hp F I.top) aa aa aa aa aa (ae 1 aa (gq 15 15 aa aa (fun _=>⟨aa,aa⟩) (ae 2 aa (af ?_))))))
  refine ax ?_
  rw[G]
  exact⟨_,PS.bi _,aa,cL aa aa,aa,aa⟩
 rw[PS.cQ A]
 refine ai (ae 1 aa (bh (keyword F hp.gu.ok p6) aa aa aa aa aa (ae 1 aa (af ?_))))
 refine aI aa (fun z=>?_) (fun z=>?_)
 ·have I:=hp.gu.top.kw p6
  have G:p.alter=({kind:=7,table:=(p.aU [dh]).name.1,name:=(p.gu.keyword p6).2.name.1},(p.gu.keyword p6).2.name.2):=by unfold PS.alter;rw[aj (by rw[A];decide),aw z]
  refine ai (ae 2 aa (bh (name F I.st) aa aa aa aa aa (ae 2 aa (af ?_))))
  refine ax ?_
  rw[G]
  exact⟨_,PS.bi _,aa,cL aa aa,aa,aa⟩
 rw[PS.cQ z]
 have G:p.alter=(({}:Stmt),p.gu.fail 5):=by unfold PS.alter;rw[aj (by rw[A];decide),aj (by rw[z];decide)]
 refine aQ (ai (ae 1 aa (bh (fail F hp.gu.ok 5) aa aa aa aa aa (af (al 2 aa (ax ?_))))))
 rw[G]
 exact⟨_,PS.bi _,aa,cL aa aa,aa,aa⟩
end Go.Ev.Pp
