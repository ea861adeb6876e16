/- Part 18 of rules for walks through the code of a program, and of such walks; what each part proves is said by its theorems. -/
import Derived.Test.YtijnechfhdlgiaaGreatDoorS17
set_option linter.unusedVariables false
set_option linter.unusedSimpArgs false
noncomputable section
set_option maxRecDepth 100000
set_option maxHeartbeats 4000000
namespace Go.Ev.Pp
open Go
theorem yv{T:bd}(F:FT T){a:Bool}{p:PS}(hp:St p)(least:Int):cg T 161 [.vp 1000 0,dI least] (PS.bq a p) fun r Bn=>r=dI (p.number least).1∧Bn=PS.bq a (p.number least).2:=by
 refine cL F.abQ aa (an 1 aa (ai (ae 1 aa (bV (w5 F hp.ok (k:=3) aq) aa aa aa aa (ak 1 aa (aL (an 5 aa (aK aa (fun bQ=>?_) (fun bQ=>?_)))))))))
 ·have h0:¬(p.take 3 0).2.err=0:=by simpa using bQ
  have Y:p.number least=(0,(p.take 3 0).2):=Tx h0
  refine an 1 aa (ay ?_)
  rw[Y];exact⟨_,PS.bq a _,rfl,⟨rfl,trivial⟩,rfl,rfl⟩
 have h0:(p.take 3 0).2.err=0:=by simpa using bQ
 obtain⟨U,h2⟩:=Bv h0
 have ew:=PS.mc hp.ok (k:=3) aq h2
 have fZ:=hp.ok.eG
 have I:p.take 3 0=(p.tok.text,p.step):=u6 U h2
 rw[I]
 have hs:=hp.nY.1 _ hp.ok.mem h2
 have Ry:=DS hs
 have Z:p.called 3=true:=by unfold PS.called;rw[U,h2];rfl
 have J:((p.aO+1:Nat):Int) -Int.ofNat 1=((p.aO:Nat):Int):=by simp only[bN];omega
 refine aQ (ai (ae 1 aa (aj (fG (args:=[dS p.tok.text]) aa fJ (HK F hs) (fun r hn hr=>?_)))))
 subst hr
 refine ak 1 aa (aL (ai (ae 3 aa (dc (g:=bh) aa (fun z=>?_) (fun z=>?_)))))
 ·have uv:¬(eE p.tok.text:Int)<1099511627776:=by simp at z;omega
  have K:mW least p.tok.text=10:=al (fun h=>uv h.1)
  refine aY aa (z) (aY aa (z) (aY aa (z) (aY aa (z) (aj (c8 aa (z) aa ?_)))))
  refine aX (eW aa aa (ai (ae 4 aa ?_)))
  refine aj (f3 (a:=((p.aO+1:Nat):Int)) rfl rfl (by simp only[bN];omega) (by simp only[bN];omega) ?_)
  rw[J]
  refine ak 3 aa (ai ?_)
  refine eX (PS.bq a p) ⟨by rw[sV U];rfl,trivial⟩ ?_
  refine ae 1 aa (bV (mD F hp.ok aq) aa aa aa aa (aX (an 1 aa (ay ?_))))
  rw[Lu Z K];exact⟨_,PS.bq a (p.fail 10),rfl,⟨rfl,trivial⟩,rfl,rfl⟩
 have O:(eE p.tok.text:Int)<1099511627776:=by simp at z;omega
 refine aw aa (z) (bY aa ?_)
 refine aw aa (z) (uW aa ?_)
 rw[wrap_i64 ah ah]
 refine aw aa (z) (bY aa ?_)
 refine aw aa (z) (nO aa aa ?_)
 refine aj (cS aa (z) aa ?_)
 refine aX (aK aa (fun A=>?_) (fun A=>?_))
 ·have K:mW least p.tok.text=10:=al (fun h=>by have G:=A;simp at G;omega)
  refine ai (ae 4 aa ?_)
  refine aj (f3 (a:=((p.aO+1:Nat):Int)) rfl rfl (by simp only[bN];omega) (by simp only[bN];omega) ?_)
  rw[J]
  refine ak 3 aa (ai ?_)
  refine eX (PS.bq a p) ⟨by rw[sV U];rfl,trivial⟩ ?_
  refine ae 1 aa (bV (mD F hp.ok aq) aa aa aa aa (aX (an 1 aa (ay ?_))))
  rw[Lu Z K];exact⟨_,PS.bq a (p.fail 10),rfl,⟨rfl,trivial⟩,rfl,rfl⟩
 have K:mW least p.tok.text=0:=az ⟨O,by have G:=A;simp at G;omega⟩
 have Y:p.number least=(((eE p.tok.text:Nat):Int),p.step):=by unfold PS.number;rw[K,az ⟨Z,rfl⟩,I]
 refine aQ (ai (ae 2 aa ?_))
 rw[wrap_i64 ah ah]
 refine ak 1 aa (ay ?_)
 rw[Y];exact⟨_,PS.bq a _,rfl,⟨rfl,trivial⟩,rfl,rfl⟩
theorem QO{T:bd}(F:FT T){D:Rd}(Lq:kM T D){a:Bool}{p:PS}(hp:St p):cg T 159 [.vp 1000 0] (PS.bq a p) fun r Bn=>(∃v,r=dI v∧((p.day D).2.err=0→v=(p.day D).1))∧Bn=PS.bq a (p.day D).2:=by
 refine cL F.abO aa (an 1 aa (ai (ae 1 aa (bV (w5 F hp.ok (k:=4) aq) aa aa aa aa (ak 1 aa (aL (an 5 aa (aK aa (fun Y=>?_) (fun Y=>?_)))))))))
 ·have h0:¬(p.take 4 0).2.err=0:=by simpa using Y
  have J:(p.day D).2=(p.take 4 0).2:=Wl h0
  have he:¬(p.day D).2.err=0:=by rw[J];exact h0
  refine an 1 aa (ay ?_)
  exact⟨_,PS.bq a _,rfl,⟨rfl,trivial⟩,⟨_,rfl,fun k=>absurd k he⟩,by rw[J]⟩
 have h0:(p.take 4 0).2.err=0:=by simpa using Y
 obtain⟨h1,h2⟩:=Bv h0
 have ew:=PS.mc hp.ok (k:=4) aq h2
 have fZ:=hp.ok.eG
 have O:p.take 4 0=(p.tok.text,p.step):=u6 h1 h2
 rw[O]
 have hs:=hp.nY.2 _ hp.ok.mem
 have U:p.called 4=true:=by unfold PS.called;rw[h1,h2];rfl
 have hdle:=Lq.lC p.tok.text
 have Z:((p.aO+1:Nat):Int) -Int.ofNat 1=((p.aO:Nat):Int):=by simp only[bN];omega
 refine aQ (ai (ae 1 aa (aj (fG (args:=[dS p.tok.text]) aa fJ (Lq.day _ hs) (fun r hn hr=>?_)))))
 subst hr
 refine ak 5 aa (aL (ai (ae 3 aa (dc (g:=bm) aa (fun G=>?_) (fun G=>?_)))))
 ·refine aw aa (G) (bY aa ?_)
  refine aw aa (G) (iC aa aa ?_)
  refine aj (c8 aa (G) aa ?_)
  refine aX (aK aa (fun Kc=>?_) (fun Kc=>?_))
  ·have I:D.kr p.tok.text=10:=by unfold Rd.kr;rw[az ⟨by simpa using G,by simp at Kc;omega⟩]
   refine bC (ak 1 aa (aL (an 2 aa (aK aa (fun z=>?_) (fun z=>?_)))))
   ·have A:¬D.kr p.tok.text=0:=by rw[I];first|decide|simpa using z
    refine ai (ae 4 aa ?_)
    refine aj (f3 (a:=((p.aO+1:Nat):Int)) rfl rfl (by simp only[bN];omega) (by simp only[bN];omega) ?_)
    rw[Z]
    refine ak 3 aa (ai ?_)
    refine eX (PS.bq a p) ⟨by rw[sV h1];rfl,trivial⟩ ?_
    refine ae 2 aa (bV (mD F hp.ok (e:=10) aq) aa aa aa aa (aX (an 1 aa (ay ?_))))
    exact⟨_,PS.bq a (p.fail 10),rfl,⟨rfl,trivial⟩,⟨_,rfl,fun k=>absurd k (G4 U I A)⟩,by rw[Et U I A]⟩
   have K:D.kr p.tok.text=0:=by rw[I];first|(exact absurd z aq)|simpa using z
   have J:p.day D=((D.day p.tok.text).1,p.step):=HJ U O K
   refine aQ (an 2 aa (ay ?_))
   exact⟨_,PS.bq a p.step,rfl,⟨rfl,trivial⟩,⟨_,rfl,fun _=>by rw[J]⟩,by rw[J]⟩
  have I:D.kr p.tok.text=(D.day p.tok.text).2:=by unfold Rd.kr;rw[al (fun k=>absurd k.2 (by simp at Kc;omega))]
  refine aQ (aL (an 2 aa (aK aa (fun z=>?_) (fun z=>?_))))
  ·have A:¬D.kr p.tok.text=0:=by rw[I];first|decide|simpa using z
   refine ai (ae 4 aa ?_)
   refine aj (f3 (a:=((p.aO+1:Nat):Int)) rfl rfl (by simp only[bN];omega) (by simp only[bN];omega) ?_)
   rw[Z]
   refine ak 3 aa (ai ?_)
   refine eX (PS.bq a p) ⟨by rw[sV h1];rfl,trivial⟩ ?_
   refine ae 2 aa ?_
   refine bV (mD F hp.ok (by rw[←I];exact A)) rfl rfl rfl rfl ?_
   refine aX (an 1 aa (ay ?_))
   exact⟨_,PS.bq a (p.fail (D.day p.tok.text).2),rfl,⟨rfl,trivial⟩,⟨_,rfl,fun k=>absurd k (G4 U I A)⟩,by rw[Et U I A]⟩
  have K:D.kr p.tok.text=0:=by rw[I];first|(exact absurd z aq)|simpa using z
  have J:p.day D=((D.day p.tok.text).1,p.step):=HJ U O K
  refine aQ (an 2 aa (ay ?_))
  exact⟨_,PS.bq a p.step,rfl,⟨rfl,trivial⟩,⟨_,rfl,fun _=>by rw[J]⟩,by rw[J]⟩
 have I:D.kr p.tok.text=(D.day p.tok.text).2:=by unfold Rd.kr;rw[al (fun k=>absurd k.1 (by simpa using G))]
 refine aY aa (G) (aY aa (G) (aj (cS aa (G) aa ?_)))
 refine aX (ef aa aa (aQ (aL (an 2 aa (aK aa (fun z=>?_) (fun z=>?_))))))
 ·have A:¬D.kr p.tok.text=0:=by rw[I];first|decide|simpa using z
  refine ai (ae 4 aa ?_)
  refine aj (f3 (a:=((p.aO+1:Nat):Int)) rfl rfl (by simp only[bN];omega) (by simp only[bN];omega) ?_)
  rw[Z]
  refine ak 3 aa (ai ?_)
  refine eX (PS.bq a p) ⟨by rw[sV h1];rfl,trivial⟩ ?_
  refine ae 2 aa ?_
  refine bV (mD F hp.ok (by rw[←I];exact A)) rfl rfl rfl rfl ?_
  refine aX (an 1 aa (ay ?_))
  exact⟨_,PS.bq a (p.fail (D.day p.tok.text).2),rfl,⟨rfl,trivial⟩,⟨_,rfl,fun k=>absurd k (G4 U I A)⟩,by rw[Et U I A]⟩
 have K:D.kr p.tok.text=0:=by rw[I];first|(exact absurd z aq)|simpa using z
 have J:p.day D=((D.day p.tok.text).1,p.step):=HJ U O K
 refine aQ (an 2 aa (ay ?_))
 exact⟨_,PS.bq a p.step,rfl,⟨rfl,trivial⟩,⟨_,rfl,fun _=>by rw[J]⟩,by rw[J]⟩
theorem Nz{T:bd}(F:FT T){D:Rd}(Z:kM T D){a:Bool}{p:PS}(hp:St p):cg T 152 [.vp 1000 0] (PS.bq a p) fun r Bn=>(∃v:Int×Int,r= .agg [dI v.1,dI v.2]∧((p.period D).2.err=0→v=(p.period D).1))∧Bn=PS.bq a (p.period D).2:=by
 refine cL F.abI aa (an 1 aa (ai (ae 1 aa (bV (w5 F hp.ok (k:=4) aq) aa aa aa aa (ak 1 aa (aL (an 5 aa (aK aa (fun z=>?_) (fun z=>?_)))))))))
 ·have h0:¬(p.take 4 0).2.err=0:=by simpa using z
  have I:(p.period D).2=(p.take 4 0).2:=Ty h0
  have he:¬(p.period D).2.err=0:=by rw[I];exact h0
  refine an 2 aa (ay ?_)
  exact⟨_,PS.bq a _,rfl,⟨rfl,trivial⟩,⟨(0,0),rfl,fun k=>absurd k he⟩,by rw[I]⟩
 have h0:(p.take 4 0).2.err=0:=by simpa using z
 obtain⟨K,h2⟩:=Bv h0
 have ew:=PS.mc hp.ok (k:=4) aq h2
 have fZ:=hp.ok.eG
 have J:p.take 4 0=(p.tok.text,p.step):=u6 K h2
 rw[J]
 have hs:=hp.nY.2 _ hp.ok.mem
 have O:p.called 4=true:=by unfold PS.called;rw[K,h2];rfl
 have U:((p.aO+1:Nat):Int) -Int.ofNat 1=((p.aO:Nat):Int):=by simp only[bN];omega
 refine aQ (ai (ae 1 aa (aj (fG (args:=[dS p.tok.text]) aa fJ (Z.iU _ hs) (fun r hn hr=>?_)))))
 subst hr
 refine ak 6 aa (aL (an 2 aa (aK aa (fun A=>?_) (fun A=>?_))))
 ·have G:¬(D.iU p.tok.text).2=0:=by simpa using A
  refine ai (ae 4 aa ?_)
  refine aj (f3 (a:=((p.aO+1:Nat):Int)) rfl rfl (by simp only[bN];omega) (by simp only[bN];omega) ?_)
  rw[U]
  refine ak 3 aa (ai ?_)
  refine eX (PS.bq a p++[(2,.one 42 16 [d0,d0])]) (cU (by rw[sV K];rfl) ⟨rfl,trivial⟩) ?_
  refine ae 2 aa (bV (mD F hp.ok G) aa aa aa aa (aX (an 2 aa (ay ?_))))
  exact⟨_,PS.bq a (p.fail (D.iU p.tok.text).2),rfl,⟨rfl,trivial⟩,⟨(0,0),rfl,fun k=>absurd k (Sg O G)⟩,by rw[Lv O G]⟩
 have Y:(D.iU p.tok.text).2=0:=by simpa using A
 have I:p.period D=((D.iU p.tok.text).1,p.step):=SW O J Y
 refine aQ (an 2 aa (ay ?_))
 exact⟨_,PS.bq a p.step,rfl,⟨rfl,trivial⟩,⟨(D.iU p.tok.text).1,rfl,fun _=>by rw[I]⟩,by rw[I]⟩
theorem HL{T:bd}(F:FT T){a:Bool}{p:PS}(hp:bk p):cg T 160 [.vp 1000 0] (PS.bq a p) fun r Bn=>r=dI p.iL.1∧Bn=PS.bq a p.iL.2:=by
 refine cL F.abP aa (an 1 aa (aL (ai (ae 1 aa (bV (gn F hp.ok fM) aa aa aa aa (aX (aK aa (fun z=>?_) (fun z=>?_))))))))
 ·have A:p.iL=((p.keyword fM).2.bc [kD]).number (-1):=by unfold PS.iL;rw[az z]
  refine ai (ae 1 aa (bV (jx F (hp.kw fM).ok kD) aa aa aa aa (aX (ai (ae 1 aa (bV (yv F ((hp.kw fM).top.d6 [kD]).st (-1)) aa aa aa aa (ak 1 aa (ay ?_))))))))
  rw[A]
  exact⟨_,PS.bq a _,aa,⟨aa,trivial⟩,aa,aa⟩
 have A:p.iL=(1099511627776,p):=by unfold PS.iL;rw[al (by rw[z];decide)]
 rw[PS.da z]
 refine aQ (an 1 aa (ay ?_))
 rw[A]
 exact⟨_,PS.bq a _,aa,⟨aa,trivial⟩,aa,aa⟩
variable{p:PS}{a:Bool}{D:Rd}
theorem vN{s:List UInt8}(h:(p.keyword s).1=true):p.err=0∧p.tok.kind=1∧p.tok.text=s:=by
 have z:=(PS.qg h).2
 unfold PS.next at z
 simpa using z
theorem ru{s:List UInt8}(h:(p.sign s).1=true):p.err=0∧p.tok.kind=5∧p.tok.text=s:=by
 have z:=(PS.qg h).2
 unfold PS.next at z
 simpa using z
theorem ET{s:List UInt8}(h:p.tok.kind≠1∨p.tok.text≠s):(p.keyword s).1=false:=by
 cases hk:(p.keyword s).1
 ·rfl
 obtain⟨_,z,h2⟩:=vN hk;rcases h with h|h<;>contradiction
theorem yN{s:List UInt8}(h:p.tok.kind≠5∨p.tok.text≠s):(p.sign s).1=false:=by
 cases hk:(p.sign s).1
 ·rfl
 obtain⟨_,z,h2⟩:=ru hk;rcases h with h|h<;>contradiction
theorem Wm(h:¬p.err=0):p.literal D=(cI,p):=by unfold PS.literal;rw[az h]
theorem Hv{s:List UInt8}(h:(p.keyword s).1=true)(z:s=pQ∨s=pI∨s=lW):p.tok.lU=true:=by
 obtain⟨_,A,h2⟩:=vN h
 unfold cu.lU
 rw[A,h2]
 rcases z with rfl|rfl|rfl<;>decide
theorem Vc(h:(p.keyword lW).1=true):p.literal D=(cI,(p.keyword lW).2):=by
 obtain⟨h0,z,h2⟩:=vN h
 unfold PS.literal
 rw[al (by simpa using h0),al (by rw[Hv h (.inr (.inr rfl))];decide),al (by rw[yN (.inl (by rw[z];decide))];decide),al (by rw[z];decide),al (by rw[ET (.inr (by rw[h2];decide))];decide),al (by rw[ET (.inr (by rw[h2];decide))];decide),az h]
theorem Vd(h:(p.keyword pQ).1=true):p.literal D=(⟨3,1,[]⟩,(p.keyword pQ).2):=by
 obtain⟨h0,z,h2⟩:=vN h
 unfold PS.literal
 rw[al (by simpa using h0),al (by rw[Hv h (.inl rfl)];decide),al (by rw[yN (.inl (by rw[z];decide))];decide),al (by rw[z];decide),az h]
theorem Uj(h:(p.keyword pI).1=true):p.literal D=(⟨3,0,[]⟩,(p.keyword pI).2):=by
 obtain⟨h0,z,h2⟩:=vN h
 unfold PS.literal
 rw[al (by simpa using h0),al (by rw[Hv h (.inr (.inl rfl))];decide),al (by rw[yN (.inl (by rw[z];decide))];decide),al (by rw[z];decide),al (by rw[ET (.inr (by rw[h2];decide))];decide),az h]
theorem Ve(h0:p.err=0)(z:p.tok.kind=4):p.literal D=(⟨2,0,p.tok.text⟩,p.step):=by
 have hk:∀s,(p.keyword s).1=false:=fun s=>ET (.inl (by rw[z];decide))
 unfold PS.literal
 rw[al (by simpa using h0),al (by unfold cu.lU;rw[z];simp),al (by rw[yN (.inl (by rw[z];decide))];decide),al (by rw[z];decide),al (by rw[hk];decide),al (by rw[hk];decide),al (by rw[hk];decide)]
theorem Uk(h:p.next 5 hZ=true):p.literal D=(p.sign hZ).2.integer D true∧(p.sign hZ).1=true:=by
 have z:(p.sign hZ).1=true:=by unfold PS.sign PS.accept;rw[az h]
 obtain⟨h0,A,h2⟩:=ru z
 refine⟨?_,z⟩
 unfold PS.literal
 rw[al (by simpa using h0),al (by unfold cu.lU;rw[A,h2];decide),az z]
theorem Wo(h0:p.err=0)(z:p.tok.kind=3):p.literal D=(p.sign hZ).2.integer D false∧(p.sign hZ).1=false:=by
 have A:(p.sign hZ).1=false:=yN (.inl (by rw[z];decide))
 refine⟨?_,A⟩
 rw[PS.iS A]
 unfold PS.literal
 rw[al (by simpa using h0),al (by unfold cu.lU;rw[z];simp),al (by rw[A];decide),az z]
theorem Vf(h0:p.err=0)(A:(p.keyword pQ).1=false)(G:(p.keyword pI).1=false)(hN:(p.keyword lW).1=false)(I:¬p.tok.kind=4)(J:¬p.tok.kind=3)(K:p.next 5 hZ=false):p.literal D=(cI,p.fail 5):=by
 have z:p.tok.lU=false:=by
  have O:=(PS.tc A).2
  have U:=(PS.tc G).2
  have Y:=(PS.tc hN).2
  unfold PS.next at K O U Y
  unfold cu.lU
  rw[decide_eq_false I,decide_eq_false J]
  by_cases Z:p.tok.kind=5
  ·simp_all
  by_cases k1:p.tok.kind=1
  ·simp_all
  simp_all
 unfold PS.literal
 rw[al (by simpa using h0),az z]
theorem La{n:Bool}(h:¬(p.take 3 0).2.err=0):(p.integer D n).2=(p.take 3 0).2:=by unfold PS.integer;rw[(A' h).1]
theorem G5{n:Bool}(z:p.called 3=true)(A:D.int n p.tok.text=none):(p.integer D n).2=p.fail 10:=by
 have e:D.rh n p.tok.text=10:=by unfold Rd.rh;rw[A];rfl
 unfold PS.integer;rw[e,D3 z aq]
theorem GZ{n:Bool}{v:Int}(z:p.called 3=true)(A:D.int n p.tok.text=some v):p.integer D n=(⟨1,v,[]⟩,p.step):=by
 have e:D.rh n p.tok.text=0:=by unfold Rd.rh;rw[A];rfl
 obtain⟨G,h2⟩:=DU z
 unfold PS.integer;rw[e,u6 G h2,az z,A];rfl
theorem NA{n:Nat}(h:n≤9223372036854775808):IntKind.i64.wrap (IntKind.u64.wrap (0-(n:Int)))= -(n:Int):=by
 rw[Int.zero_sub]
 simp[IntKind.wrap,IntKind.bits,IntKind.signed]
 omega
def Gi(D:Rd)(a:Bool)(p:PS)(r:VV)(Bn:bw):Prop:=∃v b q,r= .tuple [eU (iA.enc v),dB b]∧Bn=PS.bq a q∧(b=true→q=(p.literal D).2∧(q.err=0→v=(p.literal D).1))∧(b=false→q=p∧(p.literal D).2=p.fail 5)
theorem ql{v:iA}{q:PS}{r:VV}{Bn:bw}(z:r= .tuple [eU v.enc,dB true])(A:Bn=PS.bq a q)(G:q=(p.literal D).2)(h2:q.err=0→v=(p.literal D).1):Gi D a p r Bn:=⟨v,true,q,z,A,fun _=>⟨G,h2⟩,fun k=>by cases k⟩
theorem NB{r:VV}{Bn:bw}(z:r= .tuple [eU cI.enc,dB false])(A:Bn=PS.bq a p)(h:(p.literal D).2=p.fail 5):Gi D a p r Bn:=
 ⟨cI,false,p,z,A,(fun k=>by cases k),fun _=>⟨rfl,h⟩⟩
theorem MW{T:bd}(F:FT T){D:Rd}(Lq:kM T D){a:Bool}{p:PS}(hp:St p):cg T 197 [.vp 1000 0] (PS.bq a p) (Gi D a p):=by
 refine cL F.ab8 aa ?_
 have ua:(p.aF.map cu.enc)[p.aO]?=some p.tok.enc:=by rw[iJ,hp.ok.get];rfl
 refine an 2 aa (aL (bM (an 6 aa (aK aa (fun h7=>?_) (fun h7=>?_)))))
 ·have h0:¬p.err=0:=by simpa using h7
  have I:=Wm (D:=D) h0
  have hz:p.fail 5=p:=al h0
  refine an 3 aa (ay ?_)
  exact⟨_,PS.bq a p,rfl,⟨rfl,trivial⟩,NB rfl rfl (by rw[I,hz])⟩
 have h0:p.err=0:=by simpa using h7
 refine ai (ae 1 aa (bV (gn F hp.ok lW) aa aa aa aa (ak 1 aa (aK aa (fun Y=>?_) (fun Y=>?_)))))
 ·have I:=Vc (D:=D) Y
  refine an 3 aa (ay ?_)
  exact⟨_,PS.bq a (p.keyword lW).2,rfl,⟨rfl,trivial⟩,ql rfl rfl (by rw[I]) (fun _=>by rw[I])⟩
 rw[PS.da Y]
 refine ai (ae 1 aa (bV (gn F hp.ok pQ) aa aa aa aa (ak 1 aa (aK aa (fun Z=>?_) (fun Z=>?_)))))
 ·have I:=Vd (D:=D) Z
  refine an 3 aa (ay ?_)
  exact⟨_,PS.bq a (p.keyword pQ).2,rfl,⟨rfl,trivial⟩,ql rfl rfl (by rw[I]) (fun _=>by rw[I])⟩
 rw[PS.da Z]
 refine ai (ae 1 aa (bV (gn F hp.ok pI) aa aa aa aa (ak 1 aa (aK aa (fun sU=>?_) (fun sU=>?_)))))
 ·have I:=Uj (D:=D) sU
  refine an 3 aa (ay ?_)
  exact⟨_,PS.bq a (p.keyword pI).2,rfl,⟨rfl,trivial⟩,ql rfl rfl (by rw[I]) (fun _=>by rw[I])⟩
 rw[PS.da sU]
 refine eO (bD 8 aa (bG (lF (row:=p.tok.enc) aa aa ua aa ?_)))
 refine du 4 aa (aK aa (fun q7=>?_) (fun q7=>?_))
 ·have h4:p.tok.kind=4:=by simpa using q7
  have I:=Ve (D:=D) h0 h4
  have hm4:=u6 h0 h4
  refine ai (ae 1 aa (bV (w5 F hp.ok (k:=4) aq) aa aa aa aa ?_))
  rw[hm4]
  refine ak 3 aa (ay ?_)
  exact⟨_,PS.bq a p.step,rfl,⟨rfl,trivial⟩,ql rfl rfl (by rw[I]) (fun _=>by rw[I])⟩
 have h4:¬p.tok.kind=4:=by simpa using q7
 refine eO (bD 8 aa (bG (lF (row:=p.tok.enc) aa aa ua aa ?_)))
 refine bD 4 aa (wN (g:=eT) aa (fun J=>?_) (fun J=>?_))
 ·have h3:¬p.tok.kind=3:=by simpa using J
  refine ey aa (J) (bY aa ?_)
  refine iR aa (J) aa (xk (AL F hp.ok 5 hZ) aa aa aa aa ?_)
  refine ey aa (J) (j0 aa ?_)
  refine bG (c8 aa (J) aa ?_)
  refine du 1 aa (aK aa (fun p8=>?_) (fun p8=>?_))
  ·have Kd:p.next 5 hZ=false:=by simpa using p8
   have I:=Vf (D:=D) h0 Z sU Y h4 h3 Kd
   refine an 3 aa (ay ?_)
   exact⟨_,PS.bq a p,rfl,⟨rfl,trivial⟩,NB rfl rfl (by rw[I])⟩
  have Kd:p.next 5 hZ=true:=by simpa using p8
  obtain⟨G,Ke⟩:=Uk (D:=D) Kd
  have K:=hp.sign hZ
  refine aQ (ai (ae 1 aa (bV (m7 F hp.ok hZ) aa aa aa aa ?_)))
  rw[Ke]
  generalize (p.sign hZ).2=q at G K⊢
  refine ak 1 aa (ai (ae 1 aa (bV (w5 F K.ok (k:=3) aq) aa aa aa aa (ak 1 aa (aL (an 5 aa (aK aa (fun O=>?_) (fun O=>?_))))))))
  ·have h5:¬(q.take 3 0).2.err=0:=by simpa using O
   have I:(p.literal D).2=(q.take 3 0).2:=by rw[G,La h5]
   exact an 3 aa (ay (⟨_,PS.bq a (q.take 3 0).2,aa,⟨aa,trivial⟩,ql (v:=cI) aa aa I.symm (fun k=>absurd k h5)⟩))
  have h5:(q.take 3 0).2.err=0:=by simpa using O
  obtain⟨U,h2⟩:=Bv h5
  have ew:=PS.mc K.ok (k:=3) aq h2
  have fZ:=K.ok.eG
  have mP:q.take 3 0=(q.tok.text,q.step):=u6 U h2
  rw[mP]
  have hs:=K.nY.1 _ K.ok.mem h2
  have Ry:=DS hs
  have hc:q.called 3=true:=by unfold PS.called;rw[U,h2];rfl
  have hi:=Lq.int
  have nF:((q.aO+1:Nat):Int) -Int.ofNat 1=((q.aO:Nat):Int):=by simp only[bN];omega
  refine aQ (ai (ae 1 aa (aj (fG (args:=[dS q.tok.text]) aa fJ (HK F hs) (fun r hn hr=>?_)))))
  subst hr
  refine ak 1 aa (aL (ai (ae 3 aa (dc (g:=ig) aa (fun z=>?_) (fun z=>?_)))))
  ·have ac3:(9223372036854775808:Int)<(eE q.tok.text:Nat):=by simpa using z
   have I:(p.literal D).2=q.fail 10:=by rw[G];exact G5 hc (by rw[hi,al (fun k=>by omega)])
   refine aY aa (z) (aY aa (z) (aY aa (z) (D1 aa (D1 aa (aY aa (z) (aj (c8 aa (z) aa ?_)))))))
   refine aX (eW aa aa (ai (ae 4 aa ?_)))
   refine aj (f3 (a:=((q.aO+1:Nat):Int)) rfl rfl (by simp only[bN];omega) (by simp only[bN];omega) ?_)
   rw[nF]
   refine ak 3 aa (ai ?_)
   refine eX (PS.bq a q++[(2,.one 92 32 [d0,d0,dS []])]) (cU (by rw[sV U];rfl) ⟨rfl,trivial⟩) ?_
   refine ae 1 aa (bV (mD F K.ok aq) aa aa aa aa (aX (an 3 aa (ay ?_))))
   exact⟨_,PS.bq a (q.fail 10),rfl,⟨rfl,trivial⟩,ql (v:=cI) rfl rfl I.symm (fun k=>absurd k (by rw[wP U];decide))⟩
  have hle:((eE q.tok.text:Nat):Int)≤9223372036854775808:=by simpa using z
  refine aw aa (z) (bY aa ?_)
  refine aw aa (z) (iC aa aa ?_)
  refine aw aa (z) (bY aa ?_)
  refine dc (g:=iY) aa (fun A=>?_) (fun A=>?_)
  ·have heq:((eE q.tok.text:Nat):Int)=9223372036854775808:=by simpa using A
   have I:p.literal D=(⟨1, -((eE q.tok.text:Nat):Int),[]⟩,q.step):=by rw[G];exact GZ hc (by rw[hi,az (Or.inr ⟨rfl,heq⟩)];rfl)
   refine aw aa (A) (bY aa ?_)
   refine aw aa (A) (j0 aa ?_)
   refine aw aa (z) (c8 aa (A) aa ?_)
   refine aj (cS aa (z) aa ?_)
   refine aX (ef aa aa (aQ (aL (an 1 aa (eW aa aa (bC (ae 1 aa (aj (H4 aa ?_)))))))))
   refine ak 1 aa (ai (ae 2 aa ?_))
   rw[NA (n:=eE q.tok.text) ah]
   refine ak 3 aa (ay ?_)
   exact⟨_,PS.bq a q.step,rfl,⟨rfl,trivial⟩,ql rfl rfl (by rw[I]) (fun _=>by rw[I])⟩
  have l8:¬((eE q.tok.text:Nat):Int)=9223372036854775808:=by simpa using A
  have I:p.literal D=(⟨1, -((eE q.tok.text:Nat):Int),[]⟩,q.step):=by rw[G];exact GZ hc (by rw[hi,az (Or.inl ah)];rfl)
  refine aY aa (A) (aY aa (A) (aw aa (z) (cS aa (A) aa ?_)))
  refine aj (cS aa (z) aa ?_)
  refine aX (ef aa aa (aQ (aL (an 1 aa (eW aa aa (bC (ae 1 aa (aj (H4 aa ?_)))))))))
  refine ak 1 aa (ai (ae 2 aa ?_))
  rw[NA (n:=eE q.tok.text) ah]
  refine ak 3 aa (ay ?_)
  exact⟨_,PS.bq a q.step,rfl,⟨rfl,trivial⟩,ql rfl rfl (by rw[I]) (fun _=>by rw[I])⟩
 have h3:p.tok.kind=3:=by simpa using J
 obtain⟨G,Ke⟩:=Wo (D:=D) h0 h3
 have K:=hp.sign hZ
 refine dh aa (J) (ji aa (J) (dh aa (J) (bG (cS aa (J) aa ?_))))
 refine du 1 aa (ef aa aa (aQ (ai (ae 1 aa (bV (m7 F hp.ok hZ) aa aa aa aa ?_)))))
 rw[Ke]
 generalize (p.sign hZ).2=q at G K⊢
 refine ak 1 aa (ai (ae 1 aa (bV (w5 F K.ok (k:=3) aq) aa aa aa aa (ak 1 aa (aL (an 5 aa (aK aa (fun O=>?_) (fun O=>?_))))))))
 ·have h5:¬(q.take 3 0).2.err=0:=by simpa using O
  have I:(p.literal D).2=(q.take 3 0).2:=by rw[G,La h5]
  exact an 3 aa (ay (⟨_,PS.bq a (q.take 3 0).2,aa,⟨aa,trivial⟩,ql (v:=cI) aa aa I.symm (fun k=>absurd k h5)⟩))
 have h5:(q.take 3 0).2.err=0:=by simpa using O
 obtain⟨U,h2⟩:=Bv h5
 have ew:=PS.mc K.ok (k:=3) aq h2
 have fZ:=K.ok.eG
 have mP:q.take 3 0=(q.tok.text,q.step):=u6 U h2
 rw[mP]
 have hs:=K.nY.1 _ K.ok.mem h2
 have Ry:=DS hs
 have hc:q.called 3=true:=by unfold PS.called;rw[U,h2];rfl
 have hi:=Lq.int
 have nF:((q.aO+1:Nat):Int) -Int.ofNat 1=((q.aO:Nat):Int):=by simp only[bN];omega
 refine aQ (ai (ae 1 aa (aj (fG (args:=[dS q.tok.text]) aa fJ (HK F hs) (fun r hn hr=>?_)))))
 subst hr
 refine ak 1 aa (aL (ai (ae 3 aa (dc (g:=ig) aa (fun z=>?_) (fun z=>?_)))))
 ·have ac3:(9223372036854775808:Int)<(eE q.tok.text:Nat):=by simpa using z
  have I:(p.literal D).2=q.fail 10:=by rw[G];exact G5 hc (by rw[hi,al (fun k=>by omega)])
  refine aY aa (z) (aY aa (z) (aY aa (z) (D1 aa (D1 aa (aY aa (z) (aj (c8 aa (z) aa ?_)))))))
  refine aX (eW aa aa (ai (ae 4 aa ?_)))
  refine aj (f3 (a:=((q.aO+1:Nat):Int)) rfl rfl (by simp only[bN];omega) (by simp only[bN];omega) ?_)
  rw[nF]
  refine ak 3 aa (ai ?_)
  refine eX (PS.bq a q++[(2,.one 92 32 [d0,d0,dS []])]) (cU (by rw[sV U];rfl) ⟨rfl,trivial⟩) ?_
  refine ae 1 aa (bV (mD F K.ok aq) aa aa aa aa (aX (an 3 aa (ay ?_))))
  exact⟨_,PS.bq a (q.fail 10),rfl,⟨rfl,trivial⟩,ql (v:=cI) rfl rfl I.symm (fun k=>absurd k (by rw[wP U];decide))⟩
 have hle:((eE q.tok.text:Nat):Int)≤9223372036854775808:=by simpa using z
 refine aw aa (z) (bY aa ?_)
 refine aw aa (z) (iC aa aa ?_)
 refine aw aa (z) (bY aa ?_)
 refine dc (g:=iY) aa (fun A=>?_) (fun A=>?_)
 ·have heq:((eE q.tok.text:Nat):Int)=9223372036854775808:=by simpa using A
  have I:(p.literal D).2=q.fail 10:=by rw[G];exact G5 hc (by rw[hi,al (fun k=>k.elim (fun k=>by omega) (fun k=>Bool.noConfusion k.1))])
  refine aw aa (A) (bY aa ?_)
  refine aw aa (A) (j0 aa ?_)
  refine aw aa (z) (c8 aa (A) aa ?_)
  refine aj (cS aa (z) aa ?_)
  refine aX (eW aa aa (ai (ae 4 aa ?_)))
  refine aj (f3 (a:=((q.aO+1:Nat):Int)) rfl rfl (by simp only[bN];omega) (by simp only[bN];omega) ?_)
  rw[nF]
  refine ak 3 aa (ai ?_)
  refine eX (PS.bq a q++[(2,.one 92 32 [d0,d0,dS []])]) (cU (by rw[sV U];rfl) ⟨rfl,trivial⟩) ?_
  refine ae 1 aa (bV (mD F K.ok aq) aa aa aa aa (aX (an 3 aa (ay ?_))))
  exact⟨_,PS.bq a (q.fail 10),rfl,⟨rfl,trivial⟩,ql (v:=cI) rfl rfl I.symm (fun k=>absurd k (by rw[wP U];decide))⟩
 have l8:¬((eE q.tok.text:Nat):Int)=9223372036854775808:=by simpa using A
 have I:p.literal D=(⟨1,((eE q.tok.text:Nat):Int),[]⟩,q.step):=by rw[G];exact GZ hc (by rw[hi,az (Or.inl ah)];rfl)
 refine aY aa (A) (aY aa (A) (aw aa (z) (cS aa (A) aa ?_)))
 refine aj (cS aa (z) aa ?_)
 refine aX (ef aa aa (aQ (aL (an 1 aa (ef aa aa (aQ (ai (ae 2 aa ?_))))))))
 rw[wrap_i64 ah ah]
 refine ak 3 aa (ay ?_)
 exact⟨_,PS.bq a q.step,rfl,⟨rfl,trivial⟩,ql rfl rfl (by rw[I]) (fun _=>by rw[I])⟩
variable{p q:PS}{a:Bool}{D:Rd}{e:List aT}{N M n:Nat}
structure EG(q:PS)(e:List aT)(N:Nat):Prop where
 eq:q.err=0→e=q.ex
 len:e.length≤q.aO+N
theorem EG.dW(h:EG q e N)(hk:N≤M):EG q e M:=⟨h.eq,by have:=h.len;omega⟩
theorem EG.zero(z:q.ok)(h:EG q e N)(h0:q.err=0):EG q e 0:=⟨h.eq,by rw[h.eq h0];have:=z.wu;rw[az h0] at this;exact this⟩
theorem EG.small(h:EG q e N)(z:q.ok)(hN:N≤200000):e.length≤300000:=by have:=h.len;have:=z.lt;have:=z.eG;omega
theorem EG.join{i:Int}(h:EG q e N)(z:q.err=0→i+1=(q.ex.length:Nat))(kind x:Int):EG (q.push ⟨kind,x,i,[],[],cI⟩).2 (e++[⟨kind,x,((e.map aT.enc).length:Nat) -Int.ofNat 1,[],[],cI⟩]) (N+1):=by
 refine⟨fun h0=>?_,by have:=h.len;rw[bE];show e.length+1≤q.aO+(N+1);omega⟩
 have A:e=q.ex:=h.eq h0
 have h2:=z h0
 subst A
 show q.ex++_=q.ex++_
 rw[ca,show((q.ex.length:Nat):Int) -Int.ofNat 1=i by simp only[bN];omega]
theorem EG.un{x i:Int}(h:EG q e N)(z:q.err=0→x=i)(kind:Int):EG (un q kind i).2 (e++[⟨kind,x,0,[],[],cI⟩]) (N+1):=by
 refine⟨fun h0=>?_,by have:=h.len;rw[bE];show e.length+1≤q.aO+(N+1);omega⟩
 have A:e=q.ex:=h.eq h0
 rw[z h0,A];rfl
theorem EG.push{x y:aT}(h:EG q e N)(z:q.err=0→x=y):EG (q.push y).2 (e++[x]) (N+1):=by
 refine⟨fun h0=>?_,by have:=h.len;rw[bE];show e.length+1≤q.aO+(N+1);omega⟩
 have A:e=q.ex:=h.eq h0
 rw[z h0,A];rfl
theorem EG.up(h:EG q e N):EG q.up e N:=⟨h.eq,h.len⟩
theorem EG.step(h:EG q e N):EG q.step e N:=⟨h.eq,by have:=h.len;show e.length≤q.aO+1+N;omega⟩
theorem EG.go(h:EG p e N)(z:q.err=0→p.err=0∧q.ex=p.ex)(h2:p.aO≤q.aO):EG q e N:=⟨fun h0=>by rw[(z h0).2];exact h.eq (z h0).1,by have:=h.len;omega⟩
theorem wT(p:PS)(e:Int):(p.fail e).ex=p.ex:=by unfold PS.fail;split<;>rfl
theorem Ma(p:PS)(k:Int)(s:List UInt8):(p.accept k s).2.ex=p.ex:=by unfold PS.accept;split<;>rfl
theorem pE(p:PS)(s:List UInt8):(p.sign s).2.ex=p.ex:=Ma ..
theorem mQ(p:PS)(s:List UInt8):(p.keyword s).2.ex=p.ex:=Ma ..
theorem Vg(p:PS)(s:List UInt8):(p.gA s).ex=p.ex:=by unfold PS.gA;split<;>simp only[wT,mQ]
theorem sW(p:PS)(s:List UInt8):(p.bJ s).ex=p.ex:=by unfold PS.bJ;split<;>simp only[wT,pE]
theorem qa{l:List (List UInt8)}:∀{p:PS},(p.bc l).ex=p.ex:=by
 induction l with
 |nil=>intro p;rfl
 |cons s r z=>intro p;exact(z (p:=p.gA s)).trans (Vg p s)
theorem rf(p:PS)(k e:Int):(p.take k e).2.ex=p.ex:=by
 unfold PS.take
 split
 ·split
  ·split
   ·rfl
   exact wT ..
  exact wT ..
 rfl
theorem Tz(p:PS)(D:Rd):(p.literal D).2.ex=p.ex:=by
 unfold PS.literal
 repeat' split
 all_goals first|rfl|simp only[wT,pE,mQ,PS.integer,rf]
theorem EG.kV{k:Nat}(h:EG p e N)(g:bO k p q)(z:q.ex=p.ex):EG q e N:=h.go (fun h0=>⟨g.er h0,z⟩) g.aO
def LI(n:Nat)(m:PS→Int×PS):Prop:=∀p,St p→p.depth+n=61→(m p).2.err=0→(m p).1+1=((m p).2.ex.length:Nat)
theorem A3(p:PS)(e:aT):(p.push e).1+1=((p.push e).2.ex.length:Nat):=by
 show((p.ex.length:Nat):Int)+1=((p.ex++[e]).length:Nat)
 rw[bE];rfl
theorem KF(p:PS):p.gJ.1+1=(p.gJ.2.ex.length:Nat):=by
 unfold PS.gJ
 split<;>exact A3 ..
theorem NC{sub:PS→Int×PS}{test:PS→Option (Int×PS)}:∀(k:Nat)(x:Int)(p:PS),(p.err=0→x+1=(p.ex.length:Nat))→(kJ sub test k x p).2.err=0→(kJ sub test k x p).1+1=((kJ sub test k x p).2.ex.length:Nat)
 |0,x,p,h,h0=>h h0
 |k+1,x,p,h,h0=>by
  cases z:test p with
  |none=>rw[sX z] at h0⊢;exact h h0
  |some w=>
   obtain⟨kind,q⟩:=w
   rw[q9 z] at h0⊢
   exact NC k _ _ (fun _=>A3 ..) h0
theorem wQ{sub:PS→Int×PS}{test:PS→Option (Int×PS)}(h:LI n sub):LI n (chain sub test):=fun p hp z h0=>NC _ _ _ (h p hp z) h0
theorem Xu{sub:PS→Int×PS}(h:LI n sub):LI n (ja sub):=fun p hp z h0=>by
 revert h0
 unfold ja
 repeat' split
 all_goals first|exact fun _=>A3 ..|exact h p hp z
theorem Xv{sub inner:PS→Int×PS}(h:LI (n+1) sub):LI (n+1) (nZ sub inner):=fun p hp z h0=>by
 revert h0
 unfold nZ
 split
 ·exact h p hp z
 rename_i A
 split
 ·rename_i he
  intro h0
  rw[PS.yu he] at h0
  have G:p.err=0:=PS.yi (by simpa using A)
  rw[show(p.fail 19).err=19 by unfold PS.fail;rw[az G]] at h0
  cases h0
 exact fun _=>A3 ..
theorem ND{inner:PS→Int×PS}(h:LI n inner):LI (n+1) (lX D inner):=fun p hp U h0=>by
 revert h0
 unfold lX
 split
 ·rename_i z;exact fun h0=>absurd h0 z
 rename_i z
 have z:p.err=0:=by simpa using z
 split
 ·rename_i G
  split
  ·rename_i he
   intro h0
   rw[PS.yu he] at h0
   rw[show(p.fail 19).err=19 by unfold PS.fail;rw[az z]] at h0
   cases h0
  rename_i he
  intro h0
  obtain⟨I,J⟩:=hp.r5 (by simpa using he) (PS.lQ hp.ok (kind:=5) aq G)
  have h2:((inner p.enter.2.step).2.bJ ee).err=0:=h0
  have K:(inner p.enter.2.step).2.err=0:=by
   by_cases A:(inner p.enter.2.step).2.err=0
   ·exact A
   rw[KR A] at h2;exact h2
  have O:=h _ I (by rw[J];omega) K
  show(inner p.enter.2.step).1+1=(((inner p.enter.2.step).2.bJ ee).ex.length:Nat)
  rw[sW];exact O
 split
 ·exact fun _=>KF p
 exact fun _=>A3 ..
theorem w6(D:Rd):∀n,LI n (mh D n)∧LI n (fb D n)
 |0=>⟨fun p h A=>absurd h.ok.lC ah,fun p h A=>absurd h.ok.lC ah⟩
 |n+1=>by
  obtain⟨G,_⟩:=w6 D n
  have I:LI (n+1) (cmpL D n):=Xu (wQ (wQ (ND G)))
  have z:LI (n+1) (fb D (n+1)):=Xv I
  exact⟨wQ (wQ z),z⟩
theorem HM(D:Rd)(n:Nat):LI (n+1) (fD D n):=ND (w6 D n).1
theorem D4(D:Rd)(n:Nat):LI (n+1) (fH D n):=wQ (HM D n)
theorem wV(D:Rd)(n:Nat):LI (n+1) (eP D n):=wQ (D4 D n)
theorem NF(D:Rd)(n:Nat):LI (n+1) (jB D n):=wQ (w6 D (n+1)).2
def RT(T:bd)(f:Nat)(m:PS→Int×PS)(n c:Nat):Prop:=∀(a:Bool)(p:PS)(e:List aT)(N:Nat),St p→p.depth+n=61→EG p e N→N≤100000→
 cg T f [.vp 1000 0,.ac 1050 (e.map aT.enc).length 8] (p.be a e) fun r Bn=>∃z,r= .ac 1050 (z.map aT.enc).length 8∧Bn=(m p).2.be a z∧EG (m p).2 z (N+c)
theorem RT.dW{T:bd}{f:Nat}{m:PS→Int×PS}{n c d:Nat}(h:RT T f m n c)(J:c≤d):RT T f m n d:=fun a p e N hp z he hN=>(h a p e N hp z he hN).mono fun _ _⟨A,G,h2,I⟩=>⟨A,G,h2,I.dW ah⟩
def lH(k:Nat)(V:cj):cj→cj
 |[]=>[]
 |(s,v)::r=>bif(match bf V s with|some w=>w.no k|none=>false) then(s,v)::lH k V r else lH k V r
theorem Hf{k:Nat}{V:cj}{s:Nat}{v:VV}:∀{VE:cj},bf (lH k V VE) s=some v→bf VE s=some v
 |[],h=>by cases h
 |(c,w)::r,h=>by
  unfold lH at h
  rw[eM]
  by_cases z:c=s
  ·subst z
   rw[az rfl]
   cases hk:(match bf V c with|some w=>w.no k|none=>false)
   ·rw[hk] at h
    rw[cond_false,show bf (lH k V r) c=none from gone hk r] at h;cases h
   rw[hk] at h
   simpa[eM] using h
  rw[al z]
  cases hk:(match bf V c with|some w=>w.no k|none=>false)
  ·rw[hk] at h;exact Hf h
  rw[hk] at h
  rw[cond_true,eM,al z] at h
  exact Hf h
where gone {c:Nat} (hk:(match bf V c with|some w=>w.no k|none=>false)=false):∀r,bf (lH k V r) c=none
 |[]=>rfl
 |(d,w)::r=>by
  unfold lH
  by_cases hd:d=c
  ·subst hd;rw[hk];exact gone hk r
  cases (match bf V d with|some w=>w.no k|none=>false)
  ·exact gone hk r
  rw[cond_true,eM,al hd];exact gone hk r
section
variable{T:bd}{VE:cj}{B:bw}
def Dg:List (Nat×Nat):=[(1050,1050)]
theorem td{f:Nat}{d:Key}{Z:Option (List Nat)}{z:List bA}{l:List aI}{cm:List VV}{Bi:bw}{P:VV→bw→Prop}{Q:cj→bw→Prop}(k:Nat)(σ:List (Nat×Nat))(N:Nat)(hN:Nat.ble 1050 N=true)(A:pb N σ=true)(hE:lz N (lH k VE VE)=true)(hB:lA N B=true)(G:zR σ Bi=true)
  (I:clean (lH k VE VE) (fg σ B) σ=true) (hl:jv VE l=some (jh σ N cm)) (J:rF σ N Bi B) (h:cg T f cm Bi P) (K:∀r Bn,P r Bn→VO T z ((d.n,r.cO σ N)::lH k VE VE) (nA σ N Bn++fg σ B) Q):VO T (⟨some d,none,Z,.call f l⟩::z) VE B Q:=by
 intro H0 X0 E H β O
 obtain⟨vs,a1,a2⟩:=wC O hl
 have U:=O.less fun s v(hk:bf (lH k VE VE) s=some v)=>Hf hk
 refine MA ((HE a1 (Hr σ N hN A hE hB G I J h (Q:=fun v B'=>VO T z ((d.n,v)::lH k VE VE) B' Q) K U a2)).mono fun a H' hp=>?_)
 obtain⟨v,B',β',hw,Y,hv,K⟩:=hp
 exact(K H0 X0 _ H' β' (Y.set hv)).mono fun _ _ hp=>hp.of hw O.bj
theorem jQ{f:Nat}{d:Key}{K:Option (List Nat)}{I:List bA}{l:List aI}{cm:List VV}{p J:PS}{e:List aT}{G:List aT→Prop}{Q:cj→bw→Prop}(h:cg T f cm (p.be a e) fun r Bn=>∃z,r= .ac 1050 (z.map aT.enc).length 8∧Bn=J.be a z∧G z)(O:bf B 1000=some (.one 164 64 (p.mn a)))(h2:bf B 1050=some (.acc 142 88 8 (e.map aT.enc)))
  (U:jv VE l=some (jh jN 2000 cm)) (Y:(lz 2000 (lH 1050 VE VE)&&(lA 2000 B&&clean (lH 1050 VE VE) (fg jN B) jN))=true) (Z:∀z,G z→VO T I ((d.n,.ac 1050 (z.map aT.enc).length 8)::lH 1050 VE VE) (J.be a z++fg jN B) Q):VO T (⟨some d,none,K,.call f l⟩::I) VE B Q:=by
 obtain⟨a1,A⟩:=iX Y
 obtain⟨A,a3⟩:=iX A
 exact td (Bi:=p.be a e) 1050 jN 2000 rfl rfl a1 A rfl a3 U ⟨rfl,O,rfl,h2,trivial⟩ h fun r Bn hp=>by
  obtain⟨z,rfl,rfl,h5⟩:=hp
  exact Z z h5
theorem vO{f:Nat}{d:Key}{I:Option (List Nat)}{G:List bA}{l:List aI}{cm:List VV}{e z:List aT}{Q:cj→bw→Prop}(h:cg T f cm [(1050,.acc 142 88 8 (e.map aT.enc))] fun r Bn=>r= .ac 1050 (z.map aT.enc).length 8∧Bn=[(1050,.acc 142 88 8 (z.map aT.enc))])(J:bf B 1050=some (.acc 142 88 8 (e.map aT.enc)))
  (K:jv VE l=some (jh Dg 2000 cm)) (O:(lz 2000 (lH 1050 VE VE)&&(lA 2000 B&&clean (lH 1050 VE VE) (fg Dg B) Dg))=true) (U:VO T G ((d.n,.ac 1050 (z.map aT.enc).length 8)::lH 1050 VE VE) ([(1050,.acc 142 88 8 (z.map aT.enc))]++fg Dg B) Q):VO T (⟨some d,none,I,.call f l⟩::G) VE B Q:=by
 obtain⟨Y,A⟩:=iX O
 obtain⟨A,Z⟩:=iX A
 exact td (Bi:=[(1050,.acc 142 88 8 (e.map aT.enc))]) 1050 Dg 2000 rfl rfl Y A rfl Z K ⟨rfl,J,trivial⟩ h fun r Bn hp=>by
  obtain⟨rfl,rfl⟩:=hp
  exact U
theorem PT{f:Nat}{l:List aI}{cm:List VV}{Q:VV→bw→Prop}(h:cg T f cm (p.bq a) (Gi D a p))(A:bf B 1000=some (.one 164 64 (p.mn a)))
  (G:(lz 2000 VE&&(lA 2000 B&&clean VE (fg gI B) gI))=true) (I:jv VE l=some (jh gI 2000 cm)) (J:∀v b q,(b=true→q=(p.literal D).2∧(q.err=0→v=(p.literal D).1))→(b=false→q=p∧(p.literal D).2=p.fail 5)→Q (.tuple [eU (iA.enc v),dB b]) (q.bq a++fg gI B)):VI T (.call f l) VE B [1000] Q:=by
 obtain⟨K,z⟩:=iX G
 obtain⟨z,O⟩:=iX z
 exact kn (Bi:=p.bq a) gI 2000 rfl rfl K z rfl O I ⟨rfl,A,trivial⟩ h fun r Bn hp=>by
  obtain⟨v,b,q,rfl,rfl,U,Y⟩:=hp
  exact J v b q U Y
end
theorem lI{T:bd}(F:FT T){a:Bool}{p:PS}(hp:p.ok):cg T 148 [.vp 1000 0,dI 2] (PS.bq a p) fun r Bn=>r=dS p.name.1∧Bn=PS.bq a p.name.2:=w5 F hp (k:=2) aq
theorem Cj{a:Bool}{q:PS}{e:List aT}{x:aT}{B:bw}(z:bf B 1000=some (.one 164 64 (q.mn a)))(h2:bf B 1050=some (.acc 142 88 8 (e.map aT.enc++[x.enc]))):bn (q.be a (e++[x])) B:=⟨z,by rw[h2,dx];rfl,trivial⟩
theorem Ul{p:PS}(h:(p.sign oD).1=true):kR p=some (3,(p.sign oD).2):=by
 unfold kR;rw[al (by rw[yN (.inr (by rw[(ru h).2.2];decide))];decide),az h]
theorem TA{p:PS}(h:(p.sign hZ).1=true):kR p=some (4,(p.sign hZ).2):=by unfold kR;rw[az h]
theorem Wp{p:PS}(z:(p.sign oD).1=false)(h2:(p.sign hZ).1=false):kR p=none:=by
 unfold kR;rw[al (by rw[h2];decide),al (by rw[z];decide)]
theorem H9{p:PS}{s:List UInt8}(h:(p.sign s).1=true):p.aO+1≤(p.sign s).2.aO:=by rw[show(p.sign s).2=p.step from(PS.qg h).1];exact bR _
theorem AY{p:PS}{s:List UInt8}(h:(p.keyword s).1=true):p.aO+1≤(p.keyword s).2.aO:=by rw[show(p.keyword s).2=p.step from(PS.qg h).1];exact bR _
theorem EG.deep{p:PS}{e:List aT}{N:Nat}(h:EG p e N)(he:p.enter.1=true):EG p.enter.2.step e N:=by
 obtain⟨z,_⟩:=PS.H6 he
 rw[z];exact⟨h.eq,by have:=h.len;show e.length≤p.aO+1+N;omega⟩
theorem qm{e:List aT}{x:Int}(h:x+1=(e.length:Nat)):(((e.map aT.enc).length:Nat):Int) -Int.ofNat 1=x:=by rw[ca];simp only[bN];omega
theorem rX{m:Int×PS}{e:List aT}{N:Nat}(h:EG m.2 e N)(z:m.2.err=0→m.1+1=(m.2.ex.length:Nat))(h0:m.2.err=0):m.1+1=(e.length:Nat):=by rw[h.eq h0];exact z h0
theorem A4{q:PS}{e:List aT}{N:Nat}{x y:aT}(h:EG q e N):(q.push y).2.err=0→(q.push y).1+1=((e++[x]).length:Nat):=fun h0=>by
 have z:e=q.ex:=h.eq h0
 rw[bE,z];rfl
theorem vP{T:bd}(F:FT T){e:List aT}(z:e.length≤300000)(kind x:Int):cg T 236 [.ac 1050 (e.map aT.enc).length 8,dI kind,dI x] [(1050,.acc 142 88 8 (e.map aT.enc))] fun r Bn=>r= .ac 1050 ((e++[(⟨kind,x,((e.map aT.enc).length:Nat) -Int.ofNat 1,[],[],cI⟩:aT)]).map aT.enc).length 8∧Bn=[(1050,.acc 142 88 8 ((e++[(⟨kind,x,((e.map aT.enc).length:Nat) -Int.ofNat 1,[],[],cI⟩:aT)]).map aT.enc))]:=by
 refine cL F.acA aa (an 1 aa (ai (ae 5 aa ?_)))
 refine aj (f3 rfl rfl (by simp only[ca,bN];omega) (by simp only[ca,bN];omega) ?_)
 refine ae 2 aa ?_
 refine aj (eD (rows:=e.map aT.enc) (ys:=[(⟨kind,x,((e.map aT.enc).length:Nat) -Int.ofNat 1,[],[],cI⟩:aT).enc]) rfl rfl rfl (.bs (rows:=[(⟨kind,x,((e.map aT.enc).length:Nat) -Int.ofNat 1,[],[],cI⟩:aT).enc]) rfl) (b0 rfl) (by rw[bE,ca];simp only[cV,dL];omega) (fun h=>by rw[h];rfl) (fun h=>by rw[h];rfl) ?_)
 refine ak 1 aa (ay ?_)
 rw[dx]
 exact⟨_,[(1050,.acc 142 88 8 (e.map aT.enc++[(⟨kind,x,((e.map aT.enc).length:Nat) -Int.ofNat 1,[],[],cI⟩:aT).enc]))],aa,⟨aa,trivial⟩,aa,aa⟩
theorem NG{T:bd}(F:FT T):∀(a:Bool)(p:PS)(e:List aT)(N:Nat),St p→True→EG p e N→N≤100000→cg T 205 [.vp 1000 0,.ac 1050 (e.map aT.enc).length 8] (p.be a e) fun r Bn=>∃A,r= .ac 1050 (A.map aT.enc).length 8∧Bn=p.gJ.2.be a A∧EG p.gJ.2 A (N+1):=by
 intro a p e N hp O he hN
 have K:=he.small hp.ok ah
 have G:St p.name.2:=hp.name
 refine cL F.ach aa (an 1 aa (ai (ae 1 aa (bV (lI F hp.ok) aa aa aa aa (ak 3 aa (aL (ai (ae 1 aa (bV (m7 F G.ok jJ) aa aa aa aa ?_)))))))))
 refine aX (aK aa (fun z=>?_) (fun z=>?_))
 ·have I:p.gJ=((p.name.2.sign jJ).2.name.2).push ⟨2,0,0,p.name.1,(p.name.2.sign jJ).2.name.1,cI⟩:=by unfold PS.gJ;rw[az z]
  have h2:=(G.sign jJ)
  have J:EG ((p.name.2.sign jJ).2.name.2) e N:=((he.kV (bO.take hp (k:=2) (e:=0) aq) (rf ..)).kV (bO.zT G jJ) (pE ..)).kV (bO.take h2 (k:=2) (e:=0) aq) (rf ..)
  refine an 4 aa (bC (ae 1 aa (bV (lI F h2.ok) aa aa aa aa (ak 2 aa (ai (ae 3 aa ?_))))))
  refine aj (eD (rows:=e.map aT.enc) (ys:=[(⟨2,0,0,p.name.1,(p.name.2.sign jJ).2.name.1,cI⟩:aT).enc]) rfl rfl rfl (.bs (rows:=[(⟨2,0,0,p.name.1,(p.name.2.sign jJ).2.name.1,cI⟩:aT).enc]) rfl) (b0 rfl) (by rw[bE,ca];simp only[cV,dL];omega) (fun h=>by rw[h];rfl) (fun h=>by rw[h];rfl) ?_)
  refine ak 1 aa (ay ?_)
  rw[I]
  exact⟨_,PS.be a (PS.push _ ⟨2,0,0,p.name.1,(p.name.2.sign jJ).2.name.1,cI⟩).2 (e++[⟨2,0,0,p.name.1,(p.name.2.sign jJ).2.name.1,cI⟩]),rfl,Cj rfl rfl,⟨e++[⟨2,0,0,p.name.1,(p.name.2.sign jJ).2.name.1,cI⟩],by rw[dx];rfl,rfl,J.push (fun _=>rfl)⟩⟩
 have I:p.gJ=p.name.2.push ⟨2,0,0,[],p.name.1,cI⟩:=by unfold PS.gJ;rw[al (by rw[z];decide)]
 have J:EG p.name.2 e N:=he.kV (bO.take hp (k:=2) (e:=0) aq) (rf ..)
 rw[PS.iS z]
 refine aQ (ai (ae 3 aa ?_))
 refine aj (eD (rows:=e.map aT.enc) (ys:=[(⟨2,0,0,[],p.name.1,cI⟩:aT).enc]) rfl rfl rfl (.bs (rows:=[(⟨2,0,0,[],p.name.1,cI⟩:aT).enc]) rfl) (b0 rfl) (by rw[bE,ca];simp only[cV,dL];omega) (fun h=>by rw[h];rfl) (fun h=>by rw[h];rfl) ?_)
 refine ak 1 aa (ay ?_)
 rw[I]
 exact⟨_,PS.be a (PS.push _ ⟨2,0,0,[],p.name.1,cI⟩).2 (e++[⟨2,0,0,[],p.name.1,cI⟩]),rfl,Cj rfl rfl,⟨e++[⟨2,0,0,[],p.name.1,cI⟩],by rw[dx];rfl,rfl,J.push (fun _=>rfl)⟩⟩
theorem Vh{T:bd}(F:FT T){D:Rd}{n:Nat}(hS:RT T 282 (fD D n) (n+1) (10*n+1)):RT T 280 (chain (fD D n) mg) (n+1) (10*n+2):=by
 intro a p e N hp Y he hN
 have An:n≤61:=by omega
 have Z:=A9 D hp Y
 refine cL F.acZ aa (an 1 aa (ai (ae 2 aa (jQ (hS a p e N hp Y he hN) aa aa aa aa (fun e1 g1=>?_)))))
 refine ak 1 aa (aL (bM ?_))
 refine d7 (fun k VE B=>∃(x:Int)(q:PS)(e1:List aT),kJ (fD D n) mg k x q=(chain (fD D n) mg p)∧(q.err=0→x+1=(e1.length:Nat))∧q.aF.length≤k+q.aO∧St q∧q.depth=p.depth∧q.aF=p.aF∧EG q e1 (N+(10*n+2))∧bn [(0,.vp 1000 0),(1,.ac 1050 (e1.map aT.enc).length 8)] VE∧bn (PS.be a q e1) B) ?_ (k:=p.aF.length) ⟨(fD D n p).1,(fD D n p).2,e1,rfl,rX g1 (HM D n p hp Y),by rw[Z.aF];omega,Z.st,Z.depth,Z.aF,g1.dW ah,⟨rfl,rfl,trivial⟩,⟨rfl,rfl,trivial⟩⟩
 clear g1
 rintro k VE B⟨x,q,e1,z,hx,hk,K,O,gM,hg,hV,hB⟩
 refine eZ (PS.be a q e1) hB ?_
 have hB:bn (PS.be a q e1) (PS.be a q e1):=⟨rfl,rfl,trivial⟩
 have p9:=hg.small K.ok ah
 refine db _ _ hV hB (aL (ai (ae 1 aa (bV (m7 F K.ok fv) aa aa aa aa (aX (aK aa (fun A=>?_) (fun A=>?_)))))))
 ·have U:mg q=some (5,(q.sign fv).2):=by unfold mg;rw[az A]
  have I:=H9 A
  obtain⟨k,rfl⟩:∃k',k=k'+1:=⟨k-1,by have:=K.ok.lt;omega⟩
  rw[q9 U] at z
  have h2:=DR q _ _ K U
  have h0:=(ru A).1
  have hl:=qm (hx h0)
  have gz:=(hg.zero K.ok h0).kV h2 (pE ..)
  generalize (q.sign fv).2=G at U z h2 I gz⊢
  have J:G.depth+(n+1)=61:=by rw[h2.depth,O];exact Y
  have h3:=A9 D h2.st J
  refine aQ (bM (ai (ae 2 aa ?_)))
  refine aj (f3 rfl rfl (by simp only[ca,bN];omega) (by simp only[ca,bN];omega) ?_)
  rw[hl]
  refine ak 1 aa (bC (ae 2 aa (jQ (hS a G e1 0 h2.st J gz ah) aa aa aa aa (fun e2 g2=>?_))))
  refine ae 1 aa (vO (vP F (e:=e2) (g2.small h3.st.ok ah) 5 x) aa aa aa (ak 1 aa ?_))
  have h4:=bO.push K.ok (k:=0) ((h2.trans h3).dW ah) (⟨5,x,(fD D n G).1,[],[],cI⟩:aT)
  exact⟨k,ah,((fD D n G).2.push (⟨5,x,(fD D n G).1,[],[],cI⟩:aT)).1,((fD D n G).2.push (⟨5,x,(fD D n G).1,[],[],cI⟩:aT)).2,e2++[(⟨5,x,((e2.map aT.enc).length:Nat) -Int.ofNat 1,[],[],cI⟩:aT)],z,A4 g2,by rw[h4.aF];have:=h3.aO;show q.aF.length≤k+(fD D n G).2.aO;omega,h4.st,h4.depth.trans O,h4.aF.trans gM,(g2.join (HM D n G h2.st J) 5 x).dW ah,⟨rfl,rfl,trivial⟩,⟨rfl,rfl,trivial⟩⟩
 have U:mg q=none:=by unfold mg;rw[al (by rw[A];decide)]
 rw[sX U] at z
 rw[PS.iS A]
 refine dJ (an 2 aa (ay ?_))
 rw[←z]
 exact⟨_,PS.be a q e1,aa,⟨aa,aa,trivial⟩,⟨e1,aa,aa,hg⟩⟩
theorem Yq{T:bd}(F:FT T){D:Rd}{n:Nat}(hS:RT T 263 (fb D (n+1)) (n+1) (10*n+5)):RT T 235 (chain (fb D (n+1)) mI) (n+1) (10*n+6):=by
 intro a p e N hp Y he hN
 have An:n≤61:=by omega
 have Z:=(fun a b=>(qn D (n+1)).2 _ a b) hp Y
 refine cL F.acz aa (an 1 aa (ai (ae 2 aa (jQ (hS a p e N hp Y he hN) aa aa aa aa (fun e1 g1=>?_)))))
 refine ak 1 aa (aL (bM ?_))
 refine d7 (fun k VE B=>∃(x:Int)(q:PS)(e1:List aT),kJ (fb D (n+1)) mI k x q=(chain (fb D (n+1)) mI p)∧(q.err=0→x+1=(e1.length:Nat))∧q.aF.length≤k+q.aO∧St q∧q.depth=p.depth∧q.aF=p.aF∧EG q e1 (N+(10*n+6))∧bn [(0,.vp 1000 0),(1,.ac 1050 (e1.map aT.enc).length 8)] VE∧bn (PS.be a q e1) B) ?_ (k:=p.aF.length) ⟨(fb D (n+1) p).1,(fb D (n+1) p).2,e1,rfl,rX g1 ((w6 D (n+1)).2 p hp Y),by rw[Z.aF];omega,Z.st,Z.depth,Z.aF,g1.dW ah,⟨rfl,rfl,trivial⟩,⟨rfl,rfl,trivial⟩⟩
 clear g1
 rintro k VE B⟨x,q,e1,z,hx,hk,K,O,gM,hg,hV,hB⟩
 refine eZ (PS.be a q e1) hB ?_
 have hB:bn (PS.be a q e1) (PS.be a q e1):=⟨rfl,rfl,trivial⟩
 have p9:=hg.small K.ok ah
 refine db _ _ hV hB (aL (ai (ae 1 aa (bV (gn F K.ok mH) aa aa aa aa (aX (aK aa (fun A=>?_) (fun A=>?_)))))))
 ·have U:mI q=some (9,(q.keyword mH).2):=by unfold mI;rw[az A]
  have I:=AY A
  obtain⟨k,rfl⟩:∃k',k=k'+1:=⟨k-1,by have:=K.ok.lt;omega⟩
  rw[q9 U] at z
  have h2:=D2 q _ _ K U
  have h0:=(vN A).1
  have hl:=qm (hx h0)
  have gz:=(hg.zero K.ok h0).kV h2 (mQ ..)
  generalize (q.keyword mH).2=G at U z h2 I gz⊢
  have J:G.depth+(n+1)=61:=by rw[h2.depth,O];exact Y
  have h3:=(fun a b=>(qn D (n+1)).2 _ a b) h2.st J
  refine aQ (bM (ai (ae 2 aa ?_)))
  refine aj (f3 rfl rfl (by simp only[ca,bN];omega) (by simp only[ca,bN];omega) ?_)
  rw[hl]
  refine ak 1 aa (bC (ae 2 aa (jQ (hS a G e1 0 h2.st J gz ah) aa aa aa aa (fun e2 g2=>?_))))
  refine ae 1 aa (vO (vP F (e:=e2) (g2.small h3.st.ok ah) 9 x) aa aa aa (ak 1 aa ?_))
  have h4:=bO.push K.ok (k:=0) ((h2.trans h3).dW ah) (⟨9,x,(fb D (n+1) G).1,[],[],cI⟩:aT)
  exact⟨k,ah,((fb D (n+1) G).2.push (⟨9,x,(fb D (n+1) G).1,[],[],cI⟩:aT)).1,((fb D (n+1) G).2.push (⟨9,x,(fb D (n+1) G).1,[],[],cI⟩:aT)).2,e2++[(⟨9,x,((e2.map aT.enc).length:Nat) -Int.ofNat 1,[],[],cI⟩:aT)],z,A4 g2,by rw[h4.aF];have:=h3.aO;show q.aF.length≤k+(fb D (n+1) G).2.aO;omega,h4.st,h4.depth.trans O,h4.aF.trans gM,(g2.join ((w6 D (n+1)).2 G h2.st J) 9 x).dW ah,⟨rfl,rfl,trivial⟩,⟨rfl,rfl,trivial⟩⟩
 have U:mI q=none:=by unfold mI;rw[al (by rw[A];decide)]
 rw[sX U] at z
 rw[PS.da A]
 refine dJ (an 2 aa (ay ?_))
 rw[←z]
 exact⟨_,PS.be a q e1,aa,⟨aa,aa,trivial⟩,⟨e1,aa,aa,hg⟩⟩
theorem Yr{T:bd}(F:FT T){D:Rd}{n:Nat}(hS:RT T 235 (jB D n) (n+1) (10*n+6)):RT T 199 (chain (jB D n) ng) (n+1) (10*n+7):=by
 intro a p e N hp Y he hN
 have An:n≤61:=by omega
 have Z:=Er D hp Y
 refine cL F.aca aa (an 1 aa (ai (ae 2 aa (jQ (hS a p e N hp Y he hN) aa aa aa aa (fun e1 g1=>?_)))))
 refine ak 1 aa (aL (bM ?_))
 refine d7 (fun k VE B=>∃(x:Int)(q:PS)(e1:List aT),kJ (jB D n) ng k x q=(chain (jB D n) ng p)∧(q.err=0→x+1=(e1.length:Nat))∧q.aF.length≤k+q.aO∧St q∧q.depth=p.depth∧q.aF=p.aF∧EG q e1 (N+(10*n+7))∧bn [(0,.vp 1000 0),(1,.ac 1050 (e1.map aT.enc).length 8)] VE∧bn (PS.be a q e1) B) ?_ (k:=p.aF.length) ⟨(jB D n p).1,(jB D n p).2,e1,rfl,rX g1 (NF D n p hp Y),by rw[Z.aF];omega,Z.st,Z.depth,Z.aF,g1.dW ah,⟨rfl,rfl,trivial⟩,⟨rfl,rfl,trivial⟩⟩
 clear g1
 rintro k VE B⟨x,q,e1,z,hx,hk,K,O,gM,hg,hV,hB⟩
 refine eZ (PS.be a q e1) hB ?_
 have hB:bn (PS.be a q e1) (PS.be a q e1):=⟨rfl,rfl,trivial⟩
 have p9:=hg.small K.ok ah
 refine db _ _ hV hB (aL (ai (ae 1 aa (bV (gn F K.ok mN) aa aa aa aa (aX (aK aa (fun A=>?_) (fun A=>?_)))))))
 ·have U:ng q=some (10,(q.keyword mN).2):=by unfold ng;rw[az A]
  have I:=AY A
  obtain⟨k,rfl⟩:∃k',k=k'+1:=⟨k-1,by have:=K.ok.lt;omega⟩
  rw[q9 U] at z
  have h2:=H5 q _ _ K U
  have h0:=(vN A).1
  have hl:=qm (hx h0)
  have gz:=(hg.zero K.ok h0).kV h2 (mQ ..)
  generalize (q.keyword mN).2=G at U z h2 I gz⊢
  have J:G.depth+(n+1)=61:=by rw[h2.depth,O];exact Y
  have h3:=Er D h2.st J
  refine aQ (bM (ai (ae 2 aa ?_)))
  refine aj (f3 rfl rfl (by simp only[ca,bN];omega) (by simp only[ca,bN];omega) ?_)
  rw[hl]
  refine ak 1 aa (bC (ae 2 aa (jQ (hS a G e1 0 h2.st J gz ah) aa aa aa aa (fun e2 g2=>?_))))
  refine ae 1 aa (vO (vP F (e:=e2) (g2.small h3.st.ok ah) 10 x) aa aa aa (ak 1 aa ?_))
  have h4:=bO.push K.ok (k:=0) ((h2.trans h3).dW ah) (⟨10,x,(jB D n G).1,[],[],cI⟩:aT)
  exact⟨k,ah,((jB D n G).2.push (⟨10,x,(jB D n G).1,[],[],cI⟩:aT)).1,((jB D n G).2.push (⟨10,x,(jB D n G).1,[],[],cI⟩:aT)).2,e2++[(⟨10,x,((e2.map aT.enc).length:Nat) -Int.ofNat 1,[],[],cI⟩:aT)],z,A4 g2,by rw[h4.aF];have:=h3.aO;show q.aF.length≤k+(jB D n G).2.aO;omega,h4.st,h4.depth.trans O,h4.aF.trans gM,(g2.join (NF D n G h2.st J) 10 x).dW ah,⟨rfl,rfl,trivial⟩,⟨rfl,rfl,trivial⟩⟩
 have U:ng q=none:=by unfold ng;rw[al (by rw[A];decide)]
 rw[sX U] at z
 rw[PS.da A]
 refine dJ (an 2 aa (ay ?_))
 rw[←z]
 exact⟨_,PS.be a q e1,aa,⟨aa,aa,trivial⟩,⟨e1,aa,aa,hg⟩⟩
theorem ac4{T:bd}(F:FT T){D:Rd}{n:Nat}(hS:RT T 280 (fH D n) (n+1) (10*n+2)):RT T 278 (chain (fH D n) kR) (n+1) (10*n+3):=by
 intro a p e N hp hd he hN
 have An:n≤61:=by omega
 have h1:=wO D hp hd
 refine cL F.acX aa (an 1 aa (ai (ae 2 aa (jQ (hS a p e N hp hd he hN) aa aa aa aa (fun e1 g1=>?_)))))
 refine ak 1 aa (bM ?_)
 refine d7 (fun k VE B=>∃(x:Int)(q:PS)(e1:List aT),kJ (fH D n) kR k x q=(chain (fH D n) kR p)∧(q.err=0→x+1=(e1.length:Nat))∧q.aF.length≤k+q.aO∧St q∧q.depth=p.depth∧q.aF=p.aF∧EG q e1 (N+(10*n+3))∧bn [(0,.vp 1000 0),(1,.ac 1050 (e1.map aT.enc).length 8)] VE∧bn (PS.be a q e1) B) ?_ (k:=p.aF.length) ⟨(fH D n p).1,(fH D n p).2,e1,rfl,rX g1 (D4 D n p hp hd),by rw[h1.aF];omega,h1.st,h1.depth,h1.aF,g1.dW ah,⟨rfl,rfl,trivial⟩,⟨rfl,rfl,trivial⟩⟩
 clear g1
 rintro k VE B⟨x,q,e1,z,hx,hk,G,U,gM,hg,hV,hB⟩
 refine eZ (PS.be a q e1) hB ?_
 have hB:bn (PS.be a q e1) (PS.be a q e1):=⟨rfl,rfl,trivial⟩
 have p9:=hg.small G.ok ah
 refine db _ _ hV hB (bM (ai (ae 2 aa ?_)))
 refine aj (f3 rfl rfl (by simp only[ca,bN];omega) (by simp only[ca,bN];omega) ?_)
 obtain⟨v,hv⟩:∃v:Int,(((e1.map aT.enc).length:Nat):Int) -Int.ofNat 1=v:=⟨_,rfl⟩
 rw[hv]
 refine ak 1 aa (bM (ai (ae 1 aa (bV (m7 F G.ok oD) aa aa aa aa (ak 1 aa (aK aa (fun bQ=>?_) (fun bQ=>?_)))))))
 ·have Y:=Ul bQ
  have I:=H9 bQ
  obtain⟨k,rfl⟩:∃k',k=k'+1:=⟨k-1,by have:=G.ok.lt;omega⟩
  rw[q9 Y] at z
  have h2:=yg q _ _ G Y
  have h0:=(ru bQ).1
  have Z:x=v:=(qm (hx h0)).symm.trans hv
  subst Z
  have gz:=(hg.zero G.ok h0).kV h2 (pE ..)
  generalize (q.sign oD).2=A at Y z h2 I gz⊢
  have J:A.depth+(n+1)=61:=by rw[h2.depth,U];exact hd
  have K:=wO D h2.st J
  refine bC (ae 2 aa (jQ (hS a A e1 0 h2.st J gz ah) aa aa aa aa (fun e2 g2=>?_)))
  refine ae 1 aa (vO (vP F (e:=e2) (g2.small K.st.ok ah) 3 x) aa aa aa (ak 1 aa ?_))
  exact⟨k,ah,((fH D n A).2.push (⟨3,x,(fH D n A).1,[],[],cI⟩:aT)).1,((fH D n A).2.push (⟨3,x,(fH D n A).1,[],[],cI⟩:aT)).2,e2++[(⟨3,x,((e2.map aT.enc).length:Nat) -Int.ofNat 1,[],[],cI⟩:aT)],z,A4 g2,by rw[(bO.push G.ok (k:=0) ((h2.trans K).dW ah) (⟨3,x,(fH D n A).1,[],[],cI⟩:aT)).aF];have:=K.aO;show q.aF.length≤k+(fH D n A).2.aO;omega,(bO.push G.ok (k:=0) ((h2.trans K).dW ah) (⟨3,x,(fH D n A).1,[],[],cI⟩:aT)).st,(bO.push G.ok (k:=0) ((h2.trans K).dW ah) (⟨3,x,(fH D n A).1,[],[],cI⟩:aT)).depth.trans U,(bO.push G.ok (k:=0) ((h2.trans K).dW ah) (⟨3,x,(fH D n A).1,[],[],cI⟩:aT)).aF.trans gM,(g2.join (D4 D n A h2.st J) 3 x).dW ah,⟨rfl,rfl,trivial⟩,⟨rfl,rfl,trivial⟩⟩
 rw[PS.iS bQ]
 refine ai (ae 1 aa (bV (m7 F G.ok hZ) aa aa aa aa (ak 1 aa (aK aa (fun O=>?_) (fun O=>?_)))))
 ·have Y:=TA O
  have I:=H9 O
  obtain⟨k,rfl⟩:∃k',k=k'+1:=⟨k-1,by have:=G.ok.lt;omega⟩
  rw[q9 Y] at z
  have h2:=yg q _ _ G Y
  have h0:=(ru O).1
  have Z:x=v:=(qm (hx h0)).symm.trans hv
  subst Z
  have gz:=(hg.zero G.ok h0).kV h2 (pE ..)
  generalize (q.sign hZ).2=A at Y z h2 I gz⊢
  have J:A.depth+(n+1)=61:=by rw[h2.depth,U];exact hd
  have K:=wO D h2.st J
  refine bC (ae 2 aa (jQ (hS a A e1 0 h2.st J gz ah) aa aa aa aa (fun e2 g2=>?_)))
  refine ae 1 aa (vO (vP F (e:=e2) (g2.small K.st.ok ah) 4 x) aa aa aa (ak 1 aa ?_))
  exact⟨k,ah,((fH D n A).2.push (⟨4,x,(fH D n A).1,[],[],cI⟩:aT)).1,((fH D n A).2.push (⟨4,x,(fH D n A).1,[],[],cI⟩:aT)).2,e2++[(⟨4,x,((e2.map aT.enc).length:Nat) -Int.ofNat 1,[],[],cI⟩:aT)],z,A4 g2,by rw[(bO.push G.ok (k:=0) ((h2.trans K).dW ah) (⟨4,x,(fH D n A).1,[],[],cI⟩:aT)).aF];have:=K.aO;show q.aF.length≤k+(fH D n A).2.aO;omega,(bO.push G.ok (k:=0) ((h2.trans K).dW ah) (⟨4,x,(fH D n A).1,[],[],cI⟩:aT)).st,(bO.push G.ok (k:=0) ((h2.trans K).dW ah) (⟨4,x,(fH D n A).1,[],[],cI⟩:aT)).depth.trans U,(bO.push G.ok (k:=0) ((h2.trans K).dW ah) (⟨4,x,(fH D n A).1,[],[],cI⟩:aT)).aF.trans gM,(g2.join (D4 D n A h2.st J) 4 x).dW ah,⟨rfl,rfl,trivial⟩,⟨rfl,rfl,trivial⟩⟩
 have Y:=Wp bQ O
 rw[sX Y] at z
 rw[PS.iS O]
 refine an 2 aa (ay ?_)
 rw[←z]
 exact⟨_,PS.be a q e1,aa,⟨aa,aa,trivial⟩,⟨e1,aa,aa,hg⟩⟩
theorem SX{T:bd}(F:FT T){D:Rd}{n:Nat}(hS:RT T 278 (eP D n) (n+1) (10*n+3)):RT T 274 (ja (eP D n)) (n+1) (10*n+4):=by
 intro a p e N hp hd he hN
 have An:n≤61:=by omega
 have G:=uY D hp hd
 refine cL F.acS aa (an 1 aa (ai (ae 2 aa (jQ (hS a p e N hp hd he hN) aa aa aa aa (fun e1 g1=>?_)))))
 have p9:=g1.small G.st.ok ah
 refine ak 1 aa (ai (ae 2 aa ?_))
 refine aj (f3 rfl rfl (by simp only[ca,bN];omega) (by simp only[ca,bN];omega) ?_)
 obtain⟨v,hv⟩:∃v:Int,(((e1.map aT.enc).length:Nat):Int) -Int.ofNat 1=v:=⟨_,rfl⟩
 rw[hv]
 refine ak 1 aa (aL (bM (ai (ae 1 aa (bV (m7 F G.st.ok nE) aa aa aa aa (ak 1 aa (aK aa (fun A=>?_) (fun A=>?_))))))))
 ·have U:ja (eP D n) p=sS (eP D n) 6 (eP D n p).1 ((eP D n p).2.sign nE).2:=by unfold ja;rw[az A]
  have Y:=bO.sign G.st A
  have h2:=G.trans Y
  have h0:=(ru A).1
  have J:(eP D n p).1=v:=(qm (rX g1 (wV D n p hp hd) h0)).symm.trans hv
  rw[←J]
  have gz:=(g1.zero G.st.ok h0).kV Y (pE ..)
  generalize ((eP D n p).2.sign nE).2=Z at U h2 gz⊢
  have z:Z.depth+(n+1)=61:=by rw[h2.depth];exact hd
  have h3:=uY D h2.st z
  refine ai (ae 2 aa (jQ (hS a Z e1 0 h2.st z gz ah) aa aa aa aa (fun e2 g2=>?_)))
  refine ae 1 aa (vO (vP F (e:=e2) (g2.small h3.st.ok ah) 6 _) aa aa aa (ak 1 aa (ay ?_)))
  rw[U]
  exact⟨_,PS.be a _ _,aa,⟨aa,aa,trivial⟩,⟨_,aa,aa,(g2.join (wV D n Z h2.st z) 6 _).dW ah⟩⟩
 rw[PS.iS A]
 refine ai (ae 1 aa (bV (m7 F G.st.ok vK) aa aa aa aa (ak 1 aa (aK aa (fun I=>?_) (fun I=>?_)))))
 ·have U:ja (eP D n) p=sS (eP D n) 7 (eP D n p).1 ((eP D n p).2.sign vK).2:=by unfold ja;rw[al (by rw[A];decide),az I]
  have Y:=bO.sign G.st I
  have h2:=G.trans Y
  have h0:=(ru I).1
  have J:(eP D n p).1=v:=(qm (rX g1 (wV D n p hp hd) h0)).symm.trans hv
  rw[←J]
  have gz:=(g1.zero G.st.ok h0).kV Y (pE ..)
  generalize ((eP D n p).2.sign vK).2=Z at U h2 gz⊢
  have z:Z.depth+(n+1)=61:=by rw[h2.depth];exact hd
  have h3:=uY D h2.st z
  refine ai (ae 2 aa (jQ (hS a Z e1 0 h2.st z gz ah) aa aa aa aa (fun e2 g2=>?_)))
  refine ae 1 aa (vO (vP F (e:=e2) (g2.small h3.st.ok ah) 7 _) aa aa aa (ak 1 aa (ay ?_)))
  rw[U]
  exact⟨_,PS.be a _ _,aa,⟨aa,aa,trivial⟩,⟨_,aa,aa,(g2.join (wV D n Z h2.st z) 7 _).dW ah⟩⟩
 rw[PS.iS I]
 refine ai (ae 1 aa (bV (m7 F G.st.ok vL) aa aa aa aa (ak 1 aa (aK aa (fun K=>?_) (fun K=>?_)))))
 ·have U:ja (eP D n) p=sS (eP D n) 8 (eP D n p).1 ((eP D n p).2.sign vL).2:=by unfold ja;rw[al (by rw[A];decide),al (by rw[I];decide),az K]
  have Y:=bO.sign G.st K
  have h2:=G.trans Y
  have h0:=(ru K).1
  have J:(eP D n p).1=v:=(qm (rX g1 (wV D n p hp hd) h0)).symm.trans hv
  rw[←J]
  have gz:=(g1.zero G.st.ok h0).kV Y (pE ..)
  generalize ((eP D n p).2.sign vL).2=Z at U h2 gz⊢
  have z:Z.depth+(n+1)=61:=by rw[h2.depth];exact hd
  have h3:=uY D h2.st z
  refine ai (ae 2 aa (jQ (hS a Z e1 0 h2.st z gz ah) aa aa aa aa (fun e2 g2=>?_)))
  refine ae 1 aa (vO (vP F (e:=e2) (g2.small h3.st.ok ah) 8 _) aa aa aa (ak 1 aa (ay ?_)))
  rw[U]
  exact⟨_,PS.be a _ _,aa,⟨aa,aa,trivial⟩,⟨_,aa,aa,(g2.join (wV D n Z h2.st z) 8 _).dW ah⟩⟩
 rw[PS.iS K]
 refine ai (ae 1 aa (bV (gn F G.st.ok AJ) aa aa aa aa (ak 1 aa (aK aa (fun O=>?_) (fun O=>?_)))))
 ·have U:ja (eP D n) p=un (((eP D n p).2.keyword AJ).2.bc [lW]) 12 (eP D n p).1:=by unfold ja;rw[al (by rw[A];decide),al (by rw[I];decide),al (by rw[K];decide),az O]
  have Y:=bO.keyword G.st O
  have h2:=G.trans Y
  have h0:=(vN O).1
  have J:v=(eP D n p).1:=hv.symm.trans (qm (rX g1 (wV D n p hp hd) h0))
  have gz:=((g1.zero G.st.ok h0).kV Y (mQ ..)).kV (bO.bc (l:=[lW]) h2.st) qa
  refine ai (ae 1 aa (bV (jx F h2.st.ok lW) aa aa aa aa (aX (ai (ae 4 aa ?_)))))
  refine aj (eD (rows:=e1.map aT.enc) (ys:=[(⟨12,v,0,[],[],cI⟩:aT).enc]) rfl rfl rfl (.bs (rows:=[(⟨12,v,0,[],[],cI⟩:aT).enc]) rfl) (b0 rfl) (by rw[bE,ca];simp only[cV,dL];omega) (fun h=>by rw[h];rfl) (fun h=>by rw[h];rfl) ?_)
  refine ak 1 aa (ay ?_)
  rw[U]
  exact⟨_,PS.be a (un _ 12 _).2 (e1++[⟨12,v,0,[],[],cI⟩]),rfl,Cj rfl rfl,⟨e1++[⟨12,v,0,[],[],cI⟩],by rw[dx];rfl,rfl,(gz.un (fun _=>J) 12).dW ah⟩⟩
 have U:ja (eP D n) p=eP D n p:=by unfold ja;rw[al (by rw[A];decide),al (by rw[I];decide),al (by rw[K];decide),al (by rw[O];decide)]
 rw[PS.da O]
 refine aQ (an 2 aa (ay ?_))
 rw[U]
 exact⟨_,PS.be a _ e1,aa,⟨aa,aa,trivial⟩,⟨e1,aa,aa,g1.dW ah⟩⟩
end Go.Ev.Pp
