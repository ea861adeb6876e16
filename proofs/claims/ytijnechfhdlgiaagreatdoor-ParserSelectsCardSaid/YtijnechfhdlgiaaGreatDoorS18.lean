/- Part 18 of rules for walks through the code of a program, and of such walks; what each part proves is said by its theorems. -/
import Derived.Test.YtijnechfhdlgiaaGreatDoorS17
set_option linter.unusedVariables false
set_option linter.unusedSimpArgs false
namespace Go.Ev.Pp
open Go
set_option maxRecDepth 10000
set_option maxHeartbeats 1000000 in
theorem xz{T:bd}(F:FT T){a:Bool}{p:PS}(hp:St p)(least:Int):bY T 161 [.vp 1000 0,dI least] (PS.bq a p) fun r Bn=>r=dI (p.number least).1∧Bn=PS.bq a (p.number least).2:=by
 refine cw F.aam aa (al 1 aa (ai (ae 1 aa ?_)))
 refine bI (vW F hp.ok (k:=3) (by decide)) rfl rfl rfl rfl ?_
 refine ae 1 aa (af ?_)
 refine aK (al 5 aa (aI aa (fun bM=>?_) (fun bM=>?_)))
 ·have h0:¬(p.take 3 0).2.err=0:=by simpa using bM
  have Y:p.number least=(0,(p.take 3 0).2):=Sf h0
  refine al 1 aa (ax ?_)
  rw[Y];exact⟨_,PS.bq a _,rfl,⟨rfl,trivial⟩,rfl,rfl⟩
 have h0:(p.take 3 0).2.err=0:=by simpa using bM
 obtain⟨U,h2⟩:=zX h0
 have dT:=PS.lO hp.ok (k:=3) (by decide) h2
 have fy:=hp.ok.d8
 have I:p.take 3 0=(p.tok.text,p.step):=t8 U h2
 rw[I]
 have hs:=hp.nz.1 _ hp.ok.mem h2
 have Qv:=Cn hs
 have Z:p.called 3=true:=by unfold PS.called;rw[U,h2];rfl
 have J:((p.aJ+1:Nat):Int) -Int.ofNat 1=((p.aJ:Nat):Int):=by simp only[bb];omega
 refine aQ (ai (ae 1 aa ?_))
 refine ak (mO (args:=[dS p.tok.text]) rfl (by repeat(first|exact trivial|apply And.intro)) (G5 F hs) (fun r hn hr=>?_))
 subst hr
 refine ae 1 aa (af ?_)
 refine aK (ai (ae 3 aa (dc (g:=bj) aa (fun z=>?_) (fun z=>?_))))
 ·have tm:¬(d6 p.tok.text:Int)<1099511627776:=by simp at z;omega
  have K:mD least p.tok.text=10:=aj (fun h=>tm h.1)
  refine aO aa (z) (aO aa (z) (aO aa (z) (aO aa (z) (ak (cT aa (z) aa ?_)))))
  refine af (fm aa aa (ai (ae 4 aa ?_)))
  refine ak (gm (a:=((p.aJ+1:Nat):Int)) rfl rfl (by simp only[bb];omega) (by simp only[bb];omega) ?_)
  rw[J]
  refine ae 3 aa (af ?_)
  refine ai ?_
  refine eB (PS.bq a p) ⟨by rw[r5 U];rfl,trivial⟩ ?_
  refine ae 1 aa ?_
  refine bI (mh F hp.ok (by decide)) rfl rfl rfl rfl ?_
  refine af (al 1 aa (ax ?_))
  rw[KD Z K];exact⟨_,PS.bq a (p.fail 10),rfl,⟨rfl,trivial⟩,rfl,rfl⟩
 have O:(d6 p.tok.text:Int)<1099511627776:=by simp at z;omega
 refine ao aa (z) (bN aa ?_)
 refine ao aa (z) (CM aa ?_)
 rw[wrap_i64 (by omega) (by omega)]
 refine ao aa (z) (bN aa ?_)
 refine ao aa (z) (pU aa aa ?_)
 refine ak (cJ aa (z) aa ?_)
 refine af (aI aa (fun A=>?_) (fun A=>?_))
 ·have K:mD least p.tok.text=10:=aj (fun h=>by have G:=A;simp at G;omega)
  refine ai (ae 4 aa ?_)
  refine ak (gm (a:=((p.aJ+1:Nat):Int)) rfl rfl (by simp only[bb];omega) (by simp only[bb];omega) ?_)
  rw[J]
  refine ae 3 aa (af ?_)
  refine ai ?_
  refine eB (PS.bq a p) ⟨by rw[r5 U];rfl,trivial⟩ ?_
  refine ae 1 aa ?_
  refine bI (mh F hp.ok (by decide)) rfl rfl rfl rfl ?_
  refine af (al 1 aa (ax ?_))
  rw[KD Z K];exact⟨_,PS.bq a (p.fail 10),rfl,⟨rfl,trivial⟩,rfl,rfl⟩
 have K:mD least p.tok.text=0:=aw ⟨O,by have G:=A;simp at G;omega⟩
 have Y:p.number least=(((d6 p.tok.text:Nat):Int),p.step):=by unfold PS.number;rw[K,aw ⟨Z,rfl⟩,I]
 refine aQ (ai (ae 2 aa ?_))
 rw[wrap_i64 (by omega) (by omega)]
 refine ae 1 aa (af ?_)
 refine ax ?_
 rw[Y];exact⟨_,PS.bq a _,rfl,⟨rfl,trivial⟩,rfl,rfl⟩
set_option maxHeartbeats 1000000 in
theorem PT{T:bd}(F:FT T){D:Rd}(Lq:kp T D){a:Bool}{p:PS}(hp:St p):bY T 159 [.vp 1000 0] (PS.bq a p) fun r Bn=>(∃v,r=dI v∧((p.day D).2.err=0→v=(p.day D).1))∧Bn=PS.bq a (p.day D).2:=by
 refine cw F.aak aa (al 1 aa (ai (ae 1 aa ?_)))
 refine bI (vW F hp.ok (k:=4) (by decide)) rfl rfl rfl rfl ?_
 refine ae 1 aa (af ?_)
 refine aK (al 5 aa (aI aa (fun Y=>?_) (fun Y=>?_)))
 ·have h0:¬(p.take 4 0).2.err=0:=by simpa using Y
  have J:(p.day D).2=(p.take 4 0).2:=U0 h0
  have he:¬(p.day D).2.err=0:=by rw[J];exact h0
  refine al 1 aa (ax ?_)
  exact⟨_,PS.bq a _,rfl,⟨rfl,trivial⟩,⟨_,rfl,fun k=>absurd k he⟩,by rw[J]⟩
 have h0:(p.take 4 0).2.err=0:=by simpa using Y
 obtain⟨h1,h2⟩:=zX h0
 have dT:=PS.lO hp.ok (k:=4) (by decide) h2
 have fy:=hp.ok.d8
 have O:p.take 4 0=(p.tok.text,p.step):=t8 h1 h2
 rw[O]
 have hs:=hp.nz.2 _ hp.ok.mem
 have U:p.called 4=true:=by unfold PS.called;rw[h1,h2];rfl
 have hdle:=Lq.kN p.tok.text
 have Z:((p.aJ+1:Nat):Int) -Int.ofNat 1=((p.aJ:Nat):Int):=by simp only[bb];omega
 refine aQ (ai (ae 1 aa ?_))
 refine ak (mO (args:=[dS p.tok.text]) rfl (by repeat(first|exact trivial|apply And.intro)) (Lq.day _ hs) (fun r hn hr=>?_))
 subst hr
 refine ae 5 aa (af ?_)
 refine aK (ai (ae 3 aa (dc (g:=bn) aa (fun G=>?_) (fun G=>?_))))
 ·refine ao aa (G) (bN aa ?_)
  refine ao aa (G) (hY aa aa ?_)
  refine ak (cT aa (G) aa ?_)
  refine af (aI aa (fun Jx=>?_) (fun Jx=>?_))
  ·have I:D.jY p.tok.text=10:=by unfold Rd.jY;rw[aw ⟨by simpa using G,by simp at Jx;omega⟩]
   refine bD (ae 1 aa (af ?_))
   refine aK (al 2 aa (aI aa (fun z=>?_) (fun z=>?_)))
   ·have A:¬D.jY p.tok.text=0:=by rw[I];first|decide|simpa using z
    refine ai (ae 4 aa ?_)
    refine ak (gm (a:=((p.aJ+1:Nat):Int)) rfl rfl (by simp only[bb];omega) (by simp only[bb];omega) ?_)
    rw[Z]
    refine ae 3 aa (af ?_)
    refine ai ?_
    refine eB (PS.bq a p) ⟨by rw[r5 h1];rfl,trivial⟩ ?_
    refine ae 2 aa ?_
    refine bI (mh F hp.ok (e:=10) (by decide)) rfl rfl rfl rfl ?_
    refine af (al 1 aa (ax ?_))
    exact⟨_,PS.bq a (p.fail 10),rfl,⟨rfl,trivial⟩,⟨_,rfl,fun k=>absurd k (Gn U I A)⟩,by rw[CZ U I A]⟩
   have K:D.jY p.tok.text=0:=by rw[I];first|(exact absurd z (by decide))|simpa using z
   have J:p.day D=((D.day p.tok.text).1,p.step):=G4 U O K
   refine aQ (al 2 aa (ax ?_))
   exact⟨_,PS.bq a p.step,rfl,⟨rfl,trivial⟩,⟨_,rfl,fun _=>by rw[J]⟩,by rw[J]⟩
  have I:D.jY p.tok.text=(D.day p.tok.text).2:=by unfold Rd.jY;rw[aj (fun k=>absurd k.2 (by simp at Jx;omega))]
  refine aQ (aK (al 2 aa (aI aa (fun z=>?_) (fun z=>?_))))
  ·have A:¬D.jY p.tok.text=0:=by rw[I];first|decide|simpa using z
   refine ai (ae 4 aa ?_)
   refine ak (gm (a:=((p.aJ+1:Nat):Int)) rfl rfl (by simp only[bb];omega) (by simp only[bb];omega) ?_)
   rw[Z]
   refine ae 3 aa (af ?_)
   refine ai ?_
   refine eB (PS.bq a p) ⟨by rw[r5 h1];rfl,trivial⟩ ?_
   refine ae 2 aa ?_
   refine bI (mh F hp.ok (by rw[←I];exact A)) rfl rfl rfl rfl ?_
   refine af (al 1 aa (ax ?_))
   exact⟨_,PS.bq a (p.fail (D.day p.tok.text).2),rfl,⟨rfl,trivial⟩,⟨_,rfl,fun k=>absurd k (Gn U I A)⟩,by rw[CZ U I A]⟩
  have K:D.jY p.tok.text=0:=by rw[I];first|(exact absurd z (by decide))|simpa using z
  have J:p.day D=((D.day p.tok.text).1,p.step):=G4 U O K
  refine aQ (al 2 aa (ax ?_))
  exact⟨_,PS.bq a p.step,rfl,⟨rfl,trivial⟩,⟨_,rfl,fun _=>by rw[J]⟩,by rw[J]⟩
 have I:D.jY p.tok.text=(D.day p.tok.text).2:=by unfold Rd.jY;rw[aj (fun k=>absurd k.1 (by simpa using G))]
 refine aO aa (G) (aO aa (G) (ak (cJ aa (G) aa ?_)))
 refine af (eC aa aa (aQ (aK (al 2 aa (aI aa (fun z=>?_) (fun z=>?_))))))
 ·have A:¬D.jY p.tok.text=0:=by rw[I];first|decide|simpa using z
  refine ai (ae 4 aa ?_)
  refine ak (gm (a:=((p.aJ+1:Nat):Int)) rfl rfl (by simp only[bb];omega) (by simp only[bb];omega) ?_)
  rw[Z]
  refine ae 3 aa (af ?_)
  refine ai ?_
  refine eB (PS.bq a p) ⟨by rw[r5 h1];rfl,trivial⟩ ?_
  refine ae 2 aa ?_
  refine bI (mh F hp.ok (by rw[←I];exact A)) rfl rfl rfl rfl ?_
  refine af (al 1 aa (ax ?_))
  exact⟨_,PS.bq a (p.fail (D.day p.tok.text).2),rfl,⟨rfl,trivial⟩,⟨_,rfl,fun k=>absurd k (Gn U I A)⟩,by rw[CZ U I A]⟩
 have K:D.jY p.tok.text=0:=by rw[I];first|(exact absurd z (by decide))|simpa using z
 have J:p.day D=((D.day p.tok.text).1,p.step):=G4 U O K
 refine aQ (al 2 aa (ax ?_))
 exact⟨_,PS.bq a p.step,rfl,⟨rfl,trivial⟩,⟨_,rfl,fun _=>by rw[J]⟩,by rw[J]⟩
set_option maxHeartbeats 1000000 in
theorem MJ{T:bd}(F:FT T){D:Rd}(Z:kp T D){a:Bool}{p:PS}(hp:St p):bY T 152 [.vp 1000 0] (PS.bq a p) fun r Bn=>(∃v:Int×Int,r= .agg [dI v.1,dI v.2]∧((p.period D).2.err=0→v=(p.period D).1))∧Bn=PS.bq a (p.period D).2:=by
 refine cw F.aae aa (al 1 aa (ai (ae 1 aa ?_)))
 refine bI (vW F hp.ok (k:=4) (by decide)) rfl rfl rfl rfl ?_
 refine ae 1 aa (af ?_)
 refine aK (al 5 aa (aI aa (fun z=>?_) (fun z=>?_)))
 ·have h0:¬(p.take 4 0).2.err=0:=by simpa using z
  have I:(p.period D).2=(p.take 4 0).2:=Sg h0
  have he:¬(p.period D).2.err=0:=by rw[I];exact h0
  refine al 2 aa (ax ?_)
  exact⟨_,PS.bq a _,rfl,⟨rfl,trivial⟩,⟨(0,0),rfl,fun k=>absurd k he⟩,by rw[I]⟩
 have h0:(p.take 4 0).2.err=0:=by simpa using z
 obtain⟨K,h2⟩:=zX h0
 have dT:=PS.lO hp.ok (k:=4) (by decide) h2
 have fy:=hp.ok.d8
 have J:p.take 4 0=(p.tok.text,p.step):=t8 K h2
 rw[J]
 have hs:=hp.nz.2 _ hp.ok.mem
 have O:p.called 4=true:=by unfold PS.called;rw[K,h2];rfl
 have U:((p.aJ+1:Nat):Int) -Int.ofNat 1=((p.aJ:Nat):Int):=by simp only[bb];omega
 refine aQ (ai (ae 1 aa ?_))
 refine ak (mO (args:=[dS p.tok.text]) rfl (by repeat(first|exact trivial|apply And.intro)) (Z.iC _ hs) (fun r hn hr=>?_))
 subst hr
 refine ae 6 aa (af ?_)
 refine aK (al 2 aa (aI aa (fun A=>?_) (fun A=>?_)))
 ·have G:¬(D.iC p.tok.text).2=0:=by simpa using A
  refine ai (ae 4 aa ?_)
  refine ak (gm (a:=((p.aJ+1:Nat):Int)) rfl rfl (by simp only[bb];omega) (by simp only[bb];omega) ?_)
  rw[U]
  refine ae 3 aa (af ?_)
  refine ai ?_
  refine eB (PS.bq a p++[(2,.one 42 16 [d0,d0])]) (cI (by rw[r5 K];rfl) ⟨rfl,trivial⟩) ?_
  refine ae 2 aa (bI (mh F hp.ok G) aa aa aa aa (af (al 2 aa (ax ?_))))
  exact⟨_,PS.bq a (p.fail (D.iC p.tok.text).2),rfl,⟨rfl,trivial⟩,⟨(0,0),rfl,fun k=>absurd k (QY O G)⟩,by rw[KE O G]⟩
 have Y:(D.iC p.tok.text).2=0:=by simpa using A
 have I:p.period D=((D.iC p.tok.text).1,p.step):=RE O J Y
 refine aQ (al 2 aa (ax ?_))
 exact⟨_,PS.bq a p.step,rfl,⟨rfl,trivial⟩,⟨(D.iC p.tok.text).1,rfl,fun _=>by rw[I]⟩,by rw[I]⟩
theorem G6{T:bd}(F:FT T){a:Bool}{p:PS}(hp:bf p):bY T 160 [.vp 1000 0] (PS.bq a p) fun r Bn=>r=dI p.ic.1∧Bn=PS.bq a p.ic.2:=by
 refine cw F.aal aa (al 1 aa (aK (ai (ae 1 aa (bI (fN F hp.ok fi) aa aa aa aa (af (aI aa (fun z=>?_) (fun z=>?_))))))))
 ·have A:p.ic=((p.keyword fi).2.aU [kf]).number (-1):=by unfold PS.ic;rw[aw z]
  refine ai (ae 1 aa (bI (jb F (hp.kw fi).ok kf) aa aa aa aa (af (ai (ae 1 aa (bI (xz F ((hp.kw fi).top.dK [kf]).st (-1)) aa aa aa aa (ae 1 aa (af ?_))))))))
  refine ax ?_
  rw[A]
  exact⟨_,PS.bq a _,aa,⟨aa,trivial⟩,aa,aa⟩
 have A:p.ic=(1099511627776,p):=by unfold PS.ic;rw[aj (by rw[z];decide)]
 rw[PS.cQ z]
 refine aQ (al 1 aa (ax ?_))
 rw[A]
 exact⟨_,PS.bq a _,aa,⟨aa,trivial⟩,aa,aa⟩
open Go
variable{p:PS}{a:Bool}{D:Rd}
theorem uS{s:List UInt8}(h:(p.keyword s).1=true):p.err=0∧p.tok.kind=1∧p.tok.text=s:=by
 have z:=(PS.pK h).2
 unfold PS.next at z
 simpa using z
theorem qG{s:List UInt8}(h:(p.sign s).1=true):p.err=0∧p.tok.kind=5∧p.tok.text=s:=by
 have z:=(PS.pK h).2
 unfold PS.next at z
 simpa using z
theorem Dq{s:List UInt8}(h:p.tok.kind≠1∨p.tok.text≠s):(p.keyword s).1=false:=by
 cases hk:(p.keyword s).1
 ·rfl
 obtain⟨_,z,h2⟩:=uS hk;rcases h with h|h<;>contradiction
theorem xR{s:List UInt8}(h:p.tok.kind≠5∨p.tok.text≠s):(p.sign s).1=false:=by
 cases hk:(p.sign s).1
 ·rfl
 obtain⟨_,z,h2⟩:=qG hk;rcases h with h|h<;>contradiction
theorem U1(h:¬p.err=0):p.literal D=(ct,p):=by unfold PS.literal;rw[aw h]
theorem GP{s:List UInt8}(h:(p.keyword s).1=true)(z:s=pd∨s=o3∨s=lv):p.tok.lr=true:=by
 obtain⟨_,A,h2⟩:=uS h
 unfold cb.lr
 rw[A,h2]
 rcases z with rfl|rfl|rfl<;>decide
theorem TY(h:(p.keyword lv).1=true):p.literal D=(ct,(p.keyword lv).2):=by
 obtain⟨h0,z,h2⟩:=uS h
 unfold PS.literal
 rw[aj (by simpa using h0),aj (by rw[GP h (.inr (.inr rfl))];decide),aj (by rw[xR (.inl (by rw[z];decide))];decide),aj (by rw[z];decide),aj (by rw[Dq (.inr (by rw[h2];decide))];decide),aj (by rw[Dq (.inr (by rw[h2];decide))];decide),aw h]
theorem TZ(h:(p.keyword pd).1=true):p.literal D=(⟨3,1,[]⟩,(p.keyword pd).2):=by
 obtain⟨h0,z,h2⟩:=uS h
 unfold PS.literal
 rw[aj (by simpa using h0),aj (by rw[GP h (.inl rfl)];decide),aj (by rw[xR (.inl (by rw[z];decide))];decide),aj (by rw[z];decide),aw h]
theorem SZ(h:(p.keyword o3).1=true):p.literal D=(⟨3,0,[]⟩,(p.keyword o3).2):=by
 obtain⟨h0,z,h2⟩:=uS h
 unfold PS.literal
 rw[aj (by simpa using h0),aj (by rw[GP h (.inr (.inl rfl))];decide),aj (by rw[xR (.inl (by rw[z];decide))];decide),aj (by rw[z];decide),aj (by rw[Dq (.inr (by rw[h2];decide))];decide),aw h]
theorem T0(h0:p.err=0)(z:p.tok.kind=4):p.literal D=(⟨2,0,p.tok.text⟩,p.step):=by
 have hk:∀s,(p.keyword s).1=false:=fun s=>Dq (.inl (by rw[z];decide))
 unfold PS.literal
 rw[aj (by simpa using h0),aj (by unfold cb.lr;rw[z];simp),aj (by rw[xR (.inl (by rw[z];decide))];decide),aj (by rw[z];decide),aj (by rw[hk];decide),aj (by rw[hk];decide),aj (by rw[hk];decide)]
theorem S0(h:p.next 5 gN=true):p.literal D=(p.sign gN).2.integer D true∧(p.sign gN).1=true:=by
 have z:(p.sign gN).1=true:=by unfold PS.sign PS.accept;rw[aw h]
 obtain⟨h0,A,h2⟩:=qG z
 refine⟨?_,z⟩
 unfold PS.literal
 rw[aj (by simpa using h0),aj (by unfold cb.lr;rw[A,h2];decide),aw z]
theorem U2(h0:p.err=0)(z:p.tok.kind=3):p.literal D=(p.sign gN).2.integer D false∧(p.sign gN).1=false:=by
 have A:(p.sign gN).1=false:=xR (.inl (by rw[z];decide))
 refine⟨?_,A⟩
 rw[PS.iA A]
 unfold PS.literal
 rw[aj (by simpa using h0),aj (by unfold cb.lr;rw[z];simp),aj (by rw[A];decide),aw z]
theorem T1(h0:p.err=0)(A:(p.keyword pd).1=false)(G:(p.keyword o3).1=false)(hN:(p.keyword lv).1=false)(I:¬p.tok.kind=4)(J:¬p.tok.kind=3)(K:p.next 5 gN=false):p.literal D=(ct,p.fail 5):=by
 have z:p.tok.lr=false:=by
  have O:=(PS.se A).2
  have U:=(PS.se G).2
  have Y:=(PS.se hN).2
  unfold PS.next at K O U Y
  unfold cb.lr
  rw[decide_eq_false I,decide_eq_false J]
  by_cases Z:p.tok.kind=5
  ·simp_all
  by_cases k1:p.tok.kind=1
  ·simp_all
  simp_all
 unfold PS.literal
 rw[aj (by simpa using h0),aw z]
theorem Kl{n:Bool}(h:¬(p.take 3 0).2.err=0):(p.integer D n).2=(p.take 3 0).2:=by unfold PS.integer;rw[(zD h).1]
theorem Gp{n:Bool}(z:p.called 3=true)(A:D.int n p.tok.text=none):(p.integer D n).2=p.fail 10:=by
 have e:D.qw n p.tok.text=10:=by unfold Rd.qw;rw[A];rfl
 unfold PS.integer;rw[e,Cy z (by decide)]
theorem Gi{n:Bool}{v:Int}(z:p.called 3=true)(A:D.int n p.tok.text=some v):p.integer D n=(⟨1,v,[]⟩,p.step):=by
 have e:D.qw n p.tok.text=0:=by unfold Rd.qw;rw[A];rfl
 obtain⟨G,h2⟩:=Cp z
 unfold PS.integer;rw[e,t8 G h2,aw z,A];rfl
theorem MK{n:Nat}(h:n≤9223372036854775808):IntKind.i64.wrap (IntKind.u64.wrap (0-(n:Int)))= -(n:Int):=by
 rw[Int.zero_sub]
 simp[IntKind.wrap,IntKind.bits,IntKind.signed]
 omega
def FA(D:Rd)(a:Bool)(p:PS)(r:VV)(Bn:bo):Prop:=∃v b q,r= .tuple [ez (gZ.enc v),dB b]∧Bn=PS.bq a q∧(b=true→q=(p.literal D).2∧(q.err=0→v=(p.literal D).1))∧(b=false→q=p∧(p.literal D).2=p.fail 5)
theorem pM{v:gZ}{q:PS}{r:VV}{Bn:bo}(z:r= .tuple [ez v.enc,dB true])(A:Bn=PS.bq a q)(G:q=(p.literal D).2)(h2:q.err=0→v=(p.literal D).1):FA D a p r Bn:=⟨v,true,q,z,A,fun _=>⟨G,h2⟩,fun k=>by cases k⟩
theorem ML{r:VV}{Bn:bo}(z:r= .tuple [ez ct.enc,dB false])(A:Bn=PS.bq a p)(h:(p.literal D).2=p.fail 5):FA D a p r Bn:=
 ⟨ct,false,p,z,A,(fun k=>by cases k),fun _=>⟨rfl,h⟩⟩
open Go
set_option maxRecDepth 10000
set_option maxHeartbeats 4000000 in
theorem L7{T:bd}(F:FT T){D:Rd}(Lq:kp T D){a:Bool}{p:PS}(hp:St p):bY T 197 [.vp 1000 0] (PS.bq a p) (FA D a p):=by
 refine cw F.aaE aa ?_
 have sU:(p.aA.map cb.enc)[p.aJ]?=some p.tok.enc:=by rw[im,hp.ok.get];rfl
 refine al 2 aa (aK (bJ (al 6 aa (aI aa (fun h7=>?_) (fun h7=>?_)))))
 ·have h0:¬p.err=0:=by simpa using h7
  have I:=U1 (D:=D) h0
  have hz:p.fail 5=p:=aj h0
  refine al 3 aa (ax ?_)
  exact⟨_,PS.bq a p,rfl,⟨rfl,trivial⟩,ML rfl rfl (by rw[I,hz])⟩
 have h0:p.err=0:=by simpa using h7
 refine ai (ae 1 aa (bI (fN F hp.ok lv) aa aa aa aa (ae 1 aa (af ?_))))
 refine aI aa (fun Y=>?_) (fun Y=>?_)
 ·have I:=TY (D:=D) Y
  refine al 3 aa (ax ?_)
  exact⟨_,PS.bq a (p.keyword lv).2,rfl,⟨rfl,trivial⟩,pM rfl rfl (by rw[I]) (fun _=>by rw[I])⟩
 rw[PS.cQ Y]
 refine ai (ae 1 aa (bI (fN F hp.ok pd) aa aa aa aa (ae 1 aa (af ?_))))
 refine aI aa (fun Z=>?_) (fun Z=>?_)
 ·have I:=TZ (D:=D) Z
  refine al 3 aa (ax ?_)
  exact⟨_,PS.bq a (p.keyword pd).2,rfl,⟨rfl,trivial⟩,pM rfl rfl (by rw[I]) (fun _=>by rw[I])⟩
 rw[PS.cQ Z]
 refine ai (ae 1 aa (bI (fN F hp.ok o3) aa aa aa aa (ae 1 aa (af ?_))))
 refine aI aa (fun rZ=>?_) (fun rZ=>?_)
 ·have I:=SZ (D:=D) rZ
  refine al 3 aa (ax ?_)
  exact⟨_,PS.bq a (p.keyword o3).2,rfl,⟨rfl,trivial⟩,pM rfl rfl (by rw[I]) (fun _=>by rw[I])⟩
 rw[PS.cQ rZ]
 refine eZ (bk 8 aa (c8 (kR (row:=p.tok.enc) aa aa sU aa ?_)))
 refine bk 4 aa (c6 ?_)
 refine aI aa (fun nM=>?_) (fun nM=>?_)
 ·have h4:p.tok.kind=4:=by simpa using nM
  have I:=T0 (D:=D) h0 h4
  have hm4:=t8 h0 h4
  refine ai (ae 1 aa ?_)
  refine bI (vW F hp.ok (k:=4) (by decide)) rfl rfl rfl rfl ?_
  rw[hm4]
  refine ae 3 aa (af ?_)
  refine ax ?_
  exact⟨_,PS.bq a p.step,rfl,⟨rfl,trivial⟩,pM rfl rfl (by rw[I]) (fun _=>by rw[I])⟩
 have h4:¬p.tok.kind=4:=by simpa using nM
 refine eZ (bk 8 aa (c8 (kR (row:=p.tok.enc) aa aa sU aa ?_)))
 refine bk 4 aa (vK (g:=eQ) aa (fun J=>?_) (fun J=>?_))
 ·have h3:¬p.tok.kind=3:=by simpa using J
  refine el aa (J) (bN aa ?_)
  refine ky aa (J) aa (wt (zf F hp.ok 5 gN) aa aa aa aa ?_)
  refine el aa (J) (jH aa ?_)
  refine c8 (cT aa (J) aa ?_)
  refine bk 1 aa (c6 ?_)
  refine aI aa (fun qT=>?_) (fun qT=>?_)
  ·have Jy:p.next 5 gN=false:=by simpa using qT
   have I:=T1 (D:=D) h0 Z rZ Y h4 h3 Jy
   refine al 3 aa (ax ?_)
   exact⟨_,PS.bq a p,rfl,⟨rfl,trivial⟩,ML rfl rfl (by rw[I])⟩
  have Jy:p.next 5 gN=true:=by simpa using qT
  obtain⟨G,Jz⟩:=S0 (D:=D) Jy
  have K:=hp.sign gN
  refine aQ (ai (ae 1 aa (bI (mG F hp.ok gN) aa aa aa aa ?_)))
  rw[Jz]
  generalize (p.sign gN).2=q at G K⊢
  refine ae 1 aa (af ?_)
  refine ai (ae 1 aa ?_)
  refine bI (vW F K.ok (k:=3) (by decide)) rfl rfl rfl rfl ?_
  refine ae 1 aa (af ?_)
  refine aK (al 5 aa (aI aa (fun O=>?_) (fun O=>?_)))
  ·have h5:¬(q.take 3 0).2.err=0:=by simpa using O
   have I:(p.literal D).2=(q.take 3 0).2:=by rw[G,Kl h5]
   exact al 3 aa (ax (⟨_,PS.bq a (q.take 3 0).2,aa,⟨aa,trivial⟩,pM (v:=ct) aa aa I.symm (fun k=>absurd k h5)⟩))
  have h5:(q.take 3 0).2.err=0:=by simpa using O
  obtain⟨U,h2⟩:=zX h5
  have dT:=PS.lO K.ok (k:=3) (by decide) h2
  have fy:=K.ok.d8
  have nN:q.take 3 0=(q.tok.text,q.step):=t8 U h2
  rw[nN]
  have hs:=K.nz.1 _ K.ok.mem h2
  have Qv:=Cn hs
  have hc:q.called 3=true:=by unfold PS.called;rw[U,h2];rfl
  have hi:=Lq.int
  have nc:((q.aJ+1:Nat):Int) -Int.ofNat 1=((q.aJ:Nat):Int):=by simp only[bb];omega
  refine aQ (ai (ae 1 aa ?_))
  refine ak (mO (args:=[dS q.tok.text]) rfl (by repeat(first|exact trivial|apply And.intro)) (G5 F hs) (fun r hn hr=>?_))
  subst hr
  refine ae 1 aa (af ?_)
  refine aK (ai (ae 3 aa (dc (g:=hJ) aa (fun z=>?_) (fun z=>?_))))
  ·have abx:(9223372036854775808:Int)<(d6 q.tok.text:Nat):=by simpa using z
   have I:(p.literal D).2=q.fail 10:=by rw[G];exact Gp hc (by rw[hi,aj (fun k=>by omega)])
   refine aO aa (z) (aO aa (z) (aO aa (z) (Cw aa (Cw aa (aO aa (z) (ak (cT aa (z) aa ?_)))))))
   refine af (fm aa aa (ai (ae 4 aa ?_)))
   refine ak (gm (a:=((q.aJ+1:Nat):Int)) rfl rfl (by simp only[bb];omega) (by simp only[bb];omega) ?_)
   rw[nc]
   refine ae 3 aa (af ?_)
   refine ai ?_
   refine eB (PS.bq a q++[(2,.one 92 32 [d0,d0,dS []])]) (cI (by rw[r5 U];rfl) ⟨rfl,trivial⟩) ?_
   refine ae 1 aa ?_
   refine bI (mh F K.ok (by decide)) rfl rfl rfl rfl ?_
   refine af (al 3 aa (ax ?_))
   exact⟨_,PS.bq a (q.fail 10),rfl,⟨rfl,trivial⟩,pM (v:=ct) rfl rfl I.symm (fun k=>absurd k (by rw[vM U];decide))⟩
  have hle:((d6 q.tok.text:Nat):Int)≤9223372036854775808:=by simpa using z
  refine ao aa (z) (bN aa ?_)
  refine ao aa (z) (hY aa aa ?_)
  refine ao aa (z) (bN aa ?_)
  refine dc (g:=iS) aa (fun A=>?_) (fun A=>?_)
  ·have heq:((d6 q.tok.text:Nat):Int)=9223372036854775808:=by simpa using A
   have I:p.literal D=(⟨1, -((d6 q.tok.text:Nat):Int),[]⟩,q.step):=by rw[G];exact Gi hc (by rw[hi,aw (Or.inr ⟨rfl,heq⟩)];rfl)
   refine ao aa (A) (bN aa ?_)
   refine ao aa (A) (jH aa ?_)
   refine ao aa (z) (cT aa (A) aa ?_)
   refine ak (cJ aa (z) aa ?_)
   refine af (eC aa aa (aQ (aK (al 1 aa (fm aa aa (bD (ae 1 aa (ak (MF aa ?_)))))))))
   refine ae 1 aa (af ?_)
   refine ai (ae 2 aa ?_)
   rw[MK (n:=d6 q.tok.text) (by omega)]
   refine ae 3 aa (af ?_)
   refine ax ?_
   exact⟨_,PS.bq a q.step,rfl,⟨rfl,trivial⟩,pM rfl rfl (by rw[I]) (fun _=>by rw[I])⟩
  have lK:¬((d6 q.tok.text:Nat):Int)=9223372036854775808:=by simpa using A
  have I:p.literal D=(⟨1, -((d6 q.tok.text:Nat):Int),[]⟩,q.step):=by rw[G];exact Gi hc (by rw[hi,aw (Or.inl (by omega))];rfl)
  refine aO aa (A) (aO aa (A) (ao aa (z) (cJ aa (A) aa ?_)))
  refine ak (cJ aa (z) aa ?_)
  refine af (eC aa aa (aQ (aK (al 1 aa (fm aa aa (bD (ae 1 aa (ak (MF aa ?_)))))))))
  refine ae 1 aa (af ?_)
  refine ai (ae 2 aa ?_)
  rw[MK (n:=d6 q.tok.text) (by omega)]
  refine ae 3 aa (af ?_)
  refine ax ?_
  exact⟨_,PS.bq a q.step,rfl,⟨rfl,trivial⟩,pM rfl rfl (by rw[I]) (fun _=>by rw[I])⟩
 have h3:p.tok.kind=3:=by simpa using J
 obtain⟨G,Jz⟩:=U2 (D:=D) h0 h3
 have K:=hp.sign gN
 refine cU aa (J) (iO aa (J) (cU aa (J) (c8 (cJ aa (J) aa ?_))))
 refine bk 1 aa (c6 ?_)
 refine eC aa aa (aQ (ai (ae 1 aa (bI (mG F hp.ok gN) aa aa aa aa ?_))))
 rw[Jz]
 generalize (p.sign gN).2=q at G K⊢
 refine ae 1 aa (af ?_)
 refine ai (ae 1 aa ?_)
 refine bI (vW F K.ok (k:=3) (by decide)) rfl rfl rfl rfl ?_
 refine ae 1 aa (af ?_)
 refine aK (al 5 aa (aI aa (fun O=>?_) (fun O=>?_)))
 ·have h5:¬(q.take 3 0).2.err=0:=by simpa using O
  have I:(p.literal D).2=(q.take 3 0).2:=by rw[G,Kl h5]
  exact al 3 aa (ax (⟨_,PS.bq a (q.take 3 0).2,aa,⟨aa,trivial⟩,pM (v:=ct) aa aa I.symm (fun k=>absurd k h5)⟩))
 have h5:(q.take 3 0).2.err=0:=by simpa using O
 obtain⟨U,h2⟩:=zX h5
 have dT:=PS.lO K.ok (k:=3) (by decide) h2
 have fy:=K.ok.d8
 have nN:q.take 3 0=(q.tok.text,q.step):=t8 U h2
 rw[nN]
 have hs:=K.nz.1 _ K.ok.mem h2
 have Qv:=Cn hs
 have hc:q.called 3=true:=by unfold PS.called;rw[U,h2];rfl
 have hi:=Lq.int
 have nc:((q.aJ+1:Nat):Int) -Int.ofNat 1=((q.aJ:Nat):Int):=by simp only[bb];omega
 refine aQ (ai (ae 1 aa ?_))
 refine ak (mO (args:=[dS q.tok.text]) rfl (by repeat(first|exact trivial|apply And.intro)) (G5 F hs) (fun r hn hr=>?_))
 subst hr
 refine ae 1 aa (af ?_)
 refine aK (ai (ae 3 aa (dc (g:=hJ) aa (fun z=>?_) (fun z=>?_))))
 ·have abx:(9223372036854775808:Int)<(d6 q.tok.text:Nat):=by simpa using z
  have I:(p.literal D).2=q.fail 10:=by rw[G];exact Gp hc (by rw[hi,aj (fun k=>by omega)])
  refine aO aa (z) (aO aa (z) (aO aa (z) (Cw aa (Cw aa (aO aa (z) (ak (cT aa (z) aa ?_)))))))
  refine af (fm aa aa (ai (ae 4 aa ?_)))
  refine ak (gm (a:=((q.aJ+1:Nat):Int)) rfl rfl (by simp only[bb];omega) (by simp only[bb];omega) ?_)
  rw[nc]
  refine ae 3 aa (af ?_)
  refine ai ?_
  refine eB (PS.bq a q++[(2,.one 92 32 [d0,d0,dS []])]) (cI (by rw[r5 U];rfl) ⟨rfl,trivial⟩) ?_
  refine ae 1 aa ?_
  refine bI (mh F K.ok (by decide)) rfl rfl rfl rfl ?_
  refine af (al 3 aa (ax ?_))
  exact⟨_,PS.bq a (q.fail 10),rfl,⟨rfl,trivial⟩,pM (v:=ct) rfl rfl I.symm (fun k=>absurd k (by rw[vM U];decide))⟩
 have hle:((d6 q.tok.text:Nat):Int)≤9223372036854775808:=by simpa using z
 refine ao aa (z) (bN aa ?_)
 refine ao aa (z) (hY aa aa ?_)
 refine ao aa (z) (bN aa ?_)
 refine dc (g:=iS) aa (fun A=>?_) (fun A=>?_)
 ·have heq:((d6 q.tok.text:Nat):Int)=9223372036854775808:=by simpa using A
  have I:(p.literal D).2=q.fail 10:=by rw[G];exact Gp hc (by rw[hi,aj (fun k=>k.elim (fun k=>by omega) (fun k=>Bool.noConfusion k.1))])
  refine ao aa (A) (bN aa ?_)
  refine ao aa (A) (jH aa ?_)
  refine ao aa (z) (cT aa (A) aa ?_)
  refine ak (cJ aa (z) aa ?_)
  refine af (fm aa aa (ai (ae 4 aa ?_)))
  refine ak (gm (a:=((q.aJ+1:Nat):Int)) rfl rfl (by simp only[bb];omega) (by simp only[bb];omega) ?_)
  rw[nc]
  refine ae 3 aa (af ?_)
  refine ai ?_
  refine eB (PS.bq a q++[(2,.one 92 32 [d0,d0,dS []])]) (cI (by rw[r5 U];rfl) ⟨rfl,trivial⟩) ?_
  refine ae 1 aa ?_
  refine bI (mh F K.ok (by decide)) rfl rfl rfl rfl ?_
  refine af (al 3 aa (ax ?_))
  exact⟨_,PS.bq a (q.fail 10),rfl,⟨rfl,trivial⟩,pM (v:=ct) rfl rfl I.symm (fun k=>absurd k (by rw[vM U];decide))⟩
 have lK:¬((d6 q.tok.text:Nat):Int)=9223372036854775808:=by simpa using A
 have I:p.literal D=(⟨1,((d6 q.tok.text:Nat):Int),[]⟩,q.step):=by rw[G];exact Gi hc (by rw[hi,aw (Or.inl (by omega))];rfl)
 refine aO aa (A) (aO aa (A) (ao aa (z) (cJ aa (A) aa ?_)))
 refine ak (cJ aa (z) aa ?_)
 refine af (eC aa aa (aQ (aK (al 1 aa (eC aa aa (aQ (ai (ae 2 aa ?_))))))))
 rw[wrap_i64 (by omega) (by omega)]
 refine ae 3 aa (af ?_)
 refine ax ?_
 exact⟨_,PS.bq a q.step,rfl,⟨rfl,trivial⟩,pM rfl rfl (by rw[I]) (fun _=>by rw[I])⟩
open Go
variable{p q:PS}{a:Bool}{D:Rd}{e:List aN}{N M n:Nat}
structure EG(q:PS)(e:List aN)(N:Nat):Prop where
 eq:q.err=0→e=q.ex
 len:e.length≤q.aJ+N
theorem EG.dE(h:EG q e N)(hk:N≤M):EG q e M:=⟨h.eq,by have:=h.len;omega⟩
theorem EG.zero(z:q.ok)(h:EG q e N)(h0:q.err=0):EG q e 0:=⟨h.eq,by rw[h.eq h0];have:=z.vt;rw[aw h0] at this;exact this⟩
theorem EG.small(h:EG q e N)(z:q.ok)(hN:N≤200000):e.length≤300000:=by have:=h.len;have:=z.lt;have:=z.d8;omega
theorem EG.join{i:Int}(h:EG q e N)(z:q.err=0→i+1=(q.ex.length:Nat))(kind x:Int):EG (q.push ⟨kind,x,i,[],[],ct⟩).2 (e++[⟨kind,x,((e.map aN.enc).length:Nat) -Int.ofNat 1,[],[],ct⟩]) (N+1):=by
 refine⟨fun h0=>?_,by have:=h.len;rw[bC];show e.length+1≤q.aJ+(N+1);omega⟩
 have A:e=q.ex:=h.eq h0
 have h2:=z h0
 subst A
 show q.ex++_=q.ex++_
 rw[bZ,show((q.ex.length:Nat):Int) -Int.ofNat 1=i by simp only[bb];omega]
theorem EG.un{x i:Int}(h:EG q e N)(z:q.err=0→x=i)(kind:Int):EG (un q kind i).2 (e++[⟨kind,x,0,[],[],ct⟩]) (N+1):=by
 refine⟨fun h0=>?_,by have:=h.len;rw[bC];show e.length+1≤q.aJ+(N+1);omega⟩
 have A:e=q.ex:=h.eq h0
 rw[z h0,A];rfl
theorem EG.push{x y:aN}(h:EG q e N)(z:q.err=0→x=y):EG (q.push y).2 (e++[x]) (N+1):=by
 refine⟨fun h0=>?_,by have:=h.len;rw[bC];show e.length+1≤q.aJ+(N+1);omega⟩
 have A:e=q.ex:=h.eq h0
 rw[z h0,A];rfl
theorem EG.up(h:EG q e N):EG q.up e N:=⟨h.eq,h.len⟩
theorem EG.step(h:EG q e N):EG q.step e N:=⟨h.eq,by have:=h.len;show e.length≤q.aJ+1+N;omega⟩
theorem EG.go(h:EG p e N)(z:q.err=0→p.err=0∧q.ex=p.ex)(h2:p.aJ≤q.aJ):EG q e N:=⟨fun h0=>by rw[(z h0).2];exact h.eq (z h0).1,by have:=h.len;omega⟩
theorem vQ(p:PS)(e:Int):(p.fail e).ex=p.ex:=by unfold PS.fail;split<;>rfl
theorem Li(p:PS)(k:Int)(s:List UInt8):(p.accept k s).2.ex=p.ex:=by unfold PS.accept;split<;>rfl
theorem oV(p:PS)(s:List UInt8):(p.sign s).2.ex=p.ex:=Li ..
theorem mz(p:PS)(s:List UInt8):(p.keyword s).2.ex=p.ex:=Li ..
theorem T2(p:PS)(s:List UInt8):(p.fV s).ex=p.ex:=by unfold PS.fV;split<;>simp only[vQ,mz]
theorem r6(p:PS)(s:List UInt8):(p.bA s).ex=p.ex:=by unfold PS.bA;split<;>simp only[vQ,oV]
theorem pE{l:List (List UInt8)}:∀{p:PS},(p.aU l).ex=p.ex:=by
 induction l with
 |nil=>intro p;rfl
 |cons s r z=>intro p;exact(z (p:=p.fV s)).trans (T2 p s)
theorem qu(p:PS)(k e:Int):(p.take k e).2.ex=p.ex:=by
 unfold PS.take
 split
 ·split
  ·split
   ·rfl
   exact vQ ..
  exact vQ ..
 rfl
theorem Sh(p:PS)(D:Rd):(p.literal D).2.ex=p.ex:=by
 unfold PS.literal
 repeat' split
 all_goals first|rfl|simp only[vQ,oV,mz,PS.integer,qu]
theorem EG.ku{k:Nat}(h:EG p e N)(g:bE k p q)(z:q.ex=p.ex):EG q e N:=h.go (fun h0=>⟨g.er h0,z⟩) g.aJ
def LI(n:Nat)(m:PS→Int×PS):Prop:=∀p,St p→p.depth+n=61→(m p).2.err=0→(m p).1+1=((m p).2.ex.length:Nat)
theorem zw(p:PS)(e:aN):(p.push e).1+1=((p.push e).2.ex.length:Nat):=by
 show((p.ex.length:Nat):Int)+1=((p.ex++[e]).length:Nat)
 rw[bC];rfl
theorem JQ(p:PS):p.gk.1+1=(p.gk.2.ex.length:Nat):=by
 unfold PS.gk
 split<;>exact zw ..
theorem MM{sub:PS→Int×PS}{test:PS→Option (Int×PS)}:∀(k:Nat)(x:Int)(p:PS),(p.err=0→x+1=(p.ex.length:Nat))→(km sub test k x p).2.err=0→(km sub test k x p).1+1=((km sub test k x p).2.ex.length:Nat)
 |0,x,p,h,h0=>h h0
 |k+1,x,p,h,h0=>by
  cases z:test p with
  |none=>rw[r7 z] at h0⊢;exact h h0
  |some w=>
   obtain⟨kind,q⟩:=w
   rw[qp z] at h0⊢
   exact MM k _ _ (fun _=>zw ..) h0
theorem vN{sub:PS→Int×PS}{test:PS→Option (Int×PS)}(h:LI n sub):LI n (chain sub test):=fun p hp z h0=>MM _ _ _ (h p hp z) h0
theorem Wc{sub:PS→Int×PS}(h:LI n sub):LI n (iI sub):=fun p hp z h0=>by
 revert h0
 unfold iI
 repeat' split
 all_goals first|exact fun _=>zw ..|exact h p hp z
theorem Wd{sub inner:PS→Int×PS}(h:LI (n+1) sub):LI (n+1) (nA sub inner):=fun p hp z h0=>by
 revert h0
 unfold nA
 split
 ·exact h p hp z
 rename_i A
 split
 ·rename_i he
  intro h0
  rw[PS.xx he] at h0
  have G:p.err=0:=PS.xm (by simpa using A)
  rw[show(p.fail 19).err=19 by unfold PS.fail;rw[aw G]] at h0
  cases h0
 exact fun _=>zw ..
theorem MN{inner:PS→Int×PS}(h:LI n inner):LI (n+1) (lz D inner):=fun p hp U h0=>by
 revert h0
 unfold lz
 split
 ·rename_i z;exact fun h0=>absurd h0 z
 rename_i z
 have z:p.err=0:=by simpa using z
 split
 ·rename_i G
  split
  ·rename_i he
   intro h0
   rw[PS.xx he] at h0
   rw[show(p.fail 19).err=19 by unfold PS.fail;rw[aw z]] at h0
   cases h0
  rename_i he
  intro h0
  obtain⟨I,J⟩:=hp.ri (by simpa using he) (PS.lk hp.ok (kind:=5) (by decide) G)
  have h2:((inner p.enter.2.step).2.bA dP).err=0:=h0
  have K:(inner p.enter.2.step).2.err=0:=by
   by_cases A:(inner p.enter.2.step).2.err=0
   ·exact A
   rw[J2 A] at h2;exact h2
  have O:=h _ I (by rw[J];omega) K
  show(inner p.enter.2.step).1+1=(((inner p.enter.2.step).2.bA dP).ex.length:Nat)
  rw[r6];exact O
 split
 ·exact fun _=>JQ p
 exact fun _=>zw ..
theorem vX(D:Rd):∀n,LI n (lT D n)∧LI n (eH D n)
 |0=>⟨fun p h A=>absurd h.ok.kN (by omega),fun p h A=>absurd h.ok.kN (by omega)⟩
 |n+1=>by
  obtain⟨G,_⟩:=vX D n
  have I:LI (n+1) (cmpL D n):=Wc (vN (vN (MN G)))
  have z:LI (n+1) (eH D (n+1)):=Wd I
  exact⟨vN (vN z),z⟩
theorem G7(D:Rd)(n:Nat):LI (n+1) (fb D n):=MN (vX D n).1
theorem Cz(D:Rd)(n:Nat):LI (n+1) (fg D n):=vN (G7 D n)
theorem vR(D:Rd)(n:Nat):LI (n+1) (ew D n):=vN (Cz D n)
theorem MO(D:Rd)(n:Nat):LI (n+1) (jd D n):=vN (vX D (n+1)).2
def RT(T:bd)(f:Nat)(m:PS→Int×PS)(n c:Nat):Prop:=∀(a:Bool)(p:PS)(e:List aN)(N:Nat),St p→p.depth+n=61→EG p e N→N≤100000→
 bY T f [.vp 1000 0,.ac 1050 (e.map aN.enc).length 8] (p.be a e) fun r Bn=>∃z,r= .ac 1050 (z.map aN.enc).length 8∧Bn=(m p).2.be a z∧EG (m p).2 z (N+c)
theorem RT.dE{T:bd}{f:Nat}{m:PS→Int×PS}{n c d:Nat}(h:RT T f m n c)(J:c≤d):RT T f m n d:=fun a p e N hp z he hN=>(h a p e N hp z he hN).mono fun _ _⟨A,G,h2,I⟩=>⟨A,G,h2,I.dE (by omega)⟩
def kW(k:Nat)(V:b0):b0→b0
 |[]=>[]
 |(s,v)::r=>bif(match aY V s with|some w=>w.no k|none=>false) then(s,v)::kW k V r else kW k V r
theorem GA{k:Nat}{V:b0}{s:Nat}{v:VV}:∀{VE:b0},aY (kW k V VE) s=some v→aY VE s=some v
 |[],h=>by cases h
 |(c,w)::r,h=>by
  unfold kW at h
  rw[eu]
  by_cases z:c=s
  ·subst z
   rw[aw rfl]
   cases hk:(match aY V c with|some w=>w.no k|none=>false)
   ·rw[hk] at h
    rw[cond_false,show aY (kW k V r) c=none from gone hk r] at h;cases h
   rw[hk] at h
   simpa[eu] using h
  rw[aj z]
  cases hk:(match aY V c with|some w=>w.no k|none=>false)
  ·rw[hk] at h;exact GA h
  rw[hk] at h
  rw[cond_true,eu,aj z] at h
  exact GA h
where gone {c:Nat} (hk:(match aY V c with|some w=>w.no k|none=>false)=false):∀r,aY (kW k V r) c=none
 |[]=>rfl
 |(d,w)::r=>by
  unfold kW
  by_cases hd:d=c
  ·subst hd;rw[hk];exact gone hk r
  cases (match aY V d with|some w=>w.no k|none=>false)
  ·exact gone hk r
  rw[cond_true,eu,aj hd];exact gone hk r
section
variable{T:bd}{VE:b0}{B:bo}
def BL:List (Nat×Nat):=[(1050,1050)]
theorem sf{f:Nat}{d:Key}{Z:Option (List Nat)}{z:List bt}{l:List aF}{b9:List VV}{Bi:bo}{P:VV→bo→Prop}{Q:b0→bo→Prop}(k:Nat)(σ:List (Nat×Nat))(N:Nat)(hN:Nat.ble 1050 N=true)(A:oo N σ=true)(hE:kK N (kW k VE VE)=true)(hB:kL N B=true)(G:ym σ Bi=true)
  (I:clean (kW k VE VE) (eM σ B) σ=true) (hl:i6 VE l=some (iN σ N b9)) (J:qO σ N Bi B) (h:bY T f b9 Bi P) (K:∀r Bn,P r Bn→VO T z ((d.n,r.cC σ N)::kW k VE VE) (m6 σ N Bn++eM σ B) Q):VO T (⟨some d,none,Z,.call f l⟩::z) VE B Q:=by
 intro H0 X0 E H β O
 obtain⟨vs,a1,a2⟩:=vA O hl
 have U:=O.less fun s v(hk:aY (kW k VE VE) s=some v)=>GA hk
 refine LL ((GZ a1 (GM σ N hN A hE hB G I J h (Q:=fun v B'=>VO T z ((d.n,v)::kW k VE VE) B' Q) K U a2)).mono fun a H' hp=>?_)
 obtain⟨v,B',β',hw,Y,hv,K⟩:=hp
 exact(K H0 X0 _ H' β' (Y.set hv)).mono fun _ _ hp=>hp.of hw O.bc
theorem jv{f:Nat}{d:Key}{K:Option (List Nat)}{I:List bt}{l:List aF}{b9:List VV}{p J:PS}{e:List aN}{G:List aN→Prop}{Q:b0→bo→Prop}(h:bY T f b9 (p.be a e) fun r Bn=>∃z,r= .ac 1050 (z.map aN.enc).length 8∧Bn=J.be a z∧G z)(O:aY B 1000=some (.one 164 64 (p.lY a)))(h2:aY B 1050=some (.acc 142 88 8 (e.map aN.enc)))
  (U:i6 VE l=some (iN jt 2000 b9)) (Y:(kK 2000 (kW 1050 VE VE)&&(kL 2000 B&&clean (kW 1050 VE VE) (eM jt B) jt))=true) (Z:∀z,G z→VO T I ((d.n,.ac 1050 (z.map aN.enc).length 8)::kW 1050 VE VE) (J.be a z++eM jt B) Q):VO T (⟨some d,none,K,.call f l⟩::I) VE B Q:=by
 obtain⟨a1,A⟩:=iF Y
 obtain⟨A,a3⟩:=iF A
 exact sf (Bi:=p.be a e) 1050 jt 2000 rfl rfl a1 A rfl a3 U ⟨rfl,O,rfl,h2,trivial⟩ h fun r Bn hp=>by
  obtain⟨z,rfl,rfl,h5⟩:=hp
  exact Z z h5
theorem uT{f:Nat}{d:Key}{I:Option (List Nat)}{G:List bt}{l:List aF}{b9:List VV}{e z:List aN}{Q:b0→bo→Prop}(h:bY T f b9 [(1050,.acc 142 88 8 (e.map aN.enc))] fun r Bn=>r= .ac 1050 (z.map aN.enc).length 8∧Bn=[(1050,.acc 142 88 8 (z.map aN.enc))])(J:aY B 1050=some (.acc 142 88 8 (e.map aN.enc)))
  (K:i6 VE l=some (iN BL 2000 b9)) (O:(kK 2000 (kW 1050 VE VE)&&(kL 2000 B&&clean (kW 1050 VE VE) (eM BL B) BL))=true) (U:VO T G ((d.n,.ac 1050 (z.map aN.enc).length 8)::kW 1050 VE VE) ([(1050,.acc 142 88 8 (z.map aN.enc))]++eM BL B) Q):VO T (⟨some d,none,I,.call f l⟩::G) VE B Q:=by
 obtain⟨Y,A⟩:=iF O
 obtain⟨A,Z⟩:=iF A
 exact sf (Bi:=[(1050,.acc 142 88 8 (e.map aN.enc))]) 1050 BL 2000 rfl rfl Y A rfl Z K ⟨rfl,J,trivial⟩ h fun r Bn hp=>by
  obtain⟨rfl,rfl⟩:=hp
  exact U
theorem OX{f:Nat}{l:List aF}{b9:List VV}{Q:VV→bo→Prop}(h:bY T f b9 (p.bq a) (FA D a p))(A:aY B 1000=some (.one 164 64 (p.lY a)))
  (G:(kK 2000 VE&&(kL 2000 B&&clean VE (eM gj B) gj))=true) (I:i6 VE l=some (iN gj 2000 b9)) (J:∀v b q,(b=true→q=(p.literal D).2∧(q.err=0→v=(p.literal D).1))→(b=false→q=p∧(p.literal D).2=p.fail 5)→Q (.tuple [ez (gZ.enc v),dB b]) (q.bq a++eM gj B)):VI T (.call f l) VE B [1000] Q:=by
 obtain⟨K,z⟩:=iF G
 obtain⟨z,O⟩:=iF z
 exact jU (Bi:=p.bq a) gj 2000 rfl rfl K z rfl O I ⟨rfl,A,trivial⟩ h fun r Bn hp=>by
  obtain⟨v,b,q,rfl,rfl,U,Y⟩:=hp
  exact J v b q U Y
end
open Go
set_option maxRecDepth 10000
theorem kX{T:bd}(F:FT T){a:Bool}{p:PS}(hp:p.ok):bY T 148 [.vp 1000 0,dI 2] (PS.bq a p) fun r Bn=>r=dS p.name.1∧Bn=PS.bq a p.name.2:=vW F hp (k:=2) (by decide)
theorem AO{a:Bool}{q:PS}{e:List aN}{x:aN}{B:bo}(z:aY B 1000=some (.one 164 64 (q.lY a)))(h2:aY B 1050=some (.acc 142 88 8 (e.map aN.enc++[x.enc]))):br (q.be a (e++[x])) B:=⟨z,by rw[h2,dr];rfl,trivial⟩
theorem S1{p:PS}(h:(p.sign nW).1=true):kt p=some (3,(p.sign nW).2):=by
 unfold kt;rw[aj (by rw[xR (.inr (by rw[(qG h).2.2];decide))];decide),aw h]
theorem Si{p:PS}(h:(p.sign gN).1=true):kt p=some (4,(p.sign gN).2):=by unfold kt;rw[aw h]
theorem U3{p:PS}(z:(p.sign nW).1=false)(h2:(p.sign gN).1=false):kt p=none:=by
 unfold kt;rw[aj (by rw[h2];decide),aj (by rw[z];decide)]
theorem Hr{p:PS}{s:List UInt8}(h:(p.sign s).1=true):p.aJ+1≤(p.sign s).2.aJ:=by rw[show(p.sign s).2=p.step from(PS.pK h).1];exact bV _
theorem zq{p:PS}{s:List UInt8}(h:(p.keyword s).1=true):p.aJ+1≤(p.keyword s).2.aJ:=by rw[show(p.keyword s).2=p.step from(PS.pK h).1];exact bV _
theorem EG.deep{p:PS}{e:List aN}{N:Nat}(h:EG p e N)(he:p.enter.1=true):EG p.enter.2.step e N:=by
 obtain⟨z,_⟩:=PS.Hl he
 rw[z];exact⟨h.eq,by have:=h.len;show e.length≤p.aJ+1+N;omega⟩
theorem pN{e:List aN}{x:Int}(h:x+1=(e.length:Nat)):(((e.map aN.enc).length:Nat):Int) -Int.ofNat 1=x:=by rw[bZ];simp only[bb];omega
theorem rb{m:Int×PS}{e:List aN}{N:Nat}(h:EG m.2 e N)(z:m.2.err=0→m.1+1=(m.2.ex.length:Nat))(h0:m.2.err=0):m.1+1=(e.length:Nat):=by rw[h.eq h0];exact z h0
theorem zx{q:PS}{e:List aN}{N:Nat}{x y:aN}(h:EG q e N):(q.push y).2.err=0→(q.push y).1+1=((e++[x]).length:Nat):=fun h0=>by
 have z:e=q.ex:=h.eq h0
 rw[bC,z];rfl
set_option maxHeartbeats 1000000 in
theorem uU{T:bd}(F:FT T){e:List aN}(z:e.length≤300000)(kind x:Int):bY T 236 [.ac 1050 (e.map aN.enc).length 8,dI kind,dI x] [(1050,.acc 142 88 8 (e.map aN.enc))] fun r Bn=>r= .ac 1050 ((e++[(⟨kind,x,((e.map aN.enc).length:Nat) -Int.ofNat 1,[],[],ct⟩:aN)]).map aN.enc).length 8∧Bn=[(1050,.acc 142 88 8 ((e++[(⟨kind,x,((e.map aN.enc).length:Nat) -Int.ofNat 1,[],[],ct⟩:aN)]).map aN.enc))]:=by
 refine cw F.aa3 aa (al 1 aa (ai (ae 5 aa ?_)))
 refine ak (gm rfl rfl (by simp only[bZ,bb];omega) (by simp only[bZ,bb];omega) ?_)
 refine ae 2 aa ?_
 refine ak (dZ (rows:=e.map aN.enc) (ys:=[(⟨kind,x,((e.map aN.enc).length:Nat) -Int.ofNat 1,[],[],ct⟩:aN).enc]) rfl rfl rfl (.bs (rows:=[(⟨kind,x,((e.map aN.enc).length:Nat) -Int.ofNat 1,[],[],ct⟩:aN).enc]) rfl) (bO rfl) (by rw[bC,bZ];simp only[cP,dx];omega) (fun h=>by rw[h];rfl) (fun h=>by rw[h];rfl) ?_)
 refine ae 1 aa (af ?_)
 refine ax ?_
 rw[dr]
 exact⟨_,[(1050,.acc 142 88 8 (e.map aN.enc++[(⟨kind,x,((e.map aN.enc).length:Nat) -Int.ofNat 1,[],[],ct⟩:aN).enc]))],aa,⟨aa,trivial⟩,aa,aa⟩
set_option maxHeartbeats 2000000 in
theorem MP{T:bd}(F:FT T):∀(a:Bool)(p:PS)(e:List aN)(N:Nat),St p→True→EG p e N→N≤100000→bY T 205 [.vp 1000 0,.ac 1050 (e.map aN.enc).length 8] (p.be a e) fun r Bn=>∃A,r= .ac 1050 (A.map aN.enc).length 8∧Bn=p.gk.2.be a A∧EG p.gk.2 A (N+1):=by
 intro a p e N hp O he hN
 have K:=he.small hp.ok (by omega)
 have G:St p.name.2:=hp.name
 refine cw F.aaM aa (al 1 aa (ai (ae 1 aa (bI (kX F hp.ok) aa aa aa aa (ae 3 aa (af ?_))))))
 refine aK (ai (ae 1 aa (bI (mG F G.ok jo) aa aa aa aa (af (aI aa (fun z=>?_) (fun z=>?_))))))
 ·have I:p.gk=((p.name.2.sign jo).2.name.2).push ⟨2,0,0,p.name.1,(p.name.2.sign jo).2.name.1,ct⟩:=by unfold PS.gk;rw[aw z]
  have h2:=(G.sign jo)
  have J:EG ((p.name.2.sign jo).2.name.2) e N:=((he.ku (bE.take hp (k:=2) (e:=0) (by decide)) (qu ..)).ku (bE.yn G jo) (oV ..)).ku (bE.take h2 (k:=2) (e:=0) (by decide)) (qu ..)
  refine al 4 aa (bD (ae 1 aa (bI (kX F h2.ok) aa aa aa aa (ae 2 aa (af ?_)))))
  refine ai (ae 3 aa ?_)
  refine ak (dZ (rows:=e.map aN.enc) (ys:=[(⟨2,0,0,p.name.1,(p.name.2.sign jo).2.name.1,ct⟩:aN).enc]) rfl rfl rfl (.bs (rows:=[(⟨2,0,0,p.name.1,(p.name.2.sign jo).2.name.1,ct⟩:aN).enc]) rfl) (bO rfl) (by rw[bC,bZ];simp only[cP,dx];omega) (fun h=>by rw[h];rfl) (fun h=>by rw[h];rfl) ?_)
  refine ae 1 aa (af ?_)
  refine ax ?_
  rw[I]
  exact⟨_,PS.be a (PS.push _ ⟨2,0,0,p.name.1,(p.name.2.sign jo).2.name.1,ct⟩).2 (e++[⟨2,0,0,p.name.1,(p.name.2.sign jo).2.name.1,ct⟩]),rfl,AO rfl rfl,⟨e++[⟨2,0,0,p.name.1,(p.name.2.sign jo).2.name.1,ct⟩],by rw[dr];rfl,rfl,J.push (fun _=>rfl)⟩⟩
 have I:p.gk=p.name.2.push ⟨2,0,0,[],p.name.1,ct⟩:=by unfold PS.gk;rw[aj (by rw[z];decide)]
 have J:EG p.name.2 e N:=he.ku (bE.take hp (k:=2) (e:=0) (by decide)) (qu ..)
 rw[PS.iA z]
 refine aQ (ai (ae 3 aa ?_))
 refine ak (dZ (rows:=e.map aN.enc) (ys:=[(⟨2,0,0,[],p.name.1,ct⟩:aN).enc]) rfl rfl rfl (.bs (rows:=[(⟨2,0,0,[],p.name.1,ct⟩:aN).enc]) rfl) (bO rfl) (by rw[bC,bZ];simp only[cP,dx];omega) (fun h=>by rw[h];rfl) (fun h=>by rw[h];rfl) ?_)
 refine ae 1 aa (af ?_)
 refine ax ?_
 rw[I]
 exact⟨_,PS.be a (PS.push _ ⟨2,0,0,[],p.name.1,ct⟩).2 (e++[⟨2,0,0,[],p.name.1,ct⟩]),rfl,AO rfl rfl,⟨e++[⟨2,0,0,[],p.name.1,ct⟩],by rw[dr];rfl,rfl,J.push (fun _=>rfl)⟩⟩
open Go
set_option maxRecDepth 10000
set_option maxHeartbeats 2000000 in
theorem T3{T:bd}(F:FT T){D:Rd}{n:Nat}(hS:RT T 282 (fb D n) (n+1) (10*n+1)):RT T 280 (chain (fb D n) lS) (n+1) (10*n+2):=by
 intro a p e N hp Y he hN
 have yP:n≤61:=by omega
 have Z:=zC D hp Y
 refine cw F.abt aa (al 1 aa (ai (ae 2 aa (jv (hS a p e N hp Y he hN) aa aa aa aa (fun e1 g1=>?_)))))
 refine ae 1 aa (af ?_)
 refine aK (bJ ?_)
 refine dY (fun k VE B=>∃(x:Int)(q:PS)(e1:List aN),km (fb D n) lS k x q=(chain (fb D n) lS p)∧(q.err=0→x+1=(e1.length:Nat))∧q.aA.length≤k+q.aJ∧St q∧q.depth=p.depth∧q.aA=p.aA∧EG q e1 (N+(10*n+2))∧br [(0,.vp 1000 0),(1,.ac 1050 (e1.map aN.enc).length 8)] VE∧br (PS.be a q e1) B) ?_ (k:=p.aA.length) ⟨(fb D n p).1,(fb D n p).2,e1,rfl,rb g1 (G7 D n p hp Y),by rw[Z.aA];omega,Z.st,Z.depth,Z.aA,g1.dE (by omega),⟨rfl,rfl,trivial⟩,⟨rfl,rfl,trivial⟩⟩
 clear g1
 rintro k VE B⟨x,q,e1,z,hx,hk,K,O,gp,hg,hV,hB⟩
 refine eD (PS.be a q e1) hB ?_
 have hB:br (PS.be a q e1) (PS.be a q e1):=⟨rfl,rfl,trivial⟩
 have pC:=hg.small K.ok (by omega)
 refine dn _ _ hV hB (aK (ai (ae 1 aa (bI (mG F K.ok eV) aa aa aa aa (af (aI aa (fun A=>?_) (fun A=>?_)))))))
 ·have U:lS q=some (5,(q.sign eV).2):=by unfold lS;rw[aw A]
  have I:=Hr A
  obtain⟨k,rfl⟩:∃k',k=k'+1:=⟨k-1,by have:=K.ok.lt;omega⟩
  rw[qp U] at z
  have h2:=Cm q _ _ K U
  have h0:=(qG A).1
  have hl:=pN (hx h0)
  have gz:=(hg.zero K.ok h0).ku h2 (oV ..)
  generalize (q.sign eV).2=G at U z h2 I gz⊢
  have J:G.depth+(n+1)=61:=by rw[h2.depth,O];exact Y
  have h3:=zC D h2.st J
  refine aQ (bJ (ai (ae 2 aa ?_)))
  refine ak (gm rfl rfl (by simp only[bZ,bb];omega) (by simp only[bZ,bb];omega) ?_)
  rw[hl]
  refine ae 1 aa (af ?_)
  refine bD (ae 2 aa ?_)
  refine jv (hS a G e1 0 h2.st J gz (by omega)) rfl rfl rfl rfl (fun e2 g2=>?_)
  refine ae 1 aa ?_
  refine uT (uU F (e:=e2) (g2.small h3.st.ok (by omega)) 5 x) rfl rfl rfl ?_
  refine ae 1 aa (af ?_)
  have h4:=bE.push K.ok (k:=0) ((h2.trans h3).dE (by omega)) (⟨5,x,(fb D n G).1,[],[],ct⟩:aN)
  exact⟨k,by omega,((fb D n G).2.push (⟨5,x,(fb D n G).1,[],[],ct⟩:aN)).1,((fb D n G).2.push (⟨5,x,(fb D n G).1,[],[],ct⟩:aN)).2,e2++[(⟨5,x,((e2.map aN.enc).length:Nat) -Int.ofNat 1,[],[],ct⟩:aN)],z,zx g2,by rw[h4.aA];have:=h3.aJ;show q.aA.length≤k+(fb D n G).2.aJ;omega,h4.st,h4.depth.trans O,h4.aA.trans gp,(g2.join (G7 D n G h2.st J) 5 x).dE (by omega),⟨rfl,rfl,trivial⟩,⟨rfl,rfl,trivial⟩⟩
 have U:lS q=none:=by unfold lS;rw[aj (by rw[A];decide)]
 rw[r7 U] at z
 rw[PS.iA A]
 refine dD (al 2 aa (ax ?_))
 rw[←z]
 exact⟨_,PS.be a q e1,aa,⟨aa,aa,trivial⟩,⟨e1,aa,aa,hg⟩⟩
set_option maxHeartbeats 2000000 in
theorem Xb{T:bd}(F:FT T){D:Rd}{n:Nat}(hS:RT T 263 (eH D (n+1)) (n+1) (10*n+5)):RT T 235 (chain (eH D (n+1)) mo) (n+1) (10*n+6):=by
 intro a p e N hp Y he hN
 have yP:n≤61:=by omega
 have Z:=(fun a b=>(pO D (n+1)).2 _ a b) hp Y
 refine cw F.aa2 aa (al 1 aa (ai (ae 2 aa (jv (hS a p e N hp Y he hN) aa aa aa aa (fun e1 g1=>?_)))))
 refine ae 1 aa (af ?_)
 refine aK (bJ ?_)
 refine dY (fun k VE B=>∃(x:Int)(q:PS)(e1:List aN),km (eH D (n+1)) mo k x q=(chain (eH D (n+1)) mo p)∧(q.err=0→x+1=(e1.length:Nat))∧q.aA.length≤k+q.aJ∧St q∧q.depth=p.depth∧q.aA=p.aA∧EG q e1 (N+(10*n+6))∧br [(0,.vp 1000 0),(1,.ac 1050 (e1.map aN.enc).length 8)] VE∧br (PS.be a q e1) B) ?_ (k:=p.aA.length) ⟨(eH D (n+1) p).1,(eH D (n+1) p).2,e1,rfl,rb g1 ((vX D (n+1)).2 p hp Y),by rw[Z.aA];omega,Z.st,Z.depth,Z.aA,g1.dE (by omega),⟨rfl,rfl,trivial⟩,⟨rfl,rfl,trivial⟩⟩
 clear g1
 rintro k VE B⟨x,q,e1,z,hx,hk,K,O,gp,hg,hV,hB⟩
 refine eD (PS.be a q e1) hB ?_
 have hB:br (PS.be a q e1) (PS.be a q e1):=⟨rfl,rfl,trivial⟩
 have pC:=hg.small K.ok (by omega)
 refine dn _ _ hV hB (aK (ai (ae 1 aa (bI (fN F K.ok mn) aa aa aa aa (af (aI aa (fun A=>?_) (fun A=>?_)))))))
 ·have U:mo q=some (9,(q.keyword mn).2):=by unfold mo;rw[aw A]
  have I:=zq A
  obtain⟨k,rfl⟩:∃k',k=k'+1:=⟨k-1,by have:=K.ok.lt;omega⟩
  rw[qp U] at z
  have h2:=Cx q _ _ K U
  have h0:=(uS A).1
  have hl:=pN (hx h0)
  have gz:=(hg.zero K.ok h0).ku h2 (mz ..)
  generalize (q.keyword mn).2=G at U z h2 I gz⊢
  have J:G.depth+(n+1)=61:=by rw[h2.depth,O];exact Y
  have h3:=(fun a b=>(pO D (n+1)).2 _ a b) h2.st J
  refine aQ (bJ (ai (ae 2 aa ?_)))
  refine ak (gm rfl rfl (by simp only[bZ,bb];omega) (by simp only[bZ,bb];omega) ?_)
  rw[hl]
  refine ae 1 aa (af ?_)
  refine bD (ae 2 aa ?_)
  refine jv (hS a G e1 0 h2.st J gz (by omega)) rfl rfl rfl rfl (fun e2 g2=>?_)
  refine ae 1 aa ?_
  refine uT (uU F (e:=e2) (g2.small h3.st.ok (by omega)) 9 x) rfl rfl rfl ?_
  refine ae 1 aa (af ?_)
  have h4:=bE.push K.ok (k:=0) ((h2.trans h3).dE (by omega)) (⟨9,x,(eH D (n+1) G).1,[],[],ct⟩:aN)
  exact⟨k,by omega,((eH D (n+1) G).2.push (⟨9,x,(eH D (n+1) G).1,[],[],ct⟩:aN)).1,((eH D (n+1) G).2.push (⟨9,x,(eH D (n+1) G).1,[],[],ct⟩:aN)).2,e2++[(⟨9,x,((e2.map aN.enc).length:Nat) -Int.ofNat 1,[],[],ct⟩:aN)],z,zx g2,by rw[h4.aA];have:=h3.aJ;show q.aA.length≤k+(eH D (n+1) G).2.aJ;omega,h4.st,h4.depth.trans O,h4.aA.trans gp,(g2.join ((vX D (n+1)).2 G h2.st J) 9 x).dE (by omega),⟨rfl,rfl,trivial⟩,⟨rfl,rfl,trivial⟩⟩
 have U:mo q=none:=by unfold mo;rw[aj (by rw[A];decide)]
 rw[r7 U] at z
 rw[PS.cQ A]
 refine dD (al 2 aa (ax ?_))
 rw[←z]
 exact⟨_,PS.be a q e1,aa,⟨aa,aa,trivial⟩,⟨e1,aa,aa,hg⟩⟩
set_option maxHeartbeats 2000000 in
theorem Xc{T:bd}(F:FT T){D:Rd}{n:Nat}(hS:RT T 235 (jd D n) (n+1) (10*n+6)):RT T 199 (chain (jd D n) mN) (n+1) (10*n+7):=by
 intro a p e N hp Y he hN
 have yP:n≤61:=by omega
 have Z:=CY D hp Y
 refine cw F.aaG aa (al 1 aa (ai (ae 2 aa (jv (hS a p e N hp Y he hN) aa aa aa aa (fun e1 g1=>?_)))))
 refine ae 1 aa (af ?_)
 refine aK (bJ ?_)
 refine dY (fun k VE B=>∃(x:Int)(q:PS)(e1:List aN),km (jd D n) mN k x q=(chain (jd D n) mN p)∧(q.err=0→x+1=(e1.length:Nat))∧q.aA.length≤k+q.aJ∧St q∧q.depth=p.depth∧q.aA=p.aA∧EG q e1 (N+(10*n+7))∧br [(0,.vp 1000 0),(1,.ac 1050 (e1.map aN.enc).length 8)] VE∧br (PS.be a q e1) B) ?_ (k:=p.aA.length) ⟨(jd D n p).1,(jd D n p).2,e1,rfl,rb g1 (MO D n p hp Y),by rw[Z.aA];omega,Z.st,Z.depth,Z.aA,g1.dE (by omega),⟨rfl,rfl,trivial⟩,⟨rfl,rfl,trivial⟩⟩
 clear g1
 rintro k VE B⟨x,q,e1,z,hx,hk,K,O,gp,hg,hV,hB⟩
 refine eD (PS.be a q e1) hB ?_
 have hB:br (PS.be a q e1) (PS.be a q e1):=⟨rfl,rfl,trivial⟩
 have pC:=hg.small K.ok (by omega)
 refine dn _ _ hV hB (aK (ai (ae 1 aa (bI (fN F K.ok mw) aa aa aa aa (af (aI aa (fun A=>?_) (fun A=>?_)))))))
 ·have U:mN q=some (10,(q.keyword mw).2):=by unfold mN;rw[aw A]
  have I:=zq A
  obtain⟨k,rfl⟩:∃k',k=k'+1:=⟨k-1,by have:=K.ok.lt;omega⟩
  rw[qp U] at z
  have h2:=Hk q _ _ K U
  have h0:=(uS A).1
  have hl:=pN (hx h0)
  have gz:=(hg.zero K.ok h0).ku h2 (mz ..)
  generalize (q.keyword mw).2=G at U z h2 I gz⊢
  have J:G.depth+(n+1)=61:=by rw[h2.depth,O];exact Y
  have h3:=CY D h2.st J
  refine aQ (bJ (ai (ae 2 aa ?_)))
  refine ak (gm rfl rfl (by simp only[bZ,bb];omega) (by simp only[bZ,bb];omega) ?_)
  rw[hl]
  refine ae 1 aa (af ?_)
  refine bD (ae 2 aa ?_)
  refine jv (hS a G e1 0 h2.st J gz (by omega)) rfl rfl rfl rfl (fun e2 g2=>?_)
  refine ae 1 aa ?_
  refine uT (uU F (e:=e2) (g2.small h3.st.ok (by omega)) 10 x) rfl rfl rfl ?_
  refine ae 1 aa (af ?_)
  have h4:=bE.push K.ok (k:=0) ((h2.trans h3).dE (by omega)) (⟨10,x,(jd D n G).1,[],[],ct⟩:aN)
  exact⟨k,by omega,((jd D n G).2.push (⟨10,x,(jd D n G).1,[],[],ct⟩:aN)).1,((jd D n G).2.push (⟨10,x,(jd D n G).1,[],[],ct⟩:aN)).2,e2++[(⟨10,x,((e2.map aN.enc).length:Nat) -Int.ofNat 1,[],[],ct⟩:aN)],z,zx g2,by rw[h4.aA];have:=h3.aJ;show q.aA.length≤k+(jd D n G).2.aJ;omega,h4.st,h4.depth.trans O,h4.aA.trans gp,(g2.join (MO D n G h2.st J) 10 x).dE (by omega),⟨rfl,rfl,trivial⟩,⟨rfl,rfl,trivial⟩⟩
 have U:mN q=none:=by unfold mN;rw[aj (by rw[A];decide)]
 rw[r7 U] at z
 rw[PS.cQ A]
 refine dD (al 2 aa (ax ?_))
 rw[←z]
 exact⟨_,PS.be a q e1,aa,⟨aa,aa,trivial⟩,⟨e1,aa,aa,hg⟩⟩
open Go
set_option maxRecDepth 10000
set_option maxHeartbeats 2000000 in
theorem aby{T:bd}(F:FT T){D:Rd}{n:Nat}(hS:RT T 280 (fg D n) (n+1) (10*n+2)):RT T 278 (chain (fg D n) kt) (n+1) (10*n+3):=by
 intro a p e N hp hd he hN
 have yP:n≤61:=by omega
 have h1:=vL D hp hd
 refine cw F.abq aa (al 1 aa (ai (ae 2 aa (jv (hS a p e N hp hd he hN) aa aa aa aa (fun e1 g1=>?_)))))
 refine ae 1 aa (af ?_)
 refine bJ ?_
 refine dY (fun k VE B=>∃(x:Int)(q:PS)(e1:List aN),km (fg D n) kt k x q=(chain (fg D n) kt p)∧(q.err=0→x+1=(e1.length:Nat))∧q.aA.length≤k+q.aJ∧St q∧q.depth=p.depth∧q.aA=p.aA∧EG q e1 (N+(10*n+3))∧br [(0,.vp 1000 0),(1,.ac 1050 (e1.map aN.enc).length 8)] VE∧br (PS.be a q e1) B) ?_ (k:=p.aA.length) ⟨(fg D n p).1,(fg D n p).2,e1,rfl,rb g1 (Cz D n p hp hd),by rw[h1.aA];omega,h1.st,h1.depth,h1.aA,g1.dE (by omega),⟨rfl,rfl,trivial⟩,⟨rfl,rfl,trivial⟩⟩
 clear g1
 rintro k VE B⟨x,q,e1,z,hx,hk,G,U,gp,hg,hV,hB⟩
 refine eD (PS.be a q e1) hB ?_
 have hB:br (PS.be a q e1) (PS.be a q e1):=⟨rfl,rfl,trivial⟩
 have pC:=hg.small G.ok (by omega)
 refine dn _ _ hV hB (bJ (ai (ae 2 aa ?_)))
 refine ak (gm rfl rfl (by simp only[bZ,bb];omega) (by simp only[bZ,bb];omega) ?_)
 obtain⟨v,hv⟩:∃v:Int,(((e1.map aN.enc).length:Nat):Int) -Int.ofNat 1=v:=⟨_,rfl⟩
 rw[hv]
 refine ae 1 aa (af ?_)
 refine bJ (ai (ae 1 aa (bI (mG F G.ok nW) aa aa aa aa (ae 1 aa (af ?_)))))
 refine aI aa (fun bM=>?_) (fun bM=>?_)
 ·have Y:=S1 bM
  have I:=Hr bM
  obtain⟨k,rfl⟩:∃k',k=k'+1:=⟨k-1,by have:=G.ok.lt;omega⟩
  rw[qp Y] at z
  have h2:=xk q _ _ G Y
  have h0:=(qG bM).1
  have Z:x=v:=(pN (hx h0)).symm.trans hv
  subst Z
  have gz:=(hg.zero G.ok h0).ku h2 (oV ..)
  generalize (q.sign nW).2=A at Y z h2 I gz⊢
  have J:A.depth+(n+1)=61:=by rw[h2.depth,U];exact hd
  have K:=vL D h2.st J
  refine bD (ae 2 aa ?_)
  refine jv (hS a A e1 0 h2.st J gz (by omega)) rfl rfl rfl rfl (fun e2 g2=>?_)
  refine ae 1 aa ?_
  refine uT (uU F (e:=e2) (g2.small K.st.ok (by omega)) 3 x) rfl rfl rfl ?_
  refine ae 1 aa (af ?_)
  exact⟨k,by omega,((fg D n A).2.push (⟨3,x,(fg D n A).1,[],[],ct⟩:aN)).1,((fg D n A).2.push (⟨3,x,(fg D n A).1,[],[],ct⟩:aN)).2,e2++[(⟨3,x,((e2.map aN.enc).length:Nat) -Int.ofNat 1,[],[],ct⟩:aN)],z,zx g2,by rw[(bE.push G.ok (k:=0) ((h2.trans K).dE (by omega)) (⟨3,x,(fg D n A).1,[],[],ct⟩:aN)).aA];have:=K.aJ;show q.aA.length≤k+(fg D n A).2.aJ;omega,(bE.push G.ok (k:=0) ((h2.trans K).dE (by omega)) (⟨3,x,(fg D n A).1,[],[],ct⟩:aN)).st,(bE.push G.ok (k:=0) ((h2.trans K).dE (by omega)) (⟨3,x,(fg D n A).1,[],[],ct⟩:aN)).depth.trans U,(bE.push G.ok (k:=0) ((h2.trans K).dE (by omega)) (⟨3,x,(fg D n A).1,[],[],ct⟩:aN)).aA.trans gp,(g2.join (Cz D n A h2.st J) 3 x).dE (by omega),⟨rfl,rfl,trivial⟩,⟨rfl,rfl,trivial⟩⟩
 rw[PS.iA bM]
 refine ai (ae 1 aa (bI (mG F G.ok gN) aa aa aa aa (ae 1 aa (af ?_))))
 refine aI aa (fun O=>?_) (fun O=>?_)
 ·have Y:=Si O
  have I:=Hr O
  obtain⟨k,rfl⟩:∃k',k=k'+1:=⟨k-1,by have:=G.ok.lt;omega⟩
  rw[qp Y] at z
  have h2:=xk q _ _ G Y
  have h0:=(qG O).1
  have Z:x=v:=(pN (hx h0)).symm.trans hv
  subst Z
  have gz:=(hg.zero G.ok h0).ku h2 (oV ..)
  generalize (q.sign gN).2=A at Y z h2 I gz⊢
  have J:A.depth+(n+1)=61:=by rw[h2.depth,U];exact hd
  have K:=vL D h2.st J
  refine bD (ae 2 aa ?_)
  refine jv (hS a A e1 0 h2.st J gz (by omega)) rfl rfl rfl rfl (fun e2 g2=>?_)
  refine ae 1 aa ?_
  refine uT (uU F (e:=e2) (g2.small K.st.ok (by omega)) 4 x) rfl rfl rfl ?_
  refine ae 1 aa (af ?_)
  exact⟨k,by omega,((fg D n A).2.push (⟨4,x,(fg D n A).1,[],[],ct⟩:aN)).1,((fg D n A).2.push (⟨4,x,(fg D n A).1,[],[],ct⟩:aN)).2,e2++[(⟨4,x,((e2.map aN.enc).length:Nat) -Int.ofNat 1,[],[],ct⟩:aN)],z,zx g2,by rw[(bE.push G.ok (k:=0) ((h2.trans K).dE (by omega)) (⟨4,x,(fg D n A).1,[],[],ct⟩:aN)).aA];have:=K.aJ;show q.aA.length≤k+(fg D n A).2.aJ;omega,(bE.push G.ok (k:=0) ((h2.trans K).dE (by omega)) (⟨4,x,(fg D n A).1,[],[],ct⟩:aN)).st,(bE.push G.ok (k:=0) ((h2.trans K).dE (by omega)) (⟨4,x,(fg D n A).1,[],[],ct⟩:aN)).depth.trans U,(bE.push G.ok (k:=0) ((h2.trans K).dE (by omega)) (⟨4,x,(fg D n A).1,[],[],ct⟩:aN)).aA.trans gp,(g2.join (Cz D n A h2.st J) 4 x).dE (by omega),⟨rfl,rfl,trivial⟩,⟨rfl,rfl,trivial⟩⟩
 have Y:=U3 bM O
 rw[r7 Y] at z
 rw[PS.iA O]
 refine al 2 aa (ax ?_)
 rw[←z]
 exact⟨_,PS.be a q e1,aa,⟨aa,aa,trivial⟩,⟨e1,aa,aa,hg⟩⟩
set_option maxHeartbeats 2000000 in
theorem RF{T:bd}(F:FT T){D:Rd}{n:Nat}(hS:RT T 278 (ew D n) (n+1) (10*n+3)):RT T 274 (iI (ew D n)) (n+1) (10*n+4):=by
 intro a p e N hp hd he hN
 have yP:n≤61:=by omega
 have G:=t6 D hp hd
 refine cw F.abl aa (al 1 aa (ai (ae 2 aa (jv (hS a p e N hp hd he hN) aa aa aa aa (fun e1 g1=>?_)))))
 have pC:=g1.small G.st.ok (by omega)
 refine ae 1 aa (af ?_)
 refine ai (ae 2 aa ?_)
 refine ak (gm rfl rfl (by simp only[bZ,bb];omega) (by simp only[bZ,bb];omega) ?_)
 obtain⟨v,hv⟩:∃v:Int,(((e1.map aN.enc).length:Nat):Int) -Int.ofNat 1=v:=⟨_,rfl⟩
 rw[hv]
 refine ae 1 aa (af ?_)
 refine aK (bJ (ai (ae 1 aa (bI (mG F G.st.ok na) aa aa aa aa (ae 1 aa (af ?_))))))
 refine aI aa (fun A=>?_) (fun A=>?_)
 ·have U:iI (ew D n) p=rW (ew D n) 6 (ew D n p).1 ((ew D n p).2.sign na).2:=by unfold iI;rw[aw A]
  have Y:=bE.sign G.st A
  have h2:=G.trans Y
  have h0:=(qG A).1
  have J:(ew D n p).1=v:=(pN (rb g1 (vR D n p hp hd) h0)).symm.trans hv
  rw[←J]
  have gz:=(g1.zero G.st.ok h0).ku Y (oV ..)
  generalize ((ew D n p).2.sign na).2=Z at U h2 gz⊢
  have z:Z.depth+(n+1)=61:=by rw[h2.depth];exact hd
  have h3:=t6 D h2.st z
  refine ai (ae 2 aa ?_)
  refine jv (hS a Z e1 0 h2.st z gz (by omega)) rfl rfl rfl rfl (fun e2 g2=>?_)
  refine ae 1 aa ?_
  refine uT (uU F (e:=e2) (g2.small h3.st.ok (by omega)) 6 _) rfl rfl rfl ?_
  refine ae 1 aa (af ?_)
  refine ax ?_
  rw[U]
  exact⟨_,PS.be a _ _,rfl,⟨rfl,rfl,trivial⟩,⟨_,rfl,rfl,(g2.join (vR D n Z h2.st z) 6 _).dE (by omega)⟩⟩
 rw[PS.iA A]
 refine ai (ae 1 aa (bI (mG F G.st.ok uP) aa aa aa aa (ae 1 aa (af ?_))))
 refine aI aa (fun I=>?_) (fun I=>?_)
 ·have U:iI (ew D n) p=rW (ew D n) 7 (ew D n p).1 ((ew D n p).2.sign uP).2:=by unfold iI;rw[aj (by rw[A];decide),aw I]
  have Y:=bE.sign G.st I
  have h2:=G.trans Y
  have h0:=(qG I).1
  have J:(ew D n p).1=v:=(pN (rb g1 (vR D n p hp hd) h0)).symm.trans hv
  rw[←J]
  have gz:=(g1.zero G.st.ok h0).ku Y (oV ..)
  generalize ((ew D n p).2.sign uP).2=Z at U h2 gz⊢
  have z:Z.depth+(n+1)=61:=by rw[h2.depth];exact hd
  have h3:=t6 D h2.st z
  refine ai (ae 2 aa ?_)
  refine jv (hS a Z e1 0 h2.st z gz (by omega)) rfl rfl rfl rfl (fun e2 g2=>?_)
  refine ae 1 aa ?_
  refine uT (uU F (e:=e2) (g2.small h3.st.ok (by omega)) 7 _) rfl rfl rfl ?_
  refine ae 1 aa (af ?_)
  refine ax ?_
  rw[U]
  exact⟨_,PS.be a _ _,rfl,⟨rfl,rfl,trivial⟩,⟨_,rfl,rfl,(g2.join (vR D n Z h2.st z) 7 _).dE (by omega)⟩⟩
 rw[PS.iA I]
 refine ai (ae 1 aa (bI (mG F G.st.ok uQ) aa aa aa aa (ae 1 aa (af ?_))))
 refine aI aa (fun K=>?_) (fun K=>?_)
 ·have U:iI (ew D n) p=rW (ew D n) 8 (ew D n p).1 ((ew D n p).2.sign uQ).2:=by unfold iI;rw[aj (by rw[A];decide),aj (by rw[I];decide),aw K]
  have Y:=bE.sign G.st K
  have h2:=G.trans Y
  have h0:=(qG K).1
  have J:(ew D n p).1=v:=(pN (rb g1 (vR D n p hp hd) h0)).symm.trans hv
  rw[←J]
  have gz:=(g1.zero G.st.ok h0).ku Y (oV ..)
  generalize ((ew D n p).2.sign uQ).2=Z at U h2 gz⊢
  have z:Z.depth+(n+1)=61:=by rw[h2.depth];exact hd
  have h3:=t6 D h2.st z
  refine ai (ae 2 aa ?_)
  refine jv (hS a Z e1 0 h2.st z gz (by omega)) rfl rfl rfl rfl (fun e2 g2=>?_)
  refine ae 1 aa ?_
  refine uT (uU F (e:=e2) (g2.small h3.st.ok (by omega)) 8 _) rfl rfl rfl ?_
  refine ae 1 aa (af ?_)
  refine ax ?_
  rw[U]
  exact⟨_,PS.be a _ _,rfl,⟨rfl,rfl,trivial⟩,⟨_,rfl,rfl,(g2.join (vR D n Z h2.st z) 8 _).dE (by omega)⟩⟩
 rw[PS.iA K]
 refine ai (ae 1 aa (bI (fN F G.st.ok zc) aa aa aa aa (ae 1 aa (af ?_))))
 refine aI aa (fun O=>?_) (fun O=>?_)
 ·have U:iI (ew D n) p=un (((ew D n p).2.keyword zc).2.aU [lv]) 12 (ew D n p).1:=by unfold iI;rw[aj (by rw[A];decide),aj (by rw[I];decide),aj (by rw[K];decide),aw O]
  have Y:=bE.keyword G.st O
  have h2:=G.trans Y
  have h0:=(uS O).1
  have J:v=(ew D n p).1:=hv.symm.trans (pN (rb g1 (vR D n p hp hd) h0))
  have gz:=((g1.zero G.st.ok h0).ku Y (mz ..)).ku (bE.aU (l:=[lv]) h2.st) pE
  refine ai (ae 1 aa (bI (jb F h2.st.ok lv) aa aa aa aa (af (ai (ae 4 aa ?_)))))
  refine ak (dZ (rows:=e1.map aN.enc) (ys:=[(⟨12,v,0,[],[],ct⟩:aN).enc]) rfl rfl rfl (.bs (rows:=[(⟨12,v,0,[],[],ct⟩:aN).enc]) rfl) (bO rfl) (by rw[bC,bZ];simp only[cP,dx];omega) (fun h=>by rw[h];rfl) (fun h=>by rw[h];rfl) ?_)
  refine ae 1 aa (af ?_)
  refine ax ?_
  rw[U]
  exact⟨_,PS.be a (un _ 12 _).2 (e1++[⟨12,v,0,[],[],ct⟩]),rfl,AO rfl rfl,⟨e1++[⟨12,v,0,[],[],ct⟩],by rw[dr];rfl,rfl,(gz.un (fun _=>J) 12).dE (by omega)⟩⟩
 have U:iI (ew D n) p=ew D n p:=by unfold iI;rw[aj (by rw[A];decide),aj (by rw[I];decide),aj (by rw[K];decide),aj (by rw[O];decide)]
 rw[PS.cQ O]
 refine aQ (al 2 aa (ax ?_))
 rw[U]
 exact⟨_,PS.be a _ e1,rfl,⟨rfl,rfl,trivial⟩,⟨e1,rfl,rfl,g1.dE (by omega)⟩⟩
end Go.Ev.Pp
