/- Part 24 of rules for walks through the code of a program, and of such walks; what each part proves is said by its theorems. -/
import Derived.Test.YtijnechfhdlgiaaGreatDoorS11
import Derived.Test.YtijnechfhdlgiaaGreatDoorS22
import Derived.Test.YtijnechfhdlgiaaGreatDoorS23
import Derived.KernelRfl
set_option linter.unusedVariables false
set_option linter.unusedSimpArgs false
noncomputable section
set_option maxRecDepth 100000
set_option maxHeartbeats 4000000
namespace Go.Ev.Pp
open Go
theorem Km{T:bd}(F:FT T)(c:UInt8):Sound T 102 [.d (.i .u8 (c.toNat:Nat))] fun r=>r=dB (lD c):=by
 refine dG F.abw aa (an 1 aa (ai (ae 3 aa (dc (g:=ao) aa (fun z=>?_) (fun z=>?_)))))
 ·refine aw aa (z) (bY aa ?_)
  refine aw aa (z) (nO aa aa ?_)
  refine aj (c8 aa (z) aa ?_)
  refine ak 1 aa (ay ?_)
  exact bt rfl rfl (by refine congrArg (fun b=>VV.d (DC.b b)) ?_;rw[gE];unfold lD;simp at*;omega)
 refine aY aa (z) (aY aa (z) (aj (cS aa (z) aa ?_)))
 refine ak 1 aa (ay ?_)
 exact bt rfl rfl (by refine congrArg (fun b=>VV.d (DC.b b)) ?_;rw[gE];unfold lD;simp at*;omega)
theorem JI{T:bd}(F:FT T)(c:UInt8):Sound T 103 [.d (.i .u8 (c.toNat:Nat))] fun r=>r=dB (uk c):=by
 refine dG F.abx aa (an 1 aa (ai (ae 3 aa (dc (g:=ao) aa (fun z=>?_) (fun z=>?_)))))
 ·refine aw aa (z) (bY aa ?_)
  refine aw aa (z) (nO aa aa ?_)
  refine aj (c8 aa (z) aa ?_)
  refine ak 1 aa (ay ?_)
  exact bt rfl rfl (by refine congrArg (fun b=>VV.d (DC.b b)) ?_;rw[gE];unfold uk;simp at*;omega)
 refine aY aa (z) (aY aa (z) (aj (cS aa (z) aa ?_)))
 refine ak 1 aa (ay ?_)
 exact bt rfl rfl (by refine congrArg (fun b=>VV.d (DC.b b)) ?_;rw[gE];unfold uk;simp at*;omega)
theorem xG{T:bd}(F:FT T)(c:UInt8):Sound T 105 [.d (.i .u8 (c.toNat:Nat))] fun r=>r=dB (iu c):=by
 refine dG F.abz aa (an 1 aa (ai (ae 3 aa (dc (g:=ao) aa (fun z=>?_) (fun z=>?_)))))
 ·refine aw aa (z) (bY aa ?_)
  refine aw aa (z) (nO aa aa ?_)
  refine aj (c8 aa (z) aa ?_)
  refine ak 1 aa (ay ?_)
  exact bt rfl rfl (by refine congrArg (fun b=>VV.d (DC.b b)) ?_;rw[gE];unfold iu;simp at*;omega)
 refine aY aa (z) (aY aa (z) (aj (cS aa (z) aa ?_)))
 refine ak 1 aa (ay ?_)
 exact bt rfl rfl (by refine congrArg (fun b=>VV.d (DC.b b)) ?_;rw[gE];unfold iu;simp at*;omega)
theorem rsp{T:bd}(F:FT T)(c:UInt8):Sound T 47 [.d (.i .u8 (c.toNat:Nat))] fun r=>r=dB (mw c):=by
 refine dG F.f47 aa (an 1 aa (ai (ae 3 aa (dc (g:=ao) aa (fun z=>?_) (fun z=>?_)))))
 ·refine aY aa (z) (aY aa (z) (aj (c8 aa (z) aa ?_)))
  refine ae 1 aa (aY aa aa (aY aa aa (ae 2 aa (aY aa aa (aY aa aa (ak 2 aa (ay ?_)))))))
  exact bt rfl rfl (by refine congrArg (fun b=>VV.d (DC.b b)) ?_;rw[gE];unfold mw;simp at*;omega)
 refine aw aa (z) (bY aa ?_)
 refine aw aa (z) (iC aa aa ?_)
 refine aj (cS aa (z) aa ?_)
 refine ae 1 aa (dc (g:=aM) aa (fun A=>?_) (fun A=>?_))
 ·refine aY aa (A) (aY aa (A) (aj (c8 aa (A) aa ?_)))
  refine ae 1 aa (aY aa aa (aY aa aa (ak 2 aa (ay ?_))))
  exact bt rfl rfl (by refine congrArg (fun b=>VV.d (DC.b b)) ?_;rw[gE];unfold mw;simp at*;omega)
 refine aw aa (A) (bY aa ?_)
 refine aw aa (A) (iC aa aa ?_)
 refine aj (cS aa (A) aa ?_)
 refine ae 1 aa (dc (g:=aS) aa (fun bQ=>?_) (fun bQ=>?_))
 ·refine aY aa (bQ) (aY aa (bQ) (aj (c8 aa (bQ) aa ?_)))
  refine ak 1 aa (ay ?_)
  exact bt rfl rfl (by refine congrArg (fun b=>VV.d (DC.b b)) ?_;rw[gE];unfold mw;simp at*;omega)
 refine aw aa (bQ) (bY aa ?_)
 refine aw aa (bQ) (iC aa aa ?_)
 refine aj (cS aa (bQ) aa ?_)
 refine ak 1 aa (ay ?_)
 exact bt rfl rfl (by refine congrArg (fun b=>VV.d (DC.b b)) ?_;rw[gE];unfold mw;simp at*;omega)
theorem Kn{T:bd}(F:FT T)(c:UInt8):Sound T 104 [.d (.i .u8 (c.toNat:Nat))] fun r=>r=dB (jb c):=by
 refine dG F.aby aa (an 1 aa (ai (ae 1 aa (aj (cJ (JI F c) aa aa ?_)))))
 refine ae 1 aa (dc (g:=ao) aa (fun z=>?_) (fun z=>?_))
 ·have G:jb c=true:=by unfold jb;rw[z];rfl
  refine aY aa (z) (aY aa (z) (aj (c8 aa (z) aa ?_)))
  refine ae 1 aa (aY aa aa (aY aa aa (ak 2 aa (ay ?_))))
  exact bt rfl rfl (by rw[G];rfl)
 refine aw aa (z) (bY aa ?_)
 refine aw aa (z) (cJ (xG F c) aa aa ?_)
 refine aj (cS aa (z) aa ?_)
 refine ae 1 aa (dc (g:=aM) aa (fun A=>?_) (fun A=>?_))
 ·have G:jb c=true:=by unfold jb;rw[z,A];rfl
  refine aY aa (A) (aY aa (A) (aj (c8 aa (A) aa ?_)))
  refine ak 1 aa (ay ?_)
  exact bt rfl rfl (by rw[G];rfl)
 have G:jb c=decide (((c.toNat:Nat):Int)=Int.ofNat 95):=by unfold jb;rw[z,A,gE];simp;omega
 refine aw aa (A) (bY aa ?_)
 refine aw aa (A) (iC aa aa ?_)
 refine aj (cS aa (A) aa ?_)
 refine ak 1 aa (ay ?_)
 exact bt rfl rfl (by rw[G];rfl)
theorem QT{T:bd}(F:FT T)(c:UInt8):Sound T 106 [.d (.i .u8 (c.toNat:Nat))] fun r=>r=dB (decide (c∈rj)):=by
 refine dG F.abA aa (an 1 aa (an 1 aa (aL (an 1 aa (bM ?_)))))
 refine d7 (fun k VE B=>∃i,i≤11∧k=11-i∧(∀x,x∈rj.take i→x≠c)∧bn [(0,.d (.i .u8 (c.toNat:Nat))),(2,dB false),(3,dS rj),(4,dI (i:Nat))] VE∧bn [] B) ?_ (k:=11) ⟨0,aq,rfl,fun _ h=>(by cases h),⟨rfl,rfl,rfl,rfl,trivial⟩,trivial⟩
 rintro k VE B⟨i,hi,rfl,O,U,Y⟩
 refine db _ _ U Y (aL (an 4 aa (aK aa (fun G=>?_) (fun G=>?_))))
 ·have I:i<11:=by simp[rj] at G;omega
  obtain⟨b,J⟩:=jO (s:=rj) (i:=i) I
  refine aQ (aL (bM (ai (ae 2 aa (aj (fR aa aa J ?_))))))
  refine ae 1 aa (aj (iC aa aa ?_))
  refine aX (aK aa (fun z=>?_) (fun z=>?_))
  ·have K:decide (c∈rj)=true:=by(obtain rfl:b=c:=UInt8.toNat_inj.1 (by simp at z;omega));simpa using lJ J
   refine an 1 aa (ay ?_)
   exact bt rfl rfl (by rw[K];rfl)
  refine aQ (bC (ae 1 aa (aj (cM aa aa ah ?_))))
  refine ak 1 aa ?_
  exact⟨11-(i+1),ah,i+1,ah,rfl,fun x A=>by(rw[take_succ J] at A;rcases List.mem_append.1 A with A|A;exact O x A;rcases List.mem_singleton.1 A with rfl;exact fun e=>absurd z (by rw[e];simp)),⟨rfl,rfl,rfl,rfl,trivial⟩,trivial⟩
 have K:decide (c∈rj)=false:=by(have:i=11:=by simp[rj] at G;omega);subst this;exact decide_eq_false fun k=>O c k rfl
 refine dJ (an 1 aa (ay ?_))
 exact bt rfl rfl (by rw[K];rfl)
theorem JJ{T:bd}(F:FT T){k:Int}{t:List UInt8}(ho:FK k t)(ht:0<t.length)(hl:t.length≤4000):Sound T 107 [dS t,dI k] fun r=>r=dB true:=by
 refine dG F.abB aa (an 1 aa (aL (an 1 aa (bM (d7 (fun m VE B=>∃i,i≤t.length∧m=t.length-i∧bn [(0,dS t),(1,dI k),(4,dB false),(5,dI (i:Nat))] VE∧bn [] B) ?_ (k:=t.length) ⟨0,dp _,aa,⟨aa,aa,aa,aa,trivial⟩,trivial⟩)))))
 rintro m VE B⟨i,hi,rfl,hV,hB⟩
 refine db _ _ hV hB (aL (an 4 aa (aK aa (fun h9=>?_) (fun h9=>?_))))
 ·have hi9:i<t.length:=by simp at h9;omega
  obtain⟨c,Y⟩:=jO hi9
  have O:=lJ Y
  refine aQ (aL (bM (ai (ae 3 aa (dc (g:=aZ) aa (fun I=>?_) (fun I=>?_))))))
  ·have hu:=ho.up (by simpa using I) c O
   refine aw aa (I) (bY aa ?_)
   refine aw aa (I) (bY aa ?_)
   refine aw aa (I) (fR aa aa Y ?_)
   refine aw aa (I) (cJ (Km F c) aa aa ?_)
   refine aw aa (I) (j0 aa ?_)
   refine aj (c8 aa (I) aa ?_)
   refine ae 1 aa (dc (g:=bx) aa (fun K=>?_) (fun K=>?_))
   ·exact absurd K (by rw[hu];decide)
   refine aw aa (K) (bY aa ?_)
   refine aw aa (K) (iC aa aa ?_)
   refine aw aa (K) (bY aa ?_)
   refine dc (g:=bU) aa (fun A=>?_) (fun A=>?_)
   ·have Z:=ho.RP (by simpa using A) c O
    refine aw aa (A) (bY aa ?_)
    refine aw aa (A) (bY aa ?_)
    refine aw aa (A) (fR aa aa Y ?_)
    refine aw aa (A) (cJ (Kn F c) aa aa ?_)
    refine aw aa (A) (j0 aa ?_)
    refine aw aa (K) (c8 aa (A) aa ?_)
    refine aj (cS aa (K) aa ?_)
    refine ae 1 aa (dc (g:=cq) aa (fun G=>?_) (fun G=>?_))
    ·exact absurd G (by rw[Z];decide)
    refine aw aa (G) (bY aa ?_)
    refine aw aa (G) (iC aa aa ?_)
    refine aw aa (G) (bY aa ?_)
    refine dc (g:=cr) aa (fun z=>?_) (fun z=>?_)
    ·have U:=ho.o3 (by simpa using z) c O
     refine aw aa (z) (bY aa ?_)
     refine aw aa (z) (bY aa ?_)
     refine aw aa (z) (fR aa aa Y ?_)
     refine aw aa (z) (cJ (xG F c) aa aa ?_)
     refine aw aa (z) (j0 aa ?_)
     refine aw aa (G) (c8 aa (z) aa ?_)
     refine aj (cS aa (G) aa ?_)
     refine aX (aK aa (fun J=>?_) (fun J=>?_))
     ·exact absurd J (by rw[U];decide)
     refine aQ (bC (ae 1 aa (aj (cM aa aa ah ?_))))
     exact ak 1 aa (⟨t.length-(i+1),ah,i+1,ah,aa,⟨aa,aa,aa,aa,trivial⟩,trivial⟩)
    refine aY aa (z) (aY aa (z) (aY aa (z) (aY aa (z) (aY aa (z) (aw aa (G) (cS aa (z) aa ?_))))))
    refine aj (cS aa (G) aa ?_)
    refine aX (ef aa aa (aQ (bC (ae 1 aa (aj (cM aa aa ah ?_))))))
    exact ak 1 aa (⟨t.length-(i+1),ah,i+1,ah,aa,⟨aa,aa,aa,aa,trivial⟩,trivial⟩)
   refine aY aa (A) (aY aa (A) (aY aa (A) (aY aa (A) (aY aa (A) (aw aa (K) (cS aa (A) aa ?_))))))
   refine aj (cS aa (K) aa ?_)
   refine ae 1 aa (aw aa aa (bY aa ?_))
   refine aw aa aa (iC aa aa ?_)
   refine aw aa aa (bY aa ?_)
   refine dc (g:=cr) aa (fun z=>?_) (fun z=>?_)
   ·have U:=ho.o3 (by simpa using z) c O
    refine aw aa (z) (bY aa ?_)
    refine aw aa (z) (bY aa ?_)
    refine aw aa (z) (fR aa aa Y ?_)
    refine aw aa (z) (cJ (xG F c) aa aa ?_)
    refine aw aa (z) (j0 aa ?_)
    refine aw aa aa (c8 aa (z) aa ?_)
    refine ak 1 aa (aK aa (fun J=>?_) (fun J=>?_))
    ·exact absurd J (by rw[U];decide)
    refine aQ (bC (ae 1 aa (aj (cM aa aa ah ?_))))
    exact ak 1 aa (⟨t.length-(i+1),ah,i+1,ah,aa,⟨aa,aa,aa,aa,trivial⟩,trivial⟩)
   refine aY aa (z) (aY aa (z) (aY aa (z) (aY aa (z) (aY aa (z) (aw aa aa (cS aa (z) aa ?_))))))
   refine ak 1 aa (ef aa aa (aQ (bC (ae 1 aa (aj (cM aa aa ah ?_))))))
   exact ak 1 aa (⟨t.length-(i+1),ah,i+1,ah,aa,⟨aa,aa,aa,aa,trivial⟩,trivial⟩)
  refine aY aa (I) (aY aa (I) (aY aa (I) (aY aa (I) (aY aa (I) (aj (cS aa (I) aa ?_))))))
  refine ae 1 aa (aw aa aa (bY aa ?_))
  refine aw aa aa (iC aa aa ?_)
  refine aw aa aa (bY aa ?_)
  refine dc (g:=bU) aa (fun A=>?_) (fun A=>?_)
  ·have Z:=ho.RP (by simpa using A) c O
   refine aw aa (A) (bY aa ?_)
   refine aw aa (A) (bY aa ?_)
   refine aw aa (A) (fR aa aa Y ?_)
   refine aw aa (A) (cJ (Kn F c) aa aa ?_)
   refine aw aa (A) (j0 aa ?_)
   refine aw aa aa (c8 aa (A) aa ?_)
   refine ae 2 aa (dc (g:=cq) aa (fun G=>?_) (fun G=>?_))
   ·exact absurd G (by rw[Z];decide)
   refine aw aa (G) (bY aa ?_)
   refine aw aa (G) (iC aa aa ?_)
   refine aw aa (G) (bY aa ?_)
   refine dc (g:=cr) aa (fun z=>?_) (fun z=>?_)
   ·have U:=ho.o3 (by simpa using z) c O
    refine aw aa (z) (bY aa ?_)
    refine aw aa (z) (bY aa ?_)
    refine aw aa (z) (fR aa aa Y ?_)
    refine aw aa (z) (cJ (xG F c) aa aa ?_)
    refine aw aa (z) (j0 aa ?_)
    refine aw aa (G) (c8 aa (z) aa ?_)
    refine aj (cS aa (G) aa ?_)
    refine aX (aK aa (fun J=>?_) (fun J=>?_))
    ·exact absurd J (by rw[U];decide)
    refine aQ (bC (ae 1 aa (aj (cM aa aa ah ?_))))
    exact ak 1 aa (⟨t.length-(i+1),ah,i+1,ah,aa,⟨aa,aa,aa,aa,trivial⟩,trivial⟩)
   refine aY aa (z) (aY aa (z) (aY aa (z) (aY aa (z) (aY aa (z) (aw aa (G) (cS aa (z) aa ?_))))))
   refine aj (cS aa (G) aa ?_)
   refine aX (ef aa aa (aQ (bC (ae 1 aa (aj (cM aa aa ah ?_))))))
   exact ak 1 aa (⟨t.length-(i+1),ah,i+1,ah,aa,⟨aa,aa,aa,aa,trivial⟩,trivial⟩)
  refine aY aa (A) (aY aa (A) (aY aa (A) (aY aa (A) (aY aa (A) (aw aa aa (cS aa (A) aa ?_))))))
  refine ae 2 aa (aw aa aa (bY aa ?_))
  refine aw aa aa (iC aa aa ?_)
  refine aw aa aa (bY aa ?_)
  refine dc (g:=cr) aa (fun z=>?_) (fun z=>?_)
  ·have U:=ho.o3 (by simpa using z) c O
   refine aw aa (z) (bY aa ?_)
   refine aw aa (z) (bY aa ?_)
   refine aw aa (z) (fR aa aa Y ?_)
   refine aw aa (z) (cJ (xG F c) aa aa ?_)
   refine aw aa (z) (j0 aa ?_)
   refine aw aa aa (c8 aa (z) aa ?_)
   refine ak 1 aa (aK aa (fun J=>?_) (fun J=>?_))
   ·exact absurd J (by rw[U];decide)
   refine aQ (bC (ae 1 aa (aj (cM aa aa ah ?_))))
   exact ak 1 aa (⟨t.length-(i+1),ah,i+1,ah,aa,⟨aa,aa,aa,aa,trivial⟩,trivial⟩)
  refine aY aa (z) (aY aa (z) (aY aa (z) (aY aa (z) (aY aa (z) (aw aa aa (cS aa (z) aa ?_))))))
  refine ak 1 aa (ef aa aa (aQ (bC (ae 1 aa (aj (cM aa aa ah ?_))))))
  exact ak 1 aa (⟨t.length-(i+1),ah,i+1,ah,aa,⟨aa,aa,aa,aa,trivial⟩,trivial⟩)
 refine dJ (an 4 aa (ay ?_))
 exact bt rfl rfl (by refine congrArg (fun b=>VV.d (DC.b b)) ?_;simp;omega)
theorem OA{T:bd}(F:FT T){k:Int}(p:Int){t:List UInt8}(ho:FK k t)(O:t.length≤4000):Sound T 49 [.agg [dI k,dI p,dS t]] fun r=>r=dB (k0 k t):=by
 refine dG F.f49 aa (an 2 aa (aL (an 2 aa (bM (an 2 aa (aK aa (fun U=>?_) (fun U=>?_)))))))
 ·have hk:k=1:=by simpa using U
  have A:k0 k t=decide (t.length≤20):=by unfold k0;rw[al ah,al ah]
  have hp:=ho.ne ah
  refine ai (ae 4 aa (aj (cJ (JJ F ho hp O) aa aa ?_)))
  refine ae 1 aa (aw aa aa (dD aa ?_))
  refine aw aa aa (df aa aa aa ?_)
  refine aw aa aa (uM aa ?_)
  refine aw aa aa (nO aa aa ?_)
  refine ak 2 aa (ay ?_)
  exact bt rfl rfl (by refine congrArg (fun b=>VV.d (DC.b b)) ?_;rw[A];rw[gE];simp;omega)
 refine an 2 aa (aK aa (fun G=>?_) (fun G=>?_))
 ·have hk:k=2:=by simpa using G
  have A:k0 k t=decide (t.length≤20):=by unfold k0;rw[al ah,al ah]
  have hp:=ho.ne ah
  obtain⟨d,hd⟩:=jO hp
  have Y:=ho.low hk d hd
  refine ai (ae 4 aa (aj (cJ (JJ F ho hp O) aa aa ?_)))
  refine ae 1 aa (aw aa aa (dD aa ?_))
  refine aw aa aa (df aa aa aa ?_)
  refine aw aa aa (fR aa aa hd ?_)
  refine aw aa aa (cJ (JI F d) aa aa ?_)
  refine ae 2 aa (dc (g:=cf) aa (fun z=>?_) (fun z=>?_))
  ·refine aw aa (z) (dD aa ?_)
   refine aw aa (z) (df aa aa aa ?_)
   refine aw aa (z) (uM aa ?_)
   refine aw aa (z) (nO aa aa ?_)
   refine aj (c8 aa (z) aa ?_)
   refine ak 1 aa (ay ?_)
   exact bt rfl rfl (by refine congrArg (fun b=>VV.d (DC.b b)) ?_;rw[A];rw[gE];simp;omega)
  exact absurd z (by rw[Y];decide)
 refine an 2 aa (aK aa (fun I=>?_) (fun I=>?_))
 ·have hk:k=3:=by simpa using I
  have A:k0 k t=decide (t.length≤19):=az hk
  have hp:=ho.ne ah
  refine ai (ae 4 aa (aj (cJ (JJ F ho hp O) aa aa ?_)))
  refine ae 1 aa (aw aa aa (dD aa ?_))
  refine aw aa aa (df aa aa aa ?_)
  refine aw aa aa (uM aa ?_)
  refine aw aa aa (nO aa aa ?_)
  refine ak 2 aa (ay ?_)
  exact bt rfl rfl (by refine congrArg (fun b=>VV.d (DC.b b)) ?_;rw[A];rw[gE];simp;omega)
 refine an 2 aa (aK aa (fun J=>?_) (fun J=>?_))
 ·have hk:k=4:=by simpa using J
  have A:k0 k t=decide (t.length≤200):=by unfold k0;rw[al ah,az hk]
  refine an 5 aa (ay ?_)
  exact bt rfl rfl (by refine congrArg (fun b=>VV.d (DC.b b)) ?_;rw[A];rw[gE];simp;omega)
 refine an 2 aa (aK aa (fun K=>?_) (fun K=>?_))
 ·have hk:k=5:=by simpa using K
  obtain⟨d,rfl,Z⟩:=ho.sgn hk
  have A:k0 k [d]=true:=by unfold k0;rw[al ah,al ah];rfl
  refine ai (ae 5 aa (aw aa aa (dD aa ?_)))
  refine aw aa aa (df aa aa aa ?_)
  refine aw aa aa (fR (j:=0) (c:=d) aa aa aa ?_)
  refine aw aa aa (cJ (QT F d) aa aa ?_)
  refine ak 2 aa (ay ?_)
  exact bt rfl rfl (by refine congrArg (fun b=>VV.d (DC.b b)) ?_;rw[A];simpa using Z)
 exact absurd ho.kind (by simp at U G I J K;omega)
theorem adm{T:bd}(F:FT T){s:List UInt8}{i:Nat}{c:UInt8}(hc:s[i]?=some c)(hi:i<s.length)(hl:s.length≤4000):Sound T 48 [dS s,dI (i:Nat)] fun r=>r=qV (cK s i c) i s.length:=by
 refine dG F.f48 aa (an 4 aa (ai (ae 1 aa (aj (cM aa aa ah ?_)))))
 refine ak 1 aa (aL (bM (ai (ae 2 aa (aj (fR aa aa hc ?_))))))
 refine aj (cJ (Km F c) aa aa ?_)
 refine ak 1 aa (aK aa (fun O=>?_) (fun O=>?_))
 ·have U:=r7 (P:=lD) hc O
  have K:cK s i c=⟨1,cut s i (runM lD s i),runM lD s i,0⟩:=by unfold cK;rw[az O]
  refine aL (bM (d7 (fun k VE B=>∃j,i+1≤j∧j≤s.length∧k=s.length-j∧runM lD s j=runM lD s i∧bn [(0,dS s),(1,dI (i:Nat)),(4,d0),(5,d0),(6,dS []),(7,dB false),(8,dI (j:Nat))] VE∧bn [] B) ?_ (k:=s.length-(i+1)) ⟨i+1,bR _,hi,aa,U.symm,⟨aa,aa,aa,aa,aa,aa,aa,trivial⟩,trivial⟩))
  rintro k VE B⟨j,RV,hj,rfl,Y,hV,hB⟩
  refine db _ _ hV hB (aL (ai (ae 5 aa (dc (g:=bx) aa (fun A=>?_) (fun A=>?_)))))
  ·have Z:j<s.length:=by simp at A;omega
   obtain⟨d,J⟩:=jO Z
   refine aw aa (A) (bY aa ?_)
   refine aw aa (A) (bY aa ?_)
   refine aw aa (A) (fR aa aa J ?_)
   refine aw aa (A) (cJ (Km F d) aa aa ?_)
   refine aj (c8 aa (A) aa ?_)
   refine aX (aK aa (fun q7=>?_) (fun q7=>?_))
   ·refine aQ (bM (bC (ae 1 aa (aj (cM aa aa ah ?_)))))
    refine ak 1 aa ?_
    exact⟨s.length-(j+1),ah,j+1,ah,ah,rfl,by rw[←r7 J q7,Y],⟨rfl,rfl,rfl,rfl,rfl,rfl,rfl,trivial⟩,trivial⟩
   rw[BR J q7] at Y
   refine dJ (eO (bD 4 aa (bG (ko (l:=i) (h:=j) aa ⟨_,aa⟩ ⟨_,aa⟩ ah hj ?_))))
   refine du 4 aa (ay ?_)
   rw[←Y] at K
   exact bt rfl rfl (by unfold qV;rw[K];rfl)
  rw[BT (by simp at A;omega)] at Y
  refine aY aa (A) (aY aa (A) (aY aa (A) (aY aa (A) (aj (cS aa (A) aa ?_)))))
  refine aX (ef aa aa (dJ (eO (bD 4 aa (bG (ko (l:=i) (h:=j) aa ⟨_,aa⟩ ⟨_,aa⟩ ah hj ?_))))))
  refine du 4 aa (ay ?_)
  rw[←Y] at K
  exact bt rfl rfl (by unfold qV;rw[K];rfl)
 refine ai (ae 2 aa (aj (fR aa aa hc ?_)))
 refine aj (cJ (JI F c) aa aa ?_)
 refine ak 1 aa (aK aa (fun rN=>?_) (fun rN=>?_))
 ·have U:=r7 (P:=jb) hc (by unfold jb;rw[rN];rfl)
  have K:cK s i c=⟨2,cut s i (runM jb s i),runM jb s i,0⟩:=by unfold cK;rw[al (by rw[O];decide),az rN]
  refine aL (bM (d7 (fun k VE B=>∃j,i+1≤j∧j≤s.length∧k=s.length-j∧runM jb s j=runM jb s i∧bn [(0,dS s),(1,dI (i:Nat)),(4,d0),(5,d0),(6,dS []),(7,dB false),(8,dI (j:Nat))] VE∧bn [] B) ?_ (k:=s.length-(i+1)) ⟨i+1,bR _,hi,aa,U.symm,⟨aa,aa,aa,aa,aa,aa,aa,trivial⟩,trivial⟩))
  rintro k VE B⟨j,RV,hj,rfl,Y,hV,hB⟩
  refine db _ _ hV hB (aL (ai (ae 5 aa (dc (g:=dP) aa (fun G=>?_) (fun G=>?_)))))
  ·have Z:j<s.length:=by simp at G;omega
   obtain⟨d,J⟩:=jO Z
   refine aw aa (G) (bY aa ?_)
   refine aw aa (G) (bY aa ?_)
   refine aw aa (G) (fR aa aa J ?_)
   refine aw aa (G) (cJ (Kn F d) aa aa ?_)
   refine aj (c8 aa (G) aa ?_)
   refine aX (aK aa (fun sT=>?_) (fun sT=>?_))
   ·refine aQ (bM (bC (ae 1 aa (aj (cM aa aa ah ?_)))))
    refine ak 1 aa ?_
    exact⟨s.length-(j+1),ah,j+1,ah,ah,rfl,by rw[←r7 J sT,Y],⟨rfl,rfl,rfl,rfl,rfl,rfl,rfl,trivial⟩,trivial⟩
   rw[BR J sT] at Y
   refine dJ (eO (bD 4 aa (bG (ko (l:=i) (h:=j) aa ⟨_,aa⟩ ⟨_,aa⟩ ah hj ?_))))
   refine du 4 aa (ay ?_)
   rw[←Y] at K
   exact bt rfl rfl (by unfold qV;rw[K];rfl)
  rw[BT (by simp at G;omega)] at Y
  refine aY aa (G) (aY aa (G) (aY aa (G) (aY aa (G) (aj (cS aa (G) aa ?_)))))
  refine aX (ef aa aa (dJ (eO (bD 4 aa (bG (ko (l:=i) (h:=j) aa ⟨_,aa⟩ ⟨_,aa⟩ ah hj ?_))))))
  refine du 4 aa (ay ?_)
  rw[←Y] at K
  exact bt rfl rfl (by unfold qV;rw[K];rfl)
 refine ai (ae 2 aa (aj (fR aa aa hc ?_)))
 refine aj (cJ (xG F c) aa aa ?_)
 refine ak 1 aa (aK aa (fun wy=>?_) (fun wy=>?_))
 ·have U:=r7 (P:=iu) hc wy
  have K:cK s i c=⟨3,cut s i (runM iu s i),runM iu s i,0⟩:=by unfold cK;rw[al (by rw[O];decide),al (by rw[rN];decide),az wy]
  refine aL (bM (d7 (fun k VE B=>∃j,i+1≤j∧j≤s.length∧k=s.length-j∧runM iu s j=runM iu s i∧bn [(0,dS s),(1,dI (i:Nat)),(4,d0),(5,d0),(6,dS []),(7,dB false),(8,dI (j:Nat))] VE∧bn [] B) ?_ (k:=s.length-(i+1)) ⟨i+1,bR _,hi,aa,U.symm,⟨aa,aa,aa,aa,aa,aa,aa,trivial⟩,trivial⟩))
  rintro k VE B⟨j,RV,hj,rfl,Y,hV,hB⟩
  refine db _ _ hV hB (aL (ai (ae 5 aa (dc (g:=fO) aa (fun I=>?_) (fun I=>?_)))))
  ·have Z:j<s.length:=by simp at I;omega
   obtain⟨d,J⟩:=jO Z
   refine aw aa (I) (bY aa ?_)
   refine aw aa (I) (bY aa ?_)
   refine aw aa (I) (fR aa aa J ?_)
   refine aw aa (I) (cJ (xG F d) aa aa ?_)
   refine aj (c8 aa (I) aa ?_)
   refine aX (aK aa (fun Ds=>?_) (fun Ds=>?_))
   ·refine aQ (bM (bC (ae 1 aa (aj (cM aa aa ah ?_)))))
    refine ak 1 aa ?_
    exact⟨s.length-(j+1),ah,j+1,ah,ah,rfl,by rw[←r7 J Ds,Y],⟨rfl,rfl,rfl,rfl,rfl,rfl,rfl,trivial⟩,trivial⟩
   rw[BR J Ds] at Y
   refine dJ (eO (bD 4 aa (bG (ko (l:=i) (h:=j) aa ⟨_,aa⟩ ⟨_,aa⟩ ah hj ?_))))
   refine du 4 aa (ay ?_)
   rw[←Y] at K
   exact bt rfl rfl (by unfold qV;rw[K];rfl)
  rw[BT (by simp at I;omega)] at Y
  refine aY aa (I) (aY aa (I) (aY aa (I) (aY aa (I) (aj (cS aa (I) aa ?_)))))
  refine aX (ef aa aa (dJ (eO (bD 4 aa (bG (ko (l:=i) (h:=j) aa ⟨_,aa⟩ ⟨_,aa⟩ ah hj ?_))))))
  refine du 4 aa (ay ?_)
  rw[←Y] at K
  exact bt rfl rfl (by unfold qV;rw[K];rfl)
 refine ai (ae 2 aa (aj (fR aa aa hc ?_)))
 refine aj (cJ (QT F c) aa aa ?_)
 refine ak 1 aa (aK aa (fun rM=>?_) (fun rM=>?_))
 ·have hn:¬c=39:=by rintro rfl;exact absurd rM aq
  have K:cK s i c=⟨5,cut s i (i+1),i+1,0⟩:=by unfold cK;rw[al (by rw[O];decide),al (by rw[rN];decide),al (by rw[wy];decide),al hn,az (by simpa using rM)]
  refine eO (bD 4 aa (bG (ko (l:=i) (h:=i+1) aa ⟨_,aa⟩ ⟨_,aa⟩ ah ah ?_)))
  refine du 4 aa (ay ?_)
  exact bt rfl rfl (by unfold qV;rw[K];rfl)
 refine ai (ae 2 aa (aj (fR aa aa hc ?_)))
 refine ak 2 aa (aK aa (fun Ko=>?_) (fun Ko=>?_))
 ·have hn:¬c=39:=by rintro rfl;simp at Ko
  have K:cK s i c=⟨0,[],0,5⟩:=by unfold cK;rw[al (by rw[O];decide),al (by rw[rN];decide),al (by rw[wy];decide),al hn,al (by simpa using rM)]
  refine an 5 aa (ay ?_)
  exact bt rfl rfl (by unfold qV;rw[K];rfl)
 obtain rfl:c=39:=sI 39 (by simp at Ko;omega) rfl
 have mP:cK s i 39=(match kh s (i+1) [] with|some x=>⟨4,x.1,x.2,0⟩|none=>⟨4,[],0,2⟩):=by unfold cK;rw[al (by rw[O];decide),al (by rw[rN];decide),al (by rw[wy];decide),az rfl]<;>rfl
 refine aQ (an 1 aa (aL (HG 9 1101 5 1 1 aa aa (bM (d7 (fun k VE B=>∃(j:Nat)(b:List UInt8),j≤s.length∧k=s.length-j∧kh s j b=kh s (i+1) []∧b.length≤j∧bn [(0,dS s),(1,dI (i:Nat)),(4,d0),(5,d0),(6,dS []),(7,dB false),(8,dI (j:Nat)),(9,.ac 1101 (b.map dQ).length 1)] VE∧bn [(1101,.acc 5 1 1 (b.map dQ))] B) ?_ (k:=s.length-(i+1)) ⟨i+1,[],hi,aa,aa,dp _,⟨aa,aa,aa,aa,aa,aa,aa,aa,trivial⟩,aa,trivial⟩)))))
 rintro k VE B⟨j,b,hj,rfl,hq,C1,hV,hB⟩
 refine db _ _ hV hB (aL (an 4 aa (aK aa (fun p'=>?_) (fun p'=>?_))))
 ·have Z:j<s.length:=by simp at p';omega
  obtain⟨c,J⟩:=jO Z
  refine aQ (bM (aL (ai (ae 2 aa (aj (fR aa aa J ?_))))))
  refine ak 1 aa (aK aa (fun JK=>?_) (fun JK=>?_))
  ·have hn:¬c=39:=by rintro rfl;simp at JK
   refine ai (ae 3 aa (aj (fR aa aa J ?_)))
   refine ae 1 aa ?_
   refine aj (eD (rows:=b.map dQ) (ys:=[dQ c]) rfl rfl rfl (.bs (rows:=[dQ c]) rfl) (b0 rfl) (by rw[bE,ca];simp only[cV,dL];omega) (fun h=>by rw[h];rfl) (fun h=>by rw[h];rfl) ?_)
   refine ak 1 aa (ai (ae 1 aa (aj (cM aa aa ah ?_))))
   refine ak 1 aa (dJ ?_)
   exact⟨s.length-(j+1),ah,j+1,b++[c],ah,rfl,by rw[←Ox J hn,hq],by simp only[bE,cV,dL];omega,by rw[dx];exact⟨rfl,rfl,rfl,rfl,rfl,rfl,rfl,rfl,trivial⟩,by rw[dx];exact rfl,trivial⟩
  obtain rfl:c=39:=sI 39 (by simp at JK;omega) rfl
  refine aQ (aL (ai (ae 1 aa (aj (cM aa aa ah ?_)))))
  refine ae 4 aa (dc (g:=nq) aa (fun z=>?_) (fun z=>?_))
  ·have RU:j+1<s.length:=by simp at z;omega
   obtain⟨d,uy⟩:=jO RU
   refine aw aa (z) (bY aa ?_)
   refine aw aa (z) (bY aa ?_)
   refine aw aa (z) (cM aa aa ah ?_)
   refine aw aa (z) (fR aa aa uy ?_)
   refine aw aa (z) (iC aa aa ?_)
   refine aj (c8 aa (z) aa ?_)
   refine aX (aK aa (fun JL=>?_) (fun JL=>?_))
   ·obtain rfl:d=39:=sI 39 (by simp at JL;omega) rfl
    refine ai (ae 2 aa ?_)
    refine aj (eD (rows:=b.map dQ) (ys:=[dQ 39]) rfl rfl rfl (.bs (rows:=[dQ 39]) rfl) (b0 rfl) (by rw[bE,ca];simp only[cV,dL];omega) (fun h=>by rw[h];rfl) (fun h=>by rw[h];rfl) ?_)
    refine ak 1 aa (ai (ae 1 aa ?_))
    refine aj (jj rfl rfl (by simp only[bN];omega) (by simp only[bN];omega) ?_)
    rw[show((j:Nat):Int)+Int.ofNat 2=((j+2:Nat):Int) from rfl]
    refine ak 1 aa (dJ ?_)
    exact⟨s.length-(j+2),ah,j+2,b++[39],ah,rfl,by rw[←NP J uy,hq],by simp only[bE,cV,dL];omega,by rw[dx];exact⟨rfl,rfl,rfl,rfl,rfl,rfl,rfl,rfl,trivial⟩,by rw[dx];exact rfl,trivial⟩
   rw[EX J (fun d2 RW=>by(rw[uy] at RW;cases RW;rintro rfl;simp at JL))] at hq
   rw[←hq] at mP
   refine aQ (eO (bD 1 aa (bG (cM aa aa ah ?_))))
   refine bD 1 aa ?_
   rw[ca]
   refine dy aa (Hx aa aa ?_)
   refine du 4 aa (ay ?_)
   exact bt rfl rfl (by unfold qV;rw[mP];rfl)
  rw[EX J (fun d J=>absurd (List.getElem?_eq_some_iff.1 J).1 (by simp at z;omega))] at hq
  rw[←hq] at mP
  refine aY aa (z) (aY aa (z) (aY aa (z) (aY aa (z) (aY aa (z) (aj (cS aa (z) aa ?_))))))
  refine aX (ef aa aa (aQ (eO (bD 1 aa (bG (cM aa aa ah ?_))))))
  refine bD 1 aa ?_
  rw[ca]
  refine dy aa (Hx aa aa ?_)
  refine du 4 aa (ay ?_)
  exact bt rfl rfl (by unfold qV;rw[mP];rfl)
 rw[Oy (by simp at p';omega)] at hq
 rw[←hq] at mP
 have hje:j=s.length:=by simp at p';omega
 refine dJ (an 5 aa (ay ?_))
 subst hje
 exact bt rfl rfl (by unfold qV;rw[mP];rfl)
section
variable{s:List UInt8}{i:Nat}{c:UInt8}
theorem Hg:(cK s i c).err=0∧(cK s i c).kind≠0∨(cK s i c).err=2∧(cK s i c).kind≠0∨(cK s i c).err=5∧(cK s i c).kind=0:=by
 unfold cK
 split
 ·exact .inl ⟨rfl,(by decide:(1:Int)≠0)⟩
 split
 ·exact .inl ⟨rfl,(by decide:(2:Int)≠0)⟩
 split
 ·exact .inl ⟨rfl,(by decide:(3:Int)≠0)⟩
 split
 ·cases kh s (i+1) [] with
  |none=>exact .inr (.inl ⟨rfl,(by decide:(4:Int)≠0)⟩)
  |some x=>exact .inl ⟨rfl,(by decide:(4:Int)≠0)⟩
 split
 ·exact .inl ⟨rfl,(by decide:(5:Int)≠0)⟩
 exact .inr (.inr ⟨aa,aa⟩)
theorem XN(h:(cK s i c).kind=0):(cK s i c).err=5:=by
 rcases Hg (s:=s) (i:=i) (c:=c) with⟨_,k⟩|⟨_,k⟩|⟨k,_⟩
 ·exact absurd h k
 ·exact absurd h k
 exact k
theorem WS(h:(cK s i c).err=5):(cK s i c).kind=0:=by
 rcases Hg (s:=s) (i:=i) (c:=c) with⟨k,_⟩|⟨k,_⟩|⟨_,k⟩
 ·rw[k] at h;exact absurd h aq
 ·rw[k] at h;exact absurd h aq
 exact k
theorem Vq(h:¬(cK s i c).err=5)(h2:¬(cK s i c).err=2):(cK s i c).err=0:=by
 rcases Hg (s:=s) (i:=i) (c:=c) with⟨k,_⟩|⟨k,_⟩|⟨k,_⟩
 ·exact k
 ·exact absurd k h2
 exact absurd k h
theorem Vr(I:s[i]?=some c)(h:(cK s i c).err=0)(J:s.length≤4000):(cK s i c).text.length≤4000:=by
 have z:∀j,(cut s i j).length≤4000:=fun j=>by unfold cut;rw[jH,gN];omega
 unfold cK
 split
 ·exact z _
 split
 ·exact z _
 split
 ·exact z _
 split
 ·cases A:kh s (i+1) [] with
  |none=>exact dp _
  |some x=>
   unfold kh at A
   obtain⟨y,G,rfl⟩:=Option.map_eq_some_iff.1 A
   obtain⟨_,h2,K⟩:=Ew _ _ G
   rw[gN] at h2
   show([]++y.1).length≤4000
   rw[Cv];omega
 split
 ·exact z _
 exact dp _
end
theorem FM{T:bd}(F:FT T)(s:List UInt8):Sound T 21 [dS s] fun r=>r=FJ (e6 s):=by
 refine dG F.f21 aa (an 3 aa (aL (an 3 aa (aK aa (fun K=>?_) (fun K=>?_)))))
 ·have hm:e6 s=([],0,4):=az (by simp at K;omega)
  refine an 3 aa (ay ?_)
  exact bt rfl rfl (by rw[hm];rfl)
 have hl:s.length≤4000:=by simp at K;omega
 have mP:e6 s=lY s (s.length+1) (runM mw s 0) []:=al ah
 refine aQ (an 1 aa (an 1 aa (aL (HG 5 1101 69 32 3 aa aa (bM (d7 (fun m VE B=>∃(k i:Nat)(out:List cu),lY s k (runM mw s i) out=e6 s∧i≤s.length∧m=s.length-i∧s.length+1≤i+k∧out.length≤1000∧bn [(0,dS s),(2,dN),(3,d0),(4,d0),(5,.ac 1101 (out.map cu.enc).length 3),(6,dI (i:Nat))] VE∧bn [(1101,.acc 69 32 3 (out.map cu.enc))] B) ?_ (k:=s.length) ⟨s.length+1,0,[],mP.symm,dp _,aa,ah,aq,⟨aa,aa,aa,aa,aa,aa,trivial⟩,aa,trivial⟩))))))
 rintro m VE B⟨k,i,out,z,hi,rfl,hk,ho,hV,hB⟩
 obtain⟨k,rfl⟩:∃k',k=k'+1:=⟨k-1,ah⟩
 refine db _ _ hV hB (aL (an 4 aa (aK aa (fun I=>?_) (fun I=>?_))))
 ·have nD:i<s.length:=by simp at I;omega
  obtain⟨c,J⟩:=jO nD
  have A:=NS (k:=k) (out:=out) J
  refine aQ (bM (aL (ai (ae 2 aa (aj (fR aa aa J ?_))))))
  refine aj (cJ (rsp F c) aa aa ?_)
  refine aX (aK aa (fun O=>?_) (fun O=>?_))
  ·refine ai (ae 1 aa (aj (cM aa aa ah ?_)))
   refine ak 1 aa (dJ ?_)
   exact⟨s.length-(i+1),ah,k+1,i+1,out,by rw[←r7 J O];exact z,ah,rfl,ah,ho,⟨rfl,rfl,rfl,rfl,rfl,rfl,trivial⟩,rfl,trivial⟩
  rw[BR J O] at z
  refine aQ (ai (ae 2 aa (aj (cJ (adm F J nD hl) aa aa ?_))))
  refine ak 9 aa (an 6 aa (aL (bM (an 3 aa (aK aa (fun U=>?_) (fun U=>?_))))))
  ·have he:(cK s i c).err=5:=XN (by simpa using U)
   rw[az (by rw[he];decide),he] at A
   rw[A] at z
   refine an 4 aa (ay ?_)
   exact bt rfl rfl (by rw[←z];rfl)
  have h5:¬(cK s i c).err=5:=fun e=>absurd U (by rw[WS e];decide)
  refine an 3 aa (aK aa (fun Y=>?_) (fun Y=>?_))
  ·have he:(cK s i c).err=2:=by simpa using Y
   rw[az (by rw[he];decide),he] at A
   rw[A] at z
   refine an 4 aa (ay ?_)
   exact bt rfl rfl (by rw[←z];rfl)
  have he:(cK s i c).err=0:=Vq h5 (by simpa using Y)
  have hst:=Hy J he
  have C5:=NQ J he
  rw[al (fun k=>k he)] at A
  rw[show(if(cK s i c).err=5 then i+1 else if(cK s i c).err=2 then s.length else(cK s i c).stop)=(cK s i c).stop by rw[he];rfl]
  refine ai (ae 1 aa (aj (cJ (OA F (i:Nat) C5 (Vr J he hl)) aa aa ?_)))
  refine ae 2 aa (dc (g:=eo) aa (fun G=>?_) (fun G=>?_))
  ·rw[az (fun k=>by rw[k.1] at G;cases G)] at A
   rw[A] at z
   refine aY aa (G) (aY aa (G) (aY aa (G) (aj (c8 aa (G) aa ?_))))
   refine ak 1 aa (eW aa aa (an 4 aa (ay ?_)))
   exact bt rfl rfl (by rw[←z];rfl)
  refine aw aa (G) (bY aa ?_)
  refine aw aa (G) (yp aa ?_)
  refine aw aa (G) (BO aa aa ?_)
  refine aj (cS aa (G) aa ?_)
  refine ak 1 aa (aK aa (fun Z=>?_) (fun Z=>?_))
  ·rw[az (fun k=>by(have:=k.2;simp at Z;omega))] at A
   rw[A] at z
   refine an 4 aa (ay ?_)
   exact bt rfl rfl (by rw[←z];rfl)
  have oa:out.length<1000:=by simp at Z;omega
  rw[al (fun k=>k ⟨by simpa using G,oa⟩)] at A
  rw[A] at z
  refine aQ (ai (ae 3 aa ?_))
  refine aj (eD (rows:=out.map cu.enc) (ys:=[(⟨(cK s i c).kind,(i:Nat),(cK s i c).text⟩:cu).enc]) rfl rfl rfl (.bs (rows:=[(⟨(cK s i c).kind,(i:Nat),(cK s i c).text⟩:cu).enc]) rfl) (b0 rfl) (by rw[bE,ca];simp only[cV,dL];omega) (fun h=>by rw[h];rfl) (fun h=>by rw[h];rfl) ?_)
  refine ak 1 aa (bC (ak 2 aa (⟨s.length-(cK s i c).stop,ah,k,(cK s i c).stop,out++[(⟨(cK s i c).kind,(i:Nat),(cK s i c).text⟩:cu)],z,hst.2,aa,ah,?_,?_,?_⟩)))
  ·rw[bE,dY];omega
  ·rw[dx];exact⟨rfl,rfl,rfl,rfl,rfl,rfl,trivial⟩
  rw[dx];exact⟨rfl,trivial⟩
 rw[BT (by simp at I;omega)] at z
 have Kl:lY s (k+1) i out=(out++[⟨6,(s.length:Nat),[]⟩],0,0):=by unfold lY;rw[List.getElem?_eq_none_iff.2 (by simp at I;omega)]
 rw[Kl] at z
 refine dJ (ai (ae 5 aa ?_))
 refine aj (eD (rows:=out.map cu.enc) (ys:=[(⟨6,(s.length:Nat),[]⟩:cu).enc]) rfl rfl rfl (.bs (rows:=[(⟨6,(s.length:Nat),[]⟩:cu).enc]) rfl) (b0 rfl) (by rw[bE,ca];simp only[cV,dL];omega) (fun h=>by rw[h];rfl) (fun h=>by rw[h];rfl) ?_)
 refine fN 65 1101 aa aa (fun _=>⟨aa,aa⟩) (ak 3 aa (ay ?_))
 exact bt rfl rfl (by rw[←z];unfold FJ;rw[dx];rfl)
end Go.Ev.Pp
namespace Go.Ev
open Go
variable{T:bd}{VE:cj}{B:bw}{Q:VV→bw→Prop}
def gK(n:Nat)(d:DC):Prop:=∃a:List UInt8,d=cl a∧a.length≤n
def Kp(n:Nat):DC→Bool
 |.s l v=>Nat.beq (pU l v).length l&&(Nat.beq (pack (pU l v)) v&&Nat.ble l n)
 |_=>false
theorem eh{n:Nat}{d:DC}(h:Kp n d=true):gK n d:=by
 unfold Kp at h
 split at h
 ·rename_i l v
  simp only[fE] at h
  have z:=eH h.1
  have h2:=eH h.2.1
  exact⟨pU l v,by unfold cl;rw[z,h2],by rw[z];exact b0 h.2.2⟩
 cases h
theorem gK.mono{n m:Nat}{d:DC}(h:gK n d)(z:n≤m):gK m d:=let⟨a,A,h2⟩:=h;⟨a,A,kx h2 z⟩
def WT(n k:Nat)(rows:List (List DC)):Prop:=rows.length=k∧∀j,j<k→∃d,rows[j]?=some [d]∧gK n d
def JM(n:Nat):List (List DC)→Bool
 |[]=>true
 |[d]::r=>Kp n d&&JM n r
 |_=>false
theorem pF{n k:Nat}{rows:List (List DC)}(h:JM n rows=true)(hk:rows.length=k):WT n k rows:=by
 subst hk
 refine⟨aa,?_⟩
 induction rows with
 |nil=>intro j z;cases z
 |cons r rs A=>
  match r,h with
  |[d],h=>
   simp only[JM,fE] at h
   intro j z
   cases j with
   |zero=>exact⟨d,rfl,eh h.1⟩
   |succ j=>exact A h.2 j (OG z)
theorem dE{x y:aI}{n m:Nat}{a b:DC}(A:x.vv VE=some (.d a))(z:gK n a)(G:y.vv VE=some (.d b))(h2:gK m b)(J:n+m≤4611686018427387904)(I:∀c,gK (n+m) c→Q (.d c) B):VI T (.bin .add x y) VE B [] Q:=by
 obtain⟨s,rfl,z⟩:=z
 obtain⟨t,rfl,h2⟩:=h2
 exact yq A G ah (I _ ⟨_,rfl,by rw[bE];omega⟩)
theorem gQ{x y:aI}{k:IntKind}{a b:Nat}(z:x.vv VE=some (.d (.i k (a:Int))))(A:y.vv VE=some (.d (.i k (b:Int))))(h0:0<b)(G:Q (.d (.i k ((a % b:Nat):Int))) B):VI T (.bin .rem x y) VE B [] Q:=
 Nv z A (by cases b with
  |zero=>cases h0
  |succ b=>rfl) (by rw[show(a:Int).tmod (b:Int)=((a % b:Nat):Int) from(Int.ofNat_tmod a b).symm];exact G)
theorem Ba{x y:aI}{k:IntKind}{a b:Nat}(z:x.vv VE=some (.d (.i k (a:Int))))(A:y.vv VE=some (.d (.i k (b:Int))))(h0:0<b)(G:k.wrap ((a/b:Nat):Int)=((a/b:Nat):Int))(I:Q (.d (.i k ((a/b:Nat):Int))) B):VI T (.bin .quo x y) VE B [] Q:=
 Nu z A (by cases b with
  |zero=>cases h0
  |succ b=>rfl) (by rw[show(a:Int).tdiv (b:Int)=((a/b:Nat):Int) from(Int.ofNat_tdiv a b).symm,G];exact I)
variable{T:bd}
section
variable{H:aE}{X:Nat→Prop}
theorem fT.drop{f g es:Nat}:∀(n:Nat){q:Nat}{rows:List (List DC)},fT H X f g es q rows→fT H X f g es (q+n) (rows.drop n)
 |0,_,_,h=>h
 |n+1,_,[],_=>trivial
 |n+1,q,r::rs,h=>by
  simp only[fT] at h
  have:=fT.drop n h.2
  rw[show q+1+n=q+(n+1) by omega] at this
  exact this
theorem fT.take{f g es:Nat}:∀(n:Nat){q:Nat}{rows:List (List DC)},fT H X f g es q rows→fT H X f g es q (rows.take n)
 |0,_,_,_=>trivial
 |n+1,_,[],_=>trivial
 |n+1,q,r::rs,h=>by
  simp only[fT,xb] at h⊢
  exact⟨h.1,fT.take n h.2⟩
end
variable{VE:cj}{B:bw}{Q:VV→bw→Prop}
def ph(rows:List (List DC))(d:DC):Prop:=d= .sl rows∨rows=[]∧d= .nil
theorem ph.acc(rows:List (List DC)):ph rows (.fC rows):=by
 cases rows with
 |nil=>exact .inr ⟨rfl,rfl⟩
 |cons r s=>exact .inl rfl
theorem Bz{x:aI}{rows:List (List DC)}{d:DC}(z:x.vv VE=some (.d d))(G:ph rows d)(A:Q (.d (.i .i64 (rows.length:Nat))) B):VI T (.len x) VE B [] Q:=by
 rcases G with rfl|⟨rfl,rfl⟩
 ·exact BM z A
 exact Ei z A
theorem wX{x i:aI}{es j:Nat}{k:IntKind}{rows:List (List DC)}{row:List DC}{d:DC}(A:x.vv VE=some (.d d))(G:ph rows d)(hi:i.vv VE=some (.d (.i k (j:Int))))(z:rows[j]?=some row)(I:row.length=es)(J:Q (.rp row 0) B):VI T (.dV es x i) VE B [] Q:=by
 rcases G with rfl|⟨rfl,rfl⟩
 ·exact lF A hi z I J
 simp at z
theorem YR.sD{B:bw}{es:Nat}{rows:List (List DC)}{d:DC}(z:ph rows d)(h:∀row,row∈rows→row.length=es):YR B es (.d d) rows:=by
 rcases z with rfl|⟨rfl,rfl⟩
 ·exact .sl h
 exact .nil
theorem w7{es:Nat}{x:aI}{lo hi:Option aI}{rows:List (List DC)}{d:DC}{l h:Nat}(U:x.vv VE=some (.d d))(Y:ph rows d)(Z:∀row,row∈rows→row.length=es)(z:0<rows.length)(hh:Aj VE hi rows.length h)(hl:Aj VE lo 0 l)(I:l≤h)(J:h≤rows.length)
  (hq:Q (.d (.sl ((rows.drop l).take (h-l)))) B):VI T (.pS es x lo hi) VE B [] Q:=fun _ X0 _ H β G=>by
 obtain rfl:d= .sl rows:=Y.resolve_right fun k=>by rw[k.1] at z;cases z
 obtain⟨a,h1,h2⟩:=G.ch U
 simp only[aP,cY] at h2
 obtain⟨f,g,off,fA,rfl,h2⟩:=h2
 rcases h2 with rfl|⟨k1,k2,q,k3,K⟩
 ·cases z
 have he:fA=es:=by
  cases rows with
  |nil=>cases z
  |cons r0 rs=>
   simp only[fT] at K
   obtain⟨⟨l',_,j2,j3⟩,_⟩:=K
   rw[←j2,j3.length,Z r0 (lh ..)]
 subst he
 have hlen:((rows.drop l).take (h-l)).length=h-l:=by rw[jH,gN];omega
 refine gq (v:=.slice f g (off+l*fA) (h-l) fA) (fun call=>?_) (fi G (v:=.d (.sl ((rows.drop l).take (h-l)))) ?_ hq)
 ·show bI x _ (.err 16) (fun v=>hO v (.err 16) (gH _ hi 0 0 (.err 16) fun h=>gH _ lo 0 h (.err 16) fun _=>.ok .cB H)
   fun f g off O A=>aJ (Nat.beq fA A) (gH _ hi O O (.err 16) fun h=>gH _ lo 0 h (.err 16) fun lo=>
    dz (Nat.add off (Nat.mul lo fA)) fun off=>dz (Nat.sub h lo) fun n=>.ok (.slice f g off n A) H) (.err 16))=_
  rw[dw,h1,dk]
  show aJ (Nat.beq fA fA) (gH _ hi rows.length rows.length (.err 16) fun h=>gH _ lo 0 h (.err 16) fun lo=>
    dz (Nat.add off (Nat.mul lo fA)) fun off=>dz (Nat.sub h lo) fun n=>.ok (.slice f g off n fA) H) (.err 16)=_
  rw[show Nat.beq fA fA=true from jl fA,gi,En G hh J (bR _),En G hl I (dp _),iG,iG]
  rfl
 simp only[aP,cY,hlen]
 refine⟨f,g,_,fA,aa,.inr ⟨k1,k2,q+l,?_,?_⟩⟩
 ·rw[k3,nX]
 exact(K.drop l).take _
theorem VI.fresh{op:bP}{b:Nat}(A:bf B b=none)(h:VI T op VE B [b] Q):VI T op VE B [] Q:=fun H0 X0 E H β G=>
 (h H0 X0 E H β G).mono fun a H'⟨v,B',β',z,hp⟩=>⟨v,B',β',⟨z.bj,z.next,fun f I=>(z.ws f I).imp id fun⟨_,c,s,J,k,_⟩=>by
  (rw[List.mem_singleton.1 J,A] at k;cases k),z.since,z.sP⟩,hp⟩
theorem EY{n:Int}(z:0≤n)(h2:n<65536):IntKind.u16.wrap n=n:=by
 simp[IntKind.wrap,IntKind.bits,IntKind.signed]
 omega
theorem Lx(H:aE)(X:Nat→Prop):∀(s:List UInt8),kz H X 1 (mV s.length (pack s)) (s.map fun c=>[DC.i .u8 (c.toNat:Nat)])
 |[]=>trivial
 |c::s=>by
  have z:=Lx H X s
  have A:=c.toNat_lt
  have e1:pack (c::s) % 256=c.toNat:=by
   show(c.toNat+256*pack s) % 256=c.toNat
   omega
  have e2:pack (c::s)/256=pack s:=by
   show(c.toNat+256*pack s)/256=pack s
   omega
  have e:mV (s.length+1) (pack (c::s))=[.int .u8 ((pack (c::s) % 256:Nat):Int)]::mV s.length (pack (c::s)/256):=rfl
  rw[cV,e,e1,e2]
  exact⟨⟨aa,_,_,aa,aa,aa⟩,z⟩
theorem Un{elem:Nat}{x y:aI}{b:Nat}{rows:List (List DC)}{s:List UInt8}(A:x.vv VE=some (.ac b rows.length 1))(G:bf B b=some (.acc elem 1 1 rows))(I:y.vv VE=some (.d (cl s)))
  (z:(rows++s.map fun c=>[DC.i .u8 (c.toNat:Nat)]).length*1≤70368744177664) (J:rows=[]→vH b VE=true) (K:rows=[]→rm b B=true)
  (O:Q (.ac b (rows++s.map fun c=>[DC.i .u8 (c.toNat:Nat)]).length 1) ((b,.acc elem 1 1 (rows++s.map fun c=>[DC.i .u8 (c.toNat:Nat)]))::B)):VI T (.rY elem x y) VE B [b] Q:=Nn A G (fun U=>by
 have Y:=U.str I
 refine⟨_,Lx _ _ s,fun call a Z=>?_⟩
 show bI x _ (.err 27) (fun a=>bI y _ (.err 27) fun b=>j7 b (.err 27) fun l v=>ka elem 1 1 l (mV l v) _ a)=_
 rw[dw,Z,dk,dw,Y,dk,ca]
 rfl) z J K O
theorem Hh{x i:aI}{G es o j:Nat}{row:List DC}{k:IntKind}(I:x.vv VE=some (.rp row o))(hi:i.vv VE=some (.d (.i k (j:Int))))(J:j<G)(K:Q (.rp row (o+j*es)) B):VI T (.eb G es x i) VE B [] Q:=fun _ _ _ _ _ z=>by
 obtain⟨_,O,h2⟩:=z.ch I
 obtain⟨_,U,A⟩:=z.ch hi
 simp only[aP] at h2 A
 simp only[cY] at A
 subst A
 obtain⟨f,g,q,l,rfl,Y,Z,k3,k4⟩:=h2
 refine Lr O U J (fi z (v:=.rp row (o+j*es)) ?_ K)
 simp only[aP]
 exact⟨f,g,q,l,by rw[nx],Y,Z,k3,k4⟩
end Go.Ev
namespace Go.Ev.Pp
open Go
def yQ:List (List UInt8):=[[83,69,76,69,67,84],[70,82,79,77],[87,72,69,82,69],[71,82,79,85,80],[66,89],[65,83],[79,70],[65,84],[68,65,89],[74,79,73,78],[76,69,70,84],[79,78],[85,78,73,79,78],[65,76,76],[67,79,85,78,84],[83,85,77],[40],[41],[42],[44],[97],[98],[116],[46],[61],[60],[43],[45],[49],[39,120,39],[78,79,84],[65,78,68],[79,82],[73,83],[78,85,76,76],[73,78,83,69,82,84],[73,78,84,79],[86,65,76,85,69,83],[70,79,82],[85,80,68,65,84,69],[83,69,84],[39,49,54,48,48,45,48,49,45,48,50,39],[39,91,49,54,48,48,45,48,49,45,48,49,44,32,102,111,114,101,118,101,114,41,39],[67,82,69,65,84,69],[84,65,66,76,69],[75,69,89],[73,78,84],[72,79,76,68],[84,79],[85,78,84,73,76],[82,69,67,65,76,76]]
def Iz:List (List DC):=[[.s 6 92647902168403],[.s 4 1297044038],[.s 5 297733015639],[.s 5 345028645447],[.s 2 22850],[.s 2 21313],[.s 2 17999],[.s 2 21569],[.s 3 5849412],[.s 4 1313427274],[.s 4 1413891404],[.s 2 20047],[.s 5 336337653333],[.s 3 5000257],[.s 5 362091466563],[.s 3 5068115],[.s 1 40],[.s 1 41],[.s 1 42],[.s 1 44],[.s 1 97],[.s 1 98],[.s 1 116],[.s 1 46],[.s 1 61],[.s 1 60],[.s 1 43],[.s 1 45],[.s 1 49],[.s 3 2586663],[.s 3 5525326],[.s 3 4476481],[.s 2 21071],[.s 2 21321],[.s 4 1280070990],[.s 6 92712327138889],[.s 4 1330925129],[.s 6 91557248909654],[.s 3 5394246],[.s 6 76228174565461],[.s 3 5522771],[.s 12 12130589181252232790632968487],[.s 23 3750964992481078039988528574964577776190968761165110055],[.s 6 76228174631491],[.s 5 297632153940],[.s 3 5850443],[.s 3 5525065],[.s 4 1145851720],[.s 2 20308],[.s 5 327647776341],[.s 6 83890396153170]]
def z6(n:Nat):List UInt8:=(yQ[n % 51]?).getD []
theorem Uo:Iz=yQ.map fun b=>[cl b]:=by kernel_rfl
theorem Vt(n:Nat):(z6 n).length≤23:=by
 have h:∀j:Fin 51,((yQ[j.1]?).getD []).length≤23:=by decide+kernel
 exact h ⟨n % 51,eI _ aq⟩
theorem TC(n:Nat):Iz[n % 51]?=some [cl (z6 n)]:=by
 have z:n % 51<yQ.length:=eI _ aq
 rw[Uo,iJ,fe z]
 unfold z6
 rw[fe z];rfl
def rk(l:List Nat):List UInt8:=l.flatMap fun n=>32::z6 n
theorem S0{l:List Nat}{i n:Nat}(h:l[i]?=some n):rk (l.take (i+1))=rk (l.take i)++[32]++z6 n:=by
 obtain⟨hi,he⟩:=List.getElem?_eq_some_iff.1 h
 unfold rk
 rw[←List.take_append_getElem hi,List.flatMap_append,he]
 simp
def Ap(t:cu):Prop:=FK t.kind t.text∧t.text.length≤200
section
variable{s:List UInt8}
theorem Mj:∀(k i:Nat)(out:List cu),(∀t∈out,Ap t)→out.length≤1000→(lY s k i out).1=[]∨∃A p,(lY s k i out).1=A++[⟨6,p,[]⟩]∧(∀t∈A,Ap t)∧A.length≤1000
 |0,i,out,_,_=>.inl rfl
 |k+1,i,out,ho,J=>by
  unfold lY
  cases I:s[i]?with
  |none=>exact .inr ⟨out,_,rfl,ho,J⟩
  |some c=>
   simp only
   split
   ·exact .inl aa
   rename_i he
   have he:(cK s i c).err=0:=by simpa using he
   split
   ·exact .inl aa
   rename_i G
   have G:k0 (cK s i c).kind (cK s i c).text=true∧out.length<1000:=by simpa using G
   refine Mj k _ _ (fun t z=>?_) (by rw[bE,dY];omega)
   rcases List.mem_append.1 z with z|z
   ·exact ho t z
   rcases List.mem_singleton.1 z with rfl
   exact⟨NQ I he,(Mi I he G.1).2.2⟩
theorem Mk(s:List UInt8):(e6 s).1=[]∨∃z p,(e6 s).1=z++[⟨6,p,[]⟩]∧(∀t∈z,Ap t)∧z.length≤1000:=by
 unfold e6
 split
 ·exact .inl aa
 exact Mj _ _ _ (fun _ h=>by cases h) aq
end
def NT(l:List cu):Bool:=match l with
 |t::_=>decide (t.kind≠6)
 |[]=>false
theorem YG(n:Nat):∃t r,(e6 (rk [n])).1=t::r∧Ap t:=by
 have h:∀j:Fin 51,NT (e6 (32::((yQ[j.1]?).getD []))).1=true:=by decide+kernel
 have h:=h ⟨n % 51,eI _ aq⟩
 have z:rk [n]=32::((yQ[n % 51]?).getD []):=by unfold rk z6;simp
 rw[←z] at h
 rcases Mk (rk [n]) with e|⟨A,p,e,G,_⟩
 ·rw[e] at h;cases h
 cases A with
 |nil=>rw[e] at h;simp[NT] at h
 |cons t r=>exact⟨t,r++[⟨6,p,[]⟩],e.trans rfl,G t (lh ..)⟩
end Go.Ev.Pp
namespace Go.Ev
open Go
variable{T:bd}{VE:cj}{B:bw}{Q:VV→bw→Prop}
theorem iH{x:aI}{rows:List (List DC)}(z:x.vv VE=some (.d (.fC rows)))(A:Q (dI (rows.length:Nat)) B):VI T (.len x) VE B [] Q:=by
 cases rows with
 |nil=>exact Ei z A
 |cons r s=>exact BM z A
theorem jY{x i:aI}{es j:Nat}{k:IntKind}{rows:List (List DC)}{row:List DC}(A:x.vv VE=some (.d (.fC rows)))(hi:i.vv VE=some (.d (.i k (j:Int))))(z:rows[j]?=some row)(G:row.length=es)(I:Q (.rp row 0) B):VI T (.dV es x i) VE B [] Q:=by
 cases rows with
 |nil=>simp at z
 |cons r s=>exact lF A hi z G I
def vQ:List Nat→List DC→Bool
 |[],[]=>true
 |c::r,.i k _::s=>Nat.beq (dO k) c&&vQ r s
 |c::r,.b _::s=>Nat.beq c 100&&vQ r s
 |c::r,.s _ _::s=>Nat.beq c 101&&vQ r s
 |_,_=>false
theorem Ey{H:aE}{X:Nat→Prop}{β:Nat→Nat}:∀{ks:List Nat}{r:List DC}{l J:List ax},vQ ks r=true→bu H X β (r.map .d) l→bu H X β (r.map .d) J→lE ks l=true∧lE ks J=true∧ra l J=some true
 |[],[],l,J,_,h,h'=>by simp only[gj,bu] at h h';subst h;subst h';exact⟨rfl,rfl,rfl⟩
 |c::ks,d::r,l,J,K,h,h'=>by
  simp only[e7,bu] at h h'
  obtain⟨a,s,rfl,I,h2⟩:=h
  obtain⟨a',s',rfl,z,G⟩:=h'
  cases d with
  |i k n=>
   obtain⟨A,O⟩:=iX (show(Nat.beq (dO k) c&&vQ ks r)=true from K)
   obtain⟨e1,e2,U⟩:=Ey O h2 G
   simp only[aP,cY] at I z
   subst I;subst z
   refine⟨by simp only[lE,tw,A,e1];rfl,by simp only[lE,tw,A,e2];rfl,?_⟩
   simp only[ra,x8]
   rw[show Nat.beq (dO k) (dO k)=true from jl _,show mK n n=true by rw[ve];simp]
   exact U
  |b t=>
   obtain⟨A,O⟩:=iX (show(Nat.beq c 100&&vQ ks r)=true from K)
   obtain⟨e1,e2,U⟩:=Ey O h2 G
   simp only[aP,cY] at I z
   subst I;subst z
   refine⟨by simp only[lE,tw,A,e1];rfl,by simp only[lE,tw,A,e2];rfl,?_⟩
   simp only[ra,x8,beq_self_eq_true]
   exact U
  |s m v=>
   obtain⟨A,O⟩:=iX (show(Nat.beq c 101&&vQ ks r)=true from K)
   obtain⟨e1,e2,U⟩:=Ey O h2 G
   simp only[aP,cY] at I z
   subst I;subst z
   refine⟨by simp only[lE,tw,A,e1];rfl,by simp only[lE,tw,A,e2];rfl,?_⟩
   simp only[ra,x8]
   rw[show sr m v m v=true from by rw[UZ];simp]
   exact U
  |nil=>cases K
  |sl _=>cases K
theorem va{neg:Bool}{ks:List Nat}{x y:aI}{r:List DC}(I:x.vv VE=some (.agg (r.map .d)))(J:y.vv VE=some (.agg (r.map .d)))(K:vQ ks r=true)(O:Q (dB (Bool.xor neg true)) B):VI T (.eqv (.agg ks) neg x y) VE B [] Q:=fun _ _ _ _ _ A=>by
 obtain⟨a,U,h2⟩:=A.ch I
 obtain⟨b,Y,z⟩:=A.ch J
 simp only[aP] at h2 z
 obtain⟨l,rfl,h2⟩:=h2
 obtain⟨G,rfl,z⟩:=z
 obtain⟨Z,k2,k3⟩:=Ey K h2 z
 refine gq (v:=.bool (Bool.xor neg true)) (fun call=>?_) (fi A (v:=dB (Bool.xor neg true)) (by simp only[aP,cY]) O)
 show bI x _ (.err 7) (fun a=>bI y _ (.err 7) fun b=>ob (n8 (.agg ks) a b) (.err 7) fun r=>nM (Bool.xor neg r) fun r=>.ok (.bool r) _)=_
 rw[dw,U,dk,dw,Y,dk]
 show ob (aJ (lE ks l) (aJ (lE ks G) (ra l G) none) none) _ _=_
 rw[Z,k2,k3]
 cases neg<;>rfl
theorem NU{neg:Bool}{x y:aI}{t:Bool}(G:x.vv VE=some (dB t))(I:y.vv VE=some (dB t))(J:Q (dB (Bool.xor neg true)) B):VI T (.eqv .bool neg x y) VE B [] Q:=fun _ _ _ _ _ z=>by
 obtain⟨a,K,h2⟩:=z.ch G
 obtain⟨b,O,A⟩:=z.ch I
 simp only[aP,cY] at h2 A
 subst h2;subst A
 refine gq (v:=.bool (Bool.xor neg true)) (fun call=>?_) (fi z (v:=dB (Bool.xor neg true)) (by simp only[aP,cY]) J)
 show bI x _ (.err 7) (fun a=>bI y _ (.err 7) fun b=>ob (n8 .bool a b) (.err 7) fun r=>nM (Bool.xor neg r) fun r=>.ok (.bool r) _)=_
 rw[dw,K,dk,dw,O,dk]
 show ob (some (t==t)) _ _=_
 cases neg<;>cases t<;>rfl
theorem lV{x y:aI}{k:IntKind}{a:Int}(z:x.vv VE=some (.d (.i k a)))(A:y.vv VE=some (.d (.i k a)))(G:Q (dB false) B):VI T (.bin .neq x y) VE B [] Q:=
 iV z A (by rw[show(!decide (a=a))=false by simp];exact G)
theorem EZ{x y:aI}{a:List UInt8}(z:x.vv VE=some (dS a))(A:y.vv VE=some (dS a))(G:Q (dB false) B):VI T (.bin .neq x y) VE B [] Q:=
 U2 z A (by rw[show(!decide (a=a))=false by simp];exact G)
theorem E0{x y:aI}{k:IntKind}{a:Int}(z:x.vv VE=some (.d (.i k a)))(A:y.vv VE=some (.d (.i k a)))(G:Q (dB true) B):VI T (.bin .eql x y) VE B [] Q:=
 iC z A (by rw[show(decide (a=a))=true by simp];exact G)
end Go.Ev
namespace Go.Ev.Pp
open Go
variable{p q:PS}{D:Rd}{a:Bool}
structure Core.sm(c:Core):Prop where
 e:c.exprs.length≤10000
 i:c.items.length≤10000
 s:c.src.length≤10000
 g:c.group.length≤10000
structure jW.sm(s:jW):Prop where
 c:s.gB.length≤10000
 o:s.ops.length≤10000
 all:∀x,x∈s.gB→x.sm
structure Stmt.sm(s:Stmt):Prop where
 dj:s.dj.sm
 row:s.row.length≤10000
 ex:s.exprs.length≤10000
 nC:s.nC.length≤10000
 jK:s.jK.length≤10000
 key:s.key.length≤10000
 mO:s.mO.length≤10000
 fk:∀f,f∈s.mO→f.jK.length≤10000∧f.refs.length≤10000
 cons:s.cons.length≤10000
 ik:∀c,c∈s.cons→c.2.length≤10000
theorem bk.eG(h:bk p):p.aF.length≤2000:=h.ok.eG
theorem b8.eG(h:b8 p q)(hp:bk p):q.aF.length≤2000:=by rw[h.aF];exact hp.eG
theorem bk.Kq(h:bk p):p.ex.length≤10000:=by
 have z:=h.ok.wu;have h2:=h.ok.lt;have A:=h.eG
 split at z<;>omega
section
variable{α:Type}{f:PS→α×PS}
theorem Ml:∀(k:Nat)(l:List α)(p:PS),(lg f k l p).1.length≤l.length+k
 |0,l,p=>bR _
 |k+1,l,p=>by
  unfold lg
  split
  ·have:=Ml k (l++[(f (p.sign cT).2).1]) (f (p.sign cT).2).2
   rw[bE,dY] at this;omega
  show l.length≤_;omega
theorem yk(h:bk p):(jG f p).1.length≤10000:=by
 have:=Ml (f:=f) p.aF.length [(f p).1] (f p).2
 have:=h.eG
 unfold jG;rw[dY] at*;omega
end
theorem D7(h:bk p):p.names.1.length≤10000:=yk (h.ij cE).top
theorem Ly:∀(k:Nat)(l:List Src)(p:PS),(pK D k l p).1.length≤l.length+k
 |0,l,p=>bR _
 |k+1,l,p=>by
  unfold pK
  split
  ·show l.length≤_;omega
  rename_i b q _
  have:=Ly k (l++[(q.gZ D b).1]) (q.gZ D b).2
  rw[bE,dY] at this;omega
theorem NV(h:bk p):(p.core D a).1.sm:=by
 have z:=h.dZ D a
 refine⟨z.top.group.top.Kq,?_,?_,?_⟩
 ·show(p.fU.items D).1.length≤_
  unfold PS.items
  split
  ·exact dp _
  exact yk h.fU.top
 ·have:=Ly (D:=D) (p.f5 D).aF.length [((p.f5 D).source a).1] ((p.f5 D).source a).2
  have:=(h.f5 D).top.eG
  rw[dY] at*
  show(pK _ _ _ _).1.length≤_
  omega
 show(p.dZ D a).group.1.2.length≤_
 unfold PS.group
 split
 ·exact yk ((z.top.kw gS).top.d6 [hJ]).top
 exact dp _
theorem NW:∀(k:Nat)(s:jW){p:PS},bk p→s.gB.length+k≤10000→s.ops.length+k≤10000→(∀x,x∈s.gB→x.sm)→(qR D a k s p).1.sm
 |0,s,p,_,G,h2,A=>⟨G,h2,A⟩
 |k+1,s,p,h,G,h2,A=>by
  unfold qR
  split
  ·exact⟨by show s.gB.length≤_;omega,by show s.ops.length≤_;omega,A⟩
  rename_i o q J
  have g:=(h.op J).1
  have I:=g.top.d6 [hY]
  refine NW k _ (I.top.core D a).top ?_ ?_ fun x z=>?_
  ·rw[bE,dY];omega
  ·rw[bE,dY];omega
  rcases List.mem_append.1 z with z|z
  ·exact A x z
  rcases List.mem_singleton.1 z with rfl;exact NV I.top
theorem IA(h:bk p):(p.dj D a).1.sm:=by
 have:=h.eG
 exact NW _ _ (h.core D a).top (by rw[dY];omega) (by show 0+_≤_;omega) fun x z=>by
  rcases List.mem_singleton.1 z with rfl;exact NV h
theorem Ie:jW.sm ⟨[],[]⟩:=⟨dp _,dp _,fun _ h=>(by cases h)⟩
theorem nP:Stmt.sm {}:=⟨Ie,dp _,dp _,dp _,dp _,dp _,dp _,fun _ h=>(by cases h),dp _,fun _ h=>(by cases h)⟩
theorem NX:∀(k:Nat)(l:List Fk){p:PS},bk p→l.length+k≤10000→(∀f,f∈l→f.jK.length≤10000∧f.refs.length≤10000)→(pW k l p).1.length≤10000∧∀f,f∈(pW k l p).1→f.jK.length≤10000∧f.refs.length≤10000
 |0,l,p,_,A,h2=>⟨A,h2⟩
 |k+1,l,p,h,A,h2=>by
  unfold pW
  split
  ·have g:=h.kw my
   refine NX k _ g.top.fk.top (by rw[bE,dY];omega) fun f z=>?_
   rcases List.mem_append.1 z with z|z
   ·exact h2 f z
   rcases List.mem_singleton.1 z with rfl
   exact⟨D7 g.top,D7 (g.top.uA.top.name).top⟩
  exact⟨by show l.length≤_;omega,h2⟩
theorem M5:∀(k:Nat)(l:List (Int×List (List UInt8))){p:PS},bk p→l.length+k≤10000→(∀c,c∈l→c.2.length≤10000)→(oO k l p).1.length≤10000∧∀c,c∈(oO k l p).1→c.2.length≤10000
 |0,l,p,_,A,h2=>⟨A,h2⟩
 |k+1,l,p,h,A,h2=>by
  unfold oO
  split
  ·exact⟨by show l.length≤_;omega,h2⟩
  rename_i c q G
  have g:=(h.ik G).1
  refine M5 k _ g.top.names.top (by rw[bE,dY];omega) fun f z=>?_
  rcases List.mem_append.1 z with z|z
  ·exact h2 f z
  rcases List.mem_singleton.1 z with rfl
  exact D7 g.top
theorem Up(h:bk p):(p.insert D).1.sm:={nP with row:=yk h.tQ.top}
theorem Uq(h:bk p):(p.remove D).1.sm:={nP with ex:=((h.n7 D).top.eF D).top.Kq}
theorem Ur(h:bk p):(p.update D).1.sm:={nP with nC:=yk (h.zX D).top,ex:=((h.pV D).top.eF D).top.Kq}
theorem Us(h:bk p):p.create.1.sm:=by
 have J:=h.eG
 obtain⟨z,A⟩:=NX p.aF.length [] h.zY.top (by show 0+_≤_;omega) (fun _ h=>by cases h)
 obtain⟨G,I⟩:=M5 p.aF.length [] h.pX.top (by show 0+_≤_;omega) (fun _ h=>by cases h)
 exact{nP with
  jK:=yk h.Ci.top
  key:=by
   show p.iT.key.1.length≤_
   unfold PS.key
   split
   ·exact D7 (h.iT.top.kw sH).top
   exact dp _
  mO:=z
  fk:=A
  cons:=G
  ik:=I}
theorem Vu:p.alter.1.sm:=by
 unfold PS.alter
 split
 ·exact{nP with jK:=by show 1≤10000;decide}
 split
 ·exact{nP with}
 exact nP
theorem WU(h:bk p):(p.rH D).1.sm:={nP with dj:=IA h}
theorem WV:p.hold.1.sm:={nP with}
theorem Vv(h:bk p):(p.query D).1.sm:={nP with dj:=IA h.mode.top}
theorem SB(h:bk p):(p.dm D).1.sm:=by
 unfold PS.dm
 split
 ·exact Up (h.kw _).top
 split
 ·exact Uq (h.kw _).top
 split
 ·exact Ur (h.kw _).top
 split
 ·exact Us (h.kw _).top
 split
 ·exact Vu
 split
 ·exact WU (h.kw _).top
 split
 ·exact{nP with}
 split
 ·exact WV
 split
 ·exact{nP with}
 split
 ·exact{nP with}
 exact Vv h
theorem Ut{aF:List cu}(z:sw aF):(md D aF).1.sm:=by
 unfold md
 split
 ·exact nP
 exact SB z.top
theorem TD{aF:List cu}(z:sw aF):(mb D aF).1.sm:=by
 unfold mb
 split
 ·exact Ie
 exact IA z.top
theorem P4{T:bd}(F:FT T){l:List aT}(K:l.length≤10000):Sound T 43 [.d (.fC (l.map aT.enc)),.d (.fC (l.map aT.enc))] fun r=>r=dB true:=by
 refine dG F.f43 aa (an 1 aa (aL (ai (ae 1 aa (aj (iH aa ?_))))))
 refine ae 1 aa (aj (iH aa ?_))
 refine aj (lV aa aa ?_)
 refine aX (ef aa aa (aQ (aL (an 1 aa (bM (d7 (fun k VE B=>∃i,i≤l.length∧k=l.length-i∧bn [(0,.d (.fC (l.map aT.enc))),(1,.d (.fC (l.map aT.enc))),(4,dB false),(5,dI (i:Nat))] VE∧bn [] B) ?_ (k:=l.length) ⟨0,dp _,aa,⟨aa,aa,aa,aa,trivial⟩,trivial⟩))))))
 rintro k VE B⟨i,hi,rfl,I,J⟩
 refine db _ _ I J (aL (ai (ae 2 aa (aj (iH aa ?_)))))
 refine ak 1 aa (aK aa (fun A=>?_) (fun A=>?_))
 ·have G:i<l.length:=by simp at A;omega
  obtain⟨e,he⟩:∃e,l[i]?=some e:=⟨_,fe G⟩
  have z:(l.map aT.enc)[i]?=some e.enc:=by rw[iJ,he];rfl
  have hlen:e.enc.length=8:=rfl
  refine aQ (aL (bM (eO (bD 2 aa (bG (jY aa aa z hlen ?_))))))
  refine kp aa aa (mR aa aq (bR 8) ?_)
  refine bD 2 aa (bG (jY aa aa z hlen ?_))
  refine kp aa aa (mR aa aq (bR 8) ?_)
  refine bG (va (r:=e.enc) aa aa aa ?_)
  refine ow (ef aa aa (aQ (bC (ae 1 aa (aj (cM aa aa ah ?_))))))
  exact ak 1 aa (⟨l.length-(i+1),ah,i+1,ah,aa,⟨aa,aa,aa,aa,trivial⟩,trivial⟩)
 exact dJ (an 1 aa (ay (bt aa aa aa)))
theorem FN{T:bd}(F:FT T){l:List (List UInt8)}(K:l.length≤10000):Sound T 44 [.d (gC l),.d (gC l)] fun r=>r=dB true:=by
 refine dG F.f44 aa (an 1 aa (aL (ai (ae 1 aa (aj (iH aa ?_))))))
 refine ae 1 aa (aj (iH aa ?_))
 refine aj (lV aa aa ?_)
 refine aX (ef aa aa (aQ (aL (an 1 aa (bM (d7 (fun k VE B=>∃i,i≤l.length∧k=l.length-i∧bn [(0,.d (gC l)),(1,.d (gC l)),(4,dB false),(5,dI (i:Nat))] VE∧bn [] B) ?_ (k:=l.length) ⟨0,dp _,aa,⟨aa,aa,aa,aa,trivial⟩,trivial⟩))))))
 rintro k VE B⟨i,hi,rfl,I,J⟩
 refine db _ _ I J (aL (ai (ae 2 aa (aj (iH aa ?_)))))
 refine ak 1 aa (aK aa (fun A=>?_) (fun A=>?_))
 ·have G:i<l.length:=by simp at A;omega
  obtain⟨e,he⟩:∃e,l[i]?=some e:=⟨_,fe G⟩
  have z:(l.map fun s=>[cl s])[i]?=some [cl e]:=by rw[iJ,he];rfl
  have hlen:[cl e].length=1:=rfl
  refine aQ (aL (bM (eO (bD 2 aa (bG (jY aa aa z hlen ?_))))))
  refine kp aa aa (km (x:=cl e) aa aa ?_)
  refine bD 2 aa (bG (jY aa aa z hlen ?_))
  refine kp aa aa (km (x:=cl e) aa aa ?_)
  refine bG (EZ aa aa ?_)
  refine ow (ef aa aa (aQ (bC (ae 1 aa (aj (cM aa aa ah ?_))))))
  exact ak 1 aa (⟨l.length-(i+1),ah,i+1,ah,aa,⟨aa,aa,aa,aa,trivial⟩,trivial⟩)
 exact dJ (an 1 aa (ay (bt aa aa aa)))
theorem P5{T:bd}(F:FT T){l:List Int}(K:l.length≤10000):Sound T 45 [.d (.fC (l.map fun i=>[.i .i64 i])),.d (.fC (l.map fun i=>[.i .i64 i]))] fun r=>r=dB true:=by
 refine dG F.f45 aa (an 1 aa (aL (ai (ae 1 aa (aj (iH aa ?_))))))
 refine ae 1 aa (aj (iH aa ?_))
 refine aj (lV aa aa ?_)
 refine aX (ef aa aa (aQ (aL (an 1 aa (bM (d7 (fun k VE B=>∃i,i≤l.length∧k=l.length-i∧bn [(0,.d (.fC (l.map fun i=>[.i .i64 i]))),(1,.d (.fC (l.map fun i=>[.i .i64 i]))),(4,dB false),(5,dI (i:Nat))] VE∧bn [] B) ?_ (k:=l.length) ⟨0,dp _,aa,⟨aa,aa,aa,aa,trivial⟩,trivial⟩))))))
 rintro k VE B⟨i,hi,rfl,I,J⟩
 refine db _ _ I J (aL (ai (ae 2 aa (aj (iH aa ?_)))))
 refine ak 1 aa (aK aa (fun A=>?_) (fun A=>?_))
 ·have G:i<l.length:=by simp at A;omega
  obtain⟨e,he⟩:∃e,l[i]?=some e:=⟨_,fe G⟩
  have z:(l.map fun i=>[DC.i .i64 i])[i]?=some [.i .i64 e]:=by rw[iJ,he];rfl
  have hlen:[DC.i .i64 e].length=1:=rfl
  refine aQ (aL (bM (eO (bD 2 aa (bG (jY aa aa z hlen ?_))))))
  refine kp aa aa (km (x:=.i .i64 e) aa aa ?_)
  refine bD 2 aa (bG (jY aa aa z hlen ?_))
  refine kp aa aa (km (x:=.i .i64 e) aa aa ?_)
  refine bG (lV aa aa ?_)
  refine ow (ef aa aa (aQ (bC (ae 1 aa (aj (cM aa aa ah ?_))))))
  exact ak 1 aa (⟨l.length-(i+1),ah,i+1,ah,aa,⟨aa,aa,aa,aa,trivial⟩,trivial⟩)
 exact dJ (an 1 aa (ay (bt aa aa aa)))
theorem YH{T:bd}(F:FT T){c:Core}(J:c.sm):Sound T 46 [eU c.enc,eU c.enc] fun r=>r=dB true:=by
 refine dG F.f46 aa (an 3 aa (aL (ai (ae 4 aa (aj (NU aa aa ?_))))))
 refine ae 1 aa (aw aa aa (dD aa ?_))
 refine aw aa aa (df aa aa aa ?_)
 refine aw aa aa (dD aa ?_)
 refine aw aa aa (df aa aa aa ?_)
 refine aw aa aa (lV aa aa ?_)
 refine ae 2 aa (aw aa aa (dD aa ?_))
 refine aw aa aa (df aa aa aa ?_)
 refine aw aa aa (dD aa ?_)
 refine aw aa aa (df aa aa aa ?_)
 refine aw aa aa (NU aa aa ?_)
 refine ae 2 aa (aw aa aa (dD aa ?_))
 refine aw aa aa (df aa aa aa ?_)
 refine aw aa aa (dD aa ?_)
 refine aw aa aa (df aa aa aa ?_)
 refine aw aa aa (cJ (P5 F J.g) aa aa ?_)
 refine aw aa aa (j0 aa ?_)
 refine ae 2 aa (aw aa aa (dD aa ?_))
 refine aw aa aa (df aa aa aa ?_)
 refine aw aa aa (dD aa ?_)
 refine aw aa aa (df aa aa aa ?_)
 refine aw aa aa (cJ (P4 F J.e) aa aa ?_)
 refine aw aa aa (j0 aa ?_)
 refine ae 2 aa (aw aa aa (dD aa ?_))
 refine aw aa aa (df aa aa aa ?_)
 refine aw aa aa (iH aa ?_)
 refine aw aa aa (dD aa ?_)
 refine aw aa aa (df aa aa aa ?_)
 refine aw aa aa (iH aa ?_)
 refine aw aa aa (lV aa aa ?_)
 refine ae 2 aa (aw aa aa (dD aa ?_))
 refine aw aa aa (df aa aa aa ?_)
 refine aw aa aa (iH aa ?_)
 refine aw aa aa (dD aa ?_)
 refine aw aa aa (df aa aa aa ?_)
 refine aw aa aa (iH aa ?_)
 refine aw aa aa (lV aa aa ?_)
 refine ak 1 aa (ef aa aa (aQ (aL (an 1 aa (bM (d7 (fun k VE B=>∃i,i≤c.items.length∧k=c.items.length-i∧bn [(2,.vp 2 0),(3,.vp 3 0),(4,dB false),(5,dI (i:Nat))] VE∧bn [(2,.one 106 120 (c.enc.map .d)),(3,.one 106 120 (c.enc.map .d))] B) ?_ (k:=c.items.length) ⟨0,dp _,aa,⟨aa,aa,aa,aa,trivial⟩,⟨aa,aa,trivial⟩⟩))))))
 rintro k VE B⟨i,hi,rfl,K,O⟩
 refine db _ _ K O (aL (ai (ae 3 aa (aj (iH aa ?_)))))
 refine ak 1 aa (aK aa (fun G=>?_) (fun G=>?_))
 ·have U:=J.i
  have A:i<c.items.length:=by simp at G;omega
  obtain⟨e,he⟩:∃e,c.items[i]?=some e:=⟨_,fe A⟩
  have z:(c.items.map Item.enc)[i]?=some (Item.enc e):=by rw[iJ,he];rfl
  refine aQ (aL (bM (eO (bD 3 aa (bG (jY aa aa z aa ?_))))))
  refine kp aa aa (mR aa aq (bR 3) ?_)
  refine bD 3 aa (bG (jY aa aa z aa ?_))
  refine kp aa aa (mR aa aq (bR 3) ?_)
  refine bG (va (r:=Item.enc e) aa aa aa ?_)
  refine ow (ef aa aa (aQ (bC (ae 1 aa (aj (cM aa aa ah ?_))))))
  exact ak 1 aa (⟨c.items.length-(i+1),ah,i+1,ah,aa,⟨aa,aa,aa,aa,trivial⟩,⟨aa,aa,trivial⟩⟩)
 refine dJ (aL (an 1 aa (bM (d7 (fun k VE B=>∃i,i≤c.src.length∧k=c.src.length-i∧bn [(2,.vp 2 0),(3,.vp 3 0),(4,dB false),(6,dI (i:Nat))] VE∧bn [(2,.one 106 120 (c.enc.map .d)),(3,.one 106 120 (c.enc.map .d))] B) ?_ (k:=c.src.length) ⟨0,dp _,aa,⟨aa,aa,aa,aa,trivial⟩,⟨aa,aa,trivial⟩⟩))))
 rintro k VE B⟨i,hi,rfl,K,O⟩
 refine db _ _ K O (aL (ai (ae 3 aa (aj (iH aa ?_)))))
 refine ak 1 aa (aK aa (fun I=>?_) (fun I=>?_))
 ·have U:=J.s
  have A:i<c.src.length:=by simp at I;omega
  obtain⟨e,he⟩:∃e,c.src[i]?=some e:=⟨_,fe A⟩
  have z:(c.src.map Src.enc)[i]?=some (Src.enc e):=by rw[iJ,he];rfl
  refine aQ (aL (bM (eO (bD 3 aa (bG (jY aa aa z aa ?_))))))
  refine kp aa aa (mR aa aq (bR 4) ?_)
  refine bD 3 aa (bG (jY aa aa z aa ?_))
  refine kp aa aa (mR aa aq (bR 4) ?_)
  refine bG (va (r:=Src.enc e) aa aa aa ?_)
  refine ow (ef aa aa (aQ (bC (ae 1 aa (aj (cM aa aa ah ?_))))))
  exact ak 1 aa (⟨c.src.length-(i+1),ah,i+1,ah,aa,⟨aa,aa,aa,aa,trivial⟩,⟨aa,aa,trivial⟩⟩)
 exact dJ (an 1 aa (ay (bt aa aa aa)))
theorem P6{T:bd}(F:FT T){s:jW}(G:s.sm):Sound T 20 [eU s.enc,eU s.enc] fun r=>r=dB true:=by
 refine dG F.f20 aa (an 3 aa (aL (ai (ae 2 aa (aj (iH aa ?_))))))
 refine ae 2 aa (aj (iH aa ?_))
 refine aj (lV aa aa ?_)
 refine ae 1 aa (aw aa aa (dD aa ?_))
 refine aw aa aa (df aa aa aa ?_)
 refine aw aa aa (dD aa ?_)
 refine aw aa aa (df aa aa aa ?_)
 refine aw aa aa (cJ (P5 F G.o) aa aa ?_)
 refine aw aa aa (j0 aa ?_)
 refine ak 1 aa (ef aa aa (aQ (aL (an 1 aa (bM (d7 (fun k VE B=>∃i,i≤s.gB.length∧k=s.gB.length-i∧bn [(2,.vp 2 0),(3,.vp 3 0),(4,dB false),(5,dI (i:Nat))] VE∧bn [(2,.one 39 48 (s.enc.map .d)),(3,.one 39 48 (s.enc.map .d))] B) ?_ (k:=s.gB.length) ⟨0,dp _,aa,⟨aa,aa,aa,aa,trivial⟩,⟨aa,aa,trivial⟩⟩))))))
 rintro k VE B⟨i,hi,rfl,J,K⟩
 refine db _ _ J K (aL (ai (ae 3 aa (aj (iH aa ?_)))))
 refine ak 1 aa (aK aa (fun A=>?_) (fun A=>?_))
 ·have O:=G.c
  have I:i<s.gB.length:=by simp at A;omega
  obtain⟨e,he⟩:∃e,s.gB[i]?=some e:=⟨_,fe I⟩
  have z:(s.gB.map Core.enc)[i]?=some (Core.enc e):=by rw[iJ,he];rfl
  refine aQ (aL (bM (eO (bD 3 aa (bG (jY aa aa z aa ?_))))))
  refine kp aa aa (mR aa aq (bR 7) ?_)
  refine bD 3 aa (bG (jY aa aa z aa ?_))
  refine kp aa aa (mR aa aq (bR 7) ?_)
  refine dy aa (cJ (YH F (G.all e (lJ he))) aa aa ?_)
  refine du 1 aa (ef aa aa (aQ (bC (ae 1 aa (aj (cM aa aa ah ?_))))))
  exact ak 1 aa (⟨s.gB.length-(i+1),ah,i+1,ah,aa,⟨aa,aa,aa,aa,trivial⟩,⟨aa,aa,trivial⟩⟩)
 exact dJ (an 1 aa (ay (bt aa aa aa)))
end Go.Ev.Pp
