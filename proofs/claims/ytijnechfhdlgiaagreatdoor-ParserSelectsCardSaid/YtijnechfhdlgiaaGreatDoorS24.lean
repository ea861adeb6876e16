/- Part 24 of rules for walks through the code of a program, and of such walks; what each part proves is said by its theorems. -/
import Derived.Test.YtijnechfhdlgiaaGreatDoorS11
import Derived.Test.YtijnechfhdlgiaaGreatDoorS22
import Derived.Test.YtijnechfhdlgiaaGreatDoorS23
import Derived.KernelRfl
set_option linter.unusedVariables false
set_option linter.unusedSimpArgs false
namespace Go.Ev.Pp
open Go
set_option maxRecDepth 10000
set_option maxHeartbeats 1000000 in
theorem Xr{T:bd}(F:FT T)(X:FX T){s:List UInt8}{i:Nat}{c:UInt8}(hc:s[i]?=some c)(hi:i<s.length)(U:s.length≤4000):Sound T 58 [dS s,dI (i:Nat)] fun r=>r=vb (cu s i c) i:=by
 refine eh F.f58 aa (al 3 aa (ai (ae 2 aa (ak (fG aa aa hc ?_)))))
 refine ae 1 aa (af ?_)
 refine al 4 aa (ai (ae 1 aa ?_))
 refine ak (cM rfl rfl (by omega) ?_)
 refine ae 2 aa (af ?_)
 refine aK (bJ (ai (ae 1 aa (ak (cO (QN F c) aa aa ?_)))))
 refine ae 1 aa (af ?_)
 refine aI aa (fun eA=>?_) (fun eA=>?_)
 ·have G:cu s i c=⟨1,cut s i (runM kP s i),runM kP s i,0⟩:=by unfold cu;rw[aw eA]
  have hle:i≤runM kP s i:=xD
  have J:runM kP s i≤s.length:=xE (xY hi)
  refine bD (ae 2 aa (ak (cO (Bl F (QN F) (xY hi) U) aa aa ?_)))
  refine ae 3 aa (af ?_)
  refine ai (ae 3 aa ?_)
  refine ak (kh (l:=i) (h:=runM kP s i) rfl ⟨_,rfl⟩ ⟨_,rfl⟩ hle (by omega) ?_)
  refine ae 2 aa (af ?_)
  refine al 5 aa (ax ?_)
  exact bx rfl rfl (by unfold vb;rw[G];rfl)
 refine ai (ae 1 aa (ak (cO (PY F c) aa aa ?_)))
 refine ae 1 aa (af ?_)
 refine aI aa (fun z=>?_) (fun z=>?_)
 ·have G:cu s i c=⟨2,cut s i (runM iJ s i),runM iJ s i,0⟩:=by unfold cu;rw[aj (by rw[eA];decide),aw z]
  have hle:i≤runM iJ s i:=xD
  have J:runM iJ s i≤s.length:=xE (xY hi)
  refine bD (ae 2 aa (ak (cO (Bl F (inC F) (xY hi) U) aa aa ?_)))
  refine ae 3 aa (af ?_)
  refine ai (ae 3 aa ?_)
  refine ak (kh (l:=i) (h:=runM iJ s i) rfl ⟨_,rfl⟩ ⟨_,rfl⟩ hle (by omega) ?_)
  refine ae 2 aa (af ?_)
  refine al 5 aa (ax ?_)
  exact bx rfl rfl (by unfold vb;rw[G];rfl)
 refine ai (ae 1 aa (ak (cO (I3 F c) aa aa ?_)))
 refine ae 1 aa (af ?_)
 refine aI aa (fun A=>?_) (fun A=>?_)
 ·have G:cu s i c=⟨3,cut s i (runM gV s i),runM gV s i,0⟩:=by unfold cu;rw[aj (by rw[eA];decide),aj (by rw[z];decide),aw A]
  have hle:i≤runM gV s i:=xD
  have J:runM gV s i≤s.length:=xE (xY hi)
  refine bD (ae 2 aa (ak (cO (Bl F (I3 F) (xY hi) U) aa aa ?_)))
  refine ae 3 aa (af ?_)
  refine ai (ae 3 aa ?_)
  refine ak (kh (l:=i) (h:=runM gV s i) rfl ⟨_,rfl⟩ ⟨_,rfl⟩ hle (by omega) ?_)
  refine ae 2 aa (af ?_)
  refine al 5 aa (ax ?_)
  exact bx rfl rfl (by unfold vb;rw[G];rfl)
 refine ai (ae 1 aa (ak (hY aa aa ?_)))
 refine ae 1 aa (af ?_)
 refine aI aa (fun K=>?_) (fun K=>?_)
 ·obtain rfl:c=39:=rO 39 (by simp at K;omega) rfl
  have I:cu s i 39=(match jQ s (i+1) [] with|some x=>⟨4,x.1,x.2,0⟩|none=>⟨4,[],0,2⟩):=by unfold cu;rw[aj (by rw[eA];decide),aj (by rw[z];decide),aj (by rw[A];decide),aw rfl];rfl
  refine al 2 aa (ai (ae 2 aa (ak (cO (Xq F X hi U) aa aa ?_))))
  refine ae 1 aa ?_
  cases Y:jQ s (i+1) []
  ·rw[Y] at I
   refine ae 7 aa (af ?_)
   refine al 6 aa (ax ?_)
   exact bx rfl rfl (by unfold vb;rw[I];rfl)
  rw[Y] at I
  refine ae 7 aa (af ?_)
  refine al 6 aa (ax ?_)
  exact bx rfl rfl (by unfold vb;rw[I];rfl)
 have Z:¬c=39:=by rintro rfl;simp at K
 refine ai (ae 1 aa (ak (cO (MW F X qz c) aa aa ?_)))
 refine ae 2 aa (af ?_)
 refine aI aa (fun O=>?_) (fun O=>?_)
 ·have G:cu s i c=⟨5,cut s i (i+1),i+1,0⟩:=by unfold cu;rw[aj (by rw[eA];decide),aj (by rw[z];decide),aj (by rw[A];decide),aj Z,aw (Md.1 (by simp at O;omega))]
  have hle:i≤i+1:=sM _
  refine bD (ae 2 aa (af ?_))
  refine ai (ae 3 aa ?_)
  refine ak (kh (l:=i) (h:=i+1) rfl ⟨_,rfl⟩ ⟨_,rfl⟩ hle (by omega) ?_)
  refine ae 2 aa (af ?_)
  refine al 5 aa (ax ?_)
  exact bx rfl rfl (by unfold vb;rw[G];rfl)
 have G:cu s i c=⟨0,[],0,5⟩:=by unfold cu;rw[aj (by rw[eA];decide),aj (by rw[z];decide),aj (by rw[A];decide),aj Z,aj (fun k=>by(have:=Md.2 k;simp at O;omega))]
 refine al 4 aa (ax ?_)
 exact bx rfl rfl (by unfold vb;rw[G];rfl)
theorem M1{s:List UInt8}{i k:Nat}{c:UInt8}{out:List cb}(z:s[i]?=some c):lA s (k+1) i out=if¬(cu s i c).err=0 then([],i,(cu s i c).err) else if¬(kB (cu s i c).kind (cu s i c).text=true∧out.length<1000) then([],i,4) else lA s k (runM l9 s (cu s i c).stop) (out++[(⟨(cu s i c).kind,(i:Nat),(cu s i c).text⟩:cb)]):=by
 rw[lA,z]
set_option maxHeartbeats 1000000 in
theorem O7{T:bd}(F:FT T)(X:FX T)(s:List UInt8):Sound T 28 [dS s] fun r=>r=EX (eE s):=by
 refine eh F.f28 aa (al 3 aa (aK (al 3 aa (aI aa (fun I=>?_) (fun I=>?_)))))
 ·have hm:eE s=([],0,4):=aw (by simp at I;omega)
  refine al 3 aa (ax ?_)
  exact bx rfl rfl (by rw[hm];rfl)
 have Y:s.length≤4000:=by simp at I;omega
 have Z:eE s=lA s (s.length+1) (runM l9 s 0) []:=aj (by omega)
 refine aQ (al 1 aa (ai (TG 5 1101 69 32 3 aa aa (ae 1 aa (ak (cO (Bl F (QO F) (i:=0) (da _) Y) aa aa ?_))))))
 refine ae 1 aa (af ?_)
 refine aK (bJ ?_)
 refine dY (fun k VE B=>∃(i:Nat)(out:List cb),lA s k i out=eE s∧i≤s.length∧s.length+1≤i+k∧out.length≤1000∧br [(0,dS s),(2,dN),(3,d0),(4,d0),(5,.ac 1101 (out.map cb.enc).length 3),(6,dI (i:Nat))] VE∧br [(1101,.acc 69 32 3 (out.map cb.enc))] B) ?_ (k:=s.length+1) ⟨runM l9 s 0,[],Z.symm,xE (da _),by omega,by decide,⟨rfl,rfl,rfl,rfl,rfl,rfl,trivial⟩,rfl,trivial⟩
 rintro k VE B⟨i,out,A,hi,hk,ho,hV,hB⟩
 obtain⟨k,rfl⟩:∃k',k=k'+1:=⟨k-1,by omega⟩
 refine dn _ _ hV hB (aK (al 4 aa (aI aa (fun J=>?_) (fun J=>?_))))
 ·have O:i<s.length:=by simp at J;omega
  obtain⟨c,hc⟩:=jD O
  have z:=M1 (k:=k) (out:=out) hc
  refine aQ (bJ (ai (ae 2 aa (ak (cO (Xr F X hc O Y) aa aa ?_)))))
  refine ae 8 aa (af ?_)
  refine aK (al 2 aa (aI aa (fun dy=>?_) (fun dy=>?_)))
  ·have he:¬(cu s i c).err=0:=by simpa using dy
   rw[aw he] at z
   rw[z] at A
   refine al 5 aa (ax ?_)
   exact bx rfl rfl (by rw[←A];rfl)
  have he:(cu s i c).err=0:=by simpa using dy
  have U:=GS hc he
  rw[aj (fun k=>k he)] at z
  rw[show(if(cu s i c).err=5 then(0:Int) else((i:Nat):Int))=((i:Nat):Int) from aj (by rw[he];decide)]
  refine aQ (aK (ai (ae 1 aa (ak (cO (Wv F (cu s i c).kind (i:Nat) (cu s i c).text) aa aa ?_)))))
  refine ae 2 aa (dc (g:=cG) aa (fun G=>?_) (fun G=>?_))
  ·rw[aw (fun k=>by rw[k.1] at G;cases G)] at z
   rw[z] at A
   refine aO aa (G) (aO aa (G) (aO aa (G) (ak (cT aa (G) aa ?_))))
   refine af (fm aa aa (al 4 aa (ax ?_)))
   exact bx rfl rfl (by rw[←A];rfl)
  refine ao aa (G) (bN aa ?_)
  refine ao aa (G) (xv aa ?_)
  refine ao aa (G) (Am aa aa ?_)
  refine ak (cJ aa (G) aa ?_)
  refine af (aI aa (fun K=>?_) (fun K=>?_))
  ·rw[aw (fun k=>by(have:=k.2;simp at K;omega))] at z
   rw[z] at A
   refine al 4 aa (ax ?_)
   exact bx rfl rfl (by rw[←A];rfl)
  have nH:out.length<1000:=by simp at K;omega
  rw[aj (fun k=>k ⟨by simpa using G,nH⟩)] at z
  rw[z] at A
  refine aQ (ai (ae 3 aa ?_))
  refine ak (dZ (rows:=out.map cb.enc) (ys:=[(⟨(cu s i c).kind,(i:Nat),(cu s i c).text⟩:cb).enc]) rfl rfl rfl (.bs (rows:=[(⟨(cu s i c).kind,(i:Nat),(cu s i c).text⟩:cb).enc]) rfl) (bO rfl) (by rw[bC,bZ];simp only[cP,dx];omega) (fun h=>by rw[h];rfl) (fun h=>by rw[h];rfl) ?_)
  refine ae 1 aa (af ?_)
  refine bD (ae 2 aa (ak (cO (Bl F (QO F) U.2 Y) aa aa ?_)))
  refine ae 1 aa (af ?_)
  refine⟨k,gh k,runM l9 s (cu s i c).stop,out++[(⟨(cu s i c).kind,(i:Nat),(cu s i c).text⟩:cb)],A,xE U.2,?_,?_,?_,?_⟩
  ·have:=xD (P:=l9) (s:=s) (i:=(cu s i c).stop);omega
  ·rw[bC,dU];omega
  ·rw[dr];exact⟨rfl,rfl,rfl,rfl,rfl,rfl,trivial⟩
  rw[dr];exact⟨rfl,trivial⟩
 have JH:lA s (k+1) i out=(out++[⟨6,(s.length:Nat),[]⟩],0,0):=by unfold lA;rw[List.getElem?_eq_none_iff.2 (by simp at J;omega)]
 rw[JH] at A
 refine dD (ai (ae 5 aa ?_))
 refine ak (dZ (rows:=out.map cb.enc) (ys:=[(⟨6,(s.length:Nat),[]⟩:cb).enc]) rfl rfl rfl (.bs (rows:=[(⟨6,(s.length:Nat),[]⟩:cb).enc]) rfl) (bO rfl) (by rw[bC,bZ];simp only[cP,dx];omega) (fun h=>by rw[h];rfl) (fun h=>by rw[h];rfl) ?_)
 refine fo 51 1101 aa aa (fun _=>⟨aa,aa⟩) (ae 3 aa (af ?_))
 refine ax ?_
 exact bx rfl rfl (by rw[←A];unfold EX;rw[dr];rfl)
open Go
set_option maxRecDepth 10000
theorem JI{T:bd}(F:FT T)(c:UInt8):Sound T 102 [.d (.i .u8 (c.toNat:Nat))] fun r=>r=dB (kP c):=by
 refine eh F.Z3 aa (al 1 aa (ai (ae 3 aa (dc (g:=aq) aa (fun z=>?_) (fun z=>?_)))))
 ·refine ao aa (z) (bN aa ?_)
  refine ao aa (z) (pU aa aa ?_)
  refine ak (cT aa (z) aa ?_)
  refine ae 1 aa (af ?_)
  refine ax ?_
  exact bx rfl rfl (by refine congrArg (fun b=>VV.d (DC.b b)) ?_;rw[gg];unfold kP;simp at*;omega)
 refine aO aa (z) (aO aa (z) (ak (cJ aa (z) aa ?_)))
 refine ae 1 aa (af ?_)
 refine ax ?_
 exact bx rfl rfl (by refine congrArg (fun b=>VV.d (DC.b b)) ?_;rw[gg];unfold kP;simp at*;omega)
theorem I4{T:bd}(F:FT T)(c:UInt8):Sound T 103 [.d (.i .u8 (c.toNat:Nat))] fun r=>r=dB (tb c):=by
 refine eh F.Z4 aa (al 1 aa (ai (ae 3 aa (dc (g:=aq) aa (fun z=>?_) (fun z=>?_)))))
 ·refine ao aa (z) (bN aa ?_)
  refine ao aa (z) (pU aa aa ?_)
  refine ak (cT aa (z) aa ?_)
  refine ae 1 aa (af ?_)
  refine ax ?_
  exact bx rfl rfl (by refine congrArg (fun b=>VV.d (DC.b b)) ?_;rw[gg];unfold tb;simp at*;omega)
 refine aO aa (z) (aO aa (z) (ak (cJ aa (z) aa ?_)))
 refine ae 1 aa (af ?_)
 refine ax ?_
 exact bx rfl rfl (by refine congrArg (fun b=>VV.d (DC.b b)) ?_;rw[gg];unfold tb;simp at*;omega)
theorem wN{T:bd}(F:FT T)(c:UInt8):Sound T 105 [.d (.i .u8 (c.toNat:Nat))] fun r=>r=dB (gV c):=by
 refine eh F.Z6 aa (al 1 aa (ai (ae 3 aa (dc (g:=aq) aa (fun z=>?_) (fun z=>?_)))))
 ·refine ao aa (z) (bN aa ?_)
  refine ao aa (z) (pU aa aa ?_)
  refine ak (cT aa (z) aa ?_)
  refine ae 1 aa (af ?_)
  refine ax ?_
  exact bx rfl rfl (by refine congrArg (fun b=>VV.d (DC.b b)) ?_;rw[gg];unfold gV;simp at*;omega)
 refine aO aa (z) (aO aa (z) (ak (cJ aa (z) aa ?_)))
 refine ae 1 aa (af ?_)
 refine ax ?_
 exact bx rfl rfl (by refine congrArg (fun b=>VV.d (DC.b b)) ?_;rw[gg];unfold gV;simp at*;omega)
theorem rsp{T:bd}(F:FT T)(c:UInt8):Sound T 47 [.d (.i .u8 (c.toNat:Nat))] fun r=>r=dB (l9 c):=by
 refine eh F.f47 aa (al 1 aa (ai (ae 3 aa (dc (g:=aq) aa (fun z=>?_) (fun z=>?_)))))
 ·refine aO aa (z) (aO aa (z) (ak (cT aa (z) aa ?_)))
  refine ae 1 aa (aO aa aa (aO aa aa (ae 2 aa (aO aa aa (aO aa aa (ae 2 aa (af ?_)))))))
  refine ax ?_
  exact bx rfl rfl (by refine congrArg (fun b=>VV.d (DC.b b)) ?_;rw[gg];unfold l9;simp at*;omega)
 refine ao aa (z) (bN aa ?_)
 refine ao aa (z) (hY aa aa ?_)
 refine ak (cJ aa (z) aa ?_)
 refine ae 1 aa (dc (g:=aL) aa (fun A=>?_) (fun A=>?_))
 ·refine aO aa (A) (aO aa (A) (ak (cT aa (A) aa ?_)))
  refine ae 1 aa (aO aa aa (aO aa aa (ae 2 aa (af ?_))))
  refine ax ?_
  exact bx rfl rfl (by refine congrArg (fun b=>VV.d (DC.b b)) ?_;rw[gg];unfold l9;simp at*;omega)
 refine ao aa (A) (bN aa ?_)
 refine ao aa (A) (hY aa aa ?_)
 refine ak (cJ aa (A) aa ?_)
 refine ae 1 aa (dc (g:=aV) aa (fun bM=>?_) (fun bM=>?_))
 ·refine aO aa (bM) (aO aa (bM) (ak (cT aa (bM) aa ?_)))
  refine ae 1 aa (af ?_)
  refine ax ?_
  exact bx rfl rfl (by refine congrArg (fun b=>VV.d (DC.b b)) ?_;rw[gg];unfold l9;simp at*;omega)
 refine ao aa (bM) (bN aa ?_)
 refine ao aa (bM) (hY aa aa ?_)
 refine ak (cJ aa (bM) aa ?_)
 refine ae 1 aa (af ?_)
 refine ax ?_
 exact bx rfl rfl (by refine congrArg (fun b=>VV.d (DC.b b)) ?_;rw[gg];unfold l9;simp at*;omega)
theorem JJ{T:bd}(F:FT T)(c:UInt8):Sound T 104 [.d (.i .u8 (c.toNat:Nat))] fun r=>r=dB (iJ c):=by
 refine eh F.Z5 aa (al 1 aa (ai (ae 1 aa (ak (cO (I4 F c) aa aa ?_)))))
 refine ae 1 aa (dc (g:=aq) aa (fun z=>?_) (fun z=>?_))
 ·have G:iJ c=true:=by unfold iJ;rw[z];rfl
  refine aO aa (z) (aO aa (z) (ak (cT aa (z) aa ?_)))
  refine ae 1 aa (aO aa aa (aO aa aa (ae 2 aa (af ?_))))
  refine ax ?_
  exact bx rfl rfl (by rw[G];rfl)
 refine ao aa (z) (bN aa ?_)
 refine ao aa (z) (cO (wN F c) aa aa ?_)
 refine ak (cJ aa (z) aa ?_)
 refine ae 1 aa (dc (g:=aL) aa (fun A=>?_) (fun A=>?_))
 ·have G:iJ c=true:=by unfold iJ;rw[z,A];rfl
  refine aO aa (A) (aO aa (A) (ak (cT aa (A) aa ?_)))
  refine ae 1 aa (af ?_)
  refine ax ?_
  exact bx rfl rfl (by rw[G];rfl)
 have G:iJ c=decide (((c.toNat:Nat):Int)=Int.ofNat 95):=by unfold iJ;rw[z,A,gg];simp;omega
 refine ao aa (A) (bN aa ?_)
 refine ao aa (A) (hY aa aa ?_)
 refine ak (cJ aa (A) aa ?_)
 refine ae 1 aa (af ?_)
 refine ax ?_
 exact bx rfl rfl (by rw[G];rfl)
theorem PZ{T:bd}(F:FT T)(c:UInt8):Sound T 106 [.d (.i .u8 (c.toNat:Nat))] fun r=>r=dB (decide (c∈qz)):=by
 refine eh F.Z7 aa (al 1 aa (al 1 aa (aK (al 1 aa (bJ ?_)))))
 refine dY (fun k VE B=>∃i,i≤11∧k=11-i∧(∀x,x∈qz.take i→x≠c)∧br [(0,.d (.i .u8 (c.toNat:Nat))),(2,dB false),(3,dS qz),(4,dI (i:Nat))] VE∧br [] B) ?_ (k:=11) ⟨0,by decide,rfl,fun _ h=>(by cases h),⟨rfl,rfl,rfl,rfl,trivial⟩,trivial⟩
 rintro k VE B⟨i,hi,rfl,O,U,Y⟩
 refine dn _ _ U Y (aK (al 4 aa (aI aa (fun G=>?_) (fun G=>?_))))
 ·have I:i<11:=by simp[qz] at G;omega
  obtain⟨b,J⟩:=jD (s:=qz) (i:=i) I
  refine aQ (aK (bJ (ai (ae 2 aa (ak (fG aa aa J ?_))))))
  refine ae 1 aa (ak (hY aa aa ?_))
  refine af (aI aa (fun z=>?_) (fun z=>?_))
  ·have K:decide (c∈qz)=true:=by(obtain rfl:b=c:=UInt8.toNat_inj.1 (by simp at z;omega));simpa using kY J
   refine al 1 aa (ax ?_)
   exact bx rfl rfl (by rw[K];rfl)
  refine aQ (bD (ae 1 aa ?_))
  refine ak (cM rfl rfl (by omega) ?_)
  refine ae 1 aa (af ?_)
  exact⟨11-(i+1),by omega,i+1,by omega,rfl,fun x A=>by(rw[take_succ J] at A;rcases List.mem_append.1 A with A|A;exact O x A;rcases List.mem_singleton.1 A with rfl;exact fun e=>absurd z (by rw[e];simp)),⟨rfl,rfl,rfl,rfl,trivial⟩,trivial⟩
 have K:decide (c∈qz)=false:=by(have:i=11:=by simp[qz] at G;omega);subst this;exact decide_eq_false fun k=>O c k rfl
 refine dD (al 1 aa (ax ?_))
 exact bx rfl rfl (by rw[K];rfl)
set_option maxHeartbeats 1000000 in
theorem I5{T:bd}(F:FT T){k:Int}{t:List UInt8}(ho:EY k t)(ht:0<t.length)(hl:t.length≤4000):Sound T 107 [dS t,dI k] fun r=>r=dB true:=by
 refine eh F.Z8 aa (al 1 aa (aK (al 1 aa (bJ (dY (fun m VE B=>∃i,i≤t.length∧m=t.length-i∧br [(0,dS t),(1,dI k),(4,dB false),(5,dI (i:Nat))] VE∧br [] B) ?_ (k:=t.length) ⟨0,da _,aa,⟨aa,aa,aa,aa,trivial⟩,trivial⟩)))))
 rintro m VE B⟨i,hi,rfl,hV,hB⟩
 refine dn _ _ hV hB (aK (al 4 aa (aI aa (fun h9=>?_) (fun h9=>?_))))
 ·have hi9:i<t.length:=by simp at h9;omega
  obtain⟨c,Y⟩:=jD hi9
  have O:=kY Y
  refine aQ (aK (bJ (ai (ae 3 aa (dc (g:=aX) aa (fun I=>?_) (fun I=>?_))))))
  ·have hu:=ho.up (by simpa using I) c O
   refine ao aa (I) (bN aa ?_)
   refine ao aa (I) (bN aa ?_)
   refine ao aa (I) (fG aa aa Y ?_)
   refine ao aa (I) (cO (JI F c) aa aa ?_)
   refine ao aa (I) (jH aa ?_)
   refine ak (cT aa (I) aa ?_)
   refine ae 1 aa (dc (g:=bw) aa (fun K=>?_) (fun K=>?_))
   ·exact absurd K (by rw[hu];decide)
   refine ao aa (K) (bN aa ?_)
   refine ao aa (K) (hY aa aa ?_)
   refine ao aa (K) (bN aa ?_)
   refine dc (g:=bS) aa (fun A=>?_) (fun A=>?_)
   ·have Z:=ho.QM (by simpa using A) c O
    refine ao aa (A) (bN aa ?_)
    refine ao aa (A) (bN aa ?_)
    refine ao aa (A) (fG aa aa Y ?_)
    refine ao aa (A) (cO (JJ F c) aa aa ?_)
    refine ao aa (A) (jH aa ?_)
    refine ao aa (K) (cT aa (A) aa ?_)
    refine ak (cJ aa (K) aa ?_)
    refine ae 1 aa (dc (g:=cj) aa (fun G=>?_) (fun G=>?_))
    ·exact absurd G (by rw[Z];decide)
    refine ao aa (G) (bN aa ?_)
    refine ao aa (G) (hY aa aa ?_)
    refine ao aa (G) (bN aa ?_)
    refine dc (g:=cl) aa (fun z=>?_) (fun z=>?_)
    ·have U:=ho.oa (by simpa using z) c O
     refine ao aa (z) (bN aa ?_)
     refine ao aa (z) (bN aa ?_)
     refine ao aa (z) (fG aa aa Y ?_)
     refine ao aa (z) (cO (wN F c) aa aa ?_)
     refine ao aa (z) (jH aa ?_)
     refine ao aa (G) (cT aa (z) aa ?_)
     refine ak (cJ aa (G) aa ?_)
     refine af (aI aa (fun J=>?_) (fun J=>?_))
     ·exact absurd J (by rw[U];decide)
     refine aQ (bD (ae 1 aa ?_))
     refine ak (cM rfl rfl (by omega) ?_)
     refine ae 1 aa (af ?_)
     exact⟨t.length-(i+1),by omega,i+1,by omega,rfl,⟨rfl,rfl,rfl,rfl,trivial⟩,trivial⟩
    refine aO aa (z) (aO aa (z) (aO aa (z) (aO aa (z) (aO aa (z) (ao aa (G) (cJ aa (z) aa ?_))))))
    refine ak (cJ aa (G) aa ?_)
    refine af (eC aa aa (aQ (bD (ae 1 aa ?_))))
    refine ak (cM rfl rfl (by omega) ?_)
    refine ae 1 aa (af ?_)
    exact⟨t.length-(i+1),by omega,i+1,by omega,rfl,⟨rfl,rfl,rfl,rfl,trivial⟩,trivial⟩
   refine aO aa (A) (aO aa (A) (aO aa (A) (aO aa (A) (aO aa (A) (ao aa (K) (cJ aa (A) aa ?_))))))
   refine ak (cJ aa (K) aa ?_)
   refine ae 1 aa (ao aa aa (bN aa ?_))
   refine ao aa aa (hY aa aa ?_)
   refine ao aa aa (bN aa ?_)
   refine dc (g:=cl) aa (fun z=>?_) (fun z=>?_)
   ·have U:=ho.oa (by simpa using z) c O
    refine ao aa (z) (bN aa ?_)
    refine ao aa (z) (bN aa ?_)
    refine ao aa (z) (fG aa aa Y ?_)
    refine ao aa (z) (cO (wN F c) aa aa ?_)
    refine ao aa (z) (jH aa ?_)
    refine ao aa aa (cT aa (z) aa ?_)
    refine ae 1 aa (af ?_)
    refine aI aa (fun J=>?_) (fun J=>?_)
    ·exact absurd J (by rw[U];decide)
    refine aQ (bD (ae 1 aa ?_))
    refine ak (cM rfl rfl (by omega) ?_)
    refine ae 1 aa (af ?_)
    exact⟨t.length-(i+1),by omega,i+1,by omega,rfl,⟨rfl,rfl,rfl,rfl,trivial⟩,trivial⟩
   refine aO aa (z) (aO aa (z) (aO aa (z) (aO aa (z) (aO aa (z) (ao aa aa (cJ aa (z) aa ?_))))))
   refine ae 1 aa (af ?_)
   refine eC aa aa (aQ (bD (ae 1 aa ?_)))
   refine ak (cM rfl rfl (by omega) ?_)
   refine ae 1 aa (af ?_)
   exact⟨t.length-(i+1),by omega,i+1,by omega,rfl,⟨rfl,rfl,rfl,rfl,trivial⟩,trivial⟩
  refine aO aa (I) (aO aa (I) (aO aa (I) (aO aa (I) (aO aa (I) (ak (cJ aa (I) aa ?_))))))
  refine ae 1 aa (ao aa aa (bN aa ?_))
  refine ao aa aa (hY aa aa ?_)
  refine ao aa aa (bN aa ?_)
  refine dc (g:=bS) aa (fun A=>?_) (fun A=>?_)
  ·have Z:=ho.QM (by simpa using A) c O
   refine ao aa (A) (bN aa ?_)
   refine ao aa (A) (bN aa ?_)
   refine ao aa (A) (fG aa aa Y ?_)
   refine ao aa (A) (cO (JJ F c) aa aa ?_)
   refine ao aa (A) (jH aa ?_)
   refine ao aa aa (cT aa (A) aa ?_)
   refine ae 2 aa (dc (g:=cj) aa (fun G=>?_) (fun G=>?_))
   ·exact absurd G (by rw[Z];decide)
   refine ao aa (G) (bN aa ?_)
   refine ao aa (G) (hY aa aa ?_)
   refine ao aa (G) (bN aa ?_)
   refine dc (g:=cl) aa (fun z=>?_) (fun z=>?_)
   ·have U:=ho.oa (by simpa using z) c O
    refine ao aa (z) (bN aa ?_)
    refine ao aa (z) (bN aa ?_)
    refine ao aa (z) (fG aa aa Y ?_)
    refine ao aa (z) (cO (wN F c) aa aa ?_)
    refine ao aa (z) (jH aa ?_)
    refine ao aa (G) (cT aa (z) aa ?_)
    refine ak (cJ aa (G) aa ?_)
    refine af (aI aa (fun J=>?_) (fun J=>?_))
    ·exact absurd J (by rw[U];decide)
    refine aQ (bD (ae 1 aa ?_))
    refine ak (cM rfl rfl (by omega) ?_)
    refine ae 1 aa (af ?_)
    exact⟨t.length-(i+1),by omega,i+1,by omega,rfl,⟨rfl,rfl,rfl,rfl,trivial⟩,trivial⟩
   refine aO aa (z) (aO aa (z) (aO aa (z) (aO aa (z) (aO aa (z) (ao aa (G) (cJ aa (z) aa ?_))))))
   refine ak (cJ aa (G) aa ?_)
   refine af (eC aa aa (aQ (bD (ae 1 aa ?_))))
   refine ak (cM rfl rfl (by omega) ?_)
   refine ae 1 aa (af ?_)
   exact⟨t.length-(i+1),by omega,i+1,by omega,rfl,⟨rfl,rfl,rfl,rfl,trivial⟩,trivial⟩
  refine aO aa (A) (aO aa (A) (aO aa (A) (aO aa (A) (aO aa (A) (ao aa aa (cJ aa (A) aa ?_))))))
  refine ae 2 aa (ao aa aa (bN aa ?_))
  refine ao aa aa (hY aa aa ?_)
  refine ao aa aa (bN aa ?_)
  refine dc (g:=cl) aa (fun z=>?_) (fun z=>?_)
  ·have U:=ho.oa (by simpa using z) c O
   refine ao aa (z) (bN aa ?_)
   refine ao aa (z) (bN aa ?_)
   refine ao aa (z) (fG aa aa Y ?_)
   refine ao aa (z) (cO (wN F c) aa aa ?_)
   refine ao aa (z) (jH aa ?_)
   refine ao aa aa (cT aa (z) aa ?_)
   refine ae 1 aa (af ?_)
   refine aI aa (fun J=>?_) (fun J=>?_)
   ·exact absurd J (by rw[U];decide)
   refine aQ (bD (ae 1 aa ?_))
   refine ak (cM rfl rfl (by omega) ?_)
   refine ae 1 aa (af ?_)
   exact⟨t.length-(i+1),by omega,i+1,by omega,rfl,⟨rfl,rfl,rfl,rfl,trivial⟩,trivial⟩
  refine aO aa (z) (aO aa (z) (aO aa (z) (aO aa (z) (aO aa (z) (ao aa aa (cJ aa (z) aa ?_))))))
  refine ae 1 aa (af ?_)
  refine eC aa aa (aQ (bD (ae 1 aa ?_)))
  refine ak (cM rfl rfl (by omega) ?_)
  refine ae 1 aa (af ?_)
  exact⟨t.length-(i+1),by omega,i+1,by omega,rfl,⟨rfl,rfl,rfl,rfl,trivial⟩,trivial⟩
 refine dD (al 4 aa (ax ?_))
 exact bx rfl rfl (by refine congrArg (fun b=>VV.d (DC.b b)) ?_;simp;omega)
open Go
set_option maxRecDepth 10000
set_option maxHeartbeats 1000000 in
theorem NI{T:bd}(F:FT T){k:Int}(p:Int){t:List UInt8}(ho:EY k t)(O:t.length≤4000):Sound T 49 [.agg [dI k,dI p,dS t]] fun r=>r=dB (kB k t):=by
 refine eh F.f49 aa (al 2 aa (aK (al 2 aa (bJ (al 2 aa (aI aa (fun U=>?_) (fun U=>?_)))))))
 ·have hk:k=1:=by simpa using U
  have A:kB k t=decide (t.length≤20):=by unfold kB;rw[aj (by omega),aj (by omega)]
  have hp:=ho.ne (by omega)
  refine ai (ae 4 aa (ak (cO (I5 F ho hp O) aa aa ?_)))
  refine ae 1 aa (ao aa aa (dz aa ?_))
  refine ao aa aa (df aa aa aa ?_)
  refine ao aa aa (w9 aa ?_)
  refine ao aa aa (pU aa aa ?_)
  refine ae 2 aa (af ?_)
  refine ax ?_
  exact bx rfl rfl (by refine congrArg (fun b=>VV.d (DC.b b)) ?_;rw[A];rw[gg];simp;omega)
 refine al 2 aa (aI aa (fun G=>?_) (fun G=>?_))
 ·have hk:k=2:=by simpa using G
  have A:kB k t=decide (t.length≤20):=by unfold kB;rw[aj (by omega),aj (by omega)]
  have hp:=ho.ne (by omega)
  obtain⟨d,hd⟩:=jD hp
  have Y:=ho.low hk d hd
  refine ai (ae 4 aa (ak (cO (I5 F ho hp O) aa aa ?_)))
  refine ae 1 aa (ao aa aa (dz aa ?_))
  refine ao aa aa (df aa aa aa ?_)
  refine ao aa aa (fG aa aa hd ?_)
  refine ao aa aa (cO (I4 F d) aa aa ?_)
  refine ae 2 aa (dc (g:=cf) aa (fun z=>?_) (fun z=>?_))
  ·refine ao aa (z) (dz aa ?_)
   refine ao aa (z) (df aa aa aa ?_)
   refine ao aa (z) (w9 aa ?_)
   refine ao aa (z) (pU aa aa ?_)
   refine ak (cT aa (z) aa ?_)
   refine ae 1 aa (af ?_)
   refine ax ?_
   exact bx rfl rfl (by refine congrArg (fun b=>VV.d (DC.b b)) ?_;rw[A];rw[gg];simp;omega)
  exact absurd z (by rw[Y];decide)
 refine al 2 aa (aI aa (fun I=>?_) (fun I=>?_))
 ·have hk:k=3:=by simpa using I
  have A:kB k t=decide (t.length≤19):=aw hk
  have hp:=ho.ne (by omega)
  refine ai (ae 4 aa (ak (cO (I5 F ho hp O) aa aa ?_)))
  refine ae 1 aa (ao aa aa (dz aa ?_))
  refine ao aa aa (df aa aa aa ?_)
  refine ao aa aa (w9 aa ?_)
  refine ao aa aa (pU aa aa ?_)
  refine ae 2 aa (af ?_)
  refine ax ?_
  exact bx rfl rfl (by refine congrArg (fun b=>VV.d (DC.b b)) ?_;rw[A];rw[gg];simp;omega)
 refine al 2 aa (aI aa (fun J=>?_) (fun J=>?_))
 ·have hk:k=4:=by simpa using J
  have A:kB k t=decide (t.length≤200):=by unfold kB;rw[aj (by omega),aw hk]
  refine al 5 aa (ax ?_)
  exact bx rfl rfl (by refine congrArg (fun b=>VV.d (DC.b b)) ?_;rw[A];rw[gg];simp;omega)
 refine al 2 aa (aI aa (fun K=>?_) (fun K=>?_))
 ·have hk:k=5:=by simpa using K
  obtain⟨d,rfl,Z⟩:=ho.sgn hk
  have A:kB k [d]=true:=by unfold kB;rw[aj (by omega),aj (by omega)];rfl
  refine ai (ae 5 aa (ao aa aa (dz aa ?_)))
  refine ao aa aa (df aa aa aa ?_)
  refine ao aa aa (fG (j:=0) (c:=d) aa aa aa ?_)
  refine ao aa aa (cO (PZ F d) aa aa ?_)
  refine ae 2 aa (af ?_)
  refine ax ?_
  exact bx rfl rfl (by refine congrArg (fun b=>VV.d (DC.b b)) ?_;rw[A];simpa using Z)
 exact absurd ho.kind (by simp at U G I J K;omega)
open Go
set_option maxRecDepth 10000
set_option maxHeartbeats 4000000 in
theorem abO{T:bd}(F:FT T){s:List UInt8}{i:Nat}{c:UInt8}(hc:s[i]?=some c)(hi:i<s.length)(hl:s.length≤4000):Sound T 48 [dS s,dI (i:Nat)] fun r=>r=qh (cu s i c) i s.length:=by
 refine eh F.f48 aa (al 4 aa (ai (ae 1 aa ?_)))
 refine ak (cM rfl rfl (by omega) ?_)
 refine ae 1 aa (af ?_)
 refine aK (bJ (ai (ae 2 aa (ak (fG aa aa hc ?_)))))
 refine ak (cO (JI F c) aa aa ?_)
 refine ae 1 aa (af ?_)
 refine aI aa (fun O=>?_) (fun O=>?_)
 ·have U:=rk (P:=kP) hc O
  have K:cu s i c=⟨1,cut s i (runM kP s i),runM kP s i,0⟩:=by unfold cu;rw[aw O]
  refine aK (bJ (dY (fun k VE B=>∃j,i+1≤j∧j≤s.length∧k=s.length-j∧runM kP s j=runM kP s i∧br [(0,dS s),(1,dI (i:Nat)),(4,d0),(5,d0),(6,dS []),(7,dB false),(8,dI (j:Nat))] VE∧br [] B) ?_ (k:=s.length-(i+1)) ⟨i+1,bV _,hi,aa,U.symm,⟨aa,aa,aa,aa,aa,aa,aa,trivial⟩,trivial⟩))
  rintro k VE B⟨j,QQ,hj,rfl,Y,hV,hB⟩
  refine dn _ _ hV hB (aK (ai (ae 5 aa (dc (g:=bw) aa (fun A=>?_) (fun A=>?_)))))
  ·have Z:j<s.length:=by simp at A;omega
   obtain⟨d,J⟩:=jD Z
   refine ao aa (A) (bN aa ?_)
   refine ao aa (A) (bN aa ?_)
   refine ao aa (A) (fG aa aa J ?_)
   refine ao aa (A) (cO (JI F d) aa aa ?_)
   refine ak (cT aa (A) aa ?_)
   refine af (aI aa (fun nM=>?_) (fun nM=>?_))
   ·refine aQ (bJ (bD (ae 1 aa ?_)))
    refine ak (cM rfl rfl (by omega) ?_)
    refine ae 1 aa (af ?_)
    exact⟨s.length-(j+1),by omega,j+1,by omega,by omega,rfl,by rw[←rk J nM,Y],⟨rfl,rfl,rfl,rfl,rfl,rfl,rfl,trivial⟩,trivial⟩
   rw[Ap J nM] at Y
   refine dD (eZ (bk 4 aa ?_))
   refine c8 (kh (l:=i) (h:=j) rfl ⟨_,rfl⟩ ⟨_,rfl⟩ (by omega) hj ?_)
   refine bk 4 aa (c6 ?_)
   refine ax ?_
   rw[←Y] at K
   exact bx rfl rfl (by unfold qh;rw[K];rfl)
  rw[Aq (by simp at A;omega)] at Y
  refine aO aa (A) (aO aa (A) (aO aa (A) (aO aa (A) (ak (cJ aa (A) aa ?_)))))
  refine af (eC aa aa (dD (eZ (bk 4 aa ?_))))
  refine c8 (kh (l:=i) (h:=j) rfl ⟨_,rfl⟩ ⟨_,rfl⟩ (by omega) hj ?_)
  refine bk 4 aa (c6 ?_)
  refine ax ?_
  rw[←Y] at K
  exact bx rfl rfl (by unfold qh;rw[K];rfl)
 refine ai (ae 2 aa (ak (fG aa aa hc ?_)))
 refine ak (cO (I4 F c) aa aa ?_)
 refine ae 1 aa (af ?_)
 refine aI aa (fun qV=>?_) (fun qV=>?_)
 ·have U:=rk (P:=iJ) hc (by unfold iJ;rw[qV];rfl)
  have K:cu s i c=⟨2,cut s i (runM iJ s i),runM iJ s i,0⟩:=by unfold cu;rw[aj (by rw[O];decide),aw qV]
  refine aK (bJ (dY (fun k VE B=>∃j,i+1≤j∧j≤s.length∧k=s.length-j∧runM iJ s j=runM iJ s i∧br [(0,dS s),(1,dI (i:Nat)),(4,d0),(5,d0),(6,dS []),(7,dB false),(8,dI (j:Nat))] VE∧br [] B) ?_ (k:=s.length-(i+1)) ⟨i+1,bV _,hi,aa,U.symm,⟨aa,aa,aa,aa,aa,aa,aa,trivial⟩,trivial⟩))
  rintro k VE B⟨j,QQ,hj,rfl,Y,hV,hB⟩
  refine dn _ _ hV hB (aK (ai (ae 5 aa (dc (g:=dM) aa (fun G=>?_) (fun G=>?_)))))
  ·have Z:j<s.length:=by simp at G;omega
   obtain⟨d,J⟩:=jD Z
   refine ao aa (G) (bN aa ?_)
   refine ao aa (G) (bN aa ?_)
   refine ao aa (G) (fG aa aa J ?_)
   refine ao aa (G) (cO (JJ F d) aa aa ?_)
   refine ak (cT aa (G) aa ?_)
   refine af (aI aa (fun rY=>?_) (fun rY=>?_))
   ·refine aQ (bJ (bD (ae 1 aa ?_)))
    refine ak (cM rfl rfl (by omega) ?_)
    refine ae 1 aa (af ?_)
    exact⟨s.length-(j+1),by omega,j+1,by omega,by omega,rfl,by rw[←rk J rY,Y],⟨rfl,rfl,rfl,rfl,rfl,rfl,rfl,trivial⟩,trivial⟩
   rw[Ap J rY] at Y
   refine dD (eZ (bk 4 aa ?_))
   refine c8 (kh (l:=i) (h:=j) rfl ⟨_,rfl⟩ ⟨_,rfl⟩ (by omega) hj ?_)
   refine bk 4 aa (c6 ?_)
   refine ax ?_
   rw[←Y] at K
   exact bx rfl rfl (by unfold qh;rw[K];rfl)
  rw[Aq (by simp at G;omega)] at Y
  refine aO aa (G) (aO aa (G) (aO aa (G) (aO aa (G) (ak (cJ aa (G) aa ?_)))))
  refine af (eC aa aa (dD (eZ (bk 4 aa ?_))))
  refine c8 (kh (l:=i) (h:=j) rfl ⟨_,rfl⟩ ⟨_,rfl⟩ (by omega) hj ?_)
  refine bk 4 aa (c6 ?_)
  refine ax ?_
  rw[←Y] at K
  exact bx rfl rfl (by unfold qh;rw[K];rfl)
 refine ai (ae 2 aa (ak (fG aa aa hc ?_)))
 refine ak (cO (wN F c) aa aa ?_)
 refine ae 1 aa (af ?_)
 refine aI aa (fun vu=>?_) (fun vu=>?_)
 ·have U:=rk (P:=gV) hc vu
  have K:cu s i c=⟨3,cut s i (runM gV s i),runM gV s i,0⟩:=by unfold cu;rw[aj (by rw[O];decide),aj (by rw[qV];decide),aw vu]
  refine aK (bJ (dY (fun k VE B=>∃j,i+1≤j∧j≤s.length∧k=s.length-j∧runM gV s j=runM gV s i∧br [(0,dS s),(1,dI (i:Nat)),(4,d0),(5,d0),(6,dS []),(7,dB false),(8,dI (j:Nat))] VE∧br [] B) ?_ (k:=s.length-(i+1)) ⟨i+1,bV _,hi,aa,U.symm,⟨aa,aa,aa,aa,aa,aa,aa,trivial⟩,trivial⟩))
  rintro k VE B⟨j,QQ,hj,rfl,Y,hV,hB⟩
  refine dn _ _ hV hB (aK (ai (ae 5 aa (dc (g:=fD) aa (fun I=>?_) (fun I=>?_)))))
  ·have Z:j<s.length:=by simp at I;omega
   obtain⟨d,J⟩:=jD Z
   refine ao aa (I) (bN aa ?_)
   refine ao aa (I) (bN aa ?_)
   refine ao aa (I) (fG aa aa J ?_)
   refine ao aa (I) (cO (wN F d) aa aa ?_)
   refine ak (cT aa (I) aa ?_)
   refine af (aI aa (fun BZ=>?_) (fun BZ=>?_))
   ·refine aQ (bJ (bD (ae 1 aa ?_)))
    refine ak (cM rfl rfl (by omega) ?_)
    refine ae 1 aa (af ?_)
    exact⟨s.length-(j+1),by omega,j+1,by omega,by omega,rfl,by rw[←rk J BZ,Y],⟨rfl,rfl,rfl,rfl,rfl,rfl,rfl,trivial⟩,trivial⟩
   rw[Ap J BZ] at Y
   refine dD (eZ (bk 4 aa ?_))
   refine c8 (kh (l:=i) (h:=j) rfl ⟨_,rfl⟩ ⟨_,rfl⟩ (by omega) hj ?_)
   refine bk 4 aa (c6 ?_)
   refine ax ?_
   rw[←Y] at K
   exact bx rfl rfl (by unfold qh;rw[K];rfl)
  rw[Aq (by simp at I;omega)] at Y
  refine aO aa (I) (aO aa (I) (aO aa (I) (aO aa (I) (ak (cJ aa (I) aa ?_)))))
  refine af (eC aa aa (dD (eZ (bk 4 aa ?_))))
  refine c8 (kh (l:=i) (h:=j) rfl ⟨_,rfl⟩ ⟨_,rfl⟩ (by omega) hj ?_)
  refine bk 4 aa (c6 ?_)
  refine ax ?_
  rw[←Y] at K
  exact bx rfl rfl (by unfold qh;rw[K];rfl)
 refine ai (ae 2 aa (ak (fG aa aa hc ?_)))
 refine ak (cO (PZ F c) aa aa ?_)
 refine ae 1 aa (af ?_)
 refine aI aa (fun tA=>?_) (fun tA=>?_)
 ·have hn:¬c=39:=by rintro rfl;exact absurd tA (by decide)
  have K:cu s i c=⟨5,cut s i (i+1),i+1,0⟩:=by unfold cu;rw[aj (by rw[O];decide),aj (by rw[qV];decide),aj (by rw[vu];decide),aj hn,aw (by simpa using tA)]
  refine eZ (bk 4 aa ?_)
  refine c8 (kh (l:=i) (h:=i+1) rfl ⟨_,rfl⟩ ⟨_,rfl⟩ (by omega) (by omega) ?_)
  refine bk 4 aa (c6 ?_)
  refine ax ?_
  exact bx rfl rfl (by unfold qh;rw[K];rfl)
 refine ai (ae 2 aa (ak (fG aa aa hc ?_)))
 refine ae 2 aa (af ?_)
 refine aI aa (fun JK=>?_) (fun JK=>?_)
 ·have hn:¬c=39:=by rintro rfl;simp at JK
  have K:cu s i c=⟨0,[],0,5⟩:=by unfold cu;rw[aj (by rw[O];decide),aj (by rw[qV];decide),aj (by rw[vu];decide),aj hn,aj (by simpa using tA)]
  refine al 5 aa (ax ?_)
  exact bx rfl rfl (by unfold qh;rw[K];rfl)
 obtain rfl:c=39:=rO 39 (by simp at JK;omega) rfl
 have nN:cu s i 39=(match jQ s (i+1) [] with|some x=>⟨4,x.1,x.2,0⟩|none=>⟨4,[],0,2⟩):=by unfold cu;rw[aj (by rw[O];decide),aj (by rw[qV];decide),aj (by rw[vu];decide),aw rfl];rfl
 refine aQ (al 1 aa (aK (G1 9 1101 5 1 1 aa aa (bJ (dY (fun k VE B=>∃(j:Nat)(b:List UInt8),j≤s.length∧k=s.length-j∧jQ s j b=jQ s (i+1) []∧b.length≤j∧br [(0,dS s),(1,dI (i:Nat)),(4,d0),(5,d0),(6,dS []),(7,dB false),(8,dI (j:Nat)),(9,.ac 1101 (b.map fE).length 1)] VE∧br [(1101,.acc 5 1 1 (b.map fE))] B) ?_ (k:=s.length-(i+1)) ⟨i+1,[],hi,aa,aa,da _,⟨aa,aa,aa,aa,aa,aa,aa,aa,trivial⟩,aa,trivial⟩)))))
 rintro k VE B⟨j,b,hj,rfl,hq,Bu,hV,hB⟩
 refine dn _ _ hV hB (aK (al 4 aa (aI aa (fun qU=>?_) (fun qU=>?_))))
 ·have Z:j<s.length:=by simp at qU;omega
  obtain⟨c,J⟩:=jD Z
  refine aQ (bJ (aK (ai (ae 2 aa (ak (fG aa aa J ?_))))))
  refine ae 1 aa (af ?_)
  refine aI aa (fun I6=>?_) (fun I6=>?_)
  ·have hn:¬c=39:=by rintro rfl;simp at I6
   refine ai (ae 3 aa (ak (fG aa aa J ?_)))
   refine ae 1 aa ?_
   refine ak (dZ (rows:=b.map fE) (ys:=[fE c]) rfl rfl rfl (.bs (rows:=[fE c]) rfl) (bO rfl) (by rw[bC,bZ];simp only[cP,dx];omega) (fun h=>by rw[h];rfl) (fun h=>by rw[h];rfl) ?_)
   refine ae 1 aa (af ?_)
   refine ai (ae 1 aa ?_)
   refine ak (cM rfl rfl (by omega) ?_)
   refine ae 1 aa (af ?_)
   refine dD ?_
   exact⟨s.length-(j+1),by omega,j+1,b++[c],by omega,rfl,by rw[←NF J hn,hq],by simp only[bC,cP,dx];omega,by rw[dr];exact⟨rfl,rfl,rfl,rfl,rfl,rfl,rfl,rfl,trivial⟩,by rw[dr];exact rfl,trivial⟩
  obtain rfl:c=39:=rO 39 (by simp at I6;omega) rfl
  refine aQ (aK (ai (ae 1 aa ?_)))
  refine ak (cM rfl rfl (by omega) ?_)
  refine ae 4 aa (dc (g:=nV) aa (fun z=>?_) (fun z=>?_))
  ·have QP:j+1<s.length:=by simp at z;omega
   obtain⟨d,tq⟩:=jD QP
   refine ao aa (z) (bN aa ?_)
   refine ao aa (z) (bN aa ?_)
   refine ao rfl (z) (cM rfl rfl (by omega) ?_)
   refine ao aa (z) (fG aa aa tq ?_)
   refine ao aa (z) (hY aa aa ?_)
   refine ak (cT aa (z) aa ?_)
   refine af (aI aa (fun I7=>?_) (fun I7=>?_))
   ·obtain rfl:d=39:=rO 39 (by simp at I7;omega) rfl
    refine ai (ae 2 aa ?_)
    refine ak (dZ (rows:=b.map fE) (ys:=[fE 39]) rfl rfl rfl (.bs (rows:=[fE 39]) rfl) (bO rfl) (by rw[bC,bZ];simp only[cP,dx];omega) (fun h=>by rw[h];rfl) (fun h=>by rw[h];rfl) ?_)
    refine ae 1 aa (af ?_)
    refine ai (ae 1 aa ?_)
    refine ak (jX rfl rfl (by simp only[bb];omega) (by simp only[bb];omega) ?_)
    rw[show((j:Nat):Int)+Int.ofNat 2=((j+2:Nat):Int) from rfl]
    refine ae 1 aa (af ?_)
    refine dD ?_
    exact⟨s.length-(j+2),by omega,j+2,b++[39],by omega,rfl,by rw[←MY J tq,hq],by simp only[bC,cP,dx];omega,by rw[dr];exact⟨rfl,rfl,rfl,rfl,rfl,rfl,rfl,rfl,trivial⟩,by rw[dr];exact rfl,trivial⟩
   rw[Du J (fun d2 QR=>by(rw[tq] at QR;cases QR;rintro rfl;simp at I7))] at hq
   rw[←hq] at nN
   refine aQ (eZ (bk 1 aa ?_))
   refine c8 (cM rfl rfl (by omega) ?_)
   refine bk 1 aa ?_
   rw[bZ]
   refine eo aa (GR aa aa ?_)
   refine bk 4 aa (c6 ?_)
   refine ax ?_
   exact bx rfl rfl (by unfold qh;rw[nN];rfl)
  rw[Du J (fun d J=>absurd (List.getElem?_eq_some_iff.1 J).1 (by simp at z;omega))] at hq
  rw[←hq] at nN
  refine aO aa (z) (aO aa (z) (aO aa (z) (aO aa (z) (aO aa (z) (ak (cJ aa (z) aa ?_))))))
  refine af (eC aa aa (aQ (eZ (bk 1 aa ?_))))
  refine c8 (cM rfl rfl (by omega) ?_)
  refine bk 1 aa ?_
  rw[bZ]
  refine eo aa (GR aa aa ?_)
  refine bk 4 aa (c6 ?_)
  refine ax ?_
  exact bx rfl rfl (by unfold qh;rw[nN];rfl)
 rw[NG (by simp at qU;omega)] at hq
 rw[←hq] at nN
 have hje:j=s.length:=by simp at qU;omega
 refine dD (al 5 aa (ax ?_))
 subst hje
 exact bx rfl rfl (by unfold qh;rw[nN];rfl)
open Go
set_option maxRecDepth 10000
section
variable{s:List UInt8}{i:Nat}{c:UInt8}
theorem GB:(cu s i c).err=0∧(cu s i c).kind≠0∨(cu s i c).err=2∧(cu s i c).kind≠0∨(cu s i c).err=5∧(cu s i c).kind=0:=by
 unfold cu
 split
 ·exact .inl ⟨rfl,(by decide:(1:Int)≠0)⟩
 split
 ·exact .inl ⟨rfl,(by decide:(2:Int)≠0)⟩
 split
 ·exact .inl ⟨rfl,(by decide:(3:Int)≠0)⟩
 split
 ·cases jQ s (i+1) [] with
  |none=>exact .inr (.inl ⟨rfl,(by decide:(4:Int)≠0)⟩)
  |some x=>exact .inl ⟨rfl,(by decide:(4:Int)≠0)⟩
 split
 ·exact .inl ⟨rfl,(by decide:(5:Int)≠0)⟩
 exact .inr (.inr ⟨aa,aa⟩)
theorem Ww(h:(cu s i c).kind=0):(cu s i c).err=5:=by
 rcases GB (s:=s) (i:=i) (c:=c) with⟨_,k⟩|⟨_,k⟩|⟨k,_⟩
 ·exact absurd h k
 ·exact absurd h k
 exact k
theorem Vt(h:(cu s i c).err=5):(cu s i c).kind=0:=by
 rcases GB (s:=s) (i:=i) (c:=c) with⟨k,_⟩|⟨k,_⟩|⟨_,k⟩
 ·rw[k] at h;exact absurd h (by decide)
 ·rw[k] at h;exact absurd h (by decide)
 exact k
theorem Uc(h:¬(cu s i c).err=5)(h2:¬(cu s i c).err=2):(cu s i c).err=0:=by
 rcases GB (s:=s) (i:=i) (c:=c) with⟨k,_⟩|⟨k,_⟩|⟨k,_⟩
 ·exact k
 ·exact absurd k h2
 exact absurd k h
theorem Ud(I:s[i]?=some c)(h:(cu s i c).err=0)(J:s.length≤4000):(cu s i c).text.length≤4000:=by
 have z:∀j,(cut s i j).length≤4000:=fun j=>by unfold cut;rw[jw,gy];omega
 unfold cu
 split
 ·exact z _
 split
 ·exact z _
 split
 ·exact z _
 split
 ·cases A:jQ s (i+1) [] with
  |none=>exact da _
  |some x=>
   unfold jQ at A
   obtain⟨y,G,rfl⟩:=Option.map_eq_some_iff.1 A
   obtain⟨_,h2,K⟩:=C2 _ _ G
   rw[gy] at h2
   show([]++y.1).length≤4000
   rw[E8];omega
 split
 ·exact z _
 exact da _
end
set_option maxHeartbeats 1000000 in
theorem EZ{T:bd}(F:FT T)(s:List UInt8):Sound T 21 [dS s] fun r=>r=EX (eE s):=by
 refine eh F.f21 aa (al 3 aa (aK (al 3 aa (aI aa (fun K=>?_) (fun K=>?_)))))
 ·have hm:eE s=([],0,4):=aw (by simp at K;omega)
  refine al 3 aa (ax ?_)
  exact bx rfl rfl (by rw[hm];rfl)
 have hl:s.length≤4000:=by simp at K;omega
 have nN:eE s=lA s (s.length+1) (runM l9 s 0) []:=aj (by omega)
 refine aQ (al 1 aa (al 1 aa (aK (G1 5 1101 69 32 3 aa aa (bJ ?_)))))
 refine dY (fun m VE B=>∃(k i:Nat)(out:List cb),lA s k (runM l9 s i) out=eE s∧i≤s.length∧m=s.length-i∧s.length+1≤i+k∧out.length≤1000∧br [(0,dS s),(2,dN),(3,d0),(4,d0),(5,.ac 1101 (out.map cb.enc).length 3),(6,dI (i:Nat))] VE∧br [(1101,.acc 69 32 3 (out.map cb.enc))] B) ?_ (k:=s.length) ⟨s.length+1,0,[],nN.symm,da _,rfl,by omega,by decide,⟨rfl,rfl,rfl,rfl,rfl,rfl,trivial⟩,rfl,trivial⟩
 rintro m VE B⟨k,i,out,z,hi,rfl,hk,ho,hV,hB⟩
 obtain⟨k,rfl⟩:∃k',k=k'+1:=⟨k-1,by omega⟩
 refine dn _ _ hV hB (aK (al 4 aa (aI aa (fun I=>?_) (fun I=>?_))))
 ·have m9:i<s.length:=by simp at I;omega
  obtain⟨c,J⟩:=jD m9
  have A:=M1 (k:=k) (out:=out) J
  refine aQ (bJ (aK (ai (ae 2 aa (ak (fG aa aa J ?_))))))
  refine ak (cO (rsp F c) aa aa ?_)
  refine af (aI aa (fun O=>?_) (fun O=>?_))
  ·refine ai (ae 1 aa ?_)
   refine ak (cM rfl rfl (by omega) ?_)
   refine ae 1 aa (af ?_)
   refine dD ?_
   exact⟨s.length-(i+1),by omega,k+1,i+1,out,by rw[←rk J O];exact z,by omega,rfl,by omega,ho,⟨rfl,rfl,rfl,rfl,rfl,rfl,trivial⟩,rfl,trivial⟩
  rw[Ap J O] at z
  refine aQ (ai (ae 2 aa (ak (cO (abO F J m9 hl) aa aa ?_))))
  refine ae 9 aa (af ?_)
  refine al 6 aa (aK (bJ (al 3 aa (aI aa (fun U=>?_) (fun U=>?_)))))
  ·have he:(cu s i c).err=5:=Ww (by simpa using U)
   rw[aw (by rw[he];decide),he] at A
   rw[A] at z
   refine al 4 aa (ax ?_)
   exact bx rfl rfl (by rw[←z];rfl)
  have h5:¬(cu s i c).err=5:=fun e=>absurd U (by rw[Vt e];decide)
  refine al 3 aa (aI aa (fun Y=>?_) (fun Y=>?_))
  ·have he:(cu s i c).err=2:=by simpa using Y
   rw[aw (by rw[he];decide),he] at A
   rw[A] at z
   refine al 4 aa (ax ?_)
   exact bx rfl rfl (by rw[←z];rfl)
  have he:(cu s i c).err=0:=Uc h5 (by simpa using Y)
  have hst:=GS J he
  have Bz:=MZ J he
  rw[aj (fun k=>k he)] at A
  rw[show(if(cu s i c).err=5 then i+1 else if(cu s i c).err=2 then s.length else(cu s i c).stop)=(cu s i c).stop by rw[he];rfl]
  refine ai (ae 1 aa (ak (cO (NI F (i:Nat) Bz (Ud J he hl)) aa aa ?_)))
  refine ae 2 aa (dc (g:=d9) aa (fun G=>?_) (fun G=>?_))
  ·rw[aw (fun k=>by rw[k.1] at G;cases G)] at A
   rw[A] at z
   refine aO aa (G) (aO aa (G) (aO aa (G) (ak (cT aa (G) aa ?_))))
   refine ae 1 aa (af ?_)
   refine fm aa aa (al 4 aa (ax ?_))
   exact bx rfl rfl (by rw[←z];rfl)
  refine ao aa (G) (bN aa ?_)
  refine ao aa (G) (xv aa ?_)
  refine ao aa (G) (Am aa aa ?_)
  refine ak (cJ aa (G) aa ?_)
  refine ae 1 aa (af ?_)
  refine aI aa (fun Z=>?_) (fun Z=>?_)
  ·rw[aw (fun k=>by(have:=k.2;simp at Z;omega))] at A
   rw[A] at z
   refine al 4 aa (ax ?_)
   exact bx rfl rfl (by rw[←z];rfl)
  have nH:out.length<1000:=by simp at Z;omega
  rw[aj (fun k=>k ⟨by simpa using G,nH⟩)] at A
  rw[A] at z
  refine aQ (ai (ae 3 aa ?_))
  refine ak (dZ (rows:=out.map cb.enc) (ys:=[(⟨(cu s i c).kind,(i:Nat),(cu s i c).text⟩:cb).enc]) rfl rfl rfl (.bs (rows:=[(⟨(cu s i c).kind,(i:Nat),(cu s i c).text⟩:cb).enc]) rfl) (bO rfl) (by rw[bC,bZ];simp only[cP,dx];omega) (fun h=>by rw[h];rfl) (fun h=>by rw[h];rfl) ?_)
  refine ae 1 aa (af ?_)
  refine bD (ae 2 aa (af ?_))
  refine⟨s.length-(cu s i c).stop,by omega,k,(cu s i c).stop,out++[(⟨(cu s i c).kind,(i:Nat),(cu s i c).text⟩:cb)],z,hst.2,rfl,by omega,?_,?_,?_⟩
  ·rw[bC,dU];omega
  ·rw[dr];exact⟨rfl,rfl,rfl,rfl,rfl,rfl,trivial⟩
  rw[dr];exact⟨rfl,trivial⟩
 rw[Aq (by simp at I;omega)] at z
 have JH:lA s (k+1) i out=(out++[⟨6,(s.length:Nat),[]⟩],0,0):=by unfold lA;rw[List.getElem?_eq_none_iff.2 (by simp at I;omega)]
 rw[JH] at z
 refine dD (ai (ae 5 aa ?_))
 refine ak (dZ (rows:=out.map cb.enc) (ys:=[(⟨6,(s.length:Nat),[]⟩:cb).enc]) rfl rfl rfl (.bs (rows:=[(⟨6,(s.length:Nat),[]⟩:cb).enc]) rfl) (bO rfl) (by rw[bC,bZ];simp only[cP,dx];omega) (fun h=>by rw[h];rfl) (fun h=>by rw[h];rfl) ?_)
 refine fo 65 1101 aa aa (fun _=>⟨aa,aa⟩) (ae 3 aa (af ?_))
 refine ax ?_
 exact bx rfl rfl (by rw[←z];unfold EX;rw[dr];rfl)
end Go.Ev.Pp
namespace Go.Ev
open Go
variable{T:bd}{VE:b0}{B:bo}{Q:VV→bo→Prop}
def qH(n:Nat)(d:DC):Prop:=∃a:List UInt8,d=cB a∧a.length≤n
def JL(n:Nat):DC→Bool
 |.s l v=>Nat.beq (pj l v).length l&&(Nat.beq (pack (pj l v)) v&&Nat.ble l n)
 |_=>false
theorem iP{n:Nat}{d:DC}(h:JL n d=true):qH n d:=by
 unfold JL at h
 split at h
 ·rename_i l v
  simp only[fc] at h
  have z:=eb h.1
  have h2:=eb h.2.1
  exact⟨pj l v,by unfold cB;rw[z,h2],by rw[z];exact bO h.2.2⟩
 cases h
theorem qH.mono{n m:Nat}{d:DC}(h:qH n d)(z:n≤m):qH m d:=let⟨a,A,h2⟩:=h;⟨a,A,j7 h2 z⟩
def Vu(n k:Nat)(rows:List (List DC)):Prop:=rows.length=k∧∀j,j<k→∃d,rows[j]?=some [d]∧qH n d
def I8(n:Nat):List (List DC)→Bool
 |[]=>true
 |[d]::r=>JL n d&&I8 n r
 |_=>false
theorem C3{n k:Nat}{rows:List (List DC)}(h:I8 n rows=true)(hk:rows.length=k):Vu n k rows:=by
 subst hk
 refine⟨aa,?_⟩
 induction rows with
 |nil=>intro j z;cases z
 |cons r rs A=>
  match r,h with
  |[d],h=>
   simp only[I8,fc] at h
   intro j z
   cases j with
   |zero=>exact⟨d,rfl,iP h.1⟩
   |succ j=>exact A h.2 j (NM z)
theorem gM{x y:aF}{n m:Nat}{a b:DC}(A:x.vv VE=some (.d a))(z:qH n a)(G:y.vv VE=some (.d b))(h2:qH m b)(J:n+m≤4611686018427387904)(I:∀c,qH (n+m) c→Q (.d c) B):VI T (.bin .add x y) VE B [] Q:=by
 obtain⟨s,rfl,z⟩:=z
 obtain⟨t,rfl,h2⟩:=h2
 exact CU A G (by omega) (I _ ⟨_,rfl,by rw[bC];omega⟩)
theorem tU{x y:aF}{k:IntKind}{a b:Nat}(z:x.vv VE=some (.d (.i k (a:Int))))(A:y.vv VE=some (.d (.i k (b:Int))))(h0:0<b)(G:Q (.d (.i k ((a % b:Nat):Int))) B):VI T (.bin .rem x y) VE B [] Q:=
 ME z A (by cases b with
  |zero=>cases h0
  |succ b=>rfl) (by rw[show(a:Int).tmod (b:Int)=((a % b:Nat):Int) from(Int.ofNat_tmod a b).symm];exact G)
theorem Ue{x y:aF}{k:IntKind}{a b:Nat}(z:x.vv VE=some (.d (.i k (a:Int))))(A:y.vv VE=some (.d (.i k (b:Int))))(h0:0<b)(G:k.wrap ((a/b:Nat):Int)=((a/b:Nat):Int))(I:Q (.d (.i k ((a/b:Nat):Int))) B):VI T (.bin .quo x y) VE B [] Q:=
 MD z A (by cases b with
  |zero=>cases h0
  |succ b=>rfl) (by rw[show(a:Int).tdiv (b:Int)=((a/b:Nat):Int) from(Int.ofNat_tdiv a b).symm,G];exact I)
open Go
variable{T:bd}
section
variable{H:az}{X:Nat→Prop}
theorem fv.drop{f g es:Nat}:∀(n:Nat){q:Nat}{rows:List (List DC)},fv H X f g es q rows→fv H X f g es (q+n) (rows.drop n)
 |0,_,_,h=>h
 |n+1,_,[],_=>trivial
 |n+1,q,r::rs,h=>by
  simp only[fv] at h
  have:=fv.drop n h.2
  rw[show q+1+n=q+(n+1) by omega] at this
  exact this
theorem fv.take{f g es:Nat}:∀(n:Nat){q:Nat}{rows:List (List DC)},fv H X f g es q rows→fv H X f g es q (rows.take n)
 |0,_,_,_=>trivial
 |n+1,_,[],_=>trivial
 |n+1,q,r::rs,h=>by
  simp only[fv,wa] at h⊢
  exact⟨h.1,fv.take n h.2⟩
end
variable{VE:b0}{B:bo}{Q:VV→bo→Prop}
def pD(rows:List (List DC))(d:DC):Prop:=d= .sl rows∨rows=[]∧d= .nil
theorem pD.acc(rows:List (List DC)):pD rows (.e9 rows):=by
 cases rows with
 |nil=>exact .inr ⟨rfl,rfl⟩
 |cons r s=>exact .inl rfl
theorem C4{x:aF}{rows:List (List DC)}{d:DC}(z:x.vv VE=some (.d d))(G:pD rows d)(A:Q (.d (.i .i64 (rows.length:Nat))) B):VI T (.len x) VE B [] Q:=by
 rcases G with rfl|⟨rfl,rfl⟩
 ·exact Ak z A
 exact CN z A
theorem vT{x i:aF}{es j:Nat}{k:IntKind}{rows:List (List DC)}{row:List DC}{d:DC}(A:x.vv VE=some (.d d))(G:pD rows d)(hi:i.vv VE=some (.d (.i k (j:Int))))(z:rows[j]?=some row)(I:row.length=es)(J:Q (.rp row 0) B):VI T (.dV es x i) VE B [] Q:=by
 rcases G with rfl|⟨rfl,rfl⟩
 ·exact kR A hi z I J
 simp at z
theorem YR.sD{B:bo}{es:Nat}{rows:List (List DC)}{d:DC}(z:pD rows d)(h:∀row,row∈rows→row.length=es):YR B es (.d d) rows:=by
 rcases z with rfl|⟨rfl,rfl⟩
 ·exact .sl h
 exact .nil
theorem vZ{es:Nat}{x:aF}{lo hi:Option aF}{rows:List (List DC)}{d:DC}{l h:Nat}(U:x.vv VE=some (.d d))(Y:pD rows d)(Z:∀row,row∈rows→row.length=es)(z:0<rows.length)(hh:yL VE hi rows.length h)(hl:yL VE lo 0 l)(I:l≤h)(J:h≤rows.length)
  (hq:Q (.d (.sl ((rows.drop l).take (h-l)))) B):VI T (.pg es x lo hi) VE B [] Q:=fun _ X0 _ H β G=>by
 obtain rfl:d= .sl rows:=Y.resolve_right fun k=>by rw[k.1] at z;cases z
 obtain⟨a,h1,h2⟩:=G.b8 U
 simp only[aM,cN] at h2
 obtain⟨f,g,off,ff,rfl,h2⟩:=h2
 rcases h2 with rfl|⟨k1,k2,q,k3,K⟩
 ·cases z
 have he:ff=es:=by
  cases rows with
  |nil=>cases z
  |cons r0 rs=>
   simp only[fv] at K
   obtain⟨⟨l',_,j2,j3⟩,_⟩:=K
   rw[←j2,j3.length,Z r0 (kG ..)]
 subst he
 have hlen:((rows.drop l).take (h-l)).length=h-l:=by rw[jw,gy];omega
 refine gf (v:=.slice f g (off+l*ff) (h-l) ff) (fun call=>?_) (eS G (v:=.d (.sl ((rows.drop l).take (h-l)))) ?_ hq)
 ·show bB x _ (.err 16) (fun v=>gL v (.err 16) (gi _ hi 0 0 (.err 16) fun h=>gi _ lo 0 h (.err 16) fun _=>.ok .cg H)
   fun f g off O A=>aG (Nat.beq ff A) (gi _ hi O O (.err 16) fun h=>gi _ lo 0 h (.err 16) fun lo=>
    dk (Nat.add off (Nat.mul lo ff)) fun off=>dk (Nat.sub h lo) fun n=>.ok (.slice f g off n A) H) (.err 16))=_
  rw[dj,h1,di]
  show aG (Nat.beq ff ff) (gi _ hi rows.length rows.length (.err 16) fun h=>gi _ lo 0 h (.err 16) fun lo=>
    dk (Nat.add off (Nat.mul lo ff)) fun off=>dk (Nat.sub h lo) fun n=>.ok (.slice f g off n ff) H) (.err 16)=_
  rw[show Nat.beq ff ff=true from iR ff,f6,CS G hh J (bV _),CS G hl I (da _),ij,ij]
  rfl
 simp only[aM,cN,hlen]
 refine⟨f,g,_,ff,aa,.inr ⟨k1,k2,q+l,?_,?_⟩⟩
 ·rw[k3,ny]
 exact(K.drop l).take _
theorem VI.fresh{op:bG}{b:Nat}(A:aY B b=none)(h:VI T op VE B [b] Q):VI T op VE B [] Q:=fun H0 X0 E H β G=>
 (h H0 X0 E H β G).mono fun a H'⟨v,B',β',z,hp⟩=>⟨v,B',β',⟨z.bc,z.next,fun f I=>(z.ws f I).imp id fun⟨_,c,s,J,k,_⟩=>by
  (rw[List.mem_singleton.1 J,A] at k;cases k),z.since,z.rU⟩,hp⟩
theorem Wx{n:Int}(z:0≤n)(h2:n<65536):IntKind.u16.wrap n=n:=by
 simp[IntKind.wrap,IntKind.bits,IntKind.signed]
 omega
theorem KG(H:az)(X:Nat→Prop):∀(s:List UInt8),j' H X 1 (mC s.length (pack s)) (s.map fun c=>[DC.i .u8 (c.toNat:Nat)])
 |[]=>trivial
 |c::s=>by
  have z:=KG H X s
  have A:=c.toNat_lt
  have e1:pack (c::s) % 256=c.toNat:=by
   show(c.toNat+256*pack s) % 256=c.toNat
   omega
  have e2:pack (c::s)/256=pack s:=by
   show(c.toNat+256*pack s)/256=pack s
   omega
  have e:mC (s.length+1) (pack (c::s))=[.int .u8 ((pack (c::s) % 256:Nat):Int)]::mC s.length (pack (c::s)/256):=rfl
  rw[cP,e,e1,e2]
  exact⟨⟨aa,_,_,aa,aa,aa⟩,z⟩
theorem S3{elem:Nat}{x y:aF}{b:Nat}{rows:List (List DC)}{s:List UInt8}(A:x.vv VE=some (.ac b rows.length 1))(G:aY B b=some (.acc elem 1 1 rows))(I:y.vv VE=some (.d (cB s)))
  (z:(rows++s.map fun c=>[DC.i .u8 (c.toNat:Nat)]).length*1≤70368744177664) (J:rows=[]→uM b VE=true) (K:rows=[]→qD b B=true)
  (O:Q (.ac b (rows++s.map fun c=>[DC.i .u8 (c.toNat:Nat)]).length 1) ((b,.acc elem 1 1 (rows++s.map fun c=>[DC.i .u8 (c.toNat:Nat)]))::B)):VI T (.re elem x y) VE B [b] Q:=Mw A G (fun U=>by
 have Y:=U.str I
 refine⟨_,KG _ _ s,fun call a Z=>?_⟩
 show bB x _ (.err 27) (fun a=>bB y _ (.err 27) fun b=>jJ b (.err 27) fun l v=>jO elem 1 1 l (mC l v) _ a)=_
 rw[dj,Z,di,dj,Y,di,bZ]
 rfl) z J K O
theorem GC{x i:aF}{G es o j:Nat}{row:List DC}{k:IntKind}(I:x.vv VE=some (.rp row o))(hi:i.vv VE=some (.d (.i k (j:Int))))(J:j<G)(K:Q (.rp row (o+j*es)) B):VI T (.iW G es x i) VE B [] Q:=fun _ _ _ _ _ z=>by
 obtain⟨_,O,h2⟩:=z.b8 I
 obtain⟨_,U,A⟩:=z.b8 hi
 simp only[aM] at h2 A
 simp only[cN] at A
 subst A
 obtain⟨f,g,q,l,rfl,Y,Z,k3,k4⟩:=h2
 refine KA O U J (eS z (v:=.rp row (o+j*es)) ?_ K)
 simp only[aM]
 exact⟨f,g,q,l,by rw[mX],Y,Z,k3,k4⟩
end Go.Ev
namespace Go.Ev.Pp
open Go
set_option maxRecDepth 10000
def xU:List (List UInt8):=[[83,69,76,69,67,84],[70,82,79,77],[87,72,69,82,69],[71,82,79,85,80],[66,89],[65,83],[79,70],[65,84],[68,65,89],[74,79,73,78],[76,69,70,84],[79,78],[85,78,73,79,78],[65,76,76],[67,79,85,78,84],[83,85,77],[40],[41],[42],[44],[97],[98],[116],[46],[61],[60],[43],[45],[49],[39,120,39],[78,79,84],[65,78,68],[79,82],[73,83],[78,85,76,76],[73,78,83,69,82,84],[73,78,84,79],[86,65,76,85,69,83],[70,79,82],[85,80,68,65,84,69],[83,69,84],[39,49,54,48,48,45,48,49,45,48,50,39],[39,91,49,54,48,48,45,48,49,45,48,49,44,32,102,111,114,101,118,101,114,41,39],[67,82,69,65,84,69],[84,65,66,76,69],[75,69,89],[73,78,84],[72,79,76,68],[84,79],[85,78,84,73,76],[82,69,67,65,76,76]]
def HL:List (List DC):=[[.s 6 92647902168403],[.s 4 1297044038],[.s 5 297733015639],[.s 5 345028645447],[.s 2 22850],[.s 2 21313],[.s 2 17999],[.s 2 21569],[.s 3 5849412],[.s 4 1313427274],[.s 4 1413891404],[.s 2 20047],[.s 5 336337653333],[.s 3 5000257],[.s 5 362091466563],[.s 3 5068115],[.s 1 40],[.s 1 41],[.s 1 42],[.s 1 44],[.s 1 97],[.s 1 98],[.s 1 116],[.s 1 46],[.s 1 61],[.s 1 60],[.s 1 43],[.s 1 45],[.s 1 49],[.s 3 2586663],[.s 3 5525326],[.s 3 4476481],[.s 2 21071],[.s 2 21321],[.s 4 1280070990],[.s 6 92712327138889],[.s 4 1330925129],[.s 6 91557248909654],[.s 3 5394246],[.s 6 76228174565461],[.s 3 5522771],[.s 12 12130589181252232790632968487],[.s 23 3750964992481078039988528574964577776190968761165110055],[.s 6 76228174631491],[.s 5 297632153940],[.s 3 5850443],[.s 3 5525065],[.s 4 1145851720],[.s 2 20308],[.s 5 327647776341],[.s 6 83890396153170]]
def yy(n:Nat):List UInt8:=(xU[n % 51]?).getD []
theorem S4:HL=xU.map fun b=>[cB b]:=by kernel_rfl
theorem Uf(n:Nat):(yy n).length≤23:=by
 have h:∀j:Fin 51,((xU[j.1]?).getD []).length≤23:=by decide+kernel
 exact h ⟨n % 51,jR _ (by decide)⟩
theorem Sk(n:Nat):HL[n % 51]?=some [cB (yy n)]:=by
 have z:n % 51<xU.length:=jR _ (by decide)
 rw[S4,im,eP z]
 unfold yy
 rw[eP z];rfl
def qA(l:List Nat):List UInt8:=l.flatMap fun n=>32::yy n
theorem RI{l:List Nat}{i n:Nat}(h:l[i]?=some n):qA (l.take (i+1))=qA (l.take i)++[32]++yy n:=by
 obtain⟨hi,he⟩:=List.getElem?_eq_some_iff.1 h
 unfold qA
 rw[←List.take_append_getElem hi,List.flatMap_append,he]
 simp
def yR(t:cb):Prop:=EY t.kind t.text∧t.text.length≤200
section
variable{s:List UInt8}
theorem Ls:∀(k i:Nat)(out:List cb),(∀t∈out,yR t)→out.length≤1000→(lA s k i out).1=[]∨∃A p,(lA s k i out).1=A++[⟨6,p,[]⟩]∧(∀t∈A,yR t)∧A.length≤1000
 |0,i,out,_,_=>.inl rfl
 |k+1,i,out,ho,J=>by
  unfold lA
  cases I:s[i]?with
  |none=>exact .inr ⟨out,_,rfl,ho,J⟩
  |some c=>
   simp only
   split
   ·exact .inl aa
   rename_i he
   have he:(cu s i c).err=0:=by simpa using he
   split
   ·exact .inl aa
   rename_i G
   have G:kB (cu s i c).kind (cu s i c).text=true∧out.length<1000:=by simpa using G
   refine Ls k _ _ (fun t z=>?_) (by rw[bC,dU];omega)
   rcases List.mem_append.1 z with z|z
   ·exact ho t z
   rcases List.mem_singleton.1 z with rfl
   exact⟨MZ I he,(Lr I he G.1).2.2⟩
theorem Lt(s:List UInt8):(eE s).1=[]∨∃z p,(eE s).1=z++[⟨6,p,[]⟩]∧(∀t∈z,yR t)∧z.length≤1000:=by
 unfold eE
 split
 ·exact .inl aa
 exact Ls _ _ _ (fun _ h=>by cases h) (by decide)
end
def M3(l:List cb):Bool:=match l with
 |t::_=>decide (t.kind≠6)
 |[]=>false
theorem Xs(n:Nat):∃t r,(eE (qA [n])).1=t::r∧yR t:=by
 have h:∀j:Fin 51,M3 (eE (32::((xU[j.1]?).getD []))).1=true:=by decide+kernel
 have h:=h ⟨n % 51,jR _ (by decide)⟩
 have z:qA [n]=32::((xU[n % 51]?).getD []):=by unfold qA yy;simp
 rw[←z] at h
 rcases Lt (qA [n]) with e|⟨A,p,e,G,_⟩
 ·rw[e] at h;cases h
 cases A with
 |nil=>rw[e] at h;simp[M3] at h
 |cons t r=>exact⟨t,r++[⟨6,p,[]⟩],e.trans rfl,G t (kG ..)⟩
end Go.Ev.Pp
namespace Go.Ev
open Go
variable{T:bd}{VE:b0}{B:bo}{Q:VV→bo→Prop}
theorem hO{x:aF}{rows:List (List DC)}(z:x.vv VE=some (.d (.e9 rows)))(A:Q (dI (rows.length:Nat)) B):VI T (.len x) VE B [] Q:=by
 cases rows with
 |nil=>exact CN z A
 |cons r s=>exact Ak z A
theorem jF{x i:aF}{es j:Nat}{k:IntKind}{rows:List (List DC)}{row:List DC}(A:x.vv VE=some (.d (.e9 rows)))(hi:i.vv VE=some (.d (.i k (j:Int))))(z:rows[j]?=some row)(G:row.length=es)(I:Q (.rp row 0) B):VI T (.dV es x i) VE B [] Q:=by
 cases rows with
 |nil=>simp at z
 |cons r s=>exact kR A hi z G I
def uV:List Nat→List DC→Bool
 |[],[]=>true
 |c::r,.i k _::s=>Nat.beq (dw k) c&&uV r s
 |c::r,.b _::s=>Nat.beq c 100&&uV r s
 |c::r,.s _ _::s=>Nat.beq c 101&&uV r s
 |_,_=>false
theorem C5{H:az}{X:Nat→Prop}{β:Nat→Nat}:∀{ks:List Nat}{r:List DC}{l J:List an},uV ks r=true→bm H X β (r.map .d) l→bm H X β (r.map .d) J→kQ ks l=true∧kQ ks J=true∧qq l J=some true
 |[],[],l,J,_,h,h'=>by simp only[fH,bm] at h h';subst h;subst h';exact⟨rfl,rfl,rfl⟩
 |c::ks,d::r,l,J,K,h,h'=>by
  simp only[eF,bm] at h h'
  obtain⟨a,s,rfl,I,h2⟩:=h
  obtain⟨a',s',rfl,z,G⟩:=h'
  cases d with
  |i k n=>
   obtain⟨A,O⟩:=iF (show(Nat.beq (dw k) c&&uV ks r)=true from K)
   obtain⟨e1,e2,U⟩:=C5 O h2 G
   simp only[aM,cN] at I z
   subst I;subst z
   refine⟨by simp only[kQ,sz,A,e1];rfl,by simp only[kQ,sz,A,e2];rfl,?_⟩
   simp only[qq,xe]
   rw[show Nat.beq (dw k) (dw k)=true from iR _,show mr n n=true by rw[uf];simp]
   exact U
  |b t=>
   obtain⟨A,O⟩:=iF (show(Nat.beq c 100&&uV ks r)=true from K)
   obtain⟨e1,e2,U⟩:=C5 O h2 G
   simp only[aM,cN] at I z
   subst I;subst z
   refine⟨by simp only[kQ,sz,A,e1];rfl,by simp only[kQ,sz,A,e2];rfl,?_⟩
   simp only[qq,xe,beq_self_eq_true]
   exact U
  |s m v=>
   obtain⟨A,O⟩:=iF (show(Nat.beq c 101&&uV ks r)=true from K)
   obtain⟨e1,e2,U⟩:=C5 O h2 G
   simp only[aM,cN] at I z
   subst I;subst z
   refine⟨by simp only[kQ,sz,A,e1];rfl,by simp only[kQ,sz,A,e2];rfl,?_⟩
   simp only[qq,xe]
   rw[show rA m v m v=true from by rw[TI];simp]
   exact U
  |nil=>cases K
  |sl _=>cases K
theorem uc{neg:Bool}{ks:List Nat}{x y:aF}{r:List DC}(I:x.vv VE=some (.agg (r.map .d)))(J:y.vv VE=some (.agg (r.map .d)))(K:uV ks r=true)(O:Q (dB (Bool.xor neg true)) B):VI T (.eqv (.agg ks) neg x y) VE B [] Q:=fun _ _ _ _ _ A=>by
 obtain⟨a,U,h2⟩:=A.b8 I
 obtain⟨b,Y,z⟩:=A.b8 J
 simp only[aM] at h2 z
 obtain⟨l,rfl,h2⟩:=h2
 obtain⟨G,rfl,z⟩:=z
 obtain⟨Z,k2,k3⟩:=C5 K h2 z
 refine gf (v:=.bool (Bool.xor neg true)) (fun call=>?_) (eS A (v:=dB (Bool.xor neg true)) (by simp only[aM,cN]) O)
 show bB x _ (.err 7) (fun a=>bB y _ (.err 7) fun b=>ob (nF (.agg ks) a b) (.err 7) fun r=>ni (Bool.xor neg r) fun r=>.ok (.bool r) _)=_
 rw[dj,U,di,dj,Y,di]
 show ob (aG (kQ ks l) (aG (kQ ks G) (qq l G) none) none) _ _=_
 rw[Z,k2,k3]
 cases neg<;>rfl
theorem M4{neg:Bool}{x y:aF}{t:Bool}(G:x.vv VE=some (dB t))(I:y.vv VE=some (dB t))(J:Q (dB (Bool.xor neg true)) B):VI T (.eqv .bool neg x y) VE B [] Q:=fun _ _ _ _ _ z=>by
 obtain⟨a,K,h2⟩:=z.b8 G
 obtain⟨b,O,A⟩:=z.b8 I
 simp only[aM,cN] at h2 A
 subst h2;subst A
 refine gf (v:=.bool (Bool.xor neg true)) (fun call=>?_) (eS z (v:=dB (Bool.xor neg true)) (by simp only[aM,cN]) J)
 show bB x _ (.err 7) (fun a=>bB y _ (.err 7) fun b=>ob (nF .bool a b) (.err 7) fun r=>ni (Bool.xor neg r) fun r=>.ok (.bool r) _)=_
 rw[dj,K,di,dj,O,di]
 show ob (some (t==t)) _ _=_
 cases neg<;>cases t<;>rfl
theorem lu{x y:aF}{k:IntKind}{a:Int}(z:x.vv VE=some (.d (.i k a)))(A:y.vv VE=some (.d (.i k a)))(G:Q (dB false) B):VI T (.bin .neq x y) VE B [] Q:=
 iD z A (by rw[show(!decide (a=a))=false by simp];exact G)
theorem Dv{x y:aF}{a:List UInt8}(z:x.vv VE=some (dS a))(A:y.vv VE=some (dS a))(G:Q (dB false) B):VI T (.bin .neq x y) VE B [] Q:=
 TL z A (by rw[show(!decide (a=a))=false by simp];exact G)
theorem Dw{x y:aF}{k:IntKind}{a:Int}(z:x.vv VE=some (.d (.i k a)))(A:y.vv VE=some (.d (.i k a)))(G:Q (dB true) B):VI T (.bin .eql x y) VE B [] Q:=
 hY z A (by rw[show(decide (a=a))=true by simp];exact G)
end Go.Ev
