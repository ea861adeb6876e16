/- Part 24 of rules for walks through the code of a program, and of such walks; what each part proves is said by its theorems. -/
import Derived.Test.YtddbkonalipepaaGreatDoorS23
set_option linter.unusedVariables false
set_option linter.unusedSimpArgs false
namespace Go.Ev.Pp
open Go
set_option maxRecDepth 10000
set_option maxHeartbeats 1000000 in
theorem Wt{T:bf}(F:FT T)(X:FX T){s:List UInt8}{i:Nat}{c:UInt8}(hc:s[i]?=some c)(hi:i<s.length)(U:s.length≤4000):Sound T 36 [dS s,dI (i:Nat)] fun r=>r=uQ (ct s i c) i:=by
 refine eo F.f36 aa (ak 3 aa (ai (ae 2 aa (al (fH aa aa hc ?_)))))
 refine ae 1 aa (af ?_)
 refine ak 4 aa (ai (ae 1 aa ?_))
 refine al (cV rfl rfl (by omega) ?_)
 refine ae 2 aa (af ?_)
 refine aM (bN (ai (ae 1 aa (al (cO (PW F c) aa aa ?_)))))
 refine ae 1 aa (af ?_)
 refine aJ aa (fun et=>?_) (fun et=>?_)
 ·have G:ct s i c=⟨1,cut s i (runM kG s i),runM kG s i,0⟩:=by unfold ct;rw[aq et]
  have hle:i≤runM kG s i:=xg
  have J:runM kG s i≤s.length:=xh (xE hi)
  refine bG (ae 2 aa (al (cO (AZ F (PW F) (xE hi) U) aa aa ?_)))
  refine ae 3 aa (af ?_)
  refine ai (ae 3 aa ?_)
  refine al (j0 (l:=i) (h:=runM kG s i) rfl ⟨_,rfl⟩ ⟨_,rfl⟩ hle (by omega) ?_)
  refine ae 2 aa (af ?_)
  refine ak 5 aa (ax ?_)
  exact bB rfl rfl (by unfold uQ;rw[G];rfl)
 refine ai (ae 1 aa (al (cO (OX F c) aa aa ?_)))
 refine ae 1 aa (af ?_)
 refine aJ aa (fun z=>?_) (fun z=>?_)
 ·have G:ct s i c=⟨2,cut s i (runM iD s i),runM iD s i,0⟩:=by unfold ct;rw[aj (by rw[et];decide),aq z]
  have hle:i≤runM iD s i:=xg
  have J:runM iD s i≤s.length:=xh (xE hi)
  refine bG (ae 2 aa (al (cO (AZ F (inC F) (xE hi) U) aa aa ?_)))
  refine ae 3 aa (af ?_)
  refine ai (ae 3 aa ?_)
  refine al (j0 (l:=i) (h:=runM iD s i) rfl ⟨_,rfl⟩ ⟨_,rfl⟩ hle (by omega) ?_)
  refine ae 2 aa (af ?_)
  refine ak 5 aa (ax ?_)
  exact bB rfl rfl (by unfold uQ;rw[G];rfl)
 refine ai (ae 1 aa (al (cO (H7 F c) aa aa ?_)))
 refine ae 1 aa (af ?_)
 refine aJ aa (fun A=>?_) (fun A=>?_)
 ·have G:ct s i c=⟨3,cut s i (runM gW s i),runM gW s i,0⟩:=by unfold ct;rw[aj (by rw[et];decide),aj (by rw[z];decide),aq A]
  have hle:i≤runM gW s i:=xg
  have J:runM gW s i≤s.length:=xh (xE hi)
  refine bG (ae 2 aa (al (cO (AZ F (H7 F) (xE hi) U) aa aa ?_)))
  refine ae 3 aa (af ?_)
  refine ai (ae 3 aa ?_)
  refine al (j0 (l:=i) (h:=runM gW s i) rfl ⟨_,rfl⟩ ⟨_,rfl⟩ hle (by omega) ?_)
  refine ae 2 aa (af ?_)
  refine ak 5 aa (ax ?_)
  exact bB rfl rfl (by unfold uQ;rw[G];rfl)
 refine ai (ae 1 aa (al (hH aa aa ?_)))
 refine ae 1 aa (af ?_)
 refine aJ aa (fun K=>?_) (fun K=>?_)
 ·obtain rfl:c=39:=rm 39 (by simp at K;omega) rfl
  have I:ct s i 39=(match jE s (i+1) [] with|some x=>⟨4,x.1,x.2,0⟩|none=>⟨4,[],0,2⟩):=by unfold ct;rw[aj (by rw[et];decide),aj (by rw[z];decide),aj (by rw[A];decide),aq rfl];rfl
  refine ak 2 aa (ai (ae 2 aa (al (cO (Ws F X hi U) aa aa ?_))))
  refine ae 1 aa ?_
  cases Y:jE s (i+1) []
  ·rw[Y] at I
   refine ae 7 aa (af ?_)
   refine ak 6 aa (ax ?_)
   exact bB rfl rfl (by unfold uQ;rw[I];rfl)
  rw[Y] at I
  refine ae 7 aa (af ?_)
  refine ak 6 aa (ax ?_)
  exact bB rfl rfl (by unfold uQ;rw[I];rfl)
 have Z:¬c=39:=by rintro rfl;simp at K
 refine ai (ae 1 aa (al (cO (L7 F X ql c) aa aa ?_)))
 refine ae 2 aa (af ?_)
 refine aJ aa (fun O=>?_) (fun O=>?_)
 ·have G:ct s i c=⟨5,cut s i (i+1),i+1,0⟩:=by unfold ct;rw[aj (by rw[et];decide),aj (by rw[z];decide),aj (by rw[A];decide),aj Z,aq (Ln.1 (by simp at O;omega))]
  have hle:i≤i+1:=si _
  refine bG (ae 2 aa (af ?_))
  refine ai (ae 3 aa ?_)
  refine al (j0 (l:=i) (h:=i+1) rfl ⟨_,rfl⟩ ⟨_,rfl⟩ hle (by omega) ?_)
  refine ae 2 aa (af ?_)
  refine ak 5 aa (ax ?_)
  exact bB rfl rfl (by unfold uQ;rw[G];rfl)
 have G:ct s i c=⟨0,[],0,5⟩:=by unfold ct;rw[aj (by rw[et];decide),aj (by rw[z];decide),aj (by rw[A];decide),aj Z,aj (fun k=>by(have:=Ln.2 k;simp at O;omega))]
 refine ak 4 aa (ax ?_)
 exact bB rfl rfl (by unfold uQ;rw[G];rfl)
theorem Ma{s:List UInt8}{i k:Nat}{c:UInt8}{out:List cL}(z:s[i]?=some c):mm s (k+1) i out=if¬(ct s i c).err=0 then([],i,(ct s i c).err) else if¬(kJ (ct s i c).kind (ct s i c).text=true∧out.length<1000) then([],i,4) else mm s k (runM lO s (ct s i c).stop) (out++[(⟨(ct s i c).kind,(i:Nat),(ct s i c).text⟩:cL)]):=by
 rw[mm,z]
set_option maxHeartbeats 1000000 in
theorem Oa{T:bf}(F:FT T)(X:FX T)(s:List UInt8):Sound T 14 [dS s] fun r=>r=Ee (e9 s):=by
 refine eo F.f14 aa (ak 3 aa (aM (ak 3 aa (aJ aa (fun I=>?_) (fun I=>?_)))))
 ·have hm:e9 s=([],0,4):=aq (by simp at I;omega)
  refine ak 3 aa (ax ?_)
  exact bB rfl rfl (by rw[hm];rfl)
 have Y:s.length≤4000:=by simp at I;omega
 have Z:e9 s=mm s (s.length+1) (runM lO s 0) []:=aj (by omega)
 refine aT (ak 1 aa (ai (SI 5 1101 91 32 3 aa aa (ae 1 aa (al (cO (AZ F (PX F) (i:=0) (dh _) Y) aa aa ?_))))))
 refine ae 1 aa (af ?_)
 refine aM (bN ?_)
 refine d7 (fun k VE B=>∃(i:Nat)(out:List cL),mm s k i out=e9 s∧i≤s.length∧s.length+1≤i+k∧out.length≤1000∧bu [(0,dS s),(2,dN),(3,d0),(4,d0),(5,.ac 1101 (out.map cL.enc).length 3),(6,dI (i:Nat))] VE∧bu [(1101,.acc 91 32 3 (out.map cL.enc))] B) ?_ (k:=s.length+1) ⟨runM lO s 0,[],Z.symm,xh (dh _),by omega,by decide,⟨rfl,rfl,rfl,rfl,rfl,rfl,trivial⟩,rfl,trivial⟩
 rintro k VE B⟨i,out,A,hi,hk,ho,hV,hB⟩
 obtain⟨k,rfl⟩:∃k',k=k'+1:=⟨k-1,by omega⟩
 refine dy _ _ hV hB (aM (ak 4 aa (aJ aa (fun J=>?_) (fun J=>?_))))
 ·have O:i<s.length:=by simp at J;omega
  obtain⟨c,hc⟩:=jH O
  have z:=Ma (k:=k) (out:=out) hc
  refine aT (bN (ai (ae 2 aa (al (cO (Wt F X hc O Y) aa aa ?_)))))
  refine ae 8 aa (af ?_)
  refine aM (ak 2 aa (aJ aa (fun dn=>?_) (fun dn=>?_)))
  ·have he:¬(ct s i c).err=0:=by simpa using dn
   rw[aq he] at z
   rw[z] at A
   refine ak 5 aa (ax ?_)
   exact bB rfl rfl (by rw[←A];rfl)
  have he:(ct s i c).err=0:=by simpa using dn
  have U:=F3 hc he
  rw[aj (fun k=>k he)] at z
  rw[show(if(ct s i c).err=5 then(0:Int) else((i:Nat):Int))=((i:Nat):Int) from aj (by rw[he];decide)]
  refine aT (aM (ai (ae 1 aa (al (cO (Vt F (ct s i c).kind (i:Nat) (ct s i c).text) aa aa ?_)))))
  refine ae 2 aa (cX (g:=cB) aa (fun G=>?_) (fun G=>?_))
  ·rw[aq (fun k=>by rw[k.1] at G;cases G)] at z
   rw[z] at A
   refine aO aa (G) (aO aa (G) (aO aa (G) (al (cS aa (G) aa ?_))))
   refine af (e7 aa aa (ak 4 aa (ax ?_)))
   exact bB rfl rfl (by rw[←A];rfl)
  refine ao aa (G) (bM aa ?_)
  refine ao aa (G) (zw aa ?_)
  refine ao aa (G) (zT aa aa ?_)
  refine al (cI aa (G) aa ?_)
  refine af (aJ aa (fun K=>?_) (fun K=>?_))
  ·rw[aq (fun k=>by(have:=k.2;simp at K;omega))] at z
   rw[z] at A
   refine ak 4 aa (ax ?_)
   exact bB rfl rfl (by rw[←A];rfl)
  have nw:out.length<1000:=by simp at K;omega
  rw[aj (fun k=>k ⟨by simpa using G,nw⟩)] at z
  rw[z] at A
  refine aT (ai (ae 3 aa ?_))
  refine al (eu (rows:=out.map cL.enc) (ys:=[(⟨(ct s i c).kind,(i:Nat),(ct s i c).text⟩:cL).enc]) rfl rfl rfl (.bs (rows:=[(⟨(ct s i c).kind,(i:Nat),(ct s i c).text⟩:cL).enc]) rfl) (bS rfl) (by rw[bJ,cF];simp only[dj,dJ];omega) (fun h=>by rw[h];rfl) (fun h=>by rw[h];rfl) ?_)
  refine ae 1 aa (af ?_)
  refine bG (ae 2 aa (al (cO (AZ F (PX F) U.2 Y) aa aa ?_)))
  refine ae 1 aa (af ?_)
  refine⟨k,fS k,runM lO s (ct s i c).stop,out++[(⟨(ct s i c).kind,(i:Nat),(ct s i c).text⟩:cL)],A,xh U.2,?_,?_,?_,?_⟩
  ·have:=xg (P:=lO) (s:=s) (i:=(ct s i c).stop);omega
  ·rw[bJ,eG];omega
  ·rw[dX];exact⟨rfl,rfl,rfl,rfl,rfl,rfl,trivial⟩
  rw[dX];exact⟨rfl,trivial⟩
 have IW:mm s (k+1) i out=(out++[⟨6,(s.length:Nat),[]⟩],0,0):=by unfold mm;rw[List.getElem?_eq_none_iff.2 (by simp at J;omega)]
 rw[IW] at A
 refine dM (ai (ae 5 aa ?_))
 refine al (eu (rows:=out.map cL.enc) (ys:=[(⟨6,(s.length:Nat),[]⟩:cL).enc]) rfl rfl rfl (.bs (rows:=[(⟨6,(s.length:Nat),[]⟩:cL).enc]) rfl) (bS rfl) (by rw[bJ,cF];simp only[dj,dJ];omega) (fun h=>by rw[h];rfl) (fun h=>by rw[h];rfl) ?_)
 refine fu 51 1101 aa aa (fun _=>⟨aa,aa⟩) (ae 3 aa (af ?_))
 refine ax ?_
 exact bB rfl rfl (by rw[←A];unfold Ee;rw[dX];rfl)
open Go
set_option maxRecDepth 10000
theorem IX{T:bf}(F:FT T)(c:UInt8):Sound T 116 [.d (.i .u8 (c.toNat:Nat))] fun r=>r=dB (kG c):=by
 refine eo F.Yy aa (ak 1 aa (ai (ae 3 aa (cX (g:=aw) aa (fun z=>?_) (fun z=>?_)))))
 ·refine ao aa (z) (bM aa ?_)
  refine ao aa (z) (pH aa aa ?_)
  refine al (cS aa (z) aa ?_)
  refine ae 1 aa (af ?_)
  refine ax ?_
  exact bB rfl rfl (by refine congrArg (fun b=>VV.d (DC.b b)) ?_;rw[fQ];unfold kG;simp at*;omega)
 refine aO aa (z) (aO aa (z) (al (cI aa (z) aa ?_)))
 refine ae 1 aa (af ?_)
 refine ax ?_
 exact bB rfl rfl (by refine congrArg (fun b=>VV.d (DC.b b)) ?_;rw[fQ];unfold kG;simp at*;omega)
theorem H8{T:bf}(F:FT T)(c:UInt8):Sound T 117 [.d (.i .u8 (c.toNat:Nat))] fun r=>r=dB (sF c):=by
 refine eo F.Yz aa (ak 1 aa (ai (ae 3 aa (cX (g:=aw) aa (fun z=>?_) (fun z=>?_)))))
 ·refine ao aa (z) (bM aa ?_)
  refine ao aa (z) (pH aa aa ?_)
  refine al (cS aa (z) aa ?_)
  refine ae 1 aa (af ?_)
  refine ax ?_
  exact bB rfl rfl (by refine congrArg (fun b=>VV.d (DC.b b)) ?_;rw[fQ];unfold sF;simp at*;omega)
 refine aO aa (z) (aO aa (z) (al (cI aa (z) aa ?_)))
 refine ae 1 aa (af ?_)
 refine ax ?_
 exact bB rfl rfl (by refine congrArg (fun b=>VV.d (DC.b b)) ?_;rw[fQ];unfold sF;simp at*;omega)
theorem wy{T:bf}(F:FT T)(c:UInt8):Sound T 119 [.d (.i .u8 (c.toNat:Nat))] fun r=>r=dB (gW c):=by
 refine eo F.YB aa (ak 1 aa (ai (ae 3 aa (cX (g:=aw) aa (fun z=>?_) (fun z=>?_)))))
 ·refine ao aa (z) (bM aa ?_)
  refine ao aa (z) (pH aa aa ?_)
  refine al (cS aa (z) aa ?_)
  refine ae 1 aa (af ?_)
  refine ax ?_
  exact bB rfl rfl (by refine congrArg (fun b=>VV.d (DC.b b)) ?_;rw[fQ];unfold gW;simp at*;omega)
 refine aO aa (z) (aO aa (z) (al (cI aa (z) aa ?_)))
 refine ae 1 aa (af ?_)
 refine ax ?_
 exact bB rfl rfl (by refine congrArg (fun b=>VV.d (DC.b b)) ?_;rw[fQ];unfold gW;simp at*;omega)
theorem rsp{T:bf}(F:FT T)(c:UInt8):Sound T 77 [.d (.i .u8 (c.toNat:Nat))] fun r=>r=dB (lO c):=by
 refine eo F.f77 aa (ak 1 aa (ai (ae 3 aa (cX (g:=aw) aa (fun z=>?_) (fun z=>?_)))))
 ·refine aO aa (z) (aO aa (z) (al (cS aa (z) aa ?_)))
  refine ae 1 aa (aO aa aa (aO aa aa (ae 2 aa (aO aa aa (aO aa aa (ae 2 aa (af ?_)))))))
  refine ax ?_
  exact bB rfl rfl (by refine congrArg (fun b=>VV.d (DC.b b)) ?_;rw[fQ];unfold lO;simp at*;omega)
 refine ao aa (z) (bM aa ?_)
 refine ao aa (z) (hH aa aa ?_)
 refine al (cI aa (z) aa ?_)
 refine ae 1 aa (cX (g:=aK) aa (fun A=>?_) (fun A=>?_))
 ·refine aO aa (A) (aO aa (A) (al (cS aa (A) aa ?_)))
  refine ae 1 aa (aO aa aa (aO aa aa (ae 2 aa (af ?_))))
  refine ax ?_
  exact bB rfl rfl (by refine congrArg (fun b=>VV.d (DC.b b)) ?_;rw[fQ];unfold lO;simp at*;omega)
 refine ao aa (A) (bM aa ?_)
 refine ao aa (A) (hH aa aa ?_)
 refine al (cI aa (A) aa ?_)
 refine ae 1 aa (cX (g:=aV) aa (fun bI=>?_) (fun bI=>?_))
 ·refine aO aa (bI) (aO aa (bI) (al (cS aa (bI) aa ?_)))
  refine ae 1 aa (af ?_)
  refine ax ?_
  exact bB rfl rfl (by refine congrArg (fun b=>VV.d (DC.b b)) ?_;rw[fQ];unfold lO;simp at*;omega)
 refine ao aa (bI) (bM aa ?_)
 refine ao aa (bI) (hH aa aa ?_)
 refine al (cI aa (bI) aa ?_)
 refine ae 1 aa (af ?_)
 refine ax ?_
 exact bB rfl rfl (by refine congrArg (fun b=>VV.d (DC.b b)) ?_;rw[fQ];unfold lO;simp at*;omega)
theorem IY{T:bf}(F:FT T)(c:UInt8):Sound T 118 [.d (.i .u8 (c.toNat:Nat))] fun r=>r=dB (iD c):=by
 refine eo F.YA aa (ak 1 aa (ai (ae 1 aa (al (cO (H8 F c) aa aa ?_)))))
 refine ae 1 aa (cX (g:=aw) aa (fun z=>?_) (fun z=>?_))
 ·have G:iD c=true:=by unfold iD;rw[z];rfl
  refine aO aa (z) (aO aa (z) (al (cS aa (z) aa ?_)))
  refine ae 1 aa (aO aa aa (aO aa aa (ae 2 aa (af ?_))))
  refine ax ?_
  exact bB rfl rfl (by rw[G];rfl)
 refine ao aa (z) (bM aa ?_)
 refine ao aa (z) (cO (wy F c) aa aa ?_)
 refine al (cI aa (z) aa ?_)
 refine ae 1 aa (cX (g:=aK) aa (fun A=>?_) (fun A=>?_))
 ·have G:iD c=true:=by unfold iD;rw[z,A];rfl
  refine aO aa (A) (aO aa (A) (al (cS aa (A) aa ?_)))
  refine ae 1 aa (af ?_)
  refine ax ?_
  exact bB rfl rfl (by rw[G];rfl)
 have G:iD c=decide (((c.toNat:Nat):Int)=Int.ofNat 95):=by unfold iD;rw[z,A,fQ];simp;omega
 refine ao aa (A) (bM aa ?_)
 refine ao aa (A) (hH aa aa ?_)
 refine al (cI aa (A) aa ?_)
 refine ae 1 aa (af ?_)
 refine ax ?_
 exact bB rfl rfl (by rw[G];rfl)
theorem OY{T:bf}(F:FT T)(c:UInt8):Sound T 120 [.d (.i .u8 (c.toNat:Nat))] fun r=>r=dB (decide (c∈ql)):=by
 refine eo F.YC aa (ak 1 aa (ak 1 aa (aM (ak 1 aa (bN ?_)))))
 refine d7 (fun k VE B=>∃i,i≤11∧k=11-i∧(∀x,x∈ql.take i→x≠c)∧bu [(0,.d (.i .u8 (c.toNat:Nat))),(2,dB false),(3,dS ql),(4,dI (i:Nat))] VE∧bu [] B) ?_ (k:=11) ⟨0,by decide,rfl,fun _ h=>(by cases h),⟨rfl,rfl,rfl,rfl,trivial⟩,trivial⟩
 rintro k VE B⟨i,hi,rfl,O,U,Y⟩
 refine dy _ _ U Y (aM (ak 4 aa (aJ aa (fun G=>?_) (fun G=>?_))))
 ·have I:i<11:=by simp[ql] at G;omega
  obtain⟨b,J⟩:=jH (s:=ql) (i:=i) I
  refine aT (aM (bN (ai (ae 2 aa (al (fH aa aa J ?_))))))
  refine ae 1 aa (al (hH aa aa ?_))
  refine af (aJ aa (fun z=>?_) (fun z=>?_))
  ·have K:decide (c∈ql)=true:=by(obtain rfl:b=c:=UInt8.toNat_inj.1 (by simp at z;omega));simpa using lW J
   refine ak 1 aa (ax ?_)
   exact bB rfl rfl (by rw[K];rfl)
  refine aT (bG (ae 1 aa ?_))
  refine al (cV rfl rfl (by omega) ?_)
  refine ae 1 aa (af ?_)
  exact⟨11-(i+1),by omega,i+1,by omega,rfl,fun x A=>by(rw[take_succ J] at A;rcases List.mem_append.1 A with A|A;exact O x A;rcases List.mem_singleton.1 A with rfl;exact fun e=>absurd z (by rw[e];simp)),⟨rfl,rfl,rfl,rfl,trivial⟩,trivial⟩
 have K:decide (c∈ql)=false:=by(have:i=11:=by simp[ql] at G;omega);subst this;exact decide_eq_false fun k=>O c k rfl
 refine dM (ak 1 aa (ax ?_))
 exact bB rfl rfl (by rw[K];rfl)
set_option maxHeartbeats 1000000 in
theorem H9{T:bf}(F:FT T){k:Int}{t:List UInt8}(ho:Hv k t)(ht:0<t.length)(hl:t.length≤4000):Sound T 121 [dS t,dI k] fun r=>r=dB true:=by
 refine eo F.YD aa (ak 1 aa (aM (ak 1 aa (bN (d7 (fun m VE B=>∃i,i≤t.length∧m=t.length-i∧bu [(0,dS t),(1,dI k),(4,dB false),(5,dI (i:Nat))] VE∧bu [] B) ?_ (k:=t.length) ⟨0,dh _,aa,⟨aa,aa,aa,aa,trivial⟩,trivial⟩)))))
 rintro m VE B⟨i,hi,rfl,hV,hB⟩
 refine dy _ _ hV hB (aM (ak 4 aa (aJ aa (fun h9=>?_) (fun h9=>?_))))
 ·have hi9:i<t.length:=by simp at h9;omega
  obtain⟨c,Y⟩:=jH hi9
  have O:=lW Y
  refine aT (aM (bN (ai (ae 3 aa (cX (g:=aX) aa (fun I=>?_) (fun I=>?_))))))
  ·have hu:=ho.up (by simpa using I) c O
   refine ao aa (I) (bM aa ?_)
   refine ao aa (I) (bM aa ?_)
   refine ao aa (I) (fH aa aa Y ?_)
   refine ao aa (I) (cO (IX F c) aa aa ?_)
   refine ao aa (I) (jv aa ?_)
   refine al (cS aa (I) aa ?_)
   refine ae 1 aa (cX (g:=bx) aa (fun K=>?_) (fun K=>?_))
   ·exact absurd K (by rw[hu];decide)
   refine ao aa (K) (bM aa ?_)
   refine ao aa (K) (hH aa aa ?_)
   refine ao aa (K) (bM aa ?_)
   refine cX (g:=bR) aa (fun A=>?_) (fun A=>?_)
   ·have Z:=ho.PV (by simpa using A) c O
    refine ao aa (A) (bM aa ?_)
    refine ao aa (A) (bM aa ?_)
    refine ao aa (A) (fH aa aa Y ?_)
    refine ao aa (A) (cO (IY F c) aa aa ?_)
    refine ao aa (A) (jv aa ?_)
    refine ao aa (K) (cS aa (A) aa ?_)
    refine al (cI aa (K) aa ?_)
    refine ae 1 aa (cX (g:=cq) aa (fun G=>?_) (fun G=>?_))
    ·exact absurd G (by rw[Z];decide)
    refine ao aa (G) (bM aa ?_)
    refine ao aa (G) (hH aa aa ?_)
    refine ao aa (G) (bM aa ?_)
    refine cX (g:=ck) aa (fun z=>?_) (fun z=>?_)
    ·have U:=ho.nU (by simpa using z) c O
     refine ao aa (z) (bM aa ?_)
     refine ao aa (z) (bM aa ?_)
     refine ao aa (z) (fH aa aa Y ?_)
     refine ao aa (z) (cO (wy F c) aa aa ?_)
     refine ao aa (z) (jv aa ?_)
     refine ao aa (G) (cS aa (z) aa ?_)
     refine al (cI aa (G) aa ?_)
     refine af (aJ aa (fun J=>?_) (fun J=>?_))
     ·exact absurd J (by rw[U];decide)
     refine aT (bG (ae 1 aa ?_))
     refine al (cV rfl rfl (by omega) ?_)
     refine ae 1 aa (af ?_)
     exact⟨t.length-(i+1),by omega,i+1,by omega,rfl,⟨rfl,rfl,rfl,rfl,trivial⟩,trivial⟩
    refine aO aa (z) (aO aa (z) (aO aa (z) (aO aa (z) (aO aa (z) (ao aa (G) (cI aa (z) aa ?_))))))
    refine al (cI aa (G) aa ?_)
    refine af (eI aa aa (aT (bG (ae 1 aa ?_))))
    refine al (cV rfl rfl (by omega) ?_)
    refine ae 1 aa (af ?_)
    exact⟨t.length-(i+1),by omega,i+1,by omega,rfl,⟨rfl,rfl,rfl,rfl,trivial⟩,trivial⟩
   refine aO aa (A) (aO aa (A) (aO aa (A) (aO aa (A) (aO aa (A) (ao aa (K) (cI aa (A) aa ?_))))))
   refine al (cI aa (K) aa ?_)
   refine ae 1 aa (ao aa aa (bM aa ?_))
   refine ao aa aa (hH aa aa ?_)
   refine ao aa aa (bM aa ?_)
   refine cX (g:=ck) aa (fun z=>?_) (fun z=>?_)
   ·have U:=ho.nU (by simpa using z) c O
    refine ao aa (z) (bM aa ?_)
    refine ao aa (z) (bM aa ?_)
    refine ao aa (z) (fH aa aa Y ?_)
    refine ao aa (z) (cO (wy F c) aa aa ?_)
    refine ao aa (z) (jv aa ?_)
    refine ao aa aa (cS aa (z) aa ?_)
    refine ae 1 aa (af ?_)
    refine aJ aa (fun J=>?_) (fun J=>?_)
    ·exact absurd J (by rw[U];decide)
    refine aT (bG (ae 1 aa ?_))
    refine al (cV rfl rfl (by omega) ?_)
    refine ae 1 aa (af ?_)
    exact⟨t.length-(i+1),by omega,i+1,by omega,rfl,⟨rfl,rfl,rfl,rfl,trivial⟩,trivial⟩
   refine aO aa (z) (aO aa (z) (aO aa (z) (aO aa (z) (aO aa (z) (ao aa aa (cI aa (z) aa ?_))))))
   refine ae 1 aa (af ?_)
   refine eI aa aa (aT (bG (ae 1 aa ?_)))
   refine al (cV rfl rfl (by omega) ?_)
   refine ae 1 aa (af ?_)
   exact⟨t.length-(i+1),by omega,i+1,by omega,rfl,⟨rfl,rfl,rfl,rfl,trivial⟩,trivial⟩
  refine aO aa (I) (aO aa (I) (aO aa (I) (aO aa (I) (aO aa (I) (al (cI aa (I) aa ?_))))))
  refine ae 1 aa (ao aa aa (bM aa ?_))
  refine ao aa aa (hH aa aa ?_)
  refine ao aa aa (bM aa ?_)
  refine cX (g:=bR) aa (fun A=>?_) (fun A=>?_)
  ·have Z:=ho.PV (by simpa using A) c O
   refine ao aa (A) (bM aa ?_)
   refine ao aa (A) (bM aa ?_)
   refine ao aa (A) (fH aa aa Y ?_)
   refine ao aa (A) (cO (IY F c) aa aa ?_)
   refine ao aa (A) (jv aa ?_)
   refine ao aa aa (cS aa (A) aa ?_)
   refine ae 2 aa (cX (g:=cq) aa (fun G=>?_) (fun G=>?_))
   ·exact absurd G (by rw[Z];decide)
   refine ao aa (G) (bM aa ?_)
   refine ao aa (G) (hH aa aa ?_)
   refine ao aa (G) (bM aa ?_)
   refine cX (g:=ck) aa (fun z=>?_) (fun z=>?_)
   ·have U:=ho.nU (by simpa using z) c O
    refine ao aa (z) (bM aa ?_)
    refine ao aa (z) (bM aa ?_)
    refine ao aa (z) (fH aa aa Y ?_)
    refine ao aa (z) (cO (wy F c) aa aa ?_)
    refine ao aa (z) (jv aa ?_)
    refine ao aa (G) (cS aa (z) aa ?_)
    refine al (cI aa (G) aa ?_)
    refine af (aJ aa (fun J=>?_) (fun J=>?_))
    ·exact absurd J (by rw[U];decide)
    refine aT (bG (ae 1 aa ?_))
    refine al (cV rfl rfl (by omega) ?_)
    refine ae 1 aa (af ?_)
    exact⟨t.length-(i+1),by omega,i+1,by omega,rfl,⟨rfl,rfl,rfl,rfl,trivial⟩,trivial⟩
   refine aO aa (z) (aO aa (z) (aO aa (z) (aO aa (z) (aO aa (z) (ao aa (G) (cI aa (z) aa ?_))))))
   refine al (cI aa (G) aa ?_)
   refine af (eI aa aa (aT (bG (ae 1 aa ?_))))
   refine al (cV rfl rfl (by omega) ?_)
   refine ae 1 aa (af ?_)
   exact⟨t.length-(i+1),by omega,i+1,by omega,rfl,⟨rfl,rfl,rfl,rfl,trivial⟩,trivial⟩
  refine aO aa (A) (aO aa (A) (aO aa (A) (aO aa (A) (aO aa (A) (ao aa aa (cI aa (A) aa ?_))))))
  refine ae 2 aa (ao aa aa (bM aa ?_))
  refine ao aa aa (hH aa aa ?_)
  refine ao aa aa (bM aa ?_)
  refine cX (g:=ck) aa (fun z=>?_) (fun z=>?_)
  ·have U:=ho.nU (by simpa using z) c O
   refine ao aa (z) (bM aa ?_)
   refine ao aa (z) (bM aa ?_)
   refine ao aa (z) (fH aa aa Y ?_)
   refine ao aa (z) (cO (wy F c) aa aa ?_)
   refine ao aa (z) (jv aa ?_)
   refine ao aa aa (cS aa (z) aa ?_)
   refine ae 1 aa (af ?_)
   refine aJ aa (fun J=>?_) (fun J=>?_)
   ·exact absurd J (by rw[U];decide)
   refine aT (bG (ae 1 aa ?_))
   refine al (cV rfl rfl (by omega) ?_)
   refine ae 1 aa (af ?_)
   exact⟨t.length-(i+1),by omega,i+1,by omega,rfl,⟨rfl,rfl,rfl,rfl,trivial⟩,trivial⟩
  refine aO aa (z) (aO aa (z) (aO aa (z) (aO aa (z) (aO aa (z) (ao aa aa (cI aa (z) aa ?_))))))
  refine ae 1 aa (af ?_)
  refine eI aa aa (aT (bG (ae 1 aa ?_)))
  refine al (cV rfl rfl (by omega) ?_)
  refine ae 1 aa (af ?_)
  exact⟨t.length-(i+1),by omega,i+1,by omega,rfl,⟨rfl,rfl,rfl,rfl,trivial⟩,trivial⟩
 refine dM (ak 4 aa (ax ?_))
 exact bB rfl rfl (by refine congrArg (fun b=>VV.d (DC.b b)) ?_;simp;omega)
open Go
set_option maxRecDepth 10000
set_option maxHeartbeats 1000000 in
theorem Vu{T:bf}(F:FT T){k:Int}(p:Int){t:List UInt8}(ho:Hv k t)(O:t.length≤4000):Sound T 79 [.agg [dI k,dI p,dS t]] fun r=>r=dB (kJ k t):=by
 refine eo F.f79 aa (ak 2 aa (aM (ak 2 aa (bN (ak 2 aa (aJ aa (fun U=>?_) (fun U=>?_)))))))
 ·have hk:k=1:=by simpa using U
  have A:kJ k t=decide (t.length≤20):=by unfold kJ;rw[aj (by omega),aj (by omega)]
  have hp:=ho.ne (by omega)
  refine ai (ae 4 aa (al (cO (H9 F ho hp O) aa aa ?_)))
  refine ae 1 aa (ao aa aa (dq aa ?_))
  refine ao aa aa (cW aa aa aa ?_)
  refine ao aa aa (vh aa ?_)
  refine ao aa aa (pH aa aa ?_)
  refine ae 2 aa (af ?_)
  refine ax ?_
  exact bB rfl rfl (by refine congrArg (fun b=>VV.d (DC.b b)) ?_;rw[A];rw[fQ];simp;omega)
 refine ak 2 aa (aJ aa (fun G=>?_) (fun G=>?_))
 ·have hk:k=2:=by simpa using G
  have A:kJ k t=decide (t.length≤20):=by unfold kJ;rw[aj (by omega),aj (by omega)]
  have hp:=ho.ne (by omega)
  obtain⟨d,hd⟩:=jH hp
  have Y:=ho.low hk d hd
  refine ai (ae 4 aa (al (cO (H9 F ho hp O) aa aa ?_)))
  refine ae 1 aa (ao aa aa (dq aa ?_))
  refine ao aa aa (cW aa aa aa ?_)
  refine ao aa aa (fH aa aa hd ?_)
  refine ao aa aa (cO (H8 F d) aa aa ?_)
  refine ae 2 aa (cX (g:=cf) aa (fun z=>?_) (fun z=>?_))
  ·refine ao aa (z) (dq aa ?_)
   refine ao aa (z) (cW aa aa aa ?_)
   refine ao aa (z) (vh aa ?_)
   refine ao aa (z) (pH aa aa ?_)
   refine al (cS aa (z) aa ?_)
   refine ae 1 aa (af ?_)
   refine ax ?_
   exact bB rfl rfl (by refine congrArg (fun b=>VV.d (DC.b b)) ?_;rw[A];rw[fQ];simp;omega)
  exact absurd z (by rw[Y];decide)
 refine ak 2 aa (aJ aa (fun I=>?_) (fun I=>?_))
 ·have hk:k=3:=by simpa using I
  have A:kJ k t=decide (t.length≤19):=aq hk
  have hp:=ho.ne (by omega)
  refine ai (ae 4 aa (al (cO (H9 F ho hp O) aa aa ?_)))
  refine ae 1 aa (ao aa aa (dq aa ?_))
  refine ao aa aa (cW aa aa aa ?_)
  refine ao aa aa (vh aa ?_)
  refine ao aa aa (pH aa aa ?_)
  refine ae 2 aa (af ?_)
  refine ax ?_
  exact bB rfl rfl (by refine congrArg (fun b=>VV.d (DC.b b)) ?_;rw[A];rw[fQ];simp;omega)
 refine ak 2 aa (aJ aa (fun J=>?_) (fun J=>?_))
 ·have hk:k=4:=by simpa using J
  have A:kJ k t=decide (t.length≤200):=by unfold kJ;rw[aj (by omega),aq hk]
  refine ak 5 aa (ax ?_)
  exact bB rfl rfl (by refine congrArg (fun b=>VV.d (DC.b b)) ?_;rw[A];rw[fQ];simp;omega)
 refine ak 2 aa (aJ aa (fun K=>?_) (fun K=>?_))
 ·have hk:k=5:=by simpa using K
  obtain⟨d,rfl,Z⟩:=ho.sgn hk
  have A:kJ k [d]=true:=by unfold kJ;rw[aj (by omega),aj (by omega)];rfl
  refine ai (ae 5 aa (ao aa aa (dq aa ?_)))
  refine ao aa aa (cW aa aa aa ?_)
  refine ao aa aa (fH (j:=0) (c:=d) aa aa aa ?_)
  refine ao aa aa (cO (OY F d) aa aa ?_)
  refine ae 2 aa (af ?_)
  refine ax ?_
  exact bB rfl rfl (by refine congrArg (fun b=>VV.d (DC.b b)) ?_;rw[A];simpa using Z)
 exact absurd ho.kind (by simp at U G I J K;omega)
open Go
set_option maxRecDepth 10000
set_option maxHeartbeats 4000000 in
theorem aai{T:bf}(F:FT T){s:List UInt8}{i:Nat}{c:UInt8}(hc:s[i]?=some c)(hi:i<s.length)(hl:s.length≤4000):Sound T 78 [dS s,dI (i:Nat)] fun r=>r=p5 (ct s i c) i s.length:=by
 refine eo F.f78 aa (ak 4 aa (ai (ae 1 aa ?_)))
 refine al (cV rfl rfl (by omega) ?_)
 refine ae 1 aa (af ?_)
 refine aM (bN (ai (ae 2 aa (al (fH aa aa hc ?_)))))
 refine al (cO (IX F c) aa aa ?_)
 refine ae 1 aa (af ?_)
 refine aJ aa (fun O=>?_) (fun O=>?_)
 ·have U:=qX (P:=kG) hc O
  have K:ct s i c=⟨1,cut s i (runM kG s i),runM kG s i,0⟩:=by unfold ct;rw[aq O]
  refine aM (bN (d7 (fun k VE B=>∃j,i+1≤j∧j≤s.length∧k=s.length-j∧runM kG s j=runM kG s i∧bu [(0,dS s),(1,dI (i:Nat)),(4,d0),(5,d0),(6,dS []),(7,dB false),(8,dI (j:Nat))] VE∧bu [] B) ?_ (k:=s.length-(i+1)) ⟨i+1,bY _,hi,aa,U.symm,⟨aa,aa,aa,aa,aa,aa,aa,trivial⟩,trivial⟩))
  rintro k VE B⟨j,PZ,hj,rfl,Y,hV,hB⟩
  refine dy _ _ hV hB (aM (ai (ae 5 aa (cX (g:=bx) aa (fun A=>?_) (fun A=>?_)))))
  ·have Z:j<s.length:=by simp at A;omega
   obtain⟨d,J⟩:=jH Z
   refine ao aa (A) (bM aa ?_)
   refine ao aa (A) (bM aa ?_)
   refine ao aa (A) (fH aa aa J ?_)
   refine ao aa (A) (cO (IX F d) aa aa ?_)
   refine al (cS aa (A) aa ?_)
   refine af (aJ aa (fun pb=>?_) (fun pb=>?_))
   ·refine aT (bN (bG (ae 1 aa ?_)))
    refine al (cV rfl rfl (by omega) ?_)
    refine ae 1 aa (af ?_)
    exact⟨s.length-(j+1),by omega,j+1,by omega,by omega,rfl,by rw[←qX J pb,Y],⟨rfl,rfl,rfl,rfl,rfl,rfl,rfl,trivial⟩,trivial⟩
   rw[zX J pb] at Y
   refine dM (eU (bm 4 aa ?_))
   refine dE (j0 (l:=i) (h:=j) rfl ⟨_,rfl⟩ ⟨_,rfl⟩ (by omega) hj ?_)
   refine bm 4 aa (da ?_)
   refine ax ?_
   rw[←Y] at K
   exact bB rfl rfl (by unfold p5;rw[K];rfl)
  rw[zY (by simp at A;omega)] at Y
  refine aO aa (A) (aO aa (A) (aO aa (A) (aO aa (A) (al (cI aa (A) aa ?_)))))
  refine af (eI aa aa (dM (eU (bm 4 aa ?_))))
  refine dE (j0 (l:=i) (h:=j) rfl ⟨_,rfl⟩ ⟨_,rfl⟩ (by omega) hj ?_)
  refine bm 4 aa (da ?_)
  refine ax ?_
  rw[←Y] at K
  exact bB rfl rfl (by unfold p5;rw[K];rfl)
 refine ai (ae 2 aa (al (fH aa aa hc ?_)))
 refine al (cO (H8 F c) aa aa ?_)
 refine ae 1 aa (af ?_)
 refine aJ aa (fun qF=>?_) (fun qF=>?_)
 ·have U:=qX (P:=iD) hc (by unfold iD;rw[qF];rfl)
  have K:ct s i c=⟨2,cut s i (runM iD s i),runM iD s i,0⟩:=by unfold ct;rw[aj (by rw[O];decide),aq qF]
  refine aM (bN (d7 (fun k VE B=>∃j,i+1≤j∧j≤s.length∧k=s.length-j∧runM iD s j=runM iD s i∧bu [(0,dS s),(1,dI (i:Nat)),(4,d0),(5,d0),(6,dS []),(7,dB false),(8,dI (j:Nat))] VE∧bu [] B) ?_ (k:=s.length-(i+1)) ⟨i+1,bY _,hi,aa,U.symm,⟨aa,aa,aa,aa,aa,aa,aa,trivial⟩,trivial⟩))
  rintro k VE B⟨j,PZ,hj,rfl,Y,hV,hB⟩
  refine dy _ _ hV hB (aM (ai (ae 5 aa (cX (g:=dL) aa (fun G=>?_) (fun G=>?_)))))
  ·have Z:j<s.length:=by simp at G;omega
   obtain⟨d,J⟩:=jH Z
   refine ao aa (G) (bM aa ?_)
   refine ao aa (G) (bM aa ?_)
   refine ao aa (G) (fH aa aa J ?_)
   refine ao aa (G) (cO (IY F d) aa aa ?_)
   refine al (cS aa (G) aa ?_)
   refine af (aJ aa (fun vb=>?_) (fun vb=>?_))
   ·refine aT (bN (bG (ae 1 aa ?_)))
    refine al (cV rfl rfl (by omega) ?_)
    refine ae 1 aa (af ?_)
    exact⟨s.length-(j+1),by omega,j+1,by omega,by omega,rfl,by rw[←qX J vb,Y],⟨rfl,rfl,rfl,rfl,rfl,rfl,rfl,trivial⟩,trivial⟩
   rw[zX J vb] at Y
   refine dM (eU (bm 4 aa ?_))
   refine dE (j0 (l:=i) (h:=j) rfl ⟨_,rfl⟩ ⟨_,rfl⟩ (by omega) hj ?_)
   refine bm 4 aa (da ?_)
   refine ax ?_
   rw[←Y] at K
   exact bB rfl rfl (by unfold p5;rw[K];rfl)
  rw[zY (by simp at G;omega)] at Y
  refine aO aa (G) (aO aa (G) (aO aa (G) (aO aa (G) (al (cI aa (G) aa ?_)))))
  refine af (eI aa aa (dM (eU (bm 4 aa ?_))))
  refine dE (j0 (l:=i) (h:=j) rfl ⟨_,rfl⟩ ⟨_,rfl⟩ (by omega) hj ?_)
  refine bm 4 aa (da ?_)
  refine ax ?_
  rw[←Y] at K
  exact bB rfl rfl (by unfold p5;rw[K];rfl)
 refine ai (ae 2 aa (al (fH aa aa hc ?_)))
 refine al (cO (wy F c) aa aa ?_)
 refine ae 1 aa (af ?_)
 refine aJ aa (fun yV=>?_) (fun yV=>?_)
 ·have U:=qX (P:=gW) hc yV
  have K:ct s i c=⟨3,cut s i (runM gW s i),runM gW s i,0⟩:=by unfold ct;rw[aj (by rw[O];decide),aj (by rw[qF];decide),aq yV]
  refine aM (bN (d7 (fun k VE B=>∃j,i+1≤j∧j≤s.length∧k=s.length-j∧runM gW s j=runM gW s i∧bu [(0,dS s),(1,dI (i:Nat)),(4,d0),(5,d0),(6,dS []),(7,dB false),(8,dI (j:Nat))] VE∧bu [] B) ?_ (k:=s.length-(i+1)) ⟨i+1,bY _,hi,aa,U.symm,⟨aa,aa,aa,aa,aa,aa,aa,trivial⟩,trivial⟩))
  rintro k VE B⟨j,PZ,hj,rfl,Y,hV,hB⟩
  refine dy _ _ hV hB (aM (ai (ae 5 aa (cX (g:=fR) aa (fun I=>?_) (fun I=>?_)))))
  ·have Z:j<s.length:=by simp at I;omega
   obtain⟨d,J⟩:=jH Z
   refine ao aa (I) (bM aa ?_)
   refine ao aa (I) (bM aa ?_)
   refine ao aa (I) (fH aa aa J ?_)
   refine ao aa (I) (cO (wy F d) aa aa ?_)
   refine al (cS aa (I) aa ?_)
   refine af (aJ aa (fun IZ=>?_) (fun IZ=>?_))
   ·refine aT (bN (bG (ae 1 aa ?_)))
    refine al (cV rfl rfl (by omega) ?_)
    refine ae 1 aa (af ?_)
    exact⟨s.length-(j+1),by omega,j+1,by omega,by omega,rfl,by rw[←qX J IZ,Y],⟨rfl,rfl,rfl,rfl,rfl,rfl,rfl,trivial⟩,trivial⟩
   rw[zX J IZ] at Y
   refine dM (eU (bm 4 aa ?_))
   refine dE (j0 (l:=i) (h:=j) rfl ⟨_,rfl⟩ ⟨_,rfl⟩ (by omega) hj ?_)
   refine bm 4 aa (da ?_)
   refine ax ?_
   rw[←Y] at K
   exact bB rfl rfl (by unfold p5;rw[K];rfl)
  rw[zY (by simp at I;omega)] at Y
  refine aO aa (I) (aO aa (I) (aO aa (I) (aO aa (I) (al (cI aa (I) aa ?_)))))
  refine af (eI aa aa (dM (eU (bm 4 aa ?_))))
  refine dE (j0 (l:=i) (h:=j) rfl ⟨_,rfl⟩ ⟨_,rfl⟩ (by omega) hj ?_)
  refine bm 4 aa (da ?_)
  refine ax ?_
  rw[←Y] at K
  exact bB rfl rfl (by unfold p5;rw[K];rfl)
 refine ai (ae 2 aa (al (fH aa aa hc ?_)))
 refine al (cO (OY F c) aa aa ?_)
 refine ae 1 aa (af ?_)
 refine aJ aa (fun sY=>?_) (fun sY=>?_)
 ·have hn:¬c=39:=by rintro rfl;exact absurd sY (by decide)
  have K:ct s i c=⟨5,cut s i (i+1),i+1,0⟩:=by unfold ct;rw[aj (by rw[O];decide),aj (by rw[qF];decide),aj (by rw[yV];decide),aj hn,aq (by simpa using sY)]
  refine eU (bm 4 aa ?_)
  refine dE (j0 (l:=i) (h:=i+1) rfl ⟨_,rfl⟩ ⟨_,rfl⟩ (by omega) (by omega) ?_)
  refine bm 4 aa (da ?_)
  refine ax ?_
  exact bB rfl rfl (by unfold p5;rw[K];rfl)
 refine ai (ae 2 aa (al (fH aa aa hc ?_)))
 refine ae 2 aa (af ?_)
 refine aJ aa (fun I0=>?_) (fun I0=>?_)
 ·have hn:¬c=39:=by rintro rfl;simp at I0
  have K:ct s i c=⟨0,[],0,5⟩:=by unfold ct;rw[aj (by rw[O];decide),aj (by rw[qF];decide),aj (by rw[yV];decide),aj hn,aj (by simpa using sY)]
  refine ak 5 aa (ax ?_)
  exact bB rfl rfl (by unfold p5;rw[K];rfl)
 obtain rfl:c=39:=rm 39 (by simp at I0;omega) rfl
 have nz:ct s i 39=(match jE s (i+1) [] with|some x=>⟨4,x.1,x.2,0⟩|none=>⟨4,[],0,2⟩):=by unfold ct;rw[aj (by rw[O];decide),aj (by rw[qF];decide),aj (by rw[yV];decide),aq rfl];rfl
 refine aT (ak 1 aa (aM (K4 9 1101 5 1 1 aa aa (bN (d7 (fun k VE B=>∃(j:Nat)(b:List UInt8),j≤s.length∧k=s.length-j∧jE s j b=jE s (i+1) []∧b.length≤j∧bu [(0,dS s),(1,dI (i:Nat)),(4,d0),(5,d0),(6,dS []),(7,dB false),(8,dI (j:Nat)),(9,.ac 1101 (b.map jW).length 1)] VE∧bu [(1101,.acc 5 1 1 (b.map jW))] B) ?_ (k:=s.length-(i+1)) ⟨i+1,[],hi,aa,aa,dh _,⟨aa,aa,aa,aa,aa,aa,aa,aa,trivial⟩,aa,trivial⟩)))))
 rintro k VE B⟨j,b,hj,rfl,hq,A8,hV,hB⟩
 refine dy _ _ hV hB (aM (ak 4 aa (aJ aa (fun qE=>?_) (fun qE=>?_))))
 ·have Z:j<s.length:=by simp at qE;omega
  obtain⟨c,J⟩:=jH Z
  refine aT (bN (aM (ai (ae 2 aa (al (fH aa aa J ?_))))))
  refine ae 1 aa (af ?_)
  refine aJ aa (fun Ia=>?_) (fun Ia=>?_)
  ·have hn:¬c=39:=by rintro rfl;simp at Ia
   refine ai (ae 3 aa (al (fH aa aa J ?_)))
   refine ae 1 aa ?_
   refine al (eu (rows:=b.map jW) (ys:=[jW c]) rfl rfl rfl (.bs (rows:=[jW c]) rfl) (bS rfl) (by rw[bJ,cF];simp only[dj,dJ];omega) (fun h=>by rw[h];rfl) (fun h=>by rw[h];rfl) ?_)
   refine ae 1 aa (af ?_)
   refine ai (ae 1 aa ?_)
   refine al (cV rfl rfl (by omega) ?_)
   refine ae 1 aa (af ?_)
   refine dM ?_
   exact⟨s.length-(j+1),by omega,j+1,b++[c],by omega,rfl,by rw[←MM J hn,hq],by simp only[bJ,dj,dJ];omega,by rw[dX];exact⟨rfl,rfl,rfl,rfl,rfl,rfl,rfl,rfl,trivial⟩,by rw[dX];exact rfl,trivial⟩
  obtain rfl:c=39:=rm 39 (by simp at Ia;omega) rfl
  refine aT (aM (ai (ae 1 aa ?_)))
  refine al (cV rfl rfl (by omega) ?_)
  refine ae 4 aa (cX (g:=nH) aa (fun z=>?_) (fun z=>?_))
  ·have PY:j+1<s.length:=by simp at z;omega
   obtain⟨d,sP⟩:=jH PY
   refine ao aa (z) (bM aa ?_)
   refine ao aa (z) (bM aa ?_)
   refine ao rfl (z) (cV rfl rfl (by omega) ?_)
   refine ao aa (z) (fH aa aa sP ?_)
   refine ao aa (z) (hH aa aa ?_)
   refine al (cS aa (z) aa ?_)
   refine af (aJ aa (fun Ib=>?_) (fun Ib=>?_))
   ·obtain rfl:d=39:=rm 39 (by simp at Ib;omega) rfl
    refine ai (ae 2 aa ?_)
    refine al (eu (rows:=b.map jW) (ys:=[jW 39]) rfl rfl rfl (.bs (rows:=[jW 39]) rfl) (bS rfl) (by rw[bJ,cF];simp only[dj,dJ];omega) (fun h=>by rw[h];rfl) (fun h=>by rw[h];rfl) ?_)
    refine ae 1 aa (af ?_)
    refine ai (ae 1 aa ?_)
    refine al (jL rfl rfl (by simp only[aZ];omega) (by simp only[aZ];omega) ?_)
    rw[show((j:Nat):Int)+Int.ofNat 2=((j+2:Nat):Int) from rfl]
    refine ae 1 aa (af ?_)
    refine dM ?_
    exact⟨s.length-(j+2),by omega,j+2,b++[39],by omega,rfl,by rw[←L9 J sP,hq],by simp only[bJ,dj,dJ];omega,by rw[dX];exact⟨rfl,rfl,rfl,rfl,rfl,rfl,rfl,rfl,trivial⟩,by rw[dX];exact rfl,trivial⟩
   rw[CP J (fun d2 P0=>by(rw[sP] at P0;cases P0;rintro rfl;simp at Ib))] at hq
   rw[←hq] at nz
   refine aT (eU (bm 1 aa ?_))
   refine dE (cV rfl rfl (by omega) ?_)
   refine bm 1 aa ?_
   rw[cF]
   refine eJ aa (KC aa aa ?_)
   refine bm 4 aa (da ?_)
   refine ax ?_
   exact bB rfl rfl (by unfold p5;rw[nz];rfl)
  rw[CP J (fun d J=>absurd (List.getElem?_eq_some_iff.1 J).1 (by simp at z;omega))] at hq
  rw[←hq] at nz
  refine aO aa (z) (aO aa (z) (aO aa (z) (aO aa (z) (aO aa (z) (al (cI aa (z) aa ?_))))))
  refine af (eI aa aa (aT (eU (bm 1 aa ?_))))
  refine dE (cV rfl rfl (by omega) ?_)
  refine bm 1 aa ?_
  rw[cF]
  refine eJ aa (KC aa aa ?_)
  refine bm 4 aa (da ?_)
  refine ax ?_
  exact bB rfl rfl (by unfold p5;rw[nz];rfl)
 rw[MN (by simp at qE;omega)] at hq
 rw[←hq] at nz
 have hje:j=s.length:=by simp at qE;omega
 refine dM (ak 5 aa (ax ?_))
 subst hje
 exact bB rfl rfl (by unfold p5;rw[nz];rfl)
open Go
set_option maxRecDepth 10000
section
variable{s:List UInt8}{i:Nat}{c:UInt8}
theorem FM:(ct s i c).err=0∧(ct s i c).kind≠0∨(ct s i c).err=2∧(ct s i c).kind≠0∨(ct s i c).err=5∧(ct s i c).kind=0:=by
 unfold ct
 split
 ·exact .inl ⟨rfl,(by decide:(1:Int)≠0)⟩
 split
 ·exact .inl ⟨rfl,(by decide:(2:Int)≠0)⟩
 split
 ·exact .inl ⟨rfl,(by decide:(3:Int)≠0)⟩
 split
 ·cases jE s (i+1) [] with
  |none=>exact .inr (.inl ⟨rfl,(by decide:(4:Int)≠0)⟩)
  |some x=>exact .inl ⟨rfl,(by decide:(4:Int)≠0)⟩
 split
 ·exact .inl ⟨rfl,(by decide:(5:Int)≠0)⟩
 exact .inr (.inr ⟨aa,aa⟩)
theorem Vv(h:(ct s i c).kind=0):(ct s i c).err=5:=by
 rcases FM (s:=s) (i:=i) (c:=c) with⟨_,k⟩|⟨_,k⟩|⟨k,_⟩
 ·exact absurd h k
 ·exact absurd h k
 exact k
theorem UA(h:(ct s i c).err=5):(ct s i c).kind=0:=by
 rcases FM (s:=s) (i:=i) (c:=c) with⟨k,_⟩|⟨k,_⟩|⟨_,k⟩
 ·rw[k] at h;exact absurd h (by decide)
 ·rw[k] at h;exact absurd h (by decide)
 exact k
theorem Td(h:¬(ct s i c).err=5)(h2:¬(ct s i c).err=2):(ct s i c).err=0:=by
 rcases FM (s:=s) (i:=i) (c:=c) with⟨k,_⟩|⟨k,_⟩|⟨k,_⟩
 ·exact k
 ·exact absurd k h2
 exact absurd k h
theorem Te(I:s[i]?=some c)(h:(ct s i c).err=0)(J:s.length≤4000):(ct s i c).text.length≤4000:=by
 have z:∀j,(cut s i j).length≤4000:=fun j=>by unfold cut;rw[ng,iL];omega
 unfold ct
 split
 ·exact z _
 split
 ·exact z _
 split
 ·exact z _
 split
 ·cases A:jE s (i+1) [] with
  |none=>exact dh _
  |some x=>
   unfold jE at A
   obtain⟨y,G,rfl⟩:=Option.map_eq_some_iff.1 A
   obtain⟨_,h2,K⟩:=Cs _ _ G
   rw[iL] at h2
   show([]++y.1).length≤4000
   rw[Ek];omega
 split
 ·exact z _
 exact dh _
end
set_option maxHeartbeats 1000000 in
theorem Ob{T:bf}(F:FT T)(s:List UInt8):Sound T 27 [dS s] fun r=>r=Ee (e9 s):=by
 refine eo F.f27 aa (ak 3 aa (aM (ak 3 aa (aJ aa (fun K=>?_) (fun K=>?_)))))
 ·have hm:e9 s=([],0,4):=aq (by simp at K;omega)
  refine ak 3 aa (ax ?_)
  exact bB rfl rfl (by rw[hm];rfl)
 have hl:s.length≤4000:=by simp at K;omega
 have nz:e9 s=mm s (s.length+1) (runM lO s 0) []:=aj (by omega)
 refine aT (ak 1 aa (ak 1 aa (aM (K4 5 1101 91 32 3 aa aa (bN ?_)))))
 refine d7 (fun m VE B=>∃(k i:Nat)(out:List cL),mm s k (runM lO s i) out=e9 s∧i≤s.length∧m=s.length-i∧s.length+1≤i+k∧out.length≤1000∧bu [(0,dS s),(2,dN),(3,d0),(4,d0),(5,.ac 1101 (out.map cL.enc).length 3),(6,dI (i:Nat))] VE∧bu [(1101,.acc 91 32 3 (out.map cL.enc))] B) ?_ (k:=s.length) ⟨s.length+1,0,[],nz.symm,dh _,rfl,by omega,by decide,⟨rfl,rfl,rfl,rfl,rfl,rfl,trivial⟩,rfl,trivial⟩
 rintro m VE B⟨k,i,out,z,hi,rfl,hk,ho,hV,hB⟩
 obtain⟨k,rfl⟩:∃k',k=k'+1:=⟨k-1,by omega⟩
 refine dy _ _ hV hB (aM (ak 4 aa (aJ aa (fun I=>?_) (fun I=>?_))))
 ·have p6:i<s.length:=by simp at I;omega
  obtain⟨c,J⟩:=jH p6
  have A:=Ma (k:=k) (out:=out) J
  refine aT (bN (aM (ai (ae 2 aa (al (fH aa aa J ?_))))))
  refine al (cO (rsp F c) aa aa ?_)
  refine af (aJ aa (fun O=>?_) (fun O=>?_))
  ·refine ai (ae 1 aa ?_)
   refine al (cV rfl rfl (by omega) ?_)
   refine ae 1 aa (af ?_)
   refine dM ?_
   exact⟨s.length-(i+1),by omega,k+1,i+1,out,by rw[←qX J O];exact z,by omega,rfl,by omega,ho,⟨rfl,rfl,rfl,rfl,rfl,rfl,trivial⟩,rfl,trivial⟩
  rw[zX J O] at z
  refine aT (ai (ae 2 aa (al (cO (aai F J p6 hl) aa aa ?_))))
  refine ae 9 aa (af ?_)
  refine ak 6 aa (aM (bN (ak 3 aa (aJ aa (fun U=>?_) (fun U=>?_)))))
  ·have he:(ct s i c).err=5:=Vv (by simpa using U)
   rw[aq (by rw[he];decide),he] at A
   rw[A] at z
   refine ak 4 aa (ax ?_)
   exact bB rfl rfl (by rw[←z];rfl)
  have h5:¬(ct s i c).err=5:=fun e=>absurd U (by rw[UA e];decide)
  refine ak 3 aa (aJ aa (fun Y=>?_) (fun Y=>?_))
  ·have he:(ct s i c).err=2:=by simpa using Y
   rw[aq (by rw[he];decide),he] at A
   rw[A] at z
   refine ak 4 aa (ax ?_)
   exact bB rfl rfl (by rw[←z];rfl)
  have he:(ct s i c).err=0:=Td h5 (by simpa using Y)
  have hst:=F3 J he
  have Bb:=Uz J he
  rw[aj (fun k=>k he)] at A
  rw[show(if(ct s i c).err=5 then i+1 else if(ct s i c).err=2 then s.length else(ct s i c).stop)=(ct s i c).stop by rw[he];rfl]
  refine ai (ae 1 aa (al (cO (Vu F (i:Nat) Bb (Te J he hl)) aa aa ?_)))
  refine ae 2 aa (cX (g:=d9) aa (fun G=>?_) (fun G=>?_))
  ·rw[aq (fun k=>by rw[k.1] at G;cases G)] at A
   rw[A] at z
   refine aO aa (G) (aO aa (G) (aO aa (G) (al (cS aa (G) aa ?_))))
   refine ae 1 aa (af ?_)
   refine e7 aa aa (ak 4 aa (ax ?_))
   exact bB rfl rfl (by rw[←z];rfl)
  refine ao aa (G) (bM aa ?_)
  refine ao aa (G) (zw aa ?_)
  refine ao aa (G) (zT aa aa ?_)
  refine al (cI aa (G) aa ?_)
  refine ae 1 aa (af ?_)
  refine aJ aa (fun Z=>?_) (fun Z=>?_)
  ·rw[aq (fun k=>by(have:=k.2;simp at Z;omega))] at A
   rw[A] at z
   refine ak 4 aa (ax ?_)
   exact bB rfl rfl (by rw[←z];rfl)
  have nw:out.length<1000:=by simp at Z;omega
  rw[aj (fun k=>k ⟨by simpa using G,nw⟩)] at A
  rw[A] at z
  refine aT (ai (ae 3 aa ?_))
  refine al (eu (rows:=out.map cL.enc) (ys:=[(⟨(ct s i c).kind,(i:Nat),(ct s i c).text⟩:cL).enc]) rfl rfl rfl (.bs (rows:=[(⟨(ct s i c).kind,(i:Nat),(ct s i c).text⟩:cL).enc]) rfl) (bS rfl) (by rw[bJ,cF];simp only[dj,dJ];omega) (fun h=>by rw[h];rfl) (fun h=>by rw[h];rfl) ?_)
  refine ae 1 aa (af ?_)
  refine bG (ae 2 aa (af ?_))
  refine⟨s.length-(ct s i c).stop,by omega,k,(ct s i c).stop,out++[(⟨(ct s i c).kind,(i:Nat),(ct s i c).text⟩:cL)],z,hst.2,rfl,by omega,?_,?_,?_⟩
  ·rw[bJ,eG];omega
  ·rw[dX];exact⟨rfl,rfl,rfl,rfl,rfl,rfl,trivial⟩
  rw[dX];exact⟨rfl,trivial⟩
 rw[zY (by simp at I;omega)] at z
 have IW:mm s (k+1) i out=(out++[⟨6,(s.length:Nat),[]⟩],0,0):=by unfold mm;rw[List.getElem?_eq_none_iff.2 (by simp at I;omega)]
 rw[IW] at z
 refine dM (ai (ae 5 aa ?_))
 refine al (eu (rows:=out.map cL.enc) (ys:=[(⟨6,(s.length:Nat),[]⟩:cL).enc]) rfl rfl rfl (.bs (rows:=[(⟨6,(s.length:Nat),[]⟩:cL).enc]) rfl) (bS rfl) (by rw[bJ,cF];simp only[dj,dJ];omega) (fun h=>by rw[h];rfl) (fun h=>by rw[h];rfl) ?_)
 refine fu 65 1101 aa aa (fun _=>⟨aa,aa⟩) (ae 3 aa (af ?_))
 refine ax ?_
 exact bB rfl rfl (by rw[←z];unfold Ee;rw[dX];rfl)
end Go.Ev.Pp
namespace Go.Ev
open Go
variable{T:bf}{VE:b0}{B:br}{Q:VV→br→Prop}
theorem hU{x:aF}{rows:List (List DC)}(z:x.vv VE=some (.d (.e8 rows)))(A:Q (dI (rows.length:Nat)) B):VI T (.len x) VE B [] Q:=by
 cases rows with
 |nil=>exact LH z A
 |cons r s=>exact MB z A
theorem jM{x i:aF}{es j:Nat}{k:IntKind}{rows:List (List DC)}{row:List DC}(A:x.vv VE=some (.d (.e8 rows)))(hi:i.vv VE=some (.d (.i k (j:Int))))(z:rows[j]?=some row)(G:row.length=es)(I:Q (.rp row 0) B):VI T (.fm es x i) VE B [] Q:=by
 cases rows with
 |nil=>simp at z
 |cons r s=>exact lS A hi z G I
def uF:List Nat→List DC→Bool
 |[],[]=>true
 |c::r,.i k _::s=>Nat.beq (dk k) c&&uF r s
 |c::r,.b _::s=>Nat.beq c 100&&uF r s
 |c::r,.s _ _::s=>Nat.beq c 101&&uF r s
 |_,_=>false
theorem Ct{H:az}{X:Nat→Prop}{β:Nat→Nat}:∀{ks:List Nat}{r:List DC}{l J:List an},uF ks r=true→bk H X β (r.map .d) l→bk H X β (r.map .d) J→kH ks l=true∧kH ks J=true∧qc l J=some true
 |[],[],l,J,_,h,h'=>by simp only[fw,bk] at h h';subst h;subst h';exact⟨rfl,rfl,rfl⟩
 |c::ks,d::r,l,J,K,h,h'=>by
  simp only[ez,bk] at h h'
  obtain⟨a,s,rfl,I,h2⟩:=h
  obtain⟨a',s',rfl,z,G⟩:=h'
  cases d with
  |i k n=>
   obtain⟨A,O⟩:=iw (show(Nat.beq (dk k) c&&uF ks r)=true from K)
   obtain⟨e1,e2,U⟩:=Ct O h2 G
   simp only[aN,cM] at I z
   subst I;subst z
   refine⟨by simp only[kH,r5,A,e1];rfl,by simp only[kH,r5,A,e2];rfl,?_⟩
   simp only[qc,wP]
   rw[show Nat.beq (dk k) (dk k)=true from iZ _,show l7 n n=true by rw[tE];simp]
   exact U
  |b t=>
   obtain⟨A,O⟩:=iw (show(Nat.beq c 100&&uF ks r)=true from K)
   obtain⟨e1,e2,U⟩:=Ct O h2 G
   simp only[aN,cM] at I z
   subst I;subst z
   refine⟨by simp only[kH,r5,A,e1];rfl,by simp only[kH,r5,A,e2];rfl,?_⟩
   simp only[qc,wP,beq_self_eq_true]
   exact U
  |s m v=>
   obtain⟨A,O⟩:=iw (show(Nat.beq c 101&&uF ks r)=true from K)
   obtain⟨e1,e2,U⟩:=Ct O h2 G
   simp only[aN,cM] at I z
   subst I;subst z
   refine⟨by simp only[kH,r5,A,e1];rfl,by simp only[kH,r5,A,e2];rfl,?_⟩
   simp only[qc,wP]
   rw[show qZ m v m v=true from by rw[SK];simp]
   exact U
  |nil=>cases K
  |sl _=>cases K
theorem tz{neg:Bool}{ks:List Nat}{x y:aF}{r:List DC}(I:x.vv VE=some (.agg (r.map .d)))(J:y.vv VE=some (.agg (r.map .d)))(K:uF ks r=true)(O:Q (dB (Bool.xor neg true)) B):VI T (.eqv (.agg ks) neg x y) VE B [] Q:=fun _ _ _ _ _ A=>by
 obtain⟨a,U,h2⟩:=A.b9 I
 obtain⟨b,Y,z⟩:=A.b9 J
 simp only[aN] at h2 z
 obtain⟨l,rfl,h2⟩:=h2
 obtain⟨G,rfl,z⟩:=z
 obtain⟨Z,k2,k3⟩:=Ct K h2 z
 refine fZ (v:=.bool (Bool.xor neg true)) (fun call=>?_) (eW A (v:=dB (Bool.xor neg true)) (by simp only[aN,cM]) O)
 show bA x _ (.err 7) (fun a=>bA y _ (.err 7) fun b=>ob (ns (.agg ks) a b) (.err 7) fun r=>mZ (Bool.xor neg r) fun r=>.ok (.bool r) _)=_
 rw[dm,U,df,dm,Y,df]
 show ob (aH (kH ks l) (aH (kH ks G) (qc l G) none) none) _ _=_
 rw[Z,k2,k3]
 cases neg<;>rfl
theorem Mb{neg:Bool}{x y:aF}{t:Bool}(G:x.vv VE=some (dB t))(I:y.vv VE=some (dB t))(J:Q (dB (Bool.xor neg true)) B):VI T (.eqv .bool neg x y) VE B [] Q:=fun _ _ _ _ _ z=>by
 obtain⟨a,K,h2⟩:=z.b9 G
 obtain⟨b,O,A⟩:=z.b9 I
 simp only[aN,cM] at h2 A
 subst h2;subst A
 refine fZ (v:=.bool (Bool.xor neg true)) (fun call=>?_) (eW z (v:=dB (Bool.xor neg true)) (by simp only[aN,cM]) J)
 show bA x _ (.err 7) (fun a=>bA y _ (.err 7) fun b=>ob (ns .bool a b) (.err 7) fun r=>mZ (Bool.xor neg r) fun r=>.ok (.bool r) _)=_
 rw[dm,K,df,dm,O,df]
 show ob (some (t==t)) _ _=_
 cases neg<;>cases t<;>rfl
theorem kZ{x y:aF}{k:IntKind}{a:Int}(z:x.vv VE=some (.d (.i k a)))(A:y.vv VE=some (.d (.i k a)))(G:Q (dB false) B):VI T (.bin .neq x y) VE B [] Q:=
 iu z A (by rw[show(!decide (a=a))=false by simp];exact G)
theorem CQ{x y:aF}{a:List UInt8}(z:x.vv VE=some (dS a))(A:y.vv VE=some (dS a))(G:Q (dB false) B):VI T (.bin .neq x y) VE B [] Q:=
 SN z A (by rw[show(!decide (a=a))=false by simp];exact G)
theorem CR{x y:aF}{k:IntKind}{a:Int}(z:x.vv VE=some (.d (.i k a)))(A:y.vv VE=some (.d (.i k a)))(G:Q (dB true) B):VI T (.bin .eql x y) VE B [] Q:=
 hH z A (by rw[show(decide (a=a))=true by simp];exact G)
end Go.Ev
namespace Go.Ev.Pp
open Go
variable{p q:PS}{D:Rd}{a:Bool}
structure Core.sm(c:Core):Prop where
 e:c.exprs.length≤10000
 i:c.items.length≤10000
 s:c.src.length≤10000
 g:c.group.length≤10000
structure js.sm(s:js):Prop where
 c:s.fN.length≤10000
 o:s.ops.length≤10000
 all:∀x,x∈s.fN→x.sm
structure Stmt.sm(s:Stmt):Prop where
 cQ:s.cQ.sm
 row:s.row.length≤10000
 ex:s.exprs.length≤10000
 mS:s.mS.length≤10000
 ji:s.ji.length≤10000
 key:s.key.length≤10000
 ma:s.ma.length≤10000
 fk:∀f,f∈s.ma→f.ji.length≤10000∧f.refs.length≤10000
 cons:s.cons.length≤10000
 gS:∀c,c∈s.cons→c.2.length≤10000
theorem bd.dY(h:bd p):p.ay.length≤2000:=h.ok.dY
theorem bO.dY(h:bO p q)(hp:bd p):q.ay.length≤2000:=by rw[h.ay];exact hp.dY
theorem bd.I1(h:bd p):p.ex.length≤10000:=by
 have z:=h.ok.u9;have h2:=h.ok.lt;have A:=h.dY
 split at z<;>omega
section
variable{α:Type}{f:PS→α×PS}
theorem KE:∀(k:Nat)(l:List α)(p:PS),(kv f k l p).1.length≤l.length+k
 |0,l,p=>bY _
 |k+1,l,p=>by
  unfold kv
  split
  ·have:=KE k (l++[(f (p.sign cE).2).1]) (f (p.sign cE).2).2
   rw[bJ,eG] at this;omega
  show l.length≤_;omega
theorem w3(h:bd p):(je f p).1.length≤10000:=by
 have:=KE (f:=f) p.ay.length [(f p).1] (f p).2
 have:=h.dY
 unfold je;rw[eG] at*;omega
end
theorem B8(h:bd p):p.names.1.length≤10000:=w3 (h.gP cg).top
theorem JW:∀(k:Nat)(l:List Src)(p:PS),(oD D k l p).1.length≤l.length+k
 |0,l,p=>bY _
 |k+1,l,p=>by
  unfold oD
  split
  ·show l.length≤_;omega
  rename_i b q _
  have:=JW k (l++[(q.gC D b).1]) (q.gC D b).2
  rw[bJ,eG] at this;omega
theorem Mc(h:bd p):(p.core D a).1.sm:=by
 have z:=h.dC D a
 refine⟨z.top.group.top.I1,?_,?_,?_⟩
 ·show(p.ff.items D).1.length≤_
  unfold PS.items
  split
  ·exact dh _
  exact w3 h.ff.top
 ·have:=JW (D:=D) (p.fo D).ay.length [((p.fo D).source a).1] ((p.fo D).source a).2
  have:=(h.fo D).top.dY
  rw[eG] at*
  show(oD _ _ _ _).1.length≤_
  omega
 show(p.dC D a).group.1.2.length≤_
 unfold PS.group
 split
 ·exact w3 ((z.top.kw gq).top.dD [gI]).top
 exact dh _
theorem Md:∀(k:Nat)(s:js){p:PS},bd p→s.fN.length+k≤10000→s.ops.length+k≤10000→(∀x,x∈s.fN→x.sm)→(pX D a k s p).1.sm
 |0,s,p,_,G,h2,A=>⟨G,h2,A⟩
 |k+1,s,p,h,G,h2,A=>by
  unfold pX
  split
  ·exact⟨by show s.fN.length≤_;omega,by show s.ops.length≤_;omega,A⟩
  rename_i o q J
  have g:=(h.op J).1
  have I:=g.top.dD [gK]
  refine Md k _ (I.top.core D a).top ?_ ?_ fun x z=>?_
  ·rw[bJ,eG];omega
  ·rw[bJ,eG];omega
  rcases List.mem_append.1 z with z|z
  ·exact A x z
  rcases List.mem_singleton.1 z with rfl;exact Mc I.top
theorem GV(h:bd p):(p.cQ D a).1.sm:=by
 have:=h.dY
 exact Md _ _ (h.core D a).top (by rw[eG];omega) (by show 0+_≤_;omega) fun x z=>by
  rcases List.mem_singleton.1 z with rfl;exact Mc h
theorem GC:js.sm ⟨[],[]⟩:=⟨dh _,dh _,fun _ h=>(by cases h)⟩
theorem m5:Stmt.sm {}:=⟨GC,dh _,dh _,dh _,dh _,dh _,dh _,fun _ h=>(by cases h),dh _,fun _ h=>(by cases h)⟩
theorem Me:∀(k:Nat)(l:List Fk){p:PS},bd p→l.length+k≤10000→(∀f,f∈l→f.ji.length≤10000∧f.refs.length≤10000)→(o5 k l p).1.length≤10000∧∀f,f∈(o5 k l p).1→f.ji.length≤10000∧f.refs.length≤10000
 |0,l,p,_,A,h2=>⟨A,h2⟩
 |k+1,l,p,h,A,h2=>by
  unfold o5
  split
  ·have g:=h.kw lP
   refine Me k _ g.top.fk.top (by rw[bJ,eG];omega) fun f z=>?_
   rcases List.mem_append.1 z with z|z
   ·exact h2 f z
   rcases List.mem_singleton.1 z with rfl
   exact⟨B8 g.top,B8 (g.top.sT.top.name).top⟩
  exact⟨by show l.length≤_;omega,h2⟩
theorem Lo:∀(k:Nat)(l:List (Int×List (List UInt8))){p:PS},bd p→l.length+k≤10000→(∀c,c∈l→c.2.length≤10000)→(nL k l p).1.length≤10000∧∀c,c∈(nL k l p).1→c.2.length≤10000
 |0,l,p,_,A,h2=>⟨A,h2⟩
 |k+1,l,p,h,A,h2=>by
  unfold nL
  split
  ·exact⟨by show l.length≤_;omega,h2⟩
  rename_i c q G
  have g:=(h.gS G).1
  refine Lo k _ g.top.names.top (by rw[bJ,eG];omega) fun f z=>?_
  rcases List.mem_append.1 z with z|z
  ·exact h2 f z
  rcases List.mem_singleton.1 z with rfl
  exact B8 g.top
theorem R9(h:bd p):(p.insert D).1.sm:={m5 with row:=w3 h.sh.top}
theorem R'(h:bd p):(p.remove D).1.sm:={m5 with ex:=((h.nr D).top.dW D).top.I1}
theorem Sa(h:bd p):(p.update D).1.sm:={m5 with mS:=w3 (h.x6 D).top,ex:=((h.o4 D).top.dW D).top.I1}
theorem Sb(h:bd p):p.create.1.sm:=by
 have J:=h.dY
 obtain⟨z,A⟩:=Me p.ay.length [] h.x7.top (by show 0+_≤_;omega) (fun _ h=>by cases h)
 obtain⟨G,I⟩:=Lo p.ay.length [] h.o6.top (by show 0+_≤_;omega) (fun _ h=>by cases h)
 exact{m5 with
  ji:=w3 h.Aq.top
  key:=by
   show p.il.key.1.length≤_
   unfold PS.key
   split
   ·exact B8 (h.il.top.kw rl).top
   exact dh _
  ma:=z
  fk:=A
  cons:=G
  gS:=I}
theorem Tf:p.alter.1.sm:=by
 unfold PS.alter
 split
 ·exact{m5 with ji:=by show 1≤10000;decide}
 split
 ·exact{m5 with}
 exact m5
theorem UB(h:bd p):(p.qz D).1.sm:={m5 with cQ:=GV h}
theorem UC:p.hold.1.sm:={m5 with}
theorem Tg(h:bd p):(p.query D).1.sm:={m5 with cQ:=GV h.mode.top}
theorem Qo(h:bd p):(p.cT D).1.sm:=by
 unfold PS.cT
 split
 ·exact R9 (h.kw _).top
 split
 ·exact R' (h.kw _).top
 split
 ·exact Sa (h.kw _).top
 split
 ·exact Sb (h.kw _).top
 split
 ·exact Tf
 split
 ·exact UB (h.kw _).top
 split
 ·exact{m5 with}
 split
 ·exact UC
 split
 ·exact{m5 with}
 split
 ·exact{m5 with}
 exact Tg h
theorem Sc{ay:List cL}(z:q8 ay):(lv D ay).1.sm:=by
 unfold lv
 split
 ·exact m5
 exact Qo z.top
theorem Ro{ay:List cL}(z:q8 ay):(lq D ay).1.sm:=by
 unfold lq
 split
 ·exact GC
 exact GV z.top
open Go
set_option maxRecDepth 10000
theorem Oc{T:bf}(F:FT T){l:List aL}(K:l.length≤10000):Sound T 30 [.d (.e8 (l.map aL.enc)),.d (.e8 (l.map aL.enc))] fun r=>r=dB true:=by
 refine eo F.f30 aa (ak 1 aa (aM (ai (ae 1 aa (al (hU aa ?_))))))
 refine ae 1 aa (al (hU aa ?_))
 refine al (kZ aa aa ?_)
 refine af (eI aa aa (aT (aM (ak 1 aa (bN (d7 (fun k VE B=>∃i,i≤l.length∧k=l.length-i∧bu [(0,.d (.e8 (l.map aL.enc))),(1,.d (.e8 (l.map aL.enc))),(4,dB false),(5,dI (i:Nat))] VE∧bu [] B) ?_ (k:=l.length) ⟨0,dh _,aa,⟨aa,aa,aa,aa,trivial⟩,trivial⟩))))))
 rintro k VE B⟨i,hi,rfl,I,J⟩
 refine dy _ _ I J (aM (ai (ae 2 aa (al (hU aa ?_)))))
 refine ae 1 aa (af ?_)
 refine aJ aa (fun A=>?_) (fun A=>?_)
 ·have G:i<l.length:=by simp at A;omega
  obtain⟨e,he⟩:∃e,l[i]?=some e:=⟨_,eY G⟩
  have z:(l.map aL.enc)[i]?=some e.enc:=by rw[iO,he];rfl
  have hlen:e.enc.length=8:=rfl
  refine aT (aM (bN (eU (bm 2 aa (dE (jM aa aa z hlen ?_))))))
  refine jJ rfl rfl (mc rfl (by decide) (bY 8) ?_)
  refine bm 2 aa (dE (jM aa aa z hlen ?_))
  refine jJ rfl rfl (mc rfl (by decide) (bY 8) ?_)
  refine dE (tz (r:=e.enc) aa aa aa ?_)
  refine da (eI aa aa (aT (bG (ae 1 aa ?_))))
  refine al (cV rfl rfl (by omega) ?_)
  refine ae 1 aa (af ?_)
  exact⟨l.length-(i+1),by omega,i+1,by omega,rfl,⟨rfl,rfl,rfl,rfl,trivial⟩,trivial⟩
 exact dM (ak 1 aa (ax (bB aa aa aa)))
theorem Ef{T:bf}(F:FT T){l:List (List UInt8)}(K:l.length≤10000):Sound T 31 [.d (fP l),.d (fP l)] fun r=>r=dB true:=by
 refine eo F.f31 aa (ak 1 aa (aM (ai (ae 1 aa (al (hU aa ?_))))))
 refine ae 1 aa (al (hU aa ?_))
 refine al (kZ aa aa ?_)
 refine af (eI aa aa (aT (aM (ak 1 aa (bN (d7 (fun k VE B=>∃i,i≤l.length∧k=l.length-i∧bu [(0,.d (fP l)),(1,.d (fP l)),(4,dB false),(5,dI (i:Nat))] VE∧bu [] B) ?_ (k:=l.length) ⟨0,dh _,aa,⟨aa,aa,aa,aa,trivial⟩,trivial⟩))))))
 rintro k VE B⟨i,hi,rfl,I,J⟩
 refine dy _ _ I J (aM (ai (ae 2 aa (al (hU aa ?_)))))
 refine ae 1 aa (af ?_)
 refine aJ aa (fun A=>?_) (fun A=>?_)
 ·have G:i<l.length:=by simp at A;omega
  obtain⟨e,he⟩:∃e,l[i]?=some e:=⟨_,eY G⟩
  have z:(l.map fun s=>[cJ s])[i]?=some [cJ e]:=by rw[iO,he];rfl
  have hlen:[cJ e].length=1:=rfl
  refine aT (aM (bN (eU (bm 2 aa (dE (jM aa aa z hlen ?_))))))
  refine jJ aa aa (mA (x:=cJ e) aa aa ?_)
  refine bm 2 aa (dE (jM aa aa z hlen ?_))
  refine jJ aa aa (mA (x:=cJ e) aa aa ?_)
  refine dE (CQ aa aa ?_)
  refine da (eI aa aa (aT (bG (ae 1 aa ?_))))
  refine al (cV rfl rfl (by omega) ?_)
  refine ae 1 aa (af ?_)
  exact⟨l.length-(i+1),by omega,i+1,by omega,rfl,⟨rfl,rfl,rfl,rfl,trivial⟩,trivial⟩
 exact dM (ak 1 aa (ax (bB aa aa aa)))
theorem Od{T:bf}(F:FT T){l:List Int}(K:l.length≤10000):Sound T 32 [.d (.e8 (l.map fun i=>[.i .i64 i])),.d (.e8 (l.map fun i=>[.i .i64 i]))] fun r=>r=dB true:=by
 refine eo F.f32 aa (ak 1 aa (aM (ai (ae 1 aa (al (hU aa ?_))))))
 refine ae 1 aa (al (hU aa ?_))
 refine al (kZ aa aa ?_)
 refine af (eI aa aa (aT (aM (ak 1 aa (bN (d7 (fun k VE B=>∃i,i≤l.length∧k=l.length-i∧bu [(0,.d (.e8 (l.map fun i=>[.i .i64 i]))),(1,.d (.e8 (l.map fun i=>[.i .i64 i]))),(4,dB false),(5,dI (i:Nat))] VE∧bu [] B) ?_ (k:=l.length) ⟨0,dh _,aa,⟨aa,aa,aa,aa,trivial⟩,trivial⟩))))))
 rintro k VE B⟨i,hi,rfl,I,J⟩
 refine dy _ _ I J (aM (ai (ae 2 aa (al (hU aa ?_)))))
 refine ae 1 aa (af ?_)
 refine aJ aa (fun A=>?_) (fun A=>?_)
 ·have G:i<l.length:=by simp at A;omega
  obtain⟨e,he⟩:∃e,l[i]?=some e:=⟨_,eY G⟩
  have z:(l.map fun i=>[DC.i .i64 i])[i]?=some [.i .i64 e]:=by rw[iO,he];rfl
  have hlen:[DC.i .i64 e].length=1:=rfl
  refine aT (aM (bN (eU (bm 2 aa (dE (jM aa aa z hlen ?_))))))
  refine jJ aa aa (mA (x:=.i .i64 e) aa aa ?_)
  refine bm 2 aa (dE (jM aa aa z hlen ?_))
  refine jJ aa aa (mA (x:=.i .i64 e) aa aa ?_)
  refine dE (kZ aa aa ?_)
  refine da (eI aa aa (aT (bG (ae 1 aa ?_))))
  refine al (cV rfl rfl (by omega) ?_)
  refine ae 1 aa (af ?_)
  exact⟨l.length-(i+1),by omega,i+1,by omega,rfl,⟨rfl,rfl,rfl,rfl,trivial⟩,trivial⟩
 exact dM (ak 1 aa (ax (bB aa aa aa)))
open Go
set_option maxRecDepth 10000
set_option maxHeartbeats 1000000 in
theorem Wu{T:bf}(F:FT T){c:Core}(J:c.sm):Sound T 33 [ep c.enc,ep c.enc] fun r=>r=dB true:=by
 refine eo F.f33 aa (ak 3 aa (aM (ai (ae 4 aa (al (Mb aa aa ?_))))))
 refine ae 1 aa (ao aa aa (dq aa ?_))
 refine ao aa aa (cW aa aa aa ?_)
 refine ao aa aa (dq aa ?_)
 refine ao aa aa (cW aa aa aa ?_)
 refine ao aa aa (kZ aa aa ?_)
 refine ae 2 aa (ao aa aa (dq aa ?_))
 refine ao aa aa (cW aa aa aa ?_)
 refine ao aa aa (dq aa ?_)
 refine ao aa aa (cW aa aa aa ?_)
 refine ao aa aa (Mb aa aa ?_)
 refine ae 2 aa (ao aa aa (dq aa ?_))
 refine ao aa aa (cW aa aa aa ?_)
 refine ao aa aa (dq aa ?_)
 refine ao aa aa (cW aa aa aa ?_)
 refine ao aa aa (cO (Od F J.g) aa aa ?_)
 refine ao aa aa (jv aa ?_)
 refine ae 2 aa (ao aa aa (dq aa ?_))
 refine ao aa aa (cW aa aa aa ?_)
 refine ao aa aa (dq aa ?_)
 refine ao aa aa (cW aa aa aa ?_)
 refine ao aa aa (cO (Oc F J.e) aa aa ?_)
 refine ao aa aa (jv aa ?_)
 refine ae 2 aa (ao aa aa (dq aa ?_))
 refine ao aa aa (cW aa aa aa ?_)
 refine ao aa aa (hU aa ?_)
 refine ao aa aa (dq aa ?_)
 refine ao aa aa (cW aa aa aa ?_)
 refine ao aa aa (hU aa ?_)
 refine ao aa aa (kZ aa aa ?_)
 refine ae 2 aa (ao aa aa (dq aa ?_))
 refine ao aa aa (cW aa aa aa ?_)
 refine ao aa aa (hU aa ?_)
 refine ao aa aa (dq aa ?_)
 refine ao aa aa (cW aa aa aa ?_)
 refine ao aa aa (hU aa ?_)
 refine ao aa aa (kZ aa aa ?_)
 refine ae 1 aa (af ?_)
 refine eI aa aa (aT (aM (ak 1 aa (bN (d7 (fun k VE B=>∃i,i≤c.items.length∧k=c.items.length-i∧bu [(2,.vp 2 0),(3,.vp 3 0),(4,dB false),(5,dI (i:Nat))] VE∧bu [(2,.one 87 120 (c.enc.map .d)),(3,.one 87 120 (c.enc.map .d))] B) ?_ (k:=c.items.length) ⟨0,dh _,aa,⟨aa,aa,aa,aa,trivial⟩,⟨aa,aa,trivial⟩⟩)))))
 rintro k VE B⟨i,hi,rfl,K,O⟩
 refine dy _ _ K O (aM (ai (ae 3 aa (al (hU aa ?_)))))
 refine ae 1 aa (af ?_)
 refine aJ aa (fun G=>?_) (fun G=>?_)
 ·have U:=J.i
  have A:i<c.items.length:=by simp at G;omega
  obtain⟨e,he⟩:∃e,c.items[i]?=some e:=⟨_,eY A⟩
  have z:(c.items.map Item.enc)[i]?=some (Item.enc e):=by rw[iO,he];rfl
  refine aT (aM (bN (eU (bm 3 aa (dE (jM aa aa z aa ?_))))))
  refine jJ rfl rfl (mc rfl (by decide) (bY 3) ?_)
  refine bm 3 aa (dE (jM aa aa z aa ?_))
  refine jJ rfl rfl (mc rfl (by decide) (bY 3) ?_)
  refine dE (tz (r:=Item.enc e) aa aa aa ?_)
  refine da (eI aa aa (aT (bG (ae 1 aa ?_))))
  refine al (cV rfl rfl (by omega) ?_)
  refine ae 1 aa (af ?_)
  exact⟨c.items.length-(i+1),by omega,i+1,by omega,rfl,⟨rfl,rfl,rfl,rfl,trivial⟩,⟨rfl,rfl,trivial⟩⟩
 refine dM (aM (ak 1 aa (bN (d7 (fun k VE B=>∃i,i≤c.src.length∧k=c.src.length-i∧bu [(2,.vp 2 0),(3,.vp 3 0),(4,dB false),(6,dI (i:Nat))] VE∧bu [(2,.one 87 120 (c.enc.map .d)),(3,.one 87 120 (c.enc.map .d))] B) ?_ (k:=c.src.length) ⟨0,dh _,aa,⟨aa,aa,aa,aa,trivial⟩,⟨aa,aa,trivial⟩⟩))))
 rintro k VE B⟨i,hi,rfl,K,O⟩
 refine dy _ _ K O (aM (ai (ae 3 aa (al (hU aa ?_)))))
 refine ae 1 aa (af ?_)
 refine aJ aa (fun I=>?_) (fun I=>?_)
 ·have U:=J.s
  have A:i<c.src.length:=by simp at I;omega
  obtain⟨e,he⟩:∃e,c.src[i]?=some e:=⟨_,eY A⟩
  have z:(c.src.map Src.enc)[i]?=some (Src.enc e):=by rw[iO,he];rfl
  refine aT (aM (bN (eU (bm 3 aa (dE (jM aa aa z aa ?_))))))
  refine jJ rfl rfl (mc rfl (by decide) (bY 4) ?_)
  refine bm 3 aa (dE (jM aa aa z aa ?_))
  refine jJ rfl rfl (mc rfl (by decide) (bY 4) ?_)
  refine dE (tz (r:=Src.enc e) aa aa aa ?_)
  refine da (eI aa aa (aT (bG (ae 1 aa ?_))))
  refine al (cV rfl rfl (by omega) ?_)
  refine ae 1 aa (af ?_)
  exact⟨c.src.length-(i+1),by omega,i+1,by omega,rfl,⟨rfl,rfl,rfl,rfl,trivial⟩,⟨rfl,rfl,trivial⟩⟩
 exact dM (ak 1 aa (ax (bB aa aa aa)))
set_option maxHeartbeats 1000000 in
theorem Oe{T:bf}(F:FT T){s:js}(G:s.sm):Sound T 13 [ep s.enc,ep s.enc] fun r=>r=dB true:=by
 refine eo F.f13 aa (ak 3 aa (aM (ai (ae 2 aa (al (hU aa ?_))))))
 refine ae 2 aa (al (hU aa ?_))
 refine al (kZ aa aa ?_)
 refine ae 1 aa (ao aa aa (dq aa ?_))
 refine ao aa aa (cW aa aa aa ?_)
 refine ao aa aa (dq aa ?_)
 refine ao aa aa (cW aa aa aa ?_)
 refine ao aa aa (cO (Od F G.o) aa aa ?_)
 refine ao aa aa (jv aa ?_)
 refine ae 1 aa (af ?_)
 refine eI aa aa (aT (aM (ak 1 aa (bN (d7 (fun k VE B=>∃i,i≤s.fN.length∧k=s.fN.length-i∧bu [(2,.vp 2 0),(3,.vp 3 0),(4,dB false),(5,dI (i:Nat))] VE∧bu [(2,.one 27 48 (s.enc.map .d)),(3,.one 27 48 (s.enc.map .d))] B) ?_ (k:=s.fN.length) ⟨0,dh _,aa,⟨aa,aa,aa,aa,trivial⟩,⟨aa,aa,trivial⟩⟩)))))
 rintro k VE B⟨i,hi,rfl,J,K⟩
 refine dy _ _ J K (aM (ai (ae 3 aa (al (hU aa ?_)))))
 refine ae 1 aa (af ?_)
 refine aJ aa (fun A=>?_) (fun A=>?_)
 ·have O:=G.c
  have I:i<s.fN.length:=by simp at A;omega
  obtain⟨e,he⟩:∃e,s.fN[i]?=some e:=⟨_,eY I⟩
  have z:(s.fN.map Core.enc)[i]?=some (Core.enc e):=by rw[iO,he];rfl
  refine aT (aM (bN (eU (bm 3 aa (dE (jM aa aa z aa ?_))))))
  refine jJ rfl rfl (mc rfl (by decide) (bY 7) ?_)
  refine bm 3 aa (dE (jM aa aa z aa ?_))
  refine jJ rfl rfl (mc rfl (by decide) (bY 7) ?_)
  refine eJ aa (cO (Wu F (G.all e (lW he))) aa aa ?_)
  refine bm 1 aa (da ?_)
  refine eI aa aa (aT (bG (ae 1 aa ?_)))
  refine al (cV rfl rfl (by omega) ?_)
  refine ae 1 aa (af ?_)
  exact⟨s.fN.length-(i+1),by omega,i+1,by omega,rfl,⟨rfl,rfl,rfl,rfl,trivial⟩,⟨rfl,rfl,trivial⟩⟩
 exact dM (ak 1 aa (ax (bB aa aa aa)))
end Go.Ev.Pp
