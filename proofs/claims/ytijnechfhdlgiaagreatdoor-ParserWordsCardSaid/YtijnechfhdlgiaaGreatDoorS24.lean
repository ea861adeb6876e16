/- Part 24 of rules for walks through the code of a program, and of such walks; what each part proves is said by its theorems. -/
import Derived.Test.YtijnechfhdlgiaaGreatDoorS23
set_option linter.unusedVariables false
set_option linter.unusedSimpArgs false
namespace Go.Ev.Pp
open Go
set_option maxRecDepth 10000
set_option maxHeartbeats 1000000 in
theorem WL{T:bf}(F:FT T)(X:FX T){s:List UInt8}{i:Nat}{c:UInt8}(hc:s[i]?=some c)(hi:i<s.length)(U:s.length≤4000):Sound T 58 [dS s,dI (i:Nat)] fun r=>r=uT (ct s i c) i:=by
 refine ep F.f58 aa (ak 3 aa (ai (ae 2 aa (al (fM aa aa hc ?_)))))
 refine ae 1 aa (af ?_)
 refine ak 4 aa (ai (ae 1 aa ?_))
 refine al (cX rfl rfl (by omega) ?_)
 refine ae 2 aa (af ?_)
 refine aM (bN (ai (ae 1 aa (al (cQ (P9 F c) aa aa ?_)))))
 refine ae 1 aa (af ?_)
 refine aK aa (fun ew=>?_) (fun ew=>?_)
 ·have G:ct s i c=⟨1,cut s i (runM kG s i),runM kG s i,0⟩:=by unfold ct;rw[aw ew]
  have hle:i≤runM kG s i:=xj
  have J:runM kG s i≤s.length:=xk (xG hi)
  refine bG (ae 2 aa (al (cQ (AZ F (P9 F) (xG hi) U) aa aa ?_)))
  refine ae 3 aa (af ?_)
  refine ai (ae 3 aa ?_)
  refine al (j7 (l:=i) (h:=runM kG s i) rfl ⟨_,rfl⟩ ⟨_,rfl⟩ hle (by omega) ?_)
  refine ae 2 aa (af ?_)
  refine ak 5 aa (ax ?_)
  exact bC rfl rfl (by unfold uT;rw[G];rfl)
 refine ai (ae 1 aa (al (cQ (Pd F c) aa aa ?_)))
 refine ae 1 aa (af ?_)
 refine aK aa (fun z=>?_) (fun z=>?_)
 ·have G:ct s i c=⟨2,cut s i (runM iE s i),runM iE s i,0⟩:=by unfold ct;rw[aj (by rw[ew];decide),aw z]
  have hle:i≤runM iE s i:=xj
  have J:runM iE s i≤s.length:=xk (xG hi)
  refine bG (ae 2 aa (al (cQ (AZ F (inC F) (xG hi) U) aa aa ?_)))
  refine ae 3 aa (af ?_)
  refine ai (ae 3 aa ?_)
  refine al (j7 (l:=i) (h:=runM iE s i) rfl ⟨_,rfl⟩ ⟨_,rfl⟩ hle (by omega) ?_)
  refine ae 2 aa (af ?_)
  refine ak 5 aa (ax ?_)
  exact bC rfl rfl (by unfold uT;rw[G];rfl)
 refine ai (ae 1 aa (al (cQ (Ii F c) aa aa ?_)))
 refine ae 1 aa (af ?_)
 refine aK aa (fun A=>?_) (fun A=>?_)
 ·have G:ct s i c=⟨3,cut s i (runM gR s i),runM gR s i,0⟩:=by unfold ct;rw[aj (by rw[ew];decide),aj (by rw[z];decide),aw A]
  have hle:i≤runM gR s i:=xj
  have J:runM gR s i≤s.length:=xk (xG hi)
  refine bG (ae 2 aa (al (cQ (AZ F (Ii F) (xG hi) U) aa aa ?_)))
  refine ae 3 aa (af ?_)
  refine ai (ae 3 aa ?_)
  refine al (j7 (l:=i) (h:=runM gR s i) rfl ⟨_,rfl⟩ ⟨_,rfl⟩ hle (by omega) ?_)
  refine ae 2 aa (af ?_)
  refine ak 5 aa (ax ?_)
  exact bC rfl rfl (by unfold uT;rw[G];rfl)
 refine ai (ae 1 aa (al (gZ aa aa ?_)))
 refine ae 1 aa (af ?_)
 refine aK aa (fun K=>?_) (fun K=>?_)
 ·obtain rfl:c=39:=rB 39 (by simp at K;omega) rfl
  have I:ct s i 39=(match jE s (i+1) [] with|some x=>⟨4,x.1,x.2,0⟩|none=>⟨4,[],0,2⟩):=by unfold ct;rw[aj (by rw[ew];decide),aj (by rw[z];decide),aj (by rw[A];decide),aw rfl];rfl
  refine ak 2 aa (ai (ae 2 aa (al (cQ (WK F X hi U) aa aa ?_))))
  refine ae 1 aa ?_
  cases Y:jE s (i+1) []
  ·rw[Y] at I
   refine ae 7 aa (af ?_)
   refine ak 6 aa (ax ?_)
   exact bC rfl rfl (by unfold uT;rw[I];rfl)
  rw[Y] at I
  refine ae 7 aa (af ?_)
  refine ak 6 aa (ax ?_)
  exact bC rfl rfl (by unfold uT;rw[I];rfl)
 have Z:¬c=39:=by rintro rfl;simp at K
 refine ai (ae 1 aa (al (cQ (Mg F X qn c) aa aa ?_)))
 refine ae 2 aa (af ?_)
 refine aK aa (fun O=>?_) (fun O=>?_)
 ·have G:ct s i c=⟨5,cut s i (i+1),i+1,0⟩:=by unfold ct;rw[aj (by rw[ew];decide),aj (by rw[z];decide),aj (by rw[A];decide),aj Z,aw (Lw.1 (by simp at O;omega))]
  have hle:i≤i+1:=sw _
  refine bG (ae 2 aa (af ?_))
  refine ai (ae 3 aa ?_)
  refine al (j7 (l:=i) (h:=i+1) rfl ⟨_,rfl⟩ ⟨_,rfl⟩ hle (by omega) ?_)
  refine ae 2 aa (af ?_)
  refine ak 5 aa (ax ?_)
  exact bC rfl rfl (by unfold uT;rw[G];rfl)
 have G:ct s i c=⟨0,[],0,5⟩:=by unfold ct;rw[aj (by rw[ew];decide),aj (by rw[z];decide),aj (by rw[A];decide),aj Z,aj (fun k=>by(have:=Lw.2 k;simp at O;omega))]
 refine ak 4 aa (ax ?_)
 exact bC rfl rfl (by unfold uT;rw[G];rfl)
theorem Mk{s:List UInt8}{i k:Nat}{c:UInt8}{out:List cM}(z:s[i]?=some c):mv s (k+1) i out=if¬(ct s i c).err=0 then([],i,(ct s i c).err) else if¬(kJ (ct s i c).kind (ct s i c).text=true∧out.length<1000) then([],i,4) else mv s k (runM lR s (ct s i c).stop) (out++[(⟨(ct s i c).kind,(i:Nat),(ct s i c).text⟩:cM)]):=by
 rw[mv,z]
set_option maxHeartbeats 1000000 in
theorem On{T:bf}(F:FT T)(X:FX T)(s:List UInt8):Sound T 28 [dS s] fun r=>r=Eg (fg s):=by
 refine ep F.f28 aa (ak 3 aa (aM (ak 3 aa (aK aa (fun I=>?_) (fun I=>?_)))))
 ·have hm:fg s=([],0,4):=aw (by simp at I;omega)
  refine ak 3 aa (ax ?_)
  exact bC rfl rfl (by rw[hm];rfl)
 have Y:s.length≤4000:=by simp at I;omega
 have Z:fg s=mv s (s.length+1) (runM lR s 0) []:=aj (by omega)
 refine aU (ak 1 aa (ai (SX 5 1101 69 32 3 aa aa (ae 1 aa (al (cQ (AZ F (P' F) (i:=0) (df _) Y) aa aa ?_))))))
 refine ae 1 aa (af ?_)
 refine aM (bN ?_)
 refine d6 (fun k VE B=>∃(i:Nat)(out:List cM),mv s k i out=fg s∧i≤s.length∧s.length+1≤i+k∧out.length≤1000∧bw [(0,dS s),(2,dN),(3,d0),(4,d0),(5,.ac 1101 (out.map cM.enc).length 3),(6,dI (i:Nat))] VE∧bw [(1101,.acc 69 32 3 (out.map cM.enc))] B) ?_ (k:=s.length+1) ⟨runM lR s 0,[],Z.symm,xk (df _),by omega,by decide,⟨rfl,rfl,rfl,rfl,rfl,rfl,trivial⟩,rfl,trivial⟩
 rintro k VE B⟨i,out,A,hi,hk,ho,hV,hB⟩
 obtain⟨k,rfl⟩:∃k',k=k'+1:=⟨k-1,by omega⟩
 refine dx _ _ hV hB (aM (ak 4 aa (aK aa (fun J=>?_) (fun J=>?_))))
 ·have O:i<s.length:=by simp at J;omega
  obtain⟨c,hc⟩:=jH O
  have z:=Mk (k:=k) (out:=out) hc
  refine aU (bN (ai (ae 2 aa (al (cQ (WL F X hc O Y) aa aa ?_)))))
  refine ae 8 aa (af ?_)
  refine aM (ak 2 aa (aK aa (fun dq=>?_) (fun dq=>?_)))
  ·have he:¬(ct s i c).err=0:=by simpa using dq
   rw[aw he] at z
   rw[z] at A
   refine ak 5 aa (ax ?_)
   exact bC rfl rfl (by rw[←A];rfl)
  have he:(ct s i c).err=0:=by simpa using dq
  have U:=F9 hc he
  rw[aj (fun k=>k he)] at z
  rw[show(if(ct s i c).err=5 then(0:Int) else((i:Nat):Int))=((i:Nat):Int) from aj (by rw[he];decide)]
  refine aU (aM (ai (ae 1 aa (al (cQ (VM F (ct s i c).kind (i:Nat) (ct s i c).text) aa aa ?_)))))
  refine ae 2 aa (da (g:=cE) aa (fun G=>?_) (fun G=>?_))
  ·rw[aw (fun k=>by rw[k.1] at G;cases G)] at z
   rw[z] at A
   refine aS aa (G) (aS aa (G) (aS aa (G) (al (cU aa (G) aa ?_))))
   refine af (fe aa aa (ak 4 aa (ax ?_)))
   exact bC rfl rfl (by rw[←A];rfl)
  refine au aa (G) (bM aa ?_)
  refine au aa (G) (zx aa ?_)
  refine au aa (G) (zU aa aa ?_)
  refine al (cK aa (G) aa ?_)
  refine af (aK aa (fun K=>?_) (fun K=>?_))
  ·rw[aw (fun k=>by(have:=k.2;simp at K;omega))] at z
   rw[z] at A
   refine ak 4 aa (ax ?_)
   exact bC rfl rfl (by rw[←A];rfl)
  have nu:out.length<1000:=by simp at K;omega
  rw[aj (fun k=>k ⟨by simpa using G,nu⟩)] at z
  rw[z] at A
  refine aU (ai (ae 3 aa ?_))
  refine al (ey (rows:=out.map cM.enc) (ys:=[(⟨(ct s i c).kind,(i:Nat),(ct s i c).text⟩:cM).enc]) rfl rfl rfl (.bs (rows:=[(⟨(ct s i c).kind,(i:Nat),(ct s i c).text⟩:cM).enc]) rfl) (bW rfl) (by rw[bK,cC];simp only[dk,dO];omega) (fun h=>by rw[h];rfl) (fun h=>by rw[h];rfl) ?_)
  refine ae 1 aa (af ?_)
  refine bG (ae 2 aa (al (cQ (AZ F (P' F) U.2 Y) aa aa ?_)))
  refine ae 1 aa (af ?_)
  refine⟨k,fZ k,runM lR s (ct s i c).stop,out++[(⟨(ct s i c).kind,(i:Nat),(ct s i c).text⟩:cM)],A,xk U.2,?_,?_,?_,?_⟩
  ·have:=xj (P:=lR) (s:=s) (i:=(ct s i c).stop);omega
  ·rw[bK,eK];omega
  ·rw[dT];exact⟨rfl,rfl,rfl,rfl,rfl,rfl,trivial⟩
  rw[dT];exact⟨rfl,trivial⟩
 have I6:mv s (k+1) i out=(out++[⟨6,(s.length:Nat),[]⟩],0,0):=by unfold mv;rw[List.getElem?_eq_none_iff.2 (by simp at J;omega)]
 rw[I6] at A
 refine dM (ai (ae 5 aa ?_))
 refine al (ey (rows:=out.map cM.enc) (ys:=[(⟨6,(s.length:Nat),[]⟩:cM).enc]) rfl rfl rfl (.bs (rows:=[(⟨6,(s.length:Nat),[]⟩:cM).enc]) rfl) (bW rfl) (by rw[bK,cC];simp only[dk,dO];omega) (fun h=>by rw[h];rfl) (fun h=>by rw[h];rfl) ?_)
 refine fx 51 1101 aa aa (fun _=>⟨aa,aa⟩) (ae 3 aa (af ?_))
 refine ax ?_
 exact bC rfl rfl (by rw[←A];unfold Eg;rw[dT];rfl)
open Go
set_option maxRecDepth 10000
theorem I7{T:bf}(F:FT T)(c:UInt8):Sound T 102 [.d (.i .u8 (c.toNat:Nat))] fun r=>r=dB (kG c):=by
 refine ep F.Zn aa (ak 1 aa (ai (ae 3 aa (da (g:=aq) aa (fun z=>?_) (fun z=>?_)))))
 ·refine au aa (z) (bM aa ?_)
  refine au aa (z) (pL aa aa ?_)
  refine al (cU aa (z) aa ?_)
  refine ae 1 aa (af ?_)
  refine ax ?_
  exact bC rfl rfl (by refine congrArg (fun b=>VV.d (DC.b b)) ?_;rw[fS];unfold kG;simp at*;omega)
 refine aS aa (z) (aS aa (z) (al (cK aa (z) aa ?_)))
 refine ae 1 aa (af ?_)
 refine ax ?_
 exact bC rfl rfl (by refine congrArg (fun b=>VV.d (DC.b b)) ?_;rw[fS];unfold kG;simp at*;omega)
theorem Ij{T:bf}(F:FT T)(c:UInt8):Sound T 103 [.d (.i .u8 (c.toNat:Nat))] fun r=>r=dB (sQ c):=by
 refine ep F.Zo aa (ak 1 aa (ai (ae 3 aa (da (g:=aq) aa (fun z=>?_) (fun z=>?_)))))
 ·refine au aa (z) (bM aa ?_)
  refine au aa (z) (pL aa aa ?_)
  refine al (cU aa (z) aa ?_)
  refine ae 1 aa (af ?_)
  refine ax ?_
  exact bC rfl rfl (by refine congrArg (fun b=>VV.d (DC.b b)) ?_;rw[fS];unfold sQ;simp at*;omega)
 refine aS aa (z) (aS aa (z) (al (cK aa (z) aa ?_)))
 refine ae 1 aa (af ?_)
 refine ax ?_
 exact bC rfl rfl (by refine congrArg (fun b=>VV.d (DC.b b)) ?_;rw[fS];unfold sQ;simp at*;omega)
theorem wy{T:bf}(F:FT T)(c:UInt8):Sound T 105 [.d (.i .u8 (c.toNat:Nat))] fun r=>r=dB (gR c):=by
 refine ep F.Zq aa (ak 1 aa (ai (ae 3 aa (da (g:=aq) aa (fun z=>?_) (fun z=>?_)))))
 ·refine au aa (z) (bM aa ?_)
  refine au aa (z) (pL aa aa ?_)
  refine al (cU aa (z) aa ?_)
  refine ae 1 aa (af ?_)
  refine ax ?_
  exact bC rfl rfl (by refine congrArg (fun b=>VV.d (DC.b b)) ?_;rw[fS];unfold gR;simp at*;omega)
 refine aS aa (z) (aS aa (z) (al (cK aa (z) aa ?_)))
 refine ae 1 aa (af ?_)
 refine ax ?_
 exact bC rfl rfl (by refine congrArg (fun b=>VV.d (DC.b b)) ?_;rw[fS];unfold gR;simp at*;omega)
theorem rsp{T:bf}(F:FT T)(c:UInt8):Sound T 47 [.d (.i .u8 (c.toNat:Nat))] fun r=>r=dB (lR c):=by
 refine ep F.f47 aa (ak 1 aa (ai (ae 3 aa (da (g:=aq) aa (fun z=>?_) (fun z=>?_)))))
 ·refine aS aa (z) (aS aa (z) (al (cU aa (z) aa ?_)))
  refine ae 1 aa (aS aa aa (aS aa aa (ae 2 aa (aS aa aa (aS aa aa (ae 2 aa (af ?_)))))))
  refine ax ?_
  exact bC rfl rfl (by refine congrArg (fun b=>VV.d (DC.b b)) ?_;rw[fS];unfold lR;simp at*;omega)
 refine au aa (z) (bM aa ?_)
 refine au aa (z) (gZ aa aa ?_)
 refine al (cK aa (z) aa ?_)
 refine ae 1 aa (da (g:=aI) aa (fun A=>?_) (fun A=>?_))
 ·refine aS aa (A) (aS aa (A) (al (cU aa (A) aa ?_)))
  refine ae 1 aa (aS aa aa (aS aa aa (ae 2 aa (af ?_))))
  refine ax ?_
  exact bC rfl rfl (by refine congrArg (fun b=>VV.d (DC.b b)) ?_;rw[fS];unfold lR;simp at*;omega)
 refine au aa (A) (bM aa ?_)
 refine au aa (A) (gZ aa aa ?_)
 refine al (cK aa (A) aa ?_)
 refine ae 1 aa (da (g:=aR) aa (fun bJ=>?_) (fun bJ=>?_))
 ·refine aS aa (bJ) (aS aa (bJ) (al (cU aa (bJ) aa ?_)))
  refine ae 1 aa (af ?_)
  refine ax ?_
  exact bC rfl rfl (by refine congrArg (fun b=>VV.d (DC.b b)) ?_;rw[fS];unfold lR;simp at*;omega)
 refine au aa (bJ) (bM aa ?_)
 refine au aa (bJ) (gZ aa aa ?_)
 refine al (cK aa (bJ) aa ?_)
 refine ae 1 aa (af ?_)
 refine ax ?_
 exact bC rfl rfl (by refine congrArg (fun b=>VV.d (DC.b b)) ?_;rw[fS];unfold lR;simp at*;omega)
theorem I8{T:bf}(F:FT T)(c:UInt8):Sound T 104 [.d (.i .u8 (c.toNat:Nat))] fun r=>r=dB (iE c):=by
 refine ep F.Zp aa (ak 1 aa (ai (ae 1 aa (al (cQ (Ij F c) aa aa ?_)))))
 refine ae 1 aa (da (g:=aq) aa (fun z=>?_) (fun z=>?_))
 ·have G:iE c=true:=by unfold iE;rw[z];rfl
  refine aS aa (z) (aS aa (z) (al (cU aa (z) aa ?_)))
  refine ae 1 aa (aS aa aa (aS aa aa (ae 2 aa (af ?_))))
  refine ax ?_
  exact bC rfl rfl (by rw[G];rfl)
 refine au aa (z) (bM aa ?_)
 refine au aa (z) (cQ (wy F c) aa aa ?_)
 refine al (cK aa (z) aa ?_)
 refine ae 1 aa (da (g:=aI) aa (fun A=>?_) (fun A=>?_))
 ·have G:iE c=true:=by unfold iE;rw[z,A];rfl
  refine aS aa (A) (aS aa (A) (al (cU aa (A) aa ?_)))
  refine ae 1 aa (af ?_)
  refine ax ?_
  exact bC rfl rfl (by rw[G];rfl)
 have G:iE c=decide (((c.toNat:Nat):Int)=Int.ofNat 95):=by unfold iE;rw[z,A,fS];simp;omega
 refine au aa (A) (bM aa ?_)
 refine au aa (A) (gZ aa aa ?_)
 refine al (cK aa (A) aa ?_)
 refine ae 1 aa (af ?_)
 refine ax ?_
 exact bC rfl rfl (by rw[G];rfl)
theorem Pe{T:bf}(F:FT T)(c:UInt8):Sound T 106 [.d (.i .u8 (c.toNat:Nat))] fun r=>r=dB (decide (c∈qn)):=by
 refine ep F.Zr aa (ak 1 aa (ak 1 aa (aM (ak 1 aa (bN ?_)))))
 refine d6 (fun k VE B=>∃i,i≤11∧k=11-i∧(∀x,x∈qn.take i→x≠c)∧bw [(0,.d (.i .u8 (c.toNat:Nat))),(2,dB false),(3,dS qn),(4,dI (i:Nat))] VE∧bw [] B) ?_ (k:=11) ⟨0,by decide,rfl,fun _ h=>(by cases h),⟨rfl,rfl,rfl,rfl,trivial⟩,trivial⟩
 rintro k VE B⟨i,hi,rfl,O,U,Y⟩
 refine dx _ _ U Y (aM (ak 4 aa (aK aa (fun G=>?_) (fun G=>?_))))
 ·have I:i<11:=by simp[qn] at G;omega
  obtain⟨b,J⟩:=jH (s:=qn) (i:=i) I
  refine aU (aM (bN (ai (ae 2 aa (al (fM aa aa J ?_))))))
  refine ae 1 aa (al (gZ aa aa ?_))
  refine af (aK aa (fun z=>?_) (fun z=>?_))
  ·have K:decide (c∈qn)=true:=by(obtain rfl:b=c:=UInt8.toNat_inj.1 (by simp at z;omega));simpa using lG J
   refine ak 1 aa (ax ?_)
   exact bC rfl rfl (by rw[K];rfl)
  refine aU (bG (ae 1 aa ?_))
  refine al (cX rfl rfl (by omega) ?_)
  refine ae 1 aa (af ?_)
  exact⟨11-(i+1),by omega,i+1,by omega,rfl,fun x A=>by(rw[take_succ J] at A;rcases List.mem_append.1 A with A|A;exact O x A;rcases List.mem_singleton.1 A with rfl;exact fun e=>absurd z (by rw[e];simp)),⟨rfl,rfl,rfl,rfl,trivial⟩,trivial⟩
 have K:decide (c∈qn)=false:=by(have:i=11:=by simp[qn] at G;omega);subst this;exact decide_eq_false fun k=>O c k rfl
 refine dM (ak 1 aa (ax ?_))
 exact bC rfl rfl (by rw[K];rfl)
set_option maxHeartbeats 1000000 in
theorem Ik{T:bf}(F:FT T){k:Int}{t:List UInt8}(ho:HF k t)(ht:0<t.length)(hl:t.length≤4000):Sound T 107 [dS t,dI k] fun r=>r=dB true:=by
 refine ep F.Zs aa (ak 1 aa (aM (ak 1 aa (bN (d6 (fun m VE B=>∃i,i≤t.length∧m=t.length-i∧bw [(0,dS t),(1,dI k),(4,dB false),(5,dI (i:Nat))] VE∧bw [] B) ?_ (k:=t.length) ⟨0,df _,aa,⟨aa,aa,aa,aa,trivial⟩,trivial⟩)))))
 rintro m VE B⟨i,hi,rfl,hV,hB⟩
 refine dx _ _ hV hB (aM (ak 4 aa (aK aa (fun h9=>?_) (fun h9=>?_))))
 ·have hi9:i<t.length:=by simp at h9;omega
  obtain⟨c,Y⟩:=jH hi9
  have O:=lG Y
  refine aU (aM (bN (ai (ae 3 aa (da (g:=aX) aa (fun I=>?_) (fun I=>?_))))))
  ·have hu:=ho.up (by simpa using I) c O
   refine au aa (I) (bM aa ?_)
   refine au aa (I) (bM aa ?_)
   refine au aa (I) (fM aa aa Y ?_)
   refine au aa (I) (cQ (I7 F c) aa aa ?_)
   refine au aa (I) (ju aa ?_)
   refine al (cU aa (I) aa ?_)
   refine ae 1 aa (da (g:=bu) aa (fun K=>?_) (fun K=>?_))
   ·exact absurd K (by rw[hu];decide)
   refine au aa (K) (bM aa ?_)
   refine au aa (K) (gZ aa aa ?_)
   refine au aa (K) (bM aa ?_)
   refine da (g:=bP) aa (fun A=>?_) (fun A=>?_)
   ·have Z:=ho.P8 (by simpa using A) c O
    refine au aa (A) (bM aa ?_)
    refine au aa (A) (bM aa ?_)
    refine au aa (A) (fM aa aa Y ?_)
    refine au aa (A) (cQ (I8 F c) aa aa ?_)
    refine au aa (A) (ju aa ?_)
    refine au aa (K) (cU aa (A) aa ?_)
    refine al (cK aa (K) aa ?_)
    refine ae 1 aa (da (g:=cj) aa (fun G=>?_) (fun G=>?_))
    ·exact absurd G (by rw[Z];decide)
    refine au aa (G) (bM aa ?_)
    refine au aa (G) (gZ aa aa ?_)
    refine au aa (G) (bM aa ?_)
    refine da (g:=ck) aa (fun z=>?_) (fun z=>?_)
    ·have U:=ho.nW (by simpa using z) c O
     refine au aa (z) (bM aa ?_)
     refine au aa (z) (bM aa ?_)
     refine au aa (z) (fM aa aa Y ?_)
     refine au aa (z) (cQ (wy F c) aa aa ?_)
     refine au aa (z) (ju aa ?_)
     refine au aa (G) (cU aa (z) aa ?_)
     refine al (cK aa (G) aa ?_)
     refine af (aK aa (fun J=>?_) (fun J=>?_))
     ·exact absurd J (by rw[U];decide)
     refine aU (bG (ae 1 aa ?_))
     refine al (cX rfl rfl (by omega) ?_)
     refine ae 1 aa (af ?_)
     exact⟨t.length-(i+1),by omega,i+1,by omega,rfl,⟨rfl,rfl,rfl,rfl,trivial⟩,trivial⟩
    refine aS aa (z) (aS aa (z) (aS aa (z) (aS aa (z) (aS aa (z) (au aa (G) (cK aa (z) aa ?_))))))
    refine al (cK aa (G) aa ?_)
    refine af (eJ aa aa (aU (bG (ae 1 aa ?_))))
    refine al (cX rfl rfl (by omega) ?_)
    refine ae 1 aa (af ?_)
    exact⟨t.length-(i+1),by omega,i+1,by omega,rfl,⟨rfl,rfl,rfl,rfl,trivial⟩,trivial⟩
   refine aS aa (A) (aS aa (A) (aS aa (A) (aS aa (A) (aS aa (A) (au aa (K) (cK aa (A) aa ?_))))))
   refine al (cK aa (K) aa ?_)
   refine ae 1 aa (au aa aa (bM aa ?_))
   refine au aa aa (gZ aa aa ?_)
   refine au aa aa (bM aa ?_)
   refine da (g:=ck) aa (fun z=>?_) (fun z=>?_)
   ·have U:=ho.nW (by simpa using z) c O
    refine au aa (z) (bM aa ?_)
    refine au aa (z) (bM aa ?_)
    refine au aa (z) (fM aa aa Y ?_)
    refine au aa (z) (cQ (wy F c) aa aa ?_)
    refine au aa (z) (ju aa ?_)
    refine au aa aa (cU aa (z) aa ?_)
    refine ae 1 aa (af ?_)
    refine aK aa (fun J=>?_) (fun J=>?_)
    ·exact absurd J (by rw[U];decide)
    refine aU (bG (ae 1 aa ?_))
    refine al (cX rfl rfl (by omega) ?_)
    refine ae 1 aa (af ?_)
    exact⟨t.length-(i+1),by omega,i+1,by omega,rfl,⟨rfl,rfl,rfl,rfl,trivial⟩,trivial⟩
   refine aS aa (z) (aS aa (z) (aS aa (z) (aS aa (z) (aS aa (z) (au aa aa (cK aa (z) aa ?_))))))
   refine ae 1 aa (af ?_)
   refine eJ aa aa (aU (bG (ae 1 aa ?_)))
   refine al (cX rfl rfl (by omega) ?_)
   refine ae 1 aa (af ?_)
   exact⟨t.length-(i+1),by omega,i+1,by omega,rfl,⟨rfl,rfl,rfl,rfl,trivial⟩,trivial⟩
  refine aS aa (I) (aS aa (I) (aS aa (I) (aS aa (I) (aS aa (I) (al (cK aa (I) aa ?_))))))
  refine ae 1 aa (au aa aa (bM aa ?_))
  refine au aa aa (gZ aa aa ?_)
  refine au aa aa (bM aa ?_)
  refine da (g:=bP) aa (fun A=>?_) (fun A=>?_)
  ·have Z:=ho.P8 (by simpa using A) c O
   refine au aa (A) (bM aa ?_)
   refine au aa (A) (bM aa ?_)
   refine au aa (A) (fM aa aa Y ?_)
   refine au aa (A) (cQ (I8 F c) aa aa ?_)
   refine au aa (A) (ju aa ?_)
   refine au aa aa (cU aa (A) aa ?_)
   refine ae 2 aa (da (g:=cj) aa (fun G=>?_) (fun G=>?_))
   ·exact absurd G (by rw[Z];decide)
   refine au aa (G) (bM aa ?_)
   refine au aa (G) (gZ aa aa ?_)
   refine au aa (G) (bM aa ?_)
   refine da (g:=ck) aa (fun z=>?_) (fun z=>?_)
   ·have U:=ho.nW (by simpa using z) c O
    refine au aa (z) (bM aa ?_)
    refine au aa (z) (bM aa ?_)
    refine au aa (z) (fM aa aa Y ?_)
    refine au aa (z) (cQ (wy F c) aa aa ?_)
    refine au aa (z) (ju aa ?_)
    refine au aa (G) (cU aa (z) aa ?_)
    refine al (cK aa (G) aa ?_)
    refine af (aK aa (fun J=>?_) (fun J=>?_))
    ·exact absurd J (by rw[U];decide)
    refine aU (bG (ae 1 aa ?_))
    refine al (cX rfl rfl (by omega) ?_)
    refine ae 1 aa (af ?_)
    exact⟨t.length-(i+1),by omega,i+1,by omega,rfl,⟨rfl,rfl,rfl,rfl,trivial⟩,trivial⟩
   refine aS aa (z) (aS aa (z) (aS aa (z) (aS aa (z) (aS aa (z) (au aa (G) (cK aa (z) aa ?_))))))
   refine al (cK aa (G) aa ?_)
   refine af (eJ aa aa (aU (bG (ae 1 aa ?_))))
   refine al (cX rfl rfl (by omega) ?_)
   refine ae 1 aa (af ?_)
   exact⟨t.length-(i+1),by omega,i+1,by omega,rfl,⟨rfl,rfl,rfl,rfl,trivial⟩,trivial⟩
  refine aS aa (A) (aS aa (A) (aS aa (A) (aS aa (A) (aS aa (A) (au aa aa (cK aa (A) aa ?_))))))
  refine ae 2 aa (au aa aa (bM aa ?_))
  refine au aa aa (gZ aa aa ?_)
  refine au aa aa (bM aa ?_)
  refine da (g:=ck) aa (fun z=>?_) (fun z=>?_)
  ·have U:=ho.nW (by simpa using z) c O
   refine au aa (z) (bM aa ?_)
   refine au aa (z) (bM aa ?_)
   refine au aa (z) (fM aa aa Y ?_)
   refine au aa (z) (cQ (wy F c) aa aa ?_)
   refine au aa (z) (ju aa ?_)
   refine au aa aa (cU aa (z) aa ?_)
   refine ae 1 aa (af ?_)
   refine aK aa (fun J=>?_) (fun J=>?_)
   ·exact absurd J (by rw[U];decide)
   refine aU (bG (ae 1 aa ?_))
   refine al (cX rfl rfl (by omega) ?_)
   refine ae 1 aa (af ?_)
   exact⟨t.length-(i+1),by omega,i+1,by omega,rfl,⟨rfl,rfl,rfl,rfl,trivial⟩,trivial⟩
  refine aS aa (z) (aS aa (z) (aS aa (z) (aS aa (z) (aS aa (z) (au aa aa (cK aa (z) aa ?_))))))
  refine ae 1 aa (af ?_)
  refine eJ aa aa (aU (bG (ae 1 aa ?_)))
  refine al (cX rfl rfl (by omega) ?_)
  refine ae 1 aa (af ?_)
  exact⟨t.length-(i+1),by omega,i+1,by omega,rfl,⟨rfl,rfl,rfl,rfl,trivial⟩,trivial⟩
 refine dM (ak 4 aa (ax ?_))
 exact bC rfl rfl (by refine congrArg (fun b=>VV.d (DC.b b)) ?_;simp;omega)
open Go
set_option maxRecDepth 10000
set_option maxHeartbeats 1000000 in
theorem VN{T:bf}(F:FT T){k:Int}(p:Int){t:List UInt8}(ho:HF k t)(O:t.length≤4000):Sound T 49 [.agg [dI k,dI p,dS t]] fun r=>r=dB (kJ k t):=by
 refine ep F.f49 aa (ak 2 aa (aM (ak 2 aa (bN (ak 2 aa (aK aa (fun U=>?_) (fun U=>?_)))))))
 ·have hk:k=1:=by simpa using U
  have A:kJ k t=decide (t.length≤20):=by unfold kJ;rw[aj (by omega),aj (by omega)]
  have hp:=ho.ne (by omega)
  refine ai (ae 4 aa (al (cQ (Ik F ho hp O) aa aa ?_)))
  refine ae 1 aa (au aa aa (du aa ?_))
  refine au aa aa (c8 aa aa aa ?_)
  refine au aa aa (wP aa ?_)
  refine au aa aa (pL aa aa ?_)
  refine ae 2 aa (af ?_)
  refine ax ?_
  exact bC rfl rfl (by refine congrArg (fun b=>VV.d (DC.b b)) ?_;rw[A];rw[fS];simp;omega)
 refine ak 2 aa (aK aa (fun G=>?_) (fun G=>?_))
 ·have hk:k=2:=by simpa using G
  have A:kJ k t=decide (t.length≤20):=by unfold kJ;rw[aj (by omega),aj (by omega)]
  have hp:=ho.ne (by omega)
  obtain⟨d,hd⟩:=jH hp
  have Y:=ho.low hk d hd
  refine ai (ae 4 aa (al (cQ (Ik F ho hp O) aa aa ?_)))
  refine ae 1 aa (au aa aa (du aa ?_))
  refine au aa aa (c8 aa aa aa ?_)
  refine au aa aa (fM aa aa hd ?_)
  refine au aa aa (cQ (Ij F d) aa aa ?_)
  refine ae 2 aa (da (g:=ca) aa (fun z=>?_) (fun z=>?_))
  ·refine au aa (z) (du aa ?_)
   refine au aa (z) (c8 aa aa aa ?_)
   refine au aa (z) (wP aa ?_)
   refine au aa (z) (pL aa aa ?_)
   refine al (cU aa (z) aa ?_)
   refine ae 1 aa (af ?_)
   refine ax ?_
   exact bC rfl rfl (by refine congrArg (fun b=>VV.d (DC.b b)) ?_;rw[A];rw[fS];simp;omega)
  exact absurd z (by rw[Y];decide)
 refine ak 2 aa (aK aa (fun I=>?_) (fun I=>?_))
 ·have hk:k=3:=by simpa using I
  have A:kJ k t=decide (t.length≤19):=aw hk
  have hp:=ho.ne (by omega)
  refine ai (ae 4 aa (al (cQ (Ik F ho hp O) aa aa ?_)))
  refine ae 1 aa (au aa aa (du aa ?_))
  refine au aa aa (c8 aa aa aa ?_)
  refine au aa aa (wP aa ?_)
  refine au aa aa (pL aa aa ?_)
  refine ae 2 aa (af ?_)
  refine ax ?_
  exact bC rfl rfl (by refine congrArg (fun b=>VV.d (DC.b b)) ?_;rw[A];rw[fS];simp;omega)
 refine ak 2 aa (aK aa (fun J=>?_) (fun J=>?_))
 ·have hk:k=4:=by simpa using J
  have A:kJ k t=decide (t.length≤200):=by unfold kJ;rw[aj (by omega),aw hk]
  refine ak 5 aa (ax ?_)
  exact bC rfl rfl (by refine congrArg (fun b=>VV.d (DC.b b)) ?_;rw[A];rw[fS];simp;omega)
 refine ak 2 aa (aK aa (fun K=>?_) (fun K=>?_))
 ·have hk:k=5:=by simpa using K
  obtain⟨d,rfl,Z⟩:=ho.sgn hk
  have A:kJ k [d]=true:=by unfold kJ;rw[aj (by omega),aj (by omega)];rfl
  refine ai (ae 5 aa (au aa aa (du aa ?_)))
  refine au aa aa (c8 aa aa aa ?_)
  refine au aa aa (fM (j:=0) (c:=d) aa aa aa ?_)
  refine au aa aa (cQ (Pe F d) aa aa ?_)
  refine ae 2 aa (af ?_)
  refine ax ?_
  exact bC rfl rfl (by refine congrArg (fun b=>VV.d (DC.b b)) ?_;rw[A];simpa using Z)
 exact absurd ho.kind (by simp at U G I J K;omega)
open Go
set_option maxRecDepth 10000
set_option maxHeartbeats 4000000 in
theorem aa7{T:bf}(F:FT T){s:List UInt8}{i:Nat}{c:UInt8}(hc:s[i]?=some c)(hi:i<s.length)(hl:s.length≤4000):Sound T 48 [dS s,dI (i:Nat)] fun r=>r=p8 (ct s i c) i s.length:=by
 refine ep F.f48 aa (ak 4 aa (ai (ae 1 aa ?_)))
 refine al (cX rfl rfl (by omega) ?_)
 refine ae 1 aa (af ?_)
 refine aM (bN (ai (ae 2 aa (al (fM aa aa hc ?_)))))
 refine al (cQ (I7 F c) aa aa ?_)
 refine ae 1 aa (af ?_)
 refine aK aa (fun O=>?_) (fun O=>?_)
 ·have U:=qX (P:=kG) hc O
  have K:ct s i c=⟨1,cut s i (runM kG s i),runM kG s i,0⟩:=by unfold ct;rw[aw O]
  refine aM (bN (d6 (fun k VE B=>∃j,i+1≤j∧j≤s.length∧k=s.length-j∧runM kG s j=runM kG s i∧bw [(0,dS s),(1,dI (i:Nat)),(4,d0),(5,d0),(6,dS []),(7,dB false),(8,dI (j:Nat))] VE∧bw [] B) ?_ (k:=s.length-(i+1)) ⟨i+1,bY _,hi,aa,U.symm,⟨aa,aa,aa,aa,aa,aa,aa,trivial⟩,trivial⟩))
  rintro k VE B⟨j,Qb,hj,rfl,Y,hV,hB⟩
  refine dx _ _ hV hB (aM (ai (ae 5 aa (da (g:=bu) aa (fun A=>?_) (fun A=>?_)))))
  ·have Z:j<s.length:=by simp at A;omega
   obtain⟨d,J⟩:=jH Z
   refine au aa (A) (bM aa ?_)
   refine au aa (A) (bM aa ?_)
   refine au aa (A) (fM aa aa J ?_)
   refine au aa (A) (cQ (I7 F d) aa aa ?_)
   refine al (cU aa (A) aa ?_)
   refine af (aK aa (fun pf=>?_) (fun pf=>?_))
   ·refine aU (bN (bG (ae 1 aa ?_)))
    refine al (cX rfl rfl (by omega) ?_)
    refine ae 1 aa (af ?_)
    exact⟨s.length-(j+1),by omega,j+1,by omega,by omega,rfl,by rw[←qX J pf,Y],⟨rfl,rfl,rfl,rfl,rfl,rfl,rfl,trivial⟩,trivial⟩
   rw[zY J pf] at Y
   refine dM (eX (bo 4 aa ?_))
   refine dG (j7 (l:=i) (h:=j) rfl ⟨_,rfl⟩ ⟨_,rfl⟩ (by omega) hj ?_)
   refine bo 4 aa (dc ?_)
   refine ax ?_
   rw[←Y] at K
   exact bC rfl rfl (by unfold p8;rw[K];rfl)
  rw[zZ (by simp at A;omega)] at Y
  refine aS aa (A) (aS aa (A) (aS aa (A) (aS aa (A) (al (cK aa (A) aa ?_)))))
  refine af (eJ aa aa (dM (eX (bo 4 aa ?_))))
  refine dG (j7 (l:=i) (h:=j) rfl ⟨_,rfl⟩ ⟨_,rfl⟩ (by omega) hj ?_)
  refine bo 4 aa (dc ?_)
  refine ax ?_
  rw[←Y] at K
  exact bC rfl rfl (by unfold p8;rw[K];rfl)
 refine ai (ae 2 aa (al (fM aa aa hc ?_)))
 refine al (cQ (Ij F c) aa aa ?_)
 refine ae 1 aa (af ?_)
 refine aK aa (fun qG=>?_) (fun qG=>?_)
 ·have U:=qX (P:=iE) hc (by unfold iE;rw[qG];rfl)
  have K:ct s i c=⟨2,cut s i (runM iE s i),runM iE s i,0⟩:=by unfold ct;rw[aj (by rw[O];decide),aw qG]
  refine aM (bN (d6 (fun k VE B=>∃j,i+1≤j∧j≤s.length∧k=s.length-j∧runM iE s j=runM iE s i∧bw [(0,dS s),(1,dI (i:Nat)),(4,d0),(5,d0),(6,dS []),(7,dB false),(8,dI (j:Nat))] VE∧bw [] B) ?_ (k:=s.length-(i+1)) ⟨i+1,bY _,hi,aa,U.symm,⟨aa,aa,aa,aa,aa,aa,aa,trivial⟩,trivial⟩))
  rintro k VE B⟨j,Qb,hj,rfl,Y,hV,hB⟩
  refine dx _ _ hV hB (aM (ai (ae 5 aa (da (g:=dJ) aa (fun G=>?_) (fun G=>?_)))))
  ·have Z:j<s.length:=by simp at G;omega
   obtain⟨d,J⟩:=jH Z
   refine au aa (G) (bM aa ?_)
   refine au aa (G) (bM aa ?_)
   refine au aa (G) (fM aa aa J ?_)
   refine au aa (G) (cQ (I8 F d) aa aa ?_)
   refine al (cU aa (G) aa ?_)
   refine af (aK aa (fun ve=>?_) (fun ve=>?_))
   ·refine aU (bN (bG (ae 1 aa ?_)))
    refine al (cX rfl rfl (by omega) ?_)
    refine ae 1 aa (af ?_)
    exact⟨s.length-(j+1),by omega,j+1,by omega,by omega,rfl,by rw[←qX J ve,Y],⟨rfl,rfl,rfl,rfl,rfl,rfl,rfl,trivial⟩,trivial⟩
   rw[zY J ve] at Y
   refine dM (eX (bo 4 aa ?_))
   refine dG (j7 (l:=i) (h:=j) rfl ⟨_,rfl⟩ ⟨_,rfl⟩ (by omega) hj ?_)
   refine bo 4 aa (dc ?_)
   refine ax ?_
   rw[←Y] at K
   exact bC rfl rfl (by unfold p8;rw[K];rfl)
  rw[zZ (by simp at G;omega)] at Y
  refine aS aa (G) (aS aa (G) (aS aa (G) (aS aa (G) (al (cK aa (G) aa ?_)))))
  refine af (eJ aa aa (dM (eX (bo 4 aa ?_))))
  refine dG (j7 (l:=i) (h:=j) rfl ⟨_,rfl⟩ ⟨_,rfl⟩ (by omega) hj ?_)
  refine bo 4 aa (dc ?_)
  refine ax ?_
  rw[←Y] at K
  exact bC rfl rfl (by unfold p8;rw[K];rfl)
 refine ai (ae 2 aa (al (fM aa aa hc ?_)))
 refine al (cQ (wy F c) aa aa ?_)
 refine ae 1 aa (af ?_)
 refine aK aa (fun yW=>?_) (fun yW=>?_)
 ·have U:=qX (P:=gR) hc yW
  have K:ct s i c=⟨3,cut s i (runM gR s i),runM gR s i,0⟩:=by unfold ct;rw[aj (by rw[O];decide),aj (by rw[qG];decide),aw yW]
  refine aM (bN (d6 (fun k VE B=>∃j,i+1≤j∧j≤s.length∧k=s.length-j∧runM gR s j=runM gR s i∧bw [(0,dS s),(1,dI (i:Nat)),(4,d0),(5,d0),(6,dS []),(7,dB false),(8,dI (j:Nat))] VE∧bw [] B) ?_ (k:=s.length-(i+1)) ⟨i+1,bY _,hi,aa,U.symm,⟨aa,aa,aa,aa,aa,aa,aa,trivial⟩,trivial⟩))
  rintro k VE B⟨j,Qb,hj,rfl,Y,hV,hB⟩
  refine dx _ _ hV hB (aM (ai (ae 5 aa (da (g:=fH) aa (fun I=>?_) (fun I=>?_)))))
  ·have Z:j<s.length:=by simp at I;omega
   obtain⟨d,J⟩:=jH Z
   refine au aa (I) (bM aa ?_)
   refine au aa (I) (bM aa ?_)
   refine au aa (I) (fM aa aa J ?_)
   refine au aa (I) (cQ (wy F d) aa aa ?_)
   refine al (cU aa (I) aa ?_)
   refine af (aK aa (fun I9=>?_) (fun I9=>?_))
   ·refine aU (bN (bG (ae 1 aa ?_)))
    refine al (cX rfl rfl (by omega) ?_)
    refine ae 1 aa (af ?_)
    exact⟨s.length-(j+1),by omega,j+1,by omega,by omega,rfl,by rw[←qX J I9,Y],⟨rfl,rfl,rfl,rfl,rfl,rfl,rfl,trivial⟩,trivial⟩
   rw[zY J I9] at Y
   refine dM (eX (bo 4 aa ?_))
   refine dG (j7 (l:=i) (h:=j) rfl ⟨_,rfl⟩ ⟨_,rfl⟩ (by omega) hj ?_)
   refine bo 4 aa (dc ?_)
   refine ax ?_
   rw[←Y] at K
   exact bC rfl rfl (by unfold p8;rw[K];rfl)
  rw[zZ (by simp at I;omega)] at Y
  refine aS aa (I) (aS aa (I) (aS aa (I) (aS aa (I) (al (cK aa (I) aa ?_)))))
  refine af (eJ aa aa (dM (eX (bo 4 aa ?_))))
  refine dG (j7 (l:=i) (h:=j) rfl ⟨_,rfl⟩ ⟨_,rfl⟩ (by omega) hj ?_)
  refine bo 4 aa (dc ?_)
  refine ax ?_
  rw[←Y] at K
  exact bC rfl rfl (by unfold p8;rw[K];rfl)
 refine ai (ae 2 aa (al (fM aa aa hc ?_)))
 refine al (cQ (Pe F c) aa aa ?_)
 refine ae 1 aa (af ?_)
 refine aK aa (fun tl=>?_) (fun tl=>?_)
 ·have hn:¬c=39:=by rintro rfl;exact absurd tl (by decide)
  have K:ct s i c=⟨5,cut s i (i+1),i+1,0⟩:=by unfold ct;rw[aj (by rw[O];decide),aj (by rw[qG];decide),aj (by rw[yW];decide),aj hn,aw (by simpa using tl)]
  refine eX (bo 4 aa ?_)
  refine dG (j7 (l:=i) (h:=i+1) rfl ⟨_,rfl⟩ ⟨_,rfl⟩ (by omega) (by omega) ?_)
  refine bo 4 aa (dc ?_)
  refine ax ?_
  exact bC rfl rfl (by unfold p8;rw[K];rfl)
 refine ai (ae 2 aa (al (fM aa aa hc ?_)))
 refine ae 2 aa (af ?_)
 refine aK aa (fun I'=>?_) (fun I'=>?_)
 ·have hn:¬c=39:=by rintro rfl;simp at I'
  have K:ct s i c=⟨0,[],0,5⟩:=by unfold ct;rw[aj (by rw[O];decide),aj (by rw[qG];decide),aj (by rw[yW];decide),aj hn,aj (by simpa using tl)]
  refine ak 5 aa (ax ?_)
  exact bC rfl rfl (by unfold p8;rw[K];rfl)
 obtain rfl:c=39:=rB 39 (by simp at I';omega) rfl
 have nz:ct s i 39=(match jE s (i+1) [] with|some x=>⟨4,x.1,x.2,0⟩|none=>⟨4,[],0,2⟩):=by unfold ct;rw[aj (by rw[O];decide),aj (by rw[qG];decide),aj (by rw[yW];decide),aw rfl];rfl
 refine aU (ak 1 aa (aM (Lc 9 1101 5 1 1 aa aa (bN (d6 (fun k VE B=>∃(j:Nat)(b:List UInt8),j≤s.length∧k=s.length-j∧jE s j b=jE s (i+1) []∧b.length≤j∧bw [(0,dS s),(1,dI (i:Nat)),(4,d0),(5,d0),(6,dS []),(7,dB false),(8,dI (j:Nat)),(9,.ac 1101 (b.map jY).length 1)] VE∧bw [(1101,.acc 5 1 1 (b.map jY))] B) ?_ (k:=s.length-(i+1)) ⟨i+1,[],hi,aa,aa,df _,⟨aa,aa,aa,aa,aa,aa,aa,aa,trivial⟩,aa,trivial⟩)))))
 rintro k VE B⟨j,b,hj,rfl,hq,A8,hV,hB⟩
 refine dx _ _ hV hB (aM (ak 4 aa (aK aa (fun qF=>?_) (fun qF=>?_))))
 ·have Z:j<s.length:=by simp at qF;omega
  obtain⟨c,J⟩:=jH Z
  refine aU (bN (aM (ai (ae 2 aa (al (fM aa aa J ?_))))))
  refine ae 1 aa (af ?_)
  refine aK aa (fun Il=>?_) (fun Il=>?_)
  ·have hn:¬c=39:=by rintro rfl;simp at Il
   refine ai (ae 3 aa (al (fM aa aa J ?_)))
   refine ae 1 aa ?_
   refine al (ey (rows:=b.map jY) (ys:=[jY c]) rfl rfl rfl (.bs (rows:=[jY c]) rfl) (bW rfl) (by rw[bK,cC];simp only[dk,dO];omega) (fun h=>by rw[h];rfl) (fun h=>by rw[h];rfl) ?_)
   refine ae 1 aa (af ?_)
   refine ai (ae 1 aa ?_)
   refine al (cX rfl rfl (by omega) ?_)
   refine ae 1 aa (af ?_)
   refine dM ?_
   exact⟨s.length-(j+1),by omega,j+1,b++[c],by omega,rfl,by rw[←MX J hn,hq],by simp only[bK,dk,dO];omega,by rw[dT];exact⟨rfl,rfl,rfl,rfl,rfl,rfl,rfl,rfl,trivial⟩,by rw[dT];exact rfl,trivial⟩
  obtain rfl:c=39:=rB 39 (by simp at Il;omega) rfl
  refine aU (aM (ai (ae 1 aa ?_)))
  refine al (cX rfl rfl (by omega) ?_)
  refine ae 4 aa (da (g:=nJ) aa (fun z=>?_) (fun z=>?_))
  ·have Qa:j+1<s.length:=by simp at z;omega
   obtain⟨d,s8⟩:=jH Qa
   refine au aa (z) (bM aa ?_)
   refine au aa (z) (bM aa ?_)
   refine au rfl (z) (cX rfl rfl (by omega) ?_)
   refine au aa (z) (fM aa aa s8 ?_)
   refine au aa (z) (gZ aa aa ?_)
   refine al (cU aa (z) aa ?_)
   refine af (aK aa (fun Im=>?_) (fun Im=>?_))
   ·obtain rfl:d=39:=rB 39 (by simp at Im;omega) rfl
    refine ai (ae 2 aa ?_)
    refine al (ey (rows:=b.map jY) (ys:=[jY 39]) rfl rfl rfl (.bs (rows:=[jY 39]) rfl) (bW rfl) (by rw[bK,cC];simp only[dk,dO];omega) (fun h=>by rw[h];rfl) (fun h=>by rw[h];rfl) ?_)
    refine ae 1 aa (af ?_)
    refine ai (ae 1 aa ?_)
    refine al (jM rfl rfl (by simp only[bb];omega) (by simp only[bb];omega) ?_)
    rw[show((j:Nat):Int)+Int.ofNat 2=((j+2:Nat):Int) from rfl]
    refine ae 1 aa (af ?_)
    refine dM ?_
    exact⟨s.length-(j+2),by omega,j+2,b++[39],by omega,rfl,by rw[←Mi J s8,hq],by simp only[bK,dk,dO];omega,by rw[dT];exact⟨rfl,rfl,rfl,rfl,rfl,rfl,rfl,rfl,trivial⟩,by rw[dT];exact rfl,trivial⟩
   rw[CQ J (fun d2 Qc=>by(rw[s8] at Qc;cases Qc;rintro rfl;simp at Im))] at hq
   rw[←hq] at nz
   refine aU (eX (bo 1 aa ?_))
   refine dG (cX rfl rfl (by omega) ?_)
   refine bo 1 aa ?_
   rw[cC]
   refine eL aa (KK aa aa ?_)
   refine bo 4 aa (dc ?_)
   refine ax ?_
   exact bC rfl rfl (by unfold p8;rw[nz];rfl)
  rw[CQ J (fun d J=>absurd (List.getElem?_eq_some_iff.1 J).1 (by simp at z;omega))] at hq
  rw[←hq] at nz
  refine aS aa (z) (aS aa (z) (aS aa (z) (aS aa (z) (aS aa (z) (al (cK aa (z) aa ?_))))))
  refine af (eJ aa aa (aU (eX (bo 1 aa ?_))))
  refine dG (cX rfl rfl (by omega) ?_)
  refine bo 1 aa ?_
  rw[cC]
  refine eL aa (KK aa aa ?_)
  refine bo 4 aa (dc ?_)
  refine ax ?_
  exact bC rfl rfl (by unfold p8;rw[nz];rfl)
 rw[MY (by simp at qF;omega)] at hq
 rw[←hq] at nz
 have hje:j=s.length:=by simp at qF;omega
 refine dM (ak 5 aa (ax ?_))
 subst hje
 exact bC rfl rfl (by unfold p8;rw[nz];rfl)
open Go
set_option maxRecDepth 10000
section
variable{s:List UInt8}{i:Nat}{c:UInt8}
theorem FV:(ct s i c).err=0∧(ct s i c).kind≠0∨(ct s i c).err=2∧(ct s i c).kind≠0∨(ct s i c).err=5∧(ct s i c).kind=0:=by
 unfold ct
 split
 ·exact .inl ⟨rfl,(by decide:(1:Int)≠0)⟩
 split
 ·exact .inl ⟨rfl,(by decide:(2:Int)≠0)⟩
 split
 ·exact .inl ⟨rfl,(by decide:(3:Int)≠0)⟩
 split
 ·cases jE s (i+1) [] with
  |none=>exact .inr (.inl ⟨rfl,(by decide:(4:Int)≠0)⟩)
  |some x=>exact .inl ⟨rfl,(by decide:(4:Int)≠0)⟩
 split
 ·exact .inl ⟨rfl,(by decide:(5:Int)≠0)⟩
 exact .inr (.inr ⟨aa,aa⟩)
theorem VP(h:(ct s i c).kind=0):(ct s i c).err=5:=by
 rcases FV (s:=s) (i:=i) (c:=c) with⟨_,k⟩|⟨_,k⟩|⟨k,_⟩
 ·exact absurd h k
 ·exact absurd h k
 exact k
theorem UP(h:(ct s i c).err=5):(ct s i c).kind=0:=by
 rcases FV (s:=s) (i:=i) (c:=c) with⟨k,_⟩|⟨k,_⟩|⟨_,k⟩
 ·rw[k] at h;exact absurd h (by decide)
 ·rw[k] at h;exact absurd h (by decide)
 exact k
theorem Ts(h:¬(ct s i c).err=5)(h2:¬(ct s i c).err=2):(ct s i c).err=0:=by
 rcases FV (s:=s) (i:=i) (c:=c) with⟨k,_⟩|⟨k,_⟩|⟨k,_⟩
 ·exact k
 ·exact absurd k h2
 exact absurd k h
theorem Tt(I:s[i]?=some c)(h:(ct s i c).err=0)(J:s.length≤4000):(ct s i c).text.length≤4000:=by
 have z:∀j,(cut s i j).length≤4000:=fun j=>by unfold cut;rw[nf,iL];omega
 unfold ct
 split
 ·exact z _
 split
 ·exact z _
 split
 ·exact z _
 split
 ·cases A:jE s (i+1) [] with
  |none=>exact df _
  |some x=>
   unfold jE at A
   obtain⟨y,G,rfl⟩:=Option.map_eq_some_iff.1 A
   obtain⟨_,h2,K⟩:=Cs _ _ G
   rw[iL] at h2
   show([]++y.1).length≤4000
   rw[Em];omega
 split
 ·exact z _
 exact df _
end
set_option maxHeartbeats 1000000 in
theorem Oo{T:bf}(F:FT T)(s:List UInt8):Sound T 21 [dS s] fun r=>r=Eg (fg s):=by
 refine ep F.f21 aa (ak 3 aa (aM (ak 3 aa (aK aa (fun K=>?_) (fun K=>?_)))))
 ·have hm:fg s=([],0,4):=aw (by simp at K;omega)
  refine ak 3 aa (ax ?_)
  exact bC rfl rfl (by rw[hm];rfl)
 have hl:s.length≤4000:=by simp at K;omega
 have nz:fg s=mv s (s.length+1) (runM lR s 0) []:=aj (by omega)
 refine aU (ak 1 aa (ak 1 aa (aM (Lc 5 1101 69 32 3 aa aa (bN ?_)))))
 refine d6 (fun m VE B=>∃(k i:Nat)(out:List cM),mv s k (runM lR s i) out=fg s∧i≤s.length∧m=s.length-i∧s.length+1≤i+k∧out.length≤1000∧bw [(0,dS s),(2,dN),(3,d0),(4,d0),(5,.ac 1101 (out.map cM.enc).length 3),(6,dI (i:Nat))] VE∧bw [(1101,.acc 69 32 3 (out.map cM.enc))] B) ?_ (k:=s.length) ⟨s.length+1,0,[],nz.symm,df _,rfl,by omega,by decide,⟨rfl,rfl,rfl,rfl,rfl,rfl,trivial⟩,rfl,trivial⟩
 rintro m VE B⟨k,i,out,z,hi,rfl,hk,ho,hV,hB⟩
 obtain⟨k,rfl⟩:∃k',k=k'+1:=⟨k-1,by omega⟩
 refine dx _ _ hV hB (aM (ak 4 aa (aK aa (fun I=>?_) (fun I=>?_))))
 ·have p9:i<s.length:=by simp at I;omega
  obtain⟨c,J⟩:=jH p9
  have A:=Mk (k:=k) (out:=out) J
  refine aU (bN (aM (ai (ae 2 aa (al (fM aa aa J ?_))))))
  refine al (cQ (rsp F c) aa aa ?_)
  refine af (aK aa (fun O=>?_) (fun O=>?_))
  ·refine ai (ae 1 aa ?_)
   refine al (cX rfl rfl (by omega) ?_)
   refine ae 1 aa (af ?_)
   refine dM ?_
   exact⟨s.length-(i+1),by omega,k+1,i+1,out,by rw[←qX J O];exact z,by omega,rfl,by omega,ho,⟨rfl,rfl,rfl,rfl,rfl,rfl,trivial⟩,rfl,trivial⟩
  rw[zY J O] at z
  refine aU (ai (ae 2 aa (al (cQ (aa7 F J p9 hl) aa aa ?_))))
  refine ae 9 aa (af ?_)
  refine ak 6 aa (aM (bN (ak 3 aa (aK aa (fun U=>?_) (fun U=>?_)))))
  ·have he:(ct s i c).err=5:=VP (by simpa using U)
   rw[aw (by rw[he];decide),he] at A
   rw[A] at z
   refine ak 4 aa (ax ?_)
   exact bC rfl rfl (by rw[←z];rfl)
  have h5:¬(ct s i c).err=5:=fun e=>absurd U (by rw[UP e];decide)
  refine ak 3 aa (aK aa (fun Y=>?_) (fun Y=>?_))
  ·have he:(ct s i c).err=2:=by simpa using Y
   rw[aw (by rw[he];decide),he] at A
   rw[A] at z
   refine ak 4 aa (ax ?_)
   exact bC rfl rfl (by rw[←z];rfl)
  have he:(ct s i c).err=0:=Ts h5 (by simpa using Y)
  have hst:=F9 J he
  have Bb:=UO J he
  rw[aj (fun k=>k he)] at A
  rw[show(if(ct s i c).err=5 then i+1 else if(ct s i c).err=2 then s.length else(ct s i c).stop)=(ct s i c).stop by rw[he];rfl]
  refine ai (ae 1 aa (al (cQ (VN F (i:Nat) Bb (Tt J he hl)) aa aa ?_)))
  refine ae 2 aa (da (g:=d9) aa (fun G=>?_) (fun G=>?_))
  ·rw[aw (fun k=>by rw[k.1] at G;cases G)] at A
   rw[A] at z
   refine aS aa (G) (aS aa (G) (aS aa (G) (al (cU aa (G) aa ?_))))
   refine ae 1 aa (af ?_)
   refine fe aa aa (ak 4 aa (ax ?_))
   exact bC rfl rfl (by rw[←z];rfl)
  refine au aa (G) (bM aa ?_)
  refine au aa (G) (zx aa ?_)
  refine au aa (G) (zU aa aa ?_)
  refine al (cK aa (G) aa ?_)
  refine ae 1 aa (af ?_)
  refine aK aa (fun Z=>?_) (fun Z=>?_)
  ·rw[aw (fun k=>by(have:=k.2;simp at Z;omega))] at A
   rw[A] at z
   refine ak 4 aa (ax ?_)
   exact bC rfl rfl (by rw[←z];rfl)
  have nu:out.length<1000:=by simp at Z;omega
  rw[aj (fun k=>k ⟨by simpa using G,nu⟩)] at A
  rw[A] at z
  refine aU (ai (ae 3 aa ?_))
  refine al (ey (rows:=out.map cM.enc) (ys:=[(⟨(ct s i c).kind,(i:Nat),(ct s i c).text⟩:cM).enc]) rfl rfl rfl (.bs (rows:=[(⟨(ct s i c).kind,(i:Nat),(ct s i c).text⟩:cM).enc]) rfl) (bW rfl) (by rw[bK,cC];simp only[dk,dO];omega) (fun h=>by rw[h];rfl) (fun h=>by rw[h];rfl) ?_)
  refine ae 1 aa (af ?_)
  refine bG (ae 2 aa (af ?_))
  refine⟨s.length-(ct s i c).stop,by omega,k,(ct s i c).stop,out++[(⟨(ct s i c).kind,(i:Nat),(ct s i c).text⟩:cM)],z,hst.2,rfl,by omega,?_,?_,?_⟩
  ·rw[bK,eK];omega
  ·rw[dT];exact⟨rfl,rfl,rfl,rfl,rfl,rfl,trivial⟩
  rw[dT];exact⟨rfl,trivial⟩
 rw[zZ (by simp at I;omega)] at z
 have I6:mv s (k+1) i out=(out++[⟨6,(s.length:Nat),[]⟩],0,0):=by unfold mv;rw[List.getElem?_eq_none_iff.2 (by simp at I;omega)]
 rw[I6] at z
 refine dM (ai (ae 5 aa ?_))
 refine al (ey (rows:=out.map cM.enc) (ys:=[(⟨6,(s.length:Nat),[]⟩:cM).enc]) rfl rfl rfl (.bs (rows:=[(⟨6,(s.length:Nat),[]⟩:cM).enc]) rfl) (bW rfl) (by rw[bK,cC];simp only[dk,dO];omega) (fun h=>by rw[h];rfl) (fun h=>by rw[h];rfl) ?_)
 refine fx 65 1101 aa aa (fun _=>⟨aa,aa⟩) (ae 3 aa (af ?_))
 refine ax ?_
 exact bC rfl rfl (by rw[←z];unfold Eg;rw[dT];rfl)
end Go.Ev.Pp
namespace Go.Ev
open Go
variable{T:bf}{VE:b0}{B:br}{Q:VV→br→Prop}
theorem hO{x:aG}{rows:List (List DC)}(z:x.vv VE=some (.d (.ff rows)))(A:Q (dI (rows.length:Nat)) B):VI T (.len x) VE B [] Q:=by
 cases rows with
 |nil=>exact GA z A
 |cons r s=>exact CK z A
theorem jN{x i:aG}{es j:Nat}{k:IntKind}{rows:List (List DC)}{row:List DC}(A:x.vv VE=some (.d (.ff rows)))(hi:i.vv VE=some (.d (.i k (j:Int))))(z:rows[j]?=some row)(G:row.length=es)(I:Q (.rp row 0) B):VI T (.eg es x i) VE B [] Q:=by
 cases rows with
 |nil=>simp at z
 |cons r s=>exact kZ A hi z G I
def uJ:List Nat→List DC→Bool
 |[],[]=>true
 |c::r,.i k _::s=>Nat.beq (dn k) c&&uJ r s
 |c::r,.b _::s=>Nat.beq c 100&&uJ r s
 |c::r,.s _ _::s=>Nat.beq c 101&&uJ r s
 |_,_=>false
theorem Ct{H:aB}{X:Nat→Prop}{β:Nat→Nat}:∀{ks:List Nat}{r:List DC}{l J:List an},uJ ks r=true→bm H X β (r.map .d) l→bm H X β (r.map .d) J→kH ks l=true∧kH ks J=true∧qg l J=some true
 |[],[],l,J,_,h,h'=>by simp only[fy,bm] at h h';subst h;subst h';exact⟨rfl,rfl,rfl⟩
 |c::ks,d::r,l,J,K,h,h'=>by
  simp only[eB,bm] at h h'
  obtain⟨a,s,rfl,I,h2⟩:=h
  obtain⟨a',s',rfl,z,G⟩:=h'
  cases d with
  |i k n=>
   obtain⟨A,O⟩:=iv (show(Nat.beq (dn k) c&&uJ ks r)=true from K)
   obtain⟨e1,e2,U⟩:=Ct O h2 G
   simp only[aN,cO] at I z
   subst I;subst z
   refine⟨by simp only[kH,se,A,e1];rfl,by simp only[kH,se,A,e2];rfl,?_⟩
   simp only[qg,wS]
   rw[show Nat.beq (dn k) (dn k)=true from iX _,show me n n=true by rw[tT];simp]
   exact U
  |b t=>
   obtain⟨A,O⟩:=iv (show(Nat.beq c 100&&uJ ks r)=true from K)
   obtain⟨e1,e2,U⟩:=Ct O h2 G
   simp only[aN,cO] at I z
   subst I;subst z
   refine⟨by simp only[kH,se,A,e1];rfl,by simp only[kH,se,A,e2];rfl,?_⟩
   simp only[qg,wS,beq_self_eq_true]
   exact U
  |s m v=>
   obtain⟨A,O⟩:=iv (show(Nat.beq c 101&&uJ ks r)=true from K)
   obtain⟨e1,e2,U⟩:=Ct O h2 G
   simp only[aN,cO] at I z
   subst I;subst z
   refine⟨by simp only[kH,se,A,e1];rfl,by simp only[kH,se,A,e2];rfl,?_⟩
   simp only[qg,wS]
   rw[show rf m v m v=true from by rw[SZ];simp]
   exact U
  |nil=>cases K
  |sl _=>cases K
theorem tQ{neg:Bool}{ks:List Nat}{x y:aG}{r:List DC}(I:x.vv VE=some (.agg (r.map .d)))(J:y.vv VE=some (.agg (r.map .d)))(K:uJ ks r=true)(O:Q (dB (Bool.xor neg true)) B):VI T (.eqv (.agg ks) neg x y) VE B [] Q:=fun _ _ _ _ _ A=>by
 obtain⟨a,U,h2⟩:=A.b9 I
 obtain⟨b,Y,z⟩:=A.b9 J
 simp only[aN] at h2 z
 obtain⟨l,rfl,h2⟩:=h2
 obtain⟨G,rfl,z⟩:=z
 obtain⟨Z,k2,k3⟩:=Ct K h2 z
 refine gf (v:=.bool (Bool.xor neg true)) (fun call=>?_) (e7 A (v:=dB (Bool.xor neg true)) (by simp only[aN,cO]) O)
 show bB x _ (.err 7) (fun a=>bB y _ (.err 7) fun b=>ob (nr (.agg ks) a b) (.err 7) fun r=>mY (Bool.xor neg r) fun r=>.ok (.bool r) _)=_
 rw[dp,U,dh,dp,Y,dh]
 show ob (aH (kH ks l) (aH (kH ks G) (qg l G) none) none) _ _=_
 rw[Z,k2,k3]
 cases neg<;>rfl
theorem Ml{neg:Bool}{x y:aG}{t:Bool}(G:x.vv VE=some (dB t))(I:y.vv VE=some (dB t))(J:Q (dB (Bool.xor neg true)) B):VI T (.eqv .bool neg x y) VE B [] Q:=fun _ _ _ _ _ z=>by
 obtain⟨a,K,h2⟩:=z.b9 G
 obtain⟨b,O,A⟩:=z.b9 I
 simp only[aN,cO] at h2 A
 subst h2;subst A
 refine gf (v:=.bool (Bool.xor neg true)) (fun call=>?_) (e7 z (v:=dB (Bool.xor neg true)) (by simp only[aN,cO]) J)
 show bB x _ (.err 7) (fun a=>bB y _ (.err 7) fun b=>ob (nr .bool a b) (.err 7) fun r=>mY (Bool.xor neg r) fun r=>.ok (.bool r) _)=_
 rw[dp,K,dh,dp,O,dh]
 show ob (some (t==t)) _ _=_
 cases neg<;>cases t<;>rfl
theorem k9{x y:aG}{k:IntKind}{a:Int}(z:x.vv VE=some (.d (.i k a)))(A:y.vv VE=some (.d (.i k a)))(G:Q (dB false) B):VI T (.bin .neq x y) VE B [] Q:=
 iq z A (by rw[show(!decide (a=a))=false by simp];exact G)
theorem CR{x y:aG}{a:List UInt8}(z:x.vv VE=some (dS a))(A:y.vv VE=some (dS a))(G:Q (dB false) B):VI T (.bin .neq x y) VE B [] Q:=
 S2 z A (by rw[show(!decide (a=a))=false by simp];exact G)
theorem CS{x y:aG}{k:IntKind}{a:Int}(z:x.vv VE=some (.d (.i k a)))(A:y.vv VE=some (.d (.i k a)))(G:Q (dB true) B):VI T (.bin .eql x y) VE B [] Q:=
 gZ z A (by rw[show(decide (a=a))=true by simp];exact G)
end Go.Ev
namespace Go.Ev.Pp
open Go
variable{p q:PS}{D:Rd}{a:Bool}
structure Core.sm(c:Core):Prop where
 e:c.exprs.length≤10000
 i:c.items.length≤10000
 s:c.src.length≤10000
 g:c.group.length≤10000
structure jr.sm(s:jr):Prop where
 c:s.fP.length≤10000
 o:s.ops.length≤10000
 all:∀x,x∈s.fP→x.sm
structure Stmt.sm(s:Stmt):Prop where
 cT:s.cT.sm
 row:s.row.length≤10000
 ex:s.exprs.length≤10000
 mR:s.mR.length≤10000
 jh:s.jh.length≤10000
 key:s.key.length≤10000
 mh:s.mh.length≤10000
 fk:∀f,f∈s.mh→f.jh.length≤10000∧f.refs.length≤10000
 cons:s.cons.length≤10000
 gN:∀c,c∈s.cons→c.2.length≤10000
theorem bd.dY(h:bd p):p.aA.length≤2000:=h.ok.dY
theorem bQ.dY(h:bQ p q)(hp:bd p):q.aA.length≤2000:=by rw[h.aA];exact hp.dY
theorem bd.Ja(h:bd p):p.ex.length≤10000:=by
 have z:=h.ok.vc;have h2:=h.ok.lt;have A:=h.dY
 split at z<;>omega
section
variable{α:Type}{f:PS→α×PS}
theorem KM:∀(k:Nat)(l:List α)(p:PS),(kv f k l p).1.length≤l.length+k
 |0,l,p=>bY _
 |k+1,l,p=>by
  unfold kv
  split
  ·have:=KM k (l++[(f (p.sign cF).2).1]) (f (p.sign cF).2).2
   rw[bK,eK] at this;omega
  show l.length≤_;omega
theorem w6(h:bd p):(jc f p).1.length≤10000:=by
 have:=KM (f:=f) p.aA.length [(f p).1] (f p).2
 have:=h.dY
 unfold jc;rw[eK] at*;omega
end
theorem B8(h:bd p):p.names.1.length≤10000:=w6 (h.gK cm).top
theorem J4:∀(k:Nat)(l:List Src)(p:PS),(oR D k l p).1.length≤l.length+k
 |0,l,p=>bY _
 |k+1,l,p=>by
  unfold oR
  split
  ·show l.length≤_;omega
  rename_i b q _
  have:=J4 k (l++[(q.gx D b).1]) (q.gx D b).2
  rw[bK,eK] at this;omega
theorem Mm(h:bd p):(p.core D a).1.sm:=by
 have z:=h.dD D a
 refine⟨z.top.group.top.Ja,?_,?_,?_⟩
 ·show(p.fq.items D).1.length≤_
  unfold PS.items
  split
  ·exact df _
  exact w6 h.fq.top
 ·have:=J4 (D:=D) (p.fv D).aA.length [((p.fv D).source a).1] ((p.fv D).source a).2
  have:=(h.fv D).top.dY
  rw[eK] at*
  show(oR _ _ _ _).1.length≤_
  omega
 show(p.dD D a).group.1.2.length≤_
 unfold PS.group
 split
 ·exact w6 ((z.top.kw gp).top.dF [gC]).top
 exact df _
theorem Mn:∀(k:Nat)(s:jr){p:PS},bd p→s.fP.length+k≤10000→s.ops.length+k≤10000→(∀x,x∈s.fP→x.sm)→(p0 D a k s p).1.sm
 |0,s,p,_,G,h2,A=>⟨G,h2,A⟩
 |k+1,s,p,h,G,h2,A=>by
  unfold p0
  split
  ·exact⟨by show s.fP.length≤_;omega,by show s.ops.length≤_;omega,A⟩
  rename_i o q J
  have g:=(h.op J).1
  have I:=g.top.dF [gE]
  refine Mn k _ (I.top.core D a).top ?_ ?_ fun x z=>?_
  ·rw[bK,eK];omega
  ·rw[bK,eK];omega
  rcases List.mem_append.1 z with z|z
  ·exact A x z
  rcases List.mem_singleton.1 z with rfl;exact Mm I.top
theorem G3(h:bd p):(p.cT D a).1.sm:=by
 have:=h.dY
 exact Mn _ _ (h.core D a).top (by rw[eK];omega) (by show 0+_≤_;omega) fun x z=>by
  rcases List.mem_singleton.1 z with rfl;exact Mm h
theorem GL:jr.sm ⟨[],[]⟩:=⟨df _,df _,fun _ h=>(by cases h)⟩
theorem mZ:Stmt.sm {}:=⟨GL,df _,df _,df _,df _,df _,df _,fun _ h=>(by cases h),df _,fun _ h=>(by cases h)⟩
theorem Mo:∀(k:Nat)(l:List Fk){p:PS},bd p→l.length+k≤10000→(∀f,f∈l→f.jh.length≤10000∧f.refs.length≤10000)→(o8 k l p).1.length≤10000∧∀f,f∈(o8 k l p).1→f.jh.length≤10000∧f.refs.length≤10000
 |0,l,p,_,A,h2=>⟨A,h2⟩
 |k+1,l,p,h,A,h2=>by
  unfold o8
  split
  ·have g:=h.kw lS
   refine Mo k _ g.top.fk.top (by rw[bK,eK];omega) fun f z=>?_
   rcases List.mem_append.1 z with z|z
   ·exact h2 f z
   rcases List.mem_singleton.1 z with rfl
   exact⟨B8 g.top,B8 (g.top.tc.top.name).top⟩
  exact⟨by show l.length≤_;omega,h2⟩
theorem Lx:∀(k:Nat)(l:List (Int×List (List UInt8))){p:PS},bd p→l.length+k≤10000→(∀c,c∈l→c.2.length≤10000)→(nM k l p).1.length≤10000∧∀c,c∈(nM k l p).1→c.2.length≤10000
 |0,l,p,_,A,h2=>⟨A,h2⟩
 |k+1,l,p,h,A,h2=>by
  unfold nM
  split
  ·exact⟨by show l.length≤_;omega,h2⟩
  rename_i c q G
  have g:=(h.gN G).1
  refine Lx k _ g.top.names.top (by rw[bK,eK];omega) fun f z=>?_
  rcases List.mem_append.1 z with z|z
  ·exact h2 f z
  rcases List.mem_singleton.1 z with rfl
  exact B8 g.top
theorem Sl(h:bd p):(p.insert D).1.sm:={mZ with row:=w6 h.sv.top}
theorem Sm(h:bd p):(p.remove D).1.sm:={mZ with ex:=((h.nq D).top.dX D).top.Ja}
theorem Sn(h:bd p):(p.update D).1.sm:={mZ with mR:=w6 (h.x8 D).top,ex:=((h.o7 D).top.dX D).top.Ja}
theorem So(h:bd p):p.create.1.sm:=by
 have J:=h.dY
 obtain⟨z,A⟩:=Mo p.aA.length [] h.x9.top (by show 0+_≤_;omega) (fun _ h=>by cases h)
 obtain⟨G,I⟩:=Lx p.aA.length [] h.o9.top (by show 0+_≤_;omega) (fun _ h=>by cases h)
 exact{mZ with
  jh:=w6 h.Ar.top
  key:=by
   show p.ik.key.1.length≤_
   unfold PS.key
   split
   ·exact B8 (h.ik.top.kw rA).top
   exact df _
  mh:=z
  fk:=A
  cons:=G
  gN:=I}
theorem Tu:p.alter.1.sm:=by
 unfold PS.alter
 split
 ·exact{mZ with jh:=by show 1≤10000;decide}
 split
 ·exact{mZ with}
 exact mZ
theorem UQ(h:bd p):(p.qB D).1.sm:={mZ with cT:=G3 h}
theorem UR:p.hold.1.sm:={mZ with}
theorem Tv(h:bd p):(p.query D).1.sm:={mZ with cT:=G3 h.mode.top}
theorem QB(h:bd p):(p.cV D).1.sm:=by
 unfold PS.cV
 split
 ·exact Sl (h.kw _).top
 split
 ·exact Sm (h.kw _).top
 split
 ·exact Sn (h.kw _).top
 split
 ·exact So (h.kw _).top
 split
 ·exact Tu
 split
 ·exact UQ (h.kw _).top
 split
 ·exact{mZ with}
 split
 ·exact UR
 split
 ·exact{mZ with}
 split
 ·exact{mZ with}
 exact Tv h
theorem Sp{aA:List cM}(z:rj aA):(lz D aA).1.sm:=by
 unfold lz
 split
 ·exact mZ
 exact QB z.top
theorem RC{aA:List cM}(z:rj aA):(lu D aA).1.sm:=by
 unfold lu
 split
 ·exact GL
 exact G3 z.top
open Go
set_option maxRecDepth 10000
theorem Oq{T:bf}(F:FT T){l:List aL}(K:l.length≤10000):Sound T 43 [.d (.ff (l.map aL.enc)),.d (.ff (l.map aL.enc))] fun r=>r=dB true:=by
 refine ep F.f43 aa (ak 1 aa (aM (ai (ae 1 aa (al (hO aa ?_))))))
 refine ae 1 aa (al (hO aa ?_))
 refine al (k9 aa aa ?_)
 refine af (eJ aa aa (aU (aM (ak 1 aa (bN (d6 (fun k VE B=>∃i,i≤l.length∧k=l.length-i∧bw [(0,.d (.ff (l.map aL.enc))),(1,.d (.ff (l.map aL.enc))),(4,dB false),(5,dI (i:Nat))] VE∧bw [] B) ?_ (k:=l.length) ⟨0,df _,aa,⟨aa,aa,aa,aa,trivial⟩,trivial⟩))))))
 rintro k VE B⟨i,hi,rfl,I,J⟩
 refine dx _ _ I J (aM (ai (ae 2 aa (al (hO aa ?_)))))
 refine ae 1 aa (af ?_)
 refine aK aa (fun A=>?_) (fun A=>?_)
 ·have G:i<l.length:=by simp at A;omega
  obtain⟨e,he⟩:∃e,l[i]?=some e:=⟨_,eY G⟩
  have z:(l.map aL.enc)[i]?=some e.enc:=by rw[iw,he];rfl
  have hlen:e.enc.length=8:=rfl
  refine aU (aM (bN (eX (bo 2 aa (dG (jN aa aa z hlen ?_))))))
  refine jJ rfl rfl (mj rfl (by decide) (bY 8) ?_)
  refine bo 2 aa (dG (jN aa aa z hlen ?_))
  refine jJ rfl rfl (mj rfl (by decide) (bY 8) ?_)
  refine dG (tQ (r:=e.enc) aa aa aa ?_)
  refine dc (eJ aa aa (aU (bG (ae 1 aa ?_))))
  refine al (cX rfl rfl (by omega) ?_)
  refine ae 1 aa (af ?_)
  exact⟨l.length-(i+1),by omega,i+1,by omega,rfl,⟨rfl,rfl,rfl,rfl,trivial⟩,trivial⟩
 exact dM (ak 1 aa (ax (bC aa aa aa)))
theorem Eh{T:bf}(F:FT T){l:List (List UInt8)}(K:l.length≤10000):Sound T 44 [.d (fR l),.d (fR l)] fun r=>r=dB true:=by
 refine ep F.f44 aa (ak 1 aa (aM (ai (ae 1 aa (al (hO aa ?_))))))
 refine ae 1 aa (al (hO aa ?_))
 refine al (k9 aa aa ?_)
 refine af (eJ aa aa (aU (aM (ak 1 aa (bN (d6 (fun k VE B=>∃i,i≤l.length∧k=l.length-i∧bw [(0,.d (fR l)),(1,.d (fR l)),(4,dB false),(5,dI (i:Nat))] VE∧bw [] B) ?_ (k:=l.length) ⟨0,df _,aa,⟨aa,aa,aa,aa,trivial⟩,trivial⟩))))))
 rintro k VE B⟨i,hi,rfl,I,J⟩
 refine dx _ _ I J (aM (ai (ae 2 aa (al (hO aa ?_)))))
 refine ae 1 aa (af ?_)
 refine aK aa (fun A=>?_) (fun A=>?_)
 ·have G:i<l.length:=by simp at A;omega
  obtain⟨e,he⟩:∃e,l[i]?=some e:=⟨_,eY G⟩
  have z:(l.map fun s=>[cJ s])[i]?=some [cJ e]:=by rw[iw,he];rfl
  have hlen:[cJ e].length=1:=rfl
  refine aU (aM (bN (eX (bo 2 aa (dG (jN aa aa z hlen ?_))))))
  refine jJ aa aa (lT (x:=cJ e) aa aa ?_)
  refine bo 2 aa (dG (jN aa aa z hlen ?_))
  refine jJ aa aa (lT (x:=cJ e) aa aa ?_)
  refine dG (CR aa aa ?_)
  refine dc (eJ aa aa (aU (bG (ae 1 aa ?_))))
  refine al (cX rfl rfl (by omega) ?_)
  refine ae 1 aa (af ?_)
  exact⟨l.length-(i+1),by omega,i+1,by omega,rfl,⟨rfl,rfl,rfl,rfl,trivial⟩,trivial⟩
 exact dM (ak 1 aa (ax (bC aa aa aa)))
theorem Ot{T:bf}(F:FT T){l:List Int}(K:l.length≤10000):Sound T 45 [.d (.ff (l.map fun i=>[.i .i64 i])),.d (.ff (l.map fun i=>[.i .i64 i]))] fun r=>r=dB true:=by
 refine ep F.f45 aa (ak 1 aa (aM (ai (ae 1 aa (al (hO aa ?_))))))
 refine ae 1 aa (al (hO aa ?_))
 refine al (k9 aa aa ?_)
 refine af (eJ aa aa (aU (aM (ak 1 aa (bN (d6 (fun k VE B=>∃i,i≤l.length∧k=l.length-i∧bw [(0,.d (.ff (l.map fun i=>[.i .i64 i]))),(1,.d (.ff (l.map fun i=>[.i .i64 i]))),(4,dB false),(5,dI (i:Nat))] VE∧bw [] B) ?_ (k:=l.length) ⟨0,df _,aa,⟨aa,aa,aa,aa,trivial⟩,trivial⟩))))))
 rintro k VE B⟨i,hi,rfl,I,J⟩
 refine dx _ _ I J (aM (ai (ae 2 aa (al (hO aa ?_)))))
 refine ae 1 aa (af ?_)
 refine aK aa (fun A=>?_) (fun A=>?_)
 ·have G:i<l.length:=by simp at A;omega
  obtain⟨e,he⟩:∃e,l[i]?=some e:=⟨_,eY G⟩
  have z:(l.map fun i=>[DC.i .i64 i])[i]?=some [.i .i64 e]:=by rw[iw,he];rfl
  have hlen:[DC.i .i64 e].length=1:=rfl
  refine aU (aM (bN (eX (bo 2 aa (dG (jN aa aa z hlen ?_))))))
  refine jJ aa aa (lT (x:=.i .i64 e) aa aa ?_)
  refine bo 2 aa (dG (jN aa aa z hlen ?_))
  refine jJ aa aa (lT (x:=.i .i64 e) aa aa ?_)
  refine dG (k9 aa aa ?_)
  refine dc (eJ aa aa (aU (bG (ae 1 aa ?_))))
  refine al (cX rfl rfl (by omega) ?_)
  refine ae 1 aa (af ?_)
  exact⟨l.length-(i+1),by omega,i+1,by omega,rfl,⟨rfl,rfl,rfl,rfl,trivial⟩,trivial⟩
 exact dM (ak 1 aa (ax (bC aa aa aa)))
open Go
set_option maxRecDepth 10000
set_option maxHeartbeats 1000000 in
theorem WM{T:bf}(F:FT T){c:Core}(J:c.sm):Sound T 46 [et c.enc,et c.enc] fun r=>r=dB true:=by
 refine ep F.f46 aa (ak 3 aa (aM (ai (ae 4 aa (al (Ml aa aa ?_))))))
 refine ae 1 aa (au aa aa (du aa ?_))
 refine au aa aa (c8 aa aa aa ?_)
 refine au aa aa (du aa ?_)
 refine au aa aa (c8 aa aa aa ?_)
 refine au aa aa (k9 aa aa ?_)
 refine ae 2 aa (au aa aa (du aa ?_))
 refine au aa aa (c8 aa aa aa ?_)
 refine au aa aa (du aa ?_)
 refine au aa aa (c8 aa aa aa ?_)
 refine au aa aa (Ml aa aa ?_)
 refine ae 2 aa (au aa aa (du aa ?_))
 refine au aa aa (c8 aa aa aa ?_)
 refine au aa aa (du aa ?_)
 refine au aa aa (c8 aa aa aa ?_)
 refine au aa aa (cQ (Ot F J.g) aa aa ?_)
 refine au aa aa (ju aa ?_)
 refine ae 2 aa (au aa aa (du aa ?_))
 refine au aa aa (c8 aa aa aa ?_)
 refine au aa aa (du aa ?_)
 refine au aa aa (c8 aa aa aa ?_)
 refine au aa aa (cQ (Oq F J.e) aa aa ?_)
 refine au aa aa (ju aa ?_)
 refine ae 2 aa (au aa aa (du aa ?_))
 refine au aa aa (c8 aa aa aa ?_)
 refine au aa aa (hO aa ?_)
 refine au aa aa (du aa ?_)
 refine au aa aa (c8 aa aa aa ?_)
 refine au aa aa (hO aa ?_)
 refine au aa aa (k9 aa aa ?_)
 refine ae 2 aa (au aa aa (du aa ?_))
 refine au aa aa (c8 aa aa aa ?_)
 refine au aa aa (hO aa ?_)
 refine au aa aa (du aa ?_)
 refine au aa aa (c8 aa aa aa ?_)
 refine au aa aa (hO aa ?_)
 refine au aa aa (k9 aa aa ?_)
 refine ae 1 aa (af ?_)
 refine eJ aa aa (aU (aM (ak 1 aa (bN (d6 (fun k VE B=>∃i,i≤c.items.length∧k=c.items.length-i∧bw [(2,.vp 2 0),(3,.vp 3 0),(4,dB false),(5,dI (i:Nat))] VE∧bw [(2,.one 106 120 (c.enc.map .d)),(3,.one 106 120 (c.enc.map .d))] B) ?_ (k:=c.items.length) ⟨0,df _,aa,⟨aa,aa,aa,aa,trivial⟩,⟨aa,aa,trivial⟩⟩)))))
 rintro k VE B⟨i,hi,rfl,K,O⟩
 refine dx _ _ K O (aM (ai (ae 3 aa (al (hO aa ?_)))))
 refine ae 1 aa (af ?_)
 refine aK aa (fun G=>?_) (fun G=>?_)
 ·have U:=J.i
  have A:i<c.items.length:=by simp at G;omega
  obtain⟨e,he⟩:∃e,c.items[i]?=some e:=⟨_,eY A⟩
  have z:(c.items.map Item.enc)[i]?=some (Item.enc e):=by rw[iw,he];rfl
  refine aU (aM (bN (eX (bo 3 aa (dG (jN aa aa z aa ?_))))))
  refine jJ rfl rfl (mj rfl (by decide) (bY 3) ?_)
  refine bo 3 aa (dG (jN aa aa z aa ?_))
  refine jJ rfl rfl (mj rfl (by decide) (bY 3) ?_)
  refine dG (tQ (r:=Item.enc e) aa aa aa ?_)
  refine dc (eJ aa aa (aU (bG (ae 1 aa ?_))))
  refine al (cX rfl rfl (by omega) ?_)
  refine ae 1 aa (af ?_)
  exact⟨c.items.length-(i+1),by omega,i+1,by omega,rfl,⟨rfl,rfl,rfl,rfl,trivial⟩,⟨rfl,rfl,trivial⟩⟩
 refine dM (aM (ak 1 aa (bN (d6 (fun k VE B=>∃i,i≤c.src.length∧k=c.src.length-i∧bw [(2,.vp 2 0),(3,.vp 3 0),(4,dB false),(6,dI (i:Nat))] VE∧bw [(2,.one 106 120 (c.enc.map .d)),(3,.one 106 120 (c.enc.map .d))] B) ?_ (k:=c.src.length) ⟨0,df _,aa,⟨aa,aa,aa,aa,trivial⟩,⟨aa,aa,trivial⟩⟩))))
 rintro k VE B⟨i,hi,rfl,K,O⟩
 refine dx _ _ K O (aM (ai (ae 3 aa (al (hO aa ?_)))))
 refine ae 1 aa (af ?_)
 refine aK aa (fun I=>?_) (fun I=>?_)
 ·have U:=J.s
  have A:i<c.src.length:=by simp at I;omega
  obtain⟨e,he⟩:∃e,c.src[i]?=some e:=⟨_,eY A⟩
  have z:(c.src.map Src.enc)[i]?=some (Src.enc e):=by rw[iw,he];rfl
  refine aU (aM (bN (eX (bo 3 aa (dG (jN aa aa z aa ?_))))))
  refine jJ rfl rfl (mj rfl (by decide) (bY 4) ?_)
  refine bo 3 aa (dG (jN aa aa z aa ?_))
  refine jJ rfl rfl (mj rfl (by decide) (bY 4) ?_)
  refine dG (tQ (r:=Src.enc e) aa aa aa ?_)
  refine dc (eJ aa aa (aU (bG (ae 1 aa ?_))))
  refine al (cX rfl rfl (by omega) ?_)
  refine ae 1 aa (af ?_)
  exact⟨c.src.length-(i+1),by omega,i+1,by omega,rfl,⟨rfl,rfl,rfl,rfl,trivial⟩,⟨rfl,rfl,trivial⟩⟩
 exact dM (ak 1 aa (ax (bC aa aa aa)))
set_option maxHeartbeats 1000000 in
theorem Ou{T:bf}(F:FT T){s:jr}(G:s.sm):Sound T 20 [et s.enc,et s.enc] fun r=>r=dB true:=by
 refine ep F.f20 aa (ak 3 aa (aM (ai (ae 2 aa (al (hO aa ?_))))))
 refine ae 2 aa (al (hO aa ?_))
 refine al (k9 aa aa ?_)
 refine ae 1 aa (au aa aa (du aa ?_))
 refine au aa aa (c8 aa aa aa ?_)
 refine au aa aa (du aa ?_)
 refine au aa aa (c8 aa aa aa ?_)
 refine au aa aa (cQ (Ot F G.o) aa aa ?_)
 refine au aa aa (ju aa ?_)
 refine ae 1 aa (af ?_)
 refine eJ aa aa (aU (aM (ak 1 aa (bN (d6 (fun k VE B=>∃i,i≤s.fP.length∧k=s.fP.length-i∧bw [(2,.vp 2 0),(3,.vp 3 0),(4,dB false),(5,dI (i:Nat))] VE∧bw [(2,.one 39 48 (s.enc.map .d)),(3,.one 39 48 (s.enc.map .d))] B) ?_ (k:=s.fP.length) ⟨0,df _,aa,⟨aa,aa,aa,aa,trivial⟩,⟨aa,aa,trivial⟩⟩)))))
 rintro k VE B⟨i,hi,rfl,J,K⟩
 refine dx _ _ J K (aM (ai (ae 3 aa (al (hO aa ?_)))))
 refine ae 1 aa (af ?_)
 refine aK aa (fun A=>?_) (fun A=>?_)
 ·have O:=G.c
  have I:i<s.fP.length:=by simp at A;omega
  obtain⟨e,he⟩:∃e,s.fP[i]?=some e:=⟨_,eY I⟩
  have z:(s.fP.map Core.enc)[i]?=some (Core.enc e):=by rw[iw,he];rfl
  refine aU (aM (bN (eX (bo 3 aa (dG (jN aa aa z aa ?_))))))
  refine jJ rfl rfl (mj rfl (by decide) (bY 7) ?_)
  refine bo 3 aa (dG (jN aa aa z aa ?_))
  refine jJ rfl rfl (mj rfl (by decide) (bY 7) ?_)
  refine eL aa (cQ (WM F (G.all e (lG he))) aa aa ?_)
  refine bo 1 aa (dc ?_)
  refine eJ aa aa (aU (bG (ae 1 aa ?_)))
  refine al (cX rfl rfl (by omega) ?_)
  refine ae 1 aa (af ?_)
  exact⟨s.fP.length-(i+1),by omega,i+1,by omega,rfl,⟨rfl,rfl,rfl,rfl,trivial⟩,⟨rfl,rfl,trivial⟩⟩
 exact dM (ak 1 aa (ax (bC aa aa aa)))
end Go.Ev.Pp
