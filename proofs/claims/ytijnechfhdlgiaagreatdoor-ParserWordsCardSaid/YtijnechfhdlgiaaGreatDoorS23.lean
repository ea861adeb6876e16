/- Part 23 of rules for walks through the code of a program, and of such walks; what each part proves is said by its theorems. -/
import Derived.Test.YtijnechfhdlgiaaGreatDoorS22
set_option linter.unusedVariables false
set_option linter.unusedSimpArgs false
namespace Go.Ev.Pp
open Go
set_option maxRecDepth 10000
theorem MU{T:bf}(F:FT T)(X:FX T)(s:List UInt8)(c:UInt8):Sound T 167 [dS s,.d (.i .u8 (c.toNat:Nat))] fun r=>r=dI (eI c s):=by
 refine ep F.ZJ aa (ak 1 aa (ai (ae 2 aa (al (cQ (QX X s c) aa aa ?_)))))
 refine ae 1 aa (af ?_)
 exact ax (bC aa aa aa)
theorem Mg{T:bf}(F:FT T)(X:FX T)(s:List UInt8)(c:UInt8):Sound T 118 [dS s,.d (.i .u8 (c.toNat:Nat))] fun r=>r=dI (eI c s):=by
 refine ep F.Zc aa (ak 1 aa (ai (ae 2 aa (al (cQ (MU F X s c) aa aa ?_)))))
 refine ae 1 aa (af ?_)
 exact ax (bC aa aa aa)
theorem Ol{T:bf}(F:FT T)(s p:List UInt8):Sound T 267 [dS s,dS p] fun r=>r=dB (preB s p):=by
 refine ep F.aaD aa (ak 1 aa (ai (ae 6 aa (da (g:=aO) aa (fun z=>?_) (fun z=>?_)))))
 ·have A:preB s p=decide ((s.drop 0).take (p.length-0)=p):=by unfold preB;rw[show decide (p.length≤s.length)=true by simp at z⊢;omega];rfl
  refine au aa (z) (bM aa ?_)
  refine au aa (z) (bM aa ?_)
  refine au aa (z) (wP aa ?_)
  refine au rfl (z) (j7 (l:=0) (h:=p.length) rfl ⟨_,rfl⟩ rfl (by omega) (by simp at z;omega) ?_)
  refine au aa (z) (bM aa ?_)
  refine au aa (z) (oo aa aa ?_)
  refine al (cU aa (z) aa ?_)
  refine ae 1 aa (af ?_)
  refine ax ?_
  exact bC rfl rfl (by rw[A];rfl)
 have A:preB s p=false:=by unfold preB;rw[show decide (p.length≤s.length)=false by simp at z⊢;omega];rfl
 refine aS aa (z) (aS aa (z) (aS aa (z) (aS aa (z) (aS aa (z) (aS aa (z) (al (cK aa (z) aa ?_)))))))
 refine ae 1 aa (af ?_)
 refine ax ?_
 exact bC rfl rfl (by rw[A];rfl)
theorem VF{T:bf}(F:FT T)(s p:List UInt8):Sound T 242 [dS s,dS p] fun r=>r=dB (preB s p):=by
 refine ep F.aas aa (ak 1 aa (ai (ae 2 aa (al (cQ (Ol F s p) aa aa ?_)))))
 refine ae 1 aa (af ?_)
 exact ax (bC aa aa aa)
theorem WG{T:bf}(F:FT T)(s p:List UInt8):Sound T 265 [dS s,dS p] fun r=>r= .tuple [dS (if preB s p=true then s.drop p.length else s),dB (preB s p)]:=by
 refine ep F.aaB aa (ak 2 aa (aM (ai (ae 2 aa (al (cQ (Ol F s p) aa aa ?_))))))
 refine ae 1 aa (af ?_)
 refine aK aa (fun z=>?_) (fun z=>?_)
 ·have hp:preB s p=false:=by simpa using z
  refine ak 3 aa (ax ?_)
  exact bC rfl rfl (by rw[hp];rfl)
 have hp:preB s p=true:=by simpa using z
 have A:p.length≤s.length:=by unfold preB at hp;simp at hp;exact hp.1
 refine aU (ai (ae 3 aa (al (j7 (l:=p.length) (h:=s.length) aa aa ⟨_,aa⟩ A (bY _) ?_))))
 rw[show(s.drop p.length).take (s.length-p.length)=s.drop p.length from qu (by rw[iL];omega)]
 refine ae 2 aa (af ?_)
 refine ax ?_
 exact bC rfl rfl (by rw[hp];rfl)
theorem VG{T:bf}(F:FT T)(s p:List UInt8):Sound T 240 [dS s,dS p] fun r=>r= .tuple [dS (if preB s p=true then s.drop p.length else s),dB (preB s p)]:=by
 refine ep F.aaq aa (ak 2 aa (ai (ae 2 aa (al (cQ (WG F s p) aa aa ?_)))))
 refine ae 4 aa (af ?_)
 exact ax (bC aa aa aa)
theorem VH{T:bf}(F:FT T)(X:FX T)(s:List UInt8)(c:UInt8):Sound T 232 [dS s,dS [c]] fun r=>r=dI (eI c s):=by
 refine ep F.aak aa (ak 1 aa (ak 3 aa (aM (bN (ai (ae 3 aa (au aa aa (bM aa ?_))))))))
 refine au aa aa (bM aa ?_)
 refine au aa aa (oo aa aa ?_)
 refine ae 2 aa (af ?_)
 refine aK aa (fun z=>?_) (fun z=>?_)
 ·have A:s=[c]:=(by simpa using z:[c]=s).symm
  have G:eI c s=0:=by rw[A];exact aw rfl
  refine ak 1 aa (ax ?_)
  exact bC rfl rfl (by rw[G];rfl)
 refine ak 3 aa (fe aa aa (ai (ae 2 aa (al (fM (j:=0) (c:=c) aa aa aa ?_)))))
 refine al (cQ (MU F X s c) aa aa ?_)
 refine ae 1 aa (af ?_)
 exact ax (bC aa aa aa)
theorem aa2{T:bf}(F:FT T)(X:FX T)(s:List UInt8)(c:UInt8)(I:s.length<1000000):Sound T 266 [dS s,dS [c]] fun r=>r= .tuple [dS (eR s c).1,dS (eR s c).2.1,dB (eR s c).2.2]:=by
 refine ep F.aaC aa (ak 3 aa (aM (ai (ae 2 aa (al (cQ (VH F X s c) aa aa ?_))))))
 refine ae 1 aa (af ?_)
 refine ak 2 aa (aK aa (fun z=>?_) (fun z=>?_))
 ·obtain⟨k,hk⟩:∃k:Nat,eI c s=(k:Int):=⟨(eI c s).toNat,by simp at z;omega⟩
  have G:=Mc c s
  rw[hk] at G
  have A:eR s c=(s.take k,s.drop (k+1),true):=by unfold eR;rw[hk,aw (by omega),Ek]
  rw[hk]
  refine eX (bo 2 aa ?_)
  refine dG (j7 (l:=0) (h:=k) rfl ⟨_,rfl⟩ rfl (by omega) (by omega) ?_)
  refine bo 4 aa ?_
  refine dG (jM rfl rfl (by show _≤(k:Int)+Int.ofNat 1;simp only[bb];omega) (by show(k:Int)+Int.ofNat 1≤_;simp only[bb];omega) ?_)
  refine dG (j7 (l:=k+1) (h:=s.length) rfl rfl ⟨_,rfl⟩ (by omega) (by omega) ?_)
  rw[show(s.drop (k+1)).take (s.length-(k+1))=s.drop (k+1) from qu (by rw[iL];omega)]
  refine bo 3 aa (dc ?_)
  refine ax ?_
  exact bC rfl rfl (by rw[A];rfl)
 have A:eR s c=(s,[],false):=by unfold eR;rw[aj (by simp at z;omega)]
 refine aU (ak 4 aa (ax ?_))
 exact bC rfl rfl (by rw[A];rfl)
theorem WH{T:bf}(F:FT T)(X:FX T)(s:List UInt8)(c:UInt8)(z:s.length<1000000):Sound T 241 [dS s,dS [c]] fun r=>r= .tuple [dS (eR s c).1,dS (eR s c).2.1,dB (eR s c).2.2]:=by
 refine ep F.aar aa (ak 3 aa (ai (ae 2 aa (al (cQ (aa2 F X s c z) aa aa ?_)))))
 refine ae 6 aa (af ?_)
 exact ax (bC aa aa aa)
theorem aa3{T:bf}(F:FT T)(s:List UInt8)(c:UInt8)(Z:s.length<1000000):Sound T 234 [dS s,.d (.i .u8 (c.toNat:Nat))] fun r=>r=dB (decide (c∈s)):=by
 refine ep F.aal aa (ak 1 aa (aM (ak 1 aa (bN ?_))))
 refine d6 (fun k VE B=>∃i,i≤s.length∧k=s.length-i∧(∀x,x∈s.take i→x≠c)∧bw [(0,dS s),(1,.d (.i .u8 (c.toNat:Nat))),(4,dB false),(5,dI (i:Nat))] VE∧bw [] B) ?_ (k:=s.length) ⟨0,df _,rfl,fun _ h=>(by cases h),⟨rfl,rfl,rfl,rfl,trivial⟩,trivial⟩
 rintro k VE B⟨i,hi,rfl,G,U,Y⟩
 refine dx _ _ U Y (aM (ak 4 aa (aK aa (fun I=>?_) (fun I=>?_))))
 ·have J:i<s.length:=by simp at I;omega
  obtain⟨b,K⟩:=jH J
  refine aU (aM (bN (ai (ae 2 aa (al (fM aa aa K ?_))))))
  refine ae 1 aa (al (gZ aa aa ?_))
  refine af (aK aa (fun z=>?_) (fun z=>?_))
  ·have O:decide (c∈s)=true:=by(obtain rfl:b=c:=UInt8.toNat_inj.1 (by simp at z;omega));simpa using lG K
   refine ak 1 aa (ax ?_)
   exact bC rfl rfl (by rw[O];rfl)
  refine aU (bG (ae 1 aa ?_))
  refine al (cX rfl rfl (by omega) ?_)
  refine ae 1 aa (af ?_)
  exact⟨s.length-(i+1),by omega,i+1,by omega,rfl,fun x A=>by(rw[take_succ K] at A;rcases List.mem_append.1 A with A|A;exact G x A;rcases List.mem_singleton.1 A with rfl;exact fun e=>absurd z (by rw[e];simp)),⟨rfl,rfl,rfl,rfl,trivial⟩,trivial⟩
 have O:decide (c∈s)=false:=by(have:i=s.length:=by simp at I;omega);subst this;rw[G'] at G;simpa using fun k=>G c k rfl
 refine dM (ak 1 aa (ax ?_))
 exact bC rfl rfl (by rw[O];rfl)
open Go
set_option maxRecDepth 10000
theorem Mh(s:List UInt8):(eR (s.drop 1) 44).2.1.length≤s.length:=by
 unfold eR;split
 ·simp only[iL];omega
 exact df _
set_option maxHeartbeats 2000000 in
theorem aa4{T:bf}(F:FT T)(X:FX T)(s:List UInt8)(hs:s.length<1000000):Sound T 213 [dS s] fun r=>r=ll (lO s):=by
 refine ep F.aab aa (ak 2 aa (ai (ae 1 aa (al (cQ (VG F s [91]) aa aa ?_)))))
 refine ae 5 aa (af ?_)
 refine aM (ak 2 aa (aK aa (fun I=>?_) (fun I=>?_)))
 ·have G:lO s=((0,0),5):=aj (fun k=>by rw[k.1] at I;cases I)
  refine ak 3 aa (ax ?_)
  exact bC rfl rfl (by unfold ll;rw[G];rfl)
 have hp:preB s [91]=true:=by simpa using I
 rw[aw hp]
 rw[show s.drop [(91:UInt8)].length=s.drop 1 from rfl]
 refine aU (ai (ae 1 aa ?_))
 refine al (cQ (WH F X (s.drop 1) 44 (by rw[iL];omega)) rfl rfl ?_)
 refine ae 7 aa (af ?_)
 refine aM (ai (ae 3 aa (da (g:=bV) aa (fun dq=>?_) (fun dq=>?_))))
 ·have G:lO s=((0,0),5):=aj (fun k=>by rw[k.2.1] at dq;cases dq)
  refine aS aa (dq) (aS aa (dq) (aS aa (dq) (al (cU aa (dq) aa ?_))))
  refine ae 1 aa (aS aa aa (aS aa aa (aS aa aa (aS aa aa (aS aa aa (aS aa aa (ae 1 aa (af ?_))))))))
  refine fe aa aa (ak 3 aa (ax ?_))
  exact bC rfl rfl (by unfold ll;rw[G];rfl)
 refine au aa (dq) (bM aa ?_)
 refine au aa (dq) (cQ (VF F (eR (s.drop 1) 44).2.1 [32]) aa aa ?_)
 refine au aa (dq) (ju aa ?_)
 refine al (cK aa (dq) aa ?_)
 refine ae 1 aa (da (g:=cj) aa (fun z=>?_) (fun z=>?_))
 ·have G:lO s=((0,0),5):=aj (fun k=>by rw[k.2.2.1] at z;cases z)
  refine aS aa (z) (aS aa (z) (aS aa (z) (aS aa (z) (aS aa (z) (aS aa (z) (al (cU aa (z) aa ?_)))))))
  refine af (fe aa aa (ak 3 aa (ax ?_)))
  exact bC rfl rfl (by unfold ll;rw[G];rfl)
 refine au aa (z) (bM aa ?_)
 refine au aa (z) (cQ (Mg F X (eR (s.drop 1) 44).2.1 41) aa aa ?_)
 refine au aa (z) (bM aa ?_)
 refine au aa (z) (wP aa ?_)
 refine au rfl (z) (gj rfl rfl (by simp only[bb];omega) (by have:=Mh s;simp only[bb];omega) ?_)
 refine au aa (z) (iq aa aa ?_)
 refine al (cK aa (z) aa ?_)
 refine af (aK aa (fun J=>?_) (fun J=>?_))
 ·have G:lO s=((0,0),5):=aj (fun k=>by(simp only[HU,fw] at J;exact J k.2.2.2))
  refine ak 3 aa (ax ?_)
  exact bC rfl rfl (by unfold ll;rw[G];rfl)
 have hg:At (eR (s.drop 1) 44).2.1:=⟨by simpa using z,by simpa using J⟩
 have G:lO s=mc (fm (eR (s.drop 1) 44).1) (fm (((eR (s.drop 1) 44).2.1.drop 1).take ((eR (s.drop 1) 44).2.1.length-1-1))):=aw ⟨hp,by simpa using dq,hg⟩
 have PW:=KI hg
 refine aU (ai (ae 1 aa (al (cQ (Ig F _) aa aa ?_))))
 refine ae 5 aa (af ?_)
 refine aM (ak 2 aa (aK aa (fun K=>?_) (fun K=>?_)))
 ·have A:mc (fm (eR (s.drop 1) 44).1) (fm (((eR (s.drop 1) 44).2.1.drop 1).take ((eR (s.drop 1) 44).2.1.length-1-1)))=((0,0),(fm (eR (s.drop 1) 44).1).2):=aw (by simpa using K)
  refine ak 4 aa (ax ?_)
  exact bC rfl rfl (by unfold ll;rw[G,A];rfl)
 have O:¬¬(fm (eR (s.drop 1) 44).1).2=0:=by simpa using K
 refine aU (ai (ae 3 aa ?_))
 refine al (gj rfl rfl (by simp only[bb];omega) (by have:=Mh s;simp only[bb];omega) ?_)
 rw[show(((eR (s.drop 1) 44).2.1.length:Nat):Int) -Int.ofNat 1=(((eR (s.drop 1) 44).2.1.length-1:Nat):Int) by simp only[bb];omega]
 refine al (j7 (l:=1) (h:=(eR (s.drop 1) 44).2.1.length-1) rfl ⟨_,rfl⟩ ⟨_,rfl⟩ (by omega) (by omega) ?_)
 refine al (cQ (Ig F _) aa aa ?_)
 refine ae 5 aa (af ?_)
 refine aM (ak 2 aa (aK aa (fun U=>?_) (fun U=>?_)))
 ·have A:mc (fm (eR (s.drop 1) 44).1) (fm (((eR (s.drop 1) 44).2.1.drop 1).take ((eR (s.drop 1) 44).2.1.length-1-1)))=((0,0),(fm (((eR (s.drop 1) 44).2.1.drop 1).take ((eR (s.drop 1) 44).2.1.length-1-1))).2):=by unfold mc;rw[aj O,aw (by simpa using U)]
  refine ak 4 aa (ax ?_)
  exact bC rfl rfl (by unfold ll;rw[G,A];rfl)
 have Z:¬¬(fm (((eR (s.drop 1) 44).2.1.drop 1).take ((eR (s.drop 1) 44).2.1.length-1-1))).2=0:=by simpa using U
 refine aU (aM (ak 3 aa (aK aa (fun Y=>?_) (fun Y=>?_))))
 ·have A:mc (fm (eR (s.drop 1) 44).1) (fm (((eR (s.drop 1) 44).2.1.drop 1).take ((eR (s.drop 1) 44).2.1.length-1-1)))=((0,0),10):=by unfold mc;rw[aj O,aj Z,aw (by simpa using Y)]
  refine ak 3 aa (ax ?_)
  exact bC rfl rfl (by unfold ll;rw[G,A];rfl)
 have A:mc (fm (eR (s.drop 1) 44).1) (fm (((eR (s.drop 1) 44).2.1.drop 1).take ((eR (s.drop 1) 44).2.1.length-1-1)))=(((fm (eR (s.drop 1) 44).1).1,(fm (((eR (s.drop 1) 44).2.1.drop 1).take ((eR (s.drop 1) 44).2.1.length-1-1))).1),0):=by unfold mc;rw[aj O,aj Z,aj (by simpa using Y)]
 refine aU (ak 5 aa (ax ?_))
 exact bC rfl rfl (by unfold ll;rw[G,A];rfl)
set_option maxHeartbeats 2000000 in
theorem WI{T:bf}(F:FT T)(s:List UInt8)(hs:s.length<1000000):Sound T 198 [dS s] fun r=>r=ll (lO s):=by
 refine ep F.Z0 aa (ak 2 aa (aM (ai (ae 4 aa (da (g:=aR) aa (fun bJ=>?_) (fun bJ=>?_))))))
 ·have J:lO s=((0,0),5):=GK (.inl (by simp at bJ;omega))
  refine aS aa (bJ) (aS aa (bJ) (aS aa (bJ) (al (cU aa (bJ) aa ?_))))
  refine ae 1 aa (aS aa aa (aS aa aa (aS aa aa (aS aa aa (aS aa aa (aS aa aa (ae 1 aa (af ?_))))))))
  refine fe aa aa (ak 3 aa (ax ?_))
  exact bC rfl rfl (by unfold ll;rw[J];rfl)
 have hl4:4≤s.length:=by simp at bJ;omega
 obtain⟨a,h0⟩:=jH (s:=s) (i:=0) (by omega)
 obtain⟨b,h1⟩:=jH (s:=s) (i:=s.length-1) (by omega)
 have Bk:(dw s).length=s.length-2:=by unfold dw;rw[nf,iL];omega
 refine au aa (bJ) (bM aa ?_)
 refine au aa (bJ) (fM aa aa h0 ?_)
 refine au aa (bJ) (iq aa aa ?_)
 refine al (cK aa (bJ) aa ?_)
 refine ae 1 aa (da (g:=bh) aa (fun z=>?_) (fun z=>?_))
 ·have J:lO s=((0,0),5):=GK (.inr (.inl fun k=>by(have h:=vP (h0.symm.trans k);subst h;simp at z)))
  refine aS aa (z) (aS aa (z) (aS aa (z) (aS aa (z) (aS aa (z) (aS aa (z) (al (cU aa (z) aa ?_)))))))
  refine af (fe aa aa (ak 3 aa (ax ?_)))
  exact bC rfl rfl (by unfold ll;rw[J];rfl)
 refine au aa (z) (bM aa ?_)
 refine au aa (z) (bM aa ?_)
 refine au aa (z) (wP aa ?_)
 refine au rfl (z) (gj rfl rfl (by simp only[bb];omega) (by simp only[bb];omega) ?_)
 rw[show((s.length:Nat):Int) -Int.ofNat 1=((s.length-1:Nat):Int) by simp only[bb];omega]
 refine au aa (z) (fM aa aa h1 ?_)
 refine au aa (z) (iq aa aa ?_)
 refine al (cK aa (z) aa ?_)
 refine af (aK aa (fun U=>?_) (fun U=>?_))
 ·have J:lO s=((0,0),5):=GK (.inr (.inr fun k=>by(have h:=vP (h1.symm.trans k);subst h;simp at U)))
  refine ak 3 aa (ax ?_)
  exact bC rfl rfl (by unfold ll;rw[J];rfl)
 obtain rfl:a=91:=rB 91 (by simp at z;omega) rfl
 obtain rfl:b=41:=rB 41 (by simp at U;omega) rfl
 have O:=VD hl4 h0 h1
 refine aU (ai (ae 3 aa ?_))
 refine al (gj rfl rfl (by simp only[bb];omega) (by simp only[bb];omega) ?_)
 rw[show((s.length:Nat):Int) -Int.ofNat 1=((s.length-1:Nat):Int) by simp only[bb];omega]
 refine al (j7 (l:=1) (h:=s.length-1) rfl ⟨_,rfl⟩ ⟨_,rfl⟩ (by omega) (by omega) ?_)
 rw[show(s.drop 1).take (s.length-1-1)=dw s from rfl]
 refine ae 1 aa (af ?_)
 refine ak 1 aa (zW (fun VE B=>∃k:Nat,k≤(dw s).length∧(∀j x,j<k→(dw s)[j]?=some x→x≠44)∧(k<(dw s).length→(dw s)[k]?=some 44)∧bw [(0,dS s),(2,.vp 2 0),(3,d0),(4,dS (dw s)),(5,dI (k:Nat))] VE∧bw [(2,.one 42 16 [d0,d0])] B) ?_ ?_)
 ·rintro VE B⟨k,hk,hn,hc,hV,hB⟩
  refine dx _ _ hV hB (aM (ai (ae 1 aa ?_)))
  refine al (cX rfl rfl (by omega) ?_)
  refine ae 4 aa (da (g:=d9) aa (fun A=>?_) (fun A=>?_))
  ·have J:lO s=((0,0),5):=GJ O hk hn hc (.inl (by simp at A;omega))
   refine aS aa (A) (aS aa (A) (aS aa (A) (aS aa (A) (aS aa (A) (al (cU aa (A) aa ?_))))))
   refine ae 1 aa (aS aa aa (aS aa aa (aS aa aa (aS aa aa (aS aa aa (ae 1 aa (af ?_)))))))
   refine fe aa aa (ak 3 aa (ax ?_))
   exact bC rfl rfl (by unfold ll;rw[J];rfl)
  have P7:k+1<(dw s).length:=by simp at A;omega
  obtain⟨c,Y⟩:=jH P7
  refine au aa (A) (bM aa ?_)
  refine au aa (A) (bM aa ?_)
  refine au rfl (A) (cX rfl rfl (by omega) ?_)
  refine au aa (A) (fM aa aa Y ?_)
  refine au aa (A) (iq aa aa ?_)
  refine al (cK aa (A) aa ?_)
  refine ae 1 aa (da (g:=eQ) aa (fun G=>?_) (fun G=>?_))
  ·have J:lO s=((0,0),5):=GJ O hk hn hc (.inr (.inl fun h=>by(have h:=vP (Y.symm.trans h);subst h;simp at G)))
   refine aS aa (G) (aS aa (G) (aS aa (G) (aS aa (G) (aS aa (G) (al (cU aa (G) aa ?_))))))
   refine af (fe aa aa (ak 3 aa (ax ?_)))
   exact bC rfl rfl (by unfold ll;rw[J];rfl)
  refine au aa (G) (bM aa ?_)
  refine au aa (G) (bM aa ?_)
  refine au rfl (G) (jM rfl rfl (by simp only[bb];omega) (by simp only[bb];omega) ?_)
  rw[show((k:Nat):Int)+Int.ofNat 2=((k+2:Nat):Int) from rfl]
  refine au rfl (G) (j7 (l:=k+2) (h:=(dw s).length) rfl rfl ⟨_,rfl⟩ (by omega) (by omega) ?_)
  rw[show((dw s).drop (k+2)).take ((dw s).length-(k+2))=(dw s).drop (k+2) from qu (by rw[iL];omega)]
  refine au rfl (G) (cQ (aa3 F ((dw s).drop (k+2)) 41 (by rw[iL];omega)) rfl rfl ?_)
  refine al (cK aa (G) aa ?_)
  refine af (aK aa (fun Z=>?_) (fun Z=>?_))
  ·have J:lO s=((0,0),5):=GJ O hk hn hc (.inr (.inr ⟨41,by simpa using Z,rfl⟩))
   refine ak 3 aa (ax ?_)
   exact bC rfl rfl (by unfold ll;rw[J];rfl)
  obtain rfl:c=32:=rB 32 (by simp at G;omega) rfl
  have J:lO s=mc (fm ((dw s).take k)) (fm ((dw s).drop (k+2))):=UC O P7 hn (hc (by omega)) Y (fun x hx e=>by(subst e;simp[hx] at Z))
  refine aU (ai (ae 2 aa ?_))
  refine al (j7 (l:=0) (h:=k) rfl ⟨_,rfl⟩ rfl (by omega) (by omega) ?_)
  rw[show((dw s).drop 0).take (k-0)=(dw s).take k from rfl]
  refine al (cQ (HE F _) aa aa ?_)
  refine ae 5 aa (af ?_)
  refine aM (ak 2 aa (aK aa (fun I3=>?_) (fun I3=>?_)))
  ·have K:mc (fm ((dw s).take k)) (fm ((dw s).drop (k+2)))=((0,0),(fm ((dw s).take k)).2):=aw (by simpa using I3)
   refine ak 4 aa (ax ?_)
   exact bC rfl rfl (by unfold ll;rw[J,K];rfl)
  have u6:¬¬(fm ((dw s).take k)).2=0:=by simpa using I3
  refine aU (ai (ae 2 aa ?_))
  refine al (jM rfl rfl (by simp only[bb];omega) (by simp only[bb];omega) ?_)
  rw[show((k:Nat):Int)+Int.ofNat 2=((k+2:Nat):Int) from rfl]
  refine al (j7 (l:=k+2) (h:=(dw s).length) rfl rfl ⟨_,rfl⟩ (by omega) (by omega) ?_)
  rw[show((dw s).drop (k+2)).take ((dw s).length-(k+2))=(dw s).drop (k+2) from qu (by rw[iL];omega)]
  refine al (cQ (HE F _) aa aa ?_)
  refine ae 5 aa (af ?_)
  refine aM (ak 2 aa (aK aa (fun I4=>?_) (fun I4=>?_)))
  ·have K:mc (fm ((dw s).take k)) (fm ((dw s).drop (k+2)))=((0,0),(fm ((dw s).drop (k+2))).2):=by unfold mc;rw[aj u6,aw (by simpa using I4)]
   refine ak 4 aa (ax ?_)
   exact bC rfl rfl (by unfold ll;rw[J,K];rfl)
  have E9:¬¬(fm ((dw s).drop (k+2))).2=0:=by simpa using I4
  refine aU (aM (ak 3 aa (aK aa (fun I5=>?_) (fun I5=>?_))))
  ·have K:mc (fm ((dw s).take k)) (fm ((dw s).drop (k+2)))=((0,0),10):=by unfold mc;rw[aj u6,aj E9,aw (by simpa using I5)]
   refine ak 3 aa (ax ?_)
   exact bC rfl rfl (by unfold ll;rw[J,K];rfl)
  have K:mc (fm ((dw s).take k)) (fm ((dw s).drop (k+2)))=(((fm ((dw s).take k)).1,(fm ((dw s).drop (k+2))).1),0):=by unfold mc;rw[aj u6,aj E9,aj (by simpa using I5)]
  refine aU (ak 5 aa (ax ?_))
  exact bC rfl rfl (by unfold ll;rw[J,K];rfl)
 refine bN (d6 (fun m VE B=>∃i,i≤(dw s).length∧m=(dw s).length-i∧(∀j x,j<i→(dw s)[j]?=some x→x≠44)∧bw [(0,dS s),(2,.vp 2 0),(3,d0),(4,dS (dw s)),(5,dI (i:Nat))] VE∧bw [(2,.one 42 16 [d0,d0])] B) ?_ (k:=(dw s).length) ⟨0,df _,aa,fun _ _ h=>absurd h (Ha _),⟨aa,aa,aa,aa,aa,trivial⟩,aa,trivial⟩)
 rintro m VE B⟨i,hi,rfl,hd,hV,hB⟩
 refine dx _ _ hV hB (aM (ai (ae 5 aa (da (g:=cN) aa (fun I=>?_) (fun I=>?_)))))
 ·have aa5:i<(dw s).length:=by simp at I;omega
  obtain⟨c,yP⟩:=jH aa5
  refine au aa (I) (bM aa ?_)
  refine au aa (I) (bM aa ?_)
  refine au aa (I) (fM aa aa yP ?_)
  refine au aa (I) (iq aa aa ?_)
  refine al (cU aa (I) aa ?_)
  refine af (aK aa (fun vf=>?_) (fun vf=>?_))
  ·refine aU (bN (bG (ae 1 aa ?_)))
   refine al (cX rfl rfl (by omega) ?_)
   refine ae 1 aa (af ?_)
   exact⟨(dw s).length-(i+1),by omega,i+1,by omega,rfl,fun j x hj hx=>by(rcases Nat.lt_succ_iff_lt_or_eq.1 hj with k|rfl;exact hd j x k hx;rw[yP] at hx;cases hx;exact fun e=>by(subst e;simp at vf)),⟨rfl,rfl,rfl,rfl,rfl,trivial⟩,rfl,trivial⟩
  refine dM ?_
  exact⟨i,hi,hd,fun _=>by(rw[yP];exact congrArg some (rB 44 (by simp at vf;omega) rfl)),⟨rfl,rfl,rfl,rfl,rfl,trivial⟩,rfl,trivial⟩
 have he:i=(dw s).length:=by simp at I;omega
 refine aS aa (I) (aS aa (I) (aS aa (I) (aS aa (I) (al (cK aa (I) aa ?_)))))
 refine af (eJ aa aa (dM ?_))
 exact⟨i,hi,hd,fun h=>by omega,⟨rfl,rfl,rfl,rfl,rfl,trivial⟩,rfl,trivial⟩
open Go
set_option maxRecDepth 10000
variable{s:List UInt8}
def sP(neg:Bool)(s:List UInt8):Option Int:=if(dW s:Int)<9223372036854775808∨(neg=true∧(dW s:Int)=9223372036854775808) then some (if neg=true then-(dW s:Int) else(dW s:Int)) else none
def rm:Rd:=⟨fm,lO,sP⟩
theorem KJ:∀(s:List UInt8)(acc:Nat),(∀c,c∈s→48≤c.toNat∧c.toNat≤57)→(acc+1)*10^s.length≤10^19→Lib.parseUintM (2^64-1) acc s= .ok (s.foldl (fun n c=>n*10+(c.toNat-48)) acc)
 |[],_,_,_=>rfl
 |c::r,acc,h,z=>by
  have A:=h c lh
  rw[dk,ye] at z
  have hp:0<10^r.length:=Nat.pow_pos (by decide)
  have I:(acc+1)*10≤10^19:=jT (by rw[mL (10^r.length) 10,←Aw];exact HO _ hp) z
  show(if 48≤c.toNat∧c.toNat≤57 then if 1844674407370955162≤acc then Lib.NumEnd.range else if 2^64-1<acc*10+(c.toNat-48) then .range else Lib.parseUintM (2^64-1) (acc*10+(c.toNat-48)) r else _)=_
  rw[aw A,aj (by omega),aj (by omega)]
  exact KJ r _ (fun x G=>h x (nO _ G)) (jT (by
   rw[mL (10^r.length) 10,←Aw]
   exact kN _ (by omega)) z)
theorem Lt(h:nA s):Lib.parseUintB 64 s= .ok (dW s):=by
 obtain⟨z,h2,A⟩:=h
 unfold Lib.parseUintB
 rw[aj (by intro k;rw[k] at z;exact absurd z (by decide))]
 exact KJ s 0 A (by rw[jA,sz];exact Ay (by decide) h2)
theorem MV{c:UInt8}{r:List UInt8}{u:Nat}(z:Lib.parseUintB 64 (if c.toNat=43∨c.toNat=45 then r else c::r)= .ok u):Lib.parseIntB 64 (c::r)=if¬c.toNat=45∧2^(64-1)≤u then .range else if c.toNat=45∧2^(64-1)<u then .range else .ok (if c.toNat=45 then-(u:Int) else u):=by
 unfold Lib.parseIntB;simp only[z]
theorem VJ(h:dW s≤9223372036854775808):sP true s=some (-(dW s:Int)):=aw (by
 rcases z1 h with h|h
 ·exact .inl (by omega)
 exact .inr ⟨rfl,by omega⟩)
theorem VK(h:dW s<9223372036854775808):sP false s=some (dW s:Int):=aw (.inl (by omega))
theorem UD(h:9223372036854775808<dW s):sP true s=none:=aj (by
 rintro(k|⟨_,k⟩)<;>omega)
theorem UE(h:9223372036854775808≤dW s):sP false s=none:=aj (by
 rintro(k|⟨k,_⟩)
 ·omega
 cases k)
theorem UF(neg:Bool)(h:nA s):Lib.parseIntB 64 (if neg=true then 45::s else s)=match sP neg s with|some m=>.ok m|none=>.range:=by
 have A:=Lt h
 have G:2^(64-1)=9223372036854775808:=by decide
 cases neg with
 |true=>
  have e:(45:UInt8).toNat=45:=rfl
  rw[aw rfl,MV (u:=dW s) (by rw[aw (.inr e)];exact A),G]
  by_cases k:9223372036854775808<dW s
  ·rw[aj (fun k=>k.1 e),aw ⟨e,k⟩,UD k]
  rw[aj (fun k=>k.1 e),aj (fun z=>k z.2),aw e,VJ (by omega)]
 |false=>
  obtain⟨I,h2,J⟩:=h
  match s,I with
  |c::r,_=>
   have K:=J c lh
   have e:¬c.toNat=45:=by omega
   rw[aj (by decide),MV (u:=dW (c::r)) (by rw[aj (by omega)];exact A),G]
   by_cases k:9223372036854775808≤dW (c::r)
   ·rw[aw ⟨e,k⟩,UE k]
   rw[aj (fun z=>k z.2),aj (fun z=>e z.1),aj e,VK (by omega)]
theorem UG(y m d:Nat):(Ic (jy y m d)).1≤1000000:=by
 unfold jy
 split
 ·decide
 split
 ·decide
 rename_i h;show sO y m d≤_;omega
theorem UH(s:List UInt8):(fm s).1≤1000000:=by
 unfold fm
 split
 ·decide
 split
 ·decide
 split
 ·decide
 exact UG ..
theorem leaf{T:bf}(F:FT T)(X:FX T):gX T rm where
 uint s h:=by have h2:=h.2.1;exact Rv X.aaT X.aaU (by omega) (Lt h)
 sint neg s h:=by
  obtain⟨t,A⟩:=X.aaW
  have h2:=h.2.1
  have e:=UF neg h
  refine(Sd X.aaV A (s:=if neg=true then 45::s else s) (by split<;>(try rw[dk])<;>omega) (by rw[e];cases sP neg s;exact .inr rfl;exact .inl ⟨_,rfl⟩)).mono fun v G=>?_
  obtain⟨n,x,I,hp⟩:=G
  refine⟨n,x,I,?_⟩
  rw[e] at hp
  simp only[rm]
  cases hi:sP neg s with
  |none=>
   rw[hi] at hp
   rcases hp with⟨m,z,_⟩|⟨_,h2⟩
   ·cases z
   exact .inr ⟨aa,h2⟩
  |some m=>
   rw[hi] at hp
   rcases hp with⟨K,z,h2,J⟩|⟨z,_⟩
   ·cases z;exact .inl ⟨_,rfl,h2,J⟩
   cases z
 day s _:=Ig F s
 il s h:=aa4 F X s (by omega)
theorem Om{T:bf}(F:FT T):ke T rm where
 day s _:=HE F s
 il s h:=WI F s (by omega)
 kD:=UH
 int neg s:=by simp only[rm];unfold sP;exact Eq.refl _
end Go.Ev.Pp
namespace Go.Ev
open Go
variable{T:bf}{VE:b0}{B:br}{Q:VV→br→Prop}
theorem G2{neg:Bool}{x y:aG}{v w:VV}{t:Bool}(A:x.vv VE=some v)(G:y.vv VE=some w)(I:(∀H X β a b,aN H X β v a→aN H X β w b→nr .ptr a b=some t))(J:Q (dB (Bool.xor neg t)) B):VI T (.eqv .ptr neg x y) VE B [] Q:=fun _ _ _ _ _ z=>by
 obtain⟨a,K,h2⟩:=z.b9 A
 obtain⟨b,O,U⟩:=z.b9 G
 refine gf (v:=.bool (Bool.xor neg t)) (fun call=>?_) (e7 z (v:=dB (Bool.xor neg t)) (by simp only[aN,cO]) J)
 show bB x _ (.err 7) (fun a=>bB y _ (.err 7) fun b=>ob (nr .ptr a b) (.err 7) fun r=>mY (Bool.xor neg r) fun r=>.ok (.bool r) _)=_
 rw[dp,K,dh,dp,O,dh,I _ _ _ _ _ h2 U,dh]
 cases Bool.xor neg t<;>rfl
theorem UI{neg:Bool}{x y:aG}(z:x.vv VE=some (.k .hU))(A:y.vv VE=some (.k .hU))(G:Q (dB (Bool.xor neg true)) B):VI T (.eqv .ptr neg x y) VE B [] Q:=
 G2 z A (fun _ _ _ _ _ h k=>by simp only[aN] at h k;subst h;subst k;rfl) G
theorem UJ{neg:Bool}{x y:aG}{b o:Nat}(z:x.vv VE=some (.vp b o))(A:y.vv VE=some (.k .hU))(G:Q (dB (Bool.xor neg false)) B):VI T (.eqv .ptr neg x y) VE B [] Q:=
 G2 z A (fun _ _ _ _ _ h k=>by simp only[aN] at h k;subst h;subst k;rfl) G
theorem UK{neg:Bool}{x y:aG}{b o:Nat}(z:x.vv VE=some (.vp b o))(A:y.vv VE=some (.vp b o))(G:Q (dB (Bool.xor neg true)) B):VI T (.eqv .ptr neg x y) VE B [] Q:=
 G2 z A (fun _ _ β _ _ h k=>by
  simp only[aN] at h k;subst h;subst k
  show aH (Nat.beq (β b) (β b)) (aH (Nat.beq 1 1) (aH (Nat.beq o o) (some true) none) none) none=_
  rw[iX,iX,iX];rfl) G
theorem UL{f:Nat}{x:aG}{v:VV}(A:T.ft.get f=none)(h2:T.xt.get f=some 1)(G:x.vv VE=some v)(I:Q v B):VI T (.call f [x]) VE B [] Q:=fun _ _ _ H β z=>by
 obtain⟨a,J,K⟩:=z.b9 G
 refine⟨1,a,H,fun lf n _ O=>?_,e7 z K I⟩
 obtain⟨n,rfl⟩:∃n',n=n'+1:=⟨n-1,by omega⟩
 show ob (jF _ [x]) (.err 42) (fun vs=>T.call lf (n+1) f vs H)=_
 rw[show jF _ [x]=some [a] from ?_,dh]
 ·show ob (T.ft.get f) (ob (T.xt.get f) (.err (Nat.add 10000 f)) fun c=>qy c _ H) _=_
  rw[A,h2];rfl
 exact K0 J TO
theorem Lu{t n:Nat}{x:aG}{b aT:Nat}{row:List VV}(A:x.vv VE=some (.vp b 0))(G:aZ B b=some (.one t aT row))(I:row.length=n)(J:Q (.vp b 0) B):VI T (.qp t n x) VE B [] Q:=fun _ _ _ H β z=>by
 obtain⟨a,K,h2⟩:=z.b9 A
 have O:=h2
 simp only[aN] at h2
 subst h2
 obtain⟨l,lo,cs,U,Y,k3,Z⟩:=z.box b _ G
 have hl:l.length=n:=by rw[Z.length];exact I
 refine gf (v:=.ptr (β b) 1 0) (fun call=>?_) (e7 z O J)
 show bB x _ (.err 44) (fun v=>aH (xo v) (.ok v H) (iu v (.err 44) fun f g off=>iS (H.t.get f) (.err 44) fun elem es _ m lo fl _=>
  aH (Nat.beq elem t) (aH (Nat.beq es n) (aH (Nat.beq off 0) (aH (Nat.ble lo g) (aH (Nat.ble g m) (aH (Nat.ble 1 g) (aH (Nat.beq fl 0) (.ok v H) (.err 44)) (.err 44)) (.err 44)) (.err 44)) (.err 44)) (.err 44)) (.err 44)))=_
 rw[dp,K,dh]
 show iS (H.t.get (β b)) (aE.err 44) _=_
 rw[U]
 show aH (Nat.beq t t) (aH (Nat.beq l.length n) (aH (Nat.beq 0 0) (aH (Nat.ble lo 1) _ _) _) _) _=_
 rw[iX,hl,iX,show Nat.ble lo 1=true from jz Y]
 rfl
theorem VL{x:aG}{b n es:Nat}(A:x.vv VE=some (.ac b n es))(h0:0<n)(G:Q (.bp b n 0 0 es) B):VI T (.uV x) VE B [] Q:=fun _ _ _ H β z=>by
 obtain⟨a,I,h2⟩:=z.b9 A
 simp only[aN] at h2
 rcases h2 with⟨h,_⟩|⟨_,rfl⟩
 ·omega
 refine gf (v:=.ptr (β b) n 0) (fun call=>?_) (e7 z (v:=.bp b n 0 0 es) (by simp only[aN];rw[rq]) G)
 show bB x _ (.err 45) (fun v=>gP v (.err 45) (.ok .hU H) fun f g off l _=>aH (Nat.beq l 0) (.err 45) (.ok (.ptr f g off) H))=_
 rw[dp,I,dh]
 show aH (Nat.beq n 0) _ _=_
 cases n with
 |zero=>omega
 |succ n=>rfl
theorem UM{x:aG}{b es:Nat}(A:x.vv VE=some (.ac b 0 es))(G:Q (.k .hU) B):VI T (.uV x) VE B [] Q:=fun _ _ _ H β z=>by
 obtain⟨a,I,h2⟩:=z.b9 A
 simp only[aN] at h2
 rcases h2 with⟨_,rfl⟩|⟨h,_⟩
 ·refine gf (v:=.hU) (fun call=>?_) (e7 z (v:=.k .hU) (by simp only[aN]) G)
  show bB x _ (.err 45) (fun v=>gP v (.err 45) (.ok .hU H) fun f g off l _=>aH (Nat.beq l 0) (.err 45) (.ok (.ptr f g off) H))=_
  rw[dp,I,dh];rfl
 omega
theorem Tp{e:Nat}{x n:aG}(G:x.vv VE=some (.k .hU))(I:n.vv VE=some (dI ((0:Nat):Int)))(J:Q (dS []) B):VI T (.qw e x n) VE B [] Q:=fun _ _ _ H β z=>by
 obtain⟨a,K,h2⟩:=z.b9 G
 obtain⟨c,O,A⟩:=z.b9 I
 simp only[aN,cO] at h2 A
 subst h2;subst A
 refine gf (v:=.str 0 0) (fun call=>?_) (e7 z (v:=dS []) (by simp only[aN,cJ,cO];rfl) J)
 show bB x _ (.err 46) (fun p=>aH (xo p) (bB n _ (.err 46) fun U=>gI U (.err 46) fun k i=>jb i (.err 46) fun l=>aH (Nat.beq (dn k) 3) (aH (Nat.beq l 0) (.ok (.str 0 0) H) (.err 46)) (.err 46)) _)=_
 rw[dp,K,dh]
 show bB n _ (.err 46) _=_
 rw[dp,O,dh];rfl
def jY(c:UInt8):List DC:=[.i .u8 (c.toNat:Nat)]
theorem MW{H:aB}{X:Nat→Prop}:∀{s:List UInt8}{ls:List (List an)},kh H X 1 ls (s.map jY)→nD ls=some (pack s)
 |[],ls,h=>by
  cases ls with
  |nil=>rfl
  |cons _ _=>exact absurd h (by simp[kh])
 |c::s,ls,h=>by
  cases ls with
  |nil=>exact absurd h (by simp[kh])
  |cons l r=>
   simp only[eB,kh] at h
   obtain⟨⟨G,h2⟩,z⟩:=h
   have A:=MW z
   simp only[jY,cW,cO] at h2
   obtain⟨_,_,rfl,rfl,rfl⟩:=h2
   have I:=c.toNat_lt
   show aH (Nat.beq 4 4) (aH (Nat.ble c.toNat 255) (ob (nD r) none fun v=>some (Nat.add c.toNat (Nat.mul 256 v))) none) none=_
   rw[show Nat.ble c.toNat 255=true from jz (by omega),A]
   rfl
theorem Lv{H0:Nat→Nat}{X0:Nat→Prop}{E:Env}{H:aB}{β:Nat→Nat}(G:Rel H0 X0 VE B E H β){b elem aT:Nat}{s:List UInt8}(I:aZ B b=some (.acc elem aT 1 (s.map jY)))(h0:0<s.length):
  ∃ls,elems H (β b) s.length 1 s.length 0=some ls∧nD ls=some (pack s):=by
 have z:(s.map jY).length=s.length:=cC ..
 rcases(YR.ac (gM:=1) I).elems G (by decide) (a:=.slice (β b) s.length 0 s.length 1) (by simp only[aN,z];exact .inr ⟨h0,trivial⟩) with⟨h,_⟩|⟨f,g,off,e,ls,A,h2,J⟩
 ·cases h
 rw[z] at A h2
 cases A
 exact⟨ls,h2,MW J⟩
theorem UN{x n:aG}{b aT:Nat}{s:List UInt8}(J:x.vv VE=some (.bp b s.length 0 0 1))(K:n.vv VE=some (dI (s.length:Nat)))(G:aZ B b=some (.acc 5 aT 1 (s.map jY)))(h0:0<s.length)(O:s.length≤70368744177664)
  (U:Q (dS s) ((b,.acc 5 aT 1 [])::B)):VI T (.qw 5 x n) VE B [b] Q:=fun _ X0 _ H β z=>by
 obtain⟨a,Y,h2⟩:=z.b9 J
 obtain⟨c,Z,I⟩:=z.b9 K
 simp only[aN,cO] at h2 I
 subst h2;subst I
 obtain⟨ls,e1,e2⟩:=Lv z G h0
 have A:s.map jY≠[]:=fun k=>by rw[List.map_eq_nil_iff] at k;rw[k] at h0;exact absurd h0 (by decide)
 rcases z.box b _ G with h|⟨lo,cs,k1,k2,k3⟩
 ·exact absurd h A
 refine⟨0,.str s.length (pack s),⟨H.next,H.bc,wrote (β b) H.bc H.ws,H.t.set (β b) (.row 5 1 aT (s.map jY).length lo 2 cs)⟩,fun lf m _ _=>?_,?_⟩
 ·show vU 5 x n _ H=_
  unfold vU
  rw[dp,Y,dh]
  show bB n _ (.err 46) _=_
  rw[dp,Z,dh]
  show aH (Nat.ble 1 s.length) (aH (Nat.ble s.length 70368744177664) (ob (elems H (β b) s.length 1 s.length 0) (aE.err 46) _) (aE.err 46)) (aE.err 46)=_
  rw[show Nat.ble 1 s.length=true from jz h0,show Nat.ble s.length 70368744177664=true from jz O,e1]
  show ob (nD ls) (aE.err 46) _=_
  rw[e2,dh,im]
  cases H with
  |mk next bc ws t=>
   unfold mA
   show iS (t.get (β b)) (aE.err 46) _=_
   rw[show t.get (β b)=_ from k1]
   exact GT.j8 t (β b) (.row 5 1 aT (s.map jY).length lo 2 cs) fun t=>aE.ok (.str s.length (pack s)) ⟨next,bc,wrote (β b) bc ws,t⟩
 refine BP (s':=.acc 5 aT 1 []) (v:=dS s) z G A rfl (fun f hf=>?_) rfl rfl (fun X _ _=>.inl rfl) (fun X=>by simp only[aN,cJ,cO]) U
 show(H.t.set (β b) _).get f=_
 rw[GT.eU,aj hf]
theorem KK{x:aG}{b aT elem:Nat}{s:List UInt8}(A:x.vv VE=some (.ac b s.length 1))(G:aZ B b=some (.acc elem aT 1 (s.map jY)))(I:Q (dS s) B):VI T (.pH x) VE B [] Q:=fun _ X0 _ H β z=>by
 obtain⟨a,J,h2⟩:=z.b9 A
 simp only[aN] at h2
 refine gf (v:=.str s.length (pack s)) (fun call=>?_) (e7 z (v:=dS s) (by simp only[aN,cJ,cO]) I)
 show bB x _ (.err 39) (fun v=>gP v (.err 39) (.ok (.str 0 0) H) fun f g off n _=>
  ob (elems H f g 1 n off) (.err 39) fun l=>ob (nD l) (.err 39) fun s=>dr s fun s=>.ok (.str n s) H)=_
 rw[dp,J,dh]
 rcases h2 with⟨h,rfl⟩|⟨h,rfl⟩
 ·obtain rfl:=List.length_eq_zero_iff.1 h;rfl
 obtain⟨ls,e1,e2⟩:=Lv z G h
 show ob (elems H (β b) s.length 1 s.length 0) (aE.err 39) _=_
 rw[e1]
 show ob (nD ls) (aE.err 39) _=_
 rw[e2,dh]
 exact im (pack s) fun v=>aE.ok (.str s.length v) H
end Go.Ev
namespace Go.Ev.Pp
open Go
def adV(a:Bool)(k:Nat):VV:=match a with|true=>.vp k 0|false=>.k .hU
def mU(a:Bool)(k l:Nat)(b:List UInt8):br:=[(k,.one 151 32 [adV a k,.ac l (b.map jY).length 1]),(l,.acc 5 1 1 (b.map jY))]
def kG(c:UInt8):Bool:=decide (65≤c.toNat)&&decide (c.toNat≤90)
def sQ(c:UInt8):Bool:=decide (97≤c.toNat)&&decide (c.toNat≤122)
def iE(c:UInt8):Bool:=sQ c||(gR c||decide (c.toNat=95))
def lR(c:UInt8):Bool:=decide (c.toNat=32)||(decide (c.toNat=9)||(decide (c.toNat=10)||decide (c.toNat=13)))
def runM(P:UInt8→Bool)(s:List UInt8)(i:Nat):Nat:=i+((s.drop i).takeWhile P).length
section
variable{P:UInt8→Bool}{s:List UInt8}{i:Nat}{c:UInt8}
theorem rX(h:s[i]?=some c):s.drop i=c::s.drop (i+1):=by
 obtain⟨z,he⟩:=List.getElem?_eq_some_iff.1 h
 rw[AA z,he]
theorem qX(h:s[i]?=some c)(hp:P c=true):runM P s i=runM P s (i+1):=by
 unfold runM;rw[rX h,Hc,hp];simp;omega
theorem zY(h:s[i]?=some c)(hp:P c=false):runM P s i=i:=by
 unfold runM;rw[rX h,Hc,hp];simp
theorem zZ(h:s.length≤i):runM P s i=i:=by
 unfold runM;rw[Hd h];rfl
theorem xj:i≤runM P s i:=jQ ..
theorem xk(h:i≤s.length):runM P s i≤s.length:=by
 unfold runM
 have:=(List.takeWhile_sublist P (l:=s.drop i)).length_le
 rw[iL] at this;omega
theorem KL:∀(l:List UInt8)(x:UInt8),x∈l.take (l.takeWhile P).length→P x=true
 |[],x,h=>by simp at h
 |y::r,x,h=>by
  rw[Hc] at h
  cases z:P y with
  |false=>rw[z] at h;simp at h
  |true=>
   rw[z,aw rfl,dk,xD] at h
   rcases List.mem_cons.1 h with rfl|h
   ·exact z
   exact KL r x h
theorem B7:∀x,x∈(s.drop i).take (runM P s i-i)→P x=true:=by
 unfold runM
 rw[HS]
 intro x z
 exact KL _ x z
end
def p7:List UInt8→Option (List UInt8×Nat)
 |[]=>none
 |c::r=>if c=39 then(match r with
   |[]=>some ([],1)
   |d::z=>if d=39 then(p7 z).map fun x=>(39::x.1,x.2+2) else some ([],1))
  else(p7 r).map fun x=>(c::x.1,x.2+1)
def jE(s:List UInt8)(j:Nat)(b:List UInt8):Option (List UInt8×Nat):=(p7 (s.drop j)).map fun x=>(b++x.1,j+x.2)
structure Ih where
 kind:Int
 text:List UInt8
 stop:Nat
 err:Int
def cut(s:List UInt8)(i j:Nat):List UInt8:=(s.drop i).take (j-i)
def qn:List UInt8:=[40,41,44,46,42,43,45,61,60,62,59]
def ct(s:List UInt8)(i:Nat)(c:UInt8):Ih:=
 if kG c=true then⟨1,cut s i (runM kG s i),runM kG s i,0⟩
 else if sQ c=true then⟨2,cut s i (runM iE s i),runM iE s i,0⟩
 else if gR c=true then⟨3,cut s i (runM gR s i),runM gR s i,0⟩
 else if c=39 then(match jE s (i+1) [] with
  |some x=>⟨4,x.1,x.2,0⟩
  |none=>⟨4,[],0,2⟩)
 else if c∈qn then⟨5,cut s i (i+1),i+1,0⟩
 else⟨0,[],0,5⟩
def kJ(k:Int)(t:List UInt8):Bool:=if k=3 then decide (t.length≤19) else if k=4 then decide (t.length≤200) else decide (t.length≤20)
def mv(s:List UInt8):Nat→Nat→List cM→List cM×Nat×Int
 |0,i,_=>([],i,4)
 |k+1,i,out=>match s[i]?with
  |none=>(out++[⟨6,(s.length:Nat),[]⟩],0,0)
  |some c=>if¬(ct s i c).err=0 then([],i,(ct s i c).err)
   else if¬(kJ (ct s i c).kind (ct s i c).text=true∧out.length<1000) then([],i,4)
   else mv s k (runM lR s (ct s i c).stop) (out++[⟨(ct s i c).kind,(i:Nat),(ct s i c).text⟩])
def fg(s:List UInt8):List cM×Nat×Int:=if 4000<s.length then([],0,4) else mv s (s.length+1) (runM lR s 0) []
def Eg(x:List cM×Nat×Int):VV:=.tuple [.d (.ff (x.1.map cM.enc)),dI (x.2.1:Nat),dI x.2.2]
variable{s:List UInt8}{i:Nat}{c:UInt8}
theorem Tq(h:s[i]?=some c):cut s i (i+1)=[c]:=by
 unfold cut;rw[rX h,HS];rfl
theorem Cs:∀(l:List UInt8)x,p7 l=some x→1≤x.2∧x.2≤l.length∧x.1.length<x.2
 |[],x,h=>by unfold p7 at h;cases h
 |[c],x,h=>by
  unfold p7 at h
  split at h
  ·cases h;exact⟨by decide,by simp,by decide⟩
  unfold p7 at h;cases h
 |c::d::r,x,h=>by
  unfold p7 at h
  split at h
  ·simp only at h
   split at h
   ·obtain⟨y,z,rfl⟩:=Option.map_eq_some_iff.1 h
    obtain⟨A,h2,G⟩:=Cs r y z
    simp only[dk];omega
   cases h;exact⟨by decide,by simp,by decide⟩
  obtain⟨y,z,rfl⟩:=Option.map_eq_some_iff.1 h
  obtain⟨A,h2,G⟩:=Cs (d::r) y z
  simp only[dk] at h2⊢;omega
theorem F9(h:s[i]?=some c)(h0:(ct s i c).err=0):i<(ct s i c).stop∧(ct s i c).stop≤s.length:=by
 have I:i<s.length:=(List.getElem?_eq_some_iff.1 h).1
 have go:∀P:UInt8→Bool,P c=true→i<runM P s i∧runM P s i≤s.length:=fun P hp=>by
  rw[qX h hp]
  have:=xj (P:=P) (s:=s) (i:=i+1)
  have:=xk (P:=P) (s:=s) (i:=i+1) I
  omega
 unfold ct at h0⊢
 split
 ·rename_i k;exact go _ k
 split
 ·rename_i k;exact go _ (by unfold iE;rw[k];rfl)
 split
 ·rename_i k;exact go _ k
 split
 ·rename_i z A G k
  rw[aj z,aj A,aj G,aw k] at h0
  unfold jE at h0⊢
  cases J:p7 (s.drop (i+1)) with
  |none=>rw[J] at h0;exact absurd h0 (by decide:¬(2:Int)=0)
  |some x=>
   obtain⟨U,h2,Y⟩:=Cs _ _ J
   rw[iL] at h2
   show i<i+1+x.2∧i+1+x.2≤s.length
   omega
 rename_i z A G K
 split
 ·exact⟨fZ _,I⟩
 rename_i O;rw[aj z,aj A,aj G,aj K,aj O] at h0;exact absurd h0 (by decide)
theorem Sk(h:s[i]?=some c)(h0:(ct s i c).err=0)(z:kJ (ct s i c).kind (ct s i c).text=true):
  (ct s i c).kind≠6∧((ct s i c).kind=3→nA (ct s i c).text)∧(ct s i c).text.length≤200:=by
 have Z:i<s.length:=(List.getElem?_eq_some_iff.1 h).1
 have A:∀j,(cut s i j).length≤j-i:=fun j=>by unfold cut;exact List.length_take_le ..
 unfold ct at h0 z⊢
 split
 ·rename_i k;rw[aw k] at z
  refine⟨(by decide:(1:Int)≠6),fun e=>absurd e (by decide:¬(1:Int)=3),?_⟩
  have z:decide ((cut s i (runM kG s i)).length≤20)=true:=z
  simp at z;show(cut s i (runM kG s i)).length≤200;omega
 rename_i J;rw[aj J] at z h0
 split
 ·rename_i k;rw[aw k] at z
  refine⟨(by decide:(2:Int)≠6),fun e=>absurd e (by decide:¬(2:Int)=3),?_⟩
  have z:decide ((cut s i (runM iE s i)).length≤20)=true:=z
  simp at z;show(cut s i (runM iE s i)).length≤200;omega
 rename_i K;rw[aj K] at z h0
 split
 ·rename_i k;rw[aw k] at z
  have z:decide ((cut s i (runM gR s i)).length≤19)=true:=z
  simp at z
  refine⟨(by decide:(3:Int)≠6),fun _=>⟨?_,z,fun x O=>wR.1 (B7 x O)⟩,by show(cut s i (runM gR s i)).length≤200;omega⟩
  show 0<(cut s i (runM gR s i)).length
  have h2:=xj (P:=gR) (s:=s) (i:=i+1)
  unfold cut;rw[nf,iL,qX h k];omega
 rename_i U;rw[aj U] at z h0
 split
 ·rename_i G;rw[aw G] at z h0
  cases I:jE s (i+1) [] with
  |none=>rw[I] at h0;exact absurd h0 (by decide)
  |some x=>
   rw[I] at z
   refine⟨(by decide:(4:Int)≠6),fun e=>absurd e (by decide:¬(4:Int)=3),?_⟩
   have z:decide (x.1.length≤200)=true:=z
   simpa using z
 rename_i G;rw[aj G] at h0
 split
 ·refine⟨(by decide:(5:Int)≠6),fun e=>absurd e (by decide:¬(5:Int)=3),?_⟩
  have:=A (i+1);show(cut s i (i+1)).length≤200;omega
 rename_i Y;rw[aj Y] at h0;exact absurd h0 (by decide)
structure EV(out:List cM):Prop where
 kind:∀t,t∈out→t.kind≠6
 num:∀t,t∈out→t.kind=3→nA t.text
 text:∀t,t∈out→t.text.length≤200
theorem EV.snoc{out:List cM}(h:EV out)(A:s[i]?=some c)(h0:(ct s i c).err=0)(G:kJ (ct s i c).kind (ct s i c).text=true):EV (out++[⟨(ct s i c).kind,(i:Nat),(ct s i c).text⟩]):=by
 obtain⟨I,J,K⟩:=Sk A h0 G
 refine⟨fun t z=>?_,fun t z=>?_,fun t z=>?_⟩<;>rcases List.mem_append.1 z with z|z
 ·exact h.kind t z
 ·rcases List.mem_singleton.1 z with rfl;exact I
 ·exact h.num t z
 ·rcases List.mem_singleton.1 z with rfl;exact J
 ·exact h.text t z
 rcases List.mem_singleton.1 z with rfl;exact K
theorem J3:∀(k i:Nat)(out:List cM),EV out→out.length≤1000→(mv s k i out).2.2=0→rj (mv s k i out).1
 |0,i,out,_,_,h=>absurd h (by unfold mv;exact(by decide:¬(4:Int)=0))
 |k+1,i,out,ho,O,h=>by
  unfold mv at h⊢
  cases G:s[i]?with
  |none=>
   rw[G] at h
   simp only
   refine⟨by simp,by simp;omega,fun j t z=>?_,fun t z J=>?_,fun t z=>?_⟩
   ·rw[bK,eK]
    by_cases K:j<out.length
    ·rw[qv K] at z
     exact⟨fun e=>absurd e (ho.kind t (lG z)),fun e=>by omega⟩
    have I:=(List.getElem?_eq_some_iff.1 z).1
    rw[bK,eK] at I
    obtain rfl:j=out.length:=by omega
    rw[v8 (bY _),Nat.sub_self] at z
    simp at z;subst z
    simp
   ·rcases List.mem_append.1 z with z|z
    ·exact ho.num t z J
    rcases List.mem_singleton.1 z with rfl;exact absurd J (by decide:¬(6:Int)=3)
   rcases List.mem_append.1 z with z|z
   ·exact ho.text t z
   rcases List.mem_singleton.1 z with rfl;exact df _
  |some c=>
   rw[G] at h
   simp only at h⊢
   split
   ·rename_i he;rw[aw he] at h;exact absurd h he
   rename_i he;rw[aj he] at h
   split
   ·rename_i A;rw[aw A] at h;exact absurd h (by decide:¬(4:Int)=0)
   rename_i A;rw[aj A] at h
   have he:(ct s i c).err=0:=by simpa using he
   have A:kJ (ct s i c).kind (ct s i c).text=true∧out.length<1000:=by simpa using A
   exact J3 k _ _ (ho.snoc G he A.1) (by rw[bK,eK];omega) h
theorem vn(h:(fg s).2.2=0):rj (fg s).1:=by
 unfold fg at h⊢
 split
 ·rename_i z;rw[aw z] at h;exact absurd h (by decide:¬(4:Int)=0)
 rename_i z;rw[aj z] at h
 exact J3 _ _ _ ⟨fun _ h=>(by cases h),fun _ h=>(by cases h),fun _ h=>(by cases h)⟩ (by decide) h
section
variable{b:List UInt8}{j:Nat}{d:UInt8}
theorem MX(h:s[j]?=some c)(z:¬c=39):jE s j b=jE s (j+1) (b++[c]):=by
 unfold jE
 rw[rX h]
 conv=>lhs;unfold p7
 rw[aj z,Option.map_map]
 congr 1
 funext x
 simp only[Function.comp,List.append_assoc,M4]
 congr 1;omega
theorem Mi(h:s[j]?=some 39)(h2:s[j+1]?=some 39):jE s j b=jE s (j+2) (b++[39]):=by
 unfold jE
 rw[rX h,rX h2]
 conv=>lhs;unfold p7
 rw[aw rfl]
 simp only[if_true,Option.map_map]
 congr 1
 funext x
 simp only[Function.comp,List.append_assoc,M4]
 congr 1;omega
theorem CQ(h:s[j]?=some 39)(h2:∀d,s[j+1]?=some d→¬d=39):jE s j b=some (b,j+1):=by
 unfold jE
 rw[rX h]
 unfold p7
 rw[aw rfl]
 cases z:s[j+1]?with
 |none=>rw[Hd (List.getElem?_eq_none_iff.1 z)];simp
 |some d=>rw[rX z];simp[h2 d z]
theorem MY(h:s.length≤j):jE s j b=none:=by
 unfold jE;rw[Hd h];rfl
end
def aa6:Option (List UInt8×Nat)→VV
 |some x=>.tuple [.d (cJ x.1),.d (.i .i64 (x.2:Nat)),.d (.i .i64 0)]
 |none=>.tuple [.d (cJ []),.d (.i .i64 0),.d (.i .i64 2)]
def uT(x:Ih)(i:Nat):VV:=.tuple [.agg [dI x.kind,dI (if x.err=5 then 0 else(i:Nat)),dS x.text],dI (x.stop:Nat),dI x.err]
theorem Lw{l:List UInt8}:0≤eI c l↔c∈l:=by
 constructor
 ·intro h
  obtain⟨k,hk⟩:∃k:Nat,eI c l=k:=⟨(eI c l).toNat,by omega⟩
  exact lG (BX hk).1
 intro h
 refine t7 fun k=>?_
 have J:=xh c l
 obtain⟨j,K,he⟩:=Hb h
 have key:∀(l:List UInt8),eI c l= -1→c∉l:=by
  intro l
  induction l with
  |nil=>intro _ h;cases h
  |cons x r I=>
   intro h z
   have h:(if x=c then(0:Int) else if eI c r= -1 then-1 else eI c r+1)= -1:=h
   by_cases A:x=c
   ·rw[aw A] at h;omega
   rw[aj A] at h
   have:=xh c r
   by_cases G:eI c r= -1
   ·rcases List.mem_cons.1 z with e|z
    ·exact A e.symm
    exact I G z
   rw[aj G] at h;omega
 exact key l (by omega) h
structure HF(k:Int)(t:List UInt8):Prop where
 kind:k=1∨k=2∨k=3∨k=4∨k=5
 ne:k≠4→0<t.length
 up:k=1→∀c,c∈t→kG c=true
 P8:k=2→∀c,c∈t→iE c=true
 low:k=2→∀c,t[0]?=some c→sQ c=true
 nW:k=3→∀c,c∈t→gR c=true
 sgn:k=5→∃c,t=[c]∧c∈qn
theorem Av{j:Nat}(h:s[i]?=some c)(z:i<j):(cut s i j)[0]?=some c∧0<(cut s i j).length:=by
 unfold cut
 rw[rX h,show j-i=(j-i-1)+1 by omega,xD]
 exact⟨rfl,by simp⟩
theorem UO(h:s[i]?=some c)(h0:(ct s i c).err=0):HF (ct s i c).kind (ct s i c).text:=by
 have z:=(F9 h h0).1
 unfold ct at h0 z⊢
 split
 ·rename_i G
  rw[aw G] at z
  exact⟨.inl rfl,fun _=>(Av h z).2,fun _=>B7,fun e=>absurd e (by decide:¬(1:Int)=2),fun e=>absurd e (by decide:¬(1:Int)=2),fun e=>absurd e (by decide:¬(1:Int)=3),fun e=>absurd e (by decide:¬(1:Int)=5)⟩
 rename_i G;rw[aj G] at h0 z
 split
 ·rename_i A
  rw[aw A] at z
  exact⟨.inr (.inl rfl),fun _=>(Av h z).2,fun e=>absurd e (by decide:¬(2:Int)=1),fun _=>B7,fun _ d O=>by rw[show _=some c from(Av h z).1] at O;cases O;exact A,fun e=>absurd e (by decide:¬(2:Int)=3),fun e=>absurd e (by decide:¬(2:Int)=5)⟩
 rename_i A;rw[aj A] at h0 z
 split
 ·rename_i I
  rw[aw I] at z
  exact⟨.inr (.inr (.inl rfl)),fun _=>(Av h z).2,fun e=>absurd e (by decide:¬(3:Int)=1),fun e=>absurd e (by decide:¬(3:Int)=2),fun e=>absurd e (by decide:¬(3:Int)=2),fun _=>B7,fun e=>absurd e (by decide:¬(3:Int)=5)⟩
 rename_i I;rw[aj I] at h0
 split
 ·rename_i J;rw[aw J] at h0
  cases U:jE s (i+1) [] with
  |none=>rw[U] at h0;exact absurd h0 (by decide:¬(2:Int)=0)
  |some x=>exact⟨.inr (.inr (.inr (.inl rfl))),fun e=>absurd rfl e,fun e=>absurd e (by decide:¬(4:Int)=1),fun e=>absurd e (by decide:¬(4:Int)=2),fun e=>absurd e (by decide:¬(4:Int)=2),fun e=>absurd e (by decide:¬(4:Int)=3),fun e=>absurd e (by decide:¬(4:Int)=5)⟩
 rename_i J;rw[aj J] at h0
 split
 ·rename_i K
  exact⟨.inr (.inr (.inr (.inr rfl))),fun _=>(Av h (fZ i)).2,fun e=>absurd e (by decide:¬(5:Int)=1),fun e=>absurd e (by decide:¬(5:Int)=2),fun e=>absurd e (by decide:¬(5:Int)=2),fun e=>absurd e (by decide:¬(5:Int)=3),fun _=>⟨c,Tq h,K⟩⟩
 rename_i K;rw[aj K] at h0;exact absurd h0 (by decide:¬(5:Int)=0)
def p8(x:Ih)(i n:Nat):VV:=.tuple [dI ((if x.err=5 then i+1 else if x.err=2 then n else x.stop:Nat):Int),dI x.kind,dS x.text,dB (!decide (x.err=2))]
open Go
set_option maxRecDepth 10000
theorem P9{T:bf}(F:FT T)(c:UInt8):Sound T 113 [.d (.i .u8 (c.toNat:Nat))] fun r=>r=dB (kG c):=by
 refine ep F.Y8 aa (ak 1 aa (ai (ae 3 aa (da (g:=aq) aa (fun z=>?_) (fun z=>?_)))))
 ·refine au aa (z) (bM aa ?_)
  refine au aa (z) (pL aa aa ?_)
  refine al (cU aa (z) aa ?_)
  refine ae 1 aa (af ?_)
  refine ax ?_
  exact bC rfl rfl (by refine congrArg (fun b=>VV.d (DC.b b)) ?_;rw[fS];unfold kG;simp at*;omega)
 refine aS aa (z) (aS aa (z) (al (cK aa (z) aa ?_)))
 refine ae 1 aa (af ?_)
 refine ax ?_
 exact bC rfl rfl (by refine congrArg (fun b=>VV.d (DC.b b)) ?_;rw[fS];unfold kG;simp at*;omega)
theorem Pd{T:bf}(F:FT T)(c:UInt8):Sound T 114 [.d (.i .u8 (c.toNat:Nat))] fun r=>r=dB (sQ c):=by
 refine ep F.Y9 aa (ak 1 aa (ai (ae 3 aa (da (g:=aq) aa (fun z=>?_) (fun z=>?_)))))
 ·refine au aa (z) (bM aa ?_)
  refine au aa (z) (pL aa aa ?_)
  refine al (cU aa (z) aa ?_)
  refine ae 1 aa (af ?_)
  refine ax ?_
  exact bC rfl rfl (by refine congrArg (fun b=>VV.d (DC.b b)) ?_;rw[fS];unfold sQ;simp at*;omega)
 refine aS aa (z) (aS aa (z) (al (cK aa (z) aa ?_)))
 refine ae 1 aa (af ?_)
 refine ax ?_
 exact bC rfl rfl (by refine congrArg (fun b=>VV.d (DC.b b)) ?_;rw[fS];unfold sQ;simp at*;omega)
theorem Ii{T:bf}(F:FT T)(c:UInt8):Sound T 116 [.d (.i .u8 (c.toNat:Nat))] fun r=>r=dB (gR c):=by
 refine ep F.Za aa (ak 1 aa (ai (ae 3 aa (da (g:=aq) aa (fun z=>?_) (fun z=>?_)))))
 ·refine au aa (z) (bM aa ?_)
  refine au aa (z) (pL aa aa ?_)
  refine al (cU aa (z) aa ?_)
  refine ae 1 aa (af ?_)
  refine ax ?_
  exact bC rfl rfl (by refine congrArg (fun b=>VV.d (DC.b b)) ?_;rw[fS];unfold gR;simp at*;omega)
 refine aS aa (z) (aS aa (z) (al (cK aa (z) aa ?_)))
 refine ae 1 aa (af ?_)
 refine ax ?_
 exact bC rfl rfl (by refine congrArg (fun b=>VV.d (DC.b b)) ?_;rw[fS];unfold gR;simp at*;omega)
theorem P'{T:bf}(F:FT T)(c:UInt8):Sound T 57 [.d (.i .u8 (c.toNat:Nat))] fun r=>r=dB (lR c):=by
 refine ep F.f57 aa (ak 1 aa (ai (ae 3 aa (da (g:=aq) aa (fun z=>?_) (fun z=>?_)))))
 ·refine aS aa (z) (aS aa (z) (al (cU aa (z) aa ?_)))
  refine ae 1 aa (aS aa aa (aS aa aa (ae 2 aa (aS aa aa (aS aa aa (ae 2 aa (af ?_)))))))
  refine ax ?_
  exact bC rfl rfl (by refine congrArg (fun b=>VV.d (DC.b b)) ?_;rw[fS];unfold lR;simp at*;omega)
 refine au aa (z) (bM aa ?_)
 refine au aa (z) (gZ aa aa ?_)
 refine al (cK aa (z) aa ?_)
 refine ae 1 aa (da (g:=aI) aa (fun A=>?_) (fun A=>?_))
 ·refine aS aa (A) (aS aa (A) (al (cU aa (A) aa ?_)))
  refine ae 1 aa (aS aa aa (aS aa aa (ae 2 aa (af ?_))))
  refine ax ?_
  exact bC rfl rfl (by refine congrArg (fun b=>VV.d (DC.b b)) ?_;rw[fS];unfold lR;simp at*;omega)
 refine au aa (A) (bM aa ?_)
 refine au aa (A) (gZ aa aa ?_)
 refine al (cK aa (A) aa ?_)
 refine ae 1 aa (da (g:=aR) aa (fun bJ=>?_) (fun bJ=>?_))
 ·refine aS aa (bJ) (aS aa (bJ) (al (cU aa (bJ) aa ?_)))
  refine ae 1 aa (af ?_)
  refine ax ?_
  exact bC rfl rfl (by refine congrArg (fun b=>VV.d (DC.b b)) ?_;rw[fS];unfold lR;simp at*;omega)
 refine au aa (bJ) (bM aa ?_)
 refine au aa (bJ) (gZ aa aa ?_)
 refine al (cK aa (bJ) aa ?_)
 refine ae 1 aa (af ?_)
 refine ax ?_
 exact bC rfl rfl (by refine congrArg (fun b=>VV.d (DC.b b)) ?_;rw[fS];unfold lR;simp at*;omega)
theorem inC{T:bf}(F:FT T)(c:UInt8):Sound T 115 [.d (.i .u8 (c.toNat:Nat))] fun r=>r=dB (iE c):=by
 refine ep F.Y' aa (ak 1 aa (ai (ae 1 aa (al (cQ (Pd F c) aa aa ?_)))))
 refine ae 1 aa (da (g:=aq) aa (fun z=>?_) (fun z=>?_))
 ·have G:iE c=true:=by unfold iE;rw[z];rfl
  refine aS aa (z) (aS aa (z) (al (cU aa (z) aa ?_)))
  refine ae 1 aa (aS aa aa (aS aa aa (ae 2 aa (af ?_))))
  refine ax ?_
  exact bC rfl rfl (by rw[G];rfl)
 refine au aa (z) (bM aa ?_)
 refine au aa (z) (cQ (Ii F c) aa aa ?_)
 refine al (cK aa (z) aa ?_)
 refine ae 1 aa (da (g:=aI) aa (fun A=>?_) (fun A=>?_))
 ·have G:iE c=true:=by unfold iE;rw[z,A];rfl
  refine aS aa (A) (aS aa (A) (al (cU aa (A) aa ?_)))
  refine ae 1 aa (af ?_)
  refine ax ?_
  exact bC rfl rfl (by rw[G];rfl)
 have G:iE c=decide (((c.toNat:Nat):Int)=Int.ofNat 95):=by unfold iE;rw[z,A,fS];simp;omega
 refine au aa (A) (bM aa ?_)
 refine au aa (A) (gZ aa aa ?_)
 refine al (cK aa (A) aa ?_)
 refine ae 1 aa (af ?_)
 refine ax ?_
 exact bC rfl rfl (by rw[G];rfl)
theorem AZ{T:bf}(F:FT T){f:Nat}{P:UInt8→Bool}(O:∀c:UInt8,Sound T f [.d (.i .u8 (c.toNat:Nat))] fun r=>r=dB (P c)){s:List UInt8}{i:Nat}(hi:i≤s.length)(Z:s.length≤4000):Sound T 56 [dS s,dI (i:Nat),.fn f []] fun r=>r=dI (runM P s i:Nat):=by
 refine ep F.f56 aa (ak 1 aa (aM (bN (d6 (fun k VE B=>∃j,j≤s.length∧k=s.length-j∧runM P s j=runM P s i∧bw [(0,dS s),(1,dI (j:Nat)),(2,.fn f []),(6,d0)] VE∧bw [] B) ?_ (k:=s.length-i) ⟨i,hi,aa,aa,⟨aa,aa,aa,aa,trivial⟩,trivial⟩))))
 rintro k VE B⟨j,hj,rfl,I,U,Y⟩
 refine dx _ _ U Y (aM (ai (ae 5 aa (da (g:=aQ) aa (fun z=>?_) (fun z=>?_)))))
 ·have J:j<s.length:=by simp at z;omega
  obtain⟨c,K⟩:=jH J
  refine au aa (z) (bM aa ?_)
  refine au aa (z) (bM aa ?_)
  refine au aa (z) (bM aa ?_)
  refine au aa (z) (fM aa aa K ?_)
  refine au aa (z) (VB (O c) aa aa aa ?_)
  refine al (cU aa (z) aa ?_)
  refine af (aK aa (fun A=>?_) (fun A=>?_))
  ·have G:=A
   refine aU (bN (bG (ae 1 aa ?_)))
   refine al (cX rfl rfl (by omega) ?_)
   refine ae 1 aa (af ?_)
   exact⟨s.length-(j+1),by omega,j+1,by omega,rfl,by rw[←qX K G,I],⟨rfl,rfl,rfl,rfl,trivial⟩,trivial⟩
  have G:=A
  rw[zY K G] at I
  refine dM (ak 2 aa (ax ?_))
  exact bC rfl rfl (by rw[I];rfl)
 rw[zZ (by simp at z;omega)] at I
 refine aS aa (z) (aS aa (z) (aS aa (z) (aS aa (z) (aS aa (z) (al (cK aa (z) aa ?_))))))
 refine af (eJ aa aa (dM (ak 2 aa (ax ?_))))
 exact bC rfl rfl (by rw[I];rfl)
theorem VM{T:bf}(F:FT T)(k p:Int)(t:List UInt8):Sound T 59 [.agg [dI k,dI p,dS t]] fun r=>r=dB (kJ k t):=by
 refine ep F.f59 aa (ak 2 aa (aM (ak 2 aa (bN (ak 2 aa (aK aa (fun G=>?_) (fun G=>?_)))))))
 ·have A:kJ k t=decide (t.length≤19):=aw (by simpa using G)
  refine ak 5 aa (ax ?_)
  exact bC rfl rfl (by refine congrArg (fun b=>VV.d (DC.b b)) ?_;rw[A,fS];simp;omega)
 refine ak 2 aa (aK aa (fun z=>?_) (fun z=>?_))
 ·have A:kJ k t=decide (t.length≤200):=by unfold kJ;rw[aj (by simpa using G),aw (by simpa using z)]
  refine ak 5 aa (ax ?_)
  exact bC rfl rfl (by refine congrArg (fun b=>VV.d (DC.b b)) ?_;rw[A,fS];simp;omega)
 have A:kJ k t=decide (t.length≤20):=by unfold kJ;rw[aj (by simpa using G),aj (by simpa using z)]
 refine aU (ak 5 aa (ax ?_))
 exact bC rfl rfl (by refine congrArg (fun b=>VV.d (DC.b b)) ?_;rw[A,fS];simp;omega)
open Go
set_option maxRecDepth 10000
theorem WJ{T:bf}(F:FT T)(X:FX T)(a:Bool)(b:List UInt8):bX T 140 [.vp 1001 0] (mU a 1001 1101 b) fun r Bn=>r= .tuple []∧Bn=mU true 1001 1101 b:=by
 refine cr F.Zm aa (ai ?_)
 cases a
 ·refine ae 4 aa (al (UI aa aa ?_))
  refine af (aK aa (fun z=>?_) (fun z=>?_))
  ·refine bG (ae 2 aa (al (Lu aa aa aa ?_)))
   refine al (UL X.aaZ X.aa0 aa ?_)
   refine al (Lu aa aa aa ?_)
   refine ae 3 aa (af ?_)
   exact⟨_,mU true 1001 1101 b,aa,⟨aa,aa,trivial⟩,aa,aa⟩
  exact absurd z (by decide)
 refine ae 4 aa (al (UJ aa aa ?_))
 refine af (aK aa (fun z=>?_) (fun z=>?_))
 ·exact absurd z (by decide)
 refine ai (ae 5 aa (al (UK aa aa ?_)))
 refine af (aK aa (fun ew=>?_) (fun ew=>?_))
 ·exact absurd ew (by decide)
 exact aU (⟨_,mU true 1001 1101 b,aa,⟨aa,aa,trivial⟩,aa,aa⟩)
theorem MZ{T:bf}(F:FT T)(X:FX T)(a:Bool)(b:List UInt8)(c:UInt8)(z:b.length≤100000):bX T 91 [.vp 1001 0,.d (.i .u8 (c.toNat:Nat))] (mU a 1001 1101 b) fun r Bn=>r= .k .gO∧Bn=mU true 1001 1101 (b++[c]):=by
 refine cr F.f91 aa (ak 1 aa (ai (ae 1 aa ?_)))
 refine al (jI (bZ:=[.vp 1001 0]) (Bi:=(mU a 1001 1101 b)) [(1001,1001),(1101,1101)] 2000 rfl rfl rfl (by cases a<;>rfl) rfl rfl rfl ⟨rfl,by cases a<;>rfl,rfl,rfl,trivial⟩ (WJ F X a b) (fun r Bn hp=>?_))
 obtain⟨rfl,rfl⟩:=hp
 refine ez [(1001,.one 151 32 [.vp 1001 0,.ac 1101 (b.map jY).length 1]),(1101,.acc 5 1 1 (b.map jY))] ⟨aa,aa,trivial⟩ (af (ai (ae 7 aa ?_)))
 refine al (ey (rows:=b.map jY) (ys:=[jY c]) rfl rfl rfl (.bs (rows:=[jY c]) rfl) (bW rfl) (by rw[bK,cC];simp only[dk,dO];omega) (fun h=>by rw[h];rfl) (fun h=>by rw[h];rfl) ?_)
 refine ae 3 aa (af ?_)
 refine ak 1 aa (ax (⟨_,mU true 1001 1101 (b++[c]),aa,?_,aa,aa⟩))
 unfold mU
 rw[dT]
 exact⟨aa,aa,trivial⟩
theorem Mj{T:bf}(F:FT T)(a:Bool)(b:List UInt8)(z:b.length≤100000):bX T 94 [.vp 1001 0] (mU a 1001 1101 b) fun r Bn=>r=dS b∧Bn=[]:=by
 refine cr F.f94 aa ?_
 unfold mU
 rw[cC]
 refine ak 1 aa (eX ?_)
 rcases Nat.eq_zero_or_pos b.length with h0|h0
 ·obtain rfl:=List.length_eq_zero_iff.1 h0
  refine bo 4 aa (dG (UM aa ?_))
  refine bo 4 aa (dG (zx aa ?_))
  refine eL aa (Tp aa aa ?_)
  refine bo 1 aa (dc ?_)
  exact ax (⟨_,[],aa,trivial,aa,aa⟩)
 refine bo 4 aa (dG (VL aa h0 ?_))
 refine bo 4 aa (dG (zx aa ?_))
 refine eL rfl (UN rfl rfl rfl h0 (by omega) ?_)
 refine bo 1 aa (dc ?_)
 exact ax (⟨_,[],aa,trivial,aa,aa⟩)
open Go
set_option maxRecDepth 10000
set_option maxHeartbeats 1000000 in
theorem WK{T:bf}(F:FT T)(X:FX T){s:List UInt8}{i:Nat}(hi:i<s.length)(hl:s.length≤4000):Sound T 117 [dS s,dI (i:Nat)] fun r=>r=aa6 (jE s (i+1) []):=by
 refine ep F.Zb aa (ak 3 aa (ai (ae 1 aa (mV 7 1 1108 5 1 1 aa aa aa (af (aM (ai (ae 1 aa ?_))))))))
 refine al (cX rfl rfl (by omega) ?_)
 refine ae 1 aa (af ?_)
 refine bN (d6 (fun k VE B=>∃(j:Nat)(a:Bool)(b:List UInt8),j≤s.length∧k=s.length-j∧jE s j b=jE s (i+1) []∧b.length≤j∧bw [(0,dS s),(1,dI (i:Nat)),(4,dS []),(5,d0),(6,d0),(7,.vp 7 0),(8,dI (j:Nat))] VE∧bw (mU a 7 1108 b) B) ?_ (k:=s.length-(i+1)) ⟨i+1,false,[],hi,aa,aa,df _,⟨aa,aa,aa,aa,aa,aa,aa,trivial⟩,aa,aa,trivial⟩)
 rintro k VE B⟨j,a,b,hj,rfl,G,A8,hV,hB⟩
 refine dx _ _ hV hB (aM (ak 4 aa (aK aa (fun I=>?_) (fun I=>?_))))
 ·have Y:j<s.length:=by simp at I;omega
  obtain⟨c,O⟩:=jH Y
  refine aU (aM (bN (aM (ai (ae 2 aa (al (fM aa aa O ?_)))))))
  refine ae 1 aa (af ?_)
  refine aK aa (fun J=>?_) (fun J=>?_)
  ·have hn:¬c=39:=by rintro rfl;simp at J
   refine ai (ae 2 aa (al (fM aa aa O ?_)))
   refine al (jI (bZ:=[.vp 1001 0,.d (.i .u8 (c.toNat:Nat))]) (Bi:=mU a 1001 1101 b) [(1001,7),(1101,1108)] 2000 rfl rfl rfl (by cases a<;>rfl) rfl rfl rfl ⟨rfl,by cases a<;>rfl,rfl,rfl,trivial⟩ (MZ F X a b c (by omega)) (fun r Bn hp=>?_))
   obtain⟨rfl,rfl⟩:=hp
   refine af (dM (bG (ae 1 aa ?_)))
   refine al (cX rfl rfl (by omega) ?_)
   refine ae 1 aa (af ?_)
   exact⟨s.length-(j+1),by omega,j+1,true,b++[c],by omega,rfl,by rw[←MX O hn,G],by simp only[bK,dk,dO];omega,⟨rfl,rfl,rfl,rfl,rfl,rfl,rfl,trivial⟩,rfl,rfl,trivial⟩
  obtain rfl:c=39:=rB 39 (by simp at J;omega) rfl
  refine aU (aM (ai (ae 1 aa ?_)))
  refine al (cX rfl rfl (by omega) ?_)
  refine ae 2 aa (al (gZ aa aa ?_))
  refine ae 1 aa (da (g:=ch) aa (fun z=>?_) (fun z=>?_))
  ·have Z:=CQ (b:=b) O (fun d U=>absurd (List.getElem?_eq_some_iff.1 U).1 (by simp at z;omega))
   rw[Z] at G
   refine aS aa (z) (aS aa (z) (aS aa (z) (aS aa (z) (aS aa (z) (al (cU aa (z) aa ?_))))))
   refine af (fe aa aa (ai ?_))
   refine al (jI (bZ:=[.vp 1001 0]) (Bi:=mU a 1001 1101 b) [(1001,7),(1101,1108)] 2000 rfl rfl rfl (by cases a<;>rfl) rfl rfl rfl ⟨rfl,by cases a<;>rfl,rfl,rfl,trivial⟩ (Mj F a b (by omega)) (fun r Bn hp=>?_))
   obtain⟨rfl,rfl⟩:=hp
   refine ae 1 aa ?_
   refine al (cX rfl rfl (by omega) ?_)
   refine ae 3 aa (af ?_)
   refine ax ?_
   exact bC rfl rfl (by rw[←G];rfl)
  obtain⟨d,A⟩:=jH (s:=s) (i:=j+1) (by simp at z;omega)
  refine au aa (z) (bM aa ?_)
  refine au aa (z) (bM aa ?_)
  refine au rfl (z) (cX rfl rfl (by omega) ?_)
  refine au aa (z) (fM aa aa A ?_)
  refine au aa (z) (iq aa aa ?_)
  refine al (cK aa (z) aa ?_)
  refine af (aK aa (fun K=>?_) (fun K=>?_))
  ·have Z:=CQ (b:=b) O (fun d2 U=>by(rw[A] at U;cases U;rintro rfl;simp at K))
   rw[Z] at G
   refine ai ?_
   refine al (jI (bZ:=[.vp 1001 0]) (Bi:=mU a 1001 1101 b) [(1001,7),(1101,1108)] 2000 rfl rfl rfl (by cases a<;>rfl) rfl rfl rfl ⟨rfl,by cases a<;>rfl,rfl,rfl,trivial⟩ (Mj F a b (by omega)) (fun r Bn hp=>?_))
   obtain⟨rfl,rfl⟩:=hp
   refine ae 1 aa ?_
   refine al (cX rfl rfl (by omega) ?_)
   refine ae 3 aa (af ?_)
   refine ax ?_
   exact bC rfl rfl (by rw[←G];rfl)
  obtain rfl:d=39:=rB 39 (by simp at K;omega) rfl
  have Qa:=(List.getElem?_eq_some_iff.1 A).1
  refine aU (ai ?_)
  refine al (jI (bZ:=[.vp 1001 0,.d (.i .u8 ((39:UInt8).toNat:Nat))]) (Bi:=mU a 1001 1101 b) [(1001,7),(1101,1108)] 2000 rfl rfl rfl (by cases a<;>rfl) rfl rfl rfl ⟨rfl,by cases a<;>rfl,rfl,rfl,trivial⟩ (MZ F X a b 39 (by omega)) (fun r Bn hp=>?_))
  obtain⟨rfl,rfl⟩:=hp
  refine af (bG (ae 1 aa ?_))
  refine al (cX rfl rfl (by omega) ?_)
  refine ae 1 aa (af ?_)
  refine bG (ae 1 aa ?_)
  refine al (cX rfl rfl (by omega) ?_)
  refine ae 1 aa (af ?_)
  exact⟨s.length-(j+1+1),by omega,j+1+1,true,b++[39],by omega,rfl,by rw[←Mi O A,G],by simp only[bK,dk,dO];omega,⟨rfl,rfl,rfl,rfl,rfl,rfl,rfl,trivial⟩,rfl,rfl,trivial⟩
 rw[MY (by simp at I;omega)] at G
 refine dM (ak 3 aa (ax ?_))
 exact bC rfl rfl (by rw[←G];rfl)
end Go.Ev.Pp
