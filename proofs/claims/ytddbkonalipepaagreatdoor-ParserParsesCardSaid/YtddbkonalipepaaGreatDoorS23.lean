/- Part 23 of rules for walks through the code of a program, and of such walks; what each part proves is said by its theorems. -/
import Derived.Test.YtddbkonalipepaaGreatDoorS22
set_option linter.unusedVariables false
set_option linter.unusedSimpArgs false
namespace Go.Ev.Pp
open Go
set_option maxRecDepth 10000
theorem MJ{T:bf}(F:FT T)(X:FX T)(s:List UInt8)(c:UInt8):Sound T 139 [dS s,.d (.i .u8 (c.toNat:Nat))] fun r=>r=dI (eF c s):=by
 refine eo F.YV aa (ak 1 aa (ai (ae 2 aa (al (cO (QK X s c) aa aa ?_)))))
 refine ae 1 aa (af ?_)
 exact ax (bB aa aa aa)
theorem L7{T:bf}(F:FT T)(X:FX T)(s:List UInt8)(c:UInt8):Sound T 88 [dS s,.d (.i .u8 (c.toNat:Nat))] fun r=>r=dI (eF c s):=by
 refine eo F.f88 aa (ak 1 aa (ai (ae 2 aa (al (cO (MJ F X s c) aa aa ?_)))))
 refine ae 1 aa (af ?_)
 exact ax (bB aa aa aa)
theorem N9{T:bf}(F:FT T)(s p:List UInt8):Sound T 240 [dS s,dS p] fun r=>r=dB (preB s p):=by
 refine eo F.ZP aa (ak 1 aa (ai (ae 6 aa (cX (g:=aP) aa (fun z=>?_) (fun z=>?_)))))
 ·have A:preB s p=decide ((s.drop 0).take (p.length-0)=p):=by unfold preB;rw[show decide (p.length≤s.length)=true by simp at z⊢;omega];rfl
  refine ao aa (z) (bM aa ?_)
  refine ao aa (z) (bM aa ?_)
  refine ao aa (z) (vh aa ?_)
  refine ao rfl (z) (j0 (l:=0) (h:=p.length) rfl ⟨_,rfl⟩ rfl (by omega) (by simp at z;omega) ?_)
  refine ao aa (z) (bM aa ?_)
  refine ao aa (z) (oj aa aa ?_)
  refine al (cS aa (z) aa ?_)
  refine ae 1 aa (af ?_)
  refine ax ?_
  exact bB rfl rfl (by rw[A];rfl)
 have A:preB s p=false:=by unfold preB;rw[show decide (p.length≤s.length)=false by simp at z⊢;omega];rfl
 refine aO aa (z) (aO aa (z) (aO aa (z) (aO aa (z) (aO aa (z) (aO aa (z) (al (cI aa (z) aa ?_)))))))
 refine ae 1 aa (af ?_)
 refine ax ?_
 exact bB rfl rfl (by rw[A];rfl)
theorem Vm{T:bf}(F:FT T)(s p:List UInt8):Sound T 213 [dS s,dS p] fun r=>r=dB (preB s p):=by
 refine eo F.ZE aa (ak 1 aa (ai (ae 2 aa (al (cO (N9 F s p) aa aa ?_)))))
 refine ae 1 aa (af ?_)
 exact ax (bB aa aa aa)
theorem Wm{T:bf}(F:FT T)(s p:List UInt8):Sound T 238 [dS s,dS p] fun r=>r= .tuple [dS (if preB s p=true then s.drop p.length else s),dB (preB s p)]:=by
 refine eo F.ZN aa (ak 2 aa (aM (ai (ae 2 aa (al (cO (N9 F s p) aa aa ?_))))))
 refine ae 1 aa (af ?_)
 refine aJ aa (fun z=>?_) (fun z=>?_)
 ·have hp:preB s p=false:=by simpa using z
  refine ak 3 aa (ax ?_)
  exact bB rfl rfl (by rw[hp];rfl)
 have hp:preB s p=true:=by simpa using z
 have A:p.length≤s.length:=by unfold preB at hp;simp at hp;exact hp.1
 refine aT (ai (ae 3 aa (al (j0 (l:=p.length) (h:=s.length) aa aa ⟨_,aa⟩ A (bY _) ?_))))
 rw[show(s.drop p.length).take (s.length-p.length)=s.drop p.length from qq (by rw[iL];omega)]
 refine ae 2 aa (af ?_)
 refine ax ?_
 exact bB rfl rfl (by rw[hp];rfl)
theorem Vn{T:bf}(F:FT T)(s p:List UInt8):Sound T 211 [dS s,dS p] fun r=>r= .tuple [dS (if preB s p=true then s.drop p.length else s),dB (preB s p)]:=by
 refine eo F.ZC aa (ak 2 aa (ai (ae 2 aa (al (cO (Wm F s p) aa aa ?_)))))
 refine ae 4 aa (af ?_)
 exact ax (bB aa aa aa)
theorem Vo{T:bf}(F:FT T)(X:FX T)(s:List UInt8)(c:UInt8):Sound T 203 [dS s,dS [c]] fun r=>r=dI (eF c s):=by
 refine eo F.Zw aa (ak 1 aa (ak 3 aa (aM (bN (ai (ae 3 aa (ao aa aa (bM aa ?_))))))))
 refine ao aa aa (bM aa ?_)
 refine ao aa aa (oj aa aa ?_)
 refine ae 2 aa (af ?_)
 refine aJ aa (fun z=>?_) (fun z=>?_)
 ·have A:s=[c]:=(by simpa using z:[c]=s).symm
  have G:eF c s=0:=by rw[A];exact aq rfl
  refine ak 1 aa (ax ?_)
  exact bB rfl rfl (by rw[G];rfl)
 refine ak 3 aa (e7 aa aa (ai (ae 2 aa (al (fH (j:=0) (c:=c) aa aa aa ?_)))))
 refine al (cO (MJ F X s c) aa aa ?_)
 refine ae 1 aa (af ?_)
 exact ax (bB aa aa aa)
theorem aad{T:bf}(F:FT T)(X:FX T)(s:List UInt8)(c:UInt8)(I:s.length<1000000):Sound T 239 [dS s,dS [c]] fun r=>r= .tuple [dS (eL s c).1,dS (eL s c).2.1,dB (eL s c).2.2]:=by
 refine eo F.ZO aa (ak 3 aa (aM (ai (ae 2 aa (al (cO (Vo F X s c) aa aa ?_))))))
 refine ae 1 aa (af ?_)
 refine ak 2 aa (aJ aa (fun z=>?_) (fun z=>?_))
 ·obtain⟨k,hk⟩:∃k:Nat,eF c s=(k:Int):=⟨(eF c s).toNat,by simp at z;omega⟩
  have G:=L3 c s
  rw[hk] at G
  have A:eL s c=(s.take k,s.drop (k+1),true):=by unfold eL;rw[hk,aq (by omega),Ei]
  rw[hk]
  refine eU (bm 2 aa ?_)
  refine dE (j0 (l:=0) (h:=k) rfl ⟨_,rfl⟩ rfl (by omega) (by omega) ?_)
  refine bm 4 aa ?_
  refine dE (jL rfl rfl (by show _≤(k:Int)+Int.ofNat 1;simp only[aZ];omega) (by show(k:Int)+Int.ofNat 1≤_;simp only[aZ];omega) ?_)
  refine dE (j0 (l:=k+1) (h:=s.length) rfl rfl ⟨_,rfl⟩ (by omega) (by omega) ?_)
  rw[show(s.drop (k+1)).take (s.length-(k+1))=s.drop (k+1) from qq (by rw[iL];omega)]
  refine bm 3 aa (da ?_)
  refine ax ?_
  exact bB rfl rfl (by rw[A];rfl)
 have A:eL s c=(s,[],false):=by unfold eL;rw[aj (by simp at z;omega)]
 refine aT (ak 4 aa (ax ?_))
 exact bB rfl rfl (by rw[A];rfl)
theorem Wo{T:bf}(F:FT T)(X:FX T)(s:List UInt8)(c:UInt8)(z:s.length<1000000):Sound T 212 [dS s,dS [c]] fun r=>r= .tuple [dS (eL s c).1,dS (eL s c).2.1,dB (eL s c).2.2]:=by
 refine eo F.ZD aa (ak 3 aa (ai (ae 2 aa (al (cO (aad F X s c z) aa aa ?_)))))
 refine ae 6 aa (af ?_)
 exact ax (bB aa aa aa)
theorem aae{T:bf}(F:FT T)(s:List UInt8)(c:UInt8)(Z:s.length<1000000):Sound T 205 [dS s,.d (.i .u8 (c.toNat:Nat))] fun r=>r=dB (decide (c∈s)):=by
 refine eo F.Zx aa (ak 1 aa (aM (ak 1 aa (bN ?_))))
 refine d7 (fun k VE B=>∃i,i≤s.length∧k=s.length-i∧(∀x,x∈s.take i→x≠c)∧bu [(0,dS s),(1,.d (.i .u8 (c.toNat:Nat))),(4,dB false),(5,dI (i:Nat))] VE∧bu [] B) ?_ (k:=s.length) ⟨0,dh _,rfl,fun _ h=>(by cases h),⟨rfl,rfl,rfl,rfl,trivial⟩,trivial⟩
 rintro k VE B⟨i,hi,rfl,G,U,Y⟩
 refine dy _ _ U Y (aM (ak 4 aa (aJ aa (fun I=>?_) (fun I=>?_))))
 ·have J:i<s.length:=by simp at I;omega
  obtain⟨b,K⟩:=jH J
  refine aT (aM (bN (ai (ae 2 aa (al (fH aa aa K ?_))))))
  refine ae 1 aa (al (hH aa aa ?_))
  refine af (aJ aa (fun z=>?_) (fun z=>?_))
  ·have O:decide (c∈s)=true:=by(obtain rfl:b=c:=UInt8.toNat_inj.1 (by simp at z;omega));simpa using lW K
   refine ak 1 aa (ax ?_)
   exact bB rfl rfl (by rw[O];rfl)
  refine aT (bG (ae 1 aa ?_))
  refine al (cV rfl rfl (by omega) ?_)
  refine ae 1 aa (af ?_)
  exact⟨s.length-(i+1),by omega,i+1,by omega,rfl,fun x A=>by(rw[take_succ K] at A;rcases List.mem_append.1 A with A|A;exact G x A;rcases List.mem_singleton.1 A with rfl;exact fun e=>absurd z (by rw[e];simp)),⟨rfl,rfl,rfl,rfl,trivial⟩,trivial⟩
 have O:decide (c∈s)=false:=by(have:i=s.length:=by simp at I;omega);subst this;rw[G0] at G;simpa using fun k=>G c k rfl
 refine dM (ak 1 aa (ax ?_))
 exact bB rfl rfl (by rw[O];rfl)
open Go
set_option maxRecDepth 10000
theorem L8(s:List UInt8):(eL (s.drop 1) 44).2.1.length≤s.length:=by
 unfold eL;split
 ·simp only[iL];omega
 exact dh _
set_option maxHeartbeats 2000000 in
theorem aaf{T:bf}(F:FT T)(X:FX T)(s:List UInt8)(hs:s.length<1000000):Sound T 184 [dS s] fun r=>r=lh (lL s):=by
 refine eo F.Zn aa (ak 2 aa (ai (ae 1 aa (al (cO (Vn F s [91]) aa aa ?_)))))
 refine ae 5 aa (af ?_)
 refine aM (ak 2 aa (aJ aa (fun I=>?_) (fun I=>?_)))
 ·have G:lL s=((0,0),5):=aj (fun k=>by rw[k.1] at I;cases I)
  refine ak 3 aa (ax ?_)
  exact bB rfl rfl (by unfold lh;rw[G];rfl)
 have hp:preB s [91]=true:=by simpa using I
 rw[aq hp]
 rw[show s.drop [(91:UInt8)].length=s.drop 1 from rfl]
 refine aT (ai (ae 1 aa ?_))
 refine al (cO (Wo F X (s.drop 1) 44 (by rw[iL];omega)) rfl rfl ?_)
 refine ae 7 aa (af ?_)
 refine aM (ai (ae 3 aa (cX (g:=bX) aa (fun dn=>?_) (fun dn=>?_))))
 ·have G:lL s=((0,0),5):=aj (fun k=>by rw[k.2.1] at dn;cases dn)
  refine aO aa (dn) (aO aa (dn) (aO aa (dn) (al (cS aa (dn) aa ?_))))
  refine ae 1 aa (aO aa aa (aO aa aa (aO aa aa (aO aa aa (aO aa aa (aO aa aa (ae 1 aa (af ?_))))))))
  refine e7 aa aa (ak 3 aa (ax ?_))
  exact bB rfl rfl (by unfold lh;rw[G];rfl)
 refine ao aa (dn) (bM aa ?_)
 refine ao aa (dn) (cO (Vm F (eL (s.drop 1) 44).2.1 [32]) aa aa ?_)
 refine ao aa (dn) (jv aa ?_)
 refine al (cI aa (dn) aa ?_)
 refine ae 1 aa (cX (g:=cq) aa (fun z=>?_) (fun z=>?_))
 ·have G:lL s=((0,0),5):=aj (fun k=>by rw[k.2.2.1] at z;cases z)
  refine aO aa (z) (aO aa (z) (aO aa (z) (aO aa (z) (aO aa (z) (aO aa (z) (al (cS aa (z) aa ?_)))))))
  refine af (e7 aa aa (ak 3 aa (ax ?_)))
  exact bB rfl rfl (by unfold lh;rw[G];rfl)
 refine ao aa (z) (bM aa ?_)
 refine ao aa (z) (cO (L7 F X (eL (s.drop 1) 44).2.1 41) aa aa ?_)
 refine ao aa (z) (bM aa ?_)
 refine ao aa (z) (vh aa ?_)
 refine ao rfl (z) (gi rfl rfl (by simp only[aZ];omega) (by have:=L8 s;simp only[aZ];omega) ?_)
 refine ao aa (z) (iu aa aa ?_)
 refine al (cI aa (z) aa ?_)
 refine af (aJ aa (fun J=>?_) (fun J=>?_))
 ·have G:lL s=((0,0),5):=aj (fun k=>by(simp only[HK,fq] at J;exact J k.2.2.2))
  refine ak 3 aa (ax ?_)
  exact bB rfl rfl (by unfold lh;rw[G];rfl)
 have hg:As (eL (s.drop 1) 44).2.1:=⟨by simpa using z,by simpa using J⟩
 have G:lL s=l6 (fc (eL (s.drop 1) 44).1) (fc (((eL (s.drop 1) 44).2.1.drop 1).take ((eL (s.drop 1) 44).2.1.length-1-1))):=aq ⟨hp,by simpa using dn,hg⟩
 have PH:=KA hg
 refine aT (ai (ae 1 aa (al (cO (H5 F _) aa aa ?_))))
 refine ae 5 aa (af ?_)
 refine aM (ak 2 aa (aJ aa (fun K=>?_) (fun K=>?_)))
 ·have A:l6 (fc (eL (s.drop 1) 44).1) (fc (((eL (s.drop 1) 44).2.1.drop 1).take ((eL (s.drop 1) 44).2.1.length-1-1)))=((0,0),(fc (eL (s.drop 1) 44).1).2):=aq (by simpa using K)
  refine ak 4 aa (ax ?_)
  exact bB rfl rfl (by unfold lh;rw[G,A];rfl)
 have O:¬¬(fc (eL (s.drop 1) 44).1).2=0:=by simpa using K
 refine aT (ai (ae 3 aa ?_))
 refine al (gi rfl rfl (by simp only[aZ];omega) (by have:=L8 s;simp only[aZ];omega) ?_)
 rw[show(((eL (s.drop 1) 44).2.1.length:Nat):Int) -Int.ofNat 1=(((eL (s.drop 1) 44).2.1.length-1:Nat):Int) by simp only[aZ];omega]
 refine al (j0 (l:=1) (h:=(eL (s.drop 1) 44).2.1.length-1) rfl ⟨_,rfl⟩ ⟨_,rfl⟩ (by omega) (by omega) ?_)
 refine al (cO (H5 F _) aa aa ?_)
 refine ae 5 aa (af ?_)
 refine aM (ak 2 aa (aJ aa (fun U=>?_) (fun U=>?_)))
 ·have A:l6 (fc (eL (s.drop 1) 44).1) (fc (((eL (s.drop 1) 44).2.1.drop 1).take ((eL (s.drop 1) 44).2.1.length-1-1)))=((0,0),(fc (((eL (s.drop 1) 44).2.1.drop 1).take ((eL (s.drop 1) 44).2.1.length-1-1))).2):=by unfold l6;rw[aj O,aq (by simpa using U)]
  refine ak 4 aa (ax ?_)
  exact bB rfl rfl (by unfold lh;rw[G,A];rfl)
 have Z:¬¬(fc (((eL (s.drop 1) 44).2.1.drop 1).take ((eL (s.drop 1) 44).2.1.length-1-1))).2=0:=by simpa using U
 refine aT (aM (ak 3 aa (aJ aa (fun Y=>?_) (fun Y=>?_))))
 ·have A:l6 (fc (eL (s.drop 1) 44).1) (fc (((eL (s.drop 1) 44).2.1.drop 1).take ((eL (s.drop 1) 44).2.1.length-1-1)))=((0,0),10):=by unfold l6;rw[aj O,aj Z,aq (by simpa using Y)]
  refine ak 3 aa (ax ?_)
  exact bB rfl rfl (by unfold lh;rw[G,A];rfl)
 have A:l6 (fc (eL (s.drop 1) 44).1) (fc (((eL (s.drop 1) 44).2.1.drop 1).take ((eL (s.drop 1) 44).2.1.length-1-1)))=(((fc (eL (s.drop 1) 44).1).1,(fc (((eL (s.drop 1) 44).2.1.drop 1).take ((eL (s.drop 1) 44).2.1.length-1-1))).1),0):=by unfold l6;rw[aj O,aj Z,aj (by simpa using Y)]
 refine aT (ak 5 aa (ax ?_))
 exact bB rfl rfl (by unfold lh;rw[G,A];rfl)
set_option maxHeartbeats 2000000 in
theorem Wp{T:bf}(F:FT T)(s:List UInt8)(hs:s.length<1000000):Sound T 170 [dS s] fun r=>r=lh (lL s):=by
 refine eo F.Zb aa (ak 2 aa (aM (ai (ae 4 aa (cX (g:=aV) aa (fun bI=>?_) (fun bI=>?_))))))
 ·have J:lL s=((0,0),5):=GB (.inl (by simp at bI;omega))
  refine aO aa (bI) (aO aa (bI) (aO aa (bI) (al (cS aa (bI) aa ?_))))
  refine ae 1 aa (aO aa aa (aO aa aa (aO aa aa (aO aa aa (aO aa aa (aO aa aa (ae 1 aa (af ?_))))))))
  refine e7 aa aa (ak 3 aa (ax ?_))
  exact bB rfl rfl (by unfold lh;rw[J];rfl)
 have hl4:4≤s.length:=by simp at bI;omega
 obtain⟨a,h0⟩:=jH (s:=s) (i:=0) (by omega)
 obtain⟨b,h1⟩:=jH (s:=s) (i:=s.length-1) (by omega)
 have Bk:(du s).length=s.length-2:=by unfold du;rw[ng,iL];omega
 refine ao aa (bI) (bM aa ?_)
 refine ao aa (bI) (fH aa aa h0 ?_)
 refine ao aa (bI) (iu aa aa ?_)
 refine al (cI aa (bI) aa ?_)
 refine ae 1 aa (cX (g:=bj) aa (fun z=>?_) (fun z=>?_))
 ·have J:lL s=((0,0),5):=GB (.inr (.inl fun k=>by(have h:=vO (h0.symm.trans k);subst h;simp at z)))
  refine aO aa (z) (aO aa (z) (aO aa (z) (aO aa (z) (aO aa (z) (aO aa (z) (al (cS aa (z) aa ?_)))))))
  refine af (e7 aa aa (ak 3 aa (ax ?_)))
  exact bB rfl rfl (by unfold lh;rw[J];rfl)
 refine ao aa (z) (bM aa ?_)
 refine ao aa (z) (bM aa ?_)
 refine ao aa (z) (vh aa ?_)
 refine ao rfl (z) (gi rfl rfl (by simp only[aZ];omega) (by simp only[aZ];omega) ?_)
 rw[show((s.length:Nat):Int) -Int.ofNat 1=((s.length-1:Nat):Int) by simp only[aZ];omega]
 refine ao aa (z) (fH aa aa h1 ?_)
 refine ao aa (z) (iu aa aa ?_)
 refine al (cI aa (z) aa ?_)
 refine af (aJ aa (fun U=>?_) (fun U=>?_))
 ·have J:lL s=((0,0),5):=GB (.inr (.inr fun k=>by(have h:=vO (h1.symm.trans k);subst h;simp at U)))
  refine ak 3 aa (ax ?_)
  exact bB rfl rfl (by unfold lh;rw[J];rfl)
 obtain rfl:a=91:=rm 91 (by simp at z;omega) rfl
 obtain rfl:b=41:=rm 41 (by simp at U;omega) rfl
 have O:=Vl hl4 h0 h1
 refine aT (ai (ae 3 aa ?_))
 refine al (gi rfl rfl (by simp only[aZ];omega) (by simp only[aZ];omega) ?_)
 rw[show((s.length:Nat):Int) -Int.ofNat 1=((s.length-1:Nat):Int) by simp only[aZ];omega]
 refine al (j0 (l:=1) (h:=s.length-1) rfl ⟨_,rfl⟩ ⟨_,rfl⟩ (by omega) (by omega) ?_)
 rw[show(s.drop 1).take (s.length-1-1)=du s from rfl]
 refine ae 1 aa (af ?_)
 refine ak 1 aa (zV (fun VE B=>∃k:Nat,k≤(du s).length∧(∀j x,j<k→(du s)[j]?=some x→x≠44)∧(k<(du s).length→(du s)[k]?=some 44)∧bu [(0,dS s),(2,.vp 2 0),(3,d0),(4,dS (du s)),(5,dI (k:Nat))] VE∧bu [(2,.one 30 16 [d0,d0])] B) ?_ ?_)
 ·rintro VE B⟨k,hk,hn,hc,hV,hB⟩
  refine dy _ _ hV hB (aM (ai (ae 1 aa ?_)))
  refine al (cV rfl rfl (by omega) ?_)
  refine ae 4 aa (cX (g:=d9) aa (fun A=>?_) (fun A=>?_))
  ·have J:lL s=((0,0),5):=GA O hk hn hc (.inl (by simp at A;omega))
   refine aO aa (A) (aO aa (A) (aO aa (A) (aO aa (A) (aO aa (A) (al (cS aa (A) aa ?_))))))
   refine ae 1 aa (aO aa aa (aO aa aa (aO aa aa (aO aa aa (aO aa aa (ae 1 aa (af ?_)))))))
   refine e7 aa aa (ak 3 aa (ax ?_))
   exact bB rfl rfl (by unfold lh;rw[J];rfl)
  have PU:k+1<(du s).length:=by simp at A;omega
  obtain⟨c,Y⟩:=jH PU
  refine ao aa (A) (bM aa ?_)
  refine ao aa (A) (bM aa ?_)
  refine ao rfl (A) (cV rfl rfl (by omega) ?_)
  refine ao aa (A) (fH aa aa Y ?_)
  refine ao aa (A) (iu aa aa ?_)
  refine al (cI aa (A) aa ?_)
  refine ae 1 aa (cX (g:=eR) aa (fun G=>?_) (fun G=>?_))
  ·have J:lL s=((0,0),5):=GA O hk hn hc (.inr (.inl fun h=>by(have h:=vO (Y.symm.trans h);subst h;simp at G)))
   refine aO aa (G) (aO aa (G) (aO aa (G) (aO aa (G) (aO aa (G) (al (cS aa (G) aa ?_))))))
   refine af (e7 aa aa (ak 3 aa (ax ?_)))
   exact bB rfl rfl (by unfold lh;rw[J];rfl)
  refine ao aa (G) (bM aa ?_)
  refine ao aa (G) (bM aa ?_)
  refine ao rfl (G) (jL rfl rfl (by simp only[aZ];omega) (by simp only[aZ];omega) ?_)
  rw[show((k:Nat):Int)+Int.ofNat 2=((k+2:Nat):Int) from rfl]
  refine ao rfl (G) (j0 (l:=k+2) (h:=(du s).length) rfl rfl ⟨_,rfl⟩ (by omega) (by omega) ?_)
  rw[show((du s).drop (k+2)).take ((du s).length-(k+2))=(du s).drop (k+2) from qq (by rw[iL];omega)]
  refine ao rfl (G) (cO (aae F ((du s).drop (k+2)) 41 (by rw[iL];omega)) rfl rfl ?_)
  refine al (cI aa (G) aa ?_)
  refine af (aJ aa (fun Z=>?_) (fun Z=>?_))
  ·have J:lL s=((0,0),5):=GA O hk hn hc (.inr (.inr ⟨41,by simpa using Z,rfl⟩))
   refine ak 3 aa (ax ?_)
   exact bB rfl rfl (by unfold lh;rw[J];rfl)
  obtain rfl:c=32:=rm 32 (by simp at G;omega) rfl
  have J:lL s=l6 (fc ((du s).take k)) (fc ((du s).drop (k+2))):=Un O PU hn (hc (by omega)) Y (fun x hx e=>by(subst e;simp[hx] at Z))
  refine aT (ai (ae 2 aa ?_))
  refine al (j0 (l:=0) (h:=k) rfl ⟨_,rfl⟩ rfl (by omega) (by omega) ?_)
  rw[show((du s).drop 0).take (k-0)=(du s).take k from rfl]
  refine al (cO (Hu F _) aa aa ?_)
  refine ae 5 aa (af ?_)
  refine aM (ak 2 aa (aJ aa (fun IT=>?_) (fun IT=>?_)))
  ·have K:l6 (fc ((du s).take k)) (fc ((du s).drop (k+2)))=((0,0),(fc ((du s).take k)).2):=aq (by simpa using IT)
   refine ak 4 aa (ax ?_)
   exact bB rfl rfl (by unfold lh;rw[J,K];rfl)
  have uX:¬¬(fc ((du s).take k)).2=0:=by simpa using IT
  refine aT (ai (ae 2 aa ?_))
  refine al (jL rfl rfl (by simp only[aZ];omega) (by simp only[aZ];omega) ?_)
  rw[show((k:Nat):Int)+Int.ofNat 2=((k+2:Nat):Int) from rfl]
  refine al (j0 (l:=k+2) (h:=(du s).length) rfl rfl ⟨_,rfl⟩ (by omega) (by omega) ?_)
  rw[show((du s).drop (k+2)).take ((du s).length-(k+2))=(du s).drop (k+2) from qq (by rw[iL];omega)]
  refine al (cO (Hu F _) aa aa ?_)
  refine ae 5 aa (af ?_)
  refine aM (ak 2 aa (aJ aa (fun IU=>?_) (fun IU=>?_)))
  ·have K:l6 (fc ((du s).take k)) (fc ((du s).drop (k+2)))=((0,0),(fc ((du s).drop (k+2))).2):=by unfold l6;rw[aj uX,aq (by simpa using IU)]
   refine ak 4 aa (ax ?_)
   exact bB rfl rfl (by unfold lh;rw[J,K];rfl)
  have E6:¬¬(fc ((du s).drop (k+2))).2=0:=by simpa using IU
  refine aT (aM (ak 3 aa (aJ aa (fun IV=>?_) (fun IV=>?_))))
  ·have K:l6 (fc ((du s).take k)) (fc ((du s).drop (k+2)))=((0,0),10):=by unfold l6;rw[aj uX,aj E6,aq (by simpa using IV)]
   refine ak 3 aa (ax ?_)
   exact bB rfl rfl (by unfold lh;rw[J,K];rfl)
  have K:l6 (fc ((du s).take k)) (fc ((du s).drop (k+2)))=(((fc ((du s).take k)).1,(fc ((du s).drop (k+2))).1),0):=by unfold l6;rw[aj uX,aj E6,aj (by simpa using IV)]
  refine aT (ak 5 aa (ax ?_))
  exact bB rfl rfl (by unfold lh;rw[J,K];rfl)
 refine bN (d7 (fun m VE B=>∃i,i≤(du s).length∧m=(du s).length-i∧(∀j x,j<i→(du s)[j]?=some x→x≠44)∧bu [(0,dS s),(2,.vp 2 0),(3,d0),(4,dS (du s)),(5,dI (i:Nat))] VE∧bu [(2,.one 30 16 [d0,d0])] B) ?_ (k:=(du s).length) ⟨0,dh _,aa,fun _ _ h=>absurd h (G1 _),⟨aa,aa,aa,aa,aa,trivial⟩,aa,trivial⟩)
 rintro m VE B⟨i,hi,rfl,hd,hV,hB⟩
 refine dy _ _ hV hB (aM (ai (ae 5 aa (cX (g:=c8) aa (fun I=>?_) (fun I=>?_)))))
 ·have aag:i<(du s).length:=by simp at I;omega
  obtain⟨c,yO⟩:=jH aag
  refine ao aa (I) (bM aa ?_)
  refine ao aa (I) (bM aa ?_)
  refine ao aa (I) (fH aa aa yO ?_)
  refine ao aa (I) (iu aa aa ?_)
  refine al (cS aa (I) aa ?_)
  refine af (aJ aa (fun vc=>?_) (fun vc=>?_))
  ·refine aT (bN (bG (ae 1 aa ?_)))
   refine al (cV rfl rfl (by omega) ?_)
   refine ae 1 aa (af ?_)
   exact⟨(du s).length-(i+1),by omega,i+1,by omega,rfl,fun j x hj hx=>by(rcases Nat.lt_succ_iff_lt_or_eq.1 hj with k|rfl;exact hd j x k hx;rw[yO] at hx;cases hx;exact fun e=>by(subst e;simp at vc)),⟨rfl,rfl,rfl,rfl,rfl,trivial⟩,rfl,trivial⟩
  refine dM ?_
  exact⟨i,hi,hd,fun _=>by(rw[yO];exact congrArg some (rm 44 (by simp at vc;omega) rfl)),⟨rfl,rfl,rfl,rfl,rfl,trivial⟩,rfl,trivial⟩
 have he:i=(du s).length:=by simp at I;omega
 refine aO aa (I) (aO aa (I) (aO aa (I) (aO aa (I) (al (cI aa (I) aa ?_)))))
 refine af (eI aa aa (dM ?_))
 exact⟨i,hi,hd,fun h=>by omega,⟨rfl,rfl,rfl,rfl,rfl,trivial⟩,rfl,trivial⟩
open Go
set_option maxRecDepth 10000
variable{s:List UInt8}
def sE(neg:Bool)(s:List UInt8):Option Int:=if(dV s:Int)<9223372036854775808∨(neg=true∧(dV s:Int)=9223372036854775808) then some (if neg=true then-(dV s:Int) else(dV s:Int)) else none
def rb:Rd:=⟨fc,lL,sE⟩
theorem KB:∀(s:List UInt8)(acc:Nat),(∀c,c∈s→48≤c.toNat∧c.toNat≤57)→(acc+1)*10^s.length≤10^19→Lib.parseUintM (2^64-1) acc s= .ok (s.foldl (fun n c=>n*10+(c.toNat-48)) acc)
 |[],_,_,_=>rfl
 |c::r,acc,h,z=>by
  have A:=h c lF
  rw[dj,yb] at z
  have hp:0<10^r.length:=Nat.pow_pos (by decide)
  have I:(acc+1)*10≤10^19:=kb (by rw[mI (10^r.length) 10,←Av];exact HE _ hp) z
  show(if 48≤c.toNat∧c.toNat≤57 then if 1844674407370955162≤acc then Lib.NumEnd.range else if 2^64-1<acc*10+(c.toNat-48) then .range else Lib.parseUintM (2^64-1) (acc*10+(c.toNat-48)) r else _)=_
  rw[aq A,aj (by omega),aj (by omega)]
  exact KB r _ (fun x G=>h x (o0 _ G)) (kb (by
   rw[mI (10^r.length) 10,←Av]
   exact kN _ (by omega)) z)
theorem Lk(h:nA s):Lib.parseUintB 64 s= .ok (dV s):=by
 obtain⟨z,h2,A⟩:=h
 unfold Lib.parseUintB
 rw[aj (by intro k;rw[k] at z;exact absurd z (by decide))]
 exact KB s 0 A (by rw[jS,sj];exact Ax (by decide) h2)
theorem MK{c:UInt8}{r:List UInt8}{u:Nat}(z:Lib.parseUintB 64 (if c.toNat=43∨c.toNat=45 then r else c::r)= .ok u):Lib.parseIntB 64 (c::r)=if¬c.toNat=45∧2^(64-1)≤u then .range else if c.toNat=45∧2^(64-1)<u then .range else .ok (if c.toNat=45 then-(u:Int) else u):=by
 unfold Lib.parseIntB;simp only[z]
theorem Vp(h:dV s≤9223372036854775808):sE true s=some (-(dV s:Int)):=aq (by
 rcases zZ h with h|h
 ·exact .inl (by omega)
 exact .inr ⟨rfl,by omega⟩)
theorem Vq(h:dV s<9223372036854775808):sE false s=some (dV s:Int):=aq (.inl (by omega))
theorem Uo(h:9223372036854775808<dV s):sE true s=none:=aj (by
 rintro(k|⟨_,k⟩)<;>omega)
theorem Up(h:9223372036854775808≤dV s):sE false s=none:=aj (by
 rintro(k|⟨k,_⟩)
 ·omega
 cases k)
theorem Uq(neg:Bool)(h:nA s):Lib.parseIntB 64 (if neg=true then 45::s else s)=match sE neg s with|some m=>.ok m|none=>.range:=by
 have A:=Lk h
 have G:2^(64-1)=9223372036854775808:=by decide
 cases neg with
 |true=>
  have e:(45:UInt8).toNat=45:=rfl
  rw[aq rfl,MK (u:=dV s) (by rw[aq (.inr e)];exact A),G]
  by_cases k:9223372036854775808<dV s
  ·rw[aj (fun k=>k.1 e),aq ⟨e,k⟩,Uo k]
  rw[aj (fun k=>k.1 e),aj (fun z=>k z.2),aq e,Vp (by omega)]
 |false=>
  obtain⟨I,h2,J⟩:=h
  match s,I with
  |c::r,_=>
   have K:=J c lF
   have e:¬c.toNat=45:=by omega
   rw[aj (by decide),MK (u:=dV (c::r)) (by rw[aj (by omega)];exact A),G]
   by_cases k:9223372036854775808≤dV (c::r)
   ·rw[aq ⟨e,k⟩,Up k]
   rw[aj (fun z=>k z.2),aj (fun z=>e z.1),aj e,Vq (by omega)]
theorem Ur(y m d:Nat):(H3 (jz y m d)).1≤1000000:=by
 unfold jz
 split
 ·decide
 split
 ·decide
 rename_i h;show sC y m d≤_;omega
theorem Us(s:List UInt8):(fc s).1≤1000000:=by
 unfold fc
 split
 ·decide
 split
 ·decide
 split
 ·decide
 exact Ur ..
theorem leaf{T:bf}(F:FT T)(X:FX T):g7 T rb where
 uint s h:=by have h2:=h.2.1;exact Rh X.Z5 X.Z6 (by omega) (Lk h)
 sint neg s h:=by
  obtain⟨t,A⟩:=X.Z8
  have h2:=h.2.1
  have e:=Uq neg h
  refine(R1 X.Z7 A (s:=if neg=true then 45::s else s) (by split<;>(try rw[dj])<;>omega) (by rw[e];cases sE neg s;exact .inr rfl;exact .inl ⟨_,rfl⟩)).mono fun v G=>?_
  obtain⟨n,x,I,hp⟩:=G
  refine⟨n,x,I,?_⟩
  rw[e] at hp
  simp only[rb]
  cases hi:sE neg s with
  |none=>
   rw[hi] at hp
   rcases hp with⟨m,z,_⟩|⟨_,h2⟩
   ·cases z
   exact .inr ⟨aa,h2⟩
  |some m=>
   rw[hi] at hp
   rcases hp with⟨K,z,h2,J⟩|⟨z,_⟩
   ·cases z;exact .inl ⟨_,rfl,h2,J⟩
   cases z
 day s _:=H5 F s
 im s h:=aaf F X s (by omega)
theorem N'{T:bf}(F:FT T):ka T rb where
 day s _:=Hu F s
 im s h:=Wp F s (by omega)
 kD:=Us
 int neg s:=by simp only[rb];unfold sE;exact Eq.refl _
end Go.Ev.Pp
namespace Go.Ev
open Go
variable{T:bf}{VE:b0}{B:br}{Q:VV→br→Prop}
theorem GU{neg:Bool}{x y:aF}{v w:VV}{t:Bool}(A:x.vv VE=some v)(G:y.vv VE=some w)(I:(∀H X β a b,aN H X β v a→aN H X β w b→ns .ptr a b=some t))(J:Q (dB (Bool.xor neg t)) B):VI T (.eqv .ptr neg x y) VE B [] Q:=fun _ _ _ _ _ z=>by
 obtain⟨a,K,h2⟩:=z.b9 A
 obtain⟨b,O,U⟩:=z.b9 G
 refine fZ (v:=.bool (Bool.xor neg t)) (fun call=>?_) (eW z (v:=dB (Bool.xor neg t)) (by simp only[aN,cM]) J)
 show bA x _ (.err 7) (fun a=>bA y _ (.err 7) fun b=>ob (ns .ptr a b) (.err 7) fun r=>mZ (Bool.xor neg r) fun r=>.ok (.bool r) _)=_
 rw[dm,K,df,dm,O,df,I _ _ _ _ _ h2 U,df]
 cases Bool.xor neg t<;>rfl
theorem Ut{neg:Bool}{x y:aF}(z:x.vv VE=some (.k .hY))(A:y.vv VE=some (.k .hY))(G:Q (dB (Bool.xor neg true)) B):VI T (.eqv .ptr neg x y) VE B [] Q:=
 GU z A (fun _ _ _ _ _ h k=>by simp only[aN] at h k;subst h;subst k;rfl) G
theorem Uu{neg:Bool}{x y:aF}{b o:Nat}(z:x.vv VE=some (.vp b o))(A:y.vv VE=some (.k .hY))(G:Q (dB (Bool.xor neg false)) B):VI T (.eqv .ptr neg x y) VE B [] Q:=
 GU z A (fun _ _ _ _ _ h k=>by simp only[aN] at h k;subst h;subst k;rfl) G
theorem Uv{neg:Bool}{x y:aF}{b o:Nat}(z:x.vv VE=some (.vp b o))(A:y.vv VE=some (.vp b o))(G:Q (dB (Bool.xor neg true)) B):VI T (.eqv .ptr neg x y) VE B [] Q:=
 GU z A (fun _ _ β _ _ h k=>by
  simp only[aN] at h k;subst h;subst k
  show aH (Nat.beq (β b) (β b)) (aH (Nat.beq 1 1) (aH (Nat.beq o o) (some true) none) none) none=_
  rw[iZ,iZ,iZ];rfl) G
theorem Uw{f:Nat}{x:aF}{v:VV}(A:T.ft.get f=none)(h2:T.xt.get f=some 1)(G:x.vv VE=some v)(I:Q v B):VI T (.call f [x]) VE B [] Q:=fun _ _ _ H β z=>by
 obtain⟨a,J,K⟩:=z.b9 G
 refine⟨1,a,H,fun lf n _ O=>?_,eW z K I⟩
 obtain⟨n,rfl⟩:∃n',n=n'+1:=⟨n-1,by omega⟩
 show ob (jF _ [x]) (.err 42) (fun vs=>T.call lf (n+1) f vs H)=_
 rw[show jF _ [x]=some [a] from ?_,df]
 ·show ob (T.ft.get f) (ob (T.xt.get f) (.err (Nat.add 10000 f)) fun c=>qv c _ H) _=_
  rw[A,h2];rfl
 exact KS J Tx
theorem Ll{t n:Nat}{x:aF}{b aQ:Nat}{row:List VV}(A:x.vv VE=some (.vp b 0))(G:aY B b=some (.one t aQ row))(I:row.length=n)(J:Q (.vp b 0) B):VI T (.qn t n x) VE B [] Q:=fun _ _ _ H β z=>by
 obtain⟨a,K,h2⟩:=z.b9 A
 have O:=h2
 simp only[aN] at h2
 subst h2
 obtain⟨l,lo,cs,U,Y,k3,Z⟩:=z.box b _ G
 have hl:l.length=n:=by rw[Z.length];exact I
 refine fZ (v:=.ptr (β b) 1 0) (fun call=>?_) (eW z O J)
 show bA x _ (.err 44) (fun v=>aH (xl v) (.ok v H) (iv v (.err 44) fun f g off=>iU (H.t.get f) (.err 44) fun elem es _ m lo fl _=>
  aH (Nat.beq elem t) (aH (Nat.beq es n) (aH (Nat.beq off 0) (aH (Nat.ble lo g) (aH (Nat.ble g m) (aH (Nat.ble 1 g) (aH (Nat.beq fl 0) (.ok v H) (.err 44)) (.err 44)) (.err 44)) (.err 44)) (.err 44)) (.err 44)) (.err 44)))=_
 rw[dm,K,df]
 show iU (H.t.get (β b)) (aD.err 44) _=_
 rw[U]
 show aH (Nat.beq t t) (aH (Nat.beq l.length n) (aH (Nat.beq 0 0) (aH (Nat.ble lo 1) _ _) _) _) _=_
 rw[iZ,hl,iZ,show Nat.ble lo 1=true from jA Y]
 rfl
theorem Vr{x:aF}{b n es:Nat}(A:x.vv VE=some (.ac b n es))(h0:0<n)(G:Q (.bp b n 0 0 es) B):VI T (.uS x) VE B [] Q:=fun _ _ _ H β z=>by
 obtain⟨a,I,h2⟩:=z.b9 A
 simp only[aN] at h2
 rcases h2 with⟨h,_⟩|⟨_,rfl⟩
 ·omega
 refine fZ (v:=.ptr (β b) n 0) (fun call=>?_) (eW z (v:=.bp b n 0 0 es) (by simp only[aN];rw[re]) G)
 show bA x _ (.err 45) (fun v=>gU v (.err 45) (.ok .hY H) fun f g off l _=>aH (Nat.beq l 0) (.err 45) (.ok (.ptr f g off) H))=_
 rw[dm,I,df]
 show aH (Nat.beq n 0) _ _=_
 cases n with
 |zero=>omega
 |succ n=>rfl
theorem Ux{x:aF}{b es:Nat}(A:x.vv VE=some (.ac b 0 es))(G:Q (.k .hY) B):VI T (.uS x) VE B [] Q:=fun _ _ _ H β z=>by
 obtain⟨a,I,h2⟩:=z.b9 A
 simp only[aN] at h2
 rcases h2 with⟨_,rfl⟩|⟨h,_⟩
 ·refine fZ (v:=.hY) (fun call=>?_) (eW z (v:=.k .hY) (by simp only[aN]) G)
  show bA x _ (.err 45) (fun v=>gU v (.err 45) (.ok .hY H) fun f g off l _=>aH (Nat.beq l 0) (.err 45) (.ok (.ptr f g off) H))=_
  rw[dm,I,df];rfl
 omega
theorem Tb{e:Nat}{x n:aF}(G:x.vv VE=some (.k .hY))(I:n.vv VE=some (dI ((0:Nat):Int)))(J:Q (dS []) B):VI T (.qu e x n) VE B [] Q:=fun _ _ _ H β z=>by
 obtain⟨a,K,h2⟩:=z.b9 G
 obtain⟨c,O,A⟩:=z.b9 I
 simp only[aN,cM] at h2 A
 subst h2;subst A
 refine fZ (v:=.str 0 0) (fun call=>?_) (eW z (v:=dS []) (by simp only[aN,cJ,cM];rfl) J)
 show bA x _ (.err 46) (fun p=>aH (xl p) (bA n _ (.err 46) fun U=>gN U (.err 46) fun k i=>jd i (.err 46) fun l=>aH (Nat.beq (dk k) 3) (aH (Nat.beq l 0) (.ok (.str 0 0) H) (.err 46)) (.err 46)) _)=_
 rw[dm,K,df]
 show bA n _ (.err 46) _=_
 rw[dm,O,df];rfl
def jW(c:UInt8):List DC:=[.i .u8 (c.toNat:Nat)]
theorem ML{H:az}{X:Nat→Prop}:∀{s:List UInt8}{ls:List (List an)},ki H X 1 ls (s.map jW)→nD ls=some (pack s)
 |[],ls,h=>by
  cases ls with
  |nil=>rfl
  |cons _ _=>exact absurd h (by simp[ki])
 |c::s,ls,h=>by
  cases ls with
  |nil=>exact absurd h (by simp[ki])
  |cons l r=>
   simp only[ez,ki] at h
   obtain⟨⟨G,h2⟩,z⟩:=h
   have A:=ML z
   simp only[jW,cU,cM] at h2
   obtain⟨_,_,rfl,rfl,rfl⟩:=h2
   have I:=c.toNat_lt
   show aH (Nat.beq 4 4) (aH (Nat.ble c.toNat 255) (ob (nD r) none fun v=>some (Nat.add c.toNat (Nat.mul 256 v))) none) none=_
   rw[show Nat.ble c.toNat 255=true from jA (by omega),A]
   rfl
theorem Lm{H0:Nat→Nat}{X0:Nat→Prop}{E:Env}{H:az}{β:Nat→Nat}(G:Rel H0 X0 VE B E H β){b elem aQ:Nat}{s:List UInt8}(I:aY B b=some (.acc elem aQ 1 (s.map jW)))(h0:0<s.length):
  ∃ls,elems H (β b) s.length 1 s.length 0=some ls∧nD ls=some (pack s):=by
 have z:(s.map jW).length=s.length:=cF ..
 rcases(YR.ac (gR:=1) I).elems G (by decide) (a:=.slice (β b) s.length 0 s.length 1) (by simp only[aN,z];exact .inr ⟨h0,trivial⟩) with⟨h,_⟩|⟨f,g,off,e,ls,A,h2,J⟩
 ·cases h
 rw[z] at A h2
 cases A
 exact⟨ls,h2,ML J⟩
theorem Uy{x n:aF}{b aQ:Nat}{s:List UInt8}(J:x.vv VE=some (.bp b s.length 0 0 1))(K:n.vv VE=some (dI (s.length:Nat)))(G:aY B b=some (.acc 5 aQ 1 (s.map jW)))(h0:0<s.length)(O:s.length≤70368744177664)
  (U:Q (dS s) ((b,.acc 5 aQ 1 [])::B)):VI T (.qu 5 x n) VE B [b] Q:=fun _ X0 _ H β z=>by
 obtain⟨a,Y,h2⟩:=z.b9 J
 obtain⟨c,Z,I⟩:=z.b9 K
 simp only[aN,cM] at h2 I
 subst h2;subst I
 obtain⟨ls,e1,e2⟩:=Lm z G h0
 have A:s.map jW≠[]:=fun k=>by rw[List.map_eq_nil_iff] at k;rw[k] at h0;exact absurd h0 (by decide)
 rcases z.box b _ G with h|⟨lo,cs,k1,k2,k3⟩
 ·exact absurd h A
 refine⟨0,.str s.length (pack s),⟨H.next,H.bc,wrote (β b) H.bc H.ws,H.t.set (β b) (.row 5 1 aQ (s.map jW).length lo 2 cs)⟩,fun lf m _ _=>?_,?_⟩
 ·show vT 5 x n _ H=_
  unfold vT
  rw[dm,Y,df]
  show bA n _ (.err 46) _=_
  rw[dm,Z,df]
  show aH (Nat.ble 1 s.length) (aH (Nat.ble s.length 70368744177664) (ob (elems H (β b) s.length 1 s.length 0) (aD.err 46) _) (aD.err 46)) (aD.err 46)=_
  rw[show Nat.ble 1 s.length=true from jA h0,show Nat.ble s.length 70368744177664=true from jA O,e1]
  show ob (nD ls) (aD.err 46) _=_
  rw[e2,df,iq]
  cases H with
  |mk next bc ws t=>
   unfold mv
   show iU (t.get (β b)) (aD.err 46) _=_
   rw[show t.get (β b)=_ from k1]
   exact GT.j6 t (β b) (.row 5 1 aQ (s.map jW).length lo 2 cs) fun t=>aD.ok (.str s.length (pack s)) ⟨next,bc,wrote (β b) bc ws,t⟩
 refine BP (s':=.acc 5 aQ 1 []) (v:=dS s) z G A rfl (fun f hf=>?_) rfl rfl (fun X _ _=>.inl rfl) (fun X=>by simp only[aN,cJ,cM]) U
 show(H.t.set (β b) _).get f=_
 rw[GT.eO,aj hf]
theorem KC{x:aF}{b aQ elem:Nat}{s:List UInt8}(A:x.vv VE=some (.ac b s.length 1))(G:aY B b=some (.acc elem aQ 1 (s.map jW)))(I:Q (dS s) B):VI T (.qS x) VE B [] Q:=fun _ X0 _ H β z=>by
 obtain⟨a,J,h2⟩:=z.b9 A
 simp only[aN] at h2
 refine fZ (v:=.str s.length (pack s)) (fun call=>?_) (eW z (v:=dS s) (by simp only[aN,cJ,cM]) I)
 show bA x _ (.err 39) (fun v=>gU v (.err 39) (.ok (.str 0 0) H) fun f g off n _=>
  ob (elems H f g 1 n off) (.err 39) fun l=>ob (nD l) (.err 39) fun s=>dp s fun s=>.ok (.str n s) H)=_
 rw[dm,J,df]
 rcases h2 with⟨h,rfl⟩|⟨h,rfl⟩
 ·obtain rfl:=List.length_eq_zero_iff.1 h;rfl
 obtain⟨ls,e1,e2⟩:=Lm z G h
 show ob (elems H (β b) s.length 1 s.length 0) (aD.err 39) _=_
 rw[e1]
 show ob (nD ls) (aD.err 39) _=_
 rw[e2,df]
 exact iq (pack s) fun v=>aD.ok (.str s.length v) H
end Go.Ev
namespace Go.Ev.Pp
open Go
def adV(a:Bool)(k:Nat):VV:=match a with|true=>.vp k 0|false=>.k .hY
def mV(a:Bool)(k l:Nat)(b:List UInt8):br:=[(k,.one 126 32 [adV a k,.ac l (b.map jW).length 1]),(l,.acc 5 1 1 (b.map jW))]
def kG(c:UInt8):Bool:=decide (65≤c.toNat)&&decide (c.toNat≤90)
def sF(c:UInt8):Bool:=decide (97≤c.toNat)&&decide (c.toNat≤122)
def iD(c:UInt8):Bool:=sF c||(gW c||decide (c.toNat=95))
def lO(c:UInt8):Bool:=decide (c.toNat=32)||(decide (c.toNat=9)||(decide (c.toNat=10)||decide (c.toNat=13)))
def runM(P:UInt8→Bool)(s:List UInt8)(i:Nat):Nat:=i+((s.drop i).takeWhile P).length
section
variable{P:UInt8→Bool}{s:List UInt8}{i:Nat}{c:UInt8}
theorem rP(h:s[i]?=some c):s.drop i=c::s.drop (i+1):=by
 obtain⟨z,he⟩:=List.getElem?_eq_some_iff.1 h
 rw[Az z,he]
theorem qX(h:s[i]?=some c)(hp:P c=true):runM P s i=runM P s (i+1):=by
 unfold runM;rw[rP h,G3,hp];simp;omega
theorem zX(h:s[i]?=some c)(hp:P c=false):runM P s i=i:=by
 unfold runM;rw[rP h,G3,hp];simp
theorem zY(h:s.length≤i):runM P s i=i:=by
 unfold runM;rw[G4 h];rfl
theorem xg:i≤runM P s i:=jP ..
theorem xh(h:i≤s.length):runM P s i≤s.length:=by
 unfold runM
 have:=(List.takeWhile_sublist P (l:=s.drop i)).length_le
 rw[iL] at this;omega
theorem KD:∀(l:List UInt8)(x:UInt8),x∈l.take (l.takeWhile P).length→P x=true
 |[],x,h=>by simp at h
 |y::r,x,h=>by
  rw[G3] at h
  cases z:P y with
  |false=>rw[z] at h;simp at h
  |true=>
   rw[z,aq rfl,dj,xB] at h
   rcases List.mem_cons.1 h with rfl|h
   ·exact z
   exact KD r x h
theorem B7:∀x,x∈(s.drop i).take (runM P s i-i)→P x=true:=by
 unfold runM
 rw[HJ]
 intro x z
 exact KD _ x z
end
def p0:List UInt8→Option (List UInt8×Nat)
 |[]=>none
 |c::r=>if c=39 then(match r with
   |[]=>some ([],1)
   |d::z=>if d=39 then(p0 z).map fun x=>(39::x.1,x.2+2) else some ([],1))
  else(p0 r).map fun x=>(c::x.1,x.2+1)
def jE(s:List UInt8)(j:Nat)(b:List UInt8):Option (List UInt8×Nat):=(p0 (s.drop j)).map fun x=>(b++x.1,j+x.2)
structure H6 where
 kind:Int
 text:List UInt8
 stop:Nat
 err:Int
def cut(s:List UInt8)(i j:Nat):List UInt8:=(s.drop i).take (j-i)
def ql:List UInt8:=[40,41,44,46,42,43,45,61,60,62,59]
def ct(s:List UInt8)(i:Nat)(c:UInt8):H6:=
 if kG c=true then⟨1,cut s i (runM kG s i),runM kG s i,0⟩
 else if sF c=true then⟨2,cut s i (runM iD s i),runM iD s i,0⟩
 else if gW c=true then⟨3,cut s i (runM gW s i),runM gW s i,0⟩
 else if c=39 then(match jE s (i+1) [] with
  |some x=>⟨4,x.1,x.2,0⟩
  |none=>⟨4,[],0,2⟩)
 else if c∈ql then⟨5,cut s i (i+1),i+1,0⟩
 else⟨0,[],0,5⟩
def kJ(k:Int)(t:List UInt8):Bool:=if k=3 then decide (t.length≤19) else if k=4 then decide (t.length≤200) else decide (t.length≤20)
def mm(s:List UInt8):Nat→Nat→List cL→List cL×Nat×Int
 |0,i,_=>([],i,4)
 |k+1,i,out=>match s[i]?with
  |none=>(out++[⟨6,(s.length:Nat),[]⟩],0,0)
  |some c=>if¬(ct s i c).err=0 then([],i,(ct s i c).err)
   else if¬(kJ (ct s i c).kind (ct s i c).text=true∧out.length<1000) then([],i,4)
   else mm s k (runM lO s (ct s i c).stop) (out++[⟨(ct s i c).kind,(i:Nat),(ct s i c).text⟩])
def e9(s:List UInt8):List cL×Nat×Int:=if 4000<s.length then([],0,4) else mm s (s.length+1) (runM lO s 0) []
def Ee(x:List cL×Nat×Int):VV:=.tuple [.d (.e8 (x.1.map cL.enc)),dI (x.2.1:Nat),dI x.2.2]
variable{s:List UInt8}{i:Nat}{c:UInt8}
theorem Tc(h:s[i]?=some c):cut s i (i+1)=[c]:=by
 unfold cut;rw[rP h,HJ];rfl
theorem Cs:∀(l:List UInt8)x,p0 l=some x→1≤x.2∧x.2≤l.length∧x.1.length<x.2
 |[],x,h=>by unfold p0 at h;cases h
 |[c],x,h=>by
  unfold p0 at h
  split at h
  ·cases h;exact⟨by decide,by simp,by decide⟩
  unfold p0 at h;cases h
 |c::d::r,x,h=>by
  unfold p0 at h
  split at h
  ·simp only at h
   split at h
   ·obtain⟨y,z,rfl⟩:=Option.map_eq_some_iff.1 h
    obtain⟨A,h2,G⟩:=Cs r y z
    simp only[dj];omega
   cases h;exact⟨by decide,by simp,by decide⟩
  obtain⟨y,z,rfl⟩:=Option.map_eq_some_iff.1 h
  obtain⟨A,h2,G⟩:=Cs (d::r) y z
  simp only[dj] at h2⊢;omega
theorem F3(h:s[i]?=some c)(h0:(ct s i c).err=0):i<(ct s i c).stop∧(ct s i c).stop≤s.length:=by
 have I:i<s.length:=(List.getElem?_eq_some_iff.1 h).1
 have go:∀P:UInt8→Bool,P c=true→i<runM P s i∧runM P s i≤s.length:=fun P hp=>by
  rw[qX h hp]
  have:=xg (P:=P) (s:=s) (i:=i+1)
  have:=xh (P:=P) (s:=s) (i:=i+1) I
  omega
 unfold ct at h0⊢
 split
 ·rename_i k;exact go _ k
 split
 ·rename_i k;exact go _ (by unfold iD;rw[k];rfl)
 split
 ·rename_i k;exact go _ k
 split
 ·rename_i z A G k
  rw[aj z,aj A,aj G,aq k] at h0
  unfold jE at h0⊢
  cases J:p0 (s.drop (i+1)) with
  |none=>rw[J] at h0;exact absurd h0 (by decide:¬(2:Int)=0)
  |some x=>
   obtain⟨U,h2,Y⟩:=Cs _ _ J
   rw[iL] at h2
   show i<i+1+x.2∧i+1+x.2≤s.length
   omega
 rename_i z A G K
 split
 ·exact⟨fS _,I⟩
 rename_i O;rw[aj z,aj A,aj G,aj K,aj O] at h0;exact absurd h0 (by decide)
theorem R8(h:s[i]?=some c)(h0:(ct s i c).err=0)(z:kJ (ct s i c).kind (ct s i c).text=true):
  (ct s i c).kind≠6∧((ct s i c).kind=3→nA (ct s i c).text)∧(ct s i c).text.length≤200:=by
 have Z:i<s.length:=(List.getElem?_eq_some_iff.1 h).1
 have A:∀j,(cut s i j).length≤j-i:=fun j=>by unfold cut;exact List.length_take_le ..
 unfold ct at h0 z⊢
 split
 ·rename_i k;rw[aq k] at z
  refine⟨(by decide:(1:Int)≠6),fun e=>absurd e (by decide:¬(1:Int)=3),?_⟩
  have z:decide ((cut s i (runM kG s i)).length≤20)=true:=z
  simp at z;show(cut s i (runM kG s i)).length≤200;omega
 rename_i J;rw[aj J] at z h0
 split
 ·rename_i k;rw[aq k] at z
  refine⟨(by decide:(2:Int)≠6),fun e=>absurd e (by decide:¬(2:Int)=3),?_⟩
  have z:decide ((cut s i (runM iD s i)).length≤20)=true:=z
  simp at z;show(cut s i (runM iD s i)).length≤200;omega
 rename_i K;rw[aj K] at z h0
 split
 ·rename_i k;rw[aq k] at z
  have z:decide ((cut s i (runM gW s i)).length≤19)=true:=z
  simp at z
  refine⟨(by decide:(3:Int)≠6),fun _=>⟨?_,z,fun x O=>wO.1 (B7 x O)⟩,by show(cut s i (runM gW s i)).length≤200;omega⟩
  show 0<(cut s i (runM gW s i)).length
  have h2:=xg (P:=gW) (s:=s) (i:=i+1)
  unfold cut;rw[ng,iL,qX h k];omega
 rename_i U;rw[aj U] at z h0
 split
 ·rename_i G;rw[aq G] at z h0
  cases I:jE s (i+1) [] with
  |none=>rw[I] at h0;exact absurd h0 (by decide)
  |some x=>
   rw[I] at z
   refine⟨(by decide:(4:Int)≠6),fun e=>absurd e (by decide:¬(4:Int)=3),?_⟩
   have z:decide (x.1.length≤200)=true:=z
   simpa using z
 rename_i G;rw[aj G] at h0
 split
 ·refine⟨(by decide:(5:Int)≠6),fun e=>absurd e (by decide:¬(5:Int)=3),?_⟩
  have:=A (i+1);show(cut s i (i+1)).length≤200;omega
 rename_i Y;rw[aj Y] at h0;exact absurd h0 (by decide)
structure ES(out:List cL):Prop where
 kind:∀t,t∈out→t.kind≠6
 num:∀t,t∈out→t.kind=3→nA t.text
 text:∀t,t∈out→t.text.length≤200
theorem ES.snoc{out:List cL}(h:ES out)(A:s[i]?=some c)(h0:(ct s i c).err=0)(G:kJ (ct s i c).kind (ct s i c).text=true):ES (out++[⟨(ct s i c).kind,(i:Nat),(ct s i c).text⟩]):=by
 obtain⟨I,J,K⟩:=R8 A h0 G
 refine⟨fun t z=>?_,fun t z=>?_,fun t z=>?_⟩<;>rcases List.mem_append.1 z with z|z
 ·exact h.kind t z
 ·rcases List.mem_singleton.1 z with rfl;exact I
 ·exact h.num t z
 ·rcases List.mem_singleton.1 z with rfl;exact J
 ·exact h.text t z
 rcases List.mem_singleton.1 z with rfl;exact K
theorem JV:∀(k i:Nat)(out:List cL),ES out→out.length≤1000→(mm s k i out).2.2=0→q8 (mm s k i out).1
 |0,i,out,_,_,h=>absurd h (by unfold mm;exact(by decide:¬(4:Int)=0))
 |k+1,i,out,ho,O,h=>by
  unfold mm at h⊢
  cases G:s[i]?with
  |none=>
   rw[G] at h
   simp only
   refine⟨by simp,by simp;omega,fun j t z=>?_,fun t z J=>?_,fun t z=>?_⟩
   ·rw[bJ,eG]
    by_cases K:j<out.length
    ·rw[qs K] at z
     exact⟨fun e=>absurd e (ho.kind t (lW z)),fun e=>by omega⟩
    have I:=(List.getElem?_eq_some_iff.1 z).1
    rw[bJ,eG] at I
    obtain rfl:j=out.length:=by omega
    rw[v7 (bY _),Nat.sub_self] at z
    simp at z;subst z
    simp
   ·rcases List.mem_append.1 z with z|z
    ·exact ho.num t z J
    rcases List.mem_singleton.1 z with rfl;exact absurd J (by decide:¬(6:Int)=3)
   rcases List.mem_append.1 z with z|z
   ·exact ho.text t z
   rcases List.mem_singleton.1 z with rfl;exact dh _
  |some c=>
   rw[G] at h
   simp only at h⊢
   split
   ·rename_i he;rw[aq he] at h;exact absurd h he
   rename_i he;rw[aj he] at h
   split
   ·rename_i A;rw[aq A] at h;exact absurd h (by decide:¬(4:Int)=0)
   rename_i A;rw[aj A] at h
   have he:(ct s i c).err=0:=by simpa using he
   have A:kJ (ct s i c).kind (ct s i c).text=true∧out.length<1000:=by simpa using A
   exact JV k _ _ (ho.snoc G he A.1) (by rw[bJ,eG];omega) h
theorem vl(h:(e9 s).2.2=0):q8 (e9 s).1:=by
 unfold e9 at h⊢
 split
 ·rename_i z;rw[aq z] at h;exact absurd h (by decide:¬(4:Int)=0)
 rename_i z;rw[aj z] at h
 exact JV _ _ _ ⟨fun _ h=>(by cases h),fun _ h=>(by cases h),fun _ h=>(by cases h)⟩ (by decide) h
section
variable{b:List UInt8}{j:Nat}{d:UInt8}
theorem MM(h:s[j]?=some c)(z:¬c=39):jE s j b=jE s (j+1) (b++[c]):=by
 unfold jE
 rw[rP h]
 conv=>lhs;unfold p0
 rw[aj z,Option.map_map]
 congr 1
 funext x
 simp only[Function.comp,List.append_assoc,MR]
 congr 1;omega
theorem L9(h:s[j]?=some 39)(h2:s[j+1]?=some 39):jE s j b=jE s (j+2) (b++[39]):=by
 unfold jE
 rw[rP h,rP h2]
 conv=>lhs;unfold p0
 rw[aq rfl]
 simp only[if_true,Option.map_map]
 congr 1
 funext x
 simp only[Function.comp,List.append_assoc,MR]
 congr 1;omega
theorem CP(h:s[j]?=some 39)(h2:∀d,s[j+1]?=some d→¬d=39):jE s j b=some (b,j+1):=by
 unfold jE
 rw[rP h]
 unfold p0
 rw[aq rfl]
 cases z:s[j+1]?with
 |none=>rw[G4 (List.getElem?_eq_none_iff.1 z)];simp
 |some d=>rw[rP z];simp[h2 d z]
theorem MN(h:s.length≤j):jE s j b=none:=by
 unfold jE;rw[G4 h];rfl
end
def aah:Option (List UInt8×Nat)→VV
 |some x=>.tuple [.d (cJ x.1),.d (.i .i64 (x.2:Nat)),.d (.i .i64 0)]
 |none=>.tuple [.d (cJ []),.d (.i .i64 0),.d (.i .i64 2)]
def uQ(x:H6)(i:Nat):VV:=.tuple [.agg [dI x.kind,dI (if x.err=5 then 0 else(i:Nat)),dS x.text],dI (x.stop:Nat),dI x.err]
theorem Ln{l:List UInt8}:0≤eF c l↔c∈l:=by
 constructor
 ·intro h
  obtain⟨k,hk⟩:∃k:Nat,eF c l=k:=⟨(eF c l).toNat,by omega⟩
  exact lW (BX hk).1
 intro h
 refine tM fun k=>?_
 have J:=xe c l
 obtain⟨j,K,he⟩:=G2 h
 have key:∀(l:List UInt8),eF c l= -1→c∉l:=by
  intro l
  induction l with
  |nil=>intro _ h;cases h
  |cons x r I=>
   intro h z
   have h:(if x=c then(0:Int) else if eF c r= -1 then-1 else eF c r+1)= -1:=h
   by_cases A:x=c
   ·rw[aq A] at h;omega
   rw[aj A] at h
   have:=xe c r
   by_cases G:eF c r= -1
   ·rcases List.mem_cons.1 z with e|z
    ·exact A e.symm
    exact I G z
   rw[aj G] at h;omega
 exact key l (by omega) h
structure Hv(k:Int)(t:List UInt8):Prop where
 kind:k=1∨k=2∨k=3∨k=4∨k=5
 ne:k≠4→0<t.length
 up:k=1→∀c,c∈t→kG c=true
 PV:k=2→∀c,c∈t→iD c=true
 low:k=2→∀c,t[0]?=some c→sF c=true
 nU:k=3→∀c,c∈t→gW c=true
 sgn:k=5→∃c,t=[c]∧c∈ql
theorem Au{j:Nat}(h:s[i]?=some c)(z:i<j):(cut s i j)[0]?=some c∧0<(cut s i j).length:=by
 unfold cut
 rw[rP h,show j-i=(j-i-1)+1 by omega,xB]
 exact⟨rfl,by simp⟩
theorem Uz(h:s[i]?=some c)(h0:(ct s i c).err=0):Hv (ct s i c).kind (ct s i c).text:=by
 have z:=(F3 h h0).1
 unfold ct at h0 z⊢
 split
 ·rename_i G
  rw[aq G] at z
  exact⟨.inl rfl,fun _=>(Au h z).2,fun _=>B7,fun e=>absurd e (by decide:¬(1:Int)=2),fun e=>absurd e (by decide:¬(1:Int)=2),fun e=>absurd e (by decide:¬(1:Int)=3),fun e=>absurd e (by decide:¬(1:Int)=5)⟩
 rename_i G;rw[aj G] at h0 z
 split
 ·rename_i A
  rw[aq A] at z
  exact⟨.inr (.inl rfl),fun _=>(Au h z).2,fun e=>absurd e (by decide:¬(2:Int)=1),fun _=>B7,fun _ d O=>by rw[show _=some c from(Au h z).1] at O;cases O;exact A,fun e=>absurd e (by decide:¬(2:Int)=3),fun e=>absurd e (by decide:¬(2:Int)=5)⟩
 rename_i A;rw[aj A] at h0 z
 split
 ·rename_i I
  rw[aq I] at z
  exact⟨.inr (.inr (.inl rfl)),fun _=>(Au h z).2,fun e=>absurd e (by decide:¬(3:Int)=1),fun e=>absurd e (by decide:¬(3:Int)=2),fun e=>absurd e (by decide:¬(3:Int)=2),fun _=>B7,fun e=>absurd e (by decide:¬(3:Int)=5)⟩
 rename_i I;rw[aj I] at h0
 split
 ·rename_i J;rw[aq J] at h0
  cases U:jE s (i+1) [] with
  |none=>rw[U] at h0;exact absurd h0 (by decide:¬(2:Int)=0)
  |some x=>exact⟨.inr (.inr (.inr (.inl rfl))),fun e=>absurd rfl e,fun e=>absurd e (by decide:¬(4:Int)=1),fun e=>absurd e (by decide:¬(4:Int)=2),fun e=>absurd e (by decide:¬(4:Int)=2),fun e=>absurd e (by decide:¬(4:Int)=3),fun e=>absurd e (by decide:¬(4:Int)=5)⟩
 rename_i J;rw[aj J] at h0
 split
 ·rename_i K
  exact⟨.inr (.inr (.inr (.inr rfl))),fun _=>(Au h (fS i)).2,fun e=>absurd e (by decide:¬(5:Int)=1),fun e=>absurd e (by decide:¬(5:Int)=2),fun e=>absurd e (by decide:¬(5:Int)=2),fun e=>absurd e (by decide:¬(5:Int)=3),fun _=>⟨c,Tc h,K⟩⟩
 rename_i K;rw[aj K] at h0;exact absurd h0 (by decide:¬(5:Int)=0)
def p5(x:H6)(i n:Nat):VV:=.tuple [dI ((if x.err=5 then i+1 else if x.err=2 then n else x.stop:Nat):Int),dI x.kind,dS x.text,dB (!decide (x.err=2))]
open Go
set_option maxRecDepth 10000
theorem PW{T:bf}(F:FT T)(c:UInt8):Sound T 83 [.d (.i .u8 (c.toNat:Nat))] fun r=>r=dB (kG c):=by
 refine eo F.f83 aa (ak 1 aa (ai (ae 3 aa (cX (g:=aw) aa (fun z=>?_) (fun z=>?_)))))
 ·refine ao aa (z) (bM aa ?_)
  refine ao aa (z) (pH aa aa ?_)
  refine al (cS aa (z) aa ?_)
  refine ae 1 aa (af ?_)
  refine ax ?_
  exact bB rfl rfl (by refine congrArg (fun b=>VV.d (DC.b b)) ?_;rw[fQ];unfold kG;simp at*;omega)
 refine aO aa (z) (aO aa (z) (al (cI aa (z) aa ?_)))
 refine ae 1 aa (af ?_)
 refine ax ?_
 exact bB rfl rfl (by refine congrArg (fun b=>VV.d (DC.b b)) ?_;rw[fQ];unfold kG;simp at*;omega)
theorem OX{T:bf}(F:FT T)(c:UInt8):Sound T 84 [.d (.i .u8 (c.toNat:Nat))] fun r=>r=dB (sF c):=by
 refine eo F.f84 aa (ak 1 aa (ai (ae 3 aa (cX (g:=aw) aa (fun z=>?_) (fun z=>?_)))))
 ·refine ao aa (z) (bM aa ?_)
  refine ao aa (z) (pH aa aa ?_)
  refine al (cS aa (z) aa ?_)
  refine ae 1 aa (af ?_)
  refine ax ?_
  exact bB rfl rfl (by refine congrArg (fun b=>VV.d (DC.b b)) ?_;rw[fQ];unfold sF;simp at*;omega)
 refine aO aa (z) (aO aa (z) (al (cI aa (z) aa ?_)))
 refine ae 1 aa (af ?_)
 refine ax ?_
 exact bB rfl rfl (by refine congrArg (fun b=>VV.d (DC.b b)) ?_;rw[fQ];unfold sF;simp at*;omega)
theorem H7{T:bf}(F:FT T)(c:UInt8):Sound T 86 [.d (.i .u8 (c.toNat:Nat))] fun r=>r=dB (gW c):=by
 refine eo F.f86 aa (ak 1 aa (ai (ae 3 aa (cX (g:=aw) aa (fun z=>?_) (fun z=>?_)))))
 ·refine ao aa (z) (bM aa ?_)
  refine ao aa (z) (pH aa aa ?_)
  refine al (cS aa (z) aa ?_)
  refine ae 1 aa (af ?_)
  refine ax ?_
  exact bB rfl rfl (by refine congrArg (fun b=>VV.d (DC.b b)) ?_;rw[fQ];unfold gW;simp at*;omega)
 refine aO aa (z) (aO aa (z) (al (cI aa (z) aa ?_)))
 refine ae 1 aa (af ?_)
 refine ax ?_
 exact bB rfl rfl (by refine congrArg (fun b=>VV.d (DC.b b)) ?_;rw[fQ];unfold gW;simp at*;omega)
theorem PX{T:bf}(F:FT T)(c:UInt8):Sound T 35 [.d (.i .u8 (c.toNat:Nat))] fun r=>r=dB (lO c):=by
 refine eo F.f35 aa (ak 1 aa (ai (ae 3 aa (cX (g:=aw) aa (fun z=>?_) (fun z=>?_)))))
 ·refine aO aa (z) (aO aa (z) (al (cS aa (z) aa ?_)))
  refine ae 1 aa (aO aa aa (aO aa aa (ae 2 aa (aO aa aa (aO aa aa (ae 2 aa (af ?_)))))))
  refine ax ?_
  exact bB rfl rfl (by refine congrArg (fun b=>VV.d (DC.b b)) ?_;rw[fQ];unfold lO;simp at*;omega)
 refine ao aa (z) (bM aa ?_)
 refine ao aa (z) (hH aa aa ?_)
 refine al (cI aa (z) aa ?_)
 refine ae 1 aa (cX (g:=aK) aa (fun A=>?_) (fun A=>?_))
 ·refine aO aa (A) (aO aa (A) (al (cS aa (A) aa ?_)))
  refine ae 1 aa (aO aa aa (aO aa aa (ae 2 aa (af ?_))))
  refine ax ?_
  exact bB rfl rfl (by refine congrArg (fun b=>VV.d (DC.b b)) ?_;rw[fQ];unfold lO;simp at*;omega)
 refine ao aa (A) (bM aa ?_)
 refine ao aa (A) (hH aa aa ?_)
 refine al (cI aa (A) aa ?_)
 refine ae 1 aa (cX (g:=aV) aa (fun bI=>?_) (fun bI=>?_))
 ·refine aO aa (bI) (aO aa (bI) (al (cS aa (bI) aa ?_)))
  refine ae 1 aa (af ?_)
  refine ax ?_
  exact bB rfl rfl (by refine congrArg (fun b=>VV.d (DC.b b)) ?_;rw[fQ];unfold lO;simp at*;omega)
 refine ao aa (bI) (bM aa ?_)
 refine ao aa (bI) (hH aa aa ?_)
 refine al (cI aa (bI) aa ?_)
 refine ae 1 aa (af ?_)
 refine ax ?_
 exact bB rfl rfl (by refine congrArg (fun b=>VV.d (DC.b b)) ?_;rw[fQ];unfold lO;simp at*;omega)
theorem inC{T:bf}(F:FT T)(c:UInt8):Sound T 85 [.d (.i .u8 (c.toNat:Nat))] fun r=>r=dB (iD c):=by
 refine eo F.f85 aa (ak 1 aa (ai (ae 1 aa (al (cO (OX F c) aa aa ?_)))))
 refine ae 1 aa (cX (g:=aw) aa (fun z=>?_) (fun z=>?_))
 ·have G:iD c=true:=by unfold iD;rw[z];rfl
  refine aO aa (z) (aO aa (z) (al (cS aa (z) aa ?_)))
  refine ae 1 aa (aO aa aa (aO aa aa (ae 2 aa (af ?_))))
  refine ax ?_
  exact bB rfl rfl (by rw[G];rfl)
 refine ao aa (z) (bM aa ?_)
 refine ao aa (z) (cO (H7 F c) aa aa ?_)
 refine al (cI aa (z) aa ?_)
 refine ae 1 aa (cX (g:=aK) aa (fun A=>?_) (fun A=>?_))
 ·have G:iD c=true:=by unfold iD;rw[z,A];rfl
  refine aO aa (A) (aO aa (A) (al (cS aa (A) aa ?_)))
  refine ae 1 aa (af ?_)
  refine ax ?_
  exact bB rfl rfl (by rw[G];rfl)
 have G:iD c=decide (((c.toNat:Nat):Int)=Int.ofNat 95):=by unfold iD;rw[z,A,fQ];simp;omega
 refine ao aa (A) (bM aa ?_)
 refine ao aa (A) (hH aa aa ?_)
 refine al (cI aa (A) aa ?_)
 refine ae 1 aa (af ?_)
 refine ax ?_
 exact bB rfl rfl (by rw[G];rfl)
theorem AZ{T:bf}(F:FT T){f:Nat}{P:UInt8→Bool}(O:∀c:UInt8,Sound T f [.d (.i .u8 (c.toNat:Nat))] fun r=>r=dB (P c)){s:List UInt8}{i:Nat}(hi:i≤s.length)(Z:s.length≤4000):Sound T 34 [dS s,dI (i:Nat),.fn f []] fun r=>r=dI (runM P s i:Nat):=by
 refine eo F.f34 aa (ak 1 aa (aM (bN (d7 (fun k VE B=>∃j,j≤s.length∧k=s.length-j∧runM P s j=runM P s i∧bu [(0,dS s),(1,dI (j:Nat)),(2,.fn f []),(6,d0)] VE∧bu [] B) ?_ (k:=s.length-i) ⟨i,hi,aa,aa,⟨aa,aa,aa,aa,trivial⟩,trivial⟩))))
 rintro k VE B⟨j,hj,rfl,I,U,Y⟩
 refine dy _ _ U Y (aM (ai (ae 5 aa (cX (g:=aS) aa (fun z=>?_) (fun z=>?_)))))
 ·have J:j<s.length:=by simp at z;omega
  obtain⟨c,K⟩:=jH J
  refine ao aa (z) (bM aa ?_)
  refine ao aa (z) (bM aa ?_)
  refine ao aa (z) (bM aa ?_)
  refine ao aa (z) (fH aa aa K ?_)
  refine ao aa (z) (Vk (O c) aa aa aa ?_)
  refine al (cS aa (z) aa ?_)
  refine af (aJ aa (fun A=>?_) (fun A=>?_))
  ·have G:=A
   refine aT (bN (bG (ae 1 aa ?_)))
   refine al (cV rfl rfl (by omega) ?_)
   refine ae 1 aa (af ?_)
   exact⟨s.length-(j+1),by omega,j+1,by omega,rfl,by rw[←qX K G,I],⟨rfl,rfl,rfl,rfl,trivial⟩,trivial⟩
  have G:=A
  rw[zX K G] at I
  refine dM (ak 2 aa (ax ?_))
  exact bB rfl rfl (by rw[I];rfl)
 rw[zY (by simp at z;omega)] at I
 refine aO aa (z) (aO aa (z) (aO aa (z) (aO aa (z) (aO aa (z) (al (cI aa (z) aa ?_))))))
 refine af (eI aa aa (dM (ak 2 aa (ax ?_))))
 exact bB rfl rfl (by rw[I];rfl)
theorem Vt{T:bf}(F:FT T)(k p:Int)(t:List UInt8):Sound T 37 [.agg [dI k,dI p,dS t]] fun r=>r=dB (kJ k t):=by
 refine eo F.f37 aa (ak 2 aa (aM (ak 2 aa (bN (ak 2 aa (aJ aa (fun G=>?_) (fun G=>?_)))))))
 ·have A:kJ k t=decide (t.length≤19):=aq (by simpa using G)
  refine ak 5 aa (ax ?_)
  exact bB rfl rfl (by refine congrArg (fun b=>VV.d (DC.b b)) ?_;rw[A,fQ];simp;omega)
 refine ak 2 aa (aJ aa (fun z=>?_) (fun z=>?_))
 ·have A:kJ k t=decide (t.length≤200):=by unfold kJ;rw[aj (by simpa using G),aq (by simpa using z)]
  refine ak 5 aa (ax ?_)
  exact bB rfl rfl (by refine congrArg (fun b=>VV.d (DC.b b)) ?_;rw[A,fQ];simp;omega)
 have A:kJ k t=decide (t.length≤20):=by unfold kJ;rw[aj (by simpa using G),aj (by simpa using z)]
 refine aT (ak 5 aa (ax ?_))
 exact bB rfl rfl (by refine congrArg (fun b=>VV.d (DC.b b)) ?_;rw[A,fQ];simp;omega)
open Go
set_option maxRecDepth 10000
theorem Wq{T:bf}(F:FT T)(X:FX T)(a:Bool)(b:List UInt8):bV T 110 [.vp 1001 0] (mV a 1001 1101 b) fun r Bn=>r= .tuple []∧Bn=mV true 1001 1101 b:=by
 refine cl F.Yx aa (ai ?_)
 cases a
 ·refine ae 4 aa (al (Ut aa aa ?_))
  refine af (aJ aa (fun z=>?_) (fun z=>?_))
  ·refine bG (ae 2 aa (al (Ll aa aa aa ?_)))
   refine al (Uw X.aaa X.aab aa ?_)
   refine al (Ll aa aa aa ?_)
   refine ae 3 aa (af ?_)
   exact⟨_,mV true 1001 1101 b,aa,⟨aa,aa,trivial⟩,aa,aa⟩
  exact absurd z (by decide)
 refine ae 4 aa (al (Uu aa aa ?_))
 refine af (aJ aa (fun z=>?_) (fun z=>?_))
 ·exact absurd z (by decide)
 refine ai (ae 5 aa (al (Uv aa aa ?_)))
 refine af (aJ aa (fun et=>?_) (fun et=>?_))
 ·exact absurd et (by decide)
 exact aT (⟨_,mV true 1001 1101 b,aa,⟨aa,aa,trivial⟩,aa,aa⟩)
theorem MO{T:bf}(F:FT T)(X:FX T)(a:Bool)(b:List UInt8)(c:UInt8)(z:b.length≤100000):bV T 69 [.vp 1001 0,.d (.i .u8 (c.toNat:Nat))] (mV a 1001 1101 b) fun r Bn=>r= .k .gA∧Bn=mV true 1001 1101 (b++[c]):=by
 refine cl F.f69 aa (ak 1 aa (ai (ae 1 aa ?_)))
 refine al (jI (bZ:=[.vp 1001 0]) (Bi:=(mV a 1001 1101 b)) [(1001,1001),(1101,1101)] 2000 rfl rfl rfl (by cases a<;>rfl) rfl rfl rfl ⟨rfl,by cases a<;>rfl,rfl,rfl,trivial⟩ (Wq F X a b) (fun r Bn hp=>?_))
 obtain⟨rfl,rfl⟩:=hp
 refine ew [(1001,.one 126 32 [.vp 1001 0,.ac 1101 (b.map jW).length 1]),(1101,.acc 5 1 1 (b.map jW))] ⟨aa,aa,trivial⟩ (af (ai (ae 7 aa ?_)))
 refine al (eu (rows:=b.map jW) (ys:=[jW c]) rfl rfl rfl (.bs (rows:=[jW c]) rfl) (bS rfl) (by rw[bJ,cF];simp only[dj,dJ];omega) (fun h=>by rw[h];rfl) (fun h=>by rw[h];rfl) ?_)
 refine ae 3 aa (af ?_)
 refine ak 1 aa (ax (⟨_,mV true 1001 1101 (b++[c]),aa,?_,aa,aa⟩))
 unfold mV
 rw[dX]
 exact⟨aa,aa,trivial⟩
theorem L'{T:bf}(F:FT T)(a:Bool)(b:List UInt8)(z:b.length≤100000):bV T 72 [.vp 1001 0] (mV a 1001 1101 b) fun r Bn=>r=dS b∧Bn=[]:=by
 refine cl F.f72 aa ?_
 unfold mV
 rw[cF]
 refine ak 1 aa (eU ?_)
 rcases Nat.eq_zero_or_pos b.length with h0|h0
 ·obtain rfl:=List.length_eq_zero_iff.1 h0
  refine bm 4 aa (dE (Ux aa ?_))
  refine bm 4 aa (dE (zw aa ?_))
  refine eJ aa (Tb aa aa ?_)
  refine bm 1 aa (da ?_)
  exact ax (⟨_,[],aa,trivial,aa,aa⟩)
 refine bm 4 aa (dE (Vr aa h0 ?_))
 refine bm 4 aa (dE (zw aa ?_))
 refine eJ rfl (Uy rfl rfl rfl h0 (by omega) ?_)
 refine bm 1 aa (da ?_)
 exact ax (⟨_,[],aa,trivial,aa,aa⟩)
open Go
set_option maxRecDepth 10000
set_option maxHeartbeats 1000000 in
theorem Ws{T:bf}(F:FT T)(X:FX T){s:List UInt8}{i:Nat}(hi:i<s.length)(hl:s.length≤4000):Sound T 87 [dS s,dI (i:Nat)] fun r=>r=aah (jE s (i+1) []):=by
 refine eo F.f87 aa (ak 3 aa (ai (ae 1 aa (mW 7 1 1108 5 1 1 aa aa aa (af (aM (ai (ae 1 aa ?_))))))))
 refine al (cV rfl rfl (by omega) ?_)
 refine ae 1 aa (af ?_)
 refine bN (d7 (fun k VE B=>∃(j:Nat)(a:Bool)(b:List UInt8),j≤s.length∧k=s.length-j∧jE s j b=jE s (i+1) []∧b.length≤j∧bu [(0,dS s),(1,dI (i:Nat)),(4,dS []),(5,d0),(6,d0),(7,.vp 7 0),(8,dI (j:Nat))] VE∧bu (mV a 7 1108 b) B) ?_ (k:=s.length-(i+1)) ⟨i+1,false,[],hi,aa,aa,dh _,⟨aa,aa,aa,aa,aa,aa,aa,trivial⟩,aa,aa,trivial⟩)
 rintro k VE B⟨j,a,b,hj,rfl,G,A8,hV,hB⟩
 refine dy _ _ hV hB (aM (ak 4 aa (aJ aa (fun I=>?_) (fun I=>?_))))
 ·have Y:j<s.length:=by simp at I;omega
  obtain⟨c,O⟩:=jH Y
  refine aT (aM (bN (aM (ai (ae 2 aa (al (fH aa aa O ?_)))))))
  refine ae 1 aa (af ?_)
  refine aJ aa (fun J=>?_) (fun J=>?_)
  ·have hn:¬c=39:=by rintro rfl;simp at J
   refine ai (ae 2 aa (al (fH aa aa O ?_)))
   refine al (jI (bZ:=[.vp 1001 0,.d (.i .u8 (c.toNat:Nat))]) (Bi:=mV a 1001 1101 b) [(1001,7),(1101,1108)] 2000 rfl rfl rfl (by cases a<;>rfl) rfl rfl rfl ⟨rfl,by cases a<;>rfl,rfl,rfl,trivial⟩ (MO F X a b c (by omega)) (fun r Bn hp=>?_))
   obtain⟨rfl,rfl⟩:=hp
   refine af (dM (bG (ae 1 aa ?_)))
   refine al (cV rfl rfl (by omega) ?_)
   refine ae 1 aa (af ?_)
   exact⟨s.length-(j+1),by omega,j+1,true,b++[c],by omega,rfl,by rw[←MM O hn,G],by simp only[bJ,dj,dJ];omega,⟨rfl,rfl,rfl,rfl,rfl,rfl,rfl,trivial⟩,rfl,rfl,trivial⟩
  obtain rfl:c=39:=rm 39 (by simp at J;omega) rfl
  refine aT (aM (ai (ae 1 aa ?_)))
  refine al (cV rfl rfl (by omega) ?_)
  refine ae 2 aa (al (hH aa aa ?_))
  refine ae 1 aa (cX (g:=cn) aa (fun z=>?_) (fun z=>?_))
  ·have Z:=CP (b:=b) O (fun d U=>absurd (List.getElem?_eq_some_iff.1 U).1 (by simp at z;omega))
   rw[Z] at G
   refine aO aa (z) (aO aa (z) (aO aa (z) (aO aa (z) (aO aa (z) (al (cS aa (z) aa ?_))))))
   refine af (e7 aa aa (ai ?_))
   refine al (jI (bZ:=[.vp 1001 0]) (Bi:=mV a 1001 1101 b) [(1001,7),(1101,1108)] 2000 rfl rfl rfl (by cases a<;>rfl) rfl rfl rfl ⟨rfl,by cases a<;>rfl,rfl,rfl,trivial⟩ (L' F a b (by omega)) (fun r Bn hp=>?_))
   obtain⟨rfl,rfl⟩:=hp
   refine ae 1 aa ?_
   refine al (cV rfl rfl (by omega) ?_)
   refine ae 3 aa (af ?_)
   refine ax ?_
   exact bB rfl rfl (by rw[←G];rfl)
  obtain⟨d,A⟩:=jH (s:=s) (i:=j+1) (by simp at z;omega)
  refine ao aa (z) (bM aa ?_)
  refine ao aa (z) (bM aa ?_)
  refine ao rfl (z) (cV rfl rfl (by omega) ?_)
  refine ao aa (z) (fH aa aa A ?_)
  refine ao aa (z) (iu aa aa ?_)
  refine al (cI aa (z) aa ?_)
  refine af (aJ aa (fun K=>?_) (fun K=>?_))
  ·have Z:=CP (b:=b) O (fun d2 U=>by(rw[A] at U;cases U;rintro rfl;simp at K))
   rw[Z] at G
   refine ai ?_
   refine al (jI (bZ:=[.vp 1001 0]) (Bi:=mV a 1001 1101 b) [(1001,7),(1101,1108)] 2000 rfl rfl rfl (by cases a<;>rfl) rfl rfl rfl ⟨rfl,by cases a<;>rfl,rfl,rfl,trivial⟩ (L' F a b (by omega)) (fun r Bn hp=>?_))
   obtain⟨rfl,rfl⟩:=hp
   refine ae 1 aa ?_
   refine al (cV rfl rfl (by omega) ?_)
   refine ae 3 aa (af ?_)
   refine ax ?_
   exact bB rfl rfl (by rw[←G];rfl)
  obtain rfl:d=39:=rm 39 (by simp at K;omega) rfl
  have PY:=(List.getElem?_eq_some_iff.1 A).1
  refine aT (ai ?_)
  refine al (jI (bZ:=[.vp 1001 0,.d (.i .u8 ((39:UInt8).toNat:Nat))]) (Bi:=mV a 1001 1101 b) [(1001,7),(1101,1108)] 2000 rfl rfl rfl (by cases a<;>rfl) rfl rfl rfl ⟨rfl,by cases a<;>rfl,rfl,rfl,trivial⟩ (MO F X a b 39 (by omega)) (fun r Bn hp=>?_))
  obtain⟨rfl,rfl⟩:=hp
  refine af (bG (ae 1 aa ?_))
  refine al (cV rfl rfl (by omega) ?_)
  refine ae 1 aa (af ?_)
  refine bG (ae 1 aa ?_)
  refine al (cV rfl rfl (by omega) ?_)
  refine ae 1 aa (af ?_)
  exact⟨s.length-(j+1+1),by omega,j+1+1,true,b++[39],by omega,rfl,by rw[←L9 O A,G],by simp only[bJ,dj,dJ];omega,⟨rfl,rfl,rfl,rfl,rfl,rfl,rfl,trivial⟩,rfl,rfl,trivial⟩
 rw[MN (by simp at I;omega)] at G
 refine dM (ak 3 aa (ax ?_))
 exact bB rfl rfl (by rw[←G];rfl)
end Go.Ev.Pp
