/- Part 23 of rules for walks through the code of a program, and of such walks; what each part proves is said by its theorems. -/
import Derived.Test.YtijnechfhdlgiaaGreatDoorS22
set_option linter.unusedVariables false
set_option linter.unusedSimpArgs false
namespace Go.Ev.Pp
open Go
set_option maxRecDepth 10000
theorem NB{T:bd}(F:FT T)(X:FX T)(s:List UInt8)(c:UInt8):Sound T 167 [dS s,.d (.i .u8 (c.toNat:Nat))] fun r=>r=dI (eO c s):=by
 refine eh F.aao aa (al 1 aa (ai (ae 2 aa (ak (cO (RG X s c) aa aa ?_)))))
 refine ae 1 aa (af ?_)
 exact ax (bx aa aa aa)
theorem MW{T:bd}(F:FT T)(X:FX T)(s:List UInt8)(c:UInt8):Sound T 118 [dS s,.d (.i .u8 (c.toNat:Nat))] fun r=>r=dI (eO c s):=by
 refine eh F.ZS aa (al 1 aa (ai (ae 2 aa (ak (cO (NB F X s c) aa aa ?_)))))
 refine ae 1 aa (af ?_)
 exact ax (bx aa aa aa)
theorem O5{T:bd}(F:FT T)(s p:List UInt8):Sound T 267 [dS s,dS p] fun r=>r=dB (preB s p):=by
 refine eh F.abj aa (al 1 aa (ai (ae 6 aa (dc (g:=aT) aa (fun z=>?_) (fun z=>?_)))))
 ·have A:preB s p=decide ((s.drop 0).take (p.length-0)=p):=by unfold preB;rw[show decide (p.length≤s.length)=true by simp at z⊢;omega];rfl
  refine ao aa (z) (bN aa ?_)
  refine ao aa (z) (bN aa ?_)
  refine ao aa (z) (w9 aa ?_)
  refine ao rfl (z) (kh (l:=0) (h:=p.length) rfl ⟨_,rfl⟩ rfl (by omega) (by simp at z;omega) ?_)
  refine ao aa (z) (bN aa ?_)
  refine ao aa (z) (oA aa aa ?_)
  refine ak (cT aa (z) aa ?_)
  refine ae 1 aa (af ?_)
  refine ax ?_
  exact bx rfl rfl (by rw[A];rfl)
 have A:preB s p=false:=by unfold preB;rw[show decide (p.length≤s.length)=false by simp at z⊢;omega];rfl
 refine aO aa (z) (aO aa (z) (aO aa (z) (aO aa (z) (aO aa (z) (aO aa (z) (ak (cJ aa (z) aa ?_)))))))
 refine ae 1 aa (af ?_)
 refine ax ?_
 exact bx rfl rfl (by rw[A];rfl)
theorem Wo{T:bd}(F:FT T)(s p:List UInt8):Sound T 242 [dS s,dS p] fun r=>r=dB (preB s p):=by
 refine eh F.aa8 aa (al 1 aa (ai (ae 2 aa (ak (cO (O5 F s p) aa aa ?_)))))
 refine ae 1 aa (af ?_)
 exact ax (bx aa aa aa)
theorem Xm{T:bd}(F:FT T)(s p:List UInt8):Sound T 265 [dS s,dS p] fun r=>r= .tuple [dS (if preB s p=true then s.drop p.length else s),dB (preB s p)]:=by
 refine eh F.abh aa (al 2 aa (aK (ai (ae 2 aa (ak (cO (O5 F s p) aa aa ?_))))))
 refine ae 1 aa (af ?_)
 refine aI aa (fun z=>?_) (fun z=>?_)
 ·have hp:preB s p=false:=by simpa using z
  refine al 3 aa (ax ?_)
  exact bx rfl rfl (by rw[hp];rfl)
 have hp:preB s p=true:=by simpa using z
 have A:p.length≤s.length:=by unfold preB at hp;simp at hp;exact hp.1
 refine aQ (ai (ae 3 aa (ak (kh (l:=p.length) (h:=s.length) aa aa ⟨_,aa⟩ A (bV _) ?_))))
 rw[show(s.drop p.length).take (s.length-p.length)=s.drop p.length from pf (by rw[gy];omega)]
 refine ae 2 aa (af ?_)
 refine ax ?_
 exact bx rfl rfl (by rw[hp];rfl)
theorem Wp{T:bd}(F:FT T)(s p:List UInt8):Sound T 240 [dS s,dS p] fun r=>r= .tuple [dS (if preB s p=true then s.drop p.length else s),dB (preB s p)]:=by
 refine eh F.aa6 aa (al 2 aa (ai (ae 2 aa (ak (cO (Xm F s p) aa aa ?_)))))
 refine ae 4 aa (af ?_)
 exact ax (bx aa aa aa)
theorem Wq{T:bd}(F:FT T)(X:FX T)(s:List UInt8)(c:UInt8):Sound T 232 [dS s,dS [c]] fun r=>r=dI (eO c s):=by
 refine eh F.aa0 aa (al 1 aa (al 3 aa (aK (bJ (ai (ae 3 aa (ao aa aa (bN aa ?_))))))))
 refine ao aa aa (bN aa ?_)
 refine ao aa aa (oA aa aa ?_)
 refine ae 2 aa (af ?_)
 refine aI aa (fun z=>?_) (fun z=>?_)
 ·have A:s=[c]:=(by simpa using z:[c]=s).symm
  have G:eO c s=0:=by rw[A];exact aw rfl
  refine al 1 aa (ax ?_)
  exact bx rfl rfl (by rw[G];rfl)
 refine al 3 aa (fm aa aa (ai (ae 2 aa (ak (fG (j:=0) (c:=c) aa aa aa ?_)))))
 refine ak (cO (NB F X s c) aa aa ?_)
 refine ae 1 aa (af ?_)
 exact ax (bx aa aa aa)
theorem abJ{T:bd}(F:FT T)(X:FX T)(s:List UInt8)(c:UInt8)(I:s.length<1000000):Sound T 266 [dS s,dS [c]] fun r=>r= .tuple [dS (eU s c).1,dS (eU s c).2.1,dB (eU s c).2.2]:=by
 refine eh F.abi aa (al 3 aa (aK (ai (ae 2 aa (ak (cO (Wq F X s c) aa aa ?_))))))
 refine ae 1 aa (af ?_)
 refine al 2 aa (aI aa (fun z=>?_) (fun z=>?_))
 ·obtain⟨k,hk⟩:∃k:Nat,eO c s=(k:Int):=⟨(eO c s).toNat,by simp at z;omega⟩
  have G:=MS c s
  rw[hk] at G
  have A:eU s c=(s.take k,s.drop (k+1),true):=by unfold eU;rw[hk,aw (by omega),E6]
  rw[hk]
  refine eZ (bk 2 aa ?_)
  refine c8 (kh (l:=0) (h:=k) rfl ⟨_,rfl⟩ rfl (by omega) (by omega) ?_)
  refine bk 4 aa ?_
  refine c8 (jX rfl rfl (by show _≤(k:Int)+Int.ofNat 1;simp only[bb];omega) (by show(k:Int)+Int.ofNat 1≤_;simp only[bb];omega) ?_)
  refine c8 (kh (l:=k+1) (h:=s.length) rfl rfl ⟨_,rfl⟩ (by omega) (by omega) ?_)
  rw[show(s.drop (k+1)).take (s.length-(k+1))=s.drop (k+1) from pf (by rw[gy];omega)]
  refine bk 3 aa (c6 ?_)
  refine ax ?_
  exact bx rfl rfl (by rw[A];rfl)
 have A:eU s c=(s,[],false):=by unfold eU;rw[aj (by simp at z;omega)]
 refine aQ (al 4 aa (ax ?_))
 exact bx rfl rfl (by rw[A];rfl)
theorem Xn{T:bd}(F:FT T)(X:FX T)(s:List UInt8)(c:UInt8)(z:s.length<1000000):Sound T 241 [dS s,dS [c]] fun r=>r= .tuple [dS (eU s c).1,dS (eU s c).2.1,dB (eU s c).2.2]:=by
 refine eh F.aa7 aa (al 3 aa (ai (ae 2 aa (ak (cO (abJ F X s c z) aa aa ?_)))))
 refine ae 6 aa (af ?_)
 exact ax (bx aa aa aa)
theorem abK{T:bd}(F:FT T)(s:List UInt8)(c:UInt8)(Z:s.length<1000000):Sound T 234 [dS s,.d (.i .u8 (c.toNat:Nat))] fun r=>r=dB (decide (c∈s)):=by
 refine eh F.aa1 aa (al 1 aa (aK (al 1 aa (bJ ?_))))
 refine dY (fun k VE B=>∃i,i≤s.length∧k=s.length-i∧(∀x,x∈s.take i→x≠c)∧br [(0,dS s),(1,.d (.i .u8 (c.toNat:Nat))),(4,dB false),(5,dI (i:Nat))] VE∧br [] B) ?_ (k:=s.length) ⟨0,da _,rfl,fun _ h=>(by cases h),⟨rfl,rfl,rfl,rfl,trivial⟩,trivial⟩
 rintro k VE B⟨i,hi,rfl,G,U,Y⟩
 refine dn _ _ U Y (aK (al 4 aa (aI aa (fun I=>?_) (fun I=>?_))))
 ·have J:i<s.length:=by simp at I;omega
  obtain⟨b,K⟩:=jD J
  refine aQ (aK (bJ (ai (ae 2 aa (ak (fG aa aa K ?_))))))
  refine ae 1 aa (ak (hY aa aa ?_))
  refine af (aI aa (fun z=>?_) (fun z=>?_))
  ·have O:decide (c∈s)=true:=by(obtain rfl:b=c:=UInt8.toNat_inj.1 (by simp at z;omega));simpa using kY K
   refine al 1 aa (ax ?_)
   exact bx rfl rfl (by rw[O];rfl)
  refine aQ (bD (ae 1 aa ?_))
  refine ak (cM rfl rfl (by omega) ?_)
  refine ae 1 aa (af ?_)
  exact⟨s.length-(i+1),by omega,i+1,by omega,rfl,fun x A=>by(rw[take_succ K] at A;rcases List.mem_append.1 A with A|A;exact G x A;rcases List.mem_singleton.1 A with rfl;exact fun e=>absurd z (by rw[e];simp)),⟨rfl,rfl,rfl,rfl,trivial⟩,trivial⟩
 have O:decide (c∈s)=false:=by(have:i=s.length:=by simp at I;omega);subst this;rw[HV] at G;simpa using fun k=>G c k rfl
 refine dD (al 1 aa (ax ?_))
 exact bx rfl rfl (by rw[O];rfl)
open Go
set_option maxRecDepth 10000
theorem MX(s:List UInt8):(eU (s.drop 1) 44).2.1.length≤s.length:=by
 unfold eU;split
 ·simp only[gy];omega
 exact da _
set_option maxHeartbeats 2000000 in
theorem abL{T:bd}(F:FT T)(X:FX T)(s:List UInt8)(hs:s.length<1000000):Sound T 213 [dS s] fun r=>r=lJ (l5 s):=by
 refine eh F.aaR aa (al 2 aa (ai (ae 1 aa (ak (cO (Wp F s [91]) aa aa ?_)))))
 refine ae 5 aa (af ?_)
 refine aK (al 2 aa (aI aa (fun I=>?_) (fun I=>?_)))
 ·have G:l5 s=((0,0),5):=aj (fun k=>by rw[k.1] at I;cases I)
  refine al 3 aa (ax ?_)
  exact bx rfl rfl (by unfold lJ;rw[G];rfl)
 have hp:preB s [91]=true:=by simpa using I
 rw[aw hp]
 rw[show s.drop [(91:UInt8)].length=s.drop 1 from rfl]
 refine aQ (ai (ae 1 aa ?_))
 refine ak (cO (Xn F X (s.drop 1) 44 (by rw[gy];omega)) rfl rfl ?_)
 refine ae 7 aa (af ?_)
 refine aK (ai (ae 3 aa (dc (g:=bX) aa (fun dy=>?_) (fun dy=>?_))))
 ·have G:l5 s=((0,0),5):=aj (fun k=>by rw[k.2.1] at dy;cases dy)
  refine aO aa (dy) (aO aa (dy) (aO aa (dy) (ak (cT aa (dy) aa ?_))))
  refine ae 1 aa (aO aa aa (aO aa aa (aO aa aa (aO aa aa (aO aa aa (aO aa aa (ae 1 aa (af ?_))))))))
  refine fm aa aa (al 3 aa (ax ?_))
  exact bx rfl rfl (by unfold lJ;rw[G];rfl)
 refine ao aa (dy) (bN aa ?_)
 refine ao aa (dy) (cO (Wo F (eU (s.drop 1) 44).2.1 [32]) aa aa ?_)
 refine ao aa (dy) (jH aa ?_)
 refine ak (cJ aa (dy) aa ?_)
 refine ae 1 aa (dc (g:=cj) aa (fun z=>?_) (fun z=>?_))
 ·have G:l5 s=((0,0),5):=aj (fun k=>by rw[k.2.2.1] at z;cases z)
  refine aO aa (z) (aO aa (z) (aO aa (z) (aO aa (z) (aO aa (z) (aO aa (z) (ak (cT aa (z) aa ?_)))))))
  refine af (fm aa aa (al 3 aa (ax ?_)))
  exact bx rfl rfl (by unfold lJ;rw[G];rfl)
 refine ao aa (z) (bN aa ?_)
 refine ao aa (z) (cO (MW F X (eU (s.drop 1) 44).2.1 41) aa aa ?_)
 refine ao aa (z) (bN aa ?_)
 refine ao aa (z) (w9 aa ?_)
 refine ao rfl (z) (gm rfl rfl (by simp only[bb];omega) (by have:=MX s;simp only[bb];omega) ?_)
 refine ao aa (z) (iD aa aa ?_)
 refine ak (cJ aa (z) aa ?_)
 refine af (aI aa (fun J=>?_) (fun J=>?_))
 ·have G:l5 s=((0,0),5):=aj (fun k=>by(simp only[IH,fC] at J;exact J k.2.2.2))
  refine al 3 aa (ax ?_)
  exact bx rfl rfl (by unfold lJ;rw[G];rfl)
 have hg:AP (eU (s.drop 1) 44).2.1:=⟨by simpa using z,by simpa using J⟩
 have G:l5 s=mq (fr (eU (s.drop 1) 44).1) (fr (((eU (s.drop 1) 44).2.1.drop 1).take ((eU (s.drop 1) 44).2.1.length-1-1))):=aw ⟨hp,by simpa using dy,hg⟩
 have QA:=Ln hg
 refine aQ (ai (ae 1 aa (ak (cO (I1 F _) aa aa ?_))))
 refine ae 5 aa (af ?_)
 refine aK (al 2 aa (aI aa (fun K=>?_) (fun K=>?_)))
 ·have A:mq (fr (eU (s.drop 1) 44).1) (fr (((eU (s.drop 1) 44).2.1.drop 1).take ((eU (s.drop 1) 44).2.1.length-1-1)))=((0,0),(fr (eU (s.drop 1) 44).1).2):=aw (by simpa using K)
  refine al 4 aa (ax ?_)
  exact bx rfl rfl (by unfold lJ;rw[G,A];rfl)
 have O:¬¬(fr (eU (s.drop 1) 44).1).2=0:=by simpa using K
 refine aQ (ai (ae 3 aa ?_))
 refine ak (gm rfl rfl (by simp only[bb];omega) (by have:=MX s;simp only[bb];omega) ?_)
 rw[show(((eU (s.drop 1) 44).2.1.length:Nat):Int) -Int.ofNat 1=(((eU (s.drop 1) 44).2.1.length-1:Nat):Int) by simp only[bb];omega]
 refine ak (kh (l:=1) (h:=(eU (s.drop 1) 44).2.1.length-1) rfl ⟨_,rfl⟩ ⟨_,rfl⟩ (by omega) (by omega) ?_)
 refine ak (cO (I1 F _) aa aa ?_)
 refine ae 5 aa (af ?_)
 refine aK (al 2 aa (aI aa (fun U=>?_) (fun U=>?_)))
 ·have A:mq (fr (eU (s.drop 1) 44).1) (fr (((eU (s.drop 1) 44).2.1.drop 1).take ((eU (s.drop 1) 44).2.1.length-1-1)))=((0,0),(fr (((eU (s.drop 1) 44).2.1.drop 1).take ((eU (s.drop 1) 44).2.1.length-1-1))).2):=by unfold mq;rw[aj O,aw (by simpa using U)]
  refine al 4 aa (ax ?_)
  exact bx rfl rfl (by unfold lJ;rw[G,A];rfl)
 have Z:¬¬(fr (((eU (s.drop 1) 44).2.1.drop 1).take ((eU (s.drop 1) 44).2.1.length-1-1))).2=0:=by simpa using U
 refine aQ (aK (al 3 aa (aI aa (fun Y=>?_) (fun Y=>?_))))
 ·have A:mq (fr (eU (s.drop 1) 44).1) (fr (((eU (s.drop 1) 44).2.1.drop 1).take ((eU (s.drop 1) 44).2.1.length-1-1)))=((0,0),10):=by unfold mq;rw[aj O,aj Z,aw (by simpa using Y)]
  refine al 3 aa (ax ?_)
  exact bx rfl rfl (by unfold lJ;rw[G,A];rfl)
 have A:mq (fr (eU (s.drop 1) 44).1) (fr (((eU (s.drop 1) 44).2.1.drop 1).take ((eU (s.drop 1) 44).2.1.length-1-1)))=(((fr (eU (s.drop 1) 44).1).1,(fr (((eU (s.drop 1) 44).2.1.drop 1).take ((eU (s.drop 1) 44).2.1.length-1-1))).1),0):=by unfold mq;rw[aj O,aj Z,aj (by simpa using Y)]
 refine aQ (al 5 aa (ax ?_))
 exact bx rfl rfl (by unfold lJ;rw[G,A];rfl)
set_option maxHeartbeats 2000000 in
theorem Xo{T:bd}(F:FT T)(s:List UInt8)(hs:s.length<1000000):Sound T 198 [dS s] fun r=>r=lJ (l5 s):=by
 refine eh F.aaF aa (al 2 aa (aK (ai (ae 4 aa (dc (g:=aV) aa (fun bM=>?_) (fun bM=>?_))))))
 ·have J:l5 s=((0,0),5):=Hv (.inl (by simp at bM;omega))
  refine aO aa (bM) (aO aa (bM) (aO aa (bM) (ak (cT aa (bM) aa ?_))))
  refine ae 1 aa (aO aa aa (aO aa aa (aO aa aa (aO aa aa (aO aa aa (aO aa aa (ae 1 aa (af ?_))))))))
  refine fm aa aa (al 3 aa (ax ?_))
  exact bx rfl rfl (by unfold lJ;rw[J];rfl)
 have hl4:4≤s.length:=by simp at bM;omega
 obtain⟨a,h0⟩:=jD (s:=s) (i:=0) (by omega)
 obtain⟨b,h1⟩:=jD (s:=s) (i:=s.length-1) (by omega)
 have BH:(dA s).length=s.length-2:=by unfold dA;rw[jw,gy];omega
 refine ao aa (bM) (bN aa ?_)
 refine ao aa (bM) (fG aa aa h0 ?_)
 refine ao aa (bM) (iD aa aa ?_)
 refine ak (cJ aa (bM) aa ?_)
 refine ae 1 aa (dc (g:=bj) aa (fun z=>?_) (fun z=>?_))
 ·have J:l5 s=((0,0),5):=Hv (.inr (.inl fun k=>by(have h:=wb (h0.symm.trans k);subst h;simp at z)))
  refine aO aa (z) (aO aa (z) (aO aa (z) (aO aa (z) (aO aa (z) (aO aa (z) (ak (cT aa (z) aa ?_)))))))
  refine af (fm aa aa (al 3 aa (ax ?_)))
  exact bx rfl rfl (by unfold lJ;rw[J];rfl)
 refine ao aa (z) (bN aa ?_)
 refine ao aa (z) (bN aa ?_)
 refine ao aa (z) (w9 aa ?_)
 refine ao rfl (z) (gm rfl rfl (by simp only[bb];omega) (by simp only[bb];omega) ?_)
 rw[show((s.length:Nat):Int) -Int.ofNat 1=((s.length-1:Nat):Int) by simp only[bb];omega]
 refine ao aa (z) (fG aa aa h1 ?_)
 refine ao aa (z) (iD aa aa ?_)
 refine ak (cJ aa (z) aa ?_)
 refine af (aI aa (fun U=>?_) (fun U=>?_))
 ·have J:l5 s=((0,0),5):=Hv (.inr (.inr fun k=>by(have h:=wb (h1.symm.trans k);subst h;simp at U)))
  refine al 3 aa (ax ?_)
  exact bx rfl rfl (by unfold lJ;rw[J];rfl)
 obtain rfl:a=91:=rO 91 (by simp at z;omega) rfl
 obtain rfl:b=41:=rO 41 (by simp at U;omega) rfl
 have O:=Wm hl4 h0 h1
 refine aQ (ai (ae 3 aa ?_))
 refine ak (gm rfl rfl (by simp only[bb];omega) (by simp only[bb];omega) ?_)
 rw[show((s.length:Nat):Int) -Int.ofNat 1=((s.length-1:Nat):Int) by simp only[bb];omega]
 refine ak (kh (l:=1) (h:=s.length-1) rfl ⟨_,rfl⟩ ⟨_,rfl⟩ (by omega) (by omega) ?_)
 rw[show(s.drop 1).take (s.length-1-1)=dA s from rfl]
 refine ae 1 aa (af ?_)
 refine al 1 aa (vY (fun VE B=>∃k:Nat,k≤(dA s).length∧(∀j x,j<k→(dA s)[j]?=some x→x≠44)∧(k<(dA s).length→(dA s)[k]?=some 44)∧br [(0,dS s),(2,.vp 2 0),(3,d0),(4,dS (dA s)),(5,dI (k:Nat))] VE∧br [(2,.one 42 16 [d0,d0])] B) ?_ ?_)
 ·rintro VE B⟨k,hk,hn,hc,hV,hB⟩
  refine dn _ _ hV hB (aK (ai (ae 1 aa ?_)))
  refine ak (cM rfl rfl (by omega) ?_)
  refine ae 4 aa (dc (g:=d9) aa (fun A=>?_) (fun A=>?_))
  ·have J:l5 s=((0,0),5):=Hu O hk hn hc (.inl (by simp at A;omega))
   refine aO aa (A) (aO aa (A) (aO aa (A) (aO aa (A) (aO aa (A) (ak (cT aa (A) aa ?_))))))
   refine ae 1 aa (aO aa aa (aO aa aa (aO aa aa (aO aa aa (aO aa aa (ae 1 aa (af ?_)))))))
   refine fm aa aa (al 3 aa (ax ?_))
   exact bx rfl rfl (by unfold lJ;rw[J];rfl)
  have QL:k+1<(dA s).length:=by simp at A;omega
  obtain⟨c,Y⟩:=jD QL
  refine ao aa (A) (bN aa ?_)
  refine ao aa (A) (bN aa ?_)
  refine ao rfl (A) (cM rfl rfl (by omega) ?_)
  refine ao aa (A) (fG aa aa Y ?_)
  refine ao aa (A) (iD aa aa ?_)
  refine ak (cJ aa (A) aa ?_)
  refine ae 1 aa (dc (g:=eL) aa (fun G=>?_) (fun G=>?_))
  ·have J:l5 s=((0,0),5):=Hu O hk hn hc (.inr (.inl fun h=>by(have h:=wb (Y.symm.trans h);subst h;simp at G)))
   refine aO aa (G) (aO aa (G) (aO aa (G) (aO aa (G) (aO aa (G) (ak (cT aa (G) aa ?_))))))
   refine af (fm aa aa (al 3 aa (ax ?_)))
   exact bx rfl rfl (by unfold lJ;rw[J];rfl)
  refine ao aa (G) (bN aa ?_)
  refine ao aa (G) (bN aa ?_)
  refine ao rfl (G) (jX rfl rfl (by simp only[bb];omega) (by simp only[bb];omega) ?_)
  rw[show((k:Nat):Int)+Int.ofNat 2=((k+2:Nat):Int) from rfl]
  refine ao rfl (G) (kh (l:=k+2) (h:=(dA s).length) rfl rfl ⟨_,rfl⟩ (by omega) (by omega) ?_)
  rw[show((dA s).drop (k+2)).take ((dA s).length-(k+2))=(dA s).drop (k+2) from pf (by rw[gy];omega)]
  refine ao rfl (G) (cO (abK F ((dA s).drop (k+2)) 41 (by rw[gy];omega)) rfl rfl ?_)
  refine ak (cJ aa (G) aa ?_)
  refine af (aI aa (fun Z=>?_) (fun Z=>?_))
  ·have J:l5 s=((0,0),5):=Hu O hk hn hc (.inr (.inr ⟨41,by simpa using Z,rfl⟩))
   refine al 3 aa (ax ?_)
   exact bx rfl rfl (by unfold lJ;rw[J];rfl)
  obtain rfl:c=32:=rO 32 (by simp at G;omega) rfl
  have J:l5 s=mq (fr ((dA s).take k)) (fr ((dA s).drop (k+2))):=Vg O QL hn (hc (by omega)) Y (fun x hx e=>by(subst e;simp[hx] at Z))
  refine aQ (ai (ae 2 aa ?_))
  refine ak (kh (l:=0) (h:=k) rfl ⟨_,rfl⟩ rfl (by omega) (by omega) ?_)
  rw[show((dA s).drop 0).take (k-0)=(dA s).take k from rfl]
  refine ak (cO (Is F _) aa aa ?_)
  refine ae 5 aa (af ?_)
  refine aK (al 2 aa (aI aa (fun BW=>?_) (fun BW=>?_)))
  ·have K:mq (fr ((dA s).take k)) (fr ((dA s).drop (k+2)))=((0,0),(fr ((dA s).take k)).2):=aw (by simpa using BW)
   refine al 4 aa (ax ?_)
   exact bx rfl rfl (by unfold lJ;rw[J,K];rfl)
  have vl:¬¬(fr ((dA s).take k)).2=0:=by simpa using BW
  refine aQ (ai (ae 2 aa ?_))
  refine ak (jX rfl rfl (by simp only[bb];omega) (by simp only[bb];omega) ?_)
  rw[show((k:Nat):Int)+Int.ofNat 2=((k+2:Nat):Int) from rfl]
  refine ak (kh (l:=k+2) (h:=(dA s).length) rfl rfl ⟨_,rfl⟩ (by omega) (by omega) ?_)
  rw[show((dA s).drop (k+2)).take ((dA s).length-(k+2))=(dA s).drop (k+2) from pf (by rw[gy];omega)]
  refine ak (cO (Is F _) aa aa ?_)
  refine ae 5 aa (af ?_)
  refine aK (al 2 aa (aI aa (fun BX=>?_) (fun BX=>?_)))
  ·have K:mq (fr ((dA s).take k)) (fr ((dA s).drop (k+2)))=((0,0),(fr ((dA s).drop (k+2))).2):=by unfold mq;rw[aj vl,aw (by simpa using BX)]
   refine al 4 aa (ax ?_)
   exact bx rfl rfl (by unfold lJ;rw[J,K];rfl)
  have FY:¬¬(fr ((dA s).drop (k+2))).2=0:=by simpa using BX
  refine aQ (aK (al 3 aa (aI aa (fun BY=>?_) (fun BY=>?_))))
  ·have K:mq (fr ((dA s).take k)) (fr ((dA s).drop (k+2)))=((0,0),10):=by unfold mq;rw[aj vl,aj FY,aw (by simpa using BY)]
   refine al 3 aa (ax ?_)
   exact bx rfl rfl (by unfold lJ;rw[J,K];rfl)
  have K:mq (fr ((dA s).take k)) (fr ((dA s).drop (k+2)))=(((fr ((dA s).take k)).1,(fr ((dA s).drop (k+2))).1),0):=by unfold mq;rw[aj vl,aj FY,aj (by simpa using BY)]
  refine aQ (al 5 aa (ax ?_))
  exact bx rfl rfl (by unfold lJ;rw[J,K];rfl)
 refine bJ (dY (fun m VE B=>∃i,i≤(dA s).length∧m=(dA s).length-i∧(∀j x,j<i→(dA s)[j]?=some x→x≠44)∧br [(0,dS s),(2,.vp 2 0),(3,d0),(4,dS (dA s)),(5,dI (i:Nat))] VE∧br [(2,.one 42 16 [d0,d0])] B) ?_ (k:=(dA s).length) ⟨0,da _,aa,fun _ _ h=>absurd h (HW _),⟨aa,aa,aa,aa,aa,trivial⟩,aa,trivial⟩)
 rintro m VE B⟨i,hi,rfl,hd,hV,hB⟩
 refine dn _ _ hV hB (aK (ai (ae 5 aa (dc (g:=cS) aa (fun I=>?_) (fun I=>?_)))))
 ·have abM:i<(dA s).length:=by simp at I;omega
  obtain⟨c,zb⟩:=jD abM
  refine ao aa (I) (bN aa ?_)
  refine ao aa (I) (bN aa ?_)
  refine ao aa (I) (fG aa aa zb ?_)
  refine ao aa (I) (iD aa aa ?_)
  refine ak (cT aa (I) aa ?_)
  refine af (aI aa (fun r4=>?_) (fun r4=>?_))
  ·refine aQ (bJ (bD (ae 1 aa ?_)))
   refine ak (cM rfl rfl (by omega) ?_)
   refine ae 1 aa (af ?_)
   exact⟨(dA s).length-(i+1),by omega,i+1,by omega,rfl,fun j x hj hx=>by(rcases Nat.lt_succ_iff_lt_or_eq.1 hj with k|rfl;exact hd j x k hx;rw[zb] at hx;cases hx;exact fun e=>by(subst e;simp at r4)),⟨rfl,rfl,rfl,rfl,rfl,trivial⟩,rfl,trivial⟩
  refine dD ?_
  exact⟨i,hi,hd,fun _=>by(rw[zb];exact congrArg some (rO 44 (by simp at r4;omega) rfl)),⟨rfl,rfl,rfl,rfl,rfl,trivial⟩,rfl,trivial⟩
 have he:i=(dA s).length:=by simp at I;omega
 refine aO aa (I) (aO aa (I) (aO aa (I) (aO aa (I) (ak (cJ aa (I) aa ?_)))))
 refine af (eC aa aa (dD ?_))
 exact⟨i,hi,hd,fun h=>by omega,⟨rfl,rfl,rfl,rfl,rfl,trivial⟩,rfl,trivial⟩
open Go
set_option maxRecDepth 10000
variable{s:List UInt8}
def ta(neg:Bool)(s:List UInt8):Option Int:=if(d6 s:Int)<9223372036854775808∨(neg=true∧(d6 s:Int)=9223372036854775808) then some (if neg=true then-(d6 s:Int) else(d6 s:Int)) else none
def rI:Rd:=⟨fr,l5,ta⟩
theorem Lo:∀(s:List UInt8)(acc:Nat),(∀c,c∈s→48≤c.toNat∧c.toNat≤57)→(acc+1)*10^s.length≤10^19→Lib.parseUintM (2^64-1) acc s= .ok (s.foldl (fun n c=>n*10+(c.toNat-48)) acc)
 |[],_,_,_=>rfl
 |c::r,acc,h,z=>by
  have A:=h c kG
  rw[cP,yz] at z
  have hp:0<10^r.length:=Nat.pow_pos (by decide)
  have I:(acc+1)*10≤10^19:=j7 (by rw[mY (10^r.length) 10,←AT];exact IB _ hp) z
  show(if 48≤c.toNat∧c.toNat≤57 then if 1844674407370955162≤acc then Lib.NumEnd.range else if 2^64-1<acc*10+(c.toNat-48) then .range else Lib.parseUintM (2^64-1) (acc*10+(c.toNat-48)) r else _)=_
  rw[aw A,aj (by omega),aj (by omega)]
  exact Lo r _ (fun x G=>h x (nZ _ G)) (j7 (by
   rw[mY (10^r.length) 10,←AT]
   exact kZ _ (by omega)) z)
theorem Ma(h:nO s):Lib.parseUintB 64 s= .ok (d6 s):=by
 obtain⟨z,h2,A⟩:=h
 unfold Lib.parseUintB
 rw[aj (by intro k;rw[k] at z;exact absurd z (by decide))]
 exact Lo s 0 A (by rw[jx,sN];exact AV (by decide) h2)
theorem NC{c:UInt8}{r:List UInt8}{u:Nat}(z:Lib.parseUintB 64 (if c.toNat=43∨c.toNat=45 then r else c::r)= .ok u):Lib.parseIntB 64 (c::r)=if¬c.toNat=45∧2^(64-1)≤u then .range else if c.toNat=45∧2^(64-1)<u then .range else .ok (if c.toNat=45 then-(u:Int) else u):=by
 unfold Lib.parseIntB;simp only[z]
theorem Ws(h:d6 s≤9223372036854775808):ta true s=some (-(d6 s:Int)):=aw (by
 rcases Ar h with h|h
 ·exact .inl (by omega)
 exact .inr ⟨rfl,by omega⟩)
theorem Wt(h:d6 s<9223372036854775808):ta false s=some (d6 s:Int):=aw (.inl (by omega))
theorem Vh(h:9223372036854775808<d6 s):ta true s=none:=aj (by
 rintro(k|⟨_,k⟩)<;>omega)
theorem Vi(h:9223372036854775808≤d6 s):ta false s=none:=aj (by
 rintro(k|⟨k,_⟩)
 ·omega
 cases k)
theorem Vj(neg:Bool)(h:nO s):Lib.parseIntB 64 (if neg=true then 45::s else s)=match ta neg s with|some m=>.ok m|none=>.range:=by
 have A:=Ma h
 have G:2^(64-1)=9223372036854775808:=by decide
 cases neg with
 |true=>
  have e:(45:UInt8).toNat=45:=rfl
  rw[aw rfl,NC (u:=d6 s) (by rw[aw (.inr e)];exact A),G]
  by_cases k:9223372036854775808<d6 s
  ·rw[aj (fun k=>k.1 e),aw ⟨e,k⟩,Vh k]
  rw[aj (fun k=>k.1 e),aj (fun z=>k z.2),aw e,Ws (by omega)]
 |false=>
  obtain⟨I,h2,J⟩:=h
  match s,I with
  |c::r,_=>
   have K:=J c kG
   have e:¬c.toNat=45:=by omega
   rw[aj (by decide),NC (u:=d6 (c::r)) (by rw[aj (by omega)];exact A),G]
   by_cases k:9223372036854775808≤d6 (c::r)
   ·rw[aw ⟨e,k⟩,Vi k]
   rw[aj (fun z=>k z.2),aj (fun z=>e z.1),aj e,Wt (by omega)]
theorem Vk(y m d:Nat):(IZ (jM y m d)).1≤1000000:=by
 unfold jM
 split
 ·decide
 split
 ·decide
 rename_i h;show s9 y m d≤_;omega
theorem Vl(s:List UInt8):(fr s).1≤1000000:=by
 unfold fr
 split
 ·decide
 split
 ·decide
 split
 ·decide
 exact Vk ..
theorem leaf{T:bd}(F:FT T)(X:FX T):hM T rI where
 uint s h:=by have h2:=h.2.1;exact Sa X.abA X.abB (by omega) (Ma h)
 sint neg s h:=by
  obtain⟨t,A⟩:=X.abD
  have h2:=h.2.1
  have e:=Vj neg h
  refine(SV X.abC A (s:=if neg=true then 45::s else s) (by split<;>(try rw[cP])<;>omega) (by rw[e];cases ta neg s;exact .inr rfl;exact .inl ⟨_,rfl⟩)).mono fun v G=>?_
  obtain⟨n,x,I,hp⟩:=G
  refine⟨n,x,I,?_⟩
  rw[e] at hp
  simp only[rI]
  cases hi:ta neg s with
  |none=>
   rw[hi] at hp
   rcases hp with⟨m,z,_⟩|⟨_,h2⟩
   ·cases z
   exact .inr ⟨aa,h2⟩
  |some m=>
   rw[hi] at hp
   rcases hp with⟨K,z,h2,J⟩|⟨z,_⟩
   ·cases z;exact .inl ⟨_,rfl,h2,J⟩
   cases z
 day s _:=I1 F s
 iC s h:=abL F X s (by omega)
theorem O6{T:bd}(F:FT T):kp T rI where
 day s _:=Is F s
 iC s h:=Xo F s (by omega)
 kN:=Vl
 int neg s:=by simp only[rI];unfold ta;exact Eq.refl _
end Go.Ev.Pp
namespace Go.Ev
open Go
variable{T:bd}{VE:b0}{B:bo}{Q:VV→bo→Prop}
theorem HK{neg:Bool}{x y:aF}{v w:VV}{t:Bool}(A:x.vv VE=some v)(G:y.vv VE=some w)(I:(∀H X β a b,aM H X β v a→aM H X β w b→nF .ptr a b=some t))(J:Q (dB (Bool.xor neg t)) B):VI T (.eqv .ptr neg x y) VE B [] Q:=fun _ _ _ _ _ z=>by
 obtain⟨a,K,h2⟩:=z.b8 A
 obtain⟨b,O,U⟩:=z.b8 G
 refine gf (v:=.bool (Bool.xor neg t)) (fun call=>?_) (eS z (v:=dB (Bool.xor neg t)) (by simp only[aM,cN]) J)
 show bB x _ (.err 7) (fun a=>bB y _ (.err 7) fun b=>ob (nF .ptr a b) (.err 7) fun r=>ni (Bool.xor neg r) fun r=>.ok (.bool r) _)=_
 rw[dj,K,di,dj,O,di,I _ _ _ _ _ h2 U,di]
 cases Bool.xor neg t<;>rfl
theorem Vm{neg:Bool}{x y:aF}(z:x.vv VE=some (.k .ik))(A:y.vv VE=some (.k .ik))(G:Q (dB (Bool.xor neg true)) B):VI T (.eqv .ptr neg x y) VE B [] Q:=
 HK z A (fun _ _ _ _ _ h k=>by simp only[aM] at h k;subst h;subst k;rfl) G
theorem Vn{neg:Bool}{x y:aF}{b o:Nat}(z:x.vv VE=some (.vp b o))(A:y.vv VE=some (.k .ik))(G:Q (dB (Bool.xor neg false)) B):VI T (.eqv .ptr neg x y) VE B [] Q:=
 HK z A (fun _ _ _ _ _ h k=>by simp only[aM] at h k;subst h;subst k;rfl) G
theorem Vo{neg:Bool}{x y:aF}{b o:Nat}(z:x.vv VE=some (.vp b o))(A:y.vv VE=some (.vp b o))(G:Q (dB (Bool.xor neg true)) B):VI T (.eqv .ptr neg x y) VE B [] Q:=
 HK z A (fun _ _ β _ _ h k=>by
  simp only[aM] at h k;subst h;subst k
  show aG (Nat.beq (β b) (β b)) (aG (Nat.beq 1 1) (aG (Nat.beq o o) (some true) none) none) none=_
  rw[iR,iR,iR];rfl) G
theorem Vp{f:Nat}{x:aF}{v:VV}(A:T.ft.get f=none)(h2:T.xt.get f=some 1)(G:x.vv VE=some v)(I:Q v B):VI T (.call f [x]) VE B [] Q:=fun _ _ _ H β z=>by
 obtain⟨a,J,K⟩:=z.b8 G
 refine⟨1,a,H,fun lf n _ O=>?_,eS z K I⟩
 obtain⟨n,rfl⟩:∃n',n=n'+1:=⟨n-1,by omega⟩
 show ob (jS _ [x]) (.err 42) (fun vs=>T.call lf (n+1) f vs H)=_
 rw[show jS _ [x]=some [a] from ?_,di]
 ·show ob (T.ft.get f) (ob (T.xt.get f) (.err (Nat.add 10000 f)) fun c=>qM c _ H) _=_
  rw[A,h2];rfl
 exact LK J Ux
theorem Mb{t n:Nat}{x:aF}{b aP:Nat}{row:List VV}(A:x.vv VE=some (.vp b 0))(G:aY B b=some (.one t aP row))(I:row.length=n)(J:Q (.vp b 0) B):VI T (.qC t n x) VE B [] Q:=fun _ _ _ H β z=>by
 obtain⟨a,K,h2⟩:=z.b8 A
 have O:=h2
 simp only[aM] at h2
 subst h2
 obtain⟨l,lo,cs,U,Y,k3,Z⟩:=z.box b _ G
 have hl:l.length=n:=by rw[Z.length];exact I
 refine gf (v:=.ptr (β b) 1 0) (fun call=>?_) (eS z O J)
 show bB x _ (.err 44) (fun v=>aG (xI v) (.ok v H) (iE v (.err 44) fun f g off=>iY (H.t.get f) (.err 44) fun elem es _ m lo fl _=>
  aG (Nat.beq elem t) (aG (Nat.beq es n) (aG (Nat.beq off 0) (aG (Nat.ble lo g) (aG (Nat.ble g m) (aG (Nat.ble 1 g) (aG (Nat.beq fl 0) (.ok v H) (.err 44)) (.err 44)) (.err 44)) (.err 44)) (.err 44)) (.err 44)) (.err 44)))=_
 rw[dj,K,di]
 show iY (H.t.get (β b)) (aE.err 44) _=_
 rw[U]
 show aG (Nat.beq t t) (aG (Nat.beq l.length n) (aG (Nat.beq 0 0) (aG (Nat.ble lo 1) _ _) _) _) _=_
 rw[iR,hl,iR,show Nat.ble lo 1=true from jN Y]
 rfl
theorem Wu{x:aF}{b n es:Nat}(A:x.vv VE=some (.ac b n es))(h0:0<n)(G:Q (.bp b n 0 0 es) B):VI T (.ve x) VE B [] Q:=fun _ _ _ H β z=>by
 obtain⟨a,I,h2⟩:=z.b8 A
 simp only[aM] at h2
 rcases h2 with⟨h,_⟩|⟨_,rfl⟩
 ·omega
 refine gf (v:=.ptr (β b) n 0) (fun call=>?_) (eS z (v:=.bp b n 0 0 es) (by simp only[aM];rw[rJ]) G)
 show bB x _ (.err 45) (fun v=>gL v (.err 45) (.ok .ik H) fun f g off l _=>aG (Nat.beq l 0) (.err 45) (.ok (.ptr f g off) H))=_
 rw[dj,I,di]
 show aG (Nat.beq n 0) _ _=_
 cases n with
 |zero=>omega
 |succ n=>rfl
theorem Vq{x:aF}{b es:Nat}(A:x.vv VE=some (.ac b 0 es))(G:Q (.k .ik) B):VI T (.ve x) VE B [] Q:=fun _ _ _ H β z=>by
 obtain⟨a,I,h2⟩:=z.b8 A
 simp only[aM] at h2
 rcases h2 with⟨_,rfl⟩|⟨h,_⟩
 ·refine gf (v:=.ik) (fun call=>?_) (eS z (v:=.k .ik) (by simp only[aM]) G)
  show bB x _ (.err 45) (fun v=>gL v (.err 45) (.ok .ik H) fun f g off l _=>aG (Nat.beq l 0) (.err 45) (.ok (.ptr f g off) H))=_
  rw[dj,I,di];rfl
 omega
theorem Ua{e:Nat}{x n:aF}(G:x.vv VE=some (.k .ik))(I:n.vv VE=some (dI ((0:Nat):Int)))(J:Q (dS []) B):VI T (.qJ e x n) VE B [] Q:=fun _ _ _ H β z=>by
 obtain⟨a,K,h2⟩:=z.b8 G
 obtain⟨c,O,A⟩:=z.b8 I
 simp only[aM,cN] at h2 A
 subst h2;subst A
 refine gf (v:=.str 0 0) (fun call=>?_) (eS z (v:=dS []) (by simp only[aM,cB,cN];rfl) J)
 show bB x _ (.err 46) (fun p=>aG (xI p) (bB n _ (.err 46) fun U=>gO U (.err 46) fun k i=>jj i (.err 46) fun l=>aG (Nat.beq (dw k) 3) (aG (Nat.beq l 0) (.ok (.str 0 0) H) (.err 46)) (.err 46)) _)=_
 rw[dj,K,di]
 show bB n _ (.err 46) _=_
 rw[dj,O,di];rfl
def fE(c:UInt8):List DC:=[.i .u8 (c.toNat:Nat)]
theorem ND{H:az}{X:Nat→Prop}:∀{s:List UInt8}{ls:List (List an)},j' H X 1 ls (s.map fE)→nR ls=some (pack s)
 |[],ls,h=>by
  cases ls with
  |nil=>rfl
  |cons _ _=>exact absurd h (by simp[j'])
 |c::s,ls,h=>by
  cases ls with
  |nil=>exact absurd h (by simp[j'])
  |cons l r=>
   simp only[eF,j'] at h
   obtain⟨⟨G,h2⟩,z⟩:=h
   have A:=ND z
   simp only[fE,cY,cN] at h2
   obtain⟨_,_,rfl,rfl,rfl⟩:=h2
   have I:=c.toNat_lt
   show aG (Nat.beq 4 4) (aG (Nat.ble c.toNat 255) (ob (nR r) none fun v=>some (Nat.add c.toNat (Nat.mul 256 v))) none) none=_
   rw[show Nat.ble c.toNat 255=true from jN (by omega),A]
   rfl
theorem Mc{H0:Nat→Nat}{X0:Nat→Prop}{E:Env}{H:az}{β:Nat→Nat}(G:Rel H0 X0 VE B E H β){b elem aP:Nat}{s:List UInt8}(I:aY B b=some (.acc elem aP 1 (s.map fE)))(h0:0<s.length):
  ∃ls,elems H (β b) s.length 1 s.length 0=some ls∧nR ls=some (pack s):=by
 have z:(s.map fE).length=s.length:=bZ ..
 rcases(YR.ac (ff:=1) I).elems G (by decide) (a:=.slice (β b) s.length 0 s.length 1) (by simp only[aM,z];exact .inr ⟨h0,trivial⟩) with⟨h,_⟩|⟨f,g,off,e,ls,A,h2,J⟩
 ·cases h
 rw[z] at A h2
 cases A
 exact⟨ls,h2,ND J⟩
theorem Vr{x n:aF}{b aP:Nat}{s:List UInt8}(J:x.vv VE=some (.bp b s.length 0 0 1))(K:n.vv VE=some (dI (s.length:Nat)))(G:aY B b=some (.acc 5 aP 1 (s.map fE)))(h0:0<s.length)(O:s.length≤70368744177664)
  (U:Q (dS s) ((b,.acc 5 aP 1 [])::B)):VI T (.qJ 5 x n) VE B [b] Q:=fun _ X0 _ H β z=>by
 obtain⟨a,Y,h2⟩:=z.b8 J
 obtain⟨c,Z,I⟩:=z.b8 K
 simp only[aM,cN] at h2 I
 subst h2;subst I
 obtain⟨ls,e1,e2⟩:=Mc z G h0
 have A:s.map fE≠[]:=fun k=>by rw[List.map_eq_nil_iff] at k;rw[k] at h0;exact absurd h0 (by decide)
 rcases z.box b _ G with h|⟨lo,cs,k1,k2,k3⟩
 ·exact absurd h A
 refine⟨0,.str s.length (pack s),⟨H.next,H.bc,wrote (β b) H.bc H.ws,H.t.set (β b) (.row 5 1 aP (s.map fE).length lo 2 cs)⟩,fun lf m _ _=>?_,?_⟩
 ·show wk 5 x n _ H=_
  unfold wk
  rw[dj,Y,di]
  show bB n _ (.err 46) _=_
  rw[dj,Z,di]
  show aG (Nat.ble 1 s.length) (aG (Nat.ble s.length 70368744177664) (ob (elems H (β b) s.length 1 s.length 0) (aE.err 46) _) (aE.err 46)) (aE.err 46)=_
  rw[show Nat.ble 1 s.length=true from jN h0,show Nat.ble s.length 70368744177664=true from jN O,e1]
  show ob (nR ls) (aE.err 46) _=_
  rw[e2,di,ij]
  cases H with
  |mk next bc ws t=>
   unfold mL
   show iY (t.get (β b)) (aE.err 46) _=_
   rw[show t.get (β b)=_ from k1]
   exact GT.ki t (β b) (.row 5 1 aP (s.map fE).length lo 2 cs) fun t=>aE.ok (.str s.length (pack s)) ⟨next,bc,wrote (β b) bc ws,t⟩
 refine Cj (s':=.acc 5 aP 1 []) (v:=dS s) z G A rfl (fun f hf=>?_) rfl rfl (fun X _ _=>.inl rfl) (fun X=>by simp only[aM,cB,cN]) U
 show(H.t.set (β b) _).get f=_
 rw[GT.eY,aj hf]
theorem GR{x:aF}{b aP elem:Nat}{s:List UInt8}(A:x.vv VE=some (.ac b s.length 1))(G:aY B b=some (.acc elem aP 1 (s.map fE)))(I:Q (dS s) B):VI T (.qv x) VE B [] Q:=fun _ X0 _ H β z=>by
 obtain⟨a,J,h2⟩:=z.b8 A
 simp only[aM] at h2
 refine gf (v:=.str s.length (pack s)) (fun call=>?_) (eS z (v:=dS s) (by simp only[aM,cB,cN]) I)
 show bB x _ (.err 39) (fun v=>gL v (.err 39) (.ok (.str 0 0) H) fun f g off n _=>
  ob (elems H f g 1 n off) (.err 39) fun l=>ob (nR l) (.err 39) fun s=>dk s fun s=>.ok (.str n s) H)=_
 rw[dj,J,di]
 rcases h2 with⟨h,rfl⟩|⟨h,rfl⟩
 ·obtain rfl:=List.length_eq_zero_iff.1 h;rfl
 obtain⟨ls,e1,e2⟩:=Mc z G h
 show ob (elems H (β b) s.length 1 s.length 0) (aE.err 39) _=_
 rw[e1]
 show ob (nR ls) (aE.err 39) _=_
 rw[e2,di]
 exact ij (pack s) fun v=>aE.ok (.str s.length v) H
end Go.Ev
namespace Go.Ev.Pp
open Go
def adV(a:Bool)(k:Nat):VV:=match a with|true=>.vp k 0|false=>.k .ik
def nd(a:Bool)(k l:Nat)(b:List UInt8):bo:=[(k,.one 151 32 [adV a k,.ac l (b.map fE).length 1]),(l,.acc 5 1 1 (b.map fE))]
def kP(c:UInt8):Bool:=decide (65≤c.toNat)&&decide (c.toNat≤90)
def tb(c:UInt8):Bool:=decide (97≤c.toNat)&&decide (c.toNat≤122)
def iJ(c:UInt8):Bool:=tb c||(gV c||decide (c.toNat=95))
def l9(c:UInt8):Bool:=decide (c.toNat=32)||(decide (c.toNat=9)||(decide (c.toNat=10)||decide (c.toNat=13)))
def runM(P:UInt8→Bool)(s:List UInt8)(i:Nat):Nat:=i+((s.drop i).takeWhile P).length
section
variable{P:UInt8→Bool}{s:List UInt8}{i:Nat}{c:UInt8}
theorem sg(h:s[i]?=some c):s.drop i=c::s.drop (i+1):=by
 obtain⟨z,he⟩:=List.getElem?_eq_some_iff.1 h
 rw[AX z,he]
theorem rk(h:s[i]?=some c)(hp:P c=true):runM P s i=runM P s (i+1):=by
 unfold runM;rw[sg h,HY,hp];simp;omega
theorem Ap(h:s[i]?=some c)(hp:P c=false):runM P s i=i:=by
 unfold runM;rw[sg h,HY,hp];simp
theorem Aq(h:s.length≤i):runM P s i=i:=by
 unfold runM;rw[HZ h];rfl
theorem xD:i≤runM P s i:=j0 ..
theorem xE(h:i≤s.length):runM P s i≤s.length:=by
 unfold runM
 have:=(List.takeWhile_sublist P (l:=s.drop i)).length_le
 rw[gy] at this;omega
theorem Lp:∀(l:List UInt8)(x:UInt8),x∈l.take (l.takeWhile P).length→P x=true
 |[],x,h=>by simp at h
 |y::r,x,h=>by
  rw[HY] at h
  cases z:P y with
  |false=>rw[z] at h;simp at h
  |true=>
   rw[z,aw rfl,cP,wa] at h
   rcases List.mem_cons.1 h with rfl|h
   ·exact z
   exact Lp r x h
theorem CA:∀x,x∈(s.drop i).take (runM P s i-i)→P x=true:=by
 unfold runM
 rw[IG]
 intro x z
 exact Lp _ x z
end
def qg:List UInt8→Option (List UInt8×Nat)
 |[]=>none
 |c::r=>if c=39 then(match r with
   |[]=>some ([],1)
   |d::z=>if d=39 then(qg z).map fun x=>(39::x.1,x.2+2) else some ([],1))
  else(qg r).map fun x=>(c::x.1,x.2+1)
def jQ(s:List UInt8)(j:Nat)(b:List UInt8):Option (List UInt8×Nat):=(qg (s.drop j)).map fun x=>(b++x.1,j+x.2)
structure I2 where
 kind:Int
 text:List UInt8
 stop:Nat
 err:Int
def cut(s:List UInt8)(i j:Nat):List UInt8:=(s.drop i).take (j-i)
def qz:List UInt8:=[40,41,44,46,42,43,45,61,60,62,59]
def cu(s:List UInt8)(i:Nat)(c:UInt8):I2:=
 if kP c=true then⟨1,cut s i (runM kP s i),runM kP s i,0⟩
 else if tb c=true then⟨2,cut s i (runM iJ s i),runM iJ s i,0⟩
 else if gV c=true then⟨3,cut s i (runM gV s i),runM gV s i,0⟩
 else if c=39 then(match jQ s (i+1) [] with
  |some x=>⟨4,x.1,x.2,0⟩
  |none=>⟨4,[],0,2⟩)
 else if c∈qz then⟨5,cut s i (i+1),i+1,0⟩
 else⟨0,[],0,5⟩
def kB(k:Int)(t:List UInt8):Bool:=if k=3 then decide (t.length≤19) else if k=4 then decide (t.length≤200) else decide (t.length≤20)
def lA(s:List UInt8):Nat→Nat→List cb→List cb×Nat×Int
 |0,i,_=>([],i,4)
 |k+1,i,out=>match s[i]?with
  |none=>(out++[⟨6,(s.length:Nat),[]⟩],0,0)
  |some c=>if¬(cu s i c).err=0 then([],i,(cu s i c).err)
   else if¬(kB (cu s i c).kind (cu s i c).text=true∧out.length<1000) then([],i,4)
   else lA s k (runM l9 s (cu s i c).stop) (out++[⟨(cu s i c).kind,(i:Nat),(cu s i c).text⟩])
def eE(s:List UInt8):List cb×Nat×Int:=if 4000<s.length then([],0,4) else lA s (s.length+1) (runM l9 s 0) []
def EX(x:List cb×Nat×Int):VV:=.tuple [.d (.e9 (x.1.map cb.enc)),dI (x.2.1:Nat),dI x.2.2]
variable{s:List UInt8}{i:Nat}{c:UInt8}
theorem Ub(h:s[i]?=some c):cut s i (i+1)=[c]:=by
 unfold cut;rw[sg h,IG];rfl
theorem C2:∀(l:List UInt8)x,qg l=some x→1≤x.2∧x.2≤l.length∧x.1.length<x.2
 |[],x,h=>by unfold qg at h;cases h
 |[c],x,h=>by
  unfold qg at h
  split at h
  ·cases h;exact⟨by decide,by simp,by decide⟩
  unfold qg at h;cases h
 |c::d::r,x,h=>by
  unfold qg at h
  split at h
  ·simp only at h
   split at h
   ·obtain⟨y,z,rfl⟩:=Option.map_eq_some_iff.1 h
    obtain⟨A,h2,G⟩:=C2 r y z
    simp only[cP];omega
   cases h;exact⟨by decide,by simp,by decide⟩
  obtain⟨y,z,rfl⟩:=Option.map_eq_some_iff.1 h
  obtain⟨A,h2,G⟩:=C2 (d::r) y z
  simp only[cP] at h2⊢;omega
theorem GS(h:s[i]?=some c)(h0:(cu s i c).err=0):i<(cu s i c).stop∧(cu s i c).stop≤s.length:=by
 have I:i<s.length:=(List.getElem?_eq_some_iff.1 h).1
 have go:∀P:UInt8→Bool,P c=true→i<runM P s i∧runM P s i≤s.length:=fun P hp=>by
  rw[rk h hp]
  have:=xD (P:=P) (s:=s) (i:=i+1)
  have:=xE (P:=P) (s:=s) (i:=i+1) I
  omega
 unfold cu at h0⊢
 split
 ·rename_i k;exact go _ k
 split
 ·rename_i k;exact go _ (by unfold iJ;rw[k];rfl)
 split
 ·rename_i k;exact go _ k
 split
 ·rename_i z A G k
  rw[aj z,aj A,aj G,aw k] at h0
  unfold jQ at h0⊢
  cases J:qg (s.drop (i+1)) with
  |none=>rw[J] at h0;exact absurd h0 (by decide:¬(2:Int)=0)
  |some x=>
   obtain⟨U,h2,Y⟩:=C2 _ _ J
   rw[gy] at h2
   show i<i+1+x.2∧i+1+x.2≤s.length
   omega
 rename_i z A G K
 split
 ·exact⟨gh _,I⟩
 rename_i O;rw[aj z,aj A,aj G,aj K,aj O] at h0;exact absurd h0 (by decide)
theorem Lr(h:s[i]?=some c)(h0:(cu s i c).err=0)(z:kB (cu s i c).kind (cu s i c).text=true):
  (cu s i c).kind≠6∧((cu s i c).kind=3→nO (cu s i c).text)∧(cu s i c).text.length≤200:=by
 have Z:i<s.length:=(List.getElem?_eq_some_iff.1 h).1
 have A:∀j,(cut s i j).length≤j-i:=fun j=>by unfold cut;exact List.length_take_le ..
 unfold cu at h0 z⊢
 split
 ·rename_i k;rw[aw k] at z
  refine⟨(by decide:(1:Int)≠6),fun e=>absurd e (by decide:¬(1:Int)=3),?_⟩
  have z:decide ((cut s i (runM kP s i)).length≤20)=true:=z
  simp at z;show(cut s i (runM kP s i)).length≤200;omega
 rename_i J;rw[aj J] at z h0
 split
 ·rename_i k;rw[aw k] at z
  refine⟨(by decide:(2:Int)≠6),fun e=>absurd e (by decide:¬(2:Int)=3),?_⟩
  have z:decide ((cut s i (runM iJ s i)).length≤20)=true:=z
  simp at z;show(cut s i (runM iJ s i)).length≤200;omega
 rename_i K;rw[aj K] at z h0
 split
 ·rename_i k;rw[aw k] at z
  have z:decide ((cut s i (runM gV s i)).length≤19)=true:=z
  simp at z
  refine⟨(by decide:(3:Int)≠6),fun _=>⟨?_,z,fun x O=>xd.1 (CA x O)⟩,by show(cut s i (runM gV s i)).length≤200;omega⟩
  show 0<(cut s i (runM gV s i)).length
  have h2:=xD (P:=gV) (s:=s) (i:=i+1)
  unfold cut;rw[jw,gy,rk h k];omega
 rename_i U;rw[aj U] at z h0
 split
 ·rename_i G;rw[aw G] at z h0
  cases I:jQ s (i+1) [] with
  |none=>rw[I] at h0;exact absurd h0 (by decide)
  |some x=>
   rw[I] at z
   refine⟨(by decide:(4:Int)≠6),fun e=>absurd e (by decide:¬(4:Int)=3),?_⟩
   have z:decide (x.1.length≤200)=true:=z
   simpa using z
 rename_i G;rw[aj G] at h0
 split
 ·refine⟨(by decide:(5:Int)≠6),fun e=>absurd e (by decide:¬(5:Int)=3),?_⟩
  have:=A (i+1);show(cut s i (i+1)).length≤200;omega
 rename_i Y;rw[aj Y] at h0;exact absurd h0 (by decide)
structure FH(out:List cb):Prop where
 kind:∀t,t∈out→t.kind≠6
 num:∀t,t∈out→t.kind=3→nO t.text
 text:∀t,t∈out→t.text.length≤200
theorem FH.snoc{out:List cb}(h:FH out)(A:s[i]?=some c)(h0:(cu s i c).err=0)(G:kB (cu s i c).kind (cu s i c).text=true):FH (out++[⟨(cu s i c).kind,(i:Nat),(cu s i c).text⟩]):=by
 obtain⟨I,J,K⟩:=Lr A h0 G
 refine⟨fun t z=>?_,fun t z=>?_,fun t z=>?_⟩<;>rcases List.mem_append.1 z with z|z
 ·exact h.kind t z
 ·rcases List.mem_singleton.1 z with rfl;exact I
 ·exact h.num t z
 ·rcases List.mem_singleton.1 z with rfl;exact J
 ·exact h.text t z
 rcases List.mem_singleton.1 z with rfl;exact K
theorem KF:∀(k i:Nat)(out:List cb),FH out→out.length≤1000→(lA s k i out).2.2=0→rF (lA s k i out).1
 |0,i,out,_,_,h=>absurd h (by unfold lA;exact(by decide:¬(4:Int)=0))
 |k+1,i,out,ho,O,h=>by
  unfold lA at h⊢
  cases G:s[i]?with
  |none=>
   rw[G] at h
   simp only
   refine⟨by simp,by simp;omega,fun j t z=>?_,fun t z J=>?_,fun t z=>?_⟩
   ·rw[bC,dU]
    by_cases K:j<out.length
    ·rw[qI K] at z
     exact⟨fun e=>absurd e (ho.kind t (kY z)),fun e=>by omega⟩
    have I:=(List.getElem?_eq_some_iff.1 z).1
    rw[bC,dU] at I
    obtain rfl:j=out.length:=by omega
    rw[wv (bV _),Nat.sub_self] at z
    simp at z;subst z
    simp
   ·rcases List.mem_append.1 z with z|z
    ·exact ho.num t z J
    rcases List.mem_singleton.1 z with rfl;exact absurd J (by decide:¬(6:Int)=3)
   rcases List.mem_append.1 z with z|z
   ·exact ho.text t z
   rcases List.mem_singleton.1 z with rfl;exact da _
  |some c=>
   rw[G] at h
   simp only at h⊢
   split
   ·rename_i he;rw[aw he] at h;exact absurd h he
   rename_i he;rw[aj he] at h
   split
   ·rename_i A;rw[aw A] at h;exact absurd h (by decide:¬(4:Int)=0)
   rename_i A;rw[aj A] at h
   have he:(cu s i c).err=0:=by simpa using he
   have A:kB (cu s i c).kind (cu s i c).text=true∧out.length<1000:=by simpa using A
   exact KF k _ _ (ho.snoc G he A.1) (by rw[bC,dU];omega) h
theorem vD(h:(eE s).2.2=0):rF (eE s).1:=by
 unfold eE at h⊢
 split
 ·rename_i z;rw[aw z] at h;exact absurd h (by decide:¬(4:Int)=0)
 rename_i z;rw[aj z] at h
 exact KF _ _ _ ⟨fun _ h=>(by cases h),fun _ h=>(by cases h),fun _ h=>(by cases h)⟩ (by decide) h
section
variable{b:List UInt8}{j:Nat}{d:UInt8}
theorem NF(h:s[j]?=some c)(z:¬c=39):jQ s j b=jQ s (j+1) (b++[c]):=by
 unfold jQ
 rw[sg h]
 conv=>lhs;unfold qg
 rw[aj z,Option.map_map]
 congr 1
 funext x
 simp only[Function.comp,List.append_assoc,NL]
 congr 1;omega
theorem MY(h:s[j]?=some 39)(h2:s[j+1]?=some 39):jQ s j b=jQ s (j+2) (b++[39]):=by
 unfold jQ
 rw[sg h,sg h2]
 conv=>lhs;unfold qg
 rw[aw rfl]
 simp only[if_true,Option.map_map]
 congr 1
 funext x
 simp only[Function.comp,List.append_assoc,NL]
 congr 1;omega
theorem Du(h:s[j]?=some 39)(h2:∀d,s[j+1]?=some d→¬d=39):jQ s j b=some (b,j+1):=by
 unfold jQ
 rw[sg h]
 unfold qg
 rw[aw rfl]
 cases z:s[j+1]?with
 |none=>rw[HZ (List.getElem?_eq_none_iff.1 z)];simp
 |some d=>rw[sg z];simp[h2 d z]
theorem NG(h:s.length≤j):jQ s j b=none:=by
 unfold jQ;rw[HZ h];rfl
end
def abN:Option (List UInt8×Nat)→VV
 |some x=>.tuple [.d (cB x.1),.d (.i .i64 (x.2:Nat)),.d (.i .i64 0)]
 |none=>.tuple [.d (cB []),.d (.i .i64 0),.d (.i .i64 2)]
def vb(x:I2)(i:Nat):VV:=.tuple [.agg [dI x.kind,dI (if x.err=5 then 0 else(i:Nat)),dS x.text],dI (x.stop:Nat),dI x.err]
theorem Md{l:List UInt8}:0≤eO c l↔c∈l:=by
 constructor
 ·intro h
  obtain⟨k,hk⟩:∃k:Nat,eO c l=k:=⟨(eO c l).toNat,by omega⟩
  exact kY (Cq hk).1
 intro h
 refine uj fun k=>?_
 have J:=xB c l
 obtain⟨j,K,he⟩:=HX h
 have key:∀(l:List UInt8),eO c l= -1→c∉l:=by
  intro l
  induction l with
  |nil=>intro _ h;cases h
  |cons x r I=>
   intro h z
   have h:(if x=c then(0:Int) else if eO c r= -1 then-1 else eO c r+1)= -1:=h
   by_cases A:x=c
   ·rw[aw A] at h;omega
   rw[aj A] at h
   have:=xB c r
   by_cases G:eO c r= -1
   ·rcases List.mem_cons.1 z with e|z
    ·exact A e.symm
    exact I G z
   rw[aj G] at h;omega
 exact key l (by omega) h
structure EY(k:Int)(t:List UInt8):Prop where
 kind:k=1∨k=2∨k=3∨k=4∨k=5
 ne:k≠4→0<t.length
 up:k=1→∀c,c∈t→kP c=true
 QM:k=2→∀c,c∈t→iJ c=true
 low:k=2→∀c,t[0]?=some c→tb c=true
 oa:k=3→∀c,c∈t→gV c=true
 sgn:k=5→∃c,t=[c]∧c∈qz
theorem AS{j:Nat}(h:s[i]?=some c)(z:i<j):(cut s i j)[0]?=some c∧0<(cut s i j).length:=by
 unfold cut
 rw[sg h,show j-i=(j-i-1)+1 by omega,wa]
 exact⟨rfl,by simp⟩
theorem MZ(h:s[i]?=some c)(h0:(cu s i c).err=0):EY (cu s i c).kind (cu s i c).text:=by
 have z:=(GS h h0).1
 unfold cu at h0 z⊢
 split
 ·rename_i G
  rw[aw G] at z
  exact⟨.inl rfl,fun _=>(AS h z).2,fun _=>CA,fun e=>absurd e (by decide:¬(1:Int)=2),fun e=>absurd e (by decide:¬(1:Int)=2),fun e=>absurd e (by decide:¬(1:Int)=3),fun e=>absurd e (by decide:¬(1:Int)=5)⟩
 rename_i G;rw[aj G] at h0 z
 split
 ·rename_i A
  rw[aw A] at z
  exact⟨.inr (.inl rfl),fun _=>(AS h z).2,fun e=>absurd e (by decide:¬(2:Int)=1),fun _=>CA,fun _ d O=>by rw[show _=some c from(AS h z).1] at O;cases O;exact A,fun e=>absurd e (by decide:¬(2:Int)=3),fun e=>absurd e (by decide:¬(2:Int)=5)⟩
 rename_i A;rw[aj A] at h0 z
 split
 ·rename_i I
  rw[aw I] at z
  exact⟨.inr (.inr (.inl rfl)),fun _=>(AS h z).2,fun e=>absurd e (by decide:¬(3:Int)=1),fun e=>absurd e (by decide:¬(3:Int)=2),fun e=>absurd e (by decide:¬(3:Int)=2),fun _=>CA,fun e=>absurd e (by decide:¬(3:Int)=5)⟩
 rename_i I;rw[aj I] at h0
 split
 ·rename_i J;rw[aw J] at h0
  cases U:jQ s (i+1) [] with
  |none=>rw[U] at h0;exact absurd h0 (by decide:¬(2:Int)=0)
  |some x=>exact⟨.inr (.inr (.inr (.inl rfl))),fun e=>absurd rfl e,fun e=>absurd e (by decide:¬(4:Int)=1),fun e=>absurd e (by decide:¬(4:Int)=2),fun e=>absurd e (by decide:¬(4:Int)=2),fun e=>absurd e (by decide:¬(4:Int)=3),fun e=>absurd e (by decide:¬(4:Int)=5)⟩
 rename_i J;rw[aj J] at h0
 split
 ·rename_i K
  exact⟨.inr (.inr (.inr (.inr rfl))),fun _=>(AS h (gh i)).2,fun e=>absurd e (by decide:¬(5:Int)=1),fun e=>absurd e (by decide:¬(5:Int)=2),fun e=>absurd e (by decide:¬(5:Int)=2),fun e=>absurd e (by decide:¬(5:Int)=3),fun _=>⟨c,Ub h,K⟩⟩
 rename_i K;rw[aj K] at h0;exact absurd h0 (by decide:¬(5:Int)=0)
def qh(x:I2)(i n:Nat):VV:=.tuple [dI ((if x.err=5 then i+1 else if x.err=2 then n else x.stop:Nat):Int),dI x.kind,dS x.text,dB (!decide (x.err=2))]
open Go
set_option maxRecDepth 10000
theorem QN{T:bd}(F:FT T)(c:UInt8):Sound T 113 [.d (.i .u8 (c.toNat:Nat))] fun r=>r=dB (kP c):=by
 refine eh F.ZN aa (al 1 aa (ai (ae 3 aa (dc (g:=aq) aa (fun z=>?_) (fun z=>?_)))))
 ·refine ao aa (z) (bN aa ?_)
  refine ao aa (z) (pU aa aa ?_)
  refine ak (cT aa (z) aa ?_)
  refine ae 1 aa (af ?_)
  refine ax ?_
  exact bx rfl rfl (by refine congrArg (fun b=>VV.d (DC.b b)) ?_;rw[gg];unfold kP;simp at*;omega)
 refine aO aa (z) (aO aa (z) (ak (cJ aa (z) aa ?_)))
 refine ae 1 aa (af ?_)
 refine ax ?_
 exact bx rfl rfl (by refine congrArg (fun b=>VV.d (DC.b b)) ?_;rw[gg];unfold kP;simp at*;omega)
theorem PY{T:bd}(F:FT T)(c:UInt8):Sound T 114 [.d (.i .u8 (c.toNat:Nat))] fun r=>r=dB (tb c):=by
 refine eh F.ZO aa (al 1 aa (ai (ae 3 aa (dc (g:=aq) aa (fun z=>?_) (fun z=>?_)))))
 ·refine ao aa (z) (bN aa ?_)
  refine ao aa (z) (pU aa aa ?_)
  refine ak (cT aa (z) aa ?_)
  refine ae 1 aa (af ?_)
  refine ax ?_
  exact bx rfl rfl (by refine congrArg (fun b=>VV.d (DC.b b)) ?_;rw[gg];unfold tb;simp at*;omega)
 refine aO aa (z) (aO aa (z) (ak (cJ aa (z) aa ?_)))
 refine ae 1 aa (af ?_)
 refine ax ?_
 exact bx rfl rfl (by refine congrArg (fun b=>VV.d (DC.b b)) ?_;rw[gg];unfold tb;simp at*;omega)
theorem I3{T:bd}(F:FT T)(c:UInt8):Sound T 116 [.d (.i .u8 (c.toNat:Nat))] fun r=>r=dB (gV c):=by
 refine eh F.ZQ aa (al 1 aa (ai (ae 3 aa (dc (g:=aq) aa (fun z=>?_) (fun z=>?_)))))
 ·refine ao aa (z) (bN aa ?_)
  refine ao aa (z) (pU aa aa ?_)
  refine ak (cT aa (z) aa ?_)
  refine ae 1 aa (af ?_)
  refine ax ?_
  exact bx rfl rfl (by refine congrArg (fun b=>VV.d (DC.b b)) ?_;rw[gg];unfold gV;simp at*;omega)
 refine aO aa (z) (aO aa (z) (ak (cJ aa (z) aa ?_)))
 refine ae 1 aa (af ?_)
 refine ax ?_
 exact bx rfl rfl (by refine congrArg (fun b=>VV.d (DC.b b)) ?_;rw[gg];unfold gV;simp at*;omega)
theorem QO{T:bd}(F:FT T)(c:UInt8):Sound T 57 [.d (.i .u8 (c.toNat:Nat))] fun r=>r=dB (l9 c):=by
 refine eh F.f57 aa (al 1 aa (ai (ae 3 aa (dc (g:=aq) aa (fun z=>?_) (fun z=>?_)))))
 ·refine aO aa (z) (aO aa (z) (ak (cT aa (z) aa ?_)))
  refine ae 1 aa (aO aa aa (aO aa aa (ae 2 aa (aO aa aa (aO aa aa (ae 2 aa (af ?_)))))))
  refine ax ?_
  exact bx rfl rfl (by refine congrArg (fun b=>VV.d (DC.b b)) ?_;rw[gg];unfold l9;simp at*;omega)
 refine ao aa (z) (bN aa ?_)
 refine ao aa (z) (hY aa aa ?_)
 refine ak (cJ aa (z) aa ?_)
 refine ae 1 aa (dc (g:=aL) aa (fun A=>?_) (fun A=>?_))
 ·refine aO aa (A) (aO aa (A) (ak (cT aa (A) aa ?_)))
  refine ae 1 aa (aO aa aa (aO aa aa (ae 2 aa (af ?_))))
  refine ax ?_
  exact bx rfl rfl (by refine congrArg (fun b=>VV.d (DC.b b)) ?_;rw[gg];unfold l9;simp at*;omega)
 refine ao aa (A) (bN aa ?_)
 refine ao aa (A) (hY aa aa ?_)
 refine ak (cJ aa (A) aa ?_)
 refine ae 1 aa (dc (g:=aV) aa (fun bM=>?_) (fun bM=>?_))
 ·refine aO aa (bM) (aO aa (bM) (ak (cT aa (bM) aa ?_)))
  refine ae 1 aa (af ?_)
  refine ax ?_
  exact bx rfl rfl (by refine congrArg (fun b=>VV.d (DC.b b)) ?_;rw[gg];unfold l9;simp at*;omega)
 refine ao aa (bM) (bN aa ?_)
 refine ao aa (bM) (hY aa aa ?_)
 refine ak (cJ aa (bM) aa ?_)
 refine ae 1 aa (af ?_)
 refine ax ?_
 exact bx rfl rfl (by refine congrArg (fun b=>VV.d (DC.b b)) ?_;rw[gg];unfold l9;simp at*;omega)
theorem inC{T:bd}(F:FT T)(c:UInt8):Sound T 115 [.d (.i .u8 (c.toNat:Nat))] fun r=>r=dB (iJ c):=by
 refine eh F.ZP aa (al 1 aa (ai (ae 1 aa (ak (cO (PY F c) aa aa ?_)))))
 refine ae 1 aa (dc (g:=aq) aa (fun z=>?_) (fun z=>?_))
 ·have G:iJ c=true:=by unfold iJ;rw[z];rfl
  refine aO aa (z) (aO aa (z) (ak (cT aa (z) aa ?_)))
  refine ae 1 aa (aO aa aa (aO aa aa (ae 2 aa (af ?_))))
  refine ax ?_
  exact bx rfl rfl (by rw[G];rfl)
 refine ao aa (z) (bN aa ?_)
 refine ao aa (z) (cO (I3 F c) aa aa ?_)
 refine ak (cJ aa (z) aa ?_)
 refine ae 1 aa (dc (g:=aL) aa (fun A=>?_) (fun A=>?_))
 ·have G:iJ c=true:=by unfold iJ;rw[z,A];rfl
  refine aO aa (A) (aO aa (A) (ak (cT aa (A) aa ?_)))
  refine ae 1 aa (af ?_)
  refine ax ?_
  exact bx rfl rfl (by rw[G];rfl)
 have G:iJ c=decide (((c.toNat:Nat):Int)=Int.ofNat 95):=by unfold iJ;rw[z,A,gg];simp;omega
 refine ao aa (A) (bN aa ?_)
 refine ao aa (A) (hY aa aa ?_)
 refine ak (cJ aa (A) aa ?_)
 refine ae 1 aa (af ?_)
 refine ax ?_
 exact bx rfl rfl (by rw[G];rfl)
theorem Bl{T:bd}(F:FT T){f:Nat}{P:UInt8→Bool}(O:∀c:UInt8,Sound T f [.d (.i .u8 (c.toNat:Nat))] fun r=>r=dB (P c)){s:List UInt8}{i:Nat}(hi:i≤s.length)(Z:s.length≤4000):Sound T 56 [dS s,dI (i:Nat),.fn f []] fun r=>r=dI (runM P s i:Nat):=by
 refine eh F.f56 aa (al 1 aa (aK (bJ (dY (fun k VE B=>∃j,j≤s.length∧k=s.length-j∧runM P s j=runM P s i∧br [(0,dS s),(1,dI (j:Nat)),(2,.fn f []),(6,d0)] VE∧br [] B) ?_ (k:=s.length-i) ⟨i,hi,aa,aa,⟨aa,aa,aa,aa,trivial⟩,trivial⟩))))
 rintro k VE B⟨j,hj,rfl,I,U,Y⟩
 refine dn _ _ U Y (aK (ai (ae 5 aa (dc (g:=aS) aa (fun z=>?_) (fun z=>?_)))))
 ·have J:j<s.length:=by simp at z;omega
  obtain⟨c,K⟩:=jD J
  refine ao aa (z) (bN aa ?_)
  refine ao aa (z) (bN aa ?_)
  refine ao aa (z) (bN aa ?_)
  refine ao aa (z) (fG aa aa K ?_)
  refine ao aa (z) (Wl (O c) aa aa aa ?_)
  refine ak (cT aa (z) aa ?_)
  refine af (aI aa (fun A=>?_) (fun A=>?_))
  ·have G:=A
   refine aQ (bJ (bD (ae 1 aa ?_)))
   refine ak (cM rfl rfl (by omega) ?_)
   refine ae 1 aa (af ?_)
   exact⟨s.length-(j+1),by omega,j+1,by omega,rfl,by rw[←rk K G,I],⟨rfl,rfl,rfl,rfl,trivial⟩,trivial⟩
  have G:=A
  rw[Ap K G] at I
  refine dD (al 2 aa (ax ?_))
  exact bx rfl rfl (by rw[I];rfl)
 rw[Aq (by simp at z;omega)] at I
 refine aO aa (z) (aO aa (z) (aO aa (z) (aO aa (z) (aO aa (z) (ak (cJ aa (z) aa ?_))))))
 refine af (eC aa aa (dD (al 2 aa (ax ?_))))
 exact bx rfl rfl (by rw[I];rfl)
theorem Wv{T:bd}(F:FT T)(k p:Int)(t:List UInt8):Sound T 59 [.agg [dI k,dI p,dS t]] fun r=>r=dB (kB k t):=by
 refine eh F.f59 aa (al 2 aa (aK (al 2 aa (bJ (al 2 aa (aI aa (fun G=>?_) (fun G=>?_)))))))
 ·have A:kB k t=decide (t.length≤19):=aw (by simpa using G)
  refine al 5 aa (ax ?_)
  exact bx rfl rfl (by refine congrArg (fun b=>VV.d (DC.b b)) ?_;rw[A,gg];simp;omega)
 refine al 2 aa (aI aa (fun z=>?_) (fun z=>?_))
 ·have A:kB k t=decide (t.length≤200):=by unfold kB;rw[aj (by simpa using G),aw (by simpa using z)]
  refine al 5 aa (ax ?_)
  exact bx rfl rfl (by refine congrArg (fun b=>VV.d (DC.b b)) ?_;rw[A,gg];simp;omega)
 have A:kB k t=decide (t.length≤20):=by unfold kB;rw[aj (by simpa using G),aj (by simpa using z)]
 refine aQ (al 5 aa (ax ?_))
 exact bx rfl rfl (by refine congrArg (fun b=>VV.d (DC.b b)) ?_;rw[A,gg];simp;omega)
open Go
set_option maxRecDepth 10000
theorem Xp{T:bd}(F:FT T)(X:FX T)(a:Bool)(b:List UInt8):bY T 140 [.vp 1001 0] (nd a 1001 1101 b) fun r Bn=>r= .tuple []∧Bn=nd true 1001 1101 b:=by
 refine cw F.Z2 aa (ai ?_)
 cases a
 ·refine ae 4 aa (ak (Vm aa aa ?_))
  refine af (aI aa (fun z=>?_) (fun z=>?_))
  ·refine bD (ae 2 aa (ak (Mb aa aa aa ?_)))
   refine ak (Vp X.abG X.abH aa ?_)
   refine ak (Mb aa aa aa ?_)
   refine ae 3 aa (af ?_)
   exact⟨_,nd true 1001 1101 b,aa,⟨aa,aa,trivial⟩,aa,aa⟩
  exact absurd z (by decide)
 refine ae 4 aa (ak (Vn aa aa ?_))
 refine af (aI aa (fun z=>?_) (fun z=>?_))
 ·exact absurd z (by decide)
 refine ai (ae 5 aa (ak (Vo aa aa ?_)))
 refine af (aI aa (fun eA=>?_) (fun eA=>?_))
 ·exact absurd eA (by decide)
 exact aQ (⟨_,nd true 1001 1101 b,aa,⟨aa,aa,trivial⟩,aa,aa⟩)
theorem NH{T:bd}(F:FT T)(X:FX T)(a:Bool)(b:List UInt8)(c:UInt8)(z:b.length≤100000):bY T 91 [.vp 1001 0,.d (.i .u8 (c.toNat:Nat))] (nd a 1001 1101 b) fun r Bn=>r= .k .gS∧Bn=nd true 1001 1101 (b++[c]):=by
 refine cw F.f91 aa (al 1 aa (ai (ae 1 aa ?_)))
 refine ak (jU (b9:=[.vp 1001 0]) (Bi:=(nd a 1001 1101 b)) [(1001,1001),(1101,1101)] 2000 rfl rfl rfl (by cases a<;>rfl) rfl rfl rfl ⟨rfl,by cases a<;>rfl,rfl,rfl,trivial⟩ (Xp F X a b) (fun r Bn hp=>?_))
 obtain⟨rfl,rfl⟩:=hp
 refine eB [(1001,.one 151 32 [.vp 1001 0,.ac 1101 (b.map fE).length 1]),(1101,.acc 5 1 1 (b.map fE))] ⟨aa,aa,trivial⟩ (af (ai (ae 7 aa ?_)))
 refine ak (dZ (rows:=b.map fE) (ys:=[fE c]) rfl rfl rfl (.bs (rows:=[fE c]) rfl) (bO rfl) (by rw[bC,bZ];simp only[cP,dx];omega) (fun h=>by rw[h];rfl) (fun h=>by rw[h];rfl) ?_)
 refine ae 3 aa (af ?_)
 refine al 1 aa (ax (⟨_,nd true 1001 1101 (b++[c]),aa,?_,aa,aa⟩))
 unfold nd
 rw[dr]
 exact⟨aa,aa,trivial⟩
theorem M0{T:bd}(F:FT T)(a:Bool)(b:List UInt8)(z:b.length≤100000):bY T 94 [.vp 1001 0] (nd a 1001 1101 b) fun r Bn=>r=dS b∧Bn=[]:=by
 refine cw F.f94 aa ?_
 unfold nd
 rw[bZ]
 refine al 1 aa (eZ ?_)
 rcases Nat.eq_zero_or_pos b.length with h0|h0
 ·obtain rfl:=List.length_eq_zero_iff.1 h0
  refine bk 4 aa (c8 (Vq aa ?_))
  refine bk 4 aa (c8 (xv aa ?_))
  refine eo aa (Ua aa aa ?_)
  refine bk 1 aa (c6 ?_)
  exact ax (⟨_,[],aa,trivial,aa,aa⟩)
 refine bk 4 aa (c8 (Wu aa h0 ?_))
 refine bk 4 aa (c8 (xv aa ?_))
 refine eo rfl (Vr rfl rfl rfl h0 (by omega) ?_)
 refine bk 1 aa (c6 ?_)
 exact ax (⟨_,[],aa,trivial,aa,aa⟩)
open Go
set_option maxRecDepth 10000
set_option maxHeartbeats 1000000 in
theorem Xq{T:bd}(F:FT T)(X:FX T){s:List UInt8}{i:Nat}(hi:i<s.length)(hl:s.length≤4000):Sound T 117 [dS s,dI (i:Nat)] fun r=>r=abN (jQ s (i+1) []):=by
 refine eh F.ZR aa (al 3 aa (ai (ae 1 aa (nf 7 1 1108 5 1 1 aa aa aa (af (aK (ai (ae 1 aa ?_))))))))
 refine ak (cM rfl rfl (by omega) ?_)
 refine ae 1 aa (af ?_)
 refine bJ (dY (fun k VE B=>∃(j:Nat)(a:Bool)(b:List UInt8),j≤s.length∧k=s.length-j∧jQ s j b=jQ s (i+1) []∧b.length≤j∧br [(0,dS s),(1,dI (i:Nat)),(4,dS []),(5,d0),(6,d0),(7,.vp 7 0),(8,dI (j:Nat))] VE∧br (nd a 7 1108 b) B) ?_ (k:=s.length-(i+1)) ⟨i+1,false,[],hi,aa,aa,da _,⟨aa,aa,aa,aa,aa,aa,aa,trivial⟩,aa,aa,trivial⟩)
 rintro k VE B⟨j,a,b,hj,rfl,G,Bu,hV,hB⟩
 refine dn _ _ hV hB (aK (al 4 aa (aI aa (fun I=>?_) (fun I=>?_))))
 ·have Y:j<s.length:=by simp at I;omega
  obtain⟨c,O⟩:=jD Y
  refine aQ (aK (bJ (aK (ai (ae 2 aa (ak (fG aa aa O ?_)))))))
  refine ae 1 aa (af ?_)
  refine aI aa (fun J=>?_) (fun J=>?_)
  ·have hn:¬c=39:=by rintro rfl;simp at J
   refine ai (ae 2 aa (ak (fG aa aa O ?_)))
   refine ak (jU (b9:=[.vp 1001 0,.d (.i .u8 (c.toNat:Nat))]) (Bi:=nd a 1001 1101 b) [(1001,7),(1101,1108)] 2000 rfl rfl rfl (by cases a<;>rfl) rfl rfl rfl ⟨rfl,by cases a<;>rfl,rfl,rfl,trivial⟩ (NH F X a b c (by omega)) (fun r Bn hp=>?_))
   obtain⟨rfl,rfl⟩:=hp
   refine af (dD (bD (ae 1 aa ?_)))
   refine ak (cM rfl rfl (by omega) ?_)
   refine ae 1 aa (af ?_)
   exact⟨s.length-(j+1),by omega,j+1,true,b++[c],by omega,rfl,by rw[←NF O hn,G],by simp only[bC,cP,dx];omega,⟨rfl,rfl,rfl,rfl,rfl,rfl,rfl,trivial⟩,rfl,rfl,trivial⟩
  obtain rfl:c=39:=rO 39 (by simp at J;omega) rfl
  refine aQ (aK (ai (ae 1 aa ?_)))
  refine ak (cM rfl rfl (by omega) ?_)
  refine ae 2 aa (ak (hY aa aa ?_))
  refine ae 1 aa (dc (g:=ck) aa (fun z=>?_) (fun z=>?_))
  ·have Z:=Du (b:=b) O (fun d U=>absurd (List.getElem?_eq_some_iff.1 U).1 (by simp at z;omega))
   rw[Z] at G
   refine aO aa (z) (aO aa (z) (aO aa (z) (aO aa (z) (aO aa (z) (ak (cT aa (z) aa ?_))))))
   refine af (fm aa aa (ai ?_))
   refine ak (jU (b9:=[.vp 1001 0]) (Bi:=nd a 1001 1101 b) [(1001,7),(1101,1108)] 2000 rfl rfl rfl (by cases a<;>rfl) rfl rfl rfl ⟨rfl,by cases a<;>rfl,rfl,rfl,trivial⟩ (M0 F a b (by omega)) (fun r Bn hp=>?_))
   obtain⟨rfl,rfl⟩:=hp
   refine ae 1 aa ?_
   refine ak (cM rfl rfl (by omega) ?_)
   refine ae 3 aa (af ?_)
   refine ax ?_
   exact bx rfl rfl (by rw[←G];rfl)
  obtain⟨d,A⟩:=jD (s:=s) (i:=j+1) (by simp at z;omega)
  refine ao aa (z) (bN aa ?_)
  refine ao aa (z) (bN aa ?_)
  refine ao rfl (z) (cM rfl rfl (by omega) ?_)
  refine ao aa (z) (fG aa aa A ?_)
  refine ao aa (z) (iD aa aa ?_)
  refine ak (cJ aa (z) aa ?_)
  refine af (aI aa (fun K=>?_) (fun K=>?_))
  ·have Z:=Du (b:=b) O (fun d2 U=>by(rw[A] at U;cases U;rintro rfl;simp at K))
   rw[Z] at G
   refine ai ?_
   refine ak (jU (b9:=[.vp 1001 0]) (Bi:=nd a 1001 1101 b) [(1001,7),(1101,1108)] 2000 rfl rfl rfl (by cases a<;>rfl) rfl rfl rfl ⟨rfl,by cases a<;>rfl,rfl,rfl,trivial⟩ (M0 F a b (by omega)) (fun r Bn hp=>?_))
   obtain⟨rfl,rfl⟩:=hp
   refine ae 1 aa ?_
   refine ak (cM rfl rfl (by omega) ?_)
   refine ae 3 aa (af ?_)
   refine ax ?_
   exact bx rfl rfl (by rw[←G];rfl)
  obtain rfl:d=39:=rO 39 (by simp at K;omega) rfl
  have QP:=(List.getElem?_eq_some_iff.1 A).1
  refine aQ (ai ?_)
  refine ak (jU (b9:=[.vp 1001 0,.d (.i .u8 ((39:UInt8).toNat:Nat))]) (Bi:=nd a 1001 1101 b) [(1001,7),(1101,1108)] 2000 rfl rfl rfl (by cases a<;>rfl) rfl rfl rfl ⟨rfl,by cases a<;>rfl,rfl,rfl,trivial⟩ (NH F X a b 39 (by omega)) (fun r Bn hp=>?_))
  obtain⟨rfl,rfl⟩:=hp
  refine af (bD (ae 1 aa ?_))
  refine ak (cM rfl rfl (by omega) ?_)
  refine ae 1 aa (af ?_)
  refine bD (ae 1 aa ?_)
  refine ak (cM rfl rfl (by omega) ?_)
  refine ae 1 aa (af ?_)
  exact⟨s.length-(j+1+1),by omega,j+1+1,true,b++[39],by omega,rfl,by rw[←MY O A,G],by simp only[bC,cP,dx];omega,⟨rfl,rfl,rfl,rfl,rfl,rfl,rfl,trivial⟩,rfl,rfl,trivial⟩
 rw[NG (by simp at I;omega)] at G
 refine dD (al 3 aa (ax ?_))
 exact bx rfl rfl (by rw[←G];rfl)
end Go.Ev.Pp
