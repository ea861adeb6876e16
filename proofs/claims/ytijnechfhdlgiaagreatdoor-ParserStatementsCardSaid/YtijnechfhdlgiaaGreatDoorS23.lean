/- Part 23 of rules for walks through the code of a program, and of such walks; what each part proves is said by its theorems. -/
import Derived.Test.YtijnechfhdlgiaaGreatDoorS22
set_option linter.unusedVariables false
set_option linter.unusedSimpArgs false
noncomputable section
set_option maxRecDepth 100000
set_option maxHeartbeats 4000000
namespace Go.Ev.Pp
open Go
theorem NO(s:List UInt8):(fu (s.drop 1) 44).2.1.length≤s.length:=by
 unfold fu;split
 ·simp only[gN];omega
 exact dp _
theorem adj{T:bd}(F:FT T)(X:FX T)(s:List UInt8)(hs:s.length<1000000):Sound T 213 [dS s] fun r=>r=l7 (mr s):=by
 refine dG F.acn aa (an 2 aa (ai (ae 1 aa (aj (cJ (XH F s [91]) aa aa ?_)))))
 refine ak 5 aa (aL (an 2 aa (aK aa (fun I=>?_) (fun I=>?_))))
 ·have G:mr s=((0,0),5):=al (fun k=>by rw[k.1] at I;cases I)
  refine an 3 aa (ay ?_)
  exact bt rfl rfl (by unfold l7;rw[G];rfl)
 have hp:preB s [91]=true:=by simpa using I
 rw[az hp]
 rw[show s.drop [(91:UInt8)].length=s.drop 1 from rfl]
 refine aQ (ai (ae 1 aa ?_))
 refine aj (cJ (YB F X (s.drop 1) 44 (by rw[gN];omega)) rfl rfl ?_)
 refine ak 7 aa (aL (ai (ae 3 aa (dc (g:=bZ) aa (fun dr=>?_) (fun dr=>?_)))))
 ·have G:mr s=((0,0),5):=al (fun k=>by rw[k.2.1] at dr;cases dr)
  refine aY aa (dr) (aY aa (dr) (aY aa (dr) (aj (c8 aa (dr) aa ?_))))
  refine ae 1 aa (aY aa aa (aY aa aa (aY aa aa (aY aa aa (aY aa aa (aY aa aa (ak 1 aa (eW aa aa (an 3 aa ?_)))))))))
  refine ay ?_
  exact bt rfl rfl (by unfold l7;rw[G];rfl)
 refine aw aa (dr) (bY aa ?_)
 refine aw aa (dr) (cJ (XG F (fu (s.drop 1) 44).2.1 [32]) aa aa ?_)
 refine aw aa (dr) (j0 aa ?_)
 refine aj (cS aa (dr) aa ?_)
 refine ae 1 aa (dc (g:=cq) aa (fun z=>?_) (fun z=>?_))
 ·have G:mr s=((0,0),5):=al (fun k=>by rw[k.2.2.1] at z;cases z)
  refine aY aa (z) (aY aa (z) (aY aa (z) (aY aa (z) (aY aa (z) (aY aa (z) (aj (c8 aa (z) aa ?_)))))))
  refine aX (eW aa aa (an 3 aa (ay ?_)))
  exact bt rfl rfl (by unfold l7;rw[G];rfl)
 refine aw aa (z) (bY aa ?_)
 refine aw aa (z) (cJ (NN F X (fu (s.drop 1) 44).2.1 41) aa aa ?_)
 refine aw aa (z) (bY aa ?_)
 refine aw aa (z) (uM aa ?_)
 refine aw rfl (z) (f3 rfl rfl (by simp only[bN];omega) (by have:=NO s;simp only[bN];omega) ?_)
 refine aw aa (z) (iV aa aa ?_)
 refine aj (cS aa (z) aa ?_)
 refine aX (aK aa (fun J=>?_) (fun J=>?_))
 ·have G:mr s=((0,0),5):=al (fun k=>by(simp only[Jn,f6] at J;exact J k.2.2.2))
  refine an 3 aa (ay ?_)
  exact bt rfl rfl (by unfold l7;rw[G];rfl)
 have hg:Ck (fu (s.drop 1) 44).2.1:=⟨by simpa using z,by simpa using J⟩
 have G:mr s=mJ (fQ (fu (s.drop 1) 44).1) (fQ (((fu (s.drop 1) 44).2.1.drop 1).take ((fu (s.drop 1) 44).2.1.length-1-1))):=az ⟨hp,by simpa using dr,hg⟩
 have RD:=Mf hg
 refine aQ (ai (ae 1 aa (aj (cJ (JF F _) aa aa ?_))))
 refine ak 5 aa (aL (an 2 aa (aK aa (fun K=>?_) (fun K=>?_))))
 ·have A:mJ (fQ (fu (s.drop 1) 44).1) (fQ (((fu (s.drop 1) 44).2.1.drop 1).take ((fu (s.drop 1) 44).2.1.length-1-1)))=((0,0),(fQ (fu (s.drop 1) 44).1).2):=az (by simpa using K)
  refine an 4 aa (ay ?_)
  exact bt rfl rfl (by unfold l7;rw[G,A];rfl)
 have O:¬¬(fQ (fu (s.drop 1) 44).1).2=0:=by simpa using K
 refine aQ (ai (ae 3 aa ?_))
 refine aj (f3 rfl rfl (by simp only[bN];omega) (by have:=NO s;simp only[bN];omega) ?_)
 rw[show(((fu (s.drop 1) 44).2.1.length:Nat):Int) -Int.ofNat 1=(((fu (s.drop 1) 44).2.1.length-1:Nat):Int) by simp only[bN];omega]
 refine aj (ko (l:=1) (h:=(fu (s.drop 1) 44).2.1.length-1) aa ⟨_,aa⟩ ⟨_,aa⟩ ah ah ?_)
 refine aj (cJ (JF F _) aa aa ?_)
 refine ak 5 aa (aL (an 2 aa (aK aa (fun U=>?_) (fun U=>?_))))
 ·have A:mJ (fQ (fu (s.drop 1) 44).1) (fQ (((fu (s.drop 1) 44).2.1.drop 1).take ((fu (s.drop 1) 44).2.1.length-1-1)))=((0,0),(fQ (((fu (s.drop 1) 44).2.1.drop 1).take ((fu (s.drop 1) 44).2.1.length-1-1))).2):=by unfold mJ;rw[al O,az (by simpa using U)]
  refine an 4 aa (ay ?_)
  exact bt rfl rfl (by unfold l7;rw[G,A];rfl)
 have Z:¬¬(fQ (((fu (s.drop 1) 44).2.1.drop 1).take ((fu (s.drop 1) 44).2.1.length-1-1))).2=0:=by simpa using U
 refine aQ (aL (an 3 aa (aK aa (fun Y=>?_) (fun Y=>?_))))
 ·have A:mJ (fQ (fu (s.drop 1) 44).1) (fQ (((fu (s.drop 1) 44).2.1.drop 1).take ((fu (s.drop 1) 44).2.1.length-1-1)))=((0,0),10):=by unfold mJ;rw[al O,al Z,az (by simpa using Y)]
  refine an 3 aa (ay ?_)
  exact bt rfl rfl (by unfold l7;rw[G,A];rfl)
 have A:mJ (fQ (fu (s.drop 1) 44).1) (fQ (((fu (s.drop 1) 44).2.1.drop 1).take ((fu (s.drop 1) 44).2.1.length-1-1)))=(((fQ (fu (s.drop 1) 44).1).1,(fQ (((fu (s.drop 1) 44).2.1.drop 1).take ((fu (s.drop 1) 44).2.1.length-1-1))).1),0):=by unfold mJ;rw[al O,al Z,al (by simpa using Y)]
 refine aQ (an 5 aa (ay ?_))
 exact bt rfl rfl (by unfold l7;rw[G,A];rfl)
theorem YC{T:bd}(F:FT T)(s:List UInt8)(hs:s.length<1000000):Sound T 198 [dS s] fun r=>r=l7 (mr s):=by
 refine dG F.ab9 aa (an 2 aa (aL (ai (ae 4 aa (dc (g:=aS) aa (fun bQ=>?_) (fun bQ=>?_))))))
 ·have J:mr s=((0,0),5):=Ic (.inl (by simp at bQ;omega))
  refine aY aa (bQ) (aY aa (bQ) (aY aa (bQ) (aj (c8 aa (bQ) aa ?_))))
  refine ae 1 aa (aY aa aa (aY aa aa (aY aa aa (aY aa aa (aY aa aa (aY aa aa (ak 1 aa (eW aa aa (an 3 aa ?_)))))))))
  refine ay ?_
  exact bt rfl rfl (by unfold l7;rw[J];rfl)
 have hl4:4≤s.length:=by simp at bQ;omega
 obtain⟨a,h0⟩:=jO (s:=s) (i:=0) ah
 obtain⟨b,h1⟩:=jO (s:=s) (i:=s.length-1) ah
 have Dd:(dT s).length=s.length-2:=by unfold dT;rw[jH,gN];omega
 refine aw aa (bQ) (bY aa ?_)
 refine aw aa (bQ) (fR aa aa h0 ?_)
 refine aw aa (bQ) (iV aa aa ?_)
 refine aj (cS aa (bQ) aa ?_)
 refine ae 1 aa (dc (g:=bh) aa (fun z=>?_) (fun z=>?_))
 ·have J:mr s=((0,0),5):=Ic (.inr (.inl fun k=>by(have h:=xd (h0.symm.trans k);subst h;simp at z)))
  refine aY aa (z) (aY aa (z) (aY aa (z) (aY aa (z) (aY aa (z) (aY aa (z) (aj (c8 aa (z) aa ?_)))))))
  refine aX (eW aa aa (an 3 aa (ay ?_)))
  exact bt rfl rfl (by unfold l7;rw[J];rfl)
 refine aw aa (z) (bY aa ?_)
 refine aw aa (z) (bY aa ?_)
 refine aw aa (z) (uM aa ?_)
 refine aw rfl (z) (f3 rfl rfl (by simp only[bN];omega) (by simp only[bN];omega) ?_)
 rw[show((s.length:Nat):Int) -Int.ofNat 1=((s.length-1:Nat):Int) by simp only[bN];omega]
 refine aw aa (z) (fR aa aa h1 ?_)
 refine aw aa (z) (iV aa aa ?_)
 refine aj (cS aa (z) aa ?_)
 refine aX (aK aa (fun U=>?_) (fun U=>?_))
 ·have J:mr s=((0,0),5):=Ic (.inr (.inr fun k=>by(have h:=xd (h1.symm.trans k);subst h;simp at U)))
  refine an 3 aa (ay ?_)
  exact bt rfl rfl (by unfold l7;rw[J];rfl)
 obtain rfl:a=91:=sI 91 (by simp at z;omega) rfl
 obtain rfl:b=41:=sI 41 (by simp at U;omega) rfl
 have O:=XF hl4 h0 h1
 refine aQ (ai (ae 3 aa ?_))
 refine aj (f3 rfl rfl (by simp only[bN];omega) (by simp only[bN];omega) ?_)
 rw[show((s.length:Nat):Int) -Int.ofNat 1=((s.length-1:Nat):Int) by simp only[bN];omega]
 refine aj (ko (l:=1) (h:=s.length-1) aa ⟨_,aa⟩ ⟨_,aa⟩ ah ah ?_)
 rw[show(s.drop 1).take (s.length-1-1)=dT s from rfl]
 refine ak 1 aa (an 1 aa (ri (fun VE B=>∃k:Nat,k≤(dT s).length∧(∀j x,j<k→(dT s)[j]?=some x→x≠44)∧(k<(dT s).length→(dT s)[k]?=some 44)∧bn [(0,dS s),(2,.vp 2 0),(3,d0),(4,dS (dT s)),(5,dI (k:Nat))] VE∧bn [(2,.one 42 16 [d0,d0])] B) ?_ ?_))
 ·rintro VE B⟨k,hk,hn,hc,hV,hB⟩
  refine db _ _ hV hB (aL (ai (ae 1 aa (aj (cM aa aa ah ?_)))))
  refine ae 4 aa (dc (g:=eo) aa (fun A=>?_) (fun A=>?_))
  ·have J:mr s=((0,0),5):=Ib O hk hn hc (.inl (by simp at A;omega))
   refine aY aa (A) (aY aa (A) (aY aa (A) (aY aa (A) (aY aa (A) (aj (c8 aa (A) aa ?_))))))
   refine ae 1 aa (aY aa aa (aY aa aa (aY aa aa (aY aa aa (aY aa aa (ak 1 aa (eW aa aa (an 3 aa (ay ?_)))))))))
   exact bt rfl rfl (by unfold l7;rw[J];rfl)
  have RO:k+1<(dT s).length:=by simp at A;omega
  obtain⟨c,Y⟩:=jO RO
  refine aw aa (A) (bY aa ?_)
  refine aw aa (A) (bY aa ?_)
  refine aw aa (A) (cM aa aa ah ?_)
  refine aw aa (A) (fR aa aa Y ?_)
  refine aw aa (A) (iV aa aa ?_)
  refine aj (cS aa (A) aa ?_)
  refine ae 1 aa (dc (g:=eS) aa (fun G=>?_) (fun G=>?_))
  ·have J:mr s=((0,0),5):=Ib O hk hn hc (.inr (.inl fun h=>by(have h:=xd (Y.symm.trans h);subst h;simp at G)))
   refine aY aa (G) (aY aa (G) (aY aa (G) (aY aa (G) (aY aa (G) (aj (c8 aa (G) aa ?_))))))
   refine aX (eW aa aa (an 3 aa (ay ?_)))
   exact bt rfl rfl (by unfold l7;rw[J];rfl)
  refine aw aa (G) (bY aa ?_)
  refine aw aa (G) (bY aa ?_)
  refine aw rfl (G) (jj rfl rfl (by simp only[bN];omega) (by simp only[bN];omega) ?_)
  rw[show((k:Nat):Int)+Int.ofNat 2=((k+2:Nat):Int) from rfl]
  refine aw aa (G) (ko (l:=k+2) (h:=(dT s).length) aa aa ⟨_,aa⟩ ah ah ?_)
  rw[show((dT s).drop (k+2)).take ((dT s).length-(k+2))=(dT s).drop (k+2) from pR (by rw[gN];omega)]
  refine aw rfl (G) (cJ (adi F ((dT s).drop (k+2)) 41 (by rw[gN];omega)) rfl rfl ?_)
  refine aj (cS aa (G) aa ?_)
  refine aX (aK aa (fun Z=>?_) (fun Z=>?_))
  ·have J:mr s=((0,0),5):=Ib O hk hn hc (.inr (.inr ⟨41,by simpa using Z,rfl⟩))
   refine an 3 aa (ay ?_)
   exact bt rfl rfl (by unfold l7;rw[J];rfl)
  obtain rfl:c=32:=sI 32 (by simp at G;omega) rfl
  have J:mr s=mJ (fQ ((dT s).take k)) (fQ ((dT s).drop (k+2))):=WE O RO hn (hc ah) Y (fun x hx e=>by(subst e;simp[hx] at Z))
  refine aQ (ai (ae 2 aa (aj (ko (l:=0) (h:=k) aa ⟨_,aa⟩ aa ah ah ?_))))
  rw[show((dT s).drop 0).take (k-0)=(dT s).take k from rfl]
  refine aj (cJ (I9 F _) aa aa ?_)
  refine ak 5 aa (aL (an 2 aa (aK aa (fun xR=>?_) (fun xR=>?_))))
  ·have K:mJ (fQ ((dT s).take k)) (fQ ((dT s).drop (k+2)))=((0,0),(fQ ((dT s).take k)).2):=az (by simpa using xR)
   refine an 4 aa (ay ?_)
   exact bt rfl rfl (by unfold l7;rw[J,K];rfl)
  have wk:¬¬(fQ ((dT s).take k)).2=0:=by simpa using xR
  refine aQ (ai (ae 2 aa ?_))
  refine aj (jj rfl rfl (by simp only[bN];omega) (by simp only[bN];omega) ?_)
  rw[show((k:Nat):Int)+Int.ofNat 2=((k+2:Nat):Int) from rfl]
  refine aj (ko (l:=k+2) (h:=(dT s).length) aa aa ⟨_,aa⟩ ah ah ?_)
  rw[show((dT s).drop (k+2)).take ((dT s).length-(k+2))=(dT s).drop (k+2) from pR (by rw[gN];omega)]
  refine aj (cJ (I9 F _) aa aa ?_)
  refine ak 5 aa (aL (an 2 aa (aK aa (fun xS=>?_) (fun xS=>?_))))
  ·have K:mJ (fQ ((dT s).take k)) (fQ ((dT s).drop (k+2)))=((0,0),(fQ ((dT s).drop (k+2))).2):=by unfold mJ;rw[al wk,az (by simpa using xS)]
   refine an 4 aa (ay ?_)
   exact bt rfl rfl (by unfold l7;rw[J,K];rfl)
  have GD:¬¬(fQ ((dT s).drop (k+2))).2=0:=by simpa using xS
  refine aQ (aL (an 3 aa (aK aa (fun Dr=>?_) (fun Dr=>?_))))
  ·have K:mJ (fQ ((dT s).take k)) (fQ ((dT s).drop (k+2)))=((0,0),10):=by unfold mJ;rw[al wk,al GD,az (by simpa using Dr)]
   refine an 3 aa (ay ?_)
   exact bt rfl rfl (by unfold l7;rw[J,K];rfl)
  have K:mJ (fQ ((dT s).take k)) (fQ ((dT s).drop (k+2)))=(((fQ ((dT s).take k)).1,(fQ ((dT s).drop (k+2))).1),0):=by unfold mJ;rw[al wk,al GD,al (by simpa using Dr)]
  refine aQ (an 5 aa (ay ?_))
  exact bt rfl rfl (by unfold l7;rw[J,K];rfl)
 refine bM (d7 (fun m VE B=>∃i,i≤(dT s).length∧m=(dT s).length-i∧(∀j x,j<i→(dT s)[j]?=some x→x≠44)∧bn [(0,dS s),(2,.vp 2 0),(3,d0),(4,dS (dT s)),(5,dI (i:Nat))] VE∧bn [(2,.one 42 16 [d0,d0])] B) ?_ (k:=(dT s).length) ⟨0,dp _,aa,fun _ _ h=>absurd h (IL _),⟨aa,aa,aa,aa,aa,trivial⟩,aa,trivial⟩)
 rintro m VE B⟨i,hi,rfl,hd,hV,hB⟩
 refine db _ _ hV hB (aL (ai (ae 5 aa (dc (g:=cN) aa (fun I=>?_) (fun I=>?_)))))
 ·have adk:i<(dT s).length:=by simp at I;omega
  obtain⟨c,AI⟩:=jO adk
  refine aw aa (I) (bY aa ?_)
  refine aw aa (I) (bY aa ?_)
  refine aw aa (I) (fR aa aa AI ?_)
  refine aw aa (I) (iV aa aa ?_)
  refine aj (c8 aa (I) aa ?_)
  refine aX (aK aa (fun q8=>?_) (fun q8=>?_))
  ·refine aQ (bM (bC (ae 1 aa (aj (cM aa aa ah ?_)))))
   refine ak 1 aa ?_
   exact⟨(dT s).length-(i+1),ah,i+1,ah,rfl,fun j x hj hx=>by(rcases Nat.lt_succ_iff_lt_or_eq.1 hj with k|rfl;exact hd j x k hx;rw[AI] at hx;cases hx;exact fun e=>by(subst e;simp at q8)),⟨rfl,rfl,rfl,rfl,rfl,trivial⟩,rfl,trivial⟩
  refine dJ ?_
  exact⟨i,hi,hd,fun _=>by(rw[AI];exact congrArg some (sI 44 (by simp at q8;omega) rfl)),⟨rfl,rfl,rfl,rfl,rfl,trivial⟩,rfl,trivial⟩
 have he:i=(dT s).length:=by simp at I;omega
 refine aY aa (I) (aY aa (I) (aY aa (I) (aY aa (I) (aj (cS aa (I) aa ?_)))))
 refine aX (ef aa aa (dJ ?_))
 exact⟨i,hi,hd,fun h=>by omega,⟨rfl,rfl,rfl,rfl,rfl,trivial⟩,rfl,trivial⟩
variable{s:List UInt8}
def uj(neg:Bool)(s:List UInt8):Option Int:=if(eE s:Int)<9223372036854775808∨(neg=true∧(eE s:Int)=9223372036854775808) then some (if neg=true then-(eE s:Int) else(eE s:Int)) else none
def sB:Rd:=⟨fQ,mr,uj⟩
theorem Mg:∀(s:List UInt8)(acc:Nat),(∀c,c∈s→48≤c.toNat∧c.toNat≤57)→(acc+1)*10^s.length≤10^19→Lib.parseUintM (2^64-1) acc s= .ok (s.foldl (fun n c=>n*10+(c.toNat-48)) acc)
 |[],_,_,_=>rfl
 |c::r,acc,h,z=>by
  have A:=h c lh
  rw[cV,z7] at z
  have hp:0<10^r.length:=Nat.pow_pos aq
  have I:(acc+1)*10≤10^19:=kx (by rw[ny (10^r.length) 10,←Co];exact Ji _ hp) z
  show(if 48≤c.toNat∧c.toNat≤57 then if 1844674407370955162≤acc then Lib.NumEnd.range else if 2^64-1<acc*10+(c.toNat-48) then .range else Lib.parseUintM (2^64-1) (acc*10+(c.toNat-48)) r else _)=_
  rw[az A,al ah,al ah]
  exact Mg r _ (fun x G=>h x (oR _ G)) (kx (by
   rw[ny (10^r.length) 10,←Co]
   exact lK _ ah) z)
theorem M0(h:om s):Lib.parseUintB 64 s= .ok (eE s):=by
 obtain⟨z,h2,A⟩:=h
 unfold Lib.parseUintB
 rw[al (by intro k;rw[k] at z;exact absurd z aq)]
 exact Mg s 0 A (by rw[jR,tT];exact Cq aq h2)
theorem Ow{c:UInt8}{r:List UInt8}{u:Nat}(z:Lib.parseUintB 64 (if c.toNat=43∨c.toNat=45 then r else c::r)= .ok u):Lib.parseIntB 64 (c::r)=if¬c.toNat=45∧2^(64-1)≤u then .range else if c.toNat=45∧2^(64-1)<u then .range else .ok (if c.toNat=45 then-(u:Int) else u):=by
 unfold Lib.parseIntB;simp only[z]
theorem XJ(h:eE s≤9223372036854775808):uj true s=some (-(eE s:Int)):=az (by
 rcases BU h with h|h
 ·exact .inl ah
 exact .inr ⟨aa,ah⟩)
theorem XK(h:eE s<9223372036854775808):uj false s=some (eE s:Int):=az (.inl ah)
theorem WG(h:9223372036854775808<eE s):uj true s=none:=al (by
 rintro(k|⟨_,k⟩)<;>omega)
theorem WH(h:9223372036854775808≤eE s):uj false s=none:=al (by
 rintro(k|⟨k,_⟩)
 ·omega
 cases k)
theorem WI(neg:Bool)(h:om s):Lib.parseIntB 64 (if neg=true then 45::s else s)=match uj neg s with|some m=>.ok m|none=>.range:=by
 have A:=M0 h
 have G:2^(64-1)=9223372036854775808:=by decide
 cases neg with
 |true=>
  have e:(45:UInt8).toNat=45:=rfl
  rw[az rfl,Ow (u:=eE s) (by rw[az (.inr e)];exact A),G]
  by_cases k:9223372036854775808<eE s
  ·rw[al (fun k=>k.1 e),az ⟨e,k⟩,WG k]
  rw[al (fun k=>k.1 e),al (fun z=>k z.2),az e,XJ ah]
 |false=>
  obtain⟨I,h2,J⟩:=h
  match s,I with
  |c::r,_=>
   have K:=J c lh
   have e:¬c.toNat=45:=by omega
   rw[al aq,Ow (u:=eE (c::r)) (by rw[al ah];exact A),G]
   by_cases k:9223372036854775808≤eE (c::r)
   ·rw[az ⟨e,k⟩,WH k]
   rw[al (fun z=>k z.2),al (fun z=>e z.1),al e,XK ah]
theorem WJ(y m d:Nat):(JD (j' y m d)).1≤1000000:=by
 unfold j'
 split
 ·decide
 split
 ·decide
 rename_i h;show ui y m d≤_;omega
theorem WK(s:List UInt8):(fQ s).1≤1000000:=by
 unfold fQ
 split
 ·decide
 split
 ·decide
 split
 ·decide
 exact WJ ..
theorem leaf{T:bd}(F:FT T)(X:FX T):iF T sB where
 uint s h:=by have h2:=h.2.1;exact Ts X.ac6 X.ac7 ah (M0 h)
 sint neg s h:=by
  obtain⟨t,A⟩:=X.ac9
  have h2:=h.2.1
  have e:=WI neg h
  refine(Uf X.ac8 A (s:=if neg=true then 45::s else s) (by split<;>(try rw[cV])<;>omega) (by rw[e];cases uj neg s;exact .inr rfl;exact .inl ⟨_,rfl⟩)).mono fun v G=>?_
  obtain⟨n,x,I,hp⟩:=G
  refine⟨n,x,I,?_⟩
  rw[e] at hp
  simp only[sB]
  cases hi:uj neg s with
  |none=>
   rw[hi] at hp
   rcases hp with⟨m,z,_⟩|⟨_,h2⟩
   ·cases z
   exact .inr ⟨aa,h2⟩
  |some m=>
   rw[hi] at hp
   rcases hp with⟨K,z,h2,J⟩|⟨z,_⟩
   ·cases z;exact .inl ⟨_,rfl,h2,J⟩
   cases z
 day s _:=JF F s
 iU s h:=adj F X s ah
theorem P2{T:bd}(F:FT T):kM T sB where
 day s _:=I9 F s
 iU s h:=YC F s ah
 lC:=WK
 int neg s:=by simp only[sB];unfold uj;exact Eq.refl _
end Go.Ev.Pp
namespace Go.Ev
open Go
variable{T:bd}{VE:cj}{B:bw}{Q:VV→bw→Prop}
theorem Ix{neg:Bool}{x y:aI}{v w:VV}{t:Bool}(A:x.vv VE=some v)(G:y.vv VE=some w)(I:(∀H X β a b,aP H X β v a→aP H X β w b→n8 .ptr a b=some t))(J:Q (dB (Bool.xor neg t)) B):VI T (.eqv .ptr neg x y) VE B [] Q:=fun _ _ _ _ _ z=>by
 obtain⟨a,K,h2⟩:=z.ch A
 obtain⟨b,O,U⟩:=z.ch G
 refine gq (v:=.bool (Bool.xor neg t)) (fun call=>?_) (fi z (v:=dB (Bool.xor neg t)) (by simp only[aP,cY]) J)
 show bI x _ (.err 7) (fun a=>bI y _ (.err 7) fun b=>ob (n8 .ptr a b) (.err 7) fun r=>nM (Bool.xor neg r) fun r=>.ok (.bool r) _)=_
 rw[dw,K,dk,dw,O,dk,I _ _ _ _ _ h2 U,dk]
 cases Bool.xor neg t<;>rfl
theorem WL{neg:Bool}{x y:aI}(z:x.vv VE=some (.k .iN))(A:y.vv VE=some (.k .iN))(G:Q (dB (Bool.xor neg true)) B):VI T (.eqv .ptr neg x y) VE B [] Q:=
 Ix z A (fun _ _ _ _ _ h k=>by simp only[aP] at h k;subst h;subst k;rfl) G
theorem WM{neg:Bool}{x y:aI}{b o:Nat}(z:x.vv VE=some (.vp b o))(A:y.vv VE=some (.k .iN))(G:Q (dB (Bool.xor neg false)) B):VI T (.eqv .ptr neg x y) VE B [] Q:=
 Ix z A (fun _ _ _ _ _ h k=>by simp only[aP] at h k;subst h;subst k;rfl) G
theorem WN{neg:Bool}{x y:aI}{b o:Nat}(z:x.vv VE=some (.vp b o))(A:y.vv VE=some (.vp b o))(G:Q (dB (Bool.xor neg true)) B):VI T (.eqv .ptr neg x y) VE B [] Q:=
 Ix z A (fun _ _ β _ _ h k=>by
  simp only[aP] at h k;subst h;subst k
  show aJ (Nat.beq (β b) (β b)) (aJ (Nat.beq 1 1) (aJ (Nat.beq o o) (some true) none) none) none=_
  rw[jl,jl,jl];rfl) G
theorem WO{f:Nat}{x:aI}{v:VV}(A:T.ft.get f=none)(h2:T.xt.get f=some 1)(G:x.vv VE=some v)(I:Q v B):VI T (.call f [x]) VE B [] Q:=fun _ _ _ H β z=>by
 obtain⟨a,J,K⟩:=z.ch G
 refine⟨1,a,H,fun lf n _ O=>?_,fi z K I⟩
 obtain⟨n,rfl⟩:∃n',n=n'+1:=⟨n-1,ah⟩
 show ob (ki _ [x]) (.err 42) (fun vs=>T.call lf (n+1) f vs H)=_
 rw[show ki _ [x]=some [a] from ?_,dk]
 ·show ob (T.ft.get f) (ob (T.xt.get f) (.err (Nat.add 10000 f)) fun c=>rB c _ H) _=_
  rw[A,h2];rfl
 exact Mz J VS
theorem M1{t n:Nat}{x:aI}{b aV:Nat}{row:List VV}(A:x.vv VE=some (.vp b 0))(G:bf B b=some (.one t aV row))(I:row.length=n)(J:Q (.vp b 0) B):VI T (.rl t n x) VE B [] Q:=fun _ _ _ H β z=>by
 obtain⟨a,K,h2⟩:=z.ch A
 have O:=h2
 simp only[aP] at h2
 subst h2
 obtain⟨l,lo,cs,U,Y,k3,Z⟩:=z.box b _ G
 have hl:l.length=n:=by rw[Z.length];exact I
 refine gq (v:=.ptr (β b) 1 0) (fun call=>?_) (fi z O J)
 show bI x _ (.err 44) (fun v=>aJ (yE v) (.ok v H) (iW v (.err 44) fun f g off=>jt (H.t.get f) (.err 44) fun elem es _ m lo fl _=>
  aJ (Nat.beq elem t) (aJ (Nat.beq es n) (aJ (Nat.beq off 0) (aJ (Nat.ble lo g) (aJ (Nat.ble g m) (aJ (Nat.ble 1 g) (aJ (Nat.beq fl 0) (.ok v H) (.err 44)) (.err 44)) (.err 44)) (.err 44)) (.err 44)) (.err 44)) (.err 44)))=_
 rw[dw,K,dk]
 show jt (H.t.get (β b)) (aH.err 44) _=_
 rw[U]
 show aJ (Nat.beq t t) (aJ (Nat.beq l.length n) (aJ (Nat.beq 0 0) (aJ (Nat.ble lo 1) _ _) _) _) _=_
 rw[jl,hl,jl,show Nat.ble lo 1=true from jy Y]
 rfl
theorem XL{x:aI}{b n es:Nat}(A:x.vv VE=some (.ac b n es))(h0:0<n)(G:Q (.bp b n 0 0 es) B):VI T (.wa x) VE B [] Q:=fun _ _ _ H β z=>by
 obtain⟨a,I,h2⟩:=z.ch A
 simp only[aP] at h2
 rcases h2 with⟨h,_⟩|⟨_,rfl⟩
 ·omega
 refine gq (v:=.ptr (β b) n 0) (fun call=>?_) (fi z (v:=.bp b n 0 0 es) (by simp only[aP];rw[sC]) G)
 show bI x _ (.err 45) (fun v=>hO v (.err 45) (.ok .iN H) fun f g off l _=>aJ (Nat.beq l 0) (.err 45) (.ok (.ptr f g off) H))=_
 rw[dw,I,dk]
 show aJ (Nat.beq n 0) _ _=_
 cases n with
 |zero=>omega
 |succ n=>rfl
theorem WQ{x:aI}{b es:Nat}(A:x.vv VE=some (.ac b 0 es))(G:Q (.k .iN) B):VI T (.wa x) VE B [] Q:=fun _ _ _ H β z=>by
 obtain⟨a,I,h2⟩:=z.ch A
 simp only[aP] at h2
 rcases h2 with⟨_,rfl⟩|⟨h,_⟩
 ·refine gq (v:=.iN) (fun call=>?_) (fi z (v:=.k .iN) (by simp only[aP]) G)
  show bI x _ (.err 45) (fun v=>hO v (.err 45) (.ok .iN H) fun f g off l _=>aJ (Nat.beq l 0) (.err 45) (.ok (.ptr f g off) H))=_
  rw[dw,I,dk];rfl
 omega
theorem Vo{e:Nat}{x n:aI}(G:x.vv VE=some (.k .iN))(I:n.vv VE=some (dI ((0:Nat):Int)))(J:Q (dS []) B):VI T (.rA e x n) VE B [] Q:=fun _ _ _ H β z=>by
 obtain⟨a,K,h2⟩:=z.ch G
 obtain⟨c,O,A⟩:=z.ch I
 simp only[aP,cY] at h2 A
 subst h2;subst A
 refine gq (v:=.str 0 0) (fun call=>?_) (fi z (v:=dS []) (by simp only[aP,cl,cY];rfl) J)
 show bI x _ (.err 46) (fun p=>aJ (yE p) (bI n _ (.err 46) fun U=>gU U (.err 46) fun k i=>jc i (.err 46) fun l=>aJ (Nat.beq (dO k) 3) (aJ (Nat.beq l 0) (.ok (.str 0 0) H) (.err 46)) (.err 46)) _)=_
 rw[dw,K,dk]
 show bI n _ (.err 46) _=_
 rw[dw,O,dk];rfl
def dQ(c:UInt8):List DC:=[.i .u8 (c.toNat:Nat)]
theorem Iy{H:aE}{X:Nat→Prop}:∀{s:List UInt8}{ls:List (List ax)},kz H X 1 ls (s.map dQ)→ni ls=some (pack s)
 |[],ls,h=>by
  cases ls with
  |nil=>rfl
  |cons _ _=>exact absurd h (by simp[kz])
 |c::s,ls,h=>by
  cases ls with
  |nil=>exact absurd h (by simp[kz])
  |cons l r=>
   simp only[e7,kz] at h
   obtain⟨⟨G,h2⟩,z⟩:=h
   have A:=Iy z
   simp only[dQ,dn,cY] at h2
   obtain⟨_,_,rfl,rfl,rfl⟩:=h2
   have I:=c.toNat_lt
   show aJ (Nat.beq 4 4) (aJ (Nat.ble c.toNat 255) (ob (ni r) none fun v=>some (Nat.add c.toNat (Nat.mul 256 v))) none) none=_
   rw[show Nat.ble c.toNat 255=true from jy ah,A]
   rfl
theorem M3{H0:Nat→Nat}{X0:Nat→Prop}{E:Env}{H:aE}{β:Nat→Nat}(G:Rel H0 X0 VE B E H β){b elem aV:Nat}{s:List UInt8}(I:bf B b=some (.acc elem aV 1 (s.map dQ)))(h0:0<s.length):
  ∃ls,elems H (β b) s.length 1 s.length 0=some ls∧ni ls=some (pack s):=by
 have z:(s.map dQ).length=s.length:=ca ..
 rcases(YR.ac (fA:=1) I).elems G aq (a:=.slice (β b) s.length 0 s.length 1) (by simp only[aP,z];exact .inr ⟨h0,trivial⟩) with⟨h,_⟩|⟨f,g,off,e,ls,A,h2,J⟩
 ·cases h
 rw[z] at A h2
 cases A
 exact⟨ls,h2,Iy J⟩
theorem WR{x n:aI}{b aV:Nat}{s:List UInt8}(J:x.vv VE=some (.bp b s.length 0 0 1))(K:n.vv VE=some (dI (s.length:Nat)))(G:bf B b=some (.acc 5 aV 1 (s.map dQ)))(h0:0<s.length)(O:s.length≤70368744177664)
  (U:Q (dS s) ((b,.acc 5 aV 1 [])::B)):VI T (.rA 5 x n) VE B [b] Q:=fun _ X0 _ H β z=>by
 obtain⟨a,Y,h2⟩:=z.ch J
 obtain⟨c,Z,I⟩:=z.ch K
 simp only[aP,cY] at h2 I
 subst h2;subst I
 obtain⟨ls,e1,e2⟩:=M3 z G h0
 have A:s.map dQ≠[]:=fun k=>by rw[List.map_eq_nil_iff] at k;rw[k] at h0;exact absurd h0 aq
 rcases z.box b _ G with h|⟨lo,cs,k1,k2,k3⟩
 ·exact absurd h A
 refine⟨0,.str s.length (pack s),⟨H.next,H.bj,wrote (β b) H.bj H.ws,H.t.set (β b) (.row 5 1 aV (s.map dQ).length lo 2 cs)⟩,fun lf m _ _=>?_,?_⟩
 ·show xg 5 x n _ H=_
  unfold xg
  rw[dw,Y,dk]
  show bI n _ (.err 46) _=_
  rw[dw,Z,dk]
  show aJ (Nat.ble 1 s.length) (aJ (Nat.ble s.length 70368744177664) (ob (elems H (β b) s.length 1 s.length 0) (aH.err 46) _) (aH.err 46)) (aH.err 46)=_
  rw[show Nat.ble 1 s.length=true from jy h0,show Nat.ble s.length 70368744177664=true from jy O,e1]
  show ob (ni ls) (aH.err 46) _=_
  rw[e2,dk,iG]
  cases H with
  |mk next bj ws t=>
   unfold nd
   show jt (t.get (β b)) (aH.err 46) _=_
   rw[show t.get (β b)=_ from k1]
   exact GT.kG t (β b) (.row 5 1 aV (s.map dQ).length lo 2 cs) fun t=>aH.ok (.str s.length (pack s)) ⟨next,bj,wrote (β b) bj ws,t⟩
 refine A2 (s':=.acc 5 aV 1 []) (v:=dS s) z G A rfl (fun f hf=>?_) rfl rfl (fun X _ _=>.inl rfl) (fun X=>by simp only[aP,cl,cY]) U
 show(H.t.set (β b) _).get f=_
 rw[GT.eY,al hf]
theorem Hx{x:aI}{b aV elem:Nat}{s:List UInt8}(A:x.vv VE=some (.ac b s.length 1))(G:bf B b=some (.acc elem aV 1 (s.map dQ)))(I:Q (dS s) B):VI T (.nN x) VE B [] Q:=fun _ X0 _ H β z=>by
 obtain⟨a,J,h2⟩:=z.ch A
 simp only[aP] at h2
 refine gq (v:=.str s.length (pack s)) (fun call=>?_) (fi z (v:=dS s) (by simp only[aP,cl,cY]) I)
 show bI x _ (.err 39) (fun v=>hO v (.err 39) (.ok (.str 0 0) H) fun f g off n _=>
  ob (elems H f g 1 n off) (.err 39) fun l=>ob (ni l) (.err 39) fun s=>dz s fun s=>.ok (.str n s) H)=_
 rw[dw,J,dk]
 rcases h2 with⟨h,rfl⟩|⟨h,rfl⟩
 ·obtain rfl:=List.length_eq_zero_iff.1 h;rfl
 obtain⟨ls,e1,e2⟩:=M3 z G h
 show ob (elems H (β b) s.length 1 s.length 0) (aH.err 39) _=_
 rw[e1]
 show ob (ni ls) (aH.err 39) _=_
 rw[e2,dk]
 exact iG (pack s) fun v=>aH.ok (.str s.length v) H
end Go.Ev
namespace Go.Ev.Pp
open Go
def adV(a:Bool)(k:Nat):VV:=match a with|true=>.vp k 0|false=>.k .iN
def nG(a:Bool)(k l:Nat)(b:List UInt8):bw:=[(k,.one 151 32 [adV a k,.ac l (b.map dQ).length 1]),(l,.acc 5 1 1 (b.map dQ))]
def lD(c:UInt8):Bool:=decide (65≤c.toNat)&&decide (c.toNat≤90)
def uk(c:UInt8):Bool:=decide (97≤c.toNat)&&decide (c.toNat≤122)
def jb(c:UInt8):Bool:=uk c||(iu c||decide (c.toNat=95))
def mw(c:UInt8):Bool:=decide (c.toNat=32)||(decide (c.toNat=9)||(decide (c.toNat=10)||decide (c.toNat=13)))
def runM(P:UInt8→Bool)(s:List UInt8)(i:Nat):Nat:=i+((s.drop i).takeWhile P).length
section
variable{P:UInt8→Bool}{s:List UInt8}{i:Nat}{c:UInt8}
theorem tf(h:s[i]?=some c):s.drop i=c::s.drop (i+1):=by
 obtain⟨z,he⟩:=List.getElem?_eq_some_iff.1 h
 rw[Cs z,he]
theorem r7(h:s[i]?=some c)(hp:P c=true):runM P s i=runM P s (i+1):=by
 unfold runM;rw[tf h,IN,hp];simp;omega
theorem BR(h:s[i]?=some c)(hp:P c=false):runM P s i=i:=by
 unfold runM;rw[tf h,IN,hp];simp
theorem BT(h:s.length≤i):runM P s i=i:=by
 unfold runM;rw[IP h];rfl
theorem yz:i≤runM P s i:=ku ..
theorem yA(h:i≤s.length):runM P s i≤s.length:=by
 unfold runM
 have:=(List.takeWhile_sublist P (l:=s.drop i)).length_le
 rw[gN] at this;omega
theorem Mh:∀(l:List UInt8)(x:UInt8),x∈l.take (l.takeWhile P).length→P x=true
 |[],x,h=>by simp at h
 |y::r,x,h=>by
  rw[IN] at h
  cases z:P y with
  |false=>rw[z] at h;simp at h
  |true=>
   rw[z,az rfl,cV,xb] at h
   rcases List.mem_cons.1 h with rfl|h
   ·exact z
   exact Mh r x h
theorem D5:∀x,x∈(s.drop i).take (runM P s i-i)→P x=true:=by
 unfold runM
 rw[Jm]
 intro x z
 exact Mh _ x z
end
def qU:List UInt8→Option (List UInt8×Nat)
 |[]=>none
 |c::r=>if c=39 then(match r with
   |[]=>some ([],1)
   |d::z=>if d=39 then(qU z).map fun x=>(39::x.1,x.2+2) else some ([],1))
  else(qU r).map fun x=>(c::x.1,x.2+1)
def kh(s:List UInt8)(j:Nat)(b:List UInt8):Option (List UInt8×Nat):=(qU (s.drop j)).map fun x=>(b++x.1,j+x.2)
structure JG where
 kind:Int
 text:List UInt8
 stop:Nat
 err:Int
def cut(s:List UInt8)(i j:Nat):List UInt8:=(s.drop i).take (j-i)
def rj:List UInt8:=[40,41,44,46,42,43,45,61,60,62,59]
def cK(s:List UInt8)(i:Nat)(c:UInt8):JG:=
 if lD c=true then⟨1,cut s i (runM lD s i),runM lD s i,0⟩
 else if uk c=true then⟨2,cut s i (runM jb s i),runM jb s i,0⟩
 else if iu c=true then⟨3,cut s i (runM iu s i),runM iu s i,0⟩
 else if c=39 then(match kh s (i+1) [] with
  |some x=>⟨4,x.1,x.2,0⟩
  |none=>⟨4,[],0,2⟩)
 else if c∈rj then⟨5,cut s i (i+1),i+1,0⟩
 else⟨0,[],0,5⟩
def k0(k:Int)(t:List UInt8):Bool:=if k=3 then decide (t.length≤19) else if k=4 then decide (t.length≤200) else decide (t.length≤20)
def lY(s:List UInt8):Nat→Nat→List cu→List cu×Nat×Int
 |0,i,_=>([],i,4)
 |k+1,i,out=>match s[i]?with
  |none=>(out++[⟨6,(s.length:Nat),[]⟩],0,0)
  |some c=>if¬(cK s i c).err=0 then([],i,(cK s i c).err)
   else if¬(k0 (cK s i c).kind (cK s i c).text=true∧out.length<1000) then([],i,4)
   else lY s k (runM mw s (cK s i c).stop) (out++[⟨(cK s i c).kind,(i:Nat),(cK s i c).text⟩])
def e6(s:List UInt8):List cu×Nat×Int:=if 4000<s.length then([],0,4) else lY s (s.length+1) (runM mw s 0) []
def FJ(x:List cu×Nat×Int):VV:=.tuple [.d (.fC (x.1.map cu.enc)),dI (x.2.1:Nat),dI x.2.2]
variable{s:List UInt8}{i:Nat}{c:UInt8}
theorem Vp(h:s[i]?=some c):cut s i (i+1)=[c]:=by
 unfold cut;rw[tf h,Jm];rfl
theorem Ew:∀(l:List UInt8)x,qU l=some x→1≤x.2∧x.2≤l.length∧x.1.length<x.2
 |[],x,h=>by unfold qU at h;cases h
 |[c],x,h=>by
  unfold qU at h
  split at h
  ·cases h;exact⟨aq,by simp,aq⟩
  unfold qU at h;cases h
 |c::d::r,x,h=>by
  unfold qU at h
  split at h
  ·simp only at h
   split at h
   ·obtain⟨y,z,rfl⟩:=Option.map_eq_some_iff.1 h
    obtain⟨A,h2,G⟩:=Ew r y z
    simp only[cV];omega
   cases h;exact⟨aq,by simp,aq⟩
  obtain⟨y,z,rfl⟩:=Option.map_eq_some_iff.1 h
  obtain⟨A,h2,G⟩:=Ew (d::r) y z
  simp only[cV] at h2⊢;omega
theorem Hy(h:s[i]?=some c)(h0:(cK s i c).err=0):i<(cK s i c).stop∧(cK s i c).stop≤s.length:=by
 have I:i<s.length:=(List.getElem?_eq_some_iff.1 h).1
 have go:∀P:UInt8→Bool,P c=true→i<runM P s i∧runM P s i≤s.length:=fun P hp=>by
  rw[r7 h hp]
  have:=yz (P:=P) (s:=s) (i:=i+1)
  have:=yA (P:=P) (s:=s) (i:=i+1) I
  omega
 unfold cK at h0⊢
 split
 ·rename_i k;exact go _ k
 split
 ·rename_i k;exact go _ (by unfold jb;rw[k];rfl)
 split
 ·rename_i k;exact go _ k
 split
 ·rename_i z A G k
  rw[al z,al A,al G,az k] at h0
  unfold kh at h0⊢
  cases J:qU (s.drop (i+1)) with
  |none=>rw[J] at h0;exact absurd h0 (by decide:¬(2:Int)=0)
  |some x=>
   obtain⟨U,h2,Y⟩:=Ew _ _ J
   rw[gN] at h2
   show i<i+1+x.2∧i+1+x.2≤s.length
   omega
 rename_i z A G K
 split
 ·exact⟨gG _,I⟩
 rename_i O;rw[al z,al A,al G,al K,al O] at h0;exact absurd h0 aq
theorem Mi(h:s[i]?=some c)(h0:(cK s i c).err=0)(z:k0 (cK s i c).kind (cK s i c).text=true):
  (cK s i c).kind≠6∧((cK s i c).kind=3→om (cK s i c).text)∧(cK s i c).text.length≤200:=by
 have Z:i<s.length:=(List.getElem?_eq_some_iff.1 h).1
 have A:∀j,(cut s i j).length≤j-i:=fun j=>by unfold cut;exact List.length_take_le ..
 unfold cK at h0 z⊢
 split
 ·rename_i k;rw[az k] at z
  refine⟨(by decide:(1:Int)≠6),fun e=>absurd e (by decide:¬(1:Int)=3),?_⟩
  have z:decide ((cut s i (runM lD s i)).length≤20)=true:=z
  simp at z;show(cut s i (runM lD s i)).length≤200;omega
 rename_i J;rw[al J] at z h0
 split
 ·rename_i k;rw[az k] at z
  refine⟨(by decide:(2:Int)≠6),fun e=>absurd e (by decide:¬(2:Int)=3),?_⟩
  have z:decide ((cut s i (runM jb s i)).length≤20)=true:=z
  simp at z;show(cut s i (runM jb s i)).length≤200;omega
 rename_i K;rw[al K] at z h0
 split
 ·rename_i k;rw[az k] at z
  have z:decide ((cut s i (runM iu s i)).length≤19)=true:=z
  simp at z
  refine⟨(by decide:(3:Int)≠6),fun _=>⟨?_,z,fun x O=>x7.1 (D5 x O)⟩,by show(cut s i (runM iu s i)).length≤200;omega⟩
  show 0<(cut s i (runM iu s i)).length
  have h2:=yz (P:=iu) (s:=s) (i:=i+1)
  unfold cut;rw[jH,gN,r7 h k];omega
 rename_i U;rw[al U] at z h0
 split
 ·rename_i G;rw[az G] at z h0
  cases I:kh s (i+1) [] with
  |none=>rw[I] at h0;exact absurd h0 aq
  |some x=>
   rw[I] at z
   refine⟨(by decide:(4:Int)≠6),fun e=>absurd e (by decide:¬(4:Int)=3),?_⟩
   have z:decide (x.1.length≤200)=true:=z
   simpa using z
 rename_i G;rw[al G] at h0
 split
 ·refine⟨(by decide:(5:Int)≠6),fun e=>absurd e (by decide:¬(5:Int)=3),?_⟩
  have:=A (i+1);show(cut s i (i+1)).length≤200;omega
 rename_i Y;rw[al Y] at h0;exact absurd h0 aq
structure Gr(out:List cu):Prop where
 kind:∀t,t∈out→t.kind≠6
 num:∀t,t∈out→t.kind=3→om t.text
 text:∀t,t∈out→t.text.length≤200
theorem Gr.snoc{out:List cu}(h:Gr out)(A:s[i]?=some c)(h0:(cK s i c).err=0)(G:k0 (cK s i c).kind (cK s i c).text=true):Gr (out++[⟨(cK s i c).kind,(i:Nat),(cK s i c).text⟩]):=by
 obtain⟨I,J,K⟩:=Mi A h0 G
 refine⟨fun t z=>?_,fun t z=>?_,fun t z=>?_⟩<;>rcases List.mem_append.1 z with z|z
 ·exact h.kind t z
 ·rcases List.mem_singleton.1 z with rfl;exact I
 ·exact h.num t z
 ·rcases List.mem_singleton.1 z with rfl;exact J
 ·exact h.text t z
 rcases List.mem_singleton.1 z with rfl;exact K
theorem Lw:∀(k i:Nat)(out:List cu),Gr out→out.length≤1000→(lY s k i out).2.2=0→sw (lY s k i out).1
 |0,i,out,_,_,h=>absurd h (by unfold lY;exact(by decide:¬(4:Int)=0))
 |k+1,i,out,ho,O,h=>by
  unfold lY at h⊢
  cases G:s[i]?with
  |none=>
   rw[G] at h
   simp only
   refine⟨by simp,by simp;omega,fun j t z=>?_,fun t z J=>?_,fun t z=>?_⟩
   ·rw[bE,dY]
    by_cases K:j<out.length
    ·rw[rz K] at z
     exact⟨fun e=>absurd e (ho.kind t (lJ z)),fun e=>by omega⟩
    have I:=(List.getElem?_eq_some_iff.1 z).1
    rw[bE,dY] at I
    obtain rfl:j=out.length:=by omega
    rw[xm (bR _),Nat.sub_self] at z
    simp at z;subst z
    simp
   ·rcases List.mem_append.1 z with z|z
    ·exact ho.num t z J
    rcases List.mem_singleton.1 z with rfl;exact absurd J (by decide:¬(6:Int)=3)
   rcases List.mem_append.1 z with z|z
   ·exact ho.text t z
   rcases List.mem_singleton.1 z with rfl;exact dp _
  |some c=>
   rw[G] at h
   simp only at h⊢
   split
   ·rename_i he;rw[az he] at h;exact absurd h he
   rename_i he;rw[al he] at h
   split
   ·rename_i A;rw[az A] at h;exact absurd h (by decide:¬(4:Int)=0)
   rename_i A;rw[al A] at h
   have he:(cK s i c).err=0:=by simpa using he
   have A:k0 (cK s i c).kind (cK s i c).text=true∧out.length<1000:=by simpa using A
   exact Lw k _ _ (ho.snoc G he A.1) (by rw[bE,dY];omega) h
theorem wF(h:(e6 s).2.2=0):sw (e6 s).1:=by
 unfold e6 at h⊢
 split
 ·rename_i z;rw[az z] at h;exact absurd h (by decide:¬(4:Int)=0)
 rename_i z;rw[al z] at h
 exact Lw _ _ _ ⟨fun _ h=>(by cases h),fun _ h=>(by cases h),fun _ h=>(by cases h)⟩ aq h
section
variable{b:List UInt8}{j:Nat}{d:UInt8}
theorem Ox(h:s[j]?=some c)(z:¬c=39):kh s j b=kh s (j+1) (b++[c]):=by
 unfold kh
 rw[tf h]
 conv=>lhs;unfold qU
 rw[al z,Option.map_map]
 congr 1
 funext x
 simp only[Function.comp,List.append_assoc,OF]
 congr 1;omega
theorem NP(h:s[j]?=some 39)(h2:s[j+1]?=some 39):kh s j b=kh s (j+2) (b++[39]):=by
 unfold kh
 rw[tf h,tf h2]
 conv=>lhs;unfold qU
 rw[az rfl]
 simp only[if_true,Option.map_map]
 congr 1
 funext x
 simp only[Function.comp,List.append_assoc,OF]
 congr 1;omega
theorem EX(h:s[j]?=some 39)(h2:∀d,s[j+1]?=some d→¬d=39):kh s j b=some (b,j+1):=by
 unfold kh
 rw[tf h]
 unfold qU
 rw[az rfl]
 cases z:s[j+1]?with
 |none=>rw[IP (List.getElem?_eq_none_iff.1 z)];simp
 |some d=>rw[tf z];simp[h2 d z]
theorem Oy(h:s.length≤j):kh s j b=none:=by
 unfold kh;rw[IP h];rfl
end
def adl:Option (List UInt8×Nat)→VV
 |some x=>.tuple [.d (cl x.1),.d (.i .i64 (x.2:Nat)),.d (.i .i64 0)]
 |none=>.tuple [.d (cl []),.d (.i .i64 0),.d (.i .i64 2)]
def vZ(x:JG)(i:Nat):VV:=.tuple [.agg [dI x.kind,dI (if x.err=5 then 0 else(i:Nat)),dS x.text],dI (x.stop:Nat),dI x.err]
theorem M4{l:List UInt8}:0≤fh c l↔c∈l:=by
 constructor
 ·intro h
  obtain⟨k,hk⟩:∃k:Nat,fh c l=k:=⟨(fh c l).toNat,ah⟩
  exact lJ (DV hk).1
 intro h
 refine vi fun k=>?_
 have J:=yw c l
 obtain⟨j,K,he⟩:=IM h
 have key:∀(l:List UInt8),fh c l= -1→c∉l:=by
  intro l
  induction l with
  |nil=>intro _ h;cases h
  |cons x r I=>
   intro h z
   have h:(if x=c then(0:Int) else if fh c r= -1 then-1 else fh c r+1)= -1:=h
   by_cases A:x=c
   ·rw[az A] at h;omega
   rw[al A] at h
   have:=yw c r
   by_cases G:fh c r= -1
   ·rcases List.mem_cons.1 z with e|z
    ·exact A e.symm
    exact I G z
   rw[al G] at h;omega
 exact key l ah h
structure FK(k:Int)(t:List UInt8):Prop where
 kind:k=1∨k=2∨k=3∨k=4∨k=5
 ne:k≠4→0<t.length
 up:k=1→∀c,c∈t→lD c=true
 RP:k=2→∀c,c∈t→jb c=true
 low:k=2→∀c,t[0]?=some c→uk c=true
 o3:k=3→∀c,c∈t→iu c=true
 sgn:k=5→∃c,t=[c]∧c∈rj
theorem Cm{j:Nat}(h:s[i]?=some c)(z:i<j):(cut s i j)[0]?=some c∧0<(cut s i j).length:=by
 unfold cut
 rw[tf h,show j-i=(j-i-1)+1 by omega,xb]
 exact⟨rfl,by simp⟩
theorem NQ(h:s[i]?=some c)(h0:(cK s i c).err=0):FK (cK s i c).kind (cK s i c).text:=by
 have z:=(Hy h h0).1
 unfold cK at h0 z⊢
 split
 ·rename_i G
  rw[az G] at z
  exact⟨.inl rfl,fun _=>(Cm h z).2,fun _=>D5,fun e=>absurd e (by decide:¬(1:Int)=2),fun e=>absurd e (by decide:¬(1:Int)=2),fun e=>absurd e (by decide:¬(1:Int)=3),fun e=>absurd e (by decide:¬(1:Int)=5)⟩
 rename_i G;rw[al G] at h0 z
 split
 ·rename_i A
  rw[az A] at z
  exact⟨.inr (.inl rfl),fun _=>(Cm h z).2,fun e=>absurd e (by decide:¬(2:Int)=1),fun _=>D5,fun _ d O=>by rw[show _=some c from(Cm h z).1] at O;cases O;exact A,fun e=>absurd e (by decide:¬(2:Int)=3),fun e=>absurd e (by decide:¬(2:Int)=5)⟩
 rename_i A;rw[al A] at h0 z
 split
 ·rename_i I
  rw[az I] at z
  exact⟨.inr (.inr (.inl rfl)),fun _=>(Cm h z).2,fun e=>absurd e (by decide:¬(3:Int)=1),fun e=>absurd e (by decide:¬(3:Int)=2),fun e=>absurd e (by decide:¬(3:Int)=2),fun _=>D5,fun e=>absurd e (by decide:¬(3:Int)=5)⟩
 rename_i I;rw[al I] at h0
 split
 ·rename_i J;rw[az J] at h0
  cases U:kh s (i+1) [] with
  |none=>rw[U] at h0;exact absurd h0 (by decide:¬(2:Int)=0)
  |some x=>exact⟨.inr (.inr (.inr (.inl rfl))),fun e=>absurd rfl e,fun e=>absurd e (by decide:¬(4:Int)=1),fun e=>absurd e (by decide:¬(4:Int)=2),fun e=>absurd e (by decide:¬(4:Int)=2),fun e=>absurd e (by decide:¬(4:Int)=3),fun e=>absurd e (by decide:¬(4:Int)=5)⟩
 rename_i J;rw[al J] at h0
 split
 ·rename_i K
  exact⟨.inr (.inr (.inr (.inr rfl))),fun _=>(Cm h (gG i)).2,fun e=>absurd e (by decide:¬(5:Int)=1),fun e=>absurd e (by decide:¬(5:Int)=2),fun e=>absurd e (by decide:¬(5:Int)=2),fun e=>absurd e (by decide:¬(5:Int)=3),fun _=>⟨c,Vp h,K⟩⟩
 rename_i K;rw[al K] at h0;exact absurd h0 (by decide:¬(5:Int)=0)
def qV(x:JG)(i n:Nat):VV:=.tuple [dI ((if x.err=5 then i+1 else if x.err=2 then n else x.stop:Nat):Int),dI x.kind,dS x.text,dB (!decide (x.err=2))]
theorem RQ{T:bd}(F:FT T)(c:UInt8):Sound T 113 [.d (.i .u8 (c.toNat:Nat))] fun r=>r=dB (lD c):=by
 refine dG F.abf aa (an 1 aa (ai (ae 3 aa (dc (g:=ao) aa (fun z=>?_) (fun z=>?_)))))
 ·refine aw aa (z) (bY aa ?_)
  refine aw aa (z) (nO aa aa ?_)
  refine aj (c8 aa (z) aa ?_)
  refine ak 1 aa (ay ?_)
  exact bt rfl rfl (by refine congrArg (fun b=>VV.d (DC.b b)) ?_;rw[gE];unfold lD;simp at*;omega)
 refine aY aa (z) (aY aa (z) (aj (cS aa (z) aa ?_)))
 refine ak 1 aa (ay ?_)
 exact bt rfl rfl (by refine congrArg (fun b=>VV.d (DC.b b)) ?_;rw[gE];unfold lD;simp at*;omega)
theorem QS{T:bd}(F:FT T)(c:UInt8):Sound T 114 [.d (.i .u8 (c.toNat:Nat))] fun r=>r=dB (uk c):=by
 refine dG F.abg aa (an 1 aa (ai (ae 3 aa (dc (g:=ao) aa (fun z=>?_) (fun z=>?_)))))
 ·refine aw aa (z) (bY aa ?_)
  refine aw aa (z) (nO aa aa ?_)
  refine aj (c8 aa (z) aa ?_)
  refine ak 1 aa (ay ?_)
  exact bt rfl rfl (by refine congrArg (fun b=>VV.d (DC.b b)) ?_;rw[gE];unfold uk;simp at*;omega)
 refine aY aa (z) (aY aa (z) (aj (cS aa (z) aa ?_)))
 refine ak 1 aa (ay ?_)
 exact bt rfl rfl (by refine congrArg (fun b=>VV.d (DC.b b)) ?_;rw[gE];unfold uk;simp at*;omega)
theorem JH{T:bd}(F:FT T)(c:UInt8):Sound T 116 [.d (.i .u8 (c.toNat:Nat))] fun r=>r=dB (iu c):=by
 refine dG F.abi aa (an 1 aa (ai (ae 3 aa (dc (g:=ao) aa (fun z=>?_) (fun z=>?_)))))
 ·refine aw aa (z) (bY aa ?_)
  refine aw aa (z) (nO aa aa ?_)
  refine aj (c8 aa (z) aa ?_)
  refine ak 1 aa (ay ?_)
  exact bt rfl rfl (by refine congrArg (fun b=>VV.d (DC.b b)) ?_;rw[gE];unfold iu;simp at*;omega)
 refine aY aa (z) (aY aa (z) (aj (cS aa (z) aa ?_)))
 refine ak 1 aa (ay ?_)
 exact bt rfl rfl (by refine congrArg (fun b=>VV.d (DC.b b)) ?_;rw[gE];unfold iu;simp at*;omega)
theorem RR{T:bd}(F:FT T)(c:UInt8):Sound T 57 [.d (.i .u8 (c.toNat:Nat))] fun r=>r=dB (mw c):=by
 refine dG F.f57 aa (an 1 aa (ai (ae 3 aa (dc (g:=ao) aa (fun z=>?_) (fun z=>?_)))))
 ·refine aY aa (z) (aY aa (z) (aj (c8 aa (z) aa ?_)))
  refine ae 1 aa (aY aa aa (aY aa aa (ae 2 aa (aY aa aa (aY aa aa (ak 2 aa (ay ?_)))))))
  exact bt rfl rfl (by refine congrArg (fun b=>VV.d (DC.b b)) ?_;rw[gE];unfold mw;simp at*;omega)
 refine aw aa (z) (bY aa ?_)
 refine aw aa (z) (iC aa aa ?_)
 refine aj (cS aa (z) aa ?_)
 refine ae 1 aa (dc (g:=aM) aa (fun A=>?_) (fun A=>?_))
 ·refine aY aa (A) (aY aa (A) (aj (c8 aa (A) aa ?_)))
  refine ae 1 aa (aY aa aa (aY aa aa (ak 2 aa (ay ?_))))
  exact bt rfl rfl (by refine congrArg (fun b=>VV.d (DC.b b)) ?_;rw[gE];unfold mw;simp at*;omega)
 refine aw aa (A) (bY aa ?_)
 refine aw aa (A) (iC aa aa ?_)
 refine aj (cS aa (A) aa ?_)
 refine ae 1 aa (dc (g:=aS) aa (fun bQ=>?_) (fun bQ=>?_))
 ·refine aY aa (bQ) (aY aa (bQ) (aj (c8 aa (bQ) aa ?_)))
  refine ak 1 aa (ay ?_)
  exact bt rfl rfl (by refine congrArg (fun b=>VV.d (DC.b b)) ?_;rw[gE];unfold mw;simp at*;omega)
 refine aw aa (bQ) (bY aa ?_)
 refine aw aa (bQ) (iC aa aa ?_)
 refine aj (cS aa (bQ) aa ?_)
 refine ak 1 aa (ay ?_)
 exact bt rfl rfl (by refine congrArg (fun b=>VV.d (DC.b b)) ?_;rw[gE];unfold mw;simp at*;omega)
theorem inC{T:bd}(F:FT T)(c:UInt8):Sound T 115 [.d (.i .u8 (c.toNat:Nat))] fun r=>r=dB (jb c):=by
 refine dG F.abh aa (an 1 aa (ai (ae 1 aa (aj (cJ (QS F c) aa aa ?_)))))
 refine ae 1 aa (dc (g:=ao) aa (fun z=>?_) (fun z=>?_))
 ·have G:jb c=true:=by unfold jb;rw[z];rfl
  refine aY aa (z) (aY aa (z) (aj (c8 aa (z) aa ?_)))
  refine ae 1 aa (aY aa aa (aY aa aa (ak 2 aa (ay ?_))))
  exact bt rfl rfl (by rw[G];rfl)
 refine aw aa (z) (bY aa ?_)
 refine aw aa (z) (cJ (JH F c) aa aa ?_)
 refine aj (cS aa (z) aa ?_)
 refine ae 1 aa (dc (g:=aM) aa (fun A=>?_) (fun A=>?_))
 ·have G:jb c=true:=by unfold jb;rw[z,A];rfl
  refine aY aa (A) (aY aa (A) (aj (c8 aa (A) aa ?_)))
  refine ak 1 aa (ay ?_)
  exact bt rfl rfl (by rw[G];rfl)
 have G:jb c=decide (((c.toNat:Nat):Int)=Int.ofNat 95):=by unfold jb;rw[z,A,gE];simp;omega
 refine aw aa (A) (bY aa ?_)
 refine aw aa (A) (iC aa aa ?_)
 refine aj (cS aa (A) aa ?_)
 refine ak 1 aa (ay ?_)
 exact bt rfl rfl (by rw[G];rfl)
theorem CR{T:bd}(F:FT T){f:Nat}{P:UInt8→Bool}(O:∀c:UInt8,Sound T f [.d (.i .u8 (c.toNat:Nat))] fun r=>r=dB (P c)){s:List UInt8}{i:Nat}(hi:i≤s.length)(Z:s.length≤4000):Sound T 56 [dS s,dI (i:Nat),.fn f []] fun r=>r=dI (runM P s i:Nat):=by
 refine dG F.f56 aa (an 1 aa (aL (bM (d7 (fun k VE B=>∃j,j≤s.length∧k=s.length-j∧runM P s j=runM P s i∧bn [(0,dS s),(1,dI (j:Nat)),(2,.fn f []),(6,d0)] VE∧bn [] B) ?_ (k:=s.length-i) ⟨i,hi,aa,aa,⟨aa,aa,aa,aa,trivial⟩,trivial⟩))))
 rintro k VE B⟨j,hj,rfl,I,U,Y⟩
 refine db _ _ U Y (aL (ai (ae 5 aa (dc (g:=aW) aa (fun z=>?_) (fun z=>?_)))))
 ·have J:j<s.length:=by simp at z;omega
  obtain⟨c,K⟩:=jO J
  refine aw aa (z) (bY aa ?_)
  refine aw aa (z) (bY aa ?_)
  refine aw aa (z) (bY aa ?_)
  refine aw aa (z) (fR aa aa K ?_)
  refine aw aa (z) (XE (O c) aa aa aa ?_)
  refine aj (c8 aa (z) aa ?_)
  refine aX (aK aa (fun A=>?_) (fun A=>?_))
  ·have G:=A
   refine aQ (bM (bC (ae 1 aa (aj (cM aa aa ah ?_)))))
   refine ak 1 aa ?_
   exact⟨s.length-(j+1),ah,j+1,ah,rfl,by rw[←r7 K G,I],⟨rfl,rfl,rfl,rfl,trivial⟩,trivial⟩
  have G:=A
  rw[BR K G] at I
  refine dJ (an 2 aa (ay ?_))
  exact bt rfl rfl (by rw[I];rfl)
 rw[BT (by simp at z;omega)] at I
 refine aY aa (z) (aY aa (z) (aY aa (z) (aY aa (z) (aY aa (z) (aj (cS aa (z) aa ?_))))))
 refine aX (ef aa aa (dJ (an 2 aa (ay ?_))))
 exact bt rfl rfl (by rw[I];rfl)
theorem XM{T:bd}(F:FT T)(k p:Int)(t:List UInt8):Sound T 59 [.agg [dI k,dI p,dS t]] fun r=>r=dB (k0 k t):=by
 refine dG F.f59 aa (an 2 aa (aL (an 2 aa (bM (an 2 aa (aK aa (fun G=>?_) (fun G=>?_)))))))
 ·have A:k0 k t=decide (t.length≤19):=az (by simpa using G)
  refine an 5 aa (ay ?_)
  exact bt rfl rfl (by refine congrArg (fun b=>VV.d (DC.b b)) ?_;rw[A,gE];simp;omega)
 refine an 2 aa (aK aa (fun z=>?_) (fun z=>?_))
 ·have A:k0 k t=decide (t.length≤200):=by unfold k0;rw[al (by simpa using G),az (by simpa using z)]
  refine an 5 aa (ay ?_)
  exact bt rfl rfl (by refine congrArg (fun b=>VV.d (DC.b b)) ?_;rw[A,gE];simp;omega)
 have A:k0 k t=decide (t.length≤20):=by unfold k0;rw[al (by simpa using G),al (by simpa using z)]
 refine aQ (an 5 aa (ay ?_))
 exact bt rfl rfl (by refine congrArg (fun b=>VV.d (DC.b b)) ?_;rw[A,gE];simp;omega)
theorem YD{T:bd}(F:FT T)(X:FX T)(a:Bool)(b:List UInt8):cg T 140 [.vp 1001 0] (nG a 1001 1101 b) fun r Bn=>r= .tuple []∧Bn=nG true 1001 1101 b:=by
 refine cL F.abv aa (ai ?_)
 cases a
 ·refine ae 4 aa (aj (WL aa aa ?_))
  refine aX (aK aa (fun z=>?_) (fun z=>?_))
  ·refine bC (ae 2 aa (aj (M1 aa aa aa ?_)))
   refine aj (WO X.ade X.adf aa ?_)
   refine aj (M1 aa aa aa ?_)
   exact ak 3 aa (⟨_,nG true 1001 1101 b,aa,⟨aa,aa,trivial⟩,aa,aa⟩)
  exact absurd z aq
 refine ae 4 aa (aj (WM aa aa ?_))
 refine aX (aK aa (fun z=>?_) (fun z=>?_))
 ·exact absurd z aq
 refine ai (ae 5 aa (aj (WN aa aa ?_)))
 refine aX (aK aa (fun eC=>?_) (fun eC=>?_))
 ·exact absurd eC aq
 exact aQ (⟨_,nG true 1001 1101 b,aa,⟨aa,aa,trivial⟩,aa,aa⟩)
theorem Oz{T:bd}(F:FT T)(X:FX T)(a:Bool)(b:List UInt8)(c:UInt8)(z:b.length≤100000):cg T 91 [.vp 1001 0,.d (.i .u8 (c.toNat:Nat))] (nG a 1001 1101 b) fun r Bn=>r= .k .il∧Bn=nG true 1001 1101 (b++[c]):=by
 refine cL F.f91 aa (an 1 aa (ai (ae 1 aa ?_)))
 refine aj (kn (cm:=[.vp 1001 0]) (Bi:=(nG a 1001 1101 b)) [(1001,1001),(1101,1101)] 2000 rfl rfl rfl (by cases a<;>rfl) rfl rfl rfl ⟨rfl,by cases a<;>rfl,rfl,rfl,trivial⟩ (YD F X a b) (fun r Bn hp=>?_))
 obtain⟨rfl,rfl⟩:=hp
 refine eX [(1001,.one 151 32 [.vp 1001 0,.ac 1101 (b.map dQ).length 1]),(1101,.acc 5 1 1 (b.map dQ))] ⟨aa,aa,trivial⟩ (aX (ai (ae 7 aa ?_)))
 refine aj (eD (rows:=b.map dQ) (ys:=[dQ c]) rfl rfl rfl (.bs (rows:=[dQ c]) rfl) (b0 rfl) (by rw[bE,ca];simp only[cV,dL];omega) (fun h=>by rw[h];rfl) (fun h=>by rw[h];rfl) ?_)
 refine ak 3 aa (an 1 aa (ay (⟨_,nG true 1001 1101 (b++[c]),aa,?_,aa,aa⟩)))
 unfold nG
 rw[dx]
 exact⟨aa,aa,trivial⟩
theorem NR{T:bd}(F:FT T)(a:Bool)(b:List UInt8)(z:b.length≤100000):cg T 94 [.vp 1001 0] (nG a 1001 1101 b) fun r Bn=>r=dS b∧Bn=[]:=by
 refine cL F.f94 aa ?_
 unfold nG
 rw[ca]
 refine an 1 aa (eO ?_)
 rcases Nat.eq_zero_or_pos b.length with h0|h0
 ·obtain rfl:=List.length_eq_zero_iff.1 h0
  refine bD 4 aa (bG (WQ aa ?_))
  refine bD 4 aa (bG (yp aa ?_))
  refine dy aa (Vo aa aa ?_)
  exact du 1 aa (ay (⟨_,[],aa,trivial,aa,aa⟩))
 refine bD 4 aa (bG (XL aa h0 ?_))
 refine bD 4 aa (bG (yp aa ?_))
 refine dy aa (WR aa aa aa h0 ah ?_)
 exact du 1 aa (ay (⟨_,[],aa,trivial,aa,aa⟩))
theorem YE{T:bd}(F:FT T)(X:FX T){s:List UInt8}{i:Nat}(hi:i<s.length)(hl:s.length≤4000):Sound T 117 [dS s,dI (i:Nat)] fun r=>r=adl (kh s (i+1) []):=by
 refine dG F.abj aa (an 3 aa (ai (ae 1 aa (nH 7 1 1108 5 1 1 aa aa aa (aX (aL (ai (ae 1 aa (aj (cM aa aa ah ?_))))))))))
 refine ak 1 aa (bM (d7 (fun k VE B=>∃(j:Nat)(a:Bool)(b:List UInt8),j≤s.length∧k=s.length-j∧kh s j b=kh s (i+1) []∧b.length≤j∧bn [(0,dS s),(1,dI (i:Nat)),(4,dS []),(5,d0),(6,d0),(7,.vp 7 0),(8,dI (j:Nat))] VE∧bn (nG a 7 1108 b) B) ?_ (k:=s.length-(i+1)) ⟨i+1,false,[],hi,aa,aa,dp _,⟨aa,aa,aa,aa,aa,aa,aa,trivial⟩,aa,aa,trivial⟩))
 rintro k VE B⟨j,a,b,hj,rfl,G,C1,hV,hB⟩
 refine db _ _ hV hB (aL (an 4 aa (aK aa (fun I=>?_) (fun I=>?_))))
 ·have Y:j<s.length:=by simp at I;omega
  obtain⟨c,O⟩:=jO Y
  refine aQ (aL (bM (aL (ai (ae 2 aa (aj (fR aa aa O ?_)))))))
  refine ak 1 aa (aK aa (fun J=>?_) (fun J=>?_))
  ·have hn:¬c=39:=by rintro rfl;simp at J
   refine ai (ae 2 aa (aj (fR aa aa O ?_)))
   refine aj (kn (cm:=[.vp 1001 0,.d (.i .u8 (c.toNat:Nat))]) (Bi:=nG a 1001 1101 b) [(1001,7),(1101,1108)] 2000 rfl rfl rfl (by cases a<;>rfl) rfl rfl rfl ⟨rfl,by cases a<;>rfl,rfl,rfl,trivial⟩ (Oz F X a b c ah) (fun r Bn hp=>?_))
   obtain⟨rfl,rfl⟩:=hp
   refine aX (dJ (bC (ae 1 aa (aj (cM aa aa ah ?_)))))
   refine ak 1 aa ?_
   exact⟨s.length-(j+1),ah,j+1,true,b++[c],ah,rfl,by rw[←Ox O hn,G],by simp only[bE,cV,dL];omega,⟨rfl,rfl,rfl,rfl,rfl,rfl,rfl,trivial⟩,rfl,rfl,trivial⟩
  obtain rfl:c=39:=sI 39 (by simp at J;omega) rfl
  refine aQ (aL (ai (ae 1 aa (aj (cM aa aa ah ?_)))))
  refine ae 2 aa (aj (iC aa aa ?_))
  refine ae 1 aa (dc (g:=cb) aa (fun z=>?_) (fun z=>?_))
  ·have Z:=EX (b:=b) O (fun d U=>absurd (List.getElem?_eq_some_iff.1 U).1 (by simp at z;omega))
   rw[Z] at G
   refine aY aa (z) (aY aa (z) (aY aa (z) (aY aa (z) (aY aa (z) (aj (c8 aa (z) aa ?_))))))
   refine aX (eW aa aa (ai ?_))
   refine aj (kn (cm:=[.vp 1001 0]) (Bi:=nG a 1001 1101 b) [(1001,7),(1101,1108)] 2000 rfl rfl rfl (by cases a<;>rfl) rfl rfl rfl ⟨rfl,by cases a<;>rfl,rfl,rfl,trivial⟩ (NR F a b ah) (fun r Bn hp=>?_))
   obtain⟨rfl,rfl⟩:=hp
   refine ae 1 aa (aj (cM aa aa ah ?_))
   refine ak 3 aa (ay ?_)
   exact bt rfl rfl (by rw[←G];rfl)
  obtain⟨d,A⟩:=jO (s:=s) (i:=j+1) (by simp at z;omega)
  refine aw aa (z) (bY aa ?_)
  refine aw aa (z) (bY aa ?_)
  refine aw aa (z) (cM aa aa ah ?_)
  refine aw aa (z) (fR aa aa A ?_)
  refine aw aa (z) (iV aa aa ?_)
  refine aj (cS aa (z) aa ?_)
  refine aX (aK aa (fun K=>?_) (fun K=>?_))
  ·have Z:=EX (b:=b) O (fun d2 U=>by(rw[A] at U;cases U;rintro rfl;simp at K))
   rw[Z] at G
   refine ai ?_
   refine aj (kn (cm:=[.vp 1001 0]) (Bi:=nG a 1001 1101 b) [(1001,7),(1101,1108)] 2000 rfl rfl rfl (by cases a<;>rfl) rfl rfl rfl ⟨rfl,by cases a<;>rfl,rfl,rfl,trivial⟩ (NR F a b ah) (fun r Bn hp=>?_))
   obtain⟨rfl,rfl⟩:=hp
   refine ae 1 aa (aj (cM aa aa ah ?_))
   refine ak 3 aa (ay ?_)
   exact bt rfl rfl (by rw[←G];rfl)
  obtain rfl:d=39:=sI 39 (by simp at K;omega) rfl
  have RU:=(List.getElem?_eq_some_iff.1 A).1
  refine aQ (ai ?_)
  refine aj (kn (cm:=[.vp 1001 0,.d (.i .u8 ((39:UInt8).toNat:Nat))]) (Bi:=nG a 1001 1101 b) [(1001,7),(1101,1108)] 2000 rfl rfl rfl (by cases a<;>rfl) rfl rfl rfl ⟨rfl,by cases a<;>rfl,rfl,rfl,trivial⟩ (Oz F X a b 39 ah) (fun r Bn hp=>?_))
  obtain⟨rfl,rfl⟩:=hp
  refine aX (bC (ae 1 aa (aj (cM aa aa ah ?_))))
  refine ak 1 aa (bC (ae 1 aa (aj (cM aa aa ah ?_))))
  refine ak 1 aa ?_
  exact⟨s.length-(j+1+1),ah,j+1+1,true,b++[39],ah,rfl,by rw[←NP O A,G],by simp only[bE,cV,dL];omega,⟨rfl,rfl,rfl,rfl,rfl,rfl,rfl,trivial⟩,rfl,rfl,trivial⟩
 rw[Oy (by simp at I;omega)] at G
 refine dJ (an 3 aa (ay ?_))
 exact bt rfl rfl (by rw[←G];rfl)
theorem YF{T:bd}(F:FT T)(X:FX T){s:List UInt8}{i:Nat}{c:UInt8}(hc:s[i]?=some c)(hi:i<s.length)(U:s.length≤4000):Sound T 58 [dS s,dI (i:Nat)] fun r=>r=vZ (cK s i c) i:=by
 refine dG F.f58 aa (an 3 aa (ai (ae 2 aa (aj (fR aa aa hc ?_)))))
 refine ak 1 aa (an 4 aa (ai (ae 1 aa (aj (cM aa aa ah ?_)))))
 refine ak 2 aa (aL (bM (ai (ae 1 aa (aj (cJ (RQ F c) aa aa ?_))))))
 refine ak 1 aa (aK aa (fun eC=>?_) (fun eC=>?_))
 ·have G:cK s i c=⟨1,cut s i (runM lD s i),runM lD s i,0⟩:=by unfold cK;rw[az eC]
  have hle:i≤runM lD s i:=yz
  have J:runM lD s i≤s.length:=yA (yT hi)
  refine bC (ae 2 aa (aj (cJ (CR F (RQ F) (yT hi) U) aa aa ?_)))
  refine ak 3 aa (ai (ae 3 aa (aj (ko (l:=i) (h:=runM lD s i) aa ⟨_,aa⟩ ⟨_,aa⟩ hle ah ?_))))
  refine ak 2 aa (an 5 aa (ay ?_))
  exact bt rfl rfl (by unfold vZ;rw[G];rfl)
 refine ai (ae 1 aa (aj (cJ (QS F c) aa aa ?_)))
 refine ak 1 aa (aK aa (fun z=>?_) (fun z=>?_))
 ·have G:cK s i c=⟨2,cut s i (runM jb s i),runM jb s i,0⟩:=by unfold cK;rw[al (by rw[eC];decide),az z]
  have hle:i≤runM jb s i:=yz
  have J:runM jb s i≤s.length:=yA (yT hi)
  refine bC (ae 2 aa (aj (cJ (CR F (inC F) (yT hi) U) aa aa ?_)))
  refine ak 3 aa (ai (ae 3 aa (aj (ko (l:=i) (h:=runM jb s i) aa ⟨_,aa⟩ ⟨_,aa⟩ hle ah ?_))))
  refine ak 2 aa (an 5 aa (ay ?_))
  exact bt rfl rfl (by unfold vZ;rw[G];rfl)
 refine ai (ae 1 aa (aj (cJ (JH F c) aa aa ?_)))
 refine ak 1 aa (aK aa (fun A=>?_) (fun A=>?_))
 ·have G:cK s i c=⟨3,cut s i (runM iu s i),runM iu s i,0⟩:=by unfold cK;rw[al (by rw[eC];decide),al (by rw[z];decide),az A]
  have hle:i≤runM iu s i:=yz
  have J:runM iu s i≤s.length:=yA (yT hi)
  refine bC (ae 2 aa (aj (cJ (CR F (JH F) (yT hi) U) aa aa ?_)))
  refine ak 3 aa (ai (ae 3 aa (aj (ko (l:=i) (h:=runM iu s i) aa ⟨_,aa⟩ ⟨_,aa⟩ hle ah ?_))))
  refine ak 2 aa (an 5 aa (ay ?_))
  exact bt rfl rfl (by unfold vZ;rw[G];rfl)
 refine ai (ae 1 aa (aj (iC aa aa ?_)))
 refine ak 1 aa (aK aa (fun K=>?_) (fun K=>?_))
 ·obtain rfl:c=39:=sI 39 (by simp at K;omega) rfl
  have I:cK s i 39=(match kh s (i+1) [] with|some x=>⟨4,x.1,x.2,0⟩|none=>⟨4,[],0,2⟩):=by unfold cK;rw[al (by rw[eC];decide),al (by rw[z];decide),al (by rw[A];decide),az rfl]<;>rfl
  refine an 2 aa (ai (ae 2 aa (aj (cJ (YE F X hi U) aa aa ?_))))
  refine ae 1 aa ?_
  cases Y:kh s (i+1) []
  ·rw[Y] at I
   refine ak 7 aa (an 6 aa (ay ?_))
   exact bt rfl rfl (by unfold vZ;rw[I];rfl)
  rw[Y] at I
  refine ak 7 aa (an 6 aa (ay ?_))
  exact bt rfl rfl (by unfold vZ;rw[I];rfl)
 have Z:¬c=39:=by rintro rfl;simp at K
 refine ai (ae 1 aa (aj (cJ (NN F X rj c) aa aa ?_)))
 refine ak 2 aa (aK aa (fun O=>?_) (fun O=>?_))
 ·have G:cK s i c=⟨5,cut s i (i+1),i+1,0⟩:=by unfold cK;rw[al (by rw[eC];decide),al (by rw[z];decide),al (by rw[A];decide),al Z,az (M4.1 (by simp at O;omega))]
  have hle:i≤i+1:=tS _
  refine bC (ak 2 aa (ai (ae 3 aa (aj (ko (l:=i) (h:=i+1) aa ⟨_,aa⟩ ⟨_,aa⟩ hle ah ?_)))))
  refine ak 2 aa (an 5 aa (ay ?_))
  exact bt rfl rfl (by unfold vZ;rw[G];rfl)
 have G:cK s i c=⟨0,[],0,5⟩:=by unfold cK;rw[al (by rw[eC];decide),al (by rw[z];decide),al (by rw[A];decide),al Z,al (fun k=>by(have:=M4.2 k;simp at O;omega))]
 refine an 4 aa (ay ?_)
 exact bt rfl rfl (by unfold vZ;rw[G];rfl)
theorem NS{s:List UInt8}{i k:Nat}{c:UInt8}{out:List cu}(z:s[i]?=some c):lY s (k+1) i out=if¬(cK s i c).err=0 then([],i,(cK s i c).err) else if¬(k0 (cK s i c).kind (cK s i c).text=true∧out.length<1000) then([],i,4) else lY s k (runM mw s (cK s i c).stop) (out++[(⟨(cK s i c).kind,(i:Nat),(cK s i c).text⟩:cu)]):=by
 rw[lY,z]
theorem P3{T:bd}(F:FT T)(X:FX T)(s:List UInt8):Sound T 28 [dS s] fun r=>r=FJ (e6 s):=by
 refine dG F.f28 aa (an 3 aa (aL (an 3 aa (aK aa (fun I=>?_) (fun I=>?_)))))
 ·have hm:e6 s=([],0,4):=az (by simp at I;omega)
  refine an 3 aa (ay ?_)
  exact bt rfl rfl (by rw[hm];rfl)
 have Y:s.length≤4000:=by simp at I;omega
 have Z:e6 s=lY s (s.length+1) (runM mw s 0) []:=al ah
 refine aQ (an 1 aa (ai (UX 5 1101 69 32 3 aa aa (ae 1 aa (aj (cJ (CR F (RR F) (i:=0) (dp _) Y) aa aa ?_))))))
 refine ak 1 aa (aL (bM (d7 (fun k VE B=>∃(i:Nat)(out:List cu),lY s k i out=e6 s∧i≤s.length∧s.length+1≤i+k∧out.length≤1000∧bn [(0,dS s),(2,dN),(3,d0),(4,d0),(5,.ac 1101 (out.map cu.enc).length 3),(6,dI (i:Nat))] VE∧bn [(1101,.acc 69 32 3 (out.map cu.enc))] B) ?_ (k:=s.length+1) ⟨runM mw s 0,[],Z.symm,yA (dp _),ah,aq,⟨aa,aa,aa,aa,aa,aa,trivial⟩,aa,trivial⟩)))
 rintro k VE B⟨i,out,A,hi,hk,ho,hV,hB⟩
 obtain⟨k,rfl⟩:∃k',k=k'+1:=⟨k-1,ah⟩
 refine db _ _ hV hB (aL (an 4 aa (aK aa (fun J=>?_) (fun J=>?_))))
 ·have O:i<s.length:=by simp at J;omega
  obtain⟨c,hc⟩:=jO O
  have z:=NS (k:=k) (out:=out) hc
  refine aQ (bM (ai (ae 2 aa (aj (cJ (YF F X hc O Y) aa aa ?_)))))
  refine ak 8 aa (aL (an 2 aa (aK aa (fun dr=>?_) (fun dr=>?_))))
  ·have he:¬(cK s i c).err=0:=by simpa using dr
   rw[az he] at z
   rw[z] at A
   refine an 5 aa (ay ?_)
   exact bt rfl rfl (by rw[←A];rfl)
  have he:(cK s i c).err=0:=by simpa using dr
  have U:=Hy hc he
  rw[al (fun k=>k he)] at z
  rw[show(if(cK s i c).err=5 then(0:Int) else((i:Nat):Int))=((i:Nat):Int) from al (by rw[he];decide)]
  refine aQ (aL (ai (ae 1 aa (aj (cJ (XM F (cK s i c).kind (i:Nat) (cK s i c).text) aa aa ?_)))))
  refine ae 2 aa (dc (g:=cH) aa (fun G=>?_) (fun G=>?_))
  ·rw[az (fun k=>by rw[k.1] at G;cases G)] at z
   rw[z] at A
   refine aY aa (G) (aY aa (G) (aY aa (G) (aj (c8 aa (G) aa ?_))))
   refine aX (eW aa aa (an 4 aa (ay ?_)))
   exact bt rfl rfl (by rw[←A];rfl)
  refine aw aa (G) (bY aa ?_)
  refine aw aa (G) (yp aa ?_)
  refine aw aa (G) (BO aa aa ?_)
  refine aj (cS aa (G) aa ?_)
  refine aX (aK aa (fun K=>?_) (fun K=>?_))
  ·rw[az (fun k=>by(have:=k.2;simp at K;omega))] at z
   rw[z] at A
   refine an 4 aa (ay ?_)
   exact bt rfl rfl (by rw[←A];rfl)
  have oa:out.length<1000:=by simp at K;omega
  rw[al (fun k=>k ⟨by simpa using G,oa⟩)] at z
  rw[z] at A
  refine aQ (ai (ae 3 aa ?_))
  refine aj (eD (rows:=out.map cu.enc) (ys:=[(⟨(cK s i c).kind,(i:Nat),(cK s i c).text⟩:cu).enc]) rfl rfl rfl (.bs (rows:=[(⟨(cK s i c).kind,(i:Nat),(cK s i c).text⟩:cu).enc]) rfl) (b0 rfl) (by rw[bE,ca];simp only[cV,dL];omega) (fun h=>by rw[h];rfl) (fun h=>by rw[h];rfl) ?_)
  refine ak 1 aa (bC (ae 2 aa (aj (cJ (CR F (RR F) U.2 Y) aa aa ?_))))
  refine ak 1 aa (⟨k,gG k,runM mw s (cK s i c).stop,out++[(⟨(cK s i c).kind,(i:Nat),(cK s i c).text⟩:cu)],A,yA U.2,?_,?_,?_,?_⟩)
  ·have:=yz (P:=mw) (s:=s) (i:=(cK s i c).stop);omega
  ·rw[bE,dY];omega
  ·rw[dx];exact⟨rfl,rfl,rfl,rfl,rfl,rfl,trivial⟩
  rw[dx];exact⟨rfl,trivial⟩
 have Kl:lY s (k+1) i out=(out++[⟨6,(s.length:Nat),[]⟩],0,0):=by unfold lY;rw[List.getElem?_eq_none_iff.2 (by simp at J;omega)]
 rw[Kl] at A
 refine dJ (ai (ae 5 aa ?_))
 refine aj (eD (rows:=out.map cu.enc) (ys:=[(⟨6,(s.length:Nat),[]⟩:cu).enc]) rfl rfl rfl (.bs (rows:=[(⟨6,(s.length:Nat),[]⟩:cu).enc]) rfl) (b0 rfl) (by rw[bE,ca];simp only[cV,dL];omega) (fun h=>by rw[h];rfl) (fun h=>by rw[h];rfl) ?_)
 refine fN 51 1101 aa aa (fun _=>⟨aa,aa⟩) (ak 3 aa (ay ?_))
 exact bt rfl rfl (by rw[←A];unfold FJ;rw[dx];rfl)
end Go.Ev.Pp
