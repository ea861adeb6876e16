/- Part 18 of rules for walks through the code of a program, and of such walks; what each part proves is said by its theorems. -/
import Derived.Test.YtddbkonalipepaaGreatDoorS17
set_option linter.unusedVariables false
set_option linter.unusedSimpArgs false
namespace Go.Ev.Pp
open Go
set_option maxRecDepth 10000
theorem lV{T:bf}(F:FT T){a:Bool}{p:PS}(hp:p.ok){e:Int}(he:e≠0):bV T 134 [.vp 1000 0,dI e] (PS.bq a p) fun r Bn=>r= .tuple []∧Bn=PS.bq a (p.fail e):=by
 refine cl F.YP aa (ak 5 aa (aJ aa (fun z=>?_) (fun z=>?_)))
 ·have h0:p.err=0:=by simpa using z
  refine ak 5 aa (bG (ae 8 aa (af ?_)))
  exact⟨_,PS.bq a (p.fail e),rfl,⟨by rw[R2 h0 he];rfl,trivial⟩,rfl,rfl⟩
 have h0:¬p.err=0:=by simpa using z
 have A:p.fail e=p:=aj h0
 refine aT ?_
 rw[A];exact⟨_,PS.bq a p,rfl,⟨rfl,trivial⟩,rfl,rfl⟩
theorem yR{T:bf}(F:FT T){a:Bool}{p:PS}(hp:p.ok)(k:Int)(s:List UInt8):bV T 168 [.vp 1000 0,dI k,dS s] (PS.bq a p) fun r Bn=>r=dB (p.next k s)∧Bn=PS.bq a p:=by
 refine cl F.Y' aa ?_
 have A:(p.ay.map cL.enc)[p.aI]?=some p.tok.enc:=by rw[iO,hp.get];rfl
 refine ak 1 aa (eU (bm 6 aa (vx (g:=aR) aa (fun z=>?_) (fun z=>?_))))
 ·refine dZ aa (z) (bM aa ?_)
  refine dZ aa (z) (pj aa ?_)
  refine dZ aa (z) (dq aa ?_)
  refine kq aa (z) aa (cW aa aa aa ?_)
  refine dZ aa (z) (bM aa ?_)
  refine dZ aa (z) (pj aa ?_)
  refine dZ aa (z) (dq aa ?_)
  refine kq aa (z) aa (cW aa aa aa ?_)
  refine dZ aa (z) (lS (row:=p.tok.enc) aa aa A aa ?_)
  refine dZ aa (z) (tl aa ?_)
  refine kq aa (z) aa (mA aa aa ?_)
  refine dZ aa (z) (bM aa ?_)
  refine dZ aa (z) (hH aa aa ?_)
  refine dE (cS aa (z) aa ?_)
  refine bm 1 aa (vx (g:=bX) aa (fun dn=>?_) (fun dn=>?_))
  ·refine dZ aa (dn) (bM aa ?_)
   refine dZ aa (dn) (pj aa ?_)
   refine dZ aa (dn) (dq aa ?_)
   refine kq aa (dn) aa (cW aa aa aa ?_)
   refine dZ aa (dn) (bM aa ?_)
   refine dZ aa (dn) (pj aa ?_)
   refine dZ aa (dn) (dq aa ?_)
   refine kq aa (dn) aa (cW aa aa aa ?_)
   refine dZ aa (dn) (lS (row:=p.tok.enc) aa aa A aa ?_)
   refine dZ aa (dn) (tl aa ?_)
   refine kq aa (dn) aa (mA aa aa ?_)
   refine dZ aa (dn) (bM aa ?_)
   refine dZ aa (dn) (oj aa aa ?_)
   refine dE (cS aa (dn) aa ?_)
   refine bm 1 aa (da ?_)
   refine ax (⟨_,PS.bq a p,aa,⟨aa,trivial⟩,?_,aa⟩)
   clear F hp A
   simp_all [gx,PS.next]
  refine cN aa (dn) (cN aa (dn) (cN aa (dn) (iJ aa (dn) (cN aa (dn) (cN aa (dn) (cN aa (dn) (iJ aa (dn) (cN aa (dn) (cN aa (dn) ?_)))))))))
  refine iJ aa (dn) (cN aa (dn) (cN aa (dn) (dE (cI aa (dn) aa ?_))))
  refine bm 1 aa (da ?_)
  refine ax (⟨_,PS.bq a p,aa,⟨aa,trivial⟩,?_,aa⟩)
  clear F hp A
  simp_all [gx,PS.next]
 refine cN aa (z) (cN aa (z) (cN aa (z) (iJ aa (z) (cN aa (z) (cN aa (z) (cN aa (z) (iJ aa (z) (cN aa (z) (cN aa (z) ?_)))))))))
 refine iJ aa (z) (cN aa (z) (cN aa (z) (dE (cI aa (z) aa ?_))))
 refine bm 1 aa (cN aa aa (cN aa aa (cN aa aa (iJ aa aa (cN aa aa (cN aa aa (cN aa aa (iJ aa aa (cN aa aa ?_)))))))))
 refine cN aa aa (iJ aa aa (cN aa aa (cN aa aa (bm 2 aa (da ?_)))))
 refine ax (⟨_,PS.bq a p,aa,⟨aa,trivial⟩,?_,aa⟩)
 clear F hp A
 simp_all [gx,PS.next]
theorem fC{T:bf}(F:FT T){a:Bool}{p:PS}(hp:p.ok)(s:List UInt8):bV T 122 [.vp 1000 0,dS s] (PS.bq a p) fun r Bn=>r=dB (p.keyword s).1∧Bn=PS.bq a (p.keyword s).2:=by
 refine cl F.YE aa (ak 1 aa (ai (ae 2 aa (bH (yR F hp 1 s) aa aa aa aa (ae 1 aa (af ?_))))))
 refine aM (ak 1 aa (aJ aa (fun z=>?_) (fun z=>?_)))
 ·have h0:=PS.wY z
  have dR:=PS.kR hp (by decide) z
  have fi:=hp.dY
  have A:p.keyword s=(true,p.step):=aq z
  refine bG (ae 4 aa ?_)
  refine al (cV rfl rfl (by omega) ?_)
  refine ae 3 aa (af ?_)
  refine ak 2 aa (ax ?_)
  exact⟨_,PS.bq a (p.keyword s).2,rfl,⟨by rw[A,td h0];rfl,trivial⟩,by simp[gx,A,z],rfl⟩
 have A:p.keyword s=(false,p):=aj (by rw[z];decide)
 refine aT (ak 2 aa (ax ?_))
 exact⟨_,PS.bq a (p.keyword s).2,rfl,⟨by rw[A];rfl,trivial⟩,by simp[gx,A,z],rfl⟩
theorem mj{T:bf}(F:FT T){a:Bool}{p:PS}(hp:p.ok)(s:List UInt8):bV T 127 [.vp 1000 0,dS s] (PS.bq a p) fun r Bn=>r=dB (p.sign s).1∧Bn=PS.bq a (p.sign s).2:=by
 refine cl F.YJ aa (ak 1 aa (ai (ae 2 aa (bH (yR F hp 5 s) aa aa aa aa (ae 1 aa (af ?_))))))
 refine aM (ak 1 aa (aJ aa (fun z=>?_) (fun z=>?_)))
 ·have h0:=PS.wY z
  have dR:=PS.kR hp (by decide) z
  have fi:=hp.dY
  have A:p.sign s=(true,p.step):=aq z
  refine bG (ae 4 aa ?_)
  refine al (cV rfl rfl (by omega) ?_)
  refine ae 3 aa (af ?_)
  refine ak 2 aa (ax ?_)
  exact⟨_,PS.bq a (p.sign s).2,rfl,⟨by rw[A,td h0];rfl,trivial⟩,by simp[gx,A,z],rfl⟩
 have A:p.sign s=(false,p):=aj (by rw[z];decide)
 refine aT (ak 2 aa (ax ?_))
 exact⟨_,PS.bq a (p.sign s).2,rfl,⟨by rw[A];rfl,trivial⟩,by simp[gx,A,z],rfl⟩
theorem iY{T:bf}(F:FT T){a:Bool}{p:PS}(hp:p.ok)(s:List UInt8):bV T 123 [.vp 1000 0,dS s] (PS.bq a p) fun r Bn=>r= .tuple []∧Bn=PS.bq a (p.aU [s]):=by
 refine cl F.YF aa (ai (ae 6 aa (cX (g:=aK) aa (fun z=>?_) (fun z=>?_))))
 ·refine ao aa (z) (bM aa ?_)
  refine ao aa (z) (bM aa ?_)
  refine ao aa (z) (vY (fC F hp s) aa aa aa aa ?_)
  refine ao aa (z) (jv aa ?_)
  refine al (cS aa (z) aa ?_)
  refine af (aJ aa (fun A=>?_) (fun A=>?_))
  ·have hk:(p.keyword s).1=false:=by simpa using A
   have G:p.aU [s]=(p.keyword s).2.fail 5:=PS.zy hk
   refine bG (ae 1 aa ?_)
   refine bH (lV F (PS.wH hp s) (by decide)) rfl rfl rfl rfl ?_
   refine af ?_
   rw[G]
   exact⟨_,PS.bq a _,aa,⟨aa,trivial⟩,aa,aa⟩
  have hk:(p.keyword s).1=true:=by simpa using A
  have G:p.aU [s]=(p.keyword s).2:=PS.Co hk
  refine aT ?_
  rw[G]
  exact⟨_,PS.bq a _,aa,⟨aa,trivial⟩,aa,aa⟩
 have h0:¬p.err=0:=by simpa using z
 have G:p.aU [s]=p:=R3 h0 s
 refine aO aa (z) (aO aa (z) (aO aa (z) (aO aa (z) (al (cI aa (z) aa ?_)))))
 refine af (eI aa aa (aT ?_))
 rw[G]
 exact⟨_,PS.bq a _,aa,⟨aa,trivial⟩,aa,aa⟩
theorem oh{T:bf}(F:FT T){a:Bool}{p:PS}(hp:p.ok)(s:List UInt8):bV T 125 [.vp 1000 0,dS s] (PS.bq a p) fun r Bn=>r= .tuple []∧Bn=PS.bq a (p.bw s):=by
 refine cl F.YH aa (ai (ae 6 aa (cX (g:=aK) aa (fun z=>?_) (fun z=>?_))))
 ·refine ao aa (z) (bM aa ?_)
  refine ao aa (z) (bM aa ?_)
  refine ao aa (z) (vY (mj F hp s) aa aa aa aa ?_)
  refine ao aa (z) (jv aa ?_)
  refine al (cS aa (z) aa ?_)
  refine af (aJ aa (fun A=>?_) (fun A=>?_))
  ·have hk:(p.sign s).1=false:=by simpa using A
   have G:p.bw s=(p.sign s).2.fail 5:=aj (by rw[hk];decide)
   refine bG (ae 1 aa ?_)
   refine bH (lV F (PS.zz hp s) (by decide)) rfl rfl rfl rfl ?_
   refine af ?_
   rw[G]
   exact⟨_,PS.bq a _,aa,⟨aa,trivial⟩,aa,aa⟩
  have hk:(p.sign s).1=true:=by simpa using A
  have G:p.bw s=(p.sign s).2:=aq hk
  refine aT ?_
  rw[G]
  exact⟨_,PS.bq a _,aa,⟨aa,trivial⟩,aa,aa⟩
 have h0:¬p.err=0:=by simpa using z
 have G:p.bw s=p:=Jg h0 s
 refine aO aa (z) (aO aa (z) (aO aa (z) (aO aa (z) (al (cI aa (z) aa ?_)))))
 refine af (eI aa aa (aT ?_))
 rw[G]
 exact⟨_,PS.bq a _,aa,⟨aa,trivial⟩,aa,aa⟩
theorem vK{T:bf}(F:FT T){a:Bool}{p:PS}(hp:p.ok){k:Int}(mz:k≠6):bV T 124 [.vp 1000 0,dI k] (PS.bq a p) fun r Bn=>r=dS (p.take k 0).1∧Bn=PS.bq a (p.take k 0).2:=by
 refine cl F.YG aa ?_
 have z:(p.ay.map cL.enc)[p.aI]?=some p.tok.enc:=by rw[iO,hp.get];rfl
 refine ak 1 aa (aM (ak 5 aa (aJ aa (fun I=>?_) (fun I=>?_))))
 ·have h0:¬p.err=0:=by simpa using I
  have G:p.take k 0=([],p):=by unfold PS.take;rw[aj h0]
  refine ak 1 aa (ax ?_)
  rw[G]
  exact⟨_,PS.bq a _,aa,⟨aa,trivial⟩,aa,aa⟩
 have h0:p.err=0:=by simpa using I
 refine aT (aM (eU (bm 8 aa (dE (lS (row:=p.tok.enc) aa aa z aa ?_)))))
 refine bm 3 aa (dE (iu aa aa ?_))
 refine da (aJ aa (fun A=>?_) (fun A=>?_))
 ·have hk:¬p.tok.kind=k:=by simpa using A
  have G:p.take k 0=([],p.fail 5):=by unfold PS.take;rw[aq h0,aj hk]
  refine ai (ae 1 aa ?_)
  refine bH (lV F hp (by decide)) rfl rfl rfl rfl ?_
  refine af (ak 1 aa (ax ?_))
  rw[G]
  exact⟨_,PS.bq a _,aa,⟨aa,trivial⟩,aa,aa⟩
 have hk:p.tok.kind=k:=by simpa using A
 have dR:=PS.lu hp mz hk
 have fi:=hp.dY
 have G:p.take k 0=(p.tok.text,p.step):=by unfold PS.take;rw[aq h0,aq hk,aq rfl]
 have J:((p.aI+1:Nat):Int) -Int.ofNat 1=((p.aI:Nat):Int):=by simp only[aZ];omega
 refine aT (ai (ae 4 aa ?_))
 refine al (cV rfl rfl (by omega) ?_)
 refine ae 3 aa (af ?_)
 refine eU (bm 8 aa ?_)
 refine dE (gi rfl rfl (by simp only[aZ];omega) (by simp only[aZ];omega) ?_)
 rw[J]
 refine dE (lS (row:=p.tok.enc) aa aa z aa ?_)
 refine bm 3 aa (da ?_)
 refine ax ?_
 rw[G]
 exact⟨_,PS.bq a p.step,rfl,⟨by rw[td h0];rfl,trivial⟩,rfl,rfl⟩
theorem NZ{T:bf}(F:FT T){a:Bool}{p:PS}(hp:p.ok)(h0:p.err=0)(dR:p.aI+1<p.ay.length):bV T 248 [.vp 1000 0] (PS.bq a p) fun r Bn=>r=dB p.enter.1∧Bn=PS.bq a (if p.enter.1=true then p.enter.2.step else p.enter.2):=by
 refine cl F.ZS aa (ak 1 aa (aM (ak 5 aa (aJ aa (fun z=>?_) (fun z=>?_)))))
 ·have A:p.depth=60:=by have:=hp.kD;simp at z;omega
  have G:p.enter=(false,p.fail 19):=aq A
  refine ai (ae 1 aa ?_)
  refine bH (lV F hp (by decide)) rfl rfl rfl rfl ?_
  refine af (ak 1 aa (ax ?_))
  rw[G]
  exact⟨_,PS.bq a (p.fail 19),aa,⟨aa,trivial⟩,aa,aa⟩
 have A:¬p.depth=60:=by simp at z;omega
 have hle:=hp.kD
 have fi:=hp.dY
 have G:p.enter=(true,{p with depth:=p.depth+1}):=aj A
 refine aT (ai (ae 4 aa ?_))
 refine al (cV rfl rfl (by omega) ?_)
 refine ae 3 aa (af ?_)
 refine ai (ae 4 aa ?_)
 refine al (cV rfl rfl (by omega) ?_)
 refine ae 3 aa (af ?_)
 refine ak 1 aa (ax ?_)
 rw[G]
 exact⟨_,PS.bq a (PS.step {p with depth:=p.depth+1}),rfl,⟨by rw[td (p:={p with depth:=p.depth+1}) h0];rfl,trivial⟩,rfl,rfl⟩
open Go
theorem Ht{n:Int}{m:Nat}(h:n=(m:Int))(z:m<18446744073709551616):IntKind.u64.wrap n=(m:Int):=by
 subst h
 simp[IntKind.wrap,IntKind.bits,IntKind.signed]
 omega
theorem Wa{c:UInt8}(h:48≤c.toNat∧c.toNat≤57):IntKind.u8.wrap ((c.toNat:Int) -(Int.ofNat 48))=((c.toNat-48:Nat):Int):=by
 simp[IntKind.wrap,IntKind.bits,IntKind.signed]
 omega
theorem QH{s:List UInt8}{i:Nat}{c:UInt8}(h:s[i]?=some c):dV (s.take (i+1))=dV (s.take i)*10+(c.toNat-48):=by
 rw[xC,h]
 unfold dV
 rw[xD]
 rfl
theorem JS{s:List UInt8}(z:∀c,c∈s→48≤c.toNat∧c.toNat≤57):dV s<10^s.length:=by
 have aux:∀(s:List UInt8)(n:Nat),(∀c,c∈s→48≤c.toNat∧c.toNat≤57)→s.foldl (fun n c=>n*10+(c.toNat-48)) n<(n+1)*10^s.length:=by
  intro s
  induction s with
  |nil=>intro n _;simp
  |cons c r G=>
   intro n A
   have J:=A c (lF ..)
   have h2:=G (n*10+(c.toNat-48)) fun d z=>A d (o0 _ z)
   have I:(n*10+(c.toNat-48)+1)*10^r.length≤((n+1)*10)*10^r.length:=kN _ (by omega)
   calc _<_:=h2
    _≤_:=I
    _=(n+1)*10^(r.length+1):=by rw[yb,Av,mI 10]
 have:=aux s 0 z
 rw[jS,sj] at this
 exact this
theorem P4{s:List UInt8}(h:nA s){i:Nat}(hi:i<s.length):dV (s.take i)<10^18:=by
 have z:=JS (s:=s.take i) fun c A=>h.2.2 c (Hy A)
 rw[ng] at z
 have h2:10^min i s.length≤10^18:=Ax (by decide) (by have:=h.2.1;omega)
 omega
open Go
set_option maxRecDepth 10000
theorem T6{T:bf}(F:FT T){s:List UInt8}(z:nA s):bV T 174 [dS s] [] fun r Bn=>r= .d (.i .u64 (dV s:Nat))∧Bn=[]:=by
 refine cl F.Zf aa (ak 1 aa (ak 1 aa (aM (ak 1 aa (bN (d7 (fun k VE B=>∃i:Nat,i≤s.length∧k=s.length-i∧bu [(0,dS s),(3,.d (.i .u64 (dV (s.take i):Nat))),(4,dI (i:Nat))] VE∧bu [] B) ?_ (k:=s.length) ⟨0,dh _,aa,⟨aa,aa,aa,trivial⟩,trivial⟩))))))
 rintro k VE B⟨i,hi,rfl,K,O⟩
 refine dy _ _ K O (aM (ak 4 aa (aJ aa (fun A=>?_) (fun A=>?_))))
 ·have dR:i<s.length:=by simpa using A
  obtain⟨c,G⟩:∃c,s[i]?=some c:=⟨_,eY dR⟩
  have U:=P4 z dR
  have I:=z.2.2 c (lW G)
  refine aT (aM (bN (bG (ae 1 aa (al (LO aa aa ?_))))))
  rw[Ht (m:=dV (s.take i)*10) (by simp only[aZ];omega) (by omega)]
  refine ae 2 aa (al (fH aa aa G ?_))
  refine al (Gt aa aa ?_)
  rw[Wa I]
  refine ae 1 aa ?_
  rw[Ht (m:=c.toNat-48) rfl (by omega)]
  refine al (Cm aa aa ?_)
  rw[Ht (m:=dV (s.take i)*10+(c.toNat-48)) (by omega) (by omega)]
  refine ae 1 aa (af ?_)
  refine bG (ae 1 aa ?_)
  refine al (cV rfl rfl (by have:=z.2.1;omega) ?_)
  refine ae 1 aa (af ?_)
  refine⟨s.length-(i+1),by omega,i+1,by omega,rfl,⟨rfl,?_,rfl,trivial⟩,trivial⟩
  rw[QH G];rfl
 have J:s.length≤i:=by simpa using A
 refine dM (ak 2 aa (ax ?_))
 rw[qq J]
 exact⟨_,[],aa,trivial,aa,aa⟩
open Go
variable{p:PS}{a:Bool}{D:Rd}
theorem tu{k:Int}(z:p.err=0)(h2:p.tok.kind=k):p.take k 0=(p.tok.text,p.step):=by unfold PS.take;rw[aq z,aq h2,aq rfl]
theorem zB{k:Int}(h:(p.take k 0).2.err=0):p.err=0∧p.tok.kind=k:=by
 unfold PS.take at h
 split at h
 ·rename_i z
  split at h
  ·rename_i h2;exact⟨z,h2⟩
  rw[show(p.fail 5).err=5 by unfold PS.fail;rw[aq z]] at h;cases h
 rename_i z;exact absurd h z
theorem zh{k e:Int}(h:¬(p.take k 0).2.err=0):p.take k e=([],(p.take k 0).2)∧p.called k=false:=by
 by_cases z:p.err=0
 ·by_cases h2:p.tok.kind=k
  ·rw[tu z h2] at h;exact absurd z h
  exact⟨by unfold PS.take;rw[aq z,aj h2,aq z,aj h2],by unfold PS.called;rw[decide_eq_false h2,Bool.and_false]⟩
 exact⟨by unfold PS.take;rw[aj z,aj z],by unfold PS.called;rw[decide_eq_false z];rfl⟩
theorem BW{k:Int}(h:p.called k=true):p.err=0∧p.tok.kind=k:=by
 unfold PS.called at h
 simpa using h
theorem B5{k e:Int}(z:p.called k=true)(he:e≠0):p.take k e=([],p.fail e):=by
 obtain⟨A,h2⟩:=BW z
 unfold PS.take;rw[aq A,aq h2,aj he]
theorem vA{e:Int}(z:p.err=0):(p.fail e).err=e:=by unfold PS.fail;rw[aq z]
theorem Ri{l:Int}(h:¬(p.take 3 0).2.err=0):p.number l=(0,(p.take 3 0).2):=by
 unfold PS.number
 rw[(zh h).1,(zh (e:=0) h).2]
 rfl
theorem JT{l:Int}(z:p.called 3=true)(A:mg l p.tok.text=10):p.number l=(0,p.fail 10):=by
 unfold PS.number
 rw[A,B5 z (by decide),aj (fun k=>absurd k.2 (by decide))]
theorem T7(h:¬(p.take 4 0).2.err=0):(p.day D).2=(p.take 4 0).2:=by unfold PS.day;rw[(zh h).1]
theorem Gc(z:p.called 4=true)(A:p.take 4 0=(p.tok.text,p.step))(G:D.jN p.tok.text=0):p.day D=((D.day p.tok.text).1,p.step):=by unfold PS.day;rw[G,A,aq z]
theorem Cq{e:Int}(A:p.called 4=true)(G:D.jN p.tok.text=e)(z:¬D.jN p.tok.text=0):(p.day D).2=p.fail e:=by unfold PS.day;rw[B5 A z,G]
theorem Fy{e:Int}(A:p.called 4=true)(G:D.jN p.tok.text=e)(z:¬D.jN p.tok.text=0):¬(p.day D).2.err=0:=by
 rw[Cq A G z,vA (BW A).1,←G];exact z
theorem Rj(h:¬(p.take 4 0).2.err=0):(p.period D).2=(p.take 4 0).2:=by unfold PS.period;rw[(zh h).1]
theorem QI(z:p.called 4=true)(A:p.take 4 0=(p.tok.text,p.step))(G:(D.im p.tok.text).2=0):p.period D=((D.im p.tok.text).1,p.step):=by unfold PS.period;rw[G,A,aq z]
theorem JU(A:p.called 4=true)(z:¬(D.im p.tok.text).2=0):(p.period D).2=p.fail (D.im p.tok.text).2:=by unfold PS.period;rw[B5 A z]
theorem P5(A:p.called 4=true)(z:¬(D.im p.tok.text).2=0):¬(p.period D).2.err=0:=by
 rw[JU A z,vA (BW A).1];exact z
theorem rF(h0:p.err=0):p.lI a=[.d (.sl (p.ay.map cL.enc)),dI (p.aI:Nat),dI p.err,dI (p.step.ea:Nat),dI (p.depth:Nat),dB a]:=by
 show [VV.d (.sl (p.ay.map cL.enc)),dI (p.aI:Nat),dI p.err,dI ((if p.err=0 then 0 else p.aI:Nat):Nat),dI (p.depth:Nat),dB a]=[VV.d (.sl (p.ay.map cL.enc)),dI (p.aI:Nat),dI p.err,dI ((if p.err=0 then 0 else p.aI+1:Nat):Nat),dI (p.depth:Nat),dB a]
 rw[aq h0,aq h0]
theorem Gd{T:bf}(F:FT T){s:List UInt8}(z:nA s):Sound T 174 [dS s] fun r=>r= .d (.i .u64 (dV s:Nat)):=bV.mono (T6 F z) fun v B h=>⟨by rw[h.1];trivial,h.1⟩
open Go
set_option maxRecDepth 10000
set_option maxHeartbeats 1000000 in
theorem xb{T:bf}(F:FT T){a:Bool}{p:PS}(hp:St p)(least:Int):bV T 137 [.vp 1000 0,dI least] (PS.bq a p) fun r Bn=>r=dI (p.number least).1∧Bn=PS.bq a (p.number least).2:=by
 refine cl F.YT aa (ak 1 aa (ai (ae 1 aa ?_)))
 refine bH (vK F hp.ok (k:=3) (by decide)) rfl rfl rfl rfl ?_
 refine ae 1 aa (af ?_)
 refine aM (ak 5 aa (aJ aa (fun bI=>?_) (fun bI=>?_)))
 ·have h0:¬(p.take 3 0).2.err=0:=by simpa using bI
  have Y:p.number least=(0,(p.take 3 0).2):=Ri h0
  refine ak 1 aa (ax ?_)
  rw[Y];exact⟨_,PS.bq a _,rfl,⟨rfl,trivial⟩,rfl,rfl⟩
 have h0:(p.take 3 0).2.err=0:=by simpa using bI
 obtain⟨U,h2⟩:=zB h0
 have dR:=PS.lu hp.ok (k:=3) (by decide) h2
 have fi:=hp.ok.dY
 have I:p.take 3 0=(p.tok.text,p.step):=tu U h2
 rw[I]
 have hs:=hp.ni.1 _ hp.ok.mem h2
 have PC:=BU hs
 have Z:p.called 3=true:=by unfold PS.called;rw[U,h2];rfl
 have J:((p.aI+1:Nat):Int) -Int.ofNat 1=((p.aI:Nat):Int):=by simp only[aZ];omega
 refine aT (ai (ae 1 aa ?_))
 refine al (qe (args:=[dS p.tok.text]) rfl (by repeat(first|exact trivial|apply And.intro)) (Gd F hs) (fun r hn hr=>?_))
 subst hr
 refine ae 1 aa (af ?_)
 refine aM (ai (ae 3 aa (cX (g:=bj) aa (fun z=>?_) (fun z=>?_))))
 ·have sM:¬(dV p.tok.text:Int)<1099511627776:=by simp at z;omega
  have K:mg least p.tok.text=10:=aj (fun h=>sM h.1)
  refine aO aa (z) (aO aa (z) (aO aa (z) (aO aa (z) (al (cS aa (z) aa ?_)))))
  refine af (e7 aa aa (ai (ae 4 aa ?_)))
  refine al (gi (a:=((p.aI+1:Nat):Int)) rfl rfl (by simp only[aZ];omega) (by simp only[aZ];omega) ?_)
  rw[J]
  refine ae 3 aa (af ?_)
  refine ai ?_
  refine ew (PS.bq a p) ⟨by rw[rF U];rfl,trivial⟩ ?_
  refine ae 1 aa ?_
  refine bH (lV F hp.ok (by decide)) rfl rfl rfl rfl ?_
  refine af (ak 1 aa (ax ?_))
  rw[JT Z K];exact⟨_,PS.bq a (p.fail 10),rfl,⟨rfl,trivial⟩,rfl,rfl⟩
 have O:(dV p.tok.text:Int)<1099511627776:=by simp at z;omega
 refine ao aa (z) (bM aa ?_)
 refine ao aa (z) (Cj aa ?_)
 rw[wrap_i64 (by omega) (by omega)]
 refine ao aa (z) (bM aa ?_)
 refine ao aa (z) (pH aa aa ?_)
 refine al (cI aa (z) aa ?_)
 refine af (aJ aa (fun A=>?_) (fun A=>?_))
 ·have K:mg least p.tok.text=10:=aj (fun h=>by have G:=A;simp at G;omega)
  refine ai (ae 4 aa ?_)
  refine al (gi (a:=((p.aI+1:Nat):Int)) rfl rfl (by simp only[aZ];omega) (by simp only[aZ];omega) ?_)
  rw[J]
  refine ae 3 aa (af ?_)
  refine ai ?_
  refine ew (PS.bq a p) ⟨by rw[rF U];rfl,trivial⟩ ?_
  refine ae 1 aa ?_
  refine bH (lV F hp.ok (by decide)) rfl rfl rfl rfl ?_
  refine af (ak 1 aa (ax ?_))
  rw[JT Z K];exact⟨_,PS.bq a (p.fail 10),rfl,⟨rfl,trivial⟩,rfl,rfl⟩
 have K:mg least p.tok.text=0:=aq ⟨O,by have G:=A;simp at G;omega⟩
 have Y:p.number least=(((dV p.tok.text:Nat):Int),p.step):=by unfold PS.number;rw[K,aq ⟨Z,rfl⟩,I]
 refine aT (ai (ae 2 aa ?_))
 rw[wrap_i64 (by omega) (by omega)]
 refine ae 1 aa (af ?_)
 refine ax ?_
 rw[Y];exact⟨_,PS.bq a _,rfl,⟨rfl,trivial⟩,rfl,rfl⟩
set_option maxHeartbeats 1000000 in
theorem OS{T:bf}(F:FT T){D:Rd}(Lq:ka T D){a:Bool}{p:PS}(hp:St p):bV T 135 [.vp 1000 0] (PS.bq a p) fun r Bn=>(∃v,r=dI v∧((p.day D).2.err=0→v=(p.day D).1))∧Bn=PS.bq a (p.day D).2:=by
 refine cl F.YQ aa (ak 1 aa (ai (ae 1 aa ?_)))
 refine bH (vK F hp.ok (k:=4) (by decide)) rfl rfl rfl rfl ?_
 refine ae 1 aa (af ?_)
 refine aM (ak 5 aa (aJ aa (fun Y=>?_) (fun Y=>?_)))
 ·have h0:¬(p.take 4 0).2.err=0:=by simpa using Y
  have J:(p.day D).2=(p.take 4 0).2:=T7 h0
  have he:¬(p.day D).2.err=0:=by rw[J];exact h0
  refine ak 1 aa (ax ?_)
  exact⟨_,PS.bq a _,rfl,⟨rfl,trivial⟩,⟨_,rfl,fun k=>absurd k he⟩,by rw[J]⟩
 have h0:(p.take 4 0).2.err=0:=by simpa using Y
 obtain⟨h1,h2⟩:=zB h0
 have dR:=PS.lu hp.ok (k:=4) (by decide) h2
 have fi:=hp.ok.dY
 have O:p.take 4 0=(p.tok.text,p.step):=tu h1 h2
 rw[O]
 have hs:=hp.ni.2 _ hp.ok.mem
 have U:p.called 4=true:=by unfold PS.called;rw[h1,h2];rfl
 have hdle:=Lq.kD p.tok.text
 have Z:((p.aI+1:Nat):Int) -Int.ofNat 1=((p.aI:Nat):Int):=by simp only[aZ];omega
 refine aT (ai (ae 1 aa ?_))
 refine al (qe (args:=[dS p.tok.text]) rfl (by repeat(first|exact trivial|apply And.intro)) (Lq.day _ hs) (fun r hn hr=>?_))
 subst hr
 refine ae 5 aa (af ?_)
 refine aM (ai (ae 3 aa (cX (g:=bn) aa (fun G=>?_) (fun G=>?_))))
 ·refine ao aa (G) (bM aa ?_)
  refine ao aa (G) (hH aa aa ?_)
  refine al (cS aa (G) aa ?_)
  refine af (aJ aa (fun IE=>?_) (fun IE=>?_))
  ·have I:D.jN p.tok.text=10:=by unfold Rd.jN;rw[aq ⟨by simpa using G,by simp at IE;omega⟩]
   refine bG (ae 1 aa (af ?_))
   refine aM (ak 2 aa (aJ aa (fun z=>?_) (fun z=>?_)))
   ·have A:¬D.jN p.tok.text=0:=by rw[I];first|decide|simpa using z
    refine ai (ae 4 aa ?_)
    refine al (gi (a:=((p.aI+1:Nat):Int)) rfl rfl (by simp only[aZ];omega) (by simp only[aZ];omega) ?_)
    rw[Z]
    refine ae 3 aa (af ?_)
    refine ai ?_
    refine ew (PS.bq a p) ⟨by rw[rF h1];rfl,trivial⟩ ?_
    refine ae 2 aa ?_
    refine bH (lV F hp.ok (e:=10) (by decide)) rfl rfl rfl rfl ?_
    refine af (ak 1 aa (ax ?_))
    exact⟨_,PS.bq a (p.fail 10),rfl,⟨rfl,trivial⟩,⟨_,rfl,fun k=>absurd k (Fy U I A)⟩,by rw[Cq U I A]⟩
   have K:D.jN p.tok.text=0:=by rw[I];first|(exact absurd z (by decide))|simpa using z
   have J:p.day D=((D.day p.tok.text).1,p.step):=Gc U O K
   refine aT (ak 2 aa (ax ?_))
   exact⟨_,PS.bq a p.step,rfl,⟨rfl,trivial⟩,⟨_,rfl,fun _=>by rw[J]⟩,by rw[J]⟩
  have I:D.jN p.tok.text=(D.day p.tok.text).2:=by unfold Rd.jN;rw[aj (fun k=>absurd k.2 (by simp at IE;omega))]
  refine aT (aM (ak 2 aa (aJ aa (fun z=>?_) (fun z=>?_))))
  ·have A:¬D.jN p.tok.text=0:=by rw[I];first|decide|simpa using z
   refine ai (ae 4 aa ?_)
   refine al (gi (a:=((p.aI+1:Nat):Int)) rfl rfl (by simp only[aZ];omega) (by simp only[aZ];omega) ?_)
   rw[Z]
   refine ae 3 aa (af ?_)
   refine ai ?_
   refine ew (PS.bq a p) ⟨by rw[rF h1];rfl,trivial⟩ ?_
   refine ae 2 aa ?_
   refine bH (lV F hp.ok (by rw[←I];exact A)) rfl rfl rfl rfl ?_
   refine af (ak 1 aa (ax ?_))
   exact⟨_,PS.bq a (p.fail (D.day p.tok.text).2),rfl,⟨rfl,trivial⟩,⟨_,rfl,fun k=>absurd k (Fy U I A)⟩,by rw[Cq U I A]⟩
  have K:D.jN p.tok.text=0:=by rw[I];first|(exact absurd z (by decide))|simpa using z
  have J:p.day D=((D.day p.tok.text).1,p.step):=Gc U O K
  refine aT (ak 2 aa (ax ?_))
  exact⟨_,PS.bq a p.step,rfl,⟨rfl,trivial⟩,⟨_,rfl,fun _=>by rw[J]⟩,by rw[J]⟩
 have I:D.jN p.tok.text=(D.day p.tok.text).2:=by unfold Rd.jN;rw[aj (fun k=>absurd k.1 (by simpa using G))]
 refine aO aa (G) (aO aa (G) (al (cI aa (G) aa ?_)))
 refine af (eI aa aa (aT (aM (ak 2 aa (aJ aa (fun z=>?_) (fun z=>?_))))))
 ·have A:¬D.jN p.tok.text=0:=by rw[I];first|decide|simpa using z
  refine ai (ae 4 aa ?_)
  refine al (gi (a:=((p.aI+1:Nat):Int)) rfl rfl (by simp only[aZ];omega) (by simp only[aZ];omega) ?_)
  rw[Z]
  refine ae 3 aa (af ?_)
  refine ai ?_
  refine ew (PS.bq a p) ⟨by rw[rF h1];rfl,trivial⟩ ?_
  refine ae 2 aa ?_
  refine bH (lV F hp.ok (by rw[←I];exact A)) rfl rfl rfl rfl ?_
  refine af (ak 1 aa (ax ?_))
  exact⟨_,PS.bq a (p.fail (D.day p.tok.text).2),rfl,⟨rfl,trivial⟩,⟨_,rfl,fun k=>absurd k (Fy U I A)⟩,by rw[Cq U I A]⟩
 have K:D.jN p.tok.text=0:=by rw[I];first|(exact absurd z (by decide))|simpa using z
 have J:p.day D=((D.day p.tok.text).1,p.step):=Gc U O K
 refine aT (ak 2 aa (ax ?_))
 exact⟨_,PS.bq a p.step,rfl,⟨rfl,trivial⟩,⟨_,rfl,fun _=>by rw[J]⟩,by rw[J]⟩
set_option maxHeartbeats 1000000 in
theorem LU{T:bf}(F:FT T){D:Rd}(Z:ka T D){a:Bool}{p:PS}(hp:St p):bV T 128 [.vp 1000 0] (PS.bq a p) fun r Bn=>(∃v:Int×Int,r= .agg [dI v.1,dI v.2]∧((p.period D).2.err=0→v=(p.period D).1))∧Bn=PS.bq a (p.period D).2:=by
 refine cl F.YK aa (ak 1 aa (ai (ae 1 aa ?_)))
 refine bH (vK F hp.ok (k:=4) (by decide)) rfl rfl rfl rfl ?_
 refine ae 1 aa (af ?_)
 refine aM (ak 5 aa (aJ aa (fun z=>?_) (fun z=>?_)))
 ·have h0:¬(p.take 4 0).2.err=0:=by simpa using z
  have I:(p.period D).2=(p.take 4 0).2:=Rj h0
  have he:¬(p.period D).2.err=0:=by rw[I];exact h0
  refine ak 2 aa (ax ?_)
  exact⟨_,PS.bq a _,rfl,⟨rfl,trivial⟩,⟨(0,0),rfl,fun k=>absurd k he⟩,by rw[I]⟩
 have h0:(p.take 4 0).2.err=0:=by simpa using z
 obtain⟨K,h2⟩:=zB h0
 have dR:=PS.lu hp.ok (k:=4) (by decide) h2
 have fi:=hp.ok.dY
 have J:p.take 4 0=(p.tok.text,p.step):=tu K h2
 rw[J]
 have hs:=hp.ni.2 _ hp.ok.mem
 have O:p.called 4=true:=by unfold PS.called;rw[K,h2];rfl
 have U:((p.aI+1:Nat):Int) -Int.ofNat 1=((p.aI:Nat):Int):=by simp only[aZ];omega
 refine aT (ai (ae 1 aa ?_))
 refine al (qe (args:=[dS p.tok.text]) rfl (by repeat(first|exact trivial|apply And.intro)) (Z.im _ hs) (fun r hn hr=>?_))
 subst hr
 refine ae 6 aa (af ?_)
 refine aM (ak 2 aa (aJ aa (fun A=>?_) (fun A=>?_)))
 ·have G:¬(D.im p.tok.text).2=0:=by simpa using A
  refine ai (ae 4 aa ?_)
  refine al (gi (a:=((p.aI+1:Nat):Int)) rfl rfl (by simp only[aZ];omega) (by simp only[aZ];omega) ?_)
  rw[U]
  refine ae 3 aa (af ?_)
  refine ai ?_
  refine ew (PS.bq a p++[(2,.one 30 16 [d0,d0])]) (cG (by rw[rF K];rfl) ⟨rfl,trivial⟩) ?_
  refine ae 2 aa (bH (lV F hp.ok G) aa aa aa aa (af (ak 2 aa (ax ?_))))
  exact⟨_,PS.bq a (p.fail (D.im p.tok.text).2),rfl,⟨rfl,trivial⟩,⟨(0,0),rfl,fun k=>absurd k (P5 O G)⟩,by rw[JU O G]⟩
 have Y:(D.im p.tok.text).2=0:=by simpa using A
 have I:p.period D=((D.im p.tok.text).1,p.step):=QI O J Y
 refine aT (ak 2 aa (ax ?_))
 exact⟨_,PS.bq a p.step,rfl,⟨rfl,trivial⟩,⟨(D.im p.tok.text).1,rfl,fun _=>by rw[I]⟩,by rw[I]⟩
theorem Ge{T:bf}(F:FT T){a:Bool}{p:PS}(hp:bd p):bV T 136 [.vp 1000 0] (PS.bq a p) fun r Bn=>r=dI p.hM.1∧Bn=PS.bq a p.hM.2:=by
 refine cl F.YS aa (ak 1 aa (aM (ai (ae 1 aa (bH (fC F hp.ok e6) aa aa aa aa (af (aJ aa (fun z=>?_) (fun z=>?_))))))))
 ·have A:p.hM=((p.keyword e6).2.aU [jZ]).number (-1):=by unfold PS.hM;rw[aq z]
  refine ai (ae 1 aa (bH (iY F (hp.kw e6).ok jZ) aa aa aa aa (af (ai (ae 1 aa (bH (xb F ((hp.kw e6).top.dD [jZ]).st (-1)) aa aa aa aa (ae 1 aa (af ?_))))))))
  refine ax ?_
  rw[A]
  exact⟨_,PS.bq a _,aa,⟨aa,trivial⟩,aa,aa⟩
 have A:p.hM=(1099511627776,p):=by unfold PS.hM;rw[aj (by rw[z];decide)]
 rw[PS.cK z]
 refine aT (ak 1 aa (ax ?_))
 rw[A]
 exact⟨_,PS.bq a _,aa,⟨aa,trivial⟩,aa,aa⟩
open Go
variable{p:PS}{a:Bool}{D:Rd}
theorem uC{s:List UInt8}(h:(p.keyword s).1=true):p.err=0∧p.tok.kind=1∧p.tok.text=s:=by
 have z:=(PS.pr h).2
 unfold PS.next at z
 simpa using z
theorem qp{s:List UInt8}(h:(p.sign s).1=true):p.err=0∧p.tok.kind=5∧p.tok.text=s:=by
 have z:=(PS.pr h).2
 unfold PS.next at z
 simpa using z
theorem CL{s:List UInt8}(h:p.tok.kind≠1∨p.tok.text≠s):(p.keyword s).1=false:=by
 cases hk:(p.keyword s).1
 ·rfl
 obtain⟨_,z,h2⟩:=uC hk;rcases h with h|h<;>contradiction
theorem xw{s:List UInt8}(h:p.tok.kind≠5∨p.tok.text≠s):(p.sign s).1=false:=by
 cases hk:(p.sign s).1
 ·rfl
 obtain⟨_,z,h2⟩:=qp hk;rcases h with h|h<;>contradiction
theorem T8(h:¬p.err=0):p.literal D=(cj,p):=by unfold PS.literal;rw[aq h]
theorem F1{s:List UInt8}(h:(p.keyword s).1=true)(z:s=oZ∨s=oz∨s=k0):p.tok.kY=true:=by
 obtain⟨_,A,h2⟩:=uC h
 unfold cL.kY
 rw[A,h2]
 rcases z with rfl|rfl|rfl<;>decide
theorem SZ(h:(p.keyword k0).1=true):p.literal D=(cj,(p.keyword k0).2):=by
 obtain⟨h0,z,h2⟩:=uC h
 unfold PS.literal
 rw[aj (by simpa using h0),aj (by rw[F1 h (.inr (.inr rfl))];decide),aj (by rw[xw (.inl (by rw[z];decide))];decide),aj (by rw[z];decide),aj (by rw[CL (.inr (by rw[h2];decide))];decide),aj (by rw[CL (.inr (by rw[h2];decide))];decide),aq h]
theorem S0(h:(p.keyword oZ).1=true):p.literal D=(⟨3,1,[]⟩,(p.keyword oZ).2):=by
 obtain⟨h0,z,h2⟩:=uC h
 unfold PS.literal
 rw[aj (by simpa using h0),aj (by rw[F1 h (.inl rfl)];decide),aj (by rw[xw (.inl (by rw[z];decide))];decide),aj (by rw[z];decide),aq h]
theorem R4(h:(p.keyword oz).1=true):p.literal D=(⟨3,0,[]⟩,(p.keyword oz).2):=by
 obtain⟨h0,z,h2⟩:=uC h
 unfold PS.literal
 rw[aj (by simpa using h0),aj (by rw[F1 h (.inr (.inl rfl))];decide),aj (by rw[xw (.inl (by rw[z];decide))];decide),aj (by rw[z];decide),aj (by rw[CL (.inr (by rw[h2];decide))];decide),aq h]
theorem S1(h0:p.err=0)(z:p.tok.kind=4):p.literal D=(⟨2,0,p.tok.text⟩,p.step):=by
 have hk:∀s,(p.keyword s).1=false:=fun s=>CL (.inl (by rw[z];decide))
 unfold PS.literal
 rw[aj (by simpa using h0),aj (by unfold cL.kY;rw[z];simp),aj (by rw[xw (.inl (by rw[z];decide))];decide),aj (by rw[z];decide),aj (by rw[hk];decide),aj (by rw[hk];decide),aj (by rw[hk];decide)]
theorem R5(h:p.next 5 gM=true):p.literal D=(p.sign gM).2.integer D true∧(p.sign gM).1=true:=by
 have z:(p.sign gM).1=true:=by unfold PS.sign PS.accept;rw[aq h]
 obtain⟨h0,A,h2⟩:=qp z
 refine⟨?_,z⟩
 unfold PS.literal
 rw[aj (by simpa using h0),aj (by unfold cL.kY;rw[A,h2];decide),aq z]
theorem T9(h0:p.err=0)(z:p.tok.kind=3):p.literal D=(p.sign gM).2.integer D false∧(p.sign gM).1=false:=by
 have A:(p.sign gM).1=false:=xw (.inl (by rw[z];decide))
 refine⟨?_,A⟩
 rw[PS.ic A]
 unfold PS.literal
 rw[aj (by simpa using h0),aj (by unfold cL.kY;rw[z];simp),aj (by rw[A];decide),aq z]
theorem S2(h0:p.err=0)(A:(p.keyword oZ).1=false)(G:(p.keyword oz).1=false)(hN:(p.keyword k0).1=false)(I:¬p.tok.kind=4)(J:¬p.tok.kind=3)(K:p.next 5 gM=false):p.literal D=(cj,p.fail 5):=by
 have z:p.tok.kY=false:=by
  have O:=(PS.rN A).2
  have U:=(PS.rN G).2
  have Y:=(PS.rN hN).2
  unfold PS.next at K O U Y
  unfold cL.kY
  rw[decide_eq_false I,decide_eq_false J]
  by_cases Z:p.tok.kind=5
  ·simp_all
  by_cases k1:p.tok.kind=1
  ·simp_all
  simp_all
 unfold PS.literal
 rw[aj (by simpa using h0),aq z]
theorem JC{n:Bool}(h:¬(p.take 3 0).2.err=0):(p.integer D n).2=(p.take 3 0).2:=by unfold PS.integer;rw[(zh h).1]
theorem Fz{n:Bool}(z:p.called 3=true)(A:D.int n p.tok.text=none):(p.integer D n).2=p.fail 10:=by
 have e:D.qh n p.tok.text=10:=by unfold Rd.qh;rw[A];rfl
 unfold PS.integer;rw[e,B5 z (by decide)]
theorem Fv{n:Bool}{v:Int}(z:p.called 3=true)(A:D.int n p.tok.text=some v):p.integer D n=(⟨1,v,[]⟩,p.step):=by
 have e:D.qh n p.tok.text=0:=by unfold Rd.qh;rw[A];rfl
 obtain⟨G,h2⟩:=BW z
 unfold PS.integer;rw[e,tu G h2,aq z,A];rfl
theorem LV{n:Nat}(h:n≤9223372036854775808):IntKind.i64.wrap (IntKind.u64.wrap (0-(n:Int)))= -(n:Int):=by
 rw[Int.zero_sub]
 simp[IntKind.wrap,IntKind.bits,IntKind.signed]
 omega
def EK(D:Rd)(a:Bool)(p:PS)(r:VV)(Bn:br):Prop:=∃v b q,r= .tuple [ep (gX.enc v),dB b]∧Bn=PS.bq a q∧(b=true→q=(p.literal D).2∧(q.err=0→v=(p.literal D).1))∧(b=false→q=p∧(p.literal D).2=p.fail 5)
theorem pw{v:gX}{q:PS}{r:VV}{Bn:br}(z:r= .tuple [ep v.enc,dB true])(A:Bn=PS.bq a q)(G:q=(p.literal D).2)(h2:q.err=0→v=(p.literal D).1):EK D a p r Bn:=⟨v,true,q,z,A,fun _=>⟨G,h2⟩,fun k=>by cases k⟩
theorem LW{r:VV}{Bn:br}(z:r= .tuple [ep cj.enc,dB false])(A:Bn=PS.bq a p)(h:(p.literal D).2=p.fail 5):EK D a p r Bn:=
 ⟨cj,false,p,z,A,(fun k=>by cases k),fun _=>⟨rfl,h⟩⟩
open Go
set_option maxRecDepth 10000
set_option maxHeartbeats 4000000 in
theorem Le{T:bf}(F:FT T){D:Rd}(Lq:ka T D){a:Bool}{p:PS}(hp:St p):bV T 169 [.vp 1000 0] (PS.bq a p) (EK D a p):=by
 refine cl F.Za aa ?_
 have sr:(p.ay.map cL.enc)[p.aI]?=some p.tok.enc:=by rw[iO,hp.ok.get];rfl
 refine ak 2 aa (aM (bN (ak 6 aa (aJ aa (fun h7=>?_) (fun h7=>?_)))))
 ·have h0:¬p.err=0:=by simpa using h7
  have I:=T8 (D:=D) h0
  have hz:p.fail 5=p:=aj h0
  refine ak 3 aa (ax ?_)
  exact⟨_,PS.bq a p,rfl,⟨rfl,trivial⟩,LW rfl rfl (by rw[I,hz])⟩
 have h0:p.err=0:=by simpa using h7
 refine ai (ae 1 aa (bH (fC F hp.ok k0) aa aa aa aa (ae 1 aa (af ?_))))
 refine aJ aa (fun Y=>?_) (fun Y=>?_)
 ·have I:=SZ (D:=D) Y
  refine ak 3 aa (ax ?_)
  exact⟨_,PS.bq a (p.keyword k0).2,rfl,⟨rfl,trivial⟩,pw rfl rfl (by rw[I]) (fun _=>by rw[I])⟩
 rw[PS.cK Y]
 refine ai (ae 1 aa (bH (fC F hp.ok oZ) aa aa aa aa (ae 1 aa (af ?_))))
 refine aJ aa (fun Z=>?_) (fun Z=>?_)
 ·have I:=S0 (D:=D) Z
  refine ak 3 aa (ax ?_)
  exact⟨_,PS.bq a (p.keyword oZ).2,rfl,⟨rfl,trivial⟩,pw rfl rfl (by rw[I]) (fun _=>by rw[I])⟩
 rw[PS.cK Z]
 refine ai (ae 1 aa (bH (fC F hp.ok oz) aa aa aa aa (ae 1 aa (af ?_))))
 refine aJ aa (fun rD=>?_) (fun rD=>?_)
 ·have I:=R4 (D:=D) rD
  refine ak 3 aa (ax ?_)
  exact⟨_,PS.bq a (p.keyword oz).2,rfl,⟨rfl,trivial⟩,pw rfl rfl (by rw[I]) (fun _=>by rw[I])⟩
 rw[PS.cK rD]
 refine eU (bm 8 aa (dE (lS (row:=p.tok.enc) aa aa sr aa ?_)))
 refine bm 4 aa (da ?_)
 refine aJ aa (fun pb=>?_) (fun pb=>?_)
 ·have h4:p.tok.kind=4:=by simpa using pb
  have I:=S1 (D:=D) h0 h4
  have hm4:=tu h0 h4
  refine ai (ae 1 aa ?_)
  refine bH (vK F hp.ok (k:=4) (by decide)) rfl rfl rfl rfl ?_
  rw[hm4]
  refine ae 3 aa (af ?_)
  refine ax ?_
  exact⟨_,PS.bq a p.step,rfl,⟨rfl,trivial⟩,pw rfl rfl (by rw[I]) (fun _=>by rw[I])⟩
 have h4:¬p.tok.kind=4:=by simpa using pb
 refine eU (bm 8 aa (dE (lS (row:=p.tok.enc) aa aa sr aa ?_)))
 refine bm 4 aa (vx (g:=eV) aa (fun J=>?_) (fun J=>?_))
 ·have h3:¬p.tok.kind=3:=by simpa using J
  refine dZ aa (J) (bM aa ?_)
  refine kq aa (J) aa (vY (yR F hp.ok 5 gM) aa aa aa aa ?_)
  refine dZ aa (J) (jv aa ?_)
  refine dE (cS aa (J) aa ?_)
  refine bm 1 aa (da ?_)
  refine aJ aa (fun qD=>?_) (fun qD=>?_)
  ·have IF:p.next 5 gM=false:=by simpa using qD
   have I:=S2 (D:=D) h0 Z rD Y h4 h3 IF
   refine ak 3 aa (ax ?_)
   exact⟨_,PS.bq a p,rfl,⟨rfl,trivial⟩,LW rfl rfl (by rw[I])⟩
  have IF:p.next 5 gM=true:=by simpa using qD
  obtain⟨G,IG⟩:=R5 (D:=D) IF
  have K:=hp.sign gM
  refine aT (ai (ae 1 aa (bH (mj F hp.ok gM) aa aa aa aa ?_)))
  rw[IG]
  generalize (p.sign gM).2=q at G K⊢
  refine ae 1 aa (af ?_)
  refine ai (ae 1 aa ?_)
  refine bH (vK F K.ok (k:=3) (by decide)) rfl rfl rfl rfl ?_
  refine ae 1 aa (af ?_)
  refine aM (ak 5 aa (aJ aa (fun O=>?_) (fun O=>?_)))
  ·have h5:¬(q.take 3 0).2.err=0:=by simpa using O
   have I:(p.literal D).2=(q.take 3 0).2:=by rw[G,JC h5]
   exact ak 3 aa (ax (⟨_,PS.bq a (q.take 3 0).2,aa,⟨aa,trivial⟩,pw (v:=cj) aa aa I.symm (fun k=>absurd k h5)⟩))
  have h5:(q.take 3 0).2.err=0:=by simpa using O
  obtain⟨U,h2⟩:=zB h5
  have dR:=PS.lu K.ok (k:=3) (by decide) h2
  have fi:=K.ok.dY
  have nz:q.take 3 0=(q.tok.text,q.step):=tu U h2
  rw[nz]
  have hs:=K.ni.1 _ K.ok.mem h2
  have PC:=BU hs
  have hc:q.called 3=true:=by unfold PS.called;rw[U,h2];rfl
  have hi:=Lq.int
  have mU:((q.aI+1:Nat):Int) -Int.ofNat 1=((q.aI:Nat):Int):=by simp only[aZ];omega
  refine aT (ai (ae 1 aa ?_))
  refine al (qe (args:=[dS q.tok.text]) rfl (by repeat(first|exact trivial|apply And.intro)) (Gd F hs) (fun r hn hr=>?_))
  subst hr
  refine ae 1 aa (af ?_)
  refine aM (ai (ae 3 aa (cX (g:=iA) aa (fun z=>?_) (fun z=>?_))))
  ·have Z2:(9223372036854775808:Int)<(dV q.tok.text:Nat):=by simpa using z
   have I:(p.literal D).2=q.fail 10:=by rw[G];exact Fz hc (by rw[hi,aj (fun k=>by omega)])
   refine aO aa (z) (aO aa (z) (aO aa (z) (B4 aa (B4 aa (aO aa (z) (al (cS aa (z) aa ?_)))))))
   refine af (e7 aa aa (ai (ae 4 aa ?_)))
   refine al (gi (a:=((q.aI+1:Nat):Int)) rfl rfl (by simp only[aZ];omega) (by simp only[aZ];omega) ?_)
   rw[mU]
   refine ae 3 aa (af ?_)
   refine ai ?_
   refine ew (PS.bq a q++[(2,.one 73 32 [d0,d0,dS []])]) (cG (by rw[rF U];rfl) ⟨rfl,trivial⟩) ?_
   refine ae 1 aa ?_
   refine bH (lV F K.ok (by decide)) rfl rfl rfl rfl ?_
   refine af (ak 3 aa (ax ?_))
   exact⟨_,PS.bq a (q.fail 10),rfl,⟨rfl,trivial⟩,pw (v:=cj) rfl rfl I.symm (fun k=>absurd k (by rw[vA U];decide))⟩
  have hle:((dV q.tok.text:Nat):Int)≤9223372036854775808:=by simpa using z
  refine ao aa (z) (bM aa ?_)
  refine ao aa (z) (hH aa aa ?_)
  refine ao aa (z) (bM aa ?_)
  refine cX (g:=jB) aa (fun A=>?_) (fun A=>?_)
  ·have heq:((dV q.tok.text:Nat):Int)=9223372036854775808:=by simpa using A
   have I:p.literal D=(⟨1, -((dV q.tok.text:Nat):Int),[]⟩,q.step):=by rw[G];exact Fv hc (by rw[hi,aq (Or.inr ⟨rfl,heq⟩)];rfl)
   refine ao aa (A) (bM aa ?_)
   refine ao aa (A) (jv aa ?_)
   refine ao aa (z) (cS aa (A) aa ?_)
   refine al (cI aa (z) aa ?_)
   refine af (eI aa aa (aT (aM (ak 1 aa (e7 aa aa (bG (ae 1 aa (al (LP aa ?_)))))))))
   refine ae 1 aa (af ?_)
   refine ai (ae 2 aa ?_)
   rw[LV (n:=dV q.tok.text) (by omega)]
   refine ae 3 aa (af ?_)
   refine ax ?_
   exact⟨_,PS.bq a q.step,rfl,⟨rfl,trivial⟩,pw rfl rfl (by rw[I]) (fun _=>by rw[I])⟩
  have lk:¬((dV q.tok.text:Nat):Int)=9223372036854775808:=by simpa using A
  have I:p.literal D=(⟨1, -((dV q.tok.text:Nat):Int),[]⟩,q.step):=by rw[G];exact Fv hc (by rw[hi,aq (Or.inl (by omega))];rfl)
  refine aO aa (A) (aO aa (A) (ao aa (z) (cI aa (A) aa ?_)))
  refine al (cI aa (z) aa ?_)
  refine af (eI aa aa (aT (aM (ak 1 aa (e7 aa aa (bG (ae 1 aa (al (LP aa ?_)))))))))
  refine ae 1 aa (af ?_)
  refine ai (ae 2 aa ?_)
  rw[LV (n:=dV q.tok.text) (by omega)]
  refine ae 3 aa (af ?_)
  refine ax ?_
  exact⟨_,PS.bq a q.step,rfl,⟨rfl,trivial⟩,pw rfl rfl (by rw[I]) (fun _=>by rw[I])⟩
 have h3:p.tok.kind=3:=by simpa using J
 obtain⟨G,IG⟩:=T9 (D:=D) h0 h3
 have K:=hp.sign gM
 refine cN aa (J) (iJ aa (J) (cN aa (J) (dE (cI aa (J) aa ?_))))
 refine bm 1 aa (da ?_)
 refine eI aa aa (aT (ai (ae 1 aa (bH (mj F hp.ok gM) aa aa aa aa ?_))))
 rw[IG]
 generalize (p.sign gM).2=q at G K⊢
 refine ae 1 aa (af ?_)
 refine ai (ae 1 aa ?_)
 refine bH (vK F K.ok (k:=3) (by decide)) rfl rfl rfl rfl ?_
 refine ae 1 aa (af ?_)
 refine aM (ak 5 aa (aJ aa (fun O=>?_) (fun O=>?_)))
 ·have h5:¬(q.take 3 0).2.err=0:=by simpa using O
  have I:(p.literal D).2=(q.take 3 0).2:=by rw[G,JC h5]
  exact ak 3 aa (ax (⟨_,PS.bq a (q.take 3 0).2,aa,⟨aa,trivial⟩,pw (v:=cj) aa aa I.symm (fun k=>absurd k h5)⟩))
 have h5:(q.take 3 0).2.err=0:=by simpa using O
 obtain⟨U,h2⟩:=zB h5
 have dR:=PS.lu K.ok (k:=3) (by decide) h2
 have fi:=K.ok.dY
 have nz:q.take 3 0=(q.tok.text,q.step):=tu U h2
 rw[nz]
 have hs:=K.ni.1 _ K.ok.mem h2
 have PC:=BU hs
 have hc:q.called 3=true:=by unfold PS.called;rw[U,h2];rfl
 have hi:=Lq.int
 have mU:((q.aI+1:Nat):Int) -Int.ofNat 1=((q.aI:Nat):Int):=by simp only[aZ];omega
 refine aT (ai (ae 1 aa ?_))
 refine al (qe (args:=[dS q.tok.text]) rfl (by repeat(first|exact trivial|apply And.intro)) (Gd F hs) (fun r hn hr=>?_))
 subst hr
 refine ae 1 aa (af ?_)
 refine aM (ai (ae 3 aa (cX (g:=iA) aa (fun z=>?_) (fun z=>?_))))
 ·have Z2:(9223372036854775808:Int)<(dV q.tok.text:Nat):=by simpa using z
  have I:(p.literal D).2=q.fail 10:=by rw[G];exact Fz hc (by rw[hi,aj (fun k=>by omega)])
  refine aO aa (z) (aO aa (z) (aO aa (z) (B4 aa (B4 aa (aO aa (z) (al (cS aa (z) aa ?_)))))))
  refine af (e7 aa aa (ai (ae 4 aa ?_)))
  refine al (gi (a:=((q.aI+1:Nat):Int)) rfl rfl (by simp only[aZ];omega) (by simp only[aZ];omega) ?_)
  rw[mU]
  refine ae 3 aa (af ?_)
  refine ai ?_
  refine ew (PS.bq a q++[(2,.one 73 32 [d0,d0,dS []])]) (cG (by rw[rF U];rfl) ⟨rfl,trivial⟩) ?_
  refine ae 1 aa ?_
  refine bH (lV F K.ok (by decide)) rfl rfl rfl rfl ?_
  refine af (ak 3 aa (ax ?_))
  exact⟨_,PS.bq a (q.fail 10),rfl,⟨rfl,trivial⟩,pw (v:=cj) rfl rfl I.symm (fun k=>absurd k (by rw[vA U];decide))⟩
 have hle:((dV q.tok.text:Nat):Int)≤9223372036854775808:=by simpa using z
 refine ao aa (z) (bM aa ?_)
 refine ao aa (z) (hH aa aa ?_)
 refine ao aa (z) (bM aa ?_)
 refine cX (g:=jB) aa (fun A=>?_) (fun A=>?_)
 ·have heq:((dV q.tok.text:Nat):Int)=9223372036854775808:=by simpa using A
  have I:(p.literal D).2=q.fail 10:=by rw[G];exact Fz hc (by rw[hi,aj (fun k=>k.elim (fun k=>by omega) (fun k=>Bool.noConfusion k.1))])
  refine ao aa (A) (bM aa ?_)
  refine ao aa (A) (jv aa ?_)
  refine ao aa (z) (cS aa (A) aa ?_)
  refine al (cI aa (z) aa ?_)
  refine af (e7 aa aa (ai (ae 4 aa ?_)))
  refine al (gi (a:=((q.aI+1:Nat):Int)) rfl rfl (by simp only[aZ];omega) (by simp only[aZ];omega) ?_)
  rw[mU]
  refine ae 3 aa (af ?_)
  refine ai ?_
  refine ew (PS.bq a q++[(2,.one 73 32 [d0,d0,dS []])]) (cG (by rw[rF U];rfl) ⟨rfl,trivial⟩) ?_
  refine ae 1 aa ?_
  refine bH (lV F K.ok (by decide)) rfl rfl rfl rfl ?_
  refine af (ak 3 aa (ax ?_))
  exact⟨_,PS.bq a (q.fail 10),rfl,⟨rfl,trivial⟩,pw (v:=cj) rfl rfl I.symm (fun k=>absurd k (by rw[vA U];decide))⟩
 have lk:¬((dV q.tok.text:Nat):Int)=9223372036854775808:=by simpa using A
 have I:p.literal D=(⟨1,((dV q.tok.text:Nat):Int),[]⟩,q.step):=by rw[G];exact Fv hc (by rw[hi,aq (Or.inl (by omega))];rfl)
 refine aO aa (A) (aO aa (A) (ao aa (z) (cI aa (A) aa ?_)))
 refine al (cI aa (z) aa ?_)
 refine af (eI aa aa (aT (aM (ak 1 aa (eI aa aa (aT (ai (ae 2 aa ?_))))))))
 rw[wrap_i64 (by omega) (by omega)]
 refine ae 3 aa (af ?_)
 refine ax ?_
 exact⟨_,PS.bq a q.step,rfl,⟨rfl,trivial⟩,pw rfl rfl (by rw[I]) (fun _=>by rw[I])⟩
open Go
variable{p q:PS}{a:Bool}{D:Rd}{e:List aL}{N M n:Nat}
structure EG(q:PS)(e:List aL)(N:Nat):Prop where
 eq:q.err=0→e=q.ex
 len:e.length≤q.aI+N
theorem EG.dz(h:EG q e N)(hk:N≤M):EG q e M:=⟨h.eq,by have:=h.len;omega⟩
theorem EG.zero(z:q.ok)(h:EG q e N)(h0:q.err=0):EG q e 0:=⟨h.eq,by rw[h.eq h0];have:=z.u9;rw[aq h0] at this;exact this⟩
theorem EG.small(h:EG q e N)(z:q.ok)(hN:N≤200000):e.length≤300000:=by have:=h.len;have:=z.lt;have:=z.dY;omega
theorem EG.join{i:Int}(h:EG q e N)(z:q.err=0→i+1=(q.ex.length:Nat))(kind x:Int):EG (q.push ⟨kind,x,i,[],[],cj⟩).2 (e++[⟨kind,x,((e.map aL.enc).length:Nat) -Int.ofNat 1,[],[],cj⟩]) (N+1):=by
 refine⟨fun h0=>?_,by have:=h.len;rw[bJ];show e.length+1≤q.aI+(N+1);omega⟩
 have A:e=q.ex:=h.eq h0
 have h2:=z h0
 subst A
 show q.ex++_=q.ex++_
 rw[cF,show((q.ex.length:Nat):Int) -Int.ofNat 1=i by simp only[aZ];omega]
theorem EG.un{x i:Int}(h:EG q e N)(z:q.err=0→x=i)(kind:Int):EG (un q kind i).2 (e++[⟨kind,x,0,[],[],cj⟩]) (N+1):=by
 refine⟨fun h0=>?_,by have:=h.len;rw[bJ];show e.length+1≤q.aI+(N+1);omega⟩
 have A:e=q.ex:=h.eq h0
 rw[z h0,A];rfl
theorem EG.push{x y:aL}(h:EG q e N)(z:q.err=0→x=y):EG (q.push y).2 (e++[x]) (N+1):=by
 refine⟨fun h0=>?_,by have:=h.len;rw[bJ];show e.length+1≤q.aI+(N+1);omega⟩
 have A:e=q.ex:=h.eq h0
 rw[z h0,A];rfl
theorem EG.up(h:EG q e N):EG q.up e N:=⟨h.eq,h.len⟩
theorem EG.step(h:EG q e N):EG q.step e N:=⟨h.eq,by have:=h.len;show e.length≤q.aI+1+N;omega⟩
theorem EG.go(h:EG p e N)(z:q.err=0→p.err=0∧q.ex=p.ex)(h2:p.aI≤q.aI):EG q e N:=⟨fun h0=>by rw[(z h0).2];exact h.eq (z h0).1,by have:=h.len;omega⟩
theorem vE(p:PS)(e:Int):(p.fail e).ex=p.ex:=by unfold PS.fail;split<;>rfl
theorem Kv(p:PS)(k:Int)(s:List UInt8):(p.accept k s).2.ex=p.ex:=by unfold PS.accept;split<;>rfl
theorem ow(p:PS)(s:List UInt8):(p.sign s).2.ex=p.ex:=Kv ..
theorem mb(p:PS)(s:List UInt8):(p.keyword s).2.ex=p.ex:=Kv ..
theorem S3(p:PS)(s:List UInt8):(p.fM s).ex=p.ex:=by unfold PS.fM;split<;>simp only[vE,mb]
theorem rG(p:PS)(s:List UInt8):(p.bw s).ex=p.ex:=by unfold PS.bw;split<;>simp only[vE,ow]
theorem pg{l:List (List UInt8)}:∀{p:PS},(p.aU l).ex=p.ex:=by
 induction l with
 |nil=>intro p;rfl
 |cons s r z=>intro p;exact(z (p:=p.fM s)).trans (S3 p s)
theorem qg(p:PS)(k e:Int):(p.take k e).2.ex=p.ex:=by
 unfold PS.take
 split
 ·split
  ·split
   ·rfl
   exact vE ..
  exact vE ..
 rfl
theorem Rk(p:PS)(D:Rd):(p.literal D).2.ex=p.ex:=by
 unfold PS.literal
 repeat' split
 all_goals first|rfl|simp only[vE,ow,mb,PS.integer,qg]
theorem EG.kn{k:Nat}(h:EG p e N)(g:bC k p q)(z:q.ex=p.ex):EG q e N:=h.go (fun h0=>⟨g.er h0,z⟩) g.aI
def LI(n:Nat)(m:PS→Int×PS):Prop:=∀p,St p→p.depth+n=61→(m p).2.err=0→(m p).1+1=((m p).2.ex.length:Nat)
theorem y9(p:PS)(e:aL):(p.push e).1+1=((p.push e).2.ex.length:Nat):=by
 show((p.ex.length:Nat):Int)+1=((p.ex++[e]).length:Nat)
 rw[bJ];rfl
theorem I4(p:PS):p.fU.1+1=(p.fU.2.ex.length:Nat):=by
 unfold PS.fU
 split<;>exact y9 ..
theorem LX{sub:PS→Int×PS}{test:PS→Option (Int×PS)}:∀(k:Nat)(x:Int)(p:PS),(p.err=0→x+1=(p.ex.length:Nat))→(j8 sub test k x p).2.err=0→(j8 sub test k x p).1+1=((j8 sub test k x p).2.ex.length:Nat)
 |0,x,p,h,h0=>h h0
 |k+1,x,p,h,h0=>by
  cases z:test p with
  |none=>rw[rH z] at h0⊢;exact h h0
  |some w=>
   obtain⟨kind,q⟩:=w
   rw[qa z] at h0⊢
   exact LX k _ _ (fun _=>y9 ..) h0
theorem vB{sub:PS→Int×PS}{test:PS→Option (Int×PS)}(h:LI n sub):LI n (chain sub test):=fun p hp z h0=>LX _ _ _ (h p hp z) h0
theorem Vb{sub:PS→Int×PS}(h:LI n sub):LI n (iC sub):=fun p hp z h0=>by
 revert h0
 unfold iC
 repeat' split
 all_goals first|exact fun _=>y9 ..|exact h p hp z
theorem Vc{sub inner:PS→Int×PS}(h:LI (n+1) sub):LI (n+1) (nj sub inner):=fun p hp z h0=>by
 revert h0
 unfold nj
 split
 ·exact h p hp z
 rename_i A
 split
 ·rename_i he
  intro h0
  rw[PS.w9 he] at h0
  have G:p.err=0:=PS.wY (by simpa using A)
  rw[show(p.fail 19).err=19 by unfold PS.fail;rw[aq G]] at h0
  cases h0
 exact fun _=>y9 ..
theorem LY{inner:PS→Int×PS}(h:LI n inner):LI (n+1) (k9 D inner):=fun p hp U h0=>by
 revert h0
 unfold k9
 split
 ·rename_i z;exact fun h0=>absurd h0 z
 rename_i z
 have z:p.err=0:=by simpa using z
 split
 ·rename_i G
  split
  ·rename_i he
   intro h0
   rw[PS.w9 he] at h0
   rw[show(p.fail 19).err=19 by unfold PS.fail;rw[aq z]] at h0
   cases h0
  rename_i he
  intro h0
  obtain⟨I,J⟩:=hp.qV (by simpa using he) (PS.kR hp.ok (kind:=5) (by decide) G)
  have h2:((inner p.enter.2.step).2.bw dG).err=0:=h0
  have K:(inner p.enter.2.step).2.err=0:=by
   by_cases A:(inner p.enter.2.step).2.err=0
   ·exact A
   rw[Jg A] at h2;exact h2
  have O:=h _ I (by rw[J];omega) K
  show(inner p.enter.2.step).1+1=(((inner p.enter.2.step).2.bw dG).ex.length:Nat)
  rw[rG];exact O
 split
 ·exact fun _=>I4 p
 exact fun _=>y9 ..
theorem vL(D:Rd):∀n,LI n (lB D n)∧LI n (eB D n)
 |0=>⟨fun p h A=>absurd h.ok.kD (by omega),fun p h A=>absurd h.ok.kD (by omega)⟩
 |n+1=>by
  obtain⟨G,_⟩:=vL D n
  have I:LI (n+1) (cmpL D n):=Vb (vB (vB (LY G)))
  have z:LI (n+1) (eB D (n+1)):=Vc I
  exact⟨vB (vB z),z⟩
theorem Gf(D:Rd)(n:Nat):LI (n+1) (eT D n):=LY (vL D n).1
theorem B6(D:Rd)(n:Nat):LI (n+1) (eX D n):=vB (Gf D n)
theorem vF(D:Rd)(n:Nat):LI (n+1) (eh D n):=vB (B6 D n)
theorem LZ(D:Rd)(n:Nat):LI (n+1) (ja D n):=vB (vL D (n+1)).2
def RT(T:bf)(f:Nat)(m:PS→Int×PS)(n c:Nat):Prop:=∀(a:Bool)(p:PS)(e:List aL)(N:Nat),St p→p.depth+n=61→EG p e N→N≤100000→
 bV T f [.vp 1000 0,.ac 1050 (e.map aL.enc).length 8] (p.be a e) fun r Bn=>∃z,r= .ac 1050 (z.map aL.enc).length 8∧Bn=(m p).2.be a z∧EG (m p).2 z (N+c)
theorem RT.dz{T:bf}{f:Nat}{m:PS→Int×PS}{n c d:Nat}(h:RT T f m n c)(J:c≤d):RT T f m n d:=fun a p e N hp z he hN=>(h a p e N hp z he hN).mono fun _ _⟨A,G,h2,I⟩=>⟨A,G,h2,I.dz (by omega)⟩
def kL(k:Nat)(V:b0):b0→b0
 |[]=>[]
 |(s,v)::r=>bif(match aY V s with|some w=>w.no k|none=>false) then(s,v)::kL k V r else kL k V r
theorem FK{k:Nat}{V:b0}{s:Nat}{v:VV}:∀{VE:b0},aY (kL k V VE) s=some v→aY VE s=some v
 |[],h=>by cases h
 |(c,w)::r,h=>by
  unfold kL at h
  rw[ef]
  by_cases z:c=s
  ·subst z
   rw[aq rfl]
   cases hk:(match aY V c with|some w=>w.no k|none=>false)
   ·rw[hk] at h
    rw[cond_false,show aY (kL k V r) c=none from gone hk r] at h;cases h
   rw[hk] at h
   simpa[ef] using h
  rw[aj z]
  cases hk:(match aY V c with|some w=>w.no k|none=>false)
  ·rw[hk] at h;exact FK h
  rw[hk] at h
  rw[cond_true,ef,aj z] at h
  exact FK h
where gone {c:Nat} (hk:(match aY V c with|some w=>w.no k|none=>false)=false):∀r,aY (kL k V r) c=none
 |[]=>rfl
 |(d,w)::r=>by
  unfold kL
  by_cases hd:d=c
  ·subst hd;rw[hk];exact gone hk r
  cases (match aY V d with|some w=>w.no k|none=>false)
  ·exact gone hk r
  rw[cond_true,ef,aj hd];exact gone hk r
section
variable{T:bf}{VE:b0}{B:br}
def Bp:List (Nat×Nat):=[(1050,1050)]
theorem rO{f:Nat}{d:Key}{Z:Option (List Nat)}{z:List bo}{l:List aF}{bZ:List VV}{Bi:br}{P:VV→br→Prop}{Q:b0→br→Prop}(k:Nat)(σ:List (Nat×Nat))(N:Nat)(hN:Nat.ble 1050 N=true)(A:n7 N σ=true)(hE:kA N (kL k VE VE)=true)(hB:kB N B=true)(G:xV σ Bi=true)
  (I:clean (kL k VE VE) (eE σ B) σ=true) (hl:iW VE l=some (iI σ N bZ)) (J:qy σ N Bi B) (h:bV T f bZ Bi P) (K:∀r Bn,P r Bn→VO T z ((d.n,r.cu σ N)::kL k VE VE) (mQ σ N Bn++eE σ B) Q):VO T (⟨some d,none,Z,.call f l⟩::z) VE B Q:=by
 intro H0 X0 E H β O
 obtain⟨vs,a1,a2⟩:=vg O hl
 have U:=O.less fun s v(hk:aY (kL k VE VE) s=some v)=>FK hk
 refine KT ((F9 a1 (FY σ N hN A hE hB G I J h (Q:=fun v B'=>VO T z ((d.n,v)::kL k VE VE) B' Q) K U a2)).mono fun a H' hp=>?_)
 obtain⟨v,B',β',hw,Y,hv,K⟩:=hp
 exact(K H0 X0 _ H' β' (Y.set hv)).mono fun _ _ hp=>hp.of hw O.bc
theorem jn{f:Nat}{d:Key}{K:Option (List Nat)}{I:List bo}{l:List aF}{bZ:List VV}{p J:PS}{e:List aL}{G:List aL→Prop}{Q:b0→br→Prop}(h:bV T f bZ (p.be a e) fun r Bn=>∃z,r= .ac 1050 (z.map aL.enc).length 8∧Bn=J.be a z∧G z)(O:aY B 1000=some (.one 141 64 (p.lI a)))(h2:aY B 1050=some (.acc 116 88 8 (e.map aL.enc)))
  (U:iW VE l=some (iI jl 2000 bZ)) (Y:(kA 2000 (kL 1050 VE VE)&&(kB 2000 B&&clean (kL 1050 VE VE) (eE jl B) jl))=true) (Z:∀z,G z→VO T I ((d.n,.ac 1050 (z.map aL.enc).length 8)::kL 1050 VE VE) (J.be a z++eE jl B) Q):VO T (⟨some d,none,K,.call f l⟩::I) VE B Q:=by
 obtain⟨a1,A⟩:=iw Y
 obtain⟨A,a3⟩:=iw A
 exact rO (Bi:=p.be a e) 1050 jl 2000 rfl rfl a1 A rfl a3 U ⟨rfl,O,rfl,h2,trivial⟩ h fun r Bn hp=>by
  obtain⟨z,rfl,rfl,h5⟩:=hp
  exact Z z h5
theorem uD{f:Nat}{d:Key}{I:Option (List Nat)}{G:List bo}{l:List aF}{bZ:List VV}{e z:List aL}{Q:b0→br→Prop}(h:bV T f bZ [(1050,.acc 116 88 8 (e.map aL.enc))] fun r Bn=>r= .ac 1050 (z.map aL.enc).length 8∧Bn=[(1050,.acc 116 88 8 (z.map aL.enc))])(J:aY B 1050=some (.acc 116 88 8 (e.map aL.enc)))
  (K:iW VE l=some (iI Bp 2000 bZ)) (O:(kA 2000 (kL 1050 VE VE)&&(kB 2000 B&&clean (kL 1050 VE VE) (eE Bp B) Bp))=true) (U:VO T G ((d.n,.ac 1050 (z.map aL.enc).length 8)::kL 1050 VE VE) ([(1050,.acc 116 88 8 (z.map aL.enc))]++eE Bp B) Q):VO T (⟨some d,none,I,.call f l⟩::G) VE B Q:=by
 obtain⟨Y,A⟩:=iw O
 obtain⟨A,Z⟩:=iw A
 exact rO (Bi:=[(1050,.acc 116 88 8 (e.map aL.enc))]) 1050 Bp 2000 rfl rfl Y A rfl Z K ⟨rfl,J,trivial⟩ h fun r Bn hp=>by
  obtain⟨rfl,rfl⟩:=hp
  exact U
theorem N0{f:Nat}{l:List aF}{bZ:List VV}{Q:VV→br→Prop}(h:bV T f bZ (p.bq a) (EK D a p))(A:aY B 1000=some (.one 141 64 (p.lI a)))
  (G:(kA 2000 VE&&(kB 2000 B&&clean VE (eE fT B) fT))=true) (I:iW VE l=some (iI fT 2000 bZ)) (J:∀v b q,(b=true→q=(p.literal D).2∧(q.err=0→v=(p.literal D).1))→(b=false→q=p∧(p.literal D).2=p.fail 5)→Q (.tuple [ep (gX.enc v),dB b]) (q.bq a++eE fT B)):VI T (.call f l) VE B [1000] Q:=by
 obtain⟨K,z⟩:=iw G
 obtain⟨z,O⟩:=iw z
 exact jI (Bi:=p.bq a) fT 2000 rfl rfl K z rfl O I ⟨rfl,A,trivial⟩ h fun r Bn hp=>by
  obtain⟨v,b,q,rfl,rfl,U,Y⟩:=hp
  exact J v b q U Y
end
open Go
set_option maxRecDepth 10000
theorem kM{T:bf}(F:FT T){a:Bool}{p:PS}(hp:p.ok):bV T 124 [.vp 1000 0,dI 2] (PS.bq a p) fun r Bn=>r=dS p.name.1∧Bn=PS.bq a p.name.2:=vK F hp (k:=2) (by decide)
theorem Ar{a:Bool}{q:PS}{e:List aL}{x:aL}{B:br}(z:aY B 1000=some (.one 141 64 (q.lI a)))(h2:aY B 1050=some (.acc 116 88 8 (e.map aL.enc++[x.enc]))):bu (q.be a (e++[x])) B:=⟨z,by rw[h2,dX];rfl,trivial⟩
theorem R6{p:PS}(h:(p.sign nJ).1=true):km p=some (3,(p.sign nJ).2):=by
 unfold km;rw[aj (by rw[xw (.inr (by rw[(qp h).2.2];decide))];decide),aq h]
theorem Rl{p:PS}(h:(p.sign gM).1=true):km p=some (4,(p.sign gM).2):=by unfold km;rw[aq h]
theorem T'{p:PS}(z:(p.sign nJ).1=false)(h2:(p.sign gM).1=false):km p=none:=by
 unfold km;rw[aj (by rw[h2];decide),aj (by rw[z];decide)]
theorem Gy{p:PS}{s:List UInt8}(h:(p.sign s).1=true):p.aI+1≤(p.sign s).2.aI:=by rw[show(p.sign s).2=p.step from(PS.pr h).1];exact bY _
theorem y5{p:PS}{s:List UInt8}(h:(p.keyword s).1=true):p.aI+1≤(p.keyword s).2.aI:=by rw[show(p.keyword s).2=p.step from(PS.pr h).1];exact bY _
theorem EG.deep{p:PS}{e:List aL}{N:Nat}(h:EG p e N)(he:p.enter.1=true):EG p.enter.2.step e N:=by
 obtain⟨z,_⟩:=PS.Gv he
 rw[z];exact⟨h.eq,by have:=h.len;show e.length≤p.aI+1+N;omega⟩
theorem pz{e:List aL}{x:Int}(h:x+1=(e.length:Nat)):(((e.map aL.enc).length:Nat):Int) -Int.ofNat 1=x:=by rw[cF];simp only[aZ];omega
theorem qR{m:Int×PS}{e:List aL}{N:Nat}(h:EG m.2 e N)(z:m.2.err=0→m.1+1=(m.2.ex.length:Nat))(h0:m.2.err=0):m.1+1=(e.length:Nat):=by rw[h.eq h0];exact z h0
theorem za{q:PS}{e:List aL}{N:Nat}{x y:aL}(h:EG q e N):(q.push y).2.err=0→(q.push y).1+1=((e++[x]).length:Nat):=fun h0=>by
 have z:e=q.ex:=h.eq h0
 rw[bJ,z];rfl
set_option maxHeartbeats 1000000 in
theorem uE{T:bf}(F:FT T){e:List aL}(z:e.length≤300000)(kind x:Int):bV T 207 [.ac 1050 (e.map aL.enc).length 8,dI kind,dI x] [(1050,.acc 116 88 8 (e.map aL.enc))] fun r Bn=>r= .ac 1050 ((e++[(⟨kind,x,((e.map aL.enc).length:Nat) -Int.ofNat 1,[],[],cj⟩:aL)]).map aL.enc).length 8∧Bn=[(1050,.acc 116 88 8 ((e++[(⟨kind,x,((e.map aL.enc).length:Nat) -Int.ofNat 1,[],[],cj⟩:aL)]).map aL.enc))]:=by
 refine cl F.Zz aa (ak 1 aa (ai (ae 5 aa ?_)))
 refine al (gi rfl rfl (by simp only[cF,aZ];omega) (by simp only[cF,aZ];omega) ?_)
 refine ae 2 aa ?_
 refine al (eu (rows:=e.map aL.enc) (ys:=[(⟨kind,x,((e.map aL.enc).length:Nat) -Int.ofNat 1,[],[],cj⟩:aL).enc]) rfl rfl rfl (.bs (rows:=[(⟨kind,x,((e.map aL.enc).length:Nat) -Int.ofNat 1,[],[],cj⟩:aL).enc]) rfl) (bS rfl) (by rw[bJ,cF];simp only[dj,dJ];omega) (fun h=>by rw[h];rfl) (fun h=>by rw[h];rfl) ?_)
 refine ae 1 aa (af ?_)
 refine ax ?_
 rw[dX]
 exact⟨_,[(1050,.acc 116 88 8 (e.map aL.enc++[(⟨kind,x,((e.map aL.enc).length:Nat) -Int.ofNat 1,[],[],cj⟩:aL).enc]))],aa,⟨aa,trivial⟩,aa,aa⟩
set_option maxHeartbeats 2000000 in
theorem L0{T:bf}(F:FT T):∀(a:Bool)(p:PS)(e:List aL)(N:Nat),St p→True→EG p e N→N≤100000→bV T 177 [.vp 1000 0,.ac 1050 (e.map aL.enc).length 8] (p.be a e) fun r Bn=>∃A,r= .ac 1050 (A.map aL.enc).length 8∧Bn=p.fU.2.be a A∧EG p.fU.2 A (N+1):=by
 intro a p e N hp O he hN
 have K:=he.small hp.ok (by omega)
 have G:St p.name.2:=hp.name
 refine cl F.Zi aa (ak 1 aa (ai (ae 1 aa (bH (kM F hp.ok) aa aa aa aa (ae 3 aa (af ?_))))))
 refine aM (ai (ae 1 aa (bH (mj F G.ok jh) aa aa aa aa (af (aJ aa (fun z=>?_) (fun z=>?_))))))
 ·have I:p.fU=((p.name.2.sign jh).2.name.2).push ⟨2,0,0,p.name.1,(p.name.2.sign jh).2.name.1,cj⟩:=by unfold PS.fU;rw[aq z]
  have h2:=(G.sign jh)
  have J:EG ((p.name.2.sign jh).2.name.2) e N:=((he.kn (bC.take hp (k:=2) (e:=0) (by decide)) (qg ..)).kn (bC.xW G jh) (ow ..)).kn (bC.take h2 (k:=2) (e:=0) (by decide)) (qg ..)
  refine ak 4 aa (bG (ae 1 aa (bH (kM F h2.ok) aa aa aa aa (ae 2 aa (af ?_)))))
  refine ai (ae 3 aa ?_)
  refine al (eu (rows:=e.map aL.enc) (ys:=[(⟨2,0,0,p.name.1,(p.name.2.sign jh).2.name.1,cj⟩:aL).enc]) rfl rfl rfl (.bs (rows:=[(⟨2,0,0,p.name.1,(p.name.2.sign jh).2.name.1,cj⟩:aL).enc]) rfl) (bS rfl) (by rw[bJ,cF];simp only[dj,dJ];omega) (fun h=>by rw[h];rfl) (fun h=>by rw[h];rfl) ?_)
  refine ae 1 aa (af ?_)
  refine ax ?_
  rw[I]
  exact⟨_,PS.be a (PS.push _ ⟨2,0,0,p.name.1,(p.name.2.sign jh).2.name.1,cj⟩).2 (e++[⟨2,0,0,p.name.1,(p.name.2.sign jh).2.name.1,cj⟩]),rfl,Ar rfl rfl,⟨e++[⟨2,0,0,p.name.1,(p.name.2.sign jh).2.name.1,cj⟩],by rw[dX];rfl,rfl,J.push (fun _=>rfl)⟩⟩
 have I:p.fU=p.name.2.push ⟨2,0,0,[],p.name.1,cj⟩:=by unfold PS.fU;rw[aj (by rw[z];decide)]
 have J:EG p.name.2 e N:=he.kn (bC.take hp (k:=2) (e:=0) (by decide)) (qg ..)
 rw[PS.ic z]
 refine aT (ai (ae 3 aa ?_))
 refine al (eu (rows:=e.map aL.enc) (ys:=[(⟨2,0,0,[],p.name.1,cj⟩:aL).enc]) rfl rfl rfl (.bs (rows:=[(⟨2,0,0,[],p.name.1,cj⟩:aL).enc]) rfl) (bS rfl) (by rw[bJ,cF];simp only[dj,dJ];omega) (fun h=>by rw[h];rfl) (fun h=>by rw[h];rfl) ?_)
 refine ae 1 aa (af ?_)
 refine ax ?_
 rw[I]
 exact⟨_,PS.be a (PS.push _ ⟨2,0,0,[],p.name.1,cj⟩).2 (e++[⟨2,0,0,[],p.name.1,cj⟩]),rfl,Ar rfl rfl,⟨e++[⟨2,0,0,[],p.name.1,cj⟩],by rw[dX];rfl,rfl,J.push (fun _=>rfl)⟩⟩
end Go.Ev.Pp
