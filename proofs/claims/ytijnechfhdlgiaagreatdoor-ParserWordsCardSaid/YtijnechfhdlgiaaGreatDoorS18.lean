/- Part 18 of rules for walks through the code of a program, and of such walks; what each part proves is said by its theorems. -/
import Derived.Test.YtijnechfhdlgiaaGreatDoorS17
set_option linter.unusedVariables false
set_option linter.unusedSimpArgs false
namespace Go.Ev.Pp
open Go
set_option maxRecDepth 10000
theorem lX{T:bf}(F:FT T){a:Bool}{p:PS}(hp:p.ok){e:Int}(he:e≠0):bX T 158 [.vp 1000 0,dI e] (PS.bq a p) fun r Bn=>r= .tuple []∧Bn=PS.bq a (p.fail e):=by
 refine cr F.ZE aa (ak 5 aa (aK aa (fun z=>?_) (fun z=>?_)))
 ·have h0:p.err=0:=by simpa using z
  refine ak 5 aa (bG (ae 8 aa (af ?_)))
  exact⟨_,PS.bq a (p.fail e),rfl,⟨by rw[Se h0 he];rfl,trivial⟩,rfl,rfl⟩
 have h0:¬p.err=0:=by simpa using z
 have A:p.fail e=p:=aj h0
 refine aU ?_
 rw[A];exact⟨_,PS.bq a p,rfl,⟨rfl,trivial⟩,rfl,rfl⟩
theorem yS{T:bf}(F:FT T){a:Bool}{p:PS}(hp:p.ok)(k:Int)(s:List UInt8):bX T 196 [.vp 1000 0,dI k,dS s] (PS.bq a p) fun r Bn=>r=dB (p.next k s)∧Bn=PS.bq a p:=by
 refine cr F.ZY aa ?_
 have A:(p.aA.map cM.enc)[p.aJ]?=some p.tok.enc:=by rw[iw,hp.get];rfl
 refine ak 1 aa (eX (bo 6 aa (vz (g:=aP) aa (fun z=>?_) (fun z=>?_))))
 ·refine eb aa (z) (bM aa ?_)
  refine eb aa (z) (pr aa ?_)
  refine eb aa (z) (du aa ?_)
  refine kp aa (z) aa (c8 aa aa aa ?_)
  refine eb aa (z) (bM aa ?_)
  refine eb aa (z) (pr aa ?_)
  refine eb aa (z) (du aa ?_)
  refine kp aa (z) aa (c8 aa aa aa ?_)
  refine eb aa (z) (kZ (row:=p.tok.enc) aa aa A aa ?_)
  refine eb aa (z) (tD aa ?_)
  refine kp aa (z) aa (lT aa aa ?_)
  refine eb aa (z) (bM aa ?_)
  refine eb aa (z) (gZ aa aa ?_)
  refine dG (cU aa (z) aa ?_)
  refine bo 1 aa (vz (g:=bV) aa (fun dq=>?_) (fun dq=>?_))
  ·refine eb aa (dq) (bM aa ?_)
   refine eb aa (dq) (pr aa ?_)
   refine eb aa (dq) (du aa ?_)
   refine kp aa (dq) aa (c8 aa aa aa ?_)
   refine eb aa (dq) (bM aa ?_)
   refine eb aa (dq) (pr aa ?_)
   refine eb aa (dq) (du aa ?_)
   refine kp aa (dq) aa (c8 aa aa aa ?_)
   refine eb aa (dq) (kZ (row:=p.tok.enc) aa aa A aa ?_)
   refine eb aa (dq) (tD aa ?_)
   refine kp aa (dq) aa (lT aa aa ?_)
   refine eb aa (dq) (bM aa ?_)
   refine eb aa (dq) (oo aa aa ?_)
   refine dG (cU aa (dq) aa ?_)
   refine bo 1 aa (dc ?_)
   refine ax (⟨_,PS.bq a p,aa,⟨aa,trivial⟩,?_,aa⟩)
   clear F hp A
   simp_all [gr,PS.next]
  refine cP aa (dq) (cP aa (dq) (cP aa (dq) (iJ aa (dq) (cP aa (dq) (cP aa (dq) (cP aa (dq) (iJ aa (dq) (cP aa (dq) (cP aa (dq) ?_)))))))))
  refine iJ aa (dq) (cP aa (dq) (cP aa (dq) (dG (cK aa (dq) aa ?_))))
  refine bo 1 aa (dc ?_)
  refine ax (⟨_,PS.bq a p,aa,⟨aa,trivial⟩,?_,aa⟩)
  clear F hp A
  simp_all [gr,PS.next]
 refine cP aa (z) (cP aa (z) (cP aa (z) (iJ aa (z) (cP aa (z) (cP aa (z) (cP aa (z) (iJ aa (z) (cP aa (z) (cP aa (z) ?_)))))))))
 refine iJ aa (z) (cP aa (z) (cP aa (z) (dG (cK aa (z) aa ?_))))
 refine bo 1 aa (cP aa aa (cP aa aa (cP aa aa (iJ aa aa (cP aa aa (cP aa aa (cP aa aa (iJ aa aa (cP aa aa ?_)))))))))
 refine cP aa aa (iJ aa aa (cP aa aa (cP aa aa (bo 2 aa (dc ?_)))))
 refine ax (⟨_,PS.bq a p,aa,⟨aa,trivial⟩,?_,aa⟩)
 clear F hp A
 simp_all [gr,PS.next]
theorem fD{T:bf}(F:FT T){a:Bool}{p:PS}(hp:p.ok)(s:List UInt8):bX T 146 [.vp 1000 0,dS s] (PS.bq a p) fun r Bn=>r=dB (p.keyword s).1∧Bn=PS.bq a (p.keyword s).2:=by
 refine cr F.Zt aa (ak 1 aa (ai (ae 2 aa (bI (yS F hp 1 s) aa aa aa aa (ae 1 aa (af ?_))))))
 refine aM (ak 1 aa (aK aa (fun z=>?_) (fun z=>?_)))
 ·have h0:=PS.w4 z
  have dR:=PS.kV hp (by decide) z
  have fu:=hp.dY
  have A:p.keyword s=(true,p.step):=aw z
  refine bG (ae 4 aa ?_)
  refine al (cX rfl rfl (by omega) ?_)
  refine ae 3 aa (af ?_)
  refine ak 2 aa (ax ?_)
  exact⟨_,PS.bq a (p.keyword s).2,rfl,⟨by rw[A,tv h0];rfl,trivial⟩,by simp[gr,A,z],rfl⟩
 have A:p.keyword s=(false,p):=aj (by rw[z];decide)
 refine aU (ak 2 aa (ax ?_))
 exact⟨_,PS.bq a (p.keyword s).2,rfl,⟨by rw[A];rfl,trivial⟩,by simp[gr,A,z],rfl⟩
theorem mr{T:bf}(F:FT T){a:Bool}{p:PS}(hp:p.ok)(s:List UInt8):bX T 151 [.vp 1000 0,dS s] (PS.bq a p) fun r Bn=>r=dB (p.sign s).1∧Bn=PS.bq a (p.sign s).2:=by
 refine cr F.Zy aa (ak 1 aa (ai (ae 2 aa (bI (yS F hp 5 s) aa aa aa aa (ae 1 aa (af ?_))))))
 refine aM (ak 1 aa (aK aa (fun z=>?_) (fun z=>?_)))
 ·have h0:=PS.w4 z
  have dR:=PS.kV hp (by decide) z
  have fu:=hp.dY
  have A:p.sign s=(true,p.step):=aw z
  refine bG (ae 4 aa ?_)
  refine al (cX rfl rfl (by omega) ?_)
  refine ae 3 aa (af ?_)
  refine ak 2 aa (ax ?_)
  exact⟨_,PS.bq a (p.sign s).2,rfl,⟨by rw[A,tv h0];rfl,trivial⟩,by simp[gr,A,z],rfl⟩
 have A:p.sign s=(false,p):=aj (by rw[z];decide)
 refine aU (ak 2 aa (ax ?_))
 exact⟨_,PS.bq a (p.sign s).2,rfl,⟨by rw[A];rfl,trivial⟩,by simp[gr,A,z],rfl⟩
theorem iW{T:bf}(F:FT T){a:Bool}{p:PS}(hp:p.ok)(s:List UInt8):bX T 147 [.vp 1000 0,dS s] (PS.bq a p) fun r Bn=>r= .tuple []∧Bn=PS.bq a (p.aW [s]):=by
 refine cr F.Zu aa (ai (ae 6 aa (da (g:=aI) aa (fun z=>?_) (fun z=>?_))))
 ·refine au aa (z) (bM aa ?_)
  refine au aa (z) (bM aa ?_)
  refine au aa (z) (vZ (fD F hp s) aa aa aa aa ?_)
  refine au aa (z) (ju aa ?_)
  refine al (cU aa (z) aa ?_)
  refine af (aK aa (fun A=>?_) (fun A=>?_))
  ·have hk:(p.keyword s).1=false:=by simpa using A
   have G:p.aW [s]=(p.keyword s).2.fail 5:=PS.zz hk
   refine bG (ae 1 aa ?_)
   refine bI (lX F (PS.wJ hp s) (by decide)) rfl rfl rfl rfl ?_
   refine af ?_
   rw[G]
   exact⟨_,PS.bq a _,aa,⟨aa,trivial⟩,aa,aa⟩
  have hk:(p.keyword s).1=true:=by simpa using A
  have G:p.aW [s]=(p.keyword s).2:=PS.Co hk
  refine aU ?_
  rw[G]
  exact⟨_,PS.bq a _,aa,⟨aa,trivial⟩,aa,aa⟩
 have h0:¬p.err=0:=by simpa using z
 have G:p.aW [s]=p:=Sf h0 s
 refine aS aa (z) (aS aa (z) (aS aa (z) (aS aa (z) (al (cK aa (z) aa ?_)))))
 refine af (eJ aa aa (aU ?_))
 rw[G]
 exact⟨_,PS.bq a _,aa,⟨aa,trivial⟩,aa,aa⟩
theorem oj{T:bf}(F:FT T){a:Bool}{p:PS}(hp:p.ok)(s:List UInt8):bX T 149 [.vp 1000 0,dS s] (PS.bq a p) fun r Bn=>r= .tuple []∧Bn=PS.bq a (p.bx s):=by
 refine cr F.Zw aa (ai (ae 6 aa (da (g:=aI) aa (fun z=>?_) (fun z=>?_))))
 ·refine au aa (z) (bM aa ?_)
  refine au aa (z) (bM aa ?_)
  refine au aa (z) (vZ (mr F hp s) aa aa aa aa ?_)
  refine au aa (z) (ju aa ?_)
  refine al (cU aa (z) aa ?_)
  refine af (aK aa (fun A=>?_) (fun A=>?_))
  ·have hk:(p.sign s).1=false:=by simpa using A
   have G:p.bx s=(p.sign s).2.fail 5:=aj (by rw[hk];decide)
   refine bG (ae 1 aa ?_)
   refine bI (lX F (PS.zA hp s) (by decide)) rfl rfl rfl rfl ?_
   refine af ?_
   rw[G]
   exact⟨_,PS.bq a _,aa,⟨aa,trivial⟩,aa,aa⟩
  have hk:(p.sign s).1=true:=by simpa using A
  have G:p.bx s=(p.sign s).2:=aw hk
  refine aU ?_
  rw[G]
  exact⟨_,PS.bq a _,aa,⟨aa,trivial⟩,aa,aa⟩
 have h0:¬p.err=0:=by simpa using z
 have G:p.bx s=p:=Jq h0 s
 refine aS aa (z) (aS aa (z) (aS aa (z) (aS aa (z) (al (cK aa (z) aa ?_)))))
 refine af (eJ aa aa (aU ?_))
 rw[G]
 exact⟨_,PS.bq a _,aa,⟨aa,trivial⟩,aa,aa⟩
theorem vK{T:bf}(F:FT T){a:Bool}{p:PS}(hp:p.ok){k:Int}(mD:k≠6):bX T 148 [.vp 1000 0,dI k] (PS.bq a p) fun r Bn=>r=dS (p.take k 0).1∧Bn=PS.bq a (p.take k 0).2:=by
 refine cr F.Zv aa ?_
 have z:(p.aA.map cM.enc)[p.aJ]?=some p.tok.enc:=by rw[iw,hp.get];rfl
 refine ak 1 aa (aM (ak 5 aa (aK aa (fun I=>?_) (fun I=>?_))))
 ·have h0:¬p.err=0:=by simpa using I
  have G:p.take k 0=([],p):=by unfold PS.take;rw[aj h0]
  refine ak 1 aa (ax ?_)
  rw[G]
  exact⟨_,PS.bq a _,aa,⟨aa,trivial⟩,aa,aa⟩
 have h0:p.err=0:=by simpa using I
 refine aU (aM (eX (bo 8 aa (dG (kZ (row:=p.tok.enc) aa aa z aa ?_)))))
 refine bo 3 aa (dG (iq aa aa ?_))
 refine dc (aK aa (fun A=>?_) (fun A=>?_))
 ·have hk:¬p.tok.kind=k:=by simpa using A
  have G:p.take k 0=([],p.fail 5):=by unfold PS.take;rw[aw h0,aj hk]
  refine ai (ae 1 aa ?_)
  refine bI (lX F hp (by decide)) rfl rfl rfl rfl ?_
  refine af (ak 1 aa (ax ?_))
  rw[G]
  exact⟨_,PS.bq a _,aa,⟨aa,trivial⟩,aa,aa⟩
 have hk:p.tok.kind=k:=by simpa using A
 have dR:=PS.lv hp mD hk
 have fu:=hp.dY
 have G:p.take k 0=(p.tok.text,p.step):=by unfold PS.take;rw[aw h0,aw hk,aw rfl]
 have J:((p.aJ+1:Nat):Int) -Int.ofNat 1=((p.aJ:Nat):Int):=by simp only[bb];omega
 refine aU (ai (ae 4 aa ?_))
 refine al (cX rfl rfl (by omega) ?_)
 refine ae 3 aa (af ?_)
 refine eX (bo 8 aa ?_)
 refine dG (gj rfl rfl (by simp only[bb];omega) (by simp only[bb];omega) ?_)
 rw[J]
 refine dG (kZ (row:=p.tok.enc) aa aa z aa ?_)
 refine bo 3 aa (dc ?_)
 refine ax ?_
 rw[G]
 exact⟨_,PS.bq a p.step,rfl,⟨by rw[tv h0];rfl,trivial⟩,rfl,rfl⟩
theorem Oc{T:bf}(F:FT T){a:Bool}{p:PS}(hp:p.ok)(h0:p.err=0)(dR:p.aJ+1<p.aA.length):bX T 275 [.vp 1000 0] (PS.bq a p) fun r Bn=>r=dB p.enter.1∧Bn=PS.bq a (if p.enter.1=true then p.enter.2.step else p.enter.2):=by
 refine cr F.aaG aa (ak 1 aa (aM (ak 5 aa (aK aa (fun z=>?_) (fun z=>?_)))))
 ·have A:p.depth=60:=by have:=hp.kD;simp at z;omega
  have G:p.enter=(false,p.fail 19):=aw A
  refine ai (ae 1 aa ?_)
  refine bI (lX F hp (by decide)) rfl rfl rfl rfl ?_
  refine af (ak 1 aa (ax ?_))
  rw[G]
  exact⟨_,PS.bq a (p.fail 19),aa,⟨aa,trivial⟩,aa,aa⟩
 have A:¬p.depth=60:=by simp at z;omega
 have hle:=hp.kD
 have fu:=hp.dY
 have G:p.enter=(true,{p with depth:=p.depth+1}):=aj A
 refine aU (ai (ae 4 aa ?_))
 refine al (cX rfl rfl (by omega) ?_)
 refine ae 3 aa (af ?_)
 refine ai (ae 4 aa ?_)
 refine al (cX rfl rfl (by omega) ?_)
 refine ae 3 aa (af ?_)
 refine ak 1 aa (ax ?_)
 rw[G]
 exact⟨_,PS.bq a (PS.step {p with depth:=p.depth+1}),rfl,⟨by rw[tv (p:={p with depth:=p.depth+1}) h0];rfl,trivial⟩,rfl,rfl⟩
open Go
theorem HD{n:Int}{m:Nat}(h:n=(m:Int))(z:m<18446744073709551616):IntKind.u64.wrap n=(m:Int):=by
 subst h
 simp[IntKind.wrap,IntKind.bits,IntKind.signed]
 omega
theorem Wt{c:UInt8}(h:48≤c.toNat∧c.toNat≤57):IntKind.u8.wrap ((c.toNat:Int) -(Int.ofNat 48))=((c.toNat-48:Nat):Int):=by
 simp[IntKind.wrap,IntKind.bits,IntKind.signed]
 omega
theorem QU{s:List UInt8}{i:Nat}{c:UInt8}(h:s[i]?=some c):dW (s.take (i+1))=dW (s.take i)*10+(c.toNat-48):=by
 rw[xE,h]
 unfold dW
 rw[xF]
 rfl
theorem J0{s:List UInt8}(z:∀c,c∈s→48≤c.toNat∧c.toNat≤57):dW s<10^s.length:=by
 have aux:∀(s:List UInt8)(n:Nat),(∀c,c∈s→48≤c.toNat∧c.toNat≤57)→s.foldl (fun n c=>n*10+(c.toNat-48)) n<(n+1)*10^s.length:=by
  intro s
  induction s with
  |nil=>intro n _;simp
  |cons c r G=>
   intro n A
   have J:=A c (lh ..)
   have h2:=G (n*10+(c.toNat-48)) fun d z=>A d (nO _ z)
   have I:(n*10+(c.toNat-48)+1)*10^r.length≤((n+1)*10)*10^r.length:=kN _ (by omega)
   calc _<_:=h2
    _≤_:=I
    _=(n+1)*10^(r.length+1):=by rw[ye,Aw,mL 10]
 have:=aux s 0 z
 rw[jA,sz] at this
 exact this
theorem Qg{s:List UInt8}(h:nA s){i:Nat}(hi:i<s.length):dW (s.take i)<10^18:=by
 have z:=J0 (s:=s.take i) fun c A=>h.2.2 c (HI A)
 rw[nf] at z
 have h2:10^min i s.length≤10^18:=Ay (by decide) (by have:=h.2.1;omega)
 omega
open Go
set_option maxRecDepth 10000
theorem Uk{T:bf}(F:FT T){s:List UInt8}(z:nA s):bX T 202 [dS s] [] fun r Bn=>r= .d (.i .u64 (dW s:Nat))∧Bn=[]:=by
 refine cr F.Z4 aa (ak 1 aa (ak 1 aa (aM (ak 1 aa (bN (d6 (fun k VE B=>∃i:Nat,i≤s.length∧k=s.length-i∧bw [(0,dS s),(3,.d (.i .u64 (dW (s.take i):Nat))),(4,dI (i:Nat))] VE∧bw [] B) ?_ (k:=s.length) ⟨0,df _,aa,⟨aa,aa,aa,trivial⟩,trivial⟩))))))
 rintro k VE B⟨i,hi,rfl,K,O⟩
 refine dx _ _ K O (aM (ak 4 aa (aK aa (fun A=>?_) (fun A=>?_))))
 ·have dR:i<s.length:=by simpa using A
  obtain⟨c,G⟩:∃c,s[i]?=some c:=⟨_,eY dR⟩
  have U:=Qg z dR
  have I:=z.2.2 c (lG G)
  refine aU (aM (bN (bG (ae 1 aa (al (LY aa aa ?_))))))
  rw[HD (m:=dW (s.take i)*10) (by simp only[bb];omega) (by omega)]
  refine ae 2 aa (al (fM aa aa G ?_))
  refine al (GB aa aa ?_)
  rw[Wt I]
  refine ae 1 aa ?_
  rw[HD (m:=c.toNat-48) rfl (by omega)]
  refine al (Cm aa aa ?_)
  rw[HD (m:=dW (s.take i)*10+(c.toNat-48)) (by omega) (by omega)]
  refine ae 1 aa (af ?_)
  refine bG (ae 1 aa ?_)
  refine al (cX rfl rfl (by have:=z.2.1;omega) ?_)
  refine ae 1 aa (af ?_)
  refine⟨s.length-(i+1),by omega,i+1,by omega,rfl,⟨rfl,?_,rfl,trivial⟩,trivial⟩
  rw[QU G];rfl
 have J:s.length≤i:=by simpa using A
 refine dM (ak 2 aa (ax ?_))
 rw[qu J]
 exact⟨_,[],aa,trivial,aa,aa⟩
open Go
variable{p:PS}{a:Bool}{D:Rd}
theorem tN{k:Int}(z:p.err=0)(h2:p.tok.kind=k):p.take k 0=(p.tok.text,p.step):=by unfold PS.take;rw[aw z,aw h2,aw rfl]
theorem zC{k:Int}(h:(p.take k 0).2.err=0):p.err=0∧p.tok.kind=k:=by
 unfold PS.take at h
 split at h
 ·rename_i z
  split at h
  ·rename_i h2;exact⟨z,h2⟩
  rw[show(p.fail 5).err=5 by unfold PS.fail;rw[aw z]] at h;cases h
 rename_i z;exact absurd h z
theorem zi{k e:Int}(h:¬(p.take k 0).2.err=0):p.take k e=([],(p.take k 0).2)∧p.called k=false:=by
 by_cases z:p.err=0
 ·by_cases h2:p.tok.kind=k
  ·rw[tN z h2] at h;exact absurd z h
  exact⟨by unfold PS.take;rw[aw z,aj h2,aw z,aj h2],by unfold PS.called;rw[decide_eq_false h2,Bool.and_false]⟩
 exact⟨by unfold PS.take;rw[aj z,aj z],by unfold PS.called;rw[decide_eq_false z];rfl⟩
theorem BW{k:Int}(h:p.called k=true):p.err=0∧p.tok.kind=k:=by
 unfold PS.called at h
 simpa using h
theorem B5{k e:Int}(z:p.called k=true)(he:e≠0):p.take k e=([],p.fail e):=by
 obtain⟨A,h2⟩:=BW z
 unfold PS.take;rw[aw A,aw h2,aj he]
theorem vB{e:Int}(z:p.err=0):(p.fail e).err=e:=by unfold PS.fail;rw[aw z]
theorem Rw{l:Int}(h:¬(p.take 3 0).2.err=0):p.number l=(0,(p.take 3 0).2):=by
 unfold PS.number
 rw[(zi h).1,(zi (e:=0) h).2]
 rfl
theorem J1{l:Int}(z:p.called 3=true)(A:mn l p.tok.text=10):p.number l=(0,p.fail 10):=by
 unfold PS.number
 rw[A,B5 z (by decide),aj (fun k=>absurd k.2 (by decide))]
theorem Ul(h:¬(p.take 4 0).2.err=0):(p.day D).2=(p.take 4 0).2:=by unfold PS.day;rw[(zi h).1]
theorem Gi(z:p.called 4=true)(A:p.take 4 0=(p.tok.text,p.step))(G:D.jO p.tok.text=0):p.day D=((D.day p.tok.text).1,p.step):=by unfold PS.day;rw[G,A,aw z]
theorem Cq{e:Int}(A:p.called 4=true)(G:D.jO p.tok.text=e)(z:¬D.jO p.tok.text=0):(p.day D).2=p.fail e:=by unfold PS.day;rw[B5 A z,G]
theorem FE{e:Int}(A:p.called 4=true)(G:D.jO p.tok.text=e)(z:¬D.jO p.tok.text=0):¬(p.day D).2.err=0:=by
 rw[Cq A G z,vB (BW A).1,←G];exact z
theorem Rx(h:¬(p.take 4 0).2.err=0):(p.period D).2=(p.take 4 0).2:=by unfold PS.period;rw[(zi h).1]
theorem QV(z:p.called 4=true)(A:p.take 4 0=(p.tok.text,p.step))(G:(D.il p.tok.text).2=0):p.period D=((D.il p.tok.text).1,p.step):=by unfold PS.period;rw[G,A,aw z]
theorem J2(A:p.called 4=true)(z:¬(D.il p.tok.text).2=0):(p.period D).2=p.fail (D.il p.tok.text).2:=by unfold PS.period;rw[B5 A z]
theorem Qh(A:p.called 4=true)(z:¬(D.il p.tok.text).2=0):¬(p.period D).2.err=0:=by
 rw[J2 A z,vB (BW A).1];exact z
theorem rM(h0:p.err=0):p.lL a=[.d (.sl (p.aA.map cM.enc)),dI (p.aJ:Nat),dI p.err,dI (p.step.ea:Nat),dI (p.depth:Nat),dB a]:=by
 show [VV.d (.sl (p.aA.map cM.enc)),dI (p.aJ:Nat),dI p.err,dI ((if p.err=0 then 0 else p.aJ:Nat):Nat),dI (p.depth:Nat),dB a]=[VV.d (.sl (p.aA.map cM.enc)),dI (p.aJ:Nat),dI p.err,dI ((if p.err=0 then 0 else p.aJ+1:Nat):Nat),dI (p.depth:Nat),dB a]
 rw[aw h0,aw h0]
theorem Gj{T:bf}(F:FT T){s:List UInt8}(z:nA s):Sound T 202 [dS s] fun r=>r= .d (.i .u64 (dW s:Nat)):=bX.mono (Uk F z) fun v B h=>⟨by rw[h.1];trivial,h.1⟩
open Go
set_option maxRecDepth 10000
set_option maxHeartbeats 1000000 in
theorem xf{T:bf}(F:FT T){a:Bool}{p:PS}(hp:St p)(least:Int):bX T 161 [.vp 1000 0,dI least] (PS.bq a p) fun r Bn=>r=dI (p.number least).1∧Bn=PS.bq a (p.number least).2:=by
 refine cr F.ZH aa (ak 1 aa (ai (ae 1 aa ?_)))
 refine bI (vK F hp.ok (k:=3) (by decide)) rfl rfl rfl rfl ?_
 refine ae 1 aa (af ?_)
 refine aM (ak 5 aa (aK aa (fun bJ=>?_) (fun bJ=>?_)))
 ·have h0:¬(p.take 3 0).2.err=0:=by simpa using bJ
  have Y:p.number least=(0,(p.take 3 0).2):=Rw h0
  refine ak 1 aa (ax ?_)
  rw[Y];exact⟨_,PS.bq a _,rfl,⟨rfl,trivial⟩,rfl,rfl⟩
 have h0:(p.take 3 0).2.err=0:=by simpa using bJ
 obtain⟨U,h2⟩:=zC h0
 have dR:=PS.lv hp.ok (k:=3) (by decide) h2
 have fu:=hp.ok.dY
 have I:p.take 3 0=(p.tok.text,p.step):=tN U h2
 rw[I]
 have hs:=hp.nh.1 _ hp.ok.mem h2
 have PQ:=BU hs
 have Z:p.called 3=true:=by unfold PS.called;rw[U,h2];rfl
 have J:((p.aJ+1:Nat):Int) -Int.ofNat 1=((p.aJ:Nat):Int):=by simp only[bb];omega
 refine aU (ai (ae 1 aa ?_))
 refine al (pD (args:=[dS p.tok.text]) rfl (by repeat(first|exact trivial|apply And.intro)) (Gj F hs) (fun r hn hr=>?_))
 subst hr
 refine ae 1 aa (af ?_)
 refine aM (ai (ae 3 aa (da (g:=bh) aa (fun z=>?_) (fun z=>?_))))
 ·have sY:¬(dW p.tok.text:Int)<1099511627776:=by simp at z;omega
  have K:mn least p.tok.text=10:=aj (fun h=>sY h.1)
  refine aS aa (z) (aS aa (z) (aS aa (z) (aS aa (z) (al (cU aa (z) aa ?_)))))
  refine af (fe aa aa (ai (ae 4 aa ?_)))
  refine al (gj (a:=((p.aJ+1:Nat):Int)) rfl rfl (by simp only[bb];omega) (by simp only[bb];omega) ?_)
  rw[J]
  refine ae 3 aa (af ?_)
  refine ai ?_
  refine ez (PS.bq a p) ⟨by rw[rM U];rfl,trivial⟩ ?_
  refine ae 1 aa ?_
  refine bI (lX F hp.ok (by decide)) rfl rfl rfl rfl ?_
  refine af (ak 1 aa (ax ?_))
  rw[J1 Z K];exact⟨_,PS.bq a (p.fail 10),rfl,⟨rfl,trivial⟩,rfl,rfl⟩
 have O:(dW p.tok.text:Int)<1099511627776:=by simp at z;omega
 refine au aa (z) (bM aa ?_)
 refine au aa (z) (Cj aa ?_)
 rw[wrap_i64 (by omega) (by omega)]
 refine au aa (z) (bM aa ?_)
 refine au aa (z) (pL aa aa ?_)
 refine al (cK aa (z) aa ?_)
 refine af (aK aa (fun A=>?_) (fun A=>?_))
 ·have K:mn least p.tok.text=10:=aj (fun h=>by have G:=A;simp at G;omega)
  refine ai (ae 4 aa ?_)
  refine al (gj (a:=((p.aJ+1:Nat):Int)) rfl rfl (by simp only[bb];omega) (by simp only[bb];omega) ?_)
  rw[J]
  refine ae 3 aa (af ?_)
  refine ai ?_
  refine ez (PS.bq a p) ⟨by rw[rM U];rfl,trivial⟩ ?_
  refine ae 1 aa ?_
  refine bI (lX F hp.ok (by decide)) rfl rfl rfl rfl ?_
  refine af (ak 1 aa (ax ?_))
  rw[J1 Z K];exact⟨_,PS.bq a (p.fail 10),rfl,⟨rfl,trivial⟩,rfl,rfl⟩
 have K:mn least p.tok.text=0:=aw ⟨O,by have G:=A;simp at G;omega⟩
 have Y:p.number least=(((dW p.tok.text:Nat):Int),p.step):=by unfold PS.number;rw[K,aw ⟨Z,rfl⟩,I]
 refine aU (ai (ae 2 aa ?_))
 rw[wrap_i64 (by omega) (by omega)]
 refine ae 1 aa (af ?_)
 refine ax ?_
 rw[Y];exact⟨_,PS.bq a _,rfl,⟨rfl,trivial⟩,rfl,rfl⟩
set_option maxHeartbeats 1000000 in
theorem O9{T:bf}(F:FT T){D:Rd}(Lq:ke T D){a:Bool}{p:PS}(hp:St p):bX T 159 [.vp 1000 0] (PS.bq a p) fun r Bn=>(∃v,r=dI v∧((p.day D).2.err=0→v=(p.day D).1))∧Bn=PS.bq a (p.day D).2:=by
 refine cr F.ZF aa (ak 1 aa (ai (ae 1 aa ?_)))
 refine bI (vK F hp.ok (k:=4) (by decide)) rfl rfl rfl rfl ?_
 refine ae 1 aa (af ?_)
 refine aM (ak 5 aa (aK aa (fun Y=>?_) (fun Y=>?_)))
 ·have h0:¬(p.take 4 0).2.err=0:=by simpa using Y
  have J:(p.day D).2=(p.take 4 0).2:=Ul h0
  have he:¬(p.day D).2.err=0:=by rw[J];exact h0
  refine ak 1 aa (ax ?_)
  exact⟨_,PS.bq a _,rfl,⟨rfl,trivial⟩,⟨_,rfl,fun k=>absurd k he⟩,by rw[J]⟩
 have h0:(p.take 4 0).2.err=0:=by simpa using Y
 obtain⟨h1,h2⟩:=zC h0
 have dR:=PS.lv hp.ok (k:=4) (by decide) h2
 have fu:=hp.ok.dY
 have O:p.take 4 0=(p.tok.text,p.step):=tN h1 h2
 rw[O]
 have hs:=hp.nh.2 _ hp.ok.mem
 have U:p.called 4=true:=by unfold PS.called;rw[h1,h2];rfl
 have hdle:=Lq.kD p.tok.text
 have Z:((p.aJ+1:Nat):Int) -Int.ofNat 1=((p.aJ:Nat):Int):=by simp only[bb];omega
 refine aU (ai (ae 1 aa ?_))
 refine al (pD (args:=[dS p.tok.text]) rfl (by repeat(first|exact trivial|apply And.intro)) (Lq.day _ hs) (fun r hn hr=>?_))
 subst hr
 refine ae 5 aa (af ?_)
 refine aM (ai (ae 3 aa (da (g:=bl) aa (fun G=>?_) (fun G=>?_))))
 ·refine au aa (G) (bM aa ?_)
  refine au aa (G) (gZ aa aa ?_)
  refine al (cU aa (G) aa ?_)
  refine af (aK aa (fun IP=>?_) (fun IP=>?_))
  ·have I:D.jO p.tok.text=10:=by unfold Rd.jO;rw[aw ⟨by simpa using G,by simp at IP;omega⟩]
   refine bG (ae 1 aa (af ?_))
   refine aM (ak 2 aa (aK aa (fun z=>?_) (fun z=>?_)))
   ·have A:¬D.jO p.tok.text=0:=by rw[I];first|decide|simpa using z
    refine ai (ae 4 aa ?_)
    refine al (gj (a:=((p.aJ+1:Nat):Int)) rfl rfl (by simp only[bb];omega) (by simp only[bb];omega) ?_)
    rw[Z]
    refine ae 3 aa (af ?_)
    refine ai ?_
    refine ez (PS.bq a p) ⟨by rw[rM h1];rfl,trivial⟩ ?_
    refine ae 2 aa ?_
    refine bI (lX F hp.ok (e:=10) (by decide)) rfl rfl rfl rfl ?_
    refine af (ak 1 aa (ax ?_))
    exact⟨_,PS.bq a (p.fail 10),rfl,⟨rfl,trivial⟩,⟨_,rfl,fun k=>absurd k (FE U I A)⟩,by rw[Cq U I A]⟩
   have K:D.jO p.tok.text=0:=by rw[I];first|(exact absurd z (by decide))|simpa using z
   have J:p.day D=((D.day p.tok.text).1,p.step):=Gi U O K
   refine aU (ak 2 aa (ax ?_))
   exact⟨_,PS.bq a p.step,rfl,⟨rfl,trivial⟩,⟨_,rfl,fun _=>by rw[J]⟩,by rw[J]⟩
  have I:D.jO p.tok.text=(D.day p.tok.text).2:=by unfold Rd.jO;rw[aj (fun k=>absurd k.2 (by simp at IP;omega))]
  refine aU (aM (ak 2 aa (aK aa (fun z=>?_) (fun z=>?_))))
  ·have A:¬D.jO p.tok.text=0:=by rw[I];first|decide|simpa using z
   refine ai (ae 4 aa ?_)
   refine al (gj (a:=((p.aJ+1:Nat):Int)) rfl rfl (by simp only[bb];omega) (by simp only[bb];omega) ?_)
   rw[Z]
   refine ae 3 aa (af ?_)
   refine ai ?_
   refine ez (PS.bq a p) ⟨by rw[rM h1];rfl,trivial⟩ ?_
   refine ae 2 aa ?_
   refine bI (lX F hp.ok (by rw[←I];exact A)) rfl rfl rfl rfl ?_
   refine af (ak 1 aa (ax ?_))
   exact⟨_,PS.bq a (p.fail (D.day p.tok.text).2),rfl,⟨rfl,trivial⟩,⟨_,rfl,fun k=>absurd k (FE U I A)⟩,by rw[Cq U I A]⟩
  have K:D.jO p.tok.text=0:=by rw[I];first|(exact absurd z (by decide))|simpa using z
  have J:p.day D=((D.day p.tok.text).1,p.step):=Gi U O K
  refine aU (ak 2 aa (ax ?_))
  exact⟨_,PS.bq a p.step,rfl,⟨rfl,trivial⟩,⟨_,rfl,fun _=>by rw[J]⟩,by rw[J]⟩
 have I:D.jO p.tok.text=(D.day p.tok.text).2:=by unfold Rd.jO;rw[aj (fun k=>absurd k.1 (by simpa using G))]
 refine aS aa (G) (aS aa (G) (al (cK aa (G) aa ?_)))
 refine af (eJ aa aa (aU (aM (ak 2 aa (aK aa (fun z=>?_) (fun z=>?_))))))
 ·have A:¬D.jO p.tok.text=0:=by rw[I];first|decide|simpa using z
  refine ai (ae 4 aa ?_)
  refine al (gj (a:=((p.aJ+1:Nat):Int)) rfl rfl (by simp only[bb];omega) (by simp only[bb];omega) ?_)
  rw[Z]
  refine ae 3 aa (af ?_)
  refine ai ?_
  refine ez (PS.bq a p) ⟨by rw[rM h1];rfl,trivial⟩ ?_
  refine ae 2 aa ?_
  refine bI (lX F hp.ok (by rw[←I];exact A)) rfl rfl rfl rfl ?_
  refine af (ak 1 aa (ax ?_))
  exact⟨_,PS.bq a (p.fail (D.day p.tok.text).2),rfl,⟨rfl,trivial⟩,⟨_,rfl,fun k=>absurd k (FE U I A)⟩,by rw[Cq U I A]⟩
 have K:D.jO p.tok.text=0:=by rw[I];first|(exact absurd z (by decide))|simpa using z
 have J:p.day D=((D.day p.tok.text).1,p.step):=Gi U O K
 refine aU (ak 2 aa (ax ?_))
 exact⟨_,PS.bq a p.step,rfl,⟨rfl,trivial⟩,⟨_,rfl,fun _=>by rw[J]⟩,by rw[J]⟩
set_option maxHeartbeats 1000000 in
theorem L4{T:bf}(F:FT T){D:Rd}(Z:ke T D){a:Bool}{p:PS}(hp:St p):bX T 152 [.vp 1000 0] (PS.bq a p) fun r Bn=>(∃v:Int×Int,r= .agg [dI v.1,dI v.2]∧((p.period D).2.err=0→v=(p.period D).1))∧Bn=PS.bq a (p.period D).2:=by
 refine cr F.Zz aa (ak 1 aa (ai (ae 1 aa ?_)))
 refine bI (vK F hp.ok (k:=4) (by decide)) rfl rfl rfl rfl ?_
 refine ae 1 aa (af ?_)
 refine aM (ak 5 aa (aK aa (fun z=>?_) (fun z=>?_)))
 ·have h0:¬(p.take 4 0).2.err=0:=by simpa using z
  have I:(p.period D).2=(p.take 4 0).2:=Rx h0
  have he:¬(p.period D).2.err=0:=by rw[I];exact h0
  refine ak 2 aa (ax ?_)
  exact⟨_,PS.bq a _,rfl,⟨rfl,trivial⟩,⟨(0,0),rfl,fun k=>absurd k he⟩,by rw[I]⟩
 have h0:(p.take 4 0).2.err=0:=by simpa using z
 obtain⟨K,h2⟩:=zC h0
 have dR:=PS.lv hp.ok (k:=4) (by decide) h2
 have fu:=hp.ok.dY
 have J:p.take 4 0=(p.tok.text,p.step):=tN K h2
 rw[J]
 have hs:=hp.nh.2 _ hp.ok.mem
 have O:p.called 4=true:=by unfold PS.called;rw[K,h2];rfl
 have U:((p.aJ+1:Nat):Int) -Int.ofNat 1=((p.aJ:Nat):Int):=by simp only[bb];omega
 refine aU (ai (ae 1 aa ?_))
 refine al (pD (args:=[dS p.tok.text]) rfl (by repeat(first|exact trivial|apply And.intro)) (Z.il _ hs) (fun r hn hr=>?_))
 subst hr
 refine ae 6 aa (af ?_)
 refine aM (ak 2 aa (aK aa (fun A=>?_) (fun A=>?_)))
 ·have G:¬(D.il p.tok.text).2=0:=by simpa using A
  refine ai (ae 4 aa ?_)
  refine al (gj (a:=((p.aJ+1:Nat):Int)) rfl rfl (by simp only[bb];omega) (by simp only[bb];omega) ?_)
  rw[U]
  refine ae 3 aa (af ?_)
  refine ai ?_
  refine ez (PS.bq a p++[(2,.one 42 16 [d0,d0])]) (cG (by rw[rM K];rfl) ⟨rfl,trivial⟩) ?_
  refine ae 2 aa (bI (lX F hp.ok G) aa aa aa aa (af (ak 2 aa (ax ?_))))
  exact⟨_,PS.bq a (p.fail (D.il p.tok.text).2),rfl,⟨rfl,trivial⟩,⟨(0,0),rfl,fun k=>absurd k (Qh O G)⟩,by rw[J2 O G]⟩
 have Y:(D.il p.tok.text).2=0:=by simpa using A
 have I:p.period D=((D.il p.tok.text).1,p.step):=QV O J Y
 refine aU (ak 2 aa (ax ?_))
 exact⟨_,PS.bq a p.step,rfl,⟨rfl,trivial⟩,⟨(D.il p.tok.text).1,rfl,fun _=>by rw[I]⟩,by rw[I]⟩
theorem Gk{T:bf}(F:FT T){a:Bool}{p:PS}(hp:bd p):bX T 160 [.vp 1000 0] (PS.bq a p) fun r Bn=>r=dI p.hJ.1∧Bn=PS.bq a p.hJ.2:=by
 refine cr F.ZG aa (ak 1 aa (aM (ai (ae 1 aa (bI (fD F hp.ok fc) aa aa aa aa (af (aK aa (fun z=>?_) (fun z=>?_))))))))
 ·have A:p.hJ=((p.keyword fc).2.aW [j6]).number (-1):=by unfold PS.hJ;rw[aw z]
  refine ai (ae 1 aa (bI (iW F (hp.kw fc).ok j6) aa aa aa aa (af (ai (ae 1 aa (bI (xf F ((hp.kw fc).top.dF [j6]).st (-1)) aa aa aa aa (ae 1 aa (af ?_))))))))
  refine ax ?_
  rw[A]
  exact⟨_,PS.bq a _,aa,⟨aa,trivial⟩,aa,aa⟩
 have A:p.hJ=(1099511627776,p):=by unfold PS.hJ;rw[aj (by rw[z];decide)]
 rw[PS.cL z]
 refine aU (ak 1 aa (ax ?_))
 rw[A]
 exact⟨_,PS.bq a _,aa,⟨aa,trivial⟩,aa,aa⟩
open Go
variable{p:PS}{a:Bool}{D:Rd}
theorem uG{s:List UInt8}(h:(p.keyword s).1=true):p.err=0∧p.tok.kind=1∧p.tok.text=s:=by
 have z:=(PS.pz h).2
 unfold PS.next at z
 simpa using z
theorem qs{s:List UInt8}(h:(p.sign s).1=true):p.err=0∧p.tok.kind=5∧p.tok.text=s:=by
 have z:=(PS.pz h).2
 unfold PS.next at z
 simpa using z
theorem CM{s:List UInt8}(h:p.tok.kind≠1∨p.tok.text≠s):(p.keyword s).1=false:=by
 cases hk:(p.keyword s).1
 ·rfl
 obtain⟨_,z,h2⟩:=uG hk;rcases h with h|h<;>contradiction
theorem xA{s:List UInt8}(h:p.tok.kind≠5∨p.tok.text≠s):(p.sign s).1=false:=by
 cases hk:(p.sign s).1
 ·rfl
 obtain⟨_,z,h2⟩:=qs hk;rcases h with h|h<;>contradiction
theorem Um(h:¬p.err=0):p.literal D=(cq,p):=by unfold PS.literal;rw[aw h]
theorem F7{s:List UInt8}(h:(p.keyword s).1=true)(z:s=o4∨s=oJ∨s=ld):p.tok.k0=true:=by
 obtain⟨_,A,h2⟩:=uG h
 unfold cM.k0
 rw[A,h2]
 rcases z with rfl|rfl|rfl<;>decide
theorem Td(h:(p.keyword ld).1=true):p.literal D=(cq,(p.keyword ld).2):=by
 obtain⟨h0,z,h2⟩:=uG h
 unfold PS.literal
 rw[aj (by simpa using h0),aj (by rw[F7 h (.inr (.inr rfl))];decide),aj (by rw[xA (.inl (by rw[z];decide))];decide),aj (by rw[z];decide),aj (by rw[CM (.inr (by rw[h2];decide))];decide),aj (by rw[CM (.inr (by rw[h2];decide))];decide),aw h]
theorem Te(h:(p.keyword o4).1=true):p.literal D=(⟨3,1,[]⟩,(p.keyword o4).2):=by
 obtain⟨h0,z,h2⟩:=uG h
 unfold PS.literal
 rw[aj (by simpa using h0),aj (by rw[F7 h (.inl rfl)];decide),aj (by rw[xA (.inl (by rw[z];decide))];decide),aj (by rw[z];decide),aw h]
theorem Sg(h:(p.keyword oJ).1=true):p.literal D=(⟨3,0,[]⟩,(p.keyword oJ).2):=by
 obtain⟨h0,z,h2⟩:=uG h
 unfold PS.literal
 rw[aj (by simpa using h0),aj (by rw[F7 h (.inr (.inl rfl))];decide),aj (by rw[xA (.inl (by rw[z];decide))];decide),aj (by rw[z];decide),aj (by rw[CM (.inr (by rw[h2];decide))];decide),aw h]
theorem Tf(h0:p.err=0)(z:p.tok.kind=4):p.literal D=(⟨2,0,p.tok.text⟩,p.step):=by
 have hk:∀s,(p.keyword s).1=false:=fun s=>CM (.inl (by rw[z];decide))
 unfold PS.literal
 rw[aj (by simpa using h0),aj (by unfold cM.k0;rw[z];simp),aj (by rw[xA (.inl (by rw[z];decide))];decide),aj (by rw[z];decide),aj (by rw[hk];decide),aj (by rw[hk];decide),aj (by rw[hk];decide)]
theorem Sh(h:p.next 5 gH=true):p.literal D=(p.sign gH).2.integer D true∧(p.sign gH).1=true:=by
 have z:(p.sign gH).1=true:=by unfold PS.sign PS.accept;rw[aw h]
 obtain⟨h0,A,h2⟩:=qs z
 refine⟨?_,z⟩
 unfold PS.literal
 rw[aj (by simpa using h0),aj (by unfold cM.k0;rw[A,h2];decide),aw z]
theorem Un(h0:p.err=0)(z:p.tok.kind=3):p.literal D=(p.sign gH).2.integer D false∧(p.sign gH).1=false:=by
 have A:(p.sign gH).1=false:=xA (.inl (by rw[z];decide))
 refine⟨?_,A⟩
 rw[PS.ig A]
 unfold PS.literal
 rw[aj (by simpa using h0),aj (by unfold cM.k0;rw[z];simp),aj (by rw[A];decide),aw z]
theorem Tg(h0:p.err=0)(A:(p.keyword o4).1=false)(G:(p.keyword oJ).1=false)(hN:(p.keyword ld).1=false)(I:¬p.tok.kind=4)(J:¬p.tok.kind=3)(K:p.next 5 gH=false):p.literal D=(cq,p.fail 5):=by
 have z:p.tok.k0=false:=by
  have O:=(PS.rV A).2
  have U:=(PS.rV G).2
  have Y:=(PS.rV hN).2
  unfold PS.next at K O U Y
  unfold cM.k0
  rw[decide_eq_false I,decide_eq_false J]
  by_cases Z:p.tok.kind=5
  ·simp_all
  by_cases k1:p.tok.kind=1
  ·simp_all
  simp_all
 unfold PS.literal
 rw[aj (by simpa using h0),aw z]
theorem JK{n:Bool}(h:¬(p.take 3 0).2.err=0):(p.integer D n).2=(p.take 3 0).2:=by unfold PS.integer;rw[(zi h).1]
theorem FF{n:Bool}(z:p.called 3=true)(A:D.int n p.tok.text=none):(p.integer D n).2=p.fail 10:=by
 have e:D.qm n p.tok.text=10:=by unfold Rd.qm;rw[A];rfl
 unfold PS.integer;rw[e,B5 z (by decide)]
theorem Fz{n:Bool}{v:Int}(z:p.called 3=true)(A:D.int n p.tok.text=some v):p.integer D n=(⟨1,v,[]⟩,p.step):=by
 have e:D.qm n p.tok.text=0:=by unfold Rd.qm;rw[A];rfl
 obtain⟨G,h2⟩:=BW z
 unfold PS.integer;rw[e,tN G h2,aw z,A];rfl
theorem L5{n:Nat}(h:n≤9223372036854775808):IntKind.i64.wrap (IntKind.u64.wrap (0-(n:Int)))= -(n:Int):=by
 rw[Int.zero_sub]
 simp[IntKind.wrap,IntKind.bits,IntKind.signed]
 omega
def EN(D:Rd)(a:Bool)(p:PS)(r:VV)(Bn:br):Prop:=∃v b q,r= .tuple [et (gU.enc v),dB b]∧Bn=PS.bq a q∧(b=true→q=(p.literal D).2∧(q.err=0→v=(p.literal D).1))∧(b=false→q=p∧(p.literal D).2=p.fail 5)
theorem pB{v:gU}{q:PS}{r:VV}{Bn:br}(z:r= .tuple [et v.enc,dB true])(A:Bn=PS.bq a q)(G:q=(p.literal D).2)(h2:q.err=0→v=(p.literal D).1):EN D a p r Bn:=⟨v,true,q,z,A,fun _=>⟨G,h2⟩,fun k=>by cases k⟩
theorem L6{r:VV}{Bn:br}(z:r= .tuple [et cq.enc,dB false])(A:Bn=PS.bq a p)(h:(p.literal D).2=p.fail 5):EN D a p r Bn:=
 ⟨cq,false,p,z,A,(fun k=>by cases k),fun _=>⟨rfl,h⟩⟩
open Go
set_option maxRecDepth 10000
set_option maxHeartbeats 4000000 in
theorem Lo{T:bf}(F:FT T){D:Rd}(Lq:ke T D){a:Bool}{p:PS}(hp:St p):bX T 197 [.vp 1000 0] (PS.bq a p) (EN D a p):=by
 refine cr F.ZZ aa ?_
 have sG:(p.aA.map cM.enc)[p.aJ]?=some p.tok.enc:=by rw[iw,hp.ok.get];rfl
 refine ak 2 aa (aM (bN (ak 6 aa (aK aa (fun h7=>?_) (fun h7=>?_)))))
 ·have h0:¬p.err=0:=by simpa using h7
  have I:=Um (D:=D) h0
  have hz:p.fail 5=p:=aj h0
  refine ak 3 aa (ax ?_)
  exact⟨_,PS.bq a p,rfl,⟨rfl,trivial⟩,L6 rfl rfl (by rw[I,hz])⟩
 have h0:p.err=0:=by simpa using h7
 refine ai (ae 1 aa (bI (fD F hp.ok ld) aa aa aa aa (ae 1 aa (af ?_))))
 refine aK aa (fun Y=>?_) (fun Y=>?_)
 ·have I:=Td (D:=D) Y
  refine ak 3 aa (ax ?_)
  exact⟨_,PS.bq a (p.keyword ld).2,rfl,⟨rfl,trivial⟩,pB rfl rfl (by rw[I]) (fun _=>by rw[I])⟩
 rw[PS.cL Y]
 refine ai (ae 1 aa (bI (fD F hp.ok o4) aa aa aa aa (ae 1 aa (af ?_))))
 refine aK aa (fun Z=>?_) (fun Z=>?_)
 ·have I:=Te (D:=D) Z
  refine ak 3 aa (ax ?_)
  exact⟨_,PS.bq a (p.keyword o4).2,rfl,⟨rfl,trivial⟩,pB rfl rfl (by rw[I]) (fun _=>by rw[I])⟩
 rw[PS.cL Z]
 refine ai (ae 1 aa (bI (fD F hp.ok oJ) aa aa aa aa (ae 1 aa (af ?_))))
 refine aK aa (fun rL=>?_) (fun rL=>?_)
 ·have I:=Sg (D:=D) rL
  refine ak 3 aa (ax ?_)
  exact⟨_,PS.bq a (p.keyword oJ).2,rfl,⟨rfl,trivial⟩,pB rfl rfl (by rw[I]) (fun _=>by rw[I])⟩
 rw[PS.cL rL]
 refine eX (bo 8 aa (dG (kZ (row:=p.tok.enc) aa aa sG aa ?_)))
 refine bo 4 aa (dc ?_)
 refine aK aa (fun pf=>?_) (fun pf=>?_)
 ·have h4:p.tok.kind=4:=by simpa using pf
  have I:=Tf (D:=D) h0 h4
  have hm4:=tN h0 h4
  refine ai (ae 1 aa ?_)
  refine bI (vK F hp.ok (k:=4) (by decide)) rfl rfl rfl rfl ?_
  rw[hm4]
  refine ae 3 aa (af ?_)
  refine ax ?_
  exact⟨_,PS.bq a p.step,rfl,⟨rfl,trivial⟩,pB rfl rfl (by rw[I]) (fun _=>by rw[I])⟩
 have h4:¬p.tok.kind=4:=by simpa using pf
 refine eX (bo 8 aa (dG (kZ (row:=p.tok.enc) aa aa sG aa ?_)))
 refine bo 4 aa (vz (g:=eT) aa (fun J=>?_) (fun J=>?_))
 ·have h3:¬p.tok.kind=3:=by simpa using J
  refine eb aa (J) (bM aa ?_)
  refine kp aa (J) aa (vZ (yS F hp.ok 5 gH) aa aa aa aa ?_)
  refine eb aa (J) (ju aa ?_)
  refine dG (cU aa (J) aa ?_)
  refine bo 1 aa (dc ?_)
  refine aK aa (fun qE=>?_) (fun qE=>?_)
  ·have IQ:p.next 5 gH=false:=by simpa using qE
   have I:=Tg (D:=D) h0 Z rL Y h4 h3 IQ
   refine ak 3 aa (ax ?_)
   exact⟨_,PS.bq a p,rfl,⟨rfl,trivial⟩,L6 rfl rfl (by rw[I])⟩
  have IQ:p.next 5 gH=true:=by simpa using qE
  obtain⟨G,IS⟩:=Sh (D:=D) IQ
  have K:=hp.sign gH
  refine aU (ai (ae 1 aa (bI (mr F hp.ok gH) aa aa aa aa ?_)))
  rw[IS]
  generalize (p.sign gH).2=q at G K⊢
  refine ae 1 aa (af ?_)
  refine ai (ae 1 aa ?_)
  refine bI (vK F K.ok (k:=3) (by decide)) rfl rfl rfl rfl ?_
  refine ae 1 aa (af ?_)
  refine aM (ak 5 aa (aK aa (fun O=>?_) (fun O=>?_)))
  ·have h5:¬(q.take 3 0).2.err=0:=by simpa using O
   have I:(p.literal D).2=(q.take 3 0).2:=by rw[G,JK h5]
   exact ak 3 aa (ax (⟨_,PS.bq a (q.take 3 0).2,aa,⟨aa,trivial⟩,pB (v:=cq) aa aa I.symm (fun k=>absurd k h5)⟩))
  have h5:(q.take 3 0).2.err=0:=by simpa using O
  obtain⟨U,h2⟩:=zC h5
  have dR:=PS.lv K.ok (k:=3) (by decide) h2
  have fu:=K.ok.dY
  have nz:q.take 3 0=(q.tok.text,q.step):=tN U h2
  rw[nz]
  have hs:=K.nh.1 _ K.ok.mem h2
  have PQ:=BU hs
  have hc:q.called 3=true:=by unfold PS.called;rw[U,h2];rfl
  have hi:=Lq.int
  have mT:((q.aJ+1:Nat):Int) -Int.ofNat 1=((q.aJ:Nat):Int):=by simp only[bb];omega
  refine aU (ai (ae 1 aa ?_))
  refine al (pD (args:=[dS q.tok.text]) rfl (by repeat(first|exact trivial|apply And.intro)) (Gj F hs) (fun r hn hr=>?_))
  subst hr
  refine ae 1 aa (af ?_)
  refine aM (ai (ae 3 aa (da (g:=ia) aa (fun z=>?_) (fun z=>?_))))
  ·have aaQ:(9223372036854775808:Int)<(dW q.tok.text:Nat):=by simpa using z
   have I:(p.literal D).2=q.fail 10:=by rw[G];exact FF hc (by rw[hi,aj (fun k=>by omega)])
   refine aS aa (z) (aS aa (z) (aS aa (z) (B4 aa (B4 aa (aS aa (z) (al (cU aa (z) aa ?_)))))))
   refine af (fe aa aa (ai (ae 4 aa ?_)))
   refine al (gj (a:=((q.aJ+1:Nat):Int)) rfl rfl (by simp only[bb];omega) (by simp only[bb];omega) ?_)
   rw[mT]
   refine ae 3 aa (af ?_)
   refine ai ?_
   refine ez (PS.bq a q++[(2,.one 92 32 [d0,d0,dS []])]) (cG (by rw[rM U];rfl) ⟨rfl,trivial⟩) ?_
   refine ae 1 aa ?_
   refine bI (lX F K.ok (by decide)) rfl rfl rfl rfl ?_
   refine af (ak 3 aa (ax ?_))
   exact⟨_,PS.bq a (q.fail 10),rfl,⟨rfl,trivial⟩,pB (v:=cq) rfl rfl I.symm (fun k=>absurd k (by rw[vB U];decide))⟩
  have hle:((dW q.tok.text:Nat):Int)≤9223372036854775808:=by simpa using z
  refine au aa (z) (bM aa ?_)
  refine au aa (z) (gZ aa aa ?_)
  refine au aa (z) (bM aa ?_)
  refine da (g:=jd) aa (fun A=>?_) (fun A=>?_)
  ·have heq:((dW q.tok.text:Nat):Int)=9223372036854775808:=by simpa using A
   have I:p.literal D=(⟨1, -((dW q.tok.text:Nat):Int),[]⟩,q.step):=by rw[G];exact Fz hc (by rw[hi,aw (Or.inr ⟨rfl,heq⟩)];rfl)
   refine au aa (A) (bM aa ?_)
   refine au aa (A) (ju aa ?_)
   refine au aa (z) (cU aa (A) aa ?_)
   refine al (cK aa (z) aa ?_)
   refine af (eJ aa aa (aU (aM (ak 1 aa (fe aa aa (bG (ae 1 aa (al (L0 aa ?_)))))))))
   refine ae 1 aa (af ?_)
   refine ai (ae 2 aa ?_)
   rw[L5 (n:=dW q.tok.text) (by omega)]
   refine ae 3 aa (af ?_)
   refine ax ?_
   exact⟨_,PS.bq a q.step,rfl,⟨rfl,trivial⟩,pB rfl rfl (by rw[I]) (fun _=>by rw[I])⟩
  have lp:¬((dW q.tok.text:Nat):Int)=9223372036854775808:=by simpa using A
  have I:p.literal D=(⟨1, -((dW q.tok.text:Nat):Int),[]⟩,q.step):=by rw[G];exact Fz hc (by rw[hi,aw (Or.inl (by omega))];rfl)
  refine aS aa (A) (aS aa (A) (au aa (z) (cK aa (A) aa ?_)))
  refine al (cK aa (z) aa ?_)
  refine af (eJ aa aa (aU (aM (ak 1 aa (fe aa aa (bG (ae 1 aa (al (L0 aa ?_)))))))))
  refine ae 1 aa (af ?_)
  refine ai (ae 2 aa ?_)
  rw[L5 (n:=dW q.tok.text) (by omega)]
  refine ae 3 aa (af ?_)
  refine ax ?_
  exact⟨_,PS.bq a q.step,rfl,⟨rfl,trivial⟩,pB rfl rfl (by rw[I]) (fun _=>by rw[I])⟩
 have h3:p.tok.kind=3:=by simpa using J
 obtain⟨G,IS⟩:=Un (D:=D) h0 h3
 have K:=hp.sign gH
 refine cP aa (J) (iJ aa (J) (cP aa (J) (dG (cK aa (J) aa ?_))))
 refine bo 1 aa (dc ?_)
 refine eJ aa aa (aU (ai (ae 1 aa (bI (mr F hp.ok gH) aa aa aa aa ?_))))
 rw[IS]
 generalize (p.sign gH).2=q at G K⊢
 refine ae 1 aa (af ?_)
 refine ai (ae 1 aa ?_)
 refine bI (vK F K.ok (k:=3) (by decide)) rfl rfl rfl rfl ?_
 refine ae 1 aa (af ?_)
 refine aM (ak 5 aa (aK aa (fun O=>?_) (fun O=>?_)))
 ·have h5:¬(q.take 3 0).2.err=0:=by simpa using O
  have I:(p.literal D).2=(q.take 3 0).2:=by rw[G,JK h5]
  exact ak 3 aa (ax (⟨_,PS.bq a (q.take 3 0).2,aa,⟨aa,trivial⟩,pB (v:=cq) aa aa I.symm (fun k=>absurd k h5)⟩))
 have h5:(q.take 3 0).2.err=0:=by simpa using O
 obtain⟨U,h2⟩:=zC h5
 have dR:=PS.lv K.ok (k:=3) (by decide) h2
 have fu:=K.ok.dY
 have nz:q.take 3 0=(q.tok.text,q.step):=tN U h2
 rw[nz]
 have hs:=K.nh.1 _ K.ok.mem h2
 have PQ:=BU hs
 have hc:q.called 3=true:=by unfold PS.called;rw[U,h2];rfl
 have hi:=Lq.int
 have mT:((q.aJ+1:Nat):Int) -Int.ofNat 1=((q.aJ:Nat):Int):=by simp only[bb];omega
 refine aU (ai (ae 1 aa ?_))
 refine al (pD (args:=[dS q.tok.text]) rfl (by repeat(first|exact trivial|apply And.intro)) (Gj F hs) (fun r hn hr=>?_))
 subst hr
 refine ae 1 aa (af ?_)
 refine aM (ai (ae 3 aa (da (g:=ia) aa (fun z=>?_) (fun z=>?_))))
 ·have aaQ:(9223372036854775808:Int)<(dW q.tok.text:Nat):=by simpa using z
  have I:(p.literal D).2=q.fail 10:=by rw[G];exact FF hc (by rw[hi,aj (fun k=>by omega)])
  refine aS aa (z) (aS aa (z) (aS aa (z) (B4 aa (B4 aa (aS aa (z) (al (cU aa (z) aa ?_)))))))
  refine af (fe aa aa (ai (ae 4 aa ?_)))
  refine al (gj (a:=((q.aJ+1:Nat):Int)) rfl rfl (by simp only[bb];omega) (by simp only[bb];omega) ?_)
  rw[mT]
  refine ae 3 aa (af ?_)
  refine ai ?_
  refine ez (PS.bq a q++[(2,.one 92 32 [d0,d0,dS []])]) (cG (by rw[rM U];rfl) ⟨rfl,trivial⟩) ?_
  refine ae 1 aa ?_
  refine bI (lX F K.ok (by decide)) rfl rfl rfl rfl ?_
  refine af (ak 3 aa (ax ?_))
  exact⟨_,PS.bq a (q.fail 10),rfl,⟨rfl,trivial⟩,pB (v:=cq) rfl rfl I.symm (fun k=>absurd k (by rw[vB U];decide))⟩
 have hle:((dW q.tok.text:Nat):Int)≤9223372036854775808:=by simpa using z
 refine au aa (z) (bM aa ?_)
 refine au aa (z) (gZ aa aa ?_)
 refine au aa (z) (bM aa ?_)
 refine da (g:=jd) aa (fun A=>?_) (fun A=>?_)
 ·have heq:((dW q.tok.text:Nat):Int)=9223372036854775808:=by simpa using A
  have I:(p.literal D).2=q.fail 10:=by rw[G];exact FF hc (by rw[hi,aj (fun k=>k.elim (fun k=>by omega) (fun k=>Bool.noConfusion k.1))])
  refine au aa (A) (bM aa ?_)
  refine au aa (A) (ju aa ?_)
  refine au aa (z) (cU aa (A) aa ?_)
  refine al (cK aa (z) aa ?_)
  refine af (fe aa aa (ai (ae 4 aa ?_)))
  refine al (gj (a:=((q.aJ+1:Nat):Int)) rfl rfl (by simp only[bb];omega) (by simp only[bb];omega) ?_)
  rw[mT]
  refine ae 3 aa (af ?_)
  refine ai ?_
  refine ez (PS.bq a q++[(2,.one 92 32 [d0,d0,dS []])]) (cG (by rw[rM U];rfl) ⟨rfl,trivial⟩) ?_
  refine ae 1 aa ?_
  refine bI (lX F K.ok (by decide)) rfl rfl rfl rfl ?_
  refine af (ak 3 aa (ax ?_))
  exact⟨_,PS.bq a (q.fail 10),rfl,⟨rfl,trivial⟩,pB (v:=cq) rfl rfl I.symm (fun k=>absurd k (by rw[vB U];decide))⟩
 have lp:¬((dW q.tok.text:Nat):Int)=9223372036854775808:=by simpa using A
 have I:p.literal D=(⟨1,((dW q.tok.text:Nat):Int),[]⟩,q.step):=by rw[G];exact Fz hc (by rw[hi,aw (Or.inl (by omega))];rfl)
 refine aS aa (A) (aS aa (A) (au aa (z) (cK aa (A) aa ?_)))
 refine al (cK aa (z) aa ?_)
 refine af (eJ aa aa (aU (aM (ak 1 aa (eJ aa aa (aU (ai (ae 2 aa ?_))))))))
 rw[wrap_i64 (by omega) (by omega)]
 refine ae 3 aa (af ?_)
 refine ax ?_
 exact⟨_,PS.bq a q.step,rfl,⟨rfl,trivial⟩,pB rfl rfl (by rw[I]) (fun _=>by rw[I])⟩
open Go
variable{p q:PS}{a:Bool}{D:Rd}{e:List aL}{N M n:Nat}
structure EG(q:PS)(e:List aL)(N:Nat):Prop where
 eq:q.err=0→e=q.ex
 len:e.length≤q.aJ+N
theorem EG.dz(h:EG q e N)(hk:N≤M):EG q e M:=⟨h.eq,by have:=h.len;omega⟩
theorem EG.zero(z:q.ok)(h:EG q e N)(h0:q.err=0):EG q e 0:=⟨h.eq,by rw[h.eq h0];have:=z.vc;rw[aw h0] at this;exact this⟩
theorem EG.small(h:EG q e N)(z:q.ok)(hN:N≤200000):e.length≤300000:=by have:=h.len;have:=z.lt;have:=z.dY;omega
theorem EG.join{i:Int}(h:EG q e N)(z:q.err=0→i+1=(q.ex.length:Nat))(kind x:Int):EG (q.push ⟨kind,x,i,[],[],cq⟩).2 (e++[⟨kind,x,((e.map aL.enc).length:Nat) -Int.ofNat 1,[],[],cq⟩]) (N+1):=by
 refine⟨fun h0=>?_,by have:=h.len;rw[bK];show e.length+1≤q.aJ+(N+1);omega⟩
 have A:e=q.ex:=h.eq h0
 have h2:=z h0
 subst A
 show q.ex++_=q.ex++_
 rw[cC,show((q.ex.length:Nat):Int) -Int.ofNat 1=i by simp only[bb];omega]
theorem EG.un{x i:Int}(h:EG q e N)(z:q.err=0→x=i)(kind:Int):EG (un q kind i).2 (e++[⟨kind,x,0,[],[],cq⟩]) (N+1):=by
 refine⟨fun h0=>?_,by have:=h.len;rw[bK];show e.length+1≤q.aJ+(N+1);omega⟩
 have A:e=q.ex:=h.eq h0
 rw[z h0,A];rfl
theorem EG.push{x y:aL}(h:EG q e N)(z:q.err=0→x=y):EG (q.push y).2 (e++[x]) (N+1):=by
 refine⟨fun h0=>?_,by have:=h.len;rw[bK];show e.length+1≤q.aJ+(N+1);omega⟩
 have A:e=q.ex:=h.eq h0
 rw[z h0,A];rfl
theorem EG.up(h:EG q e N):EG q.up e N:=⟨h.eq,h.len⟩
theorem EG.step(h:EG q e N):EG q.step e N:=⟨h.eq,by have:=h.len;show e.length≤q.aJ+1+N;omega⟩
theorem EG.go(h:EG p e N)(z:q.err=0→p.err=0∧q.ex=p.ex)(h2:p.aJ≤q.aJ):EG q e N:=⟨fun h0=>by rw[(z h0).2];exact h.eq (z h0).1,by have:=h.len;omega⟩
theorem vF(p:PS)(e:Int):(p.fail e).ex=p.ex:=by unfold PS.fail;split<;>rfl
theorem KD(p:PS)(k:Int)(s:List UInt8):(p.accept k s).2.ex=p.ex:=by unfold PS.accept;split<;>rfl
theorem oy(p:PS)(s:List UInt8):(p.sign s).2.ex=p.ex:=KD ..
theorem mi(p:PS)(s:List UInt8):(p.keyword s).2.ex=p.ex:=KD ..
theorem Th(p:PS)(s:List UInt8):(p.fO s).ex=p.ex:=by unfold PS.fO;split<;>simp only[vF,mi]
theorem rN(p:PS)(s:List UInt8):(p.bx s).ex=p.ex:=by unfold PS.bx;split<;>simp only[vF,oy]
theorem pn{l:List (List UInt8)}:∀{p:PS},(p.aW l).ex=p.ex:=by
 induction l with
 |nil=>intro p;rfl
 |cons s r z=>intro p;exact(z (p:=p.fO s)).trans (Th p s)
theorem ql(p:PS)(k e:Int):(p.take k e).2.ex=p.ex:=by
 unfold PS.take
 split
 ·split
  ·split
   ·rfl
   exact vF ..
  exact vF ..
 rfl
theorem Ry(p:PS)(D:Rd):(p.literal D).2.ex=p.ex:=by
 unfold PS.literal
 repeat' split
 all_goals first|rfl|simp only[vF,oy,mi,PS.integer,ql]
theorem EG.km{k:Nat}(h:EG p e N)(g:bD k p q)(z:q.ex=p.ex):EG q e N:=h.go (fun h0=>⟨g.er h0,z⟩) g.aJ
def LI(n:Nat)(m:PS→Int×PS):Prop:=∀p,St p→p.depth+n=61→(m p).2.err=0→(m p).1+1=((m p).2.ex.length:Nat)
theorem za(p:PS)(e:aL):(p.push e).1+1=((p.push e).2.ex.length:Nat):=by
 show((p.ex.length:Nat):Int)+1=((p.ex++[e]).length:Nat)
 rw[bK];rfl
theorem Je(p:PS):p.f5.1+1=(p.f5.2.ex.length:Nat):=by
 unfold PS.f5
 split<;>exact za ..
theorem L7{sub:PS→Int×PS}{test:PS→Option (Int×PS)}:∀(k:Nat)(x:Int)(p:PS),(p.err=0→x+1=(p.ex.length:Nat))→(j' sub test k x p).2.err=0→(j' sub test k x p).1+1=((j' sub test k x p).2.ex.length:Nat)
 |0,x,p,h,h0=>h h0
 |k+1,x,p,h,h0=>by
  cases z:test p with
  |none=>rw[rO z] at h0⊢;exact h h0
  |some w=>
   obtain⟨kind,q⟩:=w
   rw[qd z] at h0⊢
   exact L7 k _ _ (fun _=>za ..) h0
theorem vC{sub:PS→Int×PS}{test:PS→Option (Int×PS)}(h:LI n sub):LI n (chain sub test):=fun p hp z h0=>L7 _ _ _ (h p hp z) h0
theorem Vr{sub:PS→Int×PS}(h:LI n sub):LI n (iD sub):=fun p hp z h0=>by
 revert h0
 unfold iD
 repeat' split
 all_goals first|exact fun _=>za ..|exact h p hp z
theorem Vt{sub inner:PS→Int×PS}(h:LI (n+1) sub):LI (n+1) (ni sub inner):=fun p hp z h0=>by
 revert h0
 unfold ni
 split
 ·exact h p hp z
 rename_i A
 split
 ·rename_i he
  intro h0
  rw[PS.xe he] at h0
  have G:p.err=0:=PS.w4 (by simpa using A)
  rw[show(p.fail 19).err=19 by unfold PS.fail;rw[aw G]] at h0
  cases h0
 exact fun _=>za ..
theorem L8{inner:PS→Int×PS}(h:LI n inner):LI (n+1) (lg D inner):=fun p hp U h0=>by
 revert h0
 unfold lg
 split
 ·rename_i z;exact fun h0=>absurd h0 z
 rename_i z
 have z:p.err=0:=by simpa using z
 split
 ·rename_i G
  split
  ·rename_i he
   intro h0
   rw[PS.xe he] at h0
   rw[show(p.fail 19).err=19 by unfold PS.fail;rw[aw z]] at h0
   cases h0
  rename_i he
  intro h0
  obtain⟨I,J⟩:=hp.qV (by simpa using he) (PS.kV hp.ok (kind:=5) (by decide) G)
  have h2:((inner p.enter.2.step).2.bx dL).err=0:=h0
  have K:(inner p.enter.2.step).2.err=0:=by
   by_cases A:(inner p.enter.2.step).2.err=0
   ·exact A
   rw[Jq A] at h2;exact h2
  have O:=h _ I (by rw[J];omega) K
  show(inner p.enter.2.step).1+1=(((inner p.enter.2.step).2.bx dL).ex.length:Nat)
  rw[rN];exact O
 split
 ·exact fun _=>Je p
 exact fun _=>za ..
theorem vL(D:Rd):∀n,LI n (lC D n)∧LI n (eE D n)
 |0=>⟨fun p h A=>absurd h.ok.kD (by omega),fun p h A=>absurd h.ok.kD (by omega)⟩
 |n+1=>by
  obtain⟨G,_⟩:=vL D n
  have I:LI (n+1) (cmpL D n):=Vr (vC (vC (L8 G)))
  have z:LI (n+1) (eE D (n+1)):=Vt I
  exact⟨vC (vC z),z⟩
theorem Gl(D:Rd)(n:Nat):LI (n+1) (eW D n):=L8 (vL D n).1
theorem B6(D:Rd)(n:Nat):LI (n+1) (e8 D n):=vC (Gl D n)
theorem vG(D:Rd)(n:Nat):LI (n+1) (eo D n):=vC (B6 D n)
theorem L9(D:Rd)(n:Nat):LI (n+1) (iY D n):=vC (vL D (n+1)).2
def RT(T:bf)(f:Nat)(m:PS→Int×PS)(n c:Nat):Prop:=∀(a:Bool)(p:PS)(e:List aL)(N:Nat),St p→p.depth+n=61→EG p e N→N≤100000→
 bX T f [.vp 1000 0,.ac 1050 (e.map aL.enc).length 8] (p.be a e) fun r Bn=>∃z,r= .ac 1050 (z.map aL.enc).length 8∧Bn=(m p).2.be a z∧EG (m p).2 z (N+c)
theorem RT.dz{T:bf}{f:Nat}{m:PS→Int×PS}{n c d:Nat}(h:RT T f m n c)(J:c≤d):RT T f m n d:=fun a p e N hp z he hN=>(h a p e N hp z he hN).mono fun _ _⟨A,G,h2,I⟩=>⟨A,G,h2,I.dz (by omega)⟩
def kL(k:Nat)(V:b0):b0→b0
 |[]=>[]
 |(s,v)::r=>bif(match aZ V s with|some w=>w.no k|none=>false) then(s,v)::kL k V r else kL k V r
theorem FU{k:Nat}{V:b0}{s:Nat}{v:VV}:∀{VE:b0},aZ (kL k V VE) s=some v→aZ VE s=some v
 |[],h=>by cases h
 |(c,w)::r,h=>by
  unfold kL at h
  rw[en]
  by_cases z:c=s
  ·subst z
   rw[aw rfl]
   cases hk:(match aZ V c with|some w=>w.no k|none=>false)
   ·rw[hk] at h
    rw[cond_false,show aZ (kL k V r) c=none from gone hk r] at h;cases h
   rw[hk] at h
   simpa[en] using h
  rw[aj z]
  cases hk:(match aZ V c with|some w=>w.no k|none=>false)
  ·rw[hk] at h;exact FU h
  rw[hk] at h
  rw[cond_true,en,aj z] at h
  exact FU h
where gone {c:Nat} (hk:(match aZ V c with|some w=>w.no k|none=>false)=false):∀r,aZ (kL k V r) c=none
 |[]=>rfl
 |(d,w)::r=>by
  unfold kL
  by_cases hd:d=c
  ·subst hd;rw[hk];exact gone hk r
  cases (match aZ V d with|some w=>w.no k|none=>false)
  ·exact gone hk r
  rw[cond_true,en,aj hd];exact gone hk r
section
variable{T:bf}{VE:b0}{B:br}
def Bp:List (Nat×Nat):=[(1050,1050)]
theorem rW{f:Nat}{d:Key}{Z:Option (List Nat)}{z:List bt}{l:List aG}{bZ:List VV}{Bi:br}{P:VV→br→Prop}{Q:b0→br→Prop}(k:Nat)(σ:List (Nat×Nat))(N:Nat)(hN:Nat.ble 1050 N=true)(A:n9 N σ=true)(hE:kA N (kL k VE VE)=true)(hB:kB N B=true)(G:xX σ Bi=true)
  (I:clean (kL k VE VE) (eH σ B) σ=true) (hl:iU VE l=some (iI σ N bZ)) (J:qA σ N Bi B) (h:bX T f bZ Bi P) (K:∀r Bn,P r Bn→VO T z ((d.n,r.cu σ N)::kL k VE VE) (mP σ N Bn++eH σ B) Q):VO T (⟨some d,none,Z,.call f l⟩::z) VE B Q:=by
 intro H0 X0 E H β O
 obtain⟨vs,a1,a2⟩:=vk O hl
 have U:=O.less fun s v(hk:aZ (kL k VE VE) s=some v)=>FU hk
 refine K1 ((Ge a1 (F4 σ N hN A hE hB G I J h (Q:=fun v B'=>VO T z ((d.n,v)::kL k VE VE) B' Q) K U a2)).mono fun a H' hp=>?_)
 obtain⟨v,B',β',hw,Y,hv,K⟩:=hp
 exact(K H0 X0 _ H' β' (Y.set hv)).mono fun _ _ hp=>hp.of hw O.bc
theorem jm{f:Nat}{d:Key}{K:Option (List Nat)}{I:List bt}{l:List aG}{bZ:List VV}{p J:PS}{e:List aL}{G:List aL→Prop}{Q:b0→br→Prop}(h:bX T f bZ (p.be a e) fun r Bn=>∃z,r= .ac 1050 (z.map aL.enc).length 8∧Bn=J.be a z∧G z)(O:aZ B 1000=some (.one 164 64 (p.lL a)))(h2:aZ B 1050=some (.acc 142 88 8 (e.map aL.enc)))
  (U:iU VE l=some (iI jk 2000 bZ)) (Y:(kA 2000 (kL 1050 VE VE)&&(kB 2000 B&&clean (kL 1050 VE VE) (eH jk B) jk))=true) (Z:∀z,G z→VO T I ((d.n,.ac 1050 (z.map aL.enc).length 8)::kL 1050 VE VE) (J.be a z++eH jk B) Q):VO T (⟨some d,none,K,.call f l⟩::I) VE B Q:=by
 obtain⟨a1,A⟩:=iv Y
 obtain⟨A,a3⟩:=iv A
 exact rW (Bi:=p.be a e) 1050 jk 2000 rfl rfl a1 A rfl a3 U ⟨rfl,O,rfl,h2,trivial⟩ h fun r Bn hp=>by
  obtain⟨z,rfl,rfl,h5⟩:=hp
  exact Z z h5
theorem uH{f:Nat}{d:Key}{I:Option (List Nat)}{G:List bt}{l:List aG}{bZ:List VV}{e z:List aL}{Q:b0→br→Prop}(h:bX T f bZ [(1050,.acc 142 88 8 (e.map aL.enc))] fun r Bn=>r= .ac 1050 (z.map aL.enc).length 8∧Bn=[(1050,.acc 142 88 8 (z.map aL.enc))])(J:aZ B 1050=some (.acc 142 88 8 (e.map aL.enc)))
  (K:iU VE l=some (iI Bp 2000 bZ)) (O:(kA 2000 (kL 1050 VE VE)&&(kB 2000 B&&clean (kL 1050 VE VE) (eH Bp B) Bp))=true) (U:VO T G ((d.n,.ac 1050 (z.map aL.enc).length 8)::kL 1050 VE VE) ([(1050,.acc 142 88 8 (z.map aL.enc))]++eH Bp B) Q):VO T (⟨some d,none,I,.call f l⟩::G) VE B Q:=by
 obtain⟨Y,A⟩:=iv O
 obtain⟨A,Z⟩:=iv A
 exact rW (Bi:=[(1050,.acc 142 88 8 (e.map aL.enc))]) 1050 Bp 2000 rfl rfl Y A rfl Z K ⟨rfl,J,trivial⟩ h fun r Bn hp=>by
  obtain⟨rfl,rfl⟩:=hp
  exact U
theorem Od{f:Nat}{l:List aG}{bZ:List VV}{Q:VV→br→Prop}(h:bX T f bZ (p.bq a) (EN D a p))(A:aZ B 1000=some (.one 164 64 (p.lL a)))
  (G:(kA 2000 VE&&(kB 2000 B&&clean VE (eH f4 B) f4))=true) (I:iU VE l=some (iI f4 2000 bZ)) (J:∀v b q,(b=true→q=(p.literal D).2∧(q.err=0→v=(p.literal D).1))→(b=false→q=p∧(p.literal D).2=p.fail 5)→Q (.tuple [et (gU.enc v),dB b]) (q.bq a++eH f4 B)):VI T (.call f l) VE B [1000] Q:=by
 obtain⟨K,z⟩:=iv G
 obtain⟨z,O⟩:=iv z
 exact jI (Bi:=p.bq a) f4 2000 rfl rfl K z rfl O I ⟨rfl,A,trivial⟩ h fun r Bn hp=>by
  obtain⟨v,b,q,rfl,rfl,U,Y⟩:=hp
  exact J v b q U Y
end
open Go
set_option maxRecDepth 10000
theorem kM{T:bf}(F:FT T){a:Bool}{p:PS}(hp:p.ok):bX T 148 [.vp 1000 0,dI 2] (PS.bq a p) fun r Bn=>r=dS p.name.1∧Bn=PS.bq a p.name.2:=vK F hp (k:=2) (by decide)
theorem As{a:Bool}{q:PS}{e:List aL}{x:aL}{B:br}(z:aZ B 1000=some (.one 164 64 (q.lL a)))(h2:aZ B 1050=some (.acc 142 88 8 (e.map aL.enc++[x.enc]))):bw (q.be a (e++[x])) B:=⟨z,by rw[h2,dT];rfl,trivial⟩
theorem Si{p:PS}(h:(p.sign nK).1=true):kj p=some (3,(p.sign nK).2):=by
 unfold kj;rw[aj (by rw[xA (.inr (by rw[(qs h).2.2];decide))];decide),aw h]
theorem Rz{p:PS}(h:(p.sign gH).1=true):kj p=some (4,(p.sign gH).2):=by unfold kj;rw[aw h]
theorem Uo{p:PS}(z:(p.sign nK).1=false)(h2:(p.sign gH).1=false):kj p=none:=by
 unfold kj;rw[aj (by rw[h2];decide),aj (by rw[z];decide)]
theorem GH{p:PS}{s:List UInt8}(h:(p.sign s).1=true):p.aJ+1≤(p.sign s).2.aJ:=by rw[show(p.sign s).2=p.step from(PS.pz h).1];exact bY _
theorem y6{p:PS}{s:List UInt8}(h:(p.keyword s).1=true):p.aJ+1≤(p.keyword s).2.aJ:=by rw[show(p.keyword s).2=p.step from(PS.pz h).1];exact bY _
theorem EG.deep{p:PS}{e:List aL}{N:Nat}(h:EG p e N)(he:p.enter.1=true):EG p.enter.2.step e N:=by
 obtain⟨z,_⟩:=PS.GD he
 rw[z];exact⟨h.eq,by have:=h.len;show e.length≤p.aJ+1+N;omega⟩
theorem pC{e:List aL}{x:Int}(h:x+1=(e.length:Nat)):(((e.map aL.enc).length:Nat):Int) -Int.ofNat 1=x:=by rw[cC];simp only[bb];omega
theorem qS{m:Int×PS}{e:List aL}{N:Nat}(h:EG m.2 e N)(z:m.2.err=0→m.1+1=(m.2.ex.length:Nat))(h0:m.2.err=0):m.1+1=(e.length:Nat):=by rw[h.eq h0];exact z h0
theorem zb{q:PS}{e:List aL}{N:Nat}{x y:aL}(h:EG q e N):(q.push y).2.err=0→(q.push y).1+1=((e++[x]).length:Nat):=fun h0=>by
 have z:e=q.ex:=h.eq h0
 rw[bK,z];rfl
set_option maxHeartbeats 1000000 in
theorem uI{T:bf}(F:FT T){e:List aL}(z:e.length≤300000)(kind x:Int):bX T 236 [.ac 1050 (e.map aL.enc).length 8,dI kind,dI x] [(1050,.acc 142 88 8 (e.map aL.enc))] fun r Bn=>r= .ac 1050 ((e++[(⟨kind,x,((e.map aL.enc).length:Nat) -Int.ofNat 1,[],[],cq⟩:aL)]).map aL.enc).length 8∧Bn=[(1050,.acc 142 88 8 ((e++[(⟨kind,x,((e.map aL.enc).length:Nat) -Int.ofNat 1,[],[],cq⟩:aL)]).map aL.enc))]:=by
 refine cr F.aan aa (ak 1 aa (ai (ae 5 aa ?_)))
 refine al (gj rfl rfl (by simp only[cC,bb];omega) (by simp only[cC,bb];omega) ?_)
 refine ae 2 aa ?_
 refine al (ey (rows:=e.map aL.enc) (ys:=[(⟨kind,x,((e.map aL.enc).length:Nat) -Int.ofNat 1,[],[],cq⟩:aL).enc]) rfl rfl rfl (.bs (rows:=[(⟨kind,x,((e.map aL.enc).length:Nat) -Int.ofNat 1,[],[],cq⟩:aL).enc]) rfl) (bW rfl) (by rw[bK,cC];simp only[dk,dO];omega) (fun h=>by rw[h];rfl) (fun h=>by rw[h];rfl) ?_)
 refine ae 1 aa (af ?_)
 refine ax ?_
 rw[dT]
 exact⟨_,[(1050,.acc 142 88 8 (e.map aL.enc++[(⟨kind,x,((e.map aL.enc).length:Nat) -Int.ofNat 1,[],[],cq⟩:aL).enc]))],aa,⟨aa,trivial⟩,aa,aa⟩
set_option maxHeartbeats 2000000 in
theorem L'{T:bf}(F:FT T):∀(a:Bool)(p:PS)(e:List aL)(N:Nat),St p→True→EG p e N→N≤100000→bX T 205 [.vp 1000 0,.ac 1050 (e.map aL.enc).length 8] (p.be a e) fun r Bn=>∃A,r= .ac 1050 (A.map aL.enc).length 8∧Bn=p.f5.2.be a A∧EG p.f5.2 A (N+1):=by
 intro a p e N hp O he hN
 have K:=he.small hp.ok (by omega)
 have G:St p.name.2:=hp.name
 refine cr F.Z7 aa (ak 1 aa (ai (ae 1 aa (bI (kM F hp.ok) aa aa aa aa (ae 3 aa (af ?_))))))
 refine aM (ai (ae 1 aa (bI (mr F G.ok jg) aa aa aa aa (af (aK aa (fun z=>?_) (fun z=>?_))))))
 ·have I:p.f5=((p.name.2.sign jg).2.name.2).push ⟨2,0,0,p.name.1,(p.name.2.sign jg).2.name.1,cq⟩:=by unfold PS.f5;rw[aw z]
  have h2:=(G.sign jg)
  have J:EG ((p.name.2.sign jg).2.name.2) e N:=((he.km (bD.take hp (k:=2) (e:=0) (by decide)) (ql ..)).km (bD.xY G jg) (oy ..)).km (bD.take h2 (k:=2) (e:=0) (by decide)) (ql ..)
  refine ak 4 aa (bG (ae 1 aa (bI (kM F h2.ok) aa aa aa aa (ae 2 aa (af ?_)))))
  refine ai (ae 3 aa ?_)
  refine al (ey (rows:=e.map aL.enc) (ys:=[(⟨2,0,0,p.name.1,(p.name.2.sign jg).2.name.1,cq⟩:aL).enc]) rfl rfl rfl (.bs (rows:=[(⟨2,0,0,p.name.1,(p.name.2.sign jg).2.name.1,cq⟩:aL).enc]) rfl) (bW rfl) (by rw[bK,cC];simp only[dk,dO];omega) (fun h=>by rw[h];rfl) (fun h=>by rw[h];rfl) ?_)
  refine ae 1 aa (af ?_)
  refine ax ?_
  rw[I]
  exact⟨_,PS.be a (PS.push _ ⟨2,0,0,p.name.1,(p.name.2.sign jg).2.name.1,cq⟩).2 (e++[⟨2,0,0,p.name.1,(p.name.2.sign jg).2.name.1,cq⟩]),rfl,As rfl rfl,⟨e++[⟨2,0,0,p.name.1,(p.name.2.sign jg).2.name.1,cq⟩],by rw[dT];rfl,rfl,J.push (fun _=>rfl)⟩⟩
 have I:p.f5=p.name.2.push ⟨2,0,0,[],p.name.1,cq⟩:=by unfold PS.f5;rw[aj (by rw[z];decide)]
 have J:EG p.name.2 e N:=he.km (bD.take hp (k:=2) (e:=0) (by decide)) (ql ..)
 rw[PS.ig z]
 refine aU (ai (ae 3 aa ?_))
 refine al (ey (rows:=e.map aL.enc) (ys:=[(⟨2,0,0,[],p.name.1,cq⟩:aL).enc]) rfl rfl rfl (.bs (rows:=[(⟨2,0,0,[],p.name.1,cq⟩:aL).enc]) rfl) (bW rfl) (by rw[bK,cC];simp only[dk,dO];omega) (fun h=>by rw[h];rfl) (fun h=>by rw[h];rfl) ?_)
 refine ae 1 aa (af ?_)
 refine ax ?_
 rw[I]
 exact⟨_,PS.be a (PS.push _ ⟨2,0,0,[],p.name.1,cq⟩).2 (e++[⟨2,0,0,[],p.name.1,cq⟩]),rfl,As rfl rfl,⟨e++[⟨2,0,0,[],p.name.1,cq⟩],by rw[dT];rfl,rfl,J.push (fun _=>rfl)⟩⟩
end Go.Ev.Pp
