/- Part 14 of rules for walks through the code of a program, and of such walks; what each part proves is said by its theorems. -/
import Derived.Test.YtijnechfhdlgiaaGreatDoorS11
import Derived.Test.YtijnechfhdlgiaaGreatDoorS13
set_option linter.unusedVariables false
set_option linter.unusedSimpArgs false
namespace Go.Ev.Pp
open Go
set_option maxRecDepth 10000
theorem PQ{T:bd}(F:FT T){D:Rd}(z:hM T D){s:List UInt8}(G:s.length≤200):bY T 215 ([dS s]++[.vp 1001 0]) [(1001,.one 3 8 [d0])] fun r Bn=>r=dI (D.jY s)∧Bn=[(1001,.one 3 8 [dI (D.day s).1])]:=by
 refine cw F.aaT aa (al 1 aa (ai (ae 1 aa ?_)))
 refine ak (mO (args:=[dS s]) rfl (by repeat(first|exact trivial|apply And.intro)) (z.day s G) (fun r J I=>?_))
 subst I
 refine ae 5 aa (af ?_)
 refine aK (ai (ae 3 aa (dc (g:=aV) aa (fun bM=>?_) (fun bM=>?_))))
 ·refine ao aa (bM) (bN aa ?_)
  refine ao aa (bM) (Am aa aa ?_)
  refine ak (cT aa (bM) aa ?_)
  refine af (aI aa (fun A=>?_) (fun A=>?_))
  ·refine bD (ae 1 aa (af ?_))
   refine al 2 aa (al 2 aa (ax (⟨_,[(1001,.one 3 8 [dI (D.day s).1])],aa,⟨aa,trivial⟩,?_,aa⟩)))
   clear F z
   unfold Rd.jY
   simp_all [gB]
  refine aQ (al 2 aa (al 2 aa (ax (⟨_,[(1001,.one 3 8 [dI (D.day s).1])],aa,⟨aa,trivial⟩,?_,aa⟩))))
  clear F z
  unfold Rd.jY
  simp_all [gB]
 refine en aa (bM) (en aa (bM) (ak (cJ aa (bM) aa ?_)))
 refine af (eC aa aa (aQ (al 2 aa (al 2 aa (ax (⟨_,[(1001,.one 3 8 [dI (D.day s).1])],aa,⟨aa,trivial⟩,?_,aa⟩))))))
 clear F z
 unfold Rd.jY
 simp_all [gB]
theorem day{T:bd}(F:FT T){D:Rd}(z:hM T D){p:PS}(hp:St p):bY T 178 [.vp 1000 0] (PS.bi p) fun r Bn=>r=dI (p.day D).1∧Bn=PS.bi (p.day D).2:=by
 refine cw F.PN aa (al 1 aa (al 2 aa (ai (ae 2 aa ?_))))
 refine ak (jU (b9:=[.vp 1000 0,dI 4,.fn 215 [.vp 1001 0]]) (Bi:=PS.bi p++[(1001,.one 3 8 [d0])]) [(1000,1000),(1050,1050),(1001,3)] 2000 rfl rfl rfl rfl rfl rfl rfl (wq rfl rfl rfl rfl ⟨rfl,rfl,trivial⟩) (W2 F hp (by decide) (fun _ _=>PQ F z (hp.nz.2 _ hp.ok.mem))) (fun r Bn fT=>?_))
 obtain⟨rfl,rfl⟩:=fT
 refine eB (PS.bi (p.take 4 (D.jY p.tok.text)).2++[(3,.one 3 8 [.d (if p.called 4=true then .i .i64 (D.day p.tok.text).1 else .i .i64 0)])]) (dq aa aa ⟨aa,trivial⟩) (af (al 2 aa (ax (⟨_,PS.bi (p.day D).2,aa,cL aa aa,?_,aa⟩))))
 unfold PS.day
 by_cases A:p.called 4=true<;>simp[gB,A]<;>rfl
theorem UQ{T:bd}(F:FT T){D:Rd}(z:hM T D){s:List UInt8}(A:s.length≤200):bY T 212 ([dS s]++[.vp 1001 0]) [(1001,.one 42 16 [d0,d0])] fun r Bn=>r=dI (D.iC s).2∧Bn=[(1001,.one 42 16 [dI (D.iC s).1.1,dI (D.iC s).1.2])]:=by
 refine cw F.aaQ aa (al 1 aa (ai (ae 1 aa ?_)))
 refine ak (mO (args:=[dS s]) rfl (by repeat(first|exact trivial|apply And.intro)) (z.iC s A) (fun r I G=>?_))
 subst G
 refine ae 6 aa (af ?_)
 exact al 2 aa (al 2 aa (ax (⟨_,[(1001,.one 42 16 [dI (D.iC s).1.1,dI (D.iC s).1.2])],aa,⟨aa,trivial⟩,aa,aa⟩)))
theorem period{T:bd}(F:FT T){D:Rd}(z:hM T D){p:PS}(hp:St p):bY T 173 [.vp 1000 0] (PS.bi p) fun r Bn=>r= .agg [dI (p.period D).1.1,dI (p.period D).1.2]∧Bn=PS.bi (p.period D).2:=by
 refine cw F.aat aa (al 1 aa (al 1 aa (ai (ae 2 aa ?_))))
 refine ak (jU (b9:=[.vp 1000 0,dI 4,.fn 212 [.vp 1001 0]]) (Bi:=PS.bi p++[(1001,.one 42 16 [d0,d0])]) [(1000,1000),(1050,1050),(1001,3)] 2000 rfl rfl rfl rfl rfl rfl rfl (wq rfl rfl rfl rfl ⟨rfl,rfl,trivial⟩) (W3 F hp (by decide) (fun _ _=>UQ F z (hp.nz.2 _ hp.ok.mem))) (fun r Bn fT=>?_))
 obtain⟨rfl,rfl⟩:=fT
 refine eB (PS.bi (p.take 4 (D.iC p.tok.text).2).2++[(3,.one 42 16 [.d (if p.called 4=true then .i .i64 (D.iC p.tok.text).1.1 else .i .i64 0),.d (if p.called 4=true then .i .i64 (D.iC p.tok.text).1.2 else .i .i64 0)]),(2,.one 42 16 [d0,d0])]) (dq aa aa ⟨aa,aa,trivial⟩) (af (al 2 aa (ax (⟨_,PS.bi (p.period D).2,aa,cL aa aa,?_,aa⟩))))
 unfold PS.period
 by_cases A:p.called 4=true<;>simp[gB,A]<;>rfl
theorem TS{T:bd}(F:FT T){D:Rd}(K:hM T D){s:List UInt8}(G:nO s)(neg:Bool):bY T 238 ([dS s]++[.vp 1001 0,.vp 1002 0]) [(1001,.one 4 1 [dB neg]),(1002,.one 92 32 [dI 1,d0,.d (.s 0 0)])] fun r Bn=>r=dI (D.qw neg s)∧Bn=[(1001,.one 4 1 [dB neg]),(1002,.one 92 32 [dI 1,dI ((D.int neg s).getD 0),.d (.s 0 0)])]:=by
 refine cw F.aa5 aa (al 1 aa (aK (al 1 aa (aI aa (fun I=>?_) (fun I=>?_)))))
 ·subst I
  refine bD (ae 1 aa ?_)
  refine ak (CU (a:=[45]) (b:=s) rfl rfl (by have:=G.2.1;simp only[cP,dx];omega) ?_)
  refine ae 1 aa (af ?_)
  refine ai (ae 1 aa ?_)
  refine ak (mO (args:=[dS (45::s),dI 10,dI 64]) rfl (by repeat(first|exact trivial|apply And.intro)) (K.sint true s G) (fun r O J=>?_))
  obtain⟨n,e,rfl,z⟩:=J
  rcases z with⟨m,A,rfl,rfl⟩|⟨A,rfl⟩
  ·refine ae 5 aa (af ?_)
   refine aK (al 2 aa (eC aa aa (aQ (al 3 aa (al 1 aa (ax ?_))))))
   unfold Rd.qw
   rw[A]
   exact⟨_,[(1001,.one 4 1 [dB _]),(1002,.one 92 32 [dI 1,dI _,.d (.s 0 0)])],aa,⟨aa,aa,trivial⟩,aa,aa⟩
  refine ae 5 aa (af ?_)
  refine aK (al 2 aa (fm aa aa (al 1 aa (ax ?_))))
  unfold Rd.qw
  rw[A]
  exact⟨_,[(1001,.one 4 1 [dB _]),(1002,.one 92 32 [dI 1,dI _,.d (.s 0 0)])],aa,⟨aa,aa,trivial⟩,aa,aa⟩
 subst I
 refine aQ (ai (ae 1 aa ?_))
 refine ak (mO (args:=[dS s,dI 10,dI 64]) rfl (by repeat(first|exact trivial|apply And.intro)) (K.sint false s G) (fun r O J=>?_))
 obtain⟨n,e,rfl,z⟩:=J
 rcases z with⟨m,A,rfl,rfl⟩|⟨A,rfl⟩
 ·refine ae 5 aa (af ?_)
  refine aK (al 2 aa (eC aa aa (aQ (al 3 aa (al 1 aa (ax ?_))))))
  unfold Rd.qw
  rw[A]
  exact⟨_,[(1001,.one 4 1 [dB _]),(1002,.one 92 32 [dI 1,dI _,.d (.s 0 0)])],aa,⟨aa,aa,trivial⟩,aa,aa⟩
 refine ae 5 aa (af ?_)
 refine aK (al 2 aa (fm aa aa (al 1 aa (ax ?_))))
 unfold Rd.qw
 rw[A]
 exact⟨_,[(1001,.one 4 1 [dB _]),(1002,.one 92 32 [dI 1,dI _,.d (.s 0 0)])],aa,⟨aa,aa,trivial⟩,aa,aa⟩
theorem integer{T:bd}(F:FT T){D:Rd}(A:hM T D){p:PS}(hp:St p)(neg:Bool):bY T 211 [.vp 1000 0,dB neg] (PS.bi p) fun r Bn=>r=ez (p.integer D neg).1.enc∧Bn=PS.bi (p.integer D neg).2:=by
 refine cw F.aaP aa (al 2 aa (al 3 aa (ai (ae 2 aa ?_))))
 refine ak (jU (b9:=[.vp 1000 0,dI 3,.fn 238 [.vp 1001 0,.vp 1002 0]]) (Bi:=PS.bi p++[(1001,.one 4 1 [dB neg]),(1002,.one 92 32 [dI 1,d0,.d (.s 0 0)])]) [(1000,1000),(1050,1050),(1001,3),(1002,5)] 2000 rfl rfl rfl rfl rfl rfl rfl (wq rfl rfl rfl rfl ⟨rfl,rfl,rfl,rfl,trivial⟩) (W5 F hp (by decide) (fun _ hk=>TS F A (hp.nz.1 _ hp.ok.mem hk) neg)) (fun r Bn fT=>?_))
 obtain⟨rfl,rfl⟩:=fT
 refine eB (PS.bi (p.take 3 (D.qw neg p.tok.text)).2++[(5,.one 92 32 [dI 1,.d (if p.called 3=true then .i .i64 ((D.int neg p.tok.text).getD 0) else .i .i64 0),.d (.s 0 0)]),(4,.one 92 32 [d0,d0,.d (.s 0 0)])]) (dq aa aa ⟨?_,aa,trivial⟩) ?_
 ·by_cases z:p.called 3=true<;>simp only[z]<;>rfl
 refine af (al 2 aa (ax (⟨_,PS.bi (p.integer D neg).2,aa,cL aa aa,?_,aa⟩)))
 unfold PS.integer gZ.enc cB
 by_cases z:p.called 3=true<;>simp[gB,ez,z,pack]<;>rfl
theorem Q5{T:bd}(F:FT T){p:PS}(hp:p.ok):bY T 210 [.vp 1000 0] (PS.bi p) fun r Bn=>r=dB p.tok.lr∧Bn=PS.bi p:=by
 refine cw F.aaO aa (al 1 aa (ai (ae 1 aa (bh (tok F hp) aa aa aa aa aa (ae 2 aa (af ?_))))))
 refine aK (al 2 aa (bJ (aK (al 2 aa (aI aa (fun G=>?_) (fun G=>?_))))))
 ·refine aQ (fm aa (G) (al 1 aa (ax (⟨_,PS.bi p,aa,cL aa aa,?_,aa⟩))))
  clear F hp
  simp_all [gB,cb.lr]
 refine bD (ae 2 aa (af ?_))
 refine aI aa (fun G=>?_) (fun G=>?_)
 ·refine al 1 aa (ax (⟨_,PS.bi p,aa,cL aa aa,?_,aa⟩))
  clear F hp
  simp_all [gB,cb.lr]
 refine al 2 aa (aI aa (fun I=>?_) (fun I=>?_))
 ·refine ai (ae 2 aa (ak (oA (b:=gN) aa aa ?_)))
  refine ae 1 aa (af ?_)
  refine ax (⟨_,PS.bi p,aa,cL aa aa,?_,aa⟩)
  clear F hp
  simp_all [gB,cb.lr]
 refine al 2 aa (aI aa (fun J=>?_) (fun J=>?_))
 ·refine ai (ae 2 aa (ak (oA (b:=pd) aa aa ?_)))
  refine ae 1 aa (dc (g:=bw) aa (fun z=>?_) (fun z=>?_))
  ·refine en aa (z) (en aa (z) (en aa (z) (ak (cT aa (z) aa ?_))))
   refine ae 1 aa (en aa aa (en aa aa (en aa aa (ae 2 aa (af ?_)))))
   refine ax (⟨_,PS.bi p,aa,cL aa aa,?_,aa⟩)
   clear F hp
   simp_all [gB,cb.lr]
  refine ao aa (z) (dz aa ?_)
  refine ao aa (z) (df aa aa aa ?_)
  refine ao aa (z) (oA (b:=o3) aa aa ?_)
  refine ak (cJ aa (z) aa ?_)
  refine ae 1 aa (dc (g:=bU) aa (fun A=>?_) (fun A=>?_))
  ·refine en aa (A) (en aa (A) (en aa (A) (ak (cT aa (A) aa ?_))))
   refine ae 1 aa (af ?_)
   refine ax (⟨_,PS.bi p,aa,cL aa aa,?_,aa⟩)
   clear F hp
   simp_all [gB,cb.lr]
  refine ao aa (A) (dz aa ?_)
  refine ao aa (A) (df aa aa aa ?_)
  refine ao aa (A) (oA (b:=lv) aa aa ?_)
  refine ak (cJ aa (A) aa ?_)
  refine ae 1 aa (af ?_)
  refine ax (⟨_,PS.bi p,aa,cL aa aa,?_,aa⟩)
  clear F hp
  simp_all [gB,cb.lr]
 refine aQ (al 1 aa (ax (⟨_,PS.bi p,aa,cL aa aa,?_,aa⟩)))
 clear F hp
 simp_all [gB,cb.lr]
open Go
set_option maxRecDepth 10000
set_option maxHeartbeats 2000000 in
theorem literal{T:bd}(F:FT T){D:Rd}(Lf:hM T D){p:PS}(hp:St p):bY T 171 [.vp 1000 0] (PS.bi p) fun r Bn=>r=ez (p.literal D).1.enc∧Bn=PS.bi (p.literal D).2:=by
 refine cw F.aar aa (al 1 aa (aK (bJ (al 6 aa (aI aa (fun O=>?_) (fun O=>?_))))))
 ·have h0:¬p.err=0:=by simpa using O
  have A:p.literal D=(ct,p):=by unfold PS.literal;rw[aw h0]
  refine aQ (al 2 aa (ax ?_))
  rw[A]
  exact⟨_,PS.bi _,aa,cL aa aa,aa,aa⟩
 have h0:p.err=0:=by simpa using O
 refine ai (ae 1 aa (bh (Q5 F hp.ok) aa aa aa aa aa (ae 2 aa (af ?_))))
 refine aI aa (fun U=>?_) (fun U=>?_)
 ·have K:p.tok.lr=false:=by simpa using U
  have A:p.literal D=(ct,p.fail 5):=by unfold PS.literal;rw[aj (by simpa using h0),aw K]
  refine bD (ae 1 aa (bh (fail F hp.ok 5) aa aa aa aa aa (af (al 2 aa (ax ?_)))))
  rw[A]
  exact⟨_,PS.bi _,aa,cL aa aa,aa,aa⟩
 have K:p.tok.lr=true:=by simpa using U
 refine ai (ae 1 aa (bh (sign F hp.ok gN) aa aa aa aa aa (ae 1 aa (af ?_))))
 refine aI aa (fun z=>?_) (fun z=>?_)
 ·have A:p.literal D=(p.sign gN).2.integer D true:=by unfold PS.literal;rw[aj (by simpa using h0),aj (by rw[K];decide),aw z]
  refine ai (ae 1 aa (bh (integer F Lf (hp.sign gN) true) aa aa aa aa aa (ae 1 aa (af ?_))))
  refine ax ?_
  rw[A]
  exact⟨_,PS.bi _,aa,cL aa aa,aa,aa⟩
 rw[PS.iA z]
 refine ai (ae 1 aa (bh (tok F hp.ok) aa aa aa aa aa (ae 3 aa (af ?_))))
 refine aI aa (fun Y=>?_) (fun Y=>?_)
 ·have Z:p.tok.kind=3:=by simpa using Y
  have A:p.literal D=p.integer D false:=by unfold PS.literal;rw[aj (by simpa using h0),aj (by rw[K];decide),aj (by rw[z];decide),aw Z]
  refine ai (ae 1 aa (bh (integer F Lf hp false) aa aa aa aa aa (ae 1 aa (af ?_))))
  refine ax ?_
  rw[A]
  exact⟨_,PS.bi _,aa,cL aa aa,aa,aa⟩
 have Z:¬p.tok.kind=3:=by simpa using Y
 refine ai (ae 1 aa (bh (keyword F hp.ok pd) aa aa aa aa aa (ae 1 aa (af ?_))))
 refine aI aa (fun G=>?_) (fun G=>?_)
 ·have A:p.literal D=(⟨3,1,[]⟩,(p.keyword pd).2):=by unfold PS.literal;rw[aj (by simpa using h0),aj (by rw[K];decide),aj (by rw[z];decide),aj Z,aw G]
  refine al 2 aa (ax ?_)
  rw[A]
  exact⟨_,PS.bi _,aa,cL aa aa,aa,aa⟩
 rw[PS.cQ G]
 refine ai (ae 1 aa (bh (keyword F hp.ok o3) aa aa aa aa aa (ae 1 aa (af ?_))))
 refine aI aa (fun I=>?_) (fun I=>?_)
 ·have A:p.literal D=(⟨3,0,[]⟩,(p.keyword o3).2):=by unfold PS.literal;rw[aj (by simpa using h0),aj (by rw[K];decide),aj (by rw[z];decide),aj Z,aj (by rw[G];decide),aw I]
  refine al 2 aa (ax ?_)
  rw[A]
  exact⟨_,PS.bi _,aa,cL aa aa,aa,aa⟩
 rw[PS.cQ I]
 refine ai (ae 1 aa (bh (keyword F hp.ok lv) aa aa aa aa aa (ae 1 aa (af ?_))))
 refine aI aa (fun J=>?_) (fun J=>?_)
 ·have A:p.literal D=(ct,(p.keyword lv).2):=by unfold PS.literal;rw[aj (by simpa using h0),aj (by rw[K];decide),aj (by rw[z];decide),aj Z,aj (by rw[G];decide),aj (by rw[I];decide),aw J]
  refine al 2 aa (ax ?_)
  rw[A]
  exact⟨_,PS.bi _,aa,cL aa aa,aa,aa⟩
 rw[PS.cQ J]
 have h4:=PS.Gh h0 K z Z G I J
 have dT:=PS.lO hp.ok (k:=4) (by decide) h4
 have fy:=hp.ok.d8
 have A:p.literal D=(⟨2,0,p.tok.text⟩,p.step):=by unfold PS.literal;rw[aj (by simpa using h0),aj (by rw[K];decide),aj (by rw[z];decide),aj Z,aj (by rw[G];decide),aj (by rw[I];decide),aj (by rw[J];decide)]
 refine ai (ae 1 aa (bh (tok F hp.ok) aa aa aa aa aa (ae 2 aa (af ?_))))
 refine ai (ae 4 aa ?_)
 refine ak (cM rfl rfl (by omega) ?_)
 refine ae 3 aa (af ?_)
 refine al 3 aa (ax ?_)
 rw[A]
 exact⟨_,PS.bi p.step,aa,cL aa aa,aa,aa⟩
open Go
def CT(T:bd)(f:Nat)(m:PS→Int×PS)(n:Nat):Prop:=∀p,St p→p.depth+n=61→bY T f [.vp 1000 0] p.bi fun r Bn=>r=dI (m p).1∧Bn=PS.bi (m p).2
theorem r7{sub:PS→Int×PS}{test:PS→Option (Int×PS)}{a:Int}{p:PS}(h:test p=none):∀k,km sub test k a p=(a,p)
 |0=>rfl
 |k+1=>by unfold km;rw[h]
theorem qp{sub:PS→Int×PS}{test:PS→Option (Int×PS)}{a kind:Int}{p q:PS}(h:test p=some (kind,q))(k:Nat):km sub test (k+1) a p=km sub test k ((sub q).2.push ⟨kind,a,(sub q).1,[],[],ct⟩).1 ((sub q).2.push ⟨kind,a,(sub q).1,[],[],ct⟩).2:=by
 show(match test p with|none=>(a,p)|some (kind,q)=>km sub test k ((sub q).2.push ⟨kind,a,(sub q).1,[],[],ct⟩).1 ((sub q).2.push ⟨kind,a,(sub q).1,[],[],ct⟩).2)=_
 rw[h]
open Go
set_option maxRecDepth 10000
theorem gk{T:bd}(F:FT T){p:PS}(hp:St p)(h0:p.err=0):bY T 221 [.vp 1000 0] (PS.bi p) fun r Bn=>r=dI p.gk.1∧Bn=PS.bi p.gk.2:=by
 refine cw F.aaX aa ?_
 have z:bE 1 p p.name.2:=bE.yo hp (by decide) h0
 refine al 1 aa (ai (ae 1 aa (bh (name F hp) aa aa aa aa aa (ae 3 aa (af ?_)))))
 refine aK (ai (ae 1 aa (bh (sign F z.st.ok jo) aa aa aa aa aa (af (aI aa (fun A=>?_) (fun A=>?_))))))
 ·have G:p.gk=((p.name.2.sign jo).2.name.2).push ⟨2,0,0,p.name.1,(p.name.2.sign jo).2.name.1,ct⟩:=by unfold PS.gk;rw[aw A]
  have I:=(z.st.sign jo).name.ok.small
  refine al 4 aa (bD (ae 1 aa (bh (name F (z.st.sign jo)) aa aa aa aa aa (ae 2 aa (af ?_)))))
  refine ai (ae 2 aa (bh (b9:=[.vp 1000 0,ez ((⟨2,0,0,p.name.1,(p.name.2.sign jo).2.name.1,ct⟩:aN)).enc]) (push F I _) aa aa aa aa aa (ae 1 aa (af ?_))))
  refine ax ?_
  rw[G]
  exact⟨_,PS.bi _,aa,cL aa aa,aa,aa⟩
 have G:p.gk=p.name.2.push ⟨2,0,0,[],p.name.1,ct⟩:=by unfold PS.gk;rw[aj (by rw[A];decide)]
 have I:=z.st.ok.small
 rw[PS.iA A]
 refine aQ (ai (ae 2 aa (bh (b9:=[.vp 1000 0,ez ((⟨2,0,0,[],p.name.1,ct⟩:aN)).enc]) (push F I _) aa aa aa aa aa (ae 1 aa (af ?_)))))
 refine ax ?_
 rw[G]
 exact⟨_,PS.bi _,aa,cL aa aa,aa,aa⟩
open Go
set_option maxRecDepth 10000
set_option maxHeartbeats 2000000 in
theorem product{T:bd}(F:FT T){D:Rd}{n:Nat}(hS:CT T 283 (fb D n) (n+1)):CT T 281 (chain (fb D n) lS) (n+1):=by
 intro p hp Z
 have K:=zC D hp Z
 refine cw F.abu aa (al 1 aa (ai (ae 1 aa (bh (hS p hp Z) aa aa aa aa aa (ae 1 aa (af ?_))))))
 refine aK (bJ ?_)
 refine dY (fun k VE B=>∃(a:Int)(q:PS),km (fb D n) lS k a q=(chain (fb D n) lS p)∧q.aA.length≤k+q.aJ∧St q∧q.depth=p.depth∧q.aA=p.aA∧br [(0,.vp 1000 0),(3,dI a)] VE∧br (PS.bi q) B) ?_ (k:=p.aA.length) ⟨(fb D n p).1,(fb D n p).2,rfl,by rw[K.aA];omega,K.st,K.depth,K.aA,⟨rfl,rfl,trivial⟩,cL rfl rfl⟩
 rintro k VE B⟨a,q,z,hk,O,G,gp,hV,hB⟩
 refine eD (PS.bi q++[]) hB ?_
 have hB:br (PS.bi q++[]) (PS.bi q++[]):=dq rfl rfl trivial
 refine dn _ _ hV hB (aK (ai (ae 1 aa (bh (sign F O.ok eV) aa aa aa aa aa (af (aI aa (fun I=>?_) (fun I=>?_)))))))
 ·have U:lS q=some (5,(q.sign eV).2):=by unfold lS;rw[aw I]
  obtain⟨k,rfl⟩:∃k',k=k'+1:=⟨k-1,by have:=O.ok.lt;omega⟩
  rw[qp U] at z
  have h2:=Cm q _ _ O U
  have J:(q.sign eV).2.depth+(n+1)=61:=by rw[h2.depth,G];exact Z
  have h3:=zC D h2.st J
  have hs:=h3.st.ok.small
  have Y:=bE.push O.ok (k:=0) ((h2.trans h3).dE (by omega)) (⟨5,a,(fb D n (q.sign eV).2).1,[],[],ct⟩:aN)
  have A:q.aJ+1≤(q.sign eV).2.aJ:=by rw[show(q.sign eV).2=q.step from(PS.pK I).1];exact bV _
  refine aQ (bJ (ai (ae 1 aa (bh (hS _ h2.st J) aa aa aa aa aa (ae 1 aa (af ?_))))))
  refine bD (ae 4 aa (bh (b9:=[.vp 1000 0,ez ((⟨5,a,(fb D n (q.sign eV).2).1,[],[],ct⟩:aN)).enc]) (push F hs _) aa aa aa aa aa (ae 1 aa (af ?_))))
  exact⟨k,by omega,((fb D n (q.sign eV).2).2.push (⟨5,a,(fb D n (q.sign eV).2).1,[],[],ct⟩:aN)).1,((fb D n (q.sign eV).2).2.push (⟨5,a,(fb D n (q.sign eV).2).1,[],[],ct⟩:aN)).2,z,by rw[Y.aA];have:=h2.aJ;have:=h3.aJ;have h5:=h2.sl;show q.aA.length≤k+(fb D n (q.sign eV).2).2.aJ;have h6:q.aJ+1≤(q.sign eV).2.aJ:=A;omega,Y.st,Y.depth.trans G,Y.aA.trans gp,⟨rfl,rfl,trivial⟩,cL rfl rfl⟩
 have U:lS q=none:=by unfold lS;rw[aj (by rw[I];decide)]
 rw[r7 U] at z
 rw[PS.iA I]
 refine dD (al 2 aa (ax ?_))
 rw[←z]
 exact⟨_,PS.bi q,aa,cL aa aa,aa,aa⟩
set_option maxHeartbeats 2000000 in
theorem conjunction{T:bd}(F:FT T){D:Rd}{n:Nat}(hS:CT T 268 (eH D (n+1)) (n+1)):CT T 243 (chain (eH D (n+1)) mo) (n+1):=by
 intro p hp Z
 have K:=(pO D (n+1)).2 p hp Z
 refine cw F.aa9 aa (al 1 aa (ai (ae 1 aa (bh (hS p hp Z) aa aa aa aa aa (ae 1 aa (af ?_))))))
 refine aK (bJ ?_)
 refine dY (fun k VE B=>∃(a:Int)(q:PS),km (eH D (n+1)) mo k a q=(chain (eH D (n+1)) mo p)∧q.aA.length≤k+q.aJ∧St q∧q.depth=p.depth∧q.aA=p.aA∧br [(0,.vp 1000 0),(3,dI a)] VE∧br (PS.bi q) B) ?_ (k:=p.aA.length) ⟨(eH D (n+1) p).1,(eH D (n+1) p).2,rfl,by rw[K.aA];omega,K.st,K.depth,K.aA,⟨rfl,rfl,trivial⟩,cL rfl rfl⟩
 rintro k VE B⟨a,q,z,hk,O,G,gp,hV,hB⟩
 refine eD (PS.bi q++[]) hB ?_
 have hB:br (PS.bi q++[]) (PS.bi q++[]):=dq rfl rfl trivial
 refine dn _ _ hV hB (aK (ai (ae 1 aa (bh (keyword F O.ok mn) aa aa aa aa aa (af (aI aa (fun I=>?_) (fun I=>?_)))))))
 ·have U:mo q=some (9,(q.keyword mn).2):=by unfold mo;rw[aw I]
  obtain⟨k,rfl⟩:∃k',k=k'+1:=⟨k-1,by have:=O.ok.lt;omega⟩
  rw[qp U] at z
  have h2:=Cx q _ _ O U
  have J:(q.keyword mn).2.depth+(n+1)=61:=by rw[h2.depth,G];exact Z
  have h3:=(fun a b=>(pO D (n+1)).2 _ a b) h2.st J
  have hs:=h3.st.ok.small
  have Y:=bE.push O.ok (k:=0) ((h2.trans h3).dE (by omega)) (⟨9,a,(eH D (n+1) (q.keyword mn).2).1,[],[],ct⟩:aN)
  have A:q.aJ+1≤(q.keyword mn).2.aJ:=by rw[show(q.keyword mn).2=q.step from(PS.pK I).1];exact bV _
  refine aQ (bJ (ai (ae 1 aa (bh (hS _ h2.st J) aa aa aa aa aa (ae 1 aa (af ?_))))))
  refine bD (ae 4 aa (bh (b9:=[.vp 1000 0,ez ((⟨9,a,(eH D (n+1) (q.keyword mn).2).1,[],[],ct⟩:aN)).enc]) (push F hs _) aa aa aa aa aa (ae 1 aa (af ?_))))
  exact⟨k,by omega,((eH D (n+1) (q.keyword mn).2).2.push (⟨9,a,(eH D (n+1) (q.keyword mn).2).1,[],[],ct⟩:aN)).1,((eH D (n+1) (q.keyword mn).2).2.push (⟨9,a,(eH D (n+1) (q.keyword mn).2).1,[],[],ct⟩:aN)).2,z,by rw[Y.aA];have:=h2.aJ;have:=h3.aJ;have h5:=h2.sl;show q.aA.length≤k+(eH D (n+1) (q.keyword mn).2).2.aJ;have h6:q.aJ+1≤(q.keyword mn).2.aJ:=A;omega,Y.st,Y.depth.trans G,Y.aA.trans gp,⟨rfl,rfl,trivial⟩,cL rfl rfl⟩
 have U:mo q=none:=by unfold mo;rw[aj (by rw[I];decide)]
 rw[r7 U] at z
 rw[PS.cQ I]
 refine dD (al 2 aa (ax ?_))
 rw[←z]
 exact⟨_,PS.bi q,aa,cL aa aa,aa,aa⟩
set_option maxHeartbeats 2000000 in
theorem expr{T:bd}(F:FT T){D:Rd}{n:Nat}(hS:CT T 243 (jd D n) (n+1)):CT T 214 (chain (jd D n) mN) (n+1):=by
 intro p hp Z
 have K:=CY D hp Z
 refine cw F.aaS aa (al 1 aa (ai (ae 1 aa (bh (hS p hp Z) aa aa aa aa aa (ae 1 aa (af ?_))))))
 refine aK (bJ ?_)
 refine dY (fun k VE B=>∃(a:Int)(q:PS),km (jd D n) mN k a q=(chain (jd D n) mN p)∧q.aA.length≤k+q.aJ∧St q∧q.depth=p.depth∧q.aA=p.aA∧br [(0,.vp 1000 0),(3,dI a)] VE∧br (PS.bi q) B) ?_ (k:=p.aA.length) ⟨(jd D n p).1,(jd D n p).2,rfl,by rw[K.aA];omega,K.st,K.depth,K.aA,⟨rfl,rfl,trivial⟩,cL rfl rfl⟩
 rintro k VE B⟨a,q,z,hk,O,G,gp,hV,hB⟩
 refine eD (PS.bi q++[]) hB ?_
 have hB:br (PS.bi q++[]) (PS.bi q++[]):=dq rfl rfl trivial
 refine dn _ _ hV hB (aK (ai (ae 1 aa (bh (keyword F O.ok mw) aa aa aa aa aa (af (aI aa (fun I=>?_) (fun I=>?_)))))))
 ·have U:mN q=some (10,(q.keyword mw).2):=by unfold mN;rw[aw I]
  obtain⟨k,rfl⟩:∃k',k=k'+1:=⟨k-1,by have:=O.ok.lt;omega⟩
  rw[qp U] at z
  have h2:=Hk q _ _ O U
  have J:(q.keyword mw).2.depth+(n+1)=61:=by rw[h2.depth,G];exact Z
  have h3:=CY D h2.st J
  have hs:=h3.st.ok.small
  have Y:=bE.push O.ok (k:=0) ((h2.trans h3).dE (by omega)) (⟨10,a,(jd D n (q.keyword mw).2).1,[],[],ct⟩:aN)
  have A:q.aJ+1≤(q.keyword mw).2.aJ:=by rw[show(q.keyword mw).2=q.step from(PS.pK I).1];exact bV _
  refine aQ (bJ (ai (ae 1 aa (bh (hS _ h2.st J) aa aa aa aa aa (ae 1 aa (af ?_))))))
  refine bD (ae 4 aa (bh (b9:=[.vp 1000 0,ez ((⟨10,a,(jd D n (q.keyword mw).2).1,[],[],ct⟩:aN)).enc]) (push F hs _) aa aa aa aa aa (ae 1 aa (af ?_))))
  exact⟨k,by omega,((jd D n (q.keyword mw).2).2.push (⟨10,a,(jd D n (q.keyword mw).2).1,[],[],ct⟩:aN)).1,((jd D n (q.keyword mw).2).2.push (⟨10,a,(jd D n (q.keyword mw).2).1,[],[],ct⟩:aN)).2,z,by rw[Y.aA];have:=h2.aJ;have:=h3.aJ;have h5:=h2.sl;show q.aA.length≤k+(jd D n (q.keyword mw).2).2.aJ;have h6:q.aJ+1≤(q.keyword mw).2.aJ:=A;omega,Y.st,Y.depth.trans G,Y.aA.trans gp,⟨rfl,rfl,trivial⟩,cL rfl rfl⟩
 have U:mN q=none:=by unfold mN;rw[aj (by rw[I];decide)]
 rw[r7 U] at z
 rw[PS.cQ I]
 refine dD (al 2 aa (ax ?_))
 rw[←z]
 exact⟨_,PS.bi q,aa,cL aa aa,aa,aa⟩
open Go
set_option maxRecDepth 10000
set_option maxHeartbeats 2000000 in
theorem sum{T:bd}(F:FT T){D:Rd}{n:Nat}(hS:CT T 281 (fg D n) (n+1)):CT T 279 (chain (fg D n) kt) (n+1):=by
 intro p hp hd
 have h1:=vL D hp hd
 refine cw F.abr aa (al 1 aa (ai (ae 1 aa (bh (hS p hp hd) aa aa aa aa aa (ae 1 aa (af ?_))))))
 refine bJ ?_
 refine dY (fun k VE B=>∃(a:Int)(q:PS),km (fg D n) kt k a q=(chain (fg D n) kt p)∧q.aA.length≤k+q.aJ∧St q∧q.depth=p.depth∧q.aA=p.aA∧br [(0,.vp 1000 0),(3,dI a)] VE∧br (PS.bi q) B) ?_ (k:=p.aA.length) ⟨(fg D n p).1,(fg D n p).2,rfl,by rw[h1.aA];omega,h1.st,h1.depth,h1.aA,⟨rfl,rfl,trivial⟩,cL rfl rfl⟩
 rintro k VE B⟨a,q,z,hk,Y,K,gp,hV,hB⟩
 refine eD (PS.bi q++[]) hB ?_
 have hB:br (PS.bi q++[]) (PS.bi q++[]):=dq rfl rfl trivial
 refine dn _ _ hV hB (bJ (al 1 aa (aK (ai (ae 1 aa (bh (sign F Y.ok gN) aa aa aa aa aa (af (aI aa (fun h9=>?_) (fun h9=>?_)))))))))
 ·have O:kt q=some (4,(q.sign gN).2):=by unfold kt;rw[aw h9]
  have G:q.aJ+1≤(q.sign gN).2.aJ:=by rw[show(q.sign gN).2=q.step from(PS.pK h9).1];exact bV _
  obtain⟨k,rfl⟩:∃k',k=k'+1:=⟨k-1,by have:=Y.ok.lt;omega⟩
  rw[qp O] at z
  have h2:=xk q _ _ Y O
  generalize (q.sign gN).2=A at O z h2 G⊢
  have I:A.depth+(n+1)=61:=by rw[h2.depth,K];exact hd
  have Z:=vL D h2.st I
  have hs:=Z.st.ok.small
  have U:=bE.push Y.ok (k:=0) ((h2.trans Z).dE (by omega)) (⟨4,a,(fg D n A).1,[],[],ct⟩:aN)
  refine bD (ae 1 aa (af ?_))
  refine ai (ae 1 aa (bh (hS _ h2.st I) aa aa aa aa aa (ae 1 aa (af ?_))))
  refine bD (ae 5 aa (bh (b9:=[.vp 1000 0,ez (⟨4,a,(fg D n A).1,[],[],ct⟩:aN).enc]) (push F hs _) aa aa aa aa aa (ae 1 aa (af ?_))))
  exact⟨k,by omega,((fg D n A).2.push (⟨4,a,(fg D n A).1,[],[],ct⟩:aN)).1,((fg D n A).2.push (⟨4,a,(fg D n A).1,[],[],ct⟩:aN)).2,z,by rw[U.aA];have:=Z.aJ;show q.aA.length≤k+(fg D n A).2.aJ;omega,U.st,U.depth.trans K,U.aA.trans gp,⟨rfl,rfl,trivial⟩,cL rfl rfl⟩
 rw[PS.iA h9]
 refine ai (ae 1 aa (bh (sign F Y.ok nW) aa aa aa aa aa (ae 1 aa (af ?_))))
 refine aI aa (fun wT=>?_) (fun wT=>?_)
 ·have J:(q.sign nW).1=false:=by simpa using wT
  have O:kt q=none:=by unfold kt;rw[aj (by rw[h9];decide),aj (by rw[J];decide)]
  rw[r7 O] at z
  rw[PS.iA J]
  refine al 2 aa (ax ?_)
  rw[←z]
  exact⟨_,PS.bi q,aa,cL aa aa,aa,aa⟩
 have J:(q.sign nW).1=true:=by simpa using wT
 have O:kt q=some (3,(q.sign nW).2):=by unfold kt;rw[aj (by rw[h9];decide),aw J]
 have G:q.aJ+1≤(q.sign nW).2.aJ:=by rw[show(q.sign nW).2=q.step from(PS.pK J).1];exact bV _
 obtain⟨k,rfl⟩:∃k',k=k'+1:=⟨k-1,by have:=Y.ok.lt;omega⟩
 rw[qp O] at z
 have h2:=xk q _ _ Y O
 generalize (q.sign nW).2=A at O z h2 G⊢
 have I:A.depth+(n+1)=61:=by rw[h2.depth,K];exact hd
 have Z:=vL D h2.st I
 have hs:=Z.st.ok.small
 have U:=bE.push Y.ok (k:=0) ((h2.trans Z).dE (by omega)) (⟨3,a,(fg D n A).1,[],[],ct⟩:aN)
 refine aQ (ai (ae 1 aa (bh (hS _ h2.st I) aa aa aa aa aa (ae 1 aa (af ?_)))))
 refine bD (ae 5 aa (bh (b9:=[.vp 1000 0,ez (⟨3,a,(fg D n A).1,[],[],ct⟩:aN).enc]) (push F hs _) aa aa aa aa aa (ae 1 aa (af ?_))))
 exact⟨k,by omega,((fg D n A).2.push (⟨3,a,(fg D n A).1,[],[],ct⟩:aN)).1,((fg D n A).2.push (⟨3,a,(fg D n A).1,[],[],ct⟩:aN)).2,z,by rw[U.aA];have:=Z.aJ;show q.aA.length≤k+(fg D n A).2.aJ;omega,U.st,U.depth.trans K,U.aA.trans gp,⟨rfl,rfl,trivial⟩,cL rfl rfl⟩
set_option maxHeartbeats 2000000 in
theorem Sd{T:bd}(F:FT T){D:Rd}{n:Nat}(hS:CT T 279 (ew D n) (n+1)):CT T 276 (iI (ew D n)) (n+1):=by
 intro p hp hd
 have I:=t6 D hp hd
 refine cw F.abo aa (al 1 aa (ai (ae 1 aa (bh (hS p hp hd) aa aa aa aa aa (ae 1 aa (af ?_))))))
 refine al 1 aa (aK (bJ (ai (ae 1 aa (bh (sign F I.st.ok na) aa aa aa aa aa (ae 1 aa (af ?_)))))))
 refine aI aa (fun O=>?_) (fun O=>?_)
 ·have J:iI (ew D n) p=rW (ew D n) 6 (ew D n p).1 ((ew D n p).2.sign na).2:=by unfold iI;rw[aw O]
  have h2:=I.trans (bE.sign I.st O)
  generalize ((ew D n p).2.sign na).2=U at J h2⊢
  have z:U.depth+(n+1)=61:=by rw[h2.depth];exact hd
  have Y:=t6 D h2.st z
  have Z:=Y.st.ok.small
  refine bD (ae 1 aa (af ?_))
  refine ai (ae 1 aa (bh (hS _ h2.st z) aa aa aa aa aa (ae 1 aa (af ?_))))
  refine ai (ae 5 aa (bh (b9:=[.vp 1000 0,ez (⟨6,(ew D n p).1,(ew D n U).1,[],[],ct⟩:aN).enc]) (push F Z _) aa aa aa aa aa (ae 1 aa (af ?_))))
  refine ax ?_
  rw[J]
  exact⟨_,PS.bi _,aa,cL aa aa,aa,aa⟩
 rw[PS.iA O]
 refine ai (ae 1 aa (bh (sign F I.st.ok uP) aa aa aa aa aa (ae 1 aa (af ?_))))
 refine aI aa (fun A=>?_) (fun A=>?_)
 ·have J:iI (ew D n) p=rW (ew D n) 7 (ew D n p).1 ((ew D n p).2.sign uP).2:=by unfold iI;rw[aj (by rw[O];decide),aw A]
  have h2:=I.trans (bE.sign I.st A)
  generalize ((ew D n p).2.sign uP).2=U at J h2⊢
  have z:U.depth+(n+1)=61:=by rw[h2.depth];exact hd
  have Y:=t6 D h2.st z
  have Z:=Y.st.ok.small
  refine bD (ae 1 aa (af ?_))
  refine ai (ae 1 aa (bh (hS _ h2.st z) aa aa aa aa aa (ae 1 aa (af ?_))))
  refine ai (ae 5 aa (bh (b9:=[.vp 1000 0,ez (⟨7,(ew D n p).1,(ew D n U).1,[],[],ct⟩:aN).enc]) (push F Z _) aa aa aa aa aa (ae 1 aa (af ?_))))
  refine ax ?_
  rw[J]
  exact⟨_,PS.bi _,aa,cL aa aa,aa,aa⟩
 rw[PS.iA A]
 refine ai (ae 1 aa (bh (sign F I.st.ok uQ) aa aa aa aa aa (ae 1 aa (af ?_))))
 refine aI aa (fun G=>?_) (fun G=>?_)
 ·have J:iI (ew D n) p=rW (ew D n) 8 (ew D n p).1 ((ew D n p).2.sign uQ).2:=by unfold iI;rw[aj (by rw[O];decide),aj (by rw[A];decide),aw G]
  have h2:=I.trans (bE.sign I.st G)
  generalize ((ew D n p).2.sign uQ).2=U at J h2⊢
  have z:U.depth+(n+1)=61:=by rw[h2.depth];exact hd
  have Y:=t6 D h2.st z
  have Z:=Y.st.ok.small
  refine bD (ae 1 aa (af ?_))
  refine ai (ae 1 aa (bh (hS _ h2.st z) aa aa aa aa aa (ae 1 aa (af ?_))))
  refine ai (ae 5 aa (bh (b9:=[.vp 1000 0,ez (⟨8,(ew D n p).1,(ew D n U).1,[],[],ct⟩:aN).enc]) (push F Z _) aa aa aa aa aa (ae 1 aa (af ?_))))
  refine ax ?_
  rw[J]
  exact⟨_,PS.bi _,aa,cL aa aa,aa,aa⟩
 rw[PS.iA G]
 refine ai (ae 1 aa (bh (keyword F I.st.ok zc) aa aa aa aa aa (ae 1 aa (af ?_))))
 refine aI aa (fun K=>?_) (fun K=>?_)
 ·have J:iI (ew D n) p=un (((ew D n p).2.keyword zc).2.aU [lv]) 12 (ew D n p).1:=by unfold iI;rw[aj (by rw[O];decide),aj (by rw[A];decide),aj (by rw[G];decide),aw K]
  have h2:=I.trans (bE.keyword I.st K)
  have Y:=bE.aU (l:=[lv]) h2.st
  have Z:=Y.st.ok.small
  refine ai (ae 2 aa (gq 22 22 aa aa (fun _=>⟨aa,aa⟩) ?_))
  refine bh (aU F h2.st.ok [lv] (by decide)) rfl rfl rfl rfl rfl ?_
  refine af (ai (ae 3 aa (bh (b9:=[.vp 1000 0,ez (⟨12,(ew D n p).1,0,[],[],ct⟩:aN).enc]) (push F Z _) aa aa aa aa aa (ae 1 aa (af ?_)))))
  refine ax ?_
  rw[J]
  exact⟨_,PS.bi _,aa,cL aa aa,aa,aa⟩
 have J:iI (ew D n) p=ew D n p:=by unfold iI;rw[aj (by rw[O];decide),aj (by rw[A];decide),aj (by rw[G];decide),aj (by rw[K];decide)]
 rw[PS.cQ K]
 refine al 2 aa (ax ?_)
 rw[J]
 exact⟨_,PS.bi _,aa,cL aa aa,aa,aa⟩
set_option maxHeartbeats 2000000 in
theorem TU{T:bd}(F:FT T){D:Rd}{n:Nat}(hS:CT T 276 (cmpL D n) (n+1))(hI:CT T 268 (eH D n) n):CT T 268 (eH D (n+1)) (n+1):=by
 intro p hp hd
 skip
 refine cw F.abk aa (al 1 aa (aK (ai (ae 1 aa (bh (next F hp.ok 1 wH) aa aa aa aa aa (ae 1 aa (af ?_)))))))
 refine aI aa (fun O=>?_) (fun O=>?_)
 ·have G:p.next 1 wH=false:=by simpa using O
  have I:eH D (n+1) p=cmpL D n p:=by rw[xb];unfold nA;rw[aw G]
  refine ai (ae 1 aa (bh (hS p hp hd) aa aa aa aa aa (ae 1 aa (af ?_))))
  refine ax ?_
  rw[I]
  exact⟨_,PS.bi _,aa,cL aa aa,aa,aa⟩
 have G:p.next 1 wH=true:=by simpa using O
 refine aQ (aK (ai (ae 1 aa (bh (enter F hp.ok) aa aa aa aa aa (ae 1 aa (af ?_))))))
 refine aI aa (fun A=>?_) (fun A=>?_)
 ·have he:p.enter.1=false:=by simpa using A
  have I:eH D (n+1) p=(0,p.enter.2):=by rw[xb];unfold nA;rw[aj (by rw[G];decide),aw he]
  refine al 1 aa (ax ?_)
  rw[I]
  exact⟨_,PS.bi _,aa,cL aa aa,aa,aa⟩
 have he:p.enter.1=true:=by simpa using A
 have U:=PS.lk hp.ok (kind:=1) (by decide) G
 obtain⟨K,J⟩:=hp.ri he U
 have z:p.enter.2.step.depth+n=61:=by rw[J];omega
 have dT:p.enter.2.aJ+1<p.enter.2.aA.length:=K.ok.lt
 have fy:p.enter.2.aA.length≤2000:=K.ok.d8
 have I:eH D (n+1) p=un (eH D n p.enter.2.step).2.up 11 (eH D n p.enter.2.step).1:=by rw[xb];unfold nA;rw[aj (by rw[G];decide),aj (by rw[he];decide)]
 have Y:=(pO D n).2 _ K z
 have ql:1≤((eH D n p.enter.2.step).2).depth:=by rw[Y.depth,J];omega
 have Z:((((eH D n p.enter.2.step).2).depth:Nat):Int) -Int.ofNat 1=((((eH D n p.enter.2.step).2).depth-1:Nat):Int):=by simp only[bb];omega
 have hs:=Y.st.ok.small
 refine aQ (ai (ae 4 aa ?_))
 refine ak (cM rfl rfl (by omega) ?_)
 refine ae 3 aa (af ?_)
 refine ai (ae 1 aa (bh (hI _ K z) aa aa aa aa aa (ae 1 aa (af ?_))))
 refine ai (ae 4 aa ?_)
 refine ak (gm rfl rfl (by simp only[bb];omega) (by have:=Y.st.ok.kN;simp only[bb];omega) ?_)
 rw[Z]
 refine ae 3 aa (af ?_)
 refine ai (ae 3 aa (bh (b9:=[.vp 1000 0,ez (⟨11,(eH D n p.enter.2.step).1,0,[],[],ct⟩:aN).enc]) (push F (p:=(eH D n p.enter.2.step).2.up) hs _) aa aa aa aa aa (ae 1 aa (af ?_))))
 refine ax ?_
 rw[I]
 exact⟨_,PS.bi _,aa,cL aa aa,aa,aa⟩
set_option maxHeartbeats 2000000 in
theorem UR{T:bd}(F:FT T){D:Rd}(Lf:hM T D){n:Nat}(hI:CT T 214 (lT D n) n):CT T 283 (fb D n) (n+1):=by
 intro p hp hd
 skip
 refine cw F.abw aa (al 1 aa (aK (bJ (al 6 aa (aI aa (fun Z=>?_) (fun Z=>?_))))))
 ·have h0:p.err≠0:=by simpa using Z
  have z:fb D n p=(0,p):=by unfold fb lz;rw[aw h0]
  refine al 1 aa (ax ?_)
  rw[z]
  exact⟨_,PS.bi _,aa,cL aa aa,aa,aa⟩
 have h0:p.err=0:=by simpa using Z
 refine ai (ae 1 aa (bh (next F hp.ok 5 cq) aa aa aa aa aa (ae 1 aa (af ?_))))
 refine aI aa (fun G=>?_) (fun G=>?_)
 ·have O:p.next 5 cq=true:=by simpa using G
  refine aK (ai (ae 1 aa (bh (enter F hp.ok) aa aa aa aa aa (ae 1 aa (af ?_)))))
  refine aI aa (fun I=>?_) (fun I=>?_)
  ·have he:p.enter.1=false:=by simpa using I
   have z:fb D n p=(0,p.enter.2):=by unfold fb lz;rw[aj (by simpa using h0),aw O,aw he]
   refine al 1 aa (ax ?_)
   rw[z]
   exact⟨_,PS.bi _,aa,cL aa aa,aa,aa⟩
  have he:p.enter.1=true:=by simpa using I
  have hlp:=PS.lk hp.ok (kind:=5) (by decide) O
  obtain⟨Y,U⟩:=hp.ri he hlp
  have A:p.enter.2.step.depth+n=61:=by rw[U];omega
  have dT:p.enter.2.aJ+1<p.enter.2.aA.length:=Y.ok.lt
  have fy:p.enter.2.aA.length≤2000:=Y.ok.d8
  have z:fb D n p=((lT D n p.enter.2.step).1,((lT D n p.enter.2.step).2.bA dP).up):=by unfold fb lz;rw[aj (by simpa using h0),aw O,aj (by rw[he];decide)];rfl
  have J:=(pO D n).1 _ Y A
  have hr:=J.trans (bE.bA J.st dP)
  have ql:1≤(((lT D n p.enter.2.step).2.bA dP)).depth:=by rw[hr.depth,U];omega
  have nc:(((((lT D n p.enter.2.step).2.bA dP)).depth:Nat):Int) -Int.ofNat 1=(((((lT D n p.enter.2.step).2.bA dP)).depth-1:Nat):Int):=by simp only[bb];omega
  have hs:=hr.st.ok.small
  refine aQ (ai (ae 4 aa ?_))
  refine ak (cM rfl rfl (by omega) ?_)
  refine ae 3 aa (af ?_)
  refine ai (ae 1 aa (bh (hI _ Y A) aa aa aa aa aa (ae 1 aa (af ?_))))
  refine ai (ae 1 aa (bh (bA F J.st.ok dP) aa aa aa aa aa (af (ai (ae 4 aa ?_)))))
  refine ak (gm rfl rfl (by simp only[bb];omega) (by have:=hr.st.ok.kN;simp only[bb];omega) ?_)
  rw[nc]
  refine ae 3 aa (af ?_)
  refine ai (eB (PS.bi ((lT D n p.enter.2.step).2.bA dP).up++[]) (dq aa aa trivial) (ae 2 aa (af ?_)))
  refine ax ?_
  rw[z]
  exact⟨_,PS.bi _,aa,cL aa aa,aa,aa⟩
 have O:p.next 5 cq=false:=by simpa using G
 refine ai (ae 1 aa (bh (tok F hp.ok) aa aa aa aa aa (ae 3 aa (af ?_))))
 refine aI aa (fun K=>?_) (fun K=>?_)
 ·have hk:p.tok.kind=2:=by simpa using K
  have z:fb D n p=p.gk:=by unfold fb lz;rw[aj (by simpa using h0),aj (by rw[O];decide),aw hk]
  refine ai (ae 1 aa (bh (gk F hp h0) aa aa aa aa aa (ae 1 aa (af ?_))))
  refine ax ?_
  rw[z]
  exact⟨_,PS.bi _,aa,cL aa aa,aa,aa⟩
 have hk:¬p.tok.kind=2:=by simpa using K
 have z:fb D n p=(p.literal D).2.push (⟨1,0,0,[],[],(p.literal D).1⟩:aN):=by unfold fb lz;rw[aj (by simpa using h0),aj (by rw[O];decide),aj hk]
 have hs:=(PS.KB hp D).ok.small
 refine aQ (ai (ae 2 aa (bh (literal F Lf hp) aa aa aa aa aa (ae 1 aa (bh (b9:=[.vp 1000 0,ez (⟨1,0,0,[],[],(p.literal D).1⟩:aN).enc]) (push F hs _) aa aa aa aa aa (ae 1 aa (af ?_)))))))
 refine ax ?_
 rw[z]
 exact⟨_,PS.bi _,aa,cL aa aa,aa,aa⟩
theorem Nv{T:bd}(F:FT T){D:Rd}(z:hM T D):∀n,CT T 214 (lT D n) n∧CT T 268 (eH D n) n
 |0=>⟨fun p h G=>absurd h.ok.kN (by omega),fun p h G=>absurd h.ok.kN (by omega)⟩
 |n+1=>by
  obtain⟨I,h2⟩:=Nv F z n
  have J:=UR F z I
  have K:CT T 281 (fg D n) (n+1):=product F J
  have O:CT T 279 (ew D n) (n+1):=sum F K
  have U:CT T 276 (cmpL D n) (n+1):=Sd F O
  have A:=TU F U h2
  exact⟨expr F (conjunction F A),A⟩
open Go
def cH:List UInt8:=[44]
def jZ:List UInt8:=[87,72,69,82,69]
def zW:List UInt8:=[83,69,76,69,67,84]
def jg:List UInt8:=[68,73,83,84,73,78,67,84]
def il:List UInt8:=[70,82,79,77]
def gx:List UInt8:=[71,82,79,85,80]
def gI:List UInt8:=[66,89]
def uh:List UInt8:=[85,78,73,79,78]
def t7:List UInt8:=[69,88,67,69,80,84]
def tG:List UInt8:=[73,78,84,69,82,83,69,67,84]
def gK:List UInt8:=[65,76,76]
def nX:List UInt8:=[76,69,70,84]
def kn:List UInt8:=[74,79,73,78]
def pz:List UInt8:=[79,78]
def fi:List UInt8:=[65,83]
def kf:List UInt8:=[79,70]
def jI:List UInt8:=[67,79,85,78,84]
def nB:List UInt8:=[83,85,77]
def nC:List UInt8:=[77,73,78]
def nD:List UInt8:=[77,65,88]
def yM:List UInt8:=[73,78,84]
def yp:List UInt8:=[84,69,88,84]
def yq:List UInt8:=[66,79,79,76]
def lU:List UInt8:=[73,78,84,79]
def lM:List UInt8:=[86,65,76,85,69,83]
def ld:List UInt8:=[70,79,82]
def oD:List UInt8:=[80,79,82,84,73,79,78]
def kJ:List UInt8:=[83,69,84]
def dh:List UInt8:=[84,65,66,76,69]
def rN:List UInt8:=[75,69,89]
def ma:List UInt8:=[82,69,70,69,82,69,78,67,69,83]
def ze:List UInt8:=[73,78]
def pV:List UInt8:=[78,79,71,65,80]
def pF:List UInt8:=[78,79,79,86,69,82,76,65,80]
def n9:List UInt8:=[65,68,68]
def p6:List UInt8:=[68,82,79,80]
def jT:List UInt8:=[65,84]
def ka:List UInt8:=[68,65,89]
def ox:List UInt8:=[86,65,76,73,68,84,73,77,69]
def ow:List UInt8:=[82,69,67,79,82,68,84,73,77,69]
def oy:List UInt8:=[66,79,84,72,84,73,77,69]
def ov:List UInt8:=[78,79,78,83,69,81,85,69,78,67,69,68]
def sn:List UInt8:=[73,78,83,69,82,84]
def so:List UInt8:=[68,69,76,69,84,69]
def sq:List UInt8:=[85,80,68,65,84,69]
def sr:List UInt8:=[67,82,69,65,84,69]
def sE:List UInt8:=[65,76,84,69,82]
def sI:List UInt8:=[67,73,84,69]
def su:List UInt8:=[82,69,67,65,76,76]
def sJ:List UInt8:=[72,79,76,68]
def pL:List UInt8:=[82,69,76,69,65,83,69]
def pP:List UInt8:=[70,79,82,71,69,84]
def o4:List UInt8:=[66,69,76,79,87]
def xP:List UInt8:=[85,78,84,73,76]
def Jv:List UInt8:=[84,79]
structure bf(p:PS):Prop where
 st:St p
 d0:p.depth=0
structure bP(p q:PS):Prop where
 top:bf q
 aA:q.aA=p.aA
 aJ:p.aJ≤q.aJ
 er:q.err=0→p.err=0
 pk:p.pk→q.pk
theorem bf.ok{p:PS}(h:bf p):p.ok:=h.st.ok
theorem bP.st{p q:PS}(h:bP p q):St q:=h.top.st
theorem bP.ok{p q:PS}(h:bP p q):q.ok:=h.top.st.ok
theorem bP.refl{p:PS}(h:bf p):bP p p:=⟨h,rfl,bV _,id,id⟩
theorem bP.trans{p q r:PS}(h:bP p q)(g:bP q r):bP p r:=⟨g.top,g.aA.trans h.aA,j7 h.aJ g.aJ,fun k=>h.er (g.er k),fun k=>g.pk (h.pk k)⟩
theorem bE.go{k:Nat}{p q:PS}(a:bE k p q)(h:bf p):bP p q:=⟨⟨a.st,by rw[a.depth];exact h.d0⟩,a.aA,a.aJ,a.er,a.pk⟩
theorem bf.kw{p:PS}(h:bf p)(s:List UInt8):bP p (p.keyword s).2:=(bE.G2 h.st s).go h
theorem bf.sign{p:PS}(h:bf p)(s:List UInt8):bP p (p.sign s).2:=(bE.yn h.st s).go h
theorem bf.dK{p:PS}(h:bf p)(l:List (List UInt8)):bP p (p.aU l):=(bE.aU h.st).go h
theorem bf.gQ{p:PS}(h:bf p)(s:List UInt8):bP p (p.bA s):=(bE.bA h.st s).go h
theorem bf.fail{p:PS}(h:bf p){e:Int}(he:e≠0):bP p (p.fail e):=(bE.fail h.st he).go h
theorem bf.take{p:PS}(h:bf p){k e:Int}(hk:k≠6):bP p (p.take k e).2:=(bE.take h.st hk).go h
theorem bf.name{p:PS}(h:bf p):bP p p.name.2:=h.take (by decide)
theorem bf.number{p:PS}(h:bf p)(n:Int):bP p (p.number n).2:=h.take (by decide)
theorem bf.day{p:PS}(h:bf p)(D:Rd):bP p (p.day D).2:=h.take (by decide)
theorem bf.period{p:PS}(h:bf p)(D:Rd):bP p (p.period D).2:=h.take (by decide)
theorem bf.literal{p:PS}(h:bf p)(D:Rd):bP p (p.literal D).2:=by
 by_cases h0:p.err=0
 ·exact(bE.G3 h.st D h0).go h
 have:p.literal D=(ct,p):=by unfold PS.literal;rw[aw h0]
 rw[this];exact .refl h
def PS.expr(p:PS)(D:Rd):Int×PS:=lT D 61 p
theorem bf.expr{p:PS}(h:bf p)(D:Rd):bP p (p.expr D).2:=((pO D 61).1 p h.st (by rw[h.d0])).go h
theorem bf.step{p:PS}(h:bf p)(h0:p.err=0)(z:p.aJ+1<p.aA.length):bP p p.step:=(bE.step h.st h0 z).go h
theorem oR{p:PS}(hp:p.ok){s:List UInt8}(h:(p.sign s).1=true):p.aJ+1≤(p.sign s).2.aJ∧p.aJ+1<p.aA.length:=by
 have z:=PS.pK h
 refine⟨by rw[show(p.sign s).2=p.step from z.1];exact bV _,PS.lk hp (by decide) z.2⟩
theorem nw{p:PS}(hp:p.ok){s:List UInt8}(h:(p.keyword s).1=true):p.aJ+1≤(p.keyword s).2.aJ∧p.aJ+1<p.aA.length:=by
 have z:=PS.pK h
 refine⟨by rw[show(p.keyword s).2=p.step from z.1];exact bV _,PS.lk hp (by decide) z.2⟩
section
variable{α:Type}
def kE(f:PS→α×PS):Nat→List α→PS→List α×PS
 |0,l,p=>(l,p)
 |k+1,l,p=>if(p.sign cH).1=true then kE f k (l++[(f (p.sign cH).2).1]) (f (p.sign cH).2).2 else(l,p)
def jk(f:PS→α×PS)(p:PS):List α×PS:=kE f p.aA.length [(f p).1] (f p).2
theorem oT{f:PS→α×PS}{p:PS}(h:(p.sign cH).1=true)(k:Nat)(l:List α):kE f (k+1) l p=kE f k (l++[(f (p.sign cH).2).1]) (f (p.sign cH).2).2:=aw h
theorem oU{f:PS→α×PS}{p:PS}(h:(p.sign cH).1=false)(l:List α):∀k,kE f k l p=(l,p)
 |0=>rfl
 |k+1=>aj (by rw[h];decide)
theorem L5{f:PS→α×PS}(z:∀p,bf p→bP p (f p).2):∀(k:Nat)(l:List α){p:PS},bf p→bP p (kE f k l p).2
 |0,l,p,h=>.refl h
 |k+1,l,p,h=>by
  unfold kE
  split
  ·have A:=h.sign cH
   have h2:=A.trans (z _ A.top)
   exact h2.trans (L5 z k _ h2.top)
  exact .refl h
theorem xl{f:PS→α×PS}(z:∀p,bf p→bP p (f p).2){p:PS}(h:bf p):bP p (jk f p).2:=(z p h).trans (L5 z _ _ (z p h).top)
end
def PS.d7(p:PS)(D:Rd):Int×PS:=if(p.keyword jZ).1=true then(p.keyword jZ).2.expr D else(-1,p)
def PS.set(p:PS)(D:Rd):(List UInt8×Int)×PS:=((p.name.1,((p.name.2.bA na).expr D).1),((p.name.2.bA na).expr D).2)
def PS.nT(q:PS):Int×PS:=
 if(q.keyword yM).1=true then(1,(q.keyword yM).2) else if(q.keyword yp).1=true then(2,(q.keyword yp).2) else if(q.keyword yq).1=true then(3,(q.keyword yq).2) else(0,q.fail 5)
def PS.column(p:PS):(List UInt8×Int)×PS:=((p.name.1,p.name.2.nT.1),p.name.2.nT.2)
def PS.names(p:PS):List (List UInt8)×PS:=((jk PS.name (p.bA cq)).1,(jk PS.name (p.bA cq)).2.bA dP)
def PS.ic(p:PS):Int×PS:=if(p.keyword fi).1=true then((p.keyword fi).2.aU [kf]).number (-1) else(1099511627776,p)
def PS.after(p:PS):cb:=(p.aA[p.aJ+1]?).getD OU
def PS.alias(p:PS)(ic:Bool):List UInt8×PS:=
 if p.next 1 fi=false then([],p) else if ic=true∧p.after.kind=1∧p.after.text=kf then([],p) else p.step.name
structure Item where
 agg:Int
 expr:Int
 alias:List UInt8
def Item.enc(x:Item):List DC:=[.i .i64 x.agg,.i .i64 x.expr,cB x.alias]
def PS.agg(p:PS):Int×PS:=
 if(p.keyword nB).1=true then(2,(p.keyword nB).2) else if(p.keyword nC).1=true then(3,(p.keyword nC).2) else if(p.keyword nD).1=true then(4,(p.keyword nD).2) else(0,p)
def PS.fU(p:PS)(D:Rd):Int×PS:=(((p.bA cq).expr D).1,((p.bA cq).expr D).2.bA dP)
def PS.iK(p:PS)(D:Rd):(Int×Int)×PS:=
 if(p.keyword jI).1=true then((1, -1),(((p.keyword jI).2.bA cq).bA eV).bA dP)
 else if p.agg.1=0 then((0,(p.expr D).1),(p.expr D).2)
 else((p.agg.1,(p.agg.2.fU D).1),(p.agg.2.fU D).2)
def PS.item(p:PS)(D:Rd):Item×PS:=(⟨(p.iK D).1.1,(p.iK D).1.2,((p.iK D).2.alias false).1⟩,((p.iK D).2.alias false).2)
structure Src where
 left:Bool
 table:List UInt8
 alias:List UInt8
 on:Int
def Src.enc(x:Src):List DC:=[.b x.left,cB x.table,cB x.alias,.i .i64 x.on]
def PS.source(p:PS)(ic:Bool):Src×PS:=(⟨false,p.name.1,(p.name.2.alias ic).1, -1⟩,(p.name.2.alias ic).2)
def PS.join(p:PS):Option (Bool×PS):=if(p.keyword nX).1=true then some (true,(p.keyword nX).2.aU [kn]) else if(p.keyword kn).1=true then some (false,(p.keyword kn).2) else none
def PS.gD(q:PS)(D:Rd)(left:Bool):Src×PS:=(⟨left,(q.source false).1.table,(q.source false).1.alias,(((q.source false).2.aU [pz]).expr D).1⟩,(((q.source false).2.aU [pz]).expr D).2)
def o5(D:Rd):Nat→List Src→PS→List Src×PS
 |0,l,p=>(l,p)
 |k+1,l,p=>match p.join with
  |none=>(l,p)
  |some (left,q)=>o5 D k (l++[(q.gD D left).1]) (q.gD D left).2
def PS.j6(p:PS)(D:Rd)(ic:Bool):List Src×PS:=o5 D p.aA.length [(p.source ic).1] (p.source ic).2
def PS.ko(p:PS):PS:=if p.err=0∧p.tok.kind≠2 then p.fail 5 else p
def PS.dC(p:PS):Int×PS:=if p.ko.err≠0 then(0,p.ko) else p.ko.gk
structure Core where
 distinct:Bool
 exprs:List aN
 items:List Item
 src:List Src
 wh:Int
 US:Bool
 group:List Int
def Core.enc(c:Core):List DC:=[.b c.distinct,.e9 (c.exprs.map aN.enc),.e9 (c.items.map Item.enc),.e9 (c.src.map Src.enc),.i .i64 c.wh,.b c.US,.e9 (c.group.map fun i=>[.i .i64 i])]
def PS.iQ(p:PS):PS:=PS.aU {p with ex:=[]} [zW]
def PS.items(p:PS)(D:Rd):List Item×PS:=if(p.sign eV).1=true then([],(p.sign eV).2) else jk (fun p=>p.item D) p
def PS.group(p:PS):(Bool×List Int)×PS:=if(p.keyword gx).1=true then((true,(jk PS.dC ((p.keyword gx).2.aU [gI])).1),(jk PS.dC ((p.keyword gx).2.aU [gI])).2) else((false,[]),p)
def PS.fw(p:PS):PS:=(p.iQ.keyword jg).2
def PS.fA(p:PS)(D:Rd):PS:=(p.fw.items D).2.aU [il]
def PS.ja(p:PS)(D:Rd)(a:Bool):PS:=((p.fA D).j6 D a).2
def PS.dH(p:PS)(D:Rd)(a:Bool):PS:=((p.ja D a).d7 D).2
def PS.core(p:PS)(D:Rd)(a:Bool):Core×PS:=
 (⟨(p.iQ.keyword jg).1,(p.dH D a).group.2.ex,(p.fw.items D).1,((p.fA D).j6 D a).1,((p.ja D a).d7 D).1,(p.dH D a).group.1.1,(p.dH D a).group.1.2⟩,(p.dH D a).group.2)
structure jC where
 fZ:List Core
 ops:List Int
def jC.enc(x:jC):List DC:=[.e9 (x.fZ.map Core.enc),.e9 (x.ops.map fun i=>[.i .i64 i])]
def PS.op(p:PS):Option (Int×PS):=
 if(p.keyword uh).1=true then some (6,(p.keyword uh).2) else if(p.keyword t7).1=true then some (7,(p.keyword t7).2) else if(p.keyword tG).1=true then some (8,(p.keyword tG).2) else none
def qc(D:Rd)(a:Bool):Nat→jC→PS→jC×PS
 |0,s,p=>(s,p)
 |k+1,s,p=>match p.op with
  |none=>(s,p)
  |some (o,q)=>qc D a k ⟨s.fZ++[((q.aU [gK]).core D a).1],s.ops++[o]⟩ ((q.aU [gK]).core D a).2
def PS.cW(p:PS)(D:Rd)(a:Bool):jC×PS:=qc D a p.aA.length ⟨[(p.core D a).1],[]⟩ (p.core D a).2
structure Fk where
 jq:List (List UInt8)
 table:List UInt8
 refs:List (List UInt8)
def f4(l:List (List UInt8)):DC:=.e9 (l.map fun s=>[cB s])
def Fk.enc(x:Fk):List DC:=[f4 x.jq,cB x.table,f4 x.refs]
structure Stmt where
 kind:Int:=0
 mode:Int:=0
 day:Int:=0
 aJ:Int:=0
 cW:jC:=⟨[],[]⟩
 table:List UInt8:=[]
 name:List UInt8:=[]
 row:List gZ:=[]
 valid:Int×Int:=(0,0)
 exprs:List aN:=[]
 wh:Int:=0
 m8:List (List UInt8×Int):=[]
 jq:List (List UInt8×Int):=[]
 key:List (List UInt8):=[]
 my:List Fk:=[]
 cons:List (Int×List (List UInt8)):=[]
 n:Int:=0
 wI:Int×Int:=(0,0)
def cV(x:List UInt8×Int):List DC:=[.i .i64 0,cB x.1,.i .i64 x.2]
def eR(x:List UInt8×Int):List DC:=[cB x.1,.i .i64 x.2]
def dR(x:Int×List (List UInt8)):List DC:=[.i .i64 x.1,f4 x.2]
def Stmt.enc(s:Stmt):List DC:=[.i .i64 s.kind,.i .i64 s.mode,.i .i64 s.day,.i .i64 s.aJ,.e9 (s.cW.fZ.map Core.enc),.e9 (s.cW.ops.map fun i=>[.i .i64 i]),cB s.table,cB s.name,.e9 (s.row.map gZ.enc),.i .i64 s.valid.1,.i .i64 s.valid.2,.e9 (s.exprs.map aN.enc),.i .i64 s.wh,.e9 (s.m8.map eR),.e9 (s.jq.map cV),f4 s.key,.e9 (s.my.map Fk.enc),.e9 (s.cons.map dR),.i .i64 s.n,.i .i64 s.wI.1,.i .i64 s.wI.2]
def PS.lg(p:PS):PS:=(p.aU [lU]).name.2
def PS.s7(p:PS)(D:Rd):List gZ×PS:=jk (fun p=>p.literal D) ((p.lg.aU [lM]).bA cq)
def PS.qd(p:PS)(D:Rd):PS:=((p.s7 D).2.bA dP).aU [ld]
def PS.insert(p:PS)(D:Rd):Stmt×PS:=({kind:=2,table:=(p.aU [lU]).name.1,row:=(p.s7 D).1,valid:=((p.qd D).period D).1},((p.qd D).period D).2)
def PS.wJ(p:PS):PS:=(p.aU [il]).name.2.aU [ld,oD,kf]
def PS.nE(p:PS)(D:Rd):PS:=(p.wJ.period D).2
def PS.remove(p:PS)(D:Rd):Stmt×PS:=({kind:=3,table:=(p.aU [il]).name.1,valid:=(p.wJ.period D).1,wh:=((p.nE D).d7 D).1,exprs:=((p.nE D).d7 D).2.ex},((p.nE D).d7 D).2)
def PS.gG(p:PS):PS:=p.name.2.aU [ld,oD,kf]
def PS.pn(p:PS)(D:Rd):List (List UInt8×Int)×PS:=jk (fun p=>p.set D) ((p.gG.period D).2.aU [kJ])
def PS.update(p:PS)(D:Rd):Stmt×PS:=({kind:=4,table:=p.name.1,valid:=(p.gG.period D).1,m8:=(p.pn D).1,wh:=((p.pn D).2.d7 D).1,exprs:=((p.pn D).2.d7 D).2.ex},((p.pn D).2.d7 D).2)
def PS.tt(p:PS):PS:=p.names.2.aU [ze]
def PS.fk(p:PS):Fk×PS:=(⟨p.names.1,p.tt.name.1,p.tt.name.2.names.1⟩,p.tt.name.2.names.2)
def po:Nat→List Fk→PS→List Fk×PS
 |0,l,p=>(l,p)
 |k+1,l,p=>if(p.keyword ma).1=true then po k (l++[(p.keyword ma).2.fk.1]) (p.keyword ma).2.fk.2 else(l,p)
def PS.gR(p:PS):Option (Int×PS):=if(p.keyword pV).1=true then some (1,(p.keyword pV).2) else if(p.keyword pF).1=true then some (2,(p.keyword pF).2) else none
def nY:Nat→List (Int×List (List UInt8))→PS→List (Int×List (List UInt8))×PS
 |0,l,p=>(l,p)
 |k+1,l,p=>match p.gR with
  |none=>(l,p)
  |some (c,q)=>nY k (l++[(c,q.names.1)]) q.names.2
def PS.s8(p:PS):List (List UInt8×Int)×PS:=jk PS.column ((p.aU [dh]).name.2.bA cq)
def PS.iB(p:PS):PS:=p.s8.2.bA dP
def PS.key(p:PS):List (List UInt8)×PS:=if(p.keyword rN).1=true then(p.keyword rN).2.names else([],p)
def PS.pr(p:PS):List Fk×PS:=po p.aA.length [] p.iB.key.2
def PS.u9(p:PS):List (Int×List (List UInt8))×PS:=nY p.aA.length [] p.pr.2
def PS.create(p:PS):Stmt×PS:=({kind:=5,table:=(p.aU [dh]).name.1,jq:=p.s8.1,key:=p.iB.key.1,my:=p.pr.1,cons:=p.u9.1},p.u9.2)
def PS.gu(p:PS):PS:=(p.aU [dh]).name.2
def PS.alter(p:PS):Stmt×PS:=
 if(p.gu.keyword n9).1=true then({kind:=6,table:=(p.aU [dh]).name.1,jq:=[(p.gu.keyword n9).2.column.1]},(p.gu.keyword n9).2.column.2)
 else if(p.gu.keyword p6).1=true then({kind:=7,table:=(p.aU [dh]).name.1,name:=(p.gu.keyword p6).2.name.1},(p.gu.keyword p6).2.name.2)
 else(({}:Stmt),p.gu.fail 5)
def PS.rD(p:PS)(D:Rd):PS:=(p.cW D false).2.aU [jT,ka]
def PS.qP(p:PS)(D:Rd):Stmt×PS:=({kind:=8,cW:=(p.cW D false).1,day:=((p.rD D).day D).1,aJ:=((p.rD D).day D).2.ic.1},((p.rD D).day D).2.ic.2)
def PS.mg(p:PS):PS:=(p.number (-1)).2.aU [il]
def PS.mF(p:PS):PS:=(p.mg.number (-1)).2.aU [Jv]
def PS.p7(p:PS):Int×PS:=if(p.mF.keyword xP).1=true then(1099511627776,(p.mF.keyword xP).2) else p.mF.number (p.mg.number (-1)).1
def PS.hold(p:PS):Stmt×PS:=({kind:=10,n:=(p.number (-1)).1,wI:=((p.mg.number (-1)).1,p.p7.1)},p.p7.2)
def PS.mode(p:PS):Int×PS:=
 if(p.keyword ox).1=true then(2,(p.keyword ox).2) else if(p.keyword ow).1=true then(3,(p.keyword ow).2)
 else if(p.keyword oy).1=true then(4,(p.keyword oy).2) else if(p.keyword ov).1=true then(5,(p.keyword ov).2) else(1,p)
def PS.gE(p:PS)(D:Rd):Int×PS:=if(p.keyword jT).1=true then((p.keyword jT).2.aU [ka]).day D else(-1,p)
def PS.query(p:PS)(D:Rd):Stmt×PS:=
 ({kind:=1,mode:=p.mode.1,day:=((p.mode.2.cW D true).2.gE D).1,aJ:=((p.mode.2.cW D true).2.gE D).2.ic.1,cW:=(p.mode.2.cW D true).1},((p.mode.2.cW D true).2.gE D).2.ic.2)
def PS.cX(p:PS)(D:Rd):Stmt×PS:=
 if(p.keyword sn).1=true then(p.keyword sn).2.insert D
 else if(p.keyword so).1=true then(p.keyword so).2.remove D
 else if(p.keyword sq).1=true then(p.keyword sq).2.update D
 else if(p.keyword sr).1=true then(p.keyword sr).2.create
 else if(p.keyword sE).1=true then(p.keyword sE).2.alter
 else if(p.keyword sI).1=true then(p.keyword sI).2.qP D
 else if(p.keyword su).1=true then({kind:=9},(p.keyword su).2)
 else if(p.keyword sJ).1=true then(p.keyword sJ).2.hold
 else if(p.keyword pL).1=true then({kind:=11,n:=((p.keyword pL).2.number (-1)).1},((p.keyword pL).2.number (-1)).2)
 else if(p.keyword pP).1=true then({kind:=12,n:=(((p.keyword pP).2.aU [o4]).number (-1)).1},(((p.keyword pP).2.aU [o4]).number (-1)).2)
 else p.query D
open Go
def PS.wK(p:PS):List VV:=[.d (.sl (p.aA.map cb.enc)),dI (p.aJ:Nat),dI p.pos,dI p.err,dI (p.depth:Nat),.undef]
def PS.bz(p:PS):bo:=[(1000,.one 123 80 p.wK)]
section
variable{T:bd}{VE:b0}{B L:bo}
theorem gn{p:PS}(z:aY B 1000=some (.one 123 80 p.wK))(A:br L B):br (p.bz++L) B:=⟨z,A⟩
theorem fM{p:PS}(z:aY B 1000=some (.one 123 80 p.wK)):br p.bz B:=⟨z,trivial⟩
theorem ES{σ:List (Nat×Nat)}{N:Nat}{B L:bo}{p:PS}(z:(aY σ 1000).isSome=true)(h2:aY B (cC σ N 1000)=some ((BS.one 123 80 p.wK).cC σ N))(A:qO σ N L B):qO σ N (p.bz++L) B:=⟨z,h2,A⟩
end
section
variable{T:bd}{VE:b0}{B:bo}
def gj:List (Nat×Nat):=[(1000,1000)]
theorem ET{f:Nat}{l:List aF}{b9:List VV}{p A:PS}{R:VV}{Q:VV→bo→Prop}(h:bY T f b9 p.bz fun r Bn=>r=R∧Bn=A.bz)(G:aY B 1000=some (.one 123 80 p.wK))
  (I:(kK 2000 VE&&(kL 2000 B&&clean VE (eM gj B) gj))=true) (J:i6 VE l=some (iN gj 2000 b9)) (K:R.cC gj 2000=R) (O:Q R (A.bz++eM gj B)):VI T (.call f l) VE B [1000] Q:=by
 obtain⟨U,z⟩:=iF I
 obtain⟨z,Y⟩:=iF z
 exact jU (Bi:=p.bz) gj 2000 rfl rfl U z rfl Y J ⟨rfl,G,trivial⟩ h fun r Bn hp=>by
  obtain⟨rfl,rfl⟩:=hp
  rw[K]
  exact O
theorem dX{d:Key}{A:Option (List Nat)}{r:List bt}{f:Nat}{l:List aF}{b9:List VV}{p z:PS}{R:VV}{Q:b0→bo→Prop}(h:bY T f b9 p.bz fun r Bn=>r=R∧Bn=z.bz)(G:aY B 1000=some (.one 123 80 p.wK))
  (I:(kK 2000 VE&&(kL 2000 B&&clean VE (eM gj B) gj))=true) (J:i6 VE l=some (iN gj 2000 b9)) (K:R.cC gj 2000=R) (O:VO T r ((d.n,R)::VE) (z.bz++eM gj B) Q):VO T (⟨some d,none,A,.call f l⟩::r) VE B Q:=ak (ET h G I J K O)
theorem IX{d:Key}{m:List Nat}{fl:List FL}{r:List bt}{f:Nat}{l:List aF}{b9:List VV}{p z:PS}{R:VV}{Q:b0→bo→Prop}(h:bY T f b9 p.bz fun r Bn=>r=R∧Bn=z.bz)(hk:nU [1000] m fl=true)(A:aY B 1000=some (.one 123 80 p.wK))
  (G:(kK 2000 VE&&(kL 2000 B&&clean VE (eM gj B) gj))=true) (I:i6 VE l=some (iN gj 2000 b9)) (J:R.cC gj 2000=R) (K:VQ T r ((d.n,R)::VE) (z.bz++eM gj B) (.un::fl) Q):VQ T (⟨some d,none,some m,.call f l⟩::r) VE B fl Q:=eo hk (ET h A G I J K)
theorem IY{d:Key}{G:Option (List Nat)}{r:List bt}{f:Nat}{l:List aF}{b9:List VV}{p A:PS}{R:VV}{Q:b0→bo→Prop}(h:bY T f b9 p.bi fun r Bn=>r=R∧Bn=A.bz)(I:aY B 1000=some (.one 123 80 p.row))(h2:aY B 1050=some (.acc 142 88 8 (p.ex.map aN.enc)))
  (J:(kK 2000 VE&&(kL 2000 B&&clean VE (eM jt B) jt))=true) (K:i6 VE l=some (iN jt 2000 b9)) (O:R.cC jt 2000=R) (U:VO T r ((d.n,R)::VE) (A.bz++eM jt B) Q):VO T (⟨some d,none,G,.call f l⟩::r) VE B Q:=by
 obtain⟨Y,z⟩:=iF J
 obtain⟨z,Z⟩:=iF z
 exact ak (jU (Bi:=p.bi) jt 2000 rfl rfl Y z rfl Z K ⟨rfl,I,rfl,h2,trivial⟩ h fun r Bn hp=>by
  obtain⟨rfl,rfl⟩:=hp
  rw[O]
  exact U)
end
theorem uR{T:bd}(F:FT T){D:Rd}(z:hM T D){p:PS}(h:bf p):bY T 214 [.vp 1000 0] p.bi fun r Bn=>r=dI (p.expr D).1∧Bn=PS.bi (p.expr D).2:=(Nv F z 61).1 p h.st (by rw[h.d0])
end Go.Ev.Pp
