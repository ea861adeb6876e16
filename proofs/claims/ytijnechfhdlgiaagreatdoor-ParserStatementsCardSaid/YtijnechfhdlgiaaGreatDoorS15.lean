/- Part 15 of rules for walks through the code of a program, and of such walks; what each part proves is said by its theorems. -/
import Derived.Test.YtijnechfhdlgiaaGreatDoorS14
set_option linter.unusedVariables false
set_option linter.unusedSimpArgs false
noncomputable section
set_option maxRecDepth 100000
set_option maxHeartbeats 4000000
namespace Go.Ev.Pp
open Go
theorem xE{T:bd}(F:FT T){p:PS}(hp:p.ok):cg T 119 [.vp 1000 0] (PS.bz p) fun r Bn=>r=eU p.tok.enc∧Bn=PS.bz p:=by
 refine cL F.QD aa ?_
 have z:(p.aF.map cu.enc)[p.aO]?=some p.tok.enc:=by rw[iJ,hp.get];rfl
 refine an 1 aa (eO (bD 8 aa (bG (lF (row:=p.tok.enc) aa aa z aa ?_))))
 exact du 2 aa (ay (⟨_,PS.bz p,aa,gm aa,aa,aa⟩))
theorem tP{T:bd}(F:FT T){p:PS}(hp:p.ok)(e:Int):cg T 120 [.vp 1000 0,dI e] (PS.bz p) fun r Bn=>r= .tuple []∧Bn=PS.bz (p.fail e):=by
 refine cL F.QE aa (an 5 aa (aK aa (fun z=>?_) (fun z=>?_)))
 ·have h0:p.err=0:=by simpa using z
  refine bC (ae 4 aa (eA (xE F hp) aa aa aa aa (ak 7 aa ?_)))
  exact⟨_,PS.bz {p with err:=e,pos:=p.tok.pos},rfl,gm rfl,rfl,by unfold PS.fail;rw[az h0]⟩
 refine aQ ?_
 exact⟨_,PS.bz p,rfl,gm rfl,rfl,by unfold PS.fail;rw[al (by simpa using z)]⟩
theorem Ym{T:bd}(F:FT T){p:PS}(hp:p.ok)(k:Int)(s:List UInt8):cg T 208 [.vp 1000 0,dI k,dS s] (PS.bz p) fun r Bn=>r=dB (p.next k s)∧Bn=PS.bz p:=by
 refine cL F.QL aa (an 1 aa (ai (ae 1 aa (eA (xE F hp) aa aa aa aa (ak 2 aa (ai (ae 6 aa (dc (g:=bb) aa (fun z=>?_) (fun z=>?_)))))))))
 ·have h0:p.err=0:=by simpa using z
  refine aw aa (z) (dD aa ?_)
  refine aw aa (z) (df aa aa aa ?_)
  refine aw aa (z) (bY aa ?_)
  refine aw aa (z) (iC aa aa ?_)
  refine aj (c8 aa (z) aa ?_)
  refine ae 1 aa (dc (g:=bx) aa (fun A=>?_) (fun A=>?_))
  ·refine aw aa (A) (dD aa ?_)
   refine aw aa (A) (df aa aa aa ?_)
   refine aw aa (A) (bY aa ?_)
   refine aw aa (A) (nL aa aa ?_)
   refine aj (c8 aa (A) aa ?_)
   refine ak 1 aa (ay (⟨_,PS.bz p,aa,gm aa,?_,aa⟩))
   clear F hp
   simp_all [gX,PS.next]
  refine eJ aa (A) (eJ aa (A) (eJ aa (A) (eJ aa (A) (aj (cS aa (A) aa ?_)))))
  refine ak 1 aa (ay (⟨_,PS.bz p,aa,gm aa,?_,aa⟩))
  clear F hp
  simp_all [gX,PS.next]
 refine eJ aa (z) (eJ aa (z) (eJ aa (z) (eJ aa (z) (aj (cS aa (z) aa ?_)))))
 refine ae 1 aa (eJ aa aa (eJ aa aa (eJ aa aa (eJ aa aa (ak 2 aa (ay (⟨_,PS.bz p,aa,gm aa,?_,aa⟩)))))))
 clear F hp
 simp_all [gX,PS.next]
theorem Wf{T:bd}(F:FT T){p:PS}(hp:p.ok){k:Int}(hk:k≠6)(s:List UInt8):cg T 168 [.vp 1000 0,dI k,dS s] (PS.bz p) fun r Bn=>r=dB (p.accept k s).1∧Bn=PS.bz (p.accept k s).2:=by
 refine cL F.QJ aa (an 1 aa (aL (ai (ae 3 aa (eA (Ym F hp k s) aa aa aa aa (ak 1 aa (aK aa (fun z=>?_) (fun z=>?_))))))))
 ·have A:p.next k s=false:=by simpa using z
  refine an 1 aa (ay ?_)
  exact⟨_,PS.bz p,rfl,gm rfl,by unfold PS.accept;rw[A];rfl,by unfold PS.accept;rw[A];rfl⟩
 have A:p.next k s=true:=by simpa using z
 have ew:=PS.lQ hp hk A
 have fZ:=hp.eG
 refine aQ (ai (ae 4 aa (aj (cM aa aa ah ?_))))
 refine ak 3 aa (an 1 aa (ay ?_))
 exact⟨_,PS.bz p.step,rfl,gm rfl,by unfold PS.accept;rw[az A];rfl,by unfold PS.accept;rw[az A]⟩
theorem oo{T:bd}(F:FT T){p:PS}(hp:p.ok)(s:List UInt8):cg T 121 [.vp 1000 0,dS s] (PS.bz p) fun r Bn=>r=dB (p.keyword s).1∧Bn=PS.bz (p.keyword s).2:=by
 exact cL F.QF aa (an 1 aa (ai (ae 2 aa (eA (Wf F hp aq s) aa aa aa aa (ak 1 aa (ay (⟨_,PS.bz (p.accept 1 s).2,aa,gm aa,aa,aa⟩)))))))
theorem rR{T:bd}(F:FT T){p:PS}(hp:p.ok)(l:List (List UInt8))(Y:l.length≤100):cg T 130 [.vp 1000 0,.d (.sl (l.map fun s=>[cl s]))] (PS.bz p) fun r Bn=>r= .tuple []∧Bn=PS.bz (p.bc l):=by
 refine cL F.QH aa (an 3 aa (bM (d7 (fun k VE B=>∃i:Nat,i≤l.length∧k=l.length-i∧bn [(0,.vp 1000 0),(6,.d (.sl (l.map fun s=>[cl s]))),(7,dI ((l.map fun s=>[cl s]).length:Nat)),(8,dI (i:Nat))] VE∧bn (PS.bz ((l.take i).foldl PS.gA p)) B) ?_ (k:=l.length) ⟨0,dp _,aa,⟨aa,aa,aa,aa,trivial⟩,gm aa⟩)))
 rintro k VE B⟨i,hi,rfl,U,G⟩
 refine eZ (PS.bz ((l.take i).foldl PS.gA p)++[]) G ?_
 have G:bn (PS.bz ((l.take i).foldl PS.gA p)++[]) (PS.bz ((l.take i).foldl PS.gA p)++[]):=gL rfl trivial
 have O:PS.ok ((l.take i).foldl PS.gA p):=PS.G3 (l:=l.take i) hp
 refine db _ _ U G (an 1 aa (aL (aK aa (fun I=>?_) (fun I=>?_))))
 ·have ew:i<l.length:=by simpa using I
  obtain⟨x,J⟩:∃x,l[i]?=some x:=⟨_,fe ew⟩
  have A:(l.map fun s=>[cl s])[i]?=some [cl x]:=by rw[iJ,J];rfl
  refine aQ (aL (bM (ai (aj (lF aa aa A aa ?_)))))
  refine ak 2 aa (ai (ae 2 aa (eA (oo F O x) aa aa aa aa (ak 1 aa (aK aa (fun z=>?_) (fun z=>?_))))))
  ·refine bC (ae 1 aa (eA (tP F (PS.xU O x) 5) aa aa aa aa (aX (bC (aj (cM aa aa ah ?_))))))
   refine ak 1 aa (⟨l.length-(i+1),ah,i+1,ah,aa,⟨aa,aa,aa,aa,trivial⟩,?_⟩)
   rw[yR,J,yS]
   rw[show List.foldl PS.gA ((l.take i).foldl PS.gA p) (some x).toList=PS.gA ((l.take i).foldl PS.gA p) x from rfl,PS.Bs (by simpa using z)];exact gm rfl
  refine aQ (bC (aj (cM aa aa ah ?_)))
  refine ak 1 aa (⟨l.length-(i+1),ah,i+1,ah,aa,⟨aa,aa,aa,aa,trivial⟩,?_⟩)
  rw[yR,J,yS]
  rw[show List.foldl PS.gA ((l.take i).foldl PS.gA p) (some x).toList=PS.gA ((l.take i).foldl PS.gA p) x from rfl,PS.Ep (by simpa using z)];exact gm rfl
 have K:l.length≤i:=by simpa using I
 refine dJ (⟨_,PS.bz ((l.take i).foldl PS.gA p),aa,gm aa,aa,?_⟩)
 rw[pR K];rfl
theorem take0Z{T:bd}(F:FT T){p:PS}(hp:St p){k e:Int}(mv:k≠6){g:Nat}(hC:p.err=0→p.tok.kind=k→cg T g ([dS p.tok.text]++[]) [] fun r Bn=>r=dI e∧Bn=[]):cg T 180 [.vp 1000 0,dI k,.fn g []] (PS.bz p++[]) fun r Bn=>r=dS (p.take k e).1∧Bn=PS.bz (p.take k e).2++[]:=by
 refine cL F.vW aa (eZ (PS.bz p++[]) (gL aa trivial) (an 1 aa (aL (an 5 aa (aK aa (fun bQ=>?_) (fun bQ=>?_))))))
 ·have h0:¬p.err=0:=by simpa using bQ
  refine an 1 aa (ay ?_)
  exact⟨_,PS.bz p++[],rfl,gL rfl trivial,by unfold PS.take;rw[al h0];rfl,by simp[PS.take,PS.called,h0]⟩
 have h0:p.err=0:=by simpa using bQ
 refine aQ (ai (ae 1 aa (eA (xE F hp.ok) aa aa aa aa (ak 2 aa (aL (ai (ae 3 aa (aj (iV aa aa ?_)))))))))
 refine aX (aK aa (fun eC=>?_) (fun eC=>?_))
 ·have hk:¬p.tok.kind=k:=by simpa using eC
  refine ai (ae 1 aa (eA (tP F hp.ok 5) aa aa aa aa (aX (an 1 aa (ay ?_)))))
  exact⟨_,PS.bz (p.fail 5)++[],rfl,gL rfl trivial,by unfold PS.take;rw[az h0,al hk];rfl,by simp[PS.take,PS.called,h0,hk]⟩
 have hk:p.tok.kind=k:=by simpa using eC
 have ew:=PS.mc hp.ok mv hk
 have fZ:=hp.ok.eG
 refine aQ (aL (ai (ae 3 aa (aj (rQ (cm:=[dS p.tok.text]) (Bi:=[]) [] 2000 aa aa aa aa aa aa aa aa aa trivial (hC h0 hk) (fun r Bn gx=>?_))))))
 obtain⟨rfl,rfl⟩:=gx
 refine eX (PS.bz p++[(7,.one 69 32 (p.tok.enc.map .d))]) (gL aa ⟨aa,trivial⟩) (ak 1 aa (an 2 aa (aK aa (fun dr=>?_) (fun dr=>?_))))
 ·have he:¬e=0:=by simpa using dr
  refine ai (ae 2 aa (eA (tP F hp.ok e) aa aa aa aa (aX (an 1 aa (ay ?_)))))
  exact⟨_,PS.bz (p.fail e)++[],rfl,gL rfl trivial,by unfold PS.take;rw[az h0,az hk,al he];rfl,by simp[PS.take,PS.called,h0,hk,he]⟩
 have he:e=0:=by simpa using dr
 refine aQ (ai (ae 4 aa (aj (cM aa aa ah ?_))))
 refine ak 3 aa (an 3 aa (ay ?_))
 exact⟨_,PS.bz p.step++[],rfl,gL rfl trivial,by unfold PS.take;rw[az h0,az hk,az he];rfl,by simp[PS.take,PS.called,h0,hk,he]⟩
theorem Xo{T:bd}(F:FT T){p:PS}(hp:St p){k e:Int}(mv:k≠6){g:Nat}{e1 b1:Nat}{x x2:DC}(hC:p.err=0→p.tok.kind=k→cg T g ([dS p.tok.text]++[.vp 1001 0]) [(1001,.one e1 b1 [.d x])] fun r Bn=>r=dI e∧Bn=[(1001,.one e1 b1 [.d x2])]):cg T 180 [.vp 1000 0,dI k,.fn g [.vp 1001 0]] (PS.bz p++[(1001,.one e1 b1 [.d x])]) fun r Bn=>r=dS (p.take k e).1∧Bn=PS.bz (p.take k e).2++[(1001,.one e1 b1 [.d (if p.called k=true then x2 else x)])]:=by
 refine cL F.vW aa (eZ (PS.bz p++[(1001,.one e1 b1 [.d x])]) (gL aa ⟨aa,trivial⟩) (an 1 aa (aL (an 5 aa (aK aa (fun bQ=>?_) (fun bQ=>?_))))))
 ·have h0:¬p.err=0:=by simpa using bQ
  refine an 1 aa (ay ?_)
  exact⟨_,PS.bz p++[(1001,.one e1 b1 [.d x])],rfl,gL rfl ⟨rfl,trivial⟩,by unfold PS.take;rw[al h0];rfl,by simp[PS.take,PS.called,h0]⟩
 have h0:p.err=0:=by simpa using bQ
 refine aQ (ai (ae 1 aa (eA (xE F hp.ok) aa aa aa aa (ak 2 aa (aL (ai (ae 3 aa (aj (iV aa aa ?_)))))))))
 refine aX (aK aa (fun eC=>?_) (fun eC=>?_))
 ·have hk:¬p.tok.kind=k:=by simpa using eC
  refine ai (ae 1 aa (eA (tP F hp.ok 5) aa aa aa aa (aX (an 1 aa (ay ?_)))))
  exact⟨_,PS.bz (p.fail 5)++[(1001,.one e1 b1 [.d x])],rfl,gL rfl ⟨rfl,trivial⟩,by unfold PS.take;rw[az h0,al hk];rfl,by simp[PS.take,PS.called,h0,hk]⟩
 have hk:p.tok.kind=k:=by simpa using eC
 have ew:=PS.mc hp.ok mv hk
 have fZ:=hp.ok.eG
 refine aQ (aL (ai (ae 3 aa (aj (rQ (cm:=[dS p.tok.text,.vp 1001 0]) (Bi:=[(1001,.one e1 b1 [.d x])]) [(1001,1001)] 2000 aa aa aa aa aa aa aa aa aa ⟨aa,aa,trivial⟩ (hC h0 hk) (fun r Bn gx=>?_))))))
 obtain⟨rfl,rfl⟩:=gx
 refine eX (PS.bz p++[(1001,.one e1 b1 [.d x2]),(7,.one 69 32 (p.tok.enc.map .d))]) (gL aa ⟨aa,aa,trivial⟩) (ak 1 aa (an 2 aa (aK aa (fun dr=>?_) (fun dr=>?_))))
 ·have he:¬e=0:=by simpa using dr
  refine ai (ae 2 aa (eA (tP F hp.ok e) aa aa aa aa (aX (an 1 aa (ay ?_)))))
  exact⟨_,PS.bz (p.fail e)++[(1001,.one e1 b1 [.d x2])],rfl,gL rfl ⟨rfl,trivial⟩,by unfold PS.take;rw[az h0,az hk,al he];rfl,by simp[PS.take,PS.called,h0,hk,he]⟩
 have he:e=0:=by simpa using dr
 refine aQ (ai (ae 4 aa (aj (cM aa aa ah ?_))))
 refine ak 3 aa (an 3 aa (ay ?_))
 exact⟨_,PS.bz p.step++[(1001,.one e1 b1 [.d x2])],rfl,gL rfl ⟨rfl,trivial⟩,by unfold PS.take;rw[az h0,az hk,az he];rfl,by simp[PS.take,PS.called,h0,hk,he]⟩
theorem Xp{T:bd}(F:FT T){p:PS}(hp:St p){k e:Int}(mv:k≠6){g:Nat}{e1 b1 e2 b2:Nat}{x y y2:DC}(hC:p.err=0→p.tok.kind=k→cg T g ([dS p.tok.text]++[.vp 1001 0,.vp 1002 0]) [(1001,.one e1 b1 [.d x]),(1002,.one e2 b2 [.d y])] fun r Bn=>r=dI e∧Bn=[(1001,.one e1 b1 [.d x]),(1002,.one e2 b2 [.d y2])]):cg T 180 [.vp 1000 0,dI k,.fn g [.vp 1001 0,.vp 1002 0]] (PS.bz p++[(1001,.one e1 b1 [.d x]),(1002,.one e2 b2 [.d y])]) fun r Bn=>r=dS (p.take k e).1∧Bn=PS.bz (p.take k e).2++[(1001,.one e1 b1 [.d x]),(1002,.one e2 b2 [.d (if p.called k=true then y2 else y)])]:=by
 refine cL F.vW aa (eZ (PS.bz p++[(1001,.one e1 b1 [.d x]),(1002,.one e2 b2 [.d y])]) (gL aa ⟨aa,aa,trivial⟩) (an 1 aa (aL (an 5 aa (aK aa (fun bQ=>?_) (fun bQ=>?_))))))
 ·have h0:¬p.err=0:=by simpa using bQ
  refine an 1 aa (ay ?_)
  exact⟨_,PS.bz p++[(1001,.one e1 b1 [.d x]),(1002,.one e2 b2 [.d y])],rfl,gL rfl ⟨rfl,rfl,trivial⟩,by unfold PS.take;rw[al h0];rfl,by simp[PS.take,PS.called,h0]⟩
 have h0:p.err=0:=by simpa using bQ
 refine aQ (ai (ae 1 aa (eA (xE F hp.ok) aa aa aa aa (ak 2 aa (aL (ai (ae 3 aa (aj (iV aa aa ?_)))))))))
 refine aX (aK aa (fun eC=>?_) (fun eC=>?_))
 ·have hk:¬p.tok.kind=k:=by simpa using eC
  refine ai (ae 1 aa (eA (tP F hp.ok 5) aa aa aa aa (aX (an 1 aa (ay ?_)))))
  exact⟨_,PS.bz (p.fail 5)++[(1001,.one e1 b1 [.d x]),(1002,.one e2 b2 [.d y])],rfl,gL rfl ⟨rfl,rfl,trivial⟩,by unfold PS.take;rw[az h0,al hk];rfl,by simp[PS.take,PS.called,h0,hk]⟩
 have hk:p.tok.kind=k:=by simpa using eC
 have ew:=PS.mc hp.ok mv hk
 have fZ:=hp.ok.eG
 refine aQ (aL (ai (ae 3 aa (aj (rQ (cm:=[dS p.tok.text,.vp 1001 0,.vp 1002 0]) (Bi:=[(1001,.one e1 b1 [.d x]),(1002,.one e2 b2 [.d y])]) [(1001,1001),(1002,1002)] 2000 aa aa aa aa aa aa aa aa aa ⟨aa,aa,aa,aa,trivial⟩ (hC h0 hk) (fun r Bn gx=>?_))))))
 obtain⟨rfl,rfl⟩:=gx
 refine eX (PS.bz p++[(1001,.one e1 b1 [.d x]),(1002,.one e2 b2 [.d y2]),(7,.one 69 32 (p.tok.enc.map .d))]) (gL aa ⟨aa,aa,aa,trivial⟩) (ak 1 aa (an 2 aa (aK aa (fun dr=>?_) (fun dr=>?_))))
 ·have he:¬e=0:=by simpa using dr
  refine ai (ae 2 aa (eA (tP F hp.ok e) aa aa aa aa (aX (an 1 aa (ay ?_)))))
  exact⟨_,PS.bz (p.fail e)++[(1001,.one e1 b1 [.d x]),(1002,.one e2 b2 [.d y2])],rfl,gL rfl ⟨rfl,rfl,trivial⟩,by unfold PS.take;rw[az h0,az hk,al he];rfl,by simp[PS.take,PS.called,h0,hk,he]⟩
 have he:e=0:=by simpa using dr
 refine aQ (ai (ae 4 aa (aj (cM aa aa ah ?_))))
 refine ak 3 aa (an 3 aa (ay ?_))
 exact⟨_,PS.bz p.step++[(1001,.one e1 b1 [.d x]),(1002,.one e2 b2 [.d y2])],rfl,gL rfl ⟨rfl,rfl,trivial⟩,by unfold PS.take;rw[az h0,az hk,az he];rfl,by simp[PS.take,PS.called,h0,hk,he]⟩
theorem Wg{T:bd}(F:FT T){D:Rd}(z:iF T D){p:PS}(hp:St p)(least:Int):cg T 129 [.vp 1000 0,dI least] (PS.bz p) fun r Bn=>r=dI (p.number least).1∧Bn=PS.bz (p.number least).2:=by
 refine cL F.QG aa (an 2 aa (an 2 aa (ai (ae 2 aa (aj (kn (cm:=[.vp 1000 0,dI 3,.fn 181 [.vp 1001 0,.vp 1002 0]]) (Bi:=PS.bz p++[(1001,.one 3 8 [dI least]),(1002,.one 3 8 [d0])]) [(1000,1000),(1001,3),(1002,5)] 2000 aa aa aa aa aa aa aa (FE aa aa ⟨aa,aa,aa,aa,trivial⟩) (Xp F hp aq (fun _ hk=>Nw F z (hp.nY.1 _ hp.ok.mem hk) least)) (fun r Bn gx=>?_)))))))
 obtain⟨rfl,rfl⟩:=gx
 refine eX (PS.bz (p.take 3 (mW least p.tok.text)).2++[(5,.one 3 8 [.d (if p.called 3=true then .i .i64 (if mW least p.tok.text=0 then(eE p.tok.text:Nat) else 0) else .i .i64 0)])]) (gL aa ⟨aa,trivial⟩) (aX (an 2 aa (ay (⟨_,PS.bz (p.number least).2,aa,gm aa,?_,aa⟩))))
 unfold PS.number
 by_cases A:p.called 3=true<;>by_cases h2:mW least p.tok.text=0<;>simp[gX,A,h2]
theorem Al{T:bd}(F:FT T){D:Rd}(z:iF T D){p:PS}(hp:St p):cg T 178 [.vp 1000 0] (PS.bz p) fun r Bn=>r=dI (p.day D).1∧Bn=PS.bz (p.day D).2:=by
 refine cL F.QK aa (an 1 aa (an 2 aa (ai (ae 2 aa (aj (kn (cm:=[.vp 1000 0,dI 4,.fn 215 [.vp 1001 0]]) (Bi:=PS.bz p++[(1001,.one 3 8 [d0])]) [(1000,1000),(1001,3)] 2000 aa aa aa aa aa aa aa (FE aa aa ⟨aa,aa,trivial⟩) (Xo F hp aq (fun _ _=>QM F z (hp.nY.2 _ hp.ok.mem))) (fun r Bn gx=>?_)))))))
 obtain⟨rfl,rfl⟩:=gx
 refine eX (PS.bz (p.take 4 (D.kr p.tok.text)).2++[(3,.one 3 8 [.d (if p.called 4=true then .i .i64 (D.day p.tok.text).1 else .i .i64 0)])]) (gL aa ⟨aa,trivial⟩) (aX (an 2 aa (ay (⟨_,PS.bz (p.day D).2,aa,gm aa,?_,aa⟩))))
 unfold PS.day
 by_cases A:p.called 4=true<;>simp[gX,A]<;>rfl
theorem ES{T:bd}(F:FT T){D:Rd}(I:iF T D){p:PS}(hp:bk p):cg T 174 [.vp 1000 0] (PS.bi p) fun r Bn=>r=dI (p.eF D).1∧Bn=PS.bi (p.eF D).2:=by
 refine cL F.abY aa (an 1 aa (aL (ai (ae 1 aa (bo (keyword F hp.ok kt) aa aa aa aa aa (ak 1 aa (aK aa (fun A=>?_) (fun A=>?_))))))))
 ·have z:(p.keyword kt).1=false:=by simpa using A
  have G:p.eF D=(-1,p):=by unfold PS.eF;rw[al (by rw[z];decide)]
  rw[PS.da z]
  refine an 1 aa (ay ?_)
  rw[G]
  exact⟨_,PS.bi _,aa,cX aa aa,aa,aa⟩
 have z:(p.keyword kt).1=true:=by simpa using A
 have G:p.eF D=(p.keyword kt).2.expr D:=by unfold PS.eF;rw[az z]
 refine aQ (ai (ae 1 aa (bo (vM F I (hp.kw kt).top) aa aa aa aa aa (ak 1 aa (ay ?_)))))
 rw[G]
 exact⟨_,PS.bi _,aa,cX aa aa,aa,aa⟩
theorem gV{T:bd}(F:FT T){D:Rd}(z:iF T D){p:PS}(hp:bk p):cg T 175 [.vp 1000 0] (PS.bi p) fun r Bn=>r=eU (fm (p.set D).1)∧Bn=PS.bi (p.set D).2:=by
 refine cL F.abZ aa (an 1 aa (ai (ae 1 aa (bo (name F hp.st) aa aa aa aa aa (ak 3 aa (ai (ae 1 aa (bo (bJ F hp.name.ok nE) aa aa aa aa aa (aX ?_)))))))))
 exact ai (ae 1 aa (bo (vM F z (hp.name.top.ij nE).top) aa aa aa aa aa (ak 2 aa (an 2 aa (ay (⟨_,PS.bi (p.set D).2,aa,cX aa aa,aa,aa⟩))))))
theorem H7{T:bd}(F:FT T){p:PS}(hp:bk p):cg T 176 [.vp 1000 0] (PS.bi p) fun r Bn=>r=eU (di p.column.1)∧Bn=PS.bi p.column.2:=by
 refine cL F.ab0 aa (an 1 aa (ai (ae 1 aa (bo (name F hp.st) aa aa aa aa aa (ak 3 aa (aL (bM (ai (ae 1 aa ?_)))))))))
 refine bo (keyword F hp.name.ok Ak) aa aa aa aa aa (ak 1 aa (aK aa (fun G=>?_) (fun G=>?_)))
 ·have A:p.column=((p.name.1,1),(p.name.2.keyword Ak).2):=by unfold PS.column PS.ov;rw[az G]
  refine bC (ak 2 aa (an 2 aa (ay ?_)))
  rw[A]
  exact⟨_,PS.bi _,aa,cX aa aa,aa,aa⟩
 rw[PS.da G]
 refine ai (ae 1 aa (bo (keyword F hp.name.ok zV) aa aa aa aa aa (ak 1 aa (aK aa (fun bQ=>?_) (fun bQ=>?_)))))
 ·have A:p.column=((p.name.1,2),(p.name.2.keyword zV).2):=by unfold PS.column PS.ov;rw[al (by rw[G];decide),az bQ]
  refine bC (ak 2 aa (an 2 aa (ay ?_)))
  rw[A]
  exact⟨_,PS.bi _,aa,cX aa aa,aa,aa⟩
 rw[PS.da bQ]
 refine ai (ae 1 aa (bo (keyword F hp.name.ok zW) aa aa aa aa aa (ak 1 aa (aK aa (fun z=>?_) (fun z=>?_)))))
 ·have A:p.column=((p.name.1,3),(p.name.2.keyword zW).2):=by unfold PS.column PS.ov;rw[al (by rw[G];decide),al (by rw[bQ];decide),az z]
  refine bC (ak 2 aa (an 2 aa (ay ?_)))
  rw[A]
  exact⟨_,PS.bi _,aa,cX aa aa,aa,aa⟩
 have A:p.column=((p.name.1,0),p.name.2.fail 5):=by unfold PS.column PS.ov;rw[al (by rw[G];decide),al (by rw[bQ];decide),al (by rw[z];decide)]
 rw[PS.da z]
 refine bC (ae 1 aa (bo (fail F hp.name.ok 5) aa aa aa aa aa (aX (an 2 aa (ay ?_)))))
 rw[A]
 exact⟨_,PS.bi _,aa,cX aa aa,aa,aa⟩
theorem tE{T:bd}(F:FT T){p:PS}(hp:bk p):cg T 177 [.vp 1000 0] (PS.bi p) fun r Bn=>r= .d (gC p.names.1)∧Bn=PS.bi p.names.2:=by
 refine cL F.ab1 aa ?_
 have U:=hp.ij cE
 have G:∀x:PS,bk x→b8 x (PS.name x).2:=fun _ h=>h.name
 refine an 1 aa (ai (ae 1 aa (bo (bJ F hp.ok cE) aa aa aa aa aa (aX (ai (ae 1 aa (bo (name F U.st) aa aa aa aa aa (ak 2 aa (aL ?_)))))))))
 refine bM (d7 (fun k VE B=>∃(l:List _)(q:PS),lg PS.name k l q=(jG PS.name (p.bJ cE))∧l≠[]∧l.length≤q.aO+1∧(p.bJ cE).aF.length≤k+q.aO∧b8 (p.bJ cE) q∧bn [(0,.vp 1000 0),(3,.bs 8 (l.map (fun s=>[cl s])).length 1)] VE∧bn (PS.bi q++[(8,.arr 9 16 1 (l.map (fun s=>[cl s])).length (l.map (fun s=>[cl s])))]) B) ?_ (k:=(p.bJ cE).aF.length) ⟨[(PS.name (p.bJ cE)).1],(PS.name (p.bJ cE)).2,aa,qz _ _,nm (dp _),ku _ _,G _ U.top,⟨aa,aa,trivial⟩,dK aa aa ⟨aa,trivial⟩⟩)
 rintro k VE B⟨l,q,z,K,Z,hk,I,hV,O⟩
 refine eZ (PS.bi q++[(8,.arr 9 16 1 (l.map (fun s=>[cl s])).length (l.map (fun s=>[cl s])))]) O ?_
 have O:bn (PS.bi q++[(8,.arr 9 16 1 (l.map (fun s=>[cl s])).length (l.map (fun s=>[cl s])))]) (PS.bi q++[(8,.arr 9 16 1 (l.map (fun s=>[cl s])).length (l.map (fun s=>[cl s])))]):=dK rfl rfl ⟨rfl,trivial⟩
 have gM:q.aF.length=(p.bJ cE).aF.length:=by rw[I.aF]
 refine db _ _ hV O (aL (ai (ae 1 aa (bo (sign F I.ok cT) aa aa aa aa aa (aX (aK aa (fun A=>?_) (fun A=>?_)))))))
 ·have h2:=I.top.sign cT
  have J:=pB I.ok A
  have fZ:=I.ok.eG
  obtain⟨k,rfl⟩:∃k',k=k'+1:=⟨k-1,by have:=J.2;omega⟩
  rw[pC A] at z
  have Y:=h2.trans (G _ h2.top)
  refine aQ (bM (bC (ae 2 aa (bo (name F h2.top.st) aa aa aa aa aa (ae 1 aa ?_)))))
  refine aj (ot (rows:=l.map (fun s=>[cl s])) (ys:=[[cl (PS.name (q.sign cT).2).1]]) rfl rfl rfl (.bs (rows:=[[cl (PS.name (q.sign cT).2).1]]) rfl) (b0 rfl) (by simp only[bE,ca,cV,dL];omega) ?_)
  refine ak 1 aa (⟨k,gG k,l++[(PS.name (q.sign cT).2).1],(PS.name (q.sign cT).2).2,z,mX K _,?_,?_,I.trans Y,?_,?_⟩)
  ·have:=Y.aO;have:=J.1;have:=(G _ h2.top).aO;rw[bE,dY];show l.length+1≤(PS.name (q.sign cT).2).2.aO+1;omega
  ·have:=(G _ h2.top).aO;have:=J.1;show(p.bJ cE).aF.length≤k+(PS.name (q.sign cT).2).2.aO;omega
  ·try simp only[dx,e7,gj]
   exact⟨aa,aa,trivial⟩
  try simp only[dx,e7,gj]
  exact dK aa aa ⟨aa,trivial⟩
 rw[pD A] at z
 rw[PS.iS A]
 refine dJ (ai (ae 1 aa (bo (bJ F I.ok ee) aa aa aa aa aa (aX (ai (ae 1 aa (gD 18 8 aa aa (fun _=>⟨aa,aa⟩) (ak 1 aa (ay ?_)))))))))
 have hm:p.names=(l,q.bJ ee):=by unfold PS.names;rw[←z]
 rw[hm]
 unfold gC
 rw[DC.rT (by simpa using K)]
 exact⟨_,PS.bi _,aa,cX aa aa,aa,aa⟩
variable{p:PS}{D:Rd}
theorem bk.eF(h:bk p)(D:Rd):b8 p (p.eF D).2:=by
 unfold PS.eF
 split
 ·exact(h.kw _).trans ((h.kw _).top.expr D)
 exact .refl h
theorem bk.set(h:bk p)(D:Rd):b8 p (p.set D).2:=by
 have z:=h.name
 have h2:=z.trans (z.top.ij nE)
 exact h2.trans (h2.top.expr D)
theorem bk.ov(h:bk p):b8 p p.ov.2:=by
 unfold PS.ov
 split
 ·exact h.kw _
 split
 ·exact h.kw _
 split
 ·exact h.kw _
 exact h.fail aq
theorem bk.column(h:bk p):b8 p p.column.2:=h.name.trans h.name.top.ov
theorem bk.names(h:bk p):b8 p p.names.2:=by
 have z:=h.ij cE
 have h2:=z.trans (yh (fun _ h=>h.name) z.top)
 exact h2.trans (h2.top.ij ee)
theorem bk.iL(h:bk p):b8 p p.iL.2:=by
 unfold PS.iL
 split
 ·have z:=h.kw fM
  have h2:=z.trans (z.top.d6 [kD])
  exact h2.trans (h2.top.number _)
 exact .refl h
theorem bk.alias(h:bk p)(a:Bool):b8 p (p.alias a).2:=by
 unfold PS.alias
 split
 ·exact .refl h
 rename_i z
 split
 ·exact .refl h
 have A:=h.step (by unfold PS.next at z;simp only[Bool.not_eq_false,fE,fx] at z;exact z.1) (PS.lQ h.ok (kind:=1) aq (by simpa using z))
 exact A.trans A.top.name
theorem bk.agg(h:bk p):b8 p p.agg.2:=by
 unfold PS.agg
 split
 ·exact h.kw _
 split
 ·exact h.kw _
 split
 ·exact h.kw _
 exact .refl h
theorem bk.gy(h:bk p)(D:Rd):b8 p (p.gy D).2:=by
 have z:=h.ij cE
 have h2:=z.trans (z.top.expr D)
 exact h2.trans (h2.top.ij ee)
theorem bk.jd(h:bk p)(D:Rd):b8 p (p.jd D).2:=by
 unfold PS.jd
 split
 ·have z:=h.kw j6
  have h2:=z.trans (z.top.ij cE)
  have A:=h2.trans (h2.top.ij fv)
  exact A.trans (A.top.ij ee)
 split
 ·exact h.expr D
 exact h.agg.trans (h.agg.top.gy D)
theorem bk.item(h:bk p)(D:Rd):b8 p (p.item D).2:=(h.jd D).trans ((h.jd D).top.alias false)
theorem bk.source(h:bk p)(a:Bool):b8 p (p.source a).2:=h.name.trans (h.name.top.alias a)
theorem bk.join(h:bk p){l:Bool}{q:PS}(z:p.join=some (l,q)):b8 p q∧p.aO+1≤q.aO∧p.aO+1<p.aF.length:=by
 unfold PS.join at z
 split at z
 ·rename_i hk
  cases z
  have A:=h.kw oJ
  have h2:=A.top.d6 [kK]
  have G:=nV h.ok hk
  exact⟨A.trans h2,by have:=h2.aO;omega,G.2⟩
 split at z
 ·rename_i hk
  cases z
  exact⟨h.kw _,(nV h.ok hk).1,(nV h.ok hk).2⟩
 cases z
theorem bk.gZ(h:bk p)(D:Rd)(l:Bool):b8 p (p.gZ D l).2:=by
 have z:=h.source false
 have h2:=z.trans (z.top.d6 [p5])
 exact h2.trans (h2.top.expr D)
theorem DB(h:p.join=none)(l:List Src):∀k,pK D k l p=(l,p)
 |0=>rfl
 |k+1=>by unfold pK;rw[h]
theorem AT{b:Bool}{q:PS}(h:p.join=some (b,q))(k:Nat)(l:List Src):pK D (k+1) l p=pK D k (l++[(q.gZ D b).1]) (q.gZ D b).2:=by
 show(match p.join with|none=>(l,p)|some (left,q)=>pK D k (l++[(q.gZ D left).1]) (q.gZ D left).2)=_
 rw[h]
theorem L':∀(k:Nat)(l:List Src){p:PS},bk p→b8 p (pK D k l p).2
 |0,l,p,h=>.refl h
 |k+1,l,p,h=>by
  cases z:p.join with
  |none=>rw[DB z];exact .refl h
  |some x=>
   obtain⟨b,q⟩:=x
   rw[AT z]
   have A:=(h.join z).1
   have h2:=A.trans (A.top.gZ D b)
   exact h2.trans (L' k _ h2.top)
theorem bk.kv(h:bk p)(D:Rd)(a:Bool):b8 p (p.kv D a).2:=(h.source a).trans (L' _ _ (h.source a).top)
theorem bk.kL(h:bk p):b8 p p.kL:=by
 unfold PS.kL
 split
 ·exact h.fail aq
 exact .refl h
theorem bk.dU(h:bk p):b8 p p.dU.2:=by
 unfold PS.dU
 split
 ·exact h.kL
 rename_i h0
 exact h.kL.trans ((bO.gJ h.kL.st (by simpa using h0)).go h.kL.top)
theorem bk.nil(h:bk p):b8 p {p with ex:=[]}:=⟨⟨h.st.of ⟨h.ok.lt,h.ok.eG,h.ok.last,h.ok.lC,dp _⟩ rfl,h.d0⟩,rfl,bR _,id,id⟩
theorem bk.jk(h:bk p):b8 p p.jk:=h.nil.trans (h.nil.top.d6 [Bu])
theorem bk.fU(h:bk p):b8 p p.fU:=h.jk.trans (h.jk.top.kw jE)
theorem bk.items(h:bk p)(D:Rd):b8 p (p.items D).2:=by
 unfold PS.items
 split
 ·exact h.sign _
 exact yh (fun _ h=>h.item D) h
theorem bk.group(h:bk p):b8 p p.group.2:=by
 unfold PS.group
 split
 ·have z:=h.kw gS
  have h2:=z.trans (z.top.d6 [hJ])
  exact h2.trans (yh (fun _ h=>h.dU) h2.top)
 exact .refl h
theorem bk.f5(h:bk p)(D:Rd):b8 p (p.f5 D):=by
 have z:=h.fU
 have h2:=z.trans (z.top.items D)
 exact h2.trans (h2.top.d6 [iO])
theorem bk.jw(h:bk p)(D:Rd)(a:Bool):b8 p (p.jw D a):=(h.f5 D).trans ((h.f5 D).top.kv D a)
theorem bk.dZ(h:bk p)(D:Rd)(a:Bool):b8 p (p.dZ D a):=(h.jw D a).trans ((h.jw D a).top.eF D)
theorem bk.core(h:bk p)(D:Rd)(a:Bool):b8 p (p.core D a).2:=(h.dZ D a).trans (h.dZ D a).top.group
theorem bk.op(h:bk p){o:Int}{q:PS}(z:p.op=some (o,q)):b8 p q∧p.aO+1≤q.aO∧p.aO+1<p.aF.length:=by
 unfold PS.op at z
 split at z
 ·rename_i hk;cases z;exact⟨h.kw _,(nV h.ok hk).1,(nV h.ok hk).2⟩
 split at z
 ·rename_i hk;cases z;exact⟨h.kw _,(nV h.ok hk).1,(nV h.ok hk).2⟩
 split at z
 ·rename_i hk;cases z;exact⟨h.kw _,(nV h.ok hk).1,(nV h.ok hk).2⟩
 cases z
theorem DT{a:Bool}(h:p.op=none)(s:jW):∀k,qR D a k s p=(s,p)
 |0=>rfl
 |k+1=>by unfold qR;rw[h]
theorem wE{a:Bool}{o:Int}{q:PS}(h:p.op=some (o,q))(k:Nat)(s:jW):qR D a (k+1) s p=qR D a k ⟨s.gB++[((q.bc [hY]).core D a).1],s.ops++[o]⟩ ((q.bc [hY]).core D a).2:=by
 show(match p.op with|none=>(s,p)|some (o,q)=>qR D a k ⟨s.gB++[((q.bc [hY]).core D a).1],s.ops++[o]⟩ ((q.bc [hY]).core D a).2)=_
 rw[h]
theorem Nx{a:Bool}:∀(k:Nat)(s:jW){p:PS},bk p→b8 p (qR D a k s p).2
 |0,s,p,h=>.refl h
 |k+1,s,p,h=>by
  cases z:p.op with
  |none=>rw[DT z];exact .refl h
  |some x=>
   obtain⟨o,q⟩:=x
   rw[wE z]
   have A:=(h.op z).1
   have h2:=A.trans (A.top.d6 [hY])
   have G:=h2.trans (h2.top.core D a)
   exact G.trans (Nx k _ G.top)
theorem bk.dj(h:bk p)(D:Rd)(a:Bool):b8 p (p.dj D a).2:=(h.core D a).trans (Nx _ _ (h.core D a).top)
theorem bk.lM(h:bk p):b8 p p.lM:=(h.d6 [mi]).trans (h.d6 [mi]).top.name
theorem bk.tQ(h:bk p):b8 p ((p.lM.bc [ma]).bJ cE):=by
 have z:=h.lM
 have h2:=z.trans (z.top.d6 [ma])
 exact h2.trans (h2.top.ij cE)
theorem bk.ug(h:bk p)(D:Rd):b8 p (p.ug D).2:=h.tQ.trans (yh (fun _ h=>h.literal D) h.tQ.top)
theorem bk.qS(h:bk p)(D:Rd):b8 p (p.qS D):=by
 have z:=h.ug D
 have h2:=z.trans (z.top.ij ee)
 exact h2.trans (h2.top.d6 [lL])
theorem bk.insert(h:bk p)(D:Rd):b8 p (p.insert D).2:=(h.qS D).trans ((h.qS D).top.period D)
theorem bk.xC(h:bk p):b8 p p.xC:=by
 have z:=h.d6 [iO]
 have h2:=z.trans z.top.name
 exact h2.trans (h2.top.d6 [lL,pw,kD])
theorem bk.n7(h:bk p)(D:Rd):b8 p (p.n7 D):=h.xC.trans (h.xC.top.period D)
theorem bk.remove(h:bk p)(D:Rd):b8 p (p.remove D).2:=(h.n7 D).trans ((h.n7 D).top.eF D)
theorem bk.hD(h:bk p):b8 p p.hD:=h.name.trans (h.name.top.d6 [lL,pw,kD])
theorem bk.zX(h:bk p)(D:Rd):b8 p ((p.hD.period D).2.bc [lv]):=by
 have z:=h.hD
 have h2:=z.trans (z.top.period D)
 exact h2.trans (h2.top.d6 [lv])
theorem bk.pV(h:bk p)(D:Rd):b8 p (p.pV D).2:=(h.zX D).trans (yh (fun _ h=>h.set D) (h.zX D).top)
theorem bk.update(h:bk p)(D:Rd):b8 p (p.update D).2:=(h.pV D).trans ((h.pV D).top.eF D)
theorem bk.uA(h:bk p):b8 p p.uA:=h.names.trans (h.names.top.d6 [AK])
theorem bk.fk(h:bk p):b8 p p.fk.2:=by
 have z:=h.uA
 have h2:=z.trans z.top.name
 exact h2.trans h2.top.names
theorem Is(h:(p.keyword my).1=true)(k:Nat)(l:List Fk):pW (k+1) l p=pW k (l++[(p.keyword my).2.fk.1]) (p.keyword my).2.fk.2:=az h
theorem Iu(h:(p.keyword my).1=false)(l:List Fk):∀k,pW k l p=(l,p)
 |0=>rfl
 |k+1=>al (by rw[h];decide)
theorem Ny:∀(k:Nat)(l:List Fk){p:PS},bk p→b8 p (pW k l p).2
 |0,l,p,h=>.refl h
 |k+1,l,p,h=>by
  unfold pW
  split
  ·have z:=h.kw my
   have h2:=z.trans z.top.fk
   exact h2.trans (Ny k _ h2.top)
  exact .refl h
theorem bk.ik(h:bk p){o:Int}{q:PS}(z:p.ik=some (o,q)):b8 p q∧p.aO+1≤q.aO∧p.aO+1<p.aF.length:=by
 unfold PS.ik at z
 split at z
 ·rename_i hk;cases z;exact⟨h.kw _,(nV h.ok hk).1,(nV h.ok hk).2⟩
 split at z
 ·rename_i hk;cases z;exact⟨h.kw _,(nV h.ok hk).1,(nV h.ok hk).2⟩
 cases z
theorem AX(h:p.ik=none)(l:List (Int×List (List UInt8))):∀k,oO k l p=(l,p)
 |0=>rfl
 |k+1=>by unfold oO;rw[h]
theorem wA{o:Int}{q:PS}(h:p.ik=some (o,q))(k:Nat)(l:List (Int×List (List UInt8))):oO (k+1) l p=oO k (l++[(o,q.names.1)]) q.names.2:=by
 show(match p.ik with|none=>(l,p)|some (c,q)=>oO k (l++[(c,q.names.1)]) q.names.2)=_
 rw[h]
theorem MV:∀(k:Nat)(l:List (Int×List (List UInt8))){p:PS},bk p→b8 p (oO k l p).2
 |0,l,p,h=>.refl h
 |k+1,l,p,h=>by
  cases z:p.ik with
  |none=>rw[AX z];exact .refl h
  |some x=>
   obtain⟨o,q⟩:=x
   rw[wA z]
   have A:=(h.ik z).1
   have h2:=A.trans A.top.names
   exact h2.trans (MV k _ h2.top)
theorem bk.Ci(h:bk p):b8 p ((p.bc [dA]).name.2.bJ cE):=by
 have z:=h.d6 [dA]
 have h2:=z.trans z.top.name
 exact h2.trans (h2.top.ij cE)
theorem bk.uh(h:bk p):b8 p p.uh.2:=h.Ci.trans (yh (fun _ h=>h.column) h.Ci.top)
theorem bk.iT(h:bk p):b8 p p.iT:=h.uh.trans (h.uh.top.ij ee)
theorem bk.key(h:bk p):b8 p p.key.2:=by
 unfold PS.key
 split
 ·exact(h.kw _).trans (h.kw _).top.names
 exact .refl h
theorem bk.zY(h:bk p):b8 p p.iT.key.2:=h.iT.trans h.iT.top.key
theorem bk.pX(h:bk p):b8 p p.pX.2:=h.zY.trans (Ny _ _ h.zY.top)
theorem bk.create(h:bk p):b8 p p.create.2:=h.pX.trans (MV _ _ h.pX.top)
theorem bk.gP(h:bk p):b8 p p.gP:=(h.d6 [dA]).trans (h.d6 [dA]).top.name
theorem bk.alter(h:bk p):b8 p p.alter.2:=by
 unfold PS.alter
 split
 ·exact h.gP.trans ((h.gP.top.kw _).trans (h.gP.top.kw _).top.column)
 split
 ·exact h.gP.trans ((h.gP.top.kw _).trans (h.gP.top.kw _).top.name)
 exact h.gP.trans (h.gP.top.fail aq)
theorem bk.sv(h:bk p)(D:Rd):b8 p (p.sv D):=(h.dj D false).trans ((h.dj D false).top.d6 _)
theorem bk.rH(h:bk p)(D:Rd):b8 p (p.rH D).2:=by
 have z:=(h.sv D).trans ((h.sv D).top.day D)
 exact z.trans z.top.iL
theorem bk.mC(h:bk p):b8 p p.mC:=(h.number _).trans ((h.number _).top.d6 _)
theorem bk.m6(h:bk p):b8 p p.m6:=h.mC.trans ((h.mC.top.number _).trans ((h.mC.top.number _).top.d6 _))
theorem bk.hold(h:bk p):b8 p p.hold.2:=by
 refine h.m6.trans ?_
 show b8 p.m6 p.qJ.2
 unfold PS.qJ
 split
 ·exact h.m6.top.kw _
 exact h.m6.top.number _
theorem bk.mode(h:bk p):b8 p p.mode.2:=by
 unfold PS.mode
 split
 ·exact h.kw _
 split
 ·exact h.kw _
 split
 ·exact h.kw _
 split
 ·exact h.kw _
 exact .refl h
theorem bk.g7(h:bk p)(D:Rd):b8 p (p.g7 D).2:=by
 unfold PS.g7
 split
 ·have z:=h.kw kj
  have h2:=z.trans (z.top.d6 [kA])
  exact h2.trans (h2.top.day D)
 exact .refl h
theorem bk.QN(h:bk p)(D:Rd):b8 p (p.mode.2.dj D true).2:=h.mode.trans (h.mode.top.dj D true)
theorem bk.query(h:bk p)(D:Rd):b8 p (p.query D).2:=by
 have z:=(h.QN D).trans ((h.QN D).top.g7 D)
 exact z.trans z.top.iL
theorem bk.dm(h:bk p)(D:Rd):b8 p (p.dm D).2:=by
 unfold PS.dm
 repeat' split
 ·exact(h.kw _).trans ((h.kw _).top.insert D)
 ·exact(h.kw _).trans ((h.kw _).top.remove D)
 ·exact(h.kw _).trans ((h.kw _).top.update D)
 ·exact(h.kw _).trans ((h.kw _).top.create)
 ·exact(h.kw _).trans ((h.kw _).top.alter)
 ·exact(h.kw _).trans ((h.kw _).top.rH D)
 ·exact h.kw _
 ·exact(h.kw _).trans ((h.kw _).top.hold)
 ·exact(h.kw _).trans ((h.kw _).top.number _)
 ·exact(h.kw _).trans (((h.kw _).top.d6 _).trans (((h.kw _).top.d6 _).top.number _))
 exact h.query D
theorem rq{T:bd}(F:FT T){D:Rd}(I:iF T D){p:PS}(hp:bk p):cg T 179 [.vp 1000 0] (PS.bz p) fun r Bn=>r=dI p.iL.1∧Bn=PS.bz p.iL.2:=by
 refine cL F.ab2 aa (an 1 aa (aL (ai (ae 1 aa (eA (oo F hp.ok fM) aa aa aa aa (ak 1 aa (aK aa (fun A=>?_) (fun A=>?_))))))))
 ·have z:(p.keyword fM).1=false:=by simpa using A
  have G:p.iL=(1099511627776,p):=by unfold PS.iL;rw[al (by rw[z];decide)]
  rw[PS.da z]
  refine an 1 aa (ay ?_)
  rw[G]
  exact⟨_,PS.bz _,aa,gm aa,aa,aa⟩
 have z:(p.keyword fM).1=true:=by simpa using A
 have G:p.iL=((p.keyword fM).2.bc [kD]).number (-1):=by unfold PS.iL;rw[az z]
 have h2:=(hp.kw fM).top.d6 [kD]
 refine aQ (ai (ae 2 aa (gD 7 7 aa aa (fun _=>⟨aa,aa⟩) (eA (rR F (hp.kw fM).ok [kD] aq) aa aa aa aa (aX (ai (ae 1 aa (eA (Wg F I h2.st (-1)) aa aa aa aa (ak 1 aa ?_)))))))))
 refine ay ?_
 rw[G]
 exact⟨_,PS.bz _,aa,gm aa,aa,aa⟩
theorem yM{T:bd}(F:FT T){p:PS}(hp:bk p)(a:Bool):cg T 219 [.vp 1000 0,dB a] (PS.bi p) fun r Bn=>r=dS (p.alias a).1∧Bn=PS.bi (p.alias a).2:=by
 refine cL F.acr aa (an 1 aa (aL (ai (ae 1 aa (bo (next F hp.ok 1 fM) aa aa aa aa aa (ak 1 aa (aK aa (fun O=>?_) (fun O=>?_))))))))
 ·have G:p.next 1 fM=false:=by simpa using O
  have I:p.alias a=([],p):=by unfold PS.alias;rw[az G]
  refine an 1 aa (ay ?_)
  rw[I]
  exact⟨_,PS.bi _,aa,cX aa aa,aa,aa⟩
 have G:p.next 1 fM=true:=by simpa using O
 have ew:=PS.lQ hp.ok (kind:=1) aq G
 have fZ:=hp.ok.eG
 have U:=hp.step (by unfold PS.next at G;simp only[fE,fx] at G;exact G.1) ew
 have K:(p.aF.map cu.enc)[p.aO+1]?=some p.after.enc:=by rw[iJ,fe ew];unfold PS.after;rw[fe ew];rfl
 refine aQ (aL (eO (bD 8 aa (bG (cM aa aa ah ?_)))))
 refine bG (lF (row:=p.after.enc) aa aa K aa ?_)
 refine du 3 aa (ai (ae 2 aa (dc (g:=bx) aa (fun z=>?_) (fun z=>?_))))
 ·refine aw aa (z) (dD aa ?_)
  refine aw aa (z) (df aa aa aa ?_)
  refine aw aa (z) (iC aa aa ?_)
  refine aj (c8 aa (z) aa ?_)
  refine ae 1 aa (dc (g:=bX) aa (fun A=>?_) (fun A=>?_))
  ·refine aw aa (A) (dD aa ?_)
   refine aw aa (A) (df aa aa aa ?_)
   refine aw aa (A) (nL (b:=kD) aa aa ?_)
   refine aj (c8 aa (A) aa ?_)
   refine aX (aK aa (fun J=>?_) (fun J=>?_))
   ·have I:p.alias a=([],p):=by unfold PS.alias;rw[al (by rw[G];decide),az ⟨by simpa using z,by simpa using A,by simpa using J⟩]
    refine an 1 aa (ay ?_)
    rw[I]
    exact⟨_,PS.bi _,aa,cX aa aa,aa,aa⟩
   have I:p.alias a=p.step.name:=by unfold PS.alias;rw[al (by rw[G];decide),al (fun k=>absurd k.2.2 (by simpa using J))]
   refine aQ (ai (ae 4 aa (aj (cM aa aa ah ?_))))
   refine ak 3 aa (ai (ae 1 aa (bo (name F U.st) aa aa aa aa aa (ak 1 aa (ay ?_)))))
   rw[I]
   exact⟨_,PS.bi _,aa,cX aa aa,aa,aa⟩
  have I:p.alias a=p.step.name:=by unfold PS.alias;rw[al (by rw[G];decide),al (fun k=>absurd k.2.1 (by simpa using A))]
  refine eJ aa (A) (eJ aa (A) (eJ aa (A) (aj (cS aa (A) aa ?_))))
  refine aX (ef aa aa (aQ (ai (ae 4 aa (aj (cM aa aa ah ?_))))))
  refine ak 3 aa (ai (ae 1 aa (bo (name F U.st) aa aa aa aa aa (ak 1 aa (ay ?_)))))
  rw[I]
  exact⟨_,PS.bi _,aa,cX aa aa,aa,aa⟩
 have I:p.alias a=p.step.name:=by unfold PS.alias;rw[al (by rw[G];decide),al (fun k=>by rw[k.1] at z;cases z)]
 refine eJ aa (z) (eJ aa (z) (eJ aa (z) (aj (cS aa (z) aa ?_))))
 refine ae 1 aa (eJ aa aa (eJ aa aa (eJ aa aa (ak 1 aa (ef aa aa (aQ (ai (ae 4 aa (aj (cM aa aa ah ?_))))))))))
 refine ak 3 aa (ai (ae 1 aa (bo (name F U.st) aa aa aa aa aa (ak 1 aa (ay ?_)))))
 rw[I]
 exact⟨_,PS.bi _,aa,cX aa aa,aa,aa⟩
theorem H8{T:bd}(F:FT T){p:PS}(hp:bk p)(a:Bool):cg T 220 [.vp 1000 0,dB a] (PS.bi p) fun r Bn=>r=eU (p.source a).1.enc∧Bn=PS.bi (p.source a).2:=by
 refine cL F.acs aa (an 1 aa (ai (ae 1 aa (bo (name F hp.st) aa aa aa aa aa (ak 3 aa (ai (ae 2 aa (bo (yM F hp.name.top a) aa aa aa aa aa (ak 2 aa ?_)))))))))
 exact an 2 aa (ay (⟨_,PS.bi (p.source a).2,aa,cX aa aa,aa,aa⟩))
theorem PQ{T:bd}(F:FT T){D:Rd}(U:iF T D){p:PS}(hp:bk p):cg T 183 [.vp 1000 0] (PS.bi p) fun r Bn=>r=eU (p.item D).1.enc∧Bn=PS.bi (p.item D).2:=by
 refine cL F.ab4 aa (an 1 aa (an 3 aa (aL (bM (ai (ae 1 aa (bo (keyword F hp.ok j6) aa aa aa aa aa (ak 1 aa (aK aa (fun O=>?_) (fun O=>?_))))))))))
 ·have z:p.jd D=((1, -1),((((p.keyword j6).2.bJ cE).bJ fv).bJ ee)):=by unfold PS.jd;rw[az O]
  have Y:=hp.kw j6
  have Z:=Y.top.ij cE
  have g3:=Z.top.ij fv
  have A:=hp.jd D
  rw[z] at A
  have K:p.item D=(⟨1, -1,(((((p.keyword j6).2.bJ cE).bJ fv).bJ ee).alias false).1⟩,(((((p.keyword j6).2.bJ cE).bJ fv).bJ ee).alias false).2):=by unfold PS.item;rw[z]
  refine ai (ae 1 aa (bo (bJ F Y.ok cE) aa aa aa aa aa (aX (ai (ae 1 aa (bo (bJ F Z.ok fv) aa aa aa aa aa (aX (ai (ae 1 aa ?_)))))))))
  refine bo (bJ F g3.ok ee) aa aa aa aa aa (aX (bC (ak 4 aa (aL (ai (ae 4 aa (aw aa aa (dD aa ?_))))))))
  refine aw aa aa (df aa aa aa ?_)
  refine aw aa aa (iV aa aa ?_)
  refine ak 1 aa (ef aa aa (aQ (ai (ae 1 aa (bo (yM F A.top false) aa aa aa aa aa (ak 2 aa (an 2 aa (ay ?_))))))))
  rw[K]
  exact⟨_,PS.bi _,aa,cX aa aa,aa,aa⟩
 rw[PS.da O]
 refine ai (ae 1 aa (bo (keyword F hp.ok n4) aa aa aa aa aa (ak 1 aa (aK aa (fun eC=>?_) (fun eC=>?_)))))
 ·have I:p.agg=(2,(p.keyword n4).2):=by unfold PS.agg;rw[az eC]
  have G:=hp.kw n4
  generalize (p.keyword n4).2=q at I G⊢
  have z:p.jd D=((2,(q.gy D).1),(q.gy D).2):=by unfold PS.jd;rw[al (by rw[O];decide),al (by rw[I];show¬((2:Int)=0);decide),I]
  have A:=hp.jd D
  rw[z] at A
  have K:p.item D=(⟨2,(q.gy D).1,((q.gy D).2.alias false).1⟩,((q.gy D).2.alias false).2):=by unfold PS.item;rw[z]
  refine bC (ak 2 aa (aL (ai (ae 4 aa (aw aa aa (dD aa ?_))))))
  refine aw aa aa (df aa aa aa ?_)
  refine aw aa aa (iV aa aa ?_)
  refine ak 1 aa (eW aa aa (ai (ae 1 aa (bo (bJ F G.ok cE) aa aa aa aa aa (aX (ai (ae 1 aa (bo (vM F U (G.top.ij cE).top) aa aa aa aa aa (ak 2 aa ?_)))))))))
  refine bC (ae 1 aa (bo (bJ F ((G.top.ij cE).top.expr D).ok ee) aa aa aa aa aa (aX (ai (ae 1 aa (bo (yM F A.top false) aa aa aa aa aa (ak 2 aa (an 2 aa (ay ?_)))))))))
  rw[K]
  exact⟨_,PS.bi _,aa,cX aa aa,aa,aa⟩
 rw[PS.da eC]
 refine ai (ae 1 aa (bo (keyword F hp.ok n5) aa aa aa aa aa (ak 1 aa (aK aa (fun J=>?_) (fun J=>?_)))))
 ·have I:p.agg=(3,(p.keyword n5).2):=by unfold PS.agg;rw[al (by rw[eC];decide),az J]
  have G:=hp.kw n5
  generalize (p.keyword n5).2=q at I G⊢
  have z:p.jd D=((3,(q.gy D).1),(q.gy D).2):=by unfold PS.jd;rw[al (by rw[O];decide),al (by rw[I];show¬((3:Int)=0);decide),I]
  have A:=hp.jd D
  rw[z] at A
  have K:p.item D=(⟨3,(q.gy D).1,((q.gy D).2.alias false).1⟩,((q.gy D).2.alias false).2):=by unfold PS.item;rw[z]
  refine bC (ak 2 aa (aL (ai (ae 4 aa (aw aa aa (dD aa ?_))))))
  refine aw aa aa (df aa aa aa ?_)
  refine aw aa aa (iV aa aa ?_)
  refine ak 1 aa (eW aa aa (ai (ae 1 aa (bo (bJ F G.ok cE) aa aa aa aa aa (aX (ai (ae 1 aa (bo (vM F U (G.top.ij cE).top) aa aa aa aa aa (ak 2 aa ?_)))))))))
  refine bC (ae 1 aa (bo (bJ F ((G.top.ij cE).top.expr D).ok ee) aa aa aa aa aa (aX (ai (ae 1 aa (bo (yM F A.top false) aa aa aa aa aa (ak 2 aa (an 2 aa (ay ?_)))))))))
  rw[K]
  exact⟨_,PS.bi _,aa,cX aa aa,aa,aa⟩
 rw[PS.da J]
 refine ai (ae 1 aa (bo (keyword F hp.ok n6) aa aa aa aa aa (ak 1 aa (aK aa (fun dr=>?_) (fun dr=>?_)))))
 ·have I:p.agg=(4,(p.keyword n6).2):=by unfold PS.agg;rw[al (by rw[eC];decide),al (by rw[J];decide),az dr]
  have G:=hp.kw n6
  generalize (p.keyword n6).2=q at I G⊢
  have z:p.jd D=((4,(q.gy D).1),(q.gy D).2):=by unfold PS.jd;rw[al (by rw[O];decide),al (by rw[I];show¬((4:Int)=0);decide),I]
  have A:=hp.jd D
  rw[z] at A
  have K:p.item D=(⟨4,(q.gy D).1,((q.gy D).2.alias false).1⟩,((q.gy D).2.alias false).2):=by unfold PS.item;rw[z]
  refine bC (ak 2 aa (aL (ai (ae 4 aa (aw aa aa (dD aa ?_))))))
  refine aw aa aa (df aa aa aa ?_)
  refine aw aa aa (iV aa aa ?_)
  refine ak 1 aa (eW aa aa (ai (ae 1 aa (bo (bJ F G.ok cE) aa aa aa aa aa (aX (ai (ae 1 aa (bo (vM F U (G.top.ij cE).top) aa aa aa aa aa (ak 2 aa ?_)))))))))
  refine bC (ae 1 aa (bo (bJ F ((G.top.ij cE).top.expr D).ok ee) aa aa aa aa aa (aX (ai (ae 1 aa (bo (yM F A.top false) aa aa aa aa aa (ak 2 aa (an 2 aa (ay ?_)))))))))
  rw[K]
  exact⟨_,PS.bi _,aa,cX aa aa,aa,aa⟩
 rw[PS.da dr]
 have I:p.agg=(0,p):=by unfold PS.agg;rw[al (by rw[eC];decide),al (by rw[J];decide),al (by rw[dr];decide)]
 have z:p.jd D=((0,(p.expr D).1),(p.expr D).2):=by unfold PS.jd;rw[al (by rw[O];decide),az (by rw[I])]
 have A:=hp.jd D
 rw[z] at A
 have K:p.item D=(⟨0,(p.expr D).1,((p.expr D).2.alias false).1⟩,((p.expr D).2.alias false).2):=by unfold PS.item;rw[z]
 refine bC (ae 1 aa (bo (vM F U hp) aa aa aa aa aa (ak 2 aa (aL (ai (ae 4 aa (eJ aa aa (eJ aa aa (eJ aa aa ?_)))))))))
 refine ak 1 aa (ef aa aa (aQ (ai (ae 1 aa (bo (yM F A.top false) aa aa aa aa aa (ak 2 aa (an 2 aa (ay ?_))))))))
 rw[K]
 exact⟨_,PS.bi _,aa,cX aa aa,aa,aa⟩
theorem FG{T:bd}(F:FT T){p:PS}(hp:bk p):cg T 185 [.vp 1000 0] (PS.bi p) fun r Bn=>r=dI p.dU.1∧Bn=PS.bi p.dU.2:=by
 refine cL F.ab6 aa (an 1 aa (aL (ai (ae 6 aa (dc (g:=aD) aa (fun A=>?_) (fun A=>?_))))))
 ·have h0:p.err=0:=by simpa using A
  refine aw aa (A) (bY aa ?_)
  refine aw aa (A) (I6 (tok F hp.ok) aa aa aa aa aa ?_)
  refine aw aa (A) (Eo aa aa ?_)
  refine aw aa (A) (iV aa aa ?_)
  refine aj (c8 aa (A) aa ?_)
  refine aX (aK aa (fun bQ=>?_) (fun bQ=>?_))
  ·have I:p.kL=p.fail 5:=by unfold PS.kL;rw[az ⟨h0,by simpa using bQ⟩]
   have J:=hp.kL
   rw[I] at J
   refine bC (ae 1 aa (bo (fail F hp.ok 5) aa aa aa aa aa (aX (aL (an 5 aa (aK aa (fun z=>?_) (fun z=>?_)))))))
   ·have G:p.dU=(0,p.fail 5):=by unfold PS.dU;rw[I,az (by simpa using z)]
    refine an 1 aa (ay ?_)
    rw[G]
    exact⟨_,PS.bi _,aa,cX aa aa,aa,aa⟩
   have G:p.dU=(p.fail 5).gJ:=by unfold PS.dU;rw[I,al (by simpa using z)]
   refine aQ (ai (ae 1 aa ?_))
   refine bo (gJ F J.st (by simpa using z)) rfl rfl rfl rfl rfl ?_
   refine ak 1 aa (ay ?_)
   rw[G]
   exact⟨_,PS.bi _,aa,cX aa aa,aa,aa⟩
  have I:p.kL=p:=by unfold PS.kL;rw[al (fun k=>absurd k.2 (by simpa using bQ))]
  refine aQ (aL (an 5 aa (aK aa (fun z=>?_) (fun z=>?_))))
  ·have G:p.dU=(0,p):=by unfold PS.dU;rw[I,az (by simpa using z)]
   refine an 1 aa (ay ?_)
   rw[G]
   exact⟨_,PS.bi _,aa,cX aa aa,aa,aa⟩
  have G:p.dU=p.gJ:=by unfold PS.dU;rw[I,al (by simpa using z)]
  refine aQ (ai (ae 1 aa ?_))
  refine bo (gJ F hp.st (by simpa using z)) rfl rfl rfl rfl rfl ?_
  refine ak 1 aa (ay ?_)
  rw[G]
  exact⟨_,PS.bi _,aa,cX aa aa,aa,aa⟩
 have h0:¬p.err=0:=by simpa using A
 have I:p.kL=p:=by unfold PS.kL;rw[al (fun k=>h0 k.1)]
 refine eJ aa (A) (eJ aa (A) (eJ aa (A) (eJ aa (A) (aj (cS aa (A) aa ?_)))))
 refine aX (ef aa aa (aQ (aL (an 5 aa (aK aa (fun z=>?_) (fun z=>?_))))))
 ·have G:p.dU=(0,p):=by unfold PS.dU;rw[I,az (by simpa using z)]
  refine an 1 aa (ay ?_)
  rw[G]
  exact⟨_,PS.bi _,aa,cX aa aa,aa,aa⟩
 have G:p.dU=p.gJ:=by unfold PS.dU;rw[I,al (by simpa using z)]
 refine aQ (ai (ae 1 aa ?_))
 refine bo (gJ F hp.st (by simpa using z)) rfl rfl rfl rfl rfl ?_
 refine ak 1 aa (ay ?_)
 rw[G]
 exact⟨_,PS.bi _,aa,cX aa aa,aa,aa⟩
theorem On{T:bd}(F:FT T){D:Rd}(Lf:iF T D){p:PS}(hp:bk p)(a:Bool):cg T 184 [.vp 1000 0,dB a] (PS.bi p) fun r Bn=>r= .d (.fC ((p.kv D a).1.map Src.enc))∧Bn=PS.bi (p.kv D a).2:=by
 refine cL F.ab5 aa (an 1 aa (ai (ae 2 aa (bo (H8 F hp a) aa aa aa aa aa (ak 2 aa (bM (d7 (fun k VE B=>∃(l:List Src)(q:PS),pK D k l q=p.kv D a∧l≠[]∧l.length≤q.aO+1∧p.aF.length≤k+q.aO∧b8 p q∧bn [(0,.vp 1000 0),(5,.bs 11 (l.map Src.enc).length 4)] VE∧bn (PS.bi q++[(11,.arr 169 48 4 (l.map Src.enc).length (l.map Src.enc))]) B) ?_ (k:=p.aF.length) ⟨[(p.source a).1],(p.source a).2,aa,qz _ _,nm (dp _),ku _ _,hp.source a,⟨aa,aa,trivial⟩,dK aa aa ⟨aa,trivial⟩⟩)))))))
 rintro k VE B⟨l,q,z,U,jM,hk,K,hV,hB⟩
 refine eZ (PS.bi q++[(11,.arr 169 48 4 (l.map Src.enc).length (l.map Src.enc))]) hB ?_
 have hB:bn (PS.bi q++[(11,.arr 169 48 4 (l.map Src.enc).length (l.map Src.enc))]) (PS.bi q++[(11,.arr 169 48 4 (l.map Src.enc).length (l.map Src.enc))]):=dK rfl rfl ⟨rfl,trivial⟩
 have gM:q.aF.length=p.aF.length:=by rw[K.aF]
 refine db _ _ hV hB (bM (ai (ae 1 aa (bo (keyword F K.ok oJ) aa aa aa aa aa (ak 1 aa (aL (an 1 aa (aK aa (fun A=>?_) (fun A=>?_)))))))))
 ·have h2:=K.top.kw oJ
  refine bC (ae 2 aa (gD 16 16 aa aa (fun _=>⟨aa,aa⟩) (bo (bc F h2.ok [kK] aq) aa aa aa aa aa (aX (ai ?_)))))
  have O:q.join=some (true,((q.keyword oJ).2.bc [kK])):=by unfold PS.join;rw[az A]
  obtain⟨J,Y,kC⟩:=K.top.join O
  have fZ:=K.ok.eG
  obtain⟨k,rfl⟩:∃k',k=k'+1:=⟨k-1,ah⟩
  rw[AT O] at z
  rw[A]
  generalize ((q.keyword oJ).2.bc [kK])=I at O J Y z⊢
  have g1:=J.top.source false
  have g2:=g1.top.d6 [p5]
  have g3:=J.top.gZ D true
  have ga:=g3.aO
  refine ae 1 aa (bo (H8 F J.top false) aa aa aa aa aa (ak 2 aa (an 3 aa (ai (ae 2 aa (gD 27 27 aa aa (fun _=>⟨aa,aa⟩) (bo (bc F g1.ok [p5] aq) aa aa aa aa aa (aX (ai ?_)))))))))
  refine ae 1 aa (bo (vM F Lf g2.top) aa aa aa aa aa (ak 2 aa (bC (ae 3 aa ?_))))
  refine aj (ot (rows:=l.map Src.enc) (ys:=[(I.gZ D true).1.enc]) rfl rfl rfl (.bs (rows:=[(I.gZ D true).1.enc]) rfl) (b0 rfl) (by simp only[bE,ca,cV,dL];omega) ?_)
  refine ak 1 aa (⟨k,gG k,l++[(I.gZ D true).1],(I.gZ D true).2,z,mX U _,?_,?_,(K.trans J).trans g3,?_,?_⟩)
  ·rw[bE,dY];show l.length+1≤(I.gZ D true).2.aO+1;omega
  ·show p.aF.length≤k+(I.gZ D true).2.aO;omega
  ·simp only[dx,e7,gj];exact⟨rfl,rfl,trivial⟩
  simp only[dx,e7,gj];exact dK rfl rfl ⟨rfl,trivial⟩
 rw[PS.da A]
 refine ai (ae 1 aa (bo (keyword F K.ok kK) aa aa aa aa aa (ak 1 aa (aK aa (fun Z=>?_) (fun Z=>?_)))))
 ·have G:(q.keyword kK).1=false:=by simpa using Z
  have O:q.join=none:=by unfold PS.join;rw[al (by rw[A];decide),al (by rw[G];decide)]
  rw[DB O] at z
  rw[PS.da G]
  refine ai (ae 1 aa (gD 21 11 aa aa (fun _=>⟨aa,aa⟩) (ak 1 aa (ay ?_))))
  rw[←z,DC.rT (by simpa using U)]
  exact⟨_,PS.bi _,aa,cX aa aa,aa,aa⟩
 have G:(q.keyword kK).1=true:=by simpa using Z
 refine aQ (ai ?_)
 have O:q.join=some (false,(q.keyword kK).2):=by unfold PS.join;rw[al (by rw[A];decide),az G]
 obtain⟨J,Y,kC⟩:=K.top.join O
 have fZ:=K.ok.eG
 obtain⟨k,rfl⟩:∃k',k=k'+1:=⟨k-1,ah⟩
 rw[AT O] at z
 rw[A]
 generalize (q.keyword kK).2=I at O J Y z⊢
 have g1:=J.top.source false
 have g2:=g1.top.d6 [p5]
 have g3:=J.top.gZ D false
 have ga:=g3.aO
 refine ae 1 aa (bo (H8 F J.top false) aa aa aa aa aa (ak 2 aa (an 3 aa (ai (ae 2 aa (gD 27 27 aa aa (fun _=>⟨aa,aa⟩) (bo (bc F g1.ok [p5] aq) aa aa aa aa aa (aX (ai ?_)))))))))
 refine ae 1 aa (bo (vM F Lf g2.top) aa aa aa aa aa (ak 2 aa (bC (ae 3 aa ?_))))
 refine aj (ot (rows:=l.map Src.enc) (ys:=[(I.gZ D false).1.enc]) rfl rfl rfl (.bs (rows:=[(I.gZ D false).1.enc]) rfl) (b0 rfl) (by simp only[bE,ca,cV,dL];omega) ?_)
 refine ak 1 aa (⟨k,gG k,l++[(I.gZ D false).1],(I.gZ D false).2,z,mX U _,?_,?_,(K.trans J).trans g3,?_,?_⟩)
 ·rw[bE,dY];show l.length+1≤(I.gZ D false).2.aO+1;omega
 ·show p.aF.length≤k+(I.gZ D false).2.aO;omega
 ·simp only[dx,e7,gj];exact⟨rfl,rfl,trivial⟩
 simp only[dx,e7,gj];exact dK rfl rfl ⟨rfl,trivial⟩
end Go.Ev.Pp
