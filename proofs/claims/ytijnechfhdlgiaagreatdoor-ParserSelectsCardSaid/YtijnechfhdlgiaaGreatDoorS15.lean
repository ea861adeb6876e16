/- Part 15 of rules for walks through the code of a program, and of such walks; what each part proves is said by its theorems. -/
import Derived.Test.YtijnechfhdlgiaaGreatDoorS14
set_option linter.unusedVariables false
set_option linter.unusedSimpArgs false
namespace Go.Ev.Pp
open Go
set_option maxRecDepth 10000
theorem wL{T:bd}(F:FT T){p:PS}(hp:p.ok):bY T 119 [.vp 1000 0] (PS.bz p) fun r Bn=>r=ez p.tok.enc∧Bn=PS.bz p:=by
 refine cw F.PG aa ?_
 have z:(p.aA.map cb.enc)[p.aJ]?=some p.tok.enc:=by rw[im,hp.get];rfl
 refine al 1 aa (eZ (bk 8 aa (c8 (kR (row:=p.tok.enc) aa aa z aa ?_))))
 refine bk 2 aa (c6 ?_)
 exact ax (⟨_,PS.bz p,aa,fM aa,aa,aa⟩)
theorem sK{T:bd}(F:FT T){p:PS}(hp:p.ok)(e:Int):bY T 120 [.vp 1000 0,dI e] (PS.bz p) fun r Bn=>r= .tuple []∧Bn=PS.bz (p.fail e):=by
 refine cw F.PH aa (al 5 aa (aI aa (fun z=>?_) (fun z=>?_)))
 ·have h0:p.err=0:=by simpa using z
  refine bD (ae 4 aa (dX (wL F hp) aa aa aa aa (ae 7 aa (af ?_))))
  exact⟨_,PS.bz {p with err:=e,pos:=p.tok.pos},rfl,fM rfl,rfl,by unfold PS.fail;rw[aw h0]⟩
 refine aQ ?_
 exact⟨_,PS.bz p,rfl,fM rfl,rfl,by unfold PS.fail;rw[aj (by simpa using z)]⟩
theorem W7{T:bd}(F:FT T){p:PS}(hp:p.ok)(k:Int)(s:List UInt8):bY T 208 [.vp 1000 0,dI k,dS s] (PS.bz p) fun r Bn=>r=dB (p.next k s)∧Bn=PS.bz p:=by
 refine cw F.PO aa (al 1 aa (ai (ae 1 aa (dX (wL F hp) aa aa aa aa (ae 2 aa (af ?_))))))
 refine ai (ae 6 aa (dc (g:=aZ) aa (fun z=>?_) (fun z=>?_)))
 ·have h0:p.err=0:=by simpa using z
  refine ao aa (z) (dz aa ?_)
  refine ao aa (z) (df aa aa aa ?_)
  refine ao aa (z) (bN aa ?_)
  refine ao aa (z) (hY aa aa ?_)
  refine ak (cT aa (z) aa ?_)
  refine ae 1 aa (dc (g:=bw) aa (fun A=>?_) (fun A=>?_))
  ·refine ao aa (A) (dz aa ?_)
   refine ao aa (A) (df aa aa aa ?_)
   refine ao aa (A) (bN aa ?_)
   refine ao aa (A) (oA aa aa ?_)
   refine ak (cT aa (A) aa ?_)
   refine ae 1 aa (af ?_)
   refine ax (⟨_,PS.bz p,aa,fM aa,?_,aa⟩)
   clear F hp
   simp_all [gB,PS.next]
  refine en aa (A) (en aa (A) (en aa (A) (en aa (A) (ak (cJ aa (A) aa ?_)))))
  refine ae 1 aa (af ?_)
  refine ax (⟨_,PS.bz p,aa,fM aa,?_,aa⟩)
  clear F hp
  simp_all [gB,PS.next]
 refine en aa (z) (en aa (z) (en aa (z) (en aa (z) (ak (cJ aa (z) aa ?_)))))
 refine ae 1 aa (en aa aa (en aa aa (en aa aa (en aa aa (ae 2 aa (af ?_))))))
 refine ax (⟨_,PS.bz p,aa,fM aa,?_,aa⟩)
 clear F hp
 simp_all [gB,PS.next]
theorem UT{T:bd}(F:FT T){p:PS}(hp:p.ok){k:Int}(hk:k≠6)(s:List UInt8):bY T 168 [.vp 1000 0,dI k,dS s] (PS.bz p) fun r Bn=>r=dB (p.accept k s).1∧Bn=PS.bz (p.accept k s).2:=by
 refine cw F.PM aa (al 1 aa (aK (ai (ae 3 aa (dX (W7 F hp k s) aa aa aa aa (ae 1 aa (af ?_)))))))
 refine aI aa (fun z=>?_) (fun z=>?_)
 ·have A:p.next k s=false:=by simpa using z
  refine al 1 aa (ax ?_)
  exact⟨_,PS.bz p,rfl,fM rfl,by unfold PS.accept;rw[A];rfl,by unfold PS.accept;rw[A];rfl⟩
 have A:p.next k s=true:=by simpa using z
 have dT:=PS.lk hp hk A
 have fy:=hp.d8
 refine aQ (ai (ae 4 aa ?_))
 refine ak (cM rfl rfl (by omega) ?_)
 refine ae 3 aa (af ?_)
 refine al 1 aa (ax ?_)
 exact⟨_,PS.bz p.step,rfl,fM rfl,by unfold PS.accept;rw[aw A];rfl,by unfold PS.accept;rw[aw A]⟩
theorem nP{T:bd}(F:FT T){p:PS}(hp:p.ok)(s:List UInt8):bY T 121 [.vp 1000 0,dS s] (PS.bz p) fun r Bn=>r=dB (p.keyword s).1∧Bn=PS.bz (p.keyword s).2:=by
 refine cw F.PI aa (al 1 aa (ai (ae 2 aa ?_)))
 refine dX (UT F hp (by decide) s) rfl rfl rfl rfl ?_
 refine ae 1 aa (af ?_)
 exact ax (⟨_,PS.bz (p.accept 1 s).2,aa,fM aa,aa,aa⟩)
theorem qZ{T:bd}(F:FT T){p:PS}(hp:p.ok)(l:List (List UInt8))(Y:l.length≤100):bY T 130 [.vp 1000 0,.d (.sl (l.map fun s=>[cB s]))] (PS.bz p) fun r Bn=>r= .tuple []∧Bn=PS.bz (p.aU l):=by
 refine cw F.PK aa (al 3 aa (bJ (dY (fun k VE B=>∃i:Nat,i≤l.length∧k=l.length-i∧br [(0,.vp 1000 0),(6,.d (.sl (l.map fun s=>[cB s]))),(7,dI ((l.map fun s=>[cB s]).length:Nat)),(8,dI (i:Nat))] VE∧br (PS.bz ((l.take i).foldl PS.fV p)) B) ?_ (k:=l.length) ⟨0,da _,aa,⟨aa,aa,aa,aa,trivial⟩,fM aa⟩)))
 rintro k VE B⟨i,hi,rfl,U,G⟩
 refine eD (PS.bz ((l.take i).foldl PS.fV p)++[]) G ?_
 have G:br (PS.bz ((l.take i).foldl PS.fV p)++[]) (PS.bz ((l.take i).foldl PS.fV p)++[]):=gn rfl trivial
 have O:PS.ok ((l.take i).foldl PS.fV p):=PS.Gm (l:=l.take i) hp
 refine dn _ _ U G (al 1 aa (aK (aI aa (fun I=>?_) (fun I=>?_))))
 ·have dT:i<l.length:=by simpa using I
  obtain⟨x,J⟩:∃x,l[i]?=some x:=⟨_,eP dT⟩
  have A:(l.map fun s=>[cB s])[i]?=some [cB x]:=by rw[im,J];rfl
  refine aQ (aK (bJ (ai (ak (kR aa aa A aa ?_)))))
  refine ae 2 aa (af ?_)
  refine ai (ae 2 aa (dX (nP F O x) aa aa aa aa (ae 1 aa (af ?_))))
  refine aI aa (fun z=>?_) (fun z=>?_)
  ·refine bD (ae 1 aa (dX (sK F (PS.w3 O x) 5) aa aa aa aa (af (bD ?_))))
   refine ak (cM rfl rfl (by omega) ?_)
   refine ae 1 aa (af ?_)
   refine⟨l.length-(i+1),by omega,i+1,by omega,rfl,⟨rfl,rfl,rfl,rfl,trivial⟩,?_⟩
   rw[xW,J,xX]
   rw[show List.foldl PS.fV ((l.take i).foldl PS.fV p) (some x).toList=PS.fV ((l.take i).foldl PS.fV p) x from rfl,PS.zU (by simpa using z)];exact fM rfl
  refine aQ (bD ?_)
  refine ak (cM rfl rfl (by omega) ?_)
  refine ae 1 aa (af ?_)
  refine⟨l.length-(i+1),by omega,i+1,by omega,rfl,⟨rfl,rfl,rfl,rfl,trivial⟩,?_⟩
  rw[xW,J,xX]
  rw[show List.foldl PS.fV ((l.take i).foldl PS.fV p) (some x).toList=PS.fV ((l.take i).foldl PS.fV p) x from rfl,PS.CX (by simpa using z)];exact fM rfl
 have K:l.length≤i:=by simpa using I
 refine dD (⟨_,PS.bz ((l.take i).foldl PS.fV p),aa,fM aa,aa,?_⟩)
 rw[pf K];rfl
set_option maxHeartbeats 1000000 in theorem take0Z{T:bd}(F:FT T){p:PS}(hp:St p){k e:Int}(l8:k≠6){g:Nat}(hC:p.err=0→p.tok.kind=k→bY T g ([dS p.tok.text]++[]) [] fun r Bn=>r=dI e∧Bn=[]):bY T 180 [.vp 1000 0,dI k,.fn g []] (PS.bz p++[]) fun r Bn=>r=dS (p.take k e).1∧Bn=PS.bz (p.take k e).2++[]:=by
 refine cw F.u7 aa (eD (PS.bz p++[]) (gn aa trivial) (al 1 aa (aK (al 5 aa (aI aa (fun bM=>?_) (fun bM=>?_))))))
 ·have h0:¬p.err=0:=by simpa using bM
  refine al 1 aa (ax ?_)
  exact⟨_,PS.bz p++[],rfl,gn rfl trivial,by unfold PS.take;rw[aj h0];rfl,by simp[PS.take,PS.called,h0]⟩
 have h0:p.err=0:=by simpa using bM
 refine aQ (ai (ae 1 aa (dX (wL F hp.ok) aa aa aa aa (ae 2 aa (af ?_)))))
 refine aK (ai (ae 3 aa (ak (iD aa aa ?_))))
 refine af (aI aa (fun eA=>?_) (fun eA=>?_))
 ·have hk:¬p.tok.kind=k:=by simpa using eA
  refine ai (ae 1 aa (dX (sK F hp.ok 5) aa aa aa aa (af (al 1 aa (ax ?_)))))
  exact⟨_,PS.bz (p.fail 5)++[],rfl,gn rfl trivial,by unfold PS.take;rw[aw h0,aj hk];rfl,by simp[PS.take,PS.called,h0,hk]⟩
 have hk:p.tok.kind=k:=by simpa using eA
 have dT:=PS.lO hp.ok l8 hk
 have fy:=hp.ok.d8
 refine aQ (aK (ai (ae 3 aa (ak (qY (b9:=[dS p.tok.text]) (Bi:=[]) [] 2000 aa aa aa aa aa aa aa aa aa trivial (hC h0 hk) (fun r Bn fT=>?_))))))
 obtain⟨rfl,rfl⟩:=fT
 refine eB (PS.bz p++[(7,.one 69 32 (p.tok.enc.map .d))]) (gn aa ⟨aa,trivial⟩) (ae 1 aa (af ?_))
 refine al 2 aa (aI aa (fun dy=>?_) (fun dy=>?_))
 ·have he:¬e=0:=by simpa using dy
  refine ai (ae 2 aa (dX (sK F hp.ok e) aa aa aa aa (af (al 1 aa (ax ?_)))))
  exact⟨_,PS.bz (p.fail e)++[],rfl,gn rfl trivial,by unfold PS.take;rw[aw h0,aw hk,aj he];rfl,by simp[PS.take,PS.called,h0,hk,he]⟩
 have he:e=0:=by simpa using dy
 refine aQ (ai (ae 4 aa ?_))
 refine ak (cM rfl rfl (by omega) ?_)
 refine ae 3 aa (af ?_)
 refine al 3 aa (ax ?_)
 exact⟨_,PS.bz p.step++[],rfl,gn rfl trivial,by unfold PS.take;rw[aw h0,aw hk,aw he];rfl,by simp[PS.take,PS.called,h0,hk,he]⟩
set_option maxHeartbeats 1000000 in theorem V7{T:bd}(F:FT T){p:PS}(hp:St p){k e:Int}(l8:k≠6){g:Nat}{e1 b1:Nat}{x x2:DC}(hC:p.err=0→p.tok.kind=k→bY T g ([dS p.tok.text]++[.vp 1001 0]) [(1001,.one e1 b1 [.d x])] fun r Bn=>r=dI e∧Bn=[(1001,.one e1 b1 [.d x2])]):bY T 180 [.vp 1000 0,dI k,.fn g [.vp 1001 0]] (PS.bz p++[(1001,.one e1 b1 [.d x])]) fun r Bn=>r=dS (p.take k e).1∧Bn=PS.bz (p.take k e).2++[(1001,.one e1 b1 [.d (if p.called k=true then x2 else x)])]:=by
 refine cw F.u7 aa (eD (PS.bz p++[(1001,.one e1 b1 [.d x])]) (gn aa ⟨aa,trivial⟩) (al 1 aa (aK (al 5 aa (aI aa (fun bM=>?_) (fun bM=>?_))))))
 ·have h0:¬p.err=0:=by simpa using bM
  refine al 1 aa (ax ?_)
  exact⟨_,PS.bz p++[(1001,.one e1 b1 [.d x])],rfl,gn rfl ⟨rfl,trivial⟩,by unfold PS.take;rw[aj h0];rfl,by simp[PS.take,PS.called,h0]⟩
 have h0:p.err=0:=by simpa using bM
 refine aQ (ai (ae 1 aa (dX (wL F hp.ok) aa aa aa aa (ae 2 aa (af ?_)))))
 refine aK (ai (ae 3 aa (ak (iD aa aa ?_))))
 refine af (aI aa (fun eA=>?_) (fun eA=>?_))
 ·have hk:¬p.tok.kind=k:=by simpa using eA
  refine ai (ae 1 aa (dX (sK F hp.ok 5) aa aa aa aa (af (al 1 aa (ax ?_)))))
  exact⟨_,PS.bz (p.fail 5)++[(1001,.one e1 b1 [.d x])],rfl,gn rfl ⟨rfl,trivial⟩,by unfold PS.take;rw[aw h0,aj hk];rfl,by simp[PS.take,PS.called,h0,hk]⟩
 have hk:p.tok.kind=k:=by simpa using eA
 have dT:=PS.lO hp.ok l8 hk
 have fy:=hp.ok.d8
 refine aQ (aK (ai (ae 3 aa (ak (qY (b9:=[dS p.tok.text,.vp 1001 0]) (Bi:=[(1001,.one e1 b1 [.d x])]) [(1001,1001)] 2000 aa aa aa aa aa aa aa aa aa ⟨aa,aa,trivial⟩ (hC h0 hk) (fun r Bn fT=>?_))))))
 obtain⟨rfl,rfl⟩:=fT
 refine eB (PS.bz p++[(1001,.one e1 b1 [.d x2]),(7,.one 69 32 (p.tok.enc.map .d))]) (gn aa ⟨aa,aa,trivial⟩) (ae 1 aa (af ?_))
 refine al 2 aa (aI aa (fun dy=>?_) (fun dy=>?_))
 ·have he:¬e=0:=by simpa using dy
  refine ai (ae 2 aa (dX (sK F hp.ok e) aa aa aa aa (af (al 1 aa (ax ?_)))))
  exact⟨_,PS.bz (p.fail e)++[(1001,.one e1 b1 [.d x2])],rfl,gn rfl ⟨rfl,trivial⟩,by unfold PS.take;rw[aw h0,aw hk,aj he];rfl,by simp[PS.take,PS.called,h0,hk,he]⟩
 have he:e=0:=by simpa using dy
 refine aQ (ai (ae 4 aa ?_))
 refine ak (cM rfl rfl (by omega) ?_)
 refine ae 3 aa (af ?_)
 refine al 3 aa (ax ?_)
 exact⟨_,PS.bz p.step++[(1001,.one e1 b1 [.d x2])],rfl,gn rfl ⟨rfl,trivial⟩,by unfold PS.take;rw[aw h0,aw hk,aw he];rfl,by simp[PS.take,PS.called,h0,hk,he]⟩
set_option maxHeartbeats 1000000 in theorem V8{T:bd}(F:FT T){p:PS}(hp:St p){k e:Int}(l8:k≠6){g:Nat}{e1 b1 e2 b2:Nat}{x y y2:DC}(hC:p.err=0→p.tok.kind=k→bY T g ([dS p.tok.text]++[.vp 1001 0,.vp 1002 0]) [(1001,.one e1 b1 [.d x]),(1002,.one e2 b2 [.d y])] fun r Bn=>r=dI e∧Bn=[(1001,.one e1 b1 [.d x]),(1002,.one e2 b2 [.d y2])]):bY T 180 [.vp 1000 0,dI k,.fn g [.vp 1001 0,.vp 1002 0]] (PS.bz p++[(1001,.one e1 b1 [.d x]),(1002,.one e2 b2 [.d y])]) fun r Bn=>r=dS (p.take k e).1∧Bn=PS.bz (p.take k e).2++[(1001,.one e1 b1 [.d x]),(1002,.one e2 b2 [.d (if p.called k=true then y2 else y)])]:=by
 refine cw F.u7 aa (eD (PS.bz p++[(1001,.one e1 b1 [.d x]),(1002,.one e2 b2 [.d y])]) (gn aa ⟨aa,aa,trivial⟩) (al 1 aa (aK (al 5 aa (aI aa (fun bM=>?_) (fun bM=>?_))))))
 ·have h0:¬p.err=0:=by simpa using bM
  refine al 1 aa (ax ?_)
  exact⟨_,PS.bz p++[(1001,.one e1 b1 [.d x]),(1002,.one e2 b2 [.d y])],rfl,gn rfl ⟨rfl,rfl,trivial⟩,by unfold PS.take;rw[aj h0];rfl,by simp[PS.take,PS.called,h0]⟩
 have h0:p.err=0:=by simpa using bM
 refine aQ (ai (ae 1 aa (dX (wL F hp.ok) aa aa aa aa (ae 2 aa (af ?_)))))
 refine aK (ai (ae 3 aa (ak (iD aa aa ?_))))
 refine af (aI aa (fun eA=>?_) (fun eA=>?_))
 ·have hk:¬p.tok.kind=k:=by simpa using eA
  refine ai (ae 1 aa (dX (sK F hp.ok 5) aa aa aa aa (af (al 1 aa (ax ?_)))))
  exact⟨_,PS.bz (p.fail 5)++[(1001,.one e1 b1 [.d x]),(1002,.one e2 b2 [.d y])],rfl,gn rfl ⟨rfl,rfl,trivial⟩,by unfold PS.take;rw[aw h0,aj hk];rfl,by simp[PS.take,PS.called,h0,hk]⟩
 have hk:p.tok.kind=k:=by simpa using eA
 have dT:=PS.lO hp.ok l8 hk
 have fy:=hp.ok.d8
 refine aQ (aK (ai (ae 3 aa (ak (qY (b9:=[dS p.tok.text,.vp 1001 0,.vp 1002 0]) (Bi:=[(1001,.one e1 b1 [.d x]),(1002,.one e2 b2 [.d y])]) [(1001,1001),(1002,1002)] 2000 aa aa aa aa aa aa aa aa aa ⟨aa,aa,aa,aa,trivial⟩ (hC h0 hk) (fun r Bn fT=>?_))))))
 obtain⟨rfl,rfl⟩:=fT
 refine eB (PS.bz p++[(1001,.one e1 b1 [.d x]),(1002,.one e2 b2 [.d y2]),(7,.one 69 32 (p.tok.enc.map .d))]) (gn aa ⟨aa,aa,aa,trivial⟩) (ae 1 aa (af ?_))
 refine al 2 aa (aI aa (fun dy=>?_) (fun dy=>?_))
 ·have he:¬e=0:=by simpa using dy
  refine ai (ae 2 aa (dX (sK F hp.ok e) aa aa aa aa (af (al 1 aa (ax ?_)))))
  exact⟨_,PS.bz (p.fail e)++[(1001,.one e1 b1 [.d x]),(1002,.one e2 b2 [.d y2])],rfl,gn rfl ⟨rfl,rfl,trivial⟩,by unfold PS.take;rw[aw h0,aw hk,aj he];rfl,by simp[PS.take,PS.called,h0,hk,he]⟩
 have he:e=0:=by simpa using dy
 refine aQ (ai (ae 4 aa ?_))
 refine ak (cM rfl rfl (by omega) ?_)
 refine ae 3 aa (af ?_)
 refine al 3 aa (ax ?_)
 exact⟨_,PS.bz p.step++[(1001,.one e1 b1 [.d x]),(1002,.one e2 b2 [.d y2])],rfl,gn rfl ⟨rfl,rfl,trivial⟩,by unfold PS.take;rw[aw h0,aw hk,aw he];rfl,by simp[PS.take,PS.called,h0,hk,he]⟩
theorem UU{T:bd}(F:FT T){D:Rd}(z:hM T D){p:PS}(hp:St p)(least:Int):bY T 129 [.vp 1000 0,dI least] (PS.bz p) fun r Bn=>r=dI (p.number least).1∧Bn=PS.bz (p.number least).2:=by
 refine cw F.PJ aa (al 2 aa (al 2 aa (ai (ae 2 aa ?_))))
 refine ak (jU (b9:=[.vp 1000 0,dI 3,.fn 181 [.vp 1001 0,.vp 1002 0]]) (Bi:=PS.bz p++[(1001,.one 3 8 [dI least]),(1002,.one 3 8 [d0])]) [(1000,1000),(1001,3),(1002,5)] 2000 rfl rfl rfl rfl rfl rfl rfl (ES rfl rfl ⟨rfl,rfl,rfl,rfl,trivial⟩) (V8 F hp (by decide) (fun _ hk=>MG F z (hp.nz.1 _ hp.ok.mem hk) least)) (fun r Bn fT=>?_))
 obtain⟨rfl,rfl⟩:=fT
 refine eB (PS.bz (p.take 3 (mD least p.tok.text)).2++[(5,.one 3 8 [.d (if p.called 3=true then .i .i64 (if mD least p.tok.text=0 then(d6 p.tok.text:Nat) else 0) else .i .i64 0)])]) (gn aa ⟨aa,trivial⟩) (af (al 2 aa (ax (⟨_,PS.bz (p.number least).2,aa,fM aa,?_,aa⟩))))
 unfold PS.number
 by_cases A:p.called 3=true<;>by_cases h2:mD least p.tok.text=0<;>simp[gB,A,h2]
theorem yN{T:bd}(F:FT T){D:Rd}(z:hM T D){p:PS}(hp:St p):bY T 178 [.vp 1000 0] (PS.bz p) fun r Bn=>r=dI (p.day D).1∧Bn=PS.bz (p.day D).2:=by
 refine cw F.PN aa (al 1 aa (al 2 aa (ai (ae 2 aa ?_))))
 refine ak (jU (b9:=[.vp 1000 0,dI 4,.fn 215 [.vp 1001 0]]) (Bi:=PS.bz p++[(1001,.one 3 8 [d0])]) [(1000,1000),(1001,3)] 2000 rfl rfl rfl rfl rfl rfl rfl (ES rfl rfl ⟨rfl,rfl,trivial⟩) (V7 F hp (by decide) (fun _ _=>PQ F z (hp.nz.2 _ hp.ok.mem))) (fun r Bn fT=>?_))
 obtain⟨rfl,rfl⟩:=fT
 refine eB (PS.bz (p.take 4 (D.jY p.tok.text)).2++[(3,.one 3 8 [.d (if p.called 4=true then .i .i64 (D.day p.tok.text).1 else .i .i64 0)])]) (gn aa ⟨aa,trivial⟩) (af (al 2 aa (ax (⟨_,PS.bz (p.day D).2,aa,fM aa,?_,aa⟩))))
 unfold PS.day
 by_cases A:p.called 4=true<;>simp[gB,A]<;>rfl
open Go
set_option maxRecDepth 10000
theorem Dp{T:bd}(F:FT T){D:Rd}(I:hM T D){p:PS}(hp:bf p):bY T 174 [.vp 1000 0] (PS.bi p) fun r Bn=>r=dI (p.d7 D).1∧Bn=PS.bi (p.d7 D).2:=by
 refine cw F.aau aa (al 1 aa (aK (ai (ae 1 aa (bh (keyword F hp.ok jZ) aa aa aa aa aa (ae 1 aa (af ?_)))))))
 refine aI aa (fun A=>?_) (fun A=>?_)
 ·have z:(p.keyword jZ).1=false:=by simpa using A
  have G:p.d7 D=(-1,p):=by unfold PS.d7;rw[aj (by rw[z];decide)]
  rw[PS.cQ z]
  refine al 1 aa (ax ?_)
  rw[G]
  exact⟨_,PS.bi _,aa,cL aa aa,aa,aa⟩
 have z:(p.keyword jZ).1=true:=by simpa using A
 have G:p.d7 D=(p.keyword jZ).2.expr D:=by unfold PS.d7;rw[aw z]
 refine aQ (ai (ae 1 aa (bh (uR F I (hp.kw jZ).top) aa aa aa aa aa (ae 1 aa (af ?_)))))
 refine ax ?_
 rw[G]
 exact⟨_,PS.bi _,aa,cL aa aa,aa,aa⟩
theorem gA{T:bd}(F:FT T){D:Rd}(z:hM T D){p:PS}(hp:bf p):bY T 175 [.vp 1000 0] (PS.bi p) fun r Bn=>r=ez (eR (p.set D).1)∧Bn=PS.bi (p.set D).2:=by
 refine cw F.aav aa (al 1 aa (ai (ae 1 aa (bh (name F hp.st) aa aa aa aa aa (ae 3 aa (af ?_))))))
 refine ai (ae 1 aa (bh (bA F hp.name.ok na) aa aa aa aa aa (af (ai (ae 1 aa (bh (uR F z (hp.name.top.gQ na).top) aa aa aa aa aa (ae 2 aa (af ?_))))))))
 exact al 2 aa (ax (⟨_,PS.bi (p.set D).2,aa,cL aa aa,aa,aa⟩))
theorem Hp{T:bd}(F:FT T){p:PS}(hp:bf p):bY T 176 [.vp 1000 0] (PS.bi p) fun r Bn=>r=ez (cV p.column.1)∧Bn=PS.bi p.column.2:=by
 refine cw F.aaw aa (al 1 aa (ai (ae 1 aa (bh (name F hp.st) aa aa aa aa aa (ae 3 aa (af ?_))))))
 refine aK (bJ (ai (ae 1 aa (bh (keyword F hp.name.ok yM) aa aa aa aa aa (ae 1 aa (af ?_))))))
 refine aI aa (fun G=>?_) (fun G=>?_)
 ·have A:p.column=((p.name.1,1),(p.name.2.keyword yM).2):=by unfold PS.column PS.nT;rw[aw G]
  refine bD (ae 2 aa (af ?_))
  refine al 2 aa (ax ?_)
  rw[A]
  exact⟨_,PS.bi _,aa,cL aa aa,aa,aa⟩
 rw[PS.cQ G]
 refine ai (ae 1 aa (bh (keyword F hp.name.ok yp) aa aa aa aa aa (ae 1 aa (af ?_))))
 refine aI aa (fun bM=>?_) (fun bM=>?_)
 ·have A:p.column=((p.name.1,2),(p.name.2.keyword yp).2):=by unfold PS.column PS.nT;rw[aj (by rw[G];decide),aw bM]
  refine bD (ae 2 aa (af ?_))
  refine al 2 aa (ax ?_)
  rw[A]
  exact⟨_,PS.bi _,aa,cL aa aa,aa,aa⟩
 rw[PS.cQ bM]
 refine ai (ae 1 aa (bh (keyword F hp.name.ok yq) aa aa aa aa aa (ae 1 aa (af ?_))))
 refine aI aa (fun z=>?_) (fun z=>?_)
 ·have A:p.column=((p.name.1,3),(p.name.2.keyword yq).2):=by unfold PS.column PS.nT;rw[aj (by rw[G];decide),aj (by rw[bM];decide),aw z]
  refine bD (ae 2 aa (af ?_))
  refine al 2 aa (ax ?_)
  rw[A]
  exact⟨_,PS.bi _,aa,cL aa aa,aa,aa⟩
 have A:p.column=((p.name.1,0),p.name.2.fail 5):=by unfold PS.column PS.nT;rw[aj (by rw[G];decide),aj (by rw[bM];decide),aj (by rw[z];decide)]
 rw[PS.cQ z]
 refine bD (ae 1 aa (bh (fail F hp.name.ok 5) aa aa aa aa aa (af (al 2 aa (ax ?_)))))
 rw[A]
 exact⟨_,PS.bi _,aa,cL aa aa,aa,aa⟩
set_option maxHeartbeats 1000000 in
theorem sF{T:bd}(F:FT T){p:PS}(hp:bf p):bY T 177 [.vp 1000 0] (PS.bi p) fun r Bn=>r= .d (f4 p.names.1)∧Bn=PS.bi p.names.2:=by
 refine cw F.aax aa ?_
 have U:=hp.gQ cq
 have G:∀x:PS,bf x→bP x (PS.name x).2:=fun _ h=>h.name
 refine al 1 aa (ai (ae 1 aa (bh (bA F hp.ok cq) aa aa aa aa aa (af (ai (ae 1 aa (bh (name F U.st) aa aa aa aa aa (ae 2 aa (af ?_)))))))))
 refine aK (bJ (dY (fun k VE B=>∃(l:List _)(q:PS),kE PS.name k l q=(jk PS.name (p.bA cq))∧l≠[]∧l.length≤q.aJ+1∧(p.bA cq).aA.length≤k+q.aJ∧bP (p.bA cq) q∧br [(0,.vp 1000 0),(3,.bs 8 (l.map (fun s=>[cB s])).length 1)] VE∧br (PS.bi q++[(8,.arr 9 16 1 (l.map (fun s=>[cB s])).length (l.map (fun s=>[cB s])))]) B) ?_ (k:=(p.bA cq).aA.length) ⟨[(PS.name (p.bA cq)).1],(PS.name (p.bA cq)).2,aa,pX _ _,mR (da _),j0 _ _,G _ U.top,⟨aa,aa,trivial⟩,dq aa aa ⟨aa,trivial⟩⟩))
 rintro k VE B⟨l,q,z,K,Z,hk,I,hV,O⟩
 refine eD (PS.bi q++[(8,.arr 9 16 1 (l.map (fun s=>[cB s])).length (l.map (fun s=>[cB s])))]) O ?_
 have O:br (PS.bi q++[(8,.arr 9 16 1 (l.map (fun s=>[cB s])).length (l.map (fun s=>[cB s])))]) (PS.bi q++[(8,.arr 9 16 1 (l.map (fun s=>[cB s])).length (l.map (fun s=>[cB s])))]):=dq rfl rfl ⟨rfl,trivial⟩
 have gp:q.aA.length=(p.bA cq).aA.length:=by rw[I.aA]
 refine dn _ _ hV O (aK (ai (ae 1 aa (bh (sign F I.ok cH) aa aa aa aa aa (af (aI aa (fun A=>?_) (fun A=>?_)))))))
 ·have h2:=I.top.sign cH
  have J:=oR I.ok A
  have fy:=I.ok.d8
  obtain⟨k,rfl⟩:∃k',k=k'+1:=⟨k-1,by have:=J.2;omega⟩
  rw[oT A] at z
  have Y:=h2.trans (G _ h2.top)
  refine aQ (bJ (bD (ae 2 aa (bh (name F h2.top.st) aa aa aa aa aa (ae 1 aa ?_)))))
  refine ak (sk (rows:=l.map (fun s=>[cB s])) (ys:=[[cB (PS.name (q.sign cH).2).1]]) rfl rfl rfl (.bs (rows:=[[cB (PS.name (q.sign cH).2).1]]) rfl) (bO rfl) (by simp only[bC,bZ,cP,dx];omega) ?_)
  refine ae 1 aa (af ?_)
  refine⟨k,gh k,l++[(PS.name (q.sign cH).2).1],(PS.name (q.sign cH).2).2,z,mE K _,?_,?_,I.trans Y,?_,?_⟩
  ·have:=Y.aJ;have:=J.1;have:=(G _ h2.top).aJ;rw[bC,dU];show l.length+1≤(PS.name (q.sign cH).2).2.aJ+1;omega
  ·have:=(G _ h2.top).aJ;have:=J.1;show(p.bA cq).aA.length≤k+(PS.name (q.sign cH).2).2.aJ;omega
  ·try simp only[dr,eF,fH]
   exact⟨aa,aa,trivial⟩
  try simp only[dr,eF,fH]
  exact dq aa aa ⟨aa,trivial⟩
 rw[oU A] at z
 rw[PS.iA A]
 refine dD (ai (ae 1 aa (bh (bA F I.ok dP) aa aa aa aa aa (af (ai (ae 1 aa (gq 18 8 aa aa (fun _=>⟨aa,aa⟩) (ae 1 aa (af ?_)))))))))
 refine ax ?_
 have hm:p.names=(l,q.bA dP):=by unfold PS.names;rw[←z]
 rw[hm]
 unfold f4
 rw[DC.q7 (by simpa using K)]
 exact⟨_,PS.bi _,aa,cL aa aa,aa,aa⟩
open Go
variable{p:PS}{D:Rd}
theorem bf.d7(h:bf p)(D:Rd):bP p (p.d7 D).2:=by
 unfold PS.d7
 split
 ·exact(h.kw _).trans ((h.kw _).top.expr D)
 exact .refl h
theorem bf.set(h:bf p)(D:Rd):bP p (p.set D).2:=by
 have z:=h.name
 have h2:=z.trans (z.top.gQ na)
 exact h2.trans (h2.top.expr D)
theorem bf.nT(h:bf p):bP p p.nT.2:=by
 unfold PS.nT
 split
 ·exact h.kw _
 split
 ·exact h.kw _
 split
 ·exact h.kw _
 exact h.fail (by decide)
theorem bf.column(h:bf p):bP p p.column.2:=h.name.trans h.name.top.nT
theorem bf.names(h:bf p):bP p p.names.2:=by
 have z:=h.gQ cq
 have h2:=z.trans (xl (fun _ h=>h.name) z.top)
 exact h2.trans (h2.top.gQ dP)
theorem bf.ic(h:bf p):bP p p.ic.2:=by
 unfold PS.ic
 split
 ·have z:=h.kw fi
  have h2:=z.trans (z.top.dK [kf])
  exact h2.trans (h2.top.number _)
 exact .refl h
theorem bf.alias(h:bf p)(a:Bool):bP p (p.alias a).2:=by
 unfold PS.alias
 split
 ·exact .refl h
 rename_i z
 split
 ·exact .refl h
 have A:=h.step (by unfold PS.next at z;simp only[Bool.not_eq_false,fc,e6] at z;exact z.1) (PS.lk h.ok (kind:=1) (by decide) (by simpa using z))
 exact A.trans A.top.name
theorem bf.agg(h:bf p):bP p p.agg.2:=by
 unfold PS.agg
 split
 ·exact h.kw _
 split
 ·exact h.kw _
 split
 ·exact h.kw _
 exact .refl h
theorem bf.fU(h:bf p)(D:Rd):bP p (p.fU D).2:=by
 have z:=h.gQ cq
 have h2:=z.trans (z.top.expr D)
 exact h2.trans (h2.top.gQ dP)
theorem bf.iK(h:bf p)(D:Rd):bP p (p.iK D).2:=by
 unfold PS.iK
 split
 ·have z:=h.kw jI
  have h2:=z.trans (z.top.gQ cq)
  have A:=h2.trans (h2.top.gQ eV)
  exact A.trans (A.top.gQ dP)
 split
 ·exact h.expr D
 exact h.agg.trans (h.agg.top.fU D)
theorem bf.item(h:bf p)(D:Rd):bP p (p.item D).2:=(h.iK D).trans ((h.iK D).top.alias false)
theorem bf.source(h:bf p)(a:Bool):bP p (p.source a).2:=h.name.trans (h.name.top.alias a)
theorem bf.join(h:bf p){l:Bool}{q:PS}(z:p.join=some (l,q)):bP p q∧p.aJ+1≤q.aJ∧p.aJ+1<p.aA.length:=by
 unfold PS.join at z
 split at z
 ·rename_i hk
  cases z
  have A:=h.kw nX
  have h2:=A.top.dK [kn]
  have G:=nw h.ok hk
  exact⟨A.trans h2,by have:=h2.aJ;omega,G.2⟩
 split at z
 ·rename_i hk
  cases z
  exact⟨h.kw _,(nw h.ok hk).1,(nw h.ok hk).2⟩
 cases z
theorem bf.gD(h:bf p)(D:Rd)(l:Bool):bP p (p.gD D l).2:=by
 have z:=h.source false
 have h2:=z.trans (z.top.dK [pz])
 exact h2.trans (h2.top.expr D)
theorem B8(h:p.join=none)(l:List Src):∀k,o5 D k l p=(l,p)
 |0=>rfl
 |k+1=>by unfold o5;rw[h]
theorem zl{b:Bool}{q:PS}(h:p.join=some (b,q))(k:Nat)(l:List Src):o5 D (k+1) l p=o5 D k (l++[(q.gD D b).1]) (q.gD D b).2:=by
 show(match p.join with|none=>(l,p)|some (left,q)=>o5 D k (l++[(q.gD D left).1]) (q.gD D left).2)=_
 rw[h]
theorem Lh:∀(k:Nat)(l:List Src){p:PS},bf p→bP p (o5 D k l p).2
 |0,l,p,h=>.refl h
 |k+1,l,p,h=>by
  cases z:p.join with
  |none=>rw[B8 z];exact .refl h
  |some x=>
   obtain⟨b,q⟩:=x
   rw[zl z]
   have A:=(h.join z).1
   have h2:=A.trans (A.top.gD D b)
   exact h2.trans (Lh k _ h2.top)
theorem bf.j6(h:bf p)(D:Rd)(a:Bool):bP p (p.j6 D a).2:=(h.source a).trans (Lh _ _ (h.source a).top)
theorem bf.ko(h:bf p):bP p p.ko:=by
 unfold PS.ko
 split
 ·exact h.fail (by decide)
 exact .refl h
theorem bf.dC(h:bf p):bP p p.dC.2:=by
 unfold PS.dC
 split
 ·exact h.ko
 rename_i h0
 exact h.ko.trans ((bE.gk h.ko.st (by simpa using h0)).go h.ko.top)
theorem bf.nil(h:bf p):bP p {p with ex:=[]}:=⟨⟨h.st.of ⟨h.ok.lt,h.ok.d8,h.ok.last,h.ok.kN,da _⟩ rfl,h.d0⟩,rfl,bV _,id,id⟩
theorem bf.iQ(h:bf p):bP p p.iQ:=h.nil.trans (h.nil.top.dK [zW])
theorem bf.fw(h:bf p):bP p p.fw:=h.iQ.trans (h.iQ.top.kw jg)
theorem bf.items(h:bf p)(D:Rd):bP p (p.items D).2:=by
 unfold PS.items
 split
 ·exact h.sign _
 exact xl (fun _ h=>h.item D) h
theorem bf.group(h:bf p):bP p p.group.2:=by
 unfold PS.group
 split
 ·have z:=h.kw gx
  have h2:=z.trans (z.top.dK [gI])
  exact h2.trans (xl (fun _ h=>h.dC) h2.top)
 exact .refl h
theorem bf.fA(h:bf p)(D:Rd):bP p (p.fA D):=by
 have z:=h.fw
 have h2:=z.trans (z.top.items D)
 exact h2.trans (h2.top.dK [il])
theorem bf.ja(h:bf p)(D:Rd)(a:Bool):bP p (p.ja D a):=(h.fA D).trans ((h.fA D).top.j6 D a)
theorem bf.dH(h:bf p)(D:Rd)(a:Bool):bP p (p.dH D a):=(h.ja D a).trans ((h.ja D a).top.d7 D)
theorem bf.core(h:bf p)(D:Rd)(a:Bool):bP p (p.core D a).2:=(h.dH D a).trans (h.dH D a).top.group
theorem bf.op(h:bf p){o:Int}{q:PS}(z:p.op=some (o,q)):bP p q∧p.aJ+1≤q.aJ∧p.aJ+1<p.aA.length:=by
 unfold PS.op at z
 split at z
 ·rename_i hk;cases z;exact⟨h.kw _,(nw h.ok hk).1,(nw h.ok hk).2⟩
 split at z
 ·rename_i hk;cases z;exact⟨h.kw _,(nw h.ok hk).1,(nw h.ok hk).2⟩
 split at z
 ·rename_i hk;cases z;exact⟨h.kw _,(nw h.ok hk).1,(nw h.ok hk).2⟩
 cases z
theorem Co{a:Bool}(h:p.op=none)(s:jC):∀k,qc D a k s p=(s,p)
 |0=>rfl
 |k+1=>by unfold qc;rw[h]
theorem vC{a:Bool}{o:Int}{q:PS}(h:p.op=some (o,q))(k:Nat)(s:jC):qc D a (k+1) s p=qc D a k ⟨s.fZ++[((q.aU [gK]).core D a).1],s.ops++[o]⟩ ((q.aU [gK]).core D a).2:=by
 show(match p.op with|none=>(s,p)|some (o,q)=>qc D a k ⟨s.fZ++[((q.aU [gK]).core D a).1],s.ops++[o]⟩ ((q.aU [gK]).core D a).2)=_
 rw[h]
theorem MH{a:Bool}:∀(k:Nat)(s:jC){p:PS},bf p→bP p (qc D a k s p).2
 |0,s,p,h=>.refl h
 |k+1,s,p,h=>by
  cases z:p.op with
  |none=>rw[Co z];exact .refl h
  |some x=>
   obtain⟨o,q⟩:=x
   rw[vC z]
   have A:=(h.op z).1
   have h2:=A.trans (A.top.dK [gK])
   have G:=h2.trans (h2.top.core D a)
   exact G.trans (MH k _ G.top)
theorem bf.cW(h:bf p)(D:Rd)(a:Bool):bP p (p.cW D a).2:=(h.core D a).trans (MH _ _ (h.core D a).top)
theorem bf.lg(h:bf p):bP p p.lg:=(h.dK [lU]).trans (h.dK [lU]).top.name
theorem bf.sL(h:bf p):bP p ((p.lg.aU [lM]).bA cq):=by
 have z:=h.lg
 have h2:=z.trans (z.top.dK [lM])
 exact h2.trans (h2.top.gQ cq)
theorem bf.s7(h:bf p)(D:Rd):bP p (p.s7 D).2:=h.sL.trans (xl (fun _ h=>h.literal D) h.sL.top)
theorem bf.qd(h:bf p)(D:Rd):bP p (p.qd D):=by
 have z:=h.s7 D
 have h2:=z.trans (z.top.gQ dP)
 exact h2.trans (h2.top.dK [ld])
theorem bf.insert(h:bf p)(D:Rd):bP p (p.insert D).2:=(h.qd D).trans ((h.qd D).top.period D)
theorem bf.wJ(h:bf p):bP p p.wJ:=by
 have z:=h.dK [il]
 have h2:=z.trans z.top.name
 exact h2.trans (h2.top.dK [ld,oD,kf])
theorem bf.nE(h:bf p)(D:Rd):bP p (p.nE D):=h.wJ.trans (h.wJ.top.period D)
theorem bf.remove(h:bf p)(D:Rd):bP p (p.remove D).2:=(h.nE D).trans ((h.nE D).top.d7 D)
theorem bf.gG(h:bf p):bP p p.gG:=h.name.trans (h.name.top.dK [ld,oD,kf])
theorem bf.yt(h:bf p)(D:Rd):bP p ((p.gG.period D).2.aU [kJ]):=by
 have z:=h.gG
 have h2:=z.trans (z.top.period D)
 exact h2.trans (h2.top.dK [kJ])
theorem bf.pn(h:bf p)(D:Rd):bP p (p.pn D).2:=(h.yt D).trans (xl (fun _ h=>h.set D) (h.yt D).top)
theorem bf.update(h:bf p)(D:Rd):bP p (p.update D).2:=(h.pn D).trans ((h.pn D).top.d7 D)
theorem bf.tt(h:bf p):bP p p.tt:=h.names.trans (h.names.top.dK [ze])
theorem bf.fk(h:bf p):bP p p.fk.2:=by
 have z:=h.tt
 have h2:=z.trans z.top.name
 exact h2.trans h2.top.names
theorem HG(h:(p.keyword ma).1=true)(k:Nat)(l:List Fk):po (k+1) l p=po k (l++[(p.keyword ma).2.fk.1]) (p.keyword ma).2.fk.2:=aw h
theorem HH(h:(p.keyword ma).1=false)(l:List Fk):∀k,po k l p=(l,p)
 |0=>rfl
 |k+1=>aj (by rw[h];decide)
theorem MI:∀(k:Nat)(l:List Fk){p:PS},bf p→bP p (po k l p).2
 |0,l,p,h=>.refl h
 |k+1,l,p,h=>by
  unfold po
  split
  ·have z:=h.kw ma
   have h2:=z.trans z.top.fk
   exact h2.trans (MI k _ h2.top)
  exact .refl h
theorem bf.gR(h:bf p){o:Int}{q:PS}(z:p.gR=some (o,q)):bP p q∧p.aJ+1≤q.aJ∧p.aJ+1<p.aA.length:=by
 unfold PS.gR at z
 split at z
 ·rename_i hk;cases z;exact⟨h.kw _,(nw h.ok hk).1,(nw h.ok hk).2⟩
 split at z
 ·rename_i hk;cases z;exact⟨h.kw _,(nw h.ok hk).1,(nw h.ok hk).2⟩
 cases z
theorem zp(h:p.gR=none)(l:List (Int×List (List UInt8))):∀k,nY k l p=(l,p)
 |0=>rfl
 |k+1=>by unfold nY;rw[h]
theorem vx{o:Int}{q:PS}(h:p.gR=some (o,q))(k:Nat)(l:List (Int×List (List UInt8))):nY (k+1) l p=nY k (l++[(o,q.names.1)]) q.names.2:=by
 show(match p.gR with|none=>(l,p)|some (c,q)=>nY k (l++[(c,q.names.1)]) q.names.2)=_
 rw[h]
theorem L6:∀(k:Nat)(l:List (Int×List (List UInt8))){p:PS},bf p→bP p (nY k l p).2
 |0,l,p,h=>.refl h
 |k+1,l,p,h=>by
  cases z:p.gR with
  |none=>rw[zp z];exact .refl h
  |some x=>
   obtain⟨o,q⟩:=x
   rw[vx z]
   have A:=(h.gR z).1
   have h2:=A.trans A.top.names
   exact h2.trans (L6 k _ h2.top)
theorem bf.AN(h:bf p):bP p ((p.aU [dh]).name.2.bA cq):=by
 have z:=h.dK [dh]
 have h2:=z.trans z.top.name
 exact h2.trans (h2.top.gQ cq)
theorem bf.s8(h:bf p):bP p p.s8.2:=h.AN.trans (xl (fun _ h=>h.column) h.AN.top)
theorem bf.iB(h:bf p):bP p p.iB:=h.s8.trans (h.s8.top.gQ dP)
theorem bf.key(h:bf p):bP p p.key.2:=by
 unfold PS.key
 split
 ·exact(h.kw _).trans (h.kw _).top.names
 exact .refl h
theorem bf.yu(h:bf p):bP p p.iB.key.2:=h.iB.trans h.iB.top.key
theorem bf.pr(h:bf p):bP p p.pr.2:=h.yu.trans (MI _ _ h.yu.top)
theorem bf.create(h:bf p):bP p p.create.2:=h.pr.trans (L6 _ _ h.pr.top)
theorem bf.gu(h:bf p):bP p p.gu:=(h.dK [dh]).trans (h.dK [dh]).top.name
theorem bf.alter(h:bf p):bP p p.alter.2:=by
 unfold PS.alter
 split
 ·exact h.gu.trans ((h.gu.top.kw _).trans (h.gu.top.kw _).top.column)
 split
 ·exact h.gu.trans ((h.gu.top.kw _).trans (h.gu.top.kw _).top.name)
 exact h.gu.trans (h.gu.top.fail (by decide))
theorem bf.rD(h:bf p)(D:Rd):bP p (p.rD D):=(h.cW D false).trans ((h.cW D false).top.dK _)
theorem bf.qP(h:bf p)(D:Rd):bP p (p.qP D).2:=by
 have z:=(h.rD D).trans ((h.rD D).top.day D)
 exact z.trans z.top.ic
theorem bf.mg(h:bf p):bP p p.mg:=(h.number _).trans ((h.number _).top.dK _)
theorem bf.mF(h:bf p):bP p p.mF:=h.mg.trans ((h.mg.top.number _).trans ((h.mg.top.number _).top.dK _))
theorem bf.hold(h:bf p):bP p p.hold.2:=by
 refine h.mF.trans ?_
 show bP p.mF p.p7.2
 unfold PS.p7
 split
 ·exact h.mF.top.kw _
 exact h.mF.top.number _
theorem bf.mode(h:bf p):bP p p.mode.2:=by
 unfold PS.mode
 split
 ·exact h.kw _
 split
 ·exact h.kw _
 split
 ·exact h.kw _
 split
 ·exact h.kw _
 exact .refl h
theorem bf.gE(h:bf p)(D:Rd):bP p (p.gE D).2:=by
 unfold PS.gE
 split
 ·have z:=h.kw jT
  have h2:=z.trans (z.top.dK [ka])
  exact h2.trans (h2.top.day D)
 exact .refl h
theorem bf.PR(h:bf p)(D:Rd):bP p (p.mode.2.cW D true).2:=h.mode.trans (h.mode.top.cW D true)
theorem bf.query(h:bf p)(D:Rd):bP p (p.query D).2:=by
 have z:=(h.PR D).trans ((h.PR D).top.gE D)
 exact z.trans z.top.ic
theorem bf.cX(h:bf p)(D:Rd):bP p (p.cX D).2:=by
 unfold PS.cX
 repeat' split
 ·exact(h.kw _).trans ((h.kw _).top.insert D)
 ·exact(h.kw _).trans ((h.kw _).top.remove D)
 ·exact(h.kw _).trans ((h.kw _).top.update D)
 ·exact(h.kw _).trans ((h.kw _).top.create)
 ·exact(h.kw _).trans ((h.kw _).top.alter)
 ·exact(h.kw _).trans ((h.kw _).top.qP D)
 ·exact h.kw _
 ·exact(h.kw _).trans ((h.kw _).top.hold)
 ·exact(h.kw _).trans ((h.kw _).top.number _)
 ·exact(h.kw _).trans (((h.kw _).top.dK _).trans (((h.kw _).top.dK _).top.number _))
 exact h.query D
open Go
set_option maxRecDepth 10000
theorem qF{T:bd}(F:FT T){D:Rd}(I:hM T D){p:PS}(hp:bf p):bY T 179 [.vp 1000 0] (PS.bz p) fun r Bn=>r=dI p.ic.1∧Bn=PS.bz p.ic.2:=by
 refine cw F.aay aa (al 1 aa (aK (ai (ae 1 aa (dX (nP F hp.ok fi) aa aa aa aa (ae 1 aa (af ?_)))))))
 refine aI aa (fun A=>?_) (fun A=>?_)
 ·have z:(p.keyword fi).1=false:=by simpa using A
  have G:p.ic=(1099511627776,p):=by unfold PS.ic;rw[aj (by rw[z];decide)]
  rw[PS.cQ z]
  refine al 1 aa (ax ?_)
  rw[G]
  exact⟨_,PS.bz _,aa,fM aa,aa,aa⟩
 have z:(p.keyword fi).1=true:=by simpa using A
 have G:p.ic=((p.keyword fi).2.aU [kf]).number (-1):=by unfold PS.ic;rw[aw z]
 have h2:=(hp.kw fi).top.dK [kf]
 refine aQ (ai (ae 2 aa (gq 7 7 aa aa (fun _=>⟨aa,aa⟩) ?_)))
 refine dX (qZ F (hp.kw fi).ok [kf] (by decide)) rfl rfl rfl rfl ?_
 refine af (ai (ae 1 aa (dX (UU F I h2.st (-1)) aa aa aa aa (ae 1 aa (af ?_)))))
 refine ax ?_
 rw[G]
 exact⟨_,PS.bz _,aa,fM aa,aa,aa⟩
set_option maxHeartbeats 1000000 in
theorem xQ{T:bd}(F:FT T){p:PS}(hp:bf p)(a:Bool):bY T 219 [.vp 1000 0,dB a] (PS.bi p) fun r Bn=>r=dS (p.alias a).1∧Bn=PS.bi (p.alias a).2:=by
 refine cw F.aaV aa (al 1 aa (aK (ai (ae 1 aa (bh (next F hp.ok 1 fi) aa aa aa aa aa (ae 1 aa (af ?_)))))))
 refine aI aa (fun O=>?_) (fun O=>?_)
 ·have G:p.next 1 fi=false:=by simpa using O
  have I:p.alias a=([],p):=by unfold PS.alias;rw[aw G]
  refine al 1 aa (ax ?_)
  rw[I]
  exact⟨_,PS.bi _,aa,cL aa aa,aa,aa⟩
 have G:p.next 1 fi=true:=by simpa using O
 have dT:=PS.lk hp.ok (kind:=1) (by decide) G
 have fy:=hp.ok.d8
 have U:=hp.step (by unfold PS.next at G;simp only[fc,e6] at G;exact G.1) dT
 have K:(p.aA.map cb.enc)[p.aJ+1]?=some p.after.enc:=by rw[im,eP dT];unfold PS.after;rw[eP dT];rfl
 refine aQ (aK (eZ (bk 8 aa ?_)))
 refine c8 (cM rfl rfl (by omega) ?_)
 refine c8 (kR (row:=p.after.enc) aa aa K aa ?_)
 refine bk 3 aa (c6 ?_)
 refine ai (ae 2 aa (dc (g:=bw) aa (fun z=>?_) (fun z=>?_)))
 ·refine ao aa (z) (dz aa ?_)
  refine ao aa (z) (df aa aa aa ?_)
  refine ao aa (z) (hY aa aa ?_)
  refine ak (cT aa (z) aa ?_)
  refine ae 1 aa (dc (g:=bU) aa (fun A=>?_) (fun A=>?_))
  ·refine ao aa (A) (dz aa ?_)
   refine ao aa (A) (df aa aa aa ?_)
   refine ao aa (A) (oA (b:=kf) aa aa ?_)
   refine ak (cT aa (A) aa ?_)
   refine af (aI aa (fun J=>?_) (fun J=>?_))
   ·have I:p.alias a=([],p):=by unfold PS.alias;rw[aj (by rw[G];decide),aw ⟨by simpa using z,by simpa using A,by simpa using J⟩]
    refine al 1 aa (ax ?_)
    rw[I]
    exact⟨_,PS.bi _,aa,cL aa aa,aa,aa⟩
   have I:p.alias a=p.step.name:=by unfold PS.alias;rw[aj (by rw[G];decide),aj (fun k=>absurd k.2.2 (by simpa using J))]
   refine aQ (ai (ae 4 aa ?_))
   refine ak (cM rfl rfl (by omega) ?_)
   refine ae 3 aa (af ?_)
   refine ai (ae 1 aa (bh (name F U.st) aa aa aa aa aa (ae 1 aa (af ?_))))
   refine ax ?_
   rw[I]
   exact⟨_,PS.bi _,aa,cL aa aa,aa,aa⟩
  have I:p.alias a=p.step.name:=by unfold PS.alias;rw[aj (by rw[G];decide),aj (fun k=>absurd k.2.1 (by simpa using A))]
  refine en aa (A) (en aa (A) (en aa (A) (ak (cJ aa (A) aa ?_))))
  refine af (eC aa aa (aQ (ai (ae 4 aa ?_))))
  refine ak (cM rfl rfl (by omega) ?_)
  refine ae 3 aa (af ?_)
  refine ai (ae 1 aa (bh (name F U.st) aa aa aa aa aa (ae 1 aa (af ?_))))
  refine ax ?_
  rw[I]
  exact⟨_,PS.bi _,aa,cL aa aa,aa,aa⟩
 have I:p.alias a=p.step.name:=by unfold PS.alias;rw[aj (by rw[G];decide),aj (fun k=>by rw[k.1] at z;cases z)]
 refine en aa (z) (en aa (z) (en aa (z) (ak (cJ aa (z) aa ?_))))
 refine ae 1 aa (en aa aa (en aa aa (en aa aa (ae 1 aa (af ?_)))))
 refine eC aa aa (aQ (ai (ae 4 aa ?_)))
 refine ak (cM rfl rfl (by omega) ?_)
 refine ae 3 aa (af ?_)
 refine ai (ae 1 aa (bh (name F U.st) aa aa aa aa aa (ae 1 aa (af ?_))))
 refine ax ?_
 rw[I]
 exact⟨_,PS.bi _,aa,cL aa aa,aa,aa⟩
theorem Hq{T:bd}(F:FT T){p:PS}(hp:bf p)(a:Bool):bY T 220 [.vp 1000 0,dB a] (PS.bi p) fun r Bn=>r=ez (p.source a).1.enc∧Bn=PS.bi (p.source a).2:=by
 refine cw F.aaW aa (al 1 aa (ai (ae 1 aa (bh (name F hp.st) aa aa aa aa aa (ae 3 aa (af ?_))))))
 refine ai (ae 2 aa (bh (xQ F hp.name.top a) aa aa aa aa aa (ae 2 aa (af ?_))))
 exact al 2 aa (ax (⟨_,PS.bi (p.source a).2,aa,cL aa aa,aa,aa⟩))
set_option maxHeartbeats 2000000 in
theorem OV{T:bd}(F:FT T){D:Rd}(U:hM T D){p:PS}(hp:bf p):bY T 183 [.vp 1000 0] (PS.bi p) fun r Bn=>r=ez (p.item D).1.enc∧Bn=PS.bi (p.item D).2:=by
 refine cw F.aaA aa (al 1 aa (al 3 aa (aK (bJ (ai (ae 1 aa (bh (keyword F hp.ok jI) aa aa aa aa aa (ae 1 aa (af ?_)))))))))
 refine aI aa (fun O=>?_) (fun O=>?_)
 ·have z:p.iK D=((1, -1),((((p.keyword jI).2.bA cq).bA eV).bA dP)):=by unfold PS.iK;rw[aw O]
  have Y:=hp.kw jI
  have Z:=Y.top.gQ cq
  have g3:=Z.top.gQ eV
  have A:=hp.iK D
  rw[z] at A
  have K:p.item D=(⟨1, -1,(((((p.keyword jI).2.bA cq).bA eV).bA dP).alias false).1⟩,(((((p.keyword jI).2.bA cq).bA eV).bA dP).alias false).2):=by unfold PS.item;rw[z]
  refine ai (ae 1 aa (bh (bA F Y.ok cq) aa aa aa aa aa (af (ai (ae 1 aa (bh (bA F Z.ok eV) aa aa aa aa aa (af (ai (ae 1 aa ?_)))))))))
  refine bh (bA F g3.ok dP) aa aa aa aa aa (af (bD (ae 4 aa (af ?_))))
  refine aK (ai (ae 4 aa (ao aa aa (dz aa ?_))))
  refine ao aa aa (df aa aa aa ?_)
  refine ao aa aa (iD aa aa ?_)
  refine ae 1 aa (af ?_)
  refine eC aa aa (aQ (ai (ae 1 aa (bh (xQ F A.top false) aa aa aa aa aa (ae 2 aa (af ?_))))))
  refine al 2 aa (ax ?_)
  rw[K]
  exact⟨_,PS.bi _,aa,cL aa aa,aa,aa⟩
 rw[PS.cQ O]
 refine ai (ae 1 aa (bh (keyword F hp.ok nB) aa aa aa aa aa (ae 1 aa (af ?_))))
 refine aI aa (fun eA=>?_) (fun eA=>?_)
 ·have I:p.agg=(2,(p.keyword nB).2):=by unfold PS.agg;rw[aw eA]
  have G:=hp.kw nB
  generalize (p.keyword nB).2=q at I G⊢
  have z:p.iK D=((2,(q.fU D).1),(q.fU D).2):=by unfold PS.iK;rw[aj (by rw[O];decide),aj (by rw[I];show¬((2:Int)=0);decide),I]
  have A:=hp.iK D
  rw[z] at A
  have K:p.item D=(⟨2,(q.fU D).1,((q.fU D).2.alias false).1⟩,((q.fU D).2.alias false).2):=by unfold PS.item;rw[z]
  refine bD (ae 2 aa (af ?_))
  refine aK (ai (ae 4 aa (ao aa aa (dz aa ?_))))
  refine ao aa aa (df aa aa aa ?_)
  refine ao aa aa (iD aa aa ?_)
  refine ae 1 aa (af ?_)
  refine fm aa aa (ai (ae 1 aa (bh (bA F G.ok cq) aa aa aa aa aa (af (ai (ae 1 aa (bh (uR F U (G.top.gQ cq).top) aa aa aa aa aa (ae 2 aa (af ?_)))))))))
  refine bD (ae 1 aa (bh (bA F ((G.top.gQ cq).top.expr D).ok dP) aa aa aa aa aa (af (ai (ae 1 aa (bh (xQ F A.top false) aa aa aa aa aa (ae 2 aa (af ?_))))))))
  refine al 2 aa (ax ?_)
  rw[K]
  exact⟨_,PS.bi _,aa,cL aa aa,aa,aa⟩
 rw[PS.cQ eA]
 refine ai (ae 1 aa (bh (keyword F hp.ok nC) aa aa aa aa aa (ae 1 aa (af ?_))))
 refine aI aa (fun J=>?_) (fun J=>?_)
 ·have I:p.agg=(3,(p.keyword nC).2):=by unfold PS.agg;rw[aj (by rw[eA];decide),aw J]
  have G:=hp.kw nC
  generalize (p.keyword nC).2=q at I G⊢
  have z:p.iK D=((3,(q.fU D).1),(q.fU D).2):=by unfold PS.iK;rw[aj (by rw[O];decide),aj (by rw[I];show¬((3:Int)=0);decide),I]
  have A:=hp.iK D
  rw[z] at A
  have K:p.item D=(⟨3,(q.fU D).1,((q.fU D).2.alias false).1⟩,((q.fU D).2.alias false).2):=by unfold PS.item;rw[z]
  refine bD (ae 2 aa (af ?_))
  refine aK (ai (ae 4 aa (ao aa aa (dz aa ?_))))
  refine ao aa aa (df aa aa aa ?_)
  refine ao aa aa (iD aa aa ?_)
  refine ae 1 aa (af ?_)
  refine fm aa aa (ai (ae 1 aa (bh (bA F G.ok cq) aa aa aa aa aa (af (ai (ae 1 aa (bh (uR F U (G.top.gQ cq).top) aa aa aa aa aa (ae 2 aa (af ?_)))))))))
  refine bD (ae 1 aa (bh (bA F ((G.top.gQ cq).top.expr D).ok dP) aa aa aa aa aa (af (ai (ae 1 aa (bh (xQ F A.top false) aa aa aa aa aa (ae 2 aa (af ?_))))))))
  refine al 2 aa (ax ?_)
  rw[K]
  exact⟨_,PS.bi _,aa,cL aa aa,aa,aa⟩
 rw[PS.cQ J]
 refine ai (ae 1 aa (bh (keyword F hp.ok nD) aa aa aa aa aa (ae 1 aa (af ?_))))
 refine aI aa (fun dy=>?_) (fun dy=>?_)
 ·have I:p.agg=(4,(p.keyword nD).2):=by unfold PS.agg;rw[aj (by rw[eA];decide),aj (by rw[J];decide),aw dy]
  have G:=hp.kw nD
  generalize (p.keyword nD).2=q at I G⊢
  have z:p.iK D=((4,(q.fU D).1),(q.fU D).2):=by unfold PS.iK;rw[aj (by rw[O];decide),aj (by rw[I];show¬((4:Int)=0);decide),I]
  have A:=hp.iK D
  rw[z] at A
  have K:p.item D=(⟨4,(q.fU D).1,((q.fU D).2.alias false).1⟩,((q.fU D).2.alias false).2):=by unfold PS.item;rw[z]
  refine bD (ae 2 aa (af ?_))
  refine aK (ai (ae 4 aa (ao aa aa (dz aa ?_))))
  refine ao aa aa (df aa aa aa ?_)
  refine ao aa aa (iD aa aa ?_)
  refine ae 1 aa (af ?_)
  refine fm aa aa (ai (ae 1 aa (bh (bA F G.ok cq) aa aa aa aa aa (af (ai (ae 1 aa (bh (uR F U (G.top.gQ cq).top) aa aa aa aa aa (ae 2 aa (af ?_)))))))))
  refine bD (ae 1 aa (bh (bA F ((G.top.gQ cq).top.expr D).ok dP) aa aa aa aa aa (af (ai (ae 1 aa (bh (xQ F A.top false) aa aa aa aa aa (ae 2 aa (af ?_))))))))
  refine al 2 aa (ax ?_)
  rw[K]
  exact⟨_,PS.bi _,aa,cL aa aa,aa,aa⟩
 rw[PS.cQ dy]
 have I:p.agg=(0,p):=by unfold PS.agg;rw[aj (by rw[eA];decide),aj (by rw[J];decide),aj (by rw[dy];decide)]
 have z:p.iK D=((0,(p.expr D).1),(p.expr D).2):=by unfold PS.iK;rw[aj (by rw[O];decide),aw (by rw[I])]
 have A:=hp.iK D
 rw[z] at A
 have K:p.item D=(⟨0,(p.expr D).1,((p.expr D).2.alias false).1⟩,((p.expr D).2.alias false).2):=by unfold PS.item;rw[z]
 refine bD (ae 1 aa (bh (uR F U hp) aa aa aa aa aa (ae 2 aa (af ?_))))
 refine aK (ai (ae 4 aa (en aa aa (en aa aa (en aa aa (ae 1 aa (af ?_)))))))
 refine eC aa aa (aQ (ai (ae 1 aa (bh (xQ F A.top false) aa aa aa aa aa (ae 2 aa (af ?_))))))
 refine al 2 aa (ax ?_)
 rw[K]
 exact⟨_,PS.bi _,aa,cL aa aa,aa,aa⟩
theorem EU{T:bd}(F:FT T){p:PS}(hp:bf p):bY T 185 [.vp 1000 0] (PS.bi p) fun r Bn=>r=dI p.dC.1∧Bn=PS.bi p.dC.2:=by
 refine cw F.aaC aa (al 1 aa (aK (ai (ae 6 aa (dc (g:=aD) aa (fun A=>?_) (fun A=>?_))))))
 ·have h0:p.err=0:=by simpa using A
  refine ao aa (A) (bN aa ?_)
  refine ao aa (A) (Iq (tok F hp.ok) aa aa aa aa aa ?_)
  refine ao aa (A) (CW aa aa ?_)
  refine ao aa (A) (iD aa aa ?_)
  refine ak (cT aa (A) aa ?_)
  refine af (aI aa (fun bM=>?_) (fun bM=>?_))
  ·have I:p.ko=p.fail 5:=by unfold PS.ko;rw[aw ⟨h0,by simpa using bM⟩]
   have J:=hp.ko
   rw[I] at J
   refine bD (ae 1 aa (bh (fail F hp.ok 5) aa aa aa aa aa (af (aK (al 5 aa (aI aa (fun z=>?_) (fun z=>?_)))))))
   ·have G:p.dC=(0,p.fail 5):=by unfold PS.dC;rw[I,aw (by simpa using z)]
    refine al 1 aa (ax ?_)
    rw[G]
    exact⟨_,PS.bi _,aa,cL aa aa,aa,aa⟩
   have G:p.dC=(p.fail 5).gk:=by unfold PS.dC;rw[I,aj (by simpa using z)]
   refine aQ (ai (ae 1 aa ?_))
   refine bh (gk F J.st (by simpa using z)) rfl rfl rfl rfl rfl ?_
   refine ae 1 aa (af ?_)
   refine ax ?_
   rw[G]
   exact⟨_,PS.bi _,aa,cL aa aa,aa,aa⟩
  have I:p.ko=p:=by unfold PS.ko;rw[aj (fun k=>absurd k.2 (by simpa using bM))]
  refine aQ (aK (al 5 aa (aI aa (fun z=>?_) (fun z=>?_))))
  ·have G:p.dC=(0,p):=by unfold PS.dC;rw[I,aw (by simpa using z)]
   refine al 1 aa (ax ?_)
   rw[G]
   exact⟨_,PS.bi _,aa,cL aa aa,aa,aa⟩
  have G:p.dC=p.gk:=by unfold PS.dC;rw[I,aj (by simpa using z)]
  refine aQ (ai (ae 1 aa ?_))
  refine bh (gk F hp.st (by simpa using z)) rfl rfl rfl rfl rfl ?_
  refine ae 1 aa (af ?_)
  refine ax ?_
  rw[G]
  exact⟨_,PS.bi _,aa,cL aa aa,aa,aa⟩
 have h0:¬p.err=0:=by simpa using A
 have I:p.ko=p:=by unfold PS.ko;rw[aj (fun k=>h0 k.1)]
 refine en aa (A) (en aa (A) (en aa (A) (en aa (A) (ak (cJ aa (A) aa ?_)))))
 refine af (eC aa aa (aQ (aK (al 5 aa (aI aa (fun z=>?_) (fun z=>?_))))))
 ·have G:p.dC=(0,p):=by unfold PS.dC;rw[I,aw (by simpa using z)]
  refine al 1 aa (ax ?_)
  rw[G]
  exact⟨_,PS.bi _,aa,cL aa aa,aa,aa⟩
 have G:p.dC=p.gk:=by unfold PS.dC;rw[I,aj (by simpa using z)]
 refine aQ (ai (ae 1 aa ?_))
 refine bh (gk F hp.st (by simpa using z)) rfl rfl rfl rfl rfl ?_
 refine ae 1 aa (af ?_)
 refine ax ?_
 rw[G]
 exact⟨_,PS.bi _,aa,cL aa aa,aa,aa⟩
set_option maxHeartbeats 2000000 in
theorem Nw{T:bd}(F:FT T){D:Rd}(Lf:hM T D){p:PS}(hp:bf p)(a:Bool):bY T 184 [.vp 1000 0,dB a] (PS.bi p) fun r Bn=>r= .d (.e9 ((p.j6 D a).1.map Src.enc))∧Bn=PS.bi (p.j6 D a).2:=by
 refine cw F.aaB aa (al 1 aa (ai (ae 2 aa (bh (Hq F hp a) aa aa aa aa aa (ae 2 aa (af ?_))))))
 refine bJ (dY (fun k VE B=>∃(l:List Src)(q:PS),o5 D k l q=p.j6 D a∧l≠[]∧l.length≤q.aJ+1∧p.aA.length≤k+q.aJ∧bP p q∧br [(0,.vp 1000 0),(5,.bs 11 (l.map Src.enc).length 4)] VE∧br (PS.bi q++[(11,.arr 169 48 4 (l.map Src.enc).length (l.map Src.enc))]) B) ?_ (k:=p.aA.length) ⟨[(p.source a).1],(p.source a).2,aa,pX _ _,mR (da _),j0 _ _,hp.source a,⟨aa,aa,trivial⟩,dq aa aa ⟨aa,trivial⟩⟩)
 rintro k VE B⟨l,q,z,U,js,hk,K,hV,hB⟩
 refine eD (PS.bi q++[(11,.arr 169 48 4 (l.map Src.enc).length (l.map Src.enc))]) hB ?_
 have hB:br (PS.bi q++[(11,.arr 169 48 4 (l.map Src.enc).length (l.map Src.enc))]) (PS.bi q++[(11,.arr 169 48 4 (l.map Src.enc).length (l.map Src.enc))]):=dq rfl rfl ⟨rfl,trivial⟩
 have gp:q.aA.length=p.aA.length:=by rw[K.aA]
 refine dn _ _ hV hB (bJ (ai (ae 1 aa (bh (keyword F K.ok nX) aa aa aa aa aa (ae 1 aa (af ?_))))))
 refine aK (al 1 aa (aI aa (fun A=>?_) (fun A=>?_)))
 ·have h2:=K.top.kw nX
  refine bD (ae 2 aa (gq 16 16 aa aa (fun _=>⟨aa,aa⟩) ?_))
  refine bh (aU F h2.ok [kn] (by decide)) rfl rfl rfl rfl rfl ?_
  refine af (ai ?_)
  have O:q.join=some (true,((q.keyword nX).2.aU [kn])):=by unfold PS.join;rw[aw A]
  obtain⟨J,Y,ke⟩:=K.top.join O
  have fy:=K.ok.d8
  obtain⟨k,rfl⟩:∃k',k=k'+1:=⟨k-1,by omega⟩
  rw[zl O] at z
  rw[A]
  generalize ((q.keyword nX).2.aU [kn])=I at O J Y z⊢
  have g1:=J.top.source false
  have g2:=g1.top.dK [pz]
  have g3:=J.top.gD D true
  have ga:=g3.aJ
  refine ae 1 aa (bh (Hq F J.top false) aa aa aa aa aa (ae 2 aa (af ?_)))
  refine al 3 aa (ai (ae 2 aa (gq 27 27 aa aa (fun _=>⟨aa,aa⟩) ?_)))
  refine bh (aU F g1.ok [pz] (by decide)) rfl rfl rfl rfl rfl ?_
  refine af (ai (ae 1 aa (bh (uR F Lf g2.top) aa aa aa aa aa (ae 2 aa (af ?_)))))
  refine bD (ae 3 aa ?_)
  refine ak (sk (rows:=l.map Src.enc) (ys:=[(I.gD D true).1.enc]) rfl rfl rfl (.bs (rows:=[(I.gD D true).1.enc]) rfl) (bO rfl) (by simp only[bC,bZ,cP,dx];omega) ?_)
  refine ae 1 aa (af ?_)
  refine⟨k,gh k,l++[(I.gD D true).1],(I.gD D true).2,z,mE U _,?_,?_,(K.trans J).trans g3,?_,?_⟩
  ·rw[bC,dU];show l.length+1≤(I.gD D true).2.aJ+1;omega
  ·show p.aA.length≤k+(I.gD D true).2.aJ;omega
  ·simp only[dr,eF,fH];exact⟨rfl,rfl,trivial⟩
  simp only[dr,eF,fH];exact dq rfl rfl ⟨rfl,trivial⟩
 rw[PS.cQ A]
 refine ai (ae 1 aa (bh (keyword F K.ok kn) aa aa aa aa aa (ae 1 aa (af ?_))))
 refine aI aa (fun Z=>?_) (fun Z=>?_)
 ·have G:(q.keyword kn).1=false:=by simpa using Z
  have O:q.join=none:=by unfold PS.join;rw[aj (by rw[A];decide),aj (by rw[G];decide)]
  rw[B8 O] at z
  rw[PS.cQ G]
  refine ai (ae 1 aa (gq 21 11 aa aa (fun _=>⟨aa,aa⟩) (ae 1 aa (af ?_))))
  refine ax ?_
  rw[←z,DC.q7 (by simpa using U)]
  exact⟨_,PS.bi _,aa,cL aa aa,aa,aa⟩
 have G:(q.keyword kn).1=true:=by simpa using Z
 refine aQ (ai ?_)
 have O:q.join=some (false,(q.keyword kn).2):=by unfold PS.join;rw[aj (by rw[A];decide),aw G]
 obtain⟨J,Y,ke⟩:=K.top.join O
 have fy:=K.ok.d8
 obtain⟨k,rfl⟩:∃k',k=k'+1:=⟨k-1,by omega⟩
 rw[zl O] at z
 rw[A]
 generalize (q.keyword kn).2=I at O J Y z⊢
 have g1:=J.top.source false
 have g2:=g1.top.dK [pz]
 have g3:=J.top.gD D false
 have ga:=g3.aJ
 refine ae 1 aa (bh (Hq F J.top false) aa aa aa aa aa (ae 2 aa (af ?_)))
 refine al 3 aa (ai (ae 2 aa (gq 27 27 aa aa (fun _=>⟨aa,aa⟩) ?_)))
 refine bh (aU F g1.ok [pz] (by decide)) rfl rfl rfl rfl rfl ?_
 refine af (ai (ae 1 aa (bh (uR F Lf g2.top) aa aa aa aa aa (ae 2 aa (af ?_)))))
 refine bD (ae 3 aa ?_)
 refine ak (sk (rows:=l.map Src.enc) (ys:=[(I.gD D false).1.enc]) rfl rfl rfl (.bs (rows:=[(I.gD D false).1.enc]) rfl) (bO rfl) (by simp only[bC,bZ,cP,dx];omega) ?_)
 refine ae 1 aa (af ?_)
 refine⟨k,gh k,l++[(I.gD D false).1],(I.gD D false).2,z,mE U _,?_,?_,(K.trans J).trans g3,?_,?_⟩
 ·rw[bC,dU];show l.length+1≤(I.gD D false).2.aJ+1;omega
 ·show p.aA.length≤k+(I.gD D false).2.aJ;omega
 ·simp only[dr,eF,fH];exact⟨rfl,rfl,trivial⟩
 simp only[dr,eF,fH];exact dq rfl rfl ⟨rfl,trivial⟩
end Go.Ev.Pp
