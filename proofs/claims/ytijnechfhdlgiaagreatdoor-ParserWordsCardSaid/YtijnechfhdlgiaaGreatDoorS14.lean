/- Part 14 of rules for walks through the code of a program, and of such walks; what each part proves is said by its theorems. -/
import Derived.Test.YtijnechfhdlgiaaGreatDoorS13
set_option linter.unusedVariables false
set_option linter.unusedSimpArgs false
namespace Go.Ev.Pp
open Go
set_option maxRecDepth 10000
set_option maxHeartbeats 1000000 in
theorem xZ{T:bf}(F:FT T){p:PS}(hp:St p){k e:Int}(mD:k≠6){g:Nat}(hC:p.err=0→p.tok.kind=k→bX T g ([dS p.tok.text]++[]) [] fun r Bn=>r=dI e∧Bn=[]):bX T 180 [.vp 1000 0,dI k,.fn g []] (PS.bi p++[]) fun r Bn=>r=dS (p.take k e).1∧Bn=PS.bi (p.take k e).2++[]:=by
 refine cr F.uQ aa (eA (PS.bi p++[]) (dj aa aa trivial) (ak 1 aa (aM (ak 5 aa (aK aa (fun bJ=>?_) (fun bJ=>?_))))))
 ·have h0:¬p.err=0:=by simpa using bJ
  refine ak 1 aa (ax ?_)
  exact⟨_,PS.bi p++[],rfl,dj rfl rfl trivial,by unfold PS.take;rw[aj h0];rfl,by simp[PS.take,PS.called,h0]⟩
 have h0:p.err=0:=by simpa using bJ
 refine aU (ai (ae 1 aa (bj (tok F hp.ok) aa aa aa aa aa (ae 2 aa (af ?_)))))
 refine aM (ai (ae 3 aa (al (iq aa aa ?_))))
 refine af (aK aa (fun ew=>?_) (fun ew=>?_))
 ·have hk:¬p.tok.kind=k:=by simpa using ew
  refine ai (ae 1 aa (bj (fail F hp.ok 5) aa aa aa aa aa (af (ak 1 aa (ax ?_)))))
  exact⟨_,PS.bi (p.fail 5)++[],rfl,dj rfl rfl trivial,by unfold PS.take;rw[aw h0,aj hk];rfl,by simp[PS.take,PS.called,h0,hk]⟩
 have hk:p.tok.kind=k:=by simpa using ew
 have dR:=PS.lv hp.ok mD hk
 have fu:=hp.ok.dY
 refine aU (aM (ai (ae 3 aa (al (qJ (bZ:=[dS p.tok.text]) (Bi:=[]) [] 2000 aa aa aa aa aa aa aa aa aa trivial (hC h0 hk) (fun r Bn fJ=>?_))))))
 obtain⟨rfl,rfl⟩:=fJ
 refine ez (PS.bi p++[(7,.one 69 32 (p.tok.enc.map .d))]) (dj aa aa ⟨aa,trivial⟩) (ae 1 aa (af ?_))
 refine ak 2 aa (aK aa (fun dq=>?_) (fun dq=>?_))
 ·have he:¬e=0:=by simpa using dq
  refine ai (ae 2 aa (bj (fail F hp.ok e) aa aa aa aa aa (af (ak 1 aa (ax ?_)))))
  exact⟨_,PS.bi (p.fail e)++[],rfl,dj rfl rfl trivial,by unfold PS.take;rw[aw h0,aw hk,aj he];rfl,by simp[PS.take,PS.called,h0,hk,he]⟩
 have he:e=0:=by simpa using dq
 refine aU (ai (ae 4 aa ?_))
 refine al (cX rfl rfl (by omega) ?_)
 refine ae 3 aa (af ?_)
 refine ak 3 aa (ax ?_)
 exact⟨_,PS.bi p.step++[],rfl,dj rfl rfl trivial,by unfold PS.take;rw[aw h0,aw hk,aw he];rfl,by simp[PS.take,PS.called,h0,hk,he]⟩
set_option maxHeartbeats 1000000 in
theorem Wj{T:bf}(F:FT T){p:PS}(hp:St p){k e:Int}(mD:k≠6){g:Nat}{e1 b1:Nat}{x x2:DC}(hC:p.err=0→p.tok.kind=k→bX T g ([dS p.tok.text]++[.vp 1001 0]) [(1001,.one e1 b1 [.d x])] fun r Bn=>r=dI e∧Bn=[(1001,.one e1 b1 [.d x2])]):bX T 180 [.vp 1000 0,dI k,.fn g [.vp 1001 0]] (PS.bi p++[(1001,.one e1 b1 [.d x])]) fun r Bn=>r=dS (p.take k e).1∧Bn=PS.bi (p.take k e).2++[(1001,.one e1 b1 [.d (if p.called k=true then x2 else x)])]:=by
 refine cr F.uQ aa (eA (PS.bi p++[(1001,.one e1 b1 [.d x])]) (dj aa aa ⟨aa,trivial⟩) (ak 1 aa (aM (ak 5 aa (aK aa (fun bJ=>?_) (fun bJ=>?_))))))
 ·have h0:¬p.err=0:=by simpa using bJ
  refine ak 1 aa (ax ?_)
  exact⟨_,PS.bi p++[(1001,.one e1 b1 [.d x])],rfl,dj rfl rfl ⟨rfl,trivial⟩,by unfold PS.take;rw[aj h0];rfl,by simp[PS.take,PS.called,h0]⟩
 have h0:p.err=0:=by simpa using bJ
 refine aU (ai (ae 1 aa (bj (tok F hp.ok) aa aa aa aa aa (ae 2 aa (af ?_)))))
 refine aM (ai (ae 3 aa (al (iq aa aa ?_))))
 refine af (aK aa (fun ew=>?_) (fun ew=>?_))
 ·have hk:¬p.tok.kind=k:=by simpa using ew
  refine ai (ae 1 aa (bj (fail F hp.ok 5) aa aa aa aa aa (af (ak 1 aa (ax ?_)))))
  exact⟨_,PS.bi (p.fail 5)++[(1001,.one e1 b1 [.d x])],rfl,dj rfl rfl ⟨rfl,trivial⟩,by unfold PS.take;rw[aw h0,aj hk];rfl,by simp[PS.take,PS.called,h0,hk]⟩
 have hk:p.tok.kind=k:=by simpa using ew
 have dR:=PS.lv hp.ok mD hk
 have fu:=hp.ok.dY
 refine aU (aM (ai (ae 3 aa (al (qJ (bZ:=[dS p.tok.text,.vp 1001 0]) (Bi:=[(1001,.one e1 b1 [.d x])]) [(1001,1001)] 2000 aa aa aa aa aa aa aa aa aa ⟨aa,aa,trivial⟩ (hC h0 hk) (fun r Bn fJ=>?_))))))
 obtain⟨rfl,rfl⟩:=fJ
 refine ez (PS.bi p++[(1001,.one e1 b1 [.d x2]),(7,.one 69 32 (p.tok.enc.map .d))]) (dj aa aa ⟨aa,aa,trivial⟩) (ae 1 aa (af ?_))
 refine ak 2 aa (aK aa (fun dq=>?_) (fun dq=>?_))
 ·have he:¬e=0:=by simpa using dq
  refine ai (ae 2 aa (bj (fail F hp.ok e) aa aa aa aa aa (af (ak 1 aa (ax ?_)))))
  exact⟨_,PS.bi (p.fail e)++[(1001,.one e1 b1 [.d x2])],rfl,dj rfl rfl ⟨rfl,trivial⟩,by unfold PS.take;rw[aw h0,aw hk,aj he];rfl,by simp[PS.take,PS.called,h0,hk,he]⟩
 have he:e=0:=by simpa using dq
 refine aU (ai (ae 4 aa ?_))
 refine al (cX rfl rfl (by omega) ?_)
 refine ae 3 aa (af ?_)
 refine ak 3 aa (ax ?_)
 exact⟨_,PS.bi p.step++[(1001,.one e1 b1 [.d x2])],rfl,dj rfl rfl ⟨rfl,trivial⟩,by unfold PS.take;rw[aw h0,aw hk,aw he];rfl,by simp[PS.take,PS.called,h0,hk,he]⟩
set_option maxHeartbeats 1000000 in
theorem Wk{T:bf}(F:FT T){p:PS}(hp:St p){k e:Int}(mD:k≠6){g:Nat}{e1 b1:Nat}{x y x2 y2:DC}(hC:p.err=0→p.tok.kind=k→bX T g ([dS p.tok.text]++[.vp 1001 0]) [(1001,.one e1 b1 [.d x,.d y])] fun r Bn=>r=dI e∧Bn=[(1001,.one e1 b1 [.d x2,.d y2])]):bX T 180 [.vp 1000 0,dI k,.fn g [.vp 1001 0]] (PS.bi p++[(1001,.one e1 b1 [.d x,.d y])]) fun r Bn=>r=dS (p.take k e).1∧Bn=PS.bi (p.take k e).2++[(1001,.one e1 b1 [.d (if p.called k=true then x2 else x),.d (if p.called k=true then y2 else y)])]:=by
 refine cr F.uQ aa (eA (PS.bi p++[(1001,.one e1 b1 [.d x,.d y])]) (dj aa aa ⟨aa,trivial⟩) (ak 1 aa (aM (ak 5 aa (aK aa (fun bJ=>?_) (fun bJ=>?_))))))
 ·have h0:¬p.err=0:=by simpa using bJ
  refine ak 1 aa (ax ?_)
  exact⟨_,PS.bi p++[(1001,.one e1 b1 [.d x,.d y])],rfl,dj rfl rfl ⟨rfl,trivial⟩,by unfold PS.take;rw[aj h0];rfl,by simp[PS.take,PS.called,h0]⟩
 have h0:p.err=0:=by simpa using bJ
 refine aU (ai (ae 1 aa (bj (tok F hp.ok) aa aa aa aa aa (ae 2 aa (af ?_)))))
 refine aM (ai (ae 3 aa (al (iq aa aa ?_))))
 refine af (aK aa (fun ew=>?_) (fun ew=>?_))
 ·have hk:¬p.tok.kind=k:=by simpa using ew
  refine ai (ae 1 aa (bj (fail F hp.ok 5) aa aa aa aa aa (af (ak 1 aa (ax ?_)))))
  exact⟨_,PS.bi (p.fail 5)++[(1001,.one e1 b1 [.d x,.d y])],rfl,dj rfl rfl ⟨rfl,trivial⟩,by unfold PS.take;rw[aw h0,aj hk];rfl,by simp[PS.take,PS.called,h0,hk]⟩
 have hk:p.tok.kind=k:=by simpa using ew
 have dR:=PS.lv hp.ok mD hk
 have fu:=hp.ok.dY
 refine aU (aM (ai (ae 3 aa (al (qJ (bZ:=[dS p.tok.text,.vp 1001 0]) (Bi:=[(1001,.one e1 b1 [.d x,.d y])]) [(1001,1001)] 2000 aa aa aa aa aa aa aa aa aa ⟨aa,aa,trivial⟩ (hC h0 hk) (fun r Bn fJ=>?_))))))
 obtain⟨rfl,rfl⟩:=fJ
 refine ez (PS.bi p++[(1001,.one e1 b1 [.d x2,.d y2]),(7,.one 69 32 (p.tok.enc.map .d))]) (dj aa aa ⟨aa,aa,trivial⟩) (ae 1 aa (af ?_))
 refine ak 2 aa (aK aa (fun dq=>?_) (fun dq=>?_))
 ·have he:¬e=0:=by simpa using dq
  refine ai (ae 2 aa (bj (fail F hp.ok e) aa aa aa aa aa (af (ak 1 aa (ax ?_)))))
  exact⟨_,PS.bi (p.fail e)++[(1001,.one e1 b1 [.d x2,.d y2])],rfl,dj rfl rfl ⟨rfl,trivial⟩,by unfold PS.take;rw[aw h0,aw hk,aj he];rfl,by simp[PS.take,PS.called,h0,hk,he]⟩
 have he:e=0:=by simpa using dq
 refine aU (ai (ae 4 aa ?_))
 refine al (cX rfl rfl (by omega) ?_)
 refine ae 3 aa (af ?_)
 refine ak 3 aa (ax ?_)
 exact⟨_,PS.bi p.step++[(1001,.one e1 b1 [.d x2,.d y2])],rfl,dj rfl rfl ⟨rfl,trivial⟩,by unfold PS.take;rw[aw h0,aw hk,aw he];rfl,by simp[PS.take,PS.called,h0,hk,he]⟩
set_option maxHeartbeats 1000000 in
theorem Wl{T:bf}(F:FT T){p:PS}(hp:St p){k e:Int}(mD:k≠6){g:Nat}{e1 b1 e2 b2:Nat}{x y y2:DC}(hC:p.err=0→p.tok.kind=k→bX T g ([dS p.tok.text]++[.vp 1001 0,.vp 1002 0]) [(1001,.one e1 b1 [.d x]),(1002,.one e2 b2 [.d y])] fun r Bn=>r=dI e∧Bn=[(1001,.one e1 b1 [.d x]),(1002,.one e2 b2 [.d y2])]):bX T 180 [.vp 1000 0,dI k,.fn g [.vp 1001 0,.vp 1002 0]] (PS.bi p++[(1001,.one e1 b1 [.d x]),(1002,.one e2 b2 [.d y])]) fun r Bn=>r=dS (p.take k e).1∧Bn=PS.bi (p.take k e).2++[(1001,.one e1 b1 [.d x]),(1002,.one e2 b2 [.d (if p.called k=true then y2 else y)])]:=by
 refine cr F.uQ aa (eA (PS.bi p++[(1001,.one e1 b1 [.d x]),(1002,.one e2 b2 [.d y])]) (dj aa aa ⟨aa,aa,trivial⟩) (ak 1 aa (aM (ak 5 aa (aK aa (fun bJ=>?_) (fun bJ=>?_))))))
 ·have h0:¬p.err=0:=by simpa using bJ
  refine ak 1 aa (ax ?_)
  exact⟨_,PS.bi p++[(1001,.one e1 b1 [.d x]),(1002,.one e2 b2 [.d y])],rfl,dj rfl rfl ⟨rfl,rfl,trivial⟩,by unfold PS.take;rw[aj h0];rfl,by simp[PS.take,PS.called,h0]⟩
 have h0:p.err=0:=by simpa using bJ
 refine aU (ai (ae 1 aa (bj (tok F hp.ok) aa aa aa aa aa (ae 2 aa (af ?_)))))
 refine aM (ai (ae 3 aa (al (iq aa aa ?_))))
 refine af (aK aa (fun ew=>?_) (fun ew=>?_))
 ·have hk:¬p.tok.kind=k:=by simpa using ew
  refine ai (ae 1 aa (bj (fail F hp.ok 5) aa aa aa aa aa (af (ak 1 aa (ax ?_)))))
  exact⟨_,PS.bi (p.fail 5)++[(1001,.one e1 b1 [.d x]),(1002,.one e2 b2 [.d y])],rfl,dj rfl rfl ⟨rfl,rfl,trivial⟩,by unfold PS.take;rw[aw h0,aj hk];rfl,by simp[PS.take,PS.called,h0,hk]⟩
 have hk:p.tok.kind=k:=by simpa using ew
 have dR:=PS.lv hp.ok mD hk
 have fu:=hp.ok.dY
 refine aU (aM (ai (ae 3 aa (al (qJ (bZ:=[dS p.tok.text,.vp 1001 0,.vp 1002 0]) (Bi:=[(1001,.one e1 b1 [.d x]),(1002,.one e2 b2 [.d y])]) [(1001,1001),(1002,1002)] 2000 aa aa aa aa aa aa aa aa aa ⟨aa,aa,aa,aa,trivial⟩ (hC h0 hk) (fun r Bn fJ=>?_))))))
 obtain⟨rfl,rfl⟩:=fJ
 refine ez (PS.bi p++[(1001,.one e1 b1 [.d x]),(1002,.one e2 b2 [.d y2]),(7,.one 69 32 (p.tok.enc.map .d))]) (dj aa aa ⟨aa,aa,aa,trivial⟩) (ae 1 aa (af ?_))
 refine ak 2 aa (aK aa (fun dq=>?_) (fun dq=>?_))
 ·have he:¬e=0:=by simpa using dq
  refine ai (ae 2 aa (bj (fail F hp.ok e) aa aa aa aa aa (af (ak 1 aa (ax ?_)))))
  exact⟨_,PS.bi (p.fail e)++[(1001,.one e1 b1 [.d x]),(1002,.one e2 b2 [.d y2])],rfl,dj rfl rfl ⟨rfl,rfl,trivial⟩,by unfold PS.take;rw[aw h0,aw hk,aj he];rfl,by simp[PS.take,PS.called,h0,hk,he]⟩
 have he:e=0:=by simpa using dq
 refine aU (ai (ae 4 aa ?_))
 refine al (cX rfl rfl (by omega) ?_)
 refine ae 3 aa (af ?_)
 refine ak 3 aa (ax ?_)
 exact⟨_,PS.bi p.step++[(1001,.one e1 b1 [.d x]),(1002,.one e2 b2 [.d y2])],rfl,dj rfl rfl ⟨rfl,rfl,trivial⟩,by unfold PS.take;rw[aw h0,aw hk,aw he];rfl,by simp[PS.take,PS.called,h0,hk,he]⟩
set_option maxHeartbeats 1000000 in
theorem Wm{T:bf}(F:FT T){p:PS}(hp:St p){k e:Int}(mD:k≠6){g:Nat}{e1 b1 e2 b2:Nat}{x y z u y2 A u2:DC}(hC:p.err=0→p.tok.kind=k→bX T g ([dS p.tok.text]++[.vp 1001 0,.vp 1002 0]) [(1001,.one e1 b1 [.d x]),(1002,.one e2 b2 [.d y,.d z,.d u])] fun r Bn=>r=dI e∧Bn=[(1001,.one e1 b1 [.d x]),(1002,.one e2 b2 [.d y2,.d A,.d u2])]):bX T 180 [.vp 1000 0,dI k,.fn g [.vp 1001 0,.vp 1002 0]] (PS.bi p++[(1001,.one e1 b1 [.d x]),(1002,.one e2 b2 [.d y,.d z,.d u])]) fun r Bn=>r=dS (p.take k e).1∧Bn=PS.bi (p.take k e).2++[(1001,.one e1 b1 [.d x]),(1002,.one e2 b2 [.d (if p.called k=true then y2 else y),.d (if p.called k=true then A else z),.d (if p.called k=true then u2 else u)])]:=by
 refine cr F.uQ aa (eA (PS.bi p++[(1001,.one e1 b1 [.d x]),(1002,.one e2 b2 [.d y,.d z,.d u])]) (dj aa aa ⟨aa,aa,trivial⟩) (ak 1 aa (aM (ak 5 aa (aK aa (fun bJ=>?_) (fun bJ=>?_))))))
 ·have h0:¬p.err=0:=by simpa using bJ
  refine ak 1 aa (ax ?_)
  exact⟨_,PS.bi p++[(1001,.one e1 b1 [.d x]),(1002,.one e2 b2 [.d y,.d z,.d u])],rfl,dj rfl rfl ⟨rfl,rfl,trivial⟩,by unfold PS.take;rw[aj h0];rfl,by simp[PS.take,PS.called,h0]⟩
 have h0:p.err=0:=by simpa using bJ
 refine aU (ai (ae 1 aa (bj (tok F hp.ok) aa aa aa aa aa (ae 2 aa (af ?_)))))
 refine aM (ai (ae 3 aa (al (iq aa aa ?_))))
 refine af (aK aa (fun ew=>?_) (fun ew=>?_))
 ·have hk:¬p.tok.kind=k:=by simpa using ew
  refine ai (ae 1 aa (bj (fail F hp.ok 5) aa aa aa aa aa (af (ak 1 aa (ax ?_)))))
  exact⟨_,PS.bi (p.fail 5)++[(1001,.one e1 b1 [.d x]),(1002,.one e2 b2 [.d y,.d z,.d u])],rfl,dj rfl rfl ⟨rfl,rfl,trivial⟩,by unfold PS.take;rw[aw h0,aj hk];rfl,by simp[PS.take,PS.called,h0,hk]⟩
 have hk:p.tok.kind=k:=by simpa using ew
 have dR:=PS.lv hp.ok mD hk
 have fu:=hp.ok.dY
 refine aU (aM (ai (ae 3 aa (al (qJ (bZ:=[dS p.tok.text,.vp 1001 0,.vp 1002 0]) (Bi:=[(1001,.one e1 b1 [.d x]),(1002,.one e2 b2 [.d y,.d z,.d u])]) [(1001,1001),(1002,1002)] 2000 aa aa aa aa aa aa aa aa aa ⟨aa,aa,aa,aa,trivial⟩ (hC h0 hk) (fun r Bn fJ=>?_))))))
 obtain⟨rfl,rfl⟩:=fJ
 refine ez (PS.bi p++[(1001,.one e1 b1 [.d x]),(1002,.one e2 b2 [.d y2,.d A,.d u2]),(7,.one 69 32 (p.tok.enc.map .d))]) (dj aa aa ⟨aa,aa,aa,trivial⟩) (ae 1 aa (af ?_))
 refine ak 2 aa (aK aa (fun dq=>?_) (fun dq=>?_))
 ·have he:¬e=0:=by simpa using dq
  refine ai (ae 2 aa (bj (fail F hp.ok e) aa aa aa aa aa (af (ak 1 aa (ax ?_)))))
  exact⟨_,PS.bi (p.fail e)++[(1001,.one e1 b1 [.d x]),(1002,.one e2 b2 [.d y2,.d A,.d u2])],rfl,dj rfl rfl ⟨rfl,rfl,trivial⟩,by unfold PS.take;rw[aw h0,aw hk,aj he];rfl,by simp[PS.take,PS.called,h0,hk,he]⟩
 have he:e=0:=by simpa using dq
 refine aU (ai (ae 4 aa ?_))
 refine al (cX rfl rfl (by omega) ?_)
 refine ae 3 aa (af ?_)
 refine ak 3 aa (ax ?_)
 exact⟨_,PS.bi p.step++[(1001,.one e1 b1 [.d x]),(1002,.one e2 b2 [.d y2,.d A,.d u2])],rfl,dj rfl rfl ⟨rfl,rfl,trivial⟩,by unfold PS.take;rw[aw h0,aw hk,aw he];rfl,by simp[PS.take,PS.called,h0,hk,he]⟩
open Go
set_option maxRecDepth 10000
theorem Wo{T:bf}(F:FT T)(s:List UInt8):bX T 209 ([dS s]++[]) [] fun r Bn=>r=d0∧Bn=[]:=by
 exact cr F.Z8 aa (ak 1 aa (ak 1 aa (ax (⟨_,[],aa,trivial,aa,aa⟩))))
theorem name{T:bf}(F:FT T){p:PS}(hp:St p):bX T 169 [.vp 1000 0] (PS.bi p) fun r Bn=>r=dS p.name.1∧Bn=PS.bi p.name.2:=by
 refine cr F.ZK aa (ak 1 aa (ai (ae 1 aa ?_)))
 refine al (jI (bZ:=[.vp 1000 0,dI 2,.fn 209 []]) (Bi:=PS.bi p++[]) [(1000,1000),(1050,1050)] 2000 rfl rfl rfl rfl rfl rfl rfl (vY rfl rfl rfl rfl trivial) (xZ F hp (by decide) (fun _ _=>Wo F _)) (fun r Bn fJ=>?_))
 obtain⟨rfl,rfl⟩:=fJ
 refine ez (PS.bi (p.take 2 0).2++[]) (dj aa aa trivial) (ae 1 aa (af ?_))
 exact ax (⟨_,PS.bi (p.take 2 0).2,aa,cI aa aa,aa,aa⟩)
theorem L1{T:bf}(F:FT T){D:Rd}(O:gX T D){s:List UInt8}(K:nA s)(least:Int):bX T 181 ([dS s]++[.vp 1001 0,.vp 1002 0]) [(1001,.one 3 8 [dI least]),(1002,.one 3 8 [d0])] fun r Bn=>r=dI (mn least s)∧Bn=[(1001,.one 3 8 [dI least]),(1002,.one 3 8 [dI (if mn least s=0 then(dW s:Nat) else 0)])]:=by
 refine cr F.ZU aa ?_
 have U:=BU K
 refine ak 1 aa (ai (ae 1 aa ?_))
 refine al (pD (args:=[dS s,dI 10,dI 64]) rfl (by repeat(first|exact trivial|apply And.intro)) (O.uint s K) (fun r Z Y=>?_))
 subst Y
 refine ae 5 aa (af ?_)
 refine aM (ai (ae 3 aa (au aa aa (bM aa ?_))))
 refine au aa aa (zU aa aa ?_)
 refine ae 2 aa (da (g:=bh) aa (fun z=>?_) (fun z=>?_))
 ·have J:¬(dW s:Int)<1099511627776:=by simp at z;omega
  have I:mn least s=10:=aj (fun h=>J h.1)
  refine ee aa (z) (ee aa (z) (ee aa (z) (ee aa (z) (al (cU aa (z) aa ?_)))))
  refine af (fe aa aa (ak 1 aa (ax ?_)))
  rw[I]
  exact⟨_,[(1001,.one 3 8 [dI least]),(1002,.one 3 8 [d0])],aa,⟨aa,aa,trivial⟩,aa,aa⟩
 have dR:(dW s:Int)<1099511627776:=by simp at z;omega
 refine au aa (z) (bM aa ?_)
 refine au aa (z) (Cj aa ?_)
 rw[wrap_i64 (by omega) (by omega)]
 refine au aa (z) (c8 aa aa aa ?_)
 refine au aa (z) (pL aa aa ?_)
 refine al (cK aa (z) aa ?_)
 refine af (aK aa (fun A=>?_) (fun A=>?_))
 ·have I:mn least s=10:=aj (fun h=>by have G:=A;simp at G;omega)
  refine ak 1 aa (ax ?_)
  rw[I]
  exact⟨_,[(1001,.one 3 8 [dI least]),(1002,.one 3 8 [d0])],aa,⟨aa,aa,trivial⟩,aa,aa⟩
 have I:mn least s=0:=aw ⟨dR,by have G:=A;simp at G;omega⟩
 refine aU (ai (ae 2 aa ?_))
 rw[wrap_i64 (by omega) (by omega)]
 refine ae 1 aa (af ?_)
 refine ak 1 aa (ax ?_)
 rw[I]
 exact⟨_,[(1001,.one 3 8 [dI least]),(1002,.one 3 8 [dI (dW s:Nat)])],aa,⟨aa,aa,trivial⟩,aa,aa⟩
theorem number{T:bf}(F:FT T){D:Rd}(z:gX T D){p:PS}(hp:St p)(least:Int):bX T 129 [.vp 1000 0,dI least] (PS.bi p) fun r Bn=>r=dI (p.number least).1∧Bn=PS.bi (p.number least).2:=by
 refine cr F.O1 aa (ak 2 aa (ak 2 aa (ai (ae 2 aa ?_))))
 refine al (jI (bZ:=[.vp 1000 0,dI 3,.fn 181 [.vp 1001 0,.vp 1002 0]]) (Bi:=PS.bi p++[(1001,.one 3 8 [dI least]),(1002,.one 3 8 [d0])]) [(1000,1000),(1050,1050),(1001,3),(1002,5)] 2000 rfl rfl rfl rfl rfl rfl rfl (vY rfl rfl rfl rfl ⟨rfl,rfl,rfl,rfl,trivial⟩) (Wl F hp (by decide) (fun _ hk=>L1 F z (hp.nh.1 _ hp.ok.mem hk) least)) (fun r Bn fJ=>?_))
 obtain⟨rfl,rfl⟩:=fJ
 refine ez (PS.bi (p.take 3 (mn least p.tok.text)).2++[(5,.one 3 8 [.d (if p.called 3=true then .i .i64 (if mn least p.tok.text=0 then(dW p.tok.text:Nat) else 0) else .i .i64 0)])]) (dj aa aa ⟨aa,trivial⟩) (af (ak 2 aa (ax (⟨_,PS.bi (p.number least).2,aa,cI aa aa,?_,aa⟩))))
 unfold PS.number
 by_cases A:p.called 3=true<;>by_cases h2:mn least p.tok.text=0<;>simp[gr,A,h2]
open Go
set_option maxRecDepth 10000
theorem O7{T:bf}(F:FT T){D:Rd}(z:gX T D){s:List UInt8}(G:s.length≤200):bX T 215 ([dS s]++[.vp 1001 0]) [(1001,.one 3 8 [d0])] fun r Bn=>r=dI (D.jO s)∧Bn=[(1001,.one 3 8 [dI (D.day s).1])]:=by
 refine cr F.aad aa (ak 1 aa (ai (ae 1 aa ?_)))
 refine al (pD (args:=[dS s]) rfl (by repeat(first|exact trivial|apply And.intro)) (z.day s G) (fun r J I=>?_))
 subst I
 refine ae 5 aa (af ?_)
 refine aM (ai (ae 3 aa (da (g:=aR) aa (fun bJ=>?_) (fun bJ=>?_))))
 ·refine au aa (bJ) (bM aa ?_)
  refine au aa (bJ) (zU aa aa ?_)
  refine al (cU aa (bJ) aa ?_)
  refine af (aK aa (fun A=>?_) (fun A=>?_))
  ·refine bG (ae 1 aa (af ?_))
   refine ak 2 aa (ak 2 aa (ax (⟨_,[(1001,.one 3 8 [dI (D.day s).1])],aa,⟨aa,trivial⟩,?_,aa⟩)))
   clear F z
   unfold Rd.jO
   simp_all [gr]
  refine aU (ak 2 aa (ak 2 aa (ax (⟨_,[(1001,.one 3 8 [dI (D.day s).1])],aa,⟨aa,trivial⟩,?_,aa⟩))))
  clear F z
  unfold Rd.jO
  simp_all [gr]
 refine ee aa (bJ) (ee aa (bJ) (al (cK aa (bJ) aa ?_)))
 refine af (eJ aa aa (aU (ak 2 aa (ak 2 aa (ax (⟨_,[(1001,.one 3 8 [dI (D.day s).1])],aa,⟨aa,trivial⟩,?_,aa⟩))))))
 clear F z
 unfold Rd.jO
 simp_all [gr]
theorem day{T:bf}(F:FT T){D:Rd}(z:gX T D){p:PS}(hp:St p):bX T 178 [.vp 1000 0] (PS.bi p) fun r Bn=>r=dI (p.day D).1∧Bn=PS.bi (p.day D).2:=by
 refine cr F.O5 aa (ak 1 aa (ak 2 aa (ai (ae 2 aa ?_))))
 refine al (jI (bZ:=[.vp 1000 0,dI 4,.fn 215 [.vp 1001 0]]) (Bi:=PS.bi p++[(1001,.one 3 8 [d0])]) [(1000,1000),(1050,1050),(1001,3)] 2000 rfl rfl rfl rfl rfl rfl rfl (vY rfl rfl rfl rfl ⟨rfl,rfl,trivial⟩) (Wj F hp (by decide) (fun _ _=>O7 F z (hp.nh.2 _ hp.ok.mem))) (fun r Bn fJ=>?_))
 obtain⟨rfl,rfl⟩:=fJ
 refine ez (PS.bi (p.take 4 (D.jO p.tok.text)).2++[(3,.one 3 8 [.d (if p.called 4=true then .i .i64 (D.day p.tok.text).1 else .i .i64 0)])]) (dj aa aa ⟨aa,trivial⟩) (af (ak 2 aa (ax (⟨_,PS.bi (p.day D).2,aa,cI aa aa,?_,aa⟩))))
 unfold PS.day
 by_cases A:p.called 4=true<;>simp[gr,A]<;>rfl
theorem Uc{T:bf}(F:FT T){D:Rd}(z:gX T D){s:List UInt8}(A:s.length≤200):bX T 212 ([dS s]++[.vp 1001 0]) [(1001,.one 42 16 [d0,d0])] fun r Bn=>r=dI (D.il s).2∧Bn=[(1001,.one 42 16 [dI (D.il s).1.1,dI (D.il s).1.2])]:=by
 refine cr F.aaa aa (ak 1 aa (ai (ae 1 aa ?_)))
 refine al (pD (args:=[dS s]) rfl (by repeat(first|exact trivial|apply And.intro)) (z.il s A) (fun r I G=>?_))
 subst G
 refine ae 6 aa (af ?_)
 exact ak 2 aa (ak 2 aa (ax (⟨_,[(1001,.one 42 16 [dI (D.il s).1.1,dI (D.il s).1.2])],aa,⟨aa,trivial⟩,aa,aa⟩)))
theorem period{T:bf}(F:FT T){D:Rd}(z:gX T D){p:PS}(hp:St p):bX T 173 [.vp 1000 0] (PS.bi p) fun r Bn=>r= .agg [dI (p.period D).1.1,dI (p.period D).1.2]∧Bn=PS.bi (p.period D).2:=by
 refine cr F.ZO aa (ak 1 aa (ak 1 aa (ai (ae 2 aa ?_))))
 refine al (jI (bZ:=[.vp 1000 0,dI 4,.fn 212 [.vp 1001 0]]) (Bi:=PS.bi p++[(1001,.one 42 16 [d0,d0])]) [(1000,1000),(1050,1050),(1001,3)] 2000 rfl rfl rfl rfl rfl rfl rfl (vY rfl rfl rfl rfl ⟨rfl,rfl,trivial⟩) (Wk F hp (by decide) (fun _ _=>Uc F z (hp.nh.2 _ hp.ok.mem))) (fun r Bn fJ=>?_))
 obtain⟨rfl,rfl⟩:=fJ
 refine ez (PS.bi (p.take 4 (D.il p.tok.text).2).2++[(3,.one 42 16 [.d (if p.called 4=true then .i .i64 (D.il p.tok.text).1.1 else .i .i64 0),.d (if p.called 4=true then .i .i64 (D.il p.tok.text).1.2 else .i .i64 0)]),(2,.one 42 16 [d0,d0])]) (dj aa aa ⟨aa,aa,trivial⟩) (af (ak 2 aa (ax (⟨_,PS.bi (p.period D).2,aa,cI aa aa,?_,aa⟩))))
 unfold PS.period
 by_cases A:p.called 4=true<;>simp[gr,A]<;>rfl
theorem S9{T:bf}(F:FT T){D:Rd}(K:gX T D){s:List UInt8}(G:nA s)(neg:Bool):bX T 238 ([dS s]++[.vp 1001 0,.vp 1002 0]) [(1001,.one 4 1 [dB neg]),(1002,.one 92 32 [dI 1,d0,.d (.s 0 0)])] fun r Bn=>r=dI (D.qm neg s)∧Bn=[(1001,.one 4 1 [dB neg]),(1002,.one 92 32 [dI 1,dI ((D.int neg s).getD 0),.d (.s 0 0)])]:=by
 refine cr F.aap aa (ak 1 aa (aM (ak 1 aa (aK aa (fun I=>?_) (fun I=>?_)))))
 ·subst I
  refine bG (ae 1 aa ?_)
  refine al (LX (a:=[45]) (b:=s) rfl rfl (by have:=G.2.1;simp only[dk,dO];omega) ?_)
  refine ae 1 aa (af ?_)
  refine ai (ae 1 aa ?_)
  refine al (pD (args:=[dS (45::s),dI 10,dI 64]) rfl (by repeat(first|exact trivial|apply And.intro)) (K.sint true s G) (fun r O J=>?_))
  obtain⟨n,e,rfl,z⟩:=J
  rcases z with⟨m,A,rfl,rfl⟩|⟨A,rfl⟩
  ·refine ae 5 aa (af ?_)
   refine aM (ak 2 aa (eJ aa aa (aU (ak 3 aa (ak 1 aa (ax ?_))))))
   unfold Rd.qm
   rw[A]
   exact⟨_,[(1001,.one 4 1 [dB _]),(1002,.one 92 32 [dI 1,dI _,.d (.s 0 0)])],aa,⟨aa,aa,trivial⟩,aa,aa⟩
  refine ae 5 aa (af ?_)
  refine aM (ak 2 aa (fe aa aa (ak 1 aa (ax ?_))))
  unfold Rd.qm
  rw[A]
  exact⟨_,[(1001,.one 4 1 [dB _]),(1002,.one 92 32 [dI 1,dI _,.d (.s 0 0)])],aa,⟨aa,aa,trivial⟩,aa,aa⟩
 subst I
 refine aU (ai (ae 1 aa ?_))
 refine al (pD (args:=[dS s,dI 10,dI 64]) rfl (by repeat(first|exact trivial|apply And.intro)) (K.sint false s G) (fun r O J=>?_))
 obtain⟨n,e,rfl,z⟩:=J
 rcases z with⟨m,A,rfl,rfl⟩|⟨A,rfl⟩
 ·refine ae 5 aa (af ?_)
  refine aM (ak 2 aa (eJ aa aa (aU (ak 3 aa (ak 1 aa (ax ?_))))))
  unfold Rd.qm
  rw[A]
  exact⟨_,[(1001,.one 4 1 [dB _]),(1002,.one 92 32 [dI 1,dI _,.d (.s 0 0)])],aa,⟨aa,aa,trivial⟩,aa,aa⟩
 refine ae 5 aa (af ?_)
 refine aM (ak 2 aa (fe aa aa (ak 1 aa (ax ?_))))
 unfold Rd.qm
 rw[A]
 exact⟨_,[(1001,.one 4 1 [dB _]),(1002,.one 92 32 [dI 1,dI _,.d (.s 0 0)])],aa,⟨aa,aa,trivial⟩,aa,aa⟩
theorem integer{T:bf}(F:FT T){D:Rd}(A:gX T D){p:PS}(hp:St p)(neg:Bool):bX T 211 [.vp 1000 0,dB neg] (PS.bi p) fun r Bn=>r=et (p.integer D neg).1.enc∧Bn=PS.bi (p.integer D neg).2:=by
 refine cr F.Z' aa (ak 2 aa (ak 3 aa (ai (ae 2 aa ?_))))
 refine al (jI (bZ:=[.vp 1000 0,dI 3,.fn 238 [.vp 1001 0,.vp 1002 0]]) (Bi:=PS.bi p++[(1001,.one 4 1 [dB neg]),(1002,.one 92 32 [dI 1,d0,.d (.s 0 0)])]) [(1000,1000),(1050,1050),(1001,3),(1002,5)] 2000 rfl rfl rfl rfl rfl rfl rfl (vY rfl rfl rfl rfl ⟨rfl,rfl,rfl,rfl,trivial⟩) (Wm F hp (by decide) (fun _ hk=>S9 F A (hp.nh.1 _ hp.ok.mem hk) neg)) (fun r Bn fJ=>?_))
 obtain⟨rfl,rfl⟩:=fJ
 refine ez (PS.bi (p.take 3 (D.qm neg p.tok.text)).2++[(5,.one 92 32 [dI 1,.d (if p.called 3=true then .i .i64 ((D.int neg p.tok.text).getD 0) else .i .i64 0),.d (.s 0 0)]),(4,.one 92 32 [d0,d0,.d (.s 0 0)])]) (dj aa aa ⟨?_,aa,trivial⟩) ?_
 ·by_cases z:p.called 3=true<;>simp only[z]<;>rfl
 refine af (ak 2 aa (ax (⟨_,PS.bi (p.integer D neg).2,aa,cI aa aa,?_,aa⟩)))
 unfold PS.integer gU.enc cJ
 by_cases z:p.called 3=true<;>simp[gr,et,z,pack]<;>rfl
theorem Qn{T:bf}(F:FT T){p:PS}(hp:p.ok):bX T 210 [.vp 1000 0] (PS.bi p) fun r Bn=>r=dB p.tok.k0∧Bn=PS.bi p:=by
 refine cr F.Z9 aa (ak 1 aa (ai (ae 1 aa (bj (tok F hp) aa aa aa aa aa (ae 2 aa (af ?_))))))
 refine aM (ak 2 aa (bN (aM (ak 2 aa (aK aa (fun G=>?_) (fun G=>?_))))))
 ·refine aU (fe aa (G) (ak 1 aa (ax (⟨_,PS.bi p,aa,cI aa aa,?_,aa⟩))))
  clear F hp
  simp_all [gr,cM.k0]
 refine bG (ae 2 aa (af ?_))
 refine aK aa (fun G=>?_) (fun G=>?_)
 ·refine ak 1 aa (ax (⟨_,PS.bi p,aa,cI aa aa,?_,aa⟩))
  clear F hp
  simp_all [gr,cM.k0]
 refine ak 2 aa (aK aa (fun I=>?_) (fun I=>?_))
 ·refine ai (ae 2 aa (al (oo (b:=gH) aa aa ?_)))
  refine ae 1 aa (af ?_)
  refine ax (⟨_,PS.bi p,aa,cI aa aa,?_,aa⟩)
  clear F hp
  simp_all [gr,cM.k0]
 refine ak 2 aa (aK aa (fun J=>?_) (fun J=>?_))
 ·refine ai (ae 2 aa (al (oo (b:=o4) aa aa ?_)))
  refine ae 1 aa (da (g:=bu) aa (fun z=>?_) (fun z=>?_))
  ·refine ee aa (z) (ee aa (z) (ee aa (z) (al (cU aa (z) aa ?_))))
   refine ae 1 aa (ee aa aa (ee aa aa (ee aa aa (ae 2 aa (af ?_)))))
   refine ax (⟨_,PS.bi p,aa,cI aa aa,?_,aa⟩)
   clear F hp
   simp_all [gr,cM.k0]
  refine au aa (z) (du aa ?_)
  refine au aa (z) (c8 aa aa aa ?_)
  refine au aa (z) (oo (b:=oJ) aa aa ?_)
  refine al (cK aa (z) aa ?_)
  refine ae 1 aa (da (g:=bR) aa (fun A=>?_) (fun A=>?_))
  ·refine ee aa (A) (ee aa (A) (ee aa (A) (al (cU aa (A) aa ?_))))
   refine ae 1 aa (af ?_)
   refine ax (⟨_,PS.bi p,aa,cI aa aa,?_,aa⟩)
   clear F hp
   simp_all [gr,cM.k0]
  refine au aa (A) (du aa ?_)
  refine au aa (A) (c8 aa aa aa ?_)
  refine au aa (A) (oo (b:=ld) aa aa ?_)
  refine al (cK aa (A) aa ?_)
  refine ae 1 aa (af ?_)
  refine ax (⟨_,PS.bi p,aa,cI aa aa,?_,aa⟩)
  clear F hp
  simp_all [gr,cM.k0]
 refine aU (ak 1 aa (ax (⟨_,PS.bi p,aa,cI aa aa,?_,aa⟩)))
 clear F hp
 simp_all [gr,cM.k0]
open Go
set_option maxRecDepth 10000
set_option maxHeartbeats 2000000 in
theorem literal{T:bf}(F:FT T){D:Rd}(Lf:gX T D){p:PS}(hp:St p):bX T 171 [.vp 1000 0] (PS.bi p) fun r Bn=>r=et (p.literal D).1.enc∧Bn=PS.bi (p.literal D).2:=by
 refine cr F.ZM aa (ak 1 aa (aM (bN (ak 6 aa (aK aa (fun O=>?_) (fun O=>?_))))))
 ·have h0:¬p.err=0:=by simpa using O
  have A:p.literal D=(cq,p):=by unfold PS.literal;rw[aw h0]
  refine aU (ak 2 aa (ax ?_))
  rw[A]
  exact⟨_,PS.bi _,aa,cI aa aa,aa,aa⟩
 have h0:p.err=0:=by simpa using O
 refine ai (ae 1 aa (bj (Qn F hp.ok) aa aa aa aa aa (ae 2 aa (af ?_))))
 refine aK aa (fun U=>?_) (fun U=>?_)
 ·have K:p.tok.k0=false:=by simpa using U
  have A:p.literal D=(cq,p.fail 5):=by unfold PS.literal;rw[aj (by simpa using h0),aw K]
  refine bG (ae 1 aa (bj (fail F hp.ok 5) aa aa aa aa aa (af (ak 2 aa (ax ?_)))))
  rw[A]
  exact⟨_,PS.bi _,aa,cI aa aa,aa,aa⟩
 have K:p.tok.k0=true:=by simpa using U
 refine ai (ae 1 aa (bj (sign F hp.ok gH) aa aa aa aa aa (ae 1 aa (af ?_))))
 refine aK aa (fun z=>?_) (fun z=>?_)
 ·have A:p.literal D=(p.sign gH).2.integer D true:=by unfold PS.literal;rw[aj (by simpa using h0),aj (by rw[K];decide),aw z]
  refine ai (ae 1 aa (bj (integer F Lf (hp.sign gH) true) aa aa aa aa aa (ae 1 aa (af ?_))))
  refine ax ?_
  rw[A]
  exact⟨_,PS.bi _,aa,cI aa aa,aa,aa⟩
 rw[PS.ig z]
 refine ai (ae 1 aa (bj (tok F hp.ok) aa aa aa aa aa (ae 3 aa (af ?_))))
 refine aK aa (fun Y=>?_) (fun Y=>?_)
 ·have Z:p.tok.kind=3:=by simpa using Y
  have A:p.literal D=p.integer D false:=by unfold PS.literal;rw[aj (by simpa using h0),aj (by rw[K];decide),aj (by rw[z];decide),aw Z]
  refine ai (ae 1 aa (bj (integer F Lf hp false) aa aa aa aa aa (ae 1 aa (af ?_))))
  refine ax ?_
  rw[A]
  exact⟨_,PS.bi _,aa,cI aa aa,aa,aa⟩
 have Z:¬p.tok.kind=3:=by simpa using Y
 refine ai (ae 1 aa (bj (keyword F hp.ok o4) aa aa aa aa aa (ae 1 aa (af ?_))))
 refine aK aa (fun G=>?_) (fun G=>?_)
 ·have A:p.literal D=(⟨3,1,[]⟩,(p.keyword o4).2):=by unfold PS.literal;rw[aj (by simpa using h0),aj (by rw[K];decide),aj (by rw[z];decide),aj Z,aw G]
  refine ak 2 aa (ax ?_)
  rw[A]
  exact⟨_,PS.bi _,aa,cI aa aa,aa,aa⟩
 rw[PS.cL G]
 refine ai (ae 1 aa (bj (keyword F hp.ok oJ) aa aa aa aa aa (ae 1 aa (af ?_))))
 refine aK aa (fun I=>?_) (fun I=>?_)
 ·have A:p.literal D=(⟨3,0,[]⟩,(p.keyword oJ).2):=by unfold PS.literal;rw[aj (by simpa using h0),aj (by rw[K];decide),aj (by rw[z];decide),aj Z,aj (by rw[G];decide),aw I]
  refine ak 2 aa (ax ?_)
  rw[A]
  exact⟨_,PS.bi _,aa,cI aa aa,aa,aa⟩
 rw[PS.cL I]
 refine ai (ae 1 aa (bj (keyword F hp.ok ld) aa aa aa aa aa (ae 1 aa (af ?_))))
 refine aK aa (fun J=>?_) (fun J=>?_)
 ·have A:p.literal D=(cq,(p.keyword ld).2):=by unfold PS.literal;rw[aj (by simpa using h0),aj (by rw[K];decide),aj (by rw[z];decide),aj Z,aj (by rw[G];decide),aj (by rw[I];decide),aw J]
  refine ak 2 aa (ax ?_)
  rw[A]
  exact⟨_,PS.bi _,aa,cI aa aa,aa,aa⟩
 rw[PS.cL J]
 have h4:=PS.Fy h0 K z Z G I J
 have dR:=PS.lv hp.ok (k:=4) (by decide) h4
 have fu:=hp.ok.dY
 have A:p.literal D=(⟨2,0,p.tok.text⟩,p.step):=by unfold PS.literal;rw[aj (by simpa using h0),aj (by rw[K];decide),aj (by rw[z];decide),aj Z,aj (by rw[G];decide),aj (by rw[I];decide),aj (by rw[J];decide)]
 refine ai (ae 1 aa (bj (tok F hp.ok) aa aa aa aa aa (ae 2 aa (af ?_))))
 refine ai (ae 4 aa ?_)
 refine al (cX rfl rfl (by omega) ?_)
 refine ae 3 aa (af ?_)
 refine ak 3 aa (ax ?_)
 rw[A]
 exact⟨_,PS.bi p.step,aa,cI aa aa,aa,aa⟩
open Go
def CT(T:bf)(f:Nat)(m:PS→Int×PS)(n:Nat):Prop:=∀p,St p→p.depth+n=61→bX T f [.vp 1000 0] p.bi fun r Bn=>r=dI (m p).1∧Bn=PS.bi (m p).2
theorem rO{sub:PS→Int×PS}{test:PS→Option (Int×PS)}{a:Int}{p:PS}(h:test p=none):∀k,j' sub test k a p=(a,p)
 |0=>rfl
 |k+1=>by unfold j';rw[h]
theorem qd{sub:PS→Int×PS}{test:PS→Option (Int×PS)}{a kind:Int}{p q:PS}(h:test p=some (kind,q))(k:Nat):j' sub test (k+1) a p=j' sub test k ((sub q).2.push ⟨kind,a,(sub q).1,[],[],cq⟩).1 ((sub q).2.push ⟨kind,a,(sub q).1,[],[],cq⟩).2:=by
 show(match test p with|none=>(a,p)|some (kind,q)=>j' sub test k ((sub q).2.push ⟨kind,a,(sub q).1,[],[],cq⟩).1 ((sub q).2.push ⟨kind,a,(sub q).1,[],[],cq⟩).2)=_
 rw[h]
open Go
set_option maxRecDepth 10000
theorem f5{T:bf}(F:FT T){p:PS}(hp:St p)(h0:p.err=0):bX T 221 [.vp 1000 0] (PS.bi p) fun r Bn=>r=dI p.f5.1∧Bn=PS.bi p.f5.2:=by
 refine cr F.aah aa ?_
 have z:bD 1 p p.name.2:=bD.xZ hp (by decide) h0
 refine ak 1 aa (ai (ae 1 aa (bj (name F hp) aa aa aa aa aa (ae 3 aa (af ?_)))))
 refine aM (ai (ae 1 aa (bj (sign F z.st.ok jg) aa aa aa aa aa (af (aK aa (fun A=>?_) (fun A=>?_))))))
 ·have G:p.f5=((p.name.2.sign jg).2.name.2).push ⟨2,0,0,p.name.1,(p.name.2.sign jg).2.name.1,cq⟩:=by unfold PS.f5;rw[aw A]
  have I:=(z.st.sign jg).name.ok.small
  refine ak 4 aa (bG (ae 1 aa (bj (name F (z.st.sign jg)) aa aa aa aa aa (ae 2 aa (af ?_)))))
  refine ai (ae 2 aa (bj (bZ:=[.vp 1000 0,et ((⟨2,0,0,p.name.1,(p.name.2.sign jg).2.name.1,cq⟩:aL)).enc]) (push F I _) aa aa aa aa aa (ae 1 aa (af ?_))))
  refine ax ?_
  rw[G]
  exact⟨_,PS.bi _,aa,cI aa aa,aa,aa⟩
 have G:p.f5=p.name.2.push ⟨2,0,0,[],p.name.1,cq⟩:=by unfold PS.f5;rw[aj (by rw[A];decide)]
 have I:=z.st.ok.small
 rw[PS.ig A]
 refine aU (ai (ae 2 aa (bj (bZ:=[.vp 1000 0,et ((⟨2,0,0,[],p.name.1,cq⟩:aL)).enc]) (push F I _) aa aa aa aa aa (ae 1 aa (af ?_)))))
 refine ax ?_
 rw[G]
 exact⟨_,PS.bi _,aa,cI aa aa,aa,aa⟩
open Go
set_option maxRecDepth 10000
set_option maxHeartbeats 2000000 in
theorem product{T:bf}(F:FT T){D:Rd}{n:Nat}(hS:CT T 283 (eW D n) (n+1)):CT T 281 (chain (eW D n) lB) (n+1):=by
 intro p hp Z
 have K:=zh D hp Z
 refine cr F.aaN aa (ak 1 aa (ai (ae 1 aa (bj (hS p hp Z) aa aa aa aa aa (ae 1 aa (af ?_))))))
 refine aM (bN ?_)
 refine d6 (fun k VE B=>∃(a:Int)(q:PS),j' (eW D n) lB k a q=(chain (eW D n) lB p)∧q.aA.length≤k+q.aJ∧St q∧q.depth=p.depth∧q.aA=p.aA∧bw [(0,.vp 1000 0),(3,dI a)] VE∧bw (PS.bi q) B) ?_ (k:=p.aA.length) ⟨(eW D n p).1,(eW D n p).2,rfl,by rw[K.aA];omega,K.st,K.depth,K.aA,⟨rfl,rfl,trivial⟩,cI rfl rfl⟩
 rintro k VE B⟨a,q,z,hk,O,G,gi,hV,hB⟩
 refine eA (PS.bi q++[]) hB ?_
 have hB:bw (PS.bi q++[]) (PS.bi q++[]):=dj rfl rfl trivial
 refine dx _ _ hV hB (aM (ai (ae 1 aa (bj (sign F O.ok eS) aa aa aa aa aa (af (aK aa (fun I=>?_) (fun I=>?_)))))))
 ·have U:lB q=some (5,(q.sign eS).2):=by unfold lB;rw[aw I]
  obtain⟨k,rfl⟩:∃k',k=k'+1:=⟨k-1,by have:=O.ok.lt;omega⟩
  rw[qd U] at z
  have h2:=BT q _ _ O U
  have J:(q.sign eS).2.depth+(n+1)=61:=by rw[h2.depth,G];exact Z
  have h3:=zh D h2.st J
  have hs:=h3.st.ok.small
  have Y:=bD.push O.ok (k:=0) ((h2.trans h3).dz (by omega)) (⟨5,a,(eW D n (q.sign eS).2).1,[],[],cq⟩:aL)
  have A:q.aJ+1≤(q.sign eS).2.aJ:=by rw[show(q.sign eS).2=q.step from(PS.pz I).1];exact bY _
  refine aU (bN (ai (ae 1 aa (bj (hS _ h2.st J) aa aa aa aa aa (ae 1 aa (af ?_))))))
  refine bG (ae 4 aa (bj (bZ:=[.vp 1000 0,et ((⟨5,a,(eW D n (q.sign eS).2).1,[],[],cq⟩:aL)).enc]) (push F hs _) aa aa aa aa aa (ae 1 aa (af ?_))))
  exact⟨k,by omega,((eW D n (q.sign eS).2).2.push (⟨5,a,(eW D n (q.sign eS).2).1,[],[],cq⟩:aL)).1,((eW D n (q.sign eS).2).2.push (⟨5,a,(eW D n (q.sign eS).2).1,[],[],cq⟩:aL)).2,z,by rw[Y.aA];have:=h2.aJ;have:=h3.aJ;have h5:=h2.sl;show q.aA.length≤k+(eW D n (q.sign eS).2).2.aJ;have h6:q.aJ+1≤(q.sign eS).2.aJ:=A;omega,Y.st,Y.depth.trans G,Y.aA.trans gi,⟨rfl,rfl,trivial⟩,cI rfl rfl⟩
 have U:lB q=none:=by unfold lB;rw[aj (by rw[I];decide)]
 rw[rO U] at z
 rw[PS.ig I]
 refine dM (ak 2 aa (ax ?_))
 rw[←z]
 exact⟨_,PS.bi q,aa,cI aa aa,aa,aa⟩
set_option maxHeartbeats 2000000 in
theorem conjunction{T:bf}(F:FT T){D:Rd}{n:Nat}(hS:CT T 268 (eE D (n+1)) (n+1)):CT T 243 (chain (eE D (n+1)) mb) (n+1):=by
 intro p hp Z
 have K:=(pE D (n+1)).2 p hp Z
 refine cr F.aat aa (ak 1 aa (ai (ae 1 aa (bj (hS p hp Z) aa aa aa aa aa (ae 1 aa (af ?_))))))
 refine aM (bN ?_)
 refine d6 (fun k VE B=>∃(a:Int)(q:PS),j' (eE D (n+1)) mb k a q=(chain (eE D (n+1)) mb p)∧q.aA.length≤k+q.aJ∧St q∧q.depth=p.depth∧q.aA=p.aA∧bw [(0,.vp 1000 0),(3,dI a)] VE∧bw (PS.bi q) B) ?_ (k:=p.aA.length) ⟨(eE D (n+1) p).1,(eE D (n+1) p).2,rfl,by rw[K.aA];omega,K.st,K.depth,K.aA,⟨rfl,rfl,trivial⟩,cI rfl rfl⟩
 rintro k VE B⟨a,q,z,hk,O,G,gi,hV,hB⟩
 refine eA (PS.bi q++[]) hB ?_
 have hB:bw (PS.bi q++[]) (PS.bi q++[]):=dj rfl rfl trivial
 refine dx _ _ hV hB (aM (ai (ae 1 aa (bj (keyword F O.ok ma) aa aa aa aa aa (af (aK aa (fun I=>?_) (fun I=>?_)))))))
 ·have U:mb q=some (9,(q.keyword ma).2):=by unfold mb;rw[aw I]
  obtain⟨k,rfl⟩:∃k',k=k'+1:=⟨k-1,by have:=O.ok.lt;omega⟩
  rw[qd U] at z
  have h2:=B3 q _ _ O U
  have J:(q.keyword ma).2.depth+(n+1)=61:=by rw[h2.depth,G];exact Z
  have h3:=(fun a b=>(pE D (n+1)).2 _ a b) h2.st J
  have hs:=h3.st.ok.small
  have Y:=bD.push O.ok (k:=0) ((h2.trans h3).dz (by omega)) (⟨9,a,(eE D (n+1) (q.keyword ma).2).1,[],[],cq⟩:aL)
  have A:q.aJ+1≤(q.keyword ma).2.aJ:=by rw[show(q.keyword ma).2=q.step from(PS.pz I).1];exact bY _
  refine aU (bN (ai (ae 1 aa (bj (hS _ h2.st J) aa aa aa aa aa (ae 1 aa (af ?_))))))
  refine bG (ae 4 aa (bj (bZ:=[.vp 1000 0,et ((⟨9,a,(eE D (n+1) (q.keyword ma).2).1,[],[],cq⟩:aL)).enc]) (push F hs _) aa aa aa aa aa (ae 1 aa (af ?_))))
  exact⟨k,by omega,((eE D (n+1) (q.keyword ma).2).2.push (⟨9,a,(eE D (n+1) (q.keyword ma).2).1,[],[],cq⟩:aL)).1,((eE D (n+1) (q.keyword ma).2).2.push (⟨9,a,(eE D (n+1) (q.keyword ma).2).1,[],[],cq⟩:aL)).2,z,by rw[Y.aA];have:=h2.aJ;have:=h3.aJ;have h5:=h2.sl;show q.aA.length≤k+(eE D (n+1) (q.keyword ma).2).2.aJ;have h6:q.aJ+1≤(q.keyword ma).2.aJ:=A;omega,Y.st,Y.depth.trans G,Y.aA.trans gi,⟨rfl,rfl,trivial⟩,cI rfl rfl⟩
 have U:mb q=none:=by unfold mb;rw[aj (by rw[I];decide)]
 rw[rO U] at z
 rw[PS.cL I]
 refine dM (ak 2 aa (ax ?_))
 rw[←z]
 exact⟨_,PS.bi q,aa,cI aa aa,aa,aa⟩
set_option maxHeartbeats 2000000 in
theorem expr{T:bf}(F:FT T){D:Rd}{n:Nat}(hS:CT T 243 (iY D n) (n+1)):CT T 214 (chain (iY D n) mC) (n+1):=by
 intro p hp Z
 have K:=Cp D hp Z
 refine cr F.aac aa (ak 1 aa (ai (ae 1 aa (bj (hS p hp Z) aa aa aa aa aa (ae 1 aa (af ?_))))))
 refine aM (bN ?_)
 refine d6 (fun k VE B=>∃(a:Int)(q:PS),j' (iY D n) mC k a q=(chain (iY D n) mC p)∧q.aA.length≤k+q.aJ∧St q∧q.depth=p.depth∧q.aA=p.aA∧bw [(0,.vp 1000 0),(3,dI a)] VE∧bw (PS.bi q) B) ?_ (k:=p.aA.length) ⟨(iY D n p).1,(iY D n p).2,rfl,by rw[K.aA];omega,K.st,K.depth,K.aA,⟨rfl,rfl,trivial⟩,cI rfl rfl⟩
 rintro k VE B⟨a,q,z,hk,O,G,gi,hV,hB⟩
 refine eA (PS.bi q++[]) hB ?_
 have hB:bw (PS.bi q++[]) (PS.bi q++[]):=dj rfl rfl trivial
 refine dx _ _ hV hB (aM (ai (ae 1 aa (bj (keyword F O.ok mg) aa aa aa aa aa (af (aK aa (fun I=>?_) (fun I=>?_)))))))
 ·have U:mC q=some (10,(q.keyword mg).2):=by unfold mC;rw[aw I]
  obtain⟨k,rfl⟩:∃k',k=k'+1:=⟨k-1,by have:=O.ok.lt;omega⟩
  rw[qd U] at z
  have h2:=GC q _ _ O U
  have J:(q.keyword mg).2.depth+(n+1)=61:=by rw[h2.depth,G];exact Z
  have h3:=Cp D h2.st J
  have hs:=h3.st.ok.small
  have Y:=bD.push O.ok (k:=0) ((h2.trans h3).dz (by omega)) (⟨10,a,(iY D n (q.keyword mg).2).1,[],[],cq⟩:aL)
  have A:q.aJ+1≤(q.keyword mg).2.aJ:=by rw[show(q.keyword mg).2=q.step from(PS.pz I).1];exact bY _
  refine aU (bN (ai (ae 1 aa (bj (hS _ h2.st J) aa aa aa aa aa (ae 1 aa (af ?_))))))
  refine bG (ae 4 aa (bj (bZ:=[.vp 1000 0,et ((⟨10,a,(iY D n (q.keyword mg).2).1,[],[],cq⟩:aL)).enc]) (push F hs _) aa aa aa aa aa (ae 1 aa (af ?_))))
  exact⟨k,by omega,((iY D n (q.keyword mg).2).2.push (⟨10,a,(iY D n (q.keyword mg).2).1,[],[],cq⟩:aL)).1,((iY D n (q.keyword mg).2).2.push (⟨10,a,(iY D n (q.keyword mg).2).1,[],[],cq⟩:aL)).2,z,by rw[Y.aA];have:=h2.aJ;have:=h3.aJ;have h5:=h2.sl;show q.aA.length≤k+(iY D n (q.keyword mg).2).2.aJ;have h6:q.aJ+1≤(q.keyword mg).2.aJ:=A;omega,Y.st,Y.depth.trans G,Y.aA.trans gi,⟨rfl,rfl,trivial⟩,cI rfl rfl⟩
 have U:mC q=none:=by unfold mC;rw[aj (by rw[I];decide)]
 rw[rO U] at z
 rw[PS.cL I]
 refine dM (ak 2 aa (ax ?_))
 rw[←z]
 exact⟨_,PS.bi q,aa,cI aa aa,aa,aa⟩
open Go
set_option maxRecDepth 10000
set_option maxHeartbeats 2000000 in
theorem sum{T:bf}(F:FT T){D:Rd}{n:Nat}(hS:CT T 281 (e8 D n) (n+1)):CT T 279 (chain (e8 D n) kj) (n+1):=by
 intro p hp hd
 have h1:=vA D hp hd
 refine cr F.aaL aa (ak 1 aa (ai (ae 1 aa (bj (hS p hp hd) aa aa aa aa aa (ae 1 aa (af ?_))))))
 refine bN ?_
 refine d6 (fun k VE B=>∃(a:Int)(q:PS),j' (e8 D n) kj k a q=(chain (e8 D n) kj p)∧q.aA.length≤k+q.aJ∧St q∧q.depth=p.depth∧q.aA=p.aA∧bw [(0,.vp 1000 0),(3,dI a)] VE∧bw (PS.bi q) B) ?_ (k:=p.aA.length) ⟨(e8 D n p).1,(e8 D n p).2,rfl,by rw[h1.aA];omega,h1.st,h1.depth,h1.aA,⟨rfl,rfl,trivial⟩,cI rfl rfl⟩
 rintro k VE B⟨a,q,z,hk,Y,K,gi,hV,hB⟩
 refine eA (PS.bi q++[]) hB ?_
 have hB:bw (PS.bi q++[]) (PS.bi q++[]):=dj rfl rfl trivial
 refine dx _ _ hV hB (bN (ak 1 aa (aM (ai (ae 1 aa (bj (sign F Y.ok gH) aa aa aa aa aa (af (aK aa (fun h9=>?_) (fun h9=>?_)))))))))
 ·have O:kj q=some (4,(q.sign gH).2):=by unfold kj;rw[aw h9]
  have G:q.aJ+1≤(q.sign gH).2.aJ:=by rw[show(q.sign gH).2=q.step from(PS.pz h9).1];exact bY _
  obtain⟨k,rfl⟩:∃k',k=k'+1:=⟨k-1,by have:=Y.ok.lt;omega⟩
  rw[qd O] at z
  have h2:=wZ q _ _ Y O
  generalize (q.sign gH).2=A at O z h2 G⊢
  have I:A.depth+(n+1)=61:=by rw[h2.depth,K];exact hd
  have Z:=vA D h2.st I
  have hs:=Z.st.ok.small
  have U:=bD.push Y.ok (k:=0) ((h2.trans Z).dz (by omega)) (⟨4,a,(e8 D n A).1,[],[],cq⟩:aL)
  refine bG (ae 1 aa (af ?_))
  refine ai (ae 1 aa (bj (hS _ h2.st I) aa aa aa aa aa (ae 1 aa (af ?_))))
  refine bG (ae 5 aa (bj (bZ:=[.vp 1000 0,et (⟨4,a,(e8 D n A).1,[],[],cq⟩:aL).enc]) (push F hs _) aa aa aa aa aa (ae 1 aa (af ?_))))
  exact⟨k,by omega,((e8 D n A).2.push (⟨4,a,(e8 D n A).1,[],[],cq⟩:aL)).1,((e8 D n A).2.push (⟨4,a,(e8 D n A).1,[],[],cq⟩:aL)).2,z,by rw[U.aA];have:=Z.aJ;show q.aA.length≤k+(e8 D n A).2.aJ;omega,U.st,U.depth.trans K,U.aA.trans gi,⟨rfl,rfl,trivial⟩,cI rfl rfl⟩
 rw[PS.ig h9]
 refine ai (ae 1 aa (bj (sign F Y.ok nK) aa aa aa aa aa (ae 1 aa (af ?_))))
 refine aK aa (fun wF=>?_) (fun wF=>?_)
 ·have J:(q.sign nK).1=false:=by simpa using wF
  have O:kj q=none:=by unfold kj;rw[aj (by rw[h9];decide),aj (by rw[J];decide)]
  rw[rO O] at z
  rw[PS.ig J]
  refine ak 2 aa (ax ?_)
  rw[←z]
  exact⟨_,PS.bi q,aa,cI aa aa,aa,aa⟩
 have J:(q.sign nK).1=true:=by simpa using wF
 have O:kj q=some (3,(q.sign nK).2):=by unfold kj;rw[aj (by rw[h9];decide),aw J]
 have G:q.aJ+1≤(q.sign nK).2.aJ:=by rw[show(q.sign nK).2=q.step from(PS.pz J).1];exact bY _
 obtain⟨k,rfl⟩:∃k',k=k'+1:=⟨k-1,by have:=Y.ok.lt;omega⟩
 rw[qd O] at z
 have h2:=wZ q _ _ Y O
 generalize (q.sign nK).2=A at O z h2 G⊢
 have I:A.depth+(n+1)=61:=by rw[h2.depth,K];exact hd
 have Z:=vA D h2.st I
 have hs:=Z.st.ok.small
 have U:=bD.push Y.ok (k:=0) ((h2.trans Z).dz (by omega)) (⟨3,a,(e8 D n A).1,[],[],cq⟩:aL)
 refine aU (ai (ae 1 aa (bj (hS _ h2.st I) aa aa aa aa aa (ae 1 aa (af ?_)))))
 refine bG (ae 5 aa (bj (bZ:=[.vp 1000 0,et (⟨3,a,(e8 D n A).1,[],[],cq⟩:aL).enc]) (push F hs _) aa aa aa aa aa (ae 1 aa (af ?_))))
 exact⟨k,by omega,((e8 D n A).2.push (⟨3,a,(e8 D n A).1,[],[],cq⟩:aL)).1,((e8 D n A).2.push (⟨3,a,(e8 D n A).1,[],[],cq⟩:aL)).2,z,by rw[U.aA];have:=Z.aJ;show q.aA.length≤k+(e8 D n A).2.aJ;omega,U.st,U.depth.trans K,U.aA.trans gi,⟨rfl,rfl,trivial⟩,cI rfl rfl⟩
set_option maxHeartbeats 2000000 in
theorem Rt{T:bf}(F:FT T){D:Rd}{n:Nat}(hS:CT T 279 (eo D n) (n+1)):CT T 276 (iD (eo D n)) (n+1):=by
 intro p hp hd
 have I:=tJ D hp hd
 refine cr F.aaI aa (ak 1 aa (ai (ae 1 aa (bj (hS p hp hd) aa aa aa aa aa (ae 1 aa (af ?_))))))
 refine ak 1 aa (aM (bN (ai (ae 1 aa (bj (sign F I.st.ok mS) aa aa aa aa aa (ae 1 aa (af ?_)))))))
 refine aK aa (fun O=>?_) (fun O=>?_)
 ·have J:iD (eo D n) p=rK (eo D n) 6 (eo D n p).1 ((eo D n p).2.sign mS).2:=by unfold iD;rw[aw O]
  have h2:=I.trans (bD.sign I.st O)
  generalize ((eo D n p).2.sign mS).2=U at J h2⊢
  have z:U.depth+(n+1)=61:=by rw[h2.depth];exact hd
  have Y:=tJ D h2.st z
  have Z:=Y.st.ok.small
  refine bG (ae 1 aa (af ?_))
  refine ai (ae 1 aa (bj (hS _ h2.st z) aa aa aa aa aa (ae 1 aa (af ?_))))
  refine ai (ae 5 aa (bj (bZ:=[.vp 1000 0,et (⟨6,(eo D n p).1,(eo D n U).1,[],[],cq⟩:aL).enc]) (push F Z _) aa aa aa aa aa (ae 1 aa (af ?_))))
  refine ax ?_
  rw[J]
  exact⟨_,PS.bi _,aa,cI aa aa,aa,aa⟩
 rw[PS.ig O]
 refine ai (ae 1 aa (bj (sign F I.st.ok uD) aa aa aa aa aa (ae 1 aa (af ?_))))
 refine aK aa (fun A=>?_) (fun A=>?_)
 ·have J:iD (eo D n) p=rK (eo D n) 7 (eo D n p).1 ((eo D n p).2.sign uD).2:=by unfold iD;rw[aj (by rw[O];decide),aw A]
  have h2:=I.trans (bD.sign I.st A)
  generalize ((eo D n p).2.sign uD).2=U at J h2⊢
  have z:U.depth+(n+1)=61:=by rw[h2.depth];exact hd
  have Y:=tJ D h2.st z
  have Z:=Y.st.ok.small
  refine bG (ae 1 aa (af ?_))
  refine ai (ae 1 aa (bj (hS _ h2.st z) aa aa aa aa aa (ae 1 aa (af ?_))))
  refine ai (ae 5 aa (bj (bZ:=[.vp 1000 0,et (⟨7,(eo D n p).1,(eo D n U).1,[],[],cq⟩:aL).enc]) (push F Z _) aa aa aa aa aa (ae 1 aa (af ?_))))
  refine ax ?_
  rw[J]
  exact⟨_,PS.bi _,aa,cI aa aa,aa,aa⟩
 rw[PS.ig A]
 refine ai (ae 1 aa (bj (sign F I.st.ok uE) aa aa aa aa aa (ae 1 aa (af ?_))))
 refine aK aa (fun G=>?_) (fun G=>?_)
 ·have J:iD (eo D n) p=rK (eo D n) 8 (eo D n p).1 ((eo D n p).2.sign uE).2:=by unfold iD;rw[aj (by rw[O];decide),aj (by rw[A];decide),aw G]
  have h2:=I.trans (bD.sign I.st G)
  generalize ((eo D n p).2.sign uE).2=U at J h2⊢
  have z:U.depth+(n+1)=61:=by rw[h2.depth];exact hd
  have Y:=tJ D h2.st z
  have Z:=Y.st.ok.small
  refine bG (ae 1 aa (af ?_))
  refine ai (ae 1 aa (bj (hS _ h2.st z) aa aa aa aa aa (ae 1 aa (af ?_))))
  refine ai (ae 5 aa (bj (bZ:=[.vp 1000 0,et (⟨8,(eo D n p).1,(eo D n U).1,[],[],cq⟩:aL).enc]) (push F Z _) aa aa aa aa aa (ae 1 aa (af ?_))))
  refine ax ?_
  rw[J]
  exact⟨_,PS.bi _,aa,cI aa aa,aa,aa⟩
 rw[PS.ig G]
 refine ai (ae 1 aa (bj (keyword F I.st.ok yQ) aa aa aa aa aa (ae 1 aa (af ?_))))
 refine aK aa (fun K=>?_) (fun K=>?_)
 ·have J:iD (eo D n) p=un (((eo D n p).2.keyword yQ).2.aW [ld]) 12 (eo D n p).1:=by unfold iD;rw[aj (by rw[O];decide),aj (by rw[A];decide),aj (by rw[G];decide),aw K]
  have h2:=I.trans (bD.keyword I.st K)
  have Y:=bD.aW (l:=[ld]) h2.st
  have Z:=Y.st.ok.small
  refine ai (ae 2 aa (gn 22 22 aa aa (fun _=>⟨aa,aa⟩) ?_))
  refine bj (aW F h2.st.ok [ld] (by decide)) rfl rfl rfl rfl rfl ?_
  refine af (ai (ae 3 aa (bj (bZ:=[.vp 1000 0,et (⟨12,(eo D n p).1,0,[],[],cq⟩:aL).enc]) (push F Z _) aa aa aa aa aa (ae 1 aa (af ?_)))))
  refine ax ?_
  rw[J]
  exact⟨_,PS.bi _,aa,cI aa aa,aa,aa⟩
 have J:iD (eo D n) p=eo D n p:=by unfold iD;rw[aj (by rw[O];decide),aj (by rw[A];decide),aj (by rw[G];decide),aj (by rw[K];decide)]
 rw[PS.cL K]
 refine ak 2 aa (ax ?_)
 rw[J]
 exact⟨_,PS.bi _,aa,cI aa aa,aa,aa⟩
set_option maxHeartbeats 2000000 in
theorem S'{T:bf}(F:FT T){D:Rd}{n:Nat}(hS:CT T 276 (cmpL D n) (n+1))(hI:CT T 268 (eE D n) n):CT T 268 (eE D (n+1)) (n+1):=by
 intro p hp hd
 skip
 refine cr F.aaE aa (ak 1 aa (aM (ai (ae 1 aa (bj (next F hp.ok 1 wo) aa aa aa aa aa (ae 1 aa (af ?_)))))))
 refine aK aa (fun O=>?_) (fun O=>?_)
 ·have G:p.next 1 wo=false:=by simpa using O
  have I:eE D (n+1) p=cmpL D n p:=by rw[wQ];unfold ni;rw[aw G]
  refine ai (ae 1 aa (bj (hS p hp hd) aa aa aa aa aa (ae 1 aa (af ?_))))
  refine ax ?_
  rw[I]
  exact⟨_,PS.bi _,aa,cI aa aa,aa,aa⟩
 have G:p.next 1 wo=true:=by simpa using O
 refine aU (aM (ai (ae 1 aa (bj (enter F hp.ok) aa aa aa aa aa (ae 1 aa (af ?_))))))
 refine aK aa (fun A=>?_) (fun A=>?_)
 ·have he:p.enter.1=false:=by simpa using A
  have I:eE D (n+1) p=(0,p.enter.2):=by rw[wQ];unfold ni;rw[aj (by rw[G];decide),aw he]
  refine ak 1 aa (ax ?_)
  rw[I]
  exact⟨_,PS.bi _,aa,cI aa aa,aa,aa⟩
 have he:p.enter.1=true:=by simpa using A
 have U:=PS.kV hp.ok (kind:=1) (by decide) G
 obtain⟨K,J⟩:=hp.qV he U
 have z:p.enter.2.step.depth+n=61:=by rw[J];omega
 have dR:p.enter.2.aJ+1<p.enter.2.aA.length:=K.ok.lt
 have fu:p.enter.2.aA.length≤2000:=K.ok.dY
 have I:eE D (n+1) p=un (eE D n p.enter.2.step).2.up 11 (eE D n p.enter.2.step).1:=by rw[wQ];unfold ni;rw[aj (by rw[G];decide),aj (by rw[he];decide)]
 have Y:=(pE D n).2 _ K z
 have p':1≤((eE D n p.enter.2.step).2).depth:=by rw[Y.depth,J];omega
 have Z:((((eE D n p.enter.2.step).2).depth:Nat):Int) -Int.ofNat 1=((((eE D n p.enter.2.step).2).depth-1:Nat):Int):=by simp only[bb];omega
 have hs:=Y.st.ok.small
 refine aU (ai (ae 4 aa ?_))
 refine al (cX rfl rfl (by omega) ?_)
 refine ae 3 aa (af ?_)
 refine ai (ae 1 aa (bj (hI _ K z) aa aa aa aa aa (ae 1 aa (af ?_))))
 refine ai (ae 4 aa ?_)
 refine al (gj rfl rfl (by simp only[bb];omega) (by have:=Y.st.ok.kD;simp only[bb];omega) ?_)
 rw[Z]
 refine ae 3 aa (af ?_)
 refine ai (ae 3 aa (bj (bZ:=[.vp 1000 0,et (⟨11,(eE D n p.enter.2.step).1,0,[],[],cq⟩:aL).enc]) (push F (p:=(eE D n p.enter.2.step).2.up) hs _) aa aa aa aa aa (ae 1 aa (af ?_))))
 refine ax ?_
 rw[I]
 exact⟨_,PS.bi _,aa,cI aa aa,aa,aa⟩
set_option maxHeartbeats 2000000 in
theorem Ud{T:bf}(F:FT T){D:Rd}(Lf:gX T D){n:Nat}(hI:CT T 214 (lC D n) n):CT T 283 (eW D n) (n+1):=by
 intro p hp hd
 skip
 refine cr F.aaP aa (ak 1 aa (aM (bN (ak 6 aa (aK aa (fun Z=>?_) (fun Z=>?_))))))
 ·have h0:p.err≠0:=by simpa using Z
  have z:eW D n p=(0,p):=by unfold eW lg;rw[aw h0]
  refine ak 1 aa (ax ?_)
  rw[z]
  exact⟨_,PS.bi _,aa,cI aa aa,aa,aa⟩
 have h0:p.err=0:=by simpa using Z
 refine ai (ae 1 aa (bj (next F hp.ok 5 cm) aa aa aa aa aa (ae 1 aa (af ?_))))
 refine aK aa (fun G=>?_) (fun G=>?_)
 ·have O:p.next 5 cm=true:=by simpa using G
  refine aM (ai (ae 1 aa (bj (enter F hp.ok) aa aa aa aa aa (ae 1 aa (af ?_)))))
  refine aK aa (fun I=>?_) (fun I=>?_)
  ·have he:p.enter.1=false:=by simpa using I
   have z:eW D n p=(0,p.enter.2):=by unfold eW lg;rw[aj (by simpa using h0),aw O,aw he]
   refine ak 1 aa (ax ?_)
   rw[z]
   exact⟨_,PS.bi _,aa,cI aa aa,aa,aa⟩
  have he:p.enter.1=true:=by simpa using I
  have hlp:=PS.kV hp.ok (kind:=5) (by decide) O
  obtain⟨Y,U⟩:=hp.qV he hlp
  have A:p.enter.2.step.depth+n=61:=by rw[U];omega
  have dR:p.enter.2.aJ+1<p.enter.2.aA.length:=Y.ok.lt
  have fu:p.enter.2.aA.length≤2000:=Y.ok.dY
  have z:eW D n p=((lC D n p.enter.2.step).1,((lC D n p.enter.2.step).2.bx dL).up):=by unfold eW lg;rw[aj (by simpa using h0),aw O,aj (by rw[he];decide)];rfl
  have J:=(pE D n).1 _ Y A
  have hr:=J.trans (bD.bx J.st dL)
  have p':1≤(((lC D n p.enter.2.step).2.bx dL)).depth:=by rw[hr.depth,U];omega
  have mT:(((((lC D n p.enter.2.step).2.bx dL)).depth:Nat):Int) -Int.ofNat 1=(((((lC D n p.enter.2.step).2.bx dL)).depth-1:Nat):Int):=by simp only[bb];omega
  have hs:=hr.st.ok.small
  refine aU (ai (ae 4 aa ?_))
  refine al (cX rfl rfl (by omega) ?_)
  refine ae 3 aa (af ?_)
  refine ai (ae 1 aa (bj (hI _ Y A) aa aa aa aa aa (ae 1 aa (af ?_))))
  refine ai (ae 1 aa (bj (bx F J.st.ok dL) aa aa aa aa aa (af (ai (ae 4 aa ?_)))))
  refine al (gj rfl rfl (by simp only[bb];omega) (by have:=hr.st.ok.kD;simp only[bb];omega) ?_)
  rw[mT]
  refine ae 3 aa (af ?_)
  refine ai (ez (PS.bi ((lC D n p.enter.2.step).2.bx dL).up++[]) (dj aa aa trivial) (ae 2 aa (af ?_)))
  refine ax ?_
  rw[z]
  exact⟨_,PS.bi _,aa,cI aa aa,aa,aa⟩
 have O:p.next 5 cm=false:=by simpa using G
 refine ai (ae 1 aa (bj (tok F hp.ok) aa aa aa aa aa (ae 3 aa (af ?_))))
 refine aK aa (fun K=>?_) (fun K=>?_)
 ·have hk:p.tok.kind=2:=by simpa using K
  have z:eW D n p=p.f5:=by unfold eW lg;rw[aj (by simpa using h0),aj (by rw[O];decide),aw hk]
  refine ai (ae 1 aa (bj (f5 F hp h0) aa aa aa aa aa (ae 1 aa (af ?_))))
  refine ax ?_
  rw[z]
  exact⟨_,PS.bi _,aa,cI aa aa,aa,aa⟩
 have hk:¬p.tok.kind=2:=by simpa using K
 have z:eW D n p=(p.literal D).2.push (⟨1,0,0,[],[],(p.literal D).1⟩:aL):=by unfold eW lg;rw[aj (by simpa using h0),aj (by rw[O];decide),aj hk]
 have hs:=(PS.JZ hp D).ok.small
 refine aU (ai (ae 2 aa (bj (literal F Lf hp) aa aa aa aa aa (ae 1 aa (bj (bZ:=[.vp 1000 0,et (⟨1,0,0,[],[],(p.literal D).1⟩:aL).enc]) (push F hs _) aa aa aa aa aa (ae 1 aa (af ?_)))))))
 refine ax ?_
 rw[z]
 exact⟨_,PS.bi _,aa,cI aa aa,aa,aa⟩
theorem MO{T:bf}(F:FT T){D:Rd}(z:gX T D):∀n,CT T 214 (lC D n) n∧CT T 268 (eE D n) n
 |0=>⟨fun p h G=>absurd h.ok.kD (by omega),fun p h G=>absurd h.ok.kD (by omega)⟩
 |n+1=>by
  obtain⟨I,h2⟩:=MO F z n
  have J:=Ud F z I
  have K:CT T 281 (e8 D n) (n+1):=product F J
  have O:CT T 279 (eo D n) (n+1):=sum F K
  have U:CT T 276 (cmpL D n) (n+1):=Rt F O
  have A:=S' F U h2
  exact⟨expr F (conjunction F A),A⟩
end Go.Ev.Pp
