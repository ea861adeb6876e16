/- Part 14 of rules for walks through the code of a program, and of such walks; what each part proves is said by its theorems. -/
import Derived.Test.YtddbkonalipepaaGreatDoorS13
set_option linter.unusedVariables false
set_option linter.unusedSimpArgs false
namespace Go.Ev.Pp
open Go
set_option maxRecDepth 10000
set_option maxHeartbeats 1000000 in
theorem xX{T:bf}(F:FT T){p:PS}(hp:St p){k e:Int}(mz:k≠6){g:Nat}(hC:p.err=0→p.tok.kind=k→bV T g ([dS p.tok.text]++[]) [] fun r Bn=>r=dI e∧Bn=[]):bV T 152 [.vp 1000 0,dI k,.fn g []] (PS.bi p++[]) fun r Bn=>r=dS (p.take k e).1∧Bn=PS.bi (p.take k e).2++[]:=by
 refine cl F.uN aa (ey (PS.bi p++[]) (di aa aa trivial) (ak 1 aa (aM (ak 5 aa (aJ aa (fun bI=>?_) (fun bI=>?_))))))
 ·have h0:¬p.err=0:=by simpa using bI
  refine ak 1 aa (ax ?_)
  exact⟨_,PS.bi p++[],rfl,di rfl rfl trivial,by unfold PS.take;rw[aj h0];rfl,by simp[PS.take,PS.called,h0]⟩
 have h0:p.err=0:=by simpa using bI
 refine aT (ai (ae 1 aa (bh (tok F hp.ok) aa aa aa aa aa (ae 2 aa (af ?_)))))
 refine aM (ai (ae 3 aa (al (iu aa aa ?_))))
 refine af (aJ aa (fun et=>?_) (fun et=>?_))
 ·have hk:¬p.tok.kind=k:=by simpa using et
  refine ai (ae 1 aa (bh (fail F hp.ok 5) aa aa aa aa aa (af (ak 1 aa (ax ?_)))))
  exact⟨_,PS.bi (p.fail 5)++[],rfl,di rfl rfl trivial,by unfold PS.take;rw[aq h0,aj hk];rfl,by simp[PS.take,PS.called,h0,hk]⟩
 have hk:p.tok.kind=k:=by simpa using et
 have dR:=PS.lu hp.ok mz hk
 have fi:=hp.ok.dY
 refine aT (aM (ai (ae 3 aa (al (qI (bZ:=[dS p.tok.text]) (Bi:=[]) [] 2000 aa aa aa aa aa aa aa aa aa trivial (hC h0 hk) (fun r Bn fG=>?_))))))
 obtain⟨rfl,rfl⟩:=fG
 refine ew (PS.bi p++[(7,.one 91 32 (p.tok.enc.map .d))]) (di aa aa ⟨aa,trivial⟩) (ae 1 aa (af ?_))
 refine ak 2 aa (aJ aa (fun dn=>?_) (fun dn=>?_))
 ·have he:¬e=0:=by simpa using dn
  refine ai (ae 2 aa (bh (fail F hp.ok e) aa aa aa aa aa (af (ak 1 aa (ax ?_)))))
  exact⟨_,PS.bi (p.fail e)++[],rfl,di rfl rfl trivial,by unfold PS.take;rw[aq h0,aq hk,aj he];rfl,by simp[PS.take,PS.called,h0,hk,he]⟩
 have he:e=0:=by simpa using dn
 refine aT (ai (ae 4 aa ?_))
 refine al (cV rfl rfl (by omega) ?_)
 refine ae 3 aa (af ?_)
 refine ak 3 aa (ax ?_)
 exact⟨_,PS.bi p.step++[],rfl,di rfl rfl trivial,by unfold PS.take;rw[aq h0,aq hk,aq he];rfl,by simp[PS.take,PS.called,h0,hk,he]⟩
set_option maxHeartbeats 1000000 in
theorem V3{T:bf}(F:FT T){p:PS}(hp:St p){k e:Int}(mz:k≠6){g:Nat}{e1 b1:Nat}{x x2:DC}(hC:p.err=0→p.tok.kind=k→bV T g ([dS p.tok.text]++[.vp 1001 0]) [(1001,.one e1 b1 [.d x])] fun r Bn=>r=dI e∧Bn=[(1001,.one e1 b1 [.d x2])]):bV T 152 [.vp 1000 0,dI k,.fn g [.vp 1001 0]] (PS.bi p++[(1001,.one e1 b1 [.d x])]) fun r Bn=>r=dS (p.take k e).1∧Bn=PS.bi (p.take k e).2++[(1001,.one e1 b1 [.d (if p.called k=true then x2 else x)])]:=by
 refine cl F.uN aa (ey (PS.bi p++[(1001,.one e1 b1 [.d x])]) (di aa aa ⟨aa,trivial⟩) (ak 1 aa (aM (ak 5 aa (aJ aa (fun bI=>?_) (fun bI=>?_))))))
 ·have h0:¬p.err=0:=by simpa using bI
  refine ak 1 aa (ax ?_)
  exact⟨_,PS.bi p++[(1001,.one e1 b1 [.d x])],rfl,di rfl rfl ⟨rfl,trivial⟩,by unfold PS.take;rw[aj h0];rfl,by simp[PS.take,PS.called,h0]⟩
 have h0:p.err=0:=by simpa using bI
 refine aT (ai (ae 1 aa (bh (tok F hp.ok) aa aa aa aa aa (ae 2 aa (af ?_)))))
 refine aM (ai (ae 3 aa (al (iu aa aa ?_))))
 refine af (aJ aa (fun et=>?_) (fun et=>?_))
 ·have hk:¬p.tok.kind=k:=by simpa using et
  refine ai (ae 1 aa (bh (fail F hp.ok 5) aa aa aa aa aa (af (ak 1 aa (ax ?_)))))
  exact⟨_,PS.bi (p.fail 5)++[(1001,.one e1 b1 [.d x])],rfl,di rfl rfl ⟨rfl,trivial⟩,by unfold PS.take;rw[aq h0,aj hk];rfl,by simp[PS.take,PS.called,h0,hk]⟩
 have hk:p.tok.kind=k:=by simpa using et
 have dR:=PS.lu hp.ok mz hk
 have fi:=hp.ok.dY
 refine aT (aM (ai (ae 3 aa (al (qI (bZ:=[dS p.tok.text,.vp 1001 0]) (Bi:=[(1001,.one e1 b1 [.d x])]) [(1001,1001)] 2000 aa aa aa aa aa aa aa aa aa ⟨aa,aa,trivial⟩ (hC h0 hk) (fun r Bn fG=>?_))))))
 obtain⟨rfl,rfl⟩:=fG
 refine ew (PS.bi p++[(1001,.one e1 b1 [.d x2]),(7,.one 91 32 (p.tok.enc.map .d))]) (di aa aa ⟨aa,aa,trivial⟩) (ae 1 aa (af ?_))
 refine ak 2 aa (aJ aa (fun dn=>?_) (fun dn=>?_))
 ·have he:¬e=0:=by simpa using dn
  refine ai (ae 2 aa (bh (fail F hp.ok e) aa aa aa aa aa (af (ak 1 aa (ax ?_)))))
  exact⟨_,PS.bi (p.fail e)++[(1001,.one e1 b1 [.d x2])],rfl,di rfl rfl ⟨rfl,trivial⟩,by unfold PS.take;rw[aq h0,aq hk,aj he];rfl,by simp[PS.take,PS.called,h0,hk,he]⟩
 have he:e=0:=by simpa using dn
 refine aT (ai (ae 4 aa ?_))
 refine al (cV rfl rfl (by omega) ?_)
 refine ae 3 aa (af ?_)
 refine ak 3 aa (ax ?_)
 exact⟨_,PS.bi p.step++[(1001,.one e1 b1 [.d x2])],rfl,di rfl rfl ⟨rfl,trivial⟩,by unfold PS.take;rw[aq h0,aq hk,aq he];rfl,by simp[PS.take,PS.called,h0,hk,he]⟩
set_option maxHeartbeats 1000000 in
theorem V4{T:bf}(F:FT T){p:PS}(hp:St p){k e:Int}(mz:k≠6){g:Nat}{e1 b1:Nat}{x y x2 y2:DC}(hC:p.err=0→p.tok.kind=k→bV T g ([dS p.tok.text]++[.vp 1001 0]) [(1001,.one e1 b1 [.d x,.d y])] fun r Bn=>r=dI e∧Bn=[(1001,.one e1 b1 [.d x2,.d y2])]):bV T 152 [.vp 1000 0,dI k,.fn g [.vp 1001 0]] (PS.bi p++[(1001,.one e1 b1 [.d x,.d y])]) fun r Bn=>r=dS (p.take k e).1∧Bn=PS.bi (p.take k e).2++[(1001,.one e1 b1 [.d (if p.called k=true then x2 else x),.d (if p.called k=true then y2 else y)])]:=by
 refine cl F.uN aa (ey (PS.bi p++[(1001,.one e1 b1 [.d x,.d y])]) (di aa aa ⟨aa,trivial⟩) (ak 1 aa (aM (ak 5 aa (aJ aa (fun bI=>?_) (fun bI=>?_))))))
 ·have h0:¬p.err=0:=by simpa using bI
  refine ak 1 aa (ax ?_)
  exact⟨_,PS.bi p++[(1001,.one e1 b1 [.d x,.d y])],rfl,di rfl rfl ⟨rfl,trivial⟩,by unfold PS.take;rw[aj h0];rfl,by simp[PS.take,PS.called,h0]⟩
 have h0:p.err=0:=by simpa using bI
 refine aT (ai (ae 1 aa (bh (tok F hp.ok) aa aa aa aa aa (ae 2 aa (af ?_)))))
 refine aM (ai (ae 3 aa (al (iu aa aa ?_))))
 refine af (aJ aa (fun et=>?_) (fun et=>?_))
 ·have hk:¬p.tok.kind=k:=by simpa using et
  refine ai (ae 1 aa (bh (fail F hp.ok 5) aa aa aa aa aa (af (ak 1 aa (ax ?_)))))
  exact⟨_,PS.bi (p.fail 5)++[(1001,.one e1 b1 [.d x,.d y])],rfl,di rfl rfl ⟨rfl,trivial⟩,by unfold PS.take;rw[aq h0,aj hk];rfl,by simp[PS.take,PS.called,h0,hk]⟩
 have hk:p.tok.kind=k:=by simpa using et
 have dR:=PS.lu hp.ok mz hk
 have fi:=hp.ok.dY
 refine aT (aM (ai (ae 3 aa (al (qI (bZ:=[dS p.tok.text,.vp 1001 0]) (Bi:=[(1001,.one e1 b1 [.d x,.d y])]) [(1001,1001)] 2000 aa aa aa aa aa aa aa aa aa ⟨aa,aa,trivial⟩ (hC h0 hk) (fun r Bn fG=>?_))))))
 obtain⟨rfl,rfl⟩:=fG
 refine ew (PS.bi p++[(1001,.one e1 b1 [.d x2,.d y2]),(7,.one 91 32 (p.tok.enc.map .d))]) (di aa aa ⟨aa,aa,trivial⟩) (ae 1 aa (af ?_))
 refine ak 2 aa (aJ aa (fun dn=>?_) (fun dn=>?_))
 ·have he:¬e=0:=by simpa using dn
  refine ai (ae 2 aa (bh (fail F hp.ok e) aa aa aa aa aa (af (ak 1 aa (ax ?_)))))
  exact⟨_,PS.bi (p.fail e)++[(1001,.one e1 b1 [.d x2,.d y2])],rfl,di rfl rfl ⟨rfl,trivial⟩,by unfold PS.take;rw[aq h0,aq hk,aj he];rfl,by simp[PS.take,PS.called,h0,hk,he]⟩
 have he:e=0:=by simpa using dn
 refine aT (ai (ae 4 aa ?_))
 refine al (cV rfl rfl (by omega) ?_)
 refine ae 3 aa (af ?_)
 refine ak 3 aa (ax ?_)
 exact⟨_,PS.bi p.step++[(1001,.one e1 b1 [.d x2,.d y2])],rfl,di rfl rfl ⟨rfl,trivial⟩,by unfold PS.take;rw[aq h0,aq hk,aq he];rfl,by simp[PS.take,PS.called,h0,hk,he]⟩
set_option maxHeartbeats 1000000 in
theorem V5{T:bf}(F:FT T){p:PS}(hp:St p){k e:Int}(mz:k≠6){g:Nat}{e1 b1 e2 b2:Nat}{x y y2:DC}(hC:p.err=0→p.tok.kind=k→bV T g ([dS p.tok.text]++[.vp 1001 0,.vp 1002 0]) [(1001,.one e1 b1 [.d x]),(1002,.one e2 b2 [.d y])] fun r Bn=>r=dI e∧Bn=[(1001,.one e1 b1 [.d x]),(1002,.one e2 b2 [.d y2])]):bV T 152 [.vp 1000 0,dI k,.fn g [.vp 1001 0,.vp 1002 0]] (PS.bi p++[(1001,.one e1 b1 [.d x]),(1002,.one e2 b2 [.d y])]) fun r Bn=>r=dS (p.take k e).1∧Bn=PS.bi (p.take k e).2++[(1001,.one e1 b1 [.d x]),(1002,.one e2 b2 [.d (if p.called k=true then y2 else y)])]:=by
 refine cl F.uN aa (ey (PS.bi p++[(1001,.one e1 b1 [.d x]),(1002,.one e2 b2 [.d y])]) (di aa aa ⟨aa,aa,trivial⟩) (ak 1 aa (aM (ak 5 aa (aJ aa (fun bI=>?_) (fun bI=>?_))))))
 ·have h0:¬p.err=0:=by simpa using bI
  refine ak 1 aa (ax ?_)
  exact⟨_,PS.bi p++[(1001,.one e1 b1 [.d x]),(1002,.one e2 b2 [.d y])],rfl,di rfl rfl ⟨rfl,rfl,trivial⟩,by unfold PS.take;rw[aj h0];rfl,by simp[PS.take,PS.called,h0]⟩
 have h0:p.err=0:=by simpa using bI
 refine aT (ai (ae 1 aa (bh (tok F hp.ok) aa aa aa aa aa (ae 2 aa (af ?_)))))
 refine aM (ai (ae 3 aa (al (iu aa aa ?_))))
 refine af (aJ aa (fun et=>?_) (fun et=>?_))
 ·have hk:¬p.tok.kind=k:=by simpa using et
  refine ai (ae 1 aa (bh (fail F hp.ok 5) aa aa aa aa aa (af (ak 1 aa (ax ?_)))))
  exact⟨_,PS.bi (p.fail 5)++[(1001,.one e1 b1 [.d x]),(1002,.one e2 b2 [.d y])],rfl,di rfl rfl ⟨rfl,rfl,trivial⟩,by unfold PS.take;rw[aq h0,aj hk];rfl,by simp[PS.take,PS.called,h0,hk]⟩
 have hk:p.tok.kind=k:=by simpa using et
 have dR:=PS.lu hp.ok mz hk
 have fi:=hp.ok.dY
 refine aT (aM (ai (ae 3 aa (al (qI (bZ:=[dS p.tok.text,.vp 1001 0,.vp 1002 0]) (Bi:=[(1001,.one e1 b1 [.d x]),(1002,.one e2 b2 [.d y])]) [(1001,1001),(1002,1002)] 2000 aa aa aa aa aa aa aa aa aa ⟨aa,aa,aa,aa,trivial⟩ (hC h0 hk) (fun r Bn fG=>?_))))))
 obtain⟨rfl,rfl⟩:=fG
 refine ew (PS.bi p++[(1001,.one e1 b1 [.d x]),(1002,.one e2 b2 [.d y2]),(7,.one 91 32 (p.tok.enc.map .d))]) (di aa aa ⟨aa,aa,aa,trivial⟩) (ae 1 aa (af ?_))
 refine ak 2 aa (aJ aa (fun dn=>?_) (fun dn=>?_))
 ·have he:¬e=0:=by simpa using dn
  refine ai (ae 2 aa (bh (fail F hp.ok e) aa aa aa aa aa (af (ak 1 aa (ax ?_)))))
  exact⟨_,PS.bi (p.fail e)++[(1001,.one e1 b1 [.d x]),(1002,.one e2 b2 [.d y2])],rfl,di rfl rfl ⟨rfl,rfl,trivial⟩,by unfold PS.take;rw[aq h0,aq hk,aj he];rfl,by simp[PS.take,PS.called,h0,hk,he]⟩
 have he:e=0:=by simpa using dn
 refine aT (ai (ae 4 aa ?_))
 refine al (cV rfl rfl (by omega) ?_)
 refine ae 3 aa (af ?_)
 refine ak 3 aa (ax ?_)
 exact⟨_,PS.bi p.step++[(1001,.one e1 b1 [.d x]),(1002,.one e2 b2 [.d y2])],rfl,di rfl rfl ⟨rfl,rfl,trivial⟩,by unfold PS.take;rw[aq h0,aq hk,aq he];rfl,by simp[PS.take,PS.called,h0,hk,he]⟩
set_option maxHeartbeats 1000000 in
theorem V6{T:bf}(F:FT T){p:PS}(hp:St p){k e:Int}(mz:k≠6){g:Nat}{e1 b1 e2 b2:Nat}{x y z u y2 A u2:DC}(hC:p.err=0→p.tok.kind=k→bV T g ([dS p.tok.text]++[.vp 1001 0,.vp 1002 0]) [(1001,.one e1 b1 [.d x]),(1002,.one e2 b2 [.d y,.d z,.d u])] fun r Bn=>r=dI e∧Bn=[(1001,.one e1 b1 [.d x]),(1002,.one e2 b2 [.d y2,.d A,.d u2])]):bV T 152 [.vp 1000 0,dI k,.fn g [.vp 1001 0,.vp 1002 0]] (PS.bi p++[(1001,.one e1 b1 [.d x]),(1002,.one e2 b2 [.d y,.d z,.d u])]) fun r Bn=>r=dS (p.take k e).1∧Bn=PS.bi (p.take k e).2++[(1001,.one e1 b1 [.d x]),(1002,.one e2 b2 [.d (if p.called k=true then y2 else y),.d (if p.called k=true then A else z),.d (if p.called k=true then u2 else u)])]:=by
 refine cl F.uN aa (ey (PS.bi p++[(1001,.one e1 b1 [.d x]),(1002,.one e2 b2 [.d y,.d z,.d u])]) (di aa aa ⟨aa,aa,trivial⟩) (ak 1 aa (aM (ak 5 aa (aJ aa (fun bI=>?_) (fun bI=>?_))))))
 ·have h0:¬p.err=0:=by simpa using bI
  refine ak 1 aa (ax ?_)
  exact⟨_,PS.bi p++[(1001,.one e1 b1 [.d x]),(1002,.one e2 b2 [.d y,.d z,.d u])],rfl,di rfl rfl ⟨rfl,rfl,trivial⟩,by unfold PS.take;rw[aj h0];rfl,by simp[PS.take,PS.called,h0]⟩
 have h0:p.err=0:=by simpa using bI
 refine aT (ai (ae 1 aa (bh (tok F hp.ok) aa aa aa aa aa (ae 2 aa (af ?_)))))
 refine aM (ai (ae 3 aa (al (iu aa aa ?_))))
 refine af (aJ aa (fun et=>?_) (fun et=>?_))
 ·have hk:¬p.tok.kind=k:=by simpa using et
  refine ai (ae 1 aa (bh (fail F hp.ok 5) aa aa aa aa aa (af (ak 1 aa (ax ?_)))))
  exact⟨_,PS.bi (p.fail 5)++[(1001,.one e1 b1 [.d x]),(1002,.one e2 b2 [.d y,.d z,.d u])],rfl,di rfl rfl ⟨rfl,rfl,trivial⟩,by unfold PS.take;rw[aq h0,aj hk];rfl,by simp[PS.take,PS.called,h0,hk]⟩
 have hk:p.tok.kind=k:=by simpa using et
 have dR:=PS.lu hp.ok mz hk
 have fi:=hp.ok.dY
 refine aT (aM (ai (ae 3 aa (al (qI (bZ:=[dS p.tok.text,.vp 1001 0,.vp 1002 0]) (Bi:=[(1001,.one e1 b1 [.d x]),(1002,.one e2 b2 [.d y,.d z,.d u])]) [(1001,1001),(1002,1002)] 2000 aa aa aa aa aa aa aa aa aa ⟨aa,aa,aa,aa,trivial⟩ (hC h0 hk) (fun r Bn fG=>?_))))))
 obtain⟨rfl,rfl⟩:=fG
 refine ew (PS.bi p++[(1001,.one e1 b1 [.d x]),(1002,.one e2 b2 [.d y2,.d A,.d u2]),(7,.one 91 32 (p.tok.enc.map .d))]) (di aa aa ⟨aa,aa,aa,trivial⟩) (ae 1 aa (af ?_))
 refine ak 2 aa (aJ aa (fun dn=>?_) (fun dn=>?_))
 ·have he:¬e=0:=by simpa using dn
  refine ai (ae 2 aa (bh (fail F hp.ok e) aa aa aa aa aa (af (ak 1 aa (ax ?_)))))
  exact⟨_,PS.bi (p.fail e)++[(1001,.one e1 b1 [.d x]),(1002,.one e2 b2 [.d y2,.d A,.d u2])],rfl,di rfl rfl ⟨rfl,rfl,trivial⟩,by unfold PS.take;rw[aq h0,aq hk,aj he];rfl,by simp[PS.take,PS.called,h0,hk,he]⟩
 have he:e=0:=by simpa using dn
 refine aT (ai (ae 4 aa ?_))
 refine al (cV rfl rfl (by omega) ?_)
 refine ae 3 aa (af ?_)
 refine ak 3 aa (ax ?_)
 exact⟨_,PS.bi p.step++[(1001,.one e1 b1 [.d x]),(1002,.one e2 b2 [.d y2,.d A,.d u2])],rfl,di rfl rfl ⟨rfl,rfl,trivial⟩,by unfold PS.take;rw[aq h0,aq hk,aq he];rfl,by simp[PS.take,PS.called,h0,hk,he]⟩
open Go
set_option maxRecDepth 10000
theorem V7{T:bf}(F:FT T)(s:List UInt8):bV T 180 ([dS s]++[]) [] fun r Bn=>r=d0∧Bn=[]:=by
 exact cl F.Zj aa (ak 1 aa (ak 1 aa (ax (⟨_,[],aa,trivial,aa,aa⟩))))
theorem name{T:bf}(F:FT T){p:PS}(hp:St p):bV T 141 [.vp 1000 0] (PS.bi p) fun r Bn=>r=dS p.name.1∧Bn=PS.bi p.name.2:=by
 refine cl F.YW aa (ak 1 aa (ai (ae 1 aa ?_)))
 refine al (jI (bZ:=[.vp 1000 0,dI 2,.fn 180 []]) (Bi:=PS.bi p++[]) [(1000,1000),(1050,1050)] 2000 rfl rfl rfl rfl rfl rfl rfl (vX rfl rfl rfl rfl trivial) (xX F hp (by decide) (fun _ _=>V7 F _)) (fun r Bn fG=>?_))
 obtain⟨rfl,rfl⟩:=fG
 refine ew (PS.bi (p.take 2 0).2++[]) (di aa aa trivial) (ae 1 aa (af ?_))
 exact ax (⟨_,PS.bi (p.take 2 0).2,aa,cH aa aa,aa,aa⟩)
theorem LQ{T:bf}(F:FT T){D:Rd}(O:g7 T D){s:List UInt8}(K:nA s)(least:Int):bV T 153 ([dS s]++[.vp 1001 0,.vp 1002 0]) [(1001,.one 3 8 [dI least]),(1002,.one 3 8 [d0])] fun r Bn=>r=dI (mg least s)∧Bn=[(1001,.one 3 8 [dI least]),(1002,.one 3 8 [dI (if mg least s=0 then(dV s:Nat) else 0)])]:=by
 refine cl F.Y6 aa ?_
 have U:=BU K
 refine ak 1 aa (ai (ae 1 aa ?_))
 refine al (qe (args:=[dS s,dI 10,dI 64]) rfl (by repeat(first|exact trivial|apply And.intro)) (O.uint s K) (fun r Z Y=>?_))
 subst Y
 refine ae 5 aa (af ?_)
 refine aM (ai (ae 3 aa (ao aa aa (bM aa ?_))))
 refine ao aa aa (zT aa aa ?_)
 refine ae 2 aa (cX (g:=bj) aa (fun z=>?_) (fun z=>?_))
 ·have J:¬(dV s:Int)<1099511627776:=by simp at z;omega
  have I:mg least s=10:=aj (fun h=>J h.1)
  refine d6 aa (z) (d6 aa (z) (d6 aa (z) (d6 aa (z) (al (cS aa (z) aa ?_)))))
  refine af (e7 aa aa (ak 1 aa (ax ?_)))
  rw[I]
  exact⟨_,[(1001,.one 3 8 [dI least]),(1002,.one 3 8 [d0])],aa,⟨aa,aa,trivial⟩,aa,aa⟩
 have dR:(dV s:Int)<1099511627776:=by simp at z;omega
 refine ao aa (z) (bM aa ?_)
 refine ao aa (z) (Cj aa ?_)
 rw[wrap_i64 (by omega) (by omega)]
 refine ao aa (z) (cW aa aa aa ?_)
 refine ao aa (z) (pH aa aa ?_)
 refine al (cI aa (z) aa ?_)
 refine af (aJ aa (fun A=>?_) (fun A=>?_))
 ·have I:mg least s=10:=aj (fun h=>by have G:=A;simp at G;omega)
  refine ak 1 aa (ax ?_)
  rw[I]
  exact⟨_,[(1001,.one 3 8 [dI least]),(1002,.one 3 8 [d0])],aa,⟨aa,aa,trivial⟩,aa,aa⟩
 have I:mg least s=0:=aq ⟨dR,by have G:=A;simp at G;omega⟩
 refine aT (ai (ae 2 aa ?_))
 rw[wrap_i64 (by omega) (by omega)]
 refine ae 1 aa (af ?_)
 refine ak 1 aa (ax ?_)
 rw[I]
 exact⟨_,[(1001,.one 3 8 [dI least]),(1002,.one 3 8 [dI (dV s:Nat)])],aa,⟨aa,aa,trivial⟩,aa,aa⟩
theorem number{T:bf}(F:FT T){D:Rd}(z:g7 T D){p:PS}(hp:St p)(least:Int):bV T 99 [.vp 1000 0,dI least] (PS.bi p) fun r Bn=>r=dI (p.number least).1∧Bn=PS.bi (p.number least).2:=by
 refine cl F.PA aa (ak 2 aa (ak 2 aa (ai (ae 2 aa ?_))))
 refine al (jI (bZ:=[.vp 1000 0,dI 3,.fn 153 [.vp 1001 0,.vp 1002 0]]) (Bi:=PS.bi p++[(1001,.one 3 8 [dI least]),(1002,.one 3 8 [d0])]) [(1000,1000),(1050,1050),(1001,3),(1002,5)] 2000 rfl rfl rfl rfl rfl rfl rfl (vX rfl rfl rfl rfl ⟨rfl,rfl,rfl,rfl,trivial⟩) (V5 F hp (by decide) (fun _ hk=>LQ F z (hp.ni.1 _ hp.ok.mem hk) least)) (fun r Bn fG=>?_))
 obtain⟨rfl,rfl⟩:=fG
 refine ew (PS.bi (p.take 3 (mg least p.tok.text)).2++[(5,.one 3 8 [.d (if p.called 3=true then .i .i64 (if mg least p.tok.text=0 then(dV p.tok.text:Nat) else 0) else .i .i64 0)])]) (di aa aa ⟨aa,trivial⟩) (af (ak 2 aa (ax (⟨_,PS.bi (p.number least).2,aa,cH aa aa,?_,aa⟩))))
 unfold PS.number
 by_cases A:p.called 3=true<;>by_cases h2:mg least p.tok.text=0<;>simp[gx,A,h2]
open Go
set_option maxRecDepth 10000
theorem OQ{T:bf}(F:FT T){D:Rd}(z:g7 T D){s:List UInt8}(G:s.length≤200):bV T 186 ([dS s]++[.vp 1001 0]) [(1001,.one 3 8 [d0])] fun r Bn=>r=dI (D.jN s)∧Bn=[(1001,.one 3 8 [dI (D.day s).1])]:=by
 refine cl F.Zp aa (ak 1 aa (ai (ae 1 aa ?_)))
 refine al (qe (args:=[dS s]) rfl (by repeat(first|exact trivial|apply And.intro)) (z.day s G) (fun r J I=>?_))
 subst I
 refine ae 5 aa (af ?_)
 refine aM (ai (ae 3 aa (cX (g:=aV) aa (fun bI=>?_) (fun bI=>?_))))
 ·refine ao aa (bI) (bM aa ?_)
  refine ao aa (bI) (zT aa aa ?_)
  refine al (cS aa (bI) aa ?_)
  refine af (aJ aa (fun A=>?_) (fun A=>?_))
  ·refine bG (ae 1 aa (af ?_))
   refine ak 2 aa (ak 2 aa (ax (⟨_,[(1001,.one 3 8 [dI (D.day s).1])],aa,⟨aa,trivial⟩,?_,aa⟩)))
   clear F z
   unfold Rd.jN
   simp_all [gx]
  refine aT (ak 2 aa (ak 2 aa (ax (⟨_,[(1001,.one 3 8 [dI (D.day s).1])],aa,⟨aa,trivial⟩,?_,aa⟩))))
  clear F z
  unfold Rd.jN
  simp_all [gx]
 refine d6 aa (bI) (d6 aa (bI) (al (cI aa (bI) aa ?_)))
 refine af (eI aa aa (aT (ak 2 aa (ak 2 aa (ax (⟨_,[(1001,.one 3 8 [dI (D.day s).1])],aa,⟨aa,trivial⟩,?_,aa⟩))))))
 clear F z
 unfold Rd.jN
 simp_all [gx]
theorem day{T:bf}(F:FT T){D:Rd}(z:g7 T D){p:PS}(hp:St p):bV T 150 [.vp 1000 0] (PS.bi p) fun r Bn=>r=dI (p.day D).1∧Bn=PS.bi (p.day D).2:=by
 refine cl F.OO aa (ak 1 aa (ak 2 aa (ai (ae 2 aa ?_))))
 refine al (jI (bZ:=[.vp 1000 0,dI 4,.fn 186 [.vp 1001 0]]) (Bi:=PS.bi p++[(1001,.one 3 8 [d0])]) [(1000,1000),(1050,1050),(1001,3)] 2000 rfl rfl rfl rfl rfl rfl rfl (vX rfl rfl rfl rfl ⟨rfl,rfl,trivial⟩) (V3 F hp (by decide) (fun _ _=>OQ F z (hp.ni.2 _ hp.ok.mem))) (fun r Bn fG=>?_))
 obtain⟨rfl,rfl⟩:=fG
 refine ew (PS.bi (p.take 4 (D.jN p.tok.text)).2++[(3,.one 3 8 [.d (if p.called 4=true then .i .i64 (D.day p.tok.text).1 else .i .i64 0)])]) (di aa aa ⟨aa,trivial⟩) (af (ak 2 aa (ax (⟨_,PS.bi (p.day D).2,aa,cH aa aa,?_,aa⟩))))
 unfold PS.day
 by_cases A:p.called 4=true<;>simp[gx,A]<;>rfl
theorem TX{T:bf}(F:FT T){D:Rd}(z:g7 T D){s:List UInt8}(A:s.length≤200):bV T 183 ([dS s]++[.vp 1001 0]) [(1001,.one 30 16 [d0,d0])] fun r Bn=>r=dI (D.im s).2∧Bn=[(1001,.one 30 16 [dI (D.im s).1.1,dI (D.im s).1.2])]:=by
 refine cl F.Zm aa (ak 1 aa (ai (ae 1 aa ?_)))
 refine al (qe (args:=[dS s]) rfl (by repeat(first|exact trivial|apply And.intro)) (z.im s A) (fun r I G=>?_))
 subst G
 refine ae 6 aa (af ?_)
 exact ak 2 aa (ak 2 aa (ax (⟨_,[(1001,.one 30 16 [dI (D.im s).1.1,dI (D.im s).1.2])],aa,⟨aa,trivial⟩,aa,aa⟩)))
theorem period{T:bf}(F:FT T){D:Rd}(z:g7 T D){p:PS}(hp:St p):bV T 145 [.vp 1000 0] (PS.bi p) fun r Bn=>r= .agg [dI (p.period D).1.1,dI (p.period D).1.2]∧Bn=PS.bi (p.period D).2:=by
 refine cl F.Y0 aa (ak 1 aa (ak 1 aa (ai (ae 2 aa ?_))))
 refine al (jI (bZ:=[.vp 1000 0,dI 4,.fn 183 [.vp 1001 0]]) (Bi:=PS.bi p++[(1001,.one 30 16 [d0,d0])]) [(1000,1000),(1050,1050),(1001,3)] 2000 rfl rfl rfl rfl rfl rfl rfl (vX rfl rfl rfl rfl ⟨rfl,rfl,trivial⟩) (V4 F hp (by decide) (fun _ _=>TX F z (hp.ni.2 _ hp.ok.mem))) (fun r Bn fG=>?_))
 obtain⟨rfl,rfl⟩:=fG
 refine ew (PS.bi (p.take 4 (D.im p.tok.text).2).2++[(3,.one 30 16 [.d (if p.called 4=true then .i .i64 (D.im p.tok.text).1.1 else .i .i64 0),.d (if p.called 4=true then .i .i64 (D.im p.tok.text).1.2 else .i .i64 0)]),(2,.one 30 16 [d0,d0])]) (di aa aa ⟨aa,aa,trivial⟩) (af (ak 2 aa (ax (⟨_,PS.bi (p.period D).2,aa,cH aa aa,?_,aa⟩))))
 unfold PS.period
 by_cases A:p.called 4=true<;>simp[gx,A]<;>rfl
theorem SU{T:bf}(F:FT T){D:Rd}(K:g7 T D){s:List UInt8}(G:nA s)(neg:Bool):bV T 209 ([dS s]++[.vp 1001 0,.vp 1002 0]) [(1001,.one 4 1 [dB neg]),(1002,.one 73 32 [dI 1,d0,.d (.s 0 0)])] fun r Bn=>r=dI (D.qh neg s)∧Bn=[(1001,.one 4 1 [dB neg]),(1002,.one 73 32 [dI 1,dI ((D.int neg s).getD 0),.d (.s 0 0)])]:=by
 refine cl F.ZB aa (ak 1 aa (aM (ak 1 aa (aJ aa (fun I=>?_) (fun I=>?_)))))
 ·subst I
  refine bG (ae 1 aa ?_)
  refine al (TP (a:=[45]) (b:=s) rfl rfl (by have:=G.2.1;simp only[dj,dJ];omega) ?_)
  refine ae 1 aa (af ?_)
  refine ai (ae 1 aa ?_)
  refine al (qe (args:=[dS (45::s),dI 10,dI 64]) rfl (by repeat(first|exact trivial|apply And.intro)) (K.sint true s G) (fun r O J=>?_))
  obtain⟨n,e,rfl,z⟩:=J
  rcases z with⟨m,A,rfl,rfl⟩|⟨A,rfl⟩
  ·refine ae 5 aa (af ?_)
   refine aM (ak 2 aa (eI aa aa (aT (ak 3 aa (ak 1 aa (ax ?_))))))
   unfold Rd.qh
   rw[A]
   exact⟨_,[(1001,.one 4 1 [dB _]),(1002,.one 73 32 [dI 1,dI _,.d (.s 0 0)])],aa,⟨aa,aa,trivial⟩,aa,aa⟩
  refine ae 5 aa (af ?_)
  refine aM (ak 2 aa (e7 aa aa (ak 1 aa (ax ?_))))
  unfold Rd.qh
  rw[A]
  exact⟨_,[(1001,.one 4 1 [dB _]),(1002,.one 73 32 [dI 1,dI _,.d (.s 0 0)])],aa,⟨aa,aa,trivial⟩,aa,aa⟩
 subst I
 refine aT (ai (ae 1 aa ?_))
 refine al (qe (args:=[dS s,dI 10,dI 64]) rfl (by repeat(first|exact trivial|apply And.intro)) (K.sint false s G) (fun r O J=>?_))
 obtain⟨n,e,rfl,z⟩:=J
 rcases z with⟨m,A,rfl,rfl⟩|⟨A,rfl⟩
 ·refine ae 5 aa (af ?_)
  refine aM (ak 2 aa (eI aa aa (aT (ak 3 aa (ak 1 aa (ax ?_))))))
  unfold Rd.qh
  rw[A]
  exact⟨_,[(1001,.one 4 1 [dB _]),(1002,.one 73 32 [dI 1,dI _,.d (.s 0 0)])],aa,⟨aa,aa,trivial⟩,aa,aa⟩
 refine ae 5 aa (af ?_)
 refine aM (ak 2 aa (e7 aa aa (ak 1 aa (ax ?_))))
 unfold Rd.qh
 rw[A]
 exact⟨_,[(1001,.one 4 1 [dB _]),(1002,.one 73 32 [dI 1,dI _,.d (.s 0 0)])],aa,⟨aa,aa,trivial⟩,aa,aa⟩
theorem integer{T:bf}(F:FT T){D:Rd}(A:g7 T D){p:PS}(hp:St p)(neg:Bool):bV T 182 [.vp 1000 0,dB neg] (PS.bi p) fun r Bn=>r=ep (p.integer D neg).1.enc∧Bn=PS.bi (p.integer D neg).2:=by
 refine cl F.Zl aa (ak 2 aa (ak 3 aa (ai (ae 2 aa ?_))))
 refine al (jI (bZ:=[.vp 1000 0,dI 3,.fn 209 [.vp 1001 0,.vp 1002 0]]) (Bi:=PS.bi p++[(1001,.one 4 1 [dB neg]),(1002,.one 73 32 [dI 1,d0,.d (.s 0 0)])]) [(1000,1000),(1050,1050),(1001,3),(1002,5)] 2000 rfl rfl rfl rfl rfl rfl rfl (vX rfl rfl rfl rfl ⟨rfl,rfl,rfl,rfl,trivial⟩) (V6 F hp (by decide) (fun _ hk=>SU F A (hp.ni.1 _ hp.ok.mem hk) neg)) (fun r Bn fG=>?_))
 obtain⟨rfl,rfl⟩:=fG
 refine ew (PS.bi (p.take 3 (D.qh neg p.tok.text)).2++[(5,.one 73 32 [dI 1,.d (if p.called 3=true then .i .i64 ((D.int neg p.tok.text).getD 0) else .i .i64 0),.d (.s 0 0)]),(4,.one 73 32 [d0,d0,.d (.s 0 0)])]) (di aa aa ⟨?_,aa,trivial⟩) ?_
 ·by_cases z:p.called 3=true<;>simp only[z]<;>rfl
 refine af (ak 2 aa (ax (⟨_,PS.bi (p.integer D neg).2,aa,cH aa aa,?_,aa⟩)))
 unfold PS.integer gX.enc cJ
 by_cases z:p.called 3=true<;>simp[gx,ep,z,pack]<;>rfl
theorem Qa{T:bf}(F:FT T){p:PS}(hp:p.ok):bV T 181 [.vp 1000 0] (PS.bi p) fun r Bn=>r=dB p.tok.kY∧Bn=PS.bi p:=by
 refine cl F.Zk aa (ak 1 aa (ai (ae 1 aa (bh (tok F hp) aa aa aa aa aa (ae 2 aa (af ?_))))))
 refine aM (ak 2 aa (bN (aM (ak 2 aa (aJ aa (fun G=>?_) (fun G=>?_))))))
 ·refine aT (e7 aa (G) (ak 1 aa (ax (⟨_,PS.bi p,aa,cH aa aa,?_,aa⟩))))
  clear F hp
  simp_all [gx,cL.kY]
 refine bG (ae 2 aa (af ?_))
 refine aJ aa (fun G=>?_) (fun G=>?_)
 ·refine ak 1 aa (ax (⟨_,PS.bi p,aa,cH aa aa,?_,aa⟩))
  clear F hp
  simp_all [gx,cL.kY]
 refine ak 2 aa (aJ aa (fun I=>?_) (fun I=>?_))
 ·refine ai (ae 2 aa (al (oj (b:=gM) aa aa ?_)))
  refine ae 1 aa (af ?_)
  refine ax (⟨_,PS.bi p,aa,cH aa aa,?_,aa⟩)
  clear F hp
  simp_all [gx,cL.kY]
 refine ak 2 aa (aJ aa (fun J=>?_) (fun J=>?_))
 ·refine ai (ae 2 aa (al (oj (b:=oZ) aa aa ?_)))
  refine ae 1 aa (cX (g:=bx) aa (fun z=>?_) (fun z=>?_))
  ·refine d6 aa (z) (d6 aa (z) (d6 aa (z) (al (cS aa (z) aa ?_))))
   refine ae 1 aa (d6 aa aa (d6 aa aa (d6 aa aa (ae 2 aa (af ?_)))))
   refine ax (⟨_,PS.bi p,aa,cH aa aa,?_,aa⟩)
   clear F hp
   simp_all [gx,cL.kY]
  refine ao aa (z) (dq aa ?_)
  refine ao aa (z) (cW aa aa aa ?_)
  refine ao aa (z) (oj (b:=oz) aa aa ?_)
  refine al (cI aa (z) aa ?_)
  refine ae 1 aa (cX (g:=bU) aa (fun A=>?_) (fun A=>?_))
  ·refine d6 aa (A) (d6 aa (A) (d6 aa (A) (al (cS aa (A) aa ?_))))
   refine ae 1 aa (af ?_)
   refine ax (⟨_,PS.bi p,aa,cH aa aa,?_,aa⟩)
   clear F hp
   simp_all [gx,cL.kY]
  refine ao aa (A) (dq aa ?_)
  refine ao aa (A) (cW aa aa aa ?_)
  refine ao aa (A) (oj (b:=k0) aa aa ?_)
  refine al (cI aa (A) aa ?_)
  refine ae 1 aa (af ?_)
  refine ax (⟨_,PS.bi p,aa,cH aa aa,?_,aa⟩)
  clear F hp
  simp_all [gx,cL.kY]
 refine aT (ak 1 aa (ax (⟨_,PS.bi p,aa,cH aa aa,?_,aa⟩)))
 clear F hp
 simp_all [gx,cL.kY]
open Go
set_option maxRecDepth 10000
set_option maxHeartbeats 2000000 in
theorem literal{T:bf}(F:FT T){D:Rd}(Lf:g7 T D){p:PS}(hp:St p):bV T 143 [.vp 1000 0] (PS.bi p) fun r Bn=>r=ep (p.literal D).1.enc∧Bn=PS.bi (p.literal D).2:=by
 refine cl F.YY aa (ak 1 aa (aM (bN (ak 6 aa (aJ aa (fun O=>?_) (fun O=>?_))))))
 ·have h0:¬p.err=0:=by simpa using O
  have A:p.literal D=(cj,p):=by unfold PS.literal;rw[aq h0]
  refine aT (ak 2 aa (ax ?_))
  rw[A]
  exact⟨_,PS.bi _,aa,cH aa aa,aa,aa⟩
 have h0:p.err=0:=by simpa using O
 refine ai (ae 1 aa (bh (Qa F hp.ok) aa aa aa aa aa (ae 2 aa (af ?_))))
 refine aJ aa (fun U=>?_) (fun U=>?_)
 ·have K:p.tok.kY=false:=by simpa using U
  have A:p.literal D=(cj,p.fail 5):=by unfold PS.literal;rw[aj (by simpa using h0),aq K]
  refine bG (ae 1 aa (bh (fail F hp.ok 5) aa aa aa aa aa (af (ak 2 aa (ax ?_)))))
  rw[A]
  exact⟨_,PS.bi _,aa,cH aa aa,aa,aa⟩
 have K:p.tok.kY=true:=by simpa using U
 refine ai (ae 1 aa (bh (sign F hp.ok gM) aa aa aa aa aa (ae 1 aa (af ?_))))
 refine aJ aa (fun z=>?_) (fun z=>?_)
 ·have A:p.literal D=(p.sign gM).2.integer D true:=by unfold PS.literal;rw[aj (by simpa using h0),aj (by rw[K];decide),aq z]
  refine ai (ae 1 aa (bh (integer F Lf (hp.sign gM) true) aa aa aa aa aa (ae 1 aa (af ?_))))
  refine ax ?_
  rw[A]
  exact⟨_,PS.bi _,aa,cH aa aa,aa,aa⟩
 rw[PS.ic z]
 refine ai (ae 1 aa (bh (tok F hp.ok) aa aa aa aa aa (ae 3 aa (af ?_))))
 refine aJ aa (fun Y=>?_) (fun Y=>?_)
 ·have Z:p.tok.kind=3:=by simpa using Y
  have A:p.literal D=p.integer D false:=by unfold PS.literal;rw[aj (by simpa using h0),aj (by rw[K];decide),aj (by rw[z];decide),aq Z]
  refine ai (ae 1 aa (bh (integer F Lf hp false) aa aa aa aa aa (ae 1 aa (af ?_))))
  refine ax ?_
  rw[A]
  exact⟨_,PS.bi _,aa,cH aa aa,aa,aa⟩
 have Z:¬p.tok.kind=3:=by simpa using Y
 refine ai (ae 1 aa (bh (keyword F hp.ok oZ) aa aa aa aa aa (ae 1 aa (af ?_))))
 refine aJ aa (fun G=>?_) (fun G=>?_)
 ·have A:p.literal D=(⟨3,1,[]⟩,(p.keyword oZ).2):=by unfold PS.literal;rw[aj (by simpa using h0),aj (by rw[K];decide),aj (by rw[z];decide),aj Z,aq G]
  refine ak 2 aa (ax ?_)
  rw[A]
  exact⟨_,PS.bi _,aa,cH aa aa,aa,aa⟩
 rw[PS.cK G]
 refine ai (ae 1 aa (bh (keyword F hp.ok oz) aa aa aa aa aa (ae 1 aa (af ?_))))
 refine aJ aa (fun I=>?_) (fun I=>?_)
 ·have A:p.literal D=(⟨3,0,[]⟩,(p.keyword oz).2):=by unfold PS.literal;rw[aj (by simpa using h0),aj (by rw[K];decide),aj (by rw[z];decide),aj Z,aj (by rw[G];decide),aq I]
  refine ak 2 aa (ax ?_)
  rw[A]
  exact⟨_,PS.bi _,aa,cH aa aa,aa,aa⟩
 rw[PS.cK I]
 refine ai (ae 1 aa (bh (keyword F hp.ok k0) aa aa aa aa aa (ae 1 aa (af ?_))))
 refine aJ aa (fun J=>?_) (fun J=>?_)
 ·have A:p.literal D=(cj,(p.keyword k0).2):=by unfold PS.literal;rw[aj (by simpa using h0),aj (by rw[K];decide),aj (by rw[z];decide),aj Z,aj (by rw[G];decide),aj (by rw[I];decide),aq J]
  refine ak 2 aa (ax ?_)
  rw[A]
  exact⟨_,PS.bi _,aa,cH aa aa,aa,aa⟩
 rw[PS.cK J]
 have h4:=PS.Fu h0 K z Z G I J
 have dR:=PS.lu hp.ok (k:=4) (by decide) h4
 have fi:=hp.ok.dY
 have A:p.literal D=(⟨2,0,p.tok.text⟩,p.step):=by unfold PS.literal;rw[aj (by simpa using h0),aj (by rw[K];decide),aj (by rw[z];decide),aj Z,aj (by rw[G];decide),aj (by rw[I];decide),aj (by rw[J];decide)]
 refine ai (ae 1 aa (bh (tok F hp.ok) aa aa aa aa aa (ae 2 aa (af ?_))))
 refine ai (ae 4 aa ?_)
 refine al (cV rfl rfl (by omega) ?_)
 refine ae 3 aa (af ?_)
 refine ak 3 aa (ax ?_)
 rw[A]
 exact⟨_,PS.bi p.step,aa,cH aa aa,aa,aa⟩
open Go
def CT(T:bf)(f:Nat)(m:PS→Int×PS)(n:Nat):Prop:=∀p,St p→p.depth+n=61→bV T f [.vp 1000 0] p.bi fun r Bn=>r=dI (m p).1∧Bn=PS.bi (m p).2
theorem rH{sub:PS→Int×PS}{test:PS→Option (Int×PS)}{a:Int}{p:PS}(h:test p=none):∀k,j8 sub test k a p=(a,p)
 |0=>rfl
 |k+1=>by unfold j8;rw[h]
theorem qa{sub:PS→Int×PS}{test:PS→Option (Int×PS)}{a kind:Int}{p q:PS}(h:test p=some (kind,q))(k:Nat):j8 sub test (k+1) a p=j8 sub test k ((sub q).2.push ⟨kind,a,(sub q).1,[],[],cj⟩).1 ((sub q).2.push ⟨kind,a,(sub q).1,[],[],cj⟩).2:=by
 show(match test p with|none=>(a,p)|some (kind,q)=>j8 sub test k ((sub q).2.push ⟨kind,a,(sub q).1,[],[],cj⟩).1 ((sub q).2.push ⟨kind,a,(sub q).1,[],[],cj⟩).2)=_
 rw[h]
open Go
set_option maxRecDepth 10000
theorem fU{T:bf}(F:FT T){p:PS}(hp:St p)(h0:p.err=0):bV T 192 [.vp 1000 0] (PS.bi p) fun r Bn=>r=dI p.fU.1∧Bn=PS.bi p.fU.2:=by
 refine cl F.Zt aa ?_
 have z:bC 1 p p.name.2:=bC.xX hp (by decide) h0
 refine ak 1 aa (ai (ae 1 aa (bh (name F hp) aa aa aa aa aa (ae 3 aa (af ?_)))))
 refine aM (ai (ae 1 aa (bh (sign F z.st.ok jh) aa aa aa aa aa (af (aJ aa (fun A=>?_) (fun A=>?_))))))
 ·have G:p.fU=((p.name.2.sign jh).2.name.2).push ⟨2,0,0,p.name.1,(p.name.2.sign jh).2.name.1,cj⟩:=by unfold PS.fU;rw[aq A]
  have I:=(z.st.sign jh).name.ok.small
  refine ak 4 aa (bG (ae 1 aa (bh (name F (z.st.sign jh)) aa aa aa aa aa (ae 2 aa (af ?_)))))
  refine ai (ae 2 aa (bh (bZ:=[.vp 1000 0,ep ((⟨2,0,0,p.name.1,(p.name.2.sign jh).2.name.1,cj⟩:aL)).enc]) (push F I _) aa aa aa aa aa (ae 1 aa (af ?_))))
  refine ax ?_
  rw[G]
  exact⟨_,PS.bi _,aa,cH aa aa,aa,aa⟩
 have G:p.fU=p.name.2.push ⟨2,0,0,[],p.name.1,cj⟩:=by unfold PS.fU;rw[aj (by rw[A];decide)]
 have I:=z.st.ok.small
 rw[PS.ic A]
 refine aT (ai (ae 2 aa (bh (bZ:=[.vp 1000 0,ep ((⟨2,0,0,[],p.name.1,cj⟩:aL)).enc]) (push F I _) aa aa aa aa aa (ae 1 aa (af ?_)))))
 refine ax ?_
 rw[G]
 exact⟨_,PS.bi _,aa,cH aa aa,aa,aa⟩
open Go
set_option maxRecDepth 10000
set_option maxHeartbeats 2000000 in
theorem product{T:bf}(F:FT T){D:Rd}{n:Nat}(hS:CT T 257 (eT D n) (n+1)):CT T 255 (chain (eT D n) lA) (n+1):=by
 intro p hp Z
 have K:=zg D hp Z
 refine cl F.ZZ aa (ak 1 aa (ai (ae 1 aa (bh (hS p hp Z) aa aa aa aa aa (ae 1 aa (af ?_))))))
 refine aM (bN ?_)
 refine d7 (fun k VE B=>∃(a:Int)(q:PS),j8 (eT D n) lA k a q=(chain (eT D n) lA p)∧q.ay.length≤k+q.aI∧St q∧q.depth=p.depth∧q.ay=p.ay∧bu [(0,.vp 1000 0),(3,dI a)] VE∧bu (PS.bi q) B) ?_ (k:=p.ay.length) ⟨(eT D n p).1,(eT D n p).2,rfl,by rw[K.ay];omega,K.st,K.depth,K.ay,⟨rfl,rfl,trivial⟩,cH rfl rfl⟩
 rintro k VE B⟨a,q,z,hk,O,G,gh,hV,hB⟩
 refine ey (PS.bi q++[]) hB ?_
 have hB:bu (PS.bi q++[]) (PS.bi q++[]):=di rfl rfl trivial
 refine dy _ _ hV hB (aM (ai (ae 1 aa (bh (sign F O.ok eM) aa aa aa aa aa (af (aJ aa (fun I=>?_) (fun I=>?_)))))))
 ·have U:lA q=some (5,(q.sign eM).2):=by unfold lA;rw[aq I]
  obtain⟨k,rfl⟩:∃k',k=k'+1:=⟨k-1,by have:=O.ok.lt;omega⟩
  rw[qa U] at z
  have h2:=BT q _ _ O U
  have J:(q.sign eM).2.depth+(n+1)=61:=by rw[h2.depth,G];exact Z
  have h3:=zg D h2.st J
  have hs:=h3.st.ok.small
  have Y:=bC.push O.ok (k:=0) ((h2.trans h3).dz (by omega)) (⟨5,a,(eT D n (q.sign eM).2).1,[],[],cj⟩:aL)
  have A:q.aI+1≤(q.sign eM).2.aI:=by rw[show(q.sign eM).2=q.step from(PS.pr I).1];exact bY _
  refine aT (bN (ai (ae 1 aa (bh (hS _ h2.st J) aa aa aa aa aa (ae 1 aa (af ?_))))))
  refine bG (ae 4 aa (bh (bZ:=[.vp 1000 0,ep ((⟨5,a,(eT D n (q.sign eM).2).1,[],[],cj⟩:aL)).enc]) (push F hs _) aa aa aa aa aa (ae 1 aa (af ?_))))
  exact⟨k,by omega,((eT D n (q.sign eM).2).2.push (⟨5,a,(eT D n (q.sign eM).2).1,[],[],cj⟩:aL)).1,((eT D n (q.sign eM).2).2.push (⟨5,a,(eT D n (q.sign eM).2).1,[],[],cj⟩:aL)).2,z,by rw[Y.ay];have:=h2.aI;have:=h3.aI;have h5:=h2.sl;show q.ay.length≤k+(eT D n (q.sign eM).2).2.aI;have h6:q.aI+1≤(q.sign eM).2.aI:=A;omega,Y.st,Y.depth.trans G,Y.ay.trans gh,⟨rfl,rfl,trivial⟩,cH rfl rfl⟩
 have U:lA q=none:=by unfold lA;rw[aj (by rw[I];decide)]
 rw[rH U] at z
 rw[PS.ic I]
 refine dM (ak 2 aa (ax ?_))
 rw[←z]
 exact⟨_,PS.bi q,aa,cH aa aa,aa,aa⟩
set_option maxHeartbeats 2000000 in
theorem conjunction{T:bf}(F:FT T){D:Rd}{n:Nat}(hS:CT T 241 (eB D (n+1)) (n+1)):CT T 214 (chain (eB D (n+1)) l5) (n+1):=by
 intro p hp Z
 have K:=(pA D (n+1)).2 p hp Z
 refine cl F.ZF aa (ak 1 aa (ai (ae 1 aa (bh (hS p hp Z) aa aa aa aa aa (ae 1 aa (af ?_))))))
 refine aM (bN ?_)
 refine d7 (fun k VE B=>∃(a:Int)(q:PS),j8 (eB D (n+1)) l5 k a q=(chain (eB D (n+1)) l5 p)∧q.ay.length≤k+q.aI∧St q∧q.depth=p.depth∧q.ay=p.ay∧bu [(0,.vp 1000 0),(3,dI a)] VE∧bu (PS.bi q) B) ?_ (k:=p.ay.length) ⟨(eB D (n+1) p).1,(eB D (n+1) p).2,rfl,by rw[K.ay];omega,K.st,K.depth,K.ay,⟨rfl,rfl,trivial⟩,cH rfl rfl⟩
 rintro k VE B⟨a,q,z,hk,O,G,gh,hV,hB⟩
 refine ey (PS.bi q++[]) hB ?_
 have hB:bu (PS.bi q++[]) (PS.bi q++[]):=di rfl rfl trivial
 refine dy _ _ hV hB (aM (ai (ae 1 aa (bh (keyword F O.ok l4) aa aa aa aa aa (af (aJ aa (fun I=>?_) (fun I=>?_)))))))
 ·have U:l5 q=some (9,(q.keyword l4).2):=by unfold l5;rw[aq I]
  obtain⟨k,rfl⟩:∃k',k=k'+1:=⟨k-1,by have:=O.ok.lt;omega⟩
  rw[qa U] at z
  have h2:=B3 q _ _ O U
  have J:(q.keyword l4).2.depth+(n+1)=61:=by rw[h2.depth,G];exact Z
  have h3:=(fun a b=>(pA D (n+1)).2 _ a b) h2.st J
  have hs:=h3.st.ok.small
  have Y:=bC.push O.ok (k:=0) ((h2.trans h3).dz (by omega)) (⟨9,a,(eB D (n+1) (q.keyword l4).2).1,[],[],cj⟩:aL)
  have A:q.aI+1≤(q.keyword l4).2.aI:=by rw[show(q.keyword l4).2=q.step from(PS.pr I).1];exact bY _
  refine aT (bN (ai (ae 1 aa (bh (hS _ h2.st J) aa aa aa aa aa (ae 1 aa (af ?_))))))
  refine bG (ae 4 aa (bh (bZ:=[.vp 1000 0,ep ((⟨9,a,(eB D (n+1) (q.keyword l4).2).1,[],[],cj⟩:aL)).enc]) (push F hs _) aa aa aa aa aa (ae 1 aa (af ?_))))
  exact⟨k,by omega,((eB D (n+1) (q.keyword l4).2).2.push (⟨9,a,(eB D (n+1) (q.keyword l4).2).1,[],[],cj⟩:aL)).1,((eB D (n+1) (q.keyword l4).2).2.push (⟨9,a,(eB D (n+1) (q.keyword l4).2).1,[],[],cj⟩:aL)).2,z,by rw[Y.ay];have:=h2.aI;have:=h3.aI;have h5:=h2.sl;show q.ay.length≤k+(eB D (n+1) (q.keyword l4).2).2.aI;have h6:q.aI+1≤(q.keyword l4).2.aI:=A;omega,Y.st,Y.depth.trans G,Y.ay.trans gh,⟨rfl,rfl,trivial⟩,cH rfl rfl⟩
 have U:l5 q=none:=by unfold l5;rw[aj (by rw[I];decide)]
 rw[rH U] at z
 rw[PS.cK I]
 refine dM (ak 2 aa (ax ?_))
 rw[←z]
 exact⟨_,PS.bi q,aa,cH aa aa,aa,aa⟩
set_option maxHeartbeats 2000000 in
theorem expr{T:bf}(F:FT T){D:Rd}{n:Nat}(hS:CT T 214 (ja D n) (n+1)):CT T 185 (chain (ja D n) my) (n+1):=by
 intro p hp Z
 have K:=Cp D hp Z
 refine cl F.Zo aa (ak 1 aa (ai (ae 1 aa (bh (hS p hp Z) aa aa aa aa aa (ae 1 aa (af ?_))))))
 refine aM (bN ?_)
 refine d7 (fun k VE B=>∃(a:Int)(q:PS),j8 (ja D n) my k a q=(chain (ja D n) my p)∧q.ay.length≤k+q.aI∧St q∧q.depth=p.depth∧q.ay=p.ay∧bu [(0,.vp 1000 0),(3,dI a)] VE∧bu (PS.bi q) B) ?_ (k:=p.ay.length) ⟨(ja D n p).1,(ja D n p).2,rfl,by rw[K.ay];omega,K.st,K.depth,K.ay,⟨rfl,rfl,trivial⟩,cH rfl rfl⟩
 rintro k VE B⟨a,q,z,hk,O,G,gh,hV,hB⟩
 refine ey (PS.bi q++[]) hB ?_
 have hB:bu (PS.bi q++[]) (PS.bi q++[]):=di rfl rfl trivial
 refine dy _ _ hV hB (aM (ai (ae 1 aa (bh (keyword F O.ok l9) aa aa aa aa aa (af (aJ aa (fun I=>?_) (fun I=>?_)))))))
 ·have U:my q=some (10,(q.keyword l9).2):=by unfold my;rw[aq I]
  obtain⟨k,rfl⟩:∃k',k=k'+1:=⟨k-1,by have:=O.ok.lt;omega⟩
  rw[qa U] at z
  have h2:=Gu q _ _ O U
  have J:(q.keyword l9).2.depth+(n+1)=61:=by rw[h2.depth,G];exact Z
  have h3:=Cp D h2.st J
  have hs:=h3.st.ok.small
  have Y:=bC.push O.ok (k:=0) ((h2.trans h3).dz (by omega)) (⟨10,a,(ja D n (q.keyword l9).2).1,[],[],cj⟩:aL)
  have A:q.aI+1≤(q.keyword l9).2.aI:=by rw[show(q.keyword l9).2=q.step from(PS.pr I).1];exact bY _
  refine aT (bN (ai (ae 1 aa (bh (hS _ h2.st J) aa aa aa aa aa (ae 1 aa (af ?_))))))
  refine bG (ae 4 aa (bh (bZ:=[.vp 1000 0,ep ((⟨10,a,(ja D n (q.keyword l9).2).1,[],[],cj⟩:aL)).enc]) (push F hs _) aa aa aa aa aa (ae 1 aa (af ?_))))
  exact⟨k,by omega,((ja D n (q.keyword l9).2).2.push (⟨10,a,(ja D n (q.keyword l9).2).1,[],[],cj⟩:aL)).1,((ja D n (q.keyword l9).2).2.push (⟨10,a,(ja D n (q.keyword l9).2).1,[],[],cj⟩:aL)).2,z,by rw[Y.ay];have:=h2.aI;have:=h3.aI;have h5:=h2.sl;show q.ay.length≤k+(ja D n (q.keyword l9).2).2.aI;have h6:q.aI+1≤(q.keyword l9).2.aI:=A;omega,Y.st,Y.depth.trans G,Y.ay.trans gh,⟨rfl,rfl,trivial⟩,cH rfl rfl⟩
 have U:my q=none:=by unfold my;rw[aj (by rw[I];decide)]
 rw[rH U] at z
 rw[PS.cK I]
 refine dM (ak 2 aa (ax ?_))
 rw[←z]
 exact⟨_,PS.bi q,aa,cH aa aa,aa,aa⟩
open Go
set_option maxRecDepth 10000
set_option maxHeartbeats 2000000 in
theorem sum{T:bf}(F:FT T){D:Rd}{n:Nat}(hS:CT T 255 (eX D n) (n+1)):CT T 253 (chain (eX D n) km) (n+1):=by
 intro p hp hd
 have h1:=vz D hp hd
 refine cl F.ZX aa (ak 1 aa (ai (ae 1 aa (bh (hS p hp hd) aa aa aa aa aa (ae 1 aa (af ?_))))))
 refine bN ?_
 refine d7 (fun k VE B=>∃(a:Int)(q:PS),j8 (eX D n) km k a q=(chain (eX D n) km p)∧q.ay.length≤k+q.aI∧St q∧q.depth=p.depth∧q.ay=p.ay∧bu [(0,.vp 1000 0),(3,dI a)] VE∧bu (PS.bi q) B) ?_ (k:=p.ay.length) ⟨(eX D n p).1,(eX D n p).2,rfl,by rw[h1.ay];omega,h1.st,h1.depth,h1.ay,⟨rfl,rfl,trivial⟩,cH rfl rfl⟩
 rintro k VE B⟨a,q,z,hk,Y,K,gh,hV,hB⟩
 refine ey (PS.bi q++[]) hB ?_
 have hB:bu (PS.bi q++[]) (PS.bi q++[]):=di rfl rfl trivial
 refine dy _ _ hV hB (bN (ak 1 aa (aM (ai (ae 1 aa (bh (sign F Y.ok gM) aa aa aa aa aa (af (aJ aa (fun h9=>?_) (fun h9=>?_)))))))))
 ·have O:km q=some (4,(q.sign gM).2):=by unfold km;rw[aq h9]
  have G:q.aI+1≤(q.sign gM).2.aI:=by rw[show(q.sign gM).2=q.step from(PS.pr h9).1];exact bY _
  obtain⟨k,rfl⟩:∃k',k=k'+1:=⟨k-1,by have:=Y.ok.lt;omega⟩
  rw[qa O] at z
  have h2:=wW q _ _ Y O
  generalize (q.sign gM).2=A at O z h2 G⊢
  have I:A.depth+(n+1)=61:=by rw[h2.depth,K];exact hd
  have Z:=vz D h2.st I
  have hs:=Z.st.ok.small
  have U:=bC.push Y.ok (k:=0) ((h2.trans Z).dz (by omega)) (⟨4,a,(eX D n A).1,[],[],cj⟩:aL)
  refine bG (ae 1 aa (af ?_))
  refine ai (ae 1 aa (bh (hS _ h2.st I) aa aa aa aa aa (ae 1 aa (af ?_))))
  refine bG (ae 5 aa (bh (bZ:=[.vp 1000 0,ep (⟨4,a,(eX D n A).1,[],[],cj⟩:aL).enc]) (push F hs _) aa aa aa aa aa (ae 1 aa (af ?_))))
  exact⟨k,by omega,((eX D n A).2.push (⟨4,a,(eX D n A).1,[],[],cj⟩:aL)).1,((eX D n A).2.push (⟨4,a,(eX D n A).1,[],[],cj⟩:aL)).2,z,by rw[U.ay];have:=Z.aI;show q.ay.length≤k+(eX D n A).2.aI;omega,U.st,U.depth.trans K,U.ay.trans gh,⟨rfl,rfl,trivial⟩,cH rfl rfl⟩
 rw[PS.ic h9]
 refine ai (ae 1 aa (bh (sign F Y.ok nJ) aa aa aa aa aa (ae 1 aa (af ?_))))
 refine aJ aa (fun wE=>?_) (fun wE=>?_)
 ·have J:(q.sign nJ).1=false:=by simpa using wE
  have O:km q=none:=by unfold km;rw[aj (by rw[h9];decide),aj (by rw[J];decide)]
  rw[rH O] at z
  rw[PS.ic J]
  refine ak 2 aa (ax ?_)
  rw[←z]
  exact⟨_,PS.bi q,aa,cH aa aa,aa,aa⟩
 have J:(q.sign nJ).1=true:=by simpa using wE
 have O:km q=some (3,(q.sign nJ).2):=by unfold km;rw[aj (by rw[h9];decide),aq J]
 have G:q.aI+1≤(q.sign nJ).2.aI:=by rw[show(q.sign nJ).2=q.step from(PS.pr J).1];exact bY _
 obtain⟨k,rfl⟩:∃k',k=k'+1:=⟨k-1,by have:=Y.ok.lt;omega⟩
 rw[qa O] at z
 have h2:=wW q _ _ Y O
 generalize (q.sign nJ).2=A at O z h2 G⊢
 have I:A.depth+(n+1)=61:=by rw[h2.depth,K];exact hd
 have Z:=vz D h2.st I
 have hs:=Z.st.ok.small
 have U:=bC.push Y.ok (k:=0) ((h2.trans Z).dz (by omega)) (⟨3,a,(eX D n A).1,[],[],cj⟩:aL)
 refine aT (ai (ae 1 aa (bh (hS _ h2.st I) aa aa aa aa aa (ae 1 aa (af ?_)))))
 refine bG (ae 5 aa (bh (bZ:=[.vp 1000 0,ep (⟨3,a,(eX D n A).1,[],[],cj⟩:aL).enc]) (push F hs _) aa aa aa aa aa (ae 1 aa (af ?_))))
 exact⟨k,by omega,((eX D n A).2.push (⟨3,a,(eX D n A).1,[],[],cj⟩:aL)).1,((eX D n A).2.push (⟨3,a,(eX D n A).1,[],[],cj⟩:aL)).2,z,by rw[U.ay];have:=Z.aI;show q.ay.length≤k+(eX D n A).2.aI;omega,U.st,U.depth.trans K,U.ay.trans gh,⟨rfl,rfl,trivial⟩,cH rfl rfl⟩
set_option maxHeartbeats 2000000 in
theorem Rf{T:bf}(F:FT T){D:Rd}{n:Nat}(hS:CT T 253 (eh D n) (n+1)):CT T 250 (iC (eh D n)) (n+1):=by
 intro p hp hd
 have I:=ts D hp hd
 refine cl F.ZU aa (ak 1 aa (ai (ae 1 aa (bh (hS p hp hd) aa aa aa aa aa (ae 1 aa (af ?_))))))
 refine ak 1 aa (aM (bN (ai (ae 1 aa (bh (sign F I.st.ok mT) aa aa aa aa aa (ae 1 aa (af ?_)))))))
 refine aJ aa (fun O=>?_) (fun O=>?_)
 ·have J:iC (eh D n) p=rB (eh D n) 6 (eh D n p).1 ((eh D n p).2.sign mT).2:=by unfold iC;rw[aq O]
  have h2:=I.trans (bC.sign I.st O)
  generalize ((eh D n p).2.sign mT).2=U at J h2⊢
  have z:U.depth+(n+1)=61:=by rw[h2.depth];exact hd
  have Y:=ts D h2.st z
  have Z:=Y.st.ok.small
  refine bG (ae 1 aa (af ?_))
  refine ai (ae 1 aa (bh (hS _ h2.st z) aa aa aa aa aa (ae 1 aa (af ?_))))
  refine ai (ae 5 aa (bh (bZ:=[.vp 1000 0,ep (⟨6,(eh D n p).1,(eh D n U).1,[],[],cj⟩:aL).enc]) (push F Z _) aa aa aa aa aa (ae 1 aa (af ?_))))
  refine ax ?_
  rw[J]
  exact⟨_,PS.bi _,aa,cH aa aa,aa,aa⟩
 rw[PS.ic O]
 refine ai (ae 1 aa (bh (sign F I.st.ok uz) aa aa aa aa aa (ae 1 aa (af ?_))))
 refine aJ aa (fun A=>?_) (fun A=>?_)
 ·have J:iC (eh D n) p=rB (eh D n) 7 (eh D n p).1 ((eh D n p).2.sign uz).2:=by unfold iC;rw[aj (by rw[O];decide),aq A]
  have h2:=I.trans (bC.sign I.st A)
  generalize ((eh D n p).2.sign uz).2=U at J h2⊢
  have z:U.depth+(n+1)=61:=by rw[h2.depth];exact hd
  have Y:=ts D h2.st z
  have Z:=Y.st.ok.small
  refine bG (ae 1 aa (af ?_))
  refine ai (ae 1 aa (bh (hS _ h2.st z) aa aa aa aa aa (ae 1 aa (af ?_))))
  refine ai (ae 5 aa (bh (bZ:=[.vp 1000 0,ep (⟨7,(eh D n p).1,(eh D n U).1,[],[],cj⟩:aL).enc]) (push F Z _) aa aa aa aa aa (ae 1 aa (af ?_))))
  refine ax ?_
  rw[J]
  exact⟨_,PS.bi _,aa,cH aa aa,aa,aa⟩
 rw[PS.ic A]
 refine ai (ae 1 aa (bh (sign F I.st.ok uA) aa aa aa aa aa (ae 1 aa (af ?_))))
 refine aJ aa (fun G=>?_) (fun G=>?_)
 ·have J:iC (eh D n) p=rB (eh D n) 8 (eh D n p).1 ((eh D n p).2.sign uA).2:=by unfold iC;rw[aj (by rw[O];decide),aj (by rw[A];decide),aq G]
  have h2:=I.trans (bC.sign I.st G)
  generalize ((eh D n p).2.sign uA).2=U at J h2⊢
  have z:U.depth+(n+1)=61:=by rw[h2.depth];exact hd
  have Y:=ts D h2.st z
  have Z:=Y.st.ok.small
  refine bG (ae 1 aa (af ?_))
  refine ai (ae 1 aa (bh (hS _ h2.st z) aa aa aa aa aa (ae 1 aa (af ?_))))
  refine ai (ae 5 aa (bh (bZ:=[.vp 1000 0,ep (⟨8,(eh D n p).1,(eh D n U).1,[],[],cj⟩:aL).enc]) (push F Z _) aa aa aa aa aa (ae 1 aa (af ?_))))
  refine ax ?_
  rw[J]
  exact⟨_,PS.bi _,aa,cH aa aa,aa,aa⟩
 rw[PS.ic G]
 refine ai (ae 1 aa (bh (keyword F I.st.ok yP) aa aa aa aa aa (ae 1 aa (af ?_))))
 refine aJ aa (fun K=>?_) (fun K=>?_)
 ·have J:iC (eh D n) p=un (((eh D n p).2.keyword yP).2.aU [k0]) 12 (eh D n p).1:=by unfold iC;rw[aj (by rw[O];decide),aj (by rw[A];decide),aj (by rw[G];decide),aq K]
  have h2:=I.trans (bC.keyword I.st K)
  have Y:=bC.aU (l:=[k0]) h2.st
  have Z:=Y.st.ok.small
  refine ai (ae 2 aa (gB 22 22 aa aa (fun _=>⟨aa,aa⟩) ?_))
  refine bh (aU F h2.st.ok [k0] (by decide)) rfl rfl rfl rfl rfl ?_
  refine af (ai (ae 3 aa (bh (bZ:=[.vp 1000 0,ep (⟨12,(eh D n p).1,0,[],[],cj⟩:aL).enc]) (push F Z _) aa aa aa aa aa (ae 1 aa (af ?_)))))
  refine ax ?_
  rw[J]
  exact⟨_,PS.bi _,aa,cH aa aa,aa,aa⟩
 have J:iC (eh D n) p=eh D n p:=by unfold iC;rw[aj (by rw[O];decide),aj (by rw[A];decide),aj (by rw[G];decide),aj (by rw[K];decide)]
 rw[PS.cK K]
 refine ak 2 aa (ax ?_)
 rw[J]
 exact⟨_,PS.bi _,aa,cH aa aa,aa,aa⟩
set_option maxHeartbeats 2000000 in
theorem SV{T:bf}(F:FT T){D:Rd}{n:Nat}(hS:CT T 250 (cmpL D n) (n+1))(hI:CT T 241 (eB D n) n):CT T 241 (eB D (n+1)) (n+1):=by
 intro p hp hd
 skip
 refine cl F.ZQ aa (ak 1 aa (aM (ai (ae 1 aa (bh (next F hp.ok 1 wo) aa aa aa aa aa (ae 1 aa (af ?_)))))))
 refine aJ aa (fun O=>?_) (fun O=>?_)
 ·have G:p.next 1 wo=false:=by simpa using O
  have I:eB D (n+1) p=cmpL D n p:=by rw[wN];unfold nj;rw[aq G]
  refine ai (ae 1 aa (bh (hS p hp hd) aa aa aa aa aa (ae 1 aa (af ?_))))
  refine ax ?_
  rw[I]
  exact⟨_,PS.bi _,aa,cH aa aa,aa,aa⟩
 have G:p.next 1 wo=true:=by simpa using O
 refine aT (aM (ai (ae 1 aa (bh (enter F hp.ok) aa aa aa aa aa (ae 1 aa (af ?_))))))
 refine aJ aa (fun A=>?_) (fun A=>?_)
 ·have he:p.enter.1=false:=by simpa using A
  have I:eB D (n+1) p=(0,p.enter.2):=by rw[wN];unfold nj;rw[aj (by rw[G];decide),aq he]
  refine ak 1 aa (ax ?_)
  rw[I]
  exact⟨_,PS.bi _,aa,cH aa aa,aa,aa⟩
 have he:p.enter.1=true:=by simpa using A
 have U:=PS.kR hp.ok (kind:=1) (by decide) G
 obtain⟨K,J⟩:=hp.qV he U
 have z:p.enter.2.step.depth+n=61:=by rw[J];omega
 have dR:p.enter.2.aI+1<p.enter.2.ay.length:=K.ok.lt
 have fi:p.enter.2.ay.length≤2000:=K.ok.dY
 have I:eB D (n+1) p=un (eB D n p.enter.2.step).2.up 11 (eB D n p.enter.2.step).1:=by rw[wN];unfold nj;rw[aj (by rw[G];decide),aj (by rw[he];decide)]
 have Y:=(pA D n).2 _ K z
 have p7:1≤((eB D n p.enter.2.step).2).depth:=by rw[Y.depth,J];omega
 have Z:((((eB D n p.enter.2.step).2).depth:Nat):Int) -Int.ofNat 1=((((eB D n p.enter.2.step).2).depth-1:Nat):Int):=by simp only[aZ];omega
 have hs:=Y.st.ok.small
 refine aT (ai (ae 4 aa ?_))
 refine al (cV rfl rfl (by omega) ?_)
 refine ae 3 aa (af ?_)
 refine ai (ae 1 aa (bh (hI _ K z) aa aa aa aa aa (ae 1 aa (af ?_))))
 refine ai (ae 4 aa ?_)
 refine al (gi rfl rfl (by simp only[aZ];omega) (by have:=Y.st.ok.kD;simp only[aZ];omega) ?_)
 rw[Z]
 refine ae 3 aa (af ?_)
 refine ai (ae 3 aa (bh (bZ:=[.vp 1000 0,ep (⟨11,(eB D n p.enter.2.step).1,0,[],[],cj⟩:aL).enc]) (push F (p:=(eB D n p.enter.2.step).2.up) hs _) aa aa aa aa aa (ae 1 aa (af ?_))))
 refine ax ?_
 rw[I]
 exact⟨_,PS.bi _,aa,cH aa aa,aa,aa⟩
set_option maxHeartbeats 2000000 in
theorem TY{T:bf}(F:FT T){D:Rd}(Lf:g7 T D){n:Nat}(hI:CT T 185 (lB D n) n):CT T 257 (eT D n) (n+1):=by
 intro p hp hd
 skip
 refine cl F.Z1 aa (ak 1 aa (aM (bN (ak 6 aa (aJ aa (fun Z=>?_) (fun Z=>?_))))))
 ·have h0:p.err≠0:=by simpa using Z
  have z:eT D n p=(0,p):=by unfold eT k9;rw[aq h0]
  refine ak 1 aa (ax ?_)
  rw[z]
  exact⟨_,PS.bi _,aa,cH aa aa,aa,aa⟩
 have h0:p.err=0:=by simpa using Z
 refine ai (ae 1 aa (bh (next F hp.ok 5 cg) aa aa aa aa aa (ae 1 aa (af ?_))))
 refine aJ aa (fun G=>?_) (fun G=>?_)
 ·have O:p.next 5 cg=true:=by simpa using G
  refine aM (ai (ae 1 aa (bh (enter F hp.ok) aa aa aa aa aa (ae 1 aa (af ?_)))))
  refine aJ aa (fun I=>?_) (fun I=>?_)
  ·have he:p.enter.1=false:=by simpa using I
   have z:eT D n p=(0,p.enter.2):=by unfold eT k9;rw[aj (by simpa using h0),aq O,aq he]
   refine ak 1 aa (ax ?_)
   rw[z]
   exact⟨_,PS.bi _,aa,cH aa aa,aa,aa⟩
  have he:p.enter.1=true:=by simpa using I
  have hlp:=PS.kR hp.ok (kind:=5) (by decide) O
  obtain⟨Y,U⟩:=hp.qV he hlp
  have A:p.enter.2.step.depth+n=61:=by rw[U];omega
  have dR:p.enter.2.aI+1<p.enter.2.ay.length:=Y.ok.lt
  have fi:p.enter.2.ay.length≤2000:=Y.ok.dY
  have z:eT D n p=((lB D n p.enter.2.step).1,((lB D n p.enter.2.step).2.bw dG).up):=by unfold eT k9;rw[aj (by simpa using h0),aq O,aj (by rw[he];decide)];rfl
  have J:=(pA D n).1 _ Y A
  have hr:=J.trans (bC.bw J.st dG)
  have p7:1≤(((lB D n p.enter.2.step).2.bw dG)).depth:=by rw[hr.depth,U];omega
  have mU:(((((lB D n p.enter.2.step).2.bw dG)).depth:Nat):Int) -Int.ofNat 1=(((((lB D n p.enter.2.step).2.bw dG)).depth-1:Nat):Int):=by simp only[aZ];omega
  have hs:=hr.st.ok.small
  refine aT (ai (ae 4 aa ?_))
  refine al (cV rfl rfl (by omega) ?_)
  refine ae 3 aa (af ?_)
  refine ai (ae 1 aa (bh (hI _ Y A) aa aa aa aa aa (ae 1 aa (af ?_))))
  refine ai (ae 1 aa (bh (bw F J.st.ok dG) aa aa aa aa aa (af (ai (ae 4 aa ?_)))))
  refine al (gi rfl rfl (by simp only[aZ];omega) (by have:=hr.st.ok.kD;simp only[aZ];omega) ?_)
  rw[mU]
  refine ae 3 aa (af ?_)
  refine ai (ew (PS.bi ((lB D n p.enter.2.step).2.bw dG).up++[]) (di aa aa trivial) (ae 2 aa (af ?_)))
  refine ax ?_
  rw[z]
  exact⟨_,PS.bi _,aa,cH aa aa,aa,aa⟩
 have O:p.next 5 cg=false:=by simpa using G
 refine ai (ae 1 aa (bh (tok F hp.ok) aa aa aa aa aa (ae 3 aa (af ?_))))
 refine aJ aa (fun K=>?_) (fun K=>?_)
 ·have hk:p.tok.kind=2:=by simpa using K
  have z:eT D n p=p.fU:=by unfold eT k9;rw[aj (by simpa using h0),aj (by rw[O];decide),aq hk]
  refine ai (ae 1 aa (bh (fU F hp h0) aa aa aa aa aa (ae 1 aa (af ?_))))
  refine ax ?_
  rw[z]
  exact⟨_,PS.bi _,aa,cH aa aa,aa,aa⟩
 have hk:¬p.tok.kind=2:=by simpa using K
 have z:eT D n p=(p.literal D).2.push (⟨1,0,0,[],[],(p.literal D).1⟩:aL):=by unfold eT k9;rw[aj (by simpa using h0),aj (by rw[O];decide),aj hk]
 have hs:=(PS.JR hp D).ok.small
 refine aT (ai (ae 2 aa (bh (literal F Lf hp) aa aa aa aa aa (ae 1 aa (bh (bZ:=[.vp 1000 0,ep (⟨1,0,0,[],[],(p.literal D).1⟩:aL).enc]) (push F hs _) aa aa aa aa aa (ae 1 aa (af ?_)))))))
 refine ax ?_
 rw[z]
 exact⟨_,PS.bi _,aa,cH aa aa,aa,aa⟩
theorem MD{T:bf}(F:FT T){D:Rd}(z:g7 T D):∀n,CT T 185 (lB D n) n∧CT T 241 (eB D n) n
 |0=>⟨fun p h G=>absurd h.ok.kD (by omega),fun p h G=>absurd h.ok.kD (by omega)⟩
 |n+1=>by
  obtain⟨I,h2⟩:=MD F z n
  have J:=TY F z I
  have K:CT T 255 (eX D n) (n+1):=product F J
  have O:CT T 253 (eh D n) (n+1):=sum F K
  have U:CT T 250 (cmpL D n) (n+1):=Rf F O
  have A:=SV F U h2
  exact⟨expr F (conjunction F A),A⟩
end Go.Ev.Pp
