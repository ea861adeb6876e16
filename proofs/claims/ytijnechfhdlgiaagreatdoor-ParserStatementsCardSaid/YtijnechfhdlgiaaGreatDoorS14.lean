/- Part 14 of rules for walks through the code of a program, and of such walks; what each part proves is said by its theorems. -/
import Derived.Test.YtijnechfhdlgiaaGreatDoorS11
import Derived.Test.YtijnechfhdlgiaaGreatDoorS13
set_option linter.unusedVariables false
set_option linter.unusedSimpArgs false
noncomputable section
set_option maxRecDepth 100000
set_option maxHeartbeats 4000000
namespace Go.Ev.Pp
open Go
theorem QM{T:bd}(F:FT T){D:Rd}(z:iF T D){s:List UInt8}(G:s.length≤200):cg T 215 ([dS s]++[.vp 1001 0]) [(1001,.one 3 8 [d0])] fun r Bn=>r=dI (D.kr s)∧Bn=[(1001,.one 3 8 [dI (D.day s).1])]:=by
 refine cL F.acp aa (an 1 aa (ai (ae 1 aa (aj (fG (args:=[dS s]) aa fJ (z.day s G) (fun r J I=>?_))))))
 subst I
 refine ak 5 aa (aL (ai (ae 3 aa (dc (g:=aS) aa (fun bQ=>?_) (fun bQ=>?_)))))
 ·refine aw aa (bQ) (bY aa ?_)
  refine aw aa (bQ) (BO aa aa ?_)
  refine aj (c8 aa (bQ) aa ?_)
  refine aX (aK aa (fun A=>?_) (fun A=>?_))
  ·refine bC (ak 1 aa (an 2 aa (an 2 aa (ay (⟨_,[(1001,.one 3 8 [dI (D.day s).1])],aa,⟨aa,trivial⟩,?_,aa⟩)))))
   clear F z
   unfold Rd.kr
   simp_all [gX]
  refine aQ (an 2 aa (an 2 aa (ay (⟨_,[(1001,.one 3 8 [dI (D.day s).1])],aa,⟨aa,trivial⟩,?_,aa⟩))))
  clear F z
  unfold Rd.kr
  simp_all [gX]
 refine eJ aa (bQ) (eJ aa (bQ) (aj (cS aa (bQ) aa ?_)))
 refine aX (ef aa aa (aQ (an 2 aa (an 2 aa (ay (⟨_,[(1001,.one 3 8 [dI (D.day s).1])],aa,⟨aa,trivial⟩,?_,aa⟩))))))
 clear F z
 unfold Rd.kr
 simp_all [gX]
theorem day{T:bd}(F:FT T){D:Rd}(z:iF T D){p:PS}(hp:St p):cg T 178 [.vp 1000 0] (PS.bi p) fun r Bn=>r=dI (p.day D).1∧Bn=PS.bi (p.day D).2:=by
 refine cL F.QK aa (an 1 aa (an 2 aa (ai (ae 2 aa (aj (kn (cm:=[.vp 1000 0,dI 4,.fn 215 [.vp 1001 0]]) (Bi:=PS.bi p++[(1001,.one 3 8 [d0])]) [(1000,1000),(1050,1050),(1001,3)] 2000 aa aa aa aa aa aa aa (xj aa aa aa aa ⟨aa,aa,trivial⟩) (Yh F hp aq (fun _ _=>QM F z (hp.nY.2 _ hp.ok.mem))) (fun r Bn gx=>?_)))))))
 obtain⟨rfl,rfl⟩:=gx
 refine eX (PS.bi (p.take 4 (D.kr p.tok.text)).2++[(3,.one 3 8 [.d (if p.called 4=true then .i .i64 (D.day p.tok.text).1 else .i .i64 0)])]) (dK aa aa ⟨aa,trivial⟩) (aX (an 2 aa (ay (⟨_,PS.bi (p.day D).2,aa,cX aa aa,?_,aa⟩))))
 unfold PS.day
 by_cases A:p.called 4=true<;>simp[gX,A]<;>rfl
theorem Wc{T:bd}(F:FT T){D:Rd}(z:iF T D){s:List UInt8}(A:s.length≤200):cg T 212 ([dS s]++[.vp 1001 0]) [(1001,.one 42 16 [d0,d0])] fun r Bn=>r=dI (D.iU s).2∧Bn=[(1001,.one 42 16 [dI (D.iU s).1.1,dI (D.iU s).1.2])]:=by
 refine cL F.acm aa (an 1 aa (ai (ae 1 aa (aj (fG (args:=[dS s]) aa fJ (z.iU s A) (fun r I G=>?_))))))
 subst G
 exact ak 6 aa (an 2 aa (an 2 aa (ay (⟨_,[(1001,.one 42 16 [dI (D.iU s).1.1,dI (D.iU s).1.2])],aa,⟨aa,trivial⟩,aa,aa⟩))))
theorem period{T:bd}(F:FT T){D:Rd}(z:iF T D){p:PS}(hp:St p):cg T 173 [.vp 1000 0] (PS.bi p) fun r Bn=>r= .agg [dI (p.period D).1.1,dI (p.period D).1.2]∧Bn=PS.bi (p.period D).2:=by
 refine cL F.abX aa (an 1 aa (an 1 aa (ai (ae 2 aa (aj (kn (cm:=[.vp 1000 0,dI 4,.fn 212 [.vp 1001 0]]) (Bi:=PS.bi p++[(1001,.one 42 16 [d0,d0])]) [(1000,1000),(1050,1050),(1001,3)] 2000 aa aa aa aa aa aa aa (xj aa aa aa aa ⟨aa,aa,trivial⟩) (Yi F hp aq (fun _ _=>Wc F z (hp.nY.2 _ hp.ok.mem))) (fun r Bn gx=>?_)))))))
 obtain⟨rfl,rfl⟩:=gx
 refine eX (PS.bi (p.take 4 (D.iU p.tok.text).2).2++[(3,.one 42 16 [.d (if p.called 4=true then .i .i64 (D.iU p.tok.text).1.1 else .i .i64 0),.d (if p.called 4=true then .i .i64 (D.iU p.tok.text).1.2 else .i .i64 0)]),(2,.one 42 16 [d0,d0])]) (dK aa aa ⟨aa,aa,trivial⟩) (aX (an 2 aa (ay (⟨_,PS.bi (p.period D).2,aa,cX aa aa,?_,aa⟩))))
 unfold PS.period
 by_cases A:p.called 4=true<;>simp[gX,A]<;>rfl
theorem U8{T:bd}(F:FT T){D:Rd}(K:iF T D){s:List UInt8}(G:om s)(neg:Bool):cg T 238 ([dS s]++[.vp 1001 0,.vp 1002 0]) [(1001,.one 4 1 [dB neg]),(1002,.one 92 32 [dI 1,d0,.d (.s 0 0)])] fun r Bn=>r=dI (D.rh neg s)∧Bn=[(1001,.one 4 1 [dB neg]),(1002,.one 92 32 [dI 1,dI ((D.int neg s).getD 0),.d (.s 0 0)])]:=by
 refine cL F.acC aa (an 1 aa (aL (an 1 aa (aK aa (fun I=>?_) (fun I=>?_)))))
 ·subst I
  refine bC (ae 1 aa ?_)
  refine aj (yq (a:=[45]) (b:=s) rfl rfl (by have:=G.2.1;simp only[cV,dL];omega) ?_)
  refine ak 1 aa (ai (ae 1 aa (aj (fG (args:=[dS (45::s),dI 10,dI 64]) aa fJ (K.sint true s G) (fun r O J=>?_)))))
  obtain⟨n,e,rfl,z⟩:=J
  rcases z with⟨m,A,rfl,rfl⟩|⟨A,rfl⟩
  ·refine ak 5 aa (aL (an 2 aa (ef aa aa (aQ (an 3 aa (an 1 aa (ay ?_)))))))
   unfold Rd.rh
   rw[A]
   exact⟨_,[(1001,.one 4 1 [dB _]),(1002,.one 92 32 [dI 1,dI _,.d (.s 0 0)])],aa,⟨aa,aa,trivial⟩,aa,aa⟩
  refine ak 5 aa (aL (an 2 aa (eW aa aa (an 1 aa (ay ?_)))))
  unfold Rd.rh
  rw[A]
  exact⟨_,[(1001,.one 4 1 [dB _]),(1002,.one 92 32 [dI 1,dI _,.d (.s 0 0)])],aa,⟨aa,aa,trivial⟩,aa,aa⟩
 subst I
 refine aQ (ai (ae 1 aa (aj (fG (args:=[dS s,dI 10,dI 64]) aa fJ (K.sint false s G) (fun r O J=>?_)))))
 obtain⟨n,e,rfl,z⟩:=J
 rcases z with⟨m,A,rfl,rfl⟩|⟨A,rfl⟩
 ·refine ak 5 aa (aL (an 2 aa (ef aa aa (aQ (an 3 aa (an 1 aa (ay ?_)))))))
  unfold Rd.rh
  rw[A]
  exact⟨_,[(1001,.one 4 1 [dB _]),(1002,.one 92 32 [dI 1,dI _,.d (.s 0 0)])],aa,⟨aa,aa,trivial⟩,aa,aa⟩
 refine ak 5 aa (aL (an 2 aa (eW aa aa (an 1 aa (ay ?_)))))
 unfold Rd.rh
 rw[A]
 exact⟨_,[(1001,.one 4 1 [dB _]),(1002,.one 92 32 [dI 1,dI _,.d (.s 0 0)])],aa,⟨aa,aa,trivial⟩,aa,aa⟩
theorem integer{T:bd}(F:FT T){D:Rd}(A:iF T D){p:PS}(hp:St p)(neg:Bool):cg T 211 [.vp 1000 0,dB neg] (PS.bi p) fun r Bn=>r=eU (p.integer D neg).1.enc∧Bn=PS.bi (p.integer D neg).2:=by
 refine cL F.ack aa (an 2 aa (an 3 aa (ai (ae 2 aa (aj (kn (cm:=[.vp 1000 0,dI 3,.fn 238 [.vp 1001 0,.vp 1002 0]]) (Bi:=PS.bi p++[(1001,.one 4 1 [dB neg]),(1002,.one 92 32 [dI 1,d0,.d (.s 0 0)])]) [(1000,1000),(1050,1050),(1001,3),(1002,5)] 2000 aa aa aa aa aa aa aa (xj aa aa aa aa ⟨aa,aa,aa,aa,trivial⟩) (Yk F hp aq (fun _ hk=>U8 F A (hp.nY.1 _ hp.ok.mem hk) neg)) (fun r Bn gx=>?_)))))))
 obtain⟨rfl,rfl⟩:=gx
 refine eX (PS.bi (p.take 3 (D.rh neg p.tok.text)).2++[(5,.one 92 32 [dI 1,.d (if p.called 3=true then .i .i64 ((D.int neg p.tok.text).getD 0) else .i .i64 0),.d (.s 0 0)]),(4,.one 92 32 [d0,d0,.d (.s 0 0)])]) (dK aa aa ⟨?_,aa,trivial⟩) ?_
 ·by_cases z:p.called 3=true<;>simp only[z]<;>rfl
 refine aX (an 2 aa (ay (⟨_,PS.bi (p.integer D neg).2,aa,cX aa aa,?_,aa⟩)))
 unfold PS.integer iA.enc cl
 by_cases z:p.called 3=true<;>simp[gX,eU,z,pack]<;>rfl
theorem Sm{T:bd}(F:FT T){p:PS}(hp:p.ok):cg T 210 [.vp 1000 0] (PS.bi p) fun r Bn=>r=dB p.tok.lU∧Bn=PS.bi p:=by
 refine cL F.acj aa (an 1 aa (ai (ae 1 aa (bo (tok F hp) aa aa aa aa aa (ak 2 aa (aL (an 2 aa (bM (aL ?_)))))))))
 refine an 2 aa (aK aa (fun G=>?_) (fun G=>?_))
 ·refine aQ (eW aa (G) (an 1 aa (ay (⟨_,PS.bi p,aa,cX aa aa,?_,aa⟩))))
  clear F hp
  simp_all [gX,cu.lU]
 refine bC (ak 2 aa (aK aa (fun G=>?_) (fun G=>?_)))
 ·refine an 1 aa (ay (⟨_,PS.bi p,aa,cX aa aa,?_,aa⟩))
  clear F hp
  simp_all [gX,cu.lU]
 refine an 2 aa (aK aa (fun I=>?_) (fun I=>?_))
 ·refine ai (ae 2 aa (aj (nL (b:=hZ) aa aa ?_)))
  refine ak 1 aa (ay (⟨_,PS.bi p,aa,cX aa aa,?_,aa⟩))
  clear F hp
  simp_all [gX,cu.lU]
 refine an 2 aa (aK aa (fun J=>?_) (fun J=>?_))
 ·refine ai (ae 2 aa (aj (nL (b:=pQ) aa aa ?_)))
  refine ae 1 aa (dc (g:=bx) aa (fun z=>?_) (fun z=>?_))
  ·refine eJ aa (z) (eJ aa (z) (eJ aa (z) (aj (c8 aa (z) aa ?_))))
   refine ae 1 aa (eJ aa aa (eJ aa aa (eJ aa aa (ak 2 aa (ay (⟨_,PS.bi p,aa,cX aa aa,?_,aa⟩))))))
   clear F hp
   simp_all [gX,cu.lU]
  refine aw aa (z) (dD aa ?_)
  refine aw aa (z) (df aa aa aa ?_)
  refine aw aa (z) (nL (b:=pI) aa aa ?_)
  refine aj (cS aa (z) aa ?_)
  refine ae 1 aa (dc (g:=bX) aa (fun A=>?_) (fun A=>?_))
  ·refine eJ aa (A) (eJ aa (A) (eJ aa (A) (aj (c8 aa (A) aa ?_))))
   refine ak 1 aa (ay (⟨_,PS.bi p,aa,cX aa aa,?_,aa⟩))
   clear F hp
   simp_all [gX,cu.lU]
  refine aw aa (A) (dD aa ?_)
  refine aw aa (A) (df aa aa aa ?_)
  refine aw aa (A) (nL (b:=lW) aa aa ?_)
  refine aj (cS aa (A) aa ?_)
  refine ak 1 aa (ay (⟨_,PS.bi p,aa,cX aa aa,?_,aa⟩))
  clear F hp
  simp_all [gX,cu.lU]
 refine aQ (an 1 aa (ay (⟨_,PS.bi p,aa,cX aa aa,?_,aa⟩)))
 clear F hp
 simp_all [gX,cu.lU]
theorem literal{T:bd}(F:FT T){D:Rd}(Lf:iF T D){p:PS}(hp:St p):cg T 171 [.vp 1000 0] (PS.bi p) fun r Bn=>r=eU (p.literal D).1.enc∧Bn=PS.bi (p.literal D).2:=by
 refine cL F.abV aa (an 1 aa (aL (bM (an 6 aa (aK aa (fun O=>?_) (fun O=>?_))))))
 ·have h0:¬p.err=0:=by simpa using O
  have A:p.literal D=(cI,p):=by unfold PS.literal;rw[az h0]
  refine aQ (an 2 aa (ay ?_))
  rw[A]
  exact⟨_,PS.bi _,aa,cX aa aa,aa,aa⟩
 have h0:p.err=0:=by simpa using O
 refine ai (ae 1 aa (bo (Sm F hp.ok) aa aa aa aa aa (ak 2 aa (aK aa (fun U=>?_) (fun U=>?_)))))
 ·have K:p.tok.lU=false:=by simpa using U
  have A:p.literal D=(cI,p.fail 5):=by unfold PS.literal;rw[al (by simpa using h0),az K]
  refine bC (ae 1 aa (bo (fail F hp.ok 5) aa aa aa aa aa (aX (an 2 aa (ay ?_)))))
  rw[A]
  exact⟨_,PS.bi _,aa,cX aa aa,aa,aa⟩
 have K:p.tok.lU=true:=by simpa using U
 refine ai (ae 1 aa (bo (sign F hp.ok hZ) aa aa aa aa aa (ak 1 aa (aK aa (fun z=>?_) (fun z=>?_)))))
 ·have A:p.literal D=(p.sign hZ).2.integer D true:=by unfold PS.literal;rw[al (by simpa using h0),al (by rw[K];decide),az z]
  refine ai (ae 1 aa (bo (integer F Lf (hp.sign hZ) true) aa aa aa aa aa (ak 1 aa (ay ?_))))
  rw[A]
  exact⟨_,PS.bi _,aa,cX aa aa,aa,aa⟩
 rw[PS.iS z]
 refine ai (ae 1 aa (bo (tok F hp.ok) aa aa aa aa aa (ak 3 aa (aK aa (fun Y=>?_) (fun Y=>?_)))))
 ·have Z:p.tok.kind=3:=by simpa using Y
  have A:p.literal D=p.integer D false:=by unfold PS.literal;rw[al (by simpa using h0),al (by rw[K];decide),al (by rw[z];decide),az Z]
  refine ai (ae 1 aa (bo (integer F Lf hp false) aa aa aa aa aa (ak 1 aa (ay ?_))))
  rw[A]
  exact⟨_,PS.bi _,aa,cX aa aa,aa,aa⟩
 have Z:¬p.tok.kind=3:=by simpa using Y
 refine ai (ae 1 aa (bo (keyword F hp.ok pQ) aa aa aa aa aa (ak 1 aa (aK aa (fun G=>?_) (fun G=>?_)))))
 ·have A:p.literal D=(⟨3,1,[]⟩,(p.keyword pQ).2):=by unfold PS.literal;rw[al (by simpa using h0),al (by rw[K];decide),al (by rw[z];decide),al Z,az G]
  refine an 2 aa (ay ?_)
  rw[A]
  exact⟨_,PS.bi _,aa,cX aa aa,aa,aa⟩
 rw[PS.da G]
 refine ai (ae 1 aa (bo (keyword F hp.ok pI) aa aa aa aa aa (ak 1 aa (aK aa (fun I=>?_) (fun I=>?_)))))
 ·have A:p.literal D=(⟨3,0,[]⟩,(p.keyword pI).2):=by unfold PS.literal;rw[al (by simpa using h0),al (by rw[K];decide),al (by rw[z];decide),al Z,al (by rw[G];decide),az I]
  refine an 2 aa (ay ?_)
  rw[A]
  exact⟨_,PS.bi _,aa,cX aa aa,aa,aa⟩
 rw[PS.da I]
 refine ai (ae 1 aa (bo (keyword F hp.ok lW) aa aa aa aa aa (ak 1 aa (aK aa (fun J=>?_) (fun J=>?_)))))
 ·have A:p.literal D=(cI,(p.keyword lW).2):=by unfold PS.literal;rw[al (by simpa using h0),al (by rw[K];decide),al (by rw[z];decide),al Z,al (by rw[G];decide),al (by rw[I];decide),az J]
  refine an 2 aa (ay ?_)
  rw[A]
  exact⟨_,PS.bi _,aa,cX aa aa,aa,aa⟩
 rw[PS.da J]
 have h4:=PS.GY h0 K z Z G I J
 have ew:=PS.mc hp.ok (k:=4) aq h4
 have fZ:=hp.ok.eG
 have A:p.literal D=(⟨2,0,p.tok.text⟩,p.step):=by unfold PS.literal;rw[al (by simpa using h0),al (by rw[K];decide),al (by rw[z];decide),al Z,al (by rw[G];decide),al (by rw[I];decide),al (by rw[J];decide)]
 refine ai (ae 1 aa (bo (tok F hp.ok) aa aa aa aa aa (ak 2 aa (ai (ae 4 aa (aj (cM aa aa ah ?_)))))))
 refine ak 3 aa (an 3 aa (ay ?_))
 rw[A]
 exact⟨_,PS.bi p.step,aa,cX aa aa,aa,aa⟩
def CT(T:bd)(f:Nat)(m:PS→Int×PS)(n:Nat):Prop:=∀p,St p→p.depth+n=61→cg T f [.vp 1000 0] p.bi fun r Bn=>r=dI (m p).1∧Bn=PS.bi (m p).2
theorem sX{sub:PS→Int×PS}{test:PS→Option (Int×PS)}{a:Int}{p:PS}(h:test p=none):∀k,kJ sub test k a p=(a,p)
 |0=>rfl
 |k+1=>by unfold kJ;rw[h]
theorem q9{sub:PS→Int×PS}{test:PS→Option (Int×PS)}{a kind:Int}{p q:PS}(h:test p=some (kind,q))(k:Nat):kJ sub test (k+1) a p=kJ sub test k ((sub q).2.push ⟨kind,a,(sub q).1,[],[],cI⟩).1 ((sub q).2.push ⟨kind,a,(sub q).1,[],[],cI⟩).2:=by
 show(match test p with|none=>(a,p)|some (kind,q)=>kJ sub test k ((sub q).2.push ⟨kind,a,(sub q).1,[],[],cI⟩).1 ((sub q).2.push ⟨kind,a,(sub q).1,[],[],cI⟩).2)=_
 rw[h]
theorem gJ{T:bd}(F:FT T){p:PS}(hp:St p)(h0:p.err=0):cg T 221 [.vp 1000 0] (PS.bi p) fun r Bn=>r=dI p.gJ.1∧Bn=PS.bi p.gJ.2:=by
 refine cL F.acu aa ?_
 have z:bO 1 p p.name.2:=bO.zU hp aq h0
 refine an 1 aa (ai (ae 1 aa (bo (name F hp) aa aa aa aa aa (ak 3 aa (aL (ai (ae 1 aa (bo (sign F z.st.ok jJ) aa aa aa aa aa (aX ?_)))))))))
 refine aK aa (fun A=>?_) (fun A=>?_)
 ·have G:p.gJ=((p.name.2.sign jJ).2.name.2).push ⟨2,0,0,p.name.1,(p.name.2.sign jJ).2.name.1,cI⟩:=by unfold PS.gJ;rw[az A]
  have I:=(z.st.sign jJ).name.ok.small
  refine an 4 aa (bC (ae 1 aa (bo (name F (z.st.sign jJ)) aa aa aa aa aa (ak 2 aa (ai (ae 2 aa (bo (cm:=[.vp 1000 0,eU ((⟨2,0,0,p.name.1,(p.name.2.sign jJ).2.name.1,cI⟩:aT)).enc]) (push F I _) aa aa aa aa aa (ak 1 aa (ay ?_)))))))))
  rw[G]
  exact⟨_,PS.bi _,aa,cX aa aa,aa,aa⟩
 have G:p.gJ=p.name.2.push ⟨2,0,0,[],p.name.1,cI⟩:=by unfold PS.gJ;rw[al (by rw[A];decide)]
 have I:=z.st.ok.small
 rw[PS.iS A]
 refine aQ (ai (ae 2 aa (bo (cm:=[.vp 1000 0,eU ((⟨2,0,0,[],p.name.1,cI⟩:aT)).enc]) (push F I _) aa aa aa aa aa (ak 1 aa (ay ?_)))))
 rw[G]
 exact⟨_,PS.bi _,aa,cX aa aa,aa,aa⟩
theorem product{T:bd}(F:FT T){D:Rd}{n:Nat}(hS:CT T 283 (fD D n) (n+1)):CT T 281 (chain (fD D n) mg) (n+1):=by
 intro p hp Z
 have K:=A9 D hp Z
 refine cL F.ac0 aa (an 1 aa (ai (ae 1 aa (bo (hS p hp Z) aa aa aa aa aa (ak 1 aa (aL (bM ?_)))))))
 refine d7 (fun k VE B=>∃(a:Int)(q:PS),kJ (fD D n) mg k a q=(chain (fD D n) mg p)∧q.aF.length≤k+q.aO∧St q∧q.depth=p.depth∧q.aF=p.aF∧bn [(0,.vp 1000 0),(3,dI a)] VE∧bn (PS.bi q) B) ?_ (k:=p.aF.length) ⟨(fD D n p).1,(fD D n p).2,rfl,by rw[K.aF];omega,K.st,K.depth,K.aF,⟨rfl,rfl,trivial⟩,cX rfl rfl⟩
 rintro k VE B⟨a,q,z,hk,O,G,gM,hV,hB⟩
 refine eZ (PS.bi q++[]) hB ?_
 have hB:bn (PS.bi q++[]) (PS.bi q++[]):=dK rfl rfl trivial
 refine db _ _ hV hB (aL (ai (ae 1 aa (bo (sign F O.ok fv) aa aa aa aa aa (aX (aK aa (fun I=>?_) (fun I=>?_)))))))
 ·have U:mg q=some (5,(q.sign fv).2):=by unfold mg;rw[az I]
  obtain⟨k,rfl⟩:∃k',k=k'+1:=⟨k-1,by have:=O.ok.lt;omega⟩
  rw[q9 U] at z
  have h2:=DR q _ _ O U
  have J:(q.sign fv).2.depth+(n+1)=61:=by rw[h2.depth,G];exact Z
  have h3:=A9 D h2.st J
  have hs:=h3.st.ok.small
  have Y:=bO.push O.ok (k:=0) ((h2.trans h3).dW ah) (⟨5,a,(fD D n (q.sign fv).2).1,[],[],cI⟩:aT)
  have A:q.aO+1≤(q.sign fv).2.aO:=by rw[show(q.sign fv).2=q.step from(PS.qg I).1];exact bR _
  refine aQ (bM (ai (ae 1 aa (bo (hS _ h2.st J) aa aa aa aa aa (ak 1 aa (bC (ae 4 aa (bo (cm:=[.vp 1000 0,eU ((⟨5,a,(fD D n (q.sign fv).2).1,[],[],cI⟩:aT)).enc]) (push F hs _) aa aa aa aa aa (ak 1 aa ?_)))))))))
  exact⟨k,ah,((fD D n (q.sign fv).2).2.push (⟨5,a,(fD D n (q.sign fv).2).1,[],[],cI⟩:aT)).1,((fD D n (q.sign fv).2).2.push (⟨5,a,(fD D n (q.sign fv).2).1,[],[],cI⟩:aT)).2,z,by rw[Y.aF];have:=h2.aO;have:=h3.aO;have h5:=h2.sl;show q.aF.length≤k+(fD D n (q.sign fv).2).2.aO;have h6:q.aO+1≤(q.sign fv).2.aO:=A;omega,Y.st,Y.depth.trans G,Y.aF.trans gM,⟨rfl,rfl,trivial⟩,cX rfl rfl⟩
 have U:mg q=none:=by unfold mg;rw[al (by rw[I];decide)]
 rw[sX U] at z
 rw[PS.iS I]
 refine dJ (an 2 aa (ay ?_))
 rw[←z]
 exact⟨_,PS.bi q,aa,cX aa aa,aa,aa⟩
theorem conjunction{T:bd}(F:FT T){D:Rd}{n:Nat}(hS:CT T 268 (fb D (n+1)) (n+1)):CT T 243 (chain (fb D (n+1)) mI) (n+1):=by
 intro p hp Z
 have K:=(qn D (n+1)).2 p hp Z
 refine cL F.acG aa (an 1 aa (ai (ae 1 aa (bo (hS p hp Z) aa aa aa aa aa (ak 1 aa (aL (bM ?_)))))))
 refine d7 (fun k VE B=>∃(a:Int)(q:PS),kJ (fb D (n+1)) mI k a q=(chain (fb D (n+1)) mI p)∧q.aF.length≤k+q.aO∧St q∧q.depth=p.depth∧q.aF=p.aF∧bn [(0,.vp 1000 0),(3,dI a)] VE∧bn (PS.bi q) B) ?_ (k:=p.aF.length) ⟨(fb D (n+1) p).1,(fb D (n+1) p).2,rfl,by rw[K.aF];omega,K.st,K.depth,K.aF,⟨rfl,rfl,trivial⟩,cX rfl rfl⟩
 rintro k VE B⟨a,q,z,hk,O,G,gM,hV,hB⟩
 refine eZ (PS.bi q++[]) hB ?_
 have hB:bn (PS.bi q++[]) (PS.bi q++[]):=dK rfl rfl trivial
 refine db _ _ hV hB (aL (ai (ae 1 aa (bo (keyword F O.ok mH) aa aa aa aa aa (aX (aK aa (fun I=>?_) (fun I=>?_)))))))
 ·have U:mI q=some (9,(q.keyword mH).2):=by unfold mI;rw[az I]
  obtain⟨k,rfl⟩:∃k',k=k'+1:=⟨k-1,by have:=O.ok.lt;omega⟩
  rw[q9 U] at z
  have h2:=D2 q _ _ O U
  have J:(q.keyword mH).2.depth+(n+1)=61:=by rw[h2.depth,G];exact Z
  have h3:=(fun a b=>(qn D (n+1)).2 _ a b) h2.st J
  have hs:=h3.st.ok.small
  have Y:=bO.push O.ok (k:=0) ((h2.trans h3).dW ah) (⟨9,a,(fb D (n+1) (q.keyword mH).2).1,[],[],cI⟩:aT)
  have A:q.aO+1≤(q.keyword mH).2.aO:=by rw[show(q.keyword mH).2=q.step from(PS.qg I).1];exact bR _
  refine aQ (bM (ai (ae 1 aa (bo (hS _ h2.st J) aa aa aa aa aa (ak 1 aa (bC (ae 4 aa (bo (cm:=[.vp 1000 0,eU ((⟨9,a,(fb D (n+1) (q.keyword mH).2).1,[],[],cI⟩:aT)).enc]) (push F hs _) aa aa aa aa aa (ak 1 aa ?_)))))))))
  exact⟨k,ah,((fb D (n+1) (q.keyword mH).2).2.push (⟨9,a,(fb D (n+1) (q.keyword mH).2).1,[],[],cI⟩:aT)).1,((fb D (n+1) (q.keyword mH).2).2.push (⟨9,a,(fb D (n+1) (q.keyword mH).2).1,[],[],cI⟩:aT)).2,z,by rw[Y.aF];have:=h2.aO;have:=h3.aO;have h5:=h2.sl;show q.aF.length≤k+(fb D (n+1) (q.keyword mH).2).2.aO;have h6:q.aO+1≤(q.keyword mH).2.aO:=A;omega,Y.st,Y.depth.trans G,Y.aF.trans gM,⟨rfl,rfl,trivial⟩,cX rfl rfl⟩
 have U:mI q=none:=by unfold mI;rw[al (by rw[I];decide)]
 rw[sX U] at z
 rw[PS.da I]
 refine dJ (an 2 aa (ay ?_))
 rw[←z]
 exact⟨_,PS.bi q,aa,cX aa aa,aa,aa⟩
theorem expr{T:bd}(F:FT T){D:Rd}{n:Nat}(hS:CT T 243 (jB D n) (n+1)):CT T 214 (chain (jB D n) ng) (n+1):=by
 intro p hp Z
 have K:=Er D hp Z
 refine cL F.aco aa (an 1 aa (ai (ae 1 aa (bo (hS p hp Z) aa aa aa aa aa (ak 1 aa (aL (bM ?_)))))))
 refine d7 (fun k VE B=>∃(a:Int)(q:PS),kJ (jB D n) ng k a q=(chain (jB D n) ng p)∧q.aF.length≤k+q.aO∧St q∧q.depth=p.depth∧q.aF=p.aF∧bn [(0,.vp 1000 0),(3,dI a)] VE∧bn (PS.bi q) B) ?_ (k:=p.aF.length) ⟨(jB D n p).1,(jB D n p).2,rfl,by rw[K.aF];omega,K.st,K.depth,K.aF,⟨rfl,rfl,trivial⟩,cX rfl rfl⟩
 rintro k VE B⟨a,q,z,hk,O,G,gM,hV,hB⟩
 refine eZ (PS.bi q++[]) hB ?_
 have hB:bn (PS.bi q++[]) (PS.bi q++[]):=dK rfl rfl trivial
 refine db _ _ hV hB (aL (ai (ae 1 aa (bo (keyword F O.ok mN) aa aa aa aa aa (aX (aK aa (fun I=>?_) (fun I=>?_)))))))
 ·have U:ng q=some (10,(q.keyword mN).2):=by unfold ng;rw[az I]
  obtain⟨k,rfl⟩:∃k',k=k'+1:=⟨k-1,by have:=O.ok.lt;omega⟩
  rw[q9 U] at z
  have h2:=H5 q _ _ O U
  have J:(q.keyword mN).2.depth+(n+1)=61:=by rw[h2.depth,G];exact Z
  have h3:=Er D h2.st J
  have hs:=h3.st.ok.small
  have Y:=bO.push O.ok (k:=0) ((h2.trans h3).dW ah) (⟨10,a,(jB D n (q.keyword mN).2).1,[],[],cI⟩:aT)
  have A:q.aO+1≤(q.keyword mN).2.aO:=by rw[show(q.keyword mN).2=q.step from(PS.qg I).1];exact bR _
  refine aQ (bM (ai (ae 1 aa (bo (hS _ h2.st J) aa aa aa aa aa (ak 1 aa (bC (ae 4 aa (bo (cm:=[.vp 1000 0,eU ((⟨10,a,(jB D n (q.keyword mN).2).1,[],[],cI⟩:aT)).enc]) (push F hs _) aa aa aa aa aa (ak 1 aa ?_)))))))))
  exact⟨k,ah,((jB D n (q.keyword mN).2).2.push (⟨10,a,(jB D n (q.keyword mN).2).1,[],[],cI⟩:aT)).1,((jB D n (q.keyword mN).2).2.push (⟨10,a,(jB D n (q.keyword mN).2).1,[],[],cI⟩:aT)).2,z,by rw[Y.aF];have:=h2.aO;have:=h3.aO;have h5:=h2.sl;show q.aF.length≤k+(jB D n (q.keyword mN).2).2.aO;have h6:q.aO+1≤(q.keyword mN).2.aO:=A;omega,Y.st,Y.depth.trans G,Y.aF.trans gM,⟨rfl,rfl,trivial⟩,cX rfl rfl⟩
 have U:ng q=none:=by unfold ng;rw[al (by rw[I];decide)]
 rw[sX U] at z
 rw[PS.da I]
 refine dJ (an 2 aa (ay ?_))
 rw[←z]
 exact⟨_,PS.bi q,aa,cX aa aa,aa,aa⟩
theorem sum{T:bd}(F:FT T){D:Rd}{n:Nat}(hS:CT T 281 (fH D n) (n+1)):CT T 279 (chain (fH D n) kR) (n+1):=by
 intro p hp hd
 have h1:=wO D hp hd
 refine cL F.acY aa (an 1 aa (ai (ae 1 aa (bo (hS p hp hd) aa aa aa aa aa (ak 1 aa (bM ?_))))))
 refine d7 (fun k VE B=>∃(a:Int)(q:PS),kJ (fH D n) kR k a q=(chain (fH D n) kR p)∧q.aF.length≤k+q.aO∧St q∧q.depth=p.depth∧q.aF=p.aF∧bn [(0,.vp 1000 0),(3,dI a)] VE∧bn (PS.bi q) B) ?_ (k:=p.aF.length) ⟨(fH D n p).1,(fH D n p).2,rfl,by rw[h1.aF];omega,h1.st,h1.depth,h1.aF,⟨rfl,rfl,trivial⟩,cX rfl rfl⟩
 rintro k VE B⟨a,q,z,hk,Y,K,gM,hV,hB⟩
 refine eZ (PS.bi q++[]) hB ?_
 have hB:bn (PS.bi q++[]) (PS.bi q++[]):=dK rfl rfl trivial
 refine db _ _ hV hB (bM (an 1 aa (aL (ai (ae 1 aa (bo (sign F Y.ok hZ) aa aa aa aa aa (aX (aK aa (fun h9=>?_) (fun h9=>?_)))))))))
 ·have O:kR q=some (4,(q.sign hZ).2):=by unfold kR;rw[az h9]
  have G:q.aO+1≤(q.sign hZ).2.aO:=by rw[show(q.sign hZ).2=q.step from(PS.qg h9).1];exact bR _
  obtain⟨k,rfl⟩:∃k',k=k'+1:=⟨k-1,by have:=Y.ok.lt;omega⟩
  rw[q9 O] at z
  have h2:=yg q _ _ Y O
  generalize (q.sign hZ).2=A at O z h2 G⊢
  have I:A.depth+(n+1)=61:=by rw[h2.depth,K];exact hd
  have Z:=wO D h2.st I
  have hs:=Z.st.ok.small
  have U:=bO.push Y.ok (k:=0) ((h2.trans Z).dW ah) (⟨4,a,(fH D n A).1,[],[],cI⟩:aT)
  refine bC (ak 1 aa (ai (ae 1 aa (bo (hS _ h2.st I) aa aa aa aa aa (ak 1 aa (bC (ae 5 aa (bo (cm:=[.vp 1000 0,eU (⟨4,a,(fH D n A).1,[],[],cI⟩:aT).enc]) (push F hs _) aa aa aa aa aa (ak 1 aa ?_)))))))))
  exact⟨k,ah,((fH D n A).2.push (⟨4,a,(fH D n A).1,[],[],cI⟩:aT)).1,((fH D n A).2.push (⟨4,a,(fH D n A).1,[],[],cI⟩:aT)).2,z,by rw[U.aF];have:=Z.aO;show q.aF.length≤k+(fH D n A).2.aO;omega,U.st,U.depth.trans K,U.aF.trans gM,⟨rfl,rfl,trivial⟩,cX rfl rfl⟩
 rw[PS.iS h9]
 refine ai (ae 1 aa (bo (sign F Y.ok oD) aa aa aa aa aa (ak 1 aa (aK aa (fun xM=>?_) (fun xM=>?_)))))
 ·have J:(q.sign oD).1=false:=by simpa using xM
  have O:kR q=none:=by unfold kR;rw[al (by rw[h9];decide),al (by rw[J];decide)]
  rw[sX O] at z
  rw[PS.iS J]
  refine an 2 aa (ay ?_)
  rw[←z]
  exact⟨_,PS.bi q,aa,cX aa aa,aa,aa⟩
 have J:(q.sign oD).1=true:=by simpa using xM
 have O:kR q=some (3,(q.sign oD).2):=by unfold kR;rw[al (by rw[h9];decide),az J]
 have G:q.aO+1≤(q.sign oD).2.aO:=by rw[show(q.sign oD).2=q.step from(PS.qg J).1];exact bR _
 obtain⟨k,rfl⟩:∃k',k=k'+1:=⟨k-1,by have:=Y.ok.lt;omega⟩
 rw[q9 O] at z
 have h2:=yg q _ _ Y O
 generalize (q.sign oD).2=A at O z h2 G⊢
 have I:A.depth+(n+1)=61:=by rw[h2.depth,K];exact hd
 have Z:=wO D h2.st I
 have hs:=Z.st.ok.small
 have U:=bO.push Y.ok (k:=0) ((h2.trans Z).dW ah) (⟨3,a,(fH D n A).1,[],[],cI⟩:aT)
 refine aQ (ai (ae 1 aa (bo (hS _ h2.st I) aa aa aa aa aa (ak 1 aa (bC (ae 5 aa (bo (cm:=[.vp 1000 0,eU (⟨3,a,(fH D n A).1,[],[],cI⟩:aT).enc]) (push F hs _) aa aa aa aa aa (ak 1 aa ?_))))))))
 exact⟨k,ah,((fH D n A).2.push (⟨3,a,(fH D n A).1,[],[],cI⟩:aT)).1,((fH D n A).2.push (⟨3,a,(fH D n A).1,[],[],cI⟩:aT)).2,z,by rw[U.aF];have:=Z.aO;show q.aF.length≤k+(fH D n A).2.aO;omega,U.st,U.depth.trans K,U.aF.trans gM,⟨rfl,rfl,trivial⟩,cX rfl rfl⟩
theorem Tv{T:bd}(F:FT T){D:Rd}{n:Nat}(hS:CT T 279 (eP D n) (n+1)):CT T 276 (ja (eP D n)) (n+1):=by
 intro p hp hd
 have I:=uY D hp hd
 refine cL F.acV aa (an 1 aa (ai (ae 1 aa (bo (hS p hp hd) aa aa aa aa aa (ak 1 aa (an 1 aa (aL (bM (ai ?_)))))))))
 refine ae 1 aa (bo (sign F I.st.ok nE) aa aa aa aa aa (ak 1 aa (aK aa (fun O=>?_) (fun O=>?_))))
 ·have J:ja (eP D n) p=sS (eP D n) 6 (eP D n p).1 ((eP D n p).2.sign nE).2:=by unfold ja;rw[az O]
  have h2:=I.trans (bO.sign I.st O)
  generalize ((eP D n p).2.sign nE).2=U at J h2⊢
  have z:U.depth+(n+1)=61:=by rw[h2.depth];exact hd
  have Y:=uY D h2.st z
  have Z:=Y.st.ok.small
  refine bC (ak 1 aa (ai (ae 1 aa (bo (hS _ h2.st z) aa aa aa aa aa (ak 1 aa (ai (ae 5 aa (bo (cm:=[.vp 1000 0,eU (⟨6,(eP D n p).1,(eP D n U).1,[],[],cI⟩:aT).enc]) (push F Z _) aa aa aa aa aa (ak 1 aa ?_)))))))))
  refine ay ?_
  rw[J]
  exact⟨_,PS.bi _,aa,cX aa aa,aa,aa⟩
 rw[PS.iS O]
 refine ai (ae 1 aa (bo (sign F I.st.ok vK) aa aa aa aa aa (ak 1 aa (aK aa (fun A=>?_) (fun A=>?_)))))
 ·have J:ja (eP D n) p=sS (eP D n) 7 (eP D n p).1 ((eP D n p).2.sign vK).2:=by unfold ja;rw[al (by rw[O];decide),az A]
  have h2:=I.trans (bO.sign I.st A)
  generalize ((eP D n p).2.sign vK).2=U at J h2⊢
  have z:U.depth+(n+1)=61:=by rw[h2.depth];exact hd
  have Y:=uY D h2.st z
  have Z:=Y.st.ok.small
  refine bC (ak 1 aa (ai (ae 1 aa (bo (hS _ h2.st z) aa aa aa aa aa (ak 1 aa (ai (ae 5 aa (bo (cm:=[.vp 1000 0,eU (⟨7,(eP D n p).1,(eP D n U).1,[],[],cI⟩:aT).enc]) (push F Z _) aa aa aa aa aa (ak 1 aa ?_)))))))))
  refine ay ?_
  rw[J]
  exact⟨_,PS.bi _,aa,cX aa aa,aa,aa⟩
 rw[PS.iS A]
 refine ai (ae 1 aa (bo (sign F I.st.ok vL) aa aa aa aa aa (ak 1 aa (aK aa (fun G=>?_) (fun G=>?_)))))
 ·have J:ja (eP D n) p=sS (eP D n) 8 (eP D n p).1 ((eP D n p).2.sign vL).2:=by unfold ja;rw[al (by rw[O];decide),al (by rw[A];decide),az G]
  have h2:=I.trans (bO.sign I.st G)
  generalize ((eP D n p).2.sign vL).2=U at J h2⊢
  have z:U.depth+(n+1)=61:=by rw[h2.depth];exact hd
  have Y:=uY D h2.st z
  have Z:=Y.st.ok.small
  refine bC (ak 1 aa (ai (ae 1 aa (bo (hS _ h2.st z) aa aa aa aa aa (ak 1 aa (ai (ae 5 aa (bo (cm:=[.vp 1000 0,eU (⟨8,(eP D n p).1,(eP D n U).1,[],[],cI⟩:aT).enc]) (push F Z _) aa aa aa aa aa (ak 1 aa ?_)))))))))
  refine ay ?_
  rw[J]
  exact⟨_,PS.bi _,aa,cX aa aa,aa,aa⟩
 rw[PS.iS G]
 refine ai (ae 1 aa (bo (keyword F I.st.ok AJ) aa aa aa aa aa (ak 1 aa (aK aa (fun K=>?_) (fun K=>?_)))))
 ·have J:ja (eP D n) p=un (((eP D n p).2.keyword AJ).2.bc [lW]) 12 (eP D n p).1:=by unfold ja;rw[al (by rw[O];decide),al (by rw[A];decide),al (by rw[G];decide),az K]
  have h2:=I.trans (bO.keyword I.st K)
  have Y:=bO.bc (l:=[lW]) h2.st
  have Z:=Y.st.ok.small
  refine ai (ae 2 aa (gD 22 22 aa aa (fun _=>⟨aa,aa⟩) (bo (bc F h2.st.ok [lW] aq) aa aa aa aa aa (aX (ai (ae 3 aa (bo (cm:=[.vp 1000 0,eU (⟨12,(eP D n p).1,0,[],[],cI⟩:aT).enc]) (push F Z _) aa aa aa aa aa (ak 1 aa (ay ?_)))))))))
  rw[J]
  exact⟨_,PS.bi _,aa,cX aa aa,aa,aa⟩
 have J:ja (eP D n) p=eP D n p:=by unfold ja;rw[al (by rw[O];decide),al (by rw[A];decide),al (by rw[G];decide),al (by rw[K];decide)]
 rw[PS.da K]
 refine an 2 aa (ay ?_)
 rw[J]
 exact⟨_,PS.bi _,aa,cX aa aa,aa,aa⟩
theorem U9{T:bd}(F:FT T){D:Rd}{n:Nat}(hS:CT T 276 (cmpL D n) (n+1))(hI:CT T 268 (fb D n) n):CT T 268 (fb D (n+1)) (n+1):=by
 intro p hp hd
 skip
 refine cL F.acR aa (an 1 aa (aL (ai (ae 1 aa (bo (next F hp.ok 1 xA) aa aa aa aa aa (ak 1 aa (aK aa (fun O=>?_) (fun O=>?_))))))))
 ·have G:p.next 1 xA=false:=by simpa using O
  have I:fb D (n+1) p=cmpL D n p:=by rw[x6];unfold nZ;rw[az G]
  refine ai (ae 1 aa (bo (hS p hp hd) aa aa aa aa aa (ak 1 aa (ay ?_))))
  rw[I]
  exact⟨_,PS.bi _,aa,cX aa aa,aa,aa⟩
 have G:p.next 1 xA=true:=by simpa using O
 refine aQ (aL (ai (ae 1 aa (bo (enter F hp.ok) aa aa aa aa aa (ak 1 aa (aK aa (fun A=>?_) (fun A=>?_)))))))
 ·have he:p.enter.1=false:=by simpa using A
  have I:fb D (n+1) p=(0,p.enter.2):=by rw[x6];unfold nZ;rw[al (by rw[G];decide),az he]
  refine an 1 aa (ay ?_)
  rw[I]
  exact⟨_,PS.bi _,aa,cX aa aa,aa,aa⟩
 have he:p.enter.1=true:=by simpa using A
 have U:=PS.lQ hp.ok (kind:=1) aq G
 obtain⟨K,J⟩:=hp.r5 he U
 have z:p.enter.2.step.depth+n=61:=by rw[J];omega
 have ew:p.enter.2.aO+1<p.enter.2.aF.length:=K.ok.lt
 have fZ:p.enter.2.aF.length≤2000:=K.ok.eG
 have I:fb D (n+1) p=un (fb D n p.enter.2.step).2.up 11 (fb D n p.enter.2.step).1:=by rw[x6];unfold nZ;rw[al (by rw[G];decide),al (by rw[he];decide)]
 have Y:=(qn D n).2 _ K z
 have qW:1≤((fb D n p.enter.2.step).2).depth:=by rw[Y.depth,J];omega
 have Z:((((fb D n p.enter.2.step).2).depth:Nat):Int) -Int.ofNat 1=((((fb D n p.enter.2.step).2).depth-1:Nat):Int):=by simp only[bN];omega
 have hs:=Y.st.ok.small
 refine aQ (ai (ae 4 aa (aj (cM aa aa ah ?_))))
 refine ak 3 aa (ai (ae 1 aa (bo (hI _ K z) aa aa aa aa aa (ak 1 aa (ai (ae 4 aa ?_))))))
 refine aj (f3 rfl rfl (by simp only[bN];omega) (by have:=Y.st.ok.lC;simp only[bN];omega) ?_)
 rw[Z]
 refine ak 3 aa (ai (ae 3 aa (bo (cm:=[.vp 1000 0,eU (⟨11,(fb D n p.enter.2.step).1,0,[],[],cI⟩:aT).enc]) (push F (p:=(fb D n p.enter.2.step).2.up) hs _) aa aa aa aa aa (ak 1 aa (ay ?_)))))
 rw[I]
 exact⟨_,PS.bi _,aa,cX aa aa,aa,aa⟩
theorem Wd{T:bd}(F:FT T){D:Rd}(Lf:iF T D){n:Nat}(hI:CT T 214 (mh D n) n):CT T 283 (fD D n) (n+1):=by
 intro p hp hd
 skip
 refine cL F.ac2 aa (an 1 aa (aL (bM (an 6 aa (aK aa (fun Z=>?_) (fun Z=>?_))))))
 ·have h0:p.err≠0:=by simpa using Z
  have z:fD D n p=(0,p):=by unfold fD lX;rw[az h0]
  refine an 1 aa (ay ?_)
  rw[z]
  exact⟨_,PS.bi _,aa,cX aa aa,aa,aa⟩
 have h0:p.err=0:=by simpa using Z
 refine ai (ae 1 aa (bo (next F hp.ok 5 cE) aa aa aa aa aa (ak 1 aa (aK aa (fun G=>?_) (fun G=>?_)))))
 ·have O:p.next 5 cE=true:=by simpa using G
  refine aL (ai (ae 1 aa (bo (enter F hp.ok) aa aa aa aa aa (ak 1 aa (aK aa (fun I=>?_) (fun I=>?_))))))
  ·have he:p.enter.1=false:=by simpa using I
   have z:fD D n p=(0,p.enter.2):=by unfold fD lX;rw[al (by simpa using h0),az O,az he]
   refine an 1 aa (ay ?_)
   rw[z]
   exact⟨_,PS.bi _,aa,cX aa aa,aa,aa⟩
  have he:p.enter.1=true:=by simpa using I
  have hlp:=PS.lQ hp.ok (kind:=5) aq O
  obtain⟨Y,U⟩:=hp.r5 he hlp
  have A:p.enter.2.step.depth+n=61:=by rw[U];omega
  have ew:p.enter.2.aO+1<p.enter.2.aF.length:=Y.ok.lt
  have fZ:p.enter.2.aF.length≤2000:=Y.ok.eG
  have z:fD D n p=((mh D n p.enter.2.step).1,((mh D n p.enter.2.step).2.bJ ee).up):=by unfold fD lX;rw[al (by simpa using h0),az O,al (by rw[he];decide)];rfl
  have J:=(qn D n).1 _ Y A
  have hr:=J.trans (bO.bJ J.st ee)
  have qW:1≤(((mh D n p.enter.2.step).2.bJ ee)).depth:=by rw[hr.depth,U];omega
  have nF:(((((mh D n p.enter.2.step).2.bJ ee)).depth:Nat):Int) -Int.ofNat 1=(((((mh D n p.enter.2.step).2.bJ ee)).depth-1:Nat):Int):=by simp only[bN];omega
  have hs:=hr.st.ok.small
  refine aQ (ai (ae 4 aa (aj (cM aa aa ah ?_))))
  refine ak 3 aa (ai (ae 1 aa (bo (hI _ Y A) aa aa aa aa aa (ak 1 aa (ai (ae 1 aa (bo (bJ F J.st.ok ee) aa aa aa aa aa (aX (ai ?_)))))))))
  refine ae 4 aa ?_
  refine aj (f3 rfl rfl (by simp only[bN];omega) (by have:=hr.st.ok.lC;simp only[bN];omega) ?_)
  rw[nF]
  refine ak 3 aa (ai (eX (PS.bi ((mh D n p.enter.2.step).2.bJ ee).up++[]) (dK aa aa trivial) (ak 2 aa (ay ?_))))
  rw[z]
  exact⟨_,PS.bi _,aa,cX aa aa,aa,aa⟩
 have O:p.next 5 cE=false:=by simpa using G
 refine ai (ae 1 aa (bo (tok F hp.ok) aa aa aa aa aa (ak 3 aa (aK aa (fun K=>?_) (fun K=>?_)))))
 ·have hk:p.tok.kind=2:=by simpa using K
  have z:fD D n p=p.gJ:=by unfold fD lX;rw[al (by simpa using h0),al (by rw[O];decide),az hk]
  refine ai (ae 1 aa (bo (gJ F hp h0) aa aa aa aa aa (ak 1 aa (ay ?_))))
  rw[z]
  exact⟨_,PS.bi _,aa,cX aa aa,aa,aa⟩
 have hk:¬p.tok.kind=2:=by simpa using K
 have z:fD D n p=(p.literal D).2.push (⟨1,0,0,[],[],(p.literal D).1⟩:aT):=by unfold fD lX;rw[al (by simpa using h0),al (by rw[O];decide),al hk]
 have hs:=(PS.Ls hp D).ok.small
 refine aQ (ai (ae 2 aa (bo (literal F Lf hp) aa aa aa aa aa (ae 1 aa (bo (cm:=[.vp 1000 0,eU (⟨1,0,0,[],[],(p.literal D).1⟩:aT).enc]) (push F hs _) aa aa aa aa aa (ak 1 aa (ay ?_)))))))
 rw[z]
 exact⟨_,PS.bi _,aa,cX aa aa,aa,aa⟩
theorem Om{T:bd}(F:FT T){D:Rd}(z:iF T D):∀n,CT T 214 (mh D n) n∧CT T 268 (fb D n) n
 |0=>⟨fun p h G=>absurd h.ok.lC ah,fun p h G=>absurd h.ok.lC ah⟩
 |n+1=>by
  obtain⟨I,h2⟩:=Om F z n
  have J:=Wd F z I
  have K:CT T 281 (fH D n) (n+1):=product F J
  have O:CT T 279 (eP D n) (n+1):=sum F K
  have U:CT T 276 (cmpL D n) (n+1):=Tv F O
  have A:=U9 F U h2
  exact⟨expr F (conjunction F A),A⟩
def cT:List UInt8:=[44]
def kt:List UInt8:=[87,72,69,82,69]
def Bu:List UInt8:=[83,69,76,69,67,84]
def jE:List UInt8:=[68,73,83,84,73,78,67,84]
def iO:List UInt8:=[70,82,79,77]
def gS:List UInt8:=[71,82,79,85,80]
def hJ:List UInt8:=[66,89]
def vg:List UInt8:=[85,78,73,79,78]
def uZ:List UInt8:=[69,88,67,69,80,84]
def uI:List UInt8:=[73,78,84,69,82,83,69,67,84]
def hY:List UInt8:=[65,76,76]
def oJ:List UInt8:=[76,69,70,84]
def kK:List UInt8:=[74,79,73,78]
def p5:List UInt8:=[79,78]
def fM:List UInt8:=[65,83]
def kD:List UInt8:=[79,70]
def j6:List UInt8:=[67,79,85,78,84]
def n4:List UInt8:=[83,85,77]
def n5:List UInt8:=[77,73,78]
def n6:List UInt8:=[77,65,88]
def Ak:List UInt8:=[73,78,84]
def zV:List UInt8:=[84,69,88,84]
def zW:List UInt8:=[66,79,79,76]
def mi:List UInt8:=[73,78,84,79]
def ma:List UInt8:=[86,65,76,85,69,83]
def lL:List UInt8:=[70,79,82]
def pw:List UInt8:=[80,79,82,84,73,79,78]
def lv:List UInt8:=[83,69,84]
def dA:List UInt8:=[84,65,66,76,69]
def sH:List UInt8:=[75,69,89]
def my:List UInt8:=[82,69,70,69,82,69,78,67,69,83]
def AK:List UInt8:=[73,78]
def qw:List UInt8:=[78,79,71,65,80]
def qb:List UInt8:=[78,79,79,86,69,82,76,65,80]
def o0:List UInt8:=[65,68,68]
def qI:List UInt8:=[68,82,79,80]
def kj:List UInt8:=[65,84]
def kA:List UInt8:=[68,65,89]
def po:List UInt8:=[86,65,76,73,68,84,73,77,69]
def pn:List UInt8:=[82,69,67,79,82,68,84,73,77,69]
def pr:List UInt8:=[66,79,84,72,84,73,77,69]
def pj:List UInt8:=[78,79,78,83,69,81,85,69,78,67,69,68]
def tm:List UInt8:=[73,78,83,69,82,84]
def tn:List UInt8:=[68,69,76,69,84,69]
def tp:List UInt8:=[85,80,68,65,84,69]
def tq:List UInt8:=[67,82,69,65,84,69]
def tD:List UInt8:=[65,76,84,69,82]
def tN:List UInt8:=[67,73,84,69]
def ts:List UInt8:=[82,69,67,65,76,76]
def tO:List UInt8:=[72,79,76,68]
def qh:List UInt8:=[82,69,76,69,65,83,69]
def qo:List UInt8:=[70,79,82,71,69,84]
def pJ:List UInt8:=[66,69,76,79,87]
def yL:List UInt8:=[85,78,84,73,76]
def Ka:List UInt8:=[84,79]
structure bk(p:PS):Prop where
 st:St p
 d0:p.depth=0
structure b8(p q:PS):Prop where
 top:bk q
 aF:q.aF=p.aF
 aO:p.aO≤q.aO
 er:q.err=0→p.err=0
 pk:p.pk→q.pk
theorem bk.ok{p:PS}(h:bk p):p.ok:=h.st.ok
theorem b8.st{p q:PS}(h:b8 p q):St q:=h.top.st
theorem b8.ok{p q:PS}(h:b8 p q):q.ok:=h.top.st.ok
theorem b8.refl{p:PS}(h:bk p):b8 p p:=⟨h,rfl,bR _,id,id⟩
theorem b8.trans{p q r:PS}(h:b8 p q)(g:b8 q r):b8 p r:=⟨g.top,g.aF.trans h.aF,kx h.aO g.aO,fun k=>h.er (g.er k),fun k=>g.pk (h.pk k)⟩
theorem bO.go{k:Nat}{p q:PS}(a:bO k p q)(h:bk p):b8 p q:=⟨⟨a.st,by rw[a.depth];exact h.d0⟩,a.aF,a.aO,a.er,a.pk⟩
theorem bk.kw{p:PS}(h:bk p)(s:List UInt8):b8 p (p.keyword s).2:=(bO.HH h.st s).go h
theorem bk.sign{p:PS}(h:bk p)(s:List UInt8):b8 p (p.sign s).2:=(bO.zT h.st s).go h
theorem bk.d6{p:PS}(h:bk p)(l:List (List UInt8)):b8 p (p.bc l):=(bO.bc h.st).go h
theorem bk.ij{p:PS}(h:bk p)(s:List UInt8):b8 p (p.bJ s):=(bO.bJ h.st s).go h
theorem bk.fail{p:PS}(h:bk p){e:Int}(he:e≠0):b8 p (p.fail e):=(bO.fail h.st he).go h
theorem bk.take{p:PS}(h:bk p){k e:Int}(hk:k≠6):b8 p (p.take k e).2:=(bO.take h.st hk).go h
theorem bk.name{p:PS}(h:bk p):b8 p p.name.2:=h.take aq
theorem bk.number{p:PS}(h:bk p)(n:Int):b8 p (p.number n).2:=h.take aq
theorem bk.day{p:PS}(h:bk p)(D:Rd):b8 p (p.day D).2:=h.take aq
theorem bk.period{p:PS}(h:bk p)(D:Rd):b8 p (p.period D).2:=h.take aq
theorem bk.literal{p:PS}(h:bk p)(D:Rd):b8 p (p.literal D).2:=by
 by_cases h0:p.err=0
 ·exact(bO.HI h.st D h0).go h
 have:p.literal D=(cI,p):=by unfold PS.literal;rw[az h0]
 rw[this];exact .refl h
def PS.expr(p:PS)(D:Rd):Int×PS:=mh D 61 p
theorem bk.expr{p:PS}(h:bk p)(D:Rd):b8 p (p.expr D).2:=((qn D 61).1 p h.st (by rw[h.d0])).go h
theorem bk.step{p:PS}(h:bk p)(h0:p.err=0)(z:p.aO+1<p.aF.length):b8 p p.step:=(bO.step h.st h0 z).go h
theorem pB{p:PS}(hp:p.ok){s:List UInt8}(h:(p.sign s).1=true):p.aO+1≤(p.sign s).2.aO∧p.aO+1<p.aF.length:=by
 have z:=PS.qg h
 refine⟨by rw[show(p.sign s).2=p.step from z.1];exact bR _,PS.lQ hp aq z.2⟩
theorem nV{p:PS}(hp:p.ok){s:List UInt8}(h:(p.keyword s).1=true):p.aO+1≤(p.keyword s).2.aO∧p.aO+1<p.aF.length:=by
 have z:=PS.qg h
 refine⟨by rw[show(p.keyword s).2=p.step from z.1];exact bR _,PS.lQ hp aq z.2⟩
section
variable{α:Type}
def lg(f:PS→α×PS):Nat→List α→PS→List α×PS
 |0,l,p=>(l,p)
 |k+1,l,p=>if(p.sign cT).1=true then lg f k (l++[(f (p.sign cT).2).1]) (f (p.sign cT).2).2 else(l,p)
def jG(f:PS→α×PS)(p:PS):List α×PS:=lg f p.aF.length [(f p).1] (f p).2
theorem pC{f:PS→α×PS}{p:PS}(h:(p.sign cT).1=true)(k:Nat)(l:List α):lg f (k+1) l p=lg f k (l++[(f (p.sign cT).2).1]) (f (p.sign cT).2).2:=az h
theorem pD{f:PS→α×PS}{p:PS}(h:(p.sign cT).1=false)(l:List α):∀k,lg f k l p=(l,p)
 |0=>rfl
 |k+1=>al (by rw[h];decide)
theorem MU{f:PS→α×PS}(z:∀p,bk p→b8 p (f p).2):∀(k:Nat)(l:List α){p:PS},bk p→b8 p (lg f k l p).2
 |0,l,p,h=>.refl h
 |k+1,l,p,h=>by
  unfold lg
  split
  ·have A:=h.sign cT
   have h2:=A.trans (z _ A.top)
   exact h2.trans (MU z k _ h2.top)
  exact .refl h
theorem yh{f:PS→α×PS}(z:∀p,bk p→b8 p (f p).2){p:PS}(h:bk p):b8 p (jG f p).2:=(z p h).trans (MU z _ _ (z p h).top)
end
def PS.eF(p:PS)(D:Rd):Int×PS:=if(p.keyword kt).1=true then(p.keyword kt).2.expr D else(-1,p)
def PS.set(p:PS)(D:Rd):(List UInt8×Int)×PS:=((p.name.1,((p.name.2.bJ nE).expr D).1),((p.name.2.bJ nE).expr D).2)
def PS.ov(q:PS):Int×PS:=
 if(q.keyword Ak).1=true then(1,(q.keyword Ak).2) else if(q.keyword zV).1=true then(2,(q.keyword zV).2) else if(q.keyword zW).1=true then(3,(q.keyword zW).2) else(0,q.fail 5)
def PS.column(p:PS):(List UInt8×Int)×PS:=((p.name.1,p.name.2.ov.1),p.name.2.ov.2)
def PS.names(p:PS):List (List UInt8)×PS:=((jG PS.name (p.bJ cE)).1,(jG PS.name (p.bJ cE)).2.bJ ee)
def PS.iL(p:PS):Int×PS:=if(p.keyword fM).1=true then((p.keyword fM).2.bc [kD]).number (-1) else(1099511627776,p)
def PS.after(p:PS):cu:=(p.aF[p.aO+1]?).getD PO
def PS.alias(p:PS)(iL:Bool):List UInt8×PS:=
 if p.next 1 fM=false then([],p) else if iL=true∧p.after.kind=1∧p.after.text=kD then([],p) else p.step.name
structure Item where
 agg:Int
 expr:Int
 alias:List UInt8
def Item.enc(x:Item):List DC:=[.i .i64 x.agg,.i .i64 x.expr,cl x.alias]
def PS.agg(p:PS):Int×PS:=
 if(p.keyword n4).1=true then(2,(p.keyword n4).2) else if(p.keyword n5).1=true then(3,(p.keyword n5).2) else if(p.keyword n6).1=true then(4,(p.keyword n6).2) else(0,p)
def PS.gy(p:PS)(D:Rd):Int×PS:=(((p.bJ cE).expr D).1,((p.bJ cE).expr D).2.bJ ee)
def PS.jd(p:PS)(D:Rd):(Int×Int)×PS:=
 if(p.keyword j6).1=true then((1, -1),(((p.keyword j6).2.bJ cE).bJ fv).bJ ee)
 else if p.agg.1=0 then((0,(p.expr D).1),(p.expr D).2)
 else((p.agg.1,(p.agg.2.gy D).1),(p.agg.2.gy D).2)
def PS.item(p:PS)(D:Rd):Item×PS:=(⟨(p.jd D).1.1,(p.jd D).1.2,((p.jd D).2.alias false).1⟩,((p.jd D).2.alias false).2)
structure Src where
 left:Bool
 table:List UInt8
 alias:List UInt8
 on:Int
def Src.enc(x:Src):List DC:=[.b x.left,cl x.table,cl x.alias,.i .i64 x.on]
def PS.source(p:PS)(iL:Bool):Src×PS:=(⟨false,p.name.1,(p.name.2.alias iL).1, -1⟩,(p.name.2.alias iL).2)
def PS.join(p:PS):Option (Bool×PS):=if(p.keyword oJ).1=true then some (true,(p.keyword oJ).2.bc [kK]) else if(p.keyword kK).1=true then some (false,(p.keyword kK).2) else none
def PS.gZ(q:PS)(D:Rd)(left:Bool):Src×PS:=(⟨left,(q.source false).1.table,(q.source false).1.alias,(((q.source false).2.bc [p5]).expr D).1⟩,(((q.source false).2.bc [p5]).expr D).2)
def pK(D:Rd):Nat→List Src→PS→List Src×PS
 |0,l,p=>(l,p)
 |k+1,l,p=>match p.join with
  |none=>(l,p)
  |some (left,q)=>pK D k (l++[(q.gZ D left).1]) (q.gZ D left).2
def PS.kv(p:PS)(D:Rd)(iL:Bool):List Src×PS:=pK D p.aF.length [(p.source iL).1] (p.source iL).2
def PS.kL(p:PS):PS:=if p.err=0∧p.tok.kind≠2 then p.fail 5 else p
def PS.dU(p:PS):Int×PS:=if p.kL.err≠0 then(0,p.kL) else p.kL.gJ
structure Core where
 distinct:Bool
 exprs:List aT
 items:List Item
 src:List Src
 wh:Int
 We:Bool
 group:List Int
def Core.enc(c:Core):List DC:=[.b c.distinct,.fC (c.exprs.map aT.enc),.fC (c.items.map Item.enc),.fC (c.src.map Src.enc),.i .i64 c.wh,.b c.We,.fC (c.group.map fun i=>[.i .i64 i])]
def PS.jk(p:PS):PS:=PS.bc {p with ex:=[]} [Bu]
def PS.items(p:PS)(D:Rd):List Item×PS:=if(p.sign fv).1=true then([],(p.sign fv).2) else jG (fun p=>p.item D) p
def PS.group(p:PS):(Bool×List Int)×PS:=if(p.keyword gS).1=true then((true,(jG PS.dU ((p.keyword gS).2.bc [hJ])).1),(jG PS.dU ((p.keyword gS).2.bc [hJ])).2) else((false,[]),p)
def PS.fU(p:PS):PS:=(p.jk.keyword jE).2
def PS.f5(p:PS)(D:Rd):PS:=(p.fU.items D).2.bc [iO]
def PS.jw(p:PS)(D:Rd)(a:Bool):PS:=((p.f5 D).kv D a).2
def PS.dZ(p:PS)(D:Rd)(a:Bool):PS:=((p.jw D a).eF D).2
def PS.core(p:PS)(D:Rd)(a:Bool):Core×PS:=
 (⟨(p.jk.keyword jE).1,(p.dZ D a).group.2.ex,(p.fU.items D).1,((p.f5 D).kv D a).1,((p.jw D a).eF D).1,(p.dZ D a).group.1.1,(p.dZ D a).group.1.2⟩,(p.dZ D a).group.2)
structure jW where
 gB:List Core
 ops:List Int
def jW.enc(x:jW):List DC:=[.fC (x.gB.map Core.enc),.fC (x.ops.map fun i=>[.i .i64 i])]
def PS.op(p:PS):Option (Int×PS):=
 if(p.keyword vg).1=true then some (6,(p.keyword vg).2) else if(p.keyword uZ).1=true then some (7,(p.keyword uZ).2) else if(p.keyword uI).1=true then some (8,(p.keyword uI).2) else none
def qR(D:Rd)(a:Bool):Nat→jW→PS→jW×PS
 |0,s,p=>(s,p)
 |k+1,s,p=>match p.op with
  |none=>(s,p)
  |some (o,q)=>qR D a k ⟨s.gB++[((q.bc [hY]).core D a).1],s.ops++[o]⟩ ((q.bc [hY]).core D a).2
def PS.dj(p:PS)(D:Rd)(a:Bool):jW×PS:=qR D a p.aF.length ⟨[(p.core D a).1],[]⟩ (p.core D a).2
structure Fk where
 jK:List (List UInt8)
 table:List UInt8
 refs:List (List UInt8)
def gC(l:List (List UInt8)):DC:=.fC (l.map fun s=>[cl s])
def Fk.enc(x:Fk):List DC:=[gC x.jK,cl x.table,gC x.refs]
structure Stmt where
 kind:Int:=0
 mode:Int:=0
 day:Int:=0
 aO:Int:=0
 dj:jW:=⟨[],[]⟩
 table:List UInt8:=[]
 name:List UInt8:=[]
 row:List iA:=[]
 valid:Int×Int:=(0,0)
 exprs:List aT:=[]
 wh:Int:=0
 nC:List (List UInt8×Int):=[]
 jK:List (List UInt8×Int):=[]
 key:List (List UInt8):=[]
 mO:List Fk:=[]
 cons:List (Int×List (List UInt8)):=[]
 n:Int:=0
 xB:Int×Int:=(0,0)
def di(x:List UInt8×Int):List DC:=[.i .i64 0,cl x.1,.i .i64 x.2]
def fm(x:List UInt8×Int):List DC:=[cl x.1,.i .i64 x.2]
def eu(x:Int×List (List UInt8)):List DC:=[.i .i64 x.1,gC x.2]
def Stmt.enc(s:Stmt):List DC:=[.i .i64 s.kind,.i .i64 s.mode,.i .i64 s.day,.i .i64 s.aO,.fC (s.dj.gB.map Core.enc),.fC (s.dj.ops.map fun i=>[.i .i64 i]),cl s.table,cl s.name,.fC (s.row.map iA.enc),.i .i64 s.valid.1,.i .i64 s.valid.2,.fC (s.exprs.map aT.enc),.i .i64 s.wh,.fC (s.nC.map fm),.fC (s.jK.map di),gC s.key,.fC (s.mO.map Fk.enc),.fC (s.cons.map eu),.i .i64 s.n,.i .i64 s.xB.1,.i .i64 s.xB.2]
def PS.lM(p:PS):PS:=(p.bc [mi]).name.2
def PS.ug(p:PS)(D:Rd):List iA×PS:=jG (fun p=>p.literal D) ((p.lM.bc [ma]).bJ cE)
def PS.qS(p:PS)(D:Rd):PS:=((p.ug D).2.bJ ee).bc [lL]
def PS.insert(p:PS)(D:Rd):Stmt×PS:=({kind:=2,table:=(p.bc [mi]).name.1,row:=(p.ug D).1,valid:=((p.qS D).period D).1},((p.qS D).period D).2)
def PS.xC(p:PS):PS:=(p.bc [iO]).name.2.bc [lL,pw,kD]
def PS.n7(p:PS)(D:Rd):PS:=(p.xC.period D).2
def PS.remove(p:PS)(D:Rd):Stmt×PS:=({kind:=3,table:=(p.bc [iO]).name.1,valid:=(p.xC.period D).1,wh:=((p.n7 D).eF D).1,exprs:=((p.n7 D).eF D).2.ex},((p.n7 D).eF D).2)
def PS.hD(p:PS):PS:=p.name.2.bc [lL,pw,kD]
def PS.pV(p:PS)(D:Rd):List (List UInt8×Int)×PS:=jG (fun p=>p.set D) ((p.hD.period D).2.bc [lv])
def PS.update(p:PS)(D:Rd):Stmt×PS:=({kind:=4,table:=p.name.1,valid:=(p.hD.period D).1,nC:=(p.pV D).1,wh:=((p.pV D).2.eF D).1,exprs:=((p.pV D).2.eF D).2.ex},((p.pV D).2.eF D).2)
def PS.uA(p:PS):PS:=p.names.2.bc [AK]
def PS.fk(p:PS):Fk×PS:=(⟨p.names.1,p.uA.name.1,p.uA.name.2.names.1⟩,p.uA.name.2.names.2)
def pW:Nat→List Fk→PS→List Fk×PS
 |0,l,p=>(l,p)
 |k+1,l,p=>if(p.keyword my).1=true then pW k (l++[(p.keyword my).2.fk.1]) (p.keyword my).2.fk.2 else(l,p)
def PS.ik(p:PS):Option (Int×PS):=if(p.keyword qw).1=true then some (1,(p.keyword qw).2) else if(p.keyword qb).1=true then some (2,(p.keyword qb).2) else none
def oO:Nat→List (Int×List (List UInt8))→PS→List (Int×List (List UInt8))×PS
 |0,l,p=>(l,p)
 |k+1,l,p=>match p.ik with
  |none=>(l,p)
  |some (c,q)=>oO k (l++[(c,q.names.1)]) q.names.2
def PS.uh(p:PS):List (List UInt8×Int)×PS:=jG PS.column ((p.bc [dA]).name.2.bJ cE)
def PS.iT(p:PS):PS:=p.uh.2.bJ ee
def PS.key(p:PS):List (List UInt8)×PS:=if(p.keyword sH).1=true then(p.keyword sH).2.names else([],p)
def PS.pX(p:PS):List Fk×PS:=pW p.aF.length [] p.iT.key.2
def PS.vX(p:PS):List (Int×List (List UInt8))×PS:=oO p.aF.length [] p.pX.2
def PS.create(p:PS):Stmt×PS:=({kind:=5,table:=(p.bc [dA]).name.1,jK:=p.uh.1,key:=p.iT.key.1,mO:=p.pX.1,cons:=p.vX.1},p.vX.2)
def PS.gP(p:PS):PS:=(p.bc [dA]).name.2
def PS.alter(p:PS):Stmt×PS:=
 if(p.gP.keyword o0).1=true then({kind:=6,table:=(p.bc [dA]).name.1,jK:=[(p.gP.keyword o0).2.column.1]},(p.gP.keyword o0).2.column.2)
 else if(p.gP.keyword qI).1=true then({kind:=7,table:=(p.bc [dA]).name.1,name:=(p.gP.keyword qI).2.name.1},(p.gP.keyword qI).2.name.2)
 else(({}:Stmt),p.gP.fail 5)
def PS.sv(p:PS)(D:Rd):PS:=(p.dj D false).2.bc [kj,kA]
def PS.rH(p:PS)(D:Rd):Stmt×PS:=({kind:=8,dj:=(p.dj D false).1,day:=((p.sv D).day D).1,aO:=((p.sv D).day D).2.iL.1},((p.sv D).day D).2.iL.2)
def PS.mC(p:PS):PS:=(p.number (-1)).2.bc [iO]
def PS.m6(p:PS):PS:=(p.mC.number (-1)).2.bc [Ka]
def PS.qJ(p:PS):Int×PS:=if(p.m6.keyword yL).1=true then(1099511627776,(p.m6.keyword yL).2) else p.m6.number (p.mC.number (-1)).1
def PS.hold(p:PS):Stmt×PS:=({kind:=10,n:=(p.number (-1)).1,xB:=((p.mC.number (-1)).1,p.qJ.1)},p.qJ.2)
def PS.mode(p:PS):Int×PS:=
 if(p.keyword po).1=true then(2,(p.keyword po).2) else if(p.keyword pn).1=true then(3,(p.keyword pn).2)
 else if(p.keyword pr).1=true then(4,(p.keyword pr).2) else if(p.keyword pj).1=true then(5,(p.keyword pj).2) else(1,p)
def PS.g7(p:PS)(D:Rd):Int×PS:=if(p.keyword kj).1=true then((p.keyword kj).2.bc [kA]).day D else(-1,p)
def PS.query(p:PS)(D:Rd):Stmt×PS:=
 ({kind:=1,mode:=p.mode.1,day:=((p.mode.2.dj D true).2.g7 D).1,aO:=((p.mode.2.dj D true).2.g7 D).2.iL.1,dj:=(p.mode.2.dj D true).1},((p.mode.2.dj D true).2.g7 D).2.iL.2)
def PS.dm(p:PS)(D:Rd):Stmt×PS:=
 if(p.keyword tm).1=true then(p.keyword tm).2.insert D
 else if(p.keyword tn).1=true then(p.keyword tn).2.remove D
 else if(p.keyword tp).1=true then(p.keyword tp).2.update D
 else if(p.keyword tq).1=true then(p.keyword tq).2.create
 else if(p.keyword tD).1=true then(p.keyword tD).2.alter
 else if(p.keyword tN).1=true then(p.keyword tN).2.rH D
 else if(p.keyword ts).1=true then({kind:=9},(p.keyword ts).2)
 else if(p.keyword tO).1=true then(p.keyword tO).2.hold
 else if(p.keyword qh).1=true then({kind:=11,n:=((p.keyword qh).2.number (-1)).1},((p.keyword qh).2.number (-1)).2)
 else if(p.keyword qo).1=true then({kind:=12,n:=(((p.keyword qo).2.bc [pJ]).number (-1)).1},(((p.keyword qo).2.bc [pJ]).number (-1)).2)
 else p.query D
def PS.xD(p:PS):List VV:=[.d (.sl (p.aF.map cu.enc)),dI (p.aO:Nat),dI p.pos,dI p.err,dI (p.depth:Nat),.undef]
def PS.bz(p:PS):bw:=[(1000,.one 123 80 p.xD)]
section
variable{T:bd}{VE:cj}{B L:bw}
theorem gL{p:PS}(z:bf B 1000=some (.one 123 80 p.xD))(A:bn L B):bn (p.bz++L) B:=⟨z,A⟩
theorem gm{p:PS}(z:bf B 1000=some (.one 123 80 p.xD)):bn p.bz B:=⟨z,trivial⟩
theorem FE{σ:List (Nat×Nat)}{N:Nat}{B L:bw}{p:PS}(z:(bf σ 1000).isSome=true)(h2:bf B (cO σ N 1000)=some ((BS.one 123 80 p.xD).cO σ N))(A:rF σ N L B):rF σ N (p.bz++L) B:=⟨z,h2,A⟩
end
section
variable{T:bd}{VE:cj}{B:bw}
def gI:List (Nat×Nat):=[(1000,1000)]
theorem FF{f:Nat}{l:List aI}{cm:List VV}{p A:PS}{R:VV}{Q:VV→bw→Prop}(h:cg T f cm p.bz fun r Bn=>r=R∧Bn=A.bz)(G:bf B 1000=some (.one 123 80 p.xD))
  (I:(lz 2000 VE&&(lA 2000 B&&clean VE (fg gI B) gI))=true) (J:jv VE l=some (jh gI 2000 cm)) (K:R.cO gI 2000=R) (O:Q R (A.bz++fg gI B)):VI T (.call f l) VE B [1000] Q:=by
 obtain⟨U,z⟩:=iX I
 obtain⟨z,Y⟩:=iX z
 exact kn (Bi:=p.bz) gI 2000 rfl rfl U z rfl Y J ⟨rfl,G,trivial⟩ h fun r Bn hp=>by
  obtain⟨rfl,rfl⟩:=hp
  rw[K]
  exact O
theorem eA{d:Key}{A:Option (List Nat)}{r:List bA}{f:Nat}{l:List aI}{cm:List VV}{p z:PS}{R:VV}{Q:cj→bw→Prop}(h:cg T f cm p.bz fun r Bn=>r=R∧Bn=z.bz)(G:bf B 1000=some (.one 123 80 p.xD))
  (I:(lz 2000 VE&&(lA 2000 B&&clean VE (fg gI B) gI))=true) (J:jv VE l=some (jh gI 2000 cm)) (K:R.cO gI 2000=R) (O:VO T r ((d.n,R)::VE) (z.bz++fg gI B) Q):VO T (⟨some d,none,A,.call f l⟩::r) VE B Q:=aj (FF h G I J K O)
theorem JB{d:Key}{m:List Nat}{fl:List FL}{r:List bA}{f:Nat}{l:List aI}{cm:List VV}{p z:PS}{R:VV}{Q:cj→bw→Prop}(h:cg T f cm p.bz fun r Bn=>r=R∧Bn=z.bz)(hk:ox [1000] m fl=true)(A:bf B 1000=some (.one 123 80 p.xD))
  (G:(lz 2000 VE&&(lA 2000 B&&clean VE (fg gI B) gI))=true) (I:jv VE l=some (jh gI 2000 cm)) (J:R.cO gI 2000=R) (K:VQ T r ((d.n,R)::VE) (z.bz++fg gI B) (.un::fl) Q):VQ T (⟨some d,none,some m,.call f l⟩::r) VE B fl Q:=dy hk (FF h A G I J K)
theorem JC{d:Key}{G:Option (List Nat)}{r:List bA}{f:Nat}{l:List aI}{cm:List VV}{p A:PS}{R:VV}{Q:cj→bw→Prop}(h:cg T f cm p.bi fun r Bn=>r=R∧Bn=A.bz)(I:bf B 1000=some (.one 123 80 p.row))(h2:bf B 1050=some (.acc 142 88 8 (p.ex.map aT.enc)))
  (J:(lz 2000 VE&&(lA 2000 B&&clean VE (fg jN B) jN))=true) (K:jv VE l=some (jh jN 2000 cm)) (O:R.cO jN 2000=R) (U:VO T r ((d.n,R)::VE) (A.bz++fg jN B) Q):VO T (⟨some d,none,G,.call f l⟩::r) VE B Q:=by
 obtain⟨Y,z⟩:=iX J
 obtain⟨z,Z⟩:=iX z
 exact aj (kn (Bi:=p.bi) jN 2000 rfl rfl Y z rfl Z K ⟨rfl,I,rfl,h2,trivial⟩ h fun r Bn hp=>by
  obtain⟨rfl,rfl⟩:=hp
  rw[O]
  exact U)
end
theorem vM{T:bd}(F:FT T){D:Rd}(z:iF T D){p:PS}(h:bk p):cg T 214 [.vp 1000 0] p.bi fun r Bn=>r=dI (p.expr D).1∧Bn=PS.bi (p.expr D).2:=(Om F z 61).1 p h.st (by rw[h.d0])
end Go.Ev.Pp
