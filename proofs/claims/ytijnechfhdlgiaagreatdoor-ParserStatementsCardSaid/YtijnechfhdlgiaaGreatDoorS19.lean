/- Part 19 of rules for walks through the code of a program, and of such walks; what each part proves is said by its theorems. -/
import Derived.Test.YtijnechfhdlgiaaGreatDoorS11
import Derived.Test.YtijnechfhdlgiaaGreatDoorS18
set_option linter.unusedVariables false
set_option linter.unusedSimpArgs false
noncomputable section
set_option maxRecDepth 100000
set_option maxHeartbeats 4000000
namespace Go.Ev.Pp
open Go
theorem Um{T:bd}(F:FT T){D:Rd}{n:Nat}(hS:RT T 274 (cmpL D n) (n+1) (10*n+4))(hI:RT T 263 (fb D n) n (10*n)):RT T 263 (fb D (n+1)) (n+1) (10*n+5):=by
 intro a p e N hp hd he hN
 have An:n≤61:=by omega
 refine cL F.acL aa (an 1 aa (aL (ai (ae 1 aa (bV (AL F hp.ok 1 xA) aa aa aa aa (ak 1 aa (aK aa (fun U=>?_) (fun U=>?_))))))))
 ·have G:p.next 1 xA=false:=by simpa using U
  have K:fb D (n+1) p=cmpL D n p:=by rw[x6];unfold nZ;rw[az G]
  refine ai (ae 2 aa (jQ (hS a p e N hp hd he hN) aa aa aa aa (fun e1 I=>?_)))
  refine ak 1 aa (ay ?_)
  rw[K]
  exact⟨_,PS.be a _ e1,aa,⟨aa,aa,trivial⟩,⟨e1,aa,aa,I.dW ah⟩⟩
 have G:p.next 1 xA=true:=by simpa using U
 have J:=PS.lQ hp.ok (kind:=1) aq G
 refine aQ (aL (ai (ae 1 aa (bV (PR F hp.ok (PS.yi G) J) aa aa aa aa (ak 1 aa (aK aa (fun bQ=>?_) (fun bQ=>?_)))))))
 ·have z:p.enter.1=false:=by simpa using bQ
  have K:fb D (n+1) p=(0,p.enter.2):=by rw[x6];unfold nZ;rw[al (by rw[G];decide),az z]
  rw[al (by rw[z];decide)]
  have I:EG p.enter.2 e N:=by rw[PS.yu z];exact he.kV (bO.fail hp aq) (wT ..)
  refine an 2 aa (ay ?_)
  rw[K]
  exact⟨_,PS.be a _ e,aa,⟨aa,aa,trivial⟩,⟨e,aa,aa,I.dW ah⟩⟩
 have z:p.enter.1=true:=by simpa using bQ
 have J:=PS.lQ hp.ok (kind:=1) aq G
 obtain⟨Y,O⟩:=hp.r5 z J
 have A:p.enter.2.step.depth+n=61:=by rw[O];omega
 have gd:=he.deep z
 rw[az z]
 have K:fb D (n+1) p=un (fb D n p.enter.2.step).2.up 11 (fb D n p.enter.2.step).1:=by rw[x6];unfold nZ;rw[al (by rw[G];decide),al (by rw[z];decide)]
 have Z:=(qn D n).2 _ Y A
 have qW:1≤((fb D n p.enter.2.step).2).depth:=by rw[Z.depth,O];omega
 have hrl:=Z.st.ok.lC
 have nF:((((fb D n p.enter.2.step).2).depth:Nat):Int) -Int.ofNat 1=((((fb D n p.enter.2.step).2).depth-1:Nat):Int):=by simp only[bN];omega
 refine aQ (ai (ae 2 aa (jQ (hI a p.enter.2.step e N Y A gd hN) aa aa aa aa (fun e1 I=>?_))))
 refine ak 1 aa (ai (ae 4 aa ?_))
 refine aj (f3 rfl rfl (by simp only[bN];omega) (by simp only[bN];omega) ?_)
 rw[nF]
 refine ak 3 aa (ai (eX (PS.be a (fb D n p.enter.2.step).2.up e1) ⟨aa,aa,trivial⟩ ?_))
 have p9:=I.small Z.st.ok ah
 refine ae 3 aa ?_
 refine aj (f3 rfl rfl (by simp only[ca,bN];omega) (by simp only[ca,bN];omega) ?_)
 obtain⟨v,hv⟩:∃v:Int,(((e1.map aT.enc).length:Nat):Int) -Int.ofNat 1=v:=⟨_,rfl⟩
 rw[hv]
 refine ae 2 aa ?_
 refine aj (eD (rows:=e1.map aT.enc) (ys:=[(⟨11,v,0,[],[],cI⟩:aT).enc]) rfl rfl rfl (.bs (rows:=[(⟨11,v,0,[],[],cI⟩:aT).enc]) rfl) (b0 rfl) (by rw[bE,ca];simp only[cV,dL];omega) (fun h=>by rw[h];rfl) (fun h=>by rw[h];rfl) ?_)
 refine ak 1 aa (ay ?_)
 rw[K]
 exact⟨_,PS.be a (un _ 11 _).2 (e1++[⟨11,v,0,[],[],cI⟩]),rfl,Cj rfl rfl,⟨e1++[⟨11,v,0,[],[],cI⟩],by rw[dx];rfl,rfl,(I.up.un (fun h0=>hv.symm.trans (qm (rX I ((w6 D n).2 _ Y A) h0))) 11).dW ah⟩⟩
theorem Vi{T:bd}(F:FT T){D:Rd}(Lq:kM T D){n:Nat}(hI:RT T 199 (mh D n) n (10*n)):RT T 282 (fD D n) (n+1) (10*n+1):=by
 intro a p e N hp hd he hN
 have An:n≤61:=by omega
 refine cL F.ac1 aa (an 1 aa (aL (an 5 aa (aK aa (fun I=>?_) (fun I=>?_)))))
 ·have h0:¬p.err=0:=by simpa using I
  have A:fD D n p=(0,p):=by unfold fD lX;rw[az h0]
  refine an 2 aa (ay ?_)
  rw[A]
  exact⟨_,PS.be a _ e,aa,⟨aa,aa,trivial⟩,⟨e,aa,aa,he.dW ah⟩⟩
 have h0:p.err=0:=by simpa using I
 refine aQ (aL (ai (ae 1 aa (bV (AL F hp.ok 5 cE) aa aa aa aa (aX (aK aa (fun J=>?_) (fun J=>?_)))))))
 ·have K:p.next 5 cE=true:=J
  have O:=PS.lQ hp.ok (kind:=5) aq K
  refine aL (ai (ae 1 aa (bV (PR F hp.ok h0 O) aa aa aa aa (aX (aK aa (fun U=>?_) (fun U=>?_))))))
  ·have z:p.enter.1=true:=by simpa using U
   have O:=PS.lQ hp.ok (kind:=5) aq K
   obtain⟨hq,Rz⟩:=hp.r5 z O
   have G:p.enter.2.step.depth+n=61:=by rw[Rz];omega
   have gd:=he.deep z
   rw[az z]
   have A:fD D n p=((mh D n p.enter.2.step).1,((mh D n p.enter.2.step).2.bJ ee).up):=by unfold fD lX;rw[al (by simpa using h0),az K,al (by rw[z];decide)];rfl
   have Y:=(qn D n).1 _ hq G
   have mP:=bO.bJ Y.st ee
   have hr:=Y.trans mP
   have qW:1≤(((mh D n p.enter.2.step).2.bJ ee)).depth:=by rw[hr.depth,Rz];omega
   have hrl:=hr.st.ok.lC
   have nF:(((((mh D n p.enter.2.step).2.bJ ee)).depth:Nat):Int) -Int.ofNat 1=(((((mh D n p.enter.2.step).2.bJ ee)).depth-1:Nat):Int):=by simp only[bN];omega
   refine ai (ae 2 aa (jQ (hI a p.enter.2.step e N hq G gd hN) aa aa aa aa (fun e1 g1=>?_)))
   refine ak 1 aa (ai (ae 1 aa (bV (pv F Y.st.ok ee) aa aa aa aa (aX (bC (ae 4 aa ?_))))))
   refine aj (f3 rfl rfl (by simp only[bN];omega) (by simp only[bN];omega) ?_)
   rw[nF]
   refine ak 3 aa (an 2 aa (ay ?_))
   rw[A]
   exact⟨_,PS.be a ((mh D n p.enter.2.step).2.bJ ee).up e1,aa,⟨aa,aa,trivial⟩,⟨e1,aa,aa,((g1.kV mP (sW ..)).up).dW ah⟩⟩
  have z:p.enter.1=false:=by simpa using U
  have A:fD D n p=(0,p.enter.2):=by unfold fD lX;rw[al (by simpa using h0),az K,az z]
  rw[al (by rw[z];decide)]
  have g1:EG p.enter.2 e N:=by rw[PS.yu z];exact he.kV (bO.fail hp aq) (wT ..)
  refine aQ (an 2 aa (ay ?_))
  rw[A]
  exact⟨_,PS.be a _ e,aa,⟨aa,aa,trivial⟩,⟨e,aa,aa,g1.dW ah⟩⟩
 have K:p.next 5 cE=false:=J
 have ua:(p.aF.map cu.enc)[p.aO]?=some p.tok.enc:=by rw[iJ,hp.ok.get];rfl
 refine aQ (aL (eO (bD 8 aa (bG (lF (row:=p.tok.enc) aa aa ua aa ?_)))))
 refine du 3 aa (aK aa (fun Z=>?_) (fun Z=>?_))
 ·have hk:p.tok.kind=2:=by simpa using Z
  have A:fD D n p=p.gJ:=by unfold fD lX;rw[al (by simpa using h0),al (by rw[K];decide),az hk]
  refine ai (ae 2 aa (jQ (NG F a p e N hp trivial he hN) aa aa aa aa (fun e1 g1=>?_)))
  refine ak 1 aa (ay ?_)
  rw[A]
  exact⟨_,PS.be a _ e1,aa,⟨aa,aa,trivial⟩,⟨e1,aa,aa,g1.dW ah⟩⟩
 have hk:¬p.tok.kind=2:=by simpa using Z
 have A:fD D n p=(p.literal D).2.push ⟨1,0,0,[],[],(p.literal D).1⟩:=by unfold fD lX;rw[al (by simpa using h0),al (by rw[K];decide),al hk]
 have gl:EG (p.literal D).2 e N:=he.kV (bO.HI hp D h0) (Tz ..)
 refine aQ (ai (ae 1 aa (aj (PT (MW F Lq hp) aa aa aa (fun v b q k1 k2=>?_)))))
 refine ak 6 aa (aL (an 2 aa (aK aa (fun Dh=>?_) (fun Dh=>?_))))
 ·have hb:b=false:=by simpa using Dh
  obtain⟨hqp,hl⟩:=k2 hb
  obtain rfl:=hqp.symm
  have hle:¬(p.literal D).2.err=0:=by rw[hl,wP h0];decide
  refine ai (ae 1 aa (bV (mD F hp.ok aq) aa aa aa aa (aX (an 2 aa (ay ?_)))))
  rw[A]
  exact⟨_,PS.be a ((p.literal D).2.push ⟨1,0,0,[],[],(p.literal D).1⟩).2 e,rfl,⟨by rw[show((p.literal D).2.push ⟨1,0,0,[],[],(p.literal D).1⟩).2.mn a=(p.literal D).2.mn a from rfl,hl];rfl,rfl,trivial⟩,⟨e,rfl,rfl,⟨fun h=>absurd h hle,by have:=gl.len;show e.length≤(p.literal D).2.aO+_;omega⟩⟩⟩
 have hb:b=true:=by simpa using Dh
 obtain⟨rfl,hl⟩:=k1 hb
 have p9:=gl.small (PS.Ls hp D).ok ah
 refine aQ (ai (ae 4 aa ?_))
 refine aj (eD (rows:=e.map aT.enc) (ys:=[(⟨1,0,0,[],[],v⟩:aT).enc]) rfl rfl rfl (.bs (rows:=[(⟨1,0,0,[],[],v⟩:aT).enc]) rfl) (b0 rfl) (by rw[bE,ca];simp only[cV,dL];omega) (fun h=>by rw[h];rfl) (fun h=>by rw[h];rfl) ?_)
 refine ak 1 aa (ay ?_)
 rw[A]
 exact⟨_,PS.be a ((p.literal D).2.push ⟨1,0,0,[],[],(p.literal D).1⟩).2 (e++[⟨1,0,0,[],[],v⟩]),rfl,Cj rfl rfl,⟨e++[⟨1,0,0,[],[],v⟩],by rw[dx];rfl,rfl,(gl.push (fun h=>by rw[hl h])).dW ah⟩⟩
theorem Oo{T:bd}(F:FT T){D:Rd}(z:kM T D):∀n,RT T 199 (mh D n) n (10*n)∧RT T 263 (fb D n) n (10*n)
 |0=>⟨fun a p e N h G=>absurd h.ok.lC ah,fun a p e N h G=>absurd h.ok.lC ah⟩
 |n+1=>by
  obtain⟨I,h2⟩:=Oo F z n
  have J:=Vi F z I
  have K:RT T 280 (fH D n) (n+1) (10*n+2):=Vh F J
  have O:RT T 278 (eP D n) (n+1) (10*n+3):=ac4 F K
  have U:RT T 274 (cmpL D n) (n+1) (10*n+4):=SX F O
  have A:=Um F U h2
  exact⟨RT.dW (Yr F (Yq F A)) ah,RT.dW A ah⟩
theorem BP{T:bd}(F:FT T){a:Bool}{p:PS}(hp:bk p):cg T 200 [.vp 1000 0] (PS.bq a p) fun r Bn=>r= .d (gC p.names.1)∧Bn=PS.bq a p.names.2:=by
 refine cL F.acb aa ?_
 have U:=hp.ij cE
 have G:∀p,bk p→b8 p (PS.name p).2:=fun _ h=>h.name
 refine an 1 aa (an 1 aa (ai (ae 1 aa (bV (pv F hp.ok cE) aa aa aa aa (aX (ai (ae 2 aa (bV (lI F U.ok) aa aa aa aa (ae 1 aa ?_)))))))))
 refine aj (El (ys:=[[cl (p.bJ cE).name.1]]) 1101 rfl rfl rfl rfl rfl (.bs (rows:=[[cl (p.bJ cE).name.1]]) rfl) (b0 rfl) (by simp only[cV,dL];omega) ?_)
 refine ak 1 aa (aL (bM (d7 (fun k VE B=>∃(l:List _)(q:PS),lg PS.name k l q=(jG PS.name (p.bJ cE))∧l≠[]∧l.length≤q.aO+1∧(p.bJ cE).aF.length≤k+q.aO∧b8 (p.bJ cE) q∧bn [(0,.vp 1000 0),(3,.ac 1101 (l.map (fun s=>[cl s])).length 1)] VE∧bn (PS.bq a q++[(1101,.acc 9 16 1 (l.map (fun s=>[cl s])))]) B) ?_ (k:=(p.bJ cE).aF.length) ⟨[(PS.name (p.bJ cE)).1],(PS.name (p.bJ cE)).2,aa,qz _ _,nm (dp _),ku _ _,G _ U.top,⟨aa,aa,trivial⟩,cU aa ⟨aa,trivial⟩⟩)))
 rintro k VE B⟨l,q,z,K,Z,hk,I,hV,O⟩
 refine eZ (PS.bq a q++[(1101,.acc 9 16 1 (l.map (fun s=>[cl s])))]) O ?_
 have O:bn (PS.bq a q++[(1101,.acc 9 16 1 (l.map (fun s=>[cl s])))]) (PS.bq a q++[(1101,.acc 9 16 1 (l.map (fun s=>[cl s])))]):=cU rfl ⟨rfl,trivial⟩
 have gM:q.aF.length=(p.bJ cE).aF.length:=by rw[I.aF]
 refine db _ _ hV O (aL (ai (ae 1 aa (bV (m7 F I.ok cT) aa aa aa aa (aX (aK aa (fun A=>?_) (fun A=>?_)))))))
 ·have h2:=I.top.sign cT
  have J:=pB I.ok A
  have fZ:=I.ok.eG
  obtain⟨k,rfl⟩:∃k',k=k'+1:=⟨k-1,by have:=J.2;omega⟩
  rw[pC A] at z
  have Y:=h2.trans (G _ h2.top)
  refine aQ (bM (bC (ae 2 aa (bV (lI F h2.top.ok) aa aa aa aa (ae 1 aa ?_)))))
  refine aj (eD (rows:=l.map (fun s=>[cl s])) (ys:=[[cl (PS.name (q.sign cT).2).1]]) rfl rfl rfl (.bs (rows:=[[cl (PS.name (q.sign cT).2).1]]) rfl) (b0 rfl) (by simp only[bE,ca,cV,dL];omega) (fun h=>by rw[h];rfl) (fun h=>by rw[h];rfl) ?_)
  refine ak 1 aa (⟨k,gG k,l++[(PS.name (q.sign cT).2).1],(PS.name (q.sign cT).2).2,z,mX K _,?_,?_,I.trans Y,?_,?_⟩)
  ·have:=Y.aO;have:=J.1;have:=(G _ h2.top).aO;rw[bE,dY];show l.length+1≤(PS.name (q.sign cT).2).2.aO+1;omega
  ·have:=(G _ h2.top).aO;have:=J.1;show(p.bJ cE).aF.length≤k+(PS.name (q.sign cT).2).2.aO;omega
  ·try simp only[dx,e7,gj]
   exact⟨aa,aa,trivial⟩
  try simp only[dx,e7,gj]
  exact cU aa ⟨aa,trivial⟩
 rw[pD A] at z
 rw[PS.iS A]
 refine dJ (ai (ae 1 aa (bV (pv F I.ok ee) aa aa aa aa (aX (ai (ae 1 aa (fN 20 1101 aa aa (fun _=>⟨aa,aa⟩) (ak 1 aa (ay ?_)))))))))
 have hm:p.names=(l,q.bJ ee):=by unfold PS.names;rw[←z]
 rw[hm]
 unfold gC
 exact⟨_,PS.bq a _,aa,⟨aa,trivial⟩,aa,aa⟩
theorem G6{T:bd}(F:FT T){a:Bool}{p:PS}(hp:bk p):cg T 157 [.vp 1000 0] (PS.bq a p) fun r Bn=>r=eU (di p.column.1)∧Bn=PS.bq a p.column.2:=by
 refine cL F.abM aa (an 1 aa (ai (ae 1 aa (bV (lI F hp.ok) aa aa aa aa (ak 3 aa (aL (bM (ai (ae 1 aa ?_)))))))))
 refine bV (gn F hp.name.ok Ak) aa aa aa aa (ak 1 aa (aK aa (fun G=>?_) (fun G=>?_)))
 ·have A:p.column=((p.name.1,1),(p.name.2.keyword Ak).2):=by unfold PS.column PS.ov;rw[az G]
  refine bC (ak 2 aa (an 2 aa (ay ?_)))
  rw[A]
  exact⟨_,PS.bq a _,aa,⟨aa,trivial⟩,aa,aa⟩
 rw[PS.da G]
 refine ai (ae 1 aa (bV (gn F hp.name.ok zV) aa aa aa aa (ak 1 aa (aK aa (fun bQ=>?_) (fun bQ=>?_)))))
 ·have A:p.column=((p.name.1,2),(p.name.2.keyword zV).2):=by unfold PS.column PS.ov;rw[al (by rw[G];decide),az bQ]
  refine bC (ak 2 aa (an 2 aa (ay ?_)))
  rw[A]
  exact⟨_,PS.bq a _,aa,⟨aa,trivial⟩,aa,aa⟩
 rw[PS.da bQ]
 refine ai (ae 1 aa (bV (gn F hp.name.ok zW) aa aa aa aa (ak 1 aa (aK aa (fun z=>?_) (fun z=>?_)))))
 ·have A:p.column=((p.name.1,3),(p.name.2.keyword zW).2):=by unfold PS.column PS.ov;rw[al (by rw[G];decide),al (by rw[bQ];decide),az z]
  refine bC (ak 2 aa (an 2 aa (ay ?_)))
  rw[A]
  exact⟨_,PS.bq a _,aa,⟨aa,trivial⟩,aa,aa⟩
 have A:p.column=((p.name.1,0),p.name.2.fail 5):=by unfold PS.column PS.ov;rw[al (by rw[G];decide),al (by rw[bQ];decide),al (by rw[z];decide)]
 rw[PS.da z]
 refine bC (ae 1 aa (bV (mD F hp.name.ok aq) aa aa aa aa (aX (an 2 aa (ay ?_)))))
 rw[A]
 exact⟨_,PS.bq a _,aa,⟨aa,trivial⟩,aa,aa⟩
theorem NH{p:PS}{e:Int}(he:e≠0):¬(p.fail e).err=0:=by unfold PS.fail;split<;>assumption
theorem Mb{T:bd}(F:FT T){D:Rd}(J:kM T D){a:Bool}{p:PS}(hp:St p):cg T 150 [.vp 1000 0] (PS.bq a p) fun r Bn=>(∃v:iA,r=eU v.enc∧((p.literal D).2.err=0→v=(p.literal D).1))∧Bn=PS.bq a (p.literal D).2:=by
 refine cL F.abG aa (an 1 aa (ai (ae 1 aa (aj (PT (MW F J hp) aa aa aa (fun v b q K O=>?_))))))
 refine ak 6 aa (aL (an 2 aa (aK aa (fun z=>?_) (fun z=>?_))))
 ·have A:b=false:=by simpa using z
  obtain⟨G,I⟩:=O A
  obtain rfl:=G.symm
  rw[I]
  exact bC (ae 1 aa (bV (mD F hp.ok aq) aa aa aa aa (aX (an 2 aa (ay (⟨_,PS.bq a (p.fail 5),aa,⟨aa,trivial⟩,⟨v,aa,fun k=>absurd k (NH aq)⟩,aa⟩))))))
 have A:b=true:=by simpa using z
 obtain⟨rfl,I⟩:=K A
 exact aQ (an 2 aa (ay (⟨_,PS.bq a _,aa,⟨aa,trivial⟩,⟨v,aa,I⟩,aa⟩)))
theorem Ia{T:bd}(F:FT T){a:Bool}{p:PS}(hp:bk p)(f:Bool):cg T 204 [.vp 1000 0,dB f] (PS.bq a p) fun r Bn=>r=eU (p.source (f&&a)).1.enc∧Bn=PS.bq a (p.source (f&&a)).2:=by
 refine cL F.acg aa ?_
 have hN:=hp.name.top
 refine an 1 aa (ai (ae 1 aa (bV (lI F hp.ok) aa aa aa aa (ak 3 aa (aL (ai (ae 1 aa (bV (AL F hN.ok 1 fM) aa aa aa aa (ak 1 aa ?_)))))))))
 refine aK aa (fun U=>?_) (fun U=>?_)
 ·have K:p.name.2.next 1 fM=false:=by simpa using U
  have I:p.source (f&&a)=(⟨false,p.name.1,[], -1⟩,p.name.2):=by unfold PS.source PS.alias;rw[az K]
  refine an 2 aa (ay ?_)
  rw[I]
  exact⟨_,PS.bq a _,aa,⟨aa,trivial⟩,aa,aa⟩
 have K:p.name.2.next 1 fM=true:=by simpa using U
 have J:=PS.yi K
 have ew:=PS.lQ hN.ok (kind:=1) aq K
 have fZ:=hN.ok.eG
 have Z:=hN.step J ew
 have O:(p.name.2.aF.map cu.enc)[p.name.2.aO+1]?=some p.name.2.after.enc:=by rw[iJ,fe ew];unfold PS.after;rw[fe ew];rfl
 refine aQ (aL (eO (bD 2 aa (wN (g:=aZ) aa (fun G=>?_) (fun G=>?_)))))
 ·refine ey aa (G) (bY aa ?_)
  refine ey aa (G) (qc aa ?_)
  refine ey aa (G) (dD aa ?_)
  refine iR aa (G) aa (df aa aa aa ?_)
  refine bG (c8 aa (G) aa ?_)
  refine bD 1 aa (wN (g:=bm) aa (fun z=>?_) (fun z=>?_))
  ·refine ey aa (z) (bY aa ?_)
   refine ey aa (z) (qc aa ?_)
   refine ey aa (z) (dD aa ?_)
   refine iR aa (z) aa (df aa aa aa ?_)
   refine ey aa (z) (bY aa ?_)
   refine ey aa (z) (qc aa ?_)
   refine ey aa (z) (dD aa ?_)
   refine iR aa (z) aa (df aa aa aa ?_)
   refine ey aa (z) (cM aa aa ah ?_)
   refine ey aa (z) (lF (row:=p.name.2.after.enc) aa aa O aa ?_)
   refine ey aa (z) (oj aa ?_)
   refine iR aa (z) aa (km aa aa ?_)
   refine ey aa (z) (iC aa aa ?_)
   refine bG (c8 aa (z) aa ?_)
   refine bD 1 aa (wN (g:=cr) aa (fun A=>?_) (fun A=>?_))
   ·skip
    refine ey aa (A) (bY aa ?_)
    refine ey aa (A) (qc aa ?_)
    refine ey aa (A) (dD aa ?_)
    refine iR aa (A) aa (df aa aa aa ?_)
    refine ey aa (A) (bY aa ?_)
    refine ey aa (A) (qc aa ?_)
    refine ey aa (A) (dD aa ?_)
    refine iR aa (A) aa (df aa aa aa ?_)
    refine ey aa (A) (cM aa aa ah ?_)
    refine ey aa (A) (lF (row:=p.name.2.after.enc) aa aa O aa ?_)
    refine ey aa (A) (oj aa ?_)
    refine iR aa (A) aa (km aa aa ?_)
    refine ey aa (A) (nL (b:=kD) aa aa ?_)
    refine bG (c8 aa (A) aa ?_)
    refine ow (aK aa (fun Y=>?_) (fun Y=>?_))
    ·have I:p.source (f&&a)=(⟨false,p.name.1,[], -1⟩,p.name.2):=by unfold PS.source PS.alias;rw[al (by rw[K];decide),az ⟨by rw[G,z];rfl,by simpa using A,by simpa using Y⟩]
     refine an 2 aa (ay ?_)
     rw[I]
     exact⟨_,PS.bq a _,aa,⟨aa,trivial⟩,aa,aa⟩
    have I:p.source (f&&a)=(⟨false,p.name.1,p.name.2.step.name.1, -1⟩,p.name.2.step.name.2):=by unfold PS.source PS.alias;rw[al (by rw[K];decide),al (fun k=>absurd k.2.2 (by simpa using Y))]
    refine aQ (ai (ae 4 aa (aj (cM aa aa ah ?_))))
    refine ak 3 aa (ai ?_)
    refine eX (PS.bq a p.name.2.step++[(5,.one 169 48 [dB false,dS p.name.1,dS [],dI (-1)]),(4,.one 169 48 [dB false,dS [],dS [],d0])]) (cU (by rw[uN J];rfl) ⟨rfl,rfl,trivial⟩) ?_
    refine ae 1 aa (bV (lI F Z.ok) aa aa aa aa (ak 2 aa (an 2 aa (ay ?_))))
    rw[I]
    exact⟨_,PS.bq a _,aa,⟨aa,trivial⟩,aa,aa⟩
   have I:p.source (f&&a)=(⟨false,p.name.1,p.name.2.step.name.1, -1⟩,p.name.2.step.name.2):=by unfold PS.source PS.alias;rw[al (by rw[K];decide),al (fun k=>absurd k.2.1 (by simpa using A))]
   refine dh aa (A) (dh aa (A) (dh aa (A) (ji aa (A) (dh aa (A) (dh aa (A) (dh aa (A) (ji aa (A) (dh aa (A) (dh aa (A) ?_)))))))))
   refine dh aa (A) (ji aa (A) (dh aa (A) (bG (cS aa (A) aa ?_))))
   refine ow (ef aa aa (aQ (ai (ae 4 aa (aj (cM aa aa ah ?_))))))
   refine ak 3 aa (ai ?_)
   refine eX (PS.bq a p.name.2.step++[(5,.one 169 48 [dB false,dS p.name.1,dS [],dI (-1)]),(4,.one 169 48 [dB false,dS [],dS [],d0])]) (cU (by rw[uN J];rfl) ⟨rfl,rfl,trivial⟩) ?_
   refine ae 1 aa (bV (lI F Z.ok) aa aa aa aa (ak 2 aa (an 2 aa (ay ?_))))
   rw[I]
   exact⟨_,PS.bq a _,aa,⟨aa,trivial⟩,aa,aa⟩
  have I:p.source (f&&a)=(⟨false,p.name.1,p.name.2.step.name.1, -1⟩,p.name.2.step.name.2):=by unfold PS.source PS.alias;rw[al (by rw[K];decide),al (fun k=>absurd k.1 (by rw[z];simp))]
  refine dh aa (z) (dh aa (z) (dh aa (z) (ji aa (z) (dh aa (z) (dh aa (z) (dh aa (z) (ji aa (z) (dh aa (z) (dh aa (z) ?_)))))))))
  refine dh aa (z) (ji aa (z) (dh aa (z) (bG (cS aa (z) aa ?_))))
  refine bD 1 aa (dh aa aa (dh aa aa (dh aa aa (ji aa aa (dh aa aa (dh aa aa (dh aa aa (ji aa aa (dh aa aa ?_)))))))))
  refine dh aa aa (dh aa aa (ji aa aa (dh aa aa (du 1 aa (ef aa aa (aQ (ai (ae 4 aa (aj (cM aa aa ah ?_))))))))))
  refine ak 3 aa (ai ?_)
  refine eX (PS.bq a p.name.2.step++[(5,.one 169 48 [dB false,dS p.name.1,dS [],dI (-1)]),(4,.one 169 48 [dB false,dS [],dS [],d0])]) (cU (by rw[uN J];rfl) ⟨rfl,rfl,trivial⟩) ?_
  refine ae 1 aa (bV (lI F Z.ok) aa aa aa aa (ak 2 aa (an 2 aa (ay ?_))))
  rw[I]
  exact⟨_,PS.bq a _,aa,⟨aa,trivial⟩,aa,aa⟩
 have I:p.source (f&&a)=(⟨false,p.name.1,p.name.2.step.name.1, -1⟩,p.name.2.step.name.2):=by unfold PS.source PS.alias;rw[al (by rw[K];decide),al (fun k=>absurd k.1 (by rw[G];simp))]
 refine dh aa (G) (dh aa (G) (dh aa (G) (ji aa (G) (bG (cS aa (G) aa ?_)))))
 refine bD 1 aa (dh aa aa (dh aa aa (dh aa aa (ji aa aa (dh aa aa (dh aa aa (dh aa aa (ji aa aa (dh aa aa ?_)))))))))
 refine dh aa aa (dh aa aa (ji aa aa (dh aa aa (bD 2 aa (dh aa aa (dh aa aa (dh aa aa (ji aa aa (dh aa aa ?_)))))))))
 refine dh aa aa (dh aa aa (ji aa aa (dh aa aa (dh aa aa (dh aa aa (ji aa aa (dh aa aa (du 1 aa (ef aa aa ?_)))))))))
 refine aQ (ai (ae 4 aa (aj (cM aa aa ah ?_))))
 refine ak 3 aa (ai ?_)
 refine eX (PS.bq a p.name.2.step++[(5,.one 169 48 [dB false,dS p.name.1,dS [],dI (-1)]),(4,.one 169 48 [dB false,dS [],dS [],d0])]) (cU (by rw[uN J];rfl) ⟨rfl,rfl,trivial⟩) ?_
 refine ae 1 aa (bV (lI F Z.ok) aa aa aa aa (ak 2 aa (an 2 aa (ay ?_))))
 rw[I]
 exact⟨_,PS.bq a _,aa,⟨aa,trivial⟩,aa,aa⟩
end Go.Ev.Pp
namespace Go.Ev
open Go
variable{T:bd}{VE:cj}{B:bw}{R:Ex→cj→bw→Prop}
theorem ri{a b:IC}(M:cj→bw→Prop)(I:∀VE B,M VE B→VC T b VE B R)(J:VC T a VE B fun x eB B'=>match x with|.normal=>M eB B'|x=>R x eB B'):VC T (.seq a b) VE B R:=
 aL fun H0 X0 E H β K=>(J H0 X0 E H β K).mono fun x E' H' hp=>by
  obtain⟨eB,B',β',A,z,G⟩:=hp
  cases x with
  |normal=>exact⟨eB,B',β',A,z,I _ _ G⟩
  |exit id=>exact⟨eB,B',β',A,z,G⟩
  |ret=>exact⟨eB,B',β',A,z,G⟩
end Go.Ev
namespace Go.Ev.Pp
open Go
variable{p q:PS}{a:Bool}{D:Rd}{e:List aT}{N M n:Nat}
def Xw:List (List UInt8):=[n4,n5,n6]
def zZ(i:Nat):List UInt8:=(Xw[i]?).getD []
def PS.mo(p:PS):Nat→Int×PS
 |0=>(Int.ofNat 0,p)
 |i+1=>if(p.mo i).1=0 then(if((p.mo i).2.keyword (zZ i)).1=true then(Int.ofNat 2+(i:Nat),((p.mo i).2.keyword (zZ i)).2) else p.mo i) else p.mo i
theorem EU{i:Nat}{g:Int}(h:p.mo i=(g,q))(z:g=0)(hk:(q.keyword (zZ i)).1=true):p.mo (i+1)=(Int.ofNat 2+(i:Nat),(q.keyword (zZ i)).2):=by
 unfold PS.mo;rw[h,az z,az hk]
theorem EV{i:Nat}{g:Int}(h:p.mo i=(g,q))(z:g=0)(hk:(q.keyword (zZ i)).1=false):p.mo (i+1)=(g,q):=by
 unfold PS.mo;rw[h,az z,al (by rw[hk];decide)]
theorem EW{i:Nat}{g:Int}(h:p.mo i=(g,q))(z:¬g=0):p.mo (i+1)=(g,q):=by
 unfold PS.mo;rw[h,al z]
theorem PU(p:PS):p.mo 3=p.agg:=by
 have h0:p.mo 0=(0,p):=rfl
 unfold PS.agg
 cases G:(p.keyword n4).1
 ·have A:=EV h0 rfl G
  cases h2:(p.keyword n5).1
  ·have z:=EV A rfl h2
   cases I:(p.keyword n6).1
   ·rw[EV z rfl I];simp
   rw[EU z rfl I];simp;rfl
  have z:=EU A rfl h2
  rw[EW z aq];simp;rfl
 have A:=EU h0 rfl G
 have z:=EW A aq
 rw[EW z aq];simp;rfl
theorem Eu(p:PS):∀i,(p.mo i).2.ex=p.ex
 |0=>rfl
 |i+1=>by
  unfold PS.mo
  split
  ·split
   ·rw[show∀(q:PS)s,(q.keyword s).2.ex=q.ex from mQ];exact Eu p i
   exact Eu p i
  exact Eu p i
theorem Ys(h:p.agg.1=0):p.agg.2=p:=by
 unfold PS.agg at h⊢
 repeat' split at h
 all_goals first|exact absurd h aq|(simp_all)
theorem EG.go2(h:EG p e N)(g:b8 p q)(z:q.ex=p.ex):EG q e N:=h.go (fun h0=>⟨g.er h0,z⟩) g.aO
theorem vh{T:bd}(F:FT T){D:Rd}(A:kM T D){a:Bool}{p:PS}{e:List aT}{N:Nat}(h:bk p)(he:EG p e N)(hN:N≤100000):cg T 199 [.vp 1000 0,.ac 1050 (e.map aT.enc).length 8] (p.be a e) fun r Bn=>∃z,r= .ac 1050 (z.map aT.enc).length 8∧Bn=(p.expr D).2.be a z∧EG (p.expr D).2 z (N+610):=
 (Oo F A 61).1 a p e N h.st (by rw[h.d0]) he hN
theorem rS(h:bk p)(he:EG (p.expr D).2 e N)(h0:(p.expr D).2.err=0):(((e.map aT.enc).length:Nat):Int) -Int.ofNat 1=(p.expr D).1:=qm (rX he ((w6 D 61).1 p h.st (by rw[h.d0])) h0)
theorem yj(r:PS):r.alias false=if(r.keyword fM).1=true then(r.keyword fM).2.name else([],r):=by
 unfold PS.alias PS.keyword PS.accept
 cases h:r.next 1 fM
 ·simp
 simp
theorem wR(r:PS)(b:Bool):(r.alias b).2.ex=r.ex:=by
 unfold PS.alias
 split
 ·rfl
 split
 ·rfl
 exact rf ..
def PS.ib(a:Bool)(q:PS)(d:Bool)(e:List aT)(cF:List Item):bw:=[(1000,.one 164 64 (q.mn a)),(1001,.one 106 120 [dB d,.ac 1050 (e.map aT.enc).length 8,.ac 1051 (cF.map Item.enc).length 3,dN,dI (-1),dB false,dN]),(1050,.acc 142 88 8 (e.map aT.enc)),(1051,.acc 167 32 3 (cF.map Item.enc))]
theorem yO{B:bw}{d:Bool}{cF:List Item}{z:Item}(A:bf B 1000=some (.one 164 64 (q.mn a)))(h2:bf B 1001=some (.one 106 120 [dB d,.ac 1050 (e.map aT.enc).length 8,.ac 1051 (cF.map Item.enc++[z.enc]).length 3,dN,dI (-1),dB false,dN]))(G:bf B 1050=some (.acc 142 88 8 (e.map aT.enc)))(I:bf B 1051=some (.acc 167 32 3 (cF.map Item.enc++[z.enc]))):bn (q.ib a d e (cF++[z])) B:=by
 unfold PS.ib
 rw[dx]
 exact⟨A,h2,G,I,trivial⟩
theorem PV{T:bd}(F:FT T){D:Rd}(Lq:kM T D){a:Bool}{p:PS}(hp:bk p)(d:Bool){e:List aT}{cF:List Item}{N:Nat}(he:EG p e N)(hN:N≤100000)(hl:cF.length≤100000):cg T 203 [.vp 1000 0,.vp 1001 0] (PS.ib a p d e cF) fun r Bn=>∃e' it,r= .tuple []∧Bn=PS.ib a (p.item D).2 d e' (cF++[it])∧EG (p.item D).2 e' (N+620)∧((p.item D).2.err=0→it=(p.item D).1):=by
 refine cL F.acf aa ?_
 have p9:=he.small hp.ok ah
 refine eZ (PS.bq a p++[(1001,.one 106 120 [dB d,.ac 1050 (e.map aT.enc).length 8,.ac 1051 (cF.map Item.enc).length 3,dN,dI (-1),dB false,dN]),(1050,.acc 142 88 8 (e.map aT.enc)),(1051,.acc 167 32 3 (cF.map Item.enc))]) (cU aa ⟨aa,aa,aa,trivial⟩) (an 3 aa (an 3 aa (aL (ai (ae 1 aa (bV (gn F hp.ok j6) aa aa aa aa (aX (aK aa (fun Di=>?_) (fun Di=>?_)))))))))
 ·have hb:p.jd D=((1, -1),((((p.keyword j6).2.bJ cE).bJ fv).bJ ee)):=by unfold PS.jd;rw[az Di]
  have g1:=hp.kw j6
  have Y:=g1.trans (g1.top.ij cE)
  have Z:=Y.trans (Y.top.ij fv)
  have O:=Z.trans (Z.top.ij ee)
  have J:EG ((((p.keyword j6).2.bJ cE).bJ fv).bJ ee) e (N+620):=(he.go2 O (by rw[sW,sW,sW,mQ])).dW ah
  refine ai (ae 1 aa (bV (pv F g1.ok cE) aa aa aa aa (aX (ai (ae 1 aa (bV (pv F Y.ok fv) aa aa aa aa (aX (ai (ae 1 aa ?_)))))))))
  refine bV (pv F Z.ok ee) aa aa aa aa (aX (an 2 aa (bC (ak 2 aa (aL (ai (ae 1 aa (bV (gn F O.ok fM) aa aa aa aa (aX ?_)))))))))
  refine aK aa (fun G=>?_) (fun G=>?_)
  ·have z:=yj ((((p.keyword j6).2.bJ cE).bJ fv).bJ ee)
   have K:=O.top.alias false
   have U:EG (((((p.keyword j6).2.bJ cE).bJ fv).bJ ee).alias false).2 e (N+620):=J.go2 K (wR ..)
   rw[az G] at z
   rw[z] at U K
   have hm:p.item D=(⟨1, -1,(((((p.keyword j6).2.bJ cE).bJ fv).bJ ee).keyword fM).2.name.1⟩,(((((p.keyword j6).2.bJ cE).bJ fv).bJ ee).keyword fM).2.name.2):=by unfold PS.item;rw[hb,z]
   refine bC (ae 1 aa (bV (lI F (O.trans (O.top.kw fM)).ok) aa aa aa aa (ak 2 aa (im (bD 7 aa ?_)))))
   refine dy rfl (eD (rows:=cF.map Item.enc) (ys:=[(⟨1,(-1),(((((p.keyword j6).2.bJ cE).bJ fv).bJ ee).keyword fM).2.name.1⟩:Item).enc]) rfl rfl rfl (.bs (rows:=[(⟨1,(-1),(((((p.keyword j6).2.bJ cE).bJ fv).bJ ee).keyword fM).2.name.1⟩:Item).enc]) rfl) (b0 rfl) (by rw[bE,ca];simp only[cV,dL];omega) (fun h=>by rw[h];rfl) (fun h=>by rw[h];rfl) ?_)
   refine du 3 aa ?_
   rw[hm]
   exact⟨_,PS.ib a (((((p.keyword j6).2.bJ cE).bJ fv).bJ ee).keyword fM).2.name.2 d e (cF++[(⟨1,(-1),(((((p.keyword j6).2.bJ cE).bJ fv).bJ ee).keyword fM).2.name.1⟩:Item)]),aa,yO aa aa aa aa,⟨e,(⟨1,(-1),(((((p.keyword j6).2.bJ cE).bJ fv).bJ ee).keyword fM).2.name.1⟩:Item),aa,aa,U,fun h0=>aa⟩⟩
  have z:=yj ((((p.keyword j6).2.bJ cE).bJ fv).bJ ee)
  have K:=O.top.alias false
  have U:EG (((((p.keyword j6).2.bJ cE).bJ fv).bJ ee).alias false).2 e (N+620):=J.go2 K (wR ..)
  rw[al (by rw[G];decide)] at z
  rw[z] at U K
  rw[PS.da G]
  have hm:p.item D=(⟨1, -1,[]⟩,((((p.keyword j6).2.bJ cE).bJ fv).bJ ee)):=by unfold PS.item;rw[hb,z]
  refine aQ (im (bD 7 aa ?_))
  refine dy rfl (eD (rows:=cF.map Item.enc) (ys:=[(⟨1,(-1),[]⟩:Item).enc]) rfl rfl rfl (.bs (rows:=[(⟨1,(-1),[]⟩:Item).enc]) rfl) (b0 rfl) (by rw[bE,ca];simp only[cV,dL];omega) (fun h=>by rw[h];rfl) (fun h=>by rw[h];rfl) ?_)
  refine du 3 aa ?_
  rw[hm]
  exact⟨_,PS.ib a ((((p.keyword j6).2.bJ cE).bJ fv).bJ ee) d e (cF++[(⟨1,(-1),[]⟩:Item)]),aa,yO aa aa aa aa,⟨e,(⟨1,(-1),[]⟩:Item),aa,aa,U,fun h0=>aa⟩⟩
 rw[PS.da Di]
 refine aL (an 1 aa (bM (d7 (fun k VE B=>∃(i:Nat)(g:Int)(q:PS),i≤3∧k=3-i∧p.mo i=(g,q)∧b8 p q∧bn [(0,.vp 1000 0),(1,.vp 1001 0),(4,.vp 4 0),(5,.vp 5 0),(6,dI (i:Nat))] VE∧bn (PS.bq a q++[(1001,.one 106 120 [dB d,.ac 1050 (e.map aT.enc).length 8,.ac 1051 (cF.map Item.enc).length 3,dN,dI (-1),dB false,dN]),(1050,.acc 142 88 8 (e.map aT.enc)),(1051,.acc 167 32 3 (cF.map Item.enc)),(4,.one 167 32 [dI g,d0,dS []]),(5,.one 248 48 [VV.d (cl n4),dS n5,dS n6])]) B) ?_ (k:=3) ⟨0,Int.ofNat 0,p,aq,aa,aa,.refl hp,⟨aa,aa,aa,aa,aa,trivial⟩,cU aa ⟨aa,aa,aa,aa,aa,trivial⟩⟩)))
 rintro k VE B⟨i,g,q,hi,rfl,hP,hq,hV,hB⟩
 refine eZ (PS.bq a q++[(1001,.one 106 120 [dB d,.ac 1050 (e.map aT.enc).length 8,.ac 1051 (cF.map Item.enc).length 3,dN,dI (-1),dB false,dN]),(1050,.acc 142 88 8 (e.map aT.enc)),(1051,.acc 167 32 3 (cF.map Item.enc)),(4,.one 167 32 [dI g,d0,dS []]),(5,.one 248 48 [VV.d (cl n4),dS n5,dS n6])]) hB ?_
 have hB:bn (PS.bq a q++[(1001,.one 106 120 [dB d,.ac 1050 (e.map aT.enc).length 8,.ac 1051 (cF.map Item.enc).length 3,dN,dI (-1),dB false,dN]),(1050,.acc 142 88 8 (e.map aT.enc)),(1051,.acc 167 32 3 (cF.map Item.enc)),(4,.one 167 32 [dI g,d0,dS []]),(5,.one 248 48 [VV.d (cl n4),dS n5,dS n6])]) (PS.bq a q++[(1001,.one 106 120 [dB d,.ac 1050 (e.map aT.enc).length 8,.ac 1051 (cF.map Item.enc).length 3,dN,dI (-1),dB false,dN]),(1050,.acc 142 88 8 (e.map aT.enc)),(1051,.acc 167 32 3 (cF.map Item.enc)),(4,.one 167 32 [dI g,d0,dS []]),(5,.one 248 48 [VV.d (cl n4),dS n5,dS n6])]):=cU rfl ⟨rfl,rfl,rfl,rfl,rfl,trivial⟩
 refine db _ _ hV hB (aL (an 2 aa (aK aa (fun rL=>?_) (fun rL=>?_))))
 ·have Dj:i<3:=by simp at rL;omega
  obtain⟨s,hs,hk⟩:∃s,zZ i=s∧[VV.d (cl n4),.d (cl n5),.d (cl n6)][0+i*1]?=some (.d (cl s)):=by
   rcases(by omega:i=0∨i=1∨i=2) with rfl|rfl|rfl<;>exact⟨_,rfl,rfl⟩
  refine aQ (aL (bM (ai (ae 4 aa (dc (g:=bX) aa (fun A=>?_) (fun A=>?_))))))
  ·have hg:g=0:=by simpa using A
   refine aw aa (A) (bY aa ?_)
   refine aw aa (A) (bY aa ?_)
   refine aw aa (A) (eg aa aa Dj ?_)
   refine aw aa (A) (df aa aa hk ?_)
   refine aw aa (A) (xk (gn F hq.ok s) aa aa aa aa ?_)
   refine aj (c8 aa (A) aa ?_)
   refine aX (aK aa (fun p7=>?_) (fun p7=>?_))
   ·have hA:=EU hP hg (by rw[hs];exact p7)
    rw[hs] at hA
    have Dk:=hq.trans (hq.top.kw s)
    refine bC (ae 1 aa (aj (uX aa aa ?_)))
    rw[wrap_i64 (by simp only[bN];omega) (by simp only[bN];omega)]
    refine ak 2 aa (bC (ae 1 aa (aj (cM aa aa ah ?_))))
    exact ak 1 aa (⟨3-(i+1),ah,i+1,_,_,ah,aa,hA,Dk,⟨aa,aa,aa,aa,aa,trivial⟩,cU aa ⟨aa,aa,aa,aa,aa,trivial⟩⟩)
   have hA:=EV hP hg (by rw[hs];exact p7)
   have Dk:=hq
   rw[PS.da p7]
   refine aQ (bC (ae 1 aa (aj (cM aa aa ah ?_))))
   exact ak 1 aa (⟨3-(i+1),ah,i+1,_,_,ah,aa,hA,Dk,⟨aa,aa,aa,aa,aa,trivial⟩,cU aa ⟨aa,aa,aa,aa,aa,trivial⟩⟩)
  have hg:¬g=0:=by simpa using A
  have hA:=EW hP hg
  have Dk:=hq
  refine aY aa (A) (aY aa (A) (aY aa (A) (aY aa (A) (aY aa (A) (aj (cS aa (A) aa ?_))))))
  refine aX (ef aa aa (aQ (bC (ae 1 aa (aj (cM aa aa ah ?_))))))
  exact ak 1 aa (⟨3-(i+1),ah,i+1,_,_,ah,aa,hA,Dk,⟨aa,aa,aa,aa,aa,trivial⟩,cU aa ⟨aa,aa,aa,aa,aa,trivial⟩⟩)
 have h3:i=3:=by simp at rL;omega
 subst h3
 rw[PU] at hP
 have hx:q.ex=p.ex:=by have:=Eu p 3;rw[PU,hP] at this;exact this
 refine dJ (aL (an 3 aa (aK aa (fun xO=>?_) (fun xO=>?_))))
 ·have hg:¬g=0:=by simpa using xO
  have hb:p.jd D=((g,(q.gy D).1),(q.gy D).2):=by unfold PS.jd;rw[al (by rw[Di];decide),hP,al hg]
  have g1:=hq.trans (hq.top.ij cE)
  have Y:=g1.trans (g1.top.expr D)
  have O:b8 p (q.gy D).2:=Y.trans (Y.top.ij ee)
  have hz:EG (q.bJ cE) e N:=he.go2 g1 (by rw[sW,hx])
  refine bC (ae 1 aa (bV (pv F hq.ok cE) aa aa aa aa (aX (ai (ae 6 aa (jX 1001 1 aa aa (eX (PS.bq a (q.bJ cE)++[(1001,.one 106 120 [dB d,.undef,.ac 1051 (cF.map Item.enc).length 3,dN,dI (-1),dB false,dN]),(1050,.acc 142 88 8 (e.map aT.enc)),(1051,.acc 167 32 3 (cF.map Item.enc)),(4,.one 167 32 [dI g,d0,dS []]),(5,.one 248 48 [VV.d (cl n4),dS n5,dS n6])]) (cU aa ⟨aa,aa,aa,aa,aa,trivial⟩) (jQ (vh F Lq g1.top hz hN) aa aa aa aa (fun e1 Z=>?_)))))))))
  have p9:=Z.small Y.ok ah
  refine ak 3 aa (ai (ae 5 aa ?_))
  refine aj (f3 rfl rfl (by simp only[ca,bN];omega) (by simp only[ca,bN];omega) ?_)
  obtain⟨v,hv⟩:∃v:Int,(((e1.map aT.enc).length:Nat):Int) -Int.ofNat 1=v:=⟨_,rfl⟩
  rw[hv]
  refine ak 2 aa (an 3 aa (eW aa (xO) (bC (ae 1 aa (bV (pv F Y.ok ee) aa aa aa aa (aX (aL (ai (ae 1 aa ?_)))))))))
  refine bV (gn F O.ok fM) aa aa aa aa (aX (aK aa (fun G=>?_) (fun G=>?_)))
  ·have z:=yj (q.gy D).2
   have K:=O.top.alias false
   have J:EG (q.gy D).2 e1 (N+620):=(Z.go2 (Y.top.ij ee) (sW ..)).dW ah
   have U:EG ((q.gy D).2.alias false).2 e1 (N+620):=J.go2 K (wR ..)
   have I:((q.gy D).2.alias false).2.err=0→v=(q.gy D).1:=fun h0=>hv.symm.trans (rS g1.top Z ((Y.top.ij ee).er (K.er h0)))
   rw[az G] at z
   rw[z] at U K
   have hm:p.item D=(⟨g,(q.gy D).1,((q.gy D).2.keyword fM).2.name.1⟩,((q.gy D).2.keyword fM).2.name.2):=by unfold PS.item;rw[hb,z]
   rw[z] at I
   refine bC (ae 1 aa (bV (lI F (O.trans (O.top.kw fM)).ok) aa aa aa aa (ak 2 aa (im (bD 7 aa ?_)))))
   refine dy rfl (eD (rows:=cF.map Item.enc) (ys:=[(⟨g,v,((q.gy D).2.keyword fM).2.name.1⟩:Item).enc]) rfl rfl rfl (.bs (rows:=[(⟨g,v,((q.gy D).2.keyword fM).2.name.1⟩:Item).enc]) rfl) (b0 rfl) (by rw[bE,ca];simp only[cV,dL];omega) (fun h=>by rw[h];rfl) (fun h=>by rw[h];rfl) ?_)
   refine du 3 aa ?_
   rw[hm]
   exact⟨_,PS.ib a ((q.gy D).2.keyword fM).2.name.2 d e1 (cF++[(⟨g,v,((q.gy D).2.keyword fM).2.name.1⟩:Item)]),rfl,yO rfl rfl rfl rfl,⟨e1,(⟨g,v,((q.gy D).2.keyword fM).2.name.1⟩:Item),rfl,rfl,U,fun h0=>by rw[I h0]⟩⟩
  have z:=yj (q.gy D).2
  have K:=O.top.alias false
  have J:EG (q.gy D).2 e1 (N+620):=(Z.go2 (Y.top.ij ee) (sW ..)).dW ah
  have U:EG ((q.gy D).2.alias false).2 e1 (N+620):=J.go2 K (wR ..)
  have I:((q.gy D).2.alias false).2.err=0→v=(q.gy D).1:=fun h0=>hv.symm.trans (rS g1.top Z ((Y.top.ij ee).er (K.er h0)))
  rw[al (by rw[G];decide)] at z
  rw[z] at U K
  rw[PS.da G]
  have hm:p.item D=(⟨g,(q.gy D).1,[]⟩,(q.gy D).2):=by unfold PS.item;rw[hb,z]
  rw[z] at I
  refine aQ (im (bD 7 aa ?_))
  refine dy rfl (eD (rows:=cF.map Item.enc) (ys:=[(⟨g,v,[]⟩:Item).enc]) rfl rfl rfl (.bs (rows:=[(⟨g,v,[]⟩:Item).enc]) rfl) (b0 rfl) (by rw[bE,ca];simp only[cV,dL];omega) (fun h=>by rw[h];rfl) (fun h=>by rw[h];rfl) ?_)
  refine du 3 aa ?_
  rw[hm]
  exact⟨_,PS.ib a (q.gy D).2 d e1 (cF++[(⟨g,v,[]⟩:Item)]),rfl,yO rfl rfl rfl rfl,⟨e1,(⟨g,v,[]⟩:Item),rfl,rfl,U,fun h0=>by rw[I h0]⟩⟩
 have hg:g=0:=by simpa using xO
 obtain rfl:q=p:=by have:=Ys (p:=p) (by rw[hP];exact hg);rw[hP] at this;exact this
 have hb:q.jd D=((0,(q.expr D).1),(q.expr D).2):=by unfold PS.jd;rw[al (by rw[Di];decide),hP,az hg]
 have Y:=hp.expr D
 have O:=Y
 subst hg
 refine aQ (ai (ae 6 aa (jX 1001 1 aa aa (eX (PS.bq a q++[(1001,.one 106 120 [dB d,.undef,.ac 1051 (cF.map Item.enc).length 3,dN,dI (-1),dB false,dN]),(1050,.acc 142 88 8 (e.map aT.enc)),(1051,.acc 167 32 3 (cF.map Item.enc)),(4,.one 167 32 [d0,d0,dS []]),(5,.one 248 48 [VV.d (cl n4),dS n5,dS n6])]) (cU aa ⟨aa,aa,aa,aa,aa,trivial⟩) (jQ (vh F Lq hp he hN) aa aa aa aa (fun e1 Z=>?_))))))
 have p9:=Z.small Y.ok ah
 refine ak 3 aa (ai (ae 5 aa ?_))
 refine aj (f3 rfl rfl (by simp only[ca,bN];omega) (by simp only[ca,bN];omega) ?_)
 obtain⟨v,hv⟩:∃v:Int,(((e1.map aT.enc).length:Nat):Int) -Int.ofNat 1=v:=⟨_,rfl⟩
 rw[hv]
 refine ak 2 aa (an 3 aa (ef aa (xO) (aQ (aL (ai (ae 1 aa (bV (gn F O.ok fM) aa aa aa aa (aX (aK aa (fun G=>?_) (fun G=>?_))))))))))
 ·have z:=yj (q.expr D).2
  have K:=O.top.alias false
  have J:EG (q.expr D).2 e1 (N+620):=Z.dW ah
  have U:EG ((q.expr D).2.alias false).2 e1 (N+620):=J.go2 K (wR ..)
  have I:((q.expr D).2.alias false).2.err=0→v=(q.expr D).1:=fun h0=>hv.symm.trans (rS hp Z (K.er h0))
  rw[az G] at z
  rw[z] at U K
  have hm:q.item D=(⟨0,(q.expr D).1,((q.expr D).2.keyword fM).2.name.1⟩,((q.expr D).2.keyword fM).2.name.2):=by unfold PS.item;rw[hb,z]
  rw[z] at I
  refine bC (ae 1 aa (bV (lI F (O.trans (O.top.kw fM)).ok) aa aa aa aa (ak 2 aa (im (bD 7 aa ?_)))))
  refine dy rfl (eD (rows:=cF.map Item.enc) (ys:=[(⟨0,v,((q.expr D).2.keyword fM).2.name.1⟩:Item).enc]) rfl rfl rfl (.bs (rows:=[(⟨0,v,((q.expr D).2.keyword fM).2.name.1⟩:Item).enc]) rfl) (b0 rfl) (by rw[bE,ca];simp only[cV,dL];omega) (fun h=>by rw[h];rfl) (fun h=>by rw[h];rfl) ?_)
  refine du 3 aa ?_
  rw[hm]
  exact⟨_,PS.ib a ((q.expr D).2.keyword fM).2.name.2 d e1 (cF++[(⟨0,v,((q.expr D).2.keyword fM).2.name.1⟩:Item)]),rfl,yO rfl rfl rfl rfl,⟨e1,(⟨0,v,((q.expr D).2.keyword fM).2.name.1⟩:Item),rfl,rfl,U,fun h0=>by rw[I h0]⟩⟩
 have z:=yj (q.expr D).2
 have K:=O.top.alias false
 have J:EG (q.expr D).2 e1 (N+620):=Z.dW ah
 have U:EG ((q.expr D).2.alias false).2 e1 (N+620):=J.go2 K (wR ..)
 have I:((q.expr D).2.alias false).2.err=0→v=(q.expr D).1:=fun h0=>hv.symm.trans (rS hp Z (K.er h0))
 rw[al (by rw[G];decide)] at z
 rw[z] at U K
 rw[PS.da G]
 have hm:q.item D=(⟨0,(q.expr D).1,[]⟩,(q.expr D).2):=by unfold PS.item;rw[hb,z]
 rw[z] at I
 refine aQ (im (bD 7 aa ?_))
 refine dy rfl (eD (rows:=cF.map Item.enc) (ys:=[(⟨0,v,[]⟩:Item).enc]) rfl rfl rfl (.bs (rows:=[(⟨0,v,[]⟩:Item).enc]) rfl) (b0 rfl) (by rw[bE,ca];simp only[cV,dL];omega) (fun h=>by rw[h];rfl) (fun h=>by rw[h];rfl) ?_)
 refine du 3 aa ?_
 rw[hm]
 exact⟨_,PS.ib a (q.expr D).2 d e1 (cF++[(⟨0,v,[]⟩:Item)]),rfl,yO rfl rfl rfl rfl,⟨e1,(⟨0,v,[]⟩:Item),rfl,rfl,U,fun h0=>by rw[I h0]⟩⟩
end Go.Ev.Pp
