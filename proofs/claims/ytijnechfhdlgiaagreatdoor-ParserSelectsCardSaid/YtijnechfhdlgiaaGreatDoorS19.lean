/- Part 19 of rules for walks through the code of a program, and of such walks; what each part proves is said by its theorems. -/
import Derived.Test.YtijnechfhdlgiaaGreatDoorS11
import Derived.Test.YtijnechfhdlgiaaGreatDoorS18
set_option linter.unusedVariables false
set_option linter.unusedSimpArgs false
namespace Go.Ev.Pp
open Go
set_option maxRecDepth 10000
set_option maxHeartbeats 2000000 in
theorem S2{T:bd}(F:FT T){D:Rd}{n:Nat}(hS:RT T 274 (cmpL D n) (n+1) (10*n+4))(hI:RT T 263 (eH D n) n (10*n)):RT T 263 (eH D (n+1)) (n+1) (10*n+5):=by
 intro a p e N hp hd he hN
 have yP:n≤61:=by omega
 refine cw F.abe aa (al 1 aa (aK (ai (ae 1 aa (bI (zf F hp.ok 1 wH) aa aa aa aa (ae 1 aa (af ?_)))))))
 refine aI aa (fun U=>?_) (fun U=>?_)
 ·have G:p.next 1 wH=false:=by simpa using U
  have K:eH D (n+1) p=cmpL D n p:=by rw[xb];unfold nA;rw[aw G]
  refine ai (ae 2 aa (jv (hS a p e N hp hd he hN) aa aa aa aa (fun e1 I=>?_)))
  refine ae 1 aa (af ?_)
  refine ax ?_
  rw[K]
  exact⟨_,PS.be a _ e1,rfl,⟨rfl,rfl,trivial⟩,⟨e1,rfl,rfl,I.dE (by omega)⟩⟩
 have G:p.next 1 wH=true:=by simpa using U
 have J:=PS.lk hp.ok (kind:=1) (by decide) G
 refine aQ (aK (ai (ae 1 aa (bI (OW F hp.ok (PS.xm G) J) aa aa aa aa (ae 1 aa (af ?_))))))
 refine aI aa (fun bM=>?_) (fun bM=>?_)
 ·have z:p.enter.1=false:=by simpa using bM
  have K:eH D (n+1) p=(0,p.enter.2):=by rw[xb];unfold nA;rw[aj (by rw[G];decide),aw z]
  rw[aj (by rw[z];decide)]
  have I:EG p.enter.2 e N:=by rw[PS.xx z];exact he.ku (bE.fail hp (by decide)) (vQ ..)
  refine al 2 aa (ax ?_)
  rw[K]
  exact⟨_,PS.be a _ e,rfl,⟨rfl,rfl,trivial⟩,⟨e,rfl,rfl,I.dE (by omega)⟩⟩
 have z:p.enter.1=true:=by simpa using bM
 have J:=PS.lk hp.ok (kind:=1) (by decide) G
 obtain⟨Y,O⟩:=hp.ri z J
 have A:p.enter.2.step.depth+n=61:=by rw[O];omega
 have gd:=he.deep z
 rw[aw z]
 have K:eH D (n+1) p=un (eH D n p.enter.2.step).2.up 11 (eH D n p.enter.2.step).1:=by rw[xb];unfold nA;rw[aj (by rw[G];decide),aj (by rw[z];decide)]
 have Z:=(pO D n).2 _ Y A
 have ql:1≤((eH D n p.enter.2.step).2).depth:=by rw[Z.depth,O];omega
 have hrl:=Z.st.ok.kN
 have nc:((((eH D n p.enter.2.step).2).depth:Nat):Int) -Int.ofNat 1=((((eH D n p.enter.2.step).2).depth-1:Nat):Int):=by simp only[bb];omega
 refine aQ (ai (ae 2 aa (jv (hI a p.enter.2.step e N Y A gd hN) aa aa aa aa (fun e1 I=>?_))))
 refine ae 1 aa (af ?_)
 refine ai (ae 4 aa ?_)
 refine ak (gm rfl rfl (by simp only[bb];omega) (by simp only[bb];omega) ?_)
 rw[nc]
 refine ae 3 aa (af ?_)
 refine ai (eB (PS.be a (eH D n p.enter.2.step).2.up e1) ⟨aa,aa,trivial⟩ ?_)
 have pC:=I.small Z.st.ok (by omega)
 refine ae 3 aa ?_
 refine ak (gm rfl rfl (by simp only[bZ,bb];omega) (by simp only[bZ,bb];omega) ?_)
 obtain⟨v,hv⟩:∃v:Int,(((e1.map aN.enc).length:Nat):Int) -Int.ofNat 1=v:=⟨_,rfl⟩
 rw[hv]
 refine ae 2 aa ?_
 refine ak (dZ (rows:=e1.map aN.enc) (ys:=[(⟨11,v,0,[],[],ct⟩:aN).enc]) rfl rfl rfl (.bs (rows:=[(⟨11,v,0,[],[],ct⟩:aN).enc]) rfl) (bO rfl) (by rw[bC,bZ];simp only[cP,dx];omega) (fun h=>by rw[h];rfl) (fun h=>by rw[h];rfl) ?_)
 refine ae 1 aa (af ?_)
 refine ax ?_
 rw[K]
 exact⟨_,PS.be a (un _ 11 _).2 (e1++[⟨11,v,0,[],[],ct⟩]),rfl,AO rfl rfl,⟨e1++[⟨11,v,0,[],[],ct⟩],by rw[dr];rfl,rfl,(I.up.un (fun h0=>hv.symm.trans (pN (rb I ((vX D n).2 _ Y A) h0))) 11).dE (by omega)⟩⟩
set_option maxHeartbeats 2000000 in
theorem T5{T:bd}(F:FT T){D:Rd}(Lq:kp T D){n:Nat}(hI:RT T 199 (lT D n) n (10*n)):RT T 282 (fb D n) (n+1) (10*n+1):=by
 intro a p e N hp hd he hN
 have yP:n≤61:=by omega
 refine cw F.abv aa (al 1 aa (aK (al 5 aa (aI aa (fun I=>?_) (fun I=>?_)))))
 ·have h0:¬p.err=0:=by simpa using I
  have A:fb D n p=(0,p):=by unfold fb lz;rw[aw h0]
  refine al 2 aa (ax ?_)
  rw[A]
  exact⟨_,PS.be a _ e,rfl,⟨rfl,rfl,trivial⟩,⟨e,rfl,rfl,he.dE (by omega)⟩⟩
 have h0:p.err=0:=by simpa using I
 refine aQ (aK (ai (ae 1 aa (bI (zf F hp.ok 5 cq) aa aa aa aa (af (aI aa (fun J=>?_) (fun J=>?_)))))))
 ·have K:p.next 5 cq=true:=J
  have O:=PS.lk hp.ok (kind:=5) (by decide) K
  refine aK (ai (ae 1 aa (bI (OW F hp.ok h0 O) aa aa aa aa (af (aI aa (fun U=>?_) (fun U=>?_))))))
  ·have z:p.enter.1=true:=by simpa using U
   have O:=PS.lk hp.ok (kind:=5) (by decide) K
   obtain⟨hq,Qw⟩:=hp.ri z O
   have G:p.enter.2.step.depth+n=61:=by rw[Qw];omega
   have gd:=he.deep z
   rw[aw z]
   have A:fb D n p=((lT D n p.enter.2.step).1,((lT D n p.enter.2.step).2.bA dP).up):=by unfold fb lz;rw[aj (by simpa using h0),aw K,aj (by rw[z];decide)];rfl
   have Y:=(pO D n).1 _ hq G
   have nN:=bE.bA Y.st dP
   have hr:=Y.trans nN
   have ql:1≤(((lT D n p.enter.2.step).2.bA dP)).depth:=by rw[hr.depth,Qw];omega
   have hrl:=hr.st.ok.kN
   have nc:(((((lT D n p.enter.2.step).2.bA dP)).depth:Nat):Int) -Int.ofNat 1=(((((lT D n p.enter.2.step).2.bA dP)).depth-1:Nat):Int):=by simp only[bb];omega
   refine ai (ae 2 aa (jv (hI a p.enter.2.step e N hq G gd hN) aa aa aa aa (fun e1 g1=>?_)))
   refine ae 1 aa (af ?_)
   refine ai (ae 1 aa (bI (oz F Y.st.ok dP) aa aa aa aa (af (bD (ae 4 aa ?_)))))
   refine ak (gm rfl rfl (by simp only[bb];omega) (by simp only[bb];omega) ?_)
   rw[nc]
   refine ae 3 aa (af ?_)
   refine al 2 aa (ax ?_)
   rw[A]
   exact⟨_,PS.be a ((lT D n p.enter.2.step).2.bA dP).up e1,rfl,⟨rfl,rfl,trivial⟩,⟨e1,rfl,rfl,((g1.ku nN (r6 ..)).up).dE (by omega)⟩⟩
  have z:p.enter.1=false:=by simpa using U
  have A:fb D n p=(0,p.enter.2):=by unfold fb lz;rw[aj (by simpa using h0),aw K,aw z]
  rw[aj (by rw[z];decide)]
  have g1:EG p.enter.2 e N:=by rw[PS.xx z];exact he.ku (bE.fail hp (by decide)) (vQ ..)
  refine aQ (al 2 aa (ax ?_))
  rw[A]
  exact⟨_,PS.be a _ e,rfl,⟨rfl,rfl,trivial⟩,⟨e,rfl,rfl,g1.dE (by omega)⟩⟩
 have K:p.next 5 cq=false:=J
 have sU:(p.aA.map cb.enc)[p.aJ]?=some p.tok.enc:=by rw[im,hp.ok.get];rfl
 refine aQ (aK (eZ (bk 8 aa (c8 (kR (row:=p.tok.enc) aa aa sU aa ?_)))))
 refine bk 3 aa (c6 ?_)
 refine aI aa (fun Z=>?_) (fun Z=>?_)
 ·have hk:p.tok.kind=2:=by simpa using Z
  have A:fb D n p=p.gk:=by unfold fb lz;rw[aj (by simpa using h0),aj (by rw[K];decide),aw hk]
  refine ai (ae 2 aa (jv (MP F a p e N hp trivial he hN) aa aa aa aa (fun e1 g1=>?_)))
  refine ae 1 aa (af ?_)
  refine ax ?_
  rw[A]
  exact⟨_,PS.be a _ e1,rfl,⟨rfl,rfl,trivial⟩,⟨e1,rfl,rfl,g1.dE (by omega)⟩⟩
 have hk:¬p.tok.kind=2:=by simpa using Z
 have A:fb D n p=(p.literal D).2.push ⟨1,0,0,[],[],(p.literal D).1⟩:=by unfold fb lz;rw[aj (by simpa using h0),aj (by rw[K];decide),aj hk]
 have gl:EG (p.literal D).2 e N:=he.ku (bE.G3 hp D h0) (Sh ..)
 refine aQ (ai (ae 1 aa (ak (OX (L7 F Lq hp) aa aa aa (fun v b q k1 k2=>?_)))))
 refine ae 6 aa (af ?_)
 refine aK (al 2 aa (aI aa (fun BM=>?_) (fun BM=>?_)))
 ·have hb:b=false:=by simpa using BM
  obtain⟨hqp,hl⟩:=k2 hb
  obtain rfl:=hqp.symm
  have hle:¬(p.literal D).2.err=0:=by rw[hl,vM h0];decide
  refine ai (ae 1 aa ?_)
  refine bI (mh F hp.ok (by decide)) rfl rfl rfl rfl ?_
  refine af (al 2 aa (ax ?_))
  rw[A]
  exact⟨_,PS.be a ((p.literal D).2.push ⟨1,0,0,[],[],(p.literal D).1⟩).2 e,rfl,⟨by rw[show((p.literal D).2.push ⟨1,0,0,[],[],(p.literal D).1⟩).2.lY a=(p.literal D).2.lY a from rfl,hl];rfl,rfl,trivial⟩,⟨e,rfl,rfl,⟨fun h=>absurd h hle,by have:=gl.len;show e.length≤(p.literal D).2.aJ+_;omega⟩⟩⟩
 have hb:b=true:=by simpa using BM
 obtain⟨rfl,hl⟩:=k1 hb
 have pC:=gl.small (PS.KB hp D).ok (by omega)
 refine aQ (ai (ae 4 aa ?_))
 refine ak (dZ (rows:=e.map aN.enc) (ys:=[(⟨1,0,0,[],[],v⟩:aN).enc]) rfl rfl rfl (.bs (rows:=[(⟨1,0,0,[],[],v⟩:aN).enc]) rfl) (bO rfl) (by rw[bC,bZ];simp only[cP,dx];omega) (fun h=>by rw[h];rfl) (fun h=>by rw[h];rfl) ?_)
 refine ae 1 aa (af ?_)
 refine ax ?_
 rw[A]
 exact⟨_,PS.be a ((p.literal D).2.push ⟨1,0,0,[],[],(p.literal D).1⟩).2 (e++[⟨1,0,0,[],[],v⟩]),rfl,AO rfl rfl,⟨e++[⟨1,0,0,[],[],v⟩],by rw[dr];rfl,rfl,(gl.push (fun h=>by rw[hl h])).dE (by omega)⟩⟩
theorem Nx{T:bd}(F:FT T){D:Rd}(z:kp T D):∀n,RT T 199 (lT D n) n (10*n)∧RT T 263 (eH D n) n (10*n)
 |0=>⟨fun a p e N h G=>absurd h.ok.kN (by omega),fun a p e N h G=>absurd h.ok.kN (by omega)⟩
 |n+1=>by
  obtain⟨I,h2⟩:=Nx F z n
  have J:=T5 F z I
  have K:RT T 280 (fg D n) (n+1) (10*n+2):=T3 F J
  have O:RT T 278 (ew D n) (n+1) (10*n+3):=aby F K
  have U:RT T 274 (cmpL D n) (n+1) (10*n+4):=RF F O
  have A:=S2 F U h2
  exact⟨RT.dE (Xc F (Xb F A)) (by omega),RT.dE A (by omega)⟩
open Go
set_option maxRecDepth 10000
set_option maxHeartbeats 1000000 in
theorem An{T:bd}(F:FT T){a:Bool}{p:PS}(hp:bf p):bY T 200 [.vp 1000 0] (PS.bq a p) fun r Bn=>r= .d (f4 p.names.1)∧Bn=PS.bq a p.names.2:=by
 refine cw F.aaH aa ?_
 have U:=hp.gQ cq
 have G:∀p,bf p→bP p (PS.name p).2:=fun _ h=>h.name
 refine al 1 aa (al 1 aa (ai (ae 1 aa (bI (oz F hp.ok cq) aa aa aa aa (af (ai (ae 2 aa (bI (kX F U.ok) aa aa aa aa (ae 1 aa ?_)))))))))
 refine ak (CQ (ys:=[[cB (p.bA cq).name.1]]) 1101 rfl rfl rfl rfl rfl (.bs (rows:=[[cB (p.bA cq).name.1]]) rfl) (bO rfl) (by simp only[cP,dx];omega) ?_)
 refine ae 1 aa (af ?_)
 refine aK (bJ (dY (fun k VE B=>∃(l:List _)(q:PS),kE PS.name k l q=(jk PS.name (p.bA cq))∧l≠[]∧l.length≤q.aJ+1∧(p.bA cq).aA.length≤k+q.aJ∧bP (p.bA cq) q∧br [(0,.vp 1000 0),(3,.ac 1101 (l.map (fun s=>[cB s])).length 1)] VE∧br (PS.bq a q++[(1101,.acc 9 16 1 (l.map (fun s=>[cB s])))]) B) ?_ (k:=(p.bA cq).aA.length) ⟨[(PS.name (p.bA cq)).1],(PS.name (p.bA cq)).2,aa,pX _ _,mR (da _),j0 _ _,G _ U.top,⟨aa,aa,trivial⟩,cI aa ⟨aa,trivial⟩⟩))
 rintro k VE B⟨l,q,z,K,Z,hk,I,hV,O⟩
 refine eD (PS.bq a q++[(1101,.acc 9 16 1 (l.map (fun s=>[cB s])))]) O ?_
 have O:br (PS.bq a q++[(1101,.acc 9 16 1 (l.map (fun s=>[cB s])))]) (PS.bq a q++[(1101,.acc 9 16 1 (l.map (fun s=>[cB s])))]):=cI rfl ⟨rfl,trivial⟩
 have gp:q.aA.length=(p.bA cq).aA.length:=by rw[I.aA]
 refine dn _ _ hV O (aK (ai (ae 1 aa (bI (mG F I.ok cH) aa aa aa aa (af (aI aa (fun A=>?_) (fun A=>?_)))))))
 ·have h2:=I.top.sign cH
  have J:=oR I.ok A
  have fy:=I.ok.d8
  obtain⟨k,rfl⟩:∃k',k=k'+1:=⟨k-1,by have:=J.2;omega⟩
  rw[oT A] at z
  have Y:=h2.trans (G _ h2.top)
  refine aQ (bJ (bD (ae 2 aa (bI (kX F h2.top.ok) aa aa aa aa (ae 1 aa ?_)))))
  refine ak (dZ (rows:=l.map (fun s=>[cB s])) (ys:=[[cB (PS.name (q.sign cH).2).1]]) rfl rfl rfl (.bs (rows:=[[cB (PS.name (q.sign cH).2).1]]) rfl) (bO rfl) (by simp only[bC,bZ,cP,dx];omega) (fun h=>by rw[h];rfl) (fun h=>by rw[h];rfl) ?_)
  refine ae 1 aa (af ?_)
  refine⟨k,gh k,l++[(PS.name (q.sign cH).2).1],(PS.name (q.sign cH).2).2,z,mE K _,?_,?_,I.trans Y,?_,?_⟩
  ·have:=Y.aJ;have:=J.1;have:=(G _ h2.top).aJ;rw[bC,dU];show l.length+1≤(PS.name (q.sign cH).2).2.aJ+1;omega
  ·have:=(G _ h2.top).aJ;have:=J.1;show(p.bA cq).aA.length≤k+(PS.name (q.sign cH).2).2.aJ;omega
  ·try simp only[dr,eF,fH]
   exact⟨aa,aa,trivial⟩
  try simp only[dr,eF,fH]
  exact cI aa ⟨aa,trivial⟩
 rw[oU A] at z
 rw[PS.iA A]
 refine dD (ai (ae 1 aa (bI (oz F I.ok dP) aa aa aa aa (af (ai (ae 1 aa (fo 20 1101 aa aa (fun _=>⟨aa,aa⟩) (ae 1 aa (af ?_)))))))))
 refine ax ?_
 have hm:p.names=(l,q.bA dP):=by unfold PS.names;rw[←z]
 rw[hm]
 unfold f4
 exact⟨_,PS.bq a _,aa,⟨aa,trivial⟩,aa,aa⟩
theorem Gq{T:bd}(F:FT T){a:Bool}{p:PS}(hp:bf p):bY T 157 [.vp 1000 0] (PS.bq a p) fun r Bn=>r=ez (cV p.column.1)∧Bn=PS.bq a p.column.2:=by
 refine cw F.aai aa (al 1 aa (ai (ae 1 aa (bI (kX F hp.ok) aa aa aa aa (ae 3 aa (af ?_))))))
 refine aK (bJ (ai (ae 1 aa (bI (fN F hp.name.ok yM) aa aa aa aa (ae 1 aa (af ?_))))))
 refine aI aa (fun G=>?_) (fun G=>?_)
 ·have A:p.column=((p.name.1,1),(p.name.2.keyword yM).2):=by unfold PS.column PS.nT;rw[aw G]
  refine bD (ae 2 aa (af ?_))
  refine al 2 aa (ax ?_)
  rw[A]
  exact⟨_,PS.bq a _,aa,⟨aa,trivial⟩,aa,aa⟩
 rw[PS.cQ G]
 refine ai (ae 1 aa (bI (fN F hp.name.ok yp) aa aa aa aa (ae 1 aa (af ?_))))
 refine aI aa (fun bM=>?_) (fun bM=>?_)
 ·have A:p.column=((p.name.1,2),(p.name.2.keyword yp).2):=by unfold PS.column PS.nT;rw[aj (by rw[G];decide),aw bM]
  refine bD (ae 2 aa (af ?_))
  refine al 2 aa (ax ?_)
  rw[A]
  exact⟨_,PS.bq a _,aa,⟨aa,trivial⟩,aa,aa⟩
 rw[PS.cQ bM]
 refine ai (ae 1 aa (bI (fN F hp.name.ok yq) aa aa aa aa (ae 1 aa (af ?_))))
 refine aI aa (fun z=>?_) (fun z=>?_)
 ·have A:p.column=((p.name.1,3),(p.name.2.keyword yq).2):=by unfold PS.column PS.nT;rw[aj (by rw[G];decide),aj (by rw[bM];decide),aw z]
  refine bD (ae 2 aa (af ?_))
  refine al 2 aa (ax ?_)
  rw[A]
  exact⟨_,PS.bq a _,aa,⟨aa,trivial⟩,aa,aa⟩
 have A:p.column=((p.name.1,0),p.name.2.fail 5):=by unfold PS.column PS.nT;rw[aj (by rw[G];decide),aj (by rw[bM];decide),aj (by rw[z];decide)]
 rw[PS.cQ z]
 refine bD (ae 1 aa ?_)
 refine bI (mh F hp.name.ok (by decide)) rfl rfl rfl rfl ?_
 refine af (al 2 aa (ax ?_))
 rw[A]
 exact⟨_,PS.bq a _,aa,⟨aa,trivial⟩,aa,aa⟩
theorem MQ{p:PS}{e:Int}(he:e≠0):¬(p.fail e).err=0:=by unfold PS.fail;split<;>assumption
theorem Lj{T:bd}(F:FT T){D:Rd}(J:kp T D){a:Bool}{p:PS}(hp:St p):bY T 150 [.vp 1000 0] (PS.bq a p) fun r Bn=>(∃v:gZ,r=ez v.enc∧((p.literal D).2.err=0→v=(p.literal D).1))∧Bn=PS.bq a (p.literal D).2:=by
 refine cw F.aac aa (al 1 aa (ai (ae 1 aa (ak (OX (L7 F J hp) aa aa aa (fun v b q K O=>?_))))))
 refine ae 6 aa (af ?_)
 refine aK (al 2 aa (aI aa (fun z=>?_) (fun z=>?_)))
 ·have A:b=false:=by simpa using z
  obtain⟨G,I⟩:=O A
  obtain rfl:=G.symm
  rw[I]
  refine bD (ae 1 aa ?_)
  refine bI (mh F hp.ok (by decide)) rfl rfl rfl rfl ?_
  refine af (al 2 aa (ax ?_))
  exact⟨_,PS.bq a (p.fail 5),rfl,⟨rfl,trivial⟩,⟨v,rfl,fun k=>absurd k (MQ (by decide))⟩,rfl⟩
 have A:b=true:=by simpa using z
 obtain⟨rfl,I⟩:=K A
 exact aQ (al 2 aa (ax (⟨_,PS.bq a _,aa,⟨aa,trivial⟩,⟨v,aa,I⟩,aa⟩)))
set_option maxHeartbeats 2000000 in
theorem Ht{T:bd}(F:FT T){a:Bool}{p:PS}(hp:bf p)(f:Bool):bY T 204 [.vp 1000 0,dB f] (PS.bq a p) fun r Bn=>r=ez (p.source (f&&a)).1.enc∧Bn=PS.bq a (p.source (f&&a)).2:=by
 refine cw F.aaL aa ?_
 have hN:=hp.name.top
 refine al 1 aa (ai (ae 1 aa (bI (kX F hp.ok) aa aa aa aa (ae 3 aa (af ?_)))))
 refine aK (ai (ae 1 aa (bI (zf F hN.ok 1 fi) aa aa aa aa (ae 1 aa (af ?_)))))
 refine aI aa (fun U=>?_) (fun U=>?_)
 ·have K:p.name.2.next 1 fi=false:=by simpa using U
  have I:p.source (f&&a)=(⟨false,p.name.1,[], -1⟩,p.name.2):=by unfold PS.source PS.alias;rw[aw K]
  refine al 2 aa (ax ?_)
  rw[I]
  exact⟨_,PS.bq a _,aa,⟨aa,trivial⟩,aa,aa⟩
 have K:p.name.2.next 1 fi=true:=by simpa using U
 have J:=PS.xm K
 have dT:=PS.lk hN.ok (kind:=1) (by decide) K
 have fy:=hN.ok.d8
 have Z:=hN.step J dT
 have O:(p.name.2.aA.map cb.enc)[p.name.2.aJ+1]?=some p.name.2.after.enc:=by rw[im,eP dT];unfold PS.after;rw[eP dT];rfl
 refine aQ (aK (eZ (bk 2 aa (vK (g:=aX) aa (fun G=>?_) (fun G=>?_)))))
 ·refine el aa (G) (bN aa ?_)
  refine el aa (G) (pH aa ?_)
  refine el aa (G) (dz aa ?_)
  refine ky aa (G) aa (df aa aa aa ?_)
  refine c8 (cT aa (G) aa ?_)
  refine bk 1 aa (vK (g:=bn) aa (fun z=>?_) (fun z=>?_))
  ·refine el aa (z) (bN aa ?_)
   refine el aa (z) (pH aa ?_)
   refine el aa (z) (dz aa ?_)
   refine ky aa (z) aa (df aa aa aa ?_)
   refine el aa (z) (bN aa ?_)
   refine el aa (z) (pH aa ?_)
   refine el aa (z) (dz aa ?_)
   refine ky aa (z) aa (df aa aa aa ?_)
   refine el rfl (z) (cM rfl rfl (by omega) ?_)
   refine el aa (z) (kR (row:=p.name.2.after.enc) aa aa O aa ?_)
   refine el aa (z) (tS aa ?_)
   refine ky aa (z) aa (mb aa aa ?_)
   refine el aa (z) (hY aa aa ?_)
   refine c8 (cT aa (z) aa ?_)
   refine bk 1 aa (vK (g:=cl) aa (fun A=>?_) (fun A=>?_))
   ·skip
    refine el aa (A) (bN aa ?_)
    refine el aa (A) (pH aa ?_)
    refine el aa (A) (dz aa ?_)
    refine ky aa (A) aa (df aa aa aa ?_)
    refine el aa (A) (bN aa ?_)
    refine el aa (A) (pH aa ?_)
    refine el aa (A) (dz aa ?_)
    refine ky aa (A) aa (df aa aa aa ?_)
    refine el rfl (A) (cM rfl rfl (by omega) ?_)
    refine el aa (A) (kR (row:=p.name.2.after.enc) aa aa O aa ?_)
    refine el aa (A) (tS aa ?_)
    refine ky aa (A) aa (mb aa aa ?_)
    refine el aa (A) (oA (b:=kf) aa aa ?_)
    refine c8 (cT aa (A) aa ?_)
    refine c6 (aI aa (fun Y=>?_) (fun Y=>?_))
    ·have I:p.source (f&&a)=(⟨false,p.name.1,[], -1⟩,p.name.2):=by unfold PS.source PS.alias;rw[aj (by rw[K];decide),aw ⟨by rw[G,z];rfl,by simpa using A,by simpa using Y⟩]
     refine al 2 aa (ax ?_)
     rw[I]
     exact⟨_,PS.bq a _,aa,⟨aa,trivial⟩,aa,aa⟩
    have I:p.source (f&&a)=(⟨false,p.name.1,p.name.2.step.name.1, -1⟩,p.name.2.step.name.2):=by unfold PS.source PS.alias;rw[aj (by rw[K];decide),aj (fun k=>absurd k.2.2 (by simpa using Y))]
    refine aQ (ai (ae 4 aa ?_))
    refine ak (cM rfl rfl (by omega) ?_)
    refine ae 3 aa (af ?_)
    refine ai ?_
    refine eB (PS.bq a p.name.2.step++[(5,.one 169 48 [dB false,dS p.name.1,dS [],dI (-1)]),(4,.one 169 48 [dB false,dS [],dS [],d0])]) (cI (by rw[tN J];rfl) ⟨rfl,rfl,trivial⟩) ?_
    refine ae 1 aa (bI (kX F Z.ok) aa aa aa aa (ae 2 aa (af ?_)))
    refine al 2 aa (ax ?_)
    rw[I]
    exact⟨_,PS.bq a _,aa,⟨aa,trivial⟩,aa,aa⟩
   have I:p.source (f&&a)=(⟨false,p.name.1,p.name.2.step.name.1, -1⟩,p.name.2.step.name.2):=by unfold PS.source PS.alias;rw[aj (by rw[K];decide),aj (fun k=>absurd k.2.1 (by simpa using A))]
   refine cU aa (A) (cU aa (A) (cU aa (A) (iO aa (A) (cU aa (A) (cU aa (A) (cU aa (A) (iO aa (A) (cU aa (A) (cU aa (A) ?_)))))))))
   refine cU aa (A) (iO aa (A) (cU aa (A) (c8 (cJ aa (A) aa ?_))))
   refine c6 (eC aa aa (aQ (ai (ae 4 aa ?_))))
   refine ak (cM rfl rfl (by omega) ?_)
   refine ae 3 aa (af ?_)
   refine ai ?_
   refine eB (PS.bq a p.name.2.step++[(5,.one 169 48 [dB false,dS p.name.1,dS [],dI (-1)]),(4,.one 169 48 [dB false,dS [],dS [],d0])]) (cI (by rw[tN J];rfl) ⟨rfl,rfl,trivial⟩) ?_
   refine ae 1 aa (bI (kX F Z.ok) aa aa aa aa (ae 2 aa (af ?_)))
   refine al 2 aa (ax ?_)
   rw[I]
   exact⟨_,PS.bq a _,aa,⟨aa,trivial⟩,aa,aa⟩
  have I:p.source (f&&a)=(⟨false,p.name.1,p.name.2.step.name.1, -1⟩,p.name.2.step.name.2):=by unfold PS.source PS.alias;rw[aj (by rw[K];decide),aj (fun k=>absurd k.1 (by rw[z];simp))]
  refine cU aa (z) (cU aa (z) (cU aa (z) (iO aa (z) (cU aa (z) (cU aa (z) (cU aa (z) (iO aa (z) (cU aa (z) (cU aa (z) ?_)))))))))
  refine cU aa (z) (iO aa (z) (cU aa (z) (c8 (cJ aa (z) aa ?_))))
  refine bk 1 aa (cU aa aa (cU aa aa (cU aa aa (iO aa aa (cU aa aa (cU aa aa (cU aa aa (iO aa aa (cU aa aa ?_)))))))))
  refine cU aa aa (cU aa aa (iO aa aa (cU aa aa (bk 1 aa (c6 ?_)))))
  refine eC aa aa (aQ (ai (ae 4 aa ?_)))
  refine ak (cM rfl rfl (by omega) ?_)
  refine ae 3 aa (af ?_)
  refine ai ?_
  refine eB (PS.bq a p.name.2.step++[(5,.one 169 48 [dB false,dS p.name.1,dS [],dI (-1)]),(4,.one 169 48 [dB false,dS [],dS [],d0])]) (cI (by rw[tN J];rfl) ⟨rfl,rfl,trivial⟩) ?_
  refine ae 1 aa (bI (kX F Z.ok) aa aa aa aa (ae 2 aa (af ?_)))
  refine al 2 aa (ax ?_)
  rw[I]
  exact⟨_,PS.bq a _,aa,⟨aa,trivial⟩,aa,aa⟩
 have I:p.source (f&&a)=(⟨false,p.name.1,p.name.2.step.name.1, -1⟩,p.name.2.step.name.2):=by unfold PS.source PS.alias;rw[aj (by rw[K];decide),aj (fun k=>absurd k.1 (by rw[G];simp))]
 refine cU aa (G) (cU aa (G) (cU aa (G) (iO aa (G) (c8 (cJ aa (G) aa ?_)))))
 refine bk 1 aa (cU aa aa (cU aa aa (cU aa aa (iO aa aa (cU aa aa (cU aa aa (cU aa aa (iO aa aa (cU aa aa ?_)))))))))
 refine cU aa aa (cU aa aa (iO aa aa (cU aa aa (bk 2 aa (cU aa aa (cU aa aa (cU aa aa (iO aa aa (cU aa aa ?_)))))))))
 refine cU aa aa (cU aa aa (iO aa aa (cU aa aa (cU aa aa (cU aa aa (iO aa aa (cU aa aa (bk 1 aa (c6 ?_)))))))))
 refine eC aa aa (aQ (ai (ae 4 aa ?_)))
 refine ak (cM rfl rfl (by omega) ?_)
 refine ae 3 aa (af ?_)
 refine ai ?_
 refine eB (PS.bq a p.name.2.step++[(5,.one 169 48 [dB false,dS p.name.1,dS [],dI (-1)]),(4,.one 169 48 [dB false,dS [],dS [],d0])]) (cI (by rw[tN J];rfl) ⟨rfl,rfl,trivial⟩) ?_
 refine ae 1 aa (bI (kX F Z.ok) aa aa aa aa (ae 2 aa (af ?_)))
 refine al 2 aa (ax ?_)
 rw[I]
 exact⟨_,PS.bq a _,aa,⟨aa,trivial⟩,aa,aa⟩
end Go.Ev.Pp
namespace Go.Ev
open Go
variable{T:bd}{VE:b0}{B:bo}{R:Ex→b0→bo→Prop}
theorem vY{a b:IC}(M:b0→bo→Prop)(I:∀VE B,M VE B→VC T b VE B R)(J:VC T a VE B fun x ep B'=>match x with|.normal=>M ep B'|x=>R x ep B'):VC T (.seq a b) VE B R:=
 aK fun H0 X0 E H β K=>(J H0 X0 E H β K).mono fun x E' H' hp=>by
  obtain⟨ep,B',β',A,z,G⟩:=hp
  cases x with
  |normal=>exact⟨ep,B',β',A,z,I _ _ G⟩
  |exit id=>exact⟨ep,B',β',A,z,G⟩
  |ret=>exact⟨ep,B',β',A,z,G⟩
end Go.Ev
namespace Go.Ev.Pp
open Go
variable{p q:PS}{a:Bool}{D:Rd}{e:List aN}{N M n:Nat}
def We:List (List UInt8):=[nB,nC,nD]
def yv(i:Nat):List UInt8:=(We[i]?).getD []
def PS.lZ(p:PS):Nat→Int×PS
 |0=>(Int.ofNat 0,p)
 |i+1=>if(p.lZ i).1=0 then(if((p.lZ i).2.keyword (yv i)).1=true then(Int.ofNat 2+(i:Nat),((p.lZ i).2.keyword (yv i)).2) else p.lZ i) else p.lZ i
theorem Dr{i:Nat}{g:Int}(h:p.lZ i=(g,q))(z:g=0)(hk:(q.keyword (yv i)).1=true):p.lZ (i+1)=(Int.ofNat 2+(i:Nat),(q.keyword (yv i)).2):=by
 unfold PS.lZ;rw[h,aw z,aw hk]
theorem Ds{i:Nat}{g:Int}(h:p.lZ i=(g,q))(z:g=0)(hk:(q.keyword (yv i)).1=false):p.lZ (i+1)=(g,q):=by
 unfold PS.lZ;rw[h,aw z,aj (by rw[hk];decide)]
theorem Dt{i:Nat}{g:Int}(h:p.lZ i=(g,q))(z:¬g=0):p.lZ (i+1)=(g,q):=by
 unfold PS.lZ;rw[h,aj z]
theorem OY(p:PS):p.lZ 3=p.agg:=by
 have h0:p.lZ 0=(0,p):=rfl
 unfold PS.agg
 cases G:(p.keyword nB).1
 ·have A:=Ds h0 rfl G
  cases h2:(p.keyword nC).1
  ·have z:=Ds A rfl h2
   cases I:(p.keyword nD).1
   ·rw[Ds z rfl I];simp
   rw[Dr z rfl I];simp;rfl
  have z:=Dr A rfl h2
  rw[Dt z (by decide)];simp;rfl
 have A:=Dr h0 rfl G
 have z:=Dt A (by decide)
 rw[Dt z (by decide)];simp;rfl
theorem C1(p:PS):∀i,(p.lZ i).2.ex=p.ex
 |0=>rfl
 |i+1=>by
  unfold PS.lZ
  split
  ·split
   ·rw[show∀(q:PS)s,(q.keyword s).2.ex=q.ex from mz];exact C1 p i
   exact C1 p i
  exact C1 p i
theorem Xd(h:p.agg.1=0):p.agg.2=p:=by
 unfold PS.agg at h⊢
 repeat' split at h
 all_goals first|exact absurd h (by decide)|(simp_all)
theorem EG.go2(h:EG p e N)(g:bP p q)(z:q.ex=p.ex):EG q e N:=h.go (fun h0=>⟨g.er h0,z⟩) g.aJ
theorem ui{T:bd}(F:FT T){D:Rd}(A:kp T D){a:Bool}{p:PS}{e:List aN}{N:Nat}(h:bf p)(he:EG p e N)(hN:N≤100000):bY T 199 [.vp 1000 0,.ac 1050 (e.map aN.enc).length 8] (p.be a e) fun r Bn=>∃z,r= .ac 1050 (z.map aN.enc).length 8∧Bn=(p.expr D).2.be a z∧EG (p.expr D).2 z (N+610):=
 (Nx F A 61).1 a p e N h.st (by rw[h.d0]) he hN
theorem q6(h:bf p)(he:EG (p.expr D).2 e N)(h0:(p.expr D).2.err=0):(((e.map aN.enc).length:Nat):Int) -Int.ofNat 1=(p.expr D).1:=pN (rb he ((vX D 61).1 p h.st (by rw[h.d0])) h0)
theorem xn(r:PS):r.alias false=if(r.keyword fi).1=true then(r.keyword fi).2.name else([],r):=by
 unfold PS.alias PS.keyword PS.accept
 cases h:r.next 1 fi
 ·simp
 simp
theorem vO(r:PS)(b:Bool):(r.alias b).2.ex=r.ex:=by
 unfold PS.alias
 split
 ·rfl
 split
 ·rfl
 exact qu ..
def PS.ib(a:Bool)(q:PS)(d:Bool)(e:List aN)(cr:List Item):bo:=[(1000,.one 164 64 (q.lY a)),(1001,.one 106 120 [dB d,.ac 1050 (e.map aN.enc).length 8,.ac 1051 (cr.map Item.enc).length 3,dN,dI (-1),dB false,dN]),(1050,.acc 142 88 8 (e.map aN.enc)),(1051,.acc 167 32 3 (cr.map Item.enc))]
theorem xS{B:bo}{d:Bool}{cr:List Item}{z:Item}(A:aY B 1000=some (.one 164 64 (q.lY a)))(h2:aY B 1001=some (.one 106 120 [dB d,.ac 1050 (e.map aN.enc).length 8,.ac 1051 (cr.map Item.enc++[z.enc]).length 3,dN,dI (-1),dB false,dN]))(G:aY B 1050=some (.acc 142 88 8 (e.map aN.enc)))(I:aY B 1051=some (.acc 167 32 3 (cr.map Item.enc++[z.enc]))):br (q.ib a d e (cr++[z])) B:=by
 unfold PS.ib
 rw[dr]
 exact⟨A,h2,G,I,trivial⟩
open Go
set_option maxRecDepth 10000
set_option maxHeartbeats 4000000 in
theorem OZ{T:bd}(F:FT T){D:Rd}(Lq:kp T D){a:Bool}{p:PS}(hp:bf p)(d:Bool){e:List aN}{cr:List Item}{N:Nat}(he:EG p e N)(hN:N≤100000)(hl:cr.length≤100000):bY T 203 [.vp 1000 0,.vp 1001 0] (PS.ib a p d e cr) fun r Bn=>∃e' it,r= .tuple []∧Bn=PS.ib a (p.item D).2 d e' (cr++[it])∧EG (p.item D).2 e' (N+620)∧((p.item D).2.err=0→it=(p.item D).1):=by
 refine cw F.aaK aa ?_
 have pC:=he.small hp.ok (by omega)
 refine eD (PS.bq a p++[(1001,.one 106 120 [dB d,.ac 1050 (e.map aN.enc).length 8,.ac 1051 (cr.map Item.enc).length 3,dN,dI (-1),dB false,dN]),(1050,.acc 142 88 8 (e.map aN.enc)),(1051,.acc 167 32 3 (cr.map Item.enc))]) (cI aa ⟨aa,aa,aa,trivial⟩) (al 3 aa (al 3 aa (aK (ai (ae 1 aa (bI (fN F hp.ok jI) aa aa aa aa (af (aI aa (fun BN=>?_) (fun BN=>?_)))))))))
 ·have hb:p.iK D=((1, -1),((((p.keyword jI).2.bA cq).bA eV).bA dP)):=by unfold PS.iK;rw[aw BN]
  have g1:=hp.kw jI
  have Y:=g1.trans (g1.top.gQ cq)
  have Z:=Y.trans (Y.top.gQ eV)
  have O:=Z.trans (Z.top.gQ dP)
  have J:EG ((((p.keyword jI).2.bA cq).bA eV).bA dP) e (N+620):=(he.go2 O (by rw[r6,r6,r6,mz])).dE (by omega)
  refine ai (ae 1 aa (bI (oz F g1.ok cq) aa aa aa aa (af (ai (ae 1 aa (bI (oz F Y.ok eV) aa aa aa aa (af (ai (ae 1 aa ?_)))))))))
  refine bI (oz F Z.ok dP) aa aa aa aa (af (al 2 aa (bD (ae 2 aa (af ?_)))))
  refine aK (ai (ae 1 aa (bI (fN F O.ok fi) aa aa aa aa (af (aI aa (fun G=>?_) (fun G=>?_))))))
  ·have z:=xn ((((p.keyword jI).2.bA cq).bA eV).bA dP)
   have K:=O.top.alias false
   have U:EG (((((p.keyword jI).2.bA cq).bA eV).bA dP).alias false).2 e (N+620):=J.go2 K (vO ..)
   rw[aw G] at z
   rw[z] at U K
   have hm:p.item D=(⟨1, -1,(((((p.keyword jI).2.bA cq).bA eV).bA dP).keyword fi).2.name.1⟩,(((((p.keyword jI).2.bA cq).bA eV).bA dP).keyword fi).2.name.2):=by unfold PS.item;rw[hb,z]
   refine bD (ae 1 aa (bI (kX F (O.trans (O.top.kw fi)).ok) aa aa aa aa (ae 2 aa (af ?_))))
   refine iw (bk 7 aa ?_)
   refine eo rfl (dZ (rows:=cr.map Item.enc) (ys:=[(⟨1,(-1),(((((p.keyword jI).2.bA cq).bA eV).bA dP).keyword fi).2.name.1⟩:Item).enc]) rfl rfl rfl (.bs (rows:=[(⟨1,(-1),(((((p.keyword jI).2.bA cq).bA eV).bA dP).keyword fi).2.name.1⟩:Item).enc]) rfl) (bO rfl) (by rw[bC,bZ];simp only[cP,dx];omega) (fun h=>by rw[h];rfl) (fun h=>by rw[h];rfl) ?_)
   refine bk 3 aa (c6 ?_)
   rw[hm]
   exact⟨_,PS.ib a (((((p.keyword jI).2.bA cq).bA eV).bA dP).keyword fi).2.name.2 d e (cr++[(⟨1,(-1),(((((p.keyword jI).2.bA cq).bA eV).bA dP).keyword fi).2.name.1⟩:Item)]),aa,xS aa aa aa aa,⟨e,(⟨1,(-1),(((((p.keyword jI).2.bA cq).bA eV).bA dP).keyword fi).2.name.1⟩:Item),aa,aa,U,fun h0=>aa⟩⟩
  have z:=xn ((((p.keyword jI).2.bA cq).bA eV).bA dP)
  have K:=O.top.alias false
  have U:EG (((((p.keyword jI).2.bA cq).bA eV).bA dP).alias false).2 e (N+620):=J.go2 K (vO ..)
  rw[aj (by rw[G];decide)] at z
  rw[z] at U K
  rw[PS.cQ G]
  have hm:p.item D=(⟨1, -1,[]⟩,((((p.keyword jI).2.bA cq).bA eV).bA dP)):=by unfold PS.item;rw[hb,z]
  refine aQ (iw (bk 7 aa ?_))
  refine eo rfl (dZ (rows:=cr.map Item.enc) (ys:=[(⟨1,(-1),[]⟩:Item).enc]) rfl rfl rfl (.bs (rows:=[(⟨1,(-1),[]⟩:Item).enc]) rfl) (bO rfl) (by rw[bC,bZ];simp only[cP,dx];omega) (fun h=>by rw[h];rfl) (fun h=>by rw[h];rfl) ?_)
  refine bk 3 aa (c6 ?_)
  rw[hm]
  exact⟨_,PS.ib a ((((p.keyword jI).2.bA cq).bA eV).bA dP) d e (cr++[(⟨1,(-1),[]⟩:Item)]),aa,xS aa aa aa aa,⟨e,(⟨1,(-1),[]⟩:Item),aa,aa,U,fun h0=>aa⟩⟩
 rw[PS.cQ BN]
 refine aK (al 1 aa (bJ ?_))
 refine dY (fun k VE B=>∃(i:Nat)(g:Int)(q:PS),i≤3∧k=3-i∧p.lZ i=(g,q)∧bP p q∧br [(0,.vp 1000 0),(1,.vp 1001 0),(4,.vp 4 0),(5,.vp 5 0),(6,dI (i:Nat))] VE∧br (PS.bq a q++[(1001,.one 106 120 [dB d,.ac 1050 (e.map aN.enc).length 8,.ac 1051 (cr.map Item.enc).length 3,dN,dI (-1),dB false,dN]),(1050,.acc 142 88 8 (e.map aN.enc)),(1051,.acc 167 32 3 (cr.map Item.enc)),(4,.one 167 32 [dI g,d0,dS []]),(5,.one 248 48 [VV.d (cB nB),dS nC,dS nD])]) B) ?_ (k:=3) ⟨0,Int.ofNat 0,p,by decide,rfl,rfl,.refl hp,⟨rfl,rfl,rfl,rfl,rfl,trivial⟩,cI rfl ⟨rfl,rfl,rfl,rfl,rfl,trivial⟩⟩
 rintro k VE B⟨i,g,q,hi,rfl,hP,hq,hV,hB⟩
 refine eD (PS.bq a q++[(1001,.one 106 120 [dB d,.ac 1050 (e.map aN.enc).length 8,.ac 1051 (cr.map Item.enc).length 3,dN,dI (-1),dB false,dN]),(1050,.acc 142 88 8 (e.map aN.enc)),(1051,.acc 167 32 3 (cr.map Item.enc)),(4,.one 167 32 [dI g,d0,dS []]),(5,.one 248 48 [VV.d (cB nB),dS nC,dS nD])]) hB ?_
 have hB:br (PS.bq a q++[(1001,.one 106 120 [dB d,.ac 1050 (e.map aN.enc).length 8,.ac 1051 (cr.map Item.enc).length 3,dN,dI (-1),dB false,dN]),(1050,.acc 142 88 8 (e.map aN.enc)),(1051,.acc 167 32 3 (cr.map Item.enc)),(4,.one 167 32 [dI g,d0,dS []]),(5,.one 248 48 [VV.d (cB nB),dS nC,dS nD])]) (PS.bq a q++[(1001,.one 106 120 [dB d,.ac 1050 (e.map aN.enc).length 8,.ac 1051 (cr.map Item.enc).length 3,dN,dI (-1),dB false,dN]),(1050,.acc 142 88 8 (e.map aN.enc)),(1051,.acc 167 32 3 (cr.map Item.enc)),(4,.one 167 32 [dI g,d0,dS []]),(5,.one 248 48 [VV.d (cB nB),dS nC,dS nD])]):=cI rfl ⟨rfl,rfl,rfl,rfl,rfl,trivial⟩
 refine dn _ _ hV hB (aK (al 2 aa (aI aa (fun tw=>?_) (fun tw=>?_))))
 ·have BO:i<3:=by simp at tw;omega
  obtain⟨s,hs,hk⟩:∃s,yv i=s∧[VV.d (cB nB),.d (cB nC),.d (cB nD)][0+i*1]?=some (.d (cB s)):=by
   rcases(by omega:i=0∨i=1∨i=2) with rfl|rfl|rfl<;>exact⟨_,rfl,rfl⟩
  refine aQ (aK (bJ (ai (ae 4 aa (dc (g:=bU) aa (fun A=>?_) (fun A=>?_))))))
  ·have hg:g=0:=by simpa using A
   refine ao aa (A) (bN aa ?_)
   refine ao aa (A) (bN aa ?_)
   refine ao aa (A) (md aa aa BO ?_)
   refine ao aa (A) (df aa aa hk ?_)
   refine ao aa (A) (wt (fN F hq.ok s) aa aa aa aa ?_)
   refine ak (cT aa (A) aa ?_)
   refine af (aI aa (fun pB=>?_) (fun pB=>?_))
   ·have hA:=Dr hP hg (by rw[hs];exact pB)
    rw[hs] at hA
    have BP:=hq.trans (hq.top.kw s)
    refine bD (ae 1 aa (ak (CV aa aa ?_)))
    rw[wrap_i64 (by simp only[bb];omega) (by simp only[bb];omega)]
    refine ae 2 aa (af ?_)
    refine bD (ae 1 aa ?_)
    refine ak (cM rfl rfl (by omega) ?_)
    refine ae 1 aa (af ?_)
    exact⟨3-(i+1),by omega,i+1,_,_,by omega,rfl,hA,BP,⟨rfl,rfl,rfl,rfl,rfl,trivial⟩,cI rfl ⟨rfl,rfl,rfl,rfl,rfl,trivial⟩⟩
   have hA:=Ds hP hg (by rw[hs];exact pB)
   have BP:=hq
   rw[PS.cQ pB]
   refine aQ (bD (ae 1 aa ?_))
   refine ak (cM rfl rfl (by omega) ?_)
   refine ae 1 aa (af ?_)
   exact⟨3-(i+1),by omega,i+1,_,_,by omega,rfl,hA,BP,⟨rfl,rfl,rfl,rfl,rfl,trivial⟩,cI rfl ⟨rfl,rfl,rfl,rfl,rfl,trivial⟩⟩
  have hg:¬g=0:=by simpa using A
  have hA:=Dt hP hg
  have BP:=hq
  refine aO aa (A) (aO aa (A) (aO aa (A) (aO aa (A) (aO aa (A) (ak (cJ aa (A) aa ?_))))))
  refine af (eC aa aa (aQ (bD (ae 1 aa ?_))))
  refine ak (cM rfl rfl (by omega) ?_)
  refine ae 1 aa (af ?_)
  exact⟨3-(i+1),by omega,i+1,_,_,by omega,rfl,hA,BP,⟨rfl,rfl,rfl,rfl,rfl,trivial⟩,cI rfl ⟨rfl,rfl,rfl,rfl,rfl,trivial⟩⟩
 have h3:i=3:=by simp at tw;omega
 subst h3
 rw[OY] at hP
 have hx:q.ex=p.ex:=by have:=C1 p 3;rw[OY,hP] at this;exact this
 refine dD (aK (al 3 aa (aI aa (fun wV=>?_) (fun wV=>?_))))
 ·have hg:¬g=0:=by simpa using wV
  have hb:p.iK D=((g,(q.fU D).1),(q.fU D).2):=by unfold PS.iK;rw[aj (by rw[BN];decide),hP,aj hg]
  have g1:=hq.trans (hq.top.gQ cq)
  have Y:=g1.trans (g1.top.expr D)
  have O:bP p (q.fU D).2:=Y.trans (Y.top.gQ dP)
  have hz:EG (q.bA cq) e N:=he.go2 g1 (by rw[r6,hx])
  refine bD (ae 1 aa (bI (oz F hq.ok cq) aa aa aa aa (af (ai (ae 6 aa (jE 1001 1 aa aa (eB (PS.bq a (q.bA cq)++[(1001,.one 106 120 [dB d,.undef,.ac 1051 (cr.map Item.enc).length 3,dN,dI (-1),dB false,dN]),(1050,.acc 142 88 8 (e.map aN.enc)),(1051,.acc 167 32 3 (cr.map Item.enc)),(4,.one 167 32 [dI g,d0,dS []]),(5,.one 248 48 [VV.d (cB nB),dS nC,dS nD])]) (cI aa ⟨aa,aa,aa,aa,aa,trivial⟩) (jv (ui F Lq g1.top hz hN) aa aa aa aa (fun e1 Z=>?_)))))))))
  have pC:=Z.small Y.ok (by omega)
  refine ae 3 aa (af ?_)
  refine ai (ae 5 aa ?_)
  refine ak (gm rfl rfl (by simp only[bZ,bb];omega) (by simp only[bZ,bb];omega) ?_)
  obtain⟨v,hv⟩:∃v:Int,(((e1.map aN.enc).length:Nat):Int) -Int.ofNat 1=v:=⟨_,rfl⟩
  rw[hv]
  refine ae 2 aa (af ?_)
  refine al 3 aa (fm aa (wV) (bD (ae 1 aa (bI (oz F Y.ok dP) aa aa aa aa (af (aK (ai (ae 1 aa (bI (fN F O.ok fi) aa aa aa aa ?_)))))))))
  refine af (aI aa (fun G=>?_) (fun G=>?_))
  ·have z:=xn (q.fU D).2
   have K:=O.top.alias false
   have J:EG (q.fU D).2 e1 (N+620):=(Z.go2 (Y.top.gQ dP) (r6 ..)).dE (by omega)
   have U:EG ((q.fU D).2.alias false).2 e1 (N+620):=J.go2 K (vO ..)
   have I:((q.fU D).2.alias false).2.err=0→v=(q.fU D).1:=fun h0=>hv.symm.trans (q6 g1.top Z ((Y.top.gQ dP).er (K.er h0)))
   rw[aw G] at z
   rw[z] at U K
   have hm:p.item D=(⟨g,(q.fU D).1,((q.fU D).2.keyword fi).2.name.1⟩,((q.fU D).2.keyword fi).2.name.2):=by unfold PS.item;rw[hb,z]
   rw[z] at I
   refine bD (ae 1 aa (bI (kX F (O.trans (O.top.kw fi)).ok) aa aa aa aa (ae 2 aa (af ?_))))
   refine iw (bk 7 aa ?_)
   refine eo rfl (dZ (rows:=cr.map Item.enc) (ys:=[(⟨g,v,((q.fU D).2.keyword fi).2.name.1⟩:Item).enc]) rfl rfl rfl (.bs (rows:=[(⟨g,v,((q.fU D).2.keyword fi).2.name.1⟩:Item).enc]) rfl) (bO rfl) (by rw[bC,bZ];simp only[cP,dx];omega) (fun h=>by rw[h];rfl) (fun h=>by rw[h];rfl) ?_)
   refine bk 3 aa (c6 ?_)
   rw[hm]
   exact⟨_,PS.ib a ((q.fU D).2.keyword fi).2.name.2 d e1 (cr++[(⟨g,v,((q.fU D).2.keyword fi).2.name.1⟩:Item)]),rfl,xS rfl rfl rfl rfl,⟨e1,(⟨g,v,((q.fU D).2.keyword fi).2.name.1⟩:Item),rfl,rfl,U,fun h0=>by rw[I h0]⟩⟩
  have z:=xn (q.fU D).2
  have K:=O.top.alias false
  have J:EG (q.fU D).2 e1 (N+620):=(Z.go2 (Y.top.gQ dP) (r6 ..)).dE (by omega)
  have U:EG ((q.fU D).2.alias false).2 e1 (N+620):=J.go2 K (vO ..)
  have I:((q.fU D).2.alias false).2.err=0→v=(q.fU D).1:=fun h0=>hv.symm.trans (q6 g1.top Z ((Y.top.gQ dP).er (K.er h0)))
  rw[aj (by rw[G];decide)] at z
  rw[z] at U K
  rw[PS.cQ G]
  have hm:p.item D=(⟨g,(q.fU D).1,[]⟩,(q.fU D).2):=by unfold PS.item;rw[hb,z]
  rw[z] at I
  refine aQ (iw (bk 7 aa ?_))
  refine eo rfl (dZ (rows:=cr.map Item.enc) (ys:=[(⟨g,v,[]⟩:Item).enc]) rfl rfl rfl (.bs (rows:=[(⟨g,v,[]⟩:Item).enc]) rfl) (bO rfl) (by rw[bC,bZ];simp only[cP,dx];omega) (fun h=>by rw[h];rfl) (fun h=>by rw[h];rfl) ?_)
  refine bk 3 aa (c6 ?_)
  rw[hm]
  exact⟨_,PS.ib a (q.fU D).2 d e1 (cr++[(⟨g,v,[]⟩:Item)]),rfl,xS rfl rfl rfl rfl,⟨e1,(⟨g,v,[]⟩:Item),rfl,rfl,U,fun h0=>by rw[I h0]⟩⟩
 have hg:g=0:=by simpa using wV
 obtain rfl:q=p:=by have:=Xd (p:=p) (by rw[hP];exact hg);rw[hP] at this;exact this
 have hb:q.iK D=((0,(q.expr D).1),(q.expr D).2):=by unfold PS.iK;rw[aj (by rw[BN];decide),hP,aw hg]
 have Y:=hp.expr D
 have O:=Y
 subst hg
 refine aQ (ai (ae 6 aa (jE 1001 1 aa aa (eB (PS.bq a q++[(1001,.one 106 120 [dB d,.undef,.ac 1051 (cr.map Item.enc).length 3,dN,dI (-1),dB false,dN]),(1050,.acc 142 88 8 (e.map aN.enc)),(1051,.acc 167 32 3 (cr.map Item.enc)),(4,.one 167 32 [d0,d0,dS []]),(5,.one 248 48 [VV.d (cB nB),dS nC,dS nD])]) (cI aa ⟨aa,aa,aa,aa,aa,trivial⟩) (jv (ui F Lq hp he hN) aa aa aa aa (fun e1 Z=>?_))))))
 have pC:=Z.small Y.ok (by omega)
 refine ae 3 aa (af ?_)
 refine ai (ae 5 aa ?_)
 refine ak (gm rfl rfl (by simp only[bZ,bb];omega) (by simp only[bZ,bb];omega) ?_)
 obtain⟨v,hv⟩:∃v:Int,(((e1.map aN.enc).length:Nat):Int) -Int.ofNat 1=v:=⟨_,rfl⟩
 rw[hv]
 refine ae 2 aa (af ?_)
 refine al 3 aa (eC aa (wV) (aQ (aK (ai (ae 1 aa (bI (fN F O.ok fi) aa aa aa aa (af (aI aa (fun G=>?_) (fun G=>?_)))))))))
 ·have z:=xn (q.expr D).2
  have K:=O.top.alias false
  have J:EG (q.expr D).2 e1 (N+620):=Z.dE (by omega)
  have U:EG ((q.expr D).2.alias false).2 e1 (N+620):=J.go2 K (vO ..)
  have I:((q.expr D).2.alias false).2.err=0→v=(q.expr D).1:=fun h0=>hv.symm.trans (q6 hp Z (K.er h0))
  rw[aw G] at z
  rw[z] at U K
  have hm:q.item D=(⟨0,(q.expr D).1,((q.expr D).2.keyword fi).2.name.1⟩,((q.expr D).2.keyword fi).2.name.2):=by unfold PS.item;rw[hb,z]
  rw[z] at I
  refine bD (ae 1 aa (bI (kX F (O.trans (O.top.kw fi)).ok) aa aa aa aa (ae 2 aa (af ?_))))
  refine iw (bk 7 aa ?_)
  refine eo rfl (dZ (rows:=cr.map Item.enc) (ys:=[(⟨0,v,((q.expr D).2.keyword fi).2.name.1⟩:Item).enc]) rfl rfl rfl (.bs (rows:=[(⟨0,v,((q.expr D).2.keyword fi).2.name.1⟩:Item).enc]) rfl) (bO rfl) (by rw[bC,bZ];simp only[cP,dx];omega) (fun h=>by rw[h];rfl) (fun h=>by rw[h];rfl) ?_)
  refine bk 3 aa (c6 ?_)
  rw[hm]
  exact⟨_,PS.ib a ((q.expr D).2.keyword fi).2.name.2 d e1 (cr++[(⟨0,v,((q.expr D).2.keyword fi).2.name.1⟩:Item)]),rfl,xS rfl rfl rfl rfl,⟨e1,(⟨0,v,((q.expr D).2.keyword fi).2.name.1⟩:Item),rfl,rfl,U,fun h0=>by rw[I h0]⟩⟩
 have z:=xn (q.expr D).2
 have K:=O.top.alias false
 have J:EG (q.expr D).2 e1 (N+620):=Z.dE (by omega)
 have U:EG ((q.expr D).2.alias false).2 e1 (N+620):=J.go2 K (vO ..)
 have I:((q.expr D).2.alias false).2.err=0→v=(q.expr D).1:=fun h0=>hv.symm.trans (q6 hp Z (K.er h0))
 rw[aj (by rw[G];decide)] at z
 rw[z] at U K
 rw[PS.cQ G]
 have hm:q.item D=(⟨0,(q.expr D).1,[]⟩,(q.expr D).2):=by unfold PS.item;rw[hb,z]
 rw[z] at I
 refine aQ (iw (bk 7 aa ?_))
 refine eo rfl (dZ (rows:=cr.map Item.enc) (ys:=[(⟨0,v,[]⟩:Item).enc]) rfl rfl rfl (.bs (rows:=[(⟨0,v,[]⟩:Item).enc]) rfl) (bO rfl) (by rw[bC,bZ];simp only[cP,dx];omega) (fun h=>by rw[h];rfl) (fun h=>by rw[h];rfl) ?_)
 refine bk 3 aa (c6 ?_)
 rw[hm]
 exact⟨_,PS.ib a (q.expr D).2 d e1 (cr++[(⟨0,v,[]⟩:Item)]),rfl,xS rfl rfl rfl rfl,⟨e1,(⟨0,v,[]⟩:Item),rfl,rfl,U,fun h0=>by rw[I h0]⟩⟩
end Go.Ev.Pp
