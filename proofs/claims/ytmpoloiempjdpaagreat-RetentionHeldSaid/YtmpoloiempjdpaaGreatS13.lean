/- Part 13 of rules for walks through the code of a program, and of such walks; what each part proves is said by its theorems. -/
import Derived.Test.YtmpoloiempjdpaaGreatS12
set_option linter.unusedVariables false
set_option linter.unusedSimpArgs false
noncomputable section
set_option maxRecDepth 100000
set_option maxHeartbeats 4000000
namespace Go.Ev
open Go
theorem wrote_in{f m:Nat}{l:List Nat}(h:f∈l):wrote f m l=l:=by
 unfold wrote;rw[show pO f l=true from(KT _ _).2 h]
 cases Nat.ble m f<;>rfl
theorem wrote_idem{f m:Nat}{ws:List Nat}:wrote f m (wrote f m ws)=wrote f m ws:=by
 by_cases h:f<m
 ·exact wrote_in ((xl _ _ _ _).2 (.inr ⟨aa,h⟩))
 have:∀l,wrote f m l=l:=fun l=>by
  unfold wrote;rw[fR an];rfl
 rw[this,this]
theorem aa9:∀l:List DC,gG (l.map .d)=some l
 |[]=>rfl
 |x::r=>by simp only[lM,gG,aa9 r,sw]
theorem ab6{f es n elem aC:Nat}{z:List ai}(L:z.length=es)(h0:0<es):∀(m j:Nat){H:ax}{lo:Nat}{cs:RT},H.t.get f=some (.row elem es aC n lo 0 cs)→lo≤n→(∀q,q<n→∃l,cs.get q=some l∧l.length=es)→j+m≤n→
  ∃H' A G,rn f n es z m (j*es) H= .ok (.tuple []) H'∧H'.next=H.next∧H'.aS=H.aS∧(H'.ws=wrote f H.aS H.ws∨m=0∧H'.ws=H.ws)∧(∀x,x≠f→H'.t.get x=H.t.get x)∧H'.t.get f=some (.row elem es aC n A 0 G)∧A≤n∧∀q,G.get q=if j≤q∧q<j+m then some z else cs.get q
 |0,j,H,lo,cs,M,h2,O,h4=>⟨H,lo,cs,rfl,rfl,rfl,.inr ⟨rfl,rfl⟩,fun _ _=>rfl,M,h2,fun q=>by rw[aX an]⟩
 |m+1,j,H,lo,cs,M,h2,O,h4=>by
  obtain⟨l,k1,k2⟩:=O j an;have e:=HV (e:=aD.err 28) (K:=fun H=>ch (Nat.add (j*es) es) fun off=>rn f n es z m off H) (q:=j) (o:=0) (n:=es) (new:=z) M h2 an k1 k2 L h0 an;rw[show(bif Nat.beq es es then z else en l 0 z)=z by rw[show Nat.beq es es=true from gu es];rfl] at e;obtain⟨H',A,G,r1,r2,r3,I,r5,r6,r7,r8⟩:=ab6 L h0 m (j+1) (H:=⟨H.next,H.aS,wrote f H.aS H.ws,H.t.set f (.row elem es aC n n 0 (cs.set j z))⟩) (lo:=n) (cs:=cs.set j z) (by show(H.t.set f _).get f=_;rw[GT.df,bg rfl]) (bd _)
   (fun q hq=>by
    rw[RT.df]
    by_cases e:q=j
    ·rw[bg e];exact⟨z,rfl,L⟩
    rw[aX e];exact O q hq) an
  refine⟨H',A,G,?_,r2,r3,.inl ?_,fun x U=>(r5 x U).trans ?_,r6,r7,fun q=>?_⟩
  ·show wr H f n (j*es) es z (aD.err 28) (fun H=>ch (Nat.add (j*es) es) fun off=>rn f n es z m off H)=_;have e':wr H f n (j*es) es z (aD.err 28) (fun H=>ch (Nat.add (j*es) es) fun off=>rn f n es z m off H)=_:=e;rw[e',fc,show Nat.add (j*es) es=(j+1)*es by rw[vO];rfl];exact r1
  ·rcases I with I|⟨_,I⟩
   ·rw[I];exact wrote_idem
   exact I
  ·show(H.t.set f _).get x=_;rw[GT.df,aX U]
  rw[r8,RT.df]
  by_cases Y:q=j
  ·subst Y;rw[aX an,bg rfl,bg an]
  rw[aX Y]
  by_cases Z:j+1≤q∧q<j+1+m
  ·rw[bg Z,bg an]
  rw[aX Z,aX an]
section
variable{T:aL}{VE:bb}{B:aK}{Q:VV→aK→Prop}
theorem aba{x h:aG}{b n es f elem aC e lo j:Nat}{k:IntKind}{rows:ah}(G:x.vv VE=some (.bs b n es))(I:aF B b=some (.bK f (.arr elem aC e lo rows)))(L:h.vv VE=some (.d (.i k (j:Int))))(M:j≤n)(O:Q (.k (.slice f n 0 j es)) B):VI T (.sE es x none (some h)) VE B [] Q:=fun H0 X0 E H β z=>by
 obtain⟨_,U,h2⟩:=z.bC G;obtain⟨_,Y,A⟩:=z.bC L;simp only[aE,bA] at h2 A;subst h2 A;refine eG (v:=.slice f n 0 j es) (fun _=>?_) (du z (v:=.k (.slice f n 0 j es)) (by simp only[aE]) O);show bq x E (.err 16) _=_;rw[cQ,U,cA];show aJ (Nat.beq es es) (ob (h.ev E) (.err 16) fun v=>fG v (.err 16) fun _ i=>iU i (.err 16) fun m=>aJ (Nat.ble m (nW n 0 es n)) (ch (Nat.add 0 (Nat.mul 0 es)) fun off=>ch (Nat.sub m 0) fun l=>aD.ok (.slice (β b) n off l es) H) (.err 16)) (.err 16)=_;rw[show Nat.beq es es=true from gu es,dM,Y,cA];show aJ (Nat.ble j (nW n 0 es n)) (ch (Nat.add 0 (Nat.mul 0 es)) fun off=>ch (Nat.sub j 0) fun l=>aD.ok (.slice (β b) n off l es) H) (.err 16)=_;rw[fR (eT M F4),dM,fc,fc,z.pinned I trivial];show aD.ok (ai.slice f n (0+0*es) (j-0) es) H=_;rw[ri,Ee]
theorem Rg{x h:aG}{b n es f elem aC e lo j:Nat}{k:IntKind}{rows:ah}(G:x.vv VE=some (.bs b n es))(I:aF B b=some (.bK f (.arr elem aC e lo rows)))(L:h.vv VE=some (.d (.i k (j:Int))))(M:j≤n)(O:Q (.k (.slice f n (j*es) (n-j) es)) B):VI T (.sE es x (some h) none) VE B [] Q:=fun H0 X0 E H β z=>by
 obtain⟨_,U,h2⟩:=z.bC G;obtain⟨_,Y,A⟩:=z.bC L;simp only[aE,bA] at h2 A;subst h2 A;refine eG (v:=.slice f n (j*es) (n-j) es) (fun _=>?_) (du z (v:=.k (.slice f n (j*es) (n-j) es)) (by simp only[aE]) O);show bq x E (.err 16) _=_;rw[cQ,U,cA];show aJ (Nat.beq es es) (ob (h.ev E) (.err 16) fun v=>fG v (.err 16) fun _ i=>iU i (.err 16) fun m=>aJ (Nat.ble m n) (ch (Nat.add 0 (Nat.mul m es)) fun off=>ch (Nat.sub n m) fun l=>aD.ok (.slice (β b) n off l es) H) (.err 16)) (.err 16)=_;rw[show Nat.beq es es=true from gu es,dM,Y,cA];show aJ (Nat.ble j n) (ch (Nat.add 0 (Nat.mul j es)) fun off=>ch (Nat.sub n j) fun l=>aD.ok (.slice (β b) n off l es) H) (.err 16)=_;rw[fR M,dM,fc,fc,z.pinned I trivial];show aD.ok (ai.slice f n (0+j*es) (n-j) es) H=_;rw[e6]
theorem abb{x:aG}{G:List ai}{zr:List DC}{b n es f elem aC lo j:Nat}{rows:ah}(O:x.vv VE=some (.k (.slice f n (j*es) (n-j) es)))(U:aF B b=some (.bK f (.arr elem aC es lo rows)))(hn:rows.length=n)(hj:j<n)(hz:pv G=some (zr.map .d))(I:G.length=es)(h0:0<es)
  (z:Q (.tuple []) ((b,.bK f (.arr elem aC es n (rows.take j++List.replicate (n-j) zr)))::B)):VI T (.copy es x (.c (.agg G))) VE B [b] Q:=fun H0 X0 E H β M=>by
 obtain⟨_,h1,h2⟩:=M.bC O;simp only[aE] at h2;subst h2;have L:=M.pinned U trivial;obtain⟨qe,cs,k1,k2,k3,k4⟩:=(M.box b _ U).2;rw[L,hn] at k1
 obtain⟨H',Y,Z,r1,r2,r3,A,r5,r6,r7,r8⟩:=ab6 (f:=f) I h0 (n-j) j k1 an (fun q z=>by
  obtain⟨l,m1,m2,_⟩:=k4 q (rows[q]'(by omega)) (dx _)
  exact⟨l,m1,m2⟩) an
 have A:H'.ws=wrote (β b) H.aS H.ws:=by
  rw[L];rcases A with A|⟨A,_⟩
  ·exact A
  omega
 refine⟨0,.tuple [],H',fun lf m _ _=>?_,?_⟩
 ·show bq x E (.err 28) _=_;rw[cQ,h1,cA];show aJ (Nat.beq es es) (aJ (Nat.ble 1 es) (rn f n es G (n-j) (j*es) H) (.err 28)) (.err 28)=_;rw[show Nat.beq es es=true from gu es,dM,fR h0,dM,r1]
 refine zN (s':=.bK f (.arr elem aC es n (rows.take j++List.replicate (n-j) zr))) M U trivial r2 (fun x O=>r5 x (by rw[←L];exact O)) r3 A (fun X j1 j2=>⟨fun _=>L,?_⟩) (fun X=>by simp only[aE];exact⟨[],rfl,by simp only[bc]⟩) z;have hlen:(rows.take j++List.replicate (n-j) zr).length=n:=by rw[e7,iD,qQ];omega
 refine⟨Y,Z,by rw[L,r6,hlen],r7,by rw[hlen];exact bd _,fun q row z=>?_⟩;rw[r8]
 by_cases hqj:q<j
 ·rw[aX an];rw[sA (by rw[iD];omega),Bp,bg hqj] at z;obtain⟨l,m1,m2,m3⟩:=k4 q row z;exact⟨l,m1,m2,j2 _ _ m3⟩
 have hql:=(List.getElem?_eq_some_iff.1 z).1;rw[hlen] at hql;rw[bg an];rw[rl (by rw[iD];omega),T2] at z
 split at z
 ·cases z
  exact⟨G,aa,I,(CB (β:=β) hz).data (aa9 _)⟩
 cases z
theorem Rel.frzK{H0:Nat→Nat}{X0:Nat→Prop}{E:Env}{H:ax}{β:Nat→Nat}(A:Rel H0 X0 VE B E H β){b f elem aC es lo:Nat}{rows:ah}(G:aF B b=some (.bK f (.arr elem aC es lo rows))){k i:Nat}(hk:aF VE k=some (.k (.slice f rows.length 0 i es)))(hi:i≤rows.length):
  Rel H0 X0 ((k,.d (.sl (rows.take i)))::VE) (cL B b) E H β:=by
 have M:=A.pinned G trivial;have O:¬XB X0 (cL B b) β (β b):=by
  rintro(h|⟨c,s,z,U,h2⟩)
  ·exact(A.new b _ G trivial).1 h
  rw[gz] at z
  by_cases e:b=c
  ·rw[bg e] at z;cases z
  rw[aX e] at z;exact e (A.inj c b s _ z G U trivial h2).symm
 have hl:eJ H (XB X0 B β) H (XB X0 (cL B b) β):=⟨bd _,fun f _ O=>⟨fun k=>O (k.imp id fun⟨c,s,z,h2⟩=>⟨c,s,by
  rw[gz] at z
  by_cases e:b=c
  ·rw[bg e] at z;cases z
  rw[aX e] at z;exact z,h2⟩),rfl⟩⟩
 refine(A.drop b).slot hk fun a ha=>?_
 simp only[aE] at ha;subst ha;have hlen:(rows.take i).length=i:=by rw[iD];omega
 show bA H _ (.sl (rows.take i)) _;simp only[bA];refine⟨f,rows.length,0,es,by rw[hlen],.inr ⟨by rw[←M];exact O,by rw[←M];exact(A.new b _ G trivial).2,0,by simp,dF.mW fun q row Y=>?_⟩⟩;have I:=(List.getElem?_eq_some_iff.1 Y).1;rw[hlen] at I;rw[Bp,bg I] at Y;have L:=(A.box b _ G).2;have Z:lo≤rows.length:=by obtain⟨_,_,_,_,h,_⟩:=L;exact h
 obtain⟨l,z,h2,h3⟩:=L.cells (g:=rows.length) Z (bd _) an Y;exact⟨l,by rw[e6,←M];exact z,h2,h3.lift hl⟩
theorem vc_frzK{c:IC}{R:Ex→bb→aK→Prop}(k b:Nat){i f elem aC es lo:Nat}{rows:ah}(z:aF B b=some (.bK f (.arr elem aC es lo rows)))(A:aF VE k=some (.k (.slice f rows.length 0 i es)))(hi:i≤rows.length)(h:VC T c ((k,.d (.sl (rows.take i)))::VE) (cL B b) R):VC T c VE B R:=
 fun H0 X0 E H β G=>(h H0 X0 E H β (G.frzK z A hi)).mono fun _ _ _ I=>I.more u9
theorem ab7{c:IC}{R:Ex→bb→aK→Prop}(k b:Nat){i f elem aC es lo n:Nat}{rows:ah}(z:aF B b=some (.bK f (.arr elem aC es lo rows)))(A:rows.length=n)(G:aF VE k=some (.k (.slice f n 0 i es)))(hi:i≤n)(h:VC T c ((k,.d (.sl (rows.take i)))::VE) (cL B b) R):VC T c VE B R:=by
 subst A;exact vc_frzK k b z G hi h
end
theorem DI{W w0 w':ah}{p:List DC→Bool}{i j:Int}{a b:Nat}{r row:List DC}(h:W.take i.toNat=(w0.take j.toNat).filter p)(I:∀q:Nat,j≤q→W[q]?=w0[q]?)(h0:0≤i)(L:i<j)(M:j=a)(O:i=b)(G:W[a]?=some r)(U:p r=true)(Y:w'=W.set b (jV row 0 r))(Z:row.length=r.length):w'.take (i+1).toNat=(w0.take (j+1).toNat).filter p:=by
 subst M;subst O;have z:jV row 0 r=r:=by
  unfold jV;rw[Z,show Nat.beq r.length r.length=true from gu _];rfl
 have hal:=(List.getElem?_eq_some_iff.1 G).1;have A:w0[a]?=some r:=by rw[←I a (qR _)];exact G
 simp only[Ed] at h;rw[Y,z,show((b:Int)+1).toNat=b+1 by omega,show((a:Int)+1).toNat=a+1 by omega,t3,List.take_set_of_le (bd _),h,HB an,t3,A];simp[U]
theorem Ut{W w0:ah}{p:List DC→Bool}{i j:Int}{a:Nat}{r:List DC}(h:W.take i.toNat=(w0.take j.toNat).filter p)(A:∀q:Nat,j≤q→W[q]?=w0[q]?)(G:j=a)(I:W[a]?=some r)(L:p r=false):W.take i.toNat=(w0.take (j+1).toNat).filter p:=by
 subst G;have z:w0[a]?=some r:=by rw[←A a (qR _)];exact I
 rw[h,show((a:Int)+1).toNat=a+1 by omega,t3,z];simp[L]
theorem Uu{W w0:ah}{j:Int}(z:∀q:Nat,j≤q→W[q]?=w0[q]?):∀q:Nat,j+1≤q→W[q]?=w0[q]?:=fun q h=>z q an
theorem del_S{W w0 w':ah}{i j:Int}{b:Nat}{row:List DC}(z:∀q:Nat,j≤q→W[q]?=w0[q]?)(A:i<j)(I:i=b)(G:w'=W.set b row):∀q:Nat,j+1≤q→w'[q]?=w0[q]?:=fun q h=>by
 rw[G,MA an];exact z q an
theorem del_0{w0:ah}{p:List DC→Bool}{i:Int}{r:List DC}(h0:0≤i)(h:(w0.take i.toNat).filter p=w0.take i.toNat)(z:w0[i.toNat]?=some r)(A:p r=false):w0.take i.toNat=(w0.take (i+1).toNat).filter p:=by
 rw[show(i+1).toNat=i.toNat+1 by omega,t3,z,List.filter_append,h];simp[A]
theorem del_R{W w0 R:ah}{p:List DC→Bool}{i j:Int}{a b:Nat}(h:W.take i.toNat=(w0.take j.toNat).filter p)(A:(w0.length:Int)≤j)(z:i=a)(G:i=b)(I:a≤W.length):(W.take a++R).take b=w0.filter p:=by
 have:a=b:=by omega
 subst this;subst z;rw[rf (l:=w0) an] at h;simp only[Ed] at h;rw[agp (by rw[iD];omega),List.take_take,T6,h]
def n5(k:Int)(w:ah)(p:List DC→Bool):Prop:=(w.take k.toNat).filter p=w.take k.toNat
theorem allK_0{w:ah}{p:List DC→Bool}:n5 0 w p:=by simp[n5]
theorem n5.step{k:Int}{w:ah}{p:List DC→Bool}{a:Nat}{r:List DC}(h:n5 k w p)(z:k=a)(A:w[a]?=some r)(G:p r=true):n5 (k+1) w p:=by
 subst z;unfold n5 at h⊢;simp only[Ed] at h;rw[show((a:Int)+1).toNat=a+1 by omega,t3,A,List.filter_append,h];simp[G]
theorem n5.all{k:Int}{w:ah}{p:List DC→Bool}(h:n5 k w p)(z:(w.length:Int)≤k):w.filter p=w:=by
 unfold n5 at h;rwa [rf an] at h
theorem SD{w0:ah}{p:List DC→Bool}{i:Int}{r:List DC}(h0:0≤i)(h:n5 i w0 p)(z:w0[i.toNat]?=some r)(A:p r=false):w0.take i.toNat=(w0.take (i+1).toNat).filter p:=del_0 h0 h z A
theorem SE{W w0 w':ah}{i j:Int}{b:Nat}{row:List DC}(A:∀q:Nat,j≤q→W[q]?=w0[q]?)(G:w'=W.set b row)(I:i=b)(z:i<j):∀q:Nat,j+1≤q→w'[q]?=w0[q]?:=del_S A z I G
theorem nb_iff{y:Bool}{P:Prop}(h:y=true↔P):((!y)=true↔¬P):=by
 cases y<;>simp_all
section
end
abbrev da:=List (Nat×BS)
def pS(fs:da)(f:Nat):Prop:=∃s,(f,s)∈fs
def XF(X0:Nat→Prop)(fs:da)(f:Nat):Prop:=X0 f∨pS fs f
def BS.gx:BS→Prop
 |.one _ _ row=>kH row
 |.arr _ _ _ _ _=>True
 |.acc _ _ _ _=>True
 |.bK _ _=>False
theorem de.agB{H:ax}{X:Nat→Prop}{β β':Nat→Nat}{f:Nat}:∀{s:BS},s.gx→de H X β f s→de H X β' f s
 |.one _ _ _,z,⟨l,lo,cs,A,G,I,L⟩=>⟨l,lo,cs,A,G,I,bc.nb z L⟩
 |.arr _ _ _ _ _,_,h=>h
 |.acc _ _ _ _,_,h=>h
structure fY(H0:Nat→Nat)(X0 P:Nat→Prop)(Hs:ax)(VE:bb)(B:aK)(fs:da)(E:Env)(H:ax)(β:Nat→Nat):Prop where
 aS:H.aS=Hs.aS
 next:Hs.next≤H.next
 mn:Hs.aS≤Hs.next
 ws:∀f,f∈H.ws→f∈Hs.ws∨(f<Hs.aS∧P f)
 jI:∀f,f<Hs.next→¬P f→H.t.get f=Hs.t.get f
 rel:Rel H0 (XF X0 fs) VE B E H β
 out:∀f,pS fs f→¬X0 f
 nodup:(fs.map (·.1)).Nodup
 own:∀f s,(f,s)∈fs→s.gx∧s.born∧de H (XB (XF X0 fs) B β) (fun _=>0) f s
 new:∀f,(pS fs f∨∃b s,aF B b=some s∧s.born∧β b=f)→P f∨Hs.next≤f
def VD(T:aL)(c:IC)(VE:bb)(B:aK)(fs:da)(Q:Ex→bb→aK→da→Prop):Prop:=
 ∀H0 X0 P Hs E H β,fY H0 X0 P Hs VE B fs E H β→jZ T c E H fun x E' H'=>∃bj B' cT β',fY H0 X0 P Hs bj B' cT E' H' β'∧Q x bj B' cT
def s9(T:aL)(ops:List bl)(VE:bb)(B:aK)(fs:da)(Q:bb→aK→da→Prop):Prop:=
 ∀H0 X0 P Hs E H β,fY H0 X0 P Hs VE B fs E H β→oj T ops E H fun E' H'=>∃bj B' cT β',fY H0 X0 P Hs bj B' cT E' H' β'∧Q bj B' cT
def gP(VE:bb)(B:aK)(fs:da)(R:bb→aK→da→Prop):Prop:=
 ∀H0 X0 P Hs E H β,fY H0 X0 P Hs VE B fs E H β→∃bj B' cT β',fY H0 X0 P Hs bj B' cT E H β'∧R bj B' cT
section
variable{T:aL}{H0:Nat→Nat}{X0 P:Nat→Prop}{Hs:ax}{VE:bb}{B:aK}{fs:da}{E:Env}{H:ax}{β:Nat→Nat}
theorem fY.uu(z:fY H0 X0 P Hs VE B fs E H β){W:Nat→Prop}{bj:bb}{B':aK}{E':Env}{H':ax}{β':Nat→Nat}(G:gO B β H W B' β' H')(hr:Rel H0 (XF X0 fs) bj B' E' H' β'):fY H0 X0 P Hs bj B' fs E' H' β':=by
 have Z:∀f,f<Hs.next→¬P f→∀b s,aF B b=some s→s.born→β b≠f:=fun f A Y b s L h2 I=>(z.new f (.inr ⟨b,s,L,h2,I⟩)).elim Y fun k=>by omega
 have hmm:=z.aS;have hmn:=z.mn;have hnx:=z.next;refine⟨G.aS.trans z.aS,eT z.next G.next,z.mn,fun f A=>?_,fun f A Y=>?_,hr,z.out,z.nodup,fun f s A=>?_,fun f A=>?_⟩
 ·rcases G.ws f A with h|⟨L,b,s,_,h2,I,h4⟩
  ·exact z.ws f h
  rcases z.new f (.inr ⟨b,s,h2,I,h4⟩) with k|k
  ·exact .inr ⟨an,k⟩
  omega
 ·rw[G.jI f an (Z f A Y),z.jI f A Y]
 ·obtain⟨L,h2,I⟩:=z.own f s A;have hx:XF X0 fs f:=.inr ⟨s,A⟩;have J4:=z.rel.x0 f hx;have hb:∀b t,aF B b=some t→t.born→β b≠f:=fun b t M O U=>(z.rel.new b t M O).1 (U▸hx)
  have hl:eJ H (XB (XF X0 fs) B β) H' (XB (XF X0 fs) B' β'):=⟨G.next,fun g hg hn=>⟨fun k=>by
   rcases k with k|⟨b,t,M,O,U⟩
   ·exact hn (.inl k)
   rcases G.since b t M O with⟨u,m1,m2,m3⟩|m
   ·exact hn (.inr ⟨b,u,m1,m2,by rw[←m3];exact U⟩)
   omega,G.jI g hg fun b t M O U=>hn (.inr ⟨b,t,M,O,U⟩)⟩⟩
  exact⟨L,h2,I.lift hl (G.jI f J4 hb)⟩
 rcases A with A|⟨b,s,L,h2,I⟩
 ·exact z.new f (.inl A)
 rcases G.since b s L h2 with⟨t,m1,m2,m3⟩|m
 ·exact z.new f (.inr ⟨b,t,m1,m2,by rw[←m3];exact I⟩)
 exact .inr an
theorem fY.of(z:fY H0 X0 P Hs VE B fs E H β){bj:bb}{E':Env}(A:Rel H0 (XF X0 fs) bj B E' H β):fY H0 X0 P Hs bj B fs E' H β:={z with rel:=A}
theorem mg{c:IC}{Q:Ex→bb→aK→da→Prop}(h:VC T c VE B fun x bj B'=>Q x bj B' fs):VD T c VE B fs Q:=fun H0 X0 P Hs E H β z=>by
 refine(h H0 (XF X0 fs) E H β z.rel).mono fun x E' H' A=>?_
 obtain⟨bj,B',β',G,I,L⟩:=A;exact⟨bj,B',fs,β',z.uu G I,L⟩
theorem vod_vo{ops:List bl}{Q:bb→aK→da→Prop}(h:VO T ops VE B fun bj B'=>Q bj B' fs):s9 T ops VE B fs Q:=fun H0 X0 P Hs E H β z=>by
 refine(h H0 (XF X0 fs) E H β z.rel).mono fun E' H' A=>?_
 obtain⟨bj,B',β',G,I,L⟩:=A;exact⟨bj,B',fs,β',z.uu G I,L⟩
theorem kp{c:IC}{Q:Ex→bb→aK→da→Prop}(h:gP VE B fs fun bj B' cT=>VD T c bj B' cT Q):VD T c VE B fs Q:=fun H0 X0 P Hs E H β A=>by
 obtain⟨bj,B',cT,β',z,h'⟩:=h H0 X0 P Hs E H β A;exact h' H0 X0 P Hs E H β' z
theorem xz{c:IC}{R Q:Ex→bb→aK→da→Prop}(h:VD T c VE B fs R)(k:∀x VE B fs,R x VE B fs→gP VE B fs (Q x)):VD T c VE B fs Q:=fun H0 X0 P Hs E H β A=>by
 refine(h H0 X0 P Hs E H β A).mono fun x E' H' G=>?_
 obtain⟨bj,B',cT,β',z,I⟩:=G;exact k x bj B' cT I H0 X0 P Hs E' H' β' z
theorem gb{R:bb→aK→da→Prop}(h:R VE B fs):gP VE B fs R:=fun _ _ _ _ _ _ β z=>⟨VE,B,fs,β,z,h⟩
theorem iQ{R:bb→aK→da→Prop}(bj:bb)(B':aK)(A:ak bj VE)(h2:ak B' B)(h:gP bj B' fs R):gP VE B fs R:=fun H0 X0 P Hs E H β z=>by
 refine h H0 X0 P Hs E H β (z.uu (W:=fun _=>False) ⟨aa,bd _,fun _ h=>.inl h,fun b s G I=>.inl ⟨s,h2.get G,I,aa⟩,fun _ _ _=>aa⟩ ?_);exact(z.rel.DG fun _ _ k=>h2.get k).less fun _ _ k=>A.get k
theorem mY{a b:IC}{R:Ex→bb→aK→da→Prop}(h:VD T a VE B fs fun x bj B' cT=>match x with|.normal=>VD T b bj B' cT R|x=>R x bj B' cT):VD T (.seq a b) VE B fs R:=fun H0 X0 P Hs E H β G=>by
 refine abQ ((h H0 X0 P Hs E H β G).mono fun x E' H' I=>?_);obtain⟨bj,B',cT,β',z,A⟩:=I
 cases x with
 |normal=>exact⟨fun _=>A H0 X0 P Hs E' H' β' z,fun e=>absurd rfl e⟩
 |exit id=>exact⟨fun e=>(by cases e),fun _=>⟨bj,B',cT,β',z,A⟩⟩
 |ret=>exact⟨fun e=>(by cases e),fun _=>⟨bj,B',cT,β',z,A⟩⟩
theorem Rh{id:Nat}{c:IC}{R:Ex→bb→aK→da→Prop}(h:VD T c VE B fs fun x=>R (E9 id x)):VD T (.block id c) VE B fs R:=fun H0 X0 P Hs E H β z=>Z5 (h H0 X0 P Hs E H β z)
theorem zQ{ops:List bl}{R:Ex→bb→aK→da→Prop}(h:s9 T ops VE B fs fun bj B' cT=>R .normal bj B' cT):VD T (.region false ops) VE B fs R:=fun H0 X0 P Hs E H β z=>Zv (h H0 X0 P Hs E H β z)
theorem ab8{c:IC}{R:Ex→bb→aK→da→Prop}(I:Nat→bb→aK→da→Prop)(L:∀k VE B fs,I k VE B fs→VD T c VE B fs fun x bj B' cT=>match x with|.normal=>∃j,j<k∧I j bj B' cT|x=>R x bj B' cT){k:Nat}(h0:I k VE B fs):VD T (.loop c) VE B fs R:=fun H0 X0 P Hs E H β G=>by
 refine aaQ (fun k E H=>∃VE B fs β,fY H0 X0 P Hs VE B fs E H β∧I k VE B fs) (fun k E H M=>?_) k E H ⟨VE,B,fs,β,G,h0⟩;obtain⟨VE,B,fs,β,G,hi⟩:=M;refine(L k VE B fs hi H0 X0 P Hs E H β G).mono fun x E' H' A=>?_
 obtain⟨bj,B',cT,β',z,A⟩:=A
 cases x with
 |normal=>obtain⟨j,O,h2⟩:=A;exact⟨fun _=>⟨j,O,bj,B',cT,β',z,h2⟩,fun e=>absurd rfl e⟩
 |exit id=>exact⟨fun e=>(by cases e),fun _=>⟨bj,B',cT,β',z,A⟩⟩
 |ret=>exact⟨fun e=>(by cases e),fun _=>⟨bj,B',cT,β',z,A⟩⟩
theorem vod_op{d:Key}{qq:Option (List Nat)}{op:br}{r:List bl}{W:List Nat}{Q:bb→aK→da→Prop}(h:VI T op VE B W fun v B'=>s9 T r ((d.n,v)::VE) B' fs Q):s9 T (⟨some d,none,qq,op⟩::r) VE B fs Q:=fun H0 X0 P Hs E H β A=>by
 refine Q8 ((h H0 (XF X0 fs) E H β A.rel).mono fun a H' G=>?_);obtain⟨v,B',β',I,z,L,M⟩:=G;exact M H0 X0 P Hs _ H' β' (A.uu I (z.set L))
theorem Uv{X0 z:Nat→Prop}{B B':aK}{β β':Nat→Nat}(h:∀f,XB X0 B β f↔XB z B' β' f):XB X0 B β=XB z B' β':=funext fun f=>propext (h f)
theorem QS{f g:Nat}{s:BS}:pS (fs++[(g,s)]) f↔pS fs f∨f=g:=by
 constructor
 ·rintro⟨t,h⟩;rcases List.mem_append.1 h with h|h
  ·exact .inl ⟨t,h⟩
  rcases List.mem_singleton.1 h with e;cases e;exact .inr rfl
 rintro(⟨t,h⟩|rfl)
 ·exact⟨t,Vt _ h⟩
 exact⟨s,NM _ (List.mem_singleton.2 aa)⟩
theorem FC{f g:Nat}{s:BS}:pS ((g,s)::fs) f↔pS fs f∨f=g:=by
 constructor
 ·rintro⟨t,h⟩;rcases List.mem_cons.1 h with h|h
  ·cases h;exact .inr rfl
  exact .inl ⟨t,h⟩
 rintro(⟨t,h⟩|rfl)
 ·exact⟨t,oV _ h⟩
 exact⟨s,jo ..⟩
theorem fY.give(A:fY H0 X0 P Hs VE B fs E H β){b:Nat}{s t:BS}(Y:aF B b=some s)(hs:s.born)(ht:t.born)(hd:t.gx)(E3:∀X,de H X β (β b) s→de H X β (β b) t):fY H0 X0 P Hs VE (cL B b) (fs++[(β b,t)]) E H β:=by
 have z:∀c u,aF (cL B b) c=some u↔b≠c∧aF B c=some u:=fun c u=>by
  rw[gz]
  by_cases e:b=c
  ·rw[bg e];exact⟨fun h=>by(cases h),fun h=>absurd e h.1⟩
  rw[aX e];exact⟨fun h=>⟨e,h⟩,fun h=>h.2⟩
 have G:∀f,XF X0 (fs++[(β b,t)]) f↔XF X0 fs f∨f=β b:=fun f=>by
  unfold XF;rw[QS,or_assoc]
 have hX:XB (XF X0 (fs++[(β b,t)])) (cL B b) β=XB (XF X0 fs) B β:=Uv fun f=>by
  constructor
  ·rintro(k|⟨c,u,M,L,U⟩)
   ·rcases(G f).1 k with k|rfl
    ·exact .inl k
    exact .inr ⟨b,s,Y,hs,aa⟩
   exact .inr ⟨c,u,((z c u).1 M).2,L,U⟩
  rintro(k|⟨c,u,M,L,U⟩)
  ·exact .inl ((G f).2 (.inl k))
  by_cases e:b=c
  ·subst e;exact .inl ((G f).2 (.inr U.symm))
  exact .inr ⟨c,u,(z c u).2 ⟨e,M⟩,L,U⟩
 have O:=A.rel.new b s Y hs;refine⟨A.aS,A.next,A.mn,A.ws,A.jI,⟨A.rel.jr,A.rel.aS,fun f I=>?_,fun c u Z hu=>?_,fun c e u v Z he hu hv=>A.rel.inj c e u v ((z c u).1 Z).2 ((z e v).1 he).2 hu hv,fun k v hk=>?_,fun c u Z=>?_⟩,fun f I=>?_,?_,fun f u I=>?_,fun f I=>?_⟩
 ·rcases(G f).1 I with k|rfl
  ·exact A.rel.x0 f k
  exact O.2
 ·obtain⟨M,L⟩:=(z c u).1 Z;have:=A.rel.new c u L hu;refine⟨fun k=>?_,this.2⟩;rcases(G _).1 k with k|k
  ·exact this.1 k
  exact M (A.rel.inj c b u s L Y hu hs k).symm
 ·rw[hX];exact A.rel.env k v hk
 ·rw[hX];exact A.rel.box c u ((z c u).1 Z).2
 ·rcases QS.1 I with k|rfl
  ·exact A.out f k
  exact fun k=>O.1 (.inl k)
 ·rw[vP,List.map_singleton,List.nodup_append];refine⟨A.nodup,by simp,fun x hx y hy e=>?_⟩;rw[Vv] at hy;obtain⟨⟨g,u⟩,h1,rfl⟩:=List.mem_map.1 hx;exact O.1 (.inr ⟨u,(show g=β b from e.trans hy)▸h1⟩)
 ·rw[hX];rcases List.mem_append.1 I with h|h
  ·exact A.own f u h
  rcases List.mem_singleton.1 h with e
  cases e
  exact⟨hd,ht,(E3 _ (A.rel.box b s Y)).agB hd⟩
 rcases I with I|⟨c,u,M,L,U⟩
 ·rcases QS.1 I with k|rfl
  ·exact A.new f (.inl k)
  exact A.new _ (.inr ⟨b,s,Y,hs,aa⟩)
 exact A.new f (.inr ⟨c,u,((z c u).1 M).2,L,U⟩)
theorem fY.take{f:Nat}{s:BS}(A:fY H0 X0 P Hs VE B ((f,s)::fs) E H β)(b:Nat)(hE:j0 b VE=true)(hB:fX b B=true):∃β',fY H0 X0 P Hs VE ((b,.bK f s)::B) fs E H β':=by
 let β':Nat→Nat:=fun c=>if c=b then f else β c
 have I:β' b=f:=bg rfl;have z:∀c,c≠b→β' c=β c:=fun c G=>aX G
 have O:∀c t,aF ((b,.bK f s)::B) c=some t→(c=b∧t= .bK f s)∨(c≠b∧aF B c=some t∧t.no b=true):=fun c t G=>by
  rw[cP] at G
  by_cases e:b=c
  ·rw[bg e] at G;cases G;exact .inl ⟨e.symm,rfl⟩
  rw[aX e] at G;exact .inr ⟨fun k=>e k.symm,G,(tN hB G).2⟩
 obtain⟨hd,ho,PI⟩:=A.own f s (jo ..);have L:∀g,XF X0 ((f,s)::fs) g↔XF X0 fs g∨g=f:=fun g=>by
  unfold XF;rw[FC,or_assoc]
 have hX:XB (XF X0 fs) ((b,.bK f s)::B) β'=XB (XF X0 ((f,s)::fs)) B β:=Uv fun g=>by
  constructor
  ·rintro(k|⟨c,u,Z,k2,k3⟩)
   ·exact .inl ((L g).2 (.inl k))
   rcases O c u Z with⟨rfl,rfl⟩|⟨U,Y,_⟩
   ·exact .inl ((L g).2 (.inr (by rw[←k3,I])))
   exact .inr ⟨c,u,Y,k2,by rw[←k3,z c U]⟩
  rintro(k|⟨c,u,Z,k2,k3⟩)
  ·rcases(L g).1 k with k|rfl
   ·exact .inl k
   exact .inr ⟨b,.bK g s,by rw[cP,bg rfl],ho,I⟩
  have PF:=(tN hB Z).1;exact .inr ⟨c,u,by rw[cP,aX fun e=>PF e.symm];exact Z,k2,by rw[z c PF];exact k3⟩
 have J4:f<H.next:=A.rel.x0 f (.inr ⟨s,jo ..⟩);have hnd:f∉fs.map (·.1)∧(fs.map (·.1)).Nodup:=by
  have:=A.nodup;rw[lM,List.nodup_cons] at this;exact this
 have hnf:¬pS fs f:=fun⟨u,h⟩=>hnd.1 (List.mem_map.2 ⟨(f,u),h,rfl⟩)
 refine⟨β',A.aS,A.next,A.mn,A.ws,A.jI,⟨fun c G=>?_,A.rel.aS,fun g O=>A.rel.x0 g ((L g).2 (.inl O)),fun c u G hu=>?_,fun c e u v G he hu hv M=>?_,fun k v hk=>?_,fun c u G=>?_⟩,fun g O=>A.out g (FC.2 (.inl O)),hnd.2,fun g u hgu=>?_,fun g JW=>?_⟩
 ·exact(z c fun e=>by rw[e,Q9 hB] at G;cases G).trans (A.rel.jr c G)
 ·rcases O c u G with⟨rfl,rfl⟩|⟨U,Y,_⟩
  ·rw[I];exact⟨fun k=>k.elim (A.out f (FC.2 (.inr aa))) hnf,J4⟩
  rw[z c U];have:=A.rel.new c u Y hu;exact⟨fun k=>this.1 ((L _).2 (.inl k)),this.2⟩
 ·rcases O c u G with⟨rfl,rfl⟩|⟨U,Y,_⟩<;>rcases O e v he with⟨rfl,rfl⟩|⟨n1,n2,_⟩
  ·rfl
  ·rw[I,z e n1] at M;exact absurd ((L _).2 (.inr M.symm)) (A.rel.new e v n2 hv).1
  ·rw[I,z c U] at M;exact absurd ((L _).2 (.inr M)) (A.rel.new c u Y hu).1
  rw[z c U,z e n1] at M;exact A.rel.inj c e u v Y n2 hu hv M
 ·rw[hX];obtain⟨a,Z,k2⟩:=A.rel.env k v hk;exact⟨a,Z,aE.no (Ld hE hk) k2⟩
 ·rw[hX];rcases O c u G with⟨rfl,rfl⟩|⟨U,Y,m3⟩
  ·rw[I];exact⟨fun _=>aa,PI.agB hd⟩
  rw[z c U];exact de.VK m3 (A.rel.box c u Y)
 ·rw[hX];exact A.own g u (oV _ hgu)
 rcases JW with JW|⟨c,u,Z,k2,k3⟩
 ·exact A.new g (.inl (FC.2 (.inl JW)))
 rcases O c u Z with⟨rfl,rfl⟩|⟨U,Y,_⟩
 ·exact A.new g (.inl (FC.2 (.inr (by rw[←k3,I]))))
 exact A.new g (.inr ⟨c,u,Y,k2,by rw[←k3,z c U]⟩)
theorem fY.perm{cT:da}(z:fY H0 X0 P Hs VE B fs E H β)(I:fs.Perm cT):fY H0 X0 P Hs VE B cT E H β:=by
 have L:∀f,pS cT f↔pS fs f:=fun f=>⟨fun⟨s,h⟩=>⟨s,I.mem_iff.2 h⟩,fun⟨s,h⟩=>⟨s,I.mem_iff.1 h⟩⟩
 have A:XF X0 cT=XF X0 fs:=funext fun f=>propext (by unfold XF;rw[L])
 refine⟨z.aS,z.next,z.mn,z.ws,z.jI,by rw[A];exact z.rel,fun f G=>z.out f ((L f).1 G),(I.map _).nodup_iff.1 z.nodup,fun f s G=>by rw[A];exact z.own f s (I.mem_iff.2 G),fun f G=>z.new f (G.imp (L f).1 id)⟩
theorem abc{cT:da}{R:bb→aK→da→Prop}(z:fs.Perm cT)(h:gP VE B cT R):gP VE B fs R:=fun H0 X0 P Hs E H β A=>h H0 X0 P Hs E H β (A.perm z)
theorem nE{f:Nat}{s:BS}{R:bb→aK→da→Prop}(b:Nat)(A:j0 b VE=true)(G:fX b B=true)(h:gP VE ((b,.bK f s)::B) fs R):gP VE B ((f,s)::fs) R:=fun H0 X0 P Hs E H β I=>by
 obtain⟨β',z⟩:=I.take b A G;exact h H0 X0 P Hs E H β' z
def BS.as:BS→BS→Prop
 |.arr e b n _ rows,t=>t= .arr e b n rows.length rows
 |.acc e b n rows,t=>t= .arr e b n rows.length rows
 |.one e b row,t=>t= .one e b row
 |.bK _ _,_=>False
theorem de.as{H:ax}{X:Nat→Prop}{β:Nat→Nat}{f:Nat}:∀{s t:BS},s.as t→s.born→de H X β f s→de H X β f t
 |.one _ _ _,_,rfl,_,h=>h
 |.arr _ _ _ _ _,_,rfl,_,⟨z,cs,A,h2,G,I⟩=>⟨z,cs,A,eT h2 G,bd _,I⟩
 |.acc _ _ _ _,_,rfl,ho,h=>by
  rcases h with h|⟨lo,cs,A,h2,G⟩
  ·exact absurd h ho
  exact⟨lo,cs,A,h2,bd _,G⟩
 |.bK _ _,_,h,_,_=>absurd h fun k=>k
theorem BS.as_born:∀{s t:BS},s.as t→t.born
 |.one _ _ _,_,rfl=>trivial
 |.arr _ _ _ _ _,_,rfl=>trivial
 |.acc _ _ _ _,_,rfl=>trivial
 |.bK _ _,_,h=>absurd h fun k=>k
theorem tG{f:Nat}{s t:BS}{R:bb→aK→da→Prop}(b:Nat)(G:aF B b=some (.bK f s))(A:s.born)(L:t.gx)(z:s.as t)(h:gP VE (cL B b) (fs++[(f,t)]) R):gP VE B fs R:=fun H0 X0 P Hs E H β I=>by
 have e:=I.rel.pinned G A;have:=I.give (t:=t) G A (BS.as_born z) L fun X M=>de.as z A M.2
 rw[e] at this;exact h H0 X0 P Hs E H β this
theorem Li{s:BS}{R:bb→aK→da→Prop}(b:Nat)(z:aF B b=some s)(h:∀f,gP VE ((b,.bK f s)::B) fs R):gP VE B fs R:=fun H0 X0 P Hs E H β A=>
 h (β b) H0 X0 P Hs E H β (A.uu (W:=fun _=>False) ⟨rfl,bd _,fun _ h=>.inl h,fun c t G I=>.inl (by obtain⟨u,L,M⟩:=ji (s':=.bK (β b) s) z fS c t G I;exact⟨u,L,M,rfl⟩),fun _ _ _=>rfl⟩ (A.rel.nZ z fS fun _ k=>⟨fun _=>rfl,k⟩))
theorem tH{R:bb→aK→da→Prop}{k:Nat}{v v':VV}(A:aF VE k=some v)(G:∀H X β a,(∀b f s,aF B b=some (.bK f s)→s.born→β b=f)→aE H X β v a→aE H X β v' a)(h:gP ((k,v')::VE) B fs R):gP VE B fs R:=fun H0 X0 P Hs E H β z=>
 h H0 X0 P Hs E H β (z.of (z.rel.slot A fun a I=>G H _ β a (fun _ _ _ L h2=>z.rel.pinned L h2) I))
theorem ZD{R:bb→aK→da→Prop}(b i g elem aC es:Nat){e A:Nat}{row:List VV}(G:aF B b=some (.one e A row))(hi:row[i]?=some (.d .nil))(M:aF B g=none)(h:gP VE ((g,.acc elem aC es [])::(b,.one e A (row.set i (.ac g 0 es)))::B) fs R):gP VE B fs R:=fun H0 X0 P Hs E H β I=>
 h H0 X0 P Hs E H β (I.uu (W:=fun _=>False) ⟨rfl,bd _,fun _ h=>.inl h,fun c s z ho=>by
  rw[cP] at z
  by_cases L:g=c
  ·rw[bg L] at z;cases z;exact absurd rfl ho
  rw[aX L,cP] at z
  by_cases k:b=c
  ·subst k;exact .inl ⟨_,G,trivial,rfl⟩
  rw[aX k] at z;exact .inl ⟨s,z,ho,rfl⟩,fun _ _ _=>rfl⟩ (I.rel.aee G hi M))
theorem vod_opN{qq:Option (List Nat)}{op:br}{r:List bl}{W:List Nat}{Q:bb→aK→da→Prop}(h:VI T op VE B W fun _ B'=>s9 T r VE B' fs Q):s9 T (⟨none,none,qq,op⟩::r) VE B fs Q:=fun H0 X0 P Hs E H β A=>by
 refine Z4 ((h H0 (XF X0 fs) E H β A.rel).mono fun a H' G=>?_);obtain⟨v,B',β',I,z,M,L⟩:=G;exact L H0 X0 P Hs _ H' β' (A.uu I z)
theorem DJ(n:Nat){ops:List bl}{bj:bb}{B':aK}{r:List bl}{Q:bb→aK→da→Prop}(h:t5 n ops VE B=some (bj,B',r))(k:s9 T r bj B' fs Q):s9 T ops VE B fs Q:=by
 induction n generalizing ops VE B with
 |zero=>cases h;exact k
 |succ n A=>
  cases ops with
  |nil=>cases h
  |cons o rest=>
   obtain⟨d,g,q,op⟩:=o
   cases g with
   |some _=>cases h
   |none=>
    cases d with
    |some d=>
     simp only[t5] at h
     split at h
     ·rename_i v B1 W z;exact vod_op (iO z (A h))
     cases h
    |none=>
     simp only[t5] at h
     split at h
     ·rename_i v B1 W z;exact vod_opN (iO z (A h))
     cases h
theorem Ag{Q:bb→aK→da→Prop}(h:Q VE B fs):s9 T [] VE B fs Q:=vod_vo (mc h)
theorem bW.sameB{f:Nat}{args:List VV}{Bi z:aK}{Q:VV→aK→Prop}(h:bW T f args Bi Q)(e:∀b,aF z b=aF Bi b):bW T f args z Q:=fun H0 X H β l G A=>by
 have I:XB X z β=XB X Bi β:=funext fun f=>by simp only[XB,e]
 rw[I] at A;refine(h H0 X H β l (G.DG fun k s L=>by rw[e];exact L) A).mono fun a H' M=>?_
 obtain⟨r,B',β',O,k⟩:=M;exact⟨r,B',β',O.more fun b s U h2=>⟨s,by rw[e];exact U,h2⟩,k⟩
def GK(T:aL)(f:Nat)(args:List VV)(fs:da)(Q:VV→da→Prop):Prop:=
 ∀H0 X0 P Hs H β l,fY H0 X0 P Hs [] [] fs .emp H β→bc H (XB (XF X0 fs) [] β) β args l→uH T f l H fun a H'=>∃r cT β',fY H0 X0 P Hs [] [] cT .emp H' β'∧r.nb∧aE H' (XB (XF X0 cT) [] β') β' r a∧Q r cT
def RetD(rs:List jU)(P:VV→da→Prop):Ex→bb→aK→da→Prop
 |.exit _,_,_,_=>False
 |_,VE,B,fs=>∃vs,sm VE B rs=some vs∧kH vs∧P (mu vs) fs
theorem fY.bare(z:fY H0 X0 P Hs VE B fs E H β):fY H0 X0 P Hs [] [] fs .emp H β:=
 z.uu (W:=fun _=>False) ⟨rfl,bd _,fun _ h=>.inl h,fun _ _ k=>(by cases k),fun _ _ _=>rfl⟩ {z.rel.DG (B':=[]) (fun _ _ k=>by cases k) with env:=fun _ _ k=>by cases k}
theorem fY.agC(A:fY H0 X0 P Hs VE B fs E H β){v:VV}{a:ai}(h:aE H (XB (XF X0 fs) B β) β v a):aE H (XB (XF X0 fs) [] β) β v a:=
 h.lift ⟨bd _,fun f _ z=>⟨fun k=>z (.inl (GH f k)),rfl⟩⟩
theorem QT{f:Nat}{fn:aQ}{args:List VV}{Q:VV→da→Prop}(Z:T.ft.get f=some fn)(U:fn.ps.length=args.length)(h:VD T fn.body (Ep fn.ps args []) [] fs (RetD fn.res Q)):GK T f args fs Q:=by
 intro H0 X0 P Hs H β l h0 z;have hr:=Rb (ks:=fn.ps) h0.rel z U;refine ad6 Z (by rw[U,z.length]) ((h H0 X0 P Hs _ H β (h0.of hr)).mono fun x E' H' hp=>?_);obtain⟨bj,B',cT,β',I,L⟩:=hp;have key:(∃vs,sm bj B' fn.res=some vs∧kH vs∧Q (mu vs) cT)→∃v,results E' H' fn.res= .ok v H'∧∃r cT β',fY H0 X0 P Hs [] [] cT .emp H' β'∧r.nb∧aE H' (XB (XF X0 cT) [] β') β' r v∧Q r cT:=by
  rintro⟨vs,k1,M,O⟩;obtain⟨l',G,k5⟩:=QN I.rel k1;have A:results E' H' fn.res=List.rec (motive:=fun _=>aD) (.ok (.tuple []) H') (fun v r _=>List.rec (motive:=fun _=>aD) (.ok v H') (fun _ _ _=>.ok (.tuple (v::r)) H') r) l':=k5
  cases vs with
  |nil=>
   simp only[bc] at G;subst G;exact⟨_,A,mu [],cT,β',I.bare,Gd M,by simp only[mu,aE,bc];exact⟨[],rfl,rfl⟩,O⟩
  |cons v r=>
   cases r with
   |nil=>
    simp only[bc] at G;obtain⟨a,s,rfl,Y,rfl⟩:=G;exact⟨_,A,_,cT,β',I.bare,Gd M,I.agC Y,O⟩
   |cons w r=>
    have k8:=G;simp only[bc] at G;obtain⟨a,s,rfl,Y,a2,s2,rfl,_⟩:=G;exact⟨_,A,_,cT,β',I.bare,Gd M,I.agC (v:=mu (v::w::r)) (by simp only[mu,aE];exact⟨_,rfl,k8⟩),O⟩
 cases x with
 |exit id=>exact absurd L (fun h=>h)
 |normal=>exact⟨fun _ h=>(by cases h),key L⟩
 |ret=>exact⟨fun _ h=>(by cases h),key L⟩
theorem zR{d:Key}{qq:Option (List Nat)}{f:Nat}{l:List aG}{args:List VV}{r:List bl}{R:VV→da→Prop}{Q:bb→aK→da→Prop}(hl:oK VE l=some args)(hn:kH args)(h:GK T f args fs R)(hq:∀v cT,v.nb→R v cT→s9 T r ((d.n,v)::VE) B cT Q):s9 T (⟨some d,none,qq,.call f l⟩::r) VE B fs Q:=fun H0 X0 P Hs E H β A=>by
 obtain⟨vs,h1,h2⟩:=zP A.rel hl
 let Xc:Nat→Prop:=fun f=>X0 f∨∃b s,aF B b=some s∧s.born∧β b=f
 have Y:∀cT β',XB (XF Xc cT) [] β'=XB (XF X0 cT) B β:=fun cT β'=>Uv fun f=>by
  constructor
  ·intro k;rcases GH f k with(k|k)|k
   ·exact .inl (.inl k)
   ·exact .inr k
   exact .inl (.inr k)
  rintro((k|k)|k)
  ·exact .inl (.inl (.inl k))
  ·exact .inl (.inr k)
  exact .inl (.inl (.inr k))
 have M:∀b s,aF B b=some s→s.born→¬pS fs (β b):=fun b s L I k=>(A.rel.new b s L I).1 (.inr k)
 have stc:fY β Xc (pS fs) H [] [] fs .emp H β:=⟨rfl,bd _,A.rel.aS,fun _ h=>.inl h,fun _ _ _=>rfl,
  ⟨fun _ _=>rfl,A.rel.aS,fun f G=>by
   rcases G with(k|⟨b,s,L,I,rfl⟩)|k
   ·exact A.rel.x0 f (.inl k)
   ·exact(A.rel.new b s L I).2
   exact A.rel.x0 f (.inr k),fun _ _ k=>(by cases k),fun _ _ _ _ k=>(by cases k),fun _ _ k=>(by cases k),fun _ _ k=>(by cases k)⟩,
  fun f G k=>by
   rcases k with k|⟨b,s,L,I,rfl⟩
   ·exact A.out f G k
   ·exact M b s L I G,A.nodup,fun f s G=>by rw[Y];exact A.own f s G,fun f G=>by
   rcases G with G|⟨_,_,k,_⟩
   ·exact .inl G
   cases k⟩
 refine Q8 (Q7 h1 ((h β Xc (pS fs) H H β vs stc (by rw[Y];exact h2.nb hn)).mono fun a H' Z=>?_));obtain⟨v,cT,β',z,O,hv,k6⟩:=Z;rw[Y] at hv;have hv:=aE.nb (β':=β) O hv;have hmm:=A.aS;have hmn:=A.mn;have hnx:=A.next;have hnx2:=z.next
 have U:eJ H (XB (XF X0 fs) B β) H' (XB (XF X0 cT) B β):=⟨z.next,fun f G hx=>⟨fun k=>by
  rcases k with(k|k)|k
  ·exact hx (.inl (.inl k))
  ·rcases z.new f (.inl k) with k|k
   ·exact hx (.inl (.inr k))
   omega
  exact hx (.inr k),z.jI f G fun k=>hx (.inl (.inr k))⟩⟩
 have om:Rel H0 (XF X0 cT) VE B E H' β:=by
  refine⟨A.rel.jr,z.rel.aS,fun f G=>?_,fun b s L I=>⟨fun k=>?_,jn (A.rel.new b s L I).2 z.next⟩,A.rel.inj,fun k w hk=>?_,fun b s hb=>?_⟩
  ·rcases G with k|k
   ·exact z.rel.x0 f (.inl (.inl k))
   exact z.rel.x0 f (.inr k)
  ·rcases k with k|k
   ·exact(A.rel.new b s L I).1 (.inl k)
   exact z.out _ k (.inr ⟨b,s,L,I,aa⟩)
  ·obtain⟨a,m1,m2⟩:=A.rel.env k w hk;exact⟨a,m1,m2.lift U⟩
  exact(A.rel.box b s hb).DE U fun ho=>z.jI _ (A.rel.new b s hb ho).2 (M b s hb ho)
 refine hq v cT O k6 H0 X0 P Hs _ H' β ⟨z.aS.trans A.aS,eT A.next z.next,A.mn,fun f G=>?_,fun f G Z=>?_,om.set hv,fun f G k=>z.out f G (.inl k),z.nodup,fun f s G=>?_,fun f G=>?_⟩
 ·rcases z.ws f G with k|⟨L,I⟩
  ·exact A.ws f k
  rcases A.new f (.inl I) with k|k
  ·exact .inr ⟨an,k⟩
  omega
 ·rw[z.jI f an fun k=>(A.new f (.inl k)).elim Z fun k=>by omega,A.jI f G Z]
 ·have:=z.own f s G;rw[Y] at this;exact this
 rcases G with G|G
 ·rcases z.new f (.inl G) with k|k
  ·exact A.new f (.inl k)
  exact .inr an
 exact A.new f (.inr G)
theorem Ri{c:IC}{R:Ex→bb→aK→Prop}(h:VD T c VE [] [] fun x bj B' _=>R x bj B'):VC T c VE [] R:=fun H0 X0 E H β L=>by
 have O:XF X0 []=X0:=funext fun f=>propext ⟨fun k=>k.elim id fun⟨_,k⟩=>(by cases k),.inl⟩
 have U:fY H0 X0 (fun _=>False) H VE [] [] E H β:=⟨rfl,bd _,L.aS,fun _ h=>.inl h,fun _ _ _=>rfl,by rw[O];exact L,fun _⟨_,k⟩=>(by cases k),List.nodup_nil,fun _ _ k=>(by cases k),fun f A=>by
  rcases A with⟨_,k⟩|⟨_,_,k,_⟩<;>cases k⟩
 refine(h H0 X0 _ H E H β U).mono fun x E' H' Y=>?_
 obtain⟨bj,B',cT,β',z,Z⟩:=Y;refine⟨bj,B',β',⟨z.aS,z.next,fun f A=>(z.ws f A).imp id fun k=>absurd k.2 id,fun b s G I=>.inr ((z.new _ (.inr ⟨b,s,G,I,aa⟩)).elim (fun k=>absurd k id) id),fun f A _=>z.jI f A id⟩,?_,Z⟩;have M:eJ H' (XB (XF X0 cT) B' β') H' (XB X0 B' β'):=⟨bd _,fun f _ hx=>⟨fun k=>hx (k.imp .inl id),rfl⟩⟩
 exact⟨z.rel.jr,z.rel.aS,fun f A=>z.rel.x0 f (.inl A),fun b s G I=>⟨fun k=>(z.rel.new b s G I).1 (.inl k),(z.rel.new b s G I).2⟩,z.rel.inj,fun k v hk=>by
  obtain⟨a,m1,m2⟩:=z.rel.env k v hk
  exact⟨a,m1,m2.lift M⟩,fun b s hb=>(z.rel.box b s hb).lift M aa⟩
theorem mS{ops:List bl}{Q:bb→aK→Prop}(k:Nat){v:VV}(v':VV)(A:aF VE k=some v)(G:∀H X β a,(∀b f s,aF B b=some (.bK f s)→s.born→β b=f)→aE H X β v a→aE H X β v' a)(h:VO T ops ((k,v')::VE) B Q):VO T ops VE B Q:=fun H0 X0 E H β z=>
 h H0 X0 E H β (z.slot A fun a I=>G H _ β a (fun _ _ _ L h2=>z.pinned L h2) I)
theorem bc.I9{H:ax}{X:Nat→Prop}{β:Nat→Nat}{x A:VV}(G:∀a,aE H X β x a→aE H X β A a):∀{l:List VV}{s:List ai}{i:Nat},l[i]?=some x→bc H X β l s→bc H X β (l.set i A) s
 |[],_,_,hi,_=>by simp at hi
 |v::r,_,0,hi,h=>by
  simp only[bc,T3] at h⊢;obtain⟨a,s,rfl,z,h2⟩:=h;simp at hi;subst hi;exact⟨a,s,aa,G a z,h2⟩
 |v::r,_,i+1,hi,h=>by
  simp only[bc,T5] at h⊢;obtain⟨a,s,rfl,z,h2⟩:=h;exact⟨a,s,rfl,z,bc.I9 G (by simpa using hi) h2⟩
theorem Gg{H:ax}{X:Nat→Prop}{β:Nat→Nat}{x z:VV}{l:List VV}{i:Nat}{a:ai}(hi:l[i]?=some x)(A:∀a,aE H X β x a→aE H X β z a)(h:aE H X β (.agg l) a):aE H X β (.agg (l.set i z)) a:=by
 simp only[aE] at h⊢;obtain⟨cs,e,h⟩:=h;exact⟨cs,e,bc.I9 A hi h⟩
section
variable{X:Nat→Prop}{b f n es o:Nat}{a:ai}
theorem raw_bs(e:β b=f)(h:aE H X β (.bs b n es) a):aE H X β (.d (.raw f n es)) a:=by
 simp only[aE,bA] at h⊢;rw[h,e]
theorem Db(e:β b=f)(h:aE H X β (.d (.raw f n es)) a):aE H X β (.bs b n es) a:=by
 simp only[aE,bA] at h⊢;rw[h,e]
theorem raw_ac(e:β b=f)(h0:0<n)(h:aE H X β (.ac b n es) a):aE H X β (.d (.raw f n es)) a:=by
 simp only[aE,bA] at h⊢;rcases h with⟨h,_⟩|⟨_,h⟩
 ·omega
 rw[h,e]
theorem GL(h:aE H X β (.ac b 0 es) a):aE H X β (.d .nil) a:=by
 simp only[aE,bA] at h⊢;rcases h with⟨_,h⟩|⟨h,_⟩
 ·exact h
 omega
theorem LY(e:β b=f)(h:aE H X β (.vp b o) a):aE H X β (.k (.ptr f 1 o)) a:=by
 simp only[aE] at h⊢;rw[h,e]
theorem Dc(e:β b=f)(h:aE H X β (.k (.ptr f 1 o)) a):aE H X β (.vp b o) a:=by
 simp only[aE] at h⊢;rw[h,e]
end
theorem KD{Q:VV→aK→Prop}{a:aG}{b o elem aC f:Nat}{row:List VV}{v:VV}(A:a.vv VE=some (.vp b o))(G:aF B b=some (.bK f (.one elem aC row)))(I:row[o]?=some v)(L:Q v B):VI T (.load 1 false a) VE B [] Q:=fun _ _ _ _ _ z=>by
 obtain⟨_,M,h2⟩:=z.bC A;simp only[aE] at h2;subst h2;obtain⟨l,O,U⟩:=(z.box b _ G).2.CC;obtain⟨y,Y,Z⟩:=U.get I;exact zM M O (by rw[ri,e6]) Y (du z Z L)
theorem ZE{Q:VV→aK→Prop}{a:aG}{b g j o es elem aC lo f:Nat}{rows:ah}{row:List DC}{x:DC}(G:a.vv VE=some (.bp b g j o es))(I:aF B b=some (.bK f (.arr elem aC es lo rows)))(L:lo≤g)(h2:g≤rows.length)(M:j<g)(O:rows[j]?=some row)(U:row[o]?=some x)(Y:Q (.d x) B):VI T (.load 1 false a) VE B [] Q:=fun _ _ _ _ _ z=>by
 obtain⟨_,Z,A⟩:=z.bC G;simp only[aE] at A;subst A;obtain⟨l,k3,k4,k5⟩:=(z.box b _ I).2.cells L h2 M O;obtain⟨y,k6,k7⟩:=k5.get U;exact zM Z k3 (by rw[k4]) k6 (du z (v:=.d x) (by simp only[aE];exact k7) Y)
variable{Q:VV→aK→Prop}
theorem vi_storePB{n:Nat}{a x:aG}{b j o es elem aC lo f:Nat}{rows:ah}{row z:List DC}{v:VV}{new:List VV}(ha:a.vv VE=some (.bp b rows.length j o es))(M:aF B b=some (.bK f (.arr elem aC es lo rows)))(hx:x.vv VE=some v)(hv:v.cells=some new)(hd:gG new=some z)(O:z.length=n)(h0:0<n)(hk:o+n≤es)
  (hj:rows[j]?=some row) (hq:Q .undef ((b,.bK f (.arr elem aC es rows.length (rows.set j (jV row o z))))::B)):VI T (.store n a x) VE B [b] Q:=fun _ X0 _ H β A=>by
 obtain⟨_,h1,h2⟩:=A.bC ha;simp only[aE] at h2;subst h2;obtain⟨y,h3,h4⟩:=A.bC hx;obtain⟨t,h5,L⟩:=h4.cells hv;have L:=L.data hd;have U:=A.pinned M trivial;obtain⟨qe,cs,k1,k2,k3,k4⟩:=(A.box b _ M).2;obtain⟨l,k5,k6,k7⟩:=k4 j row hj;have G:=(List.getElem?_eq_some_iff.1 hj).1;have ht:t.length=n:=by rw[L.length,O]
 have Y:=k7.length;have e:=fun K=>HV (e:=aD.err 5) (K:=K) (q:=j) (o:=o) (n:=n) (new:=t) k1 an G k5 k6 ht h0 hk
 refine⟨0,.undef,_,fun lf m _ _=>by rw[KZ h1 h3 h5,e],?_⟩;refine zN (s':=.bK f (.arr elem aC es rows.length (rows.set j (jV row o z)))) A M trivial rfl (fun g hf=>?_) rfl rfl (fun X j1 Z=>⟨fun _=>U,?_⟩) (fun X=>by simp only[aE]) hq
 ·show(H.t.set (β b) _).get g=_;rw[GT.df,aX hf]
 have hlen:(bif Nat.beq n es then t else en l o t).length=es:=by
  cases hbq:Nat.beq n es with
  |true=>have:=cW hbq;show t.length=_;omega
  |false=>show(en l o t).length=_;simp only[en,e7,iD,qP];omega
 refine⟨rows.length,cs.set j (bif Nat.beq n es then t else en l o t),?_,bd _,by rw[jA];exact bd _,fun i I hi=>?_⟩
 ·show(H.t.set (β b) _).get (β b)=_;rw[GT.df,bg rfl,jA]
 rw[RT.df];rw[My] at hi
 by_cases ei:i=j
 ·subst ei;rw[bg rfl,bg G] at hi
  cases hi
  rw[bg rfl];refine⟨_,aa,hlen,?_⟩;have h7:=Z _ _ L;have h8:=Z _ _ k7;have h9:=h8.en o h7;unfold jV;rw[O,←Y,k6];rw[O] at h9;exact bS.bif h7 h9
 rw[aX (fun k=>ei k.symm)] at hi;rw[aX ei];obtain⟨l',m1,m2,m3⟩:=k4 i I hi;exact⟨l',m1,m2,Z _ _ m3⟩
theorem bW.pinned{f:Nat}{args:List VV}{Bi:aK}{Q Q':VV→aK→Prop}{c g:Nat}{s:BS}(hp:kz c=true)(A:aF Bi c=some (.bK g s))(hs:s.born)(h:bW T f args ((c,s)::Bi) Q)(hq:∀r B,Q r B→∃s',aF B c=some s'∧Q' r ((c,.bK g s')::B)):bW T f args Bi Q':=fun H0 X H β l G hv=>by
 have e:=G.pinned A hs;have I:Rel H0 X [] ((c,s)::Bi) .emp H β:=G.nZ A fS fun _ k=>k.2
 have hl:eJ H (XB X Bi β) H (XB X ((c,s)::Bi) β):=⟨bd _,fun f _ L=>⟨fun k=>L (k.imp id fun⟨d,t,M,ho,h2⟩=>by obtain⟨u,O,U⟩:=ji (s':=s) A fS d t M ho;exact⟨d,u,O,U,h2⟩),rfl⟩⟩;refine(h H0 X H β l I (hv.lift hl)).mono fun a H' Y=>?_
 obtain⟨r,B',β',hw,z,Z,k6⟩:=Y;obtain⟨s',k7,k8⟩:=hq r B' k6;have e':β' c=g:=by rw[z.jr c hp,←G.jr c hp,e]
 have hl':eJ H' (XB X B' β') H' (XB X ((c,.bK g s')::B') β'):=⟨bd _,fun f _ L=>⟨fun k=>L (k.imp id fun⟨d,t,M,ho,h2⟩=>by obtain⟨u,O,U⟩:=ji (s':=.bK g s') k7 fS d t M ho;exact⟨d,u,O,U,h2⟩),rfl⟩⟩;exact⟨r,_,β',(hw.more (ji (s':=s) A fS)).MJ (ji (s':=.bK g s') k7 fS),z.nZ (s':=.bK g s') k7 fS (fun _ k=>⟨fun _=>e',k⟩),Z.lift hl',k8⟩
end
def intOf:List DC→Int
 |[.i _ z]=>z
 |_=>0
def cH(X:List Int)(w:ah):Prop:=af [.i .i64 (-9223372036854775808) 9223372036854775807] w∧(w.map intOf).Pairwise (· < ·)∧∀z,z∈w.map intOf→z∈X
def fv(X:List Int)(d:DC):Prop:=∃w,au w d∧cH X w
theorem cH.nil{X:List Int}:cH X []:=⟨cj,.nil,fun _ h=>by cases h⟩
theorem fv.nil{X:List Int}:fv X .nil:=⟨[],.inr ⟨rfl,rfl⟩,cH.nil⟩
theorem aeg:∀(l X:List Int),l.Pairwise (· < ·)→(∀z,z∈l→z∈X)→l.length≤X.length
 |[],_,_,_=>gL _
 |a::l,X,h,A=>by
  have G:=List.pairwise_cons.1 h;have I:a∈X:=A a (jo ..);have:=aeg l (X.erase a) G.2 fun z L=>(List.mem_erase_of_ne (by have:=G.1 z L;omega)).2 (A z (oV _ L))
  rw[List.length_erase_of_mem I] at this;have:0<X.length:=List.length_pos_of_mem I;simp only[gB];omega
theorem cH.len{X:List Int}{w:ah}(h:cH X w):w.length≤X.length:=by
 have:=aeg _ _ h.2.1 h.2.2;simpa using this
theorem cH.mem{X:List Int}{w:ah}{k:IntKind}{i:Nat}{z:Int}(h:cH X w)(A:w[i]?=some [.i k z]):z∈X:=h.2.2 z (List.mem_map.2 ⟨_,rj A,rfl⟩)
def vJ(w:ah)(k x:Int):Prop:=∀(j:Nat)(z:Int),(j:Int)<k→w[j]?=some [.i .i64 z]→z<x
theorem ab9{w:ah}{x:Int}:vJ w 0 x:=fun j z h _=>by omega
theorem vJ.succ{w:ah}{k x z:Int}(h:vJ w k x)(M:0≤k)(G:w[k.toNat]?=some [.i .i64 z])(I:z<x):vJ w (k+1) x:=fun j L O A=>by
 by_cases e:j=k.toNat
 ·subst e;rw[G] at A;cases A;exact I
 exact h j L an A
theorem cH.ins{X:List Int}{w:ah}{v x:Int}{k A:Nat}(h:cH X w)(hx:x∈X)(hk:(k:Int)=v)(hk':(A:Int)=v)(hkn:v≤(w.length:Int))(hb: -9223372036854775808≤x∧x≤9223372036854775807)(Z:vJ w v x)
  (zj:v=(w.length:Int)∨∃z,w[v.toNat]?=some [.i .i64 z]∧x<z):cH X ((w.drop 0).take (k-0)++[[.i .i64 x]]++(w.drop A).take (w.length-A)):=by
 obtain rfl:A=k:=by omega
 have hc:(w.drop A).take (w.length-A)=w.drop A:=by rw[rf];simp
 have h0:(w.drop 0).take (A-0)=w.take A:=by simp
 rw[hc,h0];have O:∀(j:Nat)(r:List DC),w[j]?=some r→∃z,r=[.i .i64 z]:=fun j r hg=>by
  have I:=lJ h.1 hg;obtain⟨d,_,rfl,hd,I⟩:=dw I;obtain rfl:=oL I;obtain⟨z,rfl,_⟩:=Ty.dV hd;exact⟨z,aa⟩
 refine⟨eB (eB (fun r I=>h.1 r (Bt I)) (ee (aj (dV hb.1 hb.2) bm))) (fun r I=>h.1 r (Ec I)),?_,?_⟩
 ·have hp:=h.2.1;rw[vP,vP,T1,Mx];have JV:(w.map intOf)=(w.map intOf).take A++(w.map intOf).drop A:=(Ea _ _).symm;rw[JV] at hp;obtain⟨p1,p2,p3⟩:=List.pairwise_append.1 hp;have ha:∀z,z∈(w.map intOf).take A→z<x:=fun z G=>by
   obtain⟨j,hj,e⟩:=List.mem_take_iff_getElem.1 G;simp only[pM] at hj;obtain⟨z',I⟩:=O j w[j] (dx an);have U:=Z j z' an (by rw[dx an,I]);simp only[List.getElem_map,I,intOf] at e;omega
  have Y:∀z,z∈(w.map intOf).drop A→x<z:=fun z G=>by
   rcases zj with e|⟨z0,hg,hl⟩
   ·rw[NI (by simp;omega)] at G;cases G
   obtain⟨i,hi,e⟩:=List.mem_iff_getElem.1 G;simp only[qP,pM] at hi;have Xr:A=v.toNat:=by omega
   have M:A<w.length:=by omega
   have L:(w.map intOf)[A]?=some z0:=by rw[yC,Xr,hg];rfl
   by_cases ei:i=0
   ·subst ei;simp only[List.getElem_drop,ug] at e;rw[dx (by simpa using M)] at L
    cases L
    omega
   have hlt':(w.map intOf)[A]'(by simpa using M)<(w.map intOf)[A+i]'(by simp only[pM];omega):=List.pairwise_iff_getElem.1 h.2.1 _ _ _ _ an;rw[dx (by simpa using M)] at L;have e0:=Option.some.inj L;simp only[List.getElem_drop] at e;omega
  rw[MB];refine List.pairwise_append.2 ⟨p1,List.pairwise_append.2 ⟨by simp,p2,fun a U b h2=>?_⟩,fun a U b h2=>?_⟩
  ·have:a=x:=by simpa[intOf] using U
   rw[this];exact Y b h2
  rcases List.mem_append.1 h2 with h2|h2
  ·have:b=x:=by simpa[intOf] using h2
   rw[this];exact ha a U
  have:=ha a U;have:=Y b h2;omega
 intro z G;simp only[vP,yD,T1,Mx] at G;rcases G with(G|G)|G
 ·exact h.2.2 z (Bt G)
 ·have:z=x:=by simpa[intOf] using G
  rw[this];exact hx
 exact h.2.2 z (Ec G)
theorem fv.one{X:List Int}{x:Int}(G:x∈X)(A: -9223372036854775808≤x∧x≤9223372036854775807):fv X (.sl [[.i .i64 x]]):=⟨[[.i .i64 x]],.inl rfl,ee (aj (dV A.1 A.2) bm),by simp[intOf],fun z I=>by
 have:z=x:=by simpa[intOf] using I
 rw[this];exact G⟩
def ry(d:DC):Prop:=d= .nil∨∃f n,d= .raw f n 2∧n≤1000001
theorem ry.nil:ry .nil:=.inl rfl
theorem ry.raw{f n:Nat}(h:n≤1000001):ry (.raw f n 2):=.inr ⟨f,n,rfl,h⟩
theorem aca{T:aL}{VE:bb}{B:aK}{Q:VV→aK→Prop}{x:aG}{d:DC}(A:x.vv VE=some (.d d))(L:ry d)(G:∀z:Int,0≤z→z≤1000001→Q (.d (.i .i64 z)) B):VI T (.len x) VE B [] Q:=by
 rcases L with rfl|⟨f,n,rfl,O⟩
 ·exact Ad A (G 0 an an)
 intro H0 X0 E H β I;obtain⟨a,M,h2⟩:=I.bC A;simp only[aE,bA] at h2;subst h2;exact Lc M (du I (v:=.d (.i .i64 (n:Int))) (by simp only[aE,bA]) (G n an an))
section
variable{T:aL}{VE:bb}{B:aK}{ops:List bl}{Q:bb→aK→Prop}{c:IC}{R:Ex→bb→aK→Prop}
theorem accArr{H:ax}{X:Nat→Prop}{β:Nat→Nat}{f elem aC es:Nat}{rows:ah}(z:rows≠[])(h:de H X β f (.acc elem aC es rows)):de H X β f (.arr elem aC es rows.length rows):=by
 rcases h with h|⟨lo,cs,A,h2,G⟩
 ·exact absurd h z
 exact⟨lo,cs,A,h2,bd _,G⟩
theorem arrAcc{H:ax}{X:Nat→Prop}{β:Nat→Nat}{f elem aC es lo:Nat}{rows:ah}(h:de H X β f (.arr elem aC es lo rows)):de H X β f (.acc elem aC es rows):=by
 obtain⟨z,cs,A,h2,G,I⟩:=h;exact .inr ⟨z,cs,A,eT h2 G,I⟩
theorem vo_accArr(b:Nat){elem aC es:Nat}{rows:ah}(A:aF B b=some (.acc elem aC es rows))(z:rows≠[])(h:VO T ops VE ((b,.arr elem aC es rows.length rows)::B) Q):VO T ops VE B Q:=
 fun H0 X0 E H β G=>(h H0 X0 E H β (G.nZ A ⟨fun _=>z,fun _=>trivial⟩ fun _ k=>accArr z k)).mono fun _ _ I=>I.more (ji A ⟨fun _=>z,fun _=>trivial⟩)
theorem aal(b:Nat){elem aC es lo:Nat}{rows:ah}(z:aF B b=some (.arr elem aC es lo rows))(A:rows≠[])(h:VO T ops VE ((b,.acc elem aC es rows)::B) Q):VO T ops VE B Q:=
 fun H0 X0 E H β G=>(h H0 X0 E H β (G.nZ z ⟨fun _=>trivial,fun _=>A⟩ fun _ k=>arrAcc k)).mono fun _ _ I=>I.more (ji z ⟨fun _=>trivial,fun _=>A⟩)
theorem ac_bs{H:ax}{X:Nat→Prop}{β:Nat→Nat}{b n es:Nat}{a:ai}(h0:0<n)(h:aE H X β (.ac b n es) a):aE H X β (.bs b n es) a:=by
 simp only[aE] at h⊢;rcases h with⟨z,_⟩|⟨_,h2⟩
 ·omega
 exact h2
theorem bs_ac{H:ax}{X:Nat→Prop}{β:Nat→Nat}{b n es:Nat}{a:ai}(h0:0<n)(h:aE H X β (.bs b n es) a):aE H X β (.ac b n es) a:=by
 simp only[aE] at h⊢;exact .inr ⟨h0,h⟩
end
def InX(X:List Int)(d:DC):Prop:=∃z,d= .i .i64 z∧(-9223372036854775808≤z∧z≤9223372036854775807)∧z∈X
def tT(w:ah)(i:Int):Prop:=∀z A B r,w[i.toNat]?=some (.i .i64 z::.i .i64 A::.i .i64 B::r)→(z≠1→0≤A∧A<i)∧((4≤z∧z≤8)→0≤B∧B<i)
theorem tT.mk{w:ah}{i G A B:Int}{r:List DC}(I:w[i.toNat]?=some (.i .i64 G::.i .i64 A::.i .i64 B::r))(h:(G≠1→0≤A∧A<i)∧((4≤G∧G≤8)→0≤B∧B<i)):tT w i:=fun L M B' r' z=>by
 rw[I] at z;cases z;exact h
def mP(w:ah)(n:Int):Prop:=∀i:Int,0≤i→i<n→tT w i
theorem ZF{w:ah}:mP w 0:=fun i z h2=>by omega
theorem mP.succ{w:ah}{n:Int}(h:mP w n)(k:tT w n):mP w (n+1):=fun i z h2=>by
 by_cases e:i=n
 ·subst e;exact k
 exact h i z an
theorem mP.all{w:ah}{n k:Int}(h:mP w n)(A:k≤n):mP w k:=fun i z h2=>h i z an
theorem mP.get{w:ah}{n i z A B:Int}{r:List DC}(h:mP w n)(h0:0≤i)(G:i<n)(I:w[i.toNat]?=some (.i .i64 z::.i .i64 A::.i .i64 B::r)):(z≠1→0≤A∧A<i)∧((4≤z∧z≤8)→0≤B∧B<i):=h i h0 G z A B r I
def wm(z:Int):Nat:=64*2^z.toNat
theorem wm_s{z:Int}(h:0≤z):wm (z+1)=2*wm z:=by
 unfold wm;rw[show(z+1).toNat=z.toNat+1 by omega,NF];omega
theorem agD{z:Int}(h2:z≤19):64≤wm z∧wm z≤33554432:=by
 unfold wm;have:z.toNat≤19:=by omega
 generalize z.toNat=n at this;have:∀m:Nat,m≤19→64≤64*2^m∧64*2^m≤33554432:=by decide
 exact this n (by assumption)
def ajp(t:Int)(r:List DC):Prop:=∃f g c,r=[.i .i64 f,.i .i64 g,c]∧f≤t∧t<g
def sI(w:ah)(t:Int):Prop:=∃r,r∈w∧ajp t r
def sn(w:ah)(v t:Int):Prop:=∀(q:Nat)(r:List DC),(q:Int)<v→w[q]?=some r→¬ajp t r
theorem sI.mk{w:ah}{q:Nat}{t f g:Int}{c:DC}(z:w[q]?=some [.i .i64 f,.i .i64 g,c])(A:f≤t)(h2:t<g):sI w t:=⟨_,rj z,f,g,c,rfl,A,h2⟩
theorem acb{w:ah}{t:Int}:sn w 0 t:=fun q r h _=>by omega
theorem sn.succ{w:ah}{v t f g:Int}{c:DC}(h:sn w v t)(h0:0≤v)(A:w[v.toNat]?=some [.i .i64 f,.i .i64 g,c])(G:¬(f≤t∧t<g)):sn w (v+1) t:=fun q r L z=>by
 by_cases e:q=v.toNat
 ·subst e;rw[A] at z;cases z;rintro⟨f',g',M,e,I,h2⟩
  cases e;exact G ⟨I,h2⟩
 exact h q r an z
theorem sn.all{w:ah}{v t:Int}(h:sn w v t)(I:(w.length:Int)≤v):¬sI w t:=by
 rintro⟨r,z,A⟩;obtain⟨q,G,e⟩:=List.mem_iff_getElem.1 z;exact h q r an (by rw[dx G,e]) A
def I'(t:Int)(r:List DC):Prop:=∃n d rest w,r=n::d::rest∧au w d∧sI w t
open Classical in
def jF(t:Int)(w:ah):Nat:=(w.filter fun r=>decide (I' t r)).length
theorem SF{α:Type}{w:List α}{v:Int}{r:α}(h0:0≤v)(z:w[v.toNat]?=some r):w.take (v+1).toNat=w.take v.toNat++[r]:=by
 rw[show(v+1).toNat=v.toNat+1 by omega,t3,z];rfl
theorem Gh{w z:ah}{v t:Int}{m:Nat}{n d:DC}{rest:List DC}(h:(m:Int)=jF t (w.take v.toNat))(h0:0≤v)(A:w[v.toNat]?=some (n::d::rest))(G:au z d)(I:sI z t):((m+1:Nat):Int)=jF t (w.take (v+1).toNat):=by
 have:I' t (n::d::rest):=⟨n,d,rest,z,rfl,G,I⟩;rw[SF h0 A];simp[jF,this] at h⊢;omega
theorem Lj{w z:ah}{v t:Int}{m:Nat}{n d:DC}{rest:List DC}(h:(m:Int)=jF t (w.take v.toNat))(h0:0≤v)(A:w[v.toNat]?=some (n::d::rest))(G:au z d)(I:¬sI z t):(m:Int)=jF t (w.take (v+1).toNat):=by
 have:¬I' t (n::d::rest):=by
  rintro⟨_,_,_,w',e,L,h2⟩
  cases e
  exact I (G.uniq L▸h2)
 rw[SF h0 A];simp[jF,this] at h⊢;omega
theorem visN_lt{w z:ah}{v t:Int}{n d:DC}{rest:List DC}(h0:0≤v)(A:w[v.toNat]?=some (n::d::rest))(G:au z d)(I:sI z t):jF t (w.take v.toNat)<jF t w:=by
 have L:=Gh (m:=jF t (w.take v.toNat)) rfl h0 A G I;have h2:jF t (w.take (v+1).toNat)≤jF t w:=by
  simp only[jF];exact((List.take_sublist _ _).filter _).length_le
 omega
theorem visT_take{t:Int}{r:List DC}{k:Nat}(z:2≤k):I' t (r.take k)↔I' t r:=by
 obtain⟨k,rfl⟩:∃j,k=j+2:=⟨k-2,an⟩;constructor
 ·rintro⟨n,d,rest,w,e,h⟩;rcases r with _|⟨a,_|⟨b,l⟩⟩
  ·cases e
  ·cases e
  simp only[xV] at e
  cases e
  exact⟨_,_,l,w,aa,h⟩
 rintro⟨n,d,rest,w,rfl,h⟩;exact⟨n,d,rest.take k,w,by simp only[xV],h⟩
theorem abd{t:Int}{w:ah}{k:Nat}(z:2≤k):jF t (w.map (List.take k))=jF t w:=by
 simp only[jF,List.filter_map,pM];congr 1;refine List.filter_congr fun r _=>?_
 simp only[agn];exact decide_eq_decide.2 (visT_take z)
theorem visN_all{t:Int}{w:ah}{v:Int}{m:Nat}(h:(m:Int)=jF t (w.take v.toNat))(z:(w.length:Int)≤v):(m:Int)=jF t w:=by
 rw[rf an] at h;exact h
theorem map_take_s{w w':ah}{v:Int}{r r':List DC}{k:Nat}(h:w'=(w.take v.toNat).map (List.take k))(h0:0≤v)(z:w[v.toNat]?=some r)(A:r.take k=r'):w'++[r']=(w.take (v+1).toNat).map (List.take k):=by
 rw[SF h0 z,h,vP];simp[A]
theorem map_take_all{w w':ah}{v:Int}{k:Nat}(h:w'=(w.take v.toNat).map (List.take k))(z:(w.length:Int)≤v):w'=w.map (List.take k):=by
 rw[rf an] at h;exact h
def qE(ne:Nat)(w:ah):Prop:=af [.i .i64 0 4,.i .i64 (-1) ((ne:Int) -1),.s 1000] w∧∀(q:Nat)(a e:Int)(r:List DC),w[q]?=some (.i .i64 a::.i .i64 e::r)→a=0→0≤e
def A4(ne:Nat)(d:DC):Prop:=∃w,au w d∧w.length≤4∧qE ne w
theorem qE.get{ne:Nat}{w:ah}{q:Nat}{a e:Int}{r:List DC}(h:qE ne w)(z:w[q]?=some (.i .i64 a::.i .i64 e::r)):a=0→0≤e:=h.2 q a e r z
def BE(row:List Ty)(ne:Nat)(d:DC):Prop:=∃w,au w d∧w.length=ne∧af row w
def LstQ(row:List Ty)(lo hi:Nat)(d:DC):Prop:=∃w,au w d∧lo≤w.length∧w.length≤hi∧af row w
def pT(row:List Ty)(lo hi:Nat)(d:DC):Prop:=∃w,au w d∧lo≤w.length∧w.length≤hi∧af row w∧(w=[]→d= .nil)
theorem jz{VE:bb}{k n:Nat}{l:List UInt8}(h:DC.s k n=aw l):(aG.c (.str k n)).vv VE=some (.d (aw l)):=by rw[←h];rfl
def hdI:List DC→Int
 |.i _ z::_=>z
 |_=>0
theorem okX{t:Ty}{w:ah}(h:af [t] w):af [.x] w:=fun r z=>by
 obtain⟨d,q,rfl,_,h2⟩:=dw (h r z);obtain rfl:=oL h2;exact aj cg bm
def yd(row:Nat→List Ty)(w:ah):Prop:=∀r,r∈w→∃ne,ne≤30∧(2≤w.length→1≤ne)∧fk (row ne) r
theorem yd.get{row:Nat→List Ty}{w:ah}{q:Nat}{r:List DC}(h:yd row w)(z:w[q]?=some r):∃ne,ne≤30∧(2≤w.length→1≤ne)∧fk (row ne) r:=h r (rj z)
theorem yd.len{row:Nat→List Ty}{w:ah}{n:Nat}(z:∀ne r,fk (row ne) r→r.length=n)(h:yd row w):∀r,r∈w→r.length=n:=fun r A=>by
 obtain⟨ne,_,_,G⟩:=h r A;exact z ne r G
section
variable{T:aL}{VE:bb}{B:aK}
theorem vc_loop1{c:IC}{R:Ex→bb→aK→Prop}(I:Nat→bb→aK→Prop)(M:Nat)(U:VC T c VE B fun x bj B'=>match x with|.normal=>∃j,j<M∧I j bj B'|x=>R x bj B')(Y:∀k VE B,I k VE B→VC T c VE B fun x bj B'=>match x with|.normal=>∃j,j<k∧I j bj B'|x=>R x bj B'):VC T (.loop c) VE B R:=by
 refine RH (fun k V B'=>(k=M∧V=VE∧B'=B)∨(k<M∧I k V B')) (fun k V B' h=>?_) (k:=M) (.inl ⟨aa,aa,aa⟩);rcases h with⟨rfl,rfl,rfl⟩|⟨Z,h⟩
 ·exact fun H0 X0 E H β L=>(U H0 X0 E H β L).mono fun x _ _ O=>by
   obtain⟨z,B1,A,a,b,c⟩:=O;refine⟨z,B1,A,a,b,?_⟩
   cases x with
   |normal=>obtain⟨j,G,hi⟩:=c;exact⟨j,G,.inr ⟨G,hi⟩⟩
   |exit id=>exact c
   |ret=>exact c
 exact fun H0 X0 E H β L=>(Y k V B' h H0 X0 E H β L).mono fun x _ _ O=>by
  obtain⟨z,B1,A,a,b,c⟩:=O;refine⟨z,B1,A,a,b,?_⟩
  cases x with
  |normal=>obtain⟨j,G,hi⟩:=c;exact⟨j,G,.inr ⟨an,hi⟩⟩
  |exit id=>exact c
  |ret=>exact c
theorem Rel.frzC{H0:Nat→Nat}{X0:Nat→Prop}{E:Env}{H:ax}{β:Nat→Nat}(Y:Rel H0 X0 VE B E H β){b g e O i elem aC es:Nat}{row:List VV}{rows:ah}(hb:aF B b=some (.one e O row))(hi:row[i]?=some (.ac g rows.length es))(hg:aF B g=some (.acc elem aC es rows))(hbg:g≠b):Rel H0 X0 VE ((b,.one e O (row.set i (.d (.cR rows))))::cL B g) E H β:=by
 have h:=Y.drop g;have I:∀c s,aF (cL B g) c=some s→g≠c∧aF B c=some s:=fun c s z=>by
  rw[gz] at z
  by_cases e:g=c
  ·rw[bg e] at z;cases z
  rw[aX e] at z;exact⟨e,z⟩
 have Z:aF (cL B g) b=some (.one e O row):=by rw[gz,aX hbg];exact hb
 have U:=ji (s':=.one e O (row.set i (.d (.cR rows)))) Z fS;have hl:eJ H (XB X0 (cL B g) β) H (XB X0 ((b,.one e O (row.set i (.d (.cR rows))))::cL B g) β):=⟨bd _,fun f _ hx=>⟨fun k=>hx (k.imp id fun⟨c,t,z,ho,h2⟩=>by obtain⟨u,G,L⟩:=U c t z ho;exact⟨c,u,G,L,h2⟩),rfl⟩⟩;have kG:eJ H (XB X0 B β) H (XB X0 ((b,.one e O (row.set i (.d (.cR rows))))::cL B g) β):=⟨bd _,fun f _ hx=>⟨fun k=>hx (k.imp id fun⟨c,t,z,ho,h2⟩=>by obtain⟨u,G,L⟩:=U c t z ho;exact⟨c,u,(I c u G).2,L,h2⟩),rfl⟩⟩;have hx:rows≠[]→¬XB X0 ((b,.one e O (row.set i (.d (.cR rows))))::cL B g) β (β g):=by
  rintro A(k|⟨c,s,z,pb,h2⟩)
  ·exact(Y.new g _ hg A).1 k
  obtain⟨u,G,L⟩:=U c s z pb;exact(I c u G).1 (Y.inj c g u _ (I c u G).2 hg L A h2).symm
 have BF:rows≠[]→bA H (XB X0 ((b,.one e O (row.set i (.d (.cR rows))))::cL B g) β) (.sl rows) (.slice (β g) rows.length 0 rows.length es):=fun A=>by
  simp only[bA];refine⟨β g,rows.length,0,es,rfl,.inr ⟨hx A,(Y.new g _ hg A).2,0,by simp,dF.mW fun q r hq=>?_⟩⟩;obtain⟨l,z,h2,h3⟩:=(Y.box g _ hg).C8 hq;exact⟨l,by rw[e6];exact z,h2,h3.lift kG⟩
 refine⟨h.jr,h.aS,h.x0,fun c t M ho=>?_,fun c d t u M lU hs ht he=>?_,fun k v hk=>?_,fun c t M=>?_⟩
 ·obtain⟨u,G,L⟩:=U c t M ho;exact h.new c u G L
 ·obtain⟨s1,G,L⟩:=U c t M hs;obtain⟨t1,k3,k4⟩:=U d u lU ht;exact h.inj c d s1 t1 G k3 L k4 he
 ·obtain⟨a,z,h2⟩:=h.env k v hk;exact⟨a,z,h2.lift hl⟩
 rw[cP] at M
 by_cases k:b=c
 ·subst k;rw[bg rfl] at M
  cases M
  obtain⟨l,lo,cs,z,h2,h3,h4⟩:=(h.box b _ Z).lift hl rfl;refine⟨l,lo,cs,z,h2,h3,bc.I9 (fun a ha=>?_) hi h4⟩;simp only[aE] at ha⊢;rcases ha with⟨G,rfl⟩|⟨G,rfl⟩
  ·rw[List.length_eq_zero_iff.1 G];simp only[DC.cR,bA]
  have A:rows≠[]:=fun e=>by rw[e] at G;simp at G
  have h5:=BF A
  cases rows with
  |nil=>exact absurd rfl A
  |cons r0 rs=>exact h5
 rw[aX k] at M;exact(h.box c t M).lift hl rfl
theorem more_frzC{b g e G:Nat}{row A:List VV}(I:aF B b=some (.one e G row)):∀c t,aF ((b,BS.one e G A)::cL B g) c=some t→t.born→∃u,aF B c=some u∧u.born:=fun c t z ho=>by
 rw[cP] at z
 by_cases k:b=c
 ·subst k;exact⟨_,I,trivial⟩
 rw[aX k,gz] at z
 by_cases e:g=c
 ·rw[bg e] at z;cases z
 rw[aX e] at z;exact⟨t,z,ho⟩
theorem acd{c:IC}{R:Ex→bb→aK→Prop}(b i g:Nat){e A elem aC es:Nat}{row:List VV}{rows:ah}(G:aF B b=some (.one e A row))(hi:row[i]?=some (.ac g rows.length es))(I:aF B g=some (.acc elem aC es rows))(z:g≠b)(h:VC T c VE ((b,.one e A (row.set i (.d (.cR rows))))::cL B g) R):VC T c VE B R:=
 fun H0 X0 E H β L=>(h H0 X0 E H β (L.frzC G hi I z)).mono fun _ _ _ M=>M.more (more_frzC G)
end
end Go.Ev
