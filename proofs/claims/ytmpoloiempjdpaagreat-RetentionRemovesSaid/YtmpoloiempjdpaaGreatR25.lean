/- Part 25 of rules for walks through the code of a program, and of such walks; what each part proves is said by its theorems. -/
import Derived.Test.YtmpoloiempjdpaaGreatR20
import Derived.Test.YtmpoloiempjdpaaGreatR23
import Derived.Test.YtmpoloiempjdpaaGreatR24
set_option linter.unusedVariables false
set_option linter.unusedSimpArgs false
noncomputable section
set_option maxRecDepth 100000
set_option maxHeartbeats 4000000
namespace Go.Ev
open Go
def Ty.all:Ty→(DC→Prop)→Prop
 |.i k lo hi,P=>∀z:Int,lo≤z→z≤hi→P (.i k z)
 |.b,P=>∀b:Bool,P (.b b)
 |.s n,P=>∀s:List UInt8,s.length≤n→P (aq s)
 |.l n row,P=>∀(rows:ai)(d:DC),au rows d→rows.length≤n→af row rows→P d
 |.e y,P=>P y
 |.x,P=>∀d,P d
 |.q p,P=>∀d,p d→P d
def Bp:List Ty→(List DC→Prop)→Prop
 |[],P=>P []
 |t::z,P=>t.all fun d=>Bp z fun r=>P (d::r)
theorem Ty.all_ok:∀{t:Ty}{P:DC→Prop}{d:DC},t.all P→t.ok d→P d
 |.i k lo hi,P,d,h,A=>by obtain⟨z,rfl,a,b⟩:=Ty.dY A;exact h z a b
 |.b,P,d,h,A=>by obtain⟨z,rfl⟩:=Ty.eI A;exact h z
 |.s n,P,d,h,A=>by obtain⟨z,rfl,a⟩:=Ty.bB A;exact h z a
 |.l n row,P,d,h,A=>by obtain⟨z,a,b,c⟩:=Ty.aL A;exact h z d a b c
 |.e y,P,d,h,A=>by simp only[Ty.ok] at A;subst A;exact h
 |.x,P,d,h,A=>h d
 |.q p,P,d,h,A=>h d (Ty.bC A)
theorem Bp.ok:∀{row:List Ty}{P:List DC→Prop}{r:List DC},Bp row P→e6 row r→P r
 |[],P,r,h,k=>by obtain rfl:=pv k;exact h
 |t::z,P,r,h,k=>by
  obtain⟨d,q,rfl,A,h2⟩:=dw k;have:=Ty.all_ok (P:=fun d=>Bp z fun r=>P (d::r)) h A;exact Bp.ok (P:=fun r=>P (d::r)) this h2
section
variable{T:aM}{VE:bb}{B:aK}{Q:VV→aK→Prop}
theorem K4{x i:aG}{es:Nat}{k:IntKind}{rows:ai}{row:List Ty}{d:DC}{z:Int}(G:x.vv VE=some (.d d))(hi:i.vv VE=some (.d (.i k z)))(I:au rows d)(L:af row rows)(M:row.length=es)(h0:0≤z)(Y:z<(rows.length:Int))
  (O:Bp row fun r=>rows[z.toNat]?=some r→Q (.rp r 0) B):VI T (.j0 es x i) VE B [] Q:=by
 have U:z.toNat<rows.length:=by omega
 have A:rows[z.toNat]?=some rows[z.toNat]:=dm U;have ho:=lu L A;exact aH G hi I h0 A ((Rh ho).trans M) (Bp.ok (P:=fun r=>rows[z.toNat]?=some r→Q (.rp r 0) B) O ho A)
end
theorem Cw{VE:bb}{k:Nat}{v:VV}(h:aF VE k=some v):∀j w,aF ((k,v)::VE) j=some w→aF VE j=some w:=fun j w z=>by
 rw[c7] at z
 split at z
 ·rename_i e;subst e;rw[h];exact z
 exact z
theorem br{T:aM}{VE:bb}{B:aK}{d:Option Key}{g:Key}{w t:Bool}{qq:Option (List Nat)}{op:bq}{p q:Prop}{ops:List bk}{Q:bb→aK→Prop}(z:aF VE g.n=some (.d (.b t)))(A:p→VO T (⟨d,some (g,w),qq,op⟩::ops) ((g.n,.d (.b true))::VE) B Q)(h2:q→VO T (⟨d,some (g,w),qq,op⟩::ops) ((g.n,.d (.b false))::VE) B Q)(G:(t=true)=p:=by first|(simp only[eW,gM,gx,mq,gj];first|done|rfl)|rfl)(I:(t=false)=q:=by first|(simp only[eW,gM,gx,mq,gj];first|done|rfl)|rfl):VO T (⟨d,some (g,w),qq,op⟩::ops) VE B Q:=by
 cases t with
 |true=>exact abQ (Cw z) (A (Eq.mp G rfl))
 |false=>exact abQ (Cw z) (h2 (Eq.mp I rfl))
theorem ay{T:aM}{VE:bb}{B:aK}{R:Ex→bb→aK→Prop}{k:Key}{a b:IC}{t:Bool}{p q:Prop}(z:aF VE k.n=some (.d (.b t)))(A:p→VC T a ((k.n,.d (.b true))::VE) B R)(h2:q→VC T b ((k.n,.d (.b false))::VE) B R)(G:(t=true)=p:=by first|(simp only[eW,gM,gx,mq,gj];first|done|rfl)|rfl)(I:(t=false)=q:=by first|(simp only[eW,gM,gx,mq,gj];first|done|rfl)|rfl):VC T (.cond (.t k) a b) VE B R:=by
 cases t with
 |true=>exact aaY z (abR (Cw z) (A (Eq.mp G rfl)))
 |false=>exact aaZ z (abR (Cw z) (h2 (Eq.mp I rfl)))
def K5(o:bk):Bool:=match o.op with
 |.conv _ _=>false
 |_=>true
theorem qE(n:Nat){T:aM}{VE:bb}{B:aK}{Q:bb→aK→Prop}{ops:List bk}{bh:bb}{B':aK}{r:List bk}(_hc:(ops.take n).all K5=true)(h:tD n ops VE B=some (bh,B',r))(k:VO T r bh B' Q):VO T ops VE B Q:=eY n h k
theorem qF(n:Nat){T:aM}{VE:bb}{B:aK}{Q:bb→aK→Prop}{ops:List bk}{fl lK:List FL}{bh:bb}{B':aK}{r:List bk}(_hc:(ops.take n).all K5=true)(h:vq n ops VE B fl=some (bh,B',lK,r))(k:VQ T r bh B' lK Q):VQ T ops VE B fl Q:=mS n h k
def sO(row:List Ty)(z:ai)(f:Nat)(r:ai):Prop:=(r=[]∧(z=[]∨z=[]++[[.nil]]))∨(r≠[]∧∃pre,z=pre++[[.raw f r.length 2]]∧af [.l 1000000 row] pre)
theorem sO.mk{row:List Ty}{pre w:ai}{d:DC}{j f:Nat}{r:ai}{n:Nat}(z:w=(pre++[[d]]).set j (jQ [d] 0 [.raw f n 2]))(A:j=pre.length)(G:n=r.length)(I:r≠[])(L:af [.l 1000000 row] pre):sO row w f r:=by
 refine .inr ⟨I,pre,?_,L⟩;subst A G;rw[z,List.set_append_right _ _ (bf _)];simp[jQ]
theorem agT{row:List Ty}{pre w:ai}(z:af [.l 1000000 row] pre)(A:af row w)(G:w.length≤1000000):af [.l 1000000 row] (pre++[[.sl w]]):=dW z (dG (ah (aL (.inl rfl) G A) bl))
section
variable{T:aM}{VE:bb}{B:aK}
theorem vi_load1PA{Q:VV→aK→Prop}{a:aG}{b j o es elem aD f:Nat}{rows:ai}{row:List DC}{x:DC}(G:a.vv VE=some (.bp b rows.length j o es))(I:aF B b=some (.bP f (.acc elem aD es rows)))(L:rows[j]?=some row)(M:row[o]?=some x)(O:Q (.d x) B):VI T (.load 1 false a) VE B [] Q:=fun _ _ _ _ _ z=>by
 obtain⟨_,U,A⟩:=z.bI G;simp only[aE] at A;subst A;obtain⟨l,Y,Z,k5⟩:=db.CV (z.box b _ I).2 L;obtain⟨y,k6,k7⟩:=k5.get M;exact zE U Y (by rw[Z]) k6 (dA z (v:=.d x) (by simp only[aE];exact k7) O)
theorem Rel.frzR{H0:Nat→Nat}{X0:Nat→Prop}{E:Env}{H:ax}{β:Nat→Nat}(Z:Rel H0 X0 VE B E H β){b c f elem aD es O A:Nat}{w pre:ai}(hb:aF B b=some (.bP f (.acc elem aD es w)))(hw:w≠[])(hc:aF B c=some (.acc O A 1 (pre++[[.raw f w.length es]])))(XX:b≠c):Rel H0 X0 VE ((c,.acc O A 1 (pre++[[.sl w]]))::cQ B b) E H β:=by
 have hf:=Z.pinned hb hw;have h:=Z.drop b;have I:∀d s,aF (cQ B b) d=some s→b≠d∧aF B d=some s:=fun d s z=>by
  rw[jb] at z
  by_cases e:b=d
  ·rw[bg e] at z;cases z
  rw[aZ e] at z;exact⟨e,z⟩
 have sH:aF (cQ B b) c=some (.acc O A 1 (pre++[[.raw f w.length es]])):=by rw[jb,aZ XX];exact hc
 have Y:(BS.acc O A 1 (pre++[[.sl w]])).born↔(BS.acc O A 1 (pre++[[.raw f w.length es]])).born:=by simp[BS.born]
 have hd:=jH (s':=.acc O A 1 (pre++[[.sl w]])) sH Y;generalize hX:XB X0 ((c,.acc O A 1 (pre++[[.sl w]]))::cQ B b) β=X;have hl:eP H (XB X0 (cQ B b) β) H X:=by rw[←hX];exact⟨bf _,fun f _ hx=>⟨fun k=>hx (k.imp id fun⟨c,t,z,ho,h2⟩=>by obtain⟨u,G,L⟩:=hd c t z ho;exact⟨c,u,G,L,h2⟩),rfl⟩⟩
 have lI:eP H (XB X0 B β) H X:=by rw[←hX];exact⟨bf _,fun f _ hx=>⟨fun k=>hx (k.imp id fun⟨c,t,z,ho,h2⟩=>by obtain⟨u,G,L⟩:=hd c t z ho;exact⟨c,u,(I c u G).2,L,h2⟩),rfl⟩⟩
 have hx:¬X (β b):=by
  rw[←hX];rintro(k|⟨d,s,z,ri,h2⟩)
  ·exact(Z.new b _ hb hw).1 k
  obtain⟨u,G,L⟩:=hd d s z ri;exact(I d u G).1 (Z.inj d b u _ (I d u G).2 hb L hw h2).symm
 have IN:bF H X (.sl w) (.slice f w.length 0 w.length es):=by
  simp only[bF];refine⟨f,w.length,0,es,rfl,.inr ⟨hf▸hx,hf▸(Z.new b _ hb hw).2,0,by simp,dz.nx fun q r U=>?_⟩⟩;obtain⟨l,z,h2,h3⟩:=db.CV (Z.box b _ hb).2 U;exact⟨l,by rw[fh];exact hf▸z,h2,h3.lift lI⟩
 refine⟨h.jD,h.aR,h.x0,fun d t hc ho=>?_,fun c d t u hc sL hs ht he=>?_,fun k v hk=>?_,fun d t M=>?_⟩
 ·obtain⟨u,G,L⟩:=hd d t hc ho;exact h.new d u G L
 ·obtain⟨s1,G,L⟩:=hd c t hc hs;obtain⟨t1,k3,k4⟩:=hd d u sL ht;exact h.inj c d s1 t1 G k3 L k4 he
 ·obtain⟨a,z,h2⟩:=h.env k v hk;exact⟨a,z,hX▸h2.lift hl⟩
 rw[hX];rw[c7] at M
 by_cases k:c=d
 ·subst k;rw[bg rfl] at M
  cases M
  rcases(h.box c _ sH).lift hl rfl with k|⟨lo,cs,z,h2,h3⟩
  ·simp at k
  refine .inr ⟨lo,cs,by rw[z];simp,by simpa using h2,fun q r U=>?_⟩
  by_cases e:q=pre.length
  ·subst e;have Xs:r=[.sl w]:=by rw[jc] at U;cases U;rfl
   subst Xs;obtain⟨l,G,L,k3⟩:=h3 pre.length _ jc;refine⟨l,G,L,?_⟩;simp only[bX,bF] at k3;obtain⟨a,s,rfl,rfl,rfl⟩:=k3;simp only[bX];exact⟨_,_,aa,IN,aa⟩
  have hq':(pre++[[DC.raw f w.length es]])[q]?=some r:=by
   by_cases O:q<pre.length
   ·rw[sg O] at U⊢;exact U
   rw[yp (by simp;omega)] at U;cases U
  exact h3 q r hq'
 rw[aZ k] at M;exact(h.box d t M).lift hl rfl
theorem more_frzR{b c G A:Nat}{rows z:ai}(I:aF B c=some (.acc G A 1 rows))(L:rows≠[]):∀d t,aF ((c,BS.acc G A 1 z)::cQ B b) d=some t→t.born→∃u,aF B d=some u∧u.born:=fun d t h ho=>by
 rw[c7] at h
 by_cases k:c=d
 ·subst k;exact⟨_,I,L⟩
 rw[aZ k,jb] at h
 by_cases e:b=d
 ·rw[bg e] at h;cases h
 rw[aZ e] at h;exact⟨t,h,ho⟩
theorem acb{G:IC}{R:Ex→bb→aK→Prop}(b c:Nat){f elem aD es I z:Nat}{w pre:ai}(M:aF B b=some (.bP f (.acc elem aD es w)))(O:w≠[])(L:aF B c=some (.acc I z 1 (pre++[[.raw f w.length es]])))(A:b≠c)(h:VC T G VE ((c,.acc I z 1 (pre++[[.sl w]]))::cQ B b) R):VC T G VE B R:=
 fun H0 X0 E H β U=>(h H0 X0 E H β (U.frzR M O L A)).mono fun _ _ _ Y=>Y.more (more_frzR L (by simp))
theorem vc_frzRs{G:IC}{R:Ex→bb→aK→Prop}(s b c:Nat){f elem aD es I z:Nat}{w pre:ai}(L:aF B b=some (.bP f (.acc elem aD es w)))(M:w≠[])(O:aF B c=some (.acc I z 1 (pre++[[.raw f w.length es]])))(A:b≠c)(U:aF VE s=some (.ac c (pre++[[DC.raw f w.length es]]).length 1))(h:VC T G ((s,.ac c (pre++[[DC.sl w]]).length 1)::VE) ((c,.acc I z 1 (pre++[[.sl w]]))::cQ B b) R):VC T G VE B R:=
 acb b c L M O A fun H0 X0 E H β Y=>h H0 X0 E H β (Y.slot U fun a Z=>by
  have e:(pre++[[DC.sl w]]).length=(pre++[[DC.raw f w.length es]]).length:=by simp
  rw[e];exact Z)
theorem vc_slot{z:IC}{R:Ex→bb→aK→Prop}(k:Nat){v:VV}(v':VV)(A:aF VE k=some v)(G:∀H X β a,aE H X β v a→aE H X β v' a)(h:VC T z ((k,v')::VE) B R):VC T z VE B R:=fun H0 X0 E H β I=>h H0 X0 E H β (I.slot A fun a L=>G H _ β a L)
theorem vc_grp{A:IC}{R:Ex→bb→aK→Prop}(s b c:Nat){row:List Ty}{G r:ai}{f elem aD O z:Nat}(hg:sO row G f r)(I:af row r)(hl:r.length≤1000000)(hb:aF B b=some (.bP f (.acc elem aD 2 r)))(Z:aF B c=some (.acc O z 1 G))(L:b≠c)(hs:aF VE s=some (.ac c G.length 1))
  (h:∀w':ai,w'.length=G.length→af [.l 1000000 row] w'→VC T A ((s,.ac c w'.length 1)::VE) ((c,.acc O z 1 w')::cQ B b) R):VC T A VE B R:=by
 have sl:∀{B':aK}{n:Nat},n=G.length→VC T A ((s,.ac c n 1)::VE) B' R→VC T A VE B' R:=fun e h H0 X0 E H β I=>h H0 X0 E H β (I.slot hs fun a ha=>e▸ha)
 have same:∀{w':ai},w'=G→VC T A VE ((c,.acc O z 1 w')::cQ B b) R→VC T A VE B R:=fun{w'}e k=>by
  subst e;refine abS b (fun H0 X0 E H β I=>?_);have M:aF (cQ B b) c=some (.acc O z 1 w'):=by rw[jb,aZ L];exact Z
  exact(k H0 X0 E H β (I.nN M ga fun _ k=>k)).mono fun _ _ _ U=>U.more (jH M ga)
 rcases hg with⟨_,e|e⟩|⟨Y,pre,e,U⟩
 ·subst e;exact same aa (sl aa (h [] aa cb))
 ·subst e;exact same aa (sl aa (h ([]++[[.nil]]) aa (dG (ah gw bl))))
 subst e;refine acb b c hb Y Z L (sl (by simp) (h _ (by simp) (agT U I hl)))
end
section
variable{T:aM}{VE:bb}{B:aK}{Q:VV→aK→Prop}
theorem vq_rawB{ops:List bk}{fl:List FL}{Q:bb→aK→Prop}(k b:Nat){f n es elem aD e lo:Nat}{rows:ai}(z:aF VE k=some (.bs b n es))(A:aF B b=some (.bP f (.arr elem aD e lo rows)))(h:VQ T ops ((k,.d (.raw f n es))::VE) B fl Q):VQ T ops VE B fl Q:=
 fun H0 X0 E H β G bd I=>h H0 X0 E H β (G.rawB z A) bd I
end
def xW{α:Type}:List Nat→List (Nat×α)→List (Nat×α)→Option (List (Nat×α))
 |[],_,acc=>some acc
 |k::ks,l,acc=>match aF l k with
  |some v=>xW ks l ((k,v)::acc)
  |none=>none
def Gz{β:Type}(n:Nat)(k:Nat→Option β):Option β:=bif Nat.beq n 0 then k 0 else bif Nat.beq n 1 then k 1 else bif Nat.beq n 2 then k 2 else bif Nat.beq n 3 then k 3 else bif Nat.beq n 4 then k 4 else bif Nat.beq n 5 then k 5 else k n
theorem forceN_eq{β:Type}(n:Nat)(k:Nat→Option β):Gz n k=k n:=by
 unfold Gz;have z:∀m,Nat.beq n m=true→n=m:=fun m h=>cU h
 cases h0:Nat.beq n 0 with
 |true=>rw[z 0 h0];rfl
 |false=>cases A:Nat.beq n 1 with
  |true=>rw[z 1 A];rfl
  |false=>cases h2:Nat.beq n 2 with
   |true=>rw[z 2 h2];rfl
   |false=>cases G:Nat.beq n 3 with
    |true=>rw[z 3 G];rfl
    |false=>cases I:Nat.beq n 4 with
     |true=>rw[z 4 I];rfl
     |false=>cases L:Nat.beq n 5 with
      |true=>rw[z 5 L];rfl
      |false=>rfl
def F6{α β:Type}:List α→(List α→Option β)→Option β
 |[],k=>k []
 |v::r,k=>F6 r fun r=>k (v::r)
theorem ZO{α β:Type}:∀(l:List α)(k:List α→Option β),F6 l k=k l
 |[],_=>rfl
 |v::r,k=>by simp only[F6];rw[ZO r]
def GA{β:Type}(v:VV)(k:VV→Option β):Option β:=match v with
 |.d x=>k (.d x)
 |.agg l=>F6 l fun l=>k (.agg l)
 |.tuple l=>F6 l fun l=>k (.tuple l)
 |.vp b o=>Gz o fun o=>k (.vp b o)
 |.bp b g q o es=>Gz o fun o=>k (.bp b g q o es)
 |.rp r o=>Gz o fun o=>k (.rp r o)
 |.bs b n es=>k (.bs b n es)
 |.ac b n es=>k (.ac b n es)
 |.fn f c=>k (.fn f c)
 |.k a=>k (.k a)
 |.jB=>k .jB
 |.undef=>k .undef
theorem Qv{β:Type}(v:VV)(k:VV→Option β):GA v k=k v:=by
 cases v<;>simp only[GA,forceN_eq,ZO]
def LF{β:Type}:List VV→(List VV→Option β)→Option β
 |[],k=>k []
 |v::r,k=>GA v fun v=>LF r fun r=>k (v::r)
theorem aas{β:Type}:∀(l:List VV)(k:List VV→Option β),LF l k=k l
 |[],_=>rfl
 |v::r,k=>by simp only[LF];rw[Qv,aas r]
def LG{β:Type}(s:BS)(k:BS→Option β):Option β:=match s with
 |.one e z row=>LF row fun row=>k (.one e z row)
 |.arr e b s lo rows=>k (.arr e b s lo rows)
 |.acc e b s rows=>k (.acc e b s rows)
 |.bP f s=>k (.bP f s)
theorem aat{β:Type}(s:BS)(k:BS→Option β):LG s k=k s:=by
 cases s<;>simp only[LG,aas]
def B7:List Nat→bb→bb→Option bb
 |[],_,acc=>some acc
 |k::ks,l,acc=>match aF l k with
  |some v=>GA v fun v=>B7 ks l ((k,v)::acc)
  |none=>none
def B8:List Nat→aK→aK→Option aK
 |[],_,acc=>some acc
 |k::ks,l,acc=>match aF l k with
  |some v=>LG v fun v=>B8 ks l ((k,v)::acc)
  |none=>none
theorem abf:∀(ks:List Nat)(l acc:bb),B7 ks l acc=xW ks l acc
 |[],_,_=>rfl
 |k::ks,l,acc=>by
  simp only[B7,xW]
  cases aF l k with
  |none=>rfl
  |some v=>simp only[Qv,abf ks]
theorem abg:∀(ks:List Nat)(l acc:aK),B8 ks l acc=xW ks l acc
 |[],_,_=>rfl
 |k::ks,l,acc=>by
  simp only[B8,xW]
  cases aF l k with
  |none=>rfl
  |some v=>simp only[aat,abg ks]
theorem Qw{α:Type}:∀{ks:List Nat}{l acc r:List (Nat×α)},xW ks l acc=some r→an acc l→an r l
 |[],_,_,_,h,k=>by simp only[xW] at h;cases h;exact k
 |i::ks,l,acc,r,h,k=>by
  simp only[xW] at h
  split at h
  ·rename_i v e;exact Qw h ⟨e,k⟩
  cases h
variable{T:aM}{VE bh oY:bb}{B B' Bb:aK}{R:Ex→bb→aK→Prop}
theorem cw(ks bs:List Nat){c:IC}(z:B7 ks VE []=some bh)(h2:B8 bs B []=some B')(h:VC T c bh B' R):VC T c VE B R:=by
 rw[abf] at z;rw[abg] at h2;exact aU bh B' (Qw z trivial) (Qw h2 trivial) h
theorem FC(ks bs:List Nat){c:IC}(A:B7 ks VE []=some oY)(h2:B8 bs B []=some Bb)(I:bb→aK→Nat→bb→aK→Prop)(z:∀k VE B,I oY Bb k VE B→VC T c VE B fun x bh B'=>match x with|.normal=>∃j,j<k∧I oY Bb j bh B'|x=>R x bh B'){k:Nat}(h0:I oY Bb k VE B):VC T (.loop c) VE B R:=Rd (I oY Bb) z h0
inductive Fr where
 |c (c:IC)
 |b (id:Nat)
 |l (J:bb→aK→Prop)
def RK(T:aM)(R:Ex→bb→aK→Prop):List Fr→Ex→bb→aK→Prop
 |[]=>R
 |.c c::K=>fun x VE B=>match x with
  |.normal=>VC T c VE B (RK T R K)
  |x=>RK T R K x VE B
 |.b id::K=>fun x=>RK T R K (B2 id x)
 |.l J::K=>fun x VE B=>match x with
  |.normal=>J VE B
  |x=>RK T R K x VE B
inductive lL where
 |c (c:IC) (K:List Fr) (VE:bb) (B:aK)
 |o (l:List bk) (K:List Fr) (VE:bb) (B:aK)
 |q (l:List bk) (fl:List FL) (K:List Fr) (VE:bb) (B:aK)
 |x (x:Ex) (K:List Fr) (VE:bb) (B:aK)
@[reducible] def lL.P(T:aM)(R:Ex→bb→aK→Prop):lL→Prop
 |.c y K VE B=>VC T y VE B (RK T R K)
 |.o y K VE B=>VO T y VE B fun bh B'=>RK T R K .normal bh B'
 |.q y fl K VE B=>VQ T y VE B fl fun bh B'=>RK T R K .normal bh B'
 |.x y K VE B=>RK T R K y VE B
def vT:List Fr→Ex→bb→aK→lL
 |[],x,VE,B=>.x x [] VE B
 |.b id::K,x,VE,B=>vT K (B2 id x) VE B
 |.c c::K,x,VE,B=>match x with
  |.normal=>.c c K VE B
  |x=>vT K x VE B
 |.l J::K,x,VE,B=>match x with
  |.normal=>.x .normal (.l J::K) VE B
  |x=>vT K x VE B
theorem tg:∀{K:List Fr}{x:Ex}{VE:bb}{B:aK},(vT K x VE B).P T R→RK T R K x VE B
 |[],_,_,_,h=>h
 |.b id::K,x,VE,B,h=>tg (K:=K) (x:=B2 id x) h
 |.c c::K,x,VE,B,h=>by
  cases x with
  |normal=>exact h
  |ret=>exact tg (K:=K) (x:=.ret) h
  |exit i=>exact tg (K:=K) (x:=.exit i) h
 |.l J::K,x,VE,B,h=>by
  cases x with
  |normal=>exact h
  |ret=>exact tg (K:=K) (x:=.ret) h
  |exit i=>exact tg (K:=K) (x:=.exit i) h
def LH{β:Type}(B:aK)(k:aK→Option β):Option β:=match B with
 |[]=>k []
 |(b,s)::r=>LG s fun s=>k ((b,s)::r)
theorem forceH_eq{β:Type}(B:aK)(k:aK→Option β):LH B k=k B:=by
 cases B with
 |nil=>rfl
 |cons p r=>obtain⟨b,s⟩:=p;simp only[LH,aat]
def UA(op:bk)(VE:bb)(B:aK):Option (bb×aK):=match op with
 |⟨d,g,_,i⟩=>match g with
  |none=>match d with
   |some d=>match hU VE B d.n i with
    |some (v,B',_)=>GA v fun v=>LH B' fun B'=>some ((d.n,v)::VE,B')
    |none=>none
   |none=>match hU VE B 0 i with
    |some (_,B',_)=>LH B' fun B'=>some (VE,B')
    |none=>none
  |some (g,want)=>match d with
   |some d=>match aF VE g.n with
    |some (.d (.b t))=>match t with
     |true=>match want with
      |true=>match hU VE B d.n i with
       |some (v,B',_)=>some ((d.n,v)::VE,B')
       |none=>none
      |false=>some ((d.n,.k .undef)::VE,B)
     |false=>match want with
      |false=>match hU VE B d.n i with
       |some (v,B',_)=>some ((d.n,v)::VE,B')
       |none=>none
      |true=>some ((d.n,.k .undef)::VE,B)
    |_=>none
   |none=>none
def Sn(d g:Key)(want:Bool)(q:Option (List Nat))(i:bq)(VE:bb)(B:aK)(fl:List FL):Option (bb×aK×List FL):=match aF VE g.n with
 |some (.d (.b t))=>match(match t with|true=>want|false=>!want) with
  |true=>match hU VE B d.n i with
   |some (v,B',W)=>match q with
    |none=>some ((d.n,v)::VE,B',fl)
    |some l=>gd (mL W l fl) (some ((d.n,v)::VE,B',tZ W::fl))
   |none=>none
  |false=>match q with
   |none=>some ((d.n,.k .undef)::VE,B,fl)
   |some _=>some ((d.n,.k .undef)::VE,B,.rd []::fl)
 |_=>none
theorem acd{ops:List bk}{fl:List FL}{Q:bb→aK→Prop}(z:∀k v,aF bh k=some v→aF VE k=some v)(h:VQ T ops bh B fl Q):VQ T ops VE B fl Q:=fun H0 X0 E H β A bd G=>h H0 X0 E H β (A.less z) bd G
theorem dL{d:Option Key}{g:Key}{w t:Bool}{qq:Option (List Nat)}{op:bq}{p q:Prop}{ops:List bk}{fl:List FL}{Q:bb→aK→Prop}(z:aF VE g.n=some (.d (.b t)))(A:p→VQ T (⟨d,some (g,w),qq,op⟩::ops) ((g.n,.d (.b true))::VE) B fl Q)(h2:q→VQ T (⟨d,some (g,w),qq,op⟩::ops) ((g.n,.d (.b false))::VE) B fl Q)(G:(t=true)=p:=by first|(simp only[eW,gM,gx,mq,gj];first|done|rfl)|rfl)(I:(t=false)=q:=by first|(simp only[eW,gM,gx,mq,gj];first|done|rfl)|rfl):VQ T (⟨d,some (g,w),qq,op⟩::ops) VE B fl Q:=by
 cases t with
 |true=>exact acd (Cw z) (A (Eq.mp G rfl))
 |false=>exact acd (Cw z) (h2 (Eq.mp I rfl))
theorem exec1Q_ok{d g:Key}{want:Bool}{q:Option (List Nat)}{i:bq}{fl lK:List FL}{r:List bk}{Q:bb→aK→Prop}(h:Sn d g want q i VE B fl=some (bh,B',lK))(k:VQ T r bh B' lK Q):VQ T (⟨some d,some (g,want),q,i⟩::r) VE B fl Q:=by
 simp only[Sn] at h
 split at h
 ·rename_i t z
  cases t<;>cases want<;>simp only[Bool.not_true,Bool.not_false] at h
  all_goals first
   |(split at h
     ·rename_i e
      cases q with
      |none=>cases h;exact cl z rfl (iI e k)
      |some l=>
       simp only[gd] at h
       cases A:mL _ l fl with
       |true=>rw[A] at h;cases h;exact fL z rfl A (iI e k)
       |false=>rw[A] at h;cases h
     cases h)
   |(cases q with
     |none=>cases h;exact oi z rfl k
     |some l=>cases h;exact Fq z rfl k)
 cases h
def HJ:lL→Option lL
 |.c c K VE B=>match c with
  |.seq a b=>some (.c a (.c b::K) VE B)
  |.region d l=>match d with
   |true=>some (.q l [] K VE B)
   |false=>some (.o l K VE B)
  |.skip=>some (vT K .normal VE B)
  |.block id c=>some (.c c (.b id::K) VE B)
  |.exit id=>some (vT K (.exit id) VE B)
  |.ret=>some (vT K .ret VE B)
  |_=>none
 |.o l K VE B=>match l with
  |[]=>some (vT K .normal VE B)
  |op::r=>match UA op VE B with
   |some (bh,B')=>some (.o r K bh B')
   |none=>none
 |.q l fl K VE B=>match l with
  |[]=>some (vT K .normal VE B)
  |⟨d,g,q,i⟩::r=>match g with
   |none=>match vq 1 (⟨d,none,q,i⟩::r) VE B fl with
    |some (bh,B',lK,r')=>some (.q r' lK K bh B')
    |none=>none
   |some (g,want)=>match d with
    |some d=>match Sn d g want q i VE B fl with
     |some (bh,B',lK)=>some (.q r lK K bh B')
     |none=>none
    |none=>none
 |.x _ _ _ _=>none
theorem exec1_ok{op:bk}{r:List bk}{Q:bb→aK→Prop}(h:UA op VE B=some (bh,B'))(k:VO T r bh B' Q):VO T (op::r) VE B Q:=by
 obtain⟨d,g,q,i⟩:=op;simp only[UA,Qv,forceH_eq] at h
 split at h
 ·split at h
  ·split at h
   ·rename_i e;cases h;exact aw (iI e k)
   cases h
  split at h
  ·rename_i e;cases h;exact jd (iI e k)
  cases h
 split at h
 ·split at h
  ·rename_i z
   split at h
   ·split at h
    ·split at h
     ·rename_i e;cases h;exact bM z rfl (iI e k)
     cases h
    cases h;exact oh z rfl k
   split at h
   ·split at h
    ·rename_i e;cases h;exact bM z rfl (iI e k)
    cases h
   cases h;exact oh z rfl k
  cases h
 cases h
theorem abh{S S':lL}(h:HJ S=some S')(k:S'.P T R):S.P T R:=by
 cases S with
 |c c K VE B=>
  cases c with
  |seq a b=>
   cases h
   exact ff (R:=RK T R K) (VC.mono (show VC T a VE B (RK T R (.c b::K)) from k) fun x VE B G=>by cases x<;>exact G)
  |region d l=>
   cases d with
   |true=>cases h;exact te (R:=RK T R K) (show VQ T l VE B [] _ from k)
   |false=>cases h;exact i7 (R:=RK T R K) (show VO T l VE B _ from k)
  |skip=>cases h;exact lv (R:=RK T R K) (tg k)
  |block id c=>cases h;exact kz (R:=RK T R K) (show VC T c VE B (RK T R (.b id::K)) from k)
  |exit id=>cases h;exact oj (R:=RK T R K) (tg k)
  |ret=>cases h;exact mM (R:=RK T R K) (tg k)
  |cond _ _ _=>cases h
  |loop _=>cases h
 |o l K VE B=>
  cases l with
  |nil=>cases h;exact qs (Q:=fun VE B=>RK T R K .normal VE B) (tg k)
  |cons op r=>
   simp only[HJ] at h
   split at h
   ·rename_i z B1 e;cases h;exact exec1_ok (Q:=fun VE B=>RK T R K .normal VE B) e (show VO T r z B1 _ from k)
   cases h
 |q l fl K VE B=>
  cases l with
  |nil=>cases h;exact Af (Q:=fun VE B=>RK T R K .normal VE B) (tg k)
  |cons op r=>
   obtain⟨d,g,q,i⟩:=op;simp only[HJ] at h
   cases g with
   |none=>
    simp only at h
    split at h
    ·rename_i z B1 A I e;cases h;exact mS (Q:=fun VE B=>RK T R K .normal VE B) 1 e (show VQ T I z B1 A _ from k)
    cases h
   |some p=>
    obtain⟨g,want⟩:=p
    cases d with
    |none=>cases h
    |some d=>
     simp only at h
     split at h
     ·rename_i z B1 A e;cases h;exact exec1Q_ok (Q:=fun VE B=>RK T R K .normal VE B) e (show VQ T r z B1 A _ from k)
     cases h
 |x x K VE B=>cases h
def ld:Nat→lL→Option lL
 |0,S=>some S
 |n+1,S=>match HJ S with
  |some S'=>ld n S'
  |none=>none
theorem qn:∀{n:Nat}{S S':lL},ld n S=some S'→S'.P T R→S.P T R
 |0,S,S',h,k=>by cases h;exact k
 |n+1,S,S',h,k=>by
  simp only[ld] at h
  split at h
  ·rename_i z e;exact abh e (qn h k)
  cases h
section
variable(n:Nat){c:IC}{K:List Fr}{l:List bk}{fl:List FL}{S S':lL}
theorem r0(h:ld n (.c c [] VE B)=some S')(k:S'.P T R):VC T c VE B R:=qn (S:=.c c [] VE B) h k
theorem rc(h:ld n (.c c K VE B)=some S')(k:S'.P T R):VC T c VE B (RK T R K):=qn (S:=.c c K VE B) h k
theorem ro(h:ld n (.o l K VE B)=some S')(k:S'.P T R):VO T l VE B fun VE B=>RK T R K .normal VE B:=qn (S:=.o l K VE B) h k
theorem rq(h:ld n (.q l fl K VE B)=some S')(k:S'.P T R):VQ T l VE B fl fun VE B=>RK T R K .normal VE B:=qn (S:=.q l fl K VE B) h k
theorem rp(h:ld n S=some S')(k:S'.P T R):S.P T R:=qn h k
variable{x:Ex}{J:bb→aK→Prop}{K':List Fr}
theorem eA(h:ld n (.c c K VE B)=some (.x x [] bh B'))(k:R x bh B'):VC T c VE B (RK T R K):=qn (S:=.c c K VE B) h k
theorem eJ(h:ld n (.o l K VE B)=some (.x x [] bh B'))(k:R x bh B'):VO T l VE B fun VE B=>RK T R K .normal VE B:=qn (S:=.o l K VE B) h k
theorem rqx(h:ld n (.q l fl K VE B)=some (.x x [] bh B'))(k:R x bh B'):VQ T l VE B fl fun VE B=>RK T R K .normal VE B:=qn (S:=.q l fl K VE B) h k
theorem rpx(h:ld n S=some (.x x [] bh B'))(k:R x bh B'):S.P T R:=qn h k
theorem rcl(h:ld n (.c c K VE B)=some (.x .normal (.l J::K') bh B'))(k:J bh B'):VC T c VE B (RK T R K):=qn (S:=.c c K VE B) h k
theorem cL(h:ld n (.o l K VE B)=some (.x .normal (.l J::K') bh B'))(k:J bh B'):VO T l VE B fun VE B=>RK T R K .normal VE B:=qn (S:=.o l K VE B) h k
theorem vc_loopR(I:Nat→bb→aK→Prop)(z:∀k VE B,I k VE B→VC T c VE B (RK T R (.l (fun VE B=>∃j,j<k∧I j VE B)::K))){k:Nat}(h0:I k VE B):VC T (.loop c) VE B (RK T R K):=Rd I (fun k VE B h=>(z k VE B h).mono fun x bh B' A=>by cases x<;>exact A) h0
theorem bj(ks bs:List Nat)(A:B7 ks VE []=some oY)(h2:B8 bs B []=some Bb)(I:bb→aK→Nat→bb→aK→Prop)(z:∀k VE B,I oY Bb k VE B→VC T c VE B (RK T R (.l (fun VE B=>∃j,j<k∧I oY Bb j VE B)::K))){k:Nat}(h0:I oY Bb k VE B):VC T (.loop c) VE B (RK T R K):=vc_loopR (I oY Bb) z h0
theorem vc_joinR{a b:IC}(J:bb→aK→Prop)(A:VC T a VE B (RK T R (.l J::K)))(h2:∀bh B',J bh B'→VC T b bh B' (RK T R K)):VC T (.seq a b) VE B (RK T R K):=ff (A.mono fun x VE B z=>by cases x<;>first|exact h2 _ _ z|exact z)
theorem dM(ks bs:List Nat){a b:IC}(G:B7 ks VE []=some oY)(h2:B8 bs B []=some Bb)(J:bb→aK→bb→aK→Prop)(z:VC T a VE B (RK T R (.l (J oY Bb)::K)))(A:∀bh B',J oY Bb bh B'→VC T b bh B' (RK T R K)):VC T (.seq a b) VE B (RK T R K):=vc_joinR (J oY Bb) z A
end
@[reducible] def d9(k:Nat)(lo v n:Int):Prop:=k=(n-v).toNat∧(lo≤v∧(v≤n∨v=lo))
variable{T:aM}{VE bh:bb}{B B':aK}{R:Ex→bb→aK→Prop}
def plainS:lL→Bool
 |.o (op::_) _ _ _=>K5 op
 |.q (op::_) _ _ _ _=>K5 op
 |_=>true
def Bq:Nat→lL→Option lL
 |0,S=>some S
 |n+1,S=>match plainS S with
  |true=>match HJ S with
   |some S'=>Bq n S'
   |none=>none
  |false=>none
theorem F7:∀{n:Nat}{S S':lL},Bq n S=some S'→S'.P T R→S.P T R
 |0,S,S',h,k=>by cases h;exact k
 |n+1,S,S',h,k=>by
  simp only[Bq] at h
  split at h
  ·split at h
   ·rename_i z e;exact abh e (F7 h k)
   cases h
  cases h
section
variable(n:Nat){c:IC}{K:List Fr}{l:List bk}{fl:List FL}{S S':lL}{x:Ex}{J:bb→aK→Prop}{K':List Fr}
theorem wc(h:Bq n (.c c K VE B)=some S')(k:S'.P T R):VC T c VE B (RK T R K):=F7 (S:=.c c K VE B) h k
theorem wo(h:Bq n (.o l K VE B)=some S')(k:S'.P T R):VO T l VE B fun VE B=>RK T R K .normal VE B:=F7 (S:=.o l K VE B) h k
theorem wq(h:Bq n (.q l fl K VE B)=some S')(k:S'.P T R):VQ T l VE B fl fun VE B=>RK T R K .normal VE B:=F7 (S:=.q l fl K VE B) h k
theorem wp(h:Bq n S=some S')(k:S'.P T R):S.P T R:=F7 h k
theorem Pg(k:R x VE B):(lL.x x [] VE B).P T R:=k
theorem Ph(k:J VE B):(lL.x .normal (.l J::K) VE B).P T R:=k
end
variable{T:aM}{VE bh:bb}{B B':aK}{R:Ex→bb→aK→Prop}
def agU(VE:bb)(l:List aG):Option (List VV):=match qC VE l with
 |some a=>bif yC a then some a else none
 |none=>none
theorem aB{Q:VV→aK→Prop}{f:Nat}{l:List aG}{args:List VV}{P:VV→Prop}(h0:agU VE l=some args)(h:Sound T f args P)(A:∀r,r.nb→P r→Q r B):VI T (.call f l) VE B [] Q:=by
 unfold agU at h0
 split at h0
 ·rename_i a e
  cases z:yC a with
  |false=>rw[z] at h0;cases h0
  |true=>rw[z] at h0;cases h0;exact Rf e (ov z) h A
 cases h0
section
variable(n:Nat){c:IC}{K K':List Fr}{l r:List bk}{fl lK:List FL}{S:lL}{d:Key}{qq:Option (List Nat)}{op:bq}{W:List Nat}
theorem ch(h:ld n (.c c [] VE B)=some (.o (⟨some d,none,qq,op⟩::r) K' bh B'))(k:VI T op bh B' W fun v z=>VO T r ((d.n,v)::bh) z fun VE B=>RK T R K' .normal VE B):VC T c VE B R:=r0 n h (aw k)
theorem aA(h:ld n (.c c K VE B)=some (.o (⟨some d,none,qq,op⟩::r) K' bh B'))(k:VI T op bh B' W fun v z=>VO T r ((d.n,v)::bh) z fun VE B=>RK T R K' .normal VE B):VC T c VE B (RK T R K):=rc n h (aw k)
theorem aN(h:ld n (.o l K VE B)=some (.o (⟨some d,none,qq,op⟩::r) K' bh B'))(k:VI T op bh B' W fun v z=>VO T r ((d.n,v)::bh) z fun VE B=>RK T R K' .normal VE B):VO T l VE B fun VE B=>RK T R K .normal VE B:=ro n h (aw k)
theorem iD(h:ld n S=some (.o (⟨some d,none,qq,op⟩::r) K' bh B'))(k:VI T op bh B' W fun v z=>VO T r ((d.n,v)::bh) z fun VE B=>RK T R K' .normal VE B):S.P T R:=rp n h (aw k)
theorem dh(h:ld n (.q l fl K VE B)=some (.q (⟨some d,none,none,op⟩::r) lK K' bh B'))(k:VI T op bh B' W fun v z=>VQ T r ((d.n,v)::bh) z lK fun VE B=>RK T R K' .normal VE B):VQ T l VE B fl fun VE B=>RK T R K .normal VE B:=rq n h (aV k)
end
end Go.Ev
namespace Go.Ev.Rp
theorem fin{p:Prop}(h:p:=by(repeat' (first|rfl|assumption|exact ae|exact trivial|exact dY ae ae|exact eI|exact gw|exact bZ|exact t4|exact bB (s:=[]) (hZ _)|exact cb|exact bl|apply ah|apply dW|apply dG|apply cH|exact .inl rfl|exact .inr ⟨rfl,rfl⟩|exact .acc _|apply aL|apply bB|apply And.intro|exact fun _=>rfl|(intro h;rw[h];rfl)|(intro h;simp at h;done)|(intro h;(try simp only[eW,gx,gM,cN,oN] at h);first|omega|(simp_all;done)|(simp_all;omega))|apply Exists.intro));all_goals(first|rfl|exact ae|assumption)):p:=h
theorem me{a b:Prop}(h:b)(k:a):a∧b:=⟨k,h⟩
theorem sn{rs:List jO}{VE:bb}{B:aK}{P:VV→aK→Prop}{vs:List VV}{z:aK}(A:rU VE B rs=some vs:=by rfl)(G:P (md vs) z:=by(repeat' (first|rfl|assumption|exact ae|exact trivial|exact dY ae ae|exact eI|exact gw|exact bZ|exact t4|exact bB (s:=[]) (hZ _)|exact cb|exact bl|apply ah|apply dW|apply dG|apply cH|exact .inl rfl|exact .inr ⟨rfl,rfl⟩|exact .acc _|apply aL|apply bB|apply And.intro|exact fun _=>rfl|(intro h;rw[h];rfl)|(intro h;simp at h;done)|(intro h;(try simp only[eW,gx,gM,cN,oN] at h);first|omega|(simp_all;done)|(simp_all;omega))|apply Exists.intro));all_goals(first|rfl|exact ae|assumption))(h2:an z B:=by(repeat' (first|rfl|assumption|exact ae|exact trivial|exact dY ae ae|exact eI|exact gw|exact bZ|exact t4|exact bB (s:=[]) (hZ _)|exact cb|exact bl|apply ah|apply dW|apply dG|apply cH|exact .inl rfl|exact .inr ⟨rfl,rfl⟩|exact .acc _|apply aL|apply bB|apply And.intro|exact fun _=>rfl|(intro h;rw[h];rfl)|(intro h;simp at h;done)|(intro h;(try simp only[eW,gx,gM,cN,oN] at h);first|omega|(simp_all;done)|(simp_all;omega))|apply Exists.intro));all_goals(first|rfl|exact ae|assumption)):ajp rs P .ret VE B:=⟨vs,z,A,h2,G⟩
def JT:List Ty→(List DC→Prop)→Prop
 |[],P=>P []
 |t::z,P=>∃d,t.ok d∧JT z fun r=>P (d::r)
theorem LI:∀{row:List Ty}{P:List DC→Prop}{r:List DC},e6 row r→P r→JT row P
 |[],P,r,h,k=>by obtain rfl:=pv h;exact k
 |t::A,P,r,h,k=>by obtain⟨d,r,rfl,z,h2⟩:=dw h;exact⟨d,z,LI h2 k⟩
theorem qI{row:List Ty}{rows:ai}(z:Int)(h:af row rows)(A:z.toNat<rows.length:=by exact ae):JT row fun r=>rows[z.toNat]?=some r:=LI (lu h (dm A)) (dm A)
theorem qN{row:List Ty}{rows:ai}{j n:Nat}(k:j<n)(h:af row rows)(z:j<n→j<rows.length:=by intro k;simpa using k):JT row fun r=>rows[j]?=some r:=LI (lu h (dm (z k))) (dm (z k))
theorem qO{row:List Ty}{l:List DC}(h:e6 row l):JT row fun r=>l=r:=LI h rfl
attribute [local irreducible] VC VO VQ VI Sound bY
theorem W{p:Prop}(h:p:=by repeat' (first|refine wp 6 rfl ?_|refine wp 2 rfl ?_|refine wp 1 rfl ?_|(refine Pg ?_;first|exact bL rfl rfl fin|exact sn|exact fin)|(refine Ph ?_;first|exact⟨_,me fin ae⟩|exact fin)|refine wo 1 rfl ?_|refine wc 1 rfl ?_|refine wq 1 rfl ?_|refine qs ?_|refine qE 8 rfl rfl ?_|refine qE 3 rfl rfl ?_|refine qE 1 rfl rfl ?_|refine ew ?_|refine Af ?_|refine qF 8 rfl rfl ?_|refine qF 3 rfl rfl ?_|refine qF 1 rfl rfl ?_|refine Dt ?_|refine te ?_|(refine mM ?_;exact bL rfl rfl fin)|(refine mM ?_;exact sn)|refine eu rfl (by first|with_reducible rfl|assumption) ?_|refine dq rfl (by first|with_reducible rfl|assumption) ?_|(refine ay rfl (fun h=>?_) (fun h=>?_)<;>(try(have h:(_:Bool)=_:=h;subst h)))|refine lv ?_|refine oj ?_|refine kz ?_|refine i7 ?_|refine ff ?_|refine fS rfl ?_|refine bM rfl (by first|with_reducible rfl|assumption) (iI (d:=0) rfl ?_)|refine bM (W:=[]) rfl (by first|with_reducible rfl|assumption) ?_|refine oh rfl (by first|with_reducible exact Bool.not_true.symm|with_reducible exact Bool.not_false.symm|assumption) ?_|(refine br rfl (fun h=>?_) (fun h=>?_)<;>(try(have h:(_:Bool)=_:=h;subst h)))|refine aw (W:=[]) ?_|refine Cp rfl (by assumption) rfl ?_|refine zH rfl (by assumption) rfl ?_|refine iI (d:=0) rfl ?_|refine bx rfl rfl ae ae ?_|refine dQ rfl rfl ae ae ?_|refine aQ rfl (by first|assumption|exact .inl rfl) ?_|(refine K4 rfl rfl (by first|assumption|exact .inl rfl) (by assumption) rfl ae ae ?_;repeat intro _)|(refine bG (j:=0) rfl rfl (aX rfl) ?_)|refine c6 rfl rfl rfl ae ae ?_|refine pb rfl rfl ?_|refine pb (b:=[]) rfl rfl ?_|refine kE rfl rfl ?_|refine kE (b:=[]) rfl rfl ?_|refine rM rfl rfl rfl rfl ae ae ae ao ?_|refine fm rfl ao ae ae ?_|refine zV rfl rfl ao (fun _=>?_)|refine qh rfl rfl (fun _ _=>?_)|refine om rfl rfl (fun _ _=>?_)|refine tf rfl rfl (fun _ _=>?_)|refine qg rfl rfl ?_|refine s8 rfl rfl ?_|(exfalso;first|omega|((try simp only[eW,gM,gx,mq] at*);first|omega|(simp_all;done)))|exact⟨_,me fin ae⟩|exact fin|refine aV (W:=[]) ?_|(rename (Ty.ok Ty.b _)=>z;obtain⟨_,e⟩:=Ty.eI z;subst e;clear z)|(rename (Ty.ok (Ty.i _ _ _) _)=>z;obtain⟨_,e,_,_⟩:=Ty.dY z;first|(subst e;clear z)|clear z)|(rename (Ty.ok (Ty.s _) _)=>z;obtain⟨_,e,_⟩:=Ty.bB z;first|(subst e;clear z)|clear z)|(rename (Ty.ok (Ty.l _ _) _)=>z;obtain⟨_,_,_,_⟩:=Ty.aL z;clear z))):p:=h
end Go.Ev.Rp
