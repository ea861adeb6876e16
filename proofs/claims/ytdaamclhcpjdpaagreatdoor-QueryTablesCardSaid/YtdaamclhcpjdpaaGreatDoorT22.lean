/- Part 22 of rules for walks through the code of a program, and of such walks; what each part proves is said by its theorems. -/
import Derived.Test.YtdaamclhcpjdpaaGreatDoorT20
import Derived.Test.YtdaamclhcpjdpaaGreatDoorT21
set_option linter.unusedVariables false
set_option linter.unusedSimpArgs false
noncomputable section
set_option maxRecDepth 100000
set_option maxHeartbeats 4000000
namespace Go.Ev
open Go
def sj(row:List Ty)(z:aj)(f:Nat)(r:aj):Prop:=(r=[]∧(z=[]∨z=[]++[[.nil]]))∨(r≠[]∧∃pre,z=pre++[[.raw f r.length 2]]∧af [.l 1000000 row] pre)
theorem sj.mk{row:List Ty}{pre w:aj}{d:DC}{j f:Nat}{r:aj}{n:Nat}(z:w=(pre++[[d]]).set j (qA [d] 0 [.raw f n 2]))(A:j=pre.length)(G:n=r.length)(I:r≠[])(L:af [.l 1000000 row] pre):sj row w f r:=by
 refine .inr ⟨I,pre,?_,L⟩;subst A G;rw[z,afN _ _ (bt _)];simp[qA]
theorem af2{row:List Ty}{pre w:aj}(z:af [.l 1000000 row] pre)(A:af row w)(G:w.length≤1000000):af [.l 1000000 row] (pre++[[.sl w]]):=df z (c9 (ah (aL (.inl rfl) G A) bf))
section
variable{T:aO}{VE:bq}{B:aU}
theorem vi_load1PA{Q:VV→aU→Prop}{a:aI}{b j o es elem aE f:Nat}{rows:aj}{row:List DC}{x:DC}(G:a.vv VE=some (.bp b rows.length j o es))(I:aN B b=some (.db f (.acc elem aE es rows)))(L:rows[j]?=some row)(M:row[o]?=some x)(O:Q (.d x) B):VI T (.load 1 false a) VE B [] Q:=fun _ _ _ _ _ z=>by
 obtain⟨_,U,A⟩:=z.bG G;simp only[aG] at A;subst A;obtain⟨l,Y,Z,k5⟩:=dq.Ds (z.box b _ I).2 L;obtain⟨y,k6,k7⟩:=k5.get M;exact FK U Y (by rw[Z]) k6 (dC z (v:=.d x) (by simp only[aG];exact k7) O)
theorem Rel.frzR{H0:Nat→Nat}{X0:Nat→Prop}{E:Env}{H:ay}{β:Nat→Nat}(Z:Rel H0 X0 VE B E H β){b c f elem aE es O A:Nat}{w pre:aj}(hb:aN B b=some (.db f (.acc elem aE es w)))(hw:w≠[])(hc:aN B c=some (.acc O A 1 (pre++[[.raw f w.length es]])))(hbc:b≠c):Rel H0 X0 VE ((c,.acc O A 1 (pre++[[.sl w]]))::du B b) E H β:=by
 have hf:=Z.pinned hb hw;have h:=Z.drop b;have I:∀d s,aN (du B b) d=some s→b≠d∧aN B d=some s:=fun d s z=>by
  rw[mN] at z
  by_cases e:b=d
  ·rw[bj e] at z;cases z
  rw[aZ e] at z;exact⟨e,z⟩
 have zB:aN (du B b) c=some (.acc O A 1 (pre++[[.raw f w.length es]])):=by rw[mN,aZ hbc];exact hc
 have Y:(BS.acc O A 1 (pre++[[.sl w]])).born↔(BS.acc O A 1 (pre++[[.raw f w.length es]])).born:=by simp[BS.born]
 have hd:=l9 (s':=.acc O A 1 (pre++[[.sl w]])) zB Y;generalize hX:XB X0 ((c,.acc O A 1 (pre++[[.sl w]]))::du B b) β=X;have hl:fc H (XB X0 (du B b) β) H X:=by rw[←hX];exact⟨bt _,fun f _ hx=>⟨fun k=>hx (k.imp id fun⟨c,t,z,ho,h2⟩=>by obtain⟨u,G,L⟩:=hd c t z ho;exact⟨c,u,G,L,h2⟩),rfl⟩⟩
 have mF:fc H (XB X0 B β) H X:=by rw[←hX];exact⟨bt _,fun f _ hx=>⟨fun k=>hx (k.imp id fun⟨c,t,z,ho,h2⟩=>by obtain⟨u,G,L⟩:=hd c t z ho;exact⟨c,u,(I c u G).2,L,h2⟩),rfl⟩⟩
 have hx:¬X (β b):=by
  rw[←hX];rintro(k|⟨d,s,z,pD,h2⟩)
  ·exact(Z.new b _ hb hw).1 k
  obtain⟨u,G,L⟩:=hd d s z pD;exact(I d u G).1 (Z.inj d b u _ (I d u G).2 hb L hw h2).symm
 have VP:bK H X (.sl w) (.slice f w.length 0 w.length es):=by
  simp only[bK];refine⟨f,w.length,0,es,rfl,.inr ⟨hf▸hx,hf▸(Z.new b _ hb hw).2,0,by simp,dF.oN fun q r U=>?_⟩⟩;obtain⟨l,z,h2,h3⟩:=dq.Ds (Z.box b _ hb).2 U;exact⟨l,by rw[fM];exact hf▸z,h2,h3.lift mF⟩
 refine⟨h.kY,h.aQ,h.x0,fun d t hc ho=>?_,fun c d t u hc wI hs ht he=>?_,fun k v hk=>?_,fun d t M=>?_⟩
 ·obtain⟨u,G,L⟩:=hd d t hc ho;exact h.new d u G L
 ·obtain⟨s1,G,L⟩:=hd c t hc hs;obtain⟨t1,k3,k4⟩:=hd d u wI ht;exact h.inj c d s1 t1 G k3 L k4 he
 ·obtain⟨a,z,h2⟩:=h.env k v hk;exact⟨a,z,hX▸h2.lift hl⟩
 rw[hX];rw[dr] at M
 by_cases k:c=d
 ·subst k;rw[bj rfl] at M
  cases M
  rcases(h.box c _ zB).lift hl rfl with k|⟨lo,cs,z,h2,h3⟩
  ·simp at k
  refine .inr ⟨lo,cs,by rw[z];simp,by simpa using h2,fun q r U=>?_⟩
  by_cases e:q=pre.length
  ·subst e;have W9:r=[.sl w]:=by rw[iS] at U;cases U;rfl
   subst W9;obtain⟨l,G,L,k3⟩:=h3 pre.length _ iS;refine⟨l,G,L,?_⟩;simp only[bZ,bK] at k3;obtain⟨a,s,rfl,rfl,rfl⟩:=k3;simp only[bZ];exact⟨_,_,aa,VP,aa⟩
  have hq':(pre++[[DC.raw f w.length es]])[q]?=some r:=by
   by_cases O:q<pre.length
   ·rw[tB O] at U⊢;exact U
   rw[yz (by simp;omega)] at U;cases U
  exact h3 q r hq'
 rw[aZ k] at M;exact(h.box d t M).lift hl rfl
theorem more_frzR{b c G A:Nat}{rows z:aj}(I:aN B c=some (.acc G A 1 rows))(L:rows≠[]):∀d t,aN ((c,BS.acc G A 1 z)::du B b) d=some t→t.born→∃u,aN B d=some u∧u.born:=fun d t h ho=>by
 rw[dr] at h
 by_cases k:c=d
 ·subst k;exact⟨_,I,L⟩
 rw[aZ k,mN] at h
 by_cases e:b=d
 ·rw[bj e] at h;cases h
 rw[aZ e] at h;exact⟨t,h,ho⟩
theorem abE{G:IC}{R:Ex→bq→aU→Prop}(b c:Nat){f elem aE es I z:Nat}{w pre:aj}(M:aN B b=some (.db f (.acc elem aE es w)))(O:w≠[])(L:aN B c=some (.acc I z 1 (pre++[[.raw f w.length es]])))(A:b≠c)(h:VC T G VE ((c,.acc I z 1 (pre++[[.sl w]]))::du B b) R):VC T G VE B R:=
 fun H0 X0 E H β U=>(h H0 X0 E H β (U.frzR M O L A)).mono fun _ _ _ Y=>Y.more (more_frzR L (by simp))
theorem vc_frzRs{G:IC}{R:Ex→bq→aU→Prop}(s b c:Nat){f elem aE es I z:Nat}{w pre:aj}(L:aN B b=some (.db f (.acc elem aE es w)))(M:w≠[])(O:aN B c=some (.acc I z 1 (pre++[[.raw f w.length es]])))(A:b≠c)(U:aN VE s=some (.ac c (pre++[[DC.raw f w.length es]]).length 1))(h:VC T G ((s,.ac c (pre++[[DC.sl w]]).length 1)::VE) ((c,.acc I z 1 (pre++[[.sl w]]))::du B b) R):VC T G VE B R:=
 abE b c L M O A fun H0 X0 E H β Y=>h H0 X0 E H β (Y.slot U fun a Z=>by
  have e:(pre++[[DC.sl w]]).length=(pre++[[DC.raw f w.length es]]).length:=by simp
  rw[e];exact Z)
theorem vc_slot{z:IC}{R:Ex→bq→aU→Prop}(k:Nat){v:VV}(v':VV)(A:aN VE k=some v)(G:∀H X β a,aG H X β v a→aG H X β v' a)(h:VC T z ((k,v')::VE) B R):VC T z VE B R:=fun H0 X0 E H β I=>h H0 X0 E H β (I.slot A fun a L=>G H _ β a L)
theorem vc_grp{A:IC}{R:Ex→bq→aU→Prop}(s b c:Nat){row:List Ty}{G r:aj}{f elem aE O z:Nat}(hg:sj row G f r)(I:af row r)(hl:r.length≤1000000)(hb:aN B b=some (.db f (.acc elem aE 2 r)))(Z:aN B c=some (.acc O z 1 G))(L:b≠c)(hs:aN VE s=some (.ac c G.length 1))
  (h:∀w':aj,w'.length=G.length→af [.l 1000000 row] w'→VC T A ((s,.ac c w'.length 1)::VE) ((c,.acc O z 1 w')::du B b) R):VC T A VE B R:=by
 have sl:∀{B':aU}{n:Nat},n=G.length→VC T A ((s,.ac c n 1)::VE) B' R→VC T A VE B' R:=fun e h H0 X0 E H β I=>h H0 X0 E H β (I.slot hs fun a ha=>e▸ha)
 have same:∀{w':aj},w'=G→VC T A VE ((c,.acc O z 1 w')::du B b) R→VC T A VE B R:=fun{w'}e k=>by
  subst e;refine abk b (fun H0 X0 E H β I=>?_);have M:aN (du B b) c=some (.acc O z 1 w'):=by rw[mN,aZ L];exact Z
  exact(k H0 X0 E H β (I.qB M iG fun _ k=>k)).mono fun _ _ _ U=>U.more (l9 M iG)
 rcases hg with⟨_,e|e⟩|⟨Y,pre,e,U⟩
 ·subst e;exact same aa (sl aa (h [] aa ca))
 ·subst e;exact same aa (sl aa (h ([]++[[.nil]]) aa (c9 (ah gv bf))))
 subst e;refine abE b c hb Y Z L (sl (by simp) (h _ (by simp) (af2 U I hl)))
end
section
variable{T:aO}{VE:bq}{B:aU}{Q:VV→aU→Prop}
end
def x7{α:Type}:List Nat→List (Nat×α)→List (Nat×α)→Option (List (Nat×α))
 |[],_,acc=>some acc
 |k::ks,l,acc=>match aN l k with
  |some v=>x7 ks l ((k,v)::acc)
  |none=>none
def GQ{β:Type}(n:Nat)(k:Nat→Option β):Option β:=bif Nat.beq n 0 then k 0 else bif Nat.beq n 1 then k 1 else bif Nat.beq n 2 then k 2 else bif Nat.beq n 3 then k 3 else bif Nat.beq n 4 then k 4 else bif Nat.beq n 5 then k 5 else k n
theorem forceN_eq{β:Type}(n:Nat)(k:Nat→Option β):GQ n k=k n:=by
 unfold GQ;have z:∀m,Nat.beq n m=true→n=m:=fun m h=>cD h
 cases h0:Nat.beq n 0 with
 |true=>rw[z 0 h0];rfl
 |false=>cases A:Nat.beq n 1 with
  |true=>rw[z 1 A];rfl
  |false=>cases h2:Nat.beq n 2 with
   |true=>rw[z 2 h2];rfl
   |false=>cases G:Nat.beq n 3 with
    |true=>rw[z 3 G];rfl
    |false=>cases I:Nat.beq n 4 with
     |true=>rw[z 4 I];rfl
     |false=>cases L:Nat.beq n 5 with
      |true=>rw[z 5 L];rfl
      |false=>rfl
def Gq{α β:Type}:List α→(List α→Option β)→Option β
 |[],k=>k []
 |v::r,k=>Gq r fun r=>k (v::r)
theorem Zl{α β:Type}:∀(l:List α)(k:List α→Option β),Gq l k=k l
 |[],_=>rfl
 |v::r,k=>by simp only[Gq];rw[Zl r]
def GR{β:Type}(v:VV)(k:VV→Option β):Option β:=match v with
 |.d x=>k (.d x)
 |.agg l=>Gq l fun l=>k (.agg l)
 |.tuple l=>Gq l fun l=>k (.tuple l)
 |.vp b o=>GQ o fun o=>k (.vp b o)
 |.bp b g q o es=>GQ o fun o=>k (.bp b g q o es)
 |.rp r o=>GQ o fun o=>k (.rp r o)
 |.bs b n es=>k (.bs b n es)
 |.ac b n es=>k (.ac b n es)
 |.fn f c=>k (.fn f c)
 |.k a=>k (.k a)
 |.iq=>k .iq
 |.undef=>k .undef
theorem Qg{β:Type}(v:VV)(k:VV→Option β):GR v k=k v:=by
 cases v<;>simp only[GR,forceN_eq,Zl]
def LW{β:Type}:List VV→(List VV→Option β)→Option β
 |[],k=>k []
 |v::r,k=>GR v fun v=>LW r fun r=>k (v::r)
theorem ZZ{β:Type}:∀(l:List VV)(k:List VV→Option β),LW l k=k l
 |[],_=>rfl
 |v::r,k=>by simp only[LW];rw[Qg,ZZ r]
def LX{β:Type}(s:BS)(k:BS→Option β):Option β:=match s with
 |.one e z row=>LW row fun row=>k (.one e z row)
 |.arr e b s lo rows=>k (.arr e b s lo rows)
 |.acc e b s rows=>k (.acc e b s rows)
 |.db f s=>k (.db f s)
theorem Z0{β:Type}(s:BS)(k:BS→Option β):LX s k=k s:=by
 cases s<;>simp only[LX,ZZ]
def Cu:List Nat→bq→bq→Option bq
 |[],_,acc=>some acc
 |k::ks,l,acc=>match aN l k with
  |some v=>GR v fun v=>Cu ks l ((k,v)::acc)
  |none=>none
def Cv:List Nat→aU→aU→Option aU
 |[],_,acc=>some acc
 |k::ks,l,acc=>match aN l k with
  |some v=>LX v fun v=>Cv ks l ((k,v)::acc)
  |none=>none
theorem aaJ:∀(ks:List Nat)(l acc:bq),Cu ks l acc=x7 ks l acc
 |[],_,_=>rfl
 |k::ks,l,acc=>by
  simp only[Cu,x7]
  cases aN l k with
  |none=>rfl
  |some v=>simp only[Qg,aaJ ks]
theorem aaK:∀(ks:List Nat)(l acc:aU),Cv ks l acc=x7 ks l acc
 |[],_,_=>rfl
 |k::ks,l,acc=>by
  simp only[Cv,x7]
  cases aN l k with
  |none=>rfl
  |some v=>simp only[Z0,aaK ks]
theorem Qh{α:Type}:∀{ks:List Nat}{l acc r:List (Nat×α)},x7 ks l acc=some r→an acc l→an r l
 |[],_,_,_,h,k=>by simp only[x7] at h;cases h;exact k
 |i::ks,l,acc,r,h,k=>by
  simp only[x7] at h
  split at h
  ·rename_i v e;exact Qh h ⟨e,k⟩
  cases h
variable{T:aO}{VE bH oD:bq}{B B' Bb:aU}{R:Ex→bq→aU→Prop}
theorem cK(ks bs:List Nat){c:IC}(z:Cu ks VE []=some bH)(h2:Cv bs B []=some B')(h:VC T c bH B' R):VC T c VE B R:=by
 rw[aaJ] at z;rw[aaK] at h2;exact aS bH B' (Qh z trivial) (Qh h2 trivial) h
theorem vc_loopK(ks bs:List Nat){c:IC}(A:Cu ks VE []=some oD)(h2:Cv bs B []=some Bb)(I:bq→aU→Nat→bq→aU→Prop)(z:∀k VE B,I oD Bb k VE B→VC T c VE B fun x bH B'=>match x with|.normal=>∃j,j<k∧I oD Bb j bH B'|x=>R x bH B'){k:Nat}(h0:I oD Bb k VE B):VC T (.loop c) VE B R:=Q0 (I oD Bb) z h0
inductive Fr where
 |c (c:IC)
 |b (id:Nat)
 |l (J:bq→aU→Prop)
def RK(T:aO)(R:Ex→bq→aU→Prop):List Fr→Ex→bq→aU→Prop
 |[]=>R
 |.c c::K=>fun x VE B=>match x with
  |.normal=>VC T c VE B (RK T R K)
  |x=>RK T R K x VE B
 |.b id::K=>fun x=>RK T R K (J1 id x)
 |.l J::K=>fun x VE B=>match x with
  |.normal=>J VE B
  |x=>RK T R K x VE B
inductive k' where
 |c (c:IC) (K:List Fr) (VE:bq) (B:aU)
 |o (l:List bl) (K:List Fr) (VE:bq) (B:aU)
 |q (l:List bl) (fl:List FL) (K:List Fr) (VE:bq) (B:aU)
 |x (x:Ex) (K:List Fr) (VE:bq) (B:aU)
@[reducible] def k'.P(T:aO)(R:Ex→bq→aU→Prop):k'→Prop
 |.c y K VE B=>VC T y VE B (RK T R K)
 |.o y K VE B=>VO T y VE B fun bH B'=>RK T R K .normal bH B'
 |.q y fl K VE B=>VQ T y VE B fl fun bH B'=>RK T R K .normal bH B'
 |.x y K VE B=>RK T R K y VE B
def vS:List Fr→Ex→bq→aU→k'
 |[],x,VE,B=>.x x [] VE B
 |.b id::K,x,VE,B=>vS K (J1 id x) VE B
 |.c c::K,x,VE,B=>match x with
  |.normal=>.c c K VE B
  |x=>vS K x VE B
 |.l J::K,x,VE,B=>match x with
  |.normal=>.x .normal (.l J::K) VE B
  |x=>vS K x VE B
theorem sP:∀{K:List Fr}{x:Ex}{VE:bq}{B:aU},(vS K x VE B).P T R→RK T R K x VE B
 |[],_,_,_,h=>h
 |.b id::K,x,VE,B,h=>sP (K:=K) (x:=J1 id x) h
 |.c c::K,x,VE,B,h=>by
  cases x with
  |normal=>exact h
  |ret=>exact sP (K:=K) (x:=.ret) h
  |exit i=>exact sP (K:=K) (x:=.exit i) h
 |.l J::K,x,VE,B,h=>by
  cases x with
  |normal=>exact h
  |ret=>exact sP (K:=K) (x:=.ret) h
  |exit i=>exact sP (K:=K) (x:=.exit i) h
def LY{β:Type}(B:aU)(k:aU→Option β):Option β:=match B with
 |[]=>k []
 |(b,s)::r=>LX s fun s=>k ((b,s)::r)
theorem forceH_eq{β:Type}(B:aU)(k:aU→Option β):LY B k=k B:=by
 cases B with
 |nil=>rfl
 |cons p r=>obtain⟨b,s⟩:=p;simp only[LY,Z0]
def Uj(op:bl)(VE:bq)(B:aU):Option (bq×aU):=match op with
 |⟨d,g,_,i⟩=>match g with
  |none=>match d with
   |some d=>match gT VE B d.n i with
    |some (v,B',_)=>GR v fun v=>LY B' fun B'=>some ((d.n,v)::VE,B')
    |none=>none
   |none=>match gT VE B 0 i with
    |some (_,B',_)=>LY B' fun B'=>some (VE,B')
    |none=>none
  |some (g,want)=>match d with
   |some d=>match aN VE g.n with
    |some (.d (.b t))=>match t with
     |true=>match want with
      |true=>match gT VE B d.n i with
       |some (v,B',_)=>some ((d.n,v)::VE,B')
       |none=>none
      |false=>some ((d.n,.k .undef)::VE,B)
     |false=>match want with
      |false=>match gT VE B d.n i with
       |some (v,B',_)=>some ((d.n,v)::VE,B')
       |none=>none
      |true=>some ((d.n,.k .undef)::VE,B)
    |_=>none
   |none=>none
def R7(d g:Key)(want:Bool)(q:Option (List Nat))(i:bm)(VE:bq)(B:aU)(fl:List FL):Option (bq×aU×List FL):=match aN VE g.n with
 |some (.d (.b t))=>match(match t with|true=>want|false=>!want) with
  |true=>match gT VE B d.n i with
   |some (v,B',W)=>match q with
    |none=>some ((d.n,v)::VE,B',fl)
    |some l=>gd (mg W l fl) (some ((d.n,v)::VE,B',tU W::fl))
   |none=>none
  |false=>match q with
   |none=>some ((d.n,.k .undef)::VE,B,fl)
   |some _=>some ((d.n,.k .undef)::VE,B,.rd []::fl)
 |_=>none
theorem abF{ops:List bl}{fl:List FL}{Q:bq→aU→Prop}(z:∀k v,aN bH k=some v→aN VE k=some v)(h:VQ T ops bH B fl Q):VQ T ops VE B fl Q:=fun H0 X0 E H β A bb G=>h H0 X0 E H β (A.less z) bb G
theorem dK{d:Option Key}{g:Key}{w t:Bool}{qq:Option (List Nat)}{op:bm}{p q:Prop}{ops:List bl}{fl:List FL}{Q:bq→aU→Prop}(z:aN VE g.n=some (.d (.b t)))(A:p→VQ T (⟨d,some (g,w),qq,op⟩::ops) ((g.n,.d (.b true))::VE) B fl Q)(h2:q→VQ T (⟨d,some (g,w),qq,op⟩::ops) ((g.n,.d (.b false))::VE) B fl Q)(G:(t=true)=p:=by first|(simp only[fy,im,hO,ov,fW];first|done|rfl)|rfl)(I:(t=false)=q:=by first|(simp only[fy,im,hO,ov,fW];first|done|rfl)|rfl):VQ T (⟨d,some (g,w),qq,op⟩::ops) VE B fl Q:=by
 cases t with
 |true=>exact abF (CX z) (A (Eq.mp G rfl))
 |false=>exact abF (CX z) (h2 (Eq.mp I rfl))
theorem exec1Q_ok{d g:Key}{want:Bool}{q:Option (List Nat)}{i:bm}{fl kP:List FL}{r:List bl}{Q:bq→aU→Prop}(h:R7 d g want q i VE B fl=some (bH,B',kP))(k:VQ T r bH B' kP Q):VQ T (⟨some d,some (g,want),q,i⟩::r) VE B fl Q:=by
 simp only[R7] at h
 split at h
 ·rename_i t z
  cases t<;>cases want<;>simp only[Bool.not_true,Bool.not_false] at h
  all_goals first
   |(split at h
     ·rename_i e
      cases q with
      |none=>cases h;exact cb z rfl (l8 e k)
      |some l=>
       simp only[gd] at h
       cases A:mg _ l fl with
       |true=>rw[A] at h;cases h;exact eD z rfl A (l8 e k)
       |false=>rw[A] at h;cases h
     cases h)
   |(cases q with
     |none=>cases h;exact nF z rfl k
     |some l=>cases h;exact FQ z rfl k)
 cases h
def H9:k'→Option k'
 |.c c K VE B=>match c with
  |.seq a b=>some (.c a (.c b::K) VE B)
  |.region d l=>match d with
   |true=>some (.q l [] K VE B)
   |false=>some (.o l K VE B)
  |.skip=>some (vS K .normal VE B)
  |.block id c=>some (.c c (.b id::K) VE B)
  |.exit id=>some (vS K (.exit id) VE B)
  |.ret=>some (vS K .ret VE B)
  |_=>none
 |.o l K VE B=>match l with
  |[]=>some (vS K .normal VE B)
  |op::r=>match Uj op VE B with
   |some (bH,B')=>some (.o r K bH B')
   |none=>none
 |.q l fl K VE B=>match l with
  |[]=>some (vS K .normal VE B)
  |⟨d,g,q,i⟩::r=>match g with
   |none=>match vw 1 (⟨d,none,q,i⟩::r) VE B fl with
    |some (bH,B',kP,r')=>some (.q r' kP K bH B')
    |none=>none
   |some (g,want)=>match d with
    |some d=>match R7 d g want q i VE B fl with
     |some (bH,B',kP)=>some (.q r kP K bH B')
     |none=>none
    |none=>none
 |.x _ _ _ _=>none
theorem exec1_ok{op:bl}{r:List bl}{Q:bq→aU→Prop}(h:Uj op VE B=some (bH,B'))(k:VO T r bH B' Q):VO T (op::r) VE B Q:=by
 obtain⟨d,g,q,i⟩:=op;simp only[Uj,Qg,forceH_eq] at h
 split at h
 ·split at h
  ·split at h
   ·rename_i e;cases h;exact aw (l8 e k)
   cases h
  split at h
  ·rename_i e;cases h;exact jv (l8 e k)
  cases h
 split at h
 ·split at h
  ·rename_i z
   split at h
   ·split at h
    ·split at h
     ·rename_i e;cases h;exact bw z rfl (l8 e k)
     cases h
    cases h;exact At z rfl k
   split at h
   ·split at h
    ·rename_i e;cases h;exact bw z rfl (l8 e k)
    cases h
   cases h;exact At z rfl k
  cases h
 cases h
theorem aaL{S S':k'}(h:H9 S=some S')(k:S'.P T R):S.P T R:=by
 cases S with
 |c c K VE B=>
  cases c with
  |seq a b=>
   cases h
   exact ko (R:=RK T R K) (VC.mono (show VC T a VE B (RK T R (.c b::K)) from k) fun x VE B I=>by cases x<;>exact I)
  |region d l=>
   cases d with
   |true=>cases h;exact Gk (R:=RK T R K) (show VQ T l VE B [] _ from k)
   |false=>cases h;exact wY (R:=RK T R K) (show VO T l VE B _ from k)
  |skip=>cases h;exact uL (R:=RK T R K) (sP k)
  |block id c=>cases h;exact Ak (R:=RK T R K) (show VC T c VE B (RK T R (.b id::K)) from k)
  |exit id=>cases h;exact Gl (R:=RK T R K) (sP k)
  |ret=>cases h;exact GN (R:=RK T R K) (sP k)
  |cond _ _ _=>cases h
  |loop _=>cases h
 |o l K VE B=>
  cases l with
  |nil=>cases h;exact Dq (Q:=fun VE B=>RK T R K .normal VE B) (sP k)
  |cons op r=>
   simp only[H9] at h
   split at h
   ·rename_i z G e;cases h;exact exec1_ok (Q:=fun VE B=>RK T R K .normal VE B) e (show VO T r z G _ from k)
   cases h
 |q l fl K VE B=>
  cases l with
  |nil=>cases h;exact R1 (Q:=fun VE B=>RK T R K .normal VE B) (sP k)
  |cons op r=>
   obtain⟨d,g,q,i⟩:=op;simp only[H9] at h
   cases g with
   |none=>
    simp only at h
    split at h
    ·rename_i z G A L e;cases h;exact tW (Q:=fun VE B=>RK T R K .normal VE B) 1 e (show VQ T L z G A _ from k)
    cases h
   |some p=>
    obtain⟨g,want⟩:=p
    cases d with
    |none=>cases h
    |some d=>
     simp only at h
     split at h
     ·rename_i z G A e;cases h;exact exec1Q_ok (Q:=fun VE B=>RK T R K .normal VE B) e (show VQ T r z G A _ from k)
     cases h
 |x x K VE B=>cases h
def kM:Nat→k'→Option k'
 |0,S=>some S
 |n+1,S=>match H9 S with
  |some S'=>kM n S'
  |none=>none
theorem pU:∀{n:Nat}{S S':k'},kM n S=some S'→S'.P T R→S.P T R
 |0,S,S',h,k=>by cases h;exact k
 |n+1,S,S',h,k=>by
  simp only[kM] at h
  split at h
  ·rename_i z e;exact aaL e (pU h k)
  cases h
section
variable(n:Nat){c:IC}{K:List Fr}{l:List bl}{fl:List FL}{S S':k'}
theorem r0(h:kM n (.c c [] VE B)=some S')(k:S'.P T R):VC T c VE B R:=pU (S:=.c c [] VE B) h k
theorem rc(h:kM n (.c c K VE B)=some S')(k:S'.P T R):VC T c VE B (RK T R K):=pU (S:=.c c K VE B) h k
theorem ro(h:kM n (.o l K VE B)=some S')(k:S'.P T R):VO T l VE B fun VE B=>RK T R K .normal VE B:=pU (S:=.o l K VE B) h k
theorem rq(h:kM n (.q l fl K VE B)=some S')(k:S'.P T R):VQ T l VE B fl fun VE B=>RK T R K .normal VE B:=pU (S:=.q l fl K VE B) h k
theorem rp(h:kM n S=some S')(k:S'.P T R):S.P T R:=pU h k
variable{x:Ex}{J:bq→aU→Prop}{K':List Fr}
theorem r0x(h:kM n (.c c [] VE B)=some (.x x [] bH B'))(k:R x bH B'):VC T c VE B R:=pU (S:=.c c [] VE B) h k
theorem dH(h:kM n (.c c K VE B)=some (.x x [] bH B'))(k:R x bH B'):VC T c VE B (RK T R K):=pU (S:=.c c K VE B) h k
theorem dR(h:kM n (.o l K VE B)=some (.x x [] bH B'))(k:R x bH B'):VO T l VE B fun VE B=>RK T R K .normal VE B:=pU (S:=.o l K VE B) h k
theorem rpx(h:kM n S=some (.x x [] bH B'))(k:R x bH B'):S.P T R:=pU h k
theorem rcl(h:kM n (.c c K VE B)=some (.x .normal (.l J::K') bH B'))(k:J bH B'):VC T c VE B (RK T R K):=pU (S:=.c c K VE B) h k
theorem cA(h:kM n (.o l K VE B)=some (.x .normal (.l J::K') bH B'))(k:J bH B'):VO T l VE B fun VE B=>RK T R K .normal VE B:=pU (S:=.o l K VE B) h k
theorem vc_loopR(I:Nat→bq→aU→Prop)(z:∀k VE B,I k VE B→VC T c VE B (RK T R (.l (fun VE B=>∃j,j<k∧I j VE B)::K))){k:Nat}(h0:I k VE B):VC T (.loop c) VE B (RK T R K):=Q0 I (fun k VE B h=>(z k VE B h).mono fun x bH B' A=>by cases x<;>exact A) h0
theorem bd(ks bs:List Nat)(A:Cu ks VE []=some oD)(h2:Cv bs B []=some Bb)(I:bq→aU→Nat→bq→aU→Prop)(z:∀k VE B,I oD Bb k VE B→VC T c VE B (RK T R (.l (fun VE B=>∃j,j<k∧I oD Bb j VE B)::K))){k:Nat}(h0:I oD Bb k VE B):VC T (.loop c) VE B (RK T R K):=vc_loopR (I oD Bb) z h0
theorem vc_joinR{a b:IC}(J:bq→aU→Prop)(A:VC T a VE B (RK T R (.l J::K)))(h2:∀bH B',J bH B'→VC T b bH B' (RK T R K)):VC T (.seq a b) VE B (RK T R K):=ko (A.mono fun x VE B z=>by cases x<;>first|exact h2 _ _ z|exact z)
theorem dE(ks bs:List Nat){a b:IC}(G:Cu ks VE []=some oD)(h2:Cv bs B []=some Bb)(J:bq→aU→bq→aU→Prop)(z:VC T a VE B (RK T R (.l (J oD Bb)::K)))(A:∀bH B',J oD Bb bH B'→VC T b bH B' (RK T R K)):VC T (.seq a b) VE B (RK T R K):=vc_joinR (J oD Bb) z A
end
@[reducible] def dT(k:Nat)(lo v n:Int):Prop:=k=(n-v).toNat∧(lo≤v∧(v≤n∨v=lo))
variable{T:aO}{VE bH:bq}{B B':aU}{R:Ex→bq→aU→Prop}
def plainS:k'→Bool
 |.o (op::_) _ _ _=>Li op
 |.q (op::_) _ _ _ _=>Li op
 |_=>true
def BU:Nat→k'→Option k'
 |0,S=>some S
 |n+1,S=>match plainS S with
  |true=>match H9 S with
   |some S'=>BU n S'
   |none=>none
  |false=>none
theorem Gr:∀{n:Nat}{S S':k'},BU n S=some S'→S'.P T R→S.P T R
 |0,S,S',h,k=>by cases h;exact k
 |n+1,S,S',h,k=>by
  simp only[BU] at h
  split at h
  ·split at h
   ·rename_i z e;exact aaL e (Gr h k)
   cases h
  cases h
section
variable(n:Nat){c:IC}{K:List Fr}{l:List bl}{fl:List FL}{S S':k'}{x:Ex}{J:bq→aU→Prop}{K':List Fr}
theorem wc(h:BU n (.c c K VE B)=some S')(k:S'.P T R):VC T c VE B (RK T R K):=Gr (S:=.c c K VE B) h k
theorem wo(h:BU n (.o l K VE B)=some S')(k:S'.P T R):VO T l VE B fun VE B=>RK T R K .normal VE B:=Gr (S:=.o l K VE B) h k
theorem wq(h:BU n (.q l fl K VE B)=some S')(k:S'.P T R):VQ T l VE B fl fun VE B=>RK T R K .normal VE B:=Gr (S:=.q l fl K VE B) h k
theorem wp(h:BU n S=some S')(k:S'.P T R):S.P T R:=Gr h k
theorem wpx(k:R x VE B):(k'.x x [] VE B).P T R:=k
theorem wpl(k:J VE B):(k'.x .normal (.l J::K) VE B).P T R:=k
end
variable{T:aO}{VE bH:bq}{B B':aU}{R:Ex→bq→aU→Prop}
def af3(VE:bq)(l:List aI):Option (List VV):=match s9 VE l with
 |some a=>bif yY a then some a else none
 |none=>none
theorem aA{Q:VV→aU→Prop}{f:Nat}{l:List aI}{args:List VV}{P:VV→Prop}(h0:af3 VE l=some args)(h:Sound T f args P)(A:∀r,r.nb→P r→Q r B):VI T (.call f l) VE B [] Q:=by
 unfold af3 at h0
 split at h0
 ·rename_i a e
  cases z:yY a with
  |false=>rw[z] at h0;cases h0
  |true=>rw[z] at h0;cases h0;exact Q2 e (AK z) h A
 cases h0
section
variable(n:Nat){c:IC}{K K':List Fr}{l r:List bl}{fl kP:List FL}{S:k'}{d:Key}{qq:Option (List Nat)}{op:bm}{W:List Nat}
theorem cf(h:kM n (.c c [] VE B)=some (.o (⟨some d,none,qq,op⟩::r) K' bH B'))(k:VI T op bH B' W fun v z=>VO T r ((d.n,v)::bH) z fun VE B=>RK T R K' .normal VE B):VC T c VE B R:=r0 n h (aw k)
theorem aB(h:kM n (.c c K VE B)=some (.o (⟨some d,none,qq,op⟩::r) K' bH B'))(k:VI T op bH B' W fun v z=>VO T r ((d.n,v)::bH) z fun VE B=>RK T R K' .normal VE B):VC T c VE B (RK T R K):=rc n h (aw k)
theorem aJ(h:kM n (.o l K VE B)=some (.o (⟨some d,none,qq,op⟩::r) K' bH B'))(k:VI T op bH B' W fun v z=>VO T r ((d.n,v)::bH) z fun VE B=>RK T R K' .normal VE B):VO T l VE B fun VE B=>RK T R K .normal VE B:=ro n h (aw k)
theorem iw(h:kM n S=some (.o (⟨some d,none,qq,op⟩::r) K' bH B'))(k:VI T op bH B' W fun v z=>VO T r ((d.n,v)::bH) z fun VE B=>RK T R K' .normal VE B):S.P T R:=rp n h (aw k)
theorem c7(h:kM n (.q l fl K VE B)=some (.q (⟨some d,none,none,op⟩::r) kP K' bH B'))(k:VI T op bH B' W fun v z=>VQ T r ((d.n,v)::bH) z kP fun VE B=>RK T R K' .normal VE B):VQ T l VE B fl fun VE B=>RK T R K .normal VE B:=rq n h (aT k)
end
end Go.Ev
namespace Go.Ev.Rp
theorem fin{p:Prop}(h:p:=by(repeat' (first|rfl|assumption|exact ae|exact trivial|exact dP ae ae|exact eb|exact gv|exact bP|exact EE|exact bC (s:=[]) (gX _)|exact ca|exact bf|apply ah|apply df|apply c9|apply cJ|exact .inl rfl|exact .inr ⟨rfl,rfl⟩|exact .acc _|apply aL|apply bC|apply And.intro|exact fun _=>rfl|(intro h;rw[h];rfl)|(intro h;simp at h;done)|(intro h;(try simp only[fy,hO,im,cU,m8] at h);first|omega|(simp_all;done)|(simp_all;omega))|apply Exists.intro));all_goals(first|rfl|exact ae|assumption)):p:=h
theorem EH{a b:Prop}(h:b)(k:a):a∧b:=⟨k,h⟩
theorem I6{rs:List jT}{VE:bq}{B:aU}{P:VV→aU→Prop}{vs:List VV}{z:aU}(A:vu VE B rs=some vs:=by rfl)(G:P (rO vs) z:=by(repeat' (first|rfl|assumption|exact ae|exact trivial|exact dP ae ae|exact eb|exact gv|exact bP|exact EE|exact bC (s:=[]) (gX _)|exact ca|exact bf|apply ah|apply df|apply c9|apply cJ|exact .inl rfl|exact .inr ⟨rfl,rfl⟩|exact .acc _|apply aL|apply bC|apply And.intro|exact fun _=>rfl|(intro h;rw[h];rfl)|(intro h;simp at h;done)|(intro h;(try simp only[fy,hO,im,cU,m8] at h);first|omega|(simp_all;done)|(simp_all;omega))|apply Exists.intro));all_goals(first|rfl|exact ae|assumption))(h2:an z B:=by(repeat' (first|rfl|assumption|exact ae|exact trivial|exact dP ae ae|exact eb|exact gv|exact bP|exact EE|exact bC (s:=[]) (gX _)|exact ca|exact bf|apply ah|apply df|apply c9|apply cJ|exact .inl rfl|exact .inr ⟨rfl,rfl⟩|exact .acc _|apply aL|apply bC|apply And.intro|exact fun _=>rfl|(intro h;rw[h];rfl)|(intro h;simp at h;done)|(intro h;(try simp only[fy,hO,im,cU,m8] at h);first|omega|(simp_all;done)|(simp_all;omega))|apply Exists.intro));all_goals(first|rfl|exact ae|assumption)):aiF rs P .ret VE B:=⟨vs,z,A,h2,G⟩
def J5:List Ty→(List DC→Prop)→Prop
 |[],P=>P []
 |t::z,P=>∃d,t.ok d∧J5 z fun r=>P (d::r)
theorem LZ:∀{row:List Ty}{P:List DC→Prop}{r:List DC},fK row r→P r→J5 row P
 |[],P,r,h,k=>by obtain rfl:=oT h;exact k
 |t::A,P,r,h,k=>by obtain⟨d,r,rfl,z,h2⟩:=eP h;exact⟨d,z,LZ h2 k⟩
theorem qI{row:List Ty}{rows:aj}(z:Int)(h:af row rows)(A:z.toNat<rows.length:=by exact ae):J5 row fun r=>rows[z.toNat]?=some r:=LZ (mb h (dm A)) (dm A)
theorem qN{row:List Ty}{rows:aj}{j n:Nat}(k:j<n)(h:af row rows)(z:j<n→j<rows.length:=by intro k;simpa using k):J5 row fun r=>rows[j]?=some r:=LZ (mb h (dm (z k))) (dm (z k))
theorem qO{row:List Ty}{l:List DC}(h:fK row l):J5 row fun r=>l=r:=LZ h rfl
attribute [local irreducible] VC VO VQ VI Sound cF
theorem W{p:Prop}(h:p:=by repeat' (first|refine wp 6 rfl ?_|refine wp 2 rfl ?_|refine wp 1 rfl ?_|(refine wpx ?_;first|exact bD rfl rfl fin|exact I6|exact fin)|(refine wpl ?_;first|exact⟨_,EH fin ae⟩|exact fin)|refine wo 1 rfl ?_|refine wc 1 rfl ?_|refine wq 1 rfl ?_|refine Dq ?_|refine Uh 8 rfl rfl ?_|refine Uh 3 rfl rfl ?_|refine Uh 1 rfl rfl ?_|refine iU ?_|refine R1 ?_|refine Ui 8 rfl rfl ?_|refine Ui 3 rfl rfl ?_|refine Ui 1 rfl rfl ?_|refine afU ?_|refine Gk ?_|(refine GN ?_;exact bD rfl rfl fin)|(refine GN ?_;exact I6)|refine eM rfl (by first|with_reducible rfl|assumption) ?_|refine dc rfl (by first|with_reducible rfl|assumption) ?_|(refine ax rfl (fun h=>?_) (fun h=>?_)<;>(try(have h:(_:Bool)=_:=h;subst h)))|refine uL ?_|refine Gl ?_|refine Ak ?_|refine wY ?_|refine ko ?_|refine jb rfl ?_|refine bw rfl (by first|with_reducible rfl|assumption) (l8 (d:=0) rfl ?_)|refine bw (W:=[]) rfl (by first|with_reducible rfl|assumption) ?_|refine At rfl (by first|with_reducible exact Bool.not_true.symm|with_reducible exact Bool.not_false.symm|assumption) ?_|(refine bk rfl (fun h=>?_) (fun h=>?_)<;>(try(have h:(_:Bool)=_:=h;subst h)))|refine aw (W:=[]) ?_|refine FO rfl (by assumption) rfl ?_|refine CR rfl (by assumption) rfl ?_|refine l8 (d:=0) rfl ?_|refine bB rfl rfl ae ae ?_|refine dO rfl rfl ae ae ?_|refine aM rfl (by first|assumption|exact .inl rfl) ?_|(refine vi_idxW rfl rfl (by first|assumption|exact .inl rfl) (by assumption) rfl ae ae ?_;repeat intro _)|(refine bI (j:=0) rfl rfl (aV rfl) ?_)|refine c6 rfl rfl rfl ae ae ?_|refine Ar rfl rfl ?_|refine Ar (b:=[]) rfl rfl ?_|refine nE rfl rfl ?_|refine nE (b:=[]) rfl rfl ?_|refine xl rfl rfl rfl rfl ae ae ae au ?_|refine fR rfl au ae ae ?_|refine Lf rfl rfl au (fun _=>?_)|refine uM rfl rfl (fun _ _=>?_)|refine sO rfl rfl (fun _ _=>?_)|refine C6 rfl rfl (fun _ _=>?_)|refine Qt rfl rfl ?_|refine P' rfl rfl ?_|(exfalso;first|omega|((try simp only[fy,im,hO,ov] at*);first|omega|(simp_all;done)))|exact⟨_,EH fin ae⟩|exact fin|refine aT (W:=[]) ?_|(rename (Ty.ok Ty.b _)=>z;obtain⟨_,e⟩:=Ty.eb z;subst e;clear z)|(rename (Ty.ok (Ty.i _ _ _) _)=>z;obtain⟨_,e,_,_⟩:=Ty.dP z;first|(subst e;clear z)|clear z)|(rename (Ty.ok (Ty.s _) _)=>z;obtain⟨_,e,_⟩:=Ty.bC z;first|(subst e;clear z)|clear z)|(rename (Ty.ok (Ty.l _ _) _)=>z;obtain⟨_,_,_,_⟩:=Ty.aL z;clear z))):p:=h
end Go.Ev.Rp
namespace Go.Ev.Rp
open Go Go.Ev.Pp
attribute [local irreducible] VC VO VQ VI Sound cF
def eF(a b c d:Int):Prop:=0≤a∧a<b∧b≤1099511627776∧0≤c∧c<d∧d≤1099511627776∧a<d∧c<b
def vT(w:aj)(f t:Int):Prop:=∃(q:Nat)(row:List DC)(a b:Int),w[q]?=some row∧row[1]?=some (dJ a)∧row[2]?=some (dJ b)∧eF f t a b
def nu(k:Int)(w:aj)(f t:Int):Prop:=∀(q:Nat)(row:List DC)(a b:Int),(q:Int)<k→w[q]?=some row→row[1]?=some (dJ a)→row[2]?=some (dJ b)→¬eF f t a b
theorem vT.mk{w:aj}{q:Nat}{row:List DC}{a b f t:Int}(z:w[q]?=some row)(h2:row[1]?=some (dJ a))(A:row[2]?=some (dJ b))(G:eF f t a b):vT w f t:=⟨q,row,a,b,z,h2,A,G⟩
theorem af4{w:aj}{f t:Int}:nu 0 w f t:=fun q _ _ _ h=>by omega
theorem nu.step{k:Int}{w:aj}{row:List DC}{a b f t:Int}(h:nu k w f t)(h0:0≤k)(I:w[k.toNat]?=some row)(L:row[1]?=some (dJ a))(h2:row[2]?=some (dJ b))(M:¬eF f t a b):nu (k+1) w f t:=fun q r c d U z A G=>by
 by_cases O:(q:Int)<k
 ·exact h q r c d O z A G
 have:q=k.toNat:=by omega
 subst this;rw[I] at z;cases z;rw[L] at A;cases A;rw[h2] at G;cases G;exact M
theorem nu.all{k:Int}{w:aj}{f t:Int}(h:nu k w f t)(L:(w.length:Int)≤k):¬vT w f t:=fun⟨q,row,a,b,z,A,G,I⟩=>h q row a b (by have:=(List.getElem?_eq_some_iff.1 z).1;omega) z A G I
def af5(z:Int)(w:aj)(f t:Int):Prop:=(z<t∧0≤f∧f<t∧t≤1099511627776)∨vT w f t
theorem R8{T:aO}(F:FT T){aK:Int}(A: -9223372036854775808≤aK)(G:aK≤9223372036854775807){aH:Int}(I: -9223372036854775808≤aH)(L:aH≤9223372036854775807):Sound T 39 [.agg [.d (dJ aK),.d (dJ aH)]] fun r=>∃z,r=dB z∧(z=true↔(0≤aK∧aK<aH∧aH≤1099511627776)):=by
 refine bg F.XD aa (r0 11 aa ?_);refine bk aa ?_ ?_<;>intro M
 ·refine ro 7 aa ?_;refine bk aa ?_ ?_<;>intro O
  ·exact dR 7 aa (bD aa aa ⟨decide (aH≤1099511627776),aa,EF⟩)
  exact dR 7 aa (bD aa aa ⟨false,aa,EF⟩)
 exact dR 14 aa (bD aa aa ⟨false,aa,EF⟩)
theorem adI{T:aO}(F:FT T){aK:Int}(Z: -9223372036854775808≤aK)(kR:aK≤9223372036854775807){aH:Int}(jE: -9223372036854775808≤aH)(jF:aH≤9223372036854775807){bA:Int}(pF: -9223372036854775808≤bA)(nw:bA≤9223372036854775807){bn:Int}(jG: -9223372036854775808≤bn)(jH:bn≤9223372036854775807):Sound T 119 [.agg [.d (dJ aK),.d (dJ aH)],.agg [.d (dJ bA),.d (dJ bn)]] fun r=>∃G I L,r= .tuple [.agg [.d G,.d I],dB L]∧tJ.ok G∧tJ.ok I∧(L=true↔eF aK aH bA bn):=by
 refine bg F.aiJ aa (cf 13 aa (sO aa aa (fun z1 J3=>?_)));refine aJ 4 aa (C6 aa aa (fun z2 pE=>?_));refine aJ 8 aa (aA aa (R8 (aK:=aK) (aH:=aH) F ae ae ae ae) ?_);rintro _ _⟨M,rfl,z⟩;refine ro 2 aa ?_;refine bk aa ?_ ?_<;>intro O
 ·have k4:¬_:=fun p=>absurd (z.2 p) (by simpa using O)
  refine ro 12 aa (eM aa aa (dH 7 aa ?_));exact bD rfl rfl ⟨i0,i0,false,rfl,ai,ai,(by first|(simp only[fy,gK,false_iff,true_iff,eF] at*;omega)|(simp[eF] at*;omega))⟩
 have k4:=z.1 (by simpa using O);refine ro 1 aa (bw aa aa (aA aa (R8 (aK:=bA) (aH:=bn) F ae ae ae ae) ?_));rintro _ _⟨U,rfl,A⟩;refine ro 3 aa ?_;refine bk aa ?_ ?_<;>intro Y
 ·have k6:¬_:=fun p=>absurd (A.2 p) (by simpa using Y)
  refine ro 7 aa (eM aa aa (dH 7 aa ?_));exact bD rfl rfl ⟨i0,i0,false,rfl,ai,ai,(by first|(simp only[fy,gK,false_iff,true_iff,eF] at*;omega)|(simp[eF] at*;omega))⟩
 have k6:=A.1 (by simpa using Y);refine ro 7 aa ?_;refine ax aa ?_ ?_<;>intro g7
 ·refine dH 7 aa ?_;exact bD rfl rfl ⟨i0,i0,false,rfl,ai,ai,(by first|(simp only[fy,gK,false_iff,true_iff,eF] at*;omega)|(simp[eF] at*;omega))⟩
 refine dH 8 aa ?_;exact bD rfl rfl ⟨(dJ z1),(dJ z2),true,rfl,ai,ai,(by first|(simp only[fy,gK,false_iff,true_iff,eF] at*;omega)|(simp[eF] at*;omega))⟩
theorem T8{T:aO}(F:FT T){a0 a1 a2 a4 a5 a6 a7 a8 a9:DC}(cC:tJ.ok a0)(bX:tJ.ok a1)(cN:(Ty.x).ok a2){bn:Int}(jG: -9223372036854775808≤bn)(jH:bn≤9223372036854775807){G:aj}(I:ao G a4)(fJ:G.length≤20)(U:af tHoldR G)(cB:(Ty.x).ok a5)(fE:tJ.ok a6)(fX:(Ty.l 1000000000 cn).ok a7)(gq:tJ.ok a8)(jr:tJ.ok a9){A:Int}(la10: -9223372036854775808≤A)(ua10:A≤9223372036854775807){ik:Int}(ai2: -9223372036854775808≤ik)(ai3:ik≤9223372036854775807):Sound T 223 [.agg [.d a0,.d a1,.d a2,.d (dJ bn),.d a4,.d a5],.agg [.d a6,.d a7,.d a8,.d a9,.d (dJ A),.d (dJ ik)]] fun r=>∃y0,r=dB y0∧(y0=true↔af5 bn G A ik):=by
 refine bg F.aiS aa ?_;rcases cC,bX,fE,fX,gq,jr with⟨⟨aK,rfl,gZ,hD⟩,⟨aH,rfl,ey,dW⟩,⟨bx,rfl,oe,og⟩,⟨wK,EI,Oe,EJ⟩,⟨hY,rfl,zb,zc⟩,⟨fP,rfl,EK,EL⟩⟩
 refine r0 16 aa ?_;refine bk aa ?_ ?_<;>intro g1
 ·refine ro 2 aa (bw aa aa (aA aa (R8 (aK:=A) (aH:=ik) F ae ae ae ae) ?_));rintro _ _⟨jV,rfl,M⟩;refine ro 2 aa ?_;refine cO aa ?_ ?_<;>intro h3
  ·have k3:=M.1 (by simpa using h3);refine dH 5 aa ?_;exact bD rfl rfl ⟨true,rfl,(by first|exact iff_of_true rfl (.inl aq)|exact iff_of_true rfl (.inr (vT.mk (by assumption) rfl rfl (by assumption)))|exact iff_of_false au (fun h=>h.elim (fun k=>by omega) (nu.all (by assumption) ae)))⟩
  have k3:¬_:=fun p=>absurd (M.2 p) (by simpa using h3)
  refine rc 7 aa (bd [18,4,3,2,1,0] [3,2] aa aa (fun e0 b0 k VE B=>∃z,an ((5,.d (dJ z))::e0) VE∧an b0 B∧k=((G.length:Int) -z).toNat∧(0≤z∧(z≤(G.length:Int)∨z=0))∧(nu z G A ik)) ?_ fin);rintro _ VE B⟨z,hV,hB,rfl,bR,cM⟩;refine aS _ _ hV hB (aB 6 aa (aM aa I ?_));refine ro 2 aa ?_;refine ax aa ?_ ?_<;>intro g4
  ·refine rc 10 aa ?_;obtain⟨BV,x8,_,⟨Y,rfl,Dv,Dw⟩,_,⟨Z,rfl,adJ,adK⟩,eQ⟩:=qI z U;refine aT (aF aa aa I ae eQ aa ?_);refine rq 1 aa (cr aa aa (gr aa (aV aa) (aV aa) ?_));refine aP aa (aA aa (adI (aK:=A) (aH:=ik) (bA:=Y) (bn:=Z) F ae ae ae ae ae ae ae ae) ?_);rintro _ _⟨jW,vU,qD,rfl,qd,rD,O⟩;refine rq 11 aa ?_;refine cO aa ?_ ?_<;>intro h7
   ·have k7:=O.1 (by simpa using h7);refine dH 5 aa ?_;exact bD rfl rfl ⟨true,rfl,(by first|exact iff_of_true rfl (.inl aq)|exact iff_of_true rfl (.inr (vT.mk (by assumption) rfl rfl (by assumption)))|exact iff_of_false au (fun h=>h.elim (fun k=>by omega) (nu.all (by assumption) ae)))⟩
   have k7:¬_:=fun p=>absurd (O.2 p) (by simpa using h7)
   refine aB 3 aa (bB aa aa ae ae ?_);refine cA 2 aa ?_;exact⟨((G.length:Int) -((z+1))).toNat,ae,(z+1),⟨rfl,rfl,rfl,rfl,rfl,rfl,rfl,trivial⟩,⟨rfl,rfl,trivial⟩,rfl,ae,(by first|assumption|exact af4|exact nu.step (by assumption) ae (by assumption) rfl rfl (by assumption))⟩
  refine dH 6 aa ?_;exact bD rfl rfl ⟨false,rfl,(by first|exact iff_of_true rfl (.inl aq)|exact iff_of_true rfl (.inr (vT.mk (by assumption) rfl rfl (by assumption)))|exact iff_of_false au (fun h=>h.elim (fun k=>by omega) (nu.all (by assumption) ae)))⟩
 refine ro 5 aa (dc aa aa (rc 7 aa (bd [18,4,3,2,1,0] [3,2] aa aa (fun e0 b0 k VE B=>∃z,an ((5,.d (dJ z))::e0) VE∧an b0 B∧k=((G.length:Int) -z).toNat∧(0≤z∧(z≤(G.length:Int)∨z=0))∧(nu z G A ik)) ?_ fin)));rintro _ VE B⟨z,hV,hB,rfl,bR,cM⟩;refine aS _ _ hV hB (aB 6 aa (aM aa I ?_));refine ro 2 aa ?_;refine ax aa ?_ ?_<;>intro g8
 ·refine rc 10 aa ?_;obtain⟨pj,lB,_,⟨MW,rfl,adL,adM⟩,_,⟨nU,rfl,L0,L1⟩,eW⟩:=qI z U;refine aT (aF aa aa I ae eW aa ?_);refine rq 1 aa (cr aa aa (gr aa (aV aa) (aV aa) ?_));refine aP aa (aA aa (adI (aK:=A) (aH:=ik) (bA:=MW) (bn:=nU) F ae ae ae ae ae ae ae ae) ?_);rintro _ _⟨iF,Bm,Ia,rfl,AM,R9,L⟩;refine rq 11 aa ?_;refine cO aa ?_ ?_<;>intro sk
  ·have k11:=L.1 (by simpa using sk);refine dH 5 aa ?_;exact bD rfl rfl ⟨true,rfl,(by first|exact iff_of_true rfl (.inl aq)|exact iff_of_true rfl (.inr (vT.mk (by assumption) rfl rfl (by assumption)))|exact iff_of_false au (fun h=>h.elim (fun k=>by omega) (nu.all (by assumption) ae)))⟩
  have k11:¬_:=fun p=>absurd (L.2 p) (by simpa using sk)
  refine aB 3 aa (bB aa aa ae ae ?_);refine cA 2 aa ?_;exact⟨((G.length:Int) -((z+1))).toNat,ae,(z+1),⟨rfl,rfl,rfl,rfl,rfl,rfl,rfl,trivial⟩,⟨rfl,rfl,trivial⟩,rfl,ae,(by first|assumption|exact af4|exact nu.step (by assumption) ae (by assumption) rfl rfl (by assumption))⟩
 refine dH 6 aa ?_;exact bD rfl rfl ⟨false,rfl,(by first|exact iff_of_true rfl (.inl aq)|exact iff_of_true rfl (.inr (vT.mk (by assumption) rfl rfl (by assumption)))|exact iff_of_false au (fun h=>h.elim (fun k=>by omega) (nu.all (by assumption) ae)))⟩
end Go.Ev.Rp
