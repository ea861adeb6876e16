/- Part 21 of rules for walks through the code of a program, and of such walks; what each part proves is said by its theorems. -/
import Derived.Test.YtdaamclhcpjdpaaGreatDoorT19
import Derived.Test.YtdaamclhcpjdpaaGreatDoorT20
set_option linter.unusedVariables false
set_option linter.unusedSimpArgs false
noncomputable section
set_option maxRecDepth 100000
set_option maxHeartbeats 4000000
namespace Go.Ev
open Go
abbrev O9:=List (Nat×BS)
def EG(fs:O9)(f:Nat):Prop:=∃s,(f,s)∈fs
def XF(X0:Nat→Prop)(fs:O9)(f:Nat):Prop:=X0 f∨EG fs f
def BS.hU:BS→Prop
 |.one _ _ row=>mH row
 |.arr _ _ _ _ _=>True
 |.acc _ _ _ _=>True
 |.db _ _=>False
theorem dq.datβ{H:ay}{X:Nat→Prop}{β β':Nat→Nat}{f:Nat}:∀{s:BS},s.hU→dq H X β f s→dq H X β' f s
 |.one _ _ _,z,⟨l,lo,cs,A,G,I,L⟩=>⟨l,lo,cs,A,G,I,aY.nb z L⟩
 |.arr _ _ _ _ _,_,h=>h
 |.acc _ _ _ _,_,h=>h
structure qR(H0:Nat→Nat)(X0 P:Nat→Prop)(Hs:ay)(VE:bq)(B:aU)(fs:O9)(E:Env)(H:ay)(β:Nat→Nat):Prop where
 aQ:H.aQ=Hs.aQ
 next:Hs.next≤H.next
 mn:Hs.aQ≤Hs.next
 ws:∀f,f∈H.ws→f∈Hs.ws∨(f<Hs.aQ∧P f)
 ns:∀f,f<Hs.next→¬P f→H.t.get f=Hs.t.get f
 rel:Rel H0 (XF X0 fs) VE B E H β
 out:∀f,EG fs f→¬X0 f
 nodup:(fs.map (·.1)).Nodup
 own:∀f s,(f,s)∈fs→s.hU∧s.born∧dq H (XB (XF X0 fs) B β) (fun _=>0) f s
 new:∀f,(EG fs f∨∃b s,aN B b=some s∧s.born∧β b=f)→P f∨Hs.next≤f
section
variable{T:aO}{H0:Nat→Nat}{X0 P:Nat→Prop}{Hs:ay}{VE:bq}{B:aU}{fs:O9}{E:Env}{H:ay}{β:Nat→Nat}
theorem qR.went(z:qR H0 X0 P Hs VE B fs E H β){W:Nat→Prop}{bH:bq}{B':aU}{E':Env}{H':ay}{β':Nat→Nat}(G:gA B β H W B' β' H')(hr:Rel H0 (XF X0 fs) bH B' E' H' β'):qR H0 X0 P Hs bH B' fs E' H' β':=by
 have Z:∀f,f<Hs.next→¬P f→∀b s,aN B b=some s→s.born→β b≠f:=fun f A Y b s L h2 I=>(z.new f (.inr ⟨b,s,L,h2,I⟩)).elim Y fun k=>by omega
 have hmm:=z.aQ;have hmn:=z.mn;have hnx:=z.next;refine⟨G.aQ.trans z.aQ,eZ z.next G.next,z.mn,fun f A=>?_,fun f A Y=>?_,hr,z.out,z.nodup,fun f s A=>?_,fun f A=>?_⟩
 ·rcases G.ws f A with h|⟨L,b,s,_,h2,I,h4⟩
  ·exact z.ws f h
  rcases z.new f (.inr ⟨b,s,h2,I,h4⟩) with k|k
  ·exact .inr ⟨aq,k⟩
  omega
 ·rw[G.ns f aq (Z f A Y),z.ns f A Y]
 ·obtain⟨L,h2,I⟩:=z.own f s A;have hx:XF X0 fs f:=.inr ⟨s,A⟩;have JX:=z.rel.x0 f hx;have hb:∀b t,aN B b=some t→t.born→β b≠f:=fun b t M O U=>(z.rel.new b t M O).1 (U▸hx)
  have hl:fc H (XB (XF X0 fs) B β) H' (XB (XF X0 fs) B' β'):=⟨G.next,fun g hg hn=>⟨fun k=>by
   rcases k with k|⟨b,t,M,O,U⟩
   ·exact hn (.inl k)
   rcases G.since b t M O with⟨u,m1,m2,m3⟩|m
   ·exact hn (.inr ⟨b,u,m1,m2,by rw[←m3];exact U⟩)
   omega,G.ns g hg fun b t M O U=>hn (.inr ⟨b,t,M,O,U⟩)⟩⟩
  exact⟨L,h2,I.lift hl (G.ns f JX hb)⟩
 rcases A with A|⟨b,s,L,h2,I⟩
 ·exact z.new f (.inl A)
 rcases G.since b s L h2 with⟨t,m1,m2,m3⟩|m
 ·exact z.new f (.inr ⟨b,t,m1,m2,by rw[←m3];exact I⟩)
 exact .inr aq
theorem qR.of(z:qR H0 X0 P Hs VE B fs E H β){bH:bq}{E':Env}(A:Rel H0 (XF X0 fs) bH B E' H β):qR H0 X0 P Hs bH B fs E' H β:={z with rel:=A}
theorem XB_eq{X0 z:Nat→Prop}{B B':aU}{β β':Nat→Nat}(h:∀f,XB X0 B β f↔XB z B' β' f):XB X0 B β=XB z B' β':=funext fun f=>propext (h f)
theorem FU{f g:Nat}{s:BS}:EG ((g,s)::fs) f↔EG fs f∨f=g:=by
 constructor
 ·rintro⟨t,h⟩;rcases List.mem_cons.1 h with h|h
  ·cases h;exact .inr rfl
  exact .inl ⟨t,h⟩
 rintro(⟨t,h⟩|rfl)
 ·exact⟨t,mu _ h⟩
 exact⟨s,iI ..⟩
theorem qR.take{f:Nat}{s:BS}(A:qR H0 X0 P Hs VE B ((f,s)::fs) E H β)(b:Nat)(hE:nr b VE=true)(hB:lW b B=true):∃β',qR H0 X0 P Hs VE ((b,.db f s)::B) fs E H β':=by
 let β':Nat→Nat:=fun c=>if c=b then f else β c
 have I:β' b=f:=bj rfl;have z:∀c,c≠b→β' c=β c:=fun c G=>aZ G
 have O:∀c t,aN ((b,.db f s)::B) c=some t→(c=b∧t= .db f s)∨(c≠b∧aN B c=some t∧t.no b=true):=fun c t G=>by
  rw[dr] at G
  by_cases e:b=c
  ·rw[bj e] at G;cases G;exact .inl ⟨e.symm,rfl⟩
  rw[aZ e] at G;exact .inr ⟨fun k=>e k.symm,G,(K9 hB G).2⟩
 obtain⟨hd,ho,hbx⟩:=A.own f s (iI ..);have L:∀g,XF X0 ((f,s)::fs) g↔XF X0 fs g∨g=f:=fun g=>by
  unfold XF;rw[FU,or_assoc]
 have hX:XB (XF X0 fs) ((b,.db f s)::B) β'=XB (XF X0 ((f,s)::fs)) B β:=XB_eq fun g=>by
  constructor
  ·rintro(k|⟨c,u,Z,k2,k3⟩)
   ·exact .inl ((L g).2 (.inl k))
   rcases O c u Z with⟨rfl,rfl⟩|⟨U,Y,_⟩
   ·exact .inl ((L g).2 (.inr (by rw[←k3,I])))
   exact .inr ⟨c,u,Y,k2,by rw[←k3,z c U]⟩
  rintro(k|⟨c,u,Z,k2,k3⟩)
  ·rcases(L g).1 k with k|rfl
   ·exact .inl k
   exact .inr ⟨b,.db g s,by rw[dr,bj rfl],ho,I⟩
  have O7:=(K9 hB Z).1;exact .inr ⟨c,u,by rw[dr,aZ fun e=>O7 e.symm];exact Z,k2,by rw[z c O7];exact k3⟩
 have JX:f<H.next:=A.rel.x0 f (.inr ⟨s,iI ..⟩);have hnd:f∉fs.map (·.1)∧(fs.map (·.1)).Nodup:=by
  have:=A.nodup;rw[jz,List.nodup_cons] at this;exact this
 have hnf:¬EG fs f:=fun⟨u,h⟩=>hnd.1 (List.mem_map.2 ⟨(f,u),h,rfl⟩)
 refine⟨β',A.aQ,A.next,A.mn,A.ws,A.ns,⟨fun c G=>?_,A.rel.aQ,fun g O=>A.rel.x0 g ((L g).2 (.inl O)),fun c u G hu=>?_,fun c e u v G he hu hv M=>?_,fun k v hk=>?_,fun c u G=>?_⟩,fun g O=>A.out g (FU.2 (.inl O)),hnd.2,fun g u hgu=>?_,fun g JQ=>?_⟩
 ·exact(z c fun e=>by rw[e,Qs hB] at G;cases G).trans (A.rel.kY c G)
 ·rcases O c u G with⟨rfl,rfl⟩|⟨U,Y,_⟩
  ·rw[I];exact⟨fun k=>k.elim (A.out f (FU.2 (.inr aa))) hnf,JX⟩
  rw[z c U];have:=A.rel.new c u Y hu;exact⟨fun k=>this.1 ((L _).2 (.inl k)),this.2⟩
 ·rcases O c u G with⟨rfl,rfl⟩|⟨U,Y,_⟩<;>rcases O e v he with⟨rfl,rfl⟩|⟨n1,n2,_⟩
  ·rfl
  ·rw[I,z e n1] at M;exact absurd ((L _).2 (.inr M.symm)) (A.rel.new e v n2 hv).1
  ·rw[I,z c U] at M;exact absurd ((L _).2 (.inr M)) (A.rel.new c u Y hu).1
  rw[z c U,z e n1] at M;exact A.rel.inj c e u v Y n2 hu hv M
 ·rw[hX];obtain⟨a,Z,k2⟩:=A.rel.env k v hk;exact⟨a,Z,aG.no (K8 hE hk) k2⟩
 ·rw[hX];rcases O c u G with⟨rfl,rfl⟩|⟨U,Y,m3⟩
  ·rw[I];exact⟨fun _=>aa,hbx.datβ hd⟩
  rw[z c U];exact dq.VG m3 (A.rel.box c u Y)
 ·rw[hX];exact A.own g u (mu _ hgu)
 rcases JQ with JQ|⟨c,u,Z,k2,k3⟩
 ·exact A.new g (.inl (FU.2 (.inl JQ)))
 rcases O c u Z with⟨rfl,rfl⟩|⟨U,Y,_⟩
 ·exact A.new g (.inl (FU.2 (.inr (by rw[←k3,I]))))
 exact A.new g (.inr ⟨c,u,Y,k2,by rw[←k3,z c U]⟩)
theorem qR.bare(z:qR H0 X0 P Hs VE B fs E H β):qR H0 X0 P Hs [] [] fs .emp H β:=
 z.went (W:=fun _=>False) ⟨rfl,bt _,fun _ h=>.inl h,fun _ _ k=>(by cases k),fun _ _ _=>rfl⟩ {z.rel.MP (B':=[]) (fun _ _ k=>by cases k) with env:=fun _ _ k=>by cases k}
theorem Q6{ops:List bl}{Q:bq→aU→Prop}(k:Nat){v:VV}(v':VV)(A:aN VE k=some v)(G:∀H X β a,(∀b f s,aN B b=some (.db f s)→s.born→β b=f)→aG H X β v a→aG H X β v' a)(h:VO T ops ((k,v')::VE) B Q):VO T ops VE B Q:=fun H0 X0 E H β z=>
 h H0 X0 E H β (z.slot A fun a I=>G H _ β a (fun _ _ _ L h2=>z.pinned L h2) I)
theorem aY.VM{H:ay}{X:Nat→Prop}{β:Nat→Nat}{x A:VV}(G:∀a,aG H X β x a→aG H X β A a):∀{l:List VV}{s:List ak}{i:Nat},l[i]?=some x→aY H X β l s→aY H X β (l.set i A) s
 |[],_,_,hi,_=>by simp at hi
 |v::r,_,0,hi,h=>by
  simp only[aY,List.set_cons_zero] at h⊢;obtain⟨a,s,rfl,z,h2⟩:=h;simp at hi;subst hi;exact⟨a,s,aa,G a z,h2⟩
 |v::r,_,i+1,hi,h=>by
  simp only[aY,List.set_cons_succ] at h⊢;obtain⟨a,s,rfl,z,h2⟩:=h;exact⟨a,s,rfl,z,aY.VM G (by simpa using hi) h2⟩
section
variable{X:Nat→Prop}{b f n es o:Nat}{a:ak}
theorem adF(h:aG H X β (.ac b 0 es) a):aG H X β (.d .nil) a:=by
 simp only[aG,bK] at h⊢;rcases h with⟨_,h⟩|⟨h,_⟩
 ·exact h
 omega
end
variable{Q:VV→aU→Prop}
theorem cF.pinned{f:Nat}{args:List VV}{Bi:aU}{Q Q':VV→aU→Prop}{c g:Nat}{s:BS}(hp:jU c=true)(A:aN Bi c=some (.db g s))(hs:s.born)(h:cF T f args ((c,s)::Bi) Q)(hq:∀r B,Q r B→∃s',aN B c=some s'∧Q' r ((c,.db g s')::B)):cF T f args Bi Q':=fun H0 X H β l G hv=>by
 have e:=G.pinned A hs;have I:Rel H0 X [] ((c,s)::Bi) .emp H β:=G.qB A iG fun _ k=>k.2
 have hl:fc H (XB X Bi β) H (XB X ((c,s)::Bi) β):=⟨bt _,fun f _ L=>⟨fun k=>L (k.imp id fun⟨d,t,M,ho,h2⟩=>by obtain⟨u,O,U⟩:=l9 (s':=s) A iG d t M ho;exact⟨d,u,O,U,h2⟩),rfl⟩⟩;refine(h H0 X H β l I (hv.lift hl)).mono fun a H' Y=>?_
 obtain⟨r,B',β',hw,z,Z,k6⟩:=Y;obtain⟨s',k7,k8⟩:=hq r B' k6;have e':β' c=g:=by rw[z.kY c hp,←G.kY c hp,e]
 have hl':fc H' (XB X B' β') H' (XB X ((c,.db g s')::B') β'):=⟨bt _,fun f _ L=>⟨fun k=>L (k.imp id fun⟨d,t,M,ho,h2⟩=>by obtain⟨u,O,U⟩:=l9 (s':=.db g s') k7 iG d t M ho;exact⟨d,u,O,U,h2⟩),rfl⟩⟩;exact⟨r,_,β',(hw.more (l9 (s':=s) A iG)).MO (l9 (s':=.db g s') k7 iG),z.qB (s':=.db g s') k7 iG (fun _ k=>⟨fun _=>e',k⟩),Z.lift hl',k8⟩
end
def intOf:List DC→Int
 |[.i _ z]=>z
 |_=>0
def cH(X:List Int)(w:aj):Prop:=af [.i .i64 (-9223372036854775808) 9223372036854775807] w∧(w.map intOf).Pairwise (· < ·)∧∀z,z∈w.map intOf→z∈X
def fi(X:List Int)(d:DC):Prop:=∃w,ao w d∧cH X w
theorem cH.nil{X:List Int}:cH X []:=⟨ca,.nil,fun _ h=>by cases h⟩
theorem fi.nil{X:List Int}:fi X .nil:=⟨[],.inr ⟨rfl,rfl⟩,cH.nil⟩
theorem adG:∀(l X:List Int),l.Pairwise (· < ·)→(∀z,z∈l→z∈X)→l.length≤X.length
 |[],_,_,_=>gX _
 |a::l,X,h,A=>by
  have G:=List.pairwise_cons.1 h;have I:a∈X:=A a (iI ..);have:=adG l (X.erase a) G.2 fun z L=>(List.mem_erase_of_ne (by have:=G.1 z L;omega)).2 (A z (mu _ L))
  rw[List.length_erase_of_mem I] at this;have:0<X.length:=List.length_pos_of_mem I;simp only[gy];omega
theorem cH.len{X:List Int}{w:aj}(h:cH X w):w.length≤X.length:=by
 have:=adG _ _ h.2.1 h.2.2;simpa using this
theorem cH.mem{X:List Int}{w:aj}{k:IntKind}{i:Nat}{z:Int}(h:cH X w)(A:w[i]?=some [.i k z]):z∈X:=h.2.2 z (List.mem_map.2 ⟨_,qw A,rfl⟩)
def vx(w:aj)(k x:Int):Prop:=∀(j:Nat)(z:Int),(j:Int)<k→w[j]?=some [.i .i64 z]→z<x
theorem abA{w:aj}{x:Int}:vx w 0 x:=fun j z h _=>by omega
theorem vx.succ{w:aj}{k x z:Int}(h:vx w k x)(M:0≤k)(G:w[k.toNat]?=some [.i .i64 z])(I:z<x):vx w (k+1) x:=fun j L O A=>by
 by_cases e:j=k.toNat
 ·subst e;rw[G] at A;cases A;exact I
 exact h j L aq A
theorem cH.ins{X:List Int}{w:aj}{v x:Int}{k A:Nat}(h:cH X w)(hx:x∈X)(hk:(k:Int)=v)(hk':(A:Int)=v)(hkn:v≤(w.length:Int))(hb: -9223372036854775808≤x∧x≤9223372036854775807)(Z:vx w v x)
  (zF:v=(w.length:Int)∨∃z,w[v.toNat]?=some [.i .i64 z]∧x<z):cH X ((w.drop 0).take (k-0)++[[.i .i64 x]]++(w.drop A).take (w.length-A)):=by
 obtain rfl:A=k:=by omega
 have hc:(w.drop A).take (w.length-A)=w.drop A:=by rw[o5];simp
 have h0:(w.drop 0).take (A-0)=w.take A:=by simp
 rw[hc,h0];have O:∀(j:Nat)(r:List DC),w[j]?=some r→∃z,r=[.i .i64 z]:=fun j r hg=>by
  have I:=mb h.1 hg;obtain⟨d,_,rfl,hd,I⟩:=eP I;obtain rfl:=oT I;obtain⟨z,rfl,_⟩:=Ty.dP hd;exact⟨z,aa⟩
 refine⟨df (df (fun r I=>h.1 r (Eo I)) (c9 (ah (dP hb.1 hb.2) bf))) (fun r I=>h.1 r (En I)),?_,?_⟩
 ·have hp:=h.2.1;rw[lK,lK,TK,ME];have JP:(w.map intOf)=(w.map intOf).take A++(w.map intOf).drop A:=(IJ _ _).symm;rw[JP] at hp;obtain⟨p1,p2,p3⟩:=List.pairwise_append.1 hp;have ha:∀z,z∈(w.map intOf).take A→z<x:=fun z G=>by
   obtain⟨j,hj,e⟩:=List.mem_take_iff_getElem.1 G;simp only[n6] at hj;obtain⟨z',I⟩:=O j w[j] (dm aq);have U:=Z j z' aq (by rw[dm aq,I]);simp only[List.getElem_map,I,intOf] at e;omega
  have Y:∀z,z∈(w.map intOf).drop A→x<z:=fun z G=>by
   rcases zF with e|⟨z0,hg,hl⟩
   ·rw[ahI (by simp;omega)] at G;cases G
   obtain⟨i,hi,e⟩:=List.mem_iff_getElem.1 G;simp only[rA,n6] at hi;have hk0:A=v.toNat:=by omega
   have M:A<w.length:=by omega
   have L:(w.map intOf)[A]?=some z0:=by rw[yA,hk0,hg];rfl
   by_cases ei:i=0
   ·subst ei;simp only[List.getElem_drop,qv] at e;rw[dm (by simpa using M)] at L
    cases L
    omega
   have hlt':(w.map intOf)[A]'(by simpa using M)<(w.map intOf)[A+i]'(by simp only[n6];omega):=List.pairwise_iff_getElem.1 h.2.1 _ _ _ _ aq;rw[dm (by simpa using M)] at L;have e0:=Option.some.inj L;simp only[List.getElem_drop] at e;omega
  rw[TR];refine List.pairwise_append.2 ⟨p1,List.pairwise_append.2 ⟨by simp,p2,fun a U b h2=>?_⟩,fun a U b h2=>?_⟩
  ·have:a=x:=by simpa[intOf] using U
   rw[this];exact Y b h2
  rcases List.mem_append.1 h2 with h2|h2
  ·have:b=x:=by simpa[intOf] using h2
   rw[this];exact ha a U
  have:=ha a U;have:=Y b h2;omega
 intro z G;simp only[lK,yB,TK,ME] at G;rcases G with(G|G)|G
 ·exact h.2.2 z (Eo G)
 ·have:z=x:=by simpa[intOf] using G
  rw[this];exact hx
 exact h.2.2 z (En G)
theorem fi.one{X:List Int}{x:Int}(G:x∈X)(A: -9223372036854775808≤x∧x≤9223372036854775807):fi X (.sl [[.i .i64 x]]):=⟨[[.i .i64 x]],.inl rfl,c9 (ah (dP A.1 A.2) bf),by simp[intOf],fun z I=>by
 have:z=x:=by simpa[intOf] using I
 rw[this];exact G⟩
def qC(d:DC):Prop:=d= .nil∨∃f n,d= .raw f n 2∧n≤1000001
theorem qC.nil:qC .nil:=.inl rfl
theorem qC.raw{f n:Nat}(h:n≤1000001):qC (.raw f n 2):=.inr ⟨f,n,rfl,h⟩
theorem abB{T:aO}{VE:bq}{B:aU}{Q:VV→aU→Prop}{x:aI}{d:DC}(A:x.vv VE=some (.d d))(L:qC d)(G:∀z:Int,0≤z→z≤1000001→Q (.d (.i .i64 z)) B):VI T (.len x) VE B [] Q:=by
 rcases L with rfl|⟨f,n,rfl,O⟩
 ·exact La A (G 0 aq aq)
 intro H0 X0 E H β I;obtain⟨a,M,h2⟩:=I.bG A;simp only[aG,bK] at h2;subst h2;exact K7 M (dC I (v:=.d (.i .i64 (n:Int))) (by simp only[aG,bK]) (G n aq aq))
section
variable{T:aO}{VE:bq}{B:aU}{ops:List bl}{Q:bq→aU→Prop}{c:IC}{R:Ex→bq→aU→Prop}
theorem accArr{H:ay}{X:Nat→Prop}{β:Nat→Nat}{f elem aE es:Nat}{rows:aj}(z:rows≠[])(h:dq H X β f (.acc elem aE es rows)):dq H X β f (.arr elem aE es rows.length rows):=by
 rcases h with h|⟨lo,cs,A,h2,G⟩
 ·exact absurd h z
 exact⟨lo,cs,A,h2,bt _,G⟩
theorem arrAcc{H:ay}{X:Nat→Prop}{β:Nat→Nat}{f elem aE es lo:Nat}{rows:aj}(h:dq H X β f (.arr elem aE es lo rows)):dq H X β f (.acc elem aE es rows):=by
 obtain⟨z,cs,A,h2,G,I⟩:=h;exact .inr ⟨z,cs,A,eZ h2 G,I⟩
theorem vo_accArr(b:Nat){elem aE es:Nat}{rows:aj}(A:aN B b=some (.acc elem aE es rows))(z:rows≠[])(h:VO T ops VE ((b,.arr elem aE es rows.length rows)::B) Q):VO T ops VE B Q:=
 fun H0 X0 E H β G=>(h H0 X0 E H β (G.qB A ⟨fun _=>z,fun _=>trivial⟩ fun _ k=>accArr z k)).mono fun _ _ I=>I.more (l9 A ⟨fun _=>z,fun _=>trivial⟩)
theorem ZY(b:Nat){elem aE es lo:Nat}{rows:aj}(z:aN B b=some (.arr elem aE es lo rows))(A:rows≠[])(h:VO T ops VE ((b,.acc elem aE es rows)::B) Q):VO T ops VE B Q:=
 fun H0 X0 E H β G=>(h H0 X0 E H β (G.qB z ⟨fun _=>trivial,fun _=>A⟩ fun _ k=>arrAcc k)).mono fun _ _ I=>I.more (l9 z ⟨fun _=>trivial,fun _=>A⟩)
theorem ac_bs{H:ay}{X:Nat→Prop}{β:Nat→Nat}{b n es:Nat}{a:ak}(h0:0<n)(h:aG H X β (.ac b n es) a):aG H X β (.bs b n es) a:=by
 simp only[aG] at h⊢;rcases h with⟨z,_⟩|⟨_,h2⟩
 ·omega
 exact h2
theorem bs_ac{H:ay}{X:Nat→Prop}{β:Nat→Nat}{b n es:Nat}{a:ak}(h0:0<n)(h:aG H X β (.bs b n es) a):aG H X β (.ac b n es) a:=by
 simp only[aG] at h⊢;exact .inr ⟨h0,h⟩
end
def InX(X:List Int)(d:DC):Prop:=∃z,d= .i .i64 z∧(-9223372036854775808≤z∧z≤9223372036854775807)∧z∈X
def sV(w:aj)(i:Int):Prop:=∀z A B r,w[i.toNat]?=some (.i .i64 z::.i .i64 A::.i .i64 B::r)→(z≠1→0≤A∧A<i)∧((4≤z∧z≤8)→0≤B∧B<i)
theorem sV.mk{w:aj}{i G A B:Int}{r:List DC}(I:w[i.toNat]?=some (.i .i64 G::.i .i64 A::.i .i64 B::r))(h:(G≠1→0≤A∧A<i)∧((4≤G∧G≤8)→0≤B∧B<i)):sV w i:=fun L M B' r' z=>by
 rw[I] at z;cases z;exact h
def mc(w:aj)(n:Int):Prop:=∀i:Int,0≤i→i<n→sV w i
theorem Zj{w:aj}:mc w 0:=fun i z h2=>by omega
theorem mc.succ{w:aj}{n:Int}(h:mc w n)(k:sV w n):mc w (n+1):=fun i z h2=>by
 by_cases e:i=n
 ·subst e;exact k
 exact h i z aq
theorem mc.all{w:aj}{n k:Int}(h:mc w n)(A:k≤n):mc w k:=fun i z h2=>h i z aq
theorem mc.get{w:aj}{n i z A B:Int}{r:List DC}(h:mc w n)(h0:0≤i)(G:i<n)(I:w[i.toNat]?=some (.i .i64 z::.i .i64 A::.i .i64 B::r)):(z≠1→0≤A∧A<i)∧((4≤z∧z≤8)→0≤B∧B<i):=h i h0 G z A B r I
def wm(z:Int):Nat:=64*2^z.toNat
theorem wm_s{z:Int}(h:0≤z):wm (z+1)=2*wm z:=by
 unfold wm;rw[show(z+1).toNat=z.toNat+1 by omega,NF];omega
theorem af0{z:Int}(h2:z≤19):64≤wm z∧wm z≤33554432:=by
 unfold wm;have:z.toNat≤19:=by omega
 generalize z.toNat=n at this;have:∀m:Nat,m≤19→64≤64*2^m∧64*2^m≤33554432:=by decide
 exact this n (by assumption)
def VN(t:Int)(r:List DC):Prop:=∃f g c,r=[.i .i64 f,.i .i64 g,c]∧f≤t∧t<g
def fV(w:aj)(t:Int):Prop:=∃r,r∈w∧VN t r
def gl(w:aj)(v t:Int):Prop:=∀(q:Nat)(r:List DC),(q:Int)<v→w[q]?=some r→¬VN t r
theorem fV.mk{w:aj}{q:Nat}{t f g:Int}{c:DC}(z:w[q]?=some [.i .i64 f,.i .i64 g,c])(A:f≤t)(h2:t<g):fV w t:=⟨_,qw z,f,g,c,rfl,A,h2⟩
theorem C7{w:aj}{t:Int}:gl w 0 t:=fun q r h _=>by omega
theorem gl.succ{w:aj}{v t f g:Int}{c:DC}(h:gl w v t)(h0:0≤v)(A:w[v.toNat]?=some [.i .i64 f,.i .i64 g,c])(G:¬(f≤t∧t<g)):gl w (v+1) t:=fun q r L z=>by
 by_cases e:q=v.toNat
 ·subst e;rw[A] at z;cases z;rintro⟨f',g',M,e,I,h2⟩
  cases e;exact G ⟨I,h2⟩
 exact h q r aq z
theorem gl.all{w:aj}{v t:Int}(h:gl w v t)(I:(w.length:Int)≤v):¬fV w t:=by
 rintro⟨r,z,A⟩;obtain⟨q,G,e⟩:=List.mem_iff_getElem.1 z;exact h q r aq (by rw[dm G,e]) A
def ew(t:Int)(r:List DC):Prop:=∃n d rest w,r=n::d::rest∧ao w d∧fV w t
open Classical in
def jk(t:Int)(w:aj):Nat:=(w.filter fun r=>decide (ew t r)).length
theorem R6{α:Type}{w:List α}{v:Int}{r:α}(h0:0≤v)(z:w[v.toNat]?=some r):w.take (v+1).toNat=w.take v.toNat++[r]:=by
 rw[show(v+1).toNat=v.toNat+1 by omega,Be,z];rfl
theorem Gp{w z:aj}{v t:Int}{m:Nat}{n d:DC}{rest:List DC}(h:(m:Int)=jk t (w.take v.toNat))(h0:0≤v)(A:w[v.toNat]?=some (n::d::rest))(G:ao z d)(I:fV z t):((m+1:Nat):Int)=jk t (w.take (v+1).toNat):=by
 have:ew t (n::d::rest):=⟨n,d,rest,z,rfl,G,I⟩;rw[R6 h0 A];simp[jk,this] at h⊢;omega
theorem Lh{w z:aj}{v t:Int}{m:Nat}{n d:DC}{rest:List DC}(h:(m:Int)=jk t (w.take v.toNat))(h0:0≤v)(A:w[v.toNat]?=some (n::d::rest))(G:ao z d)(I:¬fV z t):(m:Int)=jk t (w.take (v+1).toNat):=by
 have:¬ew t (n::d::rest):=by
  rintro⟨_,_,_,w',e,L,h2⟩
  cases e
  exact I (G.uniq L▸h2)
 rw[R6 h0 A];simp[jk,this] at h⊢;omega
theorem visN_lt{w z:aj}{v t:Int}{n d:DC}{rest:List DC}(h0:0≤v)(A:w[v.toNat]?=some (n::d::rest))(G:ao z d)(I:fV z t):jk t (w.take v.toNat)<jk t w:=by
 have L:=Gp (m:=jk t (w.take v.toNat)) rfl h0 A G I;have h2:jk t (w.take (v+1).toNat)≤jk t w:=by
  simp only[jk];exact((TS _ _).filter _).length_le
 omega
theorem visT_take{t:Int}{r:List DC}{k:Nat}(z:2≤k):ew t (r.take k)↔ew t r:=by
 obtain⟨k,rfl⟩:∃j,k=j+2:=⟨k-2,aq⟩;constructor
 ·rintro⟨n,d,rest,w,e,h⟩;rcases r with _|⟨a,_|⟨b,l⟩⟩
  ·cases e
  ·cases e
  simp only[vh] at e
  cases e
  exact⟨_,_,l,w,aa,h⟩
 rintro⟨n,d,rest,w,rfl,h⟩;exact⟨n,d,rest.take k,w,by simp only[vh],h⟩
theorem aaI{t:Int}{w:aj}{k:Nat}(z:2≤k):jk t (w.map (List.take k))=jk t w:=by
 simp only[jk,List.filter_map,n6];congr 1;refine List.filter_congr fun r _=>?_
 simp only[afK];exact decide_eq_decide.2 (visT_take z)
theorem visN_all{t:Int}{w:aj}{v:Int}{m:Nat}(h:(m:Int)=jk t (w.take v.toNat))(z:(w.length:Int)≤v):(m:Int)=jk t w:=by
 rw[o5 aq] at h;exact h
theorem Zk{w w':aj}{v:Int}{r r':List DC}{k:Nat}(h:w'=(w.take v.toNat).map (List.take k))(h0:0≤v)(z:w[v.toNat]?=some r)(A:r.take k=r'):w'++[r']=(w.take (v+1).toNat).map (List.take k):=by
 rw[R6 h0 z,h,lK];simp[A]
theorem YH{w w':aj}{v:Int}{k:Nat}(h:w'=(w.take v.toNat).map (List.take k))(z:(w.length:Int)≤v):w'=w.map (List.take k):=by
 rw[o5 aq] at h;exact h
def pT(ne:Nat)(w:aj):Prop:=af [.i .i64 0 4,.i .i64 (-1) ((ne:Int) -1),.s 1000] w∧∀(q:Nat)(a e:Int)(r:List DC),w[q]?=some (.i .i64 a::.i .i64 e::r)→a=0→0≤e
def Bl(ne:Nat)(d:DC):Prop:=∃w,ao w d∧w.length≤4∧pT ne w
theorem pT.get{ne:Nat}{w:aj}{q:Nat}{a e:Int}{r:List DC}(h:pT ne w)(z:w[q]?=some (.i .i64 a::.i .i64 e::r)):a=0→0≤e:=h.2 q a e r z
def BR(row:List Ty)(ne:Nat)(d:DC):Prop:=∃w,ao w d∧w.length=ne∧af row w
def LstQ(row:List Ty)(lo hi:Nat)(d:DC):Prop:=∃w,ao w d∧lo≤w.length∧w.length≤hi∧af row w
def pf(row:List Ty)(lo hi:Nat)(d:DC):Prop:=∃w,ao w d∧lo≤w.length∧w.length≤hi∧af row w∧(w=[]→d= .nil)
theorem jf{VE:bq}{k n:Nat}{l:List UInt8}(h:DC.s k n=al l):(aI.c (.str k n)).vv VE=some (.d (al l)):=by rw[←h];rfl
def ka:List DC→Int
 |.i _ z::_=>z
 |_=>0
theorem okX{t:Ty}{w:aj}(h:af [t] w):af [.x] w:=fun r z=>by
 obtain⟨d,q,rfl,_,h2⟩:=eP (h r z);obtain rfl:=oT h2;exact ah bP bf
def xZ(row:Nat→List Ty)(w:aj):Prop:=∀r,r∈w→∃ne,ne≤30∧(2≤w.length→1≤ne)∧fK (row ne) r
theorem xZ.get{row:Nat→List Ty}{w:aj}{q:Nat}{r:List DC}(h:xZ row w)(z:w[q]?=some r):∃ne,ne≤30∧(2≤w.length→1≤ne)∧fK (row ne) r:=h r (qw z)
theorem xZ.len{row:Nat→List Ty}{w:aj}{n:Nat}(z:∀ne r,fK (row ne) r→r.length=n)(h:xZ row w):∀r,r∈w→r.length=n:=fun r A=>by
 obtain⟨ne,_,_,G⟩:=h r A;exact z ne r G
section
variable{T:aO}{VE:bq}{B:aU}
theorem vc_loop1{c:IC}{R:Ex→bq→aU→Prop}(I:Nat→bq→aU→Prop)(M:Nat)(Y:VC T c VE B fun x bH B'=>match x with|.normal=>∃j,j<M∧I j bH B'|x=>R x bH B')(Z:∀k VE B,I k VE B→VC T c VE B fun x bH B'=>match x with|.normal=>∃j,j<k∧I j bH B'|x=>R x bH B'):VC T (.loop c) VE B R:=by
 refine Q0 (fun k V B'=>(k=M∧V=VE∧B'=B)∨(k<M∧I k V B')) (fun k V B' h=>?_) (k:=M) (.inl ⟨aa,aa,aa⟩);rcases h with⟨rfl,rfl,rfl⟩|⟨hk,h⟩
 ·exact fun H0 X0 E H β L=>(Y H0 X0 E H β L).mono fun x _ _ O=>by
   obtain⟨z,U,A,a,b,c⟩:=O;refine⟨z,U,A,a,b,?_⟩
   cases x with
   |normal=>obtain⟨j,G,hi⟩:=c;exact⟨j,G,.inr ⟨G,hi⟩⟩
   |exit id=>exact c
   |ret=>exact c
 exact fun H0 X0 E H β L=>(Z k V B' h H0 X0 E H β L).mono fun x _ _ O=>by
  obtain⟨z,U,A,a,b,c⟩:=O;refine⟨z,U,A,a,b,?_⟩
  cases x with
  |normal=>obtain⟨j,G,hi⟩:=c;exact⟨j,G,.inr ⟨aq,hi⟩⟩
  |exit id=>exact c
  |ret=>exact c
theorem Rel.frzC{H0:Nat→Nat}{X0:Nat→Prop}{E:Env}{H:ay}{β:Nat→Nat}(Y:Rel H0 X0 VE B E H β){b g e O i elem aE es:Nat}{row:List VV}{rows:aj}(hb:aN B b=some (.one e O row))(hi:row[i]?=some (.ac g rows.length es))(hg:aN B g=some (.acc elem aE es rows))(hbg:g≠b):Rel H0 X0 VE ((b,.one e O (row.set i (.d (.cm rows))))::du B g) E H β:=by
 have h:=Y.drop g;have I:∀c s,aN (du B g) c=some s→g≠c∧aN B c=some s:=fun c s z=>by
  rw[mN] at z
  by_cases e:g=c
  ·rw[bj e] at z;cases z
  rw[aZ e] at z;exact⟨e,z⟩
 have Z:aN (du B g) b=some (.one e O row):=by rw[mN,aZ hbg];exact hb
 have U:=l9 (s':=.one e O (row.set i (.d (.cm rows)))) Z iG;have hl:fc H (XB X0 (du B g) β) H (XB X0 ((b,.one e O (row.set i (.d (.cm rows))))::du B g) β):=⟨bt _,fun f _ hx=>⟨fun k=>hx (k.imp id fun⟨c,t,z,ho,h2⟩=>by obtain⟨u,G,L⟩:=U c t z ho;exact⟨c,u,G,L,h2⟩),rfl⟩⟩;have mF:fc H (XB X0 B β) H (XB X0 ((b,.one e O (row.set i (.d (.cm rows))))::du B g) β):=⟨bt _,fun f _ hx=>⟨fun k=>hx (k.imp id fun⟨c,t,z,ho,h2⟩=>by obtain⟨u,G,L⟩:=U c t z ho;exact⟨c,u,(I c u G).2,L,h2⟩),rfl⟩⟩;have hx:rows≠[]→¬XB X0 ((b,.one e O (row.set i (.d (.cm rows))))::du B g) β (β g):=by
  rintro A(k|⟨c,s,z,pD,h2⟩)
  ·exact(Y.new g _ hg A).1 k
  obtain⟨u,G,L⟩:=U c s z pD;exact(I c u G).1 (Y.inj c g u _ (I c u G).2 hg L A h2).symm
 have VP:rows≠[]→bK H (XB X0 ((b,.one e O (row.set i (.d (.cm rows))))::du B g) β) (.sl rows) (.slice (β g) rows.length 0 rows.length es):=fun A=>by
  simp only[bK];refine⟨β g,rows.length,0,es,rfl,.inr ⟨hx A,(Y.new g _ hg A).2,0,by simp,dF.oN fun q r hq=>?_⟩⟩;obtain⟨l,z,h2,h3⟩:=(Y.box g _ hg).Ds hq;exact⟨l,by rw[fM];exact z,h2,h3.lift mF⟩
 refine⟨h.kY,h.aQ,h.x0,fun c t M ho=>?_,fun c d t u M wI hs ht he=>?_,fun k v hk=>?_,fun c t M=>?_⟩
 ·obtain⟨u,G,L⟩:=U c t M ho;exact h.new c u G L
 ·obtain⟨s1,G,L⟩:=U c t M hs;obtain⟨t1,k3,k4⟩:=U d u wI ht;exact h.inj c d s1 t1 G k3 L k4 he
 ·obtain⟨a,z,h2⟩:=h.env k v hk;exact⟨a,z,h2.lift hl⟩
 rw[dr] at M
 by_cases k:b=c
 ·subst k;rw[bj rfl] at M
  cases M
  obtain⟨l,lo,cs,z,h2,h3,h4⟩:=(h.box b _ Z).lift hl rfl;refine⟨l,lo,cs,z,h2,h3,aY.VM (fun a ha=>?_) hi h4⟩;simp only[aG] at ha⊢;rcases ha with⟨G,rfl⟩|⟨G,rfl⟩
  ·rw[List.length_eq_zero_iff.1 G];simp only[DC.cm,bK]
  have A:rows≠[]:=fun e=>by rw[e] at G;simp at G
  have h5:=VP A
  cases rows with
  |nil=>exact absurd rfl A
  |cons r0 rs=>exact h5
 rw[aZ k] at M;exact(h.box c t M).lift hl rfl
theorem more_frzC{b g e G:Nat}{row A:List VV}(I:aN B b=some (.one e G row)):∀c t,aN ((b,BS.one e G A)::du B g) c=some t→t.born→∃u,aN B c=some u∧u.born:=fun c t z ho=>by
 rw[dr] at z
 by_cases k:b=c
 ·subst k;exact⟨_,I,trivial⟩
 rw[aZ k,mN] at z
 by_cases e:g=c
 ·rw[bj e] at z;cases z
 rw[aZ e] at z;exact⟨t,z,ho⟩
theorem abC{c:IC}{R:Ex→bq→aU→Prop}(b i g:Nat){e A elem aE es:Nat}{row:List VV}{rows:aj}(G:aN B b=some (.one e A row))(hi:row[i]?=some (.ac g rows.length es))(I:aN B g=some (.acc elem aE es rows))(z:g≠b)(h:VC T c VE ((b,.one e A (row.set i (.d (.cm rows))))::du B g) R):VC T c VE B R:=
 fun H0 X0 E H β L=>(h H0 X0 E H β (L.frzC G hi I z)).mono fun _ _ _ M=>M.more (more_frzC G)
end
def adH(r:List DC):Prop:=∃f g,r[4]?=some (.i .i64 f)∧r[5]?=some (.i .i64 g)∧0≤f∧f≤1000∧g≤1099511627776
def pg(w:aj):Prop:=(w.map ka).Nodup∧∀r,r∈w→adH r
theorem rb:pg []:=⟨List.nodup_nil,fun _ h=>by cases h⟩
theorem pg.filter{w:aj}{p:List DC→Bool}(h:pg w):pg (w.filter p):=⟨h.1.sublist (List.filter_sublist.map ka),fun r z=>h.2 r (List.mem_filter.1 z).1⟩
def fH(v:Int)(w0 w:aj):Prop:=(w.map ka).Sublist ((w0.take v.toNat).map ka)∧∀r,r∈w→adH r
theorem AL{w0:aj}:fH 0 w0 []:=⟨List.nil_sublist _,fun _ h=>by cases h⟩
theorem fH.step{v:Int}{w0 w:aj}{r r':List DC}(h:fH v w0 w)(O:pg w0)(h0:0≤v)(I:w0[v.toNat]?=some r)(e:ka r'=ka r:=by rfl)(L:r'[4]?=r[4]?:=by rfl)(z:r'[5]?=r[5]?∨∃g,r'[5]?=some (.i .i64 g)∧g≤1099511627776:=by first|exact .inl rfl|exact .inr ⟨_,rfl,ae⟩):fH (v+1) w0 (w++[r']):=by
 rw[fH,show(v+1).toNat=v.toNat+1 by omega,Be,I,lK,lK];refine⟨h.1.append ?_,fun q A=>?_⟩
 ·rw[Vu,jz,jz,e];exact List.Sublist.refl _
 rcases List.mem_append.1 A with A|A
 ·exact h.2 q A
 rcases List.mem_singleton.1 A with rfl
 obtain⟨f,g,M,h2,G⟩:=O.2 r (qw I);rcases z with z|⟨g',z,U⟩
 ·exact⟨f,g,L.trans M,z.trans h2,G⟩
 exact⟨f,g',L.trans M,z,G.1,G.2.1,U⟩
theorem fH.skip{v:Int}{w0 w:aj}(h:fH v w0 w)(h0:0≤v):fH (v+1) w0 w:=by
 rw[fH,show(v+1).toNat=v.toNat+1 by omega,Be,lK];exact⟨h.1.trans (List.sublist_append_left _ _),h.2⟩
theorem fH.fin{v:Int}{w0 w:aj}(h:fH v w0 w)(z:pg w0):pg w:=⟨z.1.sublist (h.1.trans ((TS _ _).map ka)),h.2⟩
def Ct(v:Int)(w:aj)(n:Int):Prop:=∀(q:Nat)(r:List DC),(q:Int)<v→w[q]?=some r→ka r<n
theorem ltV_0{w:aj}{n:Int}:Ct 0 w n:=fun q _ h=>by omega
theorem Ct.step{v n:Int}{w:aj}{r:List DC}(h:Ct v w n)(h0:0≤v)(z:w[v.toNat]?=some r)(A:ka r<n):Ct (v+1) w n:=fun q r' I e=>by
 by_cases G:(q:Int)<v
 ·exact h q r' G e
 have:q=v.toNat:=by omega
 subst this;rw[z] at e;cases e;exact A
def gL(w:aj)(n:Int):Prop:=pg w∧∀r,r∈w→ka r<n
theorem gL.mk{u v n m:Int}{w0 w:aj}(h:fH v w0 w)(z:pg w0)(A:Ct u w0 n)(M:(w0.length:Int)≤u)(O:n≤m):gL w m:=⟨h.fin z,fun r G=>by
 have:ka r∈w0.map ka:=(TS _ _).map ka|>.subset (h.1.subset (List.mem_map_of_mem G));obtain⟨r0,h0,e⟩:=List.mem_map.1 this;obtain⟨q,I,L⟩:=List.mem_iff_getElem.1 h0;have:=A q r0 aq (by rw[dm I,L])
 omega⟩
theorem gL.step{n m f g:Int}{w:aj}{r:List DC}(h:gL w n)(Y:ka r=n)(G:r[4]?=some (.i .i64 f))(A:0≤f∧f≤1000)(I:r[5]?=some (.i .i64 g))(L:g≤1099511627776)(Z:m=n+1):gL (w++[r]) m:=by
 refine⟨⟨?_,fun q z=>?_⟩,fun q z=>?_⟩
 ·rw[lK,jz,BH];refine List.nodup_append.2 ⟨h.1.1,by simp,fun a M b O e=>?_⟩;obtain⟨x,U,rfl⟩:=List.mem_map.1 M;have:=h.2 x U;have:=List.mem_singleton.1 O;omega
 ·rcases List.mem_append.1 z with z|z
  ·exact h.1.2 q z
  rcases List.mem_singleton.1 z with rfl
  exact⟨f,g,G,I,A.1,A.2,L⟩
 rcases List.mem_append.1 z with z|z
 ·have:=h.2 q z;omega
 rcases List.mem_singleton.1 z with rfl;omega
theorem gL.fin{n:Int}{w:aj}(h:gL w n):pg w:=h.1
end Go.Ev
namespace Go.Ev.Rp
open Go Go.Ev.Pp
structure FT(T:aO):Prop where
 q4:T.ft.get 4=some i4
 q5:T.ft.get 5=some i5
 q6:T.ft.get 6=some i6
 q7:T.ft.get 7=some i7
 q11:T.ft.get 11=some i11
 q12:T.ft.get 12=some i12
 q13:T.ft.get 13=some i13
 q14:T.ft.get 14=some i14
 q15:T.ft.get 15=some i15
 q16:T.ft.get 16=some i16
 q17:T.ft.get 17=some i17
 q18:T.ft.get 18=some i18
 q19:T.ft.get 19=some i19
 q20:T.ft.get 20=some i20
 q21:T.ft.get 21=some i21
 q22:T.ft.get 22=some i22
 q23:T.ft.get 23=some i23
 q26:T.ft.get 26=some i26
 q27:T.ft.get 27=some i27
 q28:T.ft.get 28=some i28
 q29:T.ft.get 29=some i29
 q30:T.ft.get 30=some i30
 q31:T.ft.get 31=some i31
 q32:T.ft.get 32=some i32
 q33:T.ft.get 33=some i33
 q34:T.ft.get 34=some i34
 q35:T.ft.get 35=some i35
 q36:T.ft.get 36=some i36
 q37:T.ft.get 37=some i37
 q38:T.ft.get 38=some i38
 XD:T.ft.get 39=some i39
 q40:T.ft.get 40=some i40
 q41:T.ft.get 41=some i41
 q42:T.ft.get 42=some i42
 q43:T.ft.get 43=some i43
 q44:T.ft.get 44=some i44
 q55:T.ft.get 55=some i55
 q56:T.ft.get 56=some i56
 q57:T.ft.get 57=some i57
 q58:T.ft.get 58=some i58
 q59:T.ft.get 59=some i59
 q60:T.ft.get 60=some i60
 q61:T.ft.get 61=some i61
 q62:T.ft.get 62=some i62
 q63:T.ft.get 63=some i63
 q64:T.ft.get 64=some i64
 q65:T.ft.get 65=some i65
 q66:T.ft.get 66=some i66
 XE:T.ft.get 67=some i67
 q68:T.ft.get 68=some i68
 q69:T.ft.get 69=some i69
 q70:T.ft.get 70=some i70
 q71:T.ft.get 71=some i71
 q72:T.ft.get 72=some i72
 q73:T.ft.get 73=some i73
 q74:T.ft.get 74=some i74
 q75:T.ft.get 75=some i75
 q76:T.ft.get 76=some i76
 q77:T.ft.get 77=some i77
 q78:T.ft.get 78=some i78
 q79:T.ft.get 79=some i79
 q80:T.ft.get 80=some i80
 q81:T.ft.get 81=some i81
 q82:T.ft.get 82=some i82
 q83:T.ft.get 83=some i83
 q84:T.ft.get 84=some i84
 q85:T.ft.get 85=some i85
 q86:T.ft.get 86=some i86
 q87:T.ft.get 87=some i87
 q88:T.ft.get 88=some i88
 q89:T.ft.get 89=some i89
 q93:T.ft.get 93=some i93
 q102:T.ft.get 102=some i102
 q118:T.ft.get 118=some i118
 aiJ:T.ft.get 119=some i119
 aiK:T.ft.get 120=some i120
 aiL:T.ft.get 121=some i121
 q122:T.ft.get 122=some i122
 q123:T.ft.get 123=some i123
 aiM:T.ft.get 124=some i124
 aiN:T.ft.get 125=some i125
 q126:T.ft.get 126=some i126
 q127:T.ft.get 127=some i127
 q128:T.ft.get 128=some i128
 q129:T.ft.get 129=some i129
 q130:T.ft.get 130=some i130
 q131:T.ft.get 131=some i131
 q132:T.ft.get 132=some i132
 q133:T.ft.get 133=some i133
 q134:T.ft.get 134=some i134
 q135:T.ft.get 135=some i135
 q136:T.ft.get 136=some i136
 q137:T.ft.get 137=some i137
 q138:T.ft.get 138=some i138
 aiO:T.ft.get 139=some i139
 q140:T.ft.get 140=some i140
 q141:T.ft.get 141=some i141
 q142:T.ft.get 142=some i142
 aiP:T.ft.get 143=some i143
 q144:T.ft.get 144=some i144
 q145:T.ft.get 145=some i145
 q146:T.ft.get 146=some i146
 q147:T.ft.get 147=some i147
 q148:T.ft.get 148=some i148
 q149:T.ft.get 149=some i149
 q150:T.ft.get 150=some i150
 q151:T.ft.get 151=some i151
 q152:T.ft.get 152=some i152
 q153:T.ft.get 153=some i153
 q154:T.ft.get 154=some i154
 aiQ:T.ft.get 155=some i155
 q156:T.ft.get 156=some i156
 aiR:T.ft.get 209=some i209
 q210:T.ft.get 210=some i210
 q212:T.ft.get 212=some i212
 q214:T.ft.get 214=some i214
 q215:T.ft.get 215=some i215
 q216:T.ft.get 216=some i216
 aiS:T.ft.get 223=some i223
 q224:T.ft.get 224=some i224
 q225:T.ft.get 225=some i225
 q226:T.ft.get 226=some i226
 q227:T.ft.get 227=some i227
 q228:T.ft.get 228=some i228
 q229:T.ft.get 229=some i229
 q230:T.ft.get 230=some i230
 q231:T.ft.get 231=some i231
 q232:T.ft.get 232=some i232
 aiT:T.ft.get 233=some i233
 aiU:T.ft.get 234=some i234
 q235:T.ft.get 235=some i235
 aiV:T.ft.get 321=some i321
 q322:T.ft.get 322=some i322
 q323:T.ft.get 323=some i323
 q324:T.ft.get 324=some i324
 q325:T.ft.get 325=some i325
 q326:T.ft.get 326=some i326
 q327:T.ft.get 327=some i327
 q328:T.ft.get 328=some i328
 q329:T.ft.get 329=some i329
 q330:T.ft.get 330=some i330
 q331:T.ft.get 331=some i331
 q332:T.ft.get 332=some i332
 q333:T.ft.get 333=some i333
 aiW:T.ft.get 334=some i334
 q335:T.ft.get 335=some i335
 q342:T.ft.get 342=some i342
 q343:T.ft.get 343=some i343
 q344:T.ft.get 344=some i344
 q345:T.ft.get 345=some i345
 q346:T.ft.get 346=some i346
 q347:T.ft.get 347=some i347
 q348:T.ft.get 348=some i348
 q349:T.ft.get 349=some i349
 aiX:T.ft.get 350=some i350
 q382:T.ft.get 382=some i382
 q416:T.ft.get 416=some i416
 q417:T.ft.get 417=some i417
 q418:T.ft.get 418=some i418
 q419:T.ft.get 419=some i419
 q420:T.ft.get 420=some i420
 q421:T.ft.get 421=some i421
 aiY:T.ft.get 422=some i422
 q423:T.ft.get 423=some i423
 q424:T.ft.get 424=some i424
 aiZ:T.ft.get 425=some i425
 q426:T.ft.get 426=some i426
 q427:T.ft.get 427=some i427
 q428:T.ft.get 428=some i428
 ai0:T.ft.get 429=some i429
 q434:T.ft.get 434=some i434
 q435:T.ft.get 435=some i435
 q514:T.ft.get 514=some i514
 q515:T.ft.get 515=some i515
 q516:T.ft.get 516=some i516
 q517:T.ft.get 517=some i517
 q518:T.ft.get 518=some i518
 q519:T.ft.get 519=some i519
 q520:T.ft.get 520=some i520
 q521:T.ft.get 521=some i521
 q522:T.ft.get 522=some i522
 q524:T.ft.get 524=some i524
 q525:T.ft.get 525=some i525
 q577:T.ft.get 577=some i577
 q578:T.ft.get 578=some i578
def bc:List Ty:=[tJ]
def cn:List Ty:=[tJ,tJ,.s 1000]
def gB:List Ty:=[.i .i64 1 12,.s 1000,tJ]
def dk:List Ty:=[tJ,tJ,.l 13 gB]
def dy:List Ty:=[.e (DC.sl [[DC.i .i64 1]]),.s 1000,.e (DC.sl [[DC.i .i64 1]])]
def dj:List Ty:=[tJ,.l 200 bc]
def fC:List Ty:=[tJ,.l 1000000000 cn,tJ,tJ,tJ,tJ]
def jx:List Ty:=[.i .i64 1 4,tJ,tJ]
def tHoldR:List Ty:=[tJ,tJ,tJ]
def eB:List Ty:=[.i .i64 0 100,.i .i64 0 100,.i .i64 0 100,.i .i64 0 100,tJ,tJ,.s 1000]
def VS:List Ty:=[.s 10]
def fI:List Ty:=[.l 1000000000 cn,tJ,tJ,.l 200 bc]
def qc:List Ty:=[.l 1000000000 cn,.l 0 bc]
def eC:List Ty:=[tJ,tJ]
def za:List Ty:=[.l 1000000000 cn,.x,.l 0 bc]
def mA:List Ty:=[tJ,tJ,.l 1000000000 bc]
def ai1(n:Nat)(d:DC):Prop:=∃w,ao w d∧w.length≤n∧af fC w∧pg w
def fG(nv mv:Nat):List Ty:=[.s 1000,.l nv dk,.l 200 bc,.l 4 dy,.l 4 dj,.q (ai1 mv)]
def tTabL(nv mv:Nat):List Ty:=[.s 1000,.l nv dk,.l 200 bc,.l 4 dy,.l 4 dj,.l mv fC]
theorem abD{a b:Nat}{w:aj}(h:af (fG a b) w):af (tTabL a b) w:=fun r z=>by
 obtain⟨x0,_,rfl,A,x1,_,rfl,G,x2,_,rfl,I,x3,_,rfl,L,x4,_,rfl,M,x5,_,rfl,⟨Z,O,U,Y,_⟩,rfl⟩:=h r z;exact ah A (ah G (ah I (ah L (ah M (ah (aL O U Y) bf)))))
def MV:List Ty:=[tJ,.s 1000,.l 1000000000 cn,tJ,tJ,.l 100 eB,tJ,.l 10 eC,.s 1000,.l 100 dk,.l 200 bc,.l 4 dy,.l 4 dj,tJ,.s 1000,tJ]
def O':List Ty:=[.i .u16 0 65535,.i .u16 0 65535,.i .u16 0 65535,.i .u16 0 65535,.i .u16 0 65535,.i .u16 0 65535,.i .u16 0 65535,.i .u16 0 65535,.i .u16 0 65535]
def Ug:List Ty:=[tJ,.s 1000,tJ]
def af1:List Ty:=[.l 1000000000 cn,.l 1000000000 bc]
def ph:List Ty:=[.s 1000,.l 200 bc]
def oU:List Ty:=[tJ,tJ,tJ,tJ,.s 1000,.l 4096 af1]
theorem H8:af [.i .i64 1 1] [[.i .i64 1]]:=c9 (ah ai bf)
theorem sW:af bc [[.i .i64 1]]:=c9 (ah ai bf)
end Go.Ev.Rp
namespace Go.Ev
open Go
def Ty.all:Ty→(DC→Prop)→Prop
 |.i k lo hi,P=>∀z:Int,lo≤z→z≤hi→P (.i k z)
 |.b,P=>∀b:Bool,P (.b b)
 |.s n,P=>∀s:List UInt8,s.length≤n→P (al s)
 |.l n row,P=>∀(rows:aj)(d:DC),ao rows d→rows.length≤n→af row rows→P d
 |.e y,P=>P y
 |.x,P=>∀d,P d
 |.q p,P=>∀d,p d→P d
def BT:List Ty→(List DC→Prop)→Prop
 |[],P=>P []
 |t::z,P=>t.all fun d=>BT z fun r=>P (d::r)
theorem Ty.all_ok:∀{t:Ty}{P:DC→Prop}{d:DC},t.all P→t.ok d→P d
 |.i k lo hi,P,d,h,A=>by obtain⟨z,rfl,a,b⟩:=Ty.dP A;exact h z a b
 |.b,P,d,h,A=>by obtain⟨z,rfl⟩:=Ty.eb A;exact h z
 |.s n,P,d,h,A=>by obtain⟨z,rfl,a⟩:=Ty.bC A;exact h z a
 |.l n row,P,d,h,A=>by obtain⟨z,a,b,c⟩:=Ty.aL A;exact h z d a b c
 |.e y,P,d,h,A=>by simp only[Ty.ok] at A;subst A;exact h
 |.x,P,d,h,A=>h d
 |.q p,P,d,h,A=>h d (Ty.bE A)
theorem BT.ok:∀{row:List Ty}{P:List DC→Prop}{r:List DC},BT row P→fK row r→P r
 |[],P,r,h,k=>by obtain rfl:=oT k;exact h
 |t::z,P,r,h,k=>by
  obtain⟨d,q,rfl,A,h2⟩:=eP k;have:=Ty.all_ok (P:=fun d=>BT z fun r=>P (d::r)) h A;exact BT.ok (P:=fun r=>P (d::r)) this h2
section
variable{T:aO}{VE:bq}{B:aU}{Q:VV→aU→Prop}
theorem vi_idxW{x i:aI}{es:Nat}{k:IntKind}{rows:aj}{row:List Ty}{d:DC}{z:Int}(G:x.vv VE=some (.d d))(hi:i.vv VE=some (.d (.i k z)))(I:ao rows d)(L:af row rows)(M:row.length=es)(h0:0≤z)(Y:z<(rows.length:Int))
  (O:BT row fun r=>rows[z.toNat]?=some r→Q (.rp r 0) B):VI T (.gQ es x i) VE B [] Q:=by
 have U:z.toNat<rows.length:=by omega
 have A:rows[z.toNat]?=some rows[z.toNat]:=dm U;have ho:=mb L A;exact aF G hi I h0 A ((Q4 ho).trans M) (BT.ok (P:=fun r=>rows[z.toNat]?=some r→Q (.rp r 0) B) O ho A)
end
theorem CX{VE:bq}{k:Nat}{v:VV}(h:aN VE k=some v):∀j w,aN ((k,v)::VE) j=some w→aN VE j=some w:=fun j w z=>by
 rw[dr] at z
 split at z
 ·rename_i e;subst e;rw[h];exact z
 exact z
theorem bk{T:aO}{VE:bq}{B:aU}{d:Option Key}{g:Key}{w t:Bool}{qq:Option (List Nat)}{op:bm}{p q:Prop}{ops:List bl}{Q:bq→aU→Prop}(z:aN VE g.n=some (.d (.b t)))(A:p→VO T (⟨d,some (g,w),qq,op⟩::ops) ((g.n,.d (.b true))::VE) B Q)(h2:q→VO T (⟨d,some (g,w),qq,op⟩::ops) ((g.n,.d (.b false))::VE) B Q)(G:(t=true)=p:=by first|(simp only[fy,im,hO,ov,fW];first|done|rfl)|rfl)(I:(t=false)=q:=by first|(simp only[fy,im,hO,ov,fW];first|done|rfl)|rfl):VO T (⟨d,some (g,w),qq,op⟩::ops) VE B Q:=by
 cases t with
 |true=>exact abi (CX z) (A (Eq.mp G rfl))
 |false=>exact abi (CX z) (h2 (Eq.mp I rfl))
theorem ax{T:aO}{VE:bq}{B:aU}{R:Ex→bq→aU→Prop}{k:Key}{a b:IC}{t:Bool}{p q:Prop}(z:aN VE k.n=some (.d (.b t)))(A:p→VC T a ((k.n,.d (.b true))::VE) B R)(h2:q→VC T b ((k.n,.d (.b false))::VE) B R)(G:(t=true)=p:=by first|(simp only[fy,im,hO,ov,fW];first|done|rfl)|rfl)(I:(t=false)=q:=by first|(simp only[fy,im,hO,ov,fW];first|done|rfl)|rfl):VC T (.cond (.t k) a b) VE B R:=by
 cases t with
 |true=>exact aas z (abj (CX z) (A (Eq.mp G rfl)))
 |false=>exact aat z (abj (CX z) (h2 (Eq.mp I rfl)))
def Li(o:bl):Bool:=match o.op with
 |.conv _ _=>false
 |_=>true
theorem Uh(n:Nat){T:aO}{VE:bq}{B:aU}{Q:bq→aU→Prop}{ops:List bl}{bH:bq}{B':aU}{r:List bl}(_hc:(ops.take n).all Li=true)(h:Bk n ops VE B=some (bH,B',r))(k:VO T r bH B' Q):VO T ops VE B Q:=nd n h k
theorem Ui(n:Nat){T:aO}{VE:bq}{B:aU}{Q:bq→aU→Prop}{ops:List bl}{fl kP:List FL}{bH:bq}{B':aU}{r:List bl}(_hc:(ops.take n).all Li=true)(h:vw n ops VE B fl=some (bH,B',kP,r))(k:VQ T r bH B' kP Q):VQ T ops VE B fl Q:=tW n h k
end Go.Ev
