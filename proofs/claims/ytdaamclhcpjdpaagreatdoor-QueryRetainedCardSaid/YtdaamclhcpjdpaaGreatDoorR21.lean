/- Part 21 of rules for walks through the code of a program, and of such walks; what each part proves is said by its theorems. -/
import Derived.Test.YtdaamclhcpjdpaaGreatDoorR19
import Derived.Test.YtdaamclhcpjdpaaGreatDoorR20
set_option linter.unusedVariables false
set_option linter.unusedSimpArgs false
noncomputable section
set_option maxRecDepth 100000
set_option maxHeartbeats 4000000
namespace Go.Ev
open Go
abbrev OV:=List (Nat×BS)
def El(fs:OV)(f:Nat):Prop:=∃s,(f,s)∈fs
def XF(X0:Nat→Prop)(fs:OV)(f:Nat):Prop:=X0 f∨El fs f
def BS.hD:BS→Prop
 |.one _ _ row=>lT row
 |.arr _ _ _ _ _=>True
 |.acc _ _ _ _=>True
 |.c9 _ _=>False
theorem dk.datβ{H:aw}{X:Nat→Prop}{β β':Nat→Nat}{f:Nat}:∀{s:BS},s.hD→dk H X β f s→dk H X β' f s
 |.one _ _ _,z,⟨l,lo,cs,A,G,I,L⟩=>⟨l,lo,cs,A,G,I,bb.nb z L⟩
 |.arr _ _ _ _ _,_,h=>h
 |.acc _ _ _ _,_,h=>h
structure ra(H0:Nat→Nat)(X0 P:Nat→Prop)(Hs:aw)(VE:bo)(B:aT)(fs:OV)(E:Env)(H:aw)(β:Nat→Nat):Prop where
 aQ:H.aQ=Hs.aQ
 next:Hs.next≤H.next
 mn:Hs.aQ≤Hs.next
 ws:∀f,f∈H.ws→f∈Hs.ws∨(f<Hs.aQ∧P f)
 nx:∀f,f<Hs.next→¬P f→H.t.get f=Hs.t.get f
 rel:Rel H0 (XF X0 fs) VE B E H β
 out:∀f,El fs f→¬X0 f
 nodup:(fs.map (·.1)).Nodup
 own:∀f s,(f,s)∈fs→s.hD∧s.born∧dk H (XB (XF X0 fs) B β) (fun _=>0) f s
 new:∀f,(El fs f∨∃b s,aL B b=some s∧s.born∧β b=f)→P f∨Hs.next≤f
section
variable{T:aN}{H0:Nat→Nat}{X0 P:Nat→Prop}{Hs:aw}{VE:bo}{B:aT}{fs:OV}{E:Env}{H:aw}{β:Nat→Nat}
theorem ra.went(z:ra H0 X0 P Hs VE B fs E H β){W:Nat→Prop}{bF:bo}{B':aT}{E':Env}{H':aw}{β':Nat→Nat}(G:gw B β H W B' β' H')(hr:Rel H0 (XF X0 fs) bF B' E' H' β'):ra H0 X0 P Hs bF B' fs E' H' β':=by
 have Z:∀f,f<Hs.next→¬P f→∀b s,aL B b=some s→s.born→β b≠f:=fun f A Y b s L h2 I=>(z.new f (.inr ⟨b,s,L,h2,I⟩)).elim Y fun k=>by omega
 have hmm:=z.aQ;have hmn:=z.mn;have hnx:=z.next;refine⟨G.aQ.trans z.aQ,eZ z.next G.next,z.mn,fun f A=>?_,fun f A Y=>?_,hr,z.out,z.nodup,fun f s A=>?_,fun f A=>?_⟩
 ·rcases G.ws f A with h|⟨L,b,s,_,h2,I,h4⟩
  ·exact z.ws f h
  rcases z.new f (.inr ⟨b,s,h2,I,h4⟩) with k|k
  ·exact .inr ⟨ah,k⟩
  omega
 ·rw[G.nx f ah (Z f A Y),z.nx f A Y]
 ·obtain⟨L,h2,I⟩:=z.own f s A;have hx:XF X0 fs f:=.inr ⟨s,A⟩;have JU:=z.rel.x0 f hx;have hb:∀b t,aL B b=some t→t.born→β b≠f:=fun b t M O U=>(z.rel.new b t M O).1 (U▸hx)
  have hl:e9 H (XB (XF X0 fs) B β) H' (XB (XF X0 fs) B' β'):=⟨G.next,fun g hg hn=>⟨fun k=>by
   rcases k with k|⟨b,t,M,O,U⟩
   ·exact hn (.inl k)
   rcases G.since b t M O with⟨u,m1,m2,m3⟩|m
   ·exact hn (.inr ⟨b,u,m1,m2,by rw[←m3];exact U⟩)
   omega,G.nx g hg fun b t M O U=>hn (.inr ⟨b,t,M,O,U⟩)⟩⟩
  exact⟨L,h2,I.lift hl (G.nx f JU hb)⟩
 rcases A with A|⟨b,s,L,h2,I⟩
 ·exact z.new f (.inl A)
 rcases G.since b s L h2 with⟨t,m1,m2,m3⟩|m
 ·exact z.new f (.inr ⟨b,t,m1,m2,by rw[←m3];exact I⟩)
 exact .inr ah
theorem ra.of(z:ra H0 X0 P Hs VE B fs E H β){bF:bo}{E':Env}(A:Rel H0 (XF X0 fs) bF B E' H β):ra H0 X0 P Hs bF B fs E' H β:={z with rel:=A}
theorem XB_eq{X0 z:Nat→Prop}{B B':aT}{β β':Nat→Nat}(h:∀f,XB X0 B β f↔XB z B' β' f):XB X0 B β=XB z B' β':=funext fun f=>propext (h f)
theorem FA{f g:Nat}{s:BS}:El ((g,s)::fs) f↔El fs f∨f=g:=by
 constructor
 ·rintro⟨t,h⟩;rcases List.mem_cons.1 h with h|h
  ·cases h;exact .inr rfl
  exact .inl ⟨t,h⟩
 rintro(⟨t,h⟩|rfl)
 ·exact⟨t,m5 _ h⟩
 exact⟨s,gu ..⟩
theorem ra.take{f:Nat}{s:BS}(A:ra H0 X0 P Hs VE B ((f,s)::fs) E H β)(b:Nat)(hE:nw b VE=true)(hB:lU b B=true):∃β',ra H0 X0 P Hs VE ((b,.c9 f s)::B) fs E H β':=by
 let β':Nat→Nat:=fun c=>if c=b then f else β c
 have I:β' b=f:=bh rfl;have z:∀c,c≠b→β' c=β c:=fun c G=>aZ G
 have O:∀c t,aL ((b,.c9 f s)::B) c=some t→(c=b∧t= .c9 f s)∨(c≠b∧aL B c=some t∧t.no b=true):=fun c t G=>by
  rw[dn] at G
  by_cases e:b=c
  ·rw[bh e] at G;cases G;exact .inl ⟨e.symm,rfl⟩
  rw[aZ e] at G;exact .inr ⟨fun k=>e k.symm,G,(K2 hB G).2⟩
 obtain⟨hd,ho,hbx⟩:=A.own f s (gu ..);have L:∀g,XF X0 ((f,s)::fs) g↔XF X0 fs g∨g=f:=fun g=>by
  unfold XF;rw[FA,or_assoc]
 have hX:XB (XF X0 fs) ((b,.c9 f s)::B) β'=XB (XF X0 ((f,s)::fs)) B β:=XB_eq fun g=>by
  constructor
  ·rintro(k|⟨c,u,Z,k2,k3⟩)
   ·exact .inl ((L g).2 (.inl k))
   rcases O c u Z with⟨rfl,rfl⟩|⟨U,Y,_⟩
   ·exact .inl ((L g).2 (.inr (by rw[←k3,I])))
   exact .inr ⟨c,u,Y,k2,by rw[←k3,z c U]⟩
  rintro(k|⟨c,u,Z,k2,k3⟩)
  ·rcases(L g).1 k with k|rfl
   ·exact .inl k
   exact .inr ⟨b,.c9 g s,by rw[dn,bh rfl],ho,I⟩
  have JY:=(K2 hB Z).1;exact .inr ⟨c,u,by rw[dn,aZ fun e=>JY e.symm];exact Z,k2,by rw[z c JY];exact k3⟩
 have JU:f<H.next:=A.rel.x0 f (.inr ⟨s,gu ..⟩);have hnd:f∉fs.map (·.1)∧(fs.map (·.1)).Nodup:=by
  have:=A.nodup;rw[jo,List.nodup_cons] at this;exact this
 have hnf:¬El fs f:=fun⟨u,h⟩=>hnd.1 (List.mem_map.2 ⟨(f,u),h,rfl⟩)
 refine⟨β',A.aQ,A.next,A.mn,A.ws,A.nx,⟨fun c G=>?_,A.rel.aQ,fun g O=>A.rel.x0 g ((L g).2 (.inl O)),fun c u G hu=>?_,fun c e u v G he hu hv M=>?_,fun k v hk=>?_,fun c u G=>?_⟩,fun g O=>A.out g (FA.2 (.inl O)),hnd.2,fun g u hgu=>?_,fun g JN=>?_⟩
 ·exact(z c fun e=>by rw[e,Qd hB] at G;cases G).trans (A.rel.kY c G)
 ·rcases O c u G with⟨rfl,rfl⟩|⟨U,Y,_⟩
  ·rw[I];exact⟨fun k=>k.elim (A.out f (FA.2 (.inr aa))) hnf,JU⟩
  rw[z c U];have:=A.rel.new c u Y hu;exact⟨fun k=>this.1 ((L _).2 (.inl k)),this.2⟩
 ·rcases O c u G with⟨rfl,rfl⟩|⟨U,Y,_⟩<;>rcases O e v he with⟨rfl,rfl⟩|⟨n1,n2,_⟩
  ·rfl
  ·rw[I,z e n1] at M;exact absurd ((L _).2 (.inr M.symm)) (A.rel.new e v n2 hv).1
  ·rw[I,z c U] at M;exact absurd ((L _).2 (.inr M)) (A.rel.new c u Y hu).1
  rw[z c U,z e n1] at M;exact A.rel.inj c e u v Y n2 hu hv M
 ·rw[hX];obtain⟨a,Z,k2⟩:=A.rel.env k v hk;exact⟨a,Z,aG.no (K1 hE hk) k2⟩
 ·rw[hX];rcases O c u G with⟨rfl,rfl⟩|⟨U,Y,m3⟩
  ·rw[I];exact⟨fun _=>aa,hbx.datβ hd⟩
  rw[z c U];exact dk.U6 m3 (A.rel.box c u Y)
 ·rw[hX];exact A.own g u (m5 _ hgu)
 rcases JN with JN|⟨c,u,Z,k2,k3⟩
 ·exact A.new g (.inl (FA.2 (.inl JN)))
 rcases O c u Z with⟨rfl,rfl⟩|⟨U,Y,_⟩
 ·exact A.new g (.inl (FA.2 (.inr (by rw[←k3,I]))))
 exact A.new g (.inr ⟨c,u,Y,k2,by rw[←k3,z c U]⟩)
theorem ra.bare(z:ra H0 X0 P Hs VE B fs E H β):ra H0 X0 P Hs [] [] fs .emp H β:=
 z.went (W:=fun _=>False) ⟨rfl,bq _,fun _ h=>.inl h,fun _ _ k=>(by cases k),fun _ _ _=>rfl⟩ {z.rel.MA (B':=[]) (fun _ _ k=>by cases k) with env:=fun _ _ k=>by cases k}
theorem zQ{ops:List bl}{Q:bo→aT→Prop}(k:Nat){v:VV}(z:VV)(G:aL VE k=some v)(I:∀H X β a,(∀b f s,aL B b=some (.c9 f s)→s.born→β b=f)→aG H X β v a→aG H X β z a)(h:VO T ops ((k,z)::VE) B Q):VO T ops VE B Q:=fun H0 X0 E H β A=>
 h H0 X0 E H β (A.slot G fun a L=>I H _ β a (fun _ _ _ M h2=>A.pinned M h2) L)
theorem bb.Va{H:aw}{X:Nat→Prop}{β:Nat→Nat}{x A:VV}(G:∀a,aG H X β x a→aG H X β A a):∀{l:List VV}{s:List al}{i:Nat},l[i]?=some x→bb H X β l s→bb H X β (l.set i A) s
 |[],_,_,hi,_=>by simp at hi
 |v::r,_,0,hi,h=>by
  simp only[bb,List.set_cons_zero] at h⊢;obtain⟨a,s,rfl,z,h2⟩:=h;simp at hi;subst hi;exact⟨a,s,aa,G a z,h2⟩
 |v::r,_,i+1,hi,h=>by
  simp only[bb,List.set_cons_succ] at h⊢;obtain⟨a,s,rfl,z,h2⟩:=h;exact⟨a,s,rfl,z,bb.Va G (by simpa using hi) h2⟩
section
variable{X:Nat→Prop}{b f n es o:Nat}{a:al}
theorem LO(h:aG H X β (.ac b 0 es) a):aG H X β (.d .nil) a:=by
 simp only[aG,bH] at h⊢;rcases h with⟨_,h⟩|⟨h,_⟩
 ·exact h
 omega
end
variable{Q:VV→aT→Prop}
theorem cm.pinned{f:Nat}{args:List VV}{Bi:aT}{Q Q':VV→aT→Prop}{c g:Nat}{s:BS}(hp:jJ c=true)(A:aL Bi c=some (.c9 g s))(hs:s.born)(h:cm T f args ((c,s)::Bi) Q)(hq:∀r B,Q r B→∃s',aL B c=some s'∧Q' r ((c,.c9 g s')::B)):cm T f args Bi Q':=fun H0 X H β l G hv=>by
 have e:=G.pinned A hs;have I:Rel H0 X [] ((c,s)::Bi) .emp H β:=G.qK A gS fun _ k=>k.2
 have hl:e9 H (XB X Bi β) H (XB X ((c,s)::Bi) β):=⟨bq _,fun f _ L=>⟨fun k=>L (k.imp id fun⟨d,t,M,ho,h2⟩=>by obtain⟨u,O,U⟩:=lY (s':=s) A gS d t M ho;exact⟨d,u,O,U,h2⟩),rfl⟩⟩;refine(h H0 X H β l I (hv.lift hl)).mono fun a H' Y=>?_
 obtain⟨r,B',β',hw,z,Z,k6⟩:=Y;obtain⟨s',k7,k8⟩:=hq r B' k6;have e':β' c=g:=by rw[z.kY c hp,←G.kY c hp,e]
 have hl':e9 H' (XB X B' β') H' (XB X ((c,.c9 g s')::B') β'):=⟨bq _,fun f _ L=>⟨fun k=>L (k.imp id fun⟨d,t,M,ho,h2⟩=>by obtain⟨u,O,U⟩:=lY (s':=.c9 g s') k7 gS d t M ho;exact⟨d,u,O,U,h2⟩),rfl⟩⟩;exact⟨r,_,β',(hw.more (lY (s':=s) A gS)).Mz (lY (s':=.c9 g s') k7 gS),z.qK (s':=.c9 g s') k7 gS (fun _ k=>⟨fun _=>e',k⟩),Z.lift hl',k8⟩
end
def intOf:List DC→Int
 |[.i _ z]=>z
 |_=>0
def cw(X:List Int)(w:ak):Prop:=af [.i .i64 (-9223372036854775808) 9223372036854775807] w∧(w.map intOf).Pairwise (· < ·)∧∀z,z∈w.map intOf→z∈X
def fb(X:List Int)(d:DC):Prop:=∃w,aA w d∧cw X w
theorem cw.nil{X:List Int}:cw X []:=⟨bT,.nil,fun _ h=>by cases h⟩
theorem fb.nil{X:List Int}:fb X .nil:=⟨[],.inr ⟨rfl,rfl⟩,cw.nil⟩
theorem adj:∀(l X:List Int),l.Pairwise (· < ·)→(∀z,z∈l→z∈X)→l.length≤X.length
 |[],_,_,_=>gT _
 |a::l,X,h,A=>by
  have G:=List.pairwise_cons.1 h;have I:a∈X:=A a (gu ..);have:=adj l (X.erase a) G.2 fun z L=>(List.mem_erase_of_ne (by have:=G.1 z L;omega)).2 (A z (m5 _ L))
  rw[List.length_erase_of_mem I] at this;have:0<X.length:=List.length_pos_of_mem I;simp only[gr];omega
theorem cw.len{X:List Int}{w:ak}(h:cw X w):w.length≤X.length:=by
 have:=adj _ _ h.2.1 h.2.2;simpa using this
theorem cw.mem{X:List Int}{w:ak}{k:IntKind}{i:Nat}{z:Int}(h:cw X w)(A:w[i]?=some [.i k z]):z∈X:=h.2.2 z (List.mem_map.2 ⟨_,hZ A,rfl⟩)
def vm(w:ak)(k x:Int):Prop:=∀(j:Nat)(z:Int),(j:Int)<k→w[j]?=some [.i .i64 z]→z<x
theorem abd{w:ak}{x:Int}:vm w 0 x:=fun j z h _=>by omega
theorem vm.succ{w:ak}{k x z:Int}(h:vm w k x)(M:0≤k)(G:w[k.toNat]?=some [.i .i64 z])(I:z<x):vm w (k+1) x:=fun j L O A=>by
 by_cases e:j=k.toNat
 ·subst e;rw[G] at A;cases A;exact I
 exact h j L ah A
theorem cw.ins{X:List Int}{w:ak}{v x:Int}{k A:Nat}(h:cw X w)(hx:x∈X)(hk:(k:Int)=v)(hk':(A:Int)=v)(hkn:v≤(w.length:Int))(hb: -9223372036854775808≤x∧x≤9223372036854775807)(Z:vm w v x)
  (yV:v=(w.length:Int)∨∃z,w[v.toNat]?=some [.i .i64 z]∧x<z):cw X ((w.drop 0).take (k-0)++[[.i .i64 x]]++(w.drop A).take (w.length-A)):=by
 obtain rfl:A=k:=by omega
 have hc:(w.drop A).take (w.length-A)=w.drop A:=by rw[mq];simp
 have h0:(w.drop 0).take (A-0)=w.take A:=by simp
 rw[hc,h0];have O:∀(j:Nat)(r:List DC),w[j]?=some r→∃z,r=[.i .i64 z]:=fun j r hg=>by
  have I:=mN h.1 hg;obtain⟨d,_,rfl,hd,I⟩:=eM I;obtain rfl:=oZ I;obtain⟨z,rfl,_⟩:=Ty.dH hd;exact⟨z,aa⟩
 refine⟨dC (dC (fun r I=>h.1 r (yh I)) (dr (aj (dH hb.1 hb.2) bg))) (fun r I=>h.1 r (DV I)),?_,?_⟩
 ·have hp:=h.2.1;rw[pb,pb,Tg,Ml];have JM:(w.map intOf)=(w.map intOf).take A++(w.map intOf).drop A:=(DT _ _).symm;rw[JM] at hp;obtain⟨p1,p2,p3⟩:=List.pairwise_append.1 hp;have ha:∀z,z∈(w.map intOf).take A→z<x:=fun z G=>by
   obtain⟨j,hj,e⟩:=List.mem_take_iff_getElem.1 G;simp only[pc] at hj;obtain⟨z',I⟩:=O j w[j] (c7 ah);have U:=Z j z' ah (by rw[c7 ah,I]);simp only[List.getElem_map,I,intOf] at e;omega
  have Y:∀z,z∈(w.map intOf).drop A→x<z:=fun z G=>by
   rcases yV with e|⟨z0,hg,hl⟩
   ·rw[UR (by simp;omega)] at G;cases G
   obtain⟨i,hi,e⟩:=List.mem_iff_getElem.1 G;simp only[rG,pc] at hi;have hk0:A=v.toNat:=by omega
   have M:A<w.length:=by omega
   have L:(w.map intOf)[A]?=some z0:=by rw[yi,hk0,hg];rfl
   by_cases ei:i=0
   ·subst ei;simp only[List.getElem_drop,qD] at e;rw[c7 (by simpa using M)] at L
    cases L
    omega
   have hlt':(w.map intOf)[A]'(by simpa using M)<(w.map intOf)[A+i]'(by simp only[pc];omega):=List.pairwise_iff_getElem.1 h.2.1 _ _ _ _ ah;rw[c7 (by simpa using M)] at L;have e0:=Mo L;simp only[List.getElem_drop] at e;omega
  rw[List.append_assoc];refine List.pairwise_append.2 ⟨p1,List.pairwise_append.2 ⟨by simp,p2,fun a U b h2=>?_⟩,fun a U b h2=>?_⟩
  ·have:a=x:=by simpa[intOf] using U
   rw[this];exact Y b h2
  rcases List.mem_append.1 h2 with h2|h2
  ·have:b=x:=by simpa[intOf] using h2
   rw[this];exact ha a U
  have:=ha a U;have:=Y b h2;omega
 intro z G;simp only[pb,yj,Tg,Ml] at G;rcases G with(G|G)|G
 ·exact h.2.2 z (yh G)
 ·have:z=x:=by simpa[intOf] using G
  rw[this];exact hx
 exact h.2.2 z (DV G)
theorem fb.one{X:List Int}{x:Int}(G:x∈X)(A: -9223372036854775808≤x∧x≤9223372036854775807):fb X (.sl [[.i .i64 x]]):=⟨[[.i .i64 x]],.inl rfl,dr (aj (dH A.1 A.2) bg),by simp[intOf],fun z I=>by
 have:z=x:=by simpa[intOf] using I
 rw[this];exact G⟩
def qL(d:DC):Prop:=d= .nil∨∃f n,d= .raw f n 2∧n≤1000001
theorem qL.nil:qL .nil:=.inl rfl
theorem qL.raw{f n:Nat}(h:n≤1000001):qL (.raw f n 2):=.inr ⟨f,n,rfl,h⟩
theorem abe{T:aN}{VE:bo}{B:aT}{Q:VV→aT→Prop}{x:aH}{d:DC}(A:x.vv VE=some (.d d))(L:qL d)(G:∀z:Int,0≤z→z≤1000001→Q (.d (.i .i64 z)) B):VI T (.len x) VE B [] Q:=by
 rcases L with rfl|⟨f,n,rfl,O⟩
 ·exact K3 A (G 0 ah ah)
 intro H0 X0 E H β I;obtain⟨a,M,h2⟩:=I.bD A;simp only[aG,bH] at h2;subst h2;exact K0 M (dy I (v:=.d (.i .i64 (n:Int))) (by simp only[aG,bH]) (G n ah ah))
section
variable{T:aN}{VE:bo}{B:aT}{ops:List bl}{Q:bo→aT→Prop}{c:IC}{R:Ex→bo→aT→Prop}
theorem accArr{H:aw}{X:Nat→Prop}{β:Nat→Nat}{f elem aF es:Nat}{rows:ak}(z:rows≠[])(h:dk H X β f (.acc elem aF es rows)):dk H X β f (.arr elem aF es rows.length rows):=by
 rcases h with h|⟨lo,cs,A,h2,G⟩
 ·exact absurd h z
 exact⟨lo,cs,A,h2,bq _,G⟩
theorem arrAcc{H:aw}{X:Nat→Prop}{β:Nat→Nat}{f elem aF es lo:Nat}{rows:ak}(h:dk H X β f (.arr elem aF es lo rows)):dk H X β f (.acc elem aF es rows):=by
 obtain⟨z,cs,A,h2,G,I⟩:=h;exact .inr ⟨z,cs,A,eZ h2 G,I⟩
theorem vo_accArr(b:Nat){elem aF es:Nat}{rows:ak}(A:aL B b=some (.acc elem aF es rows))(z:rows≠[])(h:VO T ops VE ((b,.arr elem aF es rows.length rows)::B) Q):VO T ops VE B Q:=
 fun H0 X0 E H β G=>(h H0 X0 E H β (G.qK A ⟨fun _=>z,fun _=>trivial⟩ fun _ k=>accArr z k)).mono fun _ _ I=>I.more (lY A ⟨fun _=>z,fun _=>trivial⟩)
theorem Zz(b:Nat){elem aF es lo:Nat}{rows:ak}(z:aL B b=some (.arr elem aF es lo rows))(A:rows≠[])(h:VO T ops VE ((b,.acc elem aF es rows)::B) Q):VO T ops VE B Q:=
 fun H0 X0 E H β G=>(h H0 X0 E H β (G.qK z ⟨fun _=>trivial,fun _=>A⟩ fun _ k=>arrAcc k)).mono fun _ _ I=>I.more (lY z ⟨fun _=>trivial,fun _=>A⟩)
theorem ac_bs{H:aw}{X:Nat→Prop}{β:Nat→Nat}{b n es:Nat}{a:al}(h0:0<n)(h:aG H X β (.ac b n es) a):aG H X β (.bs b n es) a:=by
 simp only[aG] at h⊢;rcases h with⟨z,_⟩|⟨_,h2⟩
 ·omega
 exact h2
theorem bs_ac{H:aw}{X:Nat→Prop}{β:Nat→Nat}{b n es:Nat}{a:al}(h0:0<n)(h:aG H X β (.bs b n es) a):aG H X β (.ac b n es) a:=by
 simp only[aG] at h⊢;exact .inr ⟨h0,h⟩
end
def InX(X:List Int)(d:DC):Prop:=∃z,d= .i .i64 z∧(-9223372036854775808≤z∧z≤9223372036854775807)∧z∈X
def tf(w:ak)(i:Int):Prop:=∀z A B r,w[i.toNat]?=some (.i .i64 z::.i .i64 A::.i .i64 B::r)→(z≠1→0≤A∧A<i)∧((4≤z∧z≤8)→0≤B∧B<i)
theorem tf.mk{w:ak}{i G A B:Int}{r:List DC}(I:w[i.toNat]?=some (.i .i64 G::.i .i64 A::.i .i64 B::r))(h:(G≠1→0≤A∧A<i)∧((4≤G∧G≤8)→0≤B∧B<i)):tf w i:=fun L M B' r' z=>by
 rw[I] at z;cases z;exact h
def l4(w:ak)(n:Int):Prop:=∀i:Int,0≤i→i<n→tf w i
theorem YU{w:ak}:l4 w 0:=fun i z h2=>by omega
theorem l4.succ{w:ak}{n:Int}(h:l4 w n)(k:tf w n):l4 w (n+1):=fun i z h2=>by
 by_cases e:i=n
 ·subst e;exact k
 exact h i z ah
theorem l4.all{w:ak}{n k:Int}(h:l4 w n)(A:k≤n):l4 w k:=fun i z h2=>h i z ah
theorem l4.get{w:ak}{n i z A B:Int}{r:List DC}(h:l4 w n)(h0:0≤i)(G:i<n)(I:w[i.toNat]?=some (.i .i64 z::.i .i64 A::.i .i64 B::r)):(z≠1→0≤A∧A<i)∧((4≤z∧z≤8)→0≤B∧B<i):=h i h0 G z A B r I
def wm(z:Int):Nat:=64*2^z.toNat
theorem wm_s{z:Int}(h:0≤z):wm (z+1)=2*wm z:=by
 unfold wm;rw[show(z+1).toNat=z.toNat+1 by omega,Nv];omega
theorem afJ{z:Int}(h2:z≤19):64≤wm z∧wm z≤33554432:=by
 unfold wm;have:z.toNat≤19:=by omega
 generalize z.toNat=n at this;have:∀m:Nat,m≤19→64≤64*2^m∧64*2^m≤33554432:=by decide
 exact this n (by assumption)
def air(t:Int)(r:List DC):Prop:=∃f g c,r=[.i .i64 f,.i .i64 g,c]∧f≤t∧t<g
def sa(w:ak)(t:Int):Prop:=∃r,r∈w∧air t r
def rJ(w:ak)(v t:Int):Prop:=∀(q:Nat)(r:List DC),(q:Int)<v→w[q]?=some r→¬air t r
theorem sa.mk{w:ak}{q:Nat}{t f g:Int}{c:DC}(z:w[q]?=some [.i .i64 f,.i .i64 g,c])(A:f≤t)(h2:t<g):sa w t:=⟨_,hZ z,f,g,c,rfl,A,h2⟩
theorem abf{w:ak}{t:Int}:rJ w 0 t:=fun q r h _=>by omega
theorem rJ.succ{w:ak}{v t f g:Int}{c:DC}(h:rJ w v t)(h0:0≤v)(A:w[v.toNat]?=some [.i .i64 f,.i .i64 g,c])(G:¬(f≤t∧t<g)):rJ w (v+1) t:=fun q r L z=>by
 by_cases e:q=v.toNat
 ·subst e;rw[A] at z;cases z;rintro⟨f',g',M,e,I,h2⟩
  cases e;exact G ⟨I,h2⟩
 exact h q r ah z
theorem rJ.all{w:ak}{v t:Int}(h:rJ w v t)(I:(w.length:Int)≤v):¬sa w t:=by
 rintro⟨r,z,A⟩;obtain⟨q,G,e⟩:=List.mem_iff_getElem.1 z;exact h q r ah (by rw[c7 G,e]) A
def IZ(t:Int)(r:List DC):Prop:=∃n d rest w,r=n::d::rest∧aA w d∧sa w t
open Classical in
def jh(t:Int)(w:ak):Nat:=(w.filter fun r=>decide (IZ t r)).length
theorem nN{α:Type}{w:List α}{v:Int}{r:α}(h0:0≤v)(z:w[v.toNat]?=some r):w.take (v+1).toNat=w.take v.toNat++[r]:=by
 rw[show(v+1).toNat=v.toNat+1 by omega,Dl,z];rfl
theorem F9{w z:ak}{v t:Int}{m:Nat}{n d:DC}{rest:List DC}(h:(m:Int)=jh t (w.take v.toNat))(h0:0≤v)(A:w[v.toNat]?=some (n::d::rest))(G:aA z d)(I:sa z t):((m+1:Nat):Int)=jh t (w.take (v+1).toNat):=by
 have:IZ t (n::d::rest):=⟨n,d,rest,z,rfl,G,I⟩;rw[nN h0 A];simp[jh,this] at h⊢;omega
theorem La{w z:ak}{v t:Int}{m:Nat}{n d:DC}{rest:List DC}(h:(m:Int)=jh t (w.take v.toNat))(h0:0≤v)(A:w[v.toNat]?=some (n::d::rest))(G:aA z d)(I:¬sa z t):(m:Int)=jh t (w.take (v+1).toNat):=by
 have:¬IZ t (n::d::rest):=by
  rintro⟨_,_,_,w',e,L,h2⟩
  cases e
  exact I (G.uniq L▸h2)
 rw[nN h0 A];simp[jh,this] at h⊢;omega
theorem visN_lt{w z:ak}{v t:Int}{n d:DC}{rest:List DC}(h0:0≤v)(A:w[v.toNat]?=some (n::d::rest))(G:aA z d)(I:sa z t):jh t (w.take v.toNat)<jh t w:=by
 have L:=F9 (m:=jh t (w.take v.toNat)) rfl h0 A G I;have h2:jh t (w.take (v+1).toNat)≤jh t w:=by
  simp only[jh];exact((Mp _ _).filter _).length_le
 omega
theorem visT_take{t:Int}{r:List DC}{k:Nat}(z:2≤k):IZ t (r.take k)↔IZ t r:=by
 obtain⟨k,rfl⟩:∃j,k=j+2:=⟨k-2,ah⟩;constructor
 ·rintro⟨n,d,rest,w,e,h⟩;rcases r with _|⟨a,_|⟨b,l⟩⟩
  ·cases e
  ·cases e
  simp only[xD] at e
  cases e
  exact⟨_,_,l,w,aa,h⟩
 rintro⟨n,d,rest,w,rfl,h⟩;exact⟨n,d,rest.take k,w,by simp only[xD],h⟩
theorem aam{t:Int}{w:ak}{k:Nat}(z:2≤k):jh t (w.map (List.take k))=jh t w:=by
 simp only[jh,List.filter_map,pc];congr 1;refine List.filter_congr fun r _=>?_
 simp only[afs];exact decide_eq_decide.2 (visT_take z)
theorem visN_all{t:Int}{w:ak}{v:Int}{m:Nat}(h:(m:Int)=jh t (w.take v.toNat))(z:(w.length:Int)≤v):(m:Int)=jh t w:=by
 rw[mq ah] at h;exact h
theorem map_take_s{w w':ak}{v:Int}{r r':List DC}{k:Nat}(h:w'=(w.take v.toNat).map (List.take k))(h0:0≤v)(z:w[v.toNat]?=some r)(A:r.take k=r'):w'++[r']=(w.take (v+1).toNat).map (List.take k):=by
 rw[nN h0 z,h,pb];simp[A]
theorem map_take_all{w w':ak}{v:Int}{k:Nat}(h:w'=(w.take v.toNat).map (List.take k))(z:(w.length:Int)≤v):w'=w.map (List.take k):=by
 rw[mq ah] at h;exact h
def p5(ne:Nat)(w:ak):Prop:=af [.i .i64 0 4,.i .i64 (-1) ((ne:Int) -1),.s 1000] w∧∀(q:Nat)(a e:Int)(r:List DC),w[q]?=some (.i .i64 a::.i .i64 e::r)→a=0→0≤e
def AK(ne:Nat)(d:DC):Prop:=∃w,aA w d∧w.length≤4∧p5 ne w
theorem p5.get{ne:Nat}{w:ak}{q:Nat}{a e:Int}{r:List DC}(h:p5 ne w)(z:w[q]?=some (.i .i64 a::.i .i64 e::r)):a=0→0≤e:=h.2 q a e r z
def Bj(row:List Ty)(ne:Nat)(d:DC):Prop:=∃w,aA w d∧w.length=ne∧af row w
def LstQ(row:List Ty)(lo hi:Nat)(d:DC):Prop:=∃w,aA w d∧lo≤w.length∧w.length≤hi∧af row w
def pj(row:List Ty)(lo hi:Nat)(d:DC):Prop:=∃w,aA w d∧lo≤w.length∧w.length≤hi∧af row w∧(w=[]→d= .nil)
theorem jc{VE:bo}{k n:Nat}{l:List UInt8}(h:DC.s k n=aq l):(aH.c (.str k n)).vv VE=some (.d (aq l)):=by rw[←h];rfl
def gh:List DC→Int
 |.i _ z::_=>z
 |_=>0
theorem okX{t:Ty}{w:ak}(h:af [t] w):af [.x] w:=fun r z=>by
 obtain⟨d,q,rfl,_,h2⟩:=eM (h r z);obtain rfl:=oZ h2;exact aj bX bg
def xL(row:Nat→List Ty)(w:ak):Prop:=∀r,r∈w→∃ne,ne≤30∧(2≤w.length→1≤ne)∧fC (row ne) r
theorem xL.get{row:Nat→List Ty}{w:ak}{q:Nat}{r:List DC}(h:xL row w)(z:w[q]?=some r):∃ne,ne≤30∧(2≤w.length→1≤ne)∧fC (row ne) r:=h r (hZ z)
theorem xL.len{row:Nat→List Ty}{w:ak}{n:Nat}(z:∀ne r,fC (row ne) r→r.length=n)(h:xL row w):∀r,r∈w→r.length=n:=fun r A=>by
 obtain⟨ne,_,_,G⟩:=h r A;exact z ne r G
section
variable{T:aN}{VE:bo}{B:aT}
theorem vc_loop1{c:IC}{R:Ex→bo→aT→Prop}(I:Nat→bo→aT→Prop)(M:Nat)(Y:VC T c VE B fun x bF B'=>match x with|.normal=>∃j,j<M∧I j bF B'|x=>R x bF B')(Z:∀k VE B,I k VE B→VC T c VE B fun x bF B'=>match x with|.normal=>∃j,j<k∧I j bF B'|x=>R x bF B'):VC T (.loop c) VE B R:=by
 refine QK (fun k V B'=>(k=M∧V=VE∧B'=B)∨(k<M∧I k V B')) (fun k V B' h=>?_) (k:=M) (.inl ⟨aa,aa,aa⟩);rcases h with⟨rfl,rfl,rfl⟩|⟨hk,h⟩
 ·exact fun H0 X0 E H β L=>(Y H0 X0 E H β L).mono fun x _ _ O=>by
   obtain⟨z,U,A,a,b,c⟩:=O;refine⟨z,U,A,a,b,?_⟩
   cases x with
   |normal=>obtain⟨j,G,hi⟩:=c;exact⟨j,G,.inr ⟨G,hi⟩⟩
   |exit id=>exact c
   |ret=>exact c
 exact fun H0 X0 E H β L=>(Z k V B' h H0 X0 E H β L).mono fun x _ _ O=>by
  obtain⟨z,U,A,a,b,c⟩:=O;refine⟨z,U,A,a,b,?_⟩
  cases x with
  |normal=>obtain⟨j,G,hi⟩:=c;exact⟨j,G,.inr ⟨ah,hi⟩⟩
  |exit id=>exact c
  |ret=>exact c
theorem Rel.frzC{H0:Nat→Nat}{X0:Nat→Prop}{E:Env}{H:aw}{β:Nat→Nat}(Y:Rel H0 X0 VE B E H β){b g e O i elem aF es:Nat}{row:List VV}{rows:ak}(hb:aL B b=some (.one e O row))(hi:row[i]?=some (.ac g rows.length es))(hg:aL B g=some (.acc elem aF es rows))(hbg:g≠b):Rel H0 X0 VE ((b,.one e O (row.set i (.d (.cE rows))))::du B g) E H β:=by
 have h:=Y.drop g;have I:∀c s,aL (du B g) c=some s→g≠c∧aL B c=some s:=fun c s z=>by
  rw[mL] at z
  by_cases e:g=c
  ·rw[bh e] at z;cases z
  rw[aZ e] at z;exact⟨e,z⟩
 have Z:aL (du B g) b=some (.one e O row):=by rw[mL,aZ hbg];exact hb
 have U:=lY (s':=.one e O (row.set i (.d (.cE rows)))) Z gS;have hl:e9 H (XB X0 (du B g) β) H (XB X0 ((b,.one e O (row.set i (.d (.cE rows))))::du B g) β):=⟨bq _,fun f _ hx=>⟨fun k=>hx (k.imp id fun⟨c,t,z,ho,h2⟩=>by obtain⟨u,G,L⟩:=U c t z ho;exact⟨c,u,G,L,h2⟩),rfl⟩⟩;have kX:e9 H (XB X0 B β) H (XB X0 ((b,.one e O (row.set i (.d (.cE rows))))::du B g) β):=⟨bq _,fun f _ hx=>⟨fun k=>hx (k.imp id fun⟨c,t,z,ho,h2⟩=>by obtain⟨u,G,L⟩:=U c t z ho;exact⟨c,u,(I c u G).2,L,h2⟩),rfl⟩⟩;have hx:rows≠[]→¬XB X0 ((b,.one e O (row.set i (.d (.cE rows))))::du B g) β (β g):=by
  rintro A(k|⟨c,s,z,pL,h2⟩)
  ·exact(Y.new g _ hg A).1 k
  obtain⟨u,G,L⟩:=U c s z pL;exact(I c u G).1 (Y.inj c g u _ (I c u G).2 hg L A h2).symm
 have Vb:rows≠[]→bH H (XB X0 ((b,.one e O (row.set i (.d (.cE rows))))::du B g) β) (.sl rows) (.slice (β g) rows.length 0 rows.length es):=fun A=>by
  simp only[bH];refine⟨β g,rows.length,0,es,rfl,.inr ⟨hx A,(Y.new g _ hg A).2,0,by simp,dF.oS fun q r hq=>?_⟩⟩;obtain⟨l,z,h2,h3⟩:=(Y.box g _ hg).CT hq;exact⟨l,by rw[fG];exact z,h2,h3.lift kX⟩
 refine⟨h.kY,h.aQ,h.x0,fun c t M ho=>?_,fun c d t u M wu hs ht he=>?_,fun k v hk=>?_,fun c t M=>?_⟩
 ·obtain⟨u,G,L⟩:=U c t M ho;exact h.new c u G L
 ·obtain⟨s1,G,L⟩:=U c t M hs;obtain⟨t1,k3,k4⟩:=U d u wu ht;exact h.inj c d s1 t1 G k3 L k4 he
 ·obtain⟨a,z,h2⟩:=h.env k v hk;exact⟨a,z,h2.lift hl⟩
 rw[dn] at M
 by_cases k:b=c
 ·subst k;rw[bh rfl] at M
  cases M
  obtain⟨l,lo,cs,z,h2,h3,h4⟩:=(h.box b _ Z).lift hl rfl;refine⟨l,lo,cs,z,h2,h3,bb.Va (fun a ha=>?_) hi h4⟩;simp only[aG] at ha⊢;rcases ha with⟨G,rfl⟩|⟨G,rfl⟩
  ·rw[List.length_eq_zero_iff.1 G];simp only[DC.cE,bH]
  have A:rows≠[]:=fun e=>by rw[e] at G;simp at G
  have h5:=Vb A
  cases rows with
  |nil=>exact absurd rfl A
  |cons r0 rs=>exact h5
 rw[aZ k] at M;exact(h.box c t M).lift hl rfl
theorem more_frzC{b g e G:Nat}{row A:List VV}(I:aL B b=some (.one e G row)):∀c t,aL ((b,BS.one e G A)::du B g) c=some t→t.born→∃u,aL B c=some u∧u.born:=fun c t z ho=>by
 rw[dn] at z
 by_cases k:b=c
 ·subst k;exact⟨_,I,trivial⟩
 rw[aZ k,mL] at z
 by_cases e:g=c
 ·rw[bh e] at z;cases z
 rw[aZ e] at z;exact⟨t,z,ho⟩
theorem abg{c:IC}{R:Ex→bo→aT→Prop}(b i g:Nat){e A elem aF es:Nat}{row:List VV}{rows:ak}(G:aL B b=some (.one e A row))(hi:row[i]?=some (.ac g rows.length es))(I:aL B g=some (.acc elem aF es rows))(z:g≠b)(h:VC T c VE ((b,.one e A (row.set i (.d (.cE rows))))::du B g) R):VC T c VE B R:=
 fun H0 X0 E H β L=>(h H0 X0 E H β (L.frzC G hi I z)).mono fun _ _ _ M=>M.more (more_frzC G)
end
def adk(r:List DC):Prop:=∃f g,r[4]?=some (.i .i64 f)∧r[5]?=some (.i .i64 g)∧0≤f∧f≤1000∧g≤1099511627776
def pn(w:ak):Prop:=(w.map gh).Nodup∧∀r,r∈w→adk r
theorem rl:pn []:=⟨List.nodup_nil,fun _ h=>by cases h⟩
theorem pn.filter{w:ak}{p:List DC→Bool}(h:pn w):pn (w.filter p):=⟨h.1.sublist (List.filter_sublist.map gh),fun r z=>h.2 r (List.mem_filter.1 z).1⟩
def fB(v:Int)(w0 w:ak):Prop:=(w.map gh).Sublist ((w0.take v.toNat).map gh)∧∀r,r∈w→adk r
theorem Ac{w0:ak}:fB 0 w0 []:=⟨List.nil_sublist _,fun _ h=>by cases h⟩
theorem fB.step{v:Int}{w0 w:ak}{r r':List DC}(h:fB v w0 w)(O:pn w0)(h0:0≤v)(I:w0[v.toNat]?=some r)(e:gh r'=gh r:=by rfl)(L:r'[4]?=r[4]?:=by rfl)(z:r'[5]?=r[5]?∨∃g,r'[5]?=some (.i .i64 g)∧g≤1099511627776:=by first|exact .inl rfl|exact .inr ⟨_,rfl,ae⟩):fB (v+1) w0 (w++[r']):=by
 rw[fB,show(v+1).toNat=v.toNat+1 by omega,Dl,I,pb,pb];refine⟨h.1.append ?_,fun q A=>?_⟩
 ·rw[UW,jo,jo,e];exact List.Sublist.refl _
 rcases List.mem_append.1 A with A|A
 ·exact h.2 q A
 rcases List.mem_singleton.1 A with rfl
 obtain⟨f,g,M,h2,G⟩:=O.2 r (hZ I);rcases z with z|⟨g',z,U⟩
 ·exact⟨f,g,L.trans M,z.trans h2,G⟩
 exact⟨f,g',L.trans M,z,G.1,G.2.1,U⟩
theorem fB.skip{v:Int}{w0 w:ak}(h:fB v w0 w)(h0:0≤v):fB (v+1) w0 w:=by
 rw[fB,show(v+1).toNat=v.toNat+1 by omega,Dl,pb];exact⟨h.1.trans (List.sublist_append_left _ _),h.2⟩
theorem fB.fin{v:Int}{w0 w:ak}(h:fB v w0 w)(z:pn w0):pn w:=⟨z.1.sublist (h.1.trans ((Mp _ _).map gh)),h.2⟩
def B2(v:Int)(w:ak)(n:Int):Prop:=∀(q:Nat)(r:List DC),(q:Int)<v→w[q]?=some r→gh r<n
theorem ltV_0{w:ak}{n:Int}:B2 0 w n:=fun q _ h=>by omega
theorem B2.step{v n:Int}{w:ak}{r:List DC}(h:B2 v w n)(h0:0≤v)(z:w[v.toNat]?=some r)(A:gh r<n):B2 (v+1) w n:=fun q r' I e=>by
 by_cases G:(q:Int)<v
 ·exact h q r' G e
 have:q=v.toNat:=by omega
 subst this;rw[z] at e;cases e;exact A
def gG(w:ak)(n:Int):Prop:=pn w∧∀r,r∈w→gh r<n
theorem gG.mk{u v n m:Int}{w0 w:ak}(h:fB v w0 w)(z:pn w0)(A:B2 u w0 n)(M:(w0.length:Int)≤u)(O:n≤m):gG w m:=⟨h.fin z,fun r G=>by
 have:gh r∈w0.map gh:=(Mp _ _).map gh|>.subset (h.1.subset (List.mem_map_of_mem G));obtain⟨r0,h0,e⟩:=List.mem_map.1 this;obtain⟨q,I,L⟩:=List.mem_iff_getElem.1 h0;have:=A q r0 ah (by rw[c7 I,L])
 omega⟩
theorem gG.step{n m f g:Int}{w:ak}{r:List DC}(h:gG w n)(Y:gh r=n)(G:r[4]?=some (.i .i64 f))(A:0≤f∧f≤1000)(I:r[5]?=some (.i .i64 g))(L:g≤1099511627776)(Z:m=n+1):gG (w++[r]) m:=by
 refine⟨⟨?_,fun q z=>?_⟩,fun q z=>?_⟩
 ·rw[pb,jo,AB];refine List.nodup_append.2 ⟨h.1.1,by simp,fun a M b O e=>?_⟩;obtain⟨x,U,rfl⟩:=List.mem_map.1 M;have:=h.2 x U;have:=List.mem_singleton.1 O;omega
 ·rcases List.mem_append.1 z with z|z
  ·exact h.1.2 q z
  rcases List.mem_singleton.1 z with rfl
  exact⟨f,g,G,I,A.1,A.2,L⟩
 rcases List.mem_append.1 z with z|z
 ·have:=h.2 q z;omega
 rcases List.mem_singleton.1 z with rfl;omega
theorem gG.fin{n:Int}{w:ak}(h:gG w n):pn w:=h.1
end Go.Ev
namespace Go.Ev.Rp
open Go Go.Ev.Pp
structure FT(T:aN):Prop where
 q3:T.ft.get 3=some i3
 q5:T.ft.get 5=some i5
 q6:T.ft.get 6=some i6
 q7:T.ft.get 7=some i7
 q9:T.ft.get 9=some i9
 q10:T.ft.get 10=some i10
 q11:T.ft.get 11=some i11
 q12:T.ft.get 12=some i12
 q15:T.ft.get 15=some i15
 q16:T.ft.get 16=some i16
 q17:T.ft.get 17=some i17
 q18:T.ft.get 18=some i18
 q19:T.ft.get 19=some i19
 q20:T.ft.get 20=some i20
 q21:T.ft.get 21=some i21
 q22:T.ft.get 22=some i22
 q23:T.ft.get 23=some i23
 q25:T.ft.get 25=some i25
 q26:T.ft.get 26=some i26
 q27:T.ft.get 27=some i27
 q31:T.ft.get 31=some i31
 q32:T.ft.get 32=some i32
 q33:T.ft.get 33=some i33
 q34:T.ft.get 34=some i34
 q35:T.ft.get 35=some i35
 q36:T.ft.get 36=some i36
 q37:T.ft.get 37=some i37
 q38:T.ft.get 38=some i38
 Xc:T.ft.get 39=some i39
 q40:T.ft.get 40=some i40
 q41:T.ft.get 41=some i41
 q42:T.ft.get 42=some i42
 q43:T.ft.get 43=some i43
 q44:T.ft.get 44=some i44
 q54:T.ft.get 54=some i54
 q55:T.ft.get 55=some i55
 q56:T.ft.get 56=some i56
 q64:T.ft.get 64=some i64
 q65:T.ft.get 65=some i65
 q66:T.ft.get 66=some i66
 q67:T.ft.get 67=some i67
 q68:T.ft.get 68=some i68
 q69:T.ft.get 69=some i69
 q70:T.ft.get 70=some i70
 q71:T.ft.get 71=some i71
 q72:T.ft.get 72=some i72
 q73:T.ft.get 73=some i73
 q74:T.ft.get 74=some i74
 q75:T.ft.get 75=some i75
 q76:T.ft.get 76=some i76
 q77:T.ft.get 77=some i77
 q78:T.ft.get 78=some i78
 q79:T.ft.get 79=some i79
 q80:T.ft.get 80=some i80
 q81:T.ft.get 81=some i81
 q82:T.ft.get 82=some i82
 q83:T.ft.get 83=some i83
 q84:T.ft.get 84=some i84
 q85:T.ft.get 85=some i85
 q86:T.ft.get 86=some i86
 q87:T.ft.get 87=some i87
 q88:T.ft.get 88=some i88
 q89:T.ft.get 89=some i89
 ais:T.ft.get 115=some i115
 q116:T.ft.get 116=some i116
 q117:T.ft.get 117=some i117
 ait:T.ft.get 118=some i118
 Vc:T.ft.get 119=some i119
 q120:T.ft.get 120=some i120
 q121:T.ft.get 121=some i121
 q124:T.ft.get 124=some i124
 q125:T.ft.get 125=some i125
 q126:T.ft.get 126=some i126
 q127:T.ft.get 127=some i127
 q128:T.ft.get 128=some i128
 q129:T.ft.get 129=some i129
 q130:T.ft.get 130=some i130
 q131:T.ft.get 131=some i131
 q132:T.ft.get 132=some i132
 q133:T.ft.get 133=some i133
 q134:T.ft.get 134=some i134
 q135:T.ft.get 135=some i135
 q136:T.ft.get 136=some i136
 q137:T.ft.get 137=some i137
 q138:T.ft.get 138=some i138
 aiu:T.ft.get 139=some i139
 q140:T.ft.get 140=some i140
 q141:T.ft.get 141=some i141
 q142:T.ft.get 142=some i142
 q143:T.ft.get 143=some i143
 q144:T.ft.get 144=some i144
 q145:T.ft.get 145=some i145
 q146:T.ft.get 146=some i146
 q147:T.ft.get 147=some i147
 q148:T.ft.get 148=some i148
 q149:T.ft.get 149=some i149
 q150:T.ft.get 150=some i150
 q151:T.ft.get 151=some i151
 q152:T.ft.get 152=some i152
 q153:T.ft.get 153=some i153
 q154:T.ft.get 154=some i154
 aiv:T.ft.get 155=some i155
 q156:T.ft.get 156=some i156
 aiw:T.ft.get 206=some i206
 q207:T.ft.get 207=some i207
 q208:T.ft.get 208=some i208
 q209:T.ft.get 209=some i209
 q212:T.ft.get 212=some i212
 q214:T.ft.get 214=some i214
 q215:T.ft.get 215=some i215
 q216:T.ft.get 216=some i216
 aix:T.ft.get 223=some i223
 q224:T.ft.get 224=some i224
 q225:T.ft.get 225=some i225
 q226:T.ft.get 226=some i226
 q227:T.ft.get 227=some i227
 q228:T.ft.get 228=some i228
 q229:T.ft.get 229=some i229
 q230:T.ft.get 230=some i230
 q231:T.ft.get 231=some i231
 q232:T.ft.get 232=some i232
 aiy:T.ft.get 233=some i233
 aiz:T.ft.get 234=some i234
 q235:T.ft.get 235=some i235
 aiA:T.ft.get 308=some i308
 q317:T.ft.get 317=some i317
 aiB:T.ft.get 321=some i321
 q322:T.ft.get 322=some i322
 q323:T.ft.get 323=some i323
 q324:T.ft.get 324=some i324
 q325:T.ft.get 325=some i325
 q326:T.ft.get 326=some i326
 q327:T.ft.get 327=some i327
 q328:T.ft.get 328=some i328
 q329:T.ft.get 329=some i329
 q330:T.ft.get 330=some i330
 q331:T.ft.get 331=some i331
 q332:T.ft.get 332=some i332
 q333:T.ft.get 333=some i333
 aiC:T.ft.get 334=some i334
 q335:T.ft.get 335=some i335
 q342:T.ft.get 342=some i342
 q343:T.ft.get 343=some i343
 q344:T.ft.get 344=some i344
 q345:T.ft.get 345=some i345
 q346:T.ft.get 346=some i346
 q347:T.ft.get 347=some i347
 q348:T.ft.get 348=some i348
 q349:T.ft.get 349=some i349
 aiD:T.ft.get 350=some i350
 q382:T.ft.get 382=some i382
 q416:T.ft.get 416=some i416
 q417:T.ft.get 417=some i417
 q418:T.ft.get 418=some i418
 q419:T.ft.get 419=some i419
 q420:T.ft.get 420=some i420
 q421:T.ft.get 421=some i421
 aiE:T.ft.get 422=some i422
 q423:T.ft.get 423=some i423
 q424:T.ft.get 424=some i424
 aiF:T.ft.get 425=some i425
 q426:T.ft.get 426=some i426
 q427:T.ft.get 427=some i427
 q428:T.ft.get 428=some i428
 aiG:T.ft.get 429=some i429
 q434:T.ft.get 434=some i434
 q435:T.ft.get 435=some i435
 q514:T.ft.get 514=some i514
 q515:T.ft.get 515=some i515
 q516:T.ft.get 516=some i516
 q517:T.ft.get 517=some i517
 q518:T.ft.get 518=some i518
 q519:T.ft.get 519=some i519
 q520:T.ft.get 520=some i520
 q521:T.ft.get 521=some i521
 q522:T.ft.get 522=some i522
 q524:T.ft.get 524=some i524
 q525:T.ft.get 525=some i525
 q577:T.ft.get 577=some i577
 q578:T.ft.get 578=some i578
def br:List Ty:=[tJ]
def cC:List Ty:=[tJ,tJ,.s 1000]
def mw:List Ty:=[.i .i64 1 12,.s 1000,tJ]
def en:List Ty:=[tJ,tJ,.l 13 mw]
def eD:List Ty:=[.e (DC.sl [[DC.i .i64 1]]),.s 1000,.e (DC.sl [[DC.i .i64 1]])]
def ee:List Ty:=[tJ,.l 200 br]
def jK:List Ty:=[tJ,.l 1000000000 cC,tJ,tJ,tJ,tJ]
def je:List Ty:=[.i .i64 1 4,tJ,tJ]
def qb:List Ty:=[tJ,tJ,tJ]
def ew:List Ty:=[.i .i64 0 100,.i .i64 0 100,.i .i64 0 100,.i .i64 0 100,tJ,tJ,.s 1000]
def Vd:List Ty:=[.s 10]
def jr:List Ty:=[.l 1000000000 cC,tJ,tJ,.l 200 br]
def qo:List Ty:=[.l 1000000000 cC,.l 0 br]
def ey:List Ty:=[tJ,tJ]
def yB:List Ty:=[.l 1000000000 cC,.x,.l 0 br]
def my:List Ty:=[tJ,tJ,.l 1000000000 br]
def aiH(n:Nat)(d:DC):Prop:=∃w,aA w d∧w.length≤n∧af jK w∧pn w
def fF(nv mv:Nat):List Ty:=[.s 1000,.l nv en,.l 200 br,.l 4 eD,.l 4 ee,.q (aiH mv)]
def MH:List Ty:=[tJ,.s 1000,.l 1000000000 cC,tJ,tJ,.l 100 ew,tJ,.l 10 ey,.s 1000,.l 100 en,.l 200 br,.l 4 eD,.l 4 ee,tJ,.s 1000,tJ]
def OW:List Ty:=[.i .u16 0 65535,.i .u16 0 65535,.i .u16 0 65535,.i .u16 0 65535,.i .u16 0 65535,.i .u16 0 65535,.i .u16 0 65535,.i .u16 0 65535,.i .u16 0 65535]
def TK:List Ty:=[tJ,.s 1000,tJ]
def afK:List Ty:=[.l 1000000000 cC,.l 1000000000 br]
def yC:List Ty:=[.s 1000,.l 200 br]
def o0:List Ty:=[tJ,tJ,tJ,tJ,.s 1000,.l 4096 afK]
theorem HV:af [.i .i64 1 1] [[.i .i64 1]]:=dr (aj ai bg)
theorem tg:af br [[.i .i64 1]]:=dr (aj ai bg)
end Go.Ev.Rp
