/- Part 7 of rules for walks through the code of a program, and of such walks; what each part proves is said by its theorems. -/
import Derived.Test.YtijnechfhdlgiaaGreatDoorS6
import Derived.Lib.Bytealg
import Derived.Laws.StandIn
set_option linter.unusedVariables false
set_option linter.unusedSimpArgs false
noncomputable section
set_option maxRecDepth 100000
set_option maxHeartbeats 4000000
namespace Go.Ev
structure Kept(w w':World):Prop where
 os:w'.os=w.os
 tape:w'.tape=w.tape
 output:w'.output=w.output
 size:w.heap.size≤w'.heap.size
 pY:∀b,b<w.heap.size→w'.heap[b]?=w.heap[b]?
section
variable{ρ:Ho}{C:Nat→Option et}{w w':World}
theorem R.kept(z:R ρ C w)(hk:Kept w w'):R ρ C w':=
 ⟨fun f o ho g h A=>(z.obj f o ho g h A).jo (Ho.le_refl _) (hk.pY _ (z.kB f g h A)),z.oV,fun f g h A=>m9 (z.kB f g h A) hk.size,z.uniq,fun f g h A a b=>(z.nf f g h A a b).jo (cell_of_heap (w:=w) (hk.pY _ (z.kB f g h A)))⟩
theorem Kept.ext(hk:Kept w w')(W:Nat→Prop)(n:Nat)(ρ:Ho):Ext W n n ρ ρ w w':=
 ⟨Ho.le_refl _,fun _ g h e=>.inl ⟨g,h,e⟩,fun _ _ _ e=>.inl e,fun b z _=>hk.pY b z,hk.size,bR _,hk.os,hk.tape,hk.output⟩
end
section
variable{P:Program}{nt:Nat}{ρ:Ho}{E E':Env}{H H' H1:aE}{C:Nat→Option et}{w:World}{a:Act}{call:fc}{lf:Nat}
theorem LP:∀(ks:List Key)(l:List ax)(E:Env)(c:Env→aH)(v:ax)(H':aE),params ks l E c= .ok v H'→
  ks.length=l.length∧∃E',c E'= .ok v H'∧∀t x,E'.get t=some x→E.get t=some x∨∃i:Nat,ks[i]?=some t∧l[i]?=some x
 |[],[],E,c,v,H',h=>⟨rfl,E,h,fun t x A=>.inl A⟩
 |[],_::_,E,c,v,H',h=>by cases h
 |_::_,[],E,c,v,H',h=>by cases h
 |k::ks,y::l,E,c,v,H',h=>by
  have h:E.gV k y (fun E=>params ks l E c)= .ok v H':=h
  rw[T4.kG] at h
  obtain⟨G,E',h2,I⟩:=LP ks l _ _ _ _ h
  refine⟨by simp[G],E',h2,fun t x A=>?_⟩
  rcases I t x A with z|⟨i,z,J⟩
  ·rw[T4.eY] at z
   split at z
   ·rename_i e
    subst e
    cases z
    exact .inr ⟨0,rfl,rfl⟩
   exact .inl z
  exact .inr ⟨i+1,by simpa using z,by simpa using J⟩
theorem AR.init{args:List ax}{cm:Array Value}(A:cP ρ args cm.toList)(Y:args.length≤nt)(I:vE P ρ){E':Env}{n:Nat}(J:n≤1296)
  (K:∀t x,E'.get t=some x→T4.emp.get t=some x∨∃i:Nat,((List.range n).map pk)[i]?=some t∧args[i]?=some x):
  AR P ρ nt E' {tmps:=cm++Array.replicate (nt-cm.size) undef,defers:=[]}:=by
 have Z:cm.size=args.length:=by have:=A.length;simpa using this
 refine⟨by simp;omega,rfl,fun t v h=>?_,I⟩
 rcases K t v h with h|⟨i,G,h2⟩
 ·rw[T4.tg] at h;cases h
 obtain⟨y,O,z⟩:=A.get _ v h2
 refine⟨y,?_,z⟩
 have hi:i<n:=by
  have:=(List.getElem?_eq_some_iff.1 G).1
  simpa using this
 have U:pk i=t:=by simpa[hi] using G
 have hk:t.n=i:=by rw[←U];exact xp ah
 have:i<cm.size:=by
  have:=(List.getElem?_eq_some_iff.1 h2).1
  omega
 rw[hk,F2 this]
 simpa using O
def Ai(tmps:Array Value):ResultVar→Sem Value
 |.tmp t=>pure (tmps.getD t undef)
 |.cell a t=>do loadVar t (←asAddr (tmps.getD a undef))
theorem Tj(fn:Func)(tmps:Array Value):Go.results fn tmps=(do
  let vs←fn.results.mapM (Ai tmps)
  pure (if h:vs.size=1 then vs[0] else .tuple vs)):=by
 unfold Go.results
 congr 2
theorem Nh{tmps:Array Value}{t:Nat}{cv:Value}(h:tmps[t]?=some cv):tmps.getD t undef=cv:=by
 simp[vR,h]
theorem VJ(hA:AR P ρ nt E a)(hR:R ρ C w)(hK:kH ρ C H){r:ResultVar}{rs:List ml}{ir:ml}(z:nU P (r::[])=some [ir]){k:ax→aH}{e:Nat}{v:ax}(h:Ae E H ir (.err e) k= .ok v H'):
  ∃x J,(Ai a.tmps r).run P w= .ok J w∧VR ρ x J∧k x= .ok v H':=by
 cases r with
 |tmp t=>
  simp only[nU] at z
  split at z
  case isFalse=>cases z
  rename_i ht
  simp only[ia,Aa,and_true] at z
  subst z
  replace h:=jP (o:=E.get (pk t)) h
  obtain⟨x,I,h⟩:=h
  obtain⟨cv,K,h2⟩:=hA.tmp (pk t) x I
  rw[xp ht] at K
  exact⟨x,cv,by simp[Ai,Nh K],h2,h⟩
 |cell s t=>
  simp only[nU] at z
  split at z
  ·rename_i l n U hn
   cases U
   split at z
   case isFalse=>cases z
   rename_i G
   simp only[ia,Aa,and_true] at z
   subst z
   replace h:=jP (o:=E.get (pk s)) h
   obtain⟨x,I,h⟩:=h
   replace h:=wH h;obtain⟨f,g,off,rfl,h⟩:=h
   obtain⟨l,U,h⟩:=IY h (by simp)
   obtain⟨cv,K,h2⟩:=hA.tmp (pk s) _ I
   rw[xp G] at K
   simp only[VR] at h2
   obtain⟨hm,hh,rfl⟩:=h2
   obtain⟨_,_,_,_,_,rI⟩:=uQ hn
   have Y:C f=H.t.get f:=by
    obtain⟨_,_,_,_,_,_,_,_,hg,_⟩:=U
    exact(hK f _ ⟨_,_,hh⟩ hg).trans hg.symm
   obtain⟨hlen,hk,hc⟩:=hR.rd U Y hh ah
   have key:∀x,jf (qu P t) l (.err 0) (fun v=>.ok v H)= .ok x H→k x= .ok v H'→∃x J,(Ai a.tmps (.cell s t)).run P w= .ok J w∧VR ρ x J∧k x= .ok v H':=by
    intro x I Z
    obtain⟨_,cv,O,uo⟩:=KV (P:=P) (ρ:=ρ) (w:=w) (ad:=⟨hm.ct,hm.off+off,none⟩) hn hlen hk (fun j x I=>by rw[Addr.add_lit];exact hc j x I) I
    exact⟨x,cv,by simp[Ai,Nh K,asAddr,O],uo,Z⟩
   rcases HR h with⟨A,h⟩|⟨x,A,o7,h⟩
   ·exact key _ (by rw[A];rfl) h
   exact key x (by rw[A,o7];rfl) h
  cases z
theorem Mw(Z:AR P ρ nt E a)(hR:R ρ C w)(hK:kH ρ C H){e:Nat}{v:ax}:∀{l:List ResultVar}{rs:List ml}(z:nU P l=some rs){k:List ax→aH},vC E H rs (.err e) k= .ok v H'→
  ∃vs oc,(l.mapM (Ai a.tmps)).run P w= .ok oc w∧cP ρ vs oc∧k vs= .ok v H'
 |[],rs,z,k,h=>by
  cases z
  exact⟨[],[],by simp,by simp only[cP],h⟩
 |r::l,rs,z,k,h=>by
  have A:∃I G,rs=I::G∧nU P [r]=some [I]∧nU P l=some G:=by
   cases r with
   |tmp t=>
    unfold nU at z
    split at z
    ·rename_i J K
     split at z
     ·rename_i O;cases z;exact⟨_,J,rfl,by simp[nU,O],K⟩
     cases z
    cases z
   |cell s t=>
    unfold nU at z
    split at z
    ·rename_i J n K hn
     split at z
     ·rename_i O;cases z;exact⟨_,J,rfl,by simp[nU,hn,O],K⟩
     cases z
    cases z
  obtain⟨I,G,rfl,h1,h2⟩:=A
  have h:Ae E H I (.err e) (fun v=>vC E H G (.err e) fun vs=>k (v::vs))= .ok v H':=h
  obtain⟨x,cx,hx,U,h⟩:=VJ Z hR hK (rs:=[]) h1 h
  obtain⟨vs,oc,hm,Y,h⟩:=Mw Z hR hK h2 h
  exact⟨x::vs,cx::oc,by simp[hx,hm],⟨cx,oc,rfl,U,Y⟩,h⟩
theorem SP(G:AR P ρ nt E a)(I:R ρ C w)(J:kH ρ C H){fn:Func}{rs:List ml}(K:nU P fn.results.toList=some rs){v:ax}(h:results E H rs= .ok v H'):
  H'=H∧∃cv,(Go.results fn a.tmps).run P w= .ok cv w∧VR ρ v cv:=by
 obtain⟨vs,oc,A,z,h⟩:=Mw (P:=P) (e:=70) G I J K h
 rw[Tj]
 cases vs with
 |nil=>
  cases h
  simp only[cP] at z
  subst z
  refine⟨rfl,.tuple #[],by simp[IF,A],?_⟩
  simp only[VR]
  exact⟨#[],rfl,by simp only[cP]⟩
 |cons x r=>
  cases r with
  |nil=>
   cases h
   simp only[cP] at z
   obtain⟨c,t,rfl,O,rfl⟩:=z
   exact⟨rfl,c,by simp[IF,A],O⟩
  |cons y s=>
   cases h
   refine⟨rfl,.tuple oc.toArray,?_,?_⟩
   ·have U:=z.length
    have:¬oc.length=1:=by simp at U;omega
    simp[IF,A,this]
   simp only[VR]
   exact⟨oc.toArray,rfl,by simpa using z⟩
theorem Ni{g:Func}{fn:bH}(h:xz P g=some fn):∃c,g.body=some c∧nU P g.results.toList=some fn.res∧(∃n,n≤g.ntmps∧n≤1296∧fn.ps=(List.range n).map pk)∧fn.nt=g.ntmps∧fn.body=l6 P g.ntmps c∧(g.name== "runtime.NumGoroutine")=false:=by
 unfold xz at h
 split at h
 ·rename_i c rs A G
  split at h
  ·rename_i z
   cases h
   exact⟨c,A,G,⟨_,z.1,z.2.1,rfl⟩,rfl,rfl,z.2.2⟩
  cases h
 cases h
theorem Nj{fn:bH}{args:List ax}{v:ax}(h:t6 call lf fn args H= .ok v H'):
  fn.ps.length=args.length∧∃E' x E1 H1,(∀t y,E'.get t=some y→T4.emp.get t=some y∨∃i:Nat,fn.ps[i]?=some t∧args[i]?=some y)∧fn.body.ev call lf E' H= .ok x E1 H1∧(x= .normal∨x= .ret)∧results E1 H1 fn.res= .ok v H':=by
 obtain⟨A,E',h2,G⟩:=LP fn.ps args .emp _ _ _ h
 refine⟨A,E',?_⟩
 cases z:fn.body.ev call lf E' H with
 |err n=>rw[z] at h2;cases h2
 |ok x E1 H1=>
  rw[z] at h2
  refine⟨x,E1,H1,G,rfl,?_⟩
  cases x with
  |normal=>exact⟨.inl rfl,h2⟩
  |exit id=>cases h2
  |ret=>exact⟨.inr rfl,h2⟩
theorem PS.rd{H:aE}{f g off n:Nat}{e:aH}{k:List ax→aH}(h:∀x,PS H (k x))(h':PS H e):PS H (rd H f g off n e k):=
 PS.jt (fun _ _ _ _ _ _ _=>PS.aJ (PS.aJ (PS.aJ (PS.aJ (PS.ob (fun _=>PS.aJ (h _) (h _)) h') h') h') h') h') h'
theorem KQ{rs:List ml}{v:ax}(h:results E H rs= .ok v H'):H'=H:=by
 have key:∀(rs:List ml)(k:List ax→aH),(∀vs,PS H (k vs))→PS H (vC E H rs (.err 70) k):=by
  intro rs
  induction rs with
  |nil=>intro k hk;exact hk []
  |cons r rs A=>
   intro k hk
   show PS H (Ae E H r (.err 70) fun v=>vC E H rs (.err 70) fun vs=>k (v::vs))
   have z:∀v,PS H (vC E H rs (.err 70) fun vs=>k (v::vs)):=fun v=>A _ fun vs=>hk _
   cases r with
   |tmp t=>exact PS.ob (fun x=>z x) PS.err
   |cell s n g=>exact PS.ob (fun x=>PS.iW (fun _ _ _=>PS.rd (fun _=>PS.jf (fun x=>z x) PS.err) PS.err) PS.err) PS.err
 exact key rs _ (fun vs=>by
  cases vs with
  |nil=>exact PS.ok
  |cons x r=>cases r<;>exact PS.ok) v H' h
def HU(P:Program)(ft:Tr bH):Prop:=∀f fn,ft.get f=some fn→∃g,P.funcs[f]?=some g∧xz P g=some fn
theorem Lj(hc:kZ P call)(A:P.follows .mixedOrders=true){f:Nat}{g:Func}{fn:bH}(hf:P.funcs[f]?=some g)(hg:xz P g=some fn){args:List ax}{v:ax}{cm:Array Value}
  (h:t6 call lf fn args H= .ok v H') (hm:H.bj≤H.next) (O:WF H) (hR:R ρ C w) (hK:kH ρ C H) (hF:iQ ρ H.next H'.next) (hG:vE P ρ) (hv:cP ρ args cm.toList):
  Calls P f cm w fun e w'=>∃cv,e= .returned cv∧ez ρ C w H v H' cv w':=by
 obtain⟨c,hb,hr,⟨np,U,G,Y⟩,hnt,z,_⟩:=Ni hg
 obtain⟨hlen,E',x,E1,H1,hE,h1,hx,h2⟩:=Nj h
 have he:=KQ h2
 subst he
 rw[Y] at hE hlen
 have hA:AR P ρ g.ntmps E' {tmps:=cm++Array.replicate (g.ntmps-cm.size) undef,defers:=[]}:=AR.init hv (by rw[←hlen];simpa using U) hG G hE
 rw[z] at h1
 refine calls_of_wp hf hb (wz hc A c _ H x E1 H' ρ C _ w _ h1 hA hR hK hF hm O fun a1 Z ρ1 I wk J C8=>?_)
 obtain⟨_,cv,K,uo⟩:=SP I J C8 hr h2
 have fin:a1.defers=[]∧∃v,(Go.results g a1.tmps).run P Z= .ok v Z∧∃cv,Ending.returned v= .returned cv∧ez ρ C w H ‹ax› H' cv Z:=⟨I.defers,cv,K,cv,rfl,ρ1,uo,wk,J⟩
 rcases hx with rfl|rfl
 ·exact fin
 exact fin
def HV:Nat→Option (Array Value→Sem Value)
 |0=>some Extern.BytealgIndexByte.indexByte
 |1=>some Extern.AbiNoEscape.same
 |_=>none
def Og(P:Program)(f:Nat):Prop:=∀w:World,zO P w→
 ((callFunc f #[]).run P w= .ok (.enter f #[]) w∧Calls P f #[] w fun e w'=>e= .returned (.bool true)∧Kept w w')∨∃w',(callFunc f #[]).run P w= .ok (.value (.bool true)) w'∧Kept w w'
def Ip(P:Program)(f:Nat)(args:Array Value)(w:World)(Q:Value→Prop):Prop:=
 (callFunc f args).run P w= .ok (.enter f args) w∧Calls P f args w fun e w'=>∃v,e= .returned v∧Q v∧Kept w w'
def W8(P:Program)(f:Nat):Prop:=∀(s:ByteArray)(u:Nat)(w:World),s.size≤1000→Lib.parseUintB 64 s.data.toList= .ok u→
 Ip P f #[.string s,.int .i64 10,.int .i64 64] w fun v=>v= .tuple #[.int .u64 u,.nilIface]
def X9(P:Program)(f g t:Nat):Prop:=∀(s:ByteArray)(w:World),s.size≤1000→
 (∀v,Lib.parseIntB 64 s.data.toList= .ok v→Ip P f #[.string s,.int .i64 10,.int .i64 64] w fun x=>x= .tuple #[.int .i64 v,.nilIface])∧
 (Lib.parseIntB 64 s.data.toList= .range→(∃z A,w.cell? ⟨g,0,none⟩=some (.iface z A))→Ip P f #[.string s,.int .i64 10,.int .i64 64] w fun x=>∃a:Addr,x= .tuple #[.int .i64 (Lib.intSat 64 s.data.toList),.iface t (.pointer (some a))])
def Ya(P:Program)(f c:Nat):Prop:=∃fn,P.funcs[f]?=some fn∧(fn.name== "runtime.NumGoroutine")=false∧fn.body.isNone=true∧Extern.findNext fn=none∧∃e,HV c=some e∧Extern.find fn=some e
def PJ(P:Program)(xt:Tr Nat):Prop:=∀f c,xt.get f=some c→Ya P f c∨(c=2∧Og P f)∨(c=3∧W8 P f)∨∃g t,c=4+t∧g<P.globals.size∧Af P g=true∧X9 P f g t
theorem HW(c:UInt8):∀(l:List UInt8)(i:Nat),CF c.toNat l.length (pack l) i=if Lib.indexByte l c= -1 then-1 else Lib.indexByte l c+i
 |[],i=>rfl
 |b::l,i=>by
  show aJ (Nat.beq (Nat.mod (pack (b::l)) 256) c.toNat) (Int.ofNat i) (dz (Nat.div (pack (b::l)) 256) fun s=>dz (Nat.succ i) fun i=>CF c.toNat l.length s i)=_
  have e1:Nat.mod (pack (b::l)) 256=b.toNat:=by
   have:=DJ (b::l) 1
   simp only[Cr] at this
   rw[show Nat.mod (pack (b::l)) 256=pack (b::l) % 256 from rfl,this]
   simp[pack]
  have e2:Nat.div (pack (b::l)) 256=pack l:=by
   have:=DI (b::l) 1
   simp only[Cr] at this
   exact this
  rw[e1,e2,iG,iG,HW c l (i+1)]
  have I:=Lib.indexByte_ge l c
  by_cases z:b=c
  ·subst z
   rw[show Nat.beq b.toNat b.toNat=true from jl _,gi]
   simp[Lib.indexByte]
  have:Nat.beq b.toNat c.toNat=false:=by
   cases h:Nat.beq b.toNat c.toNat
   ·rfl
   exact absurd (UInt8.toNat_inj.1 (eH h)) z
  rw[this]
  show(if Lib.indexByte l c= -1 then(-1:Int) else Lib.indexByte l c+((i+1:Nat):Int))=_
  have A:(b==c)=false:=by simpa using z
  rw[show Lib.indexByte (b::l) c=if(b==c)=true then 0 else if(Lib.indexByte l c== -1)=true then-1 else Lib.indexByte l c+1 from rfl,A]
  by_cases G:Lib.indexByte l c= -1
  ·simp[G]
  have h2:(Lib.indexByte l c== -1)=false:=by simpa using G
  have J:¬(Lib.indexByte l c+1= -1):=by omega
  rw[al G,h2]
  simp only[qN,if_false,al J]
  omega
theorem W9(hR:R ρ C w){c:Nat}{e:Array Value→Sem Value}(he:HV c=some e){args:List ax}{cm:Array Value}(z:cP ρ args cm.toList){v:ax}(h:rB c args H= .ok v H'):
  H'=H∧∃cv,(e cm).run P w= .ok cv w∧VR ρ v cv:=by
 unfold HV at he
 split at he
 ·cases he
  have h:G7 args H= .ok v H':=h
  cases args with
  |nil=>cases h
  |cons x r=>cases r with
   |nil=>cases h
   |cons y r=>
    have h:j7 x (.err 90) (fun l s=>gU y (.err 90) fun k c=>jc c (.err 90) fun c=>aJ (Nat.beq (dO k) 4) (aJ (Nat.ble c 255) (aJ (Nat.beq (jI (y::r)) 1) (lR (CF c l s 0) fun i=>aH.ok (.int .i64 i) H) (.err 90)) (.err 90)) (.err 90))= .ok v H':=h
    replace h:=yb h;obtain⟨l,s,rfl,h⟩:=h
    replace h:=ta h;obtain⟨k,c0,rfl,h⟩:=h
    replace h:=wI h;obtain⟨c,rfl,h⟩:=h
    replace h:=gp h;obtain⟨G,h⟩:=h
    replace h:=gp h;obtain⟨K,h⟩:=h
    replace h:=gp h;obtain⟨A,h⟩:=h
    rw[sZ] at h
    cases h
    rw[pA] at A
    have A:=eH A
    have U:r=[]:=by simpa using A
    subst U
    have K:=b0 K
    have G:=eH G
    simp only[cP,VR] at z
    obtain⟨_,_,e1,⟨b,rfl,rfl,rfl⟩,_,_,rfl,rfl,rfl⟩:=z
    have hk:k= .u8:=by cases k<;>simp[dO] at G<;>rfl
    subst hk
    have I:cm=#[.string b,.int .u8 (Int.ofNat c)]:=by have:=congrArg List.toArray e1;simpa using this
    subst I
    refine⟨rfl,_,Lib.run_indexByteString (P:=P) b (Int.ofNat c) w,?_⟩
    simp only[VR]
    have J:(c.toUInt8).toNat=c:=by show(UInt8.ofNat c).toNat=c;rw[F4];omega
    have:=HW c.toUInt8 b.data.toList 0
    rw[J] at this
    have Y:b.data.toList.length=b.size:=nW
    rw[Y] at this
    rw[this]
    congr 1
    have e:(Int.ofNat c).toNat.toUInt8=c.toUInt8:=rfl
    rw[e]
    split
    ·rename_i Z;exact Z
    simp
 ·cases he
  have h:IU args H= .ok v H':=h
  cases args with
  |nil=>cases h
  |cons x r=>cases r with
   |cons y r=>cases h
   |nil=>
    cases h
    simp only[cP] at z
    obtain⟨O,_,e1,hx,rfl⟩:=z
    have I:cm=#[O]:=by have:=congrArg List.toArray e1;simpa using this
    subst I
    exact⟨rfl,O,rfl,hx⟩
 cases he
theorem A1:∀l:List UInt8,pU l.length (pack l)=l
 |[]=>rfl
 |b::l=>by
  have e1:pack (b::l) % 256=b.toNat:=by
   have:=DJ (b::l) 1
   simp only[Cr] at this
   rw[this]
   simp[pack]
  have e2:pack (b::l)/256=pack l:=by
   have:=DI (b::l) 1
   simp only[Cr] at this
   exact this
  show UInt8.ofNat (pack (b::l) % 256)::pU l.length (pack (b::l)/256)=_
  rw[e1,e2,A1 l]
  simp
theorem TZ{c:Nat}{args:List ax}:PS H (Qg c args H):=by
 intro v H1 h
 cases c with
 |zero=>
  have h:vD args H= .ok v H1:=h
  unfold vD at h
  split at h
  ·split at h
   ·split at h
    ·cases h;rfl
    cases h
   cases h
  cases h
 |succ c=>
  have h:t7 c args H= .ok v H1:=h
  unfold t7 at h
  split at h
  ·split at h
   ·split at h
    ·cases h;rfl
    ·cases h;rfl
    cases h
   cases h
  cases h
theorem UE{c:Nat}{args:List ax}:PS H (rB c args H):=by
 cases c with
 |zero=>
  show PS H (G7 args H)
  cases args with
  |nil=>exact PS.err
  |cons x r=>cases r with
   |nil=>exact PS.err
   |cons y r=>exact PS.j7 (fun _ _=>PS.gU (fun _ _=>PS.jc (fun _=>PS.aJ (PS.aJ (PS.aJ (PS.lR fun _=>PS.ok) PS.err) PS.err) PS.err) PS.err) PS.err) PS.err
 |succ c=>cases c with
  |zero=>
   show PS H (IU args H)
   cases args with
   |nil=>exact PS.err
   |cons x r=>cases r with
    |nil=>exact PS.ok
    |cons y r=>exact PS.err
  |succ c=>cases c with
   |zero=>
    show PS H (IV args H)
    cases args with
    |nil=>exact PS.ok
    |cons x r=>exact PS.err
   |succ c=>exact TZ
theorem Xa(z:R ρ C w)(I:vE P ρ):zO P w:=fun g J=>by
 obtain⟨x,A,K,ho,hp⟩:=I g J
 refine⟨by have:=z.kB g 1 x A;omega,fun h=>?_⟩
 obtain⟨O,U,G⟩:=(z.nf _ _ _ A (hp h).1 (hp h).2).2
 rw[K,ho] at G
 exact⟨O,U,G⟩
theorem UF{args:List ax}{v:ax}(h:vD args H= .ok v H'):∃l s u,args=[.str l s,.int .i64 10,.int .i64 64]∧l≤1000∧Lib.parseUintB 64 (pU l s)= .ok u∧v= .tuple [.int .u64 u,.il]∧H'=H:=by
 unfold vD at h
 split at h
 ·split at h
  ·rename_i z
   obtain⟨rfl,rfl,rfl,rfl,A⟩:=z
   split at h
   ·rename_i G;cases h;exact⟨_,_,_,rfl,A,G,rfl,rfl⟩
   cases h
  cases h
 cases h
theorem VK{t:Nat}{args:List ax}{v:ax}(h:t7 t args H= .ok v H'):∃l s,args=[.str l s,.int .i64 10,.int .i64 64]∧l≤1000∧H'=H∧
  ((∃u,Lib.parseIntB 64 (pU l s)= .ok u∧v= .tuple [.int .i64 u,.il])∨(Lib.parseIntB 64 (pU l s)= .range∧v= .tuple [.int .i64 (Lib.intSat 64 (pU l s)),.iface t (.map 0)])):=by
 unfold t7 at h
 split at h
 ·split at h
  ·rename_i z
   obtain⟨rfl,rfl,rfl,rfl,G⟩:=z
   split at h
   ·rename_i A;cases h;exact⟨_,_,rfl,G,rfl,.inl ⟨_,A,rfl⟩⟩
   ·rename_i A
    cases h;exact⟨_,_,rfl,G,rfl,.inr ⟨A,rfl⟩⟩
   cases h
  cases h
 cases h
theorem Qu{l s:Nat}{a b:Int}{cm:Array Value}(z:cP ρ [.str l s,.int .i64 a,.int .i64 b] cm.toList):∃x:ByteArray,cm=#[.string x,.int .i64 a,.int .i64 b]∧l=x.size∧s=pack x.data.toList:=by
 simp only[cP,VR] at z
 obtain⟨v,t,e,⟨x,rfl,A,h2⟩,G,t2,rfl,rfl,I,t3,rfl,rfl,rfl⟩:=z
 exact⟨x,by have:=congrArg List.toArray e;simpa using this,A,h2⟩
theorem Oh(J:P.follows .mixedOrders=true){ft:Tr bH}{xt:Tr Nat}(ht:HU P ft)(K:PJ P xt):∀n,kZ P (CW ft xt lf n)
 |0=>⟨fun _ _ _ _=>TM.err,fun _ _ _ _ _ _ _ _ _ h=>(by cases h)⟩
 |n+1=>by
  have ih:=Oh J ht K n
  have key:∀f args H v H',CW ft xt lf (n+1) f args H= .ok v H'→(∃fn,ft.get f=some fn∧t6 (CW ft xt lf n) lf fn args H= .ok v H')∨∃c,xt.get f=some c∧rB c args H= .ok v H':=by
   intro f args H v H' h
   have h:ob (ft.get f) (ob (xt.get f) (.err (Nat.add 10000 f)) fun c=>rB c args H) (fun fn=>t6 (CW ft xt lf n) lf fn args H)= .ok v H':=h
   cases hf:ft.get f with
   |some fn=>rw[hf] at h;exact .inl ⟨fn,rfl,h⟩
   |none=>
    rw[hf] at h
    exact .inr (jP (o:=xt.get f) h)
  refine⟨fun f args H hm v H' h=>?_,fun f args H v H' ρ C w cm h hm od I hK hF hG hv=>?_⟩
  ·rcases key _ _ _ _ _ h with⟨fn,_,h⟩|⟨c,_,h⟩
   ·obtain⟨_,_,x,E1,H1,_,A,_,h2⟩:=Nj h
    rw[KQ h2]
    exact rW ih fn.body _ _ _ _ _ hm A
   rw[UE v H' h];exact gO.refl _
  rcases key _ _ _ _ _ h with⟨fn,hfn,h⟩|⟨c,hc,h⟩
  ·obtain⟨g,hg,Ri⟩:=ht f fn hfn
   obtain⟨cd,U,_,_,_,_,z⟩:=Ni Ri
   have A:g.name≠ "runtime.NumGoroutine":=by simpa using z
   exact .inl ⟨by simp[callFunc,hg,A,U],Lj ih J hg Ri h hm od I hK hF hG hv⟩
  rcases K f c hc with⟨fn,hf,z,U,hn,e,he,Y⟩|⟨rfl,Z⟩|⟨rfl,Yb⟩|⟨g0,t0,rfl,hg1,Rj,hint⟩
  rotate_left
  rotate_left
  ·obtain⟨l,s,u,rfl,hl,hu,rfl,rfl⟩:=UF (show vD args H= .ok v H' from h)
   obtain⟨b,rfl,U,rfl⟩:=Qu hv
   subst U
   rw[show b.size=b.data.toList.length from(nW (xs:=b.data)).symm,A1] at hu
   obtain⟨A,h2⟩:=Yb b u w hl hu
   exact .inl ⟨A,Calls.mono h2 fun e w'⟨x,he,K,hk⟩=>⟨x,he,ρ,by subst K;simp only[VR,cP];exact⟨_,rfl,_,_,rfl,rfl,_,_,rfl,rfl,rfl⟩,hk.ext _ _ _,by rw[qe];exact I.kept hk⟩⟩
  ·have h5:t7 t0 args H= .ok v H':=by
    rw[show 4+t0=t0+4 by omega] at h
    exact h
   obtain⟨l,s,rfl,hl,rfl,G⟩:=VK h5
   obtain⟨b,rfl,U,rfl⟩:=Qu hv
   subst U
   rw[show b.size=b.data.toList.length from(nW (xs:=b.data)).symm,A1] at G
   rcases G with⟨u,hu,rfl⟩|⟨hu,rfl⟩
   ·obtain⟨A,h2⟩:=(hint b w hl).1 u hu
    exact .inl ⟨A,Calls.mono h2 fun e w'⟨x,he,K,hk⟩=>⟨x,he,ρ,by subst K;simp only[VR,cP];exact⟨_,rfl,_,_,rfl,rfl,_,_,rfl,rfl,rfl⟩,hk.ext _ _ _,by rw[qe];exact I.kept hk⟩⟩
   obtain⟨hm,hh,Ag,F6,O⟩:=hG g0 hg1
   obtain⟨te,pe,jC⟩:=(I.nf _ _ _ hh (O Rj).1 (O Rj).2).2
   rw[Ag,F6] at jC
   obtain⟨A,h2⟩:=(hint b w hl).2 hu ⟨_,_,jC⟩
   exact .inl ⟨A,Calls.mono h2 fun e w'⟨x,he,⟨a,K⟩,hk⟩=>⟨x,he,ρ,by subst K;simp only[VR,cP];exact⟨_,rfl,_,_,rfl,rfl,_,_,rfl,⟨_,rfl,a,rfl⟩,rfl⟩,hk.ext _ _ _,by rw[qe];exact I.kept hk⟩⟩
  rotate_left
  ·have h:IV args H= .ok v H':=h
   cases args with
   |cons x r=>cases h
   |nil=>
    cases h
    simp only[cP] at hv
    have GA:cm=#[]:=by have:=congrArg List.toArray hv;simpa using this
    subst GA
    have sM:zO P w:=Xa I hG
    have post:∀{w':World},Kept w w'→ez ρ C w H (.bool true) H (.bool true) w':=fun hk=>⟨ρ,by simp only[VR],hk.ext _ _ _,by rw[qe];exact I.kept hk⟩
    rcases Z w sM with⟨A,h2⟩|⟨w',A,h2⟩
    ·exact .inl ⟨A,Calls.mono h2 fun e w'⟨he,hk⟩=>⟨_,he,post hk⟩⟩
    exact .inr ⟨_,w',A,post h2⟩
  obtain⟨rfl,cv,xx,uo⟩:=W9 (P:=P) I he hv h
  refine .inr ⟨cv,w,?_,ρ,uo,Ext.refl _ _ _ _,?_⟩
  ·rw[run_callFunc_standIn hf z U hn Y,xx]
   rfl
  rw[qe];exact I
end
def base(P:Program):Ho:=fun f g=>if f<P.globals.size∧g=1 then some ⟨f,0,0,true,Af P f⟩ else none
def H0(n:Nat):aE:=⟨n,0,[],.emp⟩
section
variable{P:Program}{ρ:Ho}{C:Nat→Option et}{w w':World}{H H':aE}{call:fc}{f n:Nat}{args:List ax}{cm:Array Value}{v:ax}
theorem rP{f g:Nat}{h:Hm}(e:base P f g=some h):f<P.globals.size∧g=1∧h=⟨f,0,0,true,Af P f⟩:=by
 unfold base at e
 split at e
 ·rename_i k;cases e;exact⟨k.1,k.2,rfl⟩
 cases e
theorem BL(z:zO P w):R (base P) (fun _=>none) w:=by
 refine⟨fun f o h=>(by cases h),fun f g h f' g' h' e A _ _=>?_,fun f g h e=>?_,fun f g h g' h' e A _=>?_,fun f g h e _ hp=>?_⟩
 rotate_right
 ·obtain⟨k,_,rfl⟩:=rP e
  exact⟨fun g' h' A=>by obtain⟨_,_,rfl⟩:=rP A;rfl,(z f k).2 hp⟩
 ·obtain⟨_,_,rfl⟩:=rP e
  obtain⟨_,_,rfl⟩:=rP A
  exact⟨rfl,rfl⟩
 ·obtain⟨k,_,rfl⟩:=rP e
  exact(z f k).1
 obtain⟨_,_,rfl⟩:=rP e
 obtain⟨_,_,rfl⟩:=rP A
 rfl
theorem Lk:vE P (base P):=fun g z=>⟨⟨g,0,0,true,Af P g⟩,by simp[base,z],rfl,rfl,fun h=>⟨rfl,h⟩⟩
theorem T0(z:P.globals.size≤n)(m:Nat):iQ (base P) n m:=fun f g A _=>by
 unfold base
 rw[al ah]
theorem Yc:WF (H0 n):=fun x _=>GT.tg x
theorem UG:kH (base P) (fun _=>none) (H0 n):=fun f o _ h=>by
 rw[show(H0 n).t.get f=none from GT.tg f] at h;cases h
theorem ez.kept{cv:Value}(h:ez (base P) C w H v H' cv w'):Kept w w':=by
 obtain⟨ρ',_,he,_⟩:=h
 exact⟨he.os,he.tape,he.output,he.size,fun b z=>he.frame b z fun f g x A G _=>by obtain⟨_,_,rfl⟩:=rP A;cases G⟩
theorem trueOk_of(J:kZ P call){A:Nat}(K:P.globals.size≤n)(O:call A [] (H0 n)= .ok (.bool true) H'):Og P A:=fun w G=>by
 have post:∀{cv:Value}{w':World},ez (base P) (fun _=>none) w (H0 n) (.bool true) H' cv w'→cv= .bool true∧Kept w w':=by
  intro cv w' hp
  have hk:=hp.kept
  obtain⟨_,z,_,_⟩:=hp
  simp only[VR] at z
  exact⟨z,hk⟩
 rcases J.sound A [] (H0 n) (.bool true) H' (base P) (fun _=>none) w #[] O (dp _) Yc (BL G) UG (T0 K _) Lk (by simp only[cP]) with⟨I,h2⟩|⟨cv,w',I,h2⟩
 ·exact .inl ⟨I,Calls.mono h2 fun e w'⟨cv,he,hp⟩=>by
   obtain⟨rfl,hk⟩:=post hp
   exact⟨he,hk⟩⟩
 obtain⟨rfl,hk⟩:=post h2
 exact .inr ⟨w',I,hk⟩
def Fy{α:Type}(l:List (Nat×α)):Tr α:=List.rec (motive:=fun _=>Tr α) .leaf (fun p _ z=>z.set p.1 p.2) l
theorem LQ{α:Type}{f:Nat}{x:α}:∀{l:List (Nat×α)},(Fy l).get f=some x→(f,x)∈l
 |[],h=>by rw[show Fy ([]:List (Nat×α))= .leaf from rfl,Tr.uO] at h;cases h
 |p::r,h=>by
  have h:((Fy r).set p.1 p.2).get f=some x:=h
  rw[Tr.eY] at h
  split at h
  ·rename_i e;cases h;subst e;exact lh ..
  exact oR _ (LQ h)
def Yd(P:Program)(p:Nat×bH):Prop:=∃g,P.funcs[p.1]?=some g∧xz P g=some p.2
theorem tabOf_ok{l:List (Nat×bH)}(h:∀p,p∈l→Yd P p):HU P (Fy l):=fun f fn z=>h (f,fn) (LQ z)
end
def okT(r:aH):Bool:=aH.rec (motive:=fun _=>Bool) (fun v _=>ax.rec (motive_1:=fun _=>Bool) (motive_2:=fun _=>Unit) (fun b=>b) (fun _ _=>false) (fun _ _=>false) (fun _ _ _=>false) false (fun _ _ _ _ _=>false) false (fun _ _=>false) (fun _ _=>false) (fun _ _ _ _ _=>false) false (fun _ _ _=>false) false (fun _=>false) false false () (fun _ _ _ _=>()) v) (fun _=>false) r
theorem okT_ok{r:aH}(h:okT r=true):∃H,r= .ok (.bool true) H:=by
 cases r with
 |err n=>cases h
 |ok v H=>
  cases v with
  |bool b=>cases b with
   |true=>exact⟨H,rfl⟩
   |false=>cases h
  |_=>cases h
section
variable{call:fc}{lf:Nat}{E:Env}{H:aE}
theorem SQ(k:Key)(ks:List Key)(v:ax)(l:List ax)(E:Env)(c:Env→aH):params (k::ks) (v::l) E c=params ks l (E.set k v) c:=
 T4.kG E k v fun E=>params ks l E c
theorem T1(ops:List bA):(IC.region false ops).ev call lf E H=Av (nu call ops E H):=rfl
theorem Tk(ops:List bA):(IC.region true ops).ev call lf E H=Av (mz call ops E H []):=rfl
theorem Iq(a b:IC):(IC.seq a b).ev call lf E H=uP (a.ev call lf E H) (b.ev call lf):=rfl
theorem Oi(E:Env)(H:aE):Av (.ok E H)= .ok .normal E H:=rfl
theorem K5(E:Env)(H:aE)(k:Env→aE→Out):uP (.ok .normal E H) k=k E H:=rfl
theorem K6(d:Option Key)(q:Option (List Nat))(op:bP)(r:List bA):nu call (⟨d,none,q,op⟩::r) E H=fin d E (nu call r) (op.ev call E H):=rfl
theorem D0(d:Key)(v:ax)(k:Env→aE→e9):fin (some d) E k (.ok v H)=k (E.set d v) H:=T4.Bc E d v fun E=>k E H
theorem UH(v:ax)(k:Env→aE→e9):fin none E k (.ok v H)=k E H:=rfl
theorem dk{α β:Type}(x:α)(e:β)(k:α→β):ob (some x) e k=k x:=rfl
theorem Xb(x:aI):(bP.o4 x).ev call E H=ob (x.ev E) (.err 1) fun v=>.ok v H:=dw x E _ _
theorem Xc(op:BinOp)(x y:aI):(bP.bin op x y).ev call E H=ob (x.ev E) (.err 6) fun a=>ob (y.ev E) (.err 6) fun b=>ob (Cy op a b) (.err 6) fun v=>.ok v H:=by
 show bI x E (.err 6) (fun a=>bI y E (.err 6) fun b=>Ac op a b fun v=>.ok v H)=_
 simp only[dw,Ee,uJ]
theorem VL(k:IntKind)(x:aI):(bP.conv k x).ev call E H=ob (x.ev E) (.err 36) fun v=>gU v (.err 36) fun _ n=>.ok (.int k (mB k n)) H:=by
 show bI x E (.err 36) (fun v=>gU v (.err 36) fun _ n=>lR (mB k n) fun n=>.ok (.int k n) H)=_
 simp only[dw,sZ]
theorem UI(k:IntKind)(n:Int)(e:aH)(f:IntKind→Int→aH):gU (.int k n) e f=f k n:=rfl
def Ye(fn:bH)(o:Out):aH:=
 Out.rec (motive:=fun _=>aH) (fun x E H=>Ex.rec (motive:=fun _=>aH) (results E H fn.res) (fun _=>.err 72) (results E H fn.res) x) .err o
theorem VM(fn:bH)(args:List ax)(H:aE):t6 call lf fn args H=params fn.ps args .emp fun E=>Ye fn (fn.body.ev call lf E H):=rfl
end
theorem Kept.keptBut{w w':World}(h:Kept w w')(may:MemPlace→Prop):w.keptBut w' may:=by
 refine⟨h.os,h.output,fun i hi=>?_⟩
 rw[h.pY i hi]
 cases w.heap[i]?with
 |none=>rfl
 |some o=>cases o with
  |cells c t z=>exact⟨rfl,rfl,rfl,fun _ _=>rfl⟩
  |map es clock=>exact .inr ⟨rfl,rfl⟩
  |_=>rfl
theorem low_of_shaped{P:Program}{w:World}(h:w.ShapedOpen P)(I:((List.range P.globals.size).all fun g=>((((begin P (fun _ _=>0) default).world.heap[g]?).bind Obj.row?).isSome))=true):∀g,g<P.globals.size→g<w.heap.size:=by
 intro g z
 have A:=List.all_eq_true.1 I g (List.mem_range.2 z)
 cases G:((begin P (fun _ _=>0) default).world.heap[g]?).bind Obj.row? with
 |none=>rw[G] at A;cases A
 |some x=>
  obtain⟨zero,t⟩:=x
  obtain⟨cs,J,_⟩:=h.1 g zero t z G
  exact(Array.getElem?_eq_some_iff.1 J).1
mutual
def Yf{H:Type}:DataW H→List Value
 |.lit (.int k n)=>[.int k n]
 |.lit (.bool b)=>[.bool b]
 |.lit (.string bs)=>[.string ⟨bs.toArray⟩]
 |.agg parts=>Oj parts
 |_=>[]
def Oj{H:Type}:List (DataW H)→List Value
 |[]=>[]
 |d::r=>Yf d++Oj r
end
def putG(h:Array Obj)(g:Nat)(cs:List Value):Array Obj:=h.modify g fun
 |.cells _ t frozen=>.cells cs.toArray t frozen
 |o=>o
structure bd where
 ft:Tr bH
 xt:Tr Nat
def bd.call(T:bd)(lf n:Nat):fc:=CW T.ft T.xt lf n
def jq(T:bd)(op:bP)(E:Env)(H:aE)(Q:ax→aE→Prop):Prop:=∃N v H',(∀lf n,N≤lf→N≤n→op.ev (T.call lf n) E H= .ok v H')∧Q v H'
def o8(T:bd)(ops:List bA)(E:Env)(H:aE)(Q:Env→aE→Prop):Prop:=∃N E' H',(∀lf n,N≤lf→N≤n→nu (T.call lf n) ops E H= .ok E' H')∧Q E' H'
def C9(T:bd)(ops:List bA)(E:Env)(H:aE)(b9:List FP)(Q:Env→aE→Prop):Prop:=∃N E' H',(∀lf n,N≤lf→N≤n→mz (T.call lf n) ops E H b9= .ok E' H')∧Q E' H'
def l9(T:bd)(c:IC)(E:Env)(H:aE)(Q:Ex→Env→aE→Prop):Prop:=∃N x E' H',(∀lf n,N≤lf→N≤n→c.ev (T.call lf n) lf E H= .ok x E' H')∧Q x E' H'
def uz(T:bd)(f:Nat)(args:List ax)(H:aE)(Q:ax→aE→Prop):Prop:=∃N v H',(∀lf n,N≤lf→N≤n→T.call lf n f args H= .ok v H')∧Q v H'
section
variable{T:bd}{E:Env}{H:aE}
theorem uz.mono{f:Nat}{args:List ax}{Q z:ax→aE→Prop}(h:uz T f args H Q)(k:∀v H',Q v H'→z v H'):uz T f args H z:=
 let⟨N,v,H',a,b⟩:=h;⟨N,v,H',a,k _ _ b⟩
theorem l9.mono{c:IC}{Q z:Ex→Env→aE→Prop}(h:l9 T c E H Q)(k:∀x E' H',Q x E' H'→z x E' H'):l9 T c E H z:=
 let⟨N,x,E',H',a,b⟩:=h;⟨N,x,E',H',a,k _ _ _ b⟩
theorem gq{op:bP}{v:ax}{H':aE}{Q:ax→aE→Prop}(h:∀call,op.ev call E H= .ok v H')(z:Q v H'):jq T op E H Q:=⟨0,v,H',fun _ _ _ _=>h _,z⟩
theorem VN{x:aI}{v:ax}{Q:ax→aE→Prop}(h:x.ev E=some v)(z:Q v H):jq T (.o4 x) E H Q:=
 gq (fun _=>by rw[Xb,h,dk]) z
theorem yo{op:BinOp}{x y:aI}{a b v:ax}{Q:ax→aE→Prop}(z:x.ev E=some a)(A:y.ev E=some b)(h:Cy op a b=some v)(G:Q v H):jq T (.bin op x y) E H Q:=
 gq (fun _=>by rw[Xc,z,A,dk,dk,h,dk]) G
theorem Ok{op:UnOp}{x:aI}{a v:ax}{Q:ax→aE→Prop}(z:x.ev E=some a)(h:Gt op a=some v)(A:Q v H):jq T (.un op x) E H Q:=
 gq (fun _=>by show bI x E (.err 8) (fun a=>ob (Gt op a) (.err 8) fun v=>nj v fun v=>.ok v H)=_;rw[dw,z,dk,h,dk,uJ]) A
theorem VP{c:At}{neg:Bool}{x y:aI}{a b:ax}{r:Bool}{Q:ax→aE→Prop}(z:x.ev E=some a)(A:y.ev E=some b)(h:n8 c a b=some r)(G:Q (.bool (Bool.xor neg r)) H):jq T (.eqv c neg x y) E H Q:=
 gq (fun _=>by show bI x E (.err 7) (fun a=>bI y E (.err 7) fun b=>ob (n8 c a b) (.err 7) fun r=>nM (Bool.xor neg r) fun r=>.ok (.bool r) H)=_;rw[dw,z,dk,dw,A,dk,h,dk,Hb]) G
theorem Mx{c x y:aI}{t:Bool}{v:ax}{Q:ax→aE→Prop}(A:c.ev E=some (.bool t))(z:(if t then x.ev E else y.ev E)=some v)(G:Q v H):jq T (.pick c x y) E H Q:=
 gq (fun _=>by
  show bI c E (.err 2) (fun v=>tv v (.err 2) fun t=>aJ t (mG x E H) (mG y E H))=_
  rw[dw,A,dk]
  cases t
  ·show mG y E H=_
   have z:y.ev E=some v:=z
   unfold mG;rw[dw,z,dk]
  show mG x E H=_
  have z:x.ev E=some v:=z
  unfold mG;rw[dw,z,dk]) G
theorem UJ{k z:IntKind}{x:aI}{n:Int}{Q:ax→aE→Prop}(A:x.ev E=some (.int z n))(G:Q (.int k (mB k n)) H):jq T (.conv k x) E H Q:=
 gq (fun _=>by rw[VL,A,dk,UI]) G
theorem HD{x:aI}{k f g o:Nat}{Q:ax→aE→Prop}(z:x.ev E=some (.ptr f g o))(A:Q (.ptr f g (o+k)) H):jq T (.oT x k) E H Q:=
 gq (fun _=>by show bI x E (.err 9) (fun v=>iW v (.err 9) fun f g off=>dz (Nat.add off k) fun off=>.ok (.ptr f g off) H)=_;rw[dw,z,dk];show dz (o+k) (fun off=>aH.ok (.ptr f g off) H)=_;rw[iG]) A
theorem HX{x:aI}{f g o l es:Nat}{Q:ax→aE→Prop}(z:x.ev E=some (.slice f g o l es))(A:Q (.int .i64 l) H):jq T (.len x) E H Q:=
 gq (fun _=>by show bI x E (.err 25) (fun v=>hO v (.err 25) (.ok (.int .i64 (.ofNat 0)) H) fun _ _ _ l _=>.ok (.int .i64 (.ofNat l)) H)=_;rw[dw,z,dk];rfl) A
theorem K7{x:aI}{Q:ax→aE→Prop}(z:x.ev E=some .cB)(A:Q (.int .i64 0) H):jq T (.len x) E H Q:=
 gq (fun _=>by show bI x E (.err 25) (fun v=>hO v (.err 25) (.ok (.int .i64 (.ofNat 0)) H) fun _ _ _ l _=>.ok (.int .i64 (.ofNat l)) H)=_;rw[dw,z,dk];rfl) A
theorem My{x:aI}{l s:Nat}{Q:ax→aE→Prop}(z:x.ev E=some (.str l s))(A:Q (.int .i64 l) H):jq T (.pT x) E H Q:=
 gq (fun _=>by show bI x E (.err 25) (fun v=>j7 v (.err 25) fun l _=>.ok (.int .i64 (.ofNat l)) H)=_;rw[dw,z,dk];rfl) A
theorem LR{x i:aI}{es f g o l fA:Nat}{k:IntKind}{j:Nat}{Q:ax→aE→Prop}(A:x.ev E=some (.slice f g o l fA))(hi:i.ev E=some (.int k (j:Int)))(G:j<l)(I:Q (.ptr f g (o+j*es)) H):jq T (.dV es x i) E H Q:=
 gq (fun _=>by
  show bI x E (.err 12) (fun v=>hO v (.err 12) (.err 12) fun f g off J _=>bI i E (.err 12) fun z=>idx z J (.err 12) fun j=>dz (Nat.add off (Nat.mul j es)) fun off=>.ok (.ptr f g off) H)=_
  rw[dw,A,dk]
  show bI i E (.err 12) (fun z=>idx z l (.err 12) fun j=>dz (Nat.add o (Nat.mul j es)) fun off=>.ok (.ptr f g off) H)=_
  rw[dw,hi,dk]
  show aJ (Nat.ble (Nat.succ j) l) (dz (o+j*es) fun off=>aH.ok (.ptr f g off) H) (aH.err 12)=_
  rw[jy G,gi,iG]) I
theorem UK{x:aI}{vs:List ax}{i:Nat}{v:ax}{Q:ax→aE→Prop}(z:x.ev E=some (.tuple vs))(hi:vs[i]?=some v)(A:Q v H):jq T (.sF x i) E H Q:=
 gq (fun _=>by show bI x E (.err 18) (fun v=>th v (.err 18) fun vs=>ob (vs[i]?) (.err 18) fun v=>.ok v H)=_;rw[dw,z,dk];show ob (vs[i]?) (aH.err 18) (fun v=>aH.ok v H)=_;rw[hi,dk]) A
theorem T2{z cs:List ax}{ps:List (Nat×Nat×aI)}{Q:ax→aE→Prop}(h:qs E ps z=some cs)(A:Q (.agg cs) H):jq T (.build z ps) E H Q:=
 gq (fun _=>by show ob (qs E ps z) (aH.err 23) (fun cs=>aH.ok (.agg cs) H)=_;rw[h,dk]) A
theorem HE{f:Nat}{l:List aI}{vs:List ax}{Q:ax→aE→Prop}(z:ki E l=some vs)(h:uz T f vs H Q):jq T (.call f l) E H Q:=by
 obtain⟨N,v,H',a,b⟩:=h
 exact⟨N,v,H',fun lf n A h2=>by show ob (ki E l) (aH.err 42) (fun vs=>T.call lf n f vs H)=_;rw[z,dk];exact a lf n A h2,b⟩
theorem VS:ki E []=some []:=rfl
theorem Mz{x:aI}{r:List aI}{v:ax}{vs:List ax}(h:x.ev E=some v)(k:ki E r=some vs):ki E (x::r)=some (v::vs):=by
 show ob (x.ev E) none (fun v=>ob (ki E r) none fun vs=>some (v::vs))=_
 rw[h,dk,k,dk]
theorem VT{Q:Env→aE→Prop}(h:Q E H):o8 T [] E H Q:=⟨0,E,H,fun _ _ _ _=>rfl,h⟩
theorem MA{d:Key}{q:Option (List Nat)}{op:bP}{r:List bA}{Q:Env→aE→Prop}(h:jq T op E H fun v H'=>o8 T r (E.set d v) H' Q):o8 T (⟨some d,none,q,op⟩::r) E H Q:=by
 obtain⟨N,v,H',a,z,A,G,b,c⟩:=h
 refine⟨max N z,A,G,fun lf n I h2=>?_,c⟩
 rw[K6,a lf n ah ah,D0]
 exact b lf n ah ah
theorem T3{q:Option (List Nat)}{op:bP}{r:List bA}{Q:Env→aE→Prop}(h:jq T op E H fun _ H'=>o8 T r E H' Q):o8 T (⟨none,none,q,op⟩::r) E H Q:=by
 obtain⟨N,v,H',a,z,A,G,b,c⟩:=h
 refine⟨max N z,A,G,fun lf n I h2=>?_,c⟩
 rw[K6,a lf n ah ah,UH]
 exact b lf n ah ah
theorem Ll{call:fc}{d:Option Key}{g:Key}{want:Bool}{q:Option (List Nat)}{op:bP}{t:Bool}{k:Env→aE→e9}(z:E.get g=some (.bool t)):
  bA.step call ⟨d,some (g,want),q,op⟩ E H k=if t=want then fin d E k (op.ev call E H) else k (kP E d .undef) H:=by
 show ob (E.get g) (.err 51) (fun v=>xq v (k9 d E H k) fun b=>aJ (Bool.xor b want) (k9 d E H k) (bA.run call ⟨d,some (g,want),q,op⟩ E H k))=_
 rw[z,dk]
 show aJ (Bool.xor t want) (k9 d E H k) (bA.run call ⟨d,some (g,want),q,op⟩ E H k)=_
 rw[wK]
 cases t<;>cases want<;>rfl
theorem MB{d:Key}{g:Key}{want t:Bool}{q:Option (List Nat)}{op:bP}{r:List bA}{Q:Env→aE→Prop}(z:E.get g=some (.bool t))(A:t≠want)(h:o8 T r (E.set d .undef) H Q):o8 T (⟨some d,some (g,want),q,op⟩::r) E H Q:=by
 obtain⟨G,I,J,b,c⟩:=h
 exact⟨G,I,J,fun lf n K h2=>by show bA.step (T.call lf n) ⟨some d,some (g,want),q,op⟩ E H (nu (T.call lf n) r)=_;rw[Ll z,al A];exact b lf n K h2,c⟩
theorem UL{d:Key}{g:Key}{want:Bool}{q:Option (List Nat)}{op:bP}{r:List bA}{Q:Env→aE→Prop}(z:E.get g=some (.bool want))(h:jq T op E H fun v H'=>o8 T r (E.set d v) H' Q):o8 T (⟨some d,some (g,want),q,op⟩::r) E H Q:=by
 obtain⟨N,v,H',a,A,G,I,b,c⟩:=h
 refine⟨max N A,G,I,fun lf n J h2=>?_,c⟩
 show bA.step (T.call lf n) ⟨some d,some (g,want),q,op⟩ E H (nu (T.call lf n) r)=_
 rw[Ll z,az rfl,a lf n ah ah,D0]
 exact b lf n ah ah
theorem VU{a b:IC}{Q:Ex→Env→aE→Prop}(h:l9 T a E H fun x E' H'=>(x= .normal→l9 T b E' H' Q)∧(x≠.normal→Q x E' H')):l9 T (.seq a b) E H Q:=by
 obtain⟨N,x,E1,H1,G,h2,I⟩:=h
 cases x with
 |normal=>
  obtain⟨J,x2,K,O,U,Y⟩:=h2 rfl
  refine⟨max N J,x2,K,O,fun lf n z A=>?_,Y⟩
  rw[Iq,G lf n ah ah,K5]
  exact U lf n ah ah
 |exit id=>exact⟨N,_,E1,H1,fun lf n z A=>by rw[Iq,G lf n z A];rfl,I (by simp)⟩
 |ret=>exact⟨N,_,E1,H1,fun lf n z A=>by rw[Iq,G lf n z A];rfl,I (by simp)⟩
theorem Tl{ops:List bA}{Q:Ex→Env→aE→Prop}(h:o8 T ops E H fun E' H'=>Q .normal E' H'):l9 T (.region false ops) E H Q:=by
 obtain⟨N,E1,H1,z,h2⟩:=h
 exact⟨N,_,E1,H1,fun lf n A G=>by rw[T1,z lf n A G,Oi],h2⟩
theorem SR{ops:List bA}{Q:Ex→Env→aE→Prop}(h:C9 T ops E H [] fun E' H'=>Q .normal E' H'):l9 T (.region true ops) E H Q:=by
 obtain⟨N,E1,H1,z,h2⟩:=h
 exact⟨N,_,E1,H1,fun lf n A G=>by rw[Tk,z lf n A G,Oi],h2⟩
theorem UM{Q:Ex→Env→aE→Prop}(h:Q .normal E H):l9 T .skip E H Q:=⟨0,_,E,H,fun _ _ _ _=>rfl,h⟩
theorem UN{id:Nat}{Q:Ex→Env→aE→Prop}(h:Q (.exit id) E H):l9 T (.exit id) E H Q:=⟨0,_,E,H,fun _ _ _ _=>rfl,h⟩
theorem VW{Q:Ex→Env→aE→Prop}(h:Q .ret E H):l9 T .ret E H Q:=⟨0,_,E,H,fun _ _ _ _=>rfl,h⟩
theorem HF{c:aI}{a b:IC}{t:Bool}{Q:Ex→Env→aE→Prop}(J:c.ev E=some (.bool t))(K:t=true→l9 T a E H Q)(h2:t=false→l9 T b E H Q):l9 T (.cond c a b) E H Q:=by
 have key:∀lf n,(IC.cond c a b).ev (T.call lf n) lf E H=if t=true then a.ev (T.call lf n) lf E H else b.ev (T.call lf n) lf E H:=fun lf n=>by
  show ob (c.ev E) (.err 61) (fun v=>M6 v (.err 61) fun t=>aJ t (a.ev (T.call lf n) lf E H) (b.ev (T.call lf n) lf E H))=_
  rw[J,dk]
  cases t<;>rfl
 cases t with
 |true=>obtain⟨N,x,E1,H1,z,A⟩:=K rfl;exact⟨N,x,E1,H1,fun lf n G I=>by rw[key,az rfl];exact z lf n G I,A⟩
 |false=>obtain⟨N,x,E1,H1,z,A⟩:=h2 rfl;exact⟨N,x,E1,H1,fun lf n G I=>by rw[key,al (by simp)];exact z lf n G I,A⟩
def GI(id:Nat):Ex→Ex
 |.exit j=>if j=id then .normal else .exit j
 |x=>x
theorem T5{id:Nat}{c:IC}{Q:Ex→Env→aE→Prop}(h:l9 T c E H fun x E' H'=>Q (GI id x) E' H'):l9 T (.block id c) E H Q:=by
 obtain⟨N,x,E1,H1,z,h2⟩:=h
 refine⟨N,GI id x,E1,H1,fun lf n A G=>?_,h2⟩
 show BI id c (c.ev (T.call lf n) lf) E H=_
 unfold BI
 rw[z lf n A G]
 cases x with
 |normal=>rfl
 |ret=>rfl
 |exit j=>
  show aJ (Nat.beq j id) (Out.ok .normal E1 H1) (.ok (.exit j) E1 H1)=Out.ok (if j=id then .normal else .exit j) E1 H1
  by_cases h:j=id
  ·rw[az h,h,show Nat.beq id id=true from jl id];rfl
  rw[al h]
  cases I:Nat.beq j id
  ·rfl
  exact absurd (eH I) h
theorem UO{c:IC}{Q:Ex→Env→aE→Prop}(I:Nat→Env→aE→Prop)(Y:∀k E H,I k E H→l9 T c E H fun x E' H'=>(x= .normal→∃j,j<k∧I j E' H')∧(x≠.normal→Q x E' H')):
  ∀k E H,I k E H→l9 T (.loop c) E H Q:=by
 have main:∀k E H,I k E H→∃N x E' H',(∀lf n m,N≤lf→N≤n→N≤m→vB (c.ev (T.call lf n) lf) m E H= .ok x E' H')∧Q x E' H':=by
  intro k
  induction k using Nat.strongRecOn with
  |_ k Z=>
   intro E H h
   obtain⟨N,x,E1,H1,A,h2,O⟩:=Y k E H h
   have key:∀lf n m,N≤lf→N≤n→vB (c.ev (T.call lf n) lf) (m+1) E H=uP (.ok x E1 H1) (vB (c.ev (T.call lf n) lf) m):=fun lf n m G J=>by
    show uP (c.ev (T.call lf n) lf E H) (vB (c.ev (T.call lf n) lf) m)=_
    rw[A lf n G J]
   cases x with
   |normal=>
    obtain⟨j,hj,K⟩:=h2 rfl
    obtain⟨N2,x2,E2,H2,k1,k2⟩:=Z j hj E1 H1 K
    refine⟨max N N2+1,x2,E2,H2,fun lf n m G J U=>?_,k2⟩
    obtain⟨m,rfl⟩:∃z,m=z+1:=⟨m-1,ah⟩
    rw[key lf n m ah ah,K5]
    exact k1 lf n m ah ah ah
   |exit id=>
    refine⟨N+1,_,E1,H1,fun lf n m G J U=>?_,O (by simp)⟩
    obtain⟨m,rfl⟩:∃z,m=z+1:=⟨m-1,ah⟩
    rw[key lf n m ah ah];rfl
   |ret=>
    refine⟨N+1,_,E1,H1,fun lf n m G J U=>?_,O (by simp)⟩
    obtain⟨m,rfl⟩:∃z,m=z+1:=⟨m-1,ah⟩
    rw[key lf n m ah ah];rfl
 intro k E H h
 obtain⟨N,x,E',H',a,b⟩:=main k E H h
 exact⟨N,x,E',H',fun lf n A h2=>a lf n lf A h2 A,b⟩
def Gb(ks:List Key):List ax→Env→Env:=
 List.rec (motive:=fun _=>List ax→Env→Env) (fun _ E=>E) (fun k _ z l E=>List.rec (motive:=fun _=>Env) E (fun v r _=>z r (E.set k v)) l) ks
theorem LS:∀(ks:List Key)(l:List ax)(E:Env)(c:Env→aH),ks.length=l.length→params ks l E c=c (Gb ks l E)
 |[],[],E,c,_=>rfl
 |k::ks,v::l,E,c,h=>by rw[SQ,LS ks l _ c (by simpa using h)];rfl
 |[],_::_,_,_,h=>by simp at h
 |_::_,[],_,_,h=>by simp at h
theorem Xd{f:Nat}{fn:bH}{args:List ax}{Q:ax→aE→Prop}(A:T.ft.get f=some fn)(G:fn.ps.length=args.length)
  (h:l9 T fn.body (Gb fn.ps args .emp) H fun x E' H'=>(∀id,x≠.exit id)∧∃v,results E' H' fn.res= .ok v H'∧Q v H'):uz T f args H Q:=by
 obtain⟨N,x,E1,H1,I,h2,v,z,J⟩:=h
 refine⟨N+1,v,H1,fun lf n K O=>?_,J⟩
 obtain⟨n,rfl⟩:∃n',n=n'+1:=⟨n-1,ah⟩
 show ob (T.ft.get f) _ (fun fn=>t6 (T.call lf n) lf fn args H)=_
 rw[A,dk,VM,LS _ _ _ _ G,I lf n ah ah]
 cases x with
 |normal=>exact z
 |ret=>exact z
 |exit id=>exact absurd rfl (h2 id)
end
inductive DC where
 |i (k:IntKind) (n:Int)
 |b (b:Bool)
 |s (l v:Nat)
 |nil
 |sl (rows:List (List DC))
def mT(H:aE)(f g Q:Nat)(l:List ax):Prop:=
 ∃elem aV m lo fl cs,H.t.get f=some (.row elem l.length aV m lo fl cs)∧lo≤g∧g≤m∧Q<g∧cs.get Q=some l
mutual
def cY(H:aE)(X:Nat→Prop):DC→ax→Prop
 |.i k n,a=>a= .int k n
 |.b b,a=>a= .bool b
 |.s l v,a=>a= .str l v
 |.nil,a=>a= .cB
 |.sl rows,a=>∃f g off es,a= .slice f g off rows.length es∧(rows=[]∨¬X f∧f<H.next∧∃q,off=q*es∧fT H X f g es q rows)
def fT(H:aE)(X:Nat→Prop)(f g es:Nat):Nat→List (List DC)→Prop
 |_,[]=>True
 |q,row::r=>(∃l,mT H f g q l∧l.length=es∧dn H X row l)∧fT H X f g es (q+1) r
def dn(H:aE)(X:Nat→Prop):List DC→List ax→Prop
 |[],l=>l=[]
 |d::r,l=>∃a s,l=a::s∧cY H X d a∧dn H X r s
end
structure ub(H H':aE):Prop where
 next:H.next≤H'.next
 bj:H'.bj=H.bj
 ws:H'.ws=H.ws
 same:∀f,f<H.next→H'.t.get f=H.t.get f
theorem ub.refl(H:aE):ub H H:=⟨bR _,rfl,rfl,fun _ _=>rfl⟩
theorem ub.trans{A B C:aE}(h:ub A B)(k:ub B C):ub A C:=
 ⟨kx h.next k.next,k.bj.trans h.bj,k.ws.trans h.ws,fun f z=>(k.same f (m9 z h.next)).trans (h.same f z)⟩
structure Step(X:Nat→Prop)(H H':aE):Prop where
 next:H.next≤H'.next
 same:∀f,f<H.next→¬X f→H'.t.get f=H.t.get f
theorem Step.refl(X:Nat→Prop)(H:aE):Step X H H:=⟨bR _,fun _ _ _=>rfl⟩
theorem ub.step{H H':aE}(h:ub H H')(X:Nat→Prop):Step X H H':=⟨h.next,fun f z _=>h.same f z⟩
theorem Step.trans{X:Nat→Prop}{A B C:aE}(h:Step X A B)(k:Step X B C):Step X A C:=
 ⟨kx h.next k.next,fun f z G=>(k.same f (m9 z h.next) G).trans (h.same f z G)⟩
section
variable{H H':aE}{X:Nat→Prop}
theorem mT.jo{f g Q:Nat}{l:List ax}(h:mT H f g Q l)(z:H'.t.get f=H.t.get f):mT H' f g Q l:=by
 obtain⟨a,b,c,d,e,k,A,h2⟩:=h
 exact⟨a,b,c,d,e,k,z.trans A,h2⟩
mutual
theorem cY.step(z:Step X H H'):∀{d:DC}{a:ax},cY H X d a→cY H' X d a
 |.i _ _,_,h=>h
 |.b _,_,h=>h
 |.s _ _,_,h=>h
 |.nil,_,h=>h
 |.sl rows,a,h=>by
  simp only[cY] at h⊢
  obtain⟨f,g,off,es,I,h2⟩:=h
  refine⟨f,g,off,es,I,h2.imp id fun⟨A,G,q,ho,J⟩=>⟨A,m9 G z.next,q,ho,fT.step z A G J⟩⟩
theorem fT.step(z:Step X H H'){f g es:Nat}(A:¬X f)(G:f<H.next):∀{q:Nat}{rows:List (List DC)},fT H X f g es q rows→fT H' X f g es q rows
 |_,[],_=>trivial
 |q,row::r,h=>by
  simp only[fT] at h⊢
  obtain⟨⟨l,I,h2,J⟩,K⟩:=h
  exact⟨⟨l,I.jo (z.same f G A),h2,dn.step z J⟩,fT.step z A G K⟩
theorem dn.step(z:Step X H H'):∀{row:List DC}{l:List ax},dn H X row l→dn H' X row l
 |[],_,h=>h
 |d::r,l,h=>by
  simp only[dn] at h⊢
  obtain⟨a,s,A,h2,G⟩:=h
  exact⟨a,s,A,cY.step z h2,dn.step z G⟩
end
theorem fT.get{f g es:Nat}:∀{q:Nat}{rows:List (List DC)},fT H X f g es q rows→∀{i:Nat}{row:List DC},rows[i]?=some row→∃l,mT H f g (q+i) l∧l.length=es∧dn H X row l
 |q,[],_,i,row,hi=>by simp at hi
 |q,x::r,h,i,row,hi=>by
  simp only[fT] at h
  cases i with
  |zero=>simp at hi;subst hi;exact h.1
  |succ i=>
   obtain⟨l,z,h2⟩:=fT.get h.2 (i:=i) (row:=row) (by simpa using hi)
   exact⟨l,by rw[show q+(i+1)=q+1+i by omega];exact z,h2⟩
theorem dn.get:∀{row:List DC}{l:List ax},dn H X row l→∀{i:Nat}{d:DC},row[i]?=some d→∃a,l[i]?=some a∧cY H X d a
 |[],_,_,i,d,hi=>by simp at hi
 |x::r,l,h,i,d,hi=>by
  simp only[dn] at h
  obtain⟨a,s,rfl,z,h2⟩:=h
  cases i with
  |zero=>simp at hi;subst hi;exact⟨a,rfl,z⟩
  |succ i=>simpa using dn.get h2 (i:=i) (d:=d) (by simpa using hi)
theorem dn.length:∀{row:List DC}{l:List ax},dn H X row l→l.length=row.length
 |[],_,h=>by simp only[dn] at h;subst h;rfl
 |d::r,l,h=>by
  simp only[dn] at h
  obtain⟨a,s,rfl,_,h2⟩:=h
  simp[dn.length h2]
theorem cY.slice{rows:List (List DC)}{a:ax}(h:cY H X (.sl rows) a):∃f g off es,a= .slice f g off rows.length es∧
  ∀{i:Nat}{row:List DC},rows[i]?=some row→¬X f∧f<H.next∧∃Q l,mT H f g Q l∧l.length=es∧off+i*es=Q*es∧dn H X row l:=by
 simp only[cY] at h
 obtain⟨f,g,off,es,z,h2⟩:=h
 refine⟨f,g,off,es,z,fun{i row}hi=>?_⟩
 rcases h2 with rfl|⟨A,G,q,ho,I⟩
 ·simp at hi
 obtain⟨l,J,K,O⟩:=I.get hi
 exact⟨A,G,q+i,l,J,K,by rw[ho,nX],O⟩
theorem Fz{β:Type}{f g Q k n:Nat}{l:List ax}{e:β}{c:List ax→β}(h:mT H f g Q l)(z:k+n≤l.length)(h0:0<n):rd H f g (Q*l.length+k) n e c=c ((l.drop k).take n):=by
 obtain⟨elem,aV,m,lo,fl,cs,A,h2,G,I,J⟩:=h
 have e1:(Q*l.length+k)/l.length=Q:=by
  rw[ny,Nat.mul_add_div ah,OC ah];rfl
 have e2:(Q*l.length+k) % l.length=k:=by
  rw[ny,Nat.mul_add_mod,Cp ah]
 unfold rd
 rw[A]
 simp only[jt,r4]
 rw[show Nat.mod (Q*l.length+k) l.length=k from e2,show Nat.div (Q*l.length+k) l.length=Q from e1,az (jy h2),az (jy G),show Nat.ble (Nat.add k n) l.length=true from jy z,az rfl,az (jy I),J,dk]
 split
 ·rename_i K
  have:=eH K
  have hk:k=0:=by omega
  subst hk
  rw[List.drop_zero,pR ah]
 rfl
theorem HY{call:fc}{E:Env}{n:Nat}{agg:Bool}{a:aI}{f g o:Nat}(z:a.ev E=some (.ptr f g o)):(bP.load n agg a).ev call E H=rd H f g o n (.err 4) fun l=>jf agg l (.err 4) fun v=>.ok v H:=by
 show bI a E (.err 4) (fun v=>iW v (.err 4) fun f g off=>rd H f g off n (.err 4) fun l=>jf agg l (.err 4) fun v=>.ok v H)=_
 rw[dw,z,dk];rfl
variable{T:bd}{E:Env}
theorem Hp{a:aI}{f g o Q k:Nat}{l:List ax}{x:ax}{R:ax→aE→Prop}(A:a.ev E=some (.ptr f g o))(G:mT H f g Q l)(ho:o=Q*l.length+k)(z:l[k]?=some x)(I:R x H):jq T (.load 1 false a) E H R:=
 gq (fun _=>by
  have hk:k<l.length:=(List.getElem?_eq_some_iff.1 z).1
  rw[HY A,ho,Fz G ah ah]
  have:(l.drop k).take 1=[x]:=by
   rw[Cs hk,xb,Jg]
   congr 1
   exact(List.getElem?_eq_some_iff.1 z).2
  rw[this];rfl) I
theorem LU{n:Nat}{a:aI}{f g o Q k:Nat}{l:List ax}{R:ax→aE→Prop}(z:a.ev E=some (.ptr f g o))(A:mT H f g Q l)(ho:o=Q*l.length+k)(G:k+n≤l.length)(h0:0<n)(I:R (.agg ((l.drop k).take n)) H):jq T (.load n true a) E H R:=
 gq (fun _=>by rw[HY z,ho,Fz A G h0];rfl) I
def zP(H:aE)(f:Nat)(cells:List ax):Prop:=∃elem aV lo cs,H.t.get f=some (.row elem cells.length aV 1 lo 0 cs)∧lo≤1∧cs.get 0=some cells
theorem zP.cells{f:Nat}{l:List ax}(h:zP H f l):mT H f 1 0 l:=by
 obtain⟨a,b,lo,cs,z,h2,A⟩:=h
 exact⟨a,b,1,lo,0,cs,z,h2,bR _,gG _,A⟩
theorem zP.jo{f:Nat}{l:List ax}(h:zP H f l)(z:H'.t.get f=H.t.get f):zP H' f l:=by
 obtain⟨a,b,lo,cs,A,h2⟩:=h
 exact⟨a,b,lo,cs,z.trans A,h2⟩
def Gc(H:aE)(elem aV:Nat)(cells:List ax):aE:=⟨H.next+1,H.bj,H.ws,H.t.set H.next (.row elem cells.length aV 1 1 0 (.one cells))⟩
theorem VX(elem aV:Nat)(cells:List ax):zP (Gc H elem aV cells) H.next cells:=
 ⟨elem,aV,1,.one cells,by show(H.t.set H.next _).get H.next=_;rw[GT.eY,az rfl],bR _,rfl⟩
theorem LV(elem aV:Nat)(cells:List ax):ub H (Gc H elem aV cells):=
 ⟨tS _,rfl,rfl,fun f z=>by show(H.t.set H.next _).get f=_;rw[GT.eY,al ah]⟩
theorem alloc_eq(o:et)(k:Nat→aE→aH):H.alloc o k=k H.next ⟨H.next+1,H.bj,H.ws,H.t.set H.next o⟩:=by
 cases H with
 |mk next bj ws t=>
  show dz next (fun f=>t.gV f o fun t=>k f ⟨Nat.succ f,bj,ws,t⟩)=_
  rw[iG,GT.kG]
theorem UP{elem es aV:Nat}{cells:List ax}{R:ax→aE→Prop}(z:cells.length=es)(A:R (.ptr H.next 1 0) (Gc H elem aV cells)):jq T (.cw elem es aV cells) E H R:=
 gq (fun _=>by subst z;show H.alloc (.row elem cells.length aV 1 1 0 (.one cells)) (fun f H=>.ok (.ptr f 1 0) H)=_;rw[alloc_eq];rfl) A
theorem VY{elem es aV:Nat}{x:aI}{v:ax}{cells:List ax}{R:ax→aE→Prop}(z:x.ev E=some v)(A:kq v=some cells)(G:cells.length=es)(I:R (.ptr H.next 1 0) (Gc H elem aV cells)):jq T (.box elem es aV x) E H R:=
 gq (fun _=>by
  subst G
  show bI x E (.err 3) (fun v=>ob (kq v) (.err 3) fun l=>aJ (Nat.beq (jI l) cells.length) (xf elem cells.length aV l E H) (.err 3))=_
  rw[dw,z,dk,A,dk,pA,show Nat.beq cells.length cells.length=true from jl _,gi]
  show H.alloc (.row elem cells.length aV 1 1 0 (.one cells)) (fun f H=>.ok (.ptr f 1 0) H)=_
  rw[alloc_eq];rfl) I
variable{k:Nat}{Q:Env→aE→Prop}
theorem Lm{call:fc}{o:bA}{b9:List FP}{K:Env→aE→List FP→e9}(z:o.q=none):o.qQ call E H b9 K=fin o.dst E (fun E H=>K E H b9) (o.op.ev call E H):=by
 unfold bA.qQ;rw[z];rfl
theorem AV{call:fc}{d:Option Key}{q:Option (List Nat)}{op:bP}{b9:List FP}{K:Env→aE→List FP→e9}:bA.nT call ⟨d,none,q,op⟩ E H b9 K=bA.qQ call ⟨d,none,q,op⟩ E H b9 K:=rfl
theorem DA{call:fc}{d:Option Key}{g:Key}{want:Bool}{q:Option (List Nat)}{op:bP}{t:Bool}{b9:List FP}{K:Env→aE→List FP→e9}(z:E.get g=some (.bool t)):
  bA.nT call ⟨d,some (g,want),q,op⟩ E H b9 K=if t=want then bA.qQ call ⟨d,some (g,want),q,op⟩ E H b9 K else K (kP E d .undef) H (su q b9):=by
 show ob (E.get g) (.err 51) (fun v=>xq v (k9 d E H fun E H=>K E H (su q b9)) fun b=>aJ (Bool.xor b want) (k9 d E H fun E H=>K E H (su q b9)) (bA.qQ call ⟨d,some (g,want),q,op⟩ E H b9 K))=_
 rw[z,dk]
 show aJ (Bool.xor t want) (k9 d E H fun E H=>K E H (su q b9)) (bA.qQ call ⟨d,some (g,want),q,op⟩ E H b9 K)=_
 rw[wK]
 cases t<;>cases want<;>rfl
end
end Go.Ev
