/- Part 7 of rules for walks through the code of a program, and of such walks; what each part proves is said by its theorems. -/
import Derived.Test.YtddbkonalipepaaGreatDoorS6
import Derived.Lib.Bytealg
import Derived.Laws.StandIn
set_option linter.unusedVariables false
set_option linter.unusedSimpArgs false
namespace Go.Ev
structure Kept(w w':World):Prop where
 os:w'.os=w.os
 tape:w'.tape=w.tape
 output:w'.output=w.output
 size:w.heap.size≤w'.heap.size
 o7:∀b,b<w.heap.size→w'.heap[b]?=w.heap[b]?
section
variable{ρ:Ho}{C:Nat→Option dP}{w w':World}
theorem R.kept(z:R ρ C w)(hk:Kept w w'):R ρ C w':=
 ⟨fun f o ho g h A=>(z.obj f o ho g h A).iR (Ho.le_refl _) (hk.o7 _ (z.jX f g h A)),z.nS,fun f g h A=>mn (z.jX f g h A) hk.size,z.uniq,fun f g h A a b=>(z.mw f g h A a b).iR (cell_of_heap (w:=w) (hk.o7 _ (z.jX f g h A)))⟩
theorem Kept.ext(hk:Kept w w')(W:Nat→Prop)(n:Nat)(ρ:Ho):Ext W n n ρ ρ w w':=
 ⟨Ho.le_refl _,fun _ g h e=>.inl ⟨g,h,e⟩,fun _ _ _ e=>.inl e,fun b z _=>hk.o7 b z,hk.size,bY _,hk.os,hk.tape,hk.output⟩
end
section
variable{P:Program}{nt:Nat}{ρ:Ho}{E E':Env}{H H' H1:az}{C:Nat→Option dP}{w:World}{a:Act}{call:eC}{lf:Nat}
theorem Ka:∀(ks:List Key)(l:List an)(E:Env)(c:Env→aD)(v:an)(H':az),params ks l E c= .ok v H'→
  ks.length=l.length∧∃E',c E'= .ok v H'∧∀t x,E'.get t=some x→E.get t=some x∨∃i:Nat,ks[i]?=some t∧l[i]?=some x
 |[],[],E,c,v,H',h=>⟨rfl,E,h,fun t x A=>.inl A⟩
 |[],_::_,E,c,v,H',h=>by cases h
 |_::_,[],E,c,v,H',h=>by cases h
 |k::ks,y::l,E,c,v,H',h=>by
  have h:E.gr k y (fun E=>params ks l E c)= .ok v H':=h
  rw[T4.j6] at h
  obtain⟨G,E',h2,I⟩:=Ka ks l _ _ _ _ h
  refine⟨by simp[G],E',h2,fun t x A=>?_⟩
  rcases I t x A with z|⟨i,z,J⟩
  ·rw[T4.eO] at z
   split at z
   ·rename_i e
    subst e
    cases z
    exact .inr ⟨0,rfl,rfl⟩
   exact .inl z
  exact .inr ⟨i+1,by simpa using z,by simpa using J⟩
theorem AR.init{args:List an}{bZ:Array Value}(A:cw ρ args bZ.toList)(Y:args.length≤nt)(I:uu P ρ){E':Env}{n:Nat}(J:n≤1296)
  (K:∀t x,E'.get t=some x→T4.emp.get t=some x∨∃i:Nat,((List.range n).map pk)[i]?=some t∧args[i]?=some x):
  AR P ρ nt E' {tmps:=bZ++Array.replicate (nt-bZ.size) undef,defers:=[]}:=by
 have Z:bZ.size=args.length:=by have:=A.length;simpa using this
 refine⟨by simp;omega,rfl,fun t v h=>?_,I⟩
 rcases K t v h with h|⟨i,G,h2⟩
 ·rw[T4.rQ] at h;cases h
 obtain⟨y,O,z⟩:=A.get _ v h2
 refine⟨y,?_,z⟩
 have hi:i<n:=by
  have:=(List.getElem?_eq_some_iff.1 G).1
  simpa using this
 have U:pk i=t:=by simpa[hi] using G
 have hk:t.n=i:=by rw[←U];exact wa (by omega)
 have:i<bZ.size:=by
  have:=(List.getElem?_eq_some_iff.1 h2).1
  omega
 rw[hk,Ep this]
 simpa using O
def yp(tmps:Array Value):ResultVar→Sem Value
 |.tmp t=>pure (tmps.getD t undef)
 |.cell a t=>do loadVar t (←asAddr (tmps.getD a undef))
theorem Q5(fn:Func)(tmps:Array Value):Go.results fn tmps=(do
  let vs←fn.results.mapM (yp tmps)
  pure (if h:vs.size=1 then vs[0] else .tuple vs)):=by
 unfold Go.results
 congr 2
theorem LB{tmps:Array Value}{t:Nat}{cv:Value}(h:tmps[t]?=some cv):tmps.getD t undef=cv:=by
 simp[uG,h]
theorem Tq(hA:AR P ρ nt E a)(hR:R ρ C w)(hK:j7 ρ C H){r:ResultVar}{rs:List lG}{ir:lG}(z:nc P (r::[])=some [ir]){k:an→aD}{e:Nat}{v:an}(h:yk E H ir (.err e) k= .ok v H'):
  ∃x J,(yp a.tmps r).run P w= .ok J w∧VR ρ x J∧k x= .ok v H':=by
 cases r with
 |tmp t=>
  simp only[nc] at z
  split at z
  case isFalse=>cases z
  rename_i ht
  simp only[gO,yf,and_true] at z
  subst z
  replace h:=jm (o:=E.get (pk t)) h
  obtain⟨x,I,h⟩:=h
  obtain⟨cv,K,h2⟩:=hA.tmp (pk t) x I
  rw[wa ht] at K
  exact⟨x,cv,by simp[yp,LB K],h2,h⟩
 |cell s t=>
  simp only[nc] at z
  split at z
  ·rename_i l n U hn
   cases U
   split at z
   case isFalse=>cases z
   rename_i G
   simp only[gO,yf,and_true] at z
   subst z
   replace h:=jm (o:=E.get (pk s)) h
   obtain⟨x,I,h⟩:=h
   replace h:=vn h;obtain⟨f,g,off,rfl,h⟩:=h
   obtain⟨l,U,h⟩:=He h (by simp)
   obtain⟨cv,K,h2⟩:=hA.tmp (pk s) _ I
   rw[wa G] at K
   simp only[VR] at h2
   obtain⟨hm,hh,rfl⟩:=h2
   obtain⟨_,_,_,_,_,wz⟩:=th hn
   have Y:C f=H.t.get f:=by
    obtain⟨_,_,_,_,_,_,_,_,hg,_⟩:=U
    exact(hK f _ ⟨_,_,hh⟩ hg).trans hg.symm
   obtain⟨hlen,hk,hc⟩:=hR.rd U Y hh (by omega)
   have key:∀x,iG (pE P t) l (.err 0) (fun v=>.ok v H)= .ok x H→k x= .ok v H'→∃x J,(yp a.tmps (.cell s t)).run P w= .ok J w∧VR ρ x J∧k x= .ok v H':=by
    intro x I Z
    obtain⟨_,cv,O,sI⟩:=Jl (P:=P) (ρ:=ρ) (w:=w) (ad:=⟨hm.b8,hm.off+off,none⟩) hn hlen hk (fun j x I=>by rw[Addr.add_lit];exact hc j x I) I
    exact⟨x,cv,by simp[yp,LB K,asAddr,O],sI,Z⟩
   rcases Gk h with⟨A,h⟩|⟨x,A,nY,h⟩
   ·exact key _ (by rw[A];rfl) h
   exact key x (by rw[A,nY];rfl) h
  cases z
theorem KP(Z:AR P ρ nt E a)(hR:R ρ C w)(hK:j7 ρ C H){e:Nat}{v:an}:∀{l:List ResultVar}{rs:List lG}(z:nc P l=some rs){k:List an→aD},uq E H rs (.err e) k= .ok v H'→
  ∃vs nx,(l.mapM (yp a.tmps)).run P w= .ok nx w∧cw ρ vs nx∧k vs= .ok v H'
 |[],rs,z,k,h=>by
  cases z
  exact⟨[],[],by simp,by simp only[cw],h⟩
 |r::l,rs,z,k,h=>by
  have A:∃I G,rs=I::G∧nc P [r]=some [I]∧nc P l=some G:=by
   cases r with
   |tmp t=>
    unfold nc at z
    split at z
    ·rename_i J K
     split at z
     ·rename_i O;cases z;exact⟨_,J,rfl,by simp[nc,O],K⟩
     cases z
    cases z
   |cell s t=>
    unfold nc at z
    split at z
    ·rename_i J n K hn
     split at z
     ·rename_i O;cases z;exact⟨_,J,rfl,by simp[nc,hn,O],K⟩
     cases z
    cases z
  obtain⟨I,G,rfl,h1,h2⟩:=A
  have h:yk E H I (.err e) (fun v=>uq E H G (.err e) fun vs=>k (v::vs))= .ok v H':=h
  obtain⟨x,cx,hx,U,h⟩:=Tq Z hR hK (rs:=[]) h1 h
  obtain⟨vs,nx,hm,Y,h⟩:=KP Z hR hK h2 h
  exact⟨x::vs,cx::nx,by simp[hx,hm],⟨cx,nx,rfl,U,Y⟩,h⟩
theorem QC(G:AR P ρ nt E a)(I:R ρ C w)(J:j7 ρ C H){fn:Func}{rs:List lG}(K:nc P fn.results.toList=some rs){v:an}(h:results E H rs= .ok v H'):
  H'=H∧∃cv,(Go.results fn a.tmps).run P w= .ok cv w∧VR ρ v cv:=by
 obtain⟨vs,nx,A,z,h⟩:=KP (P:=P) (e:=70) G I J K h
 rw[Q5]
 cases vs with
 |nil=>
  cases h
  simp only[cw] at z
  subst z
  refine⟨rfl,.tuple #[],by simp[GX,A],?_⟩
  simp only[VR]
  exact⟨#[],rfl,by simp only[cw]⟩
 |cons x r=>
  cases r with
  |nil=>
   cases h
   simp only[cw] at z
   obtain⟨c,t,rfl,O,rfl⟩:=z
   exact⟨rfl,c,by simp[GX,A],O⟩
  |cons y s=>
   cases h
   refine⟨rfl,.tuple nx.toArray,?_,?_⟩
   ·have U:=z.length
    have:¬nx.length=1:=by simp at U;omega
    simp[GX,A,this]
   simp only[VR]
   exact⟨nx.toArray,rfl,by simpa using z⟩
theorem LC{g:Func}{fn:bD}(h:uL P g=some fn):∃c,g.body=some c∧nc P g.results.toList=some fn.res∧(∃n,n≤g.ntmps∧n≤1296∧fn.ps=(List.range n).map pk)∧fn.nt=g.ntmps∧fn.body=lg P g.ntmps c∧(g.name== "runtime.NumGoroutine")=false:=by
 unfold uL at h
 split at h
 ·rename_i c rs A G
  split at h
  ·rename_i z
   cases h
   exact⟨c,A,G,⟨_,z.1,z.2.1,rfl⟩,rfl,rfl,z.2.2⟩
  cases h
 cases h
theorem LD{fn:bD}{args:List an}{v:an}(h:sn call lf fn args H= .ok v H'):
  fn.ps.length=args.length∧∃E' x E1 H1,(∀t y,E'.get t=some y→T4.emp.get t=some y∨∃i:Nat,fn.ps[i]?=some t∧args[i]?=some y)∧fn.body.ev call lf E' H= .ok x E1 H1∧(x= .normal∨x= .ret)∧results E1 H1 fn.res= .ok v H':=by
 obtain⟨A,E',h2,G⟩:=Ka fn.ps args .emp _ _ _ h
 refine⟨A,E',?_⟩
 cases z:fn.body.ev call lf E' H with
 |err n=>rw[z] at h2;cases h2
 |ok x E1 H1=>
  rw[z] at h2
  refine⟨x,E1,H1,G,rfl,?_⟩
  cases x with
  |normal=>exact⟨.inl rfl,h2⟩
  |exit id=>cases h2
  |ret=>exact⟨.inr rfl,h2⟩
theorem PS.rd{H:az}{f g off n:Nat}{e:aD}{k:List an→aD}(h:∀x,PS H (k x))(h':PS H e):PS H (rd H f g off n e k):=
 PS.iU (fun _ _ _ _ _ _ _=>PS.aH (PS.aH (PS.aH (PS.aH (PS.ob (fun _=>PS.aH (h _) (h _)) h') h') h') h') h') h'
theorem Je{rs:List lG}{v:an}(h:results E H rs= .ok v H'):H'=H:=by
 have key:∀(rs:List lG)(k:List an→aD),(∀vs,PS H (k vs))→PS H (uq E H rs (.err 70) k):=by
  intro rs
  induction rs with
  |nil=>intro k hk;exact hk []
  |cons r rs A=>
   intro k hk
   show PS H (yk E H r (.err 70) fun v=>uq E H rs (.err 70) fun vs=>k (v::vs))
   have z:∀v,PS H (uq E H rs (.err 70) fun vs=>k (v::vs)):=fun v=>A _ fun vs=>hk _
   cases r with
   |tmp t=>exact PS.ob (fun x=>z x) PS.err
   |cell s n g=>exact PS.ob (fun x=>PS.iv (fun _ _ _=>PS.rd (fun _=>PS.iG (fun x=>z x) PS.err) PS.err) PS.err) PS.err
 exact key rs _ (fun vs=>by
  cases vs with
  |nil=>exact PS.ok
  |cons x r=>cases r<;>exact PS.ok) v H' h
def Gm(P:Program)(ft:Tr bD):Prop:=∀f fn,ft.get f=some fn→∃g,P.funcs[f]?=some g∧uL P g=some fn
theorem JK(hc:kt P call)(A:P.follows .mixedOrders=true){f:Nat}{g:Func}{fn:bD}(hf:P.funcs[f]?=some g)(hg:uL P g=some fn){args:List an}{v:an}{bZ:Array Value}
  (h:sn call lf fn args H= .ok v H') (hm:H.bc≤H.next) (O:WF H) (hR:R ρ C w) (hK:j7 ρ C H) (hF:ia ρ H.next H'.next) (hG:uu P ρ) (hv:cw ρ args bZ.toList):
  Calls P f bZ w fun e w'=>∃cv,e= .returned cv∧dT ρ C w H v H' cv w':=by
 obtain⟨c,hb,hr,⟨np,U,G,Y⟩,hnt,z,_⟩:=LC hg
 obtain⟨hlen,E',x,E1,H1,hE,h1,hx,h2⟩:=LD h
 have he:=Je h2
 subst he
 rw[Y] at hE hlen
 have hA:AR P ρ g.ntmps E' {tmps:=bZ++Array.replicate (g.ntmps-bZ.size) undef,defers:=[]}:=AR.init hv (by rw[←hlen];simpa using U) hG G hE
 rw[z] at h1
 refine calls_of_wp hf hb (vd hc A c _ H x E1 H' ρ C _ w _ h1 hA hR hK hF hm O fun a1 Z ρ1 I uX J Bd=>?_)
 obtain⟨_,cv,K,sI⟩:=QC I J Bd hr h2
 have fin:a1.defers=[]∧∃v,(Go.results g a1.tmps).run P Z= .ok v Z∧∃cv,Ending.returned v= .returned cv∧dT ρ C w H ‹an› H' cv Z:=⟨I.defers,cv,K,cv,rfl,ρ1,sI,uX,J⟩
 rcases hx with rfl|rfl
 ·exact fin
 exact fin
def Gn:Nat→Option (Array Value→Sem Value)
 |0=>some Extern.BytealgIndexByte.indexByte
 |1=>some Extern.AbiNoEscape.same
 |_=>none
def Mv(P:Program)(f:Nat):Prop:=∀w:World,xR P w→
 ((callFunc f #[]).run P w= .ok (.enter f #[]) w∧Calls P f #[] w fun e w'=>e= .returned (.bool true)∧Kept w w')∨∃w',(callFunc f #[]).run P w= .ok (.value (.bool true)) w'∧Kept w w'
def GL(P:Program)(f:Nat)(args:Array Value)(w:World)(Q:Value→Prop):Prop:=
 (callFunc f args).run P w= .ok (.enter f args) w∧Calls P f args w fun e w'=>∃v,e= .returned v∧Q v∧Kept w w'
def UP(P:Program)(f:Nat):Prop:=∀(s:ByteArray)(u:Nat)(w:World),s.size≤1000→Lib.parseUintB 64 s.data.toList= .ok u→
 GL P f #[.string s,.int .i64 10,.int .i64 64] w fun v=>v= .tuple #[.int .u64 u,.nilIface]
def VT(P:Program)(f g t:Nat):Prop:=∀(s:ByteArray)(w:World),s.size≤1000→
 (∀v,Lib.parseIntB 64 s.data.toList= .ok v→GL P f #[.string s,.int .i64 10,.int .i64 64] w fun x=>x= .tuple #[.int .i64 v,.nilIface])∧
 (Lib.parseIntB 64 s.data.toList= .range→(∃z A,w.cell? ⟨g,0,none⟩=some (.iface z A))→GL P f #[.string s,.int .i64 10,.int .i64 64] w fun x=>∃a:Addr,x= .tuple #[.int .i64 (Lib.intSat 64 s.data.toList),.iface t (.pointer (some a))])
def VU(P:Program)(f c:Nat):Prop:=∃fn,P.funcs[f]?=some fn∧(fn.name== "runtime.NumGoroutine")=false∧fn.body.isNone=true∧Extern.findNext fn=none∧∃e,Gn c=some e∧Extern.find fn=some e
def NU(P:Program)(xt:Tr Nat):Prop:=∀f c,xt.get f=some c→VU P f c∨(c=2∧Mv P f)∨(c=3∧UP P f)∨∃g t,c=4+t∧g<P.globals.size∧yl P g=true∧VT P f g t
theorem Gp(c:UInt8):∀(l:List UInt8)(i:Nat),AM c.toNat l.length (pack l) i=if Lib.indexByte l c= -1 then-1 else Lib.indexByte l c+i
 |[],i=>rfl
 |b::l,i=>by
  show aH (Nat.beq (Nat.mod (pack (b::l)) 256) c.toNat) (Int.ofNat i) (dp (Nat.div (pack (b::l)) 256) fun s=>dp (Nat.succ i) fun i=>AM c.toNat l.length s i)=_
  have e1:Nat.mod (pack (b::l)) 256=b.toNat:=by
   have:=BL (b::l) 1
   simp only[Ay] at this
   rw[show Nat.mod (pack (b::l)) 256=pack (b::l) % 256 from rfl,this]
   simp[pack]
  have e2:Nat.div (pack (b::l)) 256=pack l:=by
   have:=BK (b::l) 1
   simp only[Ay] at this
   exact this
  rw[e1,e2,iq,iq,Gp c l (i+1)]
  have I:=Lib.indexByte_ge l c
  by_cases z:b=c
  ·subst z
   rw[show Nat.beq b.toNat b.toNat=true from iZ _,fV]
   simp[Lib.indexByte]
  have:Nat.beq b.toNat c.toNat=false:=by
   cases h:Nat.beq b.toNat c.toNat
   ·rfl
   exact absurd (UInt8.toNat_inj.1 (d8 h)) z
  rw[this]
  show(if Lib.indexByte l c= -1 then(-1:Int) else Lib.indexByte l c+((i+1:Nat):Int))=_
  have A:(b==c)=false:=by simpa using z
  rw[show Lib.indexByte (b::l) c=if(b==c)=true then 0 else if(Lib.indexByte l c== -1)=true then-1 else Lib.indexByte l c+1 from rfl,A]
  by_cases G:Lib.indexByte l c= -1
  ·simp[G]
  have h2:(Lib.indexByte l c== -1)=false:=by simpa using G
  have J:¬(Lib.indexByte l c+1= -1):=by omega
  rw[aj G,h2]
  simp only[pR,if_false,aj J]
  omega
theorem UQ(hR:R ρ C w){c:Nat}{e:Array Value→Sem Value}(he:Gn c=some e){args:List an}{bZ:Array Value}(z:cw ρ args bZ.toList){v:an}(h:qv c args H= .ok v H'):
  H'=H∧∃cv,(e bZ).run P w= .ok cv w∧VR ρ v cv:=by
 unfold Gn at he
 split at he
 ·cases he
  have h:FB args H= .ok v H':=h
  cases args with
  |nil=>cases h
  |cons x r=>cases r with
   |nil=>cases h
   |cons y r=>
    have h:jQ x (.err 90) (fun l s=>gN y (.err 90) fun k c=>jd c (.err 90) fun c=>aH (Nat.beq (dk k) 4) (aH (Nat.ble c 255) (aH (Nat.beq (jg (y::r)) 1) (kV (AM c l s 0) fun i=>aD.ok (.int .i64 i) H) (.err 90)) (.err 90)) (.err 90))= .ok v H':=h
    replace h:=wR h;obtain⟨l,s,rfl,h⟩:=h
    replace h:=rM h;obtain⟨k,c0,rfl,h⟩:=h
    replace h:=vo h;obtain⟨c,rfl,h⟩:=h
    replace h:=fD h;obtain⟨G,h⟩:=h
    replace h:=fD h;obtain⟨K,h⟩:=h
    replace h:=fD h;obtain⟨A,h⟩:=h
    rw[rJ] at h
    cases h
    rw[oq] at A
    have A:=d8 A
    have U:r=[]:=by simpa using A
    subst U
    have K:=bS K
    have G:=d8 G
    simp only[cw,VR] at z
    obtain⟨_,_,e1,⟨b,rfl,rfl,rfl⟩,_,_,rfl,rfl,rfl⟩:=z
    have hk:k= .u8:=by cases k<;>simp[dk] at G<;>rfl
    subst hk
    have I:bZ=#[.string b,.int .u8 (Int.ofNat c)]:=by have:=congrArg List.toArray e1;simpa using this
    subst I
    refine⟨rfl,_,Lib.run_indexByteString (P:=P) b (Int.ofNat c) w,?_⟩
    simp only[VR]
    have J:(c.toUInt8).toNat=c:=by show(UInt8.ofNat c).toNat=c;rw[UInt8.toNat_ofNat'];omega
    have:=Gp c.toUInt8 b.data.toList 0
    rw[J] at this
    have Y:b.data.toList.length=b.size:=nh
    rw[Y] at this
    rw[this]
    congr 1
    have e:(Int.ofNat c).toNat.toUInt8=c.toUInt8:=rfl
    rw[e]
    split
    ·rename_i Z;exact Z
    simp
 ·cases he
  have h:Ha args H= .ok v H':=h
  cases args with
  |nil=>cases h
  |cons x r=>cases r with
   |cons y r=>cases h
   |nil=>
    cases h
    simp only[cw] at z
    obtain⟨O,_,e1,hx,rfl⟩:=z
    have I:bZ=#[O]:=by have:=congrArg List.toArray e1;simpa using this
    subst I
    exact⟨rfl,O,rfl,hx⟩
 cases he
theorem y8:∀l:List UInt8,rj l.length (pack l)=l
 |[]=>rfl
 |b::l=>by
  have e1:pack (b::l) % 256=b.toNat:=by
   have:=BL (b::l) 1
   simp only[Ay] at this
   rw[this]
   simp[pack]
  have e2:pack (b::l)/256=pack l:=by
   have:=BK (b::l) 1
   simp only[Ay] at this
   exact this
  show UInt8.ofNat (pack (b::l) % 256)::rj l.length (pack (b::l)/256)=_
  rw[e1,e2,y8 l]
  simp
theorem RI{c:Nat}{args:List an}:PS H (Oo c args H):=by
 intro v H1 h
 cases c with
 |zero=>
  have h:ur args H= .ok v H1:=h
  unfold ur at h
  split at h
  ·split at h
   ·split at h
    ·cases h;rfl
    cases h
   cases h
  cases h
 |succ c=>
  have h:so c args H= .ok v H1:=h
  unfold so at h
  split at h
  ·split at h
   ·split at h
    ·cases h;rfl
    ·cases h;rfl
    cases h
   cases h
  cases h
theorem Sn{c:Nat}{args:List an}:PS H (qv c args H):=by
 cases c with
 |zero=>
  show PS H (FB args H)
  cases args with
  |nil=>exact PS.err
  |cons x r=>cases r with
   |nil=>exact PS.err
   |cons y r=>exact PS.jQ (fun _ _=>PS.gN (fun _ _=>PS.jd (fun _=>PS.aH (PS.aH (PS.aH (PS.kV fun _=>PS.ok) PS.err) PS.err) PS.err) PS.err) PS.err) PS.err
 |succ c=>cases c with
  |zero=>
   show PS H (Ha args H)
   cases args with
   |nil=>exact PS.err
   |cons x r=>cases r with
    |nil=>exact PS.ok
    |cons y r=>exact PS.err
  |succ c=>cases c with
   |zero=>
    show PS H (Hb args H)
    cases args with
    |nil=>exact PS.ok
    |cons x r=>exact PS.err
   |succ c=>exact RI
theorem UR(z:R ρ C w)(I:uu P ρ):xR P w:=fun g J=>by
 obtain⟨x,A,K,ho,hp⟩:=I g J
 refine⟨by have:=z.jX g 1 x A;omega,fun h=>?_⟩
 obtain⟨O,U,G⟩:=(z.mw _ _ _ A (hp h).1 (hp h).2).2
 rw[K,ho] at G
 exact⟨O,U,G⟩
theorem So{args:List an}{v:an}(h:ur args H= .ok v H'):∃l s u,args=[.str l s,.int .i64 10,.int .i64 64]∧l≤1000∧Lib.parseUintB 64 (rj l s)= .ok u∧v= .tuple [.int .u64 u,.gA]∧H'=H:=by
 unfold ur at h
 split at h
 ·split at h
  ·rename_i z
   obtain⟨rfl,rfl,rfl,rfl,A⟩:=z
   split at h
   ·rename_i G;cases h;exact⟨_,_,_,rfl,A,G,rfl,rfl⟩
   cases h
  cases h
 cases h
theorem Ts{t:Nat}{args:List an}{v:an}(h:so t args H= .ok v H'):∃l s,args=[.str l s,.int .i64 10,.int .i64 64]∧l≤1000∧H'=H∧
  ((∃u,Lib.parseIntB 64 (rj l s)= .ok u∧v= .tuple [.int .i64 u,.gA])∨(Lib.parseIntB 64 (rj l s)= .range∧v= .tuple [.int .i64 (Lib.intSat 64 (rj l s)),.iface t (.map 0)])):=by
 unfold so at h
 split at h
 ·split at h
  ·rename_i z
   obtain⟨rfl,rfl,rfl,rfl,G⟩:=z
   split at h
   ·rename_i A;cases h;exact⟨_,_,rfl,G,rfl,.inl ⟨_,A,rfl⟩⟩
   ·rename_i A
    cases h;exact⟨_,_,rfl,G,rfl,.inr ⟨A,rfl⟩⟩
   cases h
  cases h
 cases h
theorem OF{l s:Nat}{a b:Int}{bZ:Array Value}(z:cw ρ [.str l s,.int .i64 a,.int .i64 b] bZ.toList):∃x:ByteArray,bZ=#[.string x,.int .i64 a,.int .i64 b]∧l=x.size∧s=pack x.data.toList:=by
 simp only[cw,VR] at z
 obtain⟨v,t,e,⟨x,rfl,A,h2⟩,G,t2,rfl,rfl,I,t3,rfl,rfl,rfl⟩:=z
 exact⟨x,by have:=congrArg List.toArray e;simpa using this,A,h2⟩
theorem Mw(J:P.follows .mixedOrders=true){ft:Tr bD}{xt:Tr Nat}(ht:Gm P ft)(K:NU P xt):∀n,kt P (A3 ft xt lf n)
 |0=>⟨fun _ _ _ _=>TM.err,fun _ _ _ _ _ _ _ _ _ h=>(by cases h)⟩
 |n+1=>by
  have ih:=Mw J ht K n
  have key:∀f args H v H',A3 ft xt lf (n+1) f args H= .ok v H'→(∃fn,ft.get f=some fn∧sn (A3 ft xt lf n) lf fn args H= .ok v H')∨∃c,xt.get f=some c∧qv c args H= .ok v H':=by
   intro f args H v H' h
   have h:ob (ft.get f) (ob (xt.get f) (.err (Nat.add 10000 f)) fun c=>qv c args H) (fun fn=>sn (A3 ft xt lf n) lf fn args H)= .ok v H':=h
   cases hf:ft.get f with
   |some fn=>rw[hf] at h;exact .inl ⟨fn,rfl,h⟩
   |none=>
    rw[hf] at h
    exact .inr (jm (o:=xt.get f) h)
  refine⟨fun f args H hm v H' h=>?_,fun f args H v H' ρ C w bZ h hm ny I hK hF hG hv=>?_⟩
  ·rcases key _ _ _ _ _ h with⟨fn,_,h⟩|⟨c,_,h⟩
   ·obtain⟨_,_,x,E1,H1,_,A,_,h2⟩:=LD h
    rw[Je h2]
    exact qP ih fn.body _ _ _ _ _ hm A
   rw[Sn v H' h];exact gn.refl _
  rcases key _ _ _ _ _ h with⟨fn,hfn,h⟩|⟨c,hc,h⟩
  ·obtain⟨g,hg,Pj⟩:=ht f fn hfn
   obtain⟨cd,U,_,_,_,_,z⟩:=LC Pj
   have A:g.name≠ "runtime.NumGoroutine":=by simpa using z
   exact .inl ⟨by simp[callFunc,hg,A,U],JK ih J hg Pj h hm ny I hK hF hG hv⟩
  rcases K f c hc with⟨fn,hf,z,U,hn,e,he,Y⟩|⟨rfl,Z⟩|⟨rfl,VW⟩|⟨g0,t0,rfl,hg1,Pk,hint⟩
  rotate_left
  rotate_left
  ·obtain⟨l,s,u,rfl,hl,hu,rfl,rfl⟩:=So (show ur args H= .ok v H' from h)
   obtain⟨b,rfl,U,rfl⟩:=OF hv
   subst U
   rw[show b.size=b.data.toList.length from(nh (xs:=b.data)).symm,y8] at hu
   obtain⟨A,h2⟩:=VW b u w hl hu
   exact .inl ⟨A,Calls.mono h2 fun e w'⟨x,he,K,hk⟩=>⟨x,he,ρ,by subst K;simp only[VR,cw];exact⟨_,rfl,_,_,rfl,rfl,_,_,rfl,rfl,rfl⟩,hk.ext _ _ _,by rw[po];exact I.kept hk⟩⟩
  ·have h5:so t0 args H= .ok v H':=by
    rw[show 4+t0=t0+4 by omega] at h
    exact h
   obtain⟨l,s,rfl,hl,rfl,G⟩:=Ts h5
   obtain⟨b,rfl,U,rfl⟩:=OF hv
   subst U
   rw[show b.size=b.data.toList.length from(nh (xs:=b.data)).symm,y8] at G
   rcases G with⟨u,hu,rfl⟩|⟨hu,rfl⟩
   ·obtain⟨A,h2⟩:=(hint b w hl).1 u hu
    exact .inl ⟨A,Calls.mono h2 fun e w'⟨x,he,K,hk⟩=>⟨x,he,ρ,by subst K;simp only[VR,cw];exact⟨_,rfl,_,_,rfl,rfl,_,_,rfl,rfl,rfl⟩,hk.ext _ _ _,by rw[po];exact I.kept hk⟩⟩
   obtain⟨hm,hh,yn,Ew,O⟩:=hG g0 hg1
   obtain⟨te,pe,jb⟩:=(I.mw _ _ _ hh (O Pk).1 (O Pk).2).2
   rw[yn,Ew] at jb
   obtain⟨A,h2⟩:=(hint b w hl).2 hu ⟨_,_,jb⟩
   exact .inl ⟨A,Calls.mono h2 fun e w'⟨x,he,⟨a,K⟩,hk⟩=>⟨x,he,ρ,by subst K;simp only[VR,cw];exact⟨_,rfl,_,_,rfl,rfl,_,_,rfl,⟨_,rfl,a,rfl⟩,rfl⟩,hk.ext _ _ _,by rw[po];exact I.kept hk⟩⟩
  rotate_left
  ·have h:Hb args H= .ok v H':=h
   cases args with
   |cons x r=>cases h
   |nil=>
    cases h
    simp only[cw] at hv
    have E3:bZ=#[]:=by have:=congrArg List.toArray hv;simpa using this
    subst E3
    have ru:xR P w:=UR I hG
    have post:∀{w':World},Kept w w'→dT ρ C w H (.bool true) H (.bool true) w':=fun hk=>⟨ρ,by simp only[VR],hk.ext _ _ _,by rw[po];exact I.kept hk⟩
    rcases Z w ru with⟨A,h2⟩|⟨w',A,h2⟩
    ·exact .inl ⟨A,Calls.mono h2 fun e w'⟨he,hk⟩=>⟨_,he,post hk⟩⟩
    exact .inr ⟨_,w',A,post h2⟩
  obtain⟨rfl,cv,wi,sI⟩:=UQ (P:=P) I he hv h
  refine .inr ⟨cv,w,?_,ρ,sI,Ext.refl _ _ _ _,?_⟩
  ·rw[run_callFunc_standIn hf z U hn Y,wi]
   rfl
  rw[po];exact I
end
def base(P:Program):Ho:=fun f g=>if f<P.globals.size∧g=1 then some ⟨f,0,0,true,yl P f⟩ else none
def H0(n:Nat):az:=⟨n,0,[],.emp⟩
section
variable{P:Program}{ρ:Ho}{C:Nat→Option dP}{w w':World}{H H':az}{call:eC}{f n:Nat}{args:List an}{bZ:Array Value}{v:an}
theorem qH{f g:Nat}{h:Hm}(e:base P f g=some h):f<P.globals.size∧g=1∧h=⟨f,0,0,true,yl P f⟩:=by
 unfold base at e
 split at e
 ·rename_i k;cases e;exact⟨k.1,k.2,rfl⟩
 cases e
theorem zR(z:xR P w):R (base P) (fun _=>none) w:=by
 refine⟨fun f o h=>(by cases h),fun f g h f' g' h' e A _ _=>?_,fun f g h e=>?_,fun f g h g' h' e A _=>?_,fun f g h e _ hp=>?_⟩
 rotate_right
 ·obtain⟨k,_,rfl⟩:=qH e
  exact⟨fun g' h' A=>by obtain⟨_,_,rfl⟩:=qH A;rfl,(z f k).2 hp⟩
 ·obtain⟨_,_,rfl⟩:=qH e
  obtain⟨_,_,rfl⟩:=qH A
  exact⟨rfl,rfl⟩
 ·obtain⟨k,_,rfl⟩:=qH e
  exact(z f k).1
 obtain⟨_,_,rfl⟩:=qH e
 obtain⟨_,_,rfl⟩:=qH A
 rfl
theorem JL:uu P (base P):=fun g z=>⟨⟨g,0,0,true,yl P g⟩,by simp[base,z],rfl,rfl,fun h=>⟨rfl,h⟩⟩
theorem RJ(z:P.globals.size≤n)(m:Nat):ia (base P) n m:=fun f g A _=>by
 unfold base
 rw[aj (by omega)]
theorem VX:WF (H0 n):=fun x _=>GT.rQ x
theorem Sp:j7 (base P) (fun _=>none) (H0 n):=fun f o _ h=>by
 rw[show(H0 n).t.get f=none from GT.rQ f] at h;cases h
theorem dT.kept{cv:Value}(h:dT (base P) C w H v H' cv w'):Kept w w':=by
 obtain⟨ρ',_,he,_⟩:=h
 exact⟨he.os,he.tape,he.output,he.size,fun b z=>he.frame b z fun f g x A G _=>by obtain⟨_,_,rfl⟩:=qH A;cases G⟩
theorem trueOk_of(J:kt P call){A:Nat}(K:P.globals.size≤n)(O:call A [] (H0 n)= .ok (.bool true) H'):Mv P A:=fun w G=>by
 have post:∀{cv:Value}{w':World},dT (base P) (fun _=>none) w (H0 n) (.bool true) H' cv w'→cv= .bool true∧Kept w w':=by
  intro cv w' hp
  have hk:=hp.kept
  obtain⟨_,z,_,_⟩:=hp
  simp only[VR] at z
  exact⟨z,hk⟩
 rcases J.sound A [] (H0 n) (.bool true) H' (base P) (fun _=>none) w #[] O (dh _) VX (zR G) Sp (RJ K _) JL (by simp only[cw]) with⟨I,h2⟩|⟨cv,w',I,h2⟩
 ·exact .inl ⟨I,Calls.mono h2 fun e w'⟨cv,he,hp⟩=>by
   obtain⟨rfl,hk⟩:=post hp
   exact⟨he,hk⟩⟩
 obtain⟨rfl,hk⟩:=post h2
 exact .inr ⟨w',I,hk⟩
noncomputable def D5{α:Type}(l:List (Nat×α)):Tr α:=List.rec (motive:=fun _=>Tr α) .leaf (fun p _ z=>z.set p.1 p.2) l
theorem Kb{α:Type}{f:Nat}{x:α}:∀{l:List (Nat×α)},(D5 l).get f=some x→(f,x)∈l
 |[],h=>by rw[show D5 ([]:List (Nat×α))= .leaf from rfl,Tr.tf] at h;cases h
 |p::r,h=>by
  have h:((D5 r).set p.1 p.2).get f=some x:=h
  rw[Tr.eO] at h
  split at h
  ·rename_i e;cases h;subst e;exact lF ..
  exact o0 _ (Kb h)
def vU(P:Program)(p:Nat×bD):Prop:=∃g,P.funcs[p.1]?=some g∧uL P g=some p.2
theorem tabOf_ok{l:List (Nat×bD)}(h:∀p,p∈l→vU P p):Gm P (D5 l):=fun f fn z=>h (f,fn) (Kb z)
theorem rows_nil:∀p,p∈([]:List (Nat×bD))→vU P p:=fun _ h=>by cases h
theorem rows_cons{k:Nat}{fn:bD}{g:Func}{l:List (Nat×bD)}(z:P.funcs[k]?=some g)(h2:uL P g=some fn)(h:∀p,p∈l→vU P p):∀p,p∈(k,fn)::l→vU P p:=fun p hp=>by
 rcases List.mem_cons.1 hp with rfl|hp
 ·exact⟨g,z,h2⟩
 exact h p hp
theorem rows_append{l m:List (Nat×bD)}(h:∀p,p∈l→vU P p)(k:∀p,p∈m→vU P p):∀p,p∈l++m→vU P p:=fun p hp=>(List.mem_append.1 hp).elim (h p) (k p)
end
noncomputable def okT(r:aD):Bool:=aD.rec (motive:=fun _=>Bool) (fun v _=>an.rec (motive_1:=fun _=>Bool) (motive_2:=fun _=>Unit) (fun b=>b) (fun _ _=>false) (fun _ _=>false) (fun _ _ _=>false) false (fun _ _ _ _ _=>false) false (fun _ _=>false) (fun _ _=>false) (fun _ _ _ _ _=>false) false (fun _ _ _=>false) false (fun _=>false) false false () (fun _ _ _ _=>()) v) (fun _=>false) r
theorem okT_ok{r:aD}(h:okT r=true):∃H,r= .ok (.bool true) H:=by
 cases r with
 |err n=>cases h
 |ok v H=>
  cases v with
  |bool b=>cases b with
   |true=>exact⟨H,rfl⟩
   |false=>cases h
  |_=>cases h
section
variable{call:eC}{lf:Nat}{E:Env}{H:az}
theorem QD(k:Key)(ks:List Key)(v:an)(l:List an)(E:Env)(c:Env→aD):params (k::ks) (v::l) E c=params ks l (E.set k v) c:=
 T4.j6 E k v fun E=>params ks l E c
theorem RK(ops:List bo):(IC.region false ops).ev call lf E H=yC (mG call ops E H):=rfl
theorem Q6(ops:List bo):(IC.region true ops).ev call lf E H=yC (lR call ops E H []):=rfl
theorem GM(a b:IC):(IC.seq a b).ev call lf E H=tg (a.ev call lf E H) (b.ev call lf):=rfl
theorem Mx(E:Env)(H:az):yC (.ok E H)= .ok .normal E H:=rfl
theorem Jv(E:Env)(H:az)(k:Env→az→Out):tg (.ok .normal E H) k=k E H:=rfl
theorem Jw(d:Option Key)(q:Option (List Nat))(op:bE)(r:List bo):mG call (⟨d,none,q,op⟩::r) E H=fin d E (mG call r) (op.ev call E H):=rfl
theorem B2(d:Key)(v:an)(k:Env→az→eA):fin (some d) E k (.ok v H)=k (E.set d v) H:=T4.zi E d v fun E=>k E H
theorem Sq(v:an)(k:Env→az→eA):fin none E k (.ok v H)=k E H:=rfl
theorem df{α β:Type}(x:α)(e:β)(k:α→β):ob (some x) e k=k x:=rfl
theorem US(x:aF):(bE.nV x).ev call E H=ob (x.ev E) (.err 1) fun v=>.ok v H:=dm x E _ _
theorem UT(op:BinOp)(x y:aF):(bE.bin op x y).ev call E H=ob (x.ev E) (.err 6) fun a=>ob (y.ev E) (.err 6) fun b=>ob (AF op a b) (.err 6) fun v=>.ok v H:=by
 show bA x E (.err 6) (fun a=>bA y E (.err 6) fun b=>yi op a b fun v=>.ok v H)=_
 simp only[dm,Cf,ta]
theorem Tt(k:IntKind)(x:aF):(bE.conv k x).ev call E H=ob (x.ev E) (.err 36) fun v=>gN v (.err 36) fun _ n=>.ok (.int k (lT k n)) H:=by
 show bA x E (.err 36) (fun v=>gN v (.err 36) fun _ n=>kV (lT k n) fun n=>.ok (.int k n) H)=_
 simp only[dm,rJ]
theorem Sr(k:IntKind)(n:Int)(e:aD)(f:IntKind→Int→aD):gN (.int k n) e f=f k n:=rfl
noncomputable def VY(fn:bD)(o:Out):aD:=
 Out.rec (motive:=fun _=>aD) (fun x E H=>Ex.rec (motive:=fun _=>aD) (results E H fn.res) (fun _=>.err 72) (results E H fn.res) x) .err o
theorem Tu(fn:bD)(args:List an)(H:az):sn call lf fn args H=params fn.ps args .emp fun E=>VY fn (fn.body.ev call lf E H):=rfl
end
theorem Kept.keptBut{w w':World}(h:Kept w w')(may:MemPlace→Prop):w.keptBut w' may:=by
 refine⟨h.os,h.output,fun i hi=>?_⟩
 rw[h.o7 i hi]
 cases w.heap[i]?with
 |none=>rfl
 |some o=>cases o with
  |cells c t z=>exact⟨rfl,rfl,rfl,fun _ _=>rfl⟩
  |map es clock=>exact .inr ⟨rfl,rfl⟩
  |_=>rfl
theorem low_of_shaped{P:Program}{w:World}(h:w.ShapedOpen P)(I:((List.range P.globals.size).all fun g=>((((begin P (fun _ _=>0) default).world.heap[g]?).bind Obj.row?).isSome))=true):∀g,g<P.globals.size→g<w.heap.size:=by
 intro g z
 have A:=List.all_eq_true.1 I g (List.mem_range.2 z)
 cases G:((begin P (fun _ _=>0) default).world.heap[g]?).bind Obj.row? with
 |none=>rw[G] at A;cases A
 |some x=>
  obtain⟨zero,t⟩:=x
  obtain⟨cs,J,_⟩:=h.1 g zero t z G
  exact(Array.getElem?_eq_some_iff.1 J).1
mutual
def VZ{H:Type}:DataW H→List Value
 |.lit (.int k n)=>[.int k n]
 |.lit (.bool b)=>[.bool b]
 |.lit (.string bs)=>[.string ⟨bs.toArray⟩]
 |.agg parts=>My parts
 |_=>[]
def My{H:Type}:List (DataW H)→List Value
 |[]=>[]
 |d::r=>VZ d++My r
end
def putG(h:Array Obj)(g:Nat)(cs:List Value):Array Obj:=h.modify g fun
 |.cells _ t frozen=>.cells cs.toArray t frozen
 |o=>o
structure bf where
 ft:Tr bD
 xt:Tr Nat
noncomputable def bf.call(T:bf)(lf n:Nat):eC:=A3 T.ft T.xt lf n
def iS(T:bf)(op:bE)(E:Env)(H:az)(Q:an→az→Prop):Prop:=∃N v H',(∀lf n,N≤lf→N≤n→op.ev (T.call lf n) E H= .ok v H')∧Q v H'
def nZ(T:bf)(ops:List bo)(E:Env)(H:az)(Q:Env→az→Prop):Prop:=∃N E' H',(∀lf n,N≤lf→N≤n→mG (T.call lf n) ops E H= .ok E' H')∧Q E' H'
def Be(T:bf)(ops:List bo)(E:Env)(H:az)(bP:List FP)(Q:Env→az→Prop):Prop:=∃N E' H',(∀lf n,N≤lf→N≤n→lR (T.call lf n) ops E H bP= .ok E' H')∧Q E' H'
def ll(T:bf)(c:IC)(E:Env)(H:az)(Q:Ex→Env→az→Prop):Prop:=∃N x E' H',(∀lf n,N≤lf→N≤n→c.ev (T.call lf n) lf E H= .ok x E' H')∧Q x E' H'
def sQ(T:bf)(f:Nat)(args:List an)(H:az)(Q:an→az→Prop):Prop:=∃N v H',(∀lf n,N≤lf→N≤n→T.call lf n f args H= .ok v H')∧Q v H'
section
variable{T:bf}{E:Env}{H:az}
theorem sQ.mono{f:Nat}{args:List an}{Q z:an→az→Prop}(h:sQ T f args H Q)(k:∀v H',Q v H'→z v H'):sQ T f args H z:=
 let⟨N,v,H',a,b⟩:=h;⟨N,v,H',a,k _ _ b⟩
theorem ll.mono{c:IC}{Q z:Ex→Env→az→Prop}(h:ll T c E H Q)(k:∀x E' H',Q x E' H'→z x E' H'):ll T c E H z:=
 let⟨N,x,E',H',a,b⟩:=h;⟨N,x,E',H',a,k _ _ _ b⟩
theorem fZ{op:bE}{v:an}{H':az}{Q:an→az→Prop}(h:∀call,op.ev call E H= .ok v H')(z:Q v H'):iS T op E H Q:=⟨0,v,H',fun _ _ _ _=>h _,z⟩
theorem Tv{x:aF}{v:an}{Q:an→az→Prop}(h:x.ev E=some v)(z:Q v H):iS T (.nV x) E H Q:=
 fZ (fun _=>by rw[US,h,df]) z
theorem w7{op:BinOp}{x y:aF}{a b v:an}{Q:an→az→Prop}(z:x.ev E=some a)(A:y.ev E=some b)(h:AF op a b=some v)(G:Q v H):iS T (.bin op x y) E H Q:=
 fZ (fun _=>by rw[UT,z,A,df,df,h,df]) G
theorem Mz{op:UnOp}{x:aF}{a v:an}{Q:an→az→Prop}(z:x.ev E=some a)(h:EU op a=some v)(A:Q v H):iS T (.un op x) E H Q:=
 fZ (fun _=>by show bA x E (.err 8) (fun a=>ob (EU op a) (.err 8) fun v=>mB v fun v=>.ok v H)=_;rw[dm,z,df,h,df,ta]) A
theorem Tw{c:yA}{neg:Bool}{x y:aF}{a b:an}{r:Bool}{Q:an→az→Prop}(z:x.ev E=some a)(A:y.ev E=some b)(h:ns c a b=some r)(G:Q (.bool (Bool.xor neg r)) H):iS T (.eqv c neg x y) E H Q:=
 fZ (fun _=>by show bA x E (.err 7) (fun a=>bA y E (.err 7) fun b=>ob (ns c a b) (.err 7) fun r=>mZ (Bool.xor neg r) fun r=>.ok (.bool r) H)=_;rw[dm,z,df,dm,A,df,h,df,FG]) G
theorem KQ{c x y:aF}{t:Bool}{v:an}{Q:an→az→Prop}(A:c.ev E=some (.bool t))(z:(if t then x.ev E else y.ev E)=some v)(G:Q v H):iS T (.pick c x y) E H Q:=
 fZ (fun _=>by
  show bA c E (.err 2) (fun v=>r4 v (.err 2) fun t=>aH t (lZ x E H) (lZ y E H))=_
  rw[dm,A,df]
  cases t
  ·show lZ y E H=_
   have z:y.ev E=some v:=z
   unfold lZ;rw[dm,z,df]
  show lZ x E H=_
  have z:x.ev E=some v:=z
  unfold lZ;rw[dm,z,df]) G
theorem Ss{k z:IntKind}{x:aF}{n:Int}{Q:an→az→Prop}(A:x.ev E=some (.int z n))(G:Q (.int k (lT k n)) H):iS T (.conv k x) E H Q:=
 fZ (fun _=>by rw[Tt,A,df,Sr]) G
theorem F8{x:aF}{k f g o:Nat}{Q:an→az→Prop}(z:x.ev E=some (.ptr f g o))(A:Q (.ptr f g (o+k)) H):iS T (.nQ x k) E H Q:=
 fZ (fun _=>by show bA x E (.err 9) (fun v=>iv v (.err 9) fun f g off=>dp (Nat.add off k) fun off=>.ok (.ptr f g off) H)=_;rw[dm,z,df];show dp (o+k) (fun off=>aD.ok (.ptr f g off) H)=_;rw[iq]) A
theorem Gq{x:aF}{f g o l es:Nat}{Q:an→az→Prop}(z:x.ev E=some (.slice f g o l es))(A:Q (.int .i64 l) H):iS T (.len x) E H Q:=
 fZ (fun _=>by show bA x E (.err 25) (fun v=>gU v (.err 25) (.ok (.int .i64 (.ofNat 0)) H) fun _ _ _ l _=>.ok (.int .i64 (.ofNat l)) H)=_;rw[dm,z,df];rfl) A
theorem Jx{x:aF}{Q:an→az→Prop}(z:x.ev E=some .cb)(A:Q (.int .i64 0) H):iS T (.len x) E H Q:=
 fZ (fun _=>by show bA x E (.err 25) (fun v=>gU v (.err 25) (.ok (.int .i64 (.ofNat 0)) H) fun _ _ _ l _=>.ok (.int .i64 (.ofNat l)) H)=_;rw[dm,z,df];rfl) A
theorem KR{x:aF}{l s:Nat}{Q:an→az→Prop}(z:x.ev E=some (.str l s))(A:Q (.int .i64 l) H):iS T (.o3 x) E H Q:=
 fZ (fun _=>by show bA x E (.err 25) (fun v=>jQ v (.err 25) fun l _=>.ok (.int .i64 (.ofNat l)) H)=_;rw[dm,z,df];rfl) A
theorem RL{x i:aF}{es f g o l gR:Nat}{k:IntKind}{j:Nat}{Q:an→az→Prop}(A:x.ev E=some (.slice f g o l gR))(hi:i.ev E=some (.int k (j:Int)))(G:j<l)(I:Q (.ptr f g (o+j*es)) H):iS T (.fm es x i) E H Q:=
 fZ (fun _=>by
  show bA x E (.err 12) (fun v=>gU v (.err 12) (.err 12) fun f g off J _=>bA i E (.err 12) fun z=>idx z J (.err 12) fun j=>dp (Nat.add off (Nat.mul j es)) fun off=>.ok (.ptr f g off) H)=_
  rw[dm,A,df]
  show bA i E (.err 12) (fun z=>idx z l (.err 12) fun j=>dp (Nat.add o (Nat.mul j es)) fun off=>.ok (.ptr f g off) H)=_
  rw[dm,hi,df]
  show aH (Nat.ble (Nat.succ j) l) (dp (o+j*es) fun off=>aD.ok (.ptr f g off) H) (aD.err 12)=_
  rw[jA G,fV,iq]) I
theorem Su{x:aF}{vs:List an}{i:Nat}{v:an}{Q:an→az→Prop}(z:x.ev E=some (.tuple vs))(hi:vs[i]?=some v)(A:Q v H):iS T (.ri x i) E H Q:=
 fZ (fun _=>by show bA x E (.err 18) (fun v=>rR v (.err 18) fun vs=>ob (vs[i]?) (.err 18) fun v=>.ok v H)=_;rw[dm,z,df];show ob (vs[i]?) (aD.err 18) (fun v=>aD.ok v H)=_;rw[hi,df]) A
theorem RM{z cs:List an}{ps:List (Nat×Nat×aF)}{Q:an→az→Prop}(h:pD E ps z=some cs)(A:Q (.agg cs) H):iS T (.build z ps) E H Q:=
 fZ (fun _=>by show ob (pD E ps z) (aD.err 23) (fun cs=>aD.ok (.agg cs) H)=_;rw[h,df]) A
theorem F9{f:Nat}{l:List aF}{vs:List an}{Q:an→az→Prop}(z:jF E l=some vs)(h:sQ T f vs H Q):iS T (.call f l) E H Q:=by
 obtain⟨N,v,H',a,b⟩:=h
 exact⟨N,v,H',fun lf n A h2=>by show ob (jF E l) (aD.err 42) (fun vs=>T.call lf n f vs H)=_;rw[z,df];exact a lf n A h2,b⟩
theorem Tx:jF E []=some []:=rfl
theorem KS{x:aF}{r:List aF}{v:an}{vs:List an}(h:x.ev E=some v)(k:jF E r=some vs):jF E (x::r)=some (v::vs):=by
 show ob (x.ev E) none (fun v=>ob (jF E r) none fun vs=>some (v::vs))=_
 rw[h,df,k,df]
theorem Ty{Q:Env→az→Prop}(h:Q E H):nZ T [] E H Q:=⟨0,E,H,fun _ _ _ _=>rfl,h⟩
theorem KT{d:Key}{q:Option (List Nat)}{op:bE}{r:List bo}{Q:Env→az→Prop}(h:iS T op E H fun v H'=>nZ T r (E.set d v) H' Q):nZ T (⟨some d,none,q,op⟩::r) E H Q:=by
 obtain⟨N,v,H',a,z,A,G,b,c⟩:=h
 refine⟨max N z,A,G,fun lf n I h2=>?_,c⟩
 rw[Jw,a lf n (by omega) (by omega),B2]
 exact b lf n (by omega) (by omega)
theorem RN{q:Option (List Nat)}{op:bE}{r:List bo}{Q:Env→az→Prop}(h:iS T op E H fun _ H'=>nZ T r E H' Q):nZ T (⟨none,none,q,op⟩::r) E H Q:=by
 obtain⟨N,v,H',a,z,A,G,b,c⟩:=h
 refine⟨max N z,A,G,fun lf n I h2=>?_,c⟩
 rw[Jw,a lf n (by omega) (by omega),Sq]
 exact b lf n (by omega) (by omega)
theorem JM{call:eC}{d:Option Key}{g:Key}{want:Bool}{q:Option (List Nat)}{op:bE}{t:Bool}{k:Env→az→eA}(z:E.get g=some (.bool t)):
  bo.step call ⟨d,some (g,want),q,op⟩ E H k=if t=want then fin d E k (op.ev call E H) else k (kh E d .undef) H:=by
 show ob (E.get g) (.err 51) (fun v=>wb v (ku d E H k) fun b=>aH (Bool.xor b want) (ku d E H k) (bo.run call ⟨d,some (g,want),q,op⟩ E H k))=_
 rw[z,df]
 show aH (Bool.xor t want) (ku d E H k) (bo.run call ⟨d,some (g,want),q,op⟩ E H k)=_
 rw[vt]
 cases t<;>cases want<;>rfl
theorem KU{d:Key}{g:Key}{want t:Bool}{q:Option (List Nat)}{op:bE}{r:List bo}{Q:Env→az→Prop}(z:E.get g=some (.bool t))(A:t≠want)(h:nZ T r (E.set d .undef) H Q):nZ T (⟨some d,some (g,want),q,op⟩::r) E H Q:=by
 obtain⟨G,I,J,b,c⟩:=h
 exact⟨G,I,J,fun lf n K h2=>by show bo.step (T.call lf n) ⟨some d,some (g,want),q,op⟩ E H (mG (T.call lf n) r)=_;rw[JM z,aj A];exact b lf n K h2,c⟩
theorem Sv{d:Key}{g:Key}{want:Bool}{q:Option (List Nat)}{op:bE}{r:List bo}{Q:Env→az→Prop}(z:E.get g=some (.bool want))(h:iS T op E H fun v H'=>nZ T r (E.set d v) H' Q):nZ T (⟨some d,some (g,want),q,op⟩::r) E H Q:=by
 obtain⟨N,v,H',a,A,G,I,b,c⟩:=h
 refine⟨max N A,G,I,fun lf n J h2=>?_,c⟩
 show bo.step (T.call lf n) ⟨some d,some (g,want),q,op⟩ E H (mG (T.call lf n) r)=_
 rw[JM z,aq rfl,a lf n (by omega) (by omega),B2]
 exact b lf n (by omega) (by omega)
theorem Tz{a b:IC}{Q:Ex→Env→az→Prop}(h:ll T a E H fun x E' H'=>(x= .normal→ll T b E' H' Q)∧(x≠.normal→Q x E' H')):ll T (.seq a b) E H Q:=by
 obtain⟨N,x,E1,H1,G,h2,I⟩:=h
 cases x with
 |normal=>
  obtain⟨J,x2,K,O,U,Y⟩:=h2 rfl
  refine⟨max N J,x2,K,O,fun lf n z A=>?_,Y⟩
  rw[GM,G lf n (by omega) (by omega),Jv]
  exact U lf n (by omega) (by omega)
 |exit id=>exact⟨N,_,E1,H1,fun lf n z A=>by rw[GM,G lf n z A];rfl,I (by simp)⟩
 |ret=>exact⟨N,_,E1,H1,fun lf n z A=>by rw[GM,G lf n z A];rfl,I (by simp)⟩
theorem Q7{ops:List bo}{Q:Ex→Env→az→Prop}(h:nZ T ops E H fun E' H'=>Q .normal E' H'):ll T (.region false ops) E H Q:=by
 obtain⟨N,E1,H1,z,h2⟩:=h
 exact⟨N,_,E1,H1,fun lf n A G=>by rw[RK,z lf n A G,Mx],h2⟩
theorem QE{ops:List bo}{Q:Ex→Env→az→Prop}(h:Be T ops E H [] fun E' H'=>Q .normal E' H'):ll T (.region true ops) E H Q:=by
 obtain⟨N,E1,H1,z,h2⟩:=h
 exact⟨N,_,E1,H1,fun lf n A G=>by rw[Q6,z lf n A G,Mx],h2⟩
theorem Sw{Q:Ex→Env→az→Prop}(h:Q .normal E H):ll T .skip E H Q:=⟨0,_,E,H,fun _ _ _ _=>rfl,h⟩
theorem Sx{id:Nat}{Q:Ex→Env→az→Prop}(h:Q (.exit id) E H):ll T (.exit id) E H Q:=⟨0,_,E,H,fun _ _ _ _=>rfl,h⟩
theorem TA{Q:Ex→Env→az→Prop}(h:Q .ret E H):ll T .ret E H Q:=⟨0,_,E,H,fun _ _ _ _=>rfl,h⟩
theorem F'{c:aF}{a b:IC}{t:Bool}{Q:Ex→Env→az→Prop}(J:c.ev E=some (.bool t))(K:t=true→ll T a E H Q)(h2:t=false→ll T b E H Q):ll T (.cond c a b) E H Q:=by
 have key:∀lf n,(IC.cond c a b).ev (T.call lf n) lf E H=if t=true then a.ev (T.call lf n) lf E H else b.ev (T.call lf n) lf E H:=fun lf n=>by
  show ob (c.ev E) (.err 61) (fun v=>Lp v (.err 61) fun t=>aH t (a.ev (T.call lf n) lf E H) (b.ev (T.call lf n) lf E H))=_
  rw[J,df]
  cases t<;>rfl
 cases t with
 |true=>obtain⟨N,x,E1,H1,z,A⟩:=K rfl;exact⟨N,x,E1,H1,fun lf n G I=>by rw[key,aq rfl];exact z lf n G I,A⟩
 |false=>obtain⟨N,x,E1,H1,z,A⟩:=h2 rfl;exact⟨N,x,E1,H1,fun lf n G I=>by rw[key,aj (by simp)];exact z lf n G I,A⟩
def Fb(id:Nat):Ex→Ex
 |.exit j=>if j=id then .normal else .exit j
 |x=>x
theorem RO{id:Nat}{c:IC}{Q:Ex→Env→az→Prop}(h:ll T c E H fun x E' H'=>Q (Fb id x) E' H'):ll T (.block id c) E H Q:=by
 obtain⟨N,x,E1,H1,z,h2⟩:=h
 refine⟨N,Fb id x,E1,H1,fun lf n A G=>?_,h2⟩
 show zO id c (c.ev (T.call lf n) lf) E H=_
 unfold zO
 rw[z lf n A G]
 cases x with
 |normal=>rfl
 |ret=>rfl
 |exit j=>
  show aH (Nat.beq j id) (Out.ok .normal E1 H1) (.ok (.exit j) E1 H1)=Out.ok (if j=id then .normal else .exit j) E1 H1
  by_cases h:j=id
  ·rw[aq h,h,show Nat.beq id id=true from iZ id];rfl
  rw[aj h]
  cases I:Nat.beq j id
  ·rfl
  exact absurd (d8 I) h
theorem Sy{c:IC}{Q:Ex→Env→az→Prop}(I:Nat→Env→az→Prop)(Y:∀k E H,I k E H→ll T c E H fun x E' H'=>(x= .normal→∃j,j<k∧I j E' H')∧(x≠.normal→Q x E' H')):
  ∀k E H,I k E H→ll T (.loop c) E H Q:=by
 have main:∀k E H,I k E H→∃N x E' H',(∀lf n m,N≤lf→N≤n→N≤m→uo (c.ev (T.call lf n) lf) m E H= .ok x E' H')∧Q x E' H':=by
  intro k
  induction k using Nat.strongRecOn with
  |_ k Z=>
   intro E H h
   obtain⟨N,x,E1,H1,A,h2,O⟩:=Y k E H h
   have key:∀lf n m,N≤lf→N≤n→uo (c.ev (T.call lf n) lf) (m+1) E H=tg (.ok x E1 H1) (uo (c.ev (T.call lf n) lf) m):=fun lf n m G J=>by
    show tg (c.ev (T.call lf n) lf E H) (uo (c.ev (T.call lf n) lf) m)=_
    rw[A lf n G J]
   cases x with
   |normal=>
    obtain⟨j,hj,K⟩:=h2 rfl
    obtain⟨N2,x2,E2,H2,k1,k2⟩:=Z j hj E1 H1 K
    refine⟨max N N2+1,x2,E2,H2,fun lf n m G J U=>?_,k2⟩
    obtain⟨m,rfl⟩:∃z,m=z+1:=⟨m-1,by omega⟩
    rw[key lf n m (by omega) (by omega),Jv]
    exact k1 lf n m (by omega) (by omega) (by omega)
   |exit id=>
    refine⟨N+1,_,E1,H1,fun lf n m G J U=>?_,O (by simp)⟩
    obtain⟨m,rfl⟩:∃z,m=z+1:=⟨m-1,by omega⟩
    rw[key lf n m (by omega) (by omega)];rfl
   |ret=>
    refine⟨N+1,_,E1,H1,fun lf n m G J U=>?_,O (by simp)⟩
    obtain⟨m,rfl⟩:∃z,m=z+1:=⟨m-1,by omega⟩
    rw[key lf n m (by omega) (by omega)];rfl
 intro k E H h
 obtain⟨N,x,E',H',a,b⟩:=main k E H h
 exact⟨N,x,E',H',fun lf n A h2=>a lf n lf A h2 A,b⟩
noncomputable def EC(ks:List Key):List an→Env→Env:=
 List.rec (motive:=fun _=>List an→Env→Env) (fun _ E=>E) (fun k _ z l E=>List.rec (motive:=fun _=>Env) E (fun v r _=>z r (E.set k v)) l) ks
theorem Kc:∀(ks:List Key)(l:List an)(E:Env)(c:Env→aD),ks.length=l.length→params ks l E c=c (EC ks l E)
 |[],[],E,c,_=>rfl
 |k::ks,v::l,E,c,h=>by rw[QD,Kc ks l _ c (by simpa using h)];rfl
 |[],_::_,_,_,h=>by simp at h
 |_::_,[],_,_,h=>by simp at h
theorem UU{f:Nat}{fn:bD}{args:List an}{Q:an→az→Prop}(A:T.ft.get f=some fn)(G:fn.ps.length=args.length)
  (h:ll T fn.body (EC fn.ps args .emp) H fun x E' H'=>(∀id,x≠.exit id)∧∃v,results E' H' fn.res= .ok v H'∧Q v H'):sQ T f args H Q:=by
 obtain⟨N,x,E1,H1,I,h2,v,z,J⟩:=h
 refine⟨N+1,v,H1,fun lf n K O=>?_,J⟩
 obtain⟨n,rfl⟩:∃n',n=n'+1:=⟨n-1,by omega⟩
 show ob (T.ft.get f) _ (fun fn=>sn (T.call lf n) lf fn args H)=_
 rw[A,df,Tu,Kc _ _ _ _ G,I lf n (by omega) (by omega)]
 cases x with
 |normal=>exact z
 |ret=>exact z
 |exit id=>exact absurd rfl (h2 id)
end
inductive DC where
 |i (k:IntKind) (n:Int)
 |b (b:Bool)
 |s (l v:Nat)
 |nil
 |sl (rows:List (List DC))
def mf(H:az)(f g Q:Nat)(l:List an):Prop:=
 ∃elem aQ m lo fl cs,H.t.get f=some (.row elem l.length aQ m lo fl cs)∧lo≤g∧g≤m∧Q<g∧cs.get Q=some l
mutual
def cM(H:az)(X:Nat→Prop):DC→an→Prop
 |.i k n,a=>a= .int k n
 |.b b,a=>a= .bool b
 |.s l v,a=>a= .str l v
 |.nil,a=>a= .cb
 |.sl rows,a=>∃f g off es,a= .slice f g off rows.length es∧(rows=[]∨¬X f∧f<H.next∧∃q,off=q*es∧gL H X f g es q rows)
def gL(H:az)(X:Nat→Prop)(f g es:Nat):Nat→List (List DC)→Prop
 |_,[]=>True
 |q,row::r=>(∃l,mf H f g q l∧l.length=es∧cU H X row l)∧gL H X f g es (q+1) r
def cU(H:az)(X:Nat→Prop):List DC→List an→Prop
 |[],l=>l=[]
 |d::r,l=>∃a s,l=a::s∧cM H X d a∧cU H X r s
end
structure su(H H':az):Prop where
 next:H.next≤H'.next
 bc:H'.bc=H.bc
 ws:H'.ws=H.ws
 same:∀f,f<H.next→H'.t.get f=H.t.get f
theorem su.refl(H:az):su H H:=⟨bY _,rfl,rfl,fun _ _=>rfl⟩
theorem su.trans{A B C:az}(h:su A B)(k:su B C):su A C:=
 ⟨kb h.next k.next,k.bc.trans h.bc,k.ws.trans h.ws,fun f z=>(k.same f (mn z h.next)).trans (h.same f z)⟩
structure Step(X:Nat→Prop)(H H':az):Prop where
 next:H.next≤H'.next
 same:∀f,f<H.next→¬X f→H'.t.get f=H.t.get f
theorem Step.refl(X:Nat→Prop)(H:az):Step X H H:=⟨bY _,fun _ _ _=>rfl⟩
theorem su.step{H H':az}(h:su H H')(X:Nat→Prop):Step X H H':=⟨h.next,fun f z _=>h.same f z⟩
theorem Step.trans{X:Nat→Prop}{A B C:az}(h:Step X A B)(k:Step X B C):Step X A C:=
 ⟨kb h.next k.next,fun f z G=>(k.same f (mn z h.next) G).trans (h.same f z G)⟩
section
variable{H H':az}{X:Nat→Prop}
theorem mf.iR{f g Q:Nat}{l:List an}(h:mf H f g Q l)(z:H'.t.get f=H.t.get f):mf H' f g Q l:=by
 obtain⟨a,b,c,d,e,k,A,h2⟩:=h
 exact⟨a,b,c,d,e,k,z.trans A,h2⟩
mutual
theorem cM.step(z:Step X H H'):∀{d:DC}{a:an},cM H X d a→cM H' X d a
 |.i _ _,_,h=>h
 |.b _,_,h=>h
 |.s _ _,_,h=>h
 |.nil,_,h=>h
 |.sl rows,a,h=>by
  simp only[cM] at h⊢
  obtain⟨f,g,off,es,I,h2⟩:=h
  refine⟨f,g,off,es,I,h2.imp id fun⟨A,G,q,ho,J⟩=>⟨A,mn G z.next,q,ho,gL.step z A G J⟩⟩
theorem gL.step(z:Step X H H'){f g es:Nat}(A:¬X f)(G:f<H.next):∀{q:Nat}{rows:List (List DC)},gL H X f g es q rows→gL H' X f g es q rows
 |_,[],_=>trivial
 |q,row::r,h=>by
  simp only[gL] at h⊢
  obtain⟨⟨l,I,h2,J⟩,K⟩:=h
  exact⟨⟨l,I.iR (z.same f G A),h2,cU.step z J⟩,gL.step z A G K⟩
theorem cU.step(z:Step X H H'):∀{row:List DC}{l:List an},cU H X row l→cU H' X row l
 |[],_,h=>h
 |d::r,l,h=>by
  simp only[cU] at h⊢
  obtain⟨a,s,A,h2,G⟩:=h
  exact⟨a,s,A,cM.step z h2,cU.step z G⟩
end
theorem gL.get{f g es:Nat}:∀{q:Nat}{rows:List (List DC)},gL H X f g es q rows→∀{i:Nat}{row:List DC},rows[i]?=some row→∃l,mf H f g (q+i) l∧l.length=es∧cU H X row l
 |q,[],_,i,row,hi=>by simp at hi
 |q,x::r,h,i,row,hi=>by
  simp only[gL] at h
  cases i with
  |zero=>simp at hi;subst hi;exact h.1
  |succ i=>
   obtain⟨l,z,h2⟩:=gL.get h.2 (i:=i) (row:=row) (by simpa using hi)
   exact⟨l,by rw[show q+(i+1)=q+1+i by omega];exact z,h2⟩
theorem cU.get:∀{row:List DC}{l:List an},cU H X row l→∀{i:Nat}{d:DC},row[i]?=some d→∃a,l[i]?=some a∧cM H X d a
 |[],_,_,i,d,hi=>by simp at hi
 |x::r,l,h,i,d,hi=>by
  simp only[cU] at h
  obtain⟨a,s,rfl,z,h2⟩:=h
  cases i with
  |zero=>simp at hi;subst hi;exact⟨a,rfl,z⟩
  |succ i=>simpa using cU.get h2 (i:=i) (d:=d) (by simpa using hi)
theorem cU.length:∀{row:List DC}{l:List an},cU H X row l→l.length=row.length
 |[],_,h=>by simp only[cU] at h;subst h;rfl
 |d::r,l,h=>by
  simp only[cU] at h
  obtain⟨a,s,rfl,_,h2⟩:=h
  simp[cU.length h2]
theorem cM.slice{rows:List (List DC)}{a:an}(h:cM H X (.sl rows) a):∃f g off es,a= .slice f g off rows.length es∧
  ∀{i:Nat}{row:List DC},rows[i]?=some row→¬X f∧f<H.next∧∃Q l,mf H f g Q l∧l.length=es∧off+i*es=Q*es∧cU H X row l:=by
 simp only[cM] at h
 obtain⟨f,g,off,es,z,h2⟩:=h
 refine⟨f,g,off,es,z,fun{i row}hi=>?_⟩
 rcases h2 with rfl|⟨A,G,q,ho,I⟩
 ·simp at hi
 obtain⟨l,J,K,O⟩:=I.get hi
 exact⟨A,G,q+i,l,J,K,by rw[ho,nM],O⟩
theorem D7{β:Type}{f g Q k n:Nat}{l:List an}{e:β}{c:List an→β}(h:mf H f g Q l)(z:k+n≤l.length)(h0:0<n):rd H f g (Q*l.length+k) n e c=c ((l.drop k).take n):=by
 obtain⟨elem,aQ,m,lo,fl,cs,A,h2,G,I,J⟩:=h
 have e1:(Q*l.length+k)/l.length=Q:=by
  rw[mI,Nat.mul_add_div (by omega),MP (by omega)];rfl
 have e2:(Q*l.length+k) % l.length=k:=by
  rw[mI,Nat.mul_add_mod,Aw (by omega)]
 unfold rd
 rw[A]
 simp only[iU,qU]
 rw[show Nat.mod (Q*l.length+k) l.length=k from e2,show Nat.div (Q*l.length+k) l.length=Q from e1,aq (jA h2),aq (jA G),show Nat.ble (Nat.add k n) l.length=true from jA z,aq rfl,aq (jA I),J,df]
 split
 ·rename_i K
  have:=d8 K
  have hk:k=0:=by omega
  subst hk
  rw[List.drop_zero,qq (by omega)]
 rfl
theorem Gr{call:eC}{E:Env}{n:Nat}{agg:Bool}{a:aF}{f g o:Nat}(z:a.ev E=some (.ptr f g o)):(bE.load n agg a).ev call E H=rd H f g o n (.err 4) fun l=>iG agg l (.err 4) fun v=>.ok v H:=by
 show bA a E (.err 4) (fun v=>iv v (.err 4) fun f g off=>rd H f g off n (.err 4) fun l=>iG agg l (.err 4) fun v=>.ok v H)=_
 rw[dm,z,df];rfl
variable{T:bf}{E:Env}
theorem Kd{a:aF}{f g o Q k:Nat}{l:List an}{x:an}{R:an→az→Prop}(A:a.ev E=some (.ptr f g o))(G:mf H f g Q l)(ho:o=Q*l.length+k)(z:l[k]?=some x)(I:R x H):iS T (.load 1 false a) E H R:=
 fZ (fun _=>by
  have hk:k<l.length:=(List.getElem?_eq_some_iff.1 z).1
  rw[Gr A,ho,D7 G (by omega) (by omega)]
  have:(l.drop k).take 1=[x]:=by
   rw[Az hk,xB,HC]
   congr 1
   exact(List.getElem?_eq_some_iff.1 z).2
  rw[this];rfl) I
theorem Ke{n:Nat}{a:aF}{f g o Q k:Nat}{l:List an}{R:an→az→Prop}(z:a.ev E=some (.ptr f g o))(A:mf H f g Q l)(ho:o=Q*l.length+k)(G:k+n≤l.length)(h0:0<n)(I:R (.agg ((l.drop k).take n)) H):iS T (.load n true a) E H R:=
 fZ (fun _=>by rw[Gr z,ho,D7 A G h0];rfl) I
def xS(H:az)(f:Nat)(cells:List an):Prop:=∃elem aQ lo cs,H.t.get f=some (.row elem cells.length aQ 1 lo 0 cs)∧lo≤1∧cs.get 0=some cells
theorem xS.cells{f:Nat}{l:List an}(h:xS H f l):mf H f 1 0 l:=by
 obtain⟨a,b,lo,cs,z,h2,A⟩:=h
 exact⟨a,b,1,lo,0,cs,z,h2,bY _,fS _,A⟩
theorem xS.iR{f:Nat}{l:List an}(h:xS H f l)(z:H'.t.get f=H.t.get f):xS H' f l:=by
 obtain⟨a,b,lo,cs,A,h2⟩:=h
 exact⟨a,b,lo,cs,z.trans A,h2⟩
noncomputable def ED(H:az)(elem aQ:Nat)(cells:List an):az:=⟨H.next+1,H.bc,H.ws,H.t.set H.next (.row elem cells.length aQ 1 1 0 (.one cells))⟩
theorem TB(elem aQ:Nat)(cells:List an):xS (ED H elem aQ cells) H.next cells:=
 ⟨elem,aQ,1,.one cells,by show(H.t.set H.next _).get H.next=_;rw[GT.eO,aq rfl],bY _,rfl⟩
theorem Kf(elem aQ:Nat)(cells:List an):su H (ED H elem aQ cells):=
 ⟨si _,rfl,rfl,fun f z=>by show(H.t.set H.next _).get f=_;rw[GT.eO,aj (by omega)]⟩
theorem alloc_eq(o:dP)(k:Nat→az→aD):H.alloc o k=k H.next ⟨H.next+1,H.bc,H.ws,H.t.set H.next o⟩:=by
 cases H with
 |mk next bc ws t=>
  show dp next (fun f=>t.gr f o fun t=>k f ⟨Nat.succ f,bc,ws,t⟩)=_
  rw[iq,GT.j6]
theorem Sz{elem es aQ:Nat}{cells:List an}{R:an→az→Prop}(z:cells.length=es)(A:R (.ptr H.next 1 0) (ED H elem aQ cells)):iS T (.ca elem es aQ cells) E H R:=
 fZ (fun _=>by subst z;show H.alloc (.row elem cells.length aQ 1 1 0 (.one cells)) (fun f H=>.ok (.ptr f 1 0) H)=_;rw[alloc_eq];rfl) A
theorem TC{elem es aQ:Nat}{x:aF}{v:an}{cells:List an}{R:an→az→Prop}(z:x.ev E=some v)(A:jK v=some cells)(G:cells.length=es)(I:R (.ptr H.next 1 0) (ED H elem aQ cells)):iS T (.box elem es aQ x) E H R:=
 fZ (fun _=>by
  subst G
  show bA x E (.err 3) (fun v=>ob (jK v) (.err 3) fun l=>aH (Nat.beq (jg l) cells.length) (vS elem cells.length aQ l E H) (.err 3))=_
  rw[dm,z,df,A,df,oq,show Nat.beq cells.length cells.length=true from iZ _,fV]
  show H.alloc (.row elem cells.length aQ 1 1 0 (.one cells)) (fun f H=>.ok (.ptr f 1 0) H)=_
  rw[alloc_eq];rfl) I
variable{k:Nat}{Q:Env→az→Prop}
theorem JN{call:eC}{o:bo}{bP:List FP}{K:Env→az→List FP→eA}(z:o.q=none):o.pW call E H bP K=fin o.dst E (fun E H=>K E H bP) (o.op.ev call E H):=by
 unfold bo.pW;rw[z];rfl
theorem y1{call:eC}{d:Option Key}{q:Option (List Nat)}{op:bE}{bP:List FP}{K:Env→az→List FP→eA}:bo.na call ⟨d,none,q,op⟩ E H bP K=bo.pW call ⟨d,none,q,op⟩ E H bP K:=rfl
theorem BC{call:eC}{d:Option Key}{g:Key}{want:Bool}{q:Option (List Nat)}{op:bE}{t:Bool}{bP:List FP}{K:Env→az→List FP→eA}(z:E.get g=some (.bool t)):
  bo.na call ⟨d,some (g,want),q,op⟩ E H bP K=if t=want then bo.pW call ⟨d,some (g,want),q,op⟩ E H bP K else K (kh E d .undef) H (q6 q bP):=by
 show ob (E.get g) (.err 51) (fun v=>wb v (ku d E H fun E H=>K E H (q6 q bP)) fun b=>aH (Bool.xor b want) (ku d E H fun E H=>K E H (q6 q bP)) (bo.pW call ⟨d,some (g,want),q,op⟩ E H bP K))=_
 rw[z,df]
 show aH (Bool.xor t want) (ku d E H fun E H=>K E H (q6 q bP)) (bo.pW call ⟨d,some (g,want),q,op⟩ E H bP K)=_
 rw[vt]
 cases t<;>cases want<;>rfl
end
end Go.Ev
