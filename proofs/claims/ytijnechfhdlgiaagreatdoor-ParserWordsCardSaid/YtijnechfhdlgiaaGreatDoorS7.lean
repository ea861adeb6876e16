/- Part 7 of rules for walks through the code of a program, and of such walks; what each part proves is said by its theorems. -/
import Derived.Test.YtijnechfhdlgiaaGreatDoorS6
import Derived.Lib.Bytealg
import Derived.Laws.StandIn
set_option linter.unusedVariables false
set_option linter.unusedSimpArgs false
namespace Go.Ev
structure Kept(w w':World):Prop where
 os:w'.os=w.os
 tape:w'.tape=w.tape
 output:w'.output=w.output
 size:w.heap.size≤w'.heap.size
 pb:∀b,b<w.heap.size→w'.heap[b]?=w.heap[b]?
section
variable{ρ:Ho}{C:Nat→Option dP}{w w':World}
theorem R.kept(z:R ρ C w)(hk:Kept w w'):R ρ C w':=
 ⟨fun f o ho g h A=>(z.obj f o ho g h A).iO (Ho.le_refl _) (hk.pb _ (z.jZ f g h A)),z.nT,fun f g h A=>mw (z.jZ f g h A) hk.size,z.uniq,fun f g h A a b=>(z.mB f g h A a b).iO (cell_of_heap (w:=w) (hk.pb _ (z.jZ f g h A)))⟩
theorem Kept.ext(hk:Kept w w')(W:Nat→Prop)(n:Nat)(ρ:Ho):Ext W n n ρ ρ w w':=
 ⟨Ho.le_refl _,fun _ g h e=>.inl ⟨g,h,e⟩,fun _ _ _ e=>.inl e,fun b z _=>hk.pb b z,hk.size,bY _,hk.os,hk.tape,hk.output⟩
end
section
variable{P:Program}{nt:Nat}{ρ:Ho}{E E':Env}{H H' H1:aB}{C:Nat→Option dP}{w:World}{a:Act}{call:eF}{lf:Nat}
theorem Ki:∀(ks:List Key)(l:List an)(E:Env)(c:Env→aE)(v:an)(H':aB),params ks l E c= .ok v H'→
  ks.length=l.length∧∃E',c E'= .ok v H'∧∀t x,E'.get t=some x→E.get t=some x∨∃i:Nat,ks[i]?=some t∧l[i]?=some x
 |[],[],E,c,v,H',h=>⟨rfl,E,h,fun t x A=>.inl A⟩
 |[],_::_,E,c,v,H',h=>by cases h
 |_::_,[],E,c,v,H',h=>by cases h
 |k::ks,y::l,E,c,v,H',h=>by
  have h:E.gq k y (fun E=>params ks l E c)= .ok v H':=h
  rw[T4.j8] at h
  obtain⟨G,E',h2,I⟩:=Ki ks l _ _ _ _ h
  refine⟨by simp[G],E',h2,fun t x A=>?_⟩
  rcases I t x A with z|⟨i,z,J⟩
  ·rw[T4.eU] at z
   split at z
   ·rename_i e
    subst e
    cases z
    exact .inr ⟨0,rfl,rfl⟩
   exact .inl z
  exact .inr ⟨i+1,by simpa using z,by simpa using J⟩
theorem AR.init{args:List an}{bZ:Array Value}(A:cB ρ args bZ.toList)(Y:args.length≤nt)(I:uy P ρ){E':Env}{n:Nat}(J:n≤1296)
  (K:∀t x,E'.get t=some x→T4.emp.get t=some x∨∃i:Nat,((List.range n).map pk)[i]?=some t∧args[i]?=some x):
  AR P ρ nt E' {tmps:=bZ++Array.replicate (nt-bZ.size) undef,defers:=[]}:=by
 have Z:bZ.size=args.length:=by have:=A.length;simpa using this
 refine⟨by simp;omega,rfl,fun t v h=>?_,I⟩
 rcases K t v h with h|⟨i,G,h2⟩
 ·rw[T4.rY] at h;cases h
 obtain⟨y,O,z⟩:=A.get _ v h2
 refine⟨y,?_,z⟩
 have hi:i<n:=by
  have:=(List.getElem?_eq_some_iff.1 G).1
  simpa using this
 have U:pk i=t:=by simpa[hi] using G
 have hk:t.n=i:=by rw[←U];exact wb (by omega)
 have:i<bZ.size:=by
  have:=(List.getElem?_eq_some_iff.1 h2).1
  omega
 rw[hk,Et this]
 simpa using O
def yt(tmps:Array Value):ResultVar→Sem Value
 |.tmp t=>pure (tmps.getD t undef)
 |.cell a t=>do loadVar t (←asAddr (tmps.getD a undef))
theorem Ri(fn:Func)(tmps:Array Value):Go.results fn tmps=(do
  let vs←fn.results.mapM (yt tmps)
  pure (if h:vs.size=1 then vs[0] else .tuple vs)):=by
 unfold Go.results
 congr 2
theorem LL{tmps:Array Value}{t:Nat}{cv:Value}(h:tmps[t]?=some cv):tmps.getD t undef=cv:=by
 simp[uK,h]
theorem TH(hA:AR P ρ nt E a)(hR:R ρ C w)(hK:j9 ρ C H){r:ResultVar}{rs:List lJ}{ir:lJ}(z:na P (r::[])=some [ir]){k:an→aE}{e:Nat}{v:an}(h:ym E H ir (.err e) k= .ok v H'):
  ∃x J,(yt a.tmps r).run P w= .ok J w∧VR ρ x J∧k x= .ok v H':=by
 cases r with
 |tmp t=>
  simp only[na] at z
  split at z
  case isFalse=>cases z
  rename_i ht
  simp only[gJ,yh,and_true] at z
  subst z
  replace h:=jl (o:=E.get (pk t)) h
  obtain⟨x,I,h⟩:=h
  obtain⟨cv,K,h2⟩:=hA.tmp (pk t) x I
  rw[wb ht] at K
  exact⟨x,cv,by simp[yt,LL K],h2,h⟩
 |cell s t=>
  simp only[na] at z
  split at z
  ·rename_i l n U hn
   cases U
   split at z
   case isFalse=>cases z
   rename_i G
   simp only[gJ,yh,and_true] at z
   subst z
   replace h:=jl (o:=E.get (pk s)) h
   obtain⟨x,I,h⟩:=h
   replace h:=vq h;obtain⟨f,g,off,rfl,h⟩:=h
   obtain⟨l,U,h⟩:=Hr h (by simp)
   obtain⟨cv,K,h2⟩:=hA.tmp (pk s) _ I
   rw[wb G] at K
   simp only[VR] at h2
   obtain⟨hm,hh,rfl⟩:=h2
   obtain⟨_,_,_,_,_,wA⟩:=tA hn
   have Y:C f=H.t.get f:=by
    obtain⟨_,_,_,_,_,_,_,_,hg,_⟩:=U
    exact(hK f _ ⟨_,_,hh⟩ hg).trans hg.symm
   obtain⟨hlen,hk,hc⟩:=hR.rd U Y hh (by omega)
   have key:∀x,iG (pJ P t) l (.err 0) (fun v=>.ok v H)= .ok x H→k x= .ok v H'→∃x J,(yt a.tmps (.cell s t)).run P w= .ok J w∧VR ρ x J∧k x= .ok v H':=by
    intro x I Z
    obtain⟨_,cv,O,sU⟩:=Jv (P:=P) (ρ:=ρ) (w:=w) (ad:=⟨hm.b8,hm.off+off,none⟩) hn hlen hk (fun j x I=>by rw[Addr.add_lit];exact hc j x I) I
    exact⟨x,cv,by simp[yt,LL K,asAddr,O],sU,Z⟩
   rcases Gs h with⟨A,h⟩|⟨x,A,n4,h⟩
   ·exact key _ (by rw[A];rfl) h
   exact key x (by rw[A,n4];rfl) h
  cases z
theorem KX(Z:AR P ρ nt E a)(hR:R ρ C w)(hK:j9 ρ C H){e:Nat}{v:an}:∀{l:List ResultVar}{rs:List lJ}(z:na P l=some rs){k:List an→aE},uw E H rs (.err e) k= .ok v H'→
  ∃vs nw,(l.mapM (yt a.tmps)).run P w= .ok nw w∧cB ρ vs nw∧k vs= .ok v H'
 |[],rs,z,k,h=>by
  cases z
  exact⟨[],[],by simp,by simp only[cB],h⟩
 |r::l,rs,z,k,h=>by
  have A:∃I G,rs=I::G∧na P [r]=some [I]∧na P l=some G:=by
   cases r with
   |tmp t=>
    unfold na at z
    split at z
    ·rename_i J K
     split at z
     ·rename_i O;cases z;exact⟨_,J,rfl,by simp[na,O],K⟩
     cases z
    cases z
   |cell s t=>
    unfold na at z
    split at z
    ·rename_i J n K hn
     split at z
     ·rename_i O;cases z;exact⟨_,J,rfl,by simp[na,hn,O],K⟩
     cases z
    cases z
  obtain⟨I,G,rfl,h1,h2⟩:=A
  have h:ym E H I (.err e) (fun v=>uw E H G (.err e) fun vs=>k (v::vs))= .ok v H':=h
  obtain⟨x,cx,hx,U,h⟩:=TH Z hR hK (rs:=[]) h1 h
  obtain⟨vs,nw,hm,Y,h⟩:=KX Z hR hK h2 h
  exact⟨x::vs,cx::nw,by simp[hx,hm],⟨cx,nw,rfl,U,Y⟩,h⟩
theorem QP(G:AR P ρ nt E a)(I:R ρ C w)(J:j9 ρ C H){fn:Func}{rs:List lJ}(K:na P fn.results.toList=some rs){v:an}(h:results E H rs= .ok v H'):
  H'=H∧∃cv,(Go.results fn a.tmps).run P w= .ok cv w∧VR ρ v cv:=by
 obtain⟨vs,nw,A,z,h⟩:=KX (P:=P) (e:=70) G I J K h
 rw[Ri]
 cases vs with
 |nil=>
  cases h
  simp only[cB] at z
  subst z
  refine⟨rfl,.tuple #[],by simp[G6,A],?_⟩
  simp only[VR]
  exact⟨#[],rfl,by simp only[cB]⟩
 |cons x r=>
  cases r with
  |nil=>
   cases h
   simp only[cB] at z
   obtain⟨c,t,rfl,O,rfl⟩:=z
   exact⟨rfl,c,by simp[G6,A],O⟩
  |cons y s=>
   cases h
   refine⟨rfl,.tuple nw.toArray,?_,?_⟩
   ·have U:=z.length
    have:¬nw.length=1:=by simp at U;omega
    simp[G6,A,this]
   simp only[VR]
   exact⟨nw.toArray,rfl,by simpa using z⟩
theorem LM{g:Func}{fn:bA}(h:uO P g=some fn):∃c,g.body=some c∧na P g.results.toList=some fn.res∧(∃n,n≤g.ntmps∧n≤1296∧fn.ps=(List.range n).map pk)∧fn.nt=g.ntmps∧fn.body=lk P g.ntmps c∧(g.name== "runtime.NumGoroutine")=false:=by
 unfold uO at h
 split at h
 ·rename_i c rs A G
  split at h
  ·rename_i z
   cases h
   exact⟨c,A,G,⟨_,z.1,z.2.1,rfl⟩,rfl,rfl,z.2.2⟩
  cases h
 cases h
theorem LN{fn:bA}{args:List an}{v:an}(h:sC call lf fn args H= .ok v H'):
  fn.ps.length=args.length∧∃E' x E1 H1,(∀t y,E'.get t=some y→T4.emp.get t=some y∨∃i:Nat,fn.ps[i]?=some t∧args[i]?=some y)∧fn.body.ev call lf E' H= .ok x E1 H1∧(x= .normal∨x= .ret)∧results E1 H1 fn.res= .ok v H':=by
 obtain⟨A,E',h2,G⟩:=Ki fn.ps args .emp _ _ _ h
 refine⟨A,E',?_⟩
 cases z:fn.body.ev call lf E' H with
 |err n=>rw[z] at h2;cases h2
 |ok x E1 H1=>
  rw[z] at h2
  refine⟨x,E1,H1,G,rfl,?_⟩
  cases x with
  |normal=>exact⟨.inl rfl,h2⟩
  |exit id=>cases h2
  |ret=>exact⟨.inr rfl,h2⟩
theorem PS.rd{H:aB}{f g off n:Nat}{e:aE}{k:List an→aE}(h:∀x,PS H (k x))(h':PS H e):PS H (rd H f g off n e k):=
 PS.iS (fun _ _ _ _ _ _ _=>PS.aH (PS.aH (PS.aH (PS.aH (PS.ob (fun _=>PS.aH (h _) (h _)) h') h') h') h') h') h'
theorem Jp{rs:List lJ}{v:an}(h:results E H rs= .ok v H'):H'=H:=by
 have key:∀(rs:List lJ)(k:List an→aE),(∀vs,PS H (k vs))→PS H (uw E H rs (.err 70) k):=by
  intro rs
  induction rs with
  |nil=>intro k hk;exact hk []
  |cons r rs A=>
   intro k hk
   show PS H (ym E H r (.err 70) fun v=>uw E H rs (.err 70) fun vs=>k (v::vs))
   have z:∀v,PS H (uw E H rs (.err 70) fun vs=>k (v::vs)):=fun v=>A _ fun vs=>hk _
   cases r with
   |tmp t=>exact PS.ob (fun x=>z x) PS.err
   |cell s n g=>exact PS.ob (fun x=>PS.iu (fun _ _ _=>PS.rd (fun _=>PS.iG (fun x=>z x) PS.err) PS.err) PS.err) PS.err
 exact key rs _ (fun vs=>by
  cases vs with
  |nil=>exact PS.ok
  |cons x r=>cases r<;>exact PS.ok) v H' h
def Gu(P:Program)(ft:Tr bA):Prop:=∀f fn,ft.get f=some fn→∃g,P.funcs[f]?=some g∧uO P g=some fn
theorem JS(hc:kt P call)(A:P.follows .mixedOrders=true){f:Nat}{g:Func}{fn:bA}(hf:P.funcs[f]?=some g)(hg:uO P g=some fn){args:List an}{v:an}{bZ:Array Value}
  (h:sC call lf fn args H= .ok v H') (hm:H.bc≤H.next) (O:WF H) (hR:R ρ C w) (hK:j9 ρ C H) (hF:ic ρ H.next H'.next) (hG:uy P ρ) (hv:cB ρ args bZ.toList):
  Calls P f bZ w fun e w'=>∃cv,e= .returned cv∧dU ρ C w H v H' cv w':=by
 obtain⟨c,hb,hr,⟨np,U,G,Y⟩,hnt,z,_⟩:=LM hg
 obtain⟨hlen,E',x,E1,H1,hE,h1,hx,h2⟩:=LN h
 have he:=Jp h2
 subst he
 rw[Y] at hE hlen
 have hA:AR P ρ g.ntmps E' {tmps:=bZ++Array.replicate (g.ntmps-bZ.size) undef,defers:=[]}:=AR.init hv (by rw[←hlen];simpa using U) hG G hE
 rw[z] at h1
 refine calls_of_wp hf hb (vg hc A c _ H x E1 H' ρ C _ w _ h1 hA hR hK hF hm O fun a1 Z ρ1 I u6 J Bd=>?_)
 obtain⟨_,cv,K,sU⟩:=QP I J Bd hr h2
 have fin:a1.defers=[]∧∃v,(Go.results g a1.tmps).run P Z= .ok v Z∧∃cv,Ending.returned v= .returned cv∧dU ρ C w H ‹an› H' cv Z:=⟨I.defers,cv,K,cv,rfl,ρ1,sU,u6,J⟩
 rcases hx with rfl|rfl
 ·exact fin
 exact fin
def Gv:Nat→Option (Array Value→Sem Value)
 |0=>some Extern.BytealgIndexByte.indexByte
 |1=>some Extern.AbiNoEscape.same
 |_=>none
def MH(P:Program)(f:Nat):Prop:=∀w:World,xT P w→
 ((callFunc f #[]).run P w= .ok (.enter f #[]) w∧Calls P f #[] w fun e w'=>e= .returned (.bool true)∧Kept w w')∨∃w',(callFunc f #[]).run P w= .ok (.value (.bool true)) w'∧Kept w w'
def GU(P:Program)(f:Nat)(args:Array Value)(w:World)(Q:Value→Prop):Prop:=
 (callFunc f args).run P w= .ok (.enter f args) w∧Calls P f args w fun e w'=>∃v,e= .returned v∧Q v∧Kept w w'
def U6(P:Program)(f:Nat):Prop:=∀(s:ByteArray)(u:Nat)(w:World),s.size≤1000→Lib.parseUintB 64 s.data.toList= .ok u→
 GU P f #[.string s,.int .i64 10,.int .i64 64] w fun v=>v= .tuple #[.int .u64 u,.nilIface]
def Wb(P:Program)(f g t:Nat):Prop:=∀(s:ByteArray)(w:World),s.size≤1000→
 (∀v,Lib.parseIntB 64 s.data.toList= .ok v→GU P f #[.string s,.int .i64 10,.int .i64 64] w fun x=>x= .tuple #[.int .i64 v,.nilIface])∧
 (Lib.parseIntB 64 s.data.toList= .range→(∃z A,w.cell? ⟨g,0,none⟩=some (.iface z A))→GU P f #[.string s,.int .i64 10,.int .i64 64] w fun x=>∃a:Addr,x= .tuple #[.int .i64 (Lib.intSat 64 s.data.toList),.iface t (.pointer (some a))])
def Wc(P:Program)(f c:Nat):Prop:=∃fn,P.funcs[f]?=some fn∧(fn.name== "runtime.NumGoroutine")=false∧fn.body.isNone=true∧Extern.findNext fn=none∧∃e,Gv c=some e∧Extern.find fn=some e
def N7(P:Program)(xt:Tr Nat):Prop:=∀f c,xt.get f=some c→Wc P f c∨(c=2∧MH P f)∨(c=3∧U6 P f)∨∃g t,c=4+t∧g<P.globals.size∧yn P g=true∧Wb P f g t
theorem Gw(c:UInt8):∀(l:List UInt8)(i:Nat),AM c.toNat l.length (pack l) i=if Lib.indexByte l c= -1 then-1 else Lib.indexByte l c+i
 |[],i=>rfl
 |b::l,i=>by
  show aH (Nat.beq (Nat.mod (pack (b::l)) 256) c.toNat) (Int.ofNat i) (dr (Nat.div (pack (b::l)) 256) fun s=>dr (Nat.succ i) fun i=>AM c.toNat l.length s i)=_
  have e1:Nat.mod (pack (b::l)) 256=b.toNat:=by
   have:=BL (b::l) 1
   simp only[Az] at this
   rw[show Nat.mod (pack (b::l)) 256=pack (b::l) % 256 from rfl,this]
   simp[pack]
  have e2:Nat.div (pack (b::l)) 256=pack l:=by
   have:=BK (b::l) 1
   simp only[Az] at this
   exact this
  rw[e1,e2,im,im,Gw c l (i+1)]
  have I:=Lib.indexByte_ge l c
  by_cases z:b=c
  ·subst z
   rw[show Nat.beq b.toNat b.toNat=true from iX _,f9]
   simp[Lib.indexByte]
  have:Nat.beq b.toNat c.toNat=false:=by
   cases h:Nat.beq b.toNat c.toNat
   ·rfl
   exact absurd (UInt8.toNat_inj.1 (dZ h)) z
  rw[this]
  show(if Lib.indexByte l c= -1 then(-1:Int) else Lib.indexByte l c+((i+1:Nat):Int))=_
  have A:(b==c)=false:=by simpa using z
  rw[show Lib.indexByte (b::l) c=if(b==c)=true then 0 else if(Lib.indexByte l c== -1)=true then-1 else Lib.indexByte l c+1 from rfl,A]
  by_cases G:Lib.indexByte l c= -1
  ·simp[G]
  have h2:(Lib.indexByte l c== -1)=false:=by simpa using G
  have J:¬(Lib.indexByte l c+1= -1):=by omega
  rw[aj G,h2]
  simp only[pU,if_false,aj J]
  omega
theorem U7(hR:R ρ C w){c:Nat}{e:Array Value→Sem Value}(he:Gv c=some e){args:List an}{bZ:Array Value}(z:cB ρ args bZ.toList){v:an}(h:qy c args H= .ok v H'):
  H'=H∧∃cv,(e bZ).run P w= .ok cv w∧VR ρ v cv:=by
 unfold Gv at he
 split at he
 ·cases he
  have h:FH args H= .ok v H':=h
  cases args with
  |nil=>cases h
  |cons x r=>cases r with
   |nil=>cases h
   |cons y r=>
    have h:jR x (.err 90) (fun l s=>gI y (.err 90) fun k c=>jb c (.err 90) fun c=>aH (Nat.beq (dn k) 4) (aH (Nat.ble c 255) (aH (Nat.beq (jf (y::r)) 1) (kW (AM c l s 0) fun i=>aE.ok (.int .i64 i) H) (.err 90)) (.err 90)) (.err 90))= .ok v H':=h
    replace h:=wV h;obtain⟨l,s,rfl,h⟩:=h
    replace h:=rT h;obtain⟨k,c0,rfl,h⟩:=h
    replace h:=vt h;obtain⟨c,rfl,h⟩:=h
    replace h:=fE h;obtain⟨G,h⟩:=h
    replace h:=fE h;obtain⟨K,h⟩:=h
    replace h:=fE h;obtain⟨A,h⟩:=h
    rw[rQ] at h
    cases h
    rw[ou] at A
    have A:=dZ A
    have U:r=[]:=by simpa using A
    subst U
    have K:=bW K
    have G:=dZ G
    simp only[cB,VR] at z
    obtain⟨_,_,e1,⟨b,rfl,rfl,rfl⟩,_,_,rfl,rfl,rfl⟩:=z
    have hk:k= .u8:=by cases k<;>simp[dn] at G<;>rfl
    subst hk
    have I:bZ=#[.string b,.int .u8 (Int.ofNat c)]:=by have:=congrArg List.toArray e1;simpa using this
    subst I
    refine⟨rfl,_,Lib.run_indexByteString (P:=P) b (Int.ofNat c) w,?_⟩
    simp only[VR]
    have J:(c.toUInt8).toNat=c:=by show(UInt8.ofNat c).toNat=c;rw[UInt8.toNat_ofNat'];omega
    have:=Gw c.toUInt8 b.data.toList 0
    rw[J] at this
    have Y:b.data.toList.length=b.size:=ng
    rw[Y] at this
    rw[this]
    congr 1
    have e:(Int.ofNat c).toNat.toUInt8=c.toUInt8:=rfl
    rw[e]
    split
    ·rename_i Z;exact Z
    simp
 ·cases he
  have h:Hk args H= .ok v H':=h
  cases args with
  |nil=>cases h
  |cons x r=>cases r with
   |cons y r=>cases h
   |nil=>
    cases h
    simp only[cB] at z
    obtain⟨O,_,e1,hx,rfl⟩:=z
    have I:bZ=#[O]:=by have:=congrArg List.toArray e1;simpa using this
    subst I
    exact⟨rfl,O,rfl,hx⟩
 cases he
theorem y9:∀l:List UInt8,o6 l.length (pack l)=l
 |[]=>rfl
 |b::l=>by
  have e1:pack (b::l) % 256=b.toNat:=by
   have:=BL (b::l) 1
   simp only[Az] at this
   rw[this]
   simp[pack]
  have e2:pack (b::l)/256=pack l:=by
   have:=BK (b::l) 1
   simp only[Az] at this
   exact this
  show UInt8.ofNat (pack (b::l) % 256)::o6 l.length (pack (b::l)/256)=_
  rw[e1,e2,y9 l]
  simp
theorem RX{c:Nat}{args:List an}:PS H (OE c args H):=by
 intro v H1 h
 cases c with
 |zero=>
  have h:ux args H= .ok v H1:=h
  unfold ux at h
  split at h
  ·split at h
   ·split at h
    ·cases h;rfl
    cases h
   cases h
  cases h
 |succ c=>
  have h:sE c args H= .ok v H1:=h
  unfold sE at h
  split at h
  ·split at h
   ·split at h
    ·cases h;rfl
    ·cases h;rfl
    cases h
   cases h
  cases h
theorem SC{c:Nat}{args:List an}:PS H (qy c args H):=by
 cases c with
 |zero=>
  show PS H (FH args H)
  cases args with
  |nil=>exact PS.err
  |cons x r=>cases r with
   |nil=>exact PS.err
   |cons y r=>exact PS.jR (fun _ _=>PS.gI (fun _ _=>PS.jb (fun _=>PS.aH (PS.aH (PS.aH (PS.kW fun _=>PS.ok) PS.err) PS.err) PS.err) PS.err) PS.err) PS.err
 |succ c=>cases c with
  |zero=>
   show PS H (Hk args H)
   cases args with
   |nil=>exact PS.err
   |cons x r=>cases r with
    |nil=>exact PS.ok
    |cons y r=>exact PS.err
  |succ c=>cases c with
   |zero=>
    show PS H (Hl args H)
    cases args with
    |nil=>exact PS.ok
    |cons x r=>exact PS.err
   |succ c=>exact RX
theorem U8(z:R ρ C w)(I:uy P ρ):xT P w:=fun g J=>by
 obtain⟨x,A,K,ho,hp⟩:=I g J
 refine⟨by have:=z.jZ g 1 x A;omega,fun h=>?_⟩
 obtain⟨O,U,G⟩:=(z.mB _ _ _ A (hp h).1 (hp h).2).2
 rw[K,ho] at G
 exact⟨O,U,G⟩
theorem SD{args:List an}{v:an}(h:ux args H= .ok v H'):∃l s u,args=[.str l s,.int .i64 10,.int .i64 64]∧l≤1000∧Lib.parseUintB 64 (o6 l s)= .ok u∧v= .tuple [.int .u64 u,.gO]∧H'=H:=by
 unfold ux at h
 split at h
 ·split at h
  ·rename_i z
   obtain⟨rfl,rfl,rfl,rfl,A⟩:=z
   split at h
   ·rename_i G;cases h;exact⟨_,_,_,rfl,A,G,rfl,rfl⟩
   cases h
  cases h
 cases h
theorem TI{t:Nat}{args:List an}{v:an}(h:sE t args H= .ok v H'):∃l s,args=[.str l s,.int .i64 10,.int .i64 64]∧l≤1000∧H'=H∧
  ((∃u,Lib.parseIntB 64 (o6 l s)= .ok u∧v= .tuple [.int .i64 u,.gO])∨(Lib.parseIntB 64 (o6 l s)= .range∧v= .tuple [.int .i64 (Lib.intSat 64 (o6 l s)),.iface t (.map 0)])):=by
 unfold sE at h
 split at h
 ·split at h
  ·rename_i z
   obtain⟨rfl,rfl,rfl,rfl,G⟩:=z
   split at h
   ·rename_i A;cases h;exact⟨_,_,rfl,G,rfl,.inl ⟨_,A,rfl⟩⟩
   ·rename_i A
    cases h;exact⟨_,_,rfl,G,rfl,.inr ⟨A,rfl⟩⟩
   cases h
  cases h
 cases h
theorem OS{l s:Nat}{a b:Int}{bZ:Array Value}(z:cB ρ [.str l s,.int .i64 a,.int .i64 b] bZ.toList):∃x:ByteArray,bZ=#[.string x,.int .i64 a,.int .i64 b]∧l=x.size∧s=pack x.data.toList:=by
 simp only[cB,VR] at z
 obtain⟨v,t,e,⟨x,rfl,A,h2⟩,G,t2,rfl,rfl,I,t3,rfl,rfl,rfl⟩:=z
 exact⟨x,by have:=congrArg List.toArray e;simpa using this,A,h2⟩
theorem MI(J:P.follows .mixedOrders=true){ft:Tr bA}{xt:Tr Nat}(ht:Gu P ft)(K:N7 P xt):∀n,kt P (A3 ft xt lf n)
 |0=>⟨fun _ _ _ _=>TM.err,fun _ _ _ _ _ _ _ _ _ h=>(by cases h)⟩
 |n+1=>by
  have ih:=MI J ht K n
  have key:∀f args H v H',A3 ft xt lf (n+1) f args H= .ok v H'→(∃fn,ft.get f=some fn∧sC (A3 ft xt lf n) lf fn args H= .ok v H')∨∃c,xt.get f=some c∧qy c args H= .ok v H':=by
   intro f args H v H' h
   have h:ob (ft.get f) (ob (xt.get f) (.err (Nat.add 10000 f)) fun c=>qy c args H) (fun fn=>sC (A3 ft xt lf n) lf fn args H)= .ok v H':=h
   cases hf:ft.get f with
   |some fn=>rw[hf] at h;exact .inl ⟨fn,rfl,h⟩
   |none=>
    rw[hf] at h
    exact .inr (jl (o:=xt.get f) h)
  refine⟨fun f args H hm v H' h=>?_,fun f args H v H' ρ C w bZ h hm nx I hK hF hG hv=>?_⟩
  ·rcases key _ _ _ _ _ h with⟨fn,_,h⟩|⟨c,_,h⟩
   ·obtain⟨_,_,x,E1,H1,_,A,_,h2⟩:=LN h
    rw[Jp h2]
    exact qQ ih fn.body _ _ _ _ _ hm A
   rw[SC v H' h];exact gk.refl _
  rcases key _ _ _ _ _ h with⟨fn,hfn,h⟩|⟨c,hc,h⟩
  ·obtain⟨g,hg,PC⟩:=ht f fn hfn
   obtain⟨cd,U,_,_,_,_,z⟩:=LM PC
   have A:g.name≠ "runtime.NumGoroutine":=by simpa using z
   exact .inl ⟨by simp[callFunc,hg,A,U],JS ih J hg PC h hm nx I hK hF hG hv⟩
  rcases K f c hc with⟨fn,hf,z,U,hn,e,he,Y⟩|⟨rfl,Z⟩|⟨rfl,Wd⟩|⟨g0,t0,rfl,hg1,PD,hint⟩
  rotate_left
  rotate_left
  ·obtain⟨l,s,u,rfl,hl,hu,rfl,rfl⟩:=SD (show ux args H= .ok v H' from h)
   obtain⟨b,rfl,U,rfl⟩:=OS hv
   subst U
   rw[show b.size=b.data.toList.length from(ng (xs:=b.data)).symm,y9] at hu
   obtain⟨A,h2⟩:=Wd b u w hl hu
   exact .inl ⟨A,Calls.mono h2 fun e w'⟨x,he,K,hk⟩=>⟨x,he,ρ,by subst K;simp only[VR,cB];exact⟨_,rfl,_,_,rfl,rfl,_,_,rfl,rfl,rfl⟩,hk.ext _ _ _,by rw[pw];exact I.kept hk⟩⟩
  ·have h5:sE t0 args H= .ok v H':=by
    rw[show 4+t0=t0+4 by omega] at h
    exact h
   obtain⟨l,s,rfl,hl,rfl,G⟩:=TI h5
   obtain⟨b,rfl,U,rfl⟩:=OS hv
   subst U
   rw[show b.size=b.data.toList.length from(ng (xs:=b.data)).symm,y9] at G
   rcases G with⟨u,hu,rfl⟩|⟨hu,rfl⟩
   ·obtain⟨A,h2⟩:=(hint b w hl).1 u hu
    exact .inl ⟨A,Calls.mono h2 fun e w'⟨x,he,K,hk⟩=>⟨x,he,ρ,by subst K;simp only[VR,cB];exact⟨_,rfl,_,_,rfl,rfl,_,_,rfl,rfl,rfl⟩,hk.ext _ _ _,by rw[pw];exact I.kept hk⟩⟩
   obtain⟨hm,hh,yp,EA,O⟩:=hG g0 hg1
   obtain⟨te,pe,iZ⟩:=(I.mB _ _ _ hh (O PD).1 (O PD).2).2
   rw[yp,EA] at iZ
   obtain⟨A,h2⟩:=(hint b w hl).2 hu ⟨_,_,iZ⟩
   exact .inl ⟨A,Calls.mono h2 fun e w'⟨x,he,⟨a,K⟩,hk⟩=>⟨x,he,ρ,by subst K;simp only[VR,cB];exact⟨_,rfl,_,_,rfl,rfl,_,_,rfl,⟨_,rfl,a,rfl⟩,rfl⟩,hk.ext _ _ _,by rw[pw];exact I.kept hk⟩⟩
  rotate_left
  ·have h:Hl args H= .ok v H':=h
   cases args with
   |cons x r=>cases h
   |nil=>
    cases h
    simp only[cB] at hv
    have E6:bZ=#[]:=by have:=congrArg List.toArray hv;simpa using this
    subst E6
    have rG:xT P w:=U8 I hG
    have post:∀{w':World},Kept w w'→dU ρ C w H (.bool true) H (.bool true) w':=fun hk=>⟨ρ,by simp only[VR],hk.ext _ _ _,by rw[pw];exact I.kept hk⟩
    rcases Z w rG with⟨A,h2⟩|⟨w',A,h2⟩
    ·exact .inl ⟨A,Calls.mono h2 fun e w'⟨he,hk⟩=>⟨_,he,post hk⟩⟩
    exact .inr ⟨_,w',A,post h2⟩
  obtain⟨rfl,cv,wk,sU⟩:=U7 (P:=P) I he hv h
  refine .inr ⟨cv,w,?_,ρ,sU,Ext.refl _ _ _ _,?_⟩
  ·rw[run_callFunc_standIn hf z U hn Y,wk]
   rfl
  rw[pw];exact I
end
def base(P:Program):Ho:=fun f g=>if f<P.globals.size∧g=1 then some ⟨f,0,0,true,yn P f⟩ else none
def H0(n:Nat):aB:=⟨n,0,[],.emp⟩
section
variable{P:Program}{ρ:Ho}{C:Nat→Option dP}{w w':World}{H H':aB}{call:eF}{f n:Nat}{args:List an}{bZ:Array Value}{v:an}
theorem qI{f g:Nat}{h:Hm}(e:base P f g=some h):f<P.globals.size∧g=1∧h=⟨f,0,0,true,yn P f⟩:=by
 unfold base at e
 split at e
 ·rename_i k;cases e;exact⟨k.1,k.2,rfl⟩
 cases e
theorem zS(z:xT P w):R (base P) (fun _=>none) w:=by
 refine⟨fun f o h=>(by cases h),fun f g h f' g' h' e A _ _=>?_,fun f g h e=>?_,fun f g h g' h' e A _=>?_,fun f g h e _ hp=>?_⟩
 rotate_right
 ·obtain⟨k,_,rfl⟩:=qI e
  exact⟨fun g' h' A=>by obtain⟨_,_,rfl⟩:=qI A;rfl,(z f k).2 hp⟩
 ·obtain⟨_,_,rfl⟩:=qI e
  obtain⟨_,_,rfl⟩:=qI A
  exact⟨rfl,rfl⟩
 ·obtain⟨k,_,rfl⟩:=qI e
  exact(z f k).1
 obtain⟨_,_,rfl⟩:=qI e
 obtain⟨_,_,rfl⟩:=qI A
 rfl
theorem JT:uy P (base P):=fun g z=>⟨⟨g,0,0,true,yn P g⟩,by simp[base,z],rfl,rfl,fun h=>⟨rfl,h⟩⟩
theorem RY(z:P.globals.size≤n)(m:Nat):ic (base P) n m:=fun f g A _=>by
 unfold base
 rw[aj (by omega)]
theorem We:WF (H0 n):=fun x _=>GT.rY x
theorem SE:j9 (base P) (fun _=>none) (H0 n):=fun f o _ h=>by
 rw[show(H0 n).t.get f=none from GT.rY f] at h;cases h
theorem dU.kept{cv:Value}(h:dU (base P) C w H v H' cv w'):Kept w w':=by
 obtain⟨ρ',_,he,_⟩:=h
 exact⟨he.os,he.tape,he.output,he.size,fun b z=>he.frame b z fun f g x A G _=>by obtain⟨_,_,rfl⟩:=qI A;cases G⟩
theorem trueOk_of(J:kt P call){A:Nat}(K:P.globals.size≤n)(O:call A [] (H0 n)= .ok (.bool true) H'):MH P A:=fun w G=>by
 have post:∀{cv:Value}{w':World},dU (base P) (fun _=>none) w (H0 n) (.bool true) H' cv w'→cv= .bool true∧Kept w w':=by
  intro cv w' hp
  have hk:=hp.kept
  obtain⟨_,z,_,_⟩:=hp
  simp only[VR] at z
  exact⟨z,hk⟩
 rcases J.sound A [] (H0 n) (.bool true) H' (base P) (fun _=>none) w #[] O (df _) We (zS G) SE (RY K _) JT (by simp only[cB]) with⟨I,h2⟩|⟨cv,w',I,h2⟩
 ·exact .inl ⟨I,Calls.mono h2 fun e w'⟨cv,he,hp⟩=>by
   obtain⟨rfl,hk⟩:=post hp
   exact⟨he,hk⟩⟩
 obtain⟨rfl,hk⟩:=post h2
 exact .inr ⟨w',I,hk⟩
noncomputable def D8{α:Type}(l:List (Nat×α)):Tr α:=List.rec (motive:=fun _=>Tr α) .leaf (fun p _ z=>z.set p.1 p.2) l
theorem Kj{α:Type}{f:Nat}{x:α}:∀{l:List (Nat×α)},(D8 l).get f=some x→(f,x)∈l
 |[],h=>by rw[show D8 ([]:List (Nat×α))= .leaf from rfl,Tr.tw] at h;cases h
 |p::r,h=>by
  have h:((D8 r).set p.1 p.2).get f=some x:=h
  rw[Tr.eU] at h
  split at h
  ·rename_i e;cases h;subst e;exact lh ..
  exact nO _ (Kj h)
def vV(P:Program)(p:Nat×bA):Prop:=∃g,P.funcs[p.1]?=some g∧uO P g=some p.2
theorem tabOf_ok{l:List (Nat×bA)}(h:∀p,p∈l→vV P p):Gu P (D8 l):=fun f fn z=>h (f,fn) (Kj z)
theorem rows_nil:∀p,p∈([]:List (Nat×bA))→vV P p:=fun _ h=>by cases h
theorem rows_cons{k:Nat}{fn:bA}{g:Func}{l:List (Nat×bA)}(z:P.funcs[k]?=some g)(h2:uO P g=some fn)(h:∀p,p∈l→vV P p):∀p,p∈(k,fn)::l→vV P p:=fun p hp=>by
 rcases List.mem_cons.1 hp with rfl|hp
 ·exact⟨g,z,h2⟩
 exact h p hp
theorem rows_append{l m:List (Nat×bA)}(h:∀p,p∈l→vV P p)(k:∀p,p∈m→vV P p):∀p,p∈l++m→vV P p:=fun p hp=>(List.mem_append.1 hp).elim (h p) (k p)
end
noncomputable def okT(r:aE):Bool:=aE.rec (motive:=fun _=>Bool) (fun v _=>an.rec (motive_1:=fun _=>Bool) (motive_2:=fun _=>Unit) (fun b=>b) (fun _ _=>false) (fun _ _=>false) (fun _ _ _=>false) false (fun _ _ _ _ _=>false) false (fun _ _=>false) (fun _ _=>false) (fun _ _ _ _ _=>false) false (fun _ _ _=>false) false (fun _=>false) false false () (fun _ _ _ _=>()) v) (fun _=>false) r
theorem okT_ok{r:aE}(h:okT r=true):∃H,r= .ok (.bool true) H:=by
 cases r with
 |err n=>cases h
 |ok v H=>
  cases v with
  |bool b=>cases b with
   |true=>exact⟨H,rfl⟩
   |false=>cases h
  |_=>cases h
section
variable{call:eF}{lf:Nat}{E:Env}{H:aB}
theorem QQ(k:Key)(ks:List Key)(v:an)(l:List an)(E:Env)(c:Env→aE):params (k::ks) (v::l) E c=params ks l (E.set k v) c:=
 T4.j8 E k v fun E=>params ks l E c
theorem RZ(ops:List bt):(IC.region false ops).ev call lf E H=yD (mJ call ops E H):=rfl
theorem Rj(ops:List bt):(IC.region true ops).ev call lf E H=yD (lU call ops E H []):=rfl
theorem GV(a b:IC):(IC.seq a b).ev call lf E H=tz (a.ev call lf E H) (b.ev call lf):=rfl
theorem MJ(E:Env)(H:aB):yD (.ok E H)= .ok .normal E H:=rfl
theorem JF(E:Env)(H:aB)(k:Env→aB→Out):tz (.ok .normal E H) k=k E H:=rfl
theorem JG(d:Option Key)(q:Option (List Nat))(op:bE)(r:List bt):mJ call (⟨d,none,q,op⟩::r) E H=fin d E (mJ call r) (op.ev call E H):=rfl
theorem B2(d:Key)(v:an)(k:Env→aB→eD):fin (some d) E k (.ok v H)=k (E.set d v) H:=T4.zj E d v fun E=>k E H
theorem SF(v:an)(k:Env→aB→eD):fin none E k (.ok v H)=k E H:=rfl
theorem dh{α β:Type}(x:α)(e:β)(k:α→β):ob (some x) e k=k x:=rfl
theorem U9(x:aG):(bE.nX x).ev call E H=ob (x.ev E) (.err 1) fun v=>.ok v H:=dp x E _ _
theorem U'(op:BinOp)(x y:aG):(bE.bin op x y).ev call E H=ob (x.ev E) (.err 6) fun a=>ob (y.ev E) (.err 6) fun b=>ob (AF op a b) (.err 6) fun v=>.ok v H:=by
 show bB x E (.err 6) (fun a=>bB y E (.err 6) fun b=>yk op a b fun v=>.ok v H)=_
 simp only[dp,Cf,ts]
theorem TJ(k:IntKind)(x:aG):(bE.conv k x).ev call E H=ob (x.ev E) (.err 36) fun v=>gI v (.err 36) fun _ n=>.ok (.int k (lV k n)) H:=by
 show bB x E (.err 36) (fun v=>gI v (.err 36) fun _ n=>kW (lV k n) fun n=>.ok (.int k n) H)=_
 simp only[dp,rQ]
theorem SG(k:IntKind)(n:Int)(e:aE)(f:IntKind→Int→aE):gI (.int k n) e f=f k n:=rfl
noncomputable def Wf(fn:bA)(o:Out):aE:=
 Out.rec (motive:=fun _=>aE) (fun x E H=>Ex.rec (motive:=fun _=>aE) (results E H fn.res) (fun _=>.err 72) (results E H fn.res) x) .err o
theorem TK(fn:bA)(args:List an)(H:aB):sC call lf fn args H=params fn.ps args .emp fun E=>Wf fn (fn.body.ev call lf E H):=rfl
end
theorem Kept.keptBut{w w':World}(h:Kept w w')(may:MemPlace→Prop):w.keptBut w' may:=by
 refine⟨h.os,h.output,fun i hi=>?_⟩
 rw[h.pb i hi]
 cases w.heap[i]?with
 |none=>rfl
 |some o=>cases o with
  |cells c t z=>exact⟨rfl,rfl,rfl,fun _ _=>rfl⟩
  |map es clock=>exact .inr ⟨rfl,rfl⟩
  |_=>rfl
theorem low_of_shaped{P:Program}{w:World}(h:w.ShapedOpen P)(I:((List.range P.globals.size).all fun g=>((((begin P (fun _ _=>0) default).world.heap[g]?).bind Obj.row?).isSome))=true):∀g,g<P.globals.size→g<w.heap.size:=by
 intro g z
 have A:=List.all_eq_true.1 I g (List.mem_range.2 z)
 cases G:((begin P (fun _ _=>0) default).world.heap[g]?).bind Obj.row? with
 |none=>rw[G] at A;cases A
 |some x=>
  obtain⟨zero,t⟩:=x
  obtain⟨cs,J,_⟩:=h.1 g zero t z G
  exact(Array.getElem?_eq_some_iff.1 J).1
mutual
def Wg{H:Type}:DataW H→List Value
 |.lit (.int k n)=>[.int k n]
 |.lit (.bool b)=>[.bool b]
 |.lit (.string bs)=>[.string ⟨bs.toArray⟩]
 |.agg parts=>MK parts
 |_=>[]
def MK{H:Type}:List (DataW H)→List Value
 |[]=>[]
 |d::r=>Wg d++MK r
end
def putG(h:Array Obj)(g:Nat)(cs:List Value):Array Obj:=h.modify g fun
 |.cells _ t frozen=>.cells cs.toArray t frozen
 |o=>o
structure bf where
 ft:Tr bA
 xt:Tr Nat
noncomputable def bf.call(T:bf)(lf n:Nat):eF:=A3 T.ft T.xt lf n
def iP(T:bf)(op:bE)(E:Env)(H:aB)(Q:an→aB→Prop):Prop:=∃N v H',(∀lf n,N≤lf→N≤n→op.ev (T.call lf n) E H= .ok v H')∧Q v H'
def n5(T:bf)(ops:List bt)(E:Env)(H:aB)(Q:Env→aB→Prop):Prop:=∃N E' H',(∀lf n,N≤lf→N≤n→mJ (T.call lf n) ops E H= .ok E' H')∧Q E' H'
def Be(T:bf)(ops:List bt)(E:Env)(H:aB)(bS:List FP)(Q:Env→aB→Prop):Prop:=∃N E' H',(∀lf n,N≤lf→N≤n→lU (T.call lf n) ops E H bS= .ok E' H')∧Q E' H'
def lq(T:bf)(c:IC)(E:Env)(H:aB)(Q:Ex→Env→aB→Prop):Prop:=∃N x E' H',(∀lf n,N≤lf→N≤n→c.ev (T.call lf n) lf E H= .ok x E' H')∧Q x E' H'
def s9(T:bf)(f:Nat)(args:List an)(H:aB)(Q:an→aB→Prop):Prop:=∃N v H',(∀lf n,N≤lf→N≤n→T.call lf n f args H= .ok v H')∧Q v H'
section
variable{T:bf}{E:Env}{H:aB}
theorem s9.mono{f:Nat}{args:List an}{Q z:an→aB→Prop}(h:s9 T f args H Q)(k:∀v H',Q v H'→z v H'):s9 T f args H z:=
 let⟨N,v,H',a,b⟩:=h;⟨N,v,H',a,k _ _ b⟩
theorem lq.mono{c:IC}{Q z:Ex→Env→aB→Prop}(h:lq T c E H Q)(k:∀x E' H',Q x E' H'→z x E' H'):lq T c E H z:=
 let⟨N,x,E',H',a,b⟩:=h;⟨N,x,E',H',a,k _ _ _ b⟩
theorem gf{op:bE}{v:an}{H':aB}{Q:an→aB→Prop}(h:∀call,op.ev call E H= .ok v H')(z:Q v H'):iP T op E H Q:=⟨0,v,H',fun _ _ _ _=>h _,z⟩
theorem TL{x:aG}{v:an}{Q:an→aB→Prop}(h:x.ev E=some v)(z:Q v H):iP T (.nX x) E H Q:=
 gf (fun _=>by rw[U9,h,dh]) z
theorem xb{op:BinOp}{x y:aG}{a b v:an}{Q:an→aB→Prop}(z:x.ev E=some a)(A:y.ev E=some b)(h:AF op a b=some v)(G:Q v H):iP T (.bin op x y) E H Q:=
 gf (fun _=>by rw[U',z,A,dh,dh,h,dh]) G
theorem ML{op:UnOp}{x:aG}{a v:an}{Q:an→aB→Prop}(z:x.ev E=some a)(h:EX op a=some v)(A:Q v H):iP T (.un op x) E H Q:=
 gf (fun _=>by show bB x E (.err 8) (fun a=>ob (EX op a) (.err 8) fun v=>mE v fun v=>.ok v H)=_;rw[dp,z,dh,h,dh,ts]) A
theorem TN{c:yB}{neg:Bool}{x y:aG}{a b:an}{r:Bool}{Q:an→aB→Prop}(z:x.ev E=some a)(A:y.ev E=some b)(h:nr c a b=some r)(G:Q (.bool (Bool.xor neg r)) H):iP T (.eqv c neg x y) E H Q:=
 gf (fun _=>by show bB x E (.err 7) (fun a=>bB y E (.err 7) fun b=>ob (nr c a b) (.err 7) fun r=>mY (Bool.xor neg r) fun r=>.ok (.bool r) H)=_;rw[dp,z,dh,dp,A,dh,h,dh,FN]) G
theorem KY{c x y:aG}{t:Bool}{v:an}{Q:an→aB→Prop}(A:c.ev E=some (.bool t))(z:(if t then x.ev E else y.ev E)=some v)(G:Q v H):iP T (.pick c x y) E H Q:=
 gf (fun _=>by
  show bB c E (.err 2) (fun v=>sd v (.err 2) fun t=>aH t (l9 x E H) (l9 y E H))=_
  rw[dp,A,dh]
  cases t
  ·show l9 y E H=_
   have z:y.ev E=some v:=z
   unfold l9;rw[dp,z,dh]
  show l9 x E H=_
  have z:x.ev E=some v:=z
  unfold l9;rw[dp,z,dh]) G
theorem SH{k z:IntKind}{x:aG}{n:Int}{Q:an→aB→Prop}(A:x.ev E=some (.int z n))(G:Q (.int k (lV k n)) H):iP T (.conv k x) E H Q:=
 gf (fun _=>by rw[TJ,A,dh,SG]) G
theorem Gd{x:aG}{k f g o:Nat}{Q:an→aB→Prop}(z:x.ev E=some (.ptr f g o))(A:Q (.ptr f g (o+k)) H):iP T (.nR x k) E H Q:=
 gf (fun _=>by show bB x E (.err 9) (fun v=>iu v (.err 9) fun f g off=>dr (Nat.add off k) fun off=>.ok (.ptr f g off) H)=_;rw[dp,z,dh];show dr (o+k) (fun off=>aE.ok (.ptr f g off) H)=_;rw[im]) A
theorem Gx{x:aG}{f g o l es:Nat}{Q:an→aB→Prop}(z:x.ev E=some (.slice f g o l es))(A:Q (.int .i64 l) H):iP T (.len x) E H Q:=
 gf (fun _=>by show bB x E (.err 25) (fun v=>gP v (.err 25) (.ok (.int .i64 (.ofNat 0)) H) fun _ _ _ l _=>.ok (.int .i64 (.ofNat l)) H)=_;rw[dp,z,dh];rfl) A
theorem JH{x:aG}{Q:an→aB→Prop}(z:x.ev E=some .cb)(A:Q (.int .i64 0) H):iP T (.len x) E H Q:=
 gf (fun _=>by show bB x E (.err 25) (fun v=>gP v (.err 25) (.ok (.int .i64 (.ofNat 0)) H) fun _ _ _ l _=>.ok (.int .i64 (.ofNat l)) H)=_;rw[dp,z,dh];rfl) A
theorem KZ{x:aG}{l s:Nat}{Q:an→aB→Prop}(z:x.ev E=some (.str l s))(A:Q (.int .i64 l) H):iP T (.o5 x) E H Q:=
 gf (fun _=>by show bB x E (.err 25) (fun v=>jR v (.err 25) fun l _=>.ok (.int .i64 (.ofNat l)) H)=_;rw[dp,z,dh];rfl) A
theorem R0{x i:aG}{es f g o l gM:Nat}{k:IntKind}{j:Nat}{Q:an→aB→Prop}(A:x.ev E=some (.slice f g o l gM))(hi:i.ev E=some (.int k (j:Int)))(G:j<l)(I:Q (.ptr f g (o+j*es)) H):iP T (.eg es x i) E H Q:=
 gf (fun _=>by
  show bB x E (.err 12) (fun v=>gP v (.err 12) (.err 12) fun f g off J _=>bB i E (.err 12) fun z=>idx z J (.err 12) fun j=>dr (Nat.add off (Nat.mul j es)) fun off=>.ok (.ptr f g off) H)=_
  rw[dp,A,dh]
  show bB i E (.err 12) (fun z=>idx z l (.err 12) fun j=>dr (Nat.add o (Nat.mul j es)) fun off=>.ok (.ptr f g off) H)=_
  rw[dp,hi,dh]
  show aH (Nat.ble (Nat.succ j) l) (dr (o+j*es) fun off=>aE.ok (.ptr f g off) H) (aE.err 12)=_
  rw[jz G,f9,im]) I
theorem SI{x:aG}{vs:List an}{i:Nat}{v:an}{Q:an→aB→Prop}(z:x.ev E=some (.tuple vs))(hi:vs[i]?=some v)(A:Q v H):iP T (.ry x i) E H Q:=
 gf (fun _=>by show bB x E (.err 18) (fun v=>rZ v (.err 18) fun vs=>ob (vs[i]?) (.err 18) fun v=>.ok v H)=_;rw[dp,z,dh];show ob (vs[i]?) (aE.err 18) (fun v=>aE.ok v H)=_;rw[hi,dh]) A
theorem R1{z cs:List an}{ps:List (Nat×Nat×aG)}{Q:an→aB→Prop}(h:pI E ps z=some cs)(A:Q (.agg cs) H):iP T (.build z ps) E H Q:=
 gf (fun _=>by show ob (pI E ps z) (aE.err 23) (fun cs=>aE.ok (.agg cs) H)=_;rw[h,dh]) A
theorem Ge{f:Nat}{l:List aG}{vs:List an}{Q:an→aB→Prop}(z:jF E l=some vs)(h:s9 T f vs H Q):iP T (.call f l) E H Q:=by
 obtain⟨N,v,H',a,b⟩:=h
 exact⟨N,v,H',fun lf n A h2=>by show ob (jF E l) (aE.err 42) (fun vs=>T.call lf n f vs H)=_;rw[z,dh];exact a lf n A h2,b⟩
theorem TO:jF E []=some []:=rfl
theorem K0{x:aG}{r:List aG}{v:an}{vs:List an}(h:x.ev E=some v)(k:jF E r=some vs):jF E (x::r)=some (v::vs):=by
 show ob (x.ev E) none (fun v=>ob (jF E r) none fun vs=>some (v::vs))=_
 rw[h,dh,k,dh]
theorem TP{Q:Env→aB→Prop}(h:Q E H):n5 T [] E H Q:=⟨0,E,H,fun _ _ _ _=>rfl,h⟩
theorem K1{d:Key}{q:Option (List Nat)}{op:bE}{r:List bt}{Q:Env→aB→Prop}(h:iP T op E H fun v H'=>n5 T r (E.set d v) H' Q):n5 T (⟨some d,none,q,op⟩::r) E H Q:=by
 obtain⟨N,v,H',a,z,A,G,b,c⟩:=h
 refine⟨max N z,A,G,fun lf n I h2=>?_,c⟩
 rw[JG,a lf n (by omega) (by omega),B2]
 exact b lf n (by omega) (by omega)
theorem R2{q:Option (List Nat)}{op:bE}{r:List bt}{Q:Env→aB→Prop}(h:iP T op E H fun _ H'=>n5 T r E H' Q):n5 T (⟨none,none,q,op⟩::r) E H Q:=by
 obtain⟨N,v,H',a,z,A,G,b,c⟩:=h
 refine⟨max N z,A,G,fun lf n I h2=>?_,c⟩
 rw[JG,a lf n (by omega) (by omega),SF]
 exact b lf n (by omega) (by omega)
theorem JU{call:eF}{d:Option Key}{g:Key}{want:Bool}{q:Option (List Nat)}{op:bE}{t:Bool}{k:Env→aB→eD}(z:E.get g=some (.bool t)):
  bt.step call ⟨d,some (g,want),q,op⟩ E H k=if t=want then fin d E k (op.ev call E H) else k (kf E d .undef) H:=by
 show ob (E.get g) (.err 51) (fun v=>wc v (ku d E H k) fun b=>aH (Bool.xor b want) (ku d E H k) (bt.run call ⟨d,some (g,want),q,op⟩ E H k))=_
 rw[z,dh]
 show aH (Bool.xor t want) (ku d E H k) (bt.run call ⟨d,some (g,want),q,op⟩ E H k)=_
 rw[vw]
 cases t<;>cases want<;>rfl
theorem K2{d:Key}{g:Key}{want t:Bool}{q:Option (List Nat)}{op:bE}{r:List bt}{Q:Env→aB→Prop}(z:E.get g=some (.bool t))(A:t≠want)(h:n5 T r (E.set d .undef) H Q):n5 T (⟨some d,some (g,want),q,op⟩::r) E H Q:=by
 obtain⟨G,I,J,b,c⟩:=h
 exact⟨G,I,J,fun lf n K h2=>by show bt.step (T.call lf n) ⟨some d,some (g,want),q,op⟩ E H (mJ (T.call lf n) r)=_;rw[JU z,aj A];exact b lf n K h2,c⟩
theorem SJ{d:Key}{g:Key}{want:Bool}{q:Option (List Nat)}{op:bE}{r:List bt}{Q:Env→aB→Prop}(z:E.get g=some (.bool want))(h:iP T op E H fun v H'=>n5 T r (E.set d v) H' Q):n5 T (⟨some d,some (g,want),q,op⟩::r) E H Q:=by
 obtain⟨N,v,H',a,A,G,I,b,c⟩:=h
 refine⟨max N A,G,I,fun lf n J h2=>?_,c⟩
 show bt.step (T.call lf n) ⟨some d,some (g,want),q,op⟩ E H (mJ (T.call lf n) r)=_
 rw[JU z,aw rfl,a lf n (by omega) (by omega),B2]
 exact b lf n (by omega) (by omega)
theorem TQ{a b:IC}{Q:Ex→Env→aB→Prop}(h:lq T a E H fun x E' H'=>(x= .normal→lq T b E' H' Q)∧(x≠.normal→Q x E' H')):lq T (.seq a b) E H Q:=by
 obtain⟨N,x,E1,H1,G,h2,I⟩:=h
 cases x with
 |normal=>
  obtain⟨J,x2,K,O,U,Y⟩:=h2 rfl
  refine⟨max N J,x2,K,O,fun lf n z A=>?_,Y⟩
  rw[GV,G lf n (by omega) (by omega),JF]
  exact U lf n (by omega) (by omega)
 |exit id=>exact⟨N,_,E1,H1,fun lf n z A=>by rw[GV,G lf n z A];rfl,I (by simp)⟩
 |ret=>exact⟨N,_,E1,H1,fun lf n z A=>by rw[GV,G lf n z A];rfl,I (by simp)⟩
theorem Rk{ops:List bt}{Q:Ex→Env→aB→Prop}(h:n5 T ops E H fun E' H'=>Q .normal E' H'):lq T (.region false ops) E H Q:=by
 obtain⟨N,E1,H1,z,h2⟩:=h
 exact⟨N,_,E1,H1,fun lf n A G=>by rw[RZ,z lf n A G,MJ],h2⟩
theorem QR{ops:List bt}{Q:Ex→Env→aB→Prop}(h:Be T ops E H [] fun E' H'=>Q .normal E' H'):lq T (.region true ops) E H Q:=by
 obtain⟨N,E1,H1,z,h2⟩:=h
 exact⟨N,_,E1,H1,fun lf n A G=>by rw[Rj,z lf n A G,MJ],h2⟩
theorem SK{Q:Ex→Env→aB→Prop}(h:Q .normal E H):lq T .skip E H Q:=⟨0,_,E,H,fun _ _ _ _=>rfl,h⟩
theorem SL{id:Nat}{Q:Ex→Env→aB→Prop}(h:Q (.exit id) E H):lq T (.exit id) E H Q:=⟨0,_,E,H,fun _ _ _ _=>rfl,h⟩
theorem TR{Q:Ex→Env→aB→Prop}(h:Q .ret E H):lq T .ret E H Q:=⟨0,_,E,H,fun _ _ _ _=>rfl,h⟩
theorem Gf{c:aG}{a b:IC}{t:Bool}{Q:Ex→Env→aB→Prop}(J:c.ev E=some (.bool t))(K:t=true→lq T a E H Q)(h2:t=false→lq T b E H Q):lq T (.cond c a b) E H Q:=by
 have key:∀lf n,(IC.cond c a b).ev (T.call lf n) lf E H=if t=true then a.ev (T.call lf n) lf E H else b.ev (T.call lf n) lf E H:=fun lf n=>by
  show ob (c.ev E) (.err 61) (fun v=>Ly v (.err 61) fun t=>aH t (a.ev (T.call lf n) lf E H) (b.ev (T.call lf n) lf E H))=_
  rw[J,dh]
  cases t<;>rfl
 cases t with
 |true=>obtain⟨N,x,E1,H1,z,A⟩:=K rfl;exact⟨N,x,E1,H1,fun lf n G I=>by rw[key,aw rfl];exact z lf n G I,A⟩
 |false=>obtain⟨N,x,E1,H1,z,A⟩:=h2 rfl;exact⟨N,x,E1,H1,fun lf n G I=>by rw[key,aj (by simp)];exact z lf n G I,A⟩
def Ff(id:Nat):Ex→Ex
 |.exit j=>if j=id then .normal else .exit j
 |x=>x
theorem R3{id:Nat}{c:IC}{Q:Ex→Env→aB→Prop}(h:lq T c E H fun x E' H'=>Q (Ff id x) E' H'):lq T (.block id c) E H Q:=by
 obtain⟨N,x,E1,H1,z,h2⟩:=h
 refine⟨N,Ff id x,E1,H1,fun lf n A G=>?_,h2⟩
 show zP id c (c.ev (T.call lf n) lf) E H=_
 unfold zP
 rw[z lf n A G]
 cases x with
 |normal=>rfl
 |ret=>rfl
 |exit j=>
  show aH (Nat.beq j id) (Out.ok .normal E1 H1) (.ok (.exit j) E1 H1)=Out.ok (if j=id then .normal else .exit j) E1 H1
  by_cases h:j=id
  ·rw[aw h,h,show Nat.beq id id=true from iX id];rfl
  rw[aj h]
  cases I:Nat.beq j id
  ·rfl
  exact absurd (dZ I) h
theorem SM{c:IC}{Q:Ex→Env→aB→Prop}(I:Nat→Env→aB→Prop)(Y:∀k E H,I k E H→lq T c E H fun x E' H'=>(x= .normal→∃j,j<k∧I j E' H')∧(x≠.normal→Q x E' H')):
  ∀k E H,I k E H→lq T (.loop c) E H Q:=by
 have main:∀k E H,I k E H→∃N x E' H',(∀lf n m,N≤lf→N≤n→N≤m→uv (c.ev (T.call lf n) lf) m E H= .ok x E' H')∧Q x E' H':=by
  intro k
  induction k using Nat.strongRecOn with
  |_ k Z=>
   intro E H h
   obtain⟨N,x,E1,H1,A,h2,O⟩:=Y k E H h
   have key:∀lf n m,N≤lf→N≤n→uv (c.ev (T.call lf n) lf) (m+1) E H=tz (.ok x E1 H1) (uv (c.ev (T.call lf n) lf) m):=fun lf n m G J=>by
    show tz (c.ev (T.call lf n) lf E H) (uv (c.ev (T.call lf n) lf) m)=_
    rw[A lf n G J]
   cases x with
   |normal=>
    obtain⟨j,hj,K⟩:=h2 rfl
    obtain⟨N2,x2,E2,H2,k1,k2⟩:=Z j hj E1 H1 K
    refine⟨max N N2+1,x2,E2,H2,fun lf n m G J U=>?_,k2⟩
    obtain⟨m,rfl⟩:∃z,m=z+1:=⟨m-1,by omega⟩
    rw[key lf n m (by omega) (by omega),JF]
    exact k1 lf n m (by omega) (by omega) (by omega)
   |exit id=>
    refine⟨N+1,_,E1,H1,fun lf n m G J U=>?_,O (by simp)⟩
    obtain⟨m,rfl⟩:∃z,m=z+1:=⟨m-1,by omega⟩
    rw[key lf n m (by omega) (by omega)];rfl
   |ret=>
    refine⟨N+1,_,E1,H1,fun lf n m G J U=>?_,O (by simp)⟩
    obtain⟨m,rfl⟩:∃z,m=z+1:=⟨m-1,by omega⟩
    rw[key lf n m (by omega) (by omega)];rfl
 intro k E H h
 obtain⟨N,x,E',H',a,b⟩:=main k E H h
 exact⟨N,x,E',H',fun lf n A h2=>a lf n lf A h2 A,b⟩
noncomputable def EF(ks:List Key):List an→Env→Env:=
 List.rec (motive:=fun _=>List an→Env→Env) (fun _ E=>E) (fun k _ z l E=>List.rec (motive:=fun _=>Env) E (fun v r _=>z r (E.set k v)) l) ks
theorem Kk:∀(ks:List Key)(l:List an)(E:Env)(c:Env→aE),ks.length=l.length→params ks l E c=c (EF ks l E)
 |[],[],E,c,_=>rfl
 |k::ks,v::l,E,c,h=>by rw[QQ,Kk ks l _ c (by simpa using h)];rfl
 |[],_::_,_,_,h=>by simp at h
 |_::_,[],_,_,h=>by simp at h
theorem Va{f:Nat}{fn:bA}{args:List an}{Q:an→aB→Prop}(A:T.ft.get f=some fn)(G:fn.ps.length=args.length)
  (h:lq T fn.body (EF fn.ps args .emp) H fun x E' H'=>(∀id,x≠.exit id)∧∃v,results E' H' fn.res= .ok v H'∧Q v H'):s9 T f args H Q:=by
 obtain⟨N,x,E1,H1,I,h2,v,z,J⟩:=h
 refine⟨N+1,v,H1,fun lf n K O=>?_,J⟩
 obtain⟨n,rfl⟩:∃n',n=n'+1:=⟨n-1,by omega⟩
 show ob (T.ft.get f) _ (fun fn=>sC (T.call lf n) lf fn args H)=_
 rw[A,dh,TK,Kk _ _ _ _ G,I lf n (by omega) (by omega)]
 cases x with
 |normal=>exact z
 |ret=>exact z
 |exit id=>exact absurd rfl (h2 id)
end
inductive DC where
 |i (k:IntKind) (n:Int)
 |b (b:Bool)
 |s (l v:Nat)
 |nil
 |sl (rows:List (List DC))
def mm(H:aB)(f g Q:Nat)(l:List an):Prop:=
 ∃elem aT m lo fl cs,H.t.get f=some (.row elem l.length aT m lo fl cs)∧lo≤g∧g≤m∧Q<g∧cs.get Q=some l
mutual
def cO(H:aB)(X:Nat→Prop):DC→an→Prop
 |.i k n,a=>a= .int k n
 |.b b,a=>a= .bool b
 |.s l v,a=>a= .str l v
 |.nil,a=>a= .cb
 |.sl rows,a=>∃f g off es,a= .slice f g off rows.length es∧(rows=[]∨¬X f∧f<H.next∧∃q,off=q*es∧gG H X f g es q rows)
def gG(H:aB)(X:Nat→Prop)(f g es:Nat):Nat→List (List DC)→Prop
 |_,[]=>True
 |q,row::r=>(∃l,mm H f g q l∧l.length=es∧cW H X row l)∧gG H X f g es (q+1) r
def cW(H:aB)(X:Nat→Prop):List DC→List an→Prop
 |[],l=>l=[]
 |d::r,l=>∃a s,l=a::s∧cO H X d a∧cW H X r s
end
structure sH(H H':aB):Prop where
 next:H.next≤H'.next
 bc:H'.bc=H.bc
 ws:H'.ws=H.ws
 same:∀f,f<H.next→H'.t.get f=H.t.get f
theorem sH.refl(H:aB):sH H H:=⟨bY _,rfl,rfl,fun _ _=>rfl⟩
theorem sH.trans{A B C:aB}(h:sH A B)(k:sH B C):sH A C:=
 ⟨jT h.next k.next,k.bc.trans h.bc,k.ws.trans h.ws,fun f z=>(k.same f (mw z h.next)).trans (h.same f z)⟩
structure Step(X:Nat→Prop)(H H':aB):Prop where
 next:H.next≤H'.next
 same:∀f,f<H.next→¬X f→H'.t.get f=H.t.get f
theorem Step.refl(X:Nat→Prop)(H:aB):Step X H H:=⟨bY _,fun _ _ _=>rfl⟩
theorem sH.step{H H':aB}(h:sH H H')(X:Nat→Prop):Step X H H':=⟨h.next,fun f z _=>h.same f z⟩
theorem Step.trans{X:Nat→Prop}{A B C:aB}(h:Step X A B)(k:Step X B C):Step X A C:=
 ⟨jT h.next k.next,fun f z G=>(k.same f (mw z h.next) G).trans (h.same f z G)⟩
section
variable{H H':aB}{X:Nat→Prop}
theorem mm.iO{f g Q:Nat}{l:List an}(h:mm H f g Q l)(z:H'.t.get f=H.t.get f):mm H' f g Q l:=by
 obtain⟨a,b,c,d,e,k,A,h2⟩:=h
 exact⟨a,b,c,d,e,k,z.trans A,h2⟩
mutual
theorem cO.step(z:Step X H H'):∀{d:DC}{a:an},cO H X d a→cO H' X d a
 |.i _ _,_,h=>h
 |.b _,_,h=>h
 |.s _ _,_,h=>h
 |.nil,_,h=>h
 |.sl rows,a,h=>by
  simp only[cO] at h⊢
  obtain⟨f,g,off,es,I,h2⟩:=h
  refine⟨f,g,off,es,I,h2.imp id fun⟨A,G,q,ho,J⟩=>⟨A,mw G z.next,q,ho,gG.step z A G J⟩⟩
theorem gG.step(z:Step X H H'){f g es:Nat}(A:¬X f)(G:f<H.next):∀{q:Nat}{rows:List (List DC)},gG H X f g es q rows→gG H' X f g es q rows
 |_,[],_=>trivial
 |q,row::r,h=>by
  simp only[gG] at h⊢
  obtain⟨⟨l,I,h2,J⟩,K⟩:=h
  exact⟨⟨l,I.iO (z.same f G A),h2,cW.step z J⟩,gG.step z A G K⟩
theorem cW.step(z:Step X H H'):∀{row:List DC}{l:List an},cW H X row l→cW H' X row l
 |[],_,h=>h
 |d::r,l,h=>by
  simp only[cW] at h⊢
  obtain⟨a,s,A,h2,G⟩:=h
  exact⟨a,s,A,cO.step z h2,cW.step z G⟩
end
theorem gG.get{f g es:Nat}:∀{q:Nat}{rows:List (List DC)},gG H X f g es q rows→∀{i:Nat}{row:List DC},rows[i]?=some row→∃l,mm H f g (q+i) l∧l.length=es∧cW H X row l
 |q,[],_,i,row,hi=>by simp at hi
 |q,x::r,h,i,row,hi=>by
  simp only[gG] at h
  cases i with
  |zero=>simp at hi;subst hi;exact h.1
  |succ i=>
   obtain⟨l,z,h2⟩:=gG.get h.2 (i:=i) (row:=row) (by simpa using hi)
   exact⟨l,by rw[show q+(i+1)=q+1+i by omega];exact z,h2⟩
theorem cW.get:∀{row:List DC}{l:List an},cW H X row l→∀{i:Nat}{d:DC},row[i]?=some d→∃a,l[i]?=some a∧cO H X d a
 |[],_,_,i,d,hi=>by simp at hi
 |x::r,l,h,i,d,hi=>by
  simp only[cW] at h
  obtain⟨a,s,rfl,z,h2⟩:=h
  cases i with
  |zero=>simp at hi;subst hi;exact⟨a,rfl,z⟩
  |succ i=>simpa using cW.get h2 (i:=i) (d:=d) (by simpa using hi)
theorem cW.length:∀{row:List DC}{l:List an},cW H X row l→l.length=row.length
 |[],_,h=>by simp only[cW] at h;subst h;rfl
 |d::r,l,h=>by
  simp only[cW] at h
  obtain⟨a,s,rfl,_,h2⟩:=h
  simp[cW.length h2]
theorem cO.slice{rows:List (List DC)}{a:an}(h:cO H X (.sl rows) a):∃f g off es,a= .slice f g off rows.length es∧
  ∀{i:Nat}{row:List DC},rows[i]?=some row→¬X f∧f<H.next∧∃Q l,mm H f g Q l∧l.length=es∧off+i*es=Q*es∧cW H X row l:=by
 simp only[cO] at h
 obtain⟨f,g,off,es,z,h2⟩:=h
 refine⟨f,g,off,es,z,fun{i row}hi=>?_⟩
 rcases h2 with rfl|⟨A,G,q,ho,I⟩
 ·simp at hi
 obtain⟨l,J,K,O⟩:=I.get hi
 exact⟨A,G,q+i,l,J,K,by rw[ho,nN],O⟩
theorem D9{β:Type}{f g Q k n:Nat}{l:List an}{e:β}{c:List an→β}(h:mm H f g Q l)(z:k+n≤l.length)(h0:0<n):rd H f g (Q*l.length+k) n e c=c ((l.drop k).take n):=by
 obtain⟨elem,aT,m,lo,fl,cs,A,h2,G,I,J⟩:=h
 have e1:(Q*l.length+k)/l.length=Q:=by
  rw[mL,Nat.mul_add_div (by omega),M1 (by omega)];rfl
 have e2:(Q*l.length+k) % l.length=k:=by
  rw[mL,Nat.mul_add_mod,Ax (by omega)]
 unfold rd
 rw[A]
 simp only[iS,qU]
 rw[show Nat.mod (Q*l.length+k) l.length=k from e2,show Nat.div (Q*l.length+k) l.length=Q from e1,aw (jz h2),aw (jz G),show Nat.ble (Nat.add k n) l.length=true from jz z,aw rfl,aw (jz I),J,dh]
 split
 ·rename_i K
  have:=dZ K
  have hk:k=0:=by omega
  subst hk
  rw[List.drop_zero,qu (by omega)]
 rfl
theorem Gy{call:eF}{E:Env}{n:Nat}{agg:Bool}{a:aG}{f g o:Nat}(z:a.ev E=some (.ptr f g o)):(bE.load n agg a).ev call E H=rd H f g o n (.err 4) fun l=>iG agg l (.err 4) fun v=>.ok v H:=by
 show bB a E (.err 4) (fun v=>iu v (.err 4) fun f g off=>rd H f g off n (.err 4) fun l=>iG agg l (.err 4) fun v=>.ok v H)=_
 rw[dp,z,dh];rfl
variable{T:bf}{E:Env}
theorem Kl{a:aG}{f g o Q k:Nat}{l:List an}{x:an}{R:an→aB→Prop}(A:a.ev E=some (.ptr f g o))(G:mm H f g Q l)(ho:o=Q*l.length+k)(z:l[k]?=some x)(I:R x H):iP T (.load 1 false a) E H R:=
 gf (fun _=>by
  have hk:k<l.length:=(List.getElem?_eq_some_iff.1 z).1
  rw[Gy A,ho,D9 G (by omega) (by omega)]
  have:(l.drop k).take 1=[x]:=by
   rw[AA hk,xD,HM]
   congr 1
   exact(List.getElem?_eq_some_iff.1 z).2
  rw[this];rfl) I
theorem Km{n:Nat}{a:aG}{f g o Q k:Nat}{l:List an}{R:an→aB→Prop}(z:a.ev E=some (.ptr f g o))(A:mm H f g Q l)(ho:o=Q*l.length+k)(G:k+n≤l.length)(h0:0<n)(I:R (.agg ((l.drop k).take n)) H):iP T (.load n true a) E H R:=
 gf (fun _=>by rw[Gy z,ho,D9 A G h0];rfl) I
def xU(H:aB)(f:Nat)(cells:List an):Prop:=∃elem aT lo cs,H.t.get f=some (.row elem cells.length aT 1 lo 0 cs)∧lo≤1∧cs.get 0=some cells
theorem xU.cells{f:Nat}{l:List an}(h:xU H f l):mm H f 1 0 l:=by
 obtain⟨a,b,lo,cs,z,h2,A⟩:=h
 exact⟨a,b,1,lo,0,cs,z,h2,bY _,fZ _,A⟩
theorem xU.iO{f:Nat}{l:List an}(h:xU H f l)(z:H'.t.get f=H.t.get f):xU H' f l:=by
 obtain⟨a,b,lo,cs,A,h2⟩:=h
 exact⟨a,b,lo,cs,z.trans A,h2⟩
noncomputable def EH(H:aB)(elem aT:Nat)(cells:List an):aB:=⟨H.next+1,H.bc,H.ws,H.t.set H.next (.row elem cells.length aT 1 1 0 (.one cells))⟩
theorem TS(elem aT:Nat)(cells:List an):xU (EH H elem aT cells) H.next cells:=
 ⟨elem,aT,1,.one cells,by show(H.t.set H.next _).get H.next=_;rw[GT.eU,aw rfl],bY _,rfl⟩
theorem Kn(elem aT:Nat)(cells:List an):sH H (EH H elem aT cells):=
 ⟨sw _,rfl,rfl,fun f z=>by show(H.t.set H.next _).get f=_;rw[GT.eU,aj (by omega)]⟩
theorem alloc_eq(o:dP)(k:Nat→aB→aE):H.alloc o k=k H.next ⟨H.next+1,H.bc,H.ws,H.t.set H.next o⟩:=by
 cases H with
 |mk next bc ws t=>
  show dr next (fun f=>t.gq f o fun t=>k f ⟨Nat.succ f,bc,ws,t⟩)=_
  rw[im,GT.j8]
theorem SN{elem es aT:Nat}{cells:List an}{R:an→aB→Prop}(z:cells.length=es)(A:R (.ptr H.next 1 0) (EH H elem aT cells)):iP T (.cf elem es aT cells) E H R:=
 gf (fun _=>by subst z;show H.alloc (.row elem cells.length aT 1 1 0 (.one cells)) (fun f H=>.ok (.ptr f 1 0) H)=_;rw[alloc_eq];rfl) A
theorem TU{elem es aT:Nat}{x:aG}{v:an}{cells:List an}{R:an→aB→Prop}(z:x.ev E=some v)(A:jK v=some cells)(G:cells.length=es)(I:R (.ptr H.next 1 0) (EH H elem aT cells)):iP T (.box elem es aT x) E H R:=
 gf (fun _=>by
  subst G
  show bB x E (.err 3) (fun v=>ob (jK v) (.err 3) fun l=>aH (Nat.beq (jf l) cells.length) (vT elem cells.length aT l E H) (.err 3))=_
  rw[dp,z,dh,A,dh,ou,show Nat.beq cells.length cells.length=true from iX _,f9]
  show H.alloc (.row elem cells.length aT 1 1 0 (.one cells)) (fun f H=>.ok (.ptr f 1 0) H)=_
  rw[alloc_eq];rfl) I
variable{k:Nat}{Q:Env→aB→Prop}
theorem JV{call:eF}{o:bt}{bS:List FP}{K:Env→aB→List FP→eD}(z:o.q=none):o.pZ call E H bS K=fin o.dst E (fun E H=>K E H bS) (o.op.ev call E H):=by
 unfold bt.pZ;rw[z];rfl
theorem y3{call:eF}{d:Option Key}{q:Option (List Nat)}{op:bE}{bS:List FP}{K:Env→aB→List FP→eD}:bt.m9 call ⟨d,none,q,op⟩ E H bS K=bt.pZ call ⟨d,none,q,op⟩ E H bS K:=rfl
theorem BC{call:eF}{d:Option Key}{g:Key}{want:Bool}{q:Option (List Nat)}{op:bE}{t:Bool}{bS:List FP}{K:Env→aB→List FP→eD}(z:E.get g=some (.bool t)):
  bt.m9 call ⟨d,some (g,want),q,op⟩ E H bS K=if t=want then bt.pZ call ⟨d,some (g,want),q,op⟩ E H bS K else K (kf E d .undef) H (rh q bS):=by
 show ob (E.get g) (.err 51) (fun v=>wc v (ku d E H fun E H=>K E H (rh q bS)) fun b=>aH (Bool.xor b want) (ku d E H fun E H=>K E H (rh q bS)) (bt.pZ call ⟨d,some (g,want),q,op⟩ E H bS K))=_
 rw[z,dh]
 show aH (Bool.xor t want) (ku d E H fun E H=>K E H (rh q bS)) (bt.pZ call ⟨d,some (g,want),q,op⟩ E H bS K)=_
 rw[vw]
 cases t<;>cases want<;>rfl
end
end Go.Ev
