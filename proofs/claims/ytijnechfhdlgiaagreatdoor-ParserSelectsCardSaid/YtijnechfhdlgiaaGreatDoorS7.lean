/- Part 7 of rules for walks through the code of a program, and of such walks; what each part proves is said by its theorems. -/
import Derived.Test.YtijnechfhdlgiaaGreatDoorS6
import Derived.Lib.Bytealg
import Derived.Laws.StandIn
set_option linter.unusedVariables false
set_option linter.unusedSimpArgs false
namespace Go.Ev
structure Kept(w w':World):Prop where
 os:w'.os=w.os
 tape:w'.tape=w.tape
 output:w'.output=w.output
 size:w.heap.size≤w'.heap.size
 pv:∀b,b<w.heap.size→w'.heap[b]?=w.heap[b]?
section
variable{ρ:Ho}{C:Nat→Option dQ}{w w':World}
theorem R.kept(z:R ρ C w)(hk:Kept w w'):R ρ C w':=
 ⟨fun f o ho g h A=>(z.obj f o ho g h A).iU (Ho.le_refl _) (hk.pv _ (z.kb f g h A)),z.n7,fun f g h A=>mI (z.kb f g h A) hk.size,z.uniq,fun f g h A a b=>(z.mM f g h A a b).iU (cell_of_heap (w:=w) (hk.pv _ (z.kb f g h A)))⟩
theorem Kept.ext(hk:Kept w w')(W:Nat→Prop)(n:Nat)(ρ:Ho):Ext W n n ρ ρ w w':=
 ⟨Ho.le_refl _,fun _ g h e=>.inl ⟨g,h,e⟩,fun _ _ _ e=>.inl e,fun b z _=>hk.pv b z,hk.size,bV _,hk.os,hk.tape,hk.output⟩
end
section
variable{P:Program}{nt:Nat}{ρ:Ho}{E E':Env}{H H' H1:az}{C:Nat→Option dQ}{w:World}{a:Act}{call:eI}{lf:Nat}
theorem KW:∀(ks:List Key)(l:List an)(E:Env)(c:Env→aE)(v:an)(H':az),params ks l E c= .ok v H'→
  ks.length=l.length∧∃E',c E'= .ok v H'∧∀t x,E'.get t=some x→E.get t=some x∨∃i:Nat,ks[i]?=some t∧l[i]?=some x
 |[],[],E,c,v,H',h=>⟨rfl,E,h,fun t x A=>.inl A⟩
 |[],_::_,E,c,v,H',h=>by cases h
 |_::_,[],E,c,v,H',h=>by cases h
 |k::ks,y::l,E,c,v,H',h=>by
  have h:E.gA k y (fun E=>params ks l E c)= .ok v H':=h
  rw[T4.ki] at h
  obtain⟨G,E',h2,I⟩:=KW ks l _ _ _ _ h
  refine⟨by simp[G],E',h2,fun t x A=>?_⟩
  rcases I t x A with z|⟨i,z,J⟩
  ·rw[T4.eY] at z
   split at z
   ·rename_i e
    subst e
    cases z
    exact .inr ⟨0,rfl,rfl⟩
   exact .inl z
  exact .inr ⟨i+1,by simpa using z,by simpa using J⟩
theorem AR.init{args:List an}{b9:Array Value}(A:cF ρ args b9.toList)(Y:args.length≤nt)(I:uJ P ρ){E':Env}{n:Nat}(J:n≤1296)
  (K:∀t x,E'.get t=some x→T4.emp.get t=some x∨∃i:Nat,((List.range n).map pk)[i]?=some t∧args[i]?=some x):
  AR P ρ nt E' {tmps:=b9++Array.replicate (nt-b9.size) undef,defers:=[]}:=by
 have Z:b9.size=args.length:=by have:=A.length;simpa using this
 refine⟨by simp;omega,rfl,fun t v h=>?_,I⟩
 rcases K t v h with h|⟨i,G,h2⟩
 ·rw[T4.sh] at h;cases h
 obtain⟨y,O,z⟩:=A.get _ v h2
 refine⟨y,?_,z⟩
 have hi:i<n:=by
  have:=(List.getElem?_eq_some_iff.1 G).1
  simpa using this
 have U:pk i=t:=by simpa[hi] using G
 have hk:t.n=i:=by rw[←U];exact wz (by omega)
 have:i<b9.size:=by
  have:=(List.getElem?_eq_some_iff.1 h2).1
  omega
 rw[hk,Fe this]
 simpa using O
def yK(tmps:Array Value):ResultVar→Sem Value
 |.tmp t=>pure (tmps.getD t undef)
 |.cell a t=>do loadVar t (←asAddr (tmps.getD a undef))
theorem R3(fn:Func)(tmps:Array Value):Go.results fn tmps=(do
  let vs←fn.results.mapM (yK tmps)
  pure (if h:vs.size=1 then vs[0] else .tuple vs)):=by
 unfold Go.results
 congr 2
theorem Mq{tmps:Array Value}{t:Nat}{cv:Value}(h:tmps[t]?=some cv):tmps.getD t undef=cv:=by
 simp[uW,h]
theorem Ur(hA:AR P ρ nt E a)(hR:R ρ C w)(hK:kj ρ C H){r:ResultVar}{rs:List lW}{ir:lW}(z:nu P (r::[])=some [ir]){k:an→aE}{e:Nat}{v:an}(h:yG E H ir (.err e) k= .ok v H'):
  ∃x J,(yK a.tmps r).run P w= .ok J w∧VR ρ x J∧k x= .ok v H':=by
 cases r with
 |tmp t=>
  simp only[nu] at z
  split at z
  case isFalse=>cases z
  rename_i ht
  simp only[gP,yB,and_true] at z
  subst z
  replace h:=ju (o:=E.get (pk t)) h
  obtain⟨x,I,h⟩:=h
  obtain⟨cv,K,h2⟩:=hA.tmp (pk t) x I
  rw[wz ht] at K
  exact⟨x,cv,by simp[yK,Mq K],h2,h⟩
 |cell s t=>
  simp only[nu] at z
  split at z
  ·rename_i l n U hn
   cases U
   split at z
   case isFalse=>cases z
   rename_i G
   simp only[gP,yB,and_true] at z
   subst z
   replace h:=ju (o:=E.get (pk s)) h
   obtain⟨x,I,h⟩:=h
   replace h:=vF h;obtain⟨f,g,off,rfl,h⟩:=h
   obtain⟨l,U,h⟩:=Ie h (by simp)
   obtain⟨cv,K,h2⟩:=hA.tmp (pk s) _ I
   rw[wz G] at K
   simp only[VR] at h2
   obtain⟨hm,hh,rfl⟩:=h2
   obtain⟨_,_,_,_,_,qQ⟩:=tQ hn
   have Y:C f=H.t.get f:=by
    obtain⟨_,_,_,_,_,_,_,_,hg,_⟩:=U
    exact(hK f _ ⟨_,_,hh⟩ hg).trans hg.symm
   obtain⟨hlen,hk,hc⟩:=hR.rd U Y hh (by omega)
   have key:∀x,iL (pS P t) l (.err 0) (fun v=>.ok v H)= .ok x H→k x= .ok v H'→∃x J,(yK a.tmps (.cell s t)).run P w= .ok J w∧VR ρ x J∧k x= .ok v H':=by
    intro x I Z
    obtain⟨_,cv,O,tf⟩:=J7 (P:=P) (ρ:=ρ) (w:=w) (ad:=⟨hm.ca,hm.off+off,none⟩) hn hlen hk (fun j x I=>by rw[Addr.add_lit];exact hc j x I) I
    exact⟨x,cv,by simp[yK,Mq K,asAddr,O],tf,Z⟩
   rcases Hb h with⟨A,h⟩|⟨x,A,og,h⟩
   ·exact key _ (by rw[A];rfl) h
   exact key x (by rw[A,og];rfl) h
  cases z
theorem LG(Z:AR P ρ nt E a)(hR:R ρ C w)(hK:kj ρ C H){e:Nat}{v:an}:∀{l:List ResultVar}{rs:List lW}(z:nu P l=some rs){k:List an→aE},uH E H rs (.err e) k= .ok v H'→
  ∃vs nJ,(l.mapM (yK a.tmps)).run P w= .ok nJ w∧cF ρ vs nJ∧k vs= .ok v H'
 |[],rs,z,k,h=>by
  cases z
  exact⟨[],[],by simp,by simp only[cF],h⟩
 |r::l,rs,z,k,h=>by
  have A:∃I G,rs=I::G∧nu P [r]=some [I]∧nu P l=some G:=by
   cases r with
   |tmp t=>
    unfold nu at z
    split at z
    ·rename_i J K
     split at z
     ·rename_i O;cases z;exact⟨_,J,rfl,by simp[nu,O],K⟩
     cases z
    cases z
   |cell s t=>
    unfold nu at z
    split at z
    ·rename_i J n K hn
     split at z
     ·rename_i O;cases z;exact⟨_,J,rfl,by simp[nu,hn,O],K⟩
     cases z
    cases z
  obtain⟨I,G,rfl,h1,h2⟩:=A
  have h:yG E H I (.err e) (fun v=>uH E H G (.err e) fun vs=>k (v::vs))= .ok v H':=h
  obtain⟨x,cx,hx,U,h⟩:=Ur Z hR hK (rs:=[]) h1 h
  obtain⟨vs,nJ,hm,Y,h⟩:=LG Z hR hK h2 h
  exact⟨x::vs,cx::nJ,by simp[hx,hm],⟨cx,nJ,rfl,U,Y⟩,h⟩
theorem Ry(G:AR P ρ nt E a)(I:R ρ C w)(J:kj ρ C H){fn:Func}{rs:List lW}(K:nu P fn.results.toList=some rs){v:an}(h:results E H rs= .ok v H'):
  H'=H∧∃cv,(Go.results fn a.tmps).run P w= .ok cv w∧VR ρ v cv:=by
 obtain⟨vs,nJ,A,z,h⟩:=LG (P:=P) (e:=70) G I J K h
 rw[R3]
 cases vs with
 |nil=>
  cases h
  simp only[cF] at z
  subst z
  refine⟨rfl,.tuple #[],by simp[HP,A],?_⟩
  simp only[VR]
  exact⟨#[],rfl,by simp only[cF]⟩
 |cons x r=>
  cases r with
  |nil=>
   cases h
   simp only[cF] at z
   obtain⟨c,t,rfl,O,rfl⟩:=z
   exact⟨rfl,c,by simp[HP,A],O⟩
  |cons y s=>
   cases h
   refine⟨rfl,.tuple nJ.toArray,?_,?_⟩
   ·have U:=z.length
    have:¬nJ.length=1:=by simp at U;omega
    simp[HP,A,this]
   simp only[VR]
   exact⟨nJ.toArray,rfl,by simpa using z⟩
theorem Mr{g:Func}{fn:bH}(h:wF P g=some fn):∃c,g.body=some c∧nu P g.results.toList=some fn.res∧(∃n,n≤g.ntmps∧n≤1296∧fn.ps=(List.range n).map pk)∧fn.nt=g.ntmps∧fn.body=lI P g.ntmps c∧(g.name== "runtime.NumGoroutine")=false:=by
 unfold wF at h
 split at h
 ·rename_i c rs A G
  split at h
  ·rename_i z
   cases h
   exact⟨c,A,G,⟨_,z.1,z.2.1,rfl⟩,rfl,rfl,z.2.2⟩
  cases h
 cases h
theorem Ms{fn:bH}{args:List an}{v:an}(h:sQ call lf fn args H= .ok v H'):
  fn.ps.length=args.length∧∃E' x E1 H1,(∀t y,E'.get t=some y→T4.emp.get t=some y∨∃i:Nat,fn.ps[i]?=some t∧args[i]?=some y)∧fn.body.ev call lf E' H= .ok x E1 H1∧(x= .normal∨x= .ret)∧results E1 H1 fn.res= .ok v H':=by
 obtain⟨A,E',h2,G⟩:=KW fn.ps args .emp _ _ _ h
 refine⟨A,E',?_⟩
 cases z:fn.body.ev call lf E' H with
 |err n=>rw[z] at h2;cases h2
 |ok x E1 H1=>
  rw[z] at h2
  refine⟨x,E1,H1,G,rfl,?_⟩
  cases x with
  |normal=>exact⟨.inl rfl,h2⟩
  |exit id=>cases h2
  |ret=>exact⟨.inr rfl,h2⟩
theorem PS.rd{H:az}{f g off n:Nat}{e:aE}{k:List an→aE}(h:∀x,PS H (k x))(h':PS H e):PS H (rd H f g off n e k):=
 PS.iY (fun _ _ _ _ _ _ _=>PS.aG (PS.aG (PS.aG (PS.aG (PS.ob (fun _=>PS.aG (h _) (h _)) h') h') h') h') h') h'
theorem J1{rs:List lW}{v:an}(h:results E H rs= .ok v H'):H'=H:=by
 have key:∀(rs:List lW)(k:List an→aE),(∀vs,PS H (k vs))→PS H (uH E H rs (.err 70) k):=by
  intro rs
  induction rs with
  |nil=>intro k hk;exact hk []
  |cons r rs A=>
   intro k hk
   show PS H (yG E H r (.err 70) fun v=>uH E H rs (.err 70) fun vs=>k (v::vs))
   have z:∀v,PS H (uH E H rs (.err 70) fun vs=>k (v::vs)):=fun v=>A _ fun vs=>hk _
   cases r with
   |tmp t=>exact PS.ob (fun x=>z x) PS.err
   |cell s n g=>exact PS.ob (fun x=>PS.iE (fun _ _ _=>PS.rd (fun _=>PS.iL (fun x=>z x) PS.err) PS.err) PS.err) PS.err
 exact key rs _ (fun vs=>by
  cases vs with
  |nil=>exact PS.ok
  |cons x r=>cases r<;>exact PS.ok) v H' h
def Hd(P:Program)(ft:Tr bH):Prop:=∀f fn,ft.get f=some fn→∃g,P.funcs[f]?=some g∧wF P g=some fn
theorem Kt(hc:kA P call)(A:P.follows .mixedOrders=true){f:Nat}{g:Func}{fn:bH}(hf:P.funcs[f]?=some g)(hg:wF P g=some fn){args:List an}{v:an}{b9:Array Value}
  (h:sQ call lf fn args H= .ok v H') (hm:H.bc≤H.next) (O:WF H) (hR:R ρ C w) (hK:kj ρ C H) (hF:iv ρ H.next H'.next) (hG:uJ P ρ) (hv:cF ρ args b9.toList):
  Calls P f b9 w fun e w'=>∃cv,e= .returned cv∧dW ρ C w H v H' cv w':=by
 obtain⟨c,hb,hr,⟨np,U,G,Y⟩,hnt,z,_⟩:=Mr hg
 obtain⟨hlen,E',x,E1,H1,hE,h1,hx,h2⟩:=Ms h
 have he:=J1 h2
 subst he
 rw[Y] at hE hlen
 have hA:AR P ρ g.ntmps E' {tmps:=b9++Array.replicate (g.ntmps-b9.size) undef,defers:=[]}:=AR.init hv (by rw[←hlen];simpa using U) hG G hE
 rw[z] at h1
 refine calls_of_wp hf hb (vw hc A c _ H x E1 H' ρ C _ w _ h1 hA hR hK hF hm O fun a1 Z ρ1 I vl J BC=>?_)
 obtain⟨_,cv,K,tf⟩:=Ry I J BC hr h2
 have fin:a1.defers=[]∧∃v,(Go.results g a1.tmps).run P Z= .ok v Z∧∃cv,Ending.returned v= .returned cv∧dW ρ C w H ‹an› H' cv Z:=⟨I.defers,cv,K,cv,rfl,ρ1,tf,vl,J⟩
 rcases hx with rfl|rfl
 ·exact fin
 exact fin
def He:Nat→Option (Array Value→Sem Value)
 |0=>some Extern.BytealgIndexByte.indexByte
 |1=>some Extern.AbiNoEscape.same
 |_=>none
def No(P:Program)(f:Nat):Prop:=∀w:World,yj P w→
 ((callFunc f #[]).run P w= .ok (.enter f #[]) w∧Calls P f #[] w fun e w'=>e= .returned (.bool true)∧Kept w w')∨∃w',(callFunc f #[]).run P w= .ok (.value (.bool true)) w'∧Kept w w'
def HE(P:Program)(f:Nat)(args:Array Value)(w:World)(Q:Value→Prop):Prop:=
 (callFunc f args).run P w= .ok (.enter f args) w∧Calls P f args w fun e w'=>∃v,e= .returned v∧Q v∧Kept w w'
def VN(P:Program)(f:Nat):Prop:=∀(s:ByteArray)(u:Nat)(w:World),s.size≤1000→Lib.parseUintB 64 s.data.toList= .ok u→
 HE P f #[.string s,.int .i64 10,.int .i64 64] w fun v=>v= .tuple #[.int .u64 u,.nilIface]
def WS(P:Program)(f g t:Nat):Prop:=∀(s:ByteArray)(w:World),s.size≤1000→
 (∀v,Lib.parseIntB 64 s.data.toList= .ok v→HE P f #[.string s,.int .i64 10,.int .i64 64] w fun x=>x= .tuple #[.int .i64 v,.nilIface])∧
 (Lib.parseIntB 64 s.data.toList= .range→(∃z A,w.cell? ⟨g,0,none⟩=some (.iface z A))→HE P f #[.string s,.int .i64 10,.int .i64 64] w fun x=>∃a:Addr,x= .tuple #[.int .i64 (Lib.intSat 64 s.data.toList),.iface t (.pointer (some a))])
def WT(P:Program)(f c:Nat):Prop:=∃fn,P.funcs[f]?=some fn∧(fn.name== "runtime.NumGoroutine")=false∧fn.body.isNone=true∧Extern.findNext fn=none∧∃e,He c=some e∧Extern.find fn=some e
def OQ(P:Program)(xt:Tr Nat):Prop:=∀f c,xt.get f=some c→WT P f c∨(c=2∧No P f)∨(c=3∧VN P f)∨∃g t,c=4+t∧g<P.globals.size∧yH P g=true∧WS P f g t
theorem Hf(c:UInt8):∀(l:List UInt8)(i:Nat),A9 c.toNat l.length (pack l) i=if Lib.indexByte l c= -1 then-1 else Lib.indexByte l c+i
 |[],i=>rfl
 |b::l,i=>by
  show aG (Nat.beq (Nat.mod (pack (b::l)) 256) c.toNat) (Int.ofNat i) (dk (Nat.div (pack (b::l)) 256) fun s=>dk (Nat.succ i) fun i=>A9 c.toNat l.length s i)=_
  have e1:Nat.mod (pack (b::l)) 256=b.toNat:=by
   have:=Cf (b::l) 1
   simp only[AW] at this
   rw[show Nat.mod (pack (b::l)) 256=pack (b::l) % 256 from rfl,this]
   simp[pack]
  have e2:Nat.div (pack (b::l)) 256=pack l:=by
   have:=Ce (b::l) 1
   simp only[AW] at this
   exact this
  rw[e1,e2,ij,ij,Hf c l (i+1)]
  have I:=Lib.indexByte_ge l c
  by_cases z:b=c
  ·subst z
   rw[show Nat.beq b.toNat b.toNat=true from iR _,f6]
   simp[Lib.indexByte]
  have:Nat.beq b.toNat c.toNat=false:=by
   cases h:Nat.beq b.toNat c.toNat
   ·rfl
   exact absurd (UInt8.toNat_inj.1 (eb h)) z
  rw[this]
  show(if Lib.indexByte l c= -1 then(-1:Int) else Lib.indexByte l c+((i+1:Nat):Int))=_
  have A:(b==c)=false:=by simpa using z
  rw[show Lib.indexByte (b::l) c=if(b==c)=true then 0 else if(Lib.indexByte l c== -1)=true then-1 else Lib.indexByte l c+1 from rfl,A]
  by_cases G:Lib.indexByte l c= -1
  ·simp[G]
  have h2:(Lib.indexByte l c== -1)=false:=by simpa using G
  have J:¬(Lib.indexByte l c+1= -1):=by omega
  rw[aj G,h2]
  simp only[p9,if_false,aj J]
  omega
theorem VP(hR:R ρ C w){c:Nat}{e:Array Value→Sem Value}(he:He c=some e){args:List an}{b9:Array Value}(z:cF ρ args b9.toList){v:an}(h:qM c args H= .ok v H'):
  H'=H∧∃cv,(e b9).run P w= .ok cv w∧VR ρ v cv:=by
 unfold He at he
 split at he
 ·cases he
  have h:Gr args H= .ok v H':=h
  cases args with
  |nil=>cases h
  |cons x r=>cases r with
   |nil=>cases h
   |cons y r=>
    have h:jJ x (.err 90) (fun l s=>gO y (.err 90) fun k c=>jj c (.err 90) fun c=>aG (Nat.beq (dw k) 4) (aG (Nat.ble c 255) (aG (Nat.beq (jn (y::r)) 1) (ll (A9 c l s 0) fun i=>aE.ok (.int .i64 i) H) (.err 90)) (.err 90)) (.err 90))= .ok v H':=h
    replace h:=xg h;obtain⟨l,s,rfl,h⟩:=h
    replace h:=sc h;obtain⟨k,c0,rfl,h⟩:=h
    replace h:=vG h;obtain⟨c,rfl,h⟩:=h
    replace h:=fO h;obtain⟨G,h⟩:=h
    replace h:=fO h;obtain⟨K,h⟩:=h
    replace h:=fO h;obtain⟨A,h⟩:=h
    rw[r9] at h
    cases h
    rw[oO] at A
    have A:=eb A
    have U:r=[]:=by simpa using A
    subst U
    have K:=bO K
    have G:=eb G
    simp only[cF,VR] at z
    obtain⟨_,_,e1,⟨b,rfl,rfl,rfl⟩,_,_,rfl,rfl,rfl⟩:=z
    have hk:k= .u8:=by cases k<;>simp[dw] at G<;>rfl
    subst hk
    have I:b9=#[.string b,.int .u8 (Int.ofNat c)]:=by have:=congrArg List.toArray e1;simpa using this
    subst I
    refine⟨rfl,_,Lib.run_indexByteString (P:=P) b (Int.ofNat c) w,?_⟩
    simp only[VR]
    have J:(c.toUInt8).toNat=c:=by show(UInt8.ofNat c).toNat=c;rw[UInt8.toNat_ofNat'];omega
    have:=Hf c.toUInt8 b.data.toList 0
    rw[J] at this
    have Y:b.data.toList.length=b.size:=nx
    rw[Y] at this
    rw[this]
    congr 1
    have e:(Int.ofNat c).toNat.toUInt8=c.toUInt8:=rfl
    rw[e]
    split
    ·rename_i Z;exact Z
    simp
 ·cases he
  have h:H9 args H= .ok v H':=h
  cases args with
  |nil=>cases h
  |cons x r=>cases r with
   |cons y r=>cases h
   |nil=>
    cases h
    simp only[cF] at z
    obtain⟨O,_,e1,hx,rfl⟩:=z
    have I:b9=#[O]:=by have:=congrArg List.toArray e1;simpa using this
    subst I
    exact⟨rfl,O,rfl,hx⟩
 cases he
theorem zt:∀l:List UInt8,pj l.length (pack l)=l
 |[]=>rfl
 |b::l=>by
  have e1:pack (b::l) % 256=b.toNat:=by
   have:=Cf (b::l) 1
   simp only[AW] at this
   rw[this]
   simp[pack]
  have e2:pack (b::l)/256=pack l:=by
   have:=Ce (b::l) 1
   simp only[AW] at this
   exact this
  show UInt8.ofNat (pack (b::l) % 256)::pj l.length (pack (b::l)/256)=_
  rw[e1,e2,zt l]
  simp
theorem SF{c:Nat}{args:List an}:PS H (Pj c args H):=by
 intro v H1 h
 cases c with
 |zero=>
  have h:uI args H= .ok v H1:=h
  unfold uI at h
  split at h
  ·split at h
   ·split at h
    ·cases h;rfl
    cases h
   cases h
  cases h
 |succ c=>
  have h:sS c args H= .ok v H1:=h
  unfold sS at h
  split at h
  ·split at h
   ·split at h
    ·cases h;rfl
    ·cases h;rfl
    cases h
   cases h
  cases h
theorem Tk{c:Nat}{args:List an}:PS H (qM c args H):=by
 cases c with
 |zero=>
  show PS H (Gr args H)
  cases args with
  |nil=>exact PS.err
  |cons x r=>cases r with
   |nil=>exact PS.err
   |cons y r=>exact PS.jJ (fun _ _=>PS.gO (fun _ _=>PS.jj (fun _=>PS.aG (PS.aG (PS.aG (PS.ll fun _=>PS.ok) PS.err) PS.err) PS.err) PS.err) PS.err) PS.err
 |succ c=>cases c with
  |zero=>
   show PS H (H9 args H)
   cases args with
   |nil=>exact PS.err
   |cons x r=>cases r with
    |nil=>exact PS.ok
    |cons y r=>exact PS.err
  |succ c=>cases c with
   |zero=>
    show PS H (Ia args H)
    cases args with
    |nil=>exact PS.ok
    |cons x r=>exact PS.err
   |succ c=>exact SF
theorem VS(z:R ρ C w)(I:uJ P ρ):yj P w:=fun g J=>by
 obtain⟨x,A,K,ho,hp⟩:=I g J
 refine⟨by have:=z.kb g 1 x A;omega,fun h=>?_⟩
 obtain⟨O,U,G⟩:=(z.mM _ _ _ A (hp h).1 (hp h).2).2
 rw[K,ho] at G
 exact⟨O,U,G⟩
theorem Tl{args:List an}{v:an}(h:uI args H= .ok v H'):∃l s u,args=[.str l s,.int .i64 10,.int .i64 64]∧l≤1000∧Lib.parseUintB 64 (pj l s)= .ok u∧v= .tuple [.int .u64 u,.gS]∧H'=H:=by
 unfold uI at h
 split at h
 ·split at h
  ·rename_i z
   obtain⟨rfl,rfl,rfl,rfl,A⟩:=z
   split at h
   ·rename_i G;cases h;exact⟨_,_,_,rfl,A,G,rfl,rfl⟩
   cases h
  cases h
 cases h
theorem Us{t:Nat}{args:List an}{v:an}(h:sS t args H= .ok v H'):∃l s,args=[.str l s,.int .i64 10,.int .i64 64]∧l≤1000∧H'=H∧
  ((∃u,Lib.parseIntB 64 (pj l s)= .ok u∧v= .tuple [.int .i64 u,.gS])∨(Lib.parseIntB 64 (pj l s)= .range∧v= .tuple [.int .i64 (Lib.intSat 64 (pj l s)),.iface t (.map 0)])):=by
 unfold sS at h
 split at h
 ·split at h
  ·rename_i z
   obtain⟨rfl,rfl,rfl,rfl,G⟩:=z
   split at h
   ·rename_i A;cases h;exact⟨_,_,rfl,G,rfl,.inl ⟨_,A,rfl⟩⟩
   ·rename_i A
    cases h;exact⟨_,_,rfl,G,rfl,.inr ⟨A,rfl⟩⟩
   cases h
  cases h
 cases h
theorem Pz{l s:Nat}{a b:Int}{b9:Array Value}(z:cF ρ [.str l s,.int .i64 a,.int .i64 b] b9.toList):∃x:ByteArray,b9=#[.string x,.int .i64 a,.int .i64 b]∧l=x.size∧s=pack x.data.toList:=by
 simp only[cF,VR] at z
 obtain⟨v,t,e,⟨x,rfl,A,h2⟩,G,t2,rfl,rfl,I,t3,rfl,rfl,rfl⟩:=z
 exact⟨x,by have:=congrArg List.toArray e;simpa using this,A,h2⟩
theorem Np(J:P.follows .mixedOrders=true){ft:Tr bH}{xt:Tr Nat}(ht:Hd P ft)(K:OQ P xt):∀n,kA P (Bq ft xt lf n)
 |0=>⟨fun _ _ _ _=>TM.err,fun _ _ _ _ _ _ _ _ _ h=>(by cases h)⟩
 |n+1=>by
  have ih:=Np J ht K n
  have key:∀f args H v H',Bq ft xt lf (n+1) f args H= .ok v H'→(∃fn,ft.get f=some fn∧sQ (Bq ft xt lf n) lf fn args H= .ok v H')∨∃c,xt.get f=some c∧qM c args H= .ok v H':=by
   intro f args H v H' h
   have h:ob (ft.get f) (ob (xt.get f) (.err (Nat.add 10000 f)) fun c=>qM c args H) (fun fn=>sQ (Bq ft xt lf n) lf fn args H)= .ok v H':=h
   cases hf:ft.get f with
   |some fn=>rw[hf] at h;exact .inl ⟨fn,rfl,h⟩
   |none=>
    rw[hf] at h
    exact .inr (ju (o:=xt.get f) h)
  refine⟨fun f args H hm v H' h=>?_,fun f args H v H' ρ C w b9 h hm nK I hK hF hG hv=>?_⟩
  ·rcases key _ _ _ _ _ h with⟨fn,_,h⟩|⟨c,_,h⟩
   ·obtain⟨_,_,x,E1,H1,_,A,_,h2⟩:=Ms h
    rw[J1 h2]
    exact q9 ih fn.body _ _ _ _ _ hm A
   rw[Tk v H' h];exact gr.refl _
  rcases key _ _ _ _ _ h with⟨fn,hfn,h⟩|⟨c,hc,h⟩
  ·obtain⟨g,hg,Qi⟩:=ht f fn hfn
   obtain⟨cd,U,_,_,_,_,z⟩:=Mr Qi
   have A:g.name≠ "runtime.NumGoroutine":=by simpa using z
   exact .inl ⟨by simp[callFunc,hg,A,U],Kt ih J hg Qi h hm nK I hK hF hG hv⟩
  rcases K f c hc with⟨fn,hf,z,U,hn,e,he,Y⟩|⟨rfl,Z⟩|⟨rfl,WU⟩|⟨g0,t0,rfl,hg1,Qj,hint⟩
  rotate_left
  rotate_left
  ·obtain⟨l,s,u,rfl,hl,hu,rfl,rfl⟩:=Tl (show uI args H= .ok v H' from h)
   obtain⟨b,rfl,U,rfl⟩:=Pz hv
   subst U
   rw[show b.size=b.data.toList.length from(nx (xs:=b.data)).symm,zt] at hu
   obtain⟨A,h2⟩:=WU b u w hl hu
   exact .inl ⟨A,Calls.mono h2 fun e w'⟨x,he,K,hk⟩=>⟨x,he,ρ,by subst K;simp only[VR,cF];exact⟨_,rfl,_,_,rfl,rfl,_,_,rfl,rfl,rfl⟩,hk.ext _ _ _,by rw[pJ];exact I.kept hk⟩⟩
  ·have h5:sS t0 args H= .ok v H':=by
    rw[show 4+t0=t0+4 by omega] at h
    exact h
   obtain⟨l,s,rfl,hl,rfl,G⟩:=Us h5
   obtain⟨b,rfl,U,rfl⟩:=Pz hv
   subst U
   rw[show b.size=b.data.toList.length from(nx (xs:=b.data)).symm,zt] at G
   rcases G with⟨u,hu,rfl⟩|⟨hu,rfl⟩
   ·obtain⟨A,h2⟩:=(hint b w hl).1 u hu
    exact .inl ⟨A,Calls.mono h2 fun e w'⟨x,he,K,hk⟩=>⟨x,he,ρ,by subst K;simp only[VR,cF];exact⟨_,rfl,_,_,rfl,rfl,_,_,rfl,rfl,rfl⟩,hk.ext _ _ _,by rw[pJ];exact I.kept hk⟩⟩
   obtain⟨hm,hh,yI,Fj,O⟩:=hG g0 hg1
   obtain⟨te,pe,je⟩:=(I.mM _ _ _ hh (O Qj).1 (O Qj).2).2
   rw[yI,Fj] at je
   obtain⟨A,h2⟩:=(hint b w hl).2 hu ⟨_,_,je⟩
   exact .inl ⟨A,Calls.mono h2 fun e w'⟨x,he,⟨a,K⟩,hk⟩=>⟨x,he,ρ,by subst K;simp only[VR,cF];exact⟨_,rfl,_,_,rfl,rfl,_,_,rfl,⟨_,rfl,a,rfl⟩,rfl⟩,hk.ext _ _ _,by rw[pJ];exact I.kept hk⟩⟩
  rotate_left
  ·have h:Ia args H= .ok v H':=h
   cases args with
   |cons x r=>cases h
   |nil=>
    cases h
    simp only[cF] at hv
    have FU:b9=#[]:=by have:=congrArg List.toArray hv;simpa using this
    subst FU
    have rR:yj P w:=VS I hG
    have post:∀{w':World},Kept w w'→dW ρ C w H (.bool true) H (.bool true) w':=fun hk=>⟨ρ,by simp only[VR],hk.ext _ _ _,by rw[pJ];exact I.kept hk⟩
    rcases Z w rR with⟨A,h2⟩|⟨w',A,h2⟩
    ·exact .inl ⟨A,Calls.mono h2 fun e w'⟨he,hk⟩=>⟨_,he,post hk⟩⟩
    exact .inr ⟨_,w',A,post h2⟩
  obtain⟨rfl,cv,wE,tf⟩:=VP (P:=P) I he hv h
  refine .inr ⟨cv,w,?_,ρ,tf,Ext.refl _ _ _ _,?_⟩
  ·rw[run_callFunc_standIn hf z U hn Y,wE]
   rfl
  rw[pJ];exact I
end
def base(P:Program):Ho:=fun f g=>if f<P.globals.size∧g=1 then some ⟨f,0,0,true,yH P f⟩ else none
def H0(n:Nat):az:=⟨n,0,[],.emp⟩
section
variable{P:Program}{ρ:Ho}{C:Nat→Option dQ}{w w':World}{H H':az}{call:eI}{f n:Nat}{args:List an}{b9:Array Value}{v:an}
theorem qX{f g:Nat}{h:Hm}(e:base P f g=some h):f<P.globals.size∧g=1∧h=⟨f,0,0,true,yH P f⟩:=by
 unfold base at e
 split at e
 ·rename_i k;cases e;exact⟨k.1,k.2,rfl⟩
 cases e
theorem Aj(z:yj P w):R (base P) (fun _=>none) w:=by
 refine⟨fun f o h=>(by cases h),fun f g h f' g' h' e A _ _=>?_,fun f g h e=>?_,fun f g h g' h' e A _=>?_,fun f g h e _ hp=>?_⟩
 rotate_right
 ·obtain⟨k,_,rfl⟩:=qX e
  exact⟨fun g' h' A=>by obtain⟨_,_,rfl⟩:=qX A;rfl,(z f k).2 hp⟩
 ·obtain⟨_,_,rfl⟩:=qX e
  obtain⟨_,_,rfl⟩:=qX A
  exact⟨rfl,rfl⟩
 ·obtain⟨k,_,rfl⟩:=qX e
  exact(z f k).1
 obtain⟨_,_,rfl⟩:=qX e
 obtain⟨_,_,rfl⟩:=qX A
 rfl
theorem Ku:uJ P (base P):=fun g z=>⟨⟨g,0,0,true,yH P g⟩,by simp[base,z],rfl,rfl,fun h=>⟨rfl,h⟩⟩
theorem SG(z:P.globals.size≤n)(m:Nat):iv (base P) n m:=fun f g A _=>by
 unfold base
 rw[aj (by omega)]
theorem WV:WF (H0 n):=fun x _=>GT.sh x
theorem Tm:kj (base P) (fun _=>none) (H0 n):=fun f o _ h=>by
 rw[show(H0 n).t.get f=none from GT.sh f] at h;cases h
theorem dW.kept{cv:Value}(h:dW (base P) C w H v H' cv w'):Kept w w':=by
 obtain⟨ρ',_,he,_⟩:=h
 exact⟨he.os,he.tape,he.output,he.size,fun b z=>he.frame b z fun f g x A G _=>by obtain⟨_,_,rfl⟩:=qX A;cases G⟩
theorem trueOk_of(J:kA P call){A:Nat}(K:P.globals.size≤n)(O:call A [] (H0 n)= .ok (.bool true) H'):No P A:=fun w G=>by
 have post:∀{cv:Value}{w':World},dW (base P) (fun _=>none) w (H0 n) (.bool true) H' cv w'→cv= .bool true∧Kept w w':=by
  intro cv w' hp
  have hk:=hp.kept
  obtain⟨_,z,_,_⟩:=hp
  simp only[VR] at z
  exact⟨z,hk⟩
 rcases J.sound A [] (H0 n) (.bool true) H' (base P) (fun _=>none) w #[] O (da _) WV (Aj G) Tm (SG K _) Ku (by simp only[cF]) with⟨I,h2⟩|⟨cv,w',I,h2⟩
 ·exact .inl ⟨I,Calls.mono h2 fun e w'⟨cv,he,hp⟩=>by
   obtain⟨rfl,hk⟩:=post hp
   exact⟨he,hk⟩⟩
 obtain⟨rfl,hk⟩:=post h2
 exact .inr ⟨w',I,hk⟩
noncomputable def EN{α:Type}(l:List (Nat×α)):Tr α:=List.rec (motive:=fun _=>Tr α) .leaf (fun p _ z=>z.set p.1 p.2) l
theorem KX{α:Type}{f:Nat}{x:α}:∀{l:List (Nat×α)},(EN l).get f=some x→(f,x)∈l
 |[],h=>by rw[show EN ([]:List (Nat×α))= .leaf from rfl,Tr.tO] at h;cases h
 |p::r,h=>by
  have h:((EN r).set p.1 p.2).get f=some x:=h
  rw[Tr.eY] at h
  split at h
  ·rename_i e;cases h;subst e;exact kG ..
  exact nZ _ (KX h)
def WW(P:Program)(p:Nat×bH):Prop:=∃g,P.funcs[p.1]?=some g∧wF P g=some p.2
theorem tabOf_ok{l:List (Nat×bH)}(h:∀p,p∈l→WW P p):Hd P (EN l):=fun f fn z=>h (f,fn) (KX z)
end
noncomputable def okT(r:aE):Bool:=aE.rec (motive:=fun _=>Bool) (fun v _=>an.rec (motive_1:=fun _=>Bool) (motive_2:=fun _=>Unit) (fun b=>b) (fun _ _=>false) (fun _ _=>false) (fun _ _ _=>false) false (fun _ _ _ _ _=>false) false (fun _ _=>false) (fun _ _=>false) (fun _ _ _ _ _=>false) false (fun _ _ _=>false) false (fun _=>false) false false () (fun _ _ _ _=>()) v) (fun _=>false) r
theorem okT_ok{r:aE}(h:okT r=true):∃H,r= .ok (.bool true) H:=by
 cases r with
 |err n=>cases h
 |ok v H=>
  cases v with
  |bool b=>cases b with
   |true=>exact⟨H,rfl⟩
   |false=>cases h
  |_=>cases h
section
variable{call:eI}{lf:Nat}{E:Env}{H:az}
theorem Rz(k:Key)(ks:List Key)(v:an)(l:List an)(E:Env)(c:Env→aE):params (k::ks) (v::l) E c=params ks l (E.set k v) c:=
 T4.ki E k v fun E=>params ks l E c
theorem SH(ops:List bt):(IC.region false ops).ev call lf E H=yY (mV call ops E H):=rfl
theorem R4(ops:List bt):(IC.region true ops).ev call lf E H=yY (me call ops E H []):=rfl
theorem HF(a b:IC):(IC.seq a b).ev call lf E H=tP (a.ev call lf E H) (b.ev call lf):=rfl
theorem Nq(E:Env)(H:az):yY (.ok E H)= .ok .normal E H:=rfl
theorem Kg(E:Env)(H:az)(k:Env→az→Out):tP (.ok .normal E H) k=k E H:=rfl
theorem Kh(d:Option Key)(q:Option (List Nat))(op:bG)(r:List bt):mV call (⟨d,none,q,op⟩::r) E H=fin d E (mV call r) (op.ev call E H):=rfl
theorem Cv(d:Key)(v:an)(k:Env→az→eG):fin (some d) E k (.ok v H)=k (E.set d v) H:=T4.zF E d v fun E=>k E H
theorem Tn(v:an)(k:Env→az→eG):fin none E k (.ok v H)=k E H:=rfl
theorem di{α β:Type}(x:α)(e:β)(k:α→β):ob (some x) e k=k x:=rfl
theorem VT(x:aF):(bG.oc x).ev call E H=ob (x.ev E) (.err 1) fun v=>.ok v H:=dj x E _ _
theorem VU(op:BinOp)(x y:aF):(bG.bin op x y).ev call E H=ob (x.ev E) (.err 6) fun a=>ob (y.ev E) (.err 6) fun b=>ob (A2 op a b) (.err 6) fun v=>.ok v H:=by
 show bB x E (.err 6) (fun a=>bB y E (.err 6) fun b=>yE op a b fun v=>.ok v H)=_
 simp only[dj,CI,tI]
theorem Ut(k:IntKind)(x:aF):(bG.conv k x).ev call E H=ob (x.ev E) (.err 36) fun v=>gO v (.err 36) fun _ n=>.ok (.int k (mf k n)) H:=by
 show bB x E (.err 36) (fun v=>gO v (.err 36) fun _ n=>ll (mf k n) fun n=>.ok (.int k n) H)=_
 simp only[dj,r9]
theorem To(k:IntKind)(n:Int)(e:aE)(f:IntKind→Int→aE):gO (.int k n) e f=f k n:=rfl
noncomputable def WX(fn:bH)(o:Out):aE:=
 Out.rec (motive:=fun _=>aE) (fun x E H=>Ex.rec (motive:=fun _=>aE) (results E H fn.res) (fun _=>.err 72) (results E H fn.res) x) .err o
theorem Uu(fn:bH)(args:List an)(H:az):sQ call lf fn args H=params fn.ps args .emp fun E=>WX fn (fn.body.ev call lf E H):=rfl
end
theorem Kept.keptBut{w w':World}(h:Kept w w')(may:MemPlace→Prop):w.keptBut w' may:=by
 refine⟨h.os,h.output,fun i hi=>?_⟩
 rw[h.pv i hi]
 cases w.heap[i]?with
 |none=>rfl
 |some o=>cases o with
  |cells c t z=>exact⟨rfl,rfl,rfl,fun _ _=>rfl⟩
  |map es clock=>exact .inr ⟨rfl,rfl⟩
  |_=>rfl
theorem low_of_shaped{P:Program}{w:World}(h:w.ShapedOpen P)(I:((List.range P.globals.size).all fun g=>((((begin P (fun _ _=>0) default).world.heap[g]?).bind Obj.row?).isSome))=true):∀g,g<P.globals.size→g<w.heap.size:=by
 intro g z
 have A:=List.all_eq_true.1 I g (List.mem_range.2 z)
 cases G:((begin P (fun _ _=>0) default).world.heap[g]?).bind Obj.row? with
 |none=>rw[G] at A;cases A
 |some x=>
  obtain⟨zero,t⟩:=x
  obtain⟨cs,J,_⟩:=h.1 g zero t z G
  exact(Array.getElem?_eq_some_iff.1 J).1
mutual
def WY{H:Type}:DataW H→List Value
 |.lit (.int k n)=>[.int k n]
 |.lit (.bool b)=>[.bool b]
 |.lit (.string bs)=>[.string ⟨bs.toArray⟩]
 |.agg parts=>Nr parts
 |_=>[]
def Nr{H:Type}:List (DataW H)→List Value
 |[]=>[]
 |d::r=>WY d++Nr r
end
def putG(h:Array Obj)(g:Nat)(cs:List Value):Array Obj:=h.modify g fun
 |.cells _ t frozen=>.cells cs.toArray t frozen
 |o=>o
structure bd where
 ft:Tr bH
 xt:Tr Nat
noncomputable def bd.call(T:bd)(lf n:Nat):eI:=Bq T.ft T.xt lf n
def iV(T:bd)(op:bG)(E:Env)(H:az)(Q:an→az→Prop):Prop:=∃N v H',(∀lf n,N≤lf→N≤n→op.ev (T.call lf n) E H= .ok v H')∧Q v H'
def oh(T:bd)(ops:List bt)(E:Env)(H:az)(Q:Env→az→Prop):Prop:=∃N E' H',(∀lf n,N≤lf→N≤n→mV (T.call lf n) ops E H= .ok E' H')∧Q E' H'
def BD(T:bd)(ops:List bt)(E:Env)(H:az)(bR:List FP)(Q:Env→az→Prop):Prop:=∃N E' H',(∀lf n,N≤lf→N≤n→me (T.call lf n) ops E H bR= .ok E' H')∧Q E' H'
def lL(T:bd)(c:IC)(E:Env)(H:az)(Q:Ex→Env→az→Prop):Prop:=∃N x E' H',(∀lf n,N≤lf→N≤n→c.ev (T.call lf n) lf E H= .ok x E' H')∧Q x E' H'
def ts(T:bd)(f:Nat)(args:List an)(H:az)(Q:an→az→Prop):Prop:=∃N v H',(∀lf n,N≤lf→N≤n→T.call lf n f args H= .ok v H')∧Q v H'
section
variable{T:bd}{E:Env}{H:az}
theorem ts.mono{f:Nat}{args:List an}{Q z:an→az→Prop}(h:ts T f args H Q)(k:∀v H',Q v H'→z v H'):ts T f args H z:=
 let⟨N,v,H',a,b⟩:=h;⟨N,v,H',a,k _ _ b⟩
theorem lL.mono{c:IC}{Q z:Ex→Env→az→Prop}(h:lL T c E H Q)(k:∀x E' H',Q x E' H'→z x E' H'):lL T c E H z:=
 let⟨N,x,E',H',a,b⟩:=h;⟨N,x,E',H',a,k _ _ _ b⟩
theorem gf{op:bG}{v:an}{H':az}{Q:an→az→Prop}(h:∀call,op.ev call E H= .ok v H')(z:Q v H'):iV T op E H Q:=⟨0,v,H',fun _ _ _ _=>h _,z⟩
theorem Uv{x:aF}{v:an}{Q:an→az→Prop}(h:x.ev E=some v)(z:Q v H):iV T (.oc x) E H Q:=
 gf (fun _=>by rw[VT,h,di]) z
theorem xu{op:BinOp}{x y:aF}{a b v:an}{Q:an→az→Prop}(z:x.ev E=some a)(A:y.ev E=some b)(h:A2 op a b=some v)(G:Q v H):iV T (.bin op x y) E H Q:=
 gf (fun _=>by rw[VU,z,A,di,di,h,di]) G
theorem Ns{op:UnOp}{x:aF}{a v:an}{Q:an→az→Prop}(z:x.ev E=some a)(h:FJ op a=some v)(A:Q v H):iV T (.un op x) E H Q:=
 gf (fun _=>by show bB x E (.err 8) (fun a=>ob (FJ op a) (.err 8) fun v=>mP v fun v=>.ok v H)=_;rw[dj,z,di,h,di,tI]) A
theorem Uw{c:yW}{neg:Bool}{x y:aF}{a b:an}{r:Bool}{Q:an→az→Prop}(z:x.ev E=some a)(A:y.ev E=some b)(h:nF c a b=some r)(G:Q (.bool (Bool.xor neg r)) H):iV T (.eqv c neg x y) E H Q:=
 gf (fun _=>by show bB x E (.err 7) (fun a=>bB y E (.err 7) fun b=>ob (nF c a b) (.err 7) fun r=>ni (Bool.xor neg r) fun r=>.ok (.bool r) H)=_;rw[dj,z,di,dj,A,di,h,di,Gw]) G
theorem LH{c x y:aF}{t:Bool}{v:an}{Q:an→az→Prop}(A:c.ev E=some (.bool t))(z:(if t then x.ev E else y.ev E)=some v)(G:Q v H):iV T (.pick c x y) E H Q:=
 gf (fun _=>by
  show bB c E (.err 2) (fun v=>sw v (.err 2) fun t=>aG t (mm x E H) (mm y E H))=_
  rw[dj,A,di]
  cases t
  ·show mm y E H=_
   have z:y.ev E=some v:=z
   unfold mm;rw[dj,z,di]
  show mm x E H=_
  have z:x.ev E=some v:=z
  unfold mm;rw[dj,z,di]) G
theorem Tp{k z:IntKind}{x:aF}{n:Int}{Q:an→az→Prop}(A:x.ev E=some (.int z n))(G:Q (.int k (mf k n)) H):iV T (.conv k x) E H Q:=
 gf (fun _=>by rw[Ut,A,di,To]) G
theorem GY{x:aF}{k f g o:Nat}{Q:an→az→Prop}(z:x.ev E=some (.ptr f g o))(A:Q (.ptr f g (o+k)) H):iV T (.n5 x k) E H Q:=
 gf (fun _=>by show bB x E (.err 9) (fun v=>iE v (.err 9) fun f g off=>dk (Nat.add off k) fun off=>.ok (.ptr f g off) H)=_;rw[dj,z,di];show dk (o+k) (fun off=>aE.ok (.ptr f g off) H)=_;rw[ij]) A
theorem Hg{x:aF}{f g o l es:Nat}{Q:an→az→Prop}(z:x.ev E=some (.slice f g o l es))(A:Q (.int .i64 l) H):iV T (.len x) E H Q:=
 gf (fun _=>by show bB x E (.err 25) (fun v=>gL v (.err 25) (.ok (.int .i64 (.ofNat 0)) H) fun _ _ _ l _=>.ok (.int .i64 (.ofNat l)) H)=_;rw[dj,z,di];rfl) A
theorem Ki{x:aF}{Q:an→az→Prop}(z:x.ev E=some .cg)(A:Q (.int .i64 0) H):iV T (.len x) E H Q:=
 gf (fun _=>by show bB x E (.err 25) (fun v=>gL v (.err 25) (.ok (.int .i64 (.ofNat 0)) H) fun _ _ _ l _=>.ok (.int .i64 (.ofNat l)) H)=_;rw[dj,z,di];rfl) A
theorem LJ{x:aF}{l s:Nat}{Q:an→az→Prop}(z:x.ev E=some (.str l s))(A:Q (.int .i64 l) H):iV T (.ph x) E H Q:=
 gf (fun _=>by show bB x E (.err 25) (fun v=>jJ v (.err 25) fun l _=>.ok (.int .i64 (.ofNat l)) H)=_;rw[dj,z,di];rfl) A
theorem KY{x i:aF}{es f g o l ff:Nat}{k:IntKind}{j:Nat}{Q:an→az→Prop}(A:x.ev E=some (.slice f g o l ff))(hi:i.ev E=some (.int k (j:Int)))(G:j<l)(I:Q (.ptr f g (o+j*es)) H):iV T (.dV es x i) E H Q:=
 gf (fun _=>by
  show bB x E (.err 12) (fun v=>gL v (.err 12) (.err 12) fun f g off J _=>bB i E (.err 12) fun z=>idx z J (.err 12) fun j=>dk (Nat.add off (Nat.mul j es)) fun off=>.ok (.ptr f g off) H)=_
  rw[dj,A,di]
  show bB i E (.err 12) (fun z=>idx z l (.err 12) fun j=>dk (Nat.add o (Nat.mul j es)) fun off=>.ok (.ptr f g off) H)=_
  rw[dj,hi,di]
  show aG (Nat.ble (Nat.succ j) l) (dk (o+j*es) fun off=>aE.ok (.ptr f g off) H) (aE.err 12)=_
  rw[jN G,f6,ij]) I
theorem Tq{x:aF}{vs:List an}{i:Nat}{v:an}{Q:an→az→Prop}(z:x.ev E=some (.tuple vs))(hi:vs[i]?=some v)(A:Q v H):iV T (.rL x i) E H Q:=
 gf (fun _=>by show bB x E (.err 18) (fun v=>si v (.err 18) fun vs=>ob (vs[i]?) (.err 18) fun v=>.ok v H)=_;rw[dj,z,di];show ob (vs[i]?) (aE.err 18) (fun v=>aE.ok v H)=_;rw[hi,di]) A
theorem SI{z cs:List an}{ps:List (Nat×Nat×aF)}{Q:an→az→Prop}(h:pR E ps z=some cs)(A:Q (.agg cs) H):iV T (.build z ps) E H Q:=
 gf (fun _=>by show ob (pR E ps z) (aE.err 23) (fun cs=>aE.ok (.agg cs) H)=_;rw[h,di]) A
theorem GZ{f:Nat}{l:List aF}{vs:List an}{Q:an→az→Prop}(z:jS E l=some vs)(h:ts T f vs H Q):iV T (.call f l) E H Q:=by
 obtain⟨N,v,H',a,b⟩:=h
 exact⟨N,v,H',fun lf n A h2=>by show ob (jS E l) (aE.err 42) (fun vs=>T.call lf n f vs H)=_;rw[z,di];exact a lf n A h2,b⟩
theorem Ux:jS E []=some []:=rfl
theorem LK{x:aF}{r:List aF}{v:an}{vs:List an}(h:x.ev E=some v)(k:jS E r=some vs):jS E (x::r)=some (v::vs):=by
 show ob (x.ev E) none (fun v=>ob (jS E r) none fun vs=>some (v::vs))=_
 rw[h,di,k,di]
theorem Uy{Q:Env→az→Prop}(h:Q E H):oh T [] E H Q:=⟨0,E,H,fun _ _ _ _=>rfl,h⟩
theorem LL{d:Key}{q:Option (List Nat)}{op:bG}{r:List bt}{Q:Env→az→Prop}(h:iV T op E H fun v H'=>oh T r (E.set d v) H' Q):oh T (⟨some d,none,q,op⟩::r) E H Q:=by
 obtain⟨N,v,H',a,z,A,G,b,c⟩:=h
 refine⟨max N z,A,G,fun lf n I h2=>?_,c⟩
 rw[Kh,a lf n (by omega) (by omega),Cv]
 exact b lf n (by omega) (by omega)
theorem SJ{q:Option (List Nat)}{op:bG}{r:List bt}{Q:Env→az→Prop}(h:iV T op E H fun _ H'=>oh T r E H' Q):oh T (⟨none,none,q,op⟩::r) E H Q:=by
 obtain⟨N,v,H',a,z,A,G,b,c⟩:=h
 refine⟨max N z,A,G,fun lf n I h2=>?_,c⟩
 rw[Kh,a lf n (by omega) (by omega),Tn]
 exact b lf n (by omega) (by omega)
theorem Kv{call:eI}{d:Option Key}{g:Key}{want:Bool}{q:Option (List Nat)}{op:bG}{t:Bool}{k:Env→az→eG}(z:E.get g=some (.bool t)):
  bt.step call ⟨d,some (g,want),q,op⟩ E H k=if t=want then fin d E k (op.ev call E H) else k (kq E d .undef) H:=by
 show ob (E.get g) (.err 51) (fun v=>wA v (kC d E H k) fun b=>aG (Bool.xor b want) (kC d E H k) (bt.run call ⟨d,some (g,want),q,op⟩ E H k))=_
 rw[z,di]
 show aG (Bool.xor t want) (kC d E H k) (bt.run call ⟨d,some (g,want),q,op⟩ E H k)=_
 rw[vI]
 cases t<;>cases want<;>rfl
theorem LM{d:Key}{g:Key}{want t:Bool}{q:Option (List Nat)}{op:bG}{r:List bt}{Q:Env→az→Prop}(z:E.get g=some (.bool t))(A:t≠want)(h:oh T r (E.set d .undef) H Q):oh T (⟨some d,some (g,want),q,op⟩::r) E H Q:=by
 obtain⟨G,I,J,b,c⟩:=h
 exact⟨G,I,J,fun lf n K h2=>by show bt.step (T.call lf n) ⟨some d,some (g,want),q,op⟩ E H (mV (T.call lf n) r)=_;rw[Kv z,aj A];exact b lf n K h2,c⟩
theorem Ts{d:Key}{g:Key}{want:Bool}{q:Option (List Nat)}{op:bG}{r:List bt}{Q:Env→az→Prop}(z:E.get g=some (.bool want))(h:iV T op E H fun v H'=>oh T r (E.set d v) H' Q):oh T (⟨some d,some (g,want),q,op⟩::r) E H Q:=by
 obtain⟨N,v,H',a,A,G,I,b,c⟩:=h
 refine⟨max N A,G,I,fun lf n J h2=>?_,c⟩
 show bt.step (T.call lf n) ⟨some d,some (g,want),q,op⟩ E H (mV (T.call lf n) r)=_
 rw[Kv z,aw rfl,a lf n (by omega) (by omega),Cv]
 exact b lf n (by omega) (by omega)
theorem Uz{a b:IC}{Q:Ex→Env→az→Prop}(h:lL T a E H fun x E' H'=>(x= .normal→lL T b E' H' Q)∧(x≠.normal→Q x E' H')):lL T (.seq a b) E H Q:=by
 obtain⟨N,x,E1,H1,G,h2,I⟩:=h
 cases x with
 |normal=>
  obtain⟨J,x2,K,O,U,Y⟩:=h2 rfl
  refine⟨max N J,x2,K,O,fun lf n z A=>?_,Y⟩
  rw[HF,G lf n (by omega) (by omega),Kg]
  exact U lf n (by omega) (by omega)
 |exit id=>exact⟨N,_,E1,H1,fun lf n z A=>by rw[HF,G lf n z A];rfl,I (by simp)⟩
 |ret=>exact⟨N,_,E1,H1,fun lf n z A=>by rw[HF,G lf n z A];rfl,I (by simp)⟩
theorem R5{ops:List bt}{Q:Ex→Env→az→Prop}(h:oh T ops E H fun E' H'=>Q .normal E' H'):lL T (.region false ops) E H Q:=by
 obtain⟨N,E1,H1,z,h2⟩:=h
 exact⟨N,_,E1,H1,fun lf n A G=>by rw[SH,z lf n A G,Nq],h2⟩
theorem RA{ops:List bt}{Q:Ex→Env→az→Prop}(h:BD T ops E H [] fun E' H'=>Q .normal E' H'):lL T (.region true ops) E H Q:=by
 obtain⟨N,E1,H1,z,h2⟩:=h
 exact⟨N,_,E1,H1,fun lf n A G=>by rw[R4,z lf n A G,Nq],h2⟩
theorem Tt{Q:Ex→Env→az→Prop}(h:Q .normal E H):lL T .skip E H Q:=⟨0,_,E,H,fun _ _ _ _=>rfl,h⟩
theorem Tu{id:Nat}{Q:Ex→Env→az→Prop}(h:Q (.exit id) E H):lL T (.exit id) E H Q:=⟨0,_,E,H,fun _ _ _ _=>rfl,h⟩
theorem UA{Q:Ex→Env→az→Prop}(h:Q .ret E H):lL T .ret E H Q:=⟨0,_,E,H,fun _ _ _ _=>rfl,h⟩
theorem G0{c:aF}{a b:IC}{t:Bool}{Q:Ex→Env→az→Prop}(J:c.ev E=some (.bool t))(K:t=true→lL T a E H Q)(h2:t=false→lL T b E H Q):lL T (.cond c a b) E H Q:=by
 have key:∀lf n,(IC.cond c a b).ev (T.call lf n) lf E H=if t=true then a.ev (T.call lf n) lf E H else b.ev (T.call lf n) lf E H:=fun lf n=>by
  show ob (c.ev E) (.err 61) (fun v=>Mf v (.err 61) fun t=>aG t (a.ev (T.call lf n) lf E H) (b.ev (T.call lf n) lf E H))=_
  rw[J,di]
  cases t<;>rfl
 cases t with
 |true=>obtain⟨N,x,E1,H1,z,A⟩:=K rfl;exact⟨N,x,E1,H1,fun lf n G I=>by rw[key,aw rfl];exact z lf n G I,A⟩
 |false=>obtain⟨N,x,E1,H1,z,A⟩:=h2 rfl;exact⟨N,x,E1,H1,fun lf n G I=>by rw[key,aj (by simp)];exact z lf n G I,A⟩
def F2(id:Nat):Ex→Ex
 |.exit j=>if j=id then .normal else .exit j
 |x=>x
theorem SK{id:Nat}{c:IC}{Q:Ex→Env→az→Prop}(h:lL T c E H fun x E' H'=>Q (F2 id x) E' H'):lL T (.block id c) E H Q:=by
 obtain⟨N,x,E1,H1,z,h2⟩:=h
 refine⟨N,F2 id x,E1,H1,fun lf n A G=>?_,h2⟩
 show Ag id c (c.ev (T.call lf n) lf) E H=_
 unfold Ag
 rw[z lf n A G]
 cases x with
 |normal=>rfl
 |ret=>rfl
 |exit j=>
  show aG (Nat.beq j id) (Out.ok .normal E1 H1) (.ok (.exit j) E1 H1)=Out.ok (if j=id then .normal else .exit j) E1 H1
  by_cases h:j=id
  ·rw[aw h,h,show Nat.beq id id=true from iR id];rfl
  rw[aj h]
  cases I:Nat.beq j id
  ·rfl
  exact absurd (eb I) h
theorem Tv{c:IC}{Q:Ex→Env→az→Prop}(I:Nat→Env→az→Prop)(Y:∀k E H,I k E H→lL T c E H fun x E' H'=>(x= .normal→∃j,j<k∧I j E' H')∧(x≠.normal→Q x E' H')):
  ∀k E H,I k E H→lL T (.loop c) E H Q:=by
 have main:∀k E H,I k E H→∃N x E' H',(∀lf n m,N≤lf→N≤n→N≤m→uG (c.ev (T.call lf n) lf) m E H= .ok x E' H')∧Q x E' H':=by
  intro k
  induction k using Nat.strongRecOn with
  |_ k Z=>
   intro E H h
   obtain⟨N,x,E1,H1,A,h2,O⟩:=Y k E H h
   have key:∀lf n m,N≤lf→N≤n→uG (c.ev (T.call lf n) lf) (m+1) E H=tP (.ok x E1 H1) (uG (c.ev (T.call lf n) lf) m):=fun lf n m G J=>by
    show tP (c.ev (T.call lf n) lf E H) (uG (c.ev (T.call lf n) lf) m)=_
    rw[A lf n G J]
   cases x with
   |normal=>
    obtain⟨j,hj,K⟩:=h2 rfl
    obtain⟨N2,x2,E2,H2,k1,k2⟩:=Z j hj E1 H1 K
    refine⟨max N N2+1,x2,E2,H2,fun lf n m G J U=>?_,k2⟩
    obtain⟨m,rfl⟩:∃z,m=z+1:=⟨m-1,by omega⟩
    rw[key lf n m (by omega) (by omega),Kg]
    exact k1 lf n m (by omega) (by omega) (by omega)
   |exit id=>
    refine⟨N+1,_,E1,H1,fun lf n m G J U=>?_,O (by simp)⟩
    obtain⟨m,rfl⟩:∃z,m=z+1:=⟨m-1,by omega⟩
    rw[key lf n m (by omega) (by omega)];rfl
   |ret=>
    refine⟨N+1,_,E1,H1,fun lf n m G J U=>?_,O (by simp)⟩
    obtain⟨m,rfl⟩:∃z,m=z+1:=⟨m-1,by omega⟩
    rw[key lf n m (by omega) (by omega)];rfl
 intro k E H h
 obtain⟨N,x,E',H',a,b⟩:=main k E H h
 exact⟨N,x,E',H',fun lf n A h2=>a lf n lf A h2 A,b⟩
noncomputable def Fu(ks:List Key):List an→Env→Env:=
 List.rec (motive:=fun _=>List an→Env→Env) (fun _ E=>E) (fun k _ z l E=>List.rec (motive:=fun _=>Env) E (fun v r _=>z r (E.set k v)) l) ks
theorem KZ:∀(ks:List Key)(l:List an)(E:Env)(c:Env→aE),ks.length=l.length→params ks l E c=c (Fu ks l E)
 |[],[],E,c,_=>rfl
 |k::ks,v::l,E,c,h=>by rw[Rz,KZ ks l _ c (by simpa using h)];rfl
 |[],_::_,_,_,h=>by simp at h
 |_::_,[],_,_,h=>by simp at h
theorem VW{f:Nat}{fn:bH}{args:List an}{Q:an→az→Prop}(A:T.ft.get f=some fn)(G:fn.ps.length=args.length)
  (h:lL T fn.body (Fu fn.ps args .emp) H fun x E' H'=>(∀id,x≠.exit id)∧∃v,results E' H' fn.res= .ok v H'∧Q v H'):ts T f args H Q:=by
 obtain⟨N,x,E1,H1,I,h2,v,z,J⟩:=h
 refine⟨N+1,v,H1,fun lf n K O=>?_,J⟩
 obtain⟨n,rfl⟩:∃n',n=n'+1:=⟨n-1,by omega⟩
 show ob (T.ft.get f) _ (fun fn=>sQ (T.call lf n) lf fn args H)=_
 rw[A,di,Uu,KZ _ _ _ _ G,I lf n (by omega) (by omega)]
 cases x with
 |normal=>exact z
 |ret=>exact z
 |exit id=>exact absurd rfl (h2 id)
end
inductive DC where
 |i (k:IntKind) (n:Int)
 |b (b:Bool)
 |s (l v:Nat)
 |nil
 |sl (rows:List (List DC))
def mB(H:az)(f g Q:Nat)(l:List an):Prop:=
 ∃elem aP m lo fl cs,H.t.get f=some (.row elem l.length aP m lo fl cs)∧lo≤g∧g≤m∧Q<g∧cs.get Q=some l
mutual
def cN(H:az)(X:Nat→Prop):DC→an→Prop
 |.i k n,a=>a= .int k n
 |.b b,a=>a= .bool b
 |.s l v,a=>a= .str l v
 |.nil,a=>a= .cg
 |.sl rows,a=>∃f g off es,a= .slice f g off rows.length es∧(rows=[]∨¬X f∧f<H.next∧∃q,off=q*es∧fv H X f g es q rows)
def fv(H:az)(X:Nat→Prop)(f g es:Nat):Nat→List (List DC)→Prop
 |_,[]=>True
 |q,row::r=>(∃l,mB H f g q l∧l.length=es∧cY H X row l)∧fv H X f g es (q+1) r
def cY(H:az)(X:Nat→Prop):List DC→List an→Prop
 |[],l=>l=[]
 |d::r,l=>∃a s,l=a::s∧cN H X d a∧cY H X r s
end
structure sV(H H':az):Prop where
 next:H.next≤H'.next
 bc:H'.bc=H.bc
 ws:H'.ws=H.ws
 same:∀f,f<H.next→H'.t.get f=H.t.get f
theorem sV.refl(H:az):sV H H:=⟨bV _,rfl,rfl,fun _ _=>rfl⟩
theorem sV.trans{A B C:az}(h:sV A B)(k:sV B C):sV A C:=
 ⟨j7 h.next k.next,k.bc.trans h.bc,k.ws.trans h.ws,fun f z=>(k.same f (mI z h.next)).trans (h.same f z)⟩
structure Step(X:Nat→Prop)(H H':az):Prop where
 next:H.next≤H'.next
 same:∀f,f<H.next→¬X f→H'.t.get f=H.t.get f
theorem Step.refl(X:Nat→Prop)(H:az):Step X H H:=⟨bV _,fun _ _ _=>rfl⟩
theorem sV.step{H H':az}(h:sV H H')(X:Nat→Prop):Step X H H':=⟨h.next,fun f z _=>h.same f z⟩
theorem Step.trans{X:Nat→Prop}{A B C:az}(h:Step X A B)(k:Step X B C):Step X A C:=
 ⟨j7 h.next k.next,fun f z G=>(k.same f (mI z h.next) G).trans (h.same f z G)⟩
section
variable{H H':az}{X:Nat→Prop}
theorem mB.iU{f g Q:Nat}{l:List an}(h:mB H f g Q l)(z:H'.t.get f=H.t.get f):mB H' f g Q l:=by
 obtain⟨a,b,c,d,e,k,A,h2⟩:=h
 exact⟨a,b,c,d,e,k,z.trans A,h2⟩
mutual
theorem cN.step(z:Step X H H'):∀{d:DC}{a:an},cN H X d a→cN H' X d a
 |.i _ _,_,h=>h
 |.b _,_,h=>h
 |.s _ _,_,h=>h
 |.nil,_,h=>h
 |.sl rows,a,h=>by
  simp only[cN] at h⊢
  obtain⟨f,g,off,es,I,h2⟩:=h
  refine⟨f,g,off,es,I,h2.imp id fun⟨A,G,q,ho,J⟩=>⟨A,mI G z.next,q,ho,fv.step z A G J⟩⟩
theorem fv.step(z:Step X H H'){f g es:Nat}(A:¬X f)(G:f<H.next):∀{q:Nat}{rows:List (List DC)},fv H X f g es q rows→fv H' X f g es q rows
 |_,[],_=>trivial
 |q,row::r,h=>by
  simp only[fv] at h⊢
  obtain⟨⟨l,I,h2,J⟩,K⟩:=h
  exact⟨⟨l,I.iU (z.same f G A),h2,cY.step z J⟩,fv.step z A G K⟩
theorem cY.step(z:Step X H H'):∀{row:List DC}{l:List an},cY H X row l→cY H' X row l
 |[],_,h=>h
 |d::r,l,h=>by
  simp only[cY] at h⊢
  obtain⟨a,s,A,h2,G⟩:=h
  exact⟨a,s,A,cN.step z h2,cY.step z G⟩
end
theorem fv.get{f g es:Nat}:∀{q:Nat}{rows:List (List DC)},fv H X f g es q rows→∀{i:Nat}{row:List DC},rows[i]?=some row→∃l,mB H f g (q+i) l∧l.length=es∧cY H X row l
 |q,[],_,i,row,hi=>by simp at hi
 |q,x::r,h,i,row,hi=>by
  simp only[fv] at h
  cases i with
  |zero=>simp at hi;subst hi;exact h.1
  |succ i=>
   obtain⟨l,z,h2⟩:=fv.get h.2 (i:=i) (row:=row) (by simpa using hi)
   exact⟨l,by rw[show q+(i+1)=q+1+i by omega];exact z,h2⟩
theorem cY.get:∀{row:List DC}{l:List an},cY H X row l→∀{i:Nat}{d:DC},row[i]?=some d→∃a,l[i]?=some a∧cN H X d a
 |[],_,_,i,d,hi=>by simp at hi
 |x::r,l,h,i,d,hi=>by
  simp only[cY] at h
  obtain⟨a,s,rfl,z,h2⟩:=h
  cases i with
  |zero=>simp at hi;subst hi;exact⟨a,rfl,z⟩
  |succ i=>simpa using cY.get h2 (i:=i) (d:=d) (by simpa using hi)
theorem cY.length:∀{row:List DC}{l:List an},cY H X row l→l.length=row.length
 |[],_,h=>by simp only[cY] at h;subst h;rfl
 |d::r,l,h=>by
  simp only[cY] at h
  obtain⟨a,s,rfl,_,h2⟩:=h
  simp[cY.length h2]
theorem cN.slice{rows:List (List DC)}{a:an}(h:cN H X (.sl rows) a):∃f g off es,a= .slice f g off rows.length es∧
  ∀{i:Nat}{row:List DC},rows[i]?=some row→¬X f∧f<H.next∧∃Q l,mB H f g Q l∧l.length=es∧off+i*es=Q*es∧cY H X row l:=by
 simp only[cN] at h
 obtain⟨f,g,off,es,z,h2⟩:=h
 refine⟨f,g,off,es,z,fun{i row}hi=>?_⟩
 rcases h2 with rfl|⟨A,G,q,ho,I⟩
 ·simp at hi
 obtain⟨l,J,K,O⟩:=I.get hi
 exact⟨A,G,q+i,l,J,K,by rw[ho,ny],O⟩
theorem EO{β:Type}{f g Q k n:Nat}{l:List an}{e:β}{c:List an→β}(h:mB H f g Q l)(z:k+n≤l.length)(h0:0<n):rd H f g (Q*l.length+k) n e c=c ((l.drop k).take n):=by
 obtain⟨elem,aP,m,lo,fl,cs,A,h2,G,I,J⟩:=h
 have e1:(Q*l.length+k)/l.length=Q:=by
  rw[mY,Nat.mul_add_div (by omega),NJ (by omega)];rfl
 have e2:(Q*l.length+k) % l.length=k:=by
  rw[mY,Nat.mul_add_mod,AU (by omega)]
 unfold rd
 rw[A]
 simp only[iY,rh]
 rw[show Nat.mod (Q*l.length+k) l.length=k from e2,show Nat.div (Q*l.length+k) l.length=Q from e1,aw (jN h2),aw (jN G),show Nat.ble (Nat.add k n) l.length=true from jN z,aw rfl,aw (jN I),J,di]
 split
 ·rename_i K
  have:=eb K
  have hk:k=0:=by omega
  subst hk
  rw[List.drop_zero,pf (by omega)]
 rfl
theorem Hh{call:eI}{E:Env}{n:Nat}{agg:Bool}{a:aF}{f g o:Nat}(z:a.ev E=some (.ptr f g o)):(bG.load n agg a).ev call E H=rd H f g o n (.err 4) fun l=>iL agg l (.err 4) fun v=>.ok v H:=by
 show bB a E (.err 4) (fun v=>iE v (.err 4) fun f g off=>rd H f g off n (.err 4) fun l=>iL agg l (.err 4) fun v=>.ok v H)=_
 rw[dj,z,di];rfl
variable{T:bd}{E:Env}
theorem GJ{a:aF}{f g o Q k:Nat}{l:List an}{x:an}{R:an→az→Prop}(A:a.ev E=some (.ptr f g o))(G:mB H f g Q l)(ho:o=Q*l.length+k)(z:l[k]?=some x)(I:R x H):iV T (.load 1 false a) E H R:=
 gf (fun _=>by
  have hk:k<l.length:=(List.getElem?_eq_some_iff.1 z).1
  rw[Hh A,ho,EO G (by omega) (by omega)]
  have:(l.drop k).take 1=[x]:=by
   rw[AX hk,wa,Iz]
   congr 1
   exact(List.getElem?_eq_some_iff.1 z).2
  rw[this];rfl) I
theorem K0{n:Nat}{a:aF}{f g o Q k:Nat}{l:List an}{R:an→az→Prop}(z:a.ev E=some (.ptr f g o))(A:mB H f g Q l)(ho:o=Q*l.length+k)(G:k+n≤l.length)(h0:0<n)(I:R (.agg ((l.drop k).take n)) H):iV T (.load n true a) E H R:=
 gf (fun _=>by rw[Hh z,ho,EO A G h0];rfl) I
def yk(H:az)(f:Nat)(cells:List an):Prop:=∃elem aP lo cs,H.t.get f=some (.row elem cells.length aP 1 lo 0 cs)∧lo≤1∧cs.get 0=some cells
theorem yk.cells{f:Nat}{l:List an}(h:yk H f l):mB H f 1 0 l:=by
 obtain⟨a,b,lo,cs,z,h2,A⟩:=h
 exact⟨a,b,1,lo,0,cs,z,h2,bV _,gh _,A⟩
theorem yk.iU{f:Nat}{l:List an}(h:yk H f l)(z:H'.t.get f=H.t.get f):yk H' f l:=by
 obtain⟨a,b,lo,cs,A,h2⟩:=h
 exact⟨a,b,lo,cs,z.trans A,h2⟩
noncomputable def Fv(H:az)(elem aP:Nat)(cells:List an):az:=⟨H.next+1,H.bc,H.ws,H.t.set H.next (.row elem cells.length aP 1 1 0 (.one cells))⟩
theorem UB(elem aP:Nat)(cells:List an):yk (Fv H elem aP cells) H.next cells:=
 ⟨elem,aP,1,.one cells,by show(H.t.set H.next _).get H.next=_;rw[GT.eY,aw rfl],bV _,rfl⟩
theorem K1(elem aP:Nat)(cells:List an):sV H (Fv H elem aP cells):=
 ⟨sM _,rfl,rfl,fun f z=>by show(H.t.set H.next _).get f=_;rw[GT.eY,aj (by omega)]⟩
theorem alloc_eq(o:dQ)(k:Nat→az→aE):H.alloc o k=k H.next ⟨H.next+1,H.bc,H.ws,H.t.set H.next o⟩:=by
 cases H with
 |mk next bc ws t=>
  show dk next (fun f=>t.gA f o fun t=>k f ⟨Nat.succ f,bc,ws,t⟩)=_
  rw[ij,GT.ki]
theorem Tw{elem es aP:Nat}{cells:List an}{R:an→az→Prop}(z:cells.length=es)(A:R (.ptr H.next 1 0) (Fv H elem aP cells)):iV T (.cm elem es aP cells) E H R:=
 gf (fun _=>by subst z;show H.alloc (.row elem cells.length aP 1 1 0 (.one cells)) (fun f H=>.ok (.ptr f 1 0) H)=_;rw[alloc_eq];rfl) A
theorem UC{elem es aP:Nat}{x:aF}{v:an}{cells:List an}{R:an→az→Prop}(z:x.ev E=some v)(A:jW v=some cells)(G:cells.length=es)(I:R (.ptr H.next 1 0) (Fv H elem aP cells)):iV T (.box elem es aP x) E H R:=
 gf (fun _=>by
  subst G
  show bB x E (.err 3) (fun v=>ob (jW v) (.err 3) fun l=>aG (Nat.beq (jn l) cells.length) (wi elem cells.length aP l E H) (.err 3))=_
  rw[dj,z,di,A,di,oO,show Nat.beq cells.length cells.length=true from iR _,f6]
  show H.alloc (.row elem cells.length aP 1 1 0 (.one cells)) (fun f H=>.ok (.ptr f 1 0) H)=_
  rw[alloc_eq];rfl) I
variable{k:Nat}{Q:Env→az→Prop}
theorem Kw{call:eI}{o:bt}{bR:List FP}{K:Env→az→List FP→eG}(z:o.q=none):o.qb call E H bR K=fin o.dst E (fun E H=>K E H bR) (o.op.ev call E H):=by
 unfold bt.qb;rw[z];rfl
theorem zn{call:eI}{d:Option Key}{q:Option (List Nat)}{op:bG}{bR:List FP}{K:Env→az→List FP→eG}:bt.ns call ⟨d,none,q,op⟩ E H bR K=bt.qb call ⟨d,none,q,op⟩ E H bR K:=rfl
theorem B6{call:eI}{d:Option Key}{g:Key}{want:Bool}{q:Option (List Nat)}{op:bG}{t:Bool}{bR:List FP}{K:Env→az→List FP→eG}(z:E.get g=some (.bool t)):
  bt.ns call ⟨d,some (g,want),q,op⟩ E H bR K=if t=want then bt.qb call ⟨d,some (g,want),q,op⟩ E H bR K else K (kq E d .undef) H (rB q bR):=by
 show ob (E.get g) (.err 51) (fun v=>wA v (kC d E H fun E H=>K E H (rB q bR)) fun b=>aG (Bool.xor b want) (kC d E H fun E H=>K E H (rB q bR)) (bt.qb call ⟨d,some (g,want),q,op⟩ E H bR K))=_
 rw[z,di]
 show aG (Bool.xor t want) (kC d E H fun E H=>K E H (rB q bR)) (bt.qb call ⟨d,some (g,want),q,op⟩ E H bR K)=_
 rw[vI]
 cases t<;>cases want<;>rfl
end
end Go.Ev
