/- Part 13 of rules for walks through the code of a program, and of such walks; what each part proves is said by its theorems. -/
import Derived.Test.YtddbkonalipepaaGreatDoorS11
import Derived.Test.YtddbkonalipepaaGreatDoorS12
set_option linter.unusedVariables false
set_option linter.unusedSimpArgs false
namespace Go.Ev.Pp
open Go
structure cL where
 kind:Int
 pos:Int
 text:List UInt8
def cL.enc(t:cL):List DC:=[.i .i64 t.kind,.i .i64 t.pos,cJ t.text]
structure gX where
 kind:Int
 n:Int
 s:List UInt8
def gX.enc(v:gX):List DC:=[.i .i64 v.kind,.i .i64 v.n,cJ v.s]
structure aL where
 kind:Int
 a:Int
 b:Int
 table:List UInt8
 name:List UInt8
 c:gX
def aL.enc(e:aL):List DC:=[.i .i64 e.kind,.i .i64 e.a,.i .i64 e.b,cJ e.table,cJ e.name,.i .i64 e.c.kind,.i .i64 e.c.n,cJ e.c.s]
def ep(l:List DC):VV:=.agg (l.map .d)
structure PS where
 ay:List cL
 aI:Nat
 pos:Int
 err:Int
 depth:Nat
 ex:List aL
structure PS.ok(p:PS):Prop where
 lt:p.aI<p.ay.length
 dY:p.ay.length≤2000
 last:∀(i:Nat)t,p.ay[i]?=some t→(t.kind=6↔i+1=p.ay.length)
 kD:p.depth≤60
 u9:p.ex.length≤p.aI+(if p.err=0 then 0 else 1)
def PS.row(p:PS):List VV:=[.d (.sl (p.ay.map cL.enc)),dI (p.aI:Nat),dI p.pos,dI p.err,dI (p.depth:Nat),.ac 1050 (p.ex.map aL.enc).length 8]
def PS.bi(p:PS):br:=[(1000,.one 97 80 p.row),(1050,.acc 116 88 8 (p.ex.map aL.enc))]
def NX:cL:=⟨0,0,[]⟩
def PS.tok(p:PS):cL:=(p.ay[p.aI]?).getD NX
theorem PS.ok.get{p:PS}(h:p.ok):p.ay[p.aI]?=some p.tok:=by
 have z:p.ay[p.aI]?=some (p.ay[p.aI]'h.lt):=eY h.lt
 unfold PS.tok
 rw[z];rfl
def PS.fail(p:PS)(e:Int):PS:=if p.err=0 then{p with err:=e,pos:=p.tok.pos} else p
def PS.next(p:PS)(kind:Int)(text:List UInt8):Bool:=decide (p.err=0)&&(decide (p.tok.kind=kind)&&decide (p.tok.text=text))
def PS.step(p:PS):PS:={p with aI:=p.aI+1}
def PS.accept(p:PS)(kind:Int)(text:List UInt8):Bool×PS:=if p.next kind text then(true,p.step) else(false,p)
def PS.keyword(p:PS)(s:List UInt8):Bool×PS:=p.accept 1 s
def PS.sign(p:PS)(s:List UInt8):Bool×PS:=p.accept 5 s
def PS.fM(p:PS)(s:List UInt8):PS:=if(p.keyword s).1 then(p.keyword s).2 else(p.keyword s).2.fail 5
theorem PS.Co{p:PS}{s:List UInt8}(h:(p.keyword s).1=true):p.fM s=(p.keyword s).2:=aq h
theorem PS.zy{p:PS}{s:List UInt8}(h:(p.keyword s).1=false):p.fM s=(p.keyword s).2.fail 5:=aj (by rw[h];decide)
def PS.aU(p:PS)(l:List (List UInt8)):PS:=l.foldl PS.fM p
def PS.bw(p:PS)(s:List UInt8):PS:=if(p.sign s).1 then(p.sign s).2 else(p.sign s).2.fail 5
def PS.enter(p:PS):Bool×PS:=if p.depth=60 then(false,p.fail 19) else(true,{p with depth:=p.depth+1})
def PS.push(p:PS)(e:aL):Int×PS:=((p.ex.length:Nat),{p with ex:=p.ex++[e]})
theorem PS.w8{p:PS}(h:p.ok){e:Int}(he:e≠0):(p.fail e).ok:=by
 unfold PS.fail
 split
 ·rename_i h0
  refine⟨h.lt,h.dY,h.last,h.kD,?_⟩
  have:=h.u9
  rw[aq h0] at this
  show p.ex.length≤p.aI+(if e=0 then 0 else 1)
  rw[aj he]
  omega
 exact h
theorem PS.kR{p:PS}(h:p.ok){kind:Int}{text:List UInt8}(hk:kind≠6)(z:p.next kind text=true):p.aI+1<p.ay.length:=by
 unfold PS.next at z
 simp only[fv,eP] at z
 have A:=h.last _ _ h.get
 rw[z.2.1] at A
 have h2:=h.lt
 have G:¬(p.aI+1=p.ay.length):=fun e=>hk (A.2 e)
 omega
theorem PS.tq{p:PS}(h:p.ok)(z:p.aI+1<p.ay.length):p.step.ok:=
 ⟨z,h.dY,h.last,h.kD,by have:=h.u9;show p.ex.length≤p.aI+1+(if p.err=0 then 0 else 1);omega⟩
theorem PS.Ks{p:PS}(h:p.ok){kind:Int}{text:List UInt8}(hk:kind≠6):(p.accept kind text).2.ok:=by
 unfold PS.accept
 split
 ·rename_i z;exact PS.tq h (PS.kR h hk z)
 exact h
theorem PS.wH{p:PS}(h:p.ok)(s:List UInt8):(p.keyword s).2.ok:=PS.Ks h (by decide)
theorem PS.zz{p:PS}(h:p.ok)(s:List UInt8):(p.sign s).2.ok:=PS.Ks h (by decide)
theorem PS.SP{p:PS}(h:p.ok)(s:List UInt8):(p.fM s).ok:=by
 unfold PS.fM
 split
 ·exact PS.wH h s
 exact PS.w8 (PS.wH h s) (by decide)
theorem PS.Fx{l:List (List UInt8)}:∀{p:PS},p.ok→(p.aU l).ok:=by
 induction l with
 |nil=>intro p h;exact h
 |cons s r z=>intro p h;exact z (PS.SP h s)
theorem PS.QG{p:PS}(h:p.ok)(s:List UInt8):(p.bw s).ok:=by
 unfold PS.bw
 split
 ·exact PS.zz h s
 exact PS.w8 (PS.zz h s) (by decide)
theorem PS.SQ{p:PS}(h:p.ok):p.enter.2.ok:=by
 unfold PS.enter
 split
 ·exact PS.w8 h (by decide)
 rename_i z
 exact⟨h.lt,h.dY,h.last,by show p.depth+1≤60;have:=h.kD;omega,h.u9⟩
section
variable{T:bf}{VE:b0}{B L:br}
theorem di{p:PS}(z:aY B 1000=some (.one 97 80 p.row))(h2:aY B 1050=some (.acc 116 88 8 (p.ex.map aL.enc)))(A:bu L B):bu (p.bi++L) B:=⟨z,h2,A⟩
theorem cH{p:PS}(z:aY B 1000=some (.one 97 80 p.row))(h2:aY B 1050=some (.acc 116 88 8 (p.ex.map aL.enc))):bu p.bi B:=⟨z,h2,trivial⟩
theorem ew{ops:List bo}{Q:b0→br→Prop}(B':br)(z:bu B' B)(h:VO T ops VE B' Q):VO T ops VE B Q:=fun H0 X0 E H β A=>
 (h H0 X0 E H β (A.Ao fun _ _ hk=>z.get hk)).mono fun _ _ hp=>hp.more fun _ s G I=>⟨s,z.get G,I⟩
theorem ey{c:IC}{R:Ex→b0→br→Prop}(B':br)(z:bu B' B)(h:VC T c VE B' R):VC T c VE B R:=fun H0 X0 E H β A=>
 (h H0 X0 E H β (A.Ao fun _ _ hk=>z.get hk)).mono fun _ _ _ hp=>hp.more fun _ s G I=>⟨s,z.get G,I⟩
end
open Go
def dV(s:List UInt8):Nat:=s.foldl (fun n c=>n*10+(c.toNat-48)) 0
def nA(s:List UInt8):Prop:=0<s.length∧s.length≤19∧∀c,c∈s→48≤c.toNat∧c.toNat≤57
def PS.ni(p:PS):Prop:=(∀t,t∈p.ay→t.kind=3→nA t.text)∧∀t,t∈p.ay→t.text.length≤200
theorem PS.ok.mem{p:PS}(h:p.ok):p.tok∈p.ay:=lW h.get
structure St(p:PS):Prop where
 ok:p.ok
 ni:p.ni
def PS.called(p:PS)(k:Int):Bool:=decide (p.err=0)&&decide (p.tok.kind=k)
def PS.take(p:PS)(k:Int)(e:Int):List UInt8×PS:=if p.err=0 then(if p.tok.kind=k then(if e=0 then(p.tok.text,p.step) else([],p.fail e)) else([],p.fail 5)) else([],p)
theorem PS.lu{p:PS}(h:p.ok){k:Int}(hk:k≠6)(A:p.tok.kind=k):p.aI+1<p.ay.length:=by
 have z:=h.last _ _ h.get
 rw[A] at z
 have h2:=h.lt
 have G:¬(p.aI+1=p.ay.length):=fun e=>hk (z.2 e)
 omega
theorem PS.TW{p:PS}(h:p.ok){k e:Int}(hk:k≠6):(p.take k e).2.ok:=by
 unfold PS.take
 split
 ·split
  ·rename_i z
   split
   ·exact PS.tq h (PS.lu h hk z)
   rename_i he;exact PS.w8 h he
  exact PS.w8 h (by decide)
 exact h
def PS.name(p:PS):List UInt8×PS:=p.take 2 0
def mg(least:Int)(s:List UInt8):Int:=if(dV s:Int)<1099511627776∧least<(dV s:Int) then 0 else 10
def PS.number(p:PS)(least:Int):Int×PS:=(if p.called 3=true∧mg least p.tok.text=0 then(dV p.tok.text:Nat) else 0,(p.take 3 (mg least p.tok.text)).2)
structure Rd where
 day:List UInt8→Int×Int
 im:List UInt8→(Int×Int)×Int
 int:Bool→List UInt8→Option Int
def Rd.jN(D:Rd)(s:List UInt8):Int:=if(D.day s).2=0∧1000000≤(D.day s).1 then 10 else(D.day s).2
def PS.day(p:PS)(D:Rd):Int×PS:=(if p.called 4=true then(D.day p.tok.text).1 else 0,(p.take 4 (D.jN p.tok.text)).2)
def PS.period(p:PS)(D:Rd):(Int×Int)×PS:=(if p.called 4=true then(D.im p.tok.text).1 else(0,0),(p.take 4 (D.im p.tok.text).2).2)
def Rd.qh(D:Rd)(neg:Bool)(s:List UInt8):Int:=if(D.int neg s).isSome then 0 else 10
def PS.integer(p:PS)(D:Rd)(neg:Bool):gX×PS:=(⟨1,if p.called 3=true then(D.int neg p.tok.text).getD 0 else 0,[]⟩,(p.take 3 (D.qh neg p.tok.text)).2)
def gM:List UInt8:=[45]
def oZ:List UInt8:=[84,82,85,69]
def oz:List UInt8:=[70,65,76,83,69]
def k0:List UInt8:=[78,85,76,76]
def cL.kY(t:cL):Bool:=decide (t.kind=3)||(decide (t.kind=4)||(if t.kind=5 then decide (t.text=gM) else(decide (t.kind=1)&&(decide (t.text=oZ)||(decide (t.text=oz)||decide (t.text=k0))))))
def cj:gX:=⟨0,0,[]⟩
def PS.literal(p:PS)(D:Rd):gX×PS:=
 if p.err≠0 then(cj,p)
 else if p.tok.kY=false then(cj,p.fail 5)
 else if(p.sign gM).1=true then(p.sign gM).2.integer D true
 else if p.tok.kind=3 then p.integer D false
 else if(p.keyword oZ).1=true then(⟨3,1,[]⟩,(p.keyword oZ).2)
 else if(p.keyword oz).1=true then(⟨3,0,[]⟩,(p.keyword oz).2)
 else if(p.keyword k0).1=true then(cj,(p.keyword k0).2)
 else(⟨2,0,p.tok.text⟩,p.step)
open Go
theorem PS.vi(p:PS)(e:Int):(p.fail e).ay=p.ay:=by unfold PS.fail;split<;>rfl
theorem PS.JB(p:PS)(k:Int)(s:List UInt8):(p.accept k s).2.ay=p.ay:=by unfold PS.accept;split<;>rfl
theorem PS.F0(p:PS)(s:List UInt8):(p.sign s).2.ay=p.ay:=PS.JB ..
theorem PS.Ft(p:PS)(s:List UInt8):(p.keyword s).2.ay=p.ay:=PS.JB ..
theorem PS.Rb(p:PS)(s:List UInt8):(p.fM s).ay=p.ay:=by
 unfold PS.fM;split
 ·exact PS.Ft ..
 rw[PS.vi,PS.Ft]
theorem PS.P9(p:PS)(s:List UInt8):(p.bw s).ay=p.ay:=by
 unfold PS.bw;split
 ·exact PS.F0 ..
 rw[PS.vi,PS.F0]
theorem PS.P'{l:List (List UInt8)}:∀{p:PS},(p.aU l).ay=p.ay:=by
 induction l with
 |nil=>intro p;rfl
 |cons s r z=>intro p;exact(z (p:=p.fM s)).trans (PS.Rb p s)
theorem PS.Rc(p:PS):p.enter.2.ay=p.ay:=by
 unfold PS.enter;split
 ·exact PS.vi ..
 rfl
theorem PS.R0(p:PS)(k e:Int):(p.take k e).2.ay=p.ay:=by
 unfold PS.take
 split
 ·split
  ·split
   ·rfl
   exact PS.vi ..
  exact PS.vi ..
 rfl
theorem St.of{p q:PS}(h:St p)(ho:q.ok)(z:q.ay=p.ay):St q:=⟨ho,by unfold PS.ni;rw[z];exact h.ni⟩
theorem St.fail{p:PS}(h:St p){e:Int}(he:e≠0):St (p.fail e):=h.of (PS.w8 h.ok he) (PS.vi ..)
theorem St.sign{p:PS}(h:St p)(s:List UInt8):St (p.sign s).2:=h.of (PS.zz h.ok s) (PS.F0 ..)
theorem St.keyword{p:PS}(h:St p)(s:List UInt8):St (p.keyword s).2:=h.of (PS.wH h.ok s) (PS.Ft ..)
theorem St.aU{p:PS}(h:St p)(l:List (List UInt8)):St (p.aU l):=h.of (PS.Fx h.ok) PS.P'
theorem St.bw{p:PS}(h:St p)(s:List UInt8):St (p.bw s):=h.of (PS.QG h.ok s) (PS.P9 ..)
theorem St.enter{p:PS}(h:St p):St p.enter.2:=h.of (PS.SQ h.ok) (PS.Rc ..)
theorem St.take{p:PS}(h:St p){k e:Int}(hk:k≠6):St (p.take k e).2:=h.of (PS.TW h.ok hk) (PS.R0 ..)
theorem St.name{p:PS}(h:St p):St p.name.2:=h.take (by decide)
theorem St.number{p:PS}(h:St p)(l:Int):St (p.number l).2:=h.take (by decide)
theorem St.day{p:PS}(h:St p)(D:Rd):St (p.day D).2:=h.take (by decide)
theorem St.period{p:PS}(h:St p)(D:Rd):St (p.period D).2:=h.take (by decide)
theorem St.integer{p:PS}(h:St p)(D:Rd)(n:Bool):St (p.integer D n).2:=h.take (by decide)
theorem PS.rN{p:PS}{k:Int}{s:List UInt8}(h:(p.accept k s).1=false):(p.accept k s).2=p∧p.next k s=false:=by
 unfold PS.accept at h⊢
 split at h
 ·cases h
 rename_i z;rw[aj z];exact⟨rfl,by simpa using z⟩
theorem PS.pr{p:PS}{k:Int}{s:List UInt8}(h:(p.accept k s).1=true):(p.accept k s).2=p.step∧p.next k s=true:=by
 unfold PS.accept at h⊢
 split at h
 ·rename_i z;rw[aq z];exact⟨rfl,z⟩
 cases h
theorem PS.ic{p:PS}{s:List UInt8}(h:(p.sign s).1=false):(p.sign s).2=p:=(PS.rN h).1
theorem PS.cK{p:PS}{s:List UInt8}(h:(p.keyword s).1=false):(p.keyword s).2=p:=(PS.rN h).1
theorem PS.Fu{p:PS}(h0:p.err=0)(z:p.tok.kY=true)(A:(p.sign gM).1=false)(Z:p.tok.kind≠3)(G:(p.keyword oZ).1=false)(I:(p.keyword oz).1=false)(hN:(p.keyword k0).1=false):p.tok.kind=4:=by
 have J:=(PS.rN A).2
 have K:=(PS.rN G).2
 have O:=(PS.rN I).2
 have U:=(PS.rN hN).2
 unfold PS.next at J K O U
 unfold cL.kY at z
 by_cases Y:p.tok.kind=4
 ·exact Y
 by_cases k5:p.tok.kind=5
 ·simp_all
 by_cases k1:p.tok.kind=1
 ·simp_all
 simp_all
theorem PS.JR{p:PS}(h:St p)(D:Rd):St (p.literal D).2:=by
 unfold PS.literal
 split
 ·exact h
 rename_i h0
 split
 ·exact h.fail (by decide)
 rename_i z
 split
 ·exact(h.sign _).integer D true
 rename_i h2
 split
 ·exact h.integer D false
 rename_i A
 split
 ·exact h.keyword _
 rename_i G
 split
 ·exact h.keyword _
 rename_i I
 split
 ·exact h.keyword _
 rename_i J
 have hk:=PS.Fu (by simpa using h0) (by simpa using z) (by simpa using h2) A (by simpa using G) (by simpa using I) (by simpa using J)
 exact h.of (PS.tq h.ok (PS.lu h.ok (k:=4) (by decide) hk)) rfl
open Go
def ed(p:PS):Nat:=if p.err=0 then 0 else 1
def PS.pk(p:PS):Prop:=p.err≠0→p.pos=p.tok.pos
structure bC(k:Nat)(p q:PS):Prop where
 st:St q
 ay:q.ay=p.ay
 depth:q.depth=p.depth
 aI:p.aI≤q.aI
 sl:q.ex.length+(p.aI+ed p)+k≤p.ex.length+(q.aI+ed q)
 er:q.err=0→p.err=0
 pk:p.pk→q.pk
theorem bC.refl{p:PS}(h:St p):bC 0 p p:=⟨h,rfl,rfl,bY _,by omega,id,id⟩
theorem bC.trans{j k:Nat}{p q r:PS}(h:bC j p q)(g:bC k q r):bC (j+k) p r:=
 ⟨g.st,g.ay.trans h.ay,g.depth.trans h.depth,kb h.aI g.aI,by have:=h.sl;have:=g.sl;omega,fun k=>h.er (g.er k),fun k=>g.pk (h.pk k)⟩
theorem bC.dz{j k:Nat}{p q:PS}(h:bC j p q)(hk:k≤j):bC k p q:=⟨h.st,h.ay,h.depth,h.aI,by have:=h.sl;omega,h.er,h.pk⟩
theorem bC.step{p:PS}(h:St p)(h0:p.err=0)(z:p.aI+1<p.ay.length):bC 1 p p.step:=
 ⟨h.of (PS.tq h.ok z) rfl,rfl,rfl,si _,by show p.ex.length+(p.aI+ed p)+1≤p.ex.length+(p.aI+1+ed p);omega,id,fun _ k=>absurd h0 k⟩
theorem bC.D9{p:PS}(h:St p){e:Int}(he:e≠0)(h0:p.err=0):bC 1 p (p.fail e):=by
 have e1:p.fail e={p with err:=e,pos:=p.tok.pos}:=aq h0
 refine⟨h.fail he,PS.vi ..,by rw[e1],by rw[e1];exact bY _,?_,fun _=>h0,fun _ _=>by rw[e1];rfl⟩
 rw[e1]
 unfold ed
 rw[aq h0,aj he]
 show p.ex.length+(p.aI+0)+1≤p.ex.length+(p.aI+1)
 omega
theorem bC.fail{p:PS}(h:St p){e:Int}(he:e≠0):bC 0 p (p.fail e):=by
 by_cases h0:p.err=0
 ·exact(bC.D9 h he h0).dz (by omega)
 rw[show p.fail e=p from aj h0];exact .refl h
theorem bC.accept{p:PS}(h:St p){k:Int}(hk:k≠6){s:List UInt8}(z:(p.accept k s).1=true):bC 1 p (p.accept k s).2:=by
 obtain⟨A,h2⟩:=PS.pr z
 rw[A]
 exact .step h (by unfold PS.next at h2;simp only[fv,eP] at h2;exact h2.1) (PS.kR h.ok hk h2)
theorem bC.sign{p:PS}(h:St p){s:List UInt8}(z:(p.sign s).1=true):bC 1 p (p.sign s).2:=.accept h (by decide) z
theorem bC.keyword{p:PS}(h:St p){s:List UInt8}(z:(p.keyword s).1=true):bC 1 p (p.keyword s).2:=.accept h (by decide) z
theorem bC.xW{p:PS}(h:St p)(s:List UInt8):bC 0 p (p.sign s).2:=by
 cases z:(p.sign s).1
 ·rw[PS.ic z];exact .refl h
 exact(bC.sign h z).dz (by omega)
theorem bC.Ga{p:PS}(h:St p)(s:List UInt8):bC 0 p (p.keyword s).2:=by
 cases z:(p.keyword s).1
 ·rw[PS.cK z];exact .refl h
 exact(bC.keyword h z).dz (by omega)
theorem bC.fM{p:PS}(h:St p)(s:List UInt8):bC 0 p (p.fM s):=by
 cases z:(p.keyword s).1
 ·rw[PS.zy z,PS.cK z];exact .fail h (by decide)
 rw[PS.Co z];exact(bC.keyword h z).dz (by omega)
theorem bC.aU{l:List (List UInt8)}:∀{p:PS},St p→bC 0 p (p.aU l):=by
 induction l with
 |nil=>intro p h;exact .refl h
 |cons s r z=>intro p h;exact(bC.fM h s).trans (z (bC.fM h s).st)
theorem bC.bw{p:PS}(h:St p)(s:List UInt8):bC 0 p (p.bw s):=by
 unfold PS.bw
 split
 ·exact bC.xW h s
 exact(bC.xW h s).trans (bC.fail (h.sign s) (by decide))
theorem bC.xX{p:PS}(h:St p){k e:Int}(hk:k≠6)(h0:p.err=0):bC 1 p (p.take k e).2:=by
 unfold PS.take
 rw[aq h0]
 split
 ·rename_i z
  split
  ·exact .step h h0 (PS.lu h.ok hk z)
  rename_i he;exact .D9 h he h0
 exact .D9 h (by decide) h0
theorem bC.take{p:PS}(h:St p){k e:Int}(hk:k≠6):bC 0 p (p.take k e).2:=by
 by_cases h0:p.err=0
 ·exact(bC.xX h hk h0).dz (by omega)
 unfold PS.take;rw[aj h0];exact .refl h
theorem bC.Gb{p:PS}(h:St p)(D:Rd)(h0:p.err=0):bC 1 p (p.literal D).2:=by
 unfold PS.literal
 rw[aj (by simpa using h0)]
 split
 ·exact .D9 h (by decide) h0
 rename_i I
 split
 ·rename_i h2
  exact((bC.sign h h2).trans (bC.take (h.sign _) (k:=3) (by decide))).dz (by omega)
 rename_i h2
 split
 ·exact bC.xX h (by decide) h0
 rename_i J
 split
 ·rename_i z;exact .keyword h z
 rename_i z
 split
 ·rename_i A;exact .keyword h A
 rename_i A
 split
 ·rename_i G;exact .keyword h G
 rename_i G
 have hk:=PS.Fu h0 (by simpa using I) (by simpa using h2) J (by simpa using z) (by simpa using A) (by simpa using G)
 exact .step h h0 (PS.lu h.ok (k:=4) (by decide) hk)
theorem bC.push{k:Nat}{p q:PS}(hp:p.ok)(h:bC (k+1) p q)(e:aL):bC k p (q.push e).2:=by
 have A:=h.sl
 have h2:=hp.u9
 have z:(q.push e).2.ex.length=q.ex.length+1:=by simp[PS.push]
 refine⟨h.st.of ⟨h.st.ok.lt,h.st.ok.dY,h.st.ok.last,h.st.ok.kD,?_⟩ aa,h.ay,h.depth,h.aI,?_,h.er,h.pk⟩
 ·rw[z]
  show q.ex.length+1≤q.aI+ed q
  have G:p.ex.length≤p.aI+ed p:=h2
  omega
 rw[z]
 show q.ex.length+1+(p.aI+ed p)+k≤p.ex.length+(q.aI+ed q)
 omega
theorem PS.ok.small{p:PS}(h:p.ok):p.ex.length≤5000:=by
 have z:=h.u9
 have h2:=h.lt
 have A:=h.dY
 split at z<;>omega
def jh:List UInt8:=[46]
def eM:List UInt8:=[42]
def nJ:List UInt8:=[43]
def mT:List UInt8:=[61]
def uz:List UInt8:=[60]
def uA:List UInt8:=[62]
def cg:List UInt8:=[40]
def dG:List UInt8:=[41]
def yP:List UInt8:=[73,83]
def wo:List UInt8:=[78,79,84]
def l4:List UInt8:=[65,78,68]
def l9:List UInt8:=[79,82]
def PS.fU(p:PS):Int×PS:=
 if(p.name.2.sign jh).1=true then((p.name.2.sign jh).2.name.2).push ⟨2,0,0,p.name.1,(p.name.2.sign jh).2.name.1,cj⟩
 else p.name.2.push ⟨2,0,0,[],p.name.1,cj⟩
def j8(sub:PS→Int×PS)(test:PS→Option (Int×PS)):Nat→Int→PS→Int×PS
 |0,a,p=>(a,p)
 |k+1,a,p=>match test p with
  |none=>(a,p)
  |some (kind,q)=>j8 sub test k ((sub q).2.push ⟨kind,a,(sub q).1,[],[],cj⟩).1 ((sub q).2.push ⟨kind,a,(sub q).1,[],[],cj⟩).2
def chain(sub:PS→Int×PS)(test:PS→Option (Int×PS))(p:PS):Int×PS:=j8 sub test p.ay.length (sub p).1 (sub p).2
def lA(p:PS):Option (Int×PS):=if(p.sign eM).1=true then some (5,(p.sign eM).2) else none
def km(p:PS):Option (Int×PS):=if(p.sign gM).1=true then some (4,(p.sign gM).2) else if(p.sign nJ).1=true then some (3,(p.sign nJ).2) else none
def l5(p:PS):Option (Int×PS):=if(p.keyword l4).1=true then some (9,(p.keyword l4).2) else none
def my(p:PS):Option (Int×PS):=if(p.keyword l9).1=true then some (10,(p.keyword l9).2) else none
def un(p:PS)(kind a:Int):Int×PS:=p.push ⟨kind,a,0,[],[],cj⟩
def rB(sub:PS→Int×PS)(kind a:Int)(q:PS):Int×PS:=(sub q).2.push ⟨kind,a,(sub q).1,[],[],cj⟩
def iC(sub:PS→Int×PS)(p:PS):Int×PS:=
 if((sub p).2.sign mT).1=true then rB sub 6 (sub p).1 ((sub p).2.sign mT).2
 else if((sub p).2.sign uz).1=true then rB sub 7 (sub p).1 ((sub p).2.sign uz).2
 else if((sub p).2.sign uA).1=true then rB sub 8 (sub p).1 ((sub p).2.sign uA).2
 else if((sub p).2.keyword yP).1=true then un (((sub p).2.keyword yP).2.aU [k0]) 12 (sub p).1
 else sub p
def PS.up(p:PS):PS:={p with depth:=p.depth-1}
def nj(sub inner:PS→Int×PS)(p:PS):Int×PS:=
 if p.next 1 wo=false then sub p
 else if p.enter.1=false then(0,p.enter.2)
 else un (inner p.enter.2.step).2.up 11 (inner p.enter.2.step).1
def k9(D:Rd)(inner:PS→Int×PS)(p:PS):Int×PS:=
 if p.err≠0 then(0,p)
 else if p.next 5 cg=true then(if p.enter.1=false then(0,p.enter.2) else((inner p.enter.2.step).1,((inner p.enter.2.step).2.bw dG).up))
 else if p.tok.kind=2 then p.fU
 else(p.literal D).2.push ⟨1,0,0,[],[],(p.literal D).1⟩
def wD(D:Rd):Nat→(PS→Int×PS)×(PS→Int×PS)
 |0=>(fun p=>(0,p),fun p=>(0,p))
 |n+1=>(chain (chain (nj (iC (chain (chain (k9 D (wD D n).1) lA) km)) (wD D n).2) l5) my,nj (iC (chain (chain (k9 D (wD D n).1) lA) km)) (wD D n).2)
def eT(D:Rd)(n:Nat):PS→Int×PS:=k9 D (wD D n).1
def eX(D:Rd)(n:Nat):PS→Int×PS:=chain (eT D n) lA
def eh(D:Rd)(n:Nat):PS→Int×PS:=chain (eX D n) km
def cmpL(D:Rd)(n:Nat):PS→Int×PS:=iC (eh D n)
def eB(D:Rd)(n:Nat):PS→Int×PS:=(wD D n).2
def ja(D:Rd)(n:Nat):PS→Int×PS:=chain (eB D (n+1)) l5
def lB(D:Rd)(n:Nat):PS→Int×PS:=(wD D n).1
theorem wN(D:Rd)(n:Nat):eB D (n+1)=nj (cmpL D n) (eB D n):=rfl
open Go
theorem bC.fU{p:PS}(h:St p)(h0:p.err=0):bC 0 p p.fU.2:=by
 have z:bC 1 p p.name.2:=bC.xX h (by decide) h0
 unfold PS.fU
 split
 ·rename_i A
  have h2:bC (1+(1+0)) p ((p.name.2.sign jh).2.name.2):=z.trans ((bC.sign z.st A).trans (bC.take (z.st.sign _) (k:=2) (e:=0) (by decide)))
  exact(bC.push h.ok (k:=1) (h2.dz (by omega)) _).dz (by omega)
 exact bC.push h.ok z _
theorem bC.j8{n:Nat}{sub:PS→Int×PS}{test:PS→Option (Int×PS)}(G:∀p,St p→p.depth+n=61→bC 0 p (sub p).2)(I:∀p kind q,St p→test p=some (kind,q)→bC 1 p q):
  ∀(k:Nat)(a:Int)(p:PS),St p→p.depth+n=61→bC 0 p (j8 sub test k a p).2
 |0,a,p,h,_=>.refl h
 |k+1,a,p,h,J=>by
  unfold Pp.j8
  split
  ·exact .refl h
  rename_i kind q K
  have z:=I p kind q h K
  have h2:=z.trans (G q z.st (by rw[z.depth];exact J))
  have A:=bC.push h.ok h2 ⟨kind,a,(sub q).1,[],[],cj⟩
  exact A.trans (bC.j8 G I k _ _ A.st (by rw[A.depth];exact J))
theorem bC.chain{n:Nat}{sub:PS→Int×PS}{test:PS→Option (Int×PS)}(A:∀p,St p→p.depth+n=61→bC 0 p (sub p).2)(I:∀p kind q,St p→test p=some (kind,q)→bC 1 p q){p:PS}(h:St p)(G:p.depth+n=61):bC 0 p (chain sub test p).2:=by
 have z:=A p h G
 exact z.trans (bC.j8 A I _ _ _ z.st (by rw[z.depth];exact G))
theorem BT(p:PS)(kind:Int)(q:PS)(h:St p)(z:lA p=some (kind,q)):bC 1 p q:=by
 unfold lA at z
 split at z
 ·rename_i A;cases z;exact .sign h A
 cases z
theorem wW(p:PS)(kind:Int)(q:PS)(h:St p)(z:km p=some (kind,q)):bC 1 p q:=by
 unfold km at z
 split at z
 ·rename_i A;cases z;exact .sign h A
 split at z
 ·rename_i A;cases z;exact .sign h A
 cases z
theorem B3(p:PS)(kind:Int)(q:PS)(h:St p)(z:l5 p=some (kind,q)):bC 1 p q:=by
 unfold l5 at z
 split at z
 ·rename_i A;cases z;exact .keyword h A
 cases z
theorem Gu(p:PS)(kind:Int)(q:PS)(h:St p)(z:my p=some (kind,q)):bC 1 p q:=by
 unfold my at z
 split at z
 ·rename_i A;cases z;exact .keyword h A
 cases z
theorem bC.iC{n:Nat}{sub:PS→Int×PS}(G:∀p,St p→p.depth+n=61→bC 0 p (sub p).2){p:PS}(h:St p)(I:p.depth+n=61):bC 0 p (iC sub p).2:=by
 have A:=G p h I
 have two:∀{kind:Int}{s:List UInt8},((sub p).2.sign s).1=true→bC 0 p (rB sub kind (sub p).1 ((sub p).2.sign s).2).2:=fun{kind s}z=>by
  have h2:=A.trans (bC.sign A.st z)
  exact bC.push h.ok (k:=0) ((h2.trans (G _ h2.st (by rw[h2.depth];exact I))).dz (by omega)) _
 unfold Pp.iC
 split
 ·rename_i z;exact two z
 split
 ·rename_i z;exact two z
 split
 ·rename_i z;exact two z
 split
 ·rename_i z
  have h2:=A.trans (bC.keyword A.st z)
  exact bC.push h.ok (k:=0) ((h2.trans (bC.aU h2.st)).dz (by omega)) _
 exact A
theorem PS.Gv{p:PS}(h:p.enter.1=true):p.enter.2={p with depth:=p.depth+1}∧p.depth≠60:=by
 unfold PS.enter at h⊢
 split at h
 ·cases h
 rename_i z;rw[aj z];exact⟨rfl,z⟩
theorem PS.w9{p:PS}(h:p.enter.1=false):p.enter.2=p.fail 19:=by
 unfold PS.enter at h⊢
 split at h
 ·rename_i z;rw[aq z]
 cases h
theorem St.qV{p:PS}(h:St p)(he:p.enter.1=true)(G:p.aI+1<p.ay.length):St p.enter.2.step∧p.enter.2.step.depth=p.depth+1:=by
 obtain⟨z,h2⟩:=PS.Gv he
 have A:=h.enter
 refine⟨A.of (PS.tq A.ok (by rw[z];exact G)) rfl,by rw[z];rfl⟩
theorem bC.qV{k:Nat}{p r:PS}(h:St p)(h0:p.err=0)(he:p.enter.1=true)(z:bC k p.enter.2.step r):bC (k+1) p r.up:=by
 obtain⟨A,h2⟩:=PS.Gv he
 have G:=z.ay;have I:=z.depth;have J:=z.aI;have K:=z.sl
 rw[A] at G I J K
 have b1:r.ay=p.ay:=G
 have b2:r.depth=p.depth+1:=I
 have O:p.aI+1≤r.aI:=J
 have U:r.ex.length+(p.aI+1+ed p)+k≤p.ex.length+(r.aI+ed r):=K
 refine⟨z.st.of ⟨z.st.ok.lt,z.st.ok.dY,z.st.ok.last,by show r.depth-1≤60;have:=z.st.ok.kD;omega,z.st.ok.u9⟩ rfl,b1,by show r.depth-1=p.depth;omega,by show p.aI≤r.aI;omega,?_,fun _=>h0,fun _=>z.pk fun k=>absurd (by rw[A];exact h0) k⟩
 show r.ex.length+(p.aI+ed p)+(k+1)≤p.ex.length+(r.aI+ed r)
 omega
theorem bC.nj{n:Nat}{sub inner:PS→Int×PS}(A:∀p,St p→p.depth+(n+1)=61→bC 0 p (sub p).2)(hi:∀p,St p→p.depth+n=61→bC 0 p (inner p).2){p:PS}(h:St p)(G:p.depth+(n+1)=61):bC 0 p (nj sub inner p).2:=by
 unfold Pp.nj
 split
 ·exact A p h G
 rename_i z
 split
 ·rename_i he;rw[PS.w9 he];exact .fail h (by decide)
 rename_i he
 have I:=PS.kR h.ok (kind:=1) (by decide) (by simpa using z)
 obtain⟨J,h2⟩:=h.qV (by simpa using he) I
 exact bC.push h.ok (bC.qV h (by unfold PS.next at z;simp only[Bool.not_eq_false,fv,eP] at z;exact z.1) (by simpa using he) (hi _ J (by rw[h2];omega))) _
theorem bC.k9{n:Nat}{D:Rd}{inner:PS→Int×PS}(hi:∀p,St p→p.depth+n=61→bC 0 p (inner p).2){p:PS}(h:St p)(J:p.depth+(n+1)=61):bC 0 p (k9 D inner p).2:=by
 unfold Pp.k9
 split
 ·exact .refl h
 rename_i h0
 have h0:p.err=0:=by simpa using h0
 split
 ·rename_i A
  split
  ·rename_i he;rw[PS.w9 he];exact .fail h (by decide)
  rename_i he
  have G:=PS.kR h.ok (kind:=5) (by decide) A
  obtain⟨I,h2⟩:=h.qV (by simpa using he) G
  have z:=hi _ I (by rw[h2];omega)
  exact(bC.qV h h0 (by simpa using he) (z.trans (bC.bw z.st dG))).dz (by omega)
 split
 ·exact .fU h h0
 exact bC.push h.ok (bC.Gb h D h0) _
theorem pA(D:Rd):∀n,(∀p,St p→p.depth+n=61→bC 0 p (lB D n p).2)∧(∀p,St p→p.depth+n=61→bC 0 p (eB D n p).2)
 |0=>⟨fun p h _=>.refl h,fun p h _=>.refl h⟩
 |n+1=>by
  obtain⟨G,h2⟩:=pA D n
  have I:∀p,St p→p.depth+(n+1)=61→bC 0 p (eT D n p).2:=fun p h z=>bC.k9 G h z
  have J:∀p,St p→p.depth+(n+1)=61→bC 0 p (eX D n p).2:=fun p h z=>bC.chain I BT h z
  have K:∀p,St p→p.depth+(n+1)=61→bC 0 p (eh D n p).2:=fun p h z=>bC.chain J wW h z
  have O:∀p,St p→p.depth+(n+1)=61→bC 0 p (cmpL D n p).2:=fun p h z=>bC.iC K h z
  have A:∀p,St p→p.depth+(n+1)=61→bC 0 p (eB D (n+1) p).2:=fun p h z=>bC.nj O h2 h z
  have U:∀p,St p→p.depth+(n+1)=61→bC 0 p (ja D n p).2:=fun p h z=>bC.chain A B3 h z
  exact⟨fun p h z=>bC.chain U Gu h z,A⟩
theorem zg(D:Rd){n:Nat}{p:PS}(h:St p)(z:p.depth+(n+1)=61):bC 0 p (eT D n p).2:=bC.k9 (pA D n).1 h z
theorem vz(D:Rd){n:Nat}{p:PS}(h:St p)(z:p.depth+(n+1)=61):bC 0 p (eX D n p).2:=bC.chain (fun _ a b=>zg D a b) BT h z
theorem ts(D:Rd){n:Nat}{p:PS}(h:St p)(z:p.depth+(n+1)=61):bC 0 p (eh D n p).2:=bC.chain (fun _ a b=>vz D a b) wW h z
theorem Cp(D:Rd){n:Nat}{p:PS}(h:St p)(z:p.depth+(n+1)=61):bC 0 p (ja D n p).2:=bC.chain (fun _ a b=>(pA D (n+1)).2 _ a b) B3 h z
end Go.Ev.Pp
namespace Go.Ev
variable{T:bf}{VE:b0}{B:br}{Q:b0→br→Prop}
theorem Kt{call:eC}{E:Env}{H H1:az}{n:Nat}{w:Bool}{a:aF}{f g o:Nat}{v:an}(z:a.ev E=some (.ptr f g o))(h:(bE.load n w a).ev call E H= .ok v H1):H1=H:=by
 have key:PS H ((bE.load n w a).ev call E H):=by
  rw[Gr z]
  exact PS.iU (fun _ _ _ _ _ _ _=>PS.aH (PS.aH (PS.aH (PS.aH (PS.ob (fun _=>PS.aH (PS.iG (fun _=>PS.ok) PS.err) (PS.iG (fun _=>PS.ok) PS.err)) PS.err) PS.err) PS.err) PS.err) PS.err) PS.err
 exact key _ _ h
theorem SR{fl:List FL}{d:Key}{l:List Nat}{n:Nat}{w:Bool}{a:aF}{b o:Nat}{s:BS}{r:List bo}(ha:a.vv VE=some (.vp b o))(U:aY B b=some s)(Y:s.born)(hk:nG [] l fl=true)(h:VI T (.load n w a) VE B [] fun v B'=>VQ T r ((d.n,v)::VE) B' (.rd [b]::fl) Q):VQ T (⟨some d,none,some l,.load n w a⟩::r) VE B fl Q:=by
 intro H0 X0 E H β A bP J
 obtain⟨N,v0,H',e,K,v,B',β',Z,O,hv,hq⟩:=zu h A
 obtain⟨x,hx,G⟩:=A.b9 ha
 simp only[aN] at G
 subst G
 have z:H'=H.mark:=Kt hx (e N N (bY _) (bY _))
 have I:H.mark.ws=[]∧H.mark.next=H.next:=by cases H;exact⟨rfl,rfl⟩
 have k:uM H.next B β (.rd [b]) ⟨(bE.load n w a).reads E,H'.ws,H.next,H'.next⟩:=by
  refine⟨by rw[z];exact I.1,by show H.next=H'.next;rw[z];exact I.2.symm,[β b],?_,fun f J=>?_⟩
  ·show some (iV (a.ev E))=_
   rw[hx];rfl
  rcases List.mem_singleton.1 J with rfl
  exact⟨(A.new b s U Y).2,fun c t K h2 h3=>List.mem_singleton.2 (A.inj c b t s K U h2 Y h3)⟩
 obtain⟨N2,E2,H2,e2,hp⟩:=hq H0 X0 _ _ β' (O.set hv) (⟨(bE.load n w a).reads E,H'.ws,H.next,H'.next⟩::bP) ((J.cons k).step Z)
 refine⟨max N N2,E2,H2,fun lf n a1 a2=>?_,hp.of Z A.bc⟩
 show bo.na (T.call lf n) ⟨some d,none,some l,_⟩ E H bP (lR (T.call lf n) r)=_
 rw[y1,y3 (e lf n (by omega) (by omega)) (wV J K hk)]
 exact e2 lf n (by omega) (by omega)
theorem Rel.U4{H0:Nat→Nat}{X0:Nat→Prop}{E:Env}{H:az}{β:Nat→Nat}(h:Rel H0 X0 VE B E H β){b i e I:Nat}{row:List VV}{o7:VV}(hb:aY B b=some (.one e I row))(hi:row[i]?=some o7):Rel H0 X0 VE ((b,.one e I (row.set i .undef))::B) E H β:=by
 have J:∀c s,aY ((b,BS.one e I (row.set i .undef))::B) c=some s→s.born→∃t,aY B c=some t∧t.born:=fun c s z ho=>by
  rw[ef] at z
  by_cases k:b=c
  ·subst k;exact⟨_,hb,trivial⟩
  rw[aj k] at z;exact⟨s,z,ho⟩
 have hX:∀f,XB X0 ((b,BS.one e I (row.set i .undef))::B) β f→XB X0 B β f:=fun f K=>K.imp id fun⟨c,s,O,ho,h2⟩=>by
  obtain⟨t,A,G⟩:=J c s O ho
  exact⟨c,t,A,G,h2⟩
 have U:iB H (XB X0 B β) H (XB X0 ((b,BS.one e I (row.set i .undef))::B) β):=⟨bY _,fun f _ K=>⟨fun k=>K (hX f k),rfl⟩⟩
 refine⟨h.n6,h.bc,h.x0,fun c s z ho=>?_,fun c d s t z Y hs ht he=>?_,fun k v hk=>?_,fun c s z=>?_⟩
 ·obtain⟨t,A,G⟩:=J c s z ho;exact h.new c t A G
 ·obtain⟨s',A,G⟩:=J c s z hs
  obtain⟨t',Z,k4⟩:=J d t Y ht
  exact h.inj c d s' t' A Z G k4 he
 ·obtain⟨a,O,h2⟩:=h.env k v hk
  exact⟨a,O,h2.lift U⟩
 rw[ef] at z
 by_cases k:b=c
 ·subst k
  rw[aq rfl] at z
  cases z
  obtain⟨l,lo,cs,A,G,Z,k4⟩:=h.box b _ hb
  exact⟨l,lo,cs,A,G,Z,bk.lift U (bk.setAt (new:=.undef) (fun a _=>trivial) k4 hi)⟩
 rw[aj k] at z;exact(h.box c s z).lift U rfl
theorem Re{b i e A:Nat}{row:List VV}(G:aY B b=some (.one e A row)):∀c s,aY ((b,BS.one e A (row.set i .undef))::B) c=some s→s.born→∃t,aY B c=some t∧t.born:=fun c s z ho=>by
 rw[ef] at z
 by_cases k:b=c
 ·subst k;exact⟨_,G,trivial⟩
 rw[aj k] at z;exact⟨s,z,ho⟩
theorem jt{ops:List bo}(b i:Nat){e z:Nat}{row:List VV}{o7:VV}(A:aY B b=some (.one e z row))(hi:row[i]?=some o7)(h:VO T ops VE ((b,.one e z (row.set i .undef))::B) Q):VO T ops VE B Q:=
 fun H0 X0 E H β G=>(h H0 X0 E H β (G.U4 A hi)).mono fun _ _ hp=>hp.more (Re A)
theorem Rel.U5{H0:Nat→Nat}{X0:Nat→Prop}{E:Env}{H:az}{β:Nat→Nat}(h:Rel H0 X0 VE B E H β){b i g e I elem aQ es:Nat}{row:List VV}(O:aY B b=some (.one e I row))(hi:row[i]?=some (.d .nil))(hg:aY B g=none):Rel H0 X0 VE ((g,.acc elem aQ es [])::(b,.one e I (row.set i (.ac g 0 es)))::B) E H β:=by
 have hgb:g≠b:=fun k=>by rw[k,O] at hg;cases hg
 have K:∀c s,aY ((g,BS.acc elem aQ es [])::(b,BS.one e I (row.set i (.ac g 0 es)))::B) c=some s→s.born→∃t,aY B c=some t∧t.born:=fun c s z ho=>by
  rw[ef] at z
  by_cases J:g=c
  ·rw[aq J] at z;cases z;exact absurd rfl ho
  rw[aj J,ef] at z
  by_cases k:b=c
  ·subst k;exact⟨_,O,trivial⟩
  rw[aj k] at z;exact⟨s,z,ho⟩
 have hX:∀f,XB X0 ((g,BS.acc elem aQ es [])::(b,BS.one e I (row.set i (.ac g 0 es)))::B) β f→XB X0 B β f:=fun f U=>U.imp id fun⟨c,s,Y,ho,h2⟩=>by
  obtain⟨t,A,G⟩:=K c s Y ho
  exact⟨c,t,A,G,h2⟩
 have Z:iB H (XB X0 B β) H (XB X0 ((g,BS.acc elem aQ es [])::(b,BS.one e I (row.set i (.ac g 0 es)))::B) β):=⟨bY _,fun f _ U=>⟨fun k=>U (hX f k),rfl⟩⟩
 refine⟨h.n6,h.bc,h.x0,fun c s z ho=>?_,fun c d s t z sP hs ht he=>?_,fun k v hk=>?_,fun c s z=>?_⟩
 ·obtain⟨t,A,G⟩:=K c s z ho;exact h.new c t A G
 ·obtain⟨s',A,G⟩:=K c s z hs
  obtain⟨t',k3,k4⟩:=K d t sP ht
  exact h.inj c d s' t' A k3 G k4 he
 ·obtain⟨a,Y,h2⟩:=h.env k v hk
  exact⟨a,Y,h2.lift Z⟩
 rw[ef] at z
 by_cases J:g=c
 ·rw[aq J] at z;cases z;exact .inl rfl
 rw[aj J,ef] at z
 by_cases k:b=c
 ·subst k
  rw[aq rfl] at z
  cases z
  obtain⟨l,lo,cs,A,G,k3,k4⟩:=h.box b _ O
  exact⟨l,lo,cs,A,G,k3,bk.lift Z (bk.setAt (new:=.ac g 0 es) (fun a ha=>by simp only[aN,cM] at ha⊢;exact .inl ⟨trivial,ha⟩) k4 hi)⟩
 rw[aj k] at z;exact(h.box c s z).lift Z rfl
theorem mW{ops:List bo}(b i g elem aQ es:Nat){e A:Nat}{row:List VV}(G:aY B b=some (.one e A row))(hi:row[i]?=some (.d .nil))(J:aY B g=none)(h:VO T ops VE ((g,.acc elem aQ es [])::(b,.one e A (row.set i (.ac g 0 es)))::B) Q):VO T ops VE B Q:=
 fun H0 X0 E H β K=>(h H0 X0 E H β (K.U5 G hi J)).mono fun _ _ hp=>hp.more fun c s z ho=>by
  rw[ef] at z
  by_cases I:g=c
  ·rw[aq I] at z;cases z;exact absurd rfl ho
  rw[aj I,ef] at z
  by_cases k:b=c
  ·subst k;exact⟨_,G,trivial⟩
  rw[aj k] at z;exact⟨s,z,ho⟩
variable{T:bf}{VE:b0}{B:br}{Q:b0→br→Prop}
def OI(op:BinOp)(a b:Int):Option Bool:=match op with
 |.lss=>some (decide (a<b))
 |.gtr=>some (decide (b<a))
 |.leq=>some (decide (a≤b))
 |.geq=>some (decide (b≤a))
 |.eql=>some (decide (a=b))
 |.neq=>some (!decide (a=b))
 |_=>none
def gd{α:Type}(b:Bool)(x:Option α):Option α:=bif b then x else none
theorem nE{α:Type}{b:Bool}{x:Option α}{y:α}(h:gd b x=some y):b=true∧x=some y:=by
 cases b
 ·cases h
 exact⟨rfl,h⟩
theorem iw{a b:Bool}(h:(a&&b)=true):a=true∧b=true:=by simpa using h
def lC(VE:b0)(B:br)(d:Nat):bE→Option (VV×br×List Nat)
 |.nV x=>(x.vv VE).bind fun v=>some (v,B,[])
 |.nQ x k=>match x.vv VE with
  |some (.vp b o)=>some (.vp b (o+k),B,[])
  |some (.rp row o)=>some (.rp row (o+k),B,[])
  |some (.bp b g j o es)=>some (.bp b g j (o+k) es,B,[])
  |_=>none
 |.load n w a=>match a.vv VE with
  |some (.vp b o)=>match aY B b with
   |some (.one _ _ row)=>match w with
    |true=>gd (Nat.ble 1 n&&Nat.ble (o+n) row.length) (some (.agg ((row.drop o).take n),B,[]))
    |false=>gd (Nat.beq n 1) ((row[o]?).bind fun v=>some (v,B,[]))
   |_=>none
  |some (.rp row o)=>match w with
   |true=>gd (Nat.ble 1 n&&Nat.ble (o+n) row.length) (some (.agg (((row.drop o).take n).map .d),B,[]))
   |false=>gd (Nat.beq n 1) ((row[o]?).bind fun v=>some (.d v,B,[]))
  |_=>none
 |.store n a x=>match a.vv VE with
  |some (.vp b o)=>match aY B b with
   |some (.one e G row)=>(x.vv VE).bind fun v=>v.cells.bind fun new=>gd (Nat.beq new.length n&&(Nat.ble 1 n&&Nat.ble (o+n) row.length)) (some (.undef,(b,.one e G (EH row o new))::B,[b]))
   |_=>none
  |_=>none
 |.build zero ps=>(qQ zero).bind fun z=>(xp VE ps z).bind fun out=>some (.agg out,B,[])
 |.box elem es aQ x=>gd (n4 d VE&&n5 d B) ((x.vv VE).bind fun v=>v.cells.bind fun c=>gd (Nat.beq c.length es) (some (.vp d 0,(d,.one elem aQ c)::B,[])))
 |.ca elem es aQ l=>gd (n4 d VE&&(n5 d B&&Nat.beq l.length es)) ((qQ l).bind fun c=>some (.vp d 0,(d,.one elem aQ c)::B,[]))
 |.cY elem es aQ A zero ps=>gd (n4 d VE&&(n5 d B&&Nat.beq zero.length es)) ((qQ zero).bind fun z=>(lM z).bind fun I=>(vf VE es A ps (List.replicate A I)).bind fun rows=>some (.bs d A es,(d,.arr elem aQ es A rows)::B,[]))
 |.oR x=>match x.vv VE with
  |some (.vp b o)=>some (.vp b o,B,[])
  |some (.rp row o)=>some (.rp row o,B,[])
  |some (.bp b g q o es)=>some (.bp b g q o es,B,[])
  |some (.fn f c)=>some (.fn f c,B,[])
  |_=>none
 |.sub x off n w=>match x.vv VE with
  |some (.agg l)=>match w with
   |true=>gd (Nat.ble (off+n) l.length) (some (.agg ((l.drop off).take n),B,[]))
   |false=>gd (Nat.beq n 1) ((l[off]?).bind fun v=>some (v,B,[]))
  |_=>none
 |.ri x i=>match x.vv VE with
  |some (.tuple l)=>(l[i]?).bind fun v=>some (v,B,[])
  |_=>none
 |.un op x=>match op with
  |.not=>match x.vv VE with|some (.d (.b b))=>some (.d (.b (!b)),B,[])|_=>none
  |_=>none
 |.nR f first l=>match first with
  |[]=>(iW VE l).bind fun c=>some (.fn f c,B,[])
  |_=>none
 |.uJ _ x=>(x.vv VE).bind fun _=>some (.jq,B,[])
 |.len x=>match x.vv VE with
  |some (.d (.sl rows))=>some (.d (.i .i64 rows.length),B,[])
  |some (.d .nil)=>some (.d (.i .i64 0),B,[])
  |some (.bs _ n _)=>some (.d (.i .i64 n),B,[])
  |some (.ac _ n _)=>some (.d (.i .i64 n),B,[])
  |_=>none
 |.o3 x=>match x.vv VE with|some (.d (.s l _))=>some (.d (.i .i64 l),B,[])|_=>none
 |.conv k x=>match x.vv VE with|some (.d (.i _ n))=>some (.d (.i k (k.wrap n)),B,[])|_=>none
 |.bin op x y=>match x.vv VE with
  |some (.d (.i k a))=>match y.vv VE with
   |some (.d (.i J b))=>if J=k then(OI op a b).bind fun r=>some (.d (.b r),B,[]) else none
   |_=>none
  |_=>none
 |.pick c x y=>match c.vv VE with
  |some (.d (.b true))=>(x.vv VE).bind fun v=>some (v,B,[])
  |some (.d (.b false))=>(y.vv VE).bind fun v=>some (v,B,[])
  |_=>none
 |.eqv c neg x y=>match c with
  |.iface=>match y.vv VE with
   |some (.k .gA)=>(x.vv VE).bind fun v=>(Hk v).bind fun t=>some (.d (.b (Bool.xor neg t)),B,[])
   |_=>none
  |_=>none
 |_=>none
theorem s7{d:Nat}{op:bE}{v:VV}{B':br}{W:List Nat}{R:VV→br→Prop}(h:lC VE B d op=some (v,B',W))(G:R v B'):VI T op VE B W R:=by
 cases op with
 |nV x=>
  obtain⟨u,A,h⟩:=Option.bind_eq_some_iff.1 h
  cases h;exact bM A G
 |nQ x k=>
  simp only[lC] at h
  split at h
  ·rename_i A;cases h;exact dq A G
  ·rename_i A;cases h;exact tl A G
  ·rename_i A;cases h;exact SF A G
  cases h
 |load n w a=>
  simp only[lC] at h
  split at h
  ·rename_i A
   split at h
   ·rename_i Y
    cases w with
    |true=>
     obtain⟨I,h2⟩:=nE h
     obtain⟨I,J⟩:=iw I
     cases h2
     exact qb A Y (bS I) (bS J) G
    |false=>
     obtain⟨I,h2⟩:=nE h
     obtain⟨u,J,K⟩:=Option.bind_eq_some_iff.1 h2
     obtain rfl:=d8 I
     cases K
     exact cW A Y J G
   cases h
  ·rename_i A
   cases w with
   |true=>
    obtain⟨I,h2⟩:=nE h
    obtain⟨I,J⟩:=iw I
    cases h2
    exact mc A (bS I) (bS J) G
   |false=>
    obtain⟨I,h2⟩:=nE h
    obtain⟨u,J,K⟩:=Option.bind_eq_some_iff.1 h2
    obtain rfl:=d8 I
    cases K
    exact mA A J G
  cases h
 |store n a x=>
  simp only[lC] at h
  split at h
  ·rename_i ha
   split at h
   ·rename_i Y
    obtain⟨u,A,h⟩:=Option.bind_eq_some_iff.1 h
    obtain⟨new,hv,h⟩:=Option.bind_eq_some_iff.1 h
    obtain⟨I,h2⟩:=nE h
    obtain⟨I,J⟩:=iw I
    obtain⟨J,K⟩:=iw J
    cases h2
    exact Kh ha Y A hv (d8 I) (bS J) (bS K) G
   cases h
  cases h
 |build zero ps=>
  obtain⟨z,Z,h⟩:=Option.bind_eq_some_iff.1 h
  obtain⟨out,Y,h⟩:=Option.bind_eq_some_iff.1 h
  cases h;exact SG Z Y G
 |box elem es aQ x=>
  obtain⟨I,h⟩:=nE h
  obtain⟨I,h2⟩:=iw I
  obtain⟨u,A,h⟩:=Option.bind_eq_some_iff.1 h
  obtain⟨c,U,h⟩:=Option.bind_eq_some_iff.1 h
  obtain⟨J,h⟩:=nE h
  cases h;exact U0 d I h2 A U (d8 J) G
 |ca elem es aQ l=>
  obtain⟨I,h⟩:=nE h
  obtain⟨I,h2⟩:=iw I
  obtain⟨h2,J⟩:=iw h2
  obtain⟨c,U,h⟩:=Option.bind_eq_some_iff.1 h
  cases h;exact TK d I h2 U (d8 J) G
 |cY elem es aQ ln zero ps=>
  obtain⟨I,h⟩:=nE h
  obtain⟨I,h2⟩:=iw I
  obtain⟨h2,J⟩:=iw h2
  obtain⟨z,Z,h⟩:=Option.bind_eq_some_iff.1 h
  obtain⟨zd,hd,h⟩:=Option.bind_eq_some_iff.1 h
  obtain⟨rows,hr,h⟩:=Option.bind_eq_some_iff.1 h
  cases h;exact Q9 d I h2 Z hd (d8 J) hr G
 |oR x=>
  simp only[lC] at h
  split at h
  ·rename_i A;cases h;exact pj A G
  ·rename_i A;cases h;exact RX A G
  ·rename_i A;cases h;exact RY A G
  ·rename_i A;cases h;exact RZ A G
  cases h
 |sub x off n w=>
  simp only[lC] at h
  split at h
  ·rename_i A
   cases w with
   |true=>
    obtain⟨I,h2⟩:=nE h
    cases h2;exact TS A I G
   |false=>
    obtain⟨I,h2⟩:=nE h
    obtain⟨u,J,K⟩:=Option.bind_eq_some_iff.1 h2
    obtain rfl:=d8 I
    cases K;exact Cn A J G
  cases h
 |ri x i=>
  simp only[lC] at h
  split at h
  ·rename_i A
   obtain⟨u,J,K⟩:=Option.bind_eq_some_iff.1 h
   cases K;exact TJ A J G
  cases h
 |un op x=>
  simp only[lC] at h
  split at h
  ·split at h
   ·rename_i A;cases h;exact jv A G
   cases h
  cases h
 |nR f first l=>
  simp only[lC] at h
  split at h
  ·obtain⟨u,J,K⟩:=Option.bind_eq_some_iff.1 h
   cases K;exact TU J G
  cases h
 |uJ t x=>
  obtain⟨u,A,h⟩:=Option.bind_eq_some_iff.1 h
  cases h;exact TV A G
 |len x=>
  simp only[lC] at h
  split at h
  ·rename_i A;cases h;exact MB A G
  ·rename_i A;cases h;exact LH A G
  ·rename_i A;cases h;exact TH A G
  ·rename_i A;cases h;exact zw A G
  cases h
 |o3 x=>
  simp only[lC] at h
  split at h
  ·rename_i A;cases h;exact TI A G
  cases h
 |conv k x=>
  simp only[lC] at h
  split at h
  ·rename_i A;cases h;exact Cj A G
  cases h
 |bin op x y=>
  simp only[lC] at h
  split at h
  ·rename_i A
   split at h
   ·rename_i O
    split at h
    ·rename_i hk
     subst hk
     obtain⟨r,J,K⟩:=Option.bind_eq_some_iff.1 h
     cases K
     cases op<;>simp only[OI] at J<;>(first|cases J)<;>first|exact GO A O G|exact r8 A O G|exact pH A O G|exact zT A O G|exact hH A O G|exact iu A O G
    cases h
   cases h
  cases h
 |pick c x y=>
  simp only[lC] at h
  split at h
  ·rename_i U
   obtain⟨u,J,K⟩:=Option.bind_eq_some_iff.1 h
   cases K;exact K0 U J G
  ·rename_i U
   obtain⟨u,J,K⟩:=Option.bind_eq_some_iff.1 h
   cases K;exact K1 U J G
  cases h
 |eqv c neg x y=>
  simp only[lC] at h
  split at h
  ·split at h
   ·rename_i O
    obtain⟨u,A,h⟩:=Option.bind_eq_some_iff.1 h
    obtain⟨t,ht,h⟩:=Option.bind_eq_some_iff.1 h
    cases h;exact SO A O ht G
   cases h
  cases h
 |_=>cases h
def OJ(VE:b0)(v:VV):Option Key→b0
 |some k=>(k.n,v)::VE
 |none=>VE
def OK:Option Key→Nat
 |some k=>k.n
 |none=>0
def Hl:Nat→List bo→b0→br→Option (b0×br×List bo)
 |0,ops,VE,B=>some (VE,B,ops)
 |_+1,[],_,_=>none
 |n+1,o::r,VE,B=>match o.g with
  |none=>(lC VE B (OK o.dst) o.op).bind fun x=>Hl n r (OJ VE x.1 o.dst) x.2.1
  |some _=>none
theorem ae(n:Nat){ops:List bo}{eb:b0}{B':br}{r:List bo}(h:Hl n ops VE B=some (eb,B',r))(k:VO T r eb B' Q):VO T ops VE B Q:=by
 induction n generalizing ops VE B with
 |zero=>cases h;exact k
 |succ n z=>
  cases ops with
  |nil=>cases h
  |cons o rest=>
   obtain⟨d,g,q,op⟩:=o
   cases g with
   |some _=>cases h
   |none=>
    obtain⟨x,A,h2⟩:=Option.bind_eq_some_iff.1 h
    obtain⟨v,G,W⟩:=x
    cases d with
    |some d=>exact al (s7 A (z h2))
    |none=>exact MA (s7 A (z h2))
def Hp(VE:b0)(B:br)(W:List Nat):bE→FL
 |.load _ _ a=>match a.vv VE with
  |some (.vp b _)=>match aY B b with
   |some (.one _ _ _)=>.rd [b]
   |_=>sv W
  |_=>sv W
 |_=>sv W
def Hq:Nat→List bo→b0→br→List FL→Option (b0×br×List FL×List bo)
 |0,ops,VE,B,fl=>some (VE,B,fl,ops)
 |_+1,[],_,_,_=>none
 |n+1,o::r,VE,B,fl=>match o.g with
  |none=>(lC VE B (OK o.dst) o.op).bind fun x=>match o.q with
   |none=>match o.dst with
    |some k=>Hq n r ((k.n,x.1)::VE) x.2.1 fl
    |none=>none
   |some l=>gd (nG x.2.2 l fl) (Hq n r (OJ VE x.1 o.dst) x.2.1 ((match o.dst with|none=>sv x.2.2|some _=>Hp VE B x.2.2 o.op)::fl))
  |some _=>none
theorem SS{fl:List FL}{d:Key}{l:List Nat}{op:bE}{W:List Nat}{r:List bo}{v:VV}{B':br}(z:lC VE B d.n op=some (v,B',W))(hk:nG W l fl=true)(h:VQ T r ((d.n,v)::VE) B' (Hp VE B W op::fl) Q):VQ T (⟨some d,none,some l,op⟩::r) VE B fl Q:=by
 cases op with
 |load n w a=>
  simp only[Hp] at h
  split at h
  ·rename_i A
   split at h
   ·rename_i G
    have I:W=[]:=by
     simp only[lC,A,G] at z
     cases w
     ·obtain⟨_,z⟩:=nE z
      obtain⟨u,_,J⟩:=Option.bind_eq_some_iff.1 z
      cases J;rfl
     obtain⟨_,z⟩:=nE z
     cases z;rfl
    subst I
    exact SR A G trivial hk (s7 z h)
   exact eJ hk (s7 z h)
  exact eJ hk (s7 z h)
 |_=>exact eJ hk (s7 z h)
theorem bm(n:Nat){ops:List bo}{fl z:List FL}{eb:b0}{B':br}{r:List bo}(h:Hq n ops VE B fl=some (eb,B',z,r))(k:VQ T r eb B' z Q):VQ T ops VE B fl Q:=by
 induction n generalizing ops VE B fl with
 |zero=>cases h;exact k
 |succ n A=>
  cases ops with
  |nil=>cases h
  |cons o rest=>
   obtain⟨d,g,q,op⟩:=o
   cases g with
   |some _=>cases h
   |none=>
    obtain⟨x,G,h2⟩:=Option.bind_eq_some_iff.1 h
    obtain⟨v,K,W⟩:=x
    cases q with
    |none=>
     cases d with
     |some d=>exact dE (s7 G (A h2))
     |none=>cases h2
    |some l=>
     obtain⟨I,J⟩:=nE h2
     cases d with
     |some d=>exact SS G I (A J)
     |none=>exact SA I (s7 G (A J))
theorem ai{a:List bo}{c:IC}{R:Ex→b0→br→Prop}(h:VO T a VE B fun eb B'=>VC T c eb B' R):VC T (.seq (.region false a) c) VE B R:=aM (bG h)
theorem eU{a:List bo}{c:IC}{R:Ex→b0→br→Prop}(h:VQ T a VE B [] fun eb B'=>VC T c eb B' R):VC T (.seq (.region true a) c) VE B R:=aM (iK h)
theorem ak(n:Nat){a:List bo}{c:IC}{R:Ex→b0→br→Prop}{eb:b0}{B':br}(h:Hl n a VE B=some (eb,B',[]))(k:VC T c eb B' R):VC T (.seq (.region false a) c) VE B R:=ai (ae n h (af k))
end Go.Ev
namespace Go.Ev.Pp
open Go
def jl:List (Nat×Nat):=[(1000,1000),(1050,1050)]
section
variable{T:bf}{VE:b0}{B:br}
theorem Hr{f:Nat}{l:List aF}{bZ:List VV}{p A:PS}{R:VV}{Q:VV→br→Prop}(h:bV T f bZ p.bi fun r Bn=>r=R∧Bn=A.bi)(G:aY B 1000=some (.one 97 80 p.row))(h2:aY B 1050=some (.acc 116 88 8 (p.ex.map aL.enc)))
  (I:(kA 2000 VE&&(kB 2000 B&&clean VE (eE jl B) jl))=true) (J:iW VE l=some (iI jl 2000 bZ)) (K:R.cu jl 2000=R) (O:Q R (A.bi++eE jl B)):VI T (.call f l) VE B [1000,1050] Q:=by
 obtain⟨U,z⟩:=iw I
 obtain⟨z,Y⟩:=iw z
 exact jI (Bi:=p.bi) jl 2000 rfl rfl U z rfl Y J ⟨rfl,G,rfl,h2,trivial⟩ h fun r Bn hp=>by
  obtain⟨rfl,rfl⟩:=hp
  rw[K]
  exact O
theorem bh{d:Key}{A:Option (List Nat)}{r:List bo}{f:Nat}{l:List aF}{bZ:List VV}{p z:PS}{R:VV}{Q:b0→br→Prop}(h:bV T f bZ p.bi fun r Bn=>r=R∧Bn=z.bi)(G:aY B 1000=some (.one 97 80 p.row))(h2:aY B 1050=some (.acc 116 88 8 (p.ex.map aL.enc)))
  (I:(kA 2000 VE&&(kB 2000 B&&clean VE (eE jl B) jl))=true) (J:iW VE l=some (iI jl 2000 bZ)) (K:R.cu jl 2000=R) (O:VO T r ((d.n,R)::VE) (z.bi++eE jl B) Q):VO T (⟨some d,none,A,.call f l⟩::r) VE B Q:=al (Hr h G h2 I J K O)
theorem mR{d:Key}{m:List Nat}{fl:List FL}{r:List bo}{f:Nat}{l:List aF}{bZ:List VV}{p z:PS}{R:VV}{Q:b0→br→Prop}(h:bV T f bZ p.bi fun r Bn=>r=R∧Bn=z.bi)(hk:nG [1000,1050] m fl=true)(A:aY B 1000=some (.one 97 80 p.row))(h2:aY B 1050=some (.acc 116 88 8 (p.ex.map aL.enc)))
  (G:(kA 2000 VE&&(kB 2000 B&&clean VE (eE jl B) jl))=true) (I:iW VE l=some (iI jl 2000 bZ)) (J:R.cu jl 2000=R) (K:VQ T r ((d.n,R)::VE) (z.bi++eE jl B) (.un::fl) Q):VQ T (⟨some d,none,some m,.call f l⟩::r) VE B fl Q:=eJ hk (Hr h A h2 G I J K)
end
open Go
set_option maxRecDepth 10000
structure FT(T:bf):Prop where
 f3:T.ft.get 3=some i3
 f5:T.ft.get 5=some i5
 f6:T.ft.get 6=some i6
 f7:T.ft.get 7=some i7
 f10:T.ft.get 10=some i10
 f11:T.ft.get 11=some i11
 f12:T.ft.get 12=some i12
 f13:T.ft.get 13=some i13
 f14:T.ft.get 14=some i14
 f15:T.ft.get 15=some i15
 f16:T.ft.get 16=some i16
 f27:T.ft.get 27=some i27
 f28:T.ft.get 28=some i28
 f29:T.ft.get 29=some i29
 f30:T.ft.get 30=some i30
 f31:T.ft.get 31=some i31
 f32:T.ft.get 32=some i32
 f33:T.ft.get 33=some i33
 f34:T.ft.get 34=some i34
 f35:T.ft.get 35=some i35
 f36:T.ft.get 36=some i36
 f37:T.ft.get 37=some i37
 Pw:T.ft.get 38=some i38
 f39:T.ft.get 39=some i39
 f40:T.ft.get 40=some i40
 f41:T.ft.get 41=some i41
 f42:T.ft.get 42=some i42
 f69:T.ft.get 69=some i69
 f72:T.ft.get 72=some i72
 f77:T.ft.get 77=some i77
 f78:T.ft.get 78=some i78
 f79:T.ft.get 79=some i79
 f80:T.ft.get 80=some hO
 f81:T.ft.get 81=some i81
 f82:T.ft.get 82=some i82
 f83:T.ft.get 83=some i83
 f84:T.ft.get 84=some i84
 f85:T.ft.get 85=some i85
 f86:T.ft.get 86=some i86
 f87:T.ft.get 87=some i87
 f88:T.ft.get 88=some i88
 Px:T.ft.get 89=some i89
 Py:T.ft.get 90=some i90
 Pz:T.ft.get 91=some i91
 f92:T.ft.get 92=some i92
 f93:T.ft.get 93=some i93
 f94:T.ft.get 94=some i94
 f95:T.ft.get 95=some i95
 f96:T.ft.get 96=some i96
 f97:T.ft.get 97=some i97
 f98:T.ft.get 98=some i98
 PA:T.ft.get 99=some i99
 OL:T.ft.get 100=some WO
 Yv:T.ft.get 101=some WQ
 Yw:T.ft.get 102=some WR
 Yx:T.ft.get 110=some WS
 Yy:T.ft.get 116=some WT
 Yz:T.ft.get 117=some WU
 YA:T.ft.get 118=some WV
 YB:T.ft.get 119=some WW
 YC:T.ft.get 120=some WX
 YD:T.ft.get 121=some WY
 YE:T.ft.get 122=some WZ
 YF:T.ft.get 123=some W0
 YG:T.ft.get 124=some W2
 YH:T.ft.get 125=some W3
 YI:T.ft.get 126=some W4
 YJ:T.ft.get 127=some W5
 YK:T.ft.get 128=some W6
 YL:T.ft.get 129=some W7
 OM:T.ft.get 130=some W8
 YM:T.ft.get 131=some W9
 YN:T.ft.get 132=some Xa
 YO:T.ft.get 133=some Xb
 YP:T.ft.get 134=some Xc
 YQ:T.ft.get 135=some Xd
 YS:T.ft.get 136=some Xe
 YT:T.ft.get 137=some Xf
 YU:T.ft.get 138=some Xg
 YV:T.ft.get 139=some Xh
 ON:T.ft.get 140=some Xi
 YW:T.ft.get 141=some Xj
 YX:T.ft.get 142=some Xk
 YY:T.ft.get 143=some Xl
 YZ:T.ft.get 144=some Xm
 Y0:T.ft.get 145=some Xn
 Y1:T.ft.get 146=some Xo
 Y2:T.ft.get 147=some Xp
 Y3:T.ft.get 148=some Xq
 Y4:T.ft.get 149=some Xr
 OO:T.ft.get 150=some Xs
 Y5:T.ft.get 151=some Xt
 uN:T.ft.get 152=some Xu
 Y6:T.ft.get 153=some Xv
 Y7:T.ft.get 155=some Xw
 Y8:T.ft.get 156=some Xx
 Y9:T.ft.get 157=some Xy
 Y':T.ft.get 168=some Xz
 Za:T.ft.get 169=some XA
 Zb:T.ft.get 170=some XC
 Zc:T.ft.get 171=some XD
 Zd:T.ft.get 172=some XE
 Ze:T.ft.get 173=some XF
 Zf:T.ft.get 174=some XG
 Zg:T.ft.get 175=some XH
 Zh:T.ft.get 176=some XI
 Zi:T.ft.get 177=some XJ
 OP:T.ft.get 179=some XK
 Zj:T.ft.get 180=some XL
 Zk:T.ft.get 181=some XM
 Zl:T.ft.get 182=some XN
 Zm:T.ft.get 183=some XO
 Zn:T.ft.get 184=some XP
 Zo:T.ft.get 185=some XQ
 Zp:T.ft.get 186=some XR
 Zq:T.ft.get 187=some XS
 Zr:T.ft.get 190=some XT
 Zs:T.ft.get 191=some XU
 Zt:T.ft.get 192=some XV
 Zu:T.ft.get 198=some XW
 Zv:T.ft.get 199=some XX
 Zw:T.ft.get 203=some XY
 Zx:T.ft.get 205=some XZ
 Zy:T.ft.get 206=some X1
 Zz:T.ft.get 207=some X2
 ZA:T.ft.get 208=some X3
 ZB:T.ft.get 209=some X4
 ZC:T.ft.get 211=some X5
 ZD:T.ft.get 212=some X6
 ZE:T.ft.get 213=some X7
 ZF:T.ft.get 214=some X8
 ZG:T.ft.get 215=some X9
 ZH:T.ft.get 216=some Ya
 ZI:T.ft.get 217=some Yb
 ZJ:T.ft.get 229=some Yc
 ZK:T.ft.get 234=some Yd
 ZL:T.ft.get 235=some Ye
 ZM:T.ft.get 236=some Yf
 ZN:T.ft.get 238=some Yg
 ZO:T.ft.get 239=some Yh
 ZP:T.ft.get 240=some Yi
 ZQ:T.ft.get 241=some Yj
 ZR:T.ft.get 247=some Yk
 ZS:T.ft.get 248=some Yl
 ZT:T.ft.get 249=some Ym
 ZU:T.ft.get 250=some Yn
 ZV:T.ft.get 251=some Yo
 ZW:T.ft.get 252=some Yp
 ZX:T.ft.get 253=some Yq
 ZY:T.ft.get 254=some Yr
 ZZ:T.ft.get 255=some Ys
 Z0:T.ft.get 256=some Yt
 Z1:T.ft.get 257=some Yu
open Go
structure g7(T:bf)(D:Rd):Prop where
 uint:∀s,nA s→Sound T 154 [dS s,dI 10,dI 64] fun r=>r= .tuple [.d (.i .u64 (dV s:Nat)),.k .gA]
 sint:∀neg s,nA s→Sound T 210 [dS (if neg=true then 45::s else s),dI 10,dI 64] fun r=>∃n e,r= .tuple [dI n,e]∧((∃m,D.int neg s=some m∧n=m∧e= .k .gA)∨(D.int neg s=none∧e= .jq))
 day:∀s:List UInt8,s.length≤200→Sound T 187 [dS s] fun r=>r= .tuple [dI (D.day s).1,dI (D.day s).2]
 im:∀s:List UInt8,s.length≤200→Sound T 184 [dS s] fun r=>r= .tuple [.agg [dI (D.im s).1.1,dI (D.im s).1.2],dI (D.im s).2]
theorem BU{s:List UInt8}(h:nA s):dV s<10^19:=by
 obtain⟨_,h2,z⟩:=h
 have aux:∀(s:List UInt8)(n:Nat),(∀c,c∈s→48≤c.toNat∧c.toNat≤57)→s.foldl (fun n c=>n*10+(c.toNat-48)) n<(n+1)*10^s.length:=by
  intro s
  induction s with
  |nil=>intro n _;simp
  |cons c r G=>
   intro n A
   have K:=A c (lF ..)
   have h2:=G (n*10+(c.toNat-48)) fun d I=>A d (o0 _ I)
   have z:(n*10+(c.toNat-48)+1)*10^r.length≤((n+1)*10)*10^r.length:=kN _ (by omega)
   calc _<_:=h2
    _≤_:=z
    _=(n+1)*10^(r.length+1):=by rw[yb,Av,mI 10]
 have J:=aux s 0 z
 have O:10^s.length≤10^19:=Ax (by decide) h2
 have U:dV s<(0+1)*10^s.length:=J
 omega
theorem vX{σ:List (Nat×Nat)}{N:Nat}{B L:br}{p:PS}(z:(aY σ 1000).isSome=true)(h2:aY B (cu σ N 1000)=some ((BS.one 97 80 p.row).cu σ N))(A:(aY σ 1050).isSome=true)(G:aY B (cu σ N 1050)=some ((BS.acc 116 88 8 (p.ex.map aL.enc)).cu σ N))(I:qy σ N L B):qy σ N (p.bi++L) B:=⟨z,h2,A,G,I⟩
open Go
set_option maxRecDepth 10000
theorem tok{T:bf}(F:FT T){p:PS}(hp:p.ok):bV T 89 [.vp 1000 0] (PS.bi p) fun r Bn=>r=ep p.tok.enc∧Bn=PS.bi p:=by
 refine cl F.Px aa ?_
 have z:(p.ay.map cL.enc)[p.aI]?=some p.tok.enc:=by rw[iO,hp.get];rfl
 refine ak 1 aa (eU (bm 8 aa (dE (lS (row:=p.tok.enc) aa aa z aa ?_))))
 refine bm 2 aa (da ?_)
 exact ax (⟨_,PS.bi p,aa,cH aa aa,aa,aa⟩)
theorem fail{T:bf}(F:FT T){p:PS}(hp:p.ok)(e:Int):bV T 90 [.vp 1000 0,dI e] (PS.bi p) fun r Bn=>r= .tuple []∧Bn=PS.bi (p.fail e):=by
 refine cl F.Py aa (ak 5 aa (aJ aa (fun z=>?_) (fun z=>?_)))
 ·have h0:p.err=0:=by simpa using z
  refine bG (ae 4 aa (bh (tok F hp) aa aa aa aa aa (ae 7 aa (af ?_))))
  exact⟨_,PS.bi {p with err:=e,pos:=p.tok.pos},rfl,cH rfl rfl,rfl,by unfold PS.fail;rw[aq h0]⟩
 refine aT ?_
 exact⟨_,PS.bi p,rfl,cH rfl rfl,rfl,by unfold PS.fail;rw[aj (by simpa using z)]⟩
theorem next{T:bf}(F:FT T){p:PS}(hp:p.ok)(k:Int)(s:List UInt8):bV T 179 [.vp 1000 0,dI k,dS s] (PS.bi p) fun r Bn=>r=dB (p.next k s)∧Bn=PS.bi p:=by
 refine cl F.OP aa (ak 1 aa (ai (ae 1 aa (bh (tok F hp) aa aa aa aa aa (ae 2 aa (af ?_))))))
 refine ai (ae 6 aa (cX (g:=bb) aa (fun z=>?_) (fun z=>?_)))
 ·have h0:p.err=0:=by simpa using z
  refine ao aa (z) (dq aa ?_)
  refine ao aa (z) (cW aa aa aa ?_)
  refine ao aa (z) (bM aa ?_)
  refine ao aa (z) (hH aa aa ?_)
  refine al (cS aa (z) aa ?_)
  refine ae 1 aa (cX (g:=bx) aa (fun A=>?_) (fun A=>?_))
  ·refine ao aa (A) (dq aa ?_)
   refine ao aa (A) (cW aa aa aa ?_)
   refine ao aa (A) (bM aa ?_)
   refine ao aa (A) (oj aa aa ?_)
   refine al (cS aa (A) aa ?_)
   refine ae 1 aa (af ?_)
   refine ax (⟨_,PS.bi p,aa,cH aa aa,?_,aa⟩)
   clear F hp
   simp_all [gx,PS.next]
  refine d6 aa (A) (d6 aa (A) (d6 aa (A) (d6 aa (A) (al (cI aa (A) aa ?_)))))
  refine ae 1 aa (af ?_)
  refine ax (⟨_,PS.bi p,aa,cH aa aa,?_,aa⟩)
  clear F hp
  simp_all [gx,PS.next]
 refine d6 aa (z) (d6 aa (z) (d6 aa (z) (d6 aa (z) (al (cI aa (z) aa ?_)))))
 refine ae 1 aa (d6 aa aa (d6 aa aa (d6 aa aa (d6 aa aa (ae 2 aa (af ?_))))))
 refine ax (⟨_,PS.bi p,aa,cH aa aa,?_,aa⟩)
 clear F hp
 simp_all [gx,PS.next]
theorem accept{T:bf}(F:FT T){p:PS}(hp:p.ok){k:Int}(hk:k≠6)(s:List UInt8):bV T 140 [.vp 1000 0,dI k,dS s] (PS.bi p) fun r Bn=>r=dB (p.accept k s).1∧Bn=PS.bi (p.accept k s).2:=by
 refine cl F.ON aa (ak 1 aa (aM (ai (ae 3 aa (bh (next F hp k s) aa aa aa aa aa (ae 1 aa (af ?_)))))))
 refine aJ aa (fun z=>?_) (fun z=>?_)
 ·have A:p.next k s=false:=by simpa using z
  refine ak 1 aa (ax ?_)
  exact⟨_,PS.bi p,rfl,cH rfl rfl,by unfold PS.accept;rw[A];rfl,by unfold PS.accept;rw[A];rfl⟩
 have A:p.next k s=true:=by simpa using z
 have dR:=PS.kR hp hk A
 have fi:=hp.dY
 refine aT (ai (ae 4 aa ?_))
 refine al (cV rfl rfl (by omega) ?_)
 refine ae 3 aa (af ?_)
 refine ak 1 aa (ax ?_)
 exact⟨_,PS.bi p.step,rfl,cH rfl rfl,by unfold PS.accept;rw[aq A];rfl,by unfold PS.accept;rw[aq A]⟩
theorem keyword{T:bf}(F:FT T){p:PS}(hp:p.ok)(s:List UInt8):bV T 91 [.vp 1000 0,dS s] (PS.bi p) fun r Bn=>r=dB (p.keyword s).1∧Bn=PS.bi (p.keyword s).2:=by
 refine cl F.Pz aa (ak 1 aa (ai (ae 2 aa ?_)))
 refine bh (accept F hp (by decide) s) rfl rfl rfl rfl rfl ?_
 refine ae 1 aa (af ?_)
 exact ax (⟨_,PS.bi (p.accept 1 s).2,aa,cH aa aa,aa,aa⟩)
theorem sign{T:bf}(F:FT T){p:PS}(hp:p.ok)(s:List UInt8):bV T 144 [.vp 1000 0,dS s] (PS.bi p) fun r Bn=>r=dB (p.sign s).1∧Bn=PS.bi (p.sign s).2:=by
 refine cl F.YZ aa (ak 1 aa (ai (ae 2 aa ?_)))
 refine bh (accept F hp (by decide) s) rfl rfl rfl rfl rfl ?_
 refine ae 1 aa (af ?_)
 exact ax (⟨_,PS.bi (p.accept 5 s).2,aa,cH aa aa,aa,aa⟩)
theorem bw{T:bf}(F:FT T){p:PS}(hp:p.ok)(s:List UInt8):bV T 142 [.vp 1000 0,dS s] (PS.bi p) fun r Bn=>r= .tuple []∧Bn=PS.bi (p.bw s):=by
 refine cl F.YX aa (ai (ae 2 aa (bh (sign F hp s) aa aa aa aa aa (ae 1 aa (af ?_)))))
 refine aJ aa (fun z=>?_) (fun z=>?_)
 ·refine bG (ae 1 aa (bh (fail F (PS.zz hp s) 5) aa aa aa aa aa (af ?_)))
  exact⟨_,PS.bi ((p.sign s).2.fail 5),rfl,cH rfl rfl,rfl,by unfold PS.bw;rw[aj (by simpa using z)]⟩
 refine aT ?_
 exact⟨_,PS.bi (p.sign s).2,rfl,cH rfl rfl,rfl,by unfold PS.bw;rw[aq (by simpa using z)]⟩
theorem enter{T:bf}(F:FT T){p:PS}(hp:p.ok):bV T 251 [.vp 1000 0] (PS.bi p) fun r Bn=>r=dB p.enter.1∧Bn=PS.bi p.enter.2:=by
 refine cl F.ZV aa (ak 1 aa (aM (ak 5 aa (aJ aa (fun A=>?_) (fun A=>?_)))))
 ·have z:p.depth=60:=by simp at A;omega
  refine ai (ae 1 aa (bh (fail F hp 19) aa aa aa aa aa (af (ak 1 aa (ax ?_)))))
  exact⟨_,PS.bi (p.fail 19),rfl,cH rfl rfl,by unfold PS.enter;rw[aq z];rfl,by unfold PS.enter;rw[aq z]⟩
 have z:¬p.depth=60:=by simp at A;omega
 have hle:=hp.kD
 refine aT (ai (ae 4 aa ?_))
 refine al (cV rfl rfl (by omega) ?_)
 refine ae 3 aa (af ?_)
 refine ak 1 aa (ax ?_)
 exact⟨_,PS.bi {p with depth:=p.depth+1},rfl,cH rfl rfl,by unfold PS.enter;rw[aj z];rfl,by unfold PS.enter;rw[aj z]⟩
theorem push{T:bf}(F:FT T){p:PS}(z:p.ex.length≤5000)(e:aL):bV T 215 [.vp 1000 0,ep e.enc] (PS.bi p) fun r Bn=>r=dI (p.push e).1∧Bn=PS.bi (p.push e).2:=by
 refine cl F.ZG aa (ak 2 aa (eU (bm 7 aa ?_)))
 refine eJ rfl (eu (rows:=p.ex.map aL.enc) (ys:=[e.enc]) rfl rfl rfl (.bs (rows:=[e.enc]) rfl) (bS rfl) (by rw[bJ,cF];simp only[dj,dJ];omega) (fun h=>by rw[h];rfl) (fun h=>by unfold PS.bi PS.row;rw[h];rfl) ?_)
 refine bm 3 aa (da ?_)
 refine ai (ae 5 aa ?_)
 refine al (gi rfl rfl (by simp only[bJ,cF,dj,dJ,aZ];omega) (by simp only[bJ,cF,dj,dJ,aZ];omega) ?_)
 refine ae 1 aa (af ?_)
 refine ax (⟨_,PS.bi (p.push e).2,aa,cH (p:=(p.push e).2) ?_ ?_,?_,aa⟩)
 ·simp only[PS.push,PS.row,dX,ez,fw];rfl
 ·simp only[PS.push,PS.row,dX,ez,fw];rfl
 simp[gx,PS.push]
theorem aU{T:bf}(F:FT T){p:PS}(hp:p.ok)(l:List (List UInt8))(Y:l.length≤100):bV T 100 [.vp 1000 0,.d (.sl (l.map fun s=>[cJ s]))] (PS.bi p) fun r Bn=>r= .tuple []∧Bn=PS.bi (p.aU l):=by
 refine cl F.OL aa (ak 3 aa (bN (d7 (fun k VE B=>∃i:Nat,i≤l.length∧k=l.length-i∧bu [(0,.vp 1000 0),(6,.d (.sl (l.map fun s=>[cJ s]))),(7,dI ((l.map fun s=>[cJ s]).length:Nat)),(8,dI (i:Nat))] VE∧bu (PS.bi ((l.take i).foldl PS.fM p)) B) ?_ (k:=l.length) ⟨0,dh _,aa,⟨aa,aa,aa,aa,trivial⟩,cH aa aa⟩)))
 rintro k VE B⟨i,hi,rfl,U,G⟩
 refine ey (PS.bi ((l.take i).foldl PS.fM p)++[]) G ?_
 have G:bu (PS.bi ((l.take i).foldl PS.fM p)++[]) (PS.bi ((l.take i).foldl PS.fM p)++[]):=di rfl rfl trivial
 have O:PS.ok ((l.take i).foldl PS.fM p):=PS.Fx (l:=l.take i) hp
 refine dy _ _ U G (ak 1 aa (aM (aJ aa (fun I=>?_) (fun I=>?_))))
 ·have dR:i<l.length:=by simpa using I
  obtain⟨x,J⟩:∃x,l[i]?=some x:=⟨_,eY dR⟩
  have A:(l.map fun s=>[cJ s])[i]?=some [cJ x]:=by rw[iO,J];rfl
  refine aT (aM (bN (ai (al (lS aa aa A aa ?_)))))
  refine ae 2 aa (af ?_)
  refine ai (ae 2 aa (bh (keyword F O x) aa aa aa aa aa (ae 1 aa (af ?_))))
  refine aJ aa (fun z=>?_) (fun z=>?_)
  ·refine bG (ae 1 aa (bh (fail F (PS.wH O x) 5) aa aa aa aa aa (af (bG ?_))))
   refine al (cV rfl rfl (by omega) ?_)
   refine ae 1 aa (af ?_)
   refine⟨l.length-(i+1),by omega,i+1,by omega,rfl,⟨rfl,rfl,rfl,rfl,trivial⟩,?_⟩
   rw[xC,J,xD]
   rw[show List.foldl PS.fM ((l.take i).foldl PS.fM p) (some x).toList=PS.fM ((l.take i).foldl PS.fM p) x from rfl,PS.zy (by simpa using z)];exact cH rfl rfl
  refine aT (bG ?_)
  refine al (cV rfl rfl (by omega) ?_)
  refine ae 1 aa (af ?_)
  refine⟨l.length-(i+1),by omega,i+1,by omega,rfl,⟨rfl,rfl,rfl,rfl,trivial⟩,?_⟩
  rw[xC,J,xD]
  rw[show List.foldl PS.fM ((l.take i).foldl PS.fM p) (some x).toList=PS.fM ((l.take i).foldl PS.fM p) x from rfl,PS.Co (by simpa using z)];exact cH rfl rfl
 have K:l.length≤i:=by simpa using I
 refine dM (⟨_,PS.bi ((l.take i).foldl PS.fM p),aa,cH aa aa,aa,?_⟩)
 rw[qq K];rfl
end Go.Ev.Pp
