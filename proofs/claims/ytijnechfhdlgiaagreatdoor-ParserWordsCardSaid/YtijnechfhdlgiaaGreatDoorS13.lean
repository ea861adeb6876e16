/- Part 13 of rules for walks through the code of a program, and of such walks; what each part proves is said by its theorems. -/
import Derived.Test.YtijnechfhdlgiaaGreatDoorS11
import Derived.Test.YtijnechfhdlgiaaGreatDoorS12
set_option linter.unusedVariables false
set_option linter.unusedSimpArgs false
namespace Go.Ev.Pp
open Go
structure cM where
 kind:Int
 pos:Int
 text:List UInt8
def cM.enc(t:cM):List DC:=[.i .i64 t.kind,.i .i64 t.pos,cJ t.text]
structure gU where
 kind:Int
 n:Int
 s:List UInt8
def gU.enc(v:gU):List DC:=[.i .i64 v.kind,.i .i64 v.n,cJ v.s]
structure aL where
 kind:Int
 a:Int
 b:Int
 table:List UInt8
 name:List UInt8
 c:gU
def aL.enc(e:aL):List DC:=[.i .i64 e.kind,.i .i64 e.a,.i .i64 e.b,cJ e.table,cJ e.name,.i .i64 e.c.kind,.i .i64 e.c.n,cJ e.c.s]
def et(l:List DC):VV:=.agg (l.map .d)
structure PS where
 aA:List cM
 aJ:Nat
 pos:Int
 err:Int
 depth:Nat
 ex:List aL
structure PS.ok(p:PS):Prop where
 lt:p.aJ<p.aA.length
 dY:p.aA.length≤2000
 last:∀(i:Nat)t,p.aA[i]?=some t→(t.kind=6↔i+1=p.aA.length)
 kD:p.depth≤60
 vc:p.ex.length≤p.aJ+(if p.err=0 then 0 else 1)
def PS.row(p:PS):List VV:=[.d (.sl (p.aA.map cM.enc)),dI (p.aJ:Nat),dI p.pos,dI p.err,dI (p.depth:Nat),.ac 1050 (p.ex.map aL.enc).length 8]
def PS.bi(p:PS):br:=[(1000,.one 123 80 p.row),(1050,.acc 142 88 8 (p.ex.map aL.enc))]
def Oa:cM:=⟨0,0,[]⟩
def PS.tok(p:PS):cM:=(p.aA[p.aJ]?).getD Oa
theorem PS.ok.get{p:PS}(h:p.ok):p.aA[p.aJ]?=some p.tok:=by
 have z:p.aA[p.aJ]?=some (p.aA[p.aJ]'h.lt):=eY h.lt
 unfold PS.tok
 rw[z];rfl
def PS.fail(p:PS)(e:Int):PS:=if p.err=0 then{p with err:=e,pos:=p.tok.pos} else p
def PS.next(p:PS)(kind:Int)(text:List UInt8):Bool:=decide (p.err=0)&&(decide (p.tok.kind=kind)&&decide (p.tok.text=text))
def PS.step(p:PS):PS:={p with aJ:=p.aJ+1}
def PS.accept(p:PS)(kind:Int)(text:List UInt8):Bool×PS:=if p.next kind text then(true,p.step) else(false,p)
def PS.keyword(p:PS)(s:List UInt8):Bool×PS:=p.accept 1 s
def PS.sign(p:PS)(s:List UInt8):Bool×PS:=p.accept 5 s
def PS.fO(p:PS)(s:List UInt8):PS:=if(p.keyword s).1 then(p.keyword s).2 else(p.keyword s).2.fail 5
theorem PS.Co{p:PS}{s:List UInt8}(h:(p.keyword s).1=true):p.fO s=(p.keyword s).2:=aw h
theorem PS.zz{p:PS}{s:List UInt8}(h:(p.keyword s).1=false):p.fO s=(p.keyword s).2.fail 5:=aj (by rw[h];decide)
def PS.aW(p:PS)(l:List (List UInt8)):PS:=l.foldl PS.fO p
def PS.bx(p:PS)(s:List UInt8):PS:=if(p.sign s).1 then(p.sign s).2 else(p.sign s).2.fail 5
def PS.enter(p:PS):Bool×PS:=if p.depth=60 then(false,p.fail 19) else(true,{p with depth:=p.depth+1})
def PS.push(p:PS)(e:aL):Int×PS:=((p.ex.length:Nat),{p with ex:=p.ex++[e]})
theorem PS.xd{p:PS}(h:p.ok){e:Int}(he:e≠0):(p.fail e).ok:=by
 unfold PS.fail
 split
 ·rename_i h0
  refine⟨h.lt,h.dY,h.last,h.kD,?_⟩
  have:=h.vc
  rw[aw h0] at this
  show p.ex.length≤p.aJ+(if e=0 then 0 else 1)
  rw[aj he]
  omega
 exact h
theorem PS.kV{p:PS}(h:p.ok){kind:Int}{text:List UInt8}(hk:kind≠6)(z:p.next kind text=true):p.aJ+1<p.aA.length:=by
 unfold PS.next at z
 simp only[eZ,eV] at z
 have A:=h.last _ _ h.get
 rw[z.2.1] at A
 have h2:=h.lt
 have G:¬(p.aJ+1=p.aA.length):=fun e=>hk (A.2 e)
 omega
theorem PS.tI{p:PS}(h:p.ok)(z:p.aJ+1<p.aA.length):p.step.ok:=
 ⟨z,h.dY,h.last,h.kD,by have:=h.vc;show p.ex.length≤p.aJ+1+(if p.err=0 then 0 else 1);omega⟩
theorem PS.KA{p:PS}(h:p.ok){kind:Int}{text:List UInt8}(hk:kind≠6):(p.accept kind text).2.ok:=by
 unfold PS.accept
 split
 ·rename_i z;exact PS.tI h (PS.kV h hk z)
 exact h
theorem PS.wJ{p:PS}(h:p.ok)(s:List UInt8):(p.keyword s).2.ok:=PS.KA h (by decide)
theorem PS.zA{p:PS}(h:p.ok)(s:List UInt8):(p.sign s).2.ok:=PS.KA h (by decide)
theorem PS.S4{p:PS}(h:p.ok)(s:List UInt8):(p.fO s).ok:=by
 unfold PS.fO
 split
 ·exact PS.wJ h s
 exact PS.xd (PS.wJ h s) (by decide)
theorem PS.FD{l:List (List UInt8)}:∀{p:PS},p.ok→(p.aW l).ok:=by
 induction l with
 |nil=>intro p h;exact h
 |cons s r z=>intro p h;exact z (PS.S4 h s)
theorem PS.QT{p:PS}(h:p.ok)(s:List UInt8):(p.bx s).ok:=by
 unfold PS.bx
 split
 ·exact PS.zA h s
 exact PS.xd (PS.zA h s) (by decide)
theorem PS.S5{p:PS}(h:p.ok):p.enter.2.ok:=by
 unfold PS.enter
 split
 ·exact PS.xd h (by decide)
 rename_i z
 exact⟨h.lt,h.dY,h.last,by show p.depth+1≤60;have:=h.kD;omega,h.vc⟩
section
variable{T:bf}{VE:b0}{B L:br}
theorem dj{p:PS}(z:aZ B 1000=some (.one 123 80 p.row))(h2:aZ B 1050=some (.acc 142 88 8 (p.ex.map aL.enc)))(A:bw L B):bw (p.bi++L) B:=⟨z,h2,A⟩
theorem cI{p:PS}(z:aZ B 1000=some (.one 123 80 p.row))(h2:aZ B 1050=some (.acc 142 88 8 (p.ex.map aL.enc))):bw p.bi B:=⟨z,h2,trivial⟩
theorem ez{ops:List bt}{Q:b0→br→Prop}(B':br)(z:bw B' B)(h:VO T ops VE B' Q):VO T ops VE B Q:=fun H0 X0 E H β A=>
 (h H0 X0 E H β (A.Ap fun _ _ hk=>z.get hk)).mono fun _ _ hp=>hp.more fun _ s G I=>⟨s,z.get G,I⟩
theorem eA{c:IC}{R:Ex→b0→br→Prop}(B':br)(z:bw B' B)(h:VC T c VE B' R):VC T c VE B R:=fun H0 X0 E H β A=>
 (h H0 X0 E H β (A.Ap fun _ _ hk=>z.get hk)).mono fun _ _ _ hp=>hp.more fun _ s G I=>⟨s,z.get G,I⟩
end
open Go
def dW(s:List UInt8):Nat:=s.foldl (fun n c=>n*10+(c.toNat-48)) 0
def nA(s:List UInt8):Prop:=0<s.length∧s.length≤19∧∀c,c∈s→48≤c.toNat∧c.toNat≤57
def PS.nh(p:PS):Prop:=(∀t,t∈p.aA→t.kind=3→nA t.text)∧∀t,t∈p.aA→t.text.length≤200
theorem PS.ok.mem{p:PS}(h:p.ok):p.tok∈p.aA:=lG h.get
structure St(p:PS):Prop where
 ok:p.ok
 nh:p.nh
def PS.called(p:PS)(k:Int):Bool:=decide (p.err=0)&&decide (p.tok.kind=k)
def PS.take(p:PS)(k:Int)(e:Int):List UInt8×PS:=if p.err=0 then(if p.tok.kind=k then(if e=0 then(p.tok.text,p.step) else([],p.fail e)) else([],p.fail 5)) else([],p)
theorem PS.lv{p:PS}(h:p.ok){k:Int}(hk:k≠6)(A:p.tok.kind=k):p.aJ+1<p.aA.length:=by
 have z:=h.last _ _ h.get
 rw[A] at z
 have h2:=h.lt
 have G:¬(p.aJ+1=p.aA.length):=fun e=>hk (z.2 e)
 omega
theorem PS.Ub{p:PS}(h:p.ok){k e:Int}(hk:k≠6):(p.take k e).2.ok:=by
 unfold PS.take
 split
 ·split
  ·rename_i z
   split
   ·exact PS.tI h (PS.lv h hk z)
   rename_i he;exact PS.xd h he
  exact PS.xd h (by decide)
 exact h
def PS.name(p:PS):List UInt8×PS:=p.take 2 0
def mn(least:Int)(s:List UInt8):Int:=if(dW s:Int)<1099511627776∧least<(dW s:Int) then 0 else 10
def PS.number(p:PS)(least:Int):Int×PS:=(if p.called 3=true∧mn least p.tok.text=0 then(dW p.tok.text:Nat) else 0,(p.take 3 (mn least p.tok.text)).2)
structure Rd where
 day:List UInt8→Int×Int
 il:List UInt8→(Int×Int)×Int
 int:Bool→List UInt8→Option Int
def Rd.jO(D:Rd)(s:List UInt8):Int:=if(D.day s).2=0∧1000000≤(D.day s).1 then 10 else(D.day s).2
def PS.day(p:PS)(D:Rd):Int×PS:=(if p.called 4=true then(D.day p.tok.text).1 else 0,(p.take 4 (D.jO p.tok.text)).2)
def PS.period(p:PS)(D:Rd):(Int×Int)×PS:=(if p.called 4=true then(D.il p.tok.text).1 else(0,0),(p.take 4 (D.il p.tok.text).2).2)
def Rd.qm(D:Rd)(neg:Bool)(s:List UInt8):Int:=if(D.int neg s).isSome then 0 else 10
def PS.integer(p:PS)(D:Rd)(neg:Bool):gU×PS:=(⟨1,if p.called 3=true then(D.int neg p.tok.text).getD 0 else 0,[]⟩,(p.take 3 (D.qm neg p.tok.text)).2)
def gH:List UInt8:=[45]
def o4:List UInt8:=[84,82,85,69]
def oJ:List UInt8:=[70,65,76,83,69]
def ld:List UInt8:=[78,85,76,76]
def cM.k0(t:cM):Bool:=decide (t.kind=3)||(decide (t.kind=4)||(if t.kind=5 then decide (t.text=gH) else(decide (t.kind=1)&&(decide (t.text=o4)||(decide (t.text=oJ)||decide (t.text=ld))))))
def cq:gU:=⟨0,0,[]⟩
def PS.literal(p:PS)(D:Rd):gU×PS:=
 if p.err≠0 then(cq,p)
 else if p.tok.k0=false then(cq,p.fail 5)
 else if(p.sign gH).1=true then(p.sign gH).2.integer D true
 else if p.tok.kind=3 then p.integer D false
 else if(p.keyword o4).1=true then(⟨3,1,[]⟩,(p.keyword o4).2)
 else if(p.keyword oJ).1=true then(⟨3,0,[]⟩,(p.keyword oJ).2)
 else if(p.keyword ld).1=true then(cq,(p.keyword ld).2)
 else(⟨2,0,p.tok.text⟩,p.step)
open Go
theorem PS.vl(p:PS)(e:Int):(p.fail e).aA=p.aA:=by unfold PS.fail;split<;>rfl
theorem PS.JJ(p:PS)(k:Int)(s:List UInt8):(p.accept k s).2.aA=p.aA:=by unfold PS.accept;split<;>rfl
theorem PS.F6(p:PS)(s:List UInt8):(p.sign s).2.aA=p.aA:=PS.JJ ..
theorem PS.Fx(p:PS)(s:List UInt8):(p.keyword s).2.aA=p.aA:=PS.JJ ..
theorem PS.Rp(p:PS)(s:List UInt8):(p.fO s).aA=p.aA:=by
 unfold PS.fO;split
 ·exact PS.Fx ..
 rw[PS.vl,PS.Fx]
theorem PS.Ql(p:PS)(s:List UInt8):(p.bx s).aA=p.aA:=by
 unfold PS.bx;split
 ·exact PS.F6 ..
 rw[PS.vl,PS.F6]
theorem PS.Qm{l:List (List UInt8)}:∀{p:PS},(p.aW l).aA=p.aA:=by
 induction l with
 |nil=>intro p;rfl
 |cons s r z=>intro p;exact(z (p:=p.fO s)).trans (PS.Rp p s)
theorem PS.Rq(p:PS):p.enter.2.aA=p.aA:=by
 unfold PS.enter;split
 ·exact PS.vl ..
 rfl
theorem PS.Sc(p:PS)(k e:Int):(p.take k e).2.aA=p.aA:=by
 unfold PS.take
 split
 ·split
  ·split
   ·rfl
   exact PS.vl ..
  exact PS.vl ..
 rfl
theorem St.of{p q:PS}(h:St p)(ho:q.ok)(z:q.aA=p.aA):St q:=⟨ho,by unfold PS.nh;rw[z];exact h.nh⟩
theorem St.fail{p:PS}(h:St p){e:Int}(he:e≠0):St (p.fail e):=h.of (PS.xd h.ok he) (PS.vl ..)
theorem St.sign{p:PS}(h:St p)(s:List UInt8):St (p.sign s).2:=h.of (PS.zA h.ok s) (PS.F6 ..)
theorem St.keyword{p:PS}(h:St p)(s:List UInt8):St (p.keyword s).2:=h.of (PS.wJ h.ok s) (PS.Fx ..)
theorem St.aW{p:PS}(h:St p)(l:List (List UInt8)):St (p.aW l):=h.of (PS.FD h.ok) PS.Qm
theorem St.bx{p:PS}(h:St p)(s:List UInt8):St (p.bx s):=h.of (PS.QT h.ok s) (PS.Ql ..)
theorem St.enter{p:PS}(h:St p):St p.enter.2:=h.of (PS.S5 h.ok) (PS.Rq ..)
theorem St.take{p:PS}(h:St p){k e:Int}(hk:k≠6):St (p.take k e).2:=h.of (PS.Ub h.ok hk) (PS.Sc ..)
theorem St.name{p:PS}(h:St p):St p.name.2:=h.take (by decide)
theorem St.number{p:PS}(h:St p)(l:Int):St (p.number l).2:=h.take (by decide)
theorem St.day{p:PS}(h:St p)(D:Rd):St (p.day D).2:=h.take (by decide)
theorem St.period{p:PS}(h:St p)(D:Rd):St (p.period D).2:=h.take (by decide)
theorem St.integer{p:PS}(h:St p)(D:Rd)(n:Bool):St (p.integer D n).2:=h.take (by decide)
theorem PS.rV{p:PS}{k:Int}{s:List UInt8}(h:(p.accept k s).1=false):(p.accept k s).2=p∧p.next k s=false:=by
 unfold PS.accept at h⊢
 split at h
 ·cases h
 rename_i z;rw[aj z];exact⟨rfl,by simpa using z⟩
theorem PS.pz{p:PS}{k:Int}{s:List UInt8}(h:(p.accept k s).1=true):(p.accept k s).2=p.step∧p.next k s=true:=by
 unfold PS.accept at h⊢
 split at h
 ·rename_i z;rw[aw z];exact⟨rfl,z⟩
 cases h
theorem PS.ig{p:PS}{s:List UInt8}(h:(p.sign s).1=false):(p.sign s).2=p:=(PS.rV h).1
theorem PS.cL{p:PS}{s:List UInt8}(h:(p.keyword s).1=false):(p.keyword s).2=p:=(PS.rV h).1
theorem PS.Fy{p:PS}(h0:p.err=0)(z:p.tok.k0=true)(A:(p.sign gH).1=false)(Z:p.tok.kind≠3)(G:(p.keyword o4).1=false)(I:(p.keyword oJ).1=false)(hN:(p.keyword ld).1=false):p.tok.kind=4:=by
 have J:=(PS.rV A).2
 have K:=(PS.rV G).2
 have O:=(PS.rV I).2
 have U:=(PS.rV hN).2
 unfold PS.next at J K O U
 unfold cM.k0 at z
 by_cases Y:p.tok.kind=4
 ·exact Y
 by_cases k5:p.tok.kind=5
 ·simp_all
 by_cases k1:p.tok.kind=1
 ·simp_all
 simp_all
theorem PS.JZ{p:PS}(h:St p)(D:Rd):St (p.literal D).2:=by
 unfold PS.literal
 split
 ·exact h
 rename_i h0
 split
 ·exact h.fail (by decide)
 rename_i z
 split
 ·exact(h.sign _).integer D true
 rename_i h2
 split
 ·exact h.integer D false
 rename_i A
 split
 ·exact h.keyword _
 rename_i G
 split
 ·exact h.keyword _
 rename_i I
 split
 ·exact h.keyword _
 rename_i J
 have hk:=PS.Fy (by simpa using h0) (by simpa using z) (by simpa using h2) A (by simpa using G) (by simpa using I) (by simpa using J)
 exact h.of (PS.tI h.ok (PS.lv h.ok (k:=4) (by decide) hk)) rfl
open Go
def ed(p:PS):Nat:=if p.err=0 then 0 else 1
def PS.pk(p:PS):Prop:=p.err≠0→p.pos=p.tok.pos
structure bD(k:Nat)(p q:PS):Prop where
 st:St q
 aA:q.aA=p.aA
 depth:q.depth=p.depth
 aJ:p.aJ≤q.aJ
 sl:q.ex.length+(p.aJ+ed p)+k≤p.ex.length+(q.aJ+ed q)
 er:q.err=0→p.err=0
 pk:p.pk→q.pk
theorem bD.refl{p:PS}(h:St p):bD 0 p p:=⟨h,rfl,rfl,bY _,by omega,id,id⟩
theorem bD.trans{j k:Nat}{p q r:PS}(h:bD j p q)(g:bD k q r):bD (j+k) p r:=
 ⟨g.st,g.aA.trans h.aA,g.depth.trans h.depth,jT h.aJ g.aJ,by have:=h.sl;have:=g.sl;omega,fun k=>h.er (g.er k),fun k=>g.pk (h.pk k)⟩
theorem bD.dz{j k:Nat}{p q:PS}(h:bD j p q)(hk:k≤j):bD k p q:=⟨h.st,h.aA,h.depth,h.aJ,by have:=h.sl;omega,h.er,h.pk⟩
theorem bD.step{p:PS}(h:St p)(h0:p.err=0)(z:p.aJ+1<p.aA.length):bD 1 p p.step:=
 ⟨h.of (PS.tI h.ok z) rfl,rfl,rfl,sw _,by show p.ex.length+(p.aJ+ed p)+1≤p.ex.length+(p.aJ+1+ed p);omega,id,fun _ k=>absurd h0 k⟩
theorem bD.Ea{p:PS}(h:St p){e:Int}(he:e≠0)(h0:p.err=0):bD 1 p (p.fail e):=by
 have e1:p.fail e={p with err:=e,pos:=p.tok.pos}:=aw h0
 refine⟨h.fail he,PS.vl ..,by rw[e1],by rw[e1];exact bY _,?_,fun _=>h0,fun _ _=>by rw[e1];rfl⟩
 rw[e1]
 unfold ed
 rw[aw h0,aj he]
 show p.ex.length+(p.aJ+0)+1≤p.ex.length+(p.aJ+1)
 omega
theorem bD.fail{p:PS}(h:St p){e:Int}(he:e≠0):bD 0 p (p.fail e):=by
 by_cases h0:p.err=0
 ·exact(bD.Ea h he h0).dz (by omega)
 rw[show p.fail e=p from aj h0];exact .refl h
theorem bD.accept{p:PS}(h:St p){k:Int}(hk:k≠6){s:List UInt8}(z:(p.accept k s).1=true):bD 1 p (p.accept k s).2:=by
 obtain⟨A,h2⟩:=PS.pz z
 rw[A]
 exact .step h (by unfold PS.next at h2;simp only[eZ,eV] at h2;exact h2.1) (PS.kV h.ok hk h2)
theorem bD.sign{p:PS}(h:St p){s:List UInt8}(z:(p.sign s).1=true):bD 1 p (p.sign s).2:=.accept h (by decide) z
theorem bD.keyword{p:PS}(h:St p){s:List UInt8}(z:(p.keyword s).1=true):bD 1 p (p.keyword s).2:=.accept h (by decide) z
theorem bD.xY{p:PS}(h:St p)(s:List UInt8):bD 0 p (p.sign s).2:=by
 cases z:(p.sign s).1
 ·rw[PS.ig z];exact .refl h
 exact(bD.sign h z).dz (by omega)
theorem bD.Gg{p:PS}(h:St p)(s:List UInt8):bD 0 p (p.keyword s).2:=by
 cases z:(p.keyword s).1
 ·rw[PS.cL z];exact .refl h
 exact(bD.keyword h z).dz (by omega)
theorem bD.fO{p:PS}(h:St p)(s:List UInt8):bD 0 p (p.fO s):=by
 cases z:(p.keyword s).1
 ·rw[PS.zz z,PS.cL z];exact .fail h (by decide)
 rw[PS.Co z];exact(bD.keyword h z).dz (by omega)
theorem bD.aW{l:List (List UInt8)}:∀{p:PS},St p→bD 0 p (p.aW l):=by
 induction l with
 |nil=>intro p h;exact .refl h
 |cons s r z=>intro p h;exact(bD.fO h s).trans (z (bD.fO h s).st)
theorem bD.bx{p:PS}(h:St p)(s:List UInt8):bD 0 p (p.bx s):=by
 unfold PS.bx
 split
 ·exact bD.xY h s
 exact(bD.xY h s).trans (bD.fail (h.sign s) (by decide))
theorem bD.xZ{p:PS}(h:St p){k e:Int}(hk:k≠6)(h0:p.err=0):bD 1 p (p.take k e).2:=by
 unfold PS.take
 rw[aw h0]
 split
 ·rename_i z
  split
  ·exact .step h h0 (PS.lv h.ok hk z)
  rename_i he;exact .Ea h he h0
 exact .Ea h (by decide) h0
theorem bD.take{p:PS}(h:St p){k e:Int}(hk:k≠6):bD 0 p (p.take k e).2:=by
 by_cases h0:p.err=0
 ·exact(bD.xZ h hk h0).dz (by omega)
 unfold PS.take;rw[aj h0];exact .refl h
theorem bD.Gh{p:PS}(h:St p)(D:Rd)(h0:p.err=0):bD 1 p (p.literal D).2:=by
 unfold PS.literal
 rw[aj (by simpa using h0)]
 split
 ·exact .Ea h (by decide) h0
 rename_i I
 split
 ·rename_i h2
  exact((bD.sign h h2).trans (bD.take (h.sign _) (k:=3) (by decide))).dz (by omega)
 rename_i h2
 split
 ·exact bD.xZ h (by decide) h0
 rename_i J
 split
 ·rename_i z;exact .keyword h z
 rename_i z
 split
 ·rename_i A;exact .keyword h A
 rename_i A
 split
 ·rename_i G;exact .keyword h G
 rename_i G
 have hk:=PS.Fy h0 (by simpa using I) (by simpa using h2) J (by simpa using z) (by simpa using A) (by simpa using G)
 exact .step h h0 (PS.lv h.ok (k:=4) (by decide) hk)
theorem bD.push{k:Nat}{p q:PS}(hp:p.ok)(h:bD (k+1) p q)(e:aL):bD k p (q.push e).2:=by
 have A:=h.sl
 have h2:=hp.vc
 have z:(q.push e).2.ex.length=q.ex.length+1:=by simp[PS.push]
 refine⟨h.st.of ⟨h.st.ok.lt,h.st.ok.dY,h.st.ok.last,h.st.ok.kD,?_⟩ aa,h.aA,h.depth,h.aJ,?_,h.er,h.pk⟩
 ·rw[z]
  show q.ex.length+1≤q.aJ+ed q
  have G:p.ex.length≤p.aJ+ed p:=h2
  omega
 rw[z]
 show q.ex.length+1+(p.aJ+ed p)+k≤p.ex.length+(q.aJ+ed q)
 omega
theorem PS.ok.small{p:PS}(h:p.ok):p.ex.length≤5000:=by
 have z:=h.vc
 have h2:=h.lt
 have A:=h.dY
 split at z<;>omega
def jg:List UInt8:=[46]
def eS:List UInt8:=[42]
def nK:List UInt8:=[43]
def mS:List UInt8:=[61]
def uD:List UInt8:=[60]
def uE:List UInt8:=[62]
def cm:List UInt8:=[40]
def dL:List UInt8:=[41]
def yQ:List UInt8:=[73,83]
def wo:List UInt8:=[78,79,84]
def ma:List UInt8:=[65,78,68]
def mg:List UInt8:=[79,82]
def PS.f5(p:PS):Int×PS:=
 if(p.name.2.sign jg).1=true then((p.name.2.sign jg).2.name.2).push ⟨2,0,0,p.name.1,(p.name.2.sign jg).2.name.1,cq⟩
 else p.name.2.push ⟨2,0,0,[],p.name.1,cq⟩
def j'(sub:PS→Int×PS)(test:PS→Option (Int×PS)):Nat→Int→PS→Int×PS
 |0,a,p=>(a,p)
 |k+1,a,p=>match test p with
  |none=>(a,p)
  |some (kind,q)=>j' sub test k ((sub q).2.push ⟨kind,a,(sub q).1,[],[],cq⟩).1 ((sub q).2.push ⟨kind,a,(sub q).1,[],[],cq⟩).2
def chain(sub:PS→Int×PS)(test:PS→Option (Int×PS))(p:PS):Int×PS:=j' sub test p.aA.length (sub p).1 (sub p).2
def lB(p:PS):Option (Int×PS):=if(p.sign eS).1=true then some (5,(p.sign eS).2) else none
def kj(p:PS):Option (Int×PS):=if(p.sign gH).1=true then some (4,(p.sign gH).2) else if(p.sign nK).1=true then some (3,(p.sign nK).2) else none
def mb(p:PS):Option (Int×PS):=if(p.keyword ma).1=true then some (9,(p.keyword ma).2) else none
def mC(p:PS):Option (Int×PS):=if(p.keyword mg).1=true then some (10,(p.keyword mg).2) else none
def un(p:PS)(kind a:Int):Int×PS:=p.push ⟨kind,a,0,[],[],cq⟩
def rK(sub:PS→Int×PS)(kind a:Int)(q:PS):Int×PS:=(sub q).2.push ⟨kind,a,(sub q).1,[],[],cq⟩
def iD(sub:PS→Int×PS)(p:PS):Int×PS:=
 if((sub p).2.sign mS).1=true then rK sub 6 (sub p).1 ((sub p).2.sign mS).2
 else if((sub p).2.sign uD).1=true then rK sub 7 (sub p).1 ((sub p).2.sign uD).2
 else if((sub p).2.sign uE).1=true then rK sub 8 (sub p).1 ((sub p).2.sign uE).2
 else if((sub p).2.keyword yQ).1=true then un (((sub p).2.keyword yQ).2.aW [ld]) 12 (sub p).1
 else sub p
def PS.up(p:PS):PS:={p with depth:=p.depth-1}
def ni(sub inner:PS→Int×PS)(p:PS):Int×PS:=
 if p.next 1 wo=false then sub p
 else if p.enter.1=false then(0,p.enter.2)
 else un (inner p.enter.2.step).2.up 11 (inner p.enter.2.step).1
def lg(D:Rd)(inner:PS→Int×PS)(p:PS):Int×PS:=
 if p.err≠0 then(0,p)
 else if p.next 5 cm=true then(if p.enter.1=false then(0,p.enter.2) else((inner p.enter.2.step).1,((inner p.enter.2.step).2.bx dL).up))
 else if p.tok.kind=2 then p.f5
 else(p.literal D).2.push ⟨1,0,0,[],[],(p.literal D).1⟩
def wE(D:Rd):Nat→(PS→Int×PS)×(PS→Int×PS)
 |0=>(fun p=>(0,p),fun p=>(0,p))
 |n+1=>(chain (chain (ni (iD (chain (chain (lg D (wE D n).1) lB) kj)) (wE D n).2) mb) mC,ni (iD (chain (chain (lg D (wE D n).1) lB) kj)) (wE D n).2)
def eW(D:Rd)(n:Nat):PS→Int×PS:=lg D (wE D n).1
def e8(D:Rd)(n:Nat):PS→Int×PS:=chain (eW D n) lB
def eo(D:Rd)(n:Nat):PS→Int×PS:=chain (e8 D n) kj
def cmpL(D:Rd)(n:Nat):PS→Int×PS:=iD (eo D n)
def eE(D:Rd)(n:Nat):PS→Int×PS:=(wE D n).2
def iY(D:Rd)(n:Nat):PS→Int×PS:=chain (eE D (n+1)) mb
def lC(D:Rd)(n:Nat):PS→Int×PS:=(wE D n).1
theorem wQ(D:Rd)(n:Nat):eE D (n+1)=ni (cmpL D n) (eE D n):=rfl
open Go
theorem bD.f5{p:PS}(h:St p)(h0:p.err=0):bD 0 p p.f5.2:=by
 have z:bD 1 p p.name.2:=bD.xZ h (by decide) h0
 unfold PS.f5
 split
 ·rename_i A
  have h2:bD (1+(1+0)) p ((p.name.2.sign jg).2.name.2):=z.trans ((bD.sign z.st A).trans (bD.take (z.st.sign _) (k:=2) (e:=0) (by decide)))
  exact(bD.push h.ok (k:=1) (h2.dz (by omega)) _).dz (by omega)
 exact bD.push h.ok z _
theorem bD.j'{n:Nat}{sub:PS→Int×PS}{test:PS→Option (Int×PS)}(G:∀p,St p→p.depth+n=61→bD 0 p (sub p).2)(I:∀p kind q,St p→test p=some (kind,q)→bD 1 p q):
  ∀(k:Nat)(a:Int)(p:PS),St p→p.depth+n=61→bD 0 p (j' sub test k a p).2
 |0,a,p,h,_=>.refl h
 |k+1,a,p,h,J=>by
  unfold Pp.j'
  split
  ·exact .refl h
  rename_i kind q K
  have z:=I p kind q h K
  have h2:=z.trans (G q z.st (by rw[z.depth];exact J))
  have A:=bD.push h.ok h2 ⟨kind,a,(sub q).1,[],[],cq⟩
  exact A.trans (bD.j' G I k _ _ A.st (by rw[A.depth];exact J))
theorem bD.chain{n:Nat}{sub:PS→Int×PS}{test:PS→Option (Int×PS)}(A:∀p,St p→p.depth+n=61→bD 0 p (sub p).2)(I:∀p kind q,St p→test p=some (kind,q)→bD 1 p q){p:PS}(h:St p)(G:p.depth+n=61):bD 0 p (chain sub test p).2:=by
 have z:=A p h G
 exact z.trans (bD.j' A I _ _ _ z.st (by rw[z.depth];exact G))
theorem BT(p:PS)(kind:Int)(q:PS)(h:St p)(z:lB p=some (kind,q)):bD 1 p q:=by
 unfold lB at z
 split at z
 ·rename_i A;cases z;exact .sign h A
 cases z
theorem wZ(p:PS)(kind:Int)(q:PS)(h:St p)(z:kj p=some (kind,q)):bD 1 p q:=by
 unfold kj at z
 split at z
 ·rename_i A;cases z;exact .sign h A
 split at z
 ·rename_i A;cases z;exact .sign h A
 cases z
theorem B3(p:PS)(kind:Int)(q:PS)(h:St p)(z:mb p=some (kind,q)):bD 1 p q:=by
 unfold mb at z
 split at z
 ·rename_i A;cases z;exact .keyword h A
 cases z
theorem GC(p:PS)(kind:Int)(q:PS)(h:St p)(z:mC p=some (kind,q)):bD 1 p q:=by
 unfold mC at z
 split at z
 ·rename_i A;cases z;exact .keyword h A
 cases z
theorem bD.iD{n:Nat}{sub:PS→Int×PS}(G:∀p,St p→p.depth+n=61→bD 0 p (sub p).2){p:PS}(h:St p)(I:p.depth+n=61):bD 0 p (iD sub p).2:=by
 have A:=G p h I
 have two:∀{kind:Int}{s:List UInt8},((sub p).2.sign s).1=true→bD 0 p (rK sub kind (sub p).1 ((sub p).2.sign s).2).2:=fun{kind s}z=>by
  have h2:=A.trans (bD.sign A.st z)
  exact bD.push h.ok (k:=0) ((h2.trans (G _ h2.st (by rw[h2.depth];exact I))).dz (by omega)) _
 unfold Pp.iD
 split
 ·rename_i z;exact two z
 split
 ·rename_i z;exact two z
 split
 ·rename_i z;exact two z
 split
 ·rename_i z
  have h2:=A.trans (bD.keyword A.st z)
  exact bD.push h.ok (k:=0) ((h2.trans (bD.aW h2.st)).dz (by omega)) _
 exact A
theorem PS.GD{p:PS}(h:p.enter.1=true):p.enter.2={p with depth:=p.depth+1}∧p.depth≠60:=by
 unfold PS.enter at h⊢
 split at h
 ·cases h
 rename_i z;rw[aj z];exact⟨rfl,z⟩
theorem PS.xe{p:PS}(h:p.enter.1=false):p.enter.2=p.fail 19:=by
 unfold PS.enter at h⊢
 split at h
 ·rename_i z;rw[aw z]
 cases h
theorem St.qV{p:PS}(h:St p)(he:p.enter.1=true)(G:p.aJ+1<p.aA.length):St p.enter.2.step∧p.enter.2.step.depth=p.depth+1:=by
 obtain⟨z,h2⟩:=PS.GD he
 have A:=h.enter
 refine⟨A.of (PS.tI A.ok (by rw[z];exact G)) rfl,by rw[z];rfl⟩
theorem bD.qV{k:Nat}{p r:PS}(h:St p)(h0:p.err=0)(he:p.enter.1=true)(z:bD k p.enter.2.step r):bD (k+1) p r.up:=by
 obtain⟨A,h2⟩:=PS.GD he
 have G:=z.aA;have I:=z.depth;have J:=z.aJ;have K:=z.sl
 rw[A] at G I J K
 have b1:r.aA=p.aA:=G
 have b2:r.depth=p.depth+1:=I
 have O:p.aJ+1≤r.aJ:=J
 have U:r.ex.length+(p.aJ+1+ed p)+k≤p.ex.length+(r.aJ+ed r):=K
 refine⟨z.st.of ⟨z.st.ok.lt,z.st.ok.dY,z.st.ok.last,by show r.depth-1≤60;have:=z.st.ok.kD;omega,z.st.ok.vc⟩ rfl,b1,by show r.depth-1=p.depth;omega,by show p.aJ≤r.aJ;omega,?_,fun _=>h0,fun _=>z.pk fun k=>absurd (by rw[A];exact h0) k⟩
 show r.ex.length+(p.aJ+ed p)+(k+1)≤p.ex.length+(r.aJ+ed r)
 omega
theorem bD.ni{n:Nat}{sub inner:PS→Int×PS}(A:∀p,St p→p.depth+(n+1)=61→bD 0 p (sub p).2)(hi:∀p,St p→p.depth+n=61→bD 0 p (inner p).2){p:PS}(h:St p)(G:p.depth+(n+1)=61):bD 0 p (ni sub inner p).2:=by
 unfold Pp.ni
 split
 ·exact A p h G
 rename_i z
 split
 ·rename_i he;rw[PS.xe he];exact .fail h (by decide)
 rename_i he
 have I:=PS.kV h.ok (kind:=1) (by decide) (by simpa using z)
 obtain⟨J,h2⟩:=h.qV (by simpa using he) I
 exact bD.push h.ok (bD.qV h (by unfold PS.next at z;simp only[Bool.not_eq_false,eZ,eV] at z;exact z.1) (by simpa using he) (hi _ J (by rw[h2];omega))) _
theorem bD.lg{n:Nat}{D:Rd}{inner:PS→Int×PS}(hi:∀p,St p→p.depth+n=61→bD 0 p (inner p).2){p:PS}(h:St p)(J:p.depth+(n+1)=61):bD 0 p (lg D inner p).2:=by
 unfold Pp.lg
 split
 ·exact .refl h
 rename_i h0
 have h0:p.err=0:=by simpa using h0
 split
 ·rename_i A
  split
  ·rename_i he;rw[PS.xe he];exact .fail h (by decide)
  rename_i he
  have G:=PS.kV h.ok (kind:=5) (by decide) A
  obtain⟨I,h2⟩:=h.qV (by simpa using he) G
  have z:=hi _ I (by rw[h2];omega)
  exact(bD.qV h h0 (by simpa using he) (z.trans (bD.bx z.st dL))).dz (by omega)
 split
 ·exact .f5 h h0
 exact bD.push h.ok (bD.Gh h D h0) _
theorem pE(D:Rd):∀n,(∀p,St p→p.depth+n=61→bD 0 p (lC D n p).2)∧(∀p,St p→p.depth+n=61→bD 0 p (eE D n p).2)
 |0=>⟨fun p h _=>.refl h,fun p h _=>.refl h⟩
 |n+1=>by
  obtain⟨G,h2⟩:=pE D n
  have I:∀p,St p→p.depth+(n+1)=61→bD 0 p (eW D n p).2:=fun p h z=>bD.lg G h z
  have J:∀p,St p→p.depth+(n+1)=61→bD 0 p (e8 D n p).2:=fun p h z=>bD.chain I BT h z
  have K:∀p,St p→p.depth+(n+1)=61→bD 0 p (eo D n p).2:=fun p h z=>bD.chain J wZ h z
  have O:∀p,St p→p.depth+(n+1)=61→bD 0 p (cmpL D n p).2:=fun p h z=>bD.iD K h z
  have A:∀p,St p→p.depth+(n+1)=61→bD 0 p (eE D (n+1) p).2:=fun p h z=>bD.ni O h2 h z
  have U:∀p,St p→p.depth+(n+1)=61→bD 0 p (iY D n p).2:=fun p h z=>bD.chain A B3 h z
  exact⟨fun p h z=>bD.chain U GC h z,A⟩
theorem zh(D:Rd){n:Nat}{p:PS}(h:St p)(z:p.depth+(n+1)=61):bD 0 p (eW D n p).2:=bD.lg (pE D n).1 h z
theorem vA(D:Rd){n:Nat}{p:PS}(h:St p)(z:p.depth+(n+1)=61):bD 0 p (e8 D n p).2:=bD.chain (fun _ a b=>zh D a b) BT h z
theorem tJ(D:Rd){n:Nat}{p:PS}(h:St p)(z:p.depth+(n+1)=61):bD 0 p (eo D n p).2:=bD.chain (fun _ a b=>vA D a b) wZ h z
theorem Cp(D:Rd){n:Nat}{p:PS}(h:St p)(z:p.depth+(n+1)=61):bD 0 p (iY D n p).2:=bD.chain (fun _ a b=>(pE D (n+1)).2 _ a b) B3 h z
end Go.Ev.Pp
namespace Go.Ev
variable{T:bf}{VE:b0}{B:br}{Q:b0→br→Prop}
theorem KB{call:eF}{E:Env}{H H1:aB}{n:Nat}{w:Bool}{a:aG}{f g o:Nat}{v:an}(z:a.ev E=some (.ptr f g o))(h:(bE.load n w a).ev call E H= .ok v H1):H1=H:=by
 have key:PS H ((bE.load n w a).ev call E H):=by
  rw[Gy z]
  exact PS.iS (fun _ _ _ _ _ _ _=>PS.aH (PS.aH (PS.aH (PS.aH (PS.ob (fun _=>PS.aH (PS.iG (fun _=>PS.ok) PS.err) (PS.iG (fun _=>PS.ok) PS.err)) PS.err) PS.err) PS.err) PS.err) PS.err) PS.err
 exact key _ _ h
theorem S7{fl:List FL}{d:Key}{l:List Nat}{n:Nat}{w:Bool}{a:aG}{b o:Nat}{s:BS}{r:List bt}(ha:a.vv VE=some (.vp b o))(U:aZ B b=some s)(Y:s.born)(hk:nG [] l fl=true)(h:VI T (.load n w a) VE B [] fun v B'=>VQ T r ((d.n,v)::VE) B' (.rd [b]::fl) Q):VQ T (⟨some d,none,some l,.load n w a⟩::r) VE B fl Q:=by
 intro H0 X0 E H β A bS J
 obtain⟨N,v0,H',e,K,v,B',β',Z,O,hv,hq⟩:=zw h A
 obtain⟨x,hx,G⟩:=A.b9 ha
 simp only[aN] at G
 subst G
 have z:H'=H.mark:=KB hx (e N N (bY _) (bY _))
 have I:H.mark.ws=[]∧H.mark.next=H.next:=by cases H;exact⟨rfl,rfl⟩
 have k:uP H.next B β (.rd [b]) ⟨(bE.load n w a).reads E,H'.ws,H.next,H'.next⟩:=by
  refine⟨by rw[z];exact I.1,by show H.next=H'.next;rw[z];exact I.2.symm,[β b],?_,fun f J=>?_⟩
  ·show some (iT (a.ev E))=_
   rw[hx];rfl
  rcases List.mem_singleton.1 J with rfl
  exact⟨(A.new b s U Y).2,fun c t K h2 h3=>List.mem_singleton.2 (A.inj c b t s K U h2 Y h3)⟩
 obtain⟨N2,E2,H2,e2,hp⟩:=hq H0 X0 _ _ β' (O.set hv) (⟨(bE.load n w a).reads E,H'.ws,H.next,H'.next⟩::bS) ((J.cons k).step Z)
 refine⟨max N N2,E2,H2,fun lf n a1 a2=>?_,hp.of Z A.bc⟩
 show bt.m9 (T.call lf n) ⟨some d,none,some l,_⟩ E H bS (lU (T.call lf n) r)=_
 rw[y3,y4 (e lf n (by omega) (by omega)) (wY J K hk)]
 exact e2 lf n (by omega) (by omega)
theorem Rel.Vj{H0:Nat→Nat}{X0:Nat→Prop}{E:Env}{H:aB}{β:Nat→Nat}(h:Rel H0 X0 VE B E H β){b i e I:Nat}{row:List VV}{pb:VV}(hb:aZ B b=some (.one e I row))(hi:row[i]?=some pb):Rel H0 X0 VE ((b,.one e I (row.set i .undef))::B) E H β:=by
 have J:∀c s,aZ ((b,BS.one e I (row.set i .undef))::B) c=some s→s.born→∃t,aZ B c=some t∧t.born:=fun c s z ho=>by
  rw[en] at z
  by_cases k:b=c
  ·subst k;exact⟨_,hb,trivial⟩
  rw[aj k] at z;exact⟨s,z,ho⟩
 have hX:∀f,XB X0 ((b,BS.one e I (row.set i .undef))::B) β f→XB X0 B β f:=fun f K=>K.imp id fun⟨c,s,O,ho,h2⟩=>by
  obtain⟨t,A,G⟩:=J c s O ho
  exact⟨c,t,A,G,h2⟩
 have U:iC H (XB X0 B β) H (XB X0 ((b,BS.one e I (row.set i .undef))::B) β):=⟨bY _,fun f _ K=>⟨fun k=>K (hX f k),rfl⟩⟩
 refine⟨h.n8,h.bc,h.x0,fun c s z ho=>?_,fun c d s t z Y hs ht he=>?_,fun k v hk=>?_,fun c s z=>?_⟩
 ·obtain⟨t,A,G⟩:=J c s z ho;exact h.new c t A G
 ·obtain⟨s',A,G⟩:=J c s z hs
  obtain⟨t',Z,k4⟩:=J d t Y ht
  exact h.inj c d s' t' A Z G k4 he
 ·obtain⟨a,O,h2⟩:=h.env k v hk
  exact⟨a,O,h2.lift U⟩
 rw[en] at z
 by_cases k:b=c
 ·subst k
  rw[aw rfl] at z
  cases z
  obtain⟨l,lo,cs,A,G,Z,k4⟩:=h.box b _ hb
  exact⟨l,lo,cs,A,G,Z,bm.lift U (bm.setAt (new:=.undef) (fun a _=>trivial) k4 hi)⟩
 rw[aj k] at z;exact(h.box c s z).lift U rfl
theorem Rr{b i e A:Nat}{row:List VV}(G:aZ B b=some (.one e A row)):∀c s,aZ ((b,BS.one e A (row.set i .undef))::B) c=some s→s.born→∃t,aZ B c=some t∧t.born:=fun c s z ho=>by
 rw[en] at z
 by_cases k:b=c
 ·subst k;exact⟨_,G,trivial⟩
 rw[aj k] at z;exact⟨s,z,ho⟩
theorem js{ops:List bt}(b i:Nat){e z:Nat}{row:List VV}{pb:VV}(A:aZ B b=some (.one e z row))(hi:row[i]?=some pb)(h:VO T ops VE ((b,.one e z (row.set i .undef))::B) Q):VO T ops VE B Q:=
 fun H0 X0 E H β G=>(h H0 X0 E H β (G.Vj A hi)).mono fun _ _ hp=>hp.more (Rr A)
theorem Rel.Vk{H0:Nat→Nat}{X0:Nat→Prop}{E:Env}{H:aB}{β:Nat→Nat}(h:Rel H0 X0 VE B E H β){b i g e I elem aT es:Nat}{row:List VV}(O:aZ B b=some (.one e I row))(hi:row[i]?=some (.d .nil))(hg:aZ B g=none):Rel H0 X0 VE ((g,.acc elem aT es [])::(b,.one e I (row.set i (.ac g 0 es)))::B) E H β:=by
 have hgb:g≠b:=fun k=>by rw[k,O] at hg;cases hg
 have K:∀c s,aZ ((g,BS.acc elem aT es [])::(b,BS.one e I (row.set i (.ac g 0 es)))::B) c=some s→s.born→∃t,aZ B c=some t∧t.born:=fun c s z ho=>by
  rw[en] at z
  by_cases J:g=c
  ·rw[aw J] at z;cases z;exact absurd rfl ho
  rw[aj J,en] at z
  by_cases k:b=c
  ·subst k;exact⟨_,O,trivial⟩
  rw[aj k] at z;exact⟨s,z,ho⟩
 have hX:∀f,XB X0 ((g,BS.acc elem aT es [])::(b,BS.one e I (row.set i (.ac g 0 es)))::B) β f→XB X0 B β f:=fun f U=>U.imp id fun⟨c,s,Y,ho,h2⟩=>by
  obtain⟨t,A,G⟩:=K c s Y ho
  exact⟨c,t,A,G,h2⟩
 have Z:iC H (XB X0 B β) H (XB X0 ((g,BS.acc elem aT es [])::(b,BS.one e I (row.set i (.ac g 0 es)))::B) β):=⟨bY _,fun f _ U=>⟨fun k=>U (hX f k),rfl⟩⟩
 refine⟨h.n8,h.bc,h.x0,fun c s z ho=>?_,fun c d s t z s8 hs ht he=>?_,fun k v hk=>?_,fun c s z=>?_⟩
 ·obtain⟨t,A,G⟩:=K c s z ho;exact h.new c t A G
 ·obtain⟨s',A,G⟩:=K c s z hs
  obtain⟨t',k3,k4⟩:=K d t s8 ht
  exact h.inj c d s' t' A k3 G k4 he
 ·obtain⟨a,Y,h2⟩:=h.env k v hk
  exact⟨a,Y,h2.lift Z⟩
 rw[en] at z
 by_cases J:g=c
 ·rw[aw J] at z;cases z;exact .inl rfl
 rw[aj J,en] at z
 by_cases k:b=c
 ·subst k
  rw[aw rfl] at z
  cases z
  obtain⟨l,lo,cs,A,G,k3,k4⟩:=h.box b _ O
  exact⟨l,lo,cs,A,G,k3,bm.lift Z (bm.setAt (new:=.ac g 0 es) (fun a ha=>by simp only[aN,cO] at ha⊢;exact .inl ⟨trivial,ha⟩) k4 hi)⟩
 rw[aj k] at z;exact(h.box c s z).lift Z rfl
theorem mV{ops:List bt}(b i g elem aT es:Nat){e A:Nat}{row:List VV}(G:aZ B b=some (.one e A row))(hi:row[i]?=some (.d .nil))(J:aZ B g=none)(h:VO T ops VE ((g,.acc elem aT es [])::(b,.one e A (row.set i (.ac g 0 es)))::B) Q):VO T ops VE B Q:=
 fun H0 X0 E H β K=>(h H0 X0 E H β (K.Vk G hi J)).mono fun _ _ hp=>hp.more fun c s z ho=>by
  rw[en] at z
  by_cases I:g=c
  ·rw[aw I] at z;cases z;exact absurd rfl ho
  rw[aj I,en] at z
  by_cases k:b=c
  ·subst k;exact⟨_,G,trivial⟩
  rw[aj k] at z;exact⟨s,z,ho⟩
variable{T:bf}{VE:b0}{B:br}{Q:b0→br→Prop}
def OV(op:BinOp)(a b:Int):Option Bool:=match op with
 |.lss=>some (decide (a<b))
 |.gtr=>some (decide (b<a))
 |.leq=>some (decide (a≤b))
 |.geq=>some (decide (b≤a))
 |.eql=>some (decide (a=b))
 |.neq=>some (!decide (a=b))
 |_=>none
def gd{α:Type}(b:Bool)(x:Option α):Option α:=bif b then x else none
theorem nE{α:Type}{b:Bool}{x:Option α}{y:α}(h:gd b x=some y):b=true∧x=some y:=by
 cases b
 ·cases h
 exact⟨rfl,h⟩
theorem iv{a b:Bool}(h:(a&&b)=true):a=true∧b=true:=by simpa using h
def lD(VE:b0)(B:br)(d:Nat):bE→Option (VV×br×List Nat)
 |.nX x=>(x.vv VE).bind fun v=>some (v,B,[])
 |.nR x k=>match x.vv VE with
  |some (.vp b o)=>some (.vp b (o+k),B,[])
  |some (.rp row o)=>some (.rp row (o+k),B,[])
  |some (.bp b g j o es)=>some (.bp b g j (o+k) es,B,[])
  |_=>none
 |.load n w a=>match a.vv VE with
  |some (.vp b o)=>match aZ B b with
   |some (.one _ _ row)=>match w with
    |true=>gd (Nat.ble 1 n&&Nat.ble (o+n) row.length) (some (.agg ((row.drop o).take n),B,[]))
    |false=>gd (Nat.beq n 1) ((row[o]?).bind fun v=>some (v,B,[]))
   |_=>none
  |some (.rp row o)=>match w with
   |true=>gd (Nat.ble 1 n&&Nat.ble (o+n) row.length) (some (.agg (((row.drop o).take n).map .d),B,[]))
   |false=>gd (Nat.beq n 1) ((row[o]?).bind fun v=>some (.d v,B,[]))
  |_=>none
 |.store n a x=>match a.vv VE with
  |some (.vp b o)=>match aZ B b with
   |some (.one e G row)=>(x.vv VE).bind fun v=>v.cells.bind fun new=>gd (Nat.beq new.length n&&(Nat.ble 1 n&&Nat.ble (o+n) row.length)) (some (.undef,(b,.one e G (EK row o new))::B,[b]))
   |_=>none
  |_=>none
 |.build zero ps=>(qR zero).bind fun z=>(xu VE ps z).bind fun out=>some (.agg out,B,[])
 |.box elem es aT x=>gd (n6 d VE&&n7 d B) ((x.vv VE).bind fun v=>v.cells.bind fun c=>gd (Nat.beq c.length es) (some (.vp d 0,(d,.one elem aT c)::B,[])))
 |.cf elem es aT l=>gd (n6 d VE&&(n7 d B&&Nat.beq l.length es)) ((qR l).bind fun c=>some (.vp d 0,(d,.one elem aT c)::B,[]))
 |.cH elem es aT A zero ps=>gd (n6 d VE&&(n7 d B&&Nat.beq zero.length es)) ((qR zero).bind fun z=>(lP z).bind fun I=>(vi VE es A ps (List.replicate A I)).bind fun rows=>some (.bs d A es,(d,.arr elem aT es A rows)::B,[]))
 |.oV x=>match x.vv VE with
  |some (.vp b o)=>some (.vp b o,B,[])
  |some (.rp row o)=>some (.rp row o,B,[])
  |some (.bp b g q o es)=>some (.bp b g q o es,B,[])
  |some (.fn f c)=>some (.fn f c,B,[])
  |_=>none
 |.sub x off n w=>match x.vv VE with
  |some (.agg l)=>match w with
   |true=>gd (Nat.ble (off+n) l.length) (some (.agg ((l.drop off).take n),B,[]))
   |false=>gd (Nat.beq n 1) ((l[off]?).bind fun v=>some (v,B,[]))
  |_=>none
 |.ry x i=>match x.vv VE with
  |some (.tuple l)=>(l[i]?).bind fun v=>some (v,B,[])
  |_=>none
 |.un op x=>match op with
  |.not=>match x.vv VE with|some (.d (.b b))=>some (.d (.b (!b)),B,[])|_=>none
  |_=>none
 |.nS f first l=>match first with
  |[]=>(iU VE l).bind fun c=>some (.fn f c,B,[])
  |_=>none
 |.uM _ x=>(x.vv VE).bind fun _=>some (.jq,B,[])
 |.len x=>match x.vv VE with
  |some (.d (.sl rows))=>some (.d (.i .i64 rows.length),B,[])
  |some (.d .nil)=>some (.d (.i .i64 0),B,[])
  |some (.bs _ n _)=>some (.d (.i .i64 n),B,[])
  |some (.ac _ n _)=>some (.d (.i .i64 n),B,[])
  |_=>none
 |.o5 x=>match x.vv VE with|some (.d (.s l _))=>some (.d (.i .i64 l),B,[])|_=>none
 |.conv k x=>match x.vv VE with|some (.d (.i _ n))=>some (.d (.i k (k.wrap n)),B,[])|_=>none
 |.bin op x y=>match x.vv VE with
  |some (.d (.i k a))=>match y.vv VE with
   |some (.d (.i J b))=>if J=k then(OV op a b).bind fun r=>some (.d (.b r),B,[]) else none
   |_=>none
  |_=>none
 |.pick c x y=>match c.vv VE with
  |some (.d (.b true))=>(x.vv VE).bind fun v=>some (v,B,[])
  |some (.d (.b false))=>(y.vv VE).bind fun v=>some (v,B,[])
  |_=>none
 |.eqv c neg x y=>match c with
  |.iface=>match y.vv VE with
   |some (.k .gO)=>(x.vv VE).bind fun v=>(Hy v).bind fun t=>some (.d (.b (Bool.xor neg t)),B,[])
   |_=>none
  |_=>none
 |_=>none
theorem tn{d:Nat}{op:bE}{v:VV}{B':br}{W:List Nat}{R:VV→br→Prop}(h:lD VE B d op=some (v,B',W))(G:R v B'):VI T op VE B W R:=by
 cases op with
 |nX x=>
  obtain⟨u,A,h⟩:=Option.bind_eq_some_iff.1 h
  cases h;exact bM A G
 |nR x k=>
  simp only[lD] at h
  split at h
  ·rename_i A;cases h;exact du A G
  ·rename_i A;cases h;exact tD A G
  ·rename_i A;cases h;exact SU A G
  cases h
 |load n w a=>
  simp only[lD] at h
  split at h
  ·rename_i A
   split at h
   ·rename_i Y
    cases w with
    |true=>
     obtain⟨I,h2⟩:=nE h
     obtain⟨I,J⟩:=iv I
     cases h2
     exact qe A Y (bW I) (bW J) G
    |false=>
     obtain⟨I,h2⟩:=nE h
     obtain⟨u,J,K⟩:=Option.bind_eq_some_iff.1 h2
     obtain rfl:=dZ I
     cases K
     exact c8 A Y J G
   cases h
  ·rename_i A
   cases w with
   |true=>
    obtain⟨I,h2⟩:=nE h
    obtain⟨I,J⟩:=iv I
    cases h2
    exact mj A (bW I) (bW J) G
   |false=>
    obtain⟨I,h2⟩:=nE h
    obtain⟨u,J,K⟩:=Option.bind_eq_some_iff.1 h2
    obtain rfl:=dZ I
    cases K
    exact lT A J G
  cases h
 |store n a x=>
  simp only[lD] at h
  split at h
  ·rename_i ha
   split at h
   ·rename_i Y
    obtain⟨u,A,h⟩:=Option.bind_eq_some_iff.1 h
    obtain⟨new,hv,h⟩:=Option.bind_eq_some_iff.1 h
    obtain⟨I,h2⟩:=nE h
    obtain⟨I,J⟩:=iv I
    obtain⟨J,K⟩:=iv J
    cases h2
    exact Kp ha Y A hv (dZ I) (bW J) (bW K) G
   cases h
  cases h
 |build zero ps=>
  obtain⟨z,Z,h⟩:=Option.bind_eq_some_iff.1 h
  obtain⟨out,Y,h⟩:=Option.bind_eq_some_iff.1 h
  cases h;exact SV Z Y G
 |box elem es aT x=>
  obtain⟨I,h⟩:=nE h
  obtain⟨I,h2⟩:=iv I
  obtain⟨u,A,h⟩:=Option.bind_eq_some_iff.1 h
  obtain⟨c,U,h⟩:=Option.bind_eq_some_iff.1 h
  obtain⟨J,h⟩:=nE h
  cases h;exact Vf d I h2 A U (dZ J) G
 |cf elem es aT l=>
  obtain⟨I,h⟩:=nE h
  obtain⟨I,h2⟩:=iv I
  obtain⟨h2,J⟩:=iv h2
  obtain⟨c,U,h⟩:=Option.bind_eq_some_iff.1 h
  cases h;exact T0 d I h2 U (dZ J) G
 |cH elem es aT ln zero ps=>
  obtain⟨I,h⟩:=nE h
  obtain⟨I,h2⟩:=iv I
  obtain⟨h2,J⟩:=iv h2
  obtain⟨z,Z,h⟩:=Option.bind_eq_some_iff.1 h
  obtain⟨zd,hd,h⟩:=Option.bind_eq_some_iff.1 h
  obtain⟨rows,hr,h⟩:=Option.bind_eq_some_iff.1 h
  cases h;exact Rm d I h2 Z hd (dZ J) hr G
 |oV x=>
  simp only[lD] at h
  split at h
  ·rename_i A;cases h;exact pr A G
  ·rename_i A;cases h;exact R' A G
  ·rename_i A;cases h;exact Sa A G
  ·rename_i A;cases h;exact Sb A G
  cases h
 |sub x off n w=>
  simp only[lD] at h
  split at h
  ·rename_i A
   cases w with
   |true=>
    obtain⟨I,h2⟩:=nE h
    cases h2;exact T9 A I G
   |false=>
    obtain⟨I,h2⟩:=nE h
    obtain⟨u,J,K⟩:=Option.bind_eq_some_iff.1 h2
    obtain rfl:=dZ I
    cases K;exact Cn A J G
  cases h
 |ry x i=>
  simp only[lD] at h
  split at h
  ·rename_i A
   obtain⟨u,J,K⟩:=Option.bind_eq_some_iff.1 h
   cases K;exact TZ A J G
  cases h
 |un op x=>
  simp only[lD] at h
  split at h
  ·split at h
   ·rename_i A;cases h;exact ju A G
   cases h
  cases h
 |nS f first l=>
  simp only[lD] at h
  split at h
  ·obtain⟨u,J,K⟩:=Option.bind_eq_some_iff.1 h
   cases K;exact T' J G
  cases h
 |uM t x=>
  obtain⟨u,A,h⟩:=Option.bind_eq_some_iff.1 h
  cases h;exact Ua A G
 |len x=>
  simp only[lD] at h
  split at h
  ·rename_i A;cases h;exact CK A G
  ·rename_i A;cases h;exact GA A G
  ·rename_i A;cases h;exact TX A G
  ·rename_i A;cases h;exact zx A G
  cases h
 |o5 x=>
  simp only[lD] at h
  split at h
  ·rename_i A;cases h;exact TY A G
  cases h
 |conv k x=>
  simp only[lD] at h
  split at h
  ·rename_i A;cases h;exact Cj A G
  cases h
 |bin op x y=>
  simp only[lD] at h
  split at h
  ·rename_i A
   split at h
   ·rename_i O
    split at h
    ·rename_i hk
     subst hk
     obtain⟨r,J,K⟩:=Option.bind_eq_some_iff.1 h
     cases K
     cases op<;>simp only[OV] at J<;>(first|cases J)<;>first|exact GX A O G|exact tV A O G|exact pL A O G|exact zU A O G|exact gZ A O G|exact iq A O G
    cases h
   cases h
  cases h
 |pick c x y=>
  simp only[lD] at h
  split at h
  ·rename_i U
   obtain⟨u,J,K⟩:=Option.bind_eq_some_iff.1 h
   cases K;exact K8 U J G
  ·rename_i U
   obtain⟨u,J,K⟩:=Option.bind_eq_some_iff.1 h
   cases K;exact K9 U J G
  cases h
 |eqv c neg x y=>
  simp only[lD] at h
  split at h
  ·split at h
   ·rename_i O
    obtain⟨u,A,h⟩:=Option.bind_eq_some_iff.1 h
    obtain⟨t,ht,h⟩:=Option.bind_eq_some_iff.1 h
    cases h;exact S3 A O ht G
   cases h
  cases h
 |_=>cases h
def OW(VE:b0)(v:VV):Option Key→b0
 |some k=>(k.n,v)::VE
 |none=>VE
def OX:Option Key→Nat
 |some k=>k.n
 |none=>0
def Hz:Nat→List bt→b0→br→Option (b0×br×List bt)
 |0,ops,VE,B=>some (VE,B,ops)
 |_+1,[],_,_=>none
 |n+1,o::r,VE,B=>match o.g with
  |none=>(lD VE B (OX o.dst) o.op).bind fun x=>Hz n r (OW VE x.1 o.dst) x.2.1
  |some _=>none
theorem ae(n:Nat){ops:List bt}{eh:b0}{B':br}{r:List bt}(h:Hz n ops VE B=some (eh,B',r))(k:VO T r eh B' Q):VO T ops VE B Q:=by
 induction n generalizing ops VE B with
 |zero=>cases h;exact k
 |succ n z=>
  cases ops with
  |nil=>cases h
  |cons o rest=>
   obtain⟨d,g,q,op⟩:=o
   cases g with
   |some _=>cases h
   |none=>
    obtain⟨x,A,h2⟩:=Option.bind_eq_some_iff.1 h
    obtain⟨v,G,W⟩:=x
    cases d with
    |some d=>exact al (tn A (z h2))
    |none=>exact MM (tn A (z h2))
def HA(VE:b0)(B:br)(W:List Nat):bE→FL
 |.load _ _ a=>match a.vv VE with
  |some (.vp b _)=>match aZ B b with
   |some (.one _ _ _)=>.rd [b]
   |_=>sI W
  |_=>sI W
 |_=>sI W
def HB:Nat→List bt→b0→br→List FL→Option (b0×br×List FL×List bt)
 |0,ops,VE,B,fl=>some (VE,B,fl,ops)
 |_+1,[],_,_,_=>none
 |n+1,o::r,VE,B,fl=>match o.g with
  |none=>(lD VE B (OX o.dst) o.op).bind fun x=>match o.q with
   |none=>match o.dst with
    |some k=>HB n r ((k.n,x.1)::VE) x.2.1 fl
    |none=>none
   |some l=>gd (nG x.2.2 l fl) (HB n r (OW VE x.1 o.dst) x.2.1 ((match o.dst with|none=>sI x.2.2|some _=>HA VE B x.2.2 o.op)::fl))
  |some _=>none
theorem S8{fl:List FL}{d:Key}{l:List Nat}{op:bE}{W:List Nat}{r:List bt}{v:VV}{B':br}(z:lD VE B d.n op=some (v,B',W))(hk:nG W l fl=true)(h:VQ T r ((d.n,v)::VE) B' (HA VE B W op::fl) Q):VQ T (⟨some d,none,some l,op⟩::r) VE B fl Q:=by
 cases op with
 |load n w a=>
  simp only[HA] at h
  split at h
  ·rename_i A
   split at h
   ·rename_i G
    have I:W=[]:=by
     simp only[lD,A,G] at z
     cases w
     ·obtain⟨_,z⟩:=nE z
      obtain⟨u,_,J⟩:=Option.bind_eq_some_iff.1 z
      cases J;rfl
     obtain⟨_,z⟩:=nE z
     cases z;rfl
    subst I
    exact S7 A G trivial hk (tn z h)
   exact eL hk (tn z h)
  exact eL hk (tn z h)
 |_=>exact eL hk (tn z h)
theorem bo(n:Nat){ops:List bt}{fl z:List FL}{eh:b0}{B':br}{r:List bt}(h:HB n ops VE B fl=some (eh,B',z,r))(k:VQ T r eh B' z Q):VQ T ops VE B fl Q:=by
 induction n generalizing ops VE B fl with
 |zero=>cases h;exact k
 |succ n A=>
  cases ops with
  |nil=>cases h
  |cons o rest=>
   obtain⟨d,g,q,op⟩:=o
   cases g with
   |some _=>cases h
   |none=>
    obtain⟨x,G,h2⟩:=Option.bind_eq_some_iff.1 h
    obtain⟨v,K,W⟩:=x
    cases q with
    |none=>
     cases d with
     |some d=>exact dG (tn G (A h2))
     |none=>cases h2
    |some l=>
     obtain⟨I,J⟩:=nE h2
     cases d with
     |some d=>exact S8 G I (A J)
     |none=>exact SO I (tn G (A J))
theorem ai{a:List bt}{c:IC}{R:Ex→b0→br→Prop}(h:VO T a VE B fun eh B'=>VC T c eh B' R):VC T (.seq (.region false a) c) VE B R:=aM (bG h)
theorem eX{a:List bt}{c:IC}{R:Ex→b0→br→Prop}(h:VQ T a VE B [] fun eh B'=>VC T c eh B' R):VC T (.seq (.region true a) c) VE B R:=aM (iK h)
theorem ak(n:Nat){a:List bt}{c:IC}{R:Ex→b0→br→Prop}{eh:b0}{B':br}(h:Hz n a VE B=some (eh,B',[]))(k:VC T c eh B' R):VC T (.seq (.region false a) c) VE B R:=ai (ae n h (af k))
end Go.Ev
namespace Go.Ev.Pp
open Go
def jk:List (Nat×Nat):=[(1000,1000),(1050,1050)]
section
variable{T:bf}{VE:b0}{B:br}
theorem HC{f:Nat}{l:List aG}{bZ:List VV}{p A:PS}{R:VV}{Q:VV→br→Prop}(h:bX T f bZ p.bi fun r Bn=>r=R∧Bn=A.bi)(G:aZ B 1000=some (.one 123 80 p.row))(h2:aZ B 1050=some (.acc 142 88 8 (p.ex.map aL.enc)))
  (I:(kA 2000 VE&&(kB 2000 B&&clean VE (eH jk B) jk))=true) (J:iU VE l=some (iI jk 2000 bZ)) (K:R.cu jk 2000=R) (O:Q R (A.bi++eH jk B)):VI T (.call f l) VE B [1000,1050] Q:=by
 obtain⟨U,z⟩:=iv I
 obtain⟨z,Y⟩:=iv z
 exact jI (Bi:=p.bi) jk 2000 rfl rfl U z rfl Y J ⟨rfl,G,rfl,h2,trivial⟩ h fun r Bn hp=>by
  obtain⟨rfl,rfl⟩:=hp
  rw[K]
  exact O
theorem bj{d:Key}{A:Option (List Nat)}{r:List bt}{f:Nat}{l:List aG}{bZ:List VV}{p z:PS}{R:VV}{Q:b0→br→Prop}(h:bX T f bZ p.bi fun r Bn=>r=R∧Bn=z.bi)(G:aZ B 1000=some (.one 123 80 p.row))(h2:aZ B 1050=some (.acc 142 88 8 (p.ex.map aL.enc)))
  (I:(kA 2000 VE&&(kB 2000 B&&clean VE (eH jk B) jk))=true) (J:iU VE l=some (iI jk 2000 bZ)) (K:R.cu jk 2000=R) (O:VO T r ((d.n,R)::VE) (z.bi++eH jk B) Q):VO T (⟨some d,none,A,.call f l⟩::r) VE B Q:=al (HC h G h2 I J K O)
theorem mQ{d:Key}{m:List Nat}{fl:List FL}{r:List bt}{f:Nat}{l:List aG}{bZ:List VV}{p z:PS}{R:VV}{Q:b0→br→Prop}(h:bX T f bZ p.bi fun r Bn=>r=R∧Bn=z.bi)(hk:nG [1000,1050] m fl=true)(A:aZ B 1000=some (.one 123 80 p.row))(h2:aZ B 1050=some (.acc 142 88 8 (p.ex.map aL.enc)))
  (G:(kA 2000 VE&&(kB 2000 B&&clean VE (eH jk B) jk))=true) (I:iU VE l=some (iI jk 2000 bZ)) (J:R.cu jk 2000=R) (K:VQ T r ((d.n,R)::VE) (z.bi++eH jk B) (.un::fl) Q):VQ T (⟨some d,none,some m,.call f l⟩::r) VE B fl Q:=eL hk (HC h A h2 G I J K)
end
open Go
set_option maxRecDepth 10000
structure FT(T:bf):Prop where
 f3:T.ft.get 3=some i3
 f8:T.ft.get 8=some i8
 f7:T.ft.get 7=some i7
 f13:T.ft.get 13=some i13
 f14:T.ft.get 14=some i14
 f17:T.ft.get 17=some i17
 f18:T.ft.get 18=some i18
 f19:T.ft.get 19=some i19
 f20:T.ft.get 20=some i20
 f28:T.ft.get 28=some i28
 f29:T.ft.get 29=some i29
 f30:T.ft.get 30=some i30
 f21:T.ft.get 21=some i21
 f41:T.ft.get 41=some i41
 f42:T.ft.get 42=some i42
 f43:T.ft.get 43=some i43
 f44:T.ft.get 44=some i44
 f45:T.ft.get 45=some i45
 f46:T.ft.get 46=some i46
 f56:T.ft.get 56=some i56
 f57:T.ft.get 57=some i57
 f58:T.ft.get 58=some i58
 f59:T.ft.get 59=some i59
 PN:T.ft.get 60=some i60
 f61:T.ft.get 61=some i61
 f62:T.ft.get 62=some i62
 f63:T.ft.get 63=some i63
 f64:T.ft.get 64=some i64
 f91:T.ft.get 91=some i91
 f94:T.ft.get 94=some i94
 f47:T.ft.get 47=some i47
 f48:T.ft.get 48=some i48
 f49:T.ft.get 49=some i49
 f99:T.ft.get 99=some hM
 Y6:T.ft.get 100=some W7
 Y7:T.ft.get 101=some W8
 Y8:T.ft.get 113=some Xf
 Y9:T.ft.get 114=some Xg
 Y':T.ft.get 115=some Xh
 Za:T.ft.get 116=some Xi
 Zb:T.ft.get 117=some Xj
 Zc:T.ft.get 118=some Xk
 OY:T.ft.get 119=some Xl
 OZ:T.ft.get 120=some Xm
 O0:T.ft.get 121=some Xn
 Zd:T.ft.get 122=some Xo
 Ze:T.ft.get 123=some Xp
 Zf:T.ft.get 124=some Xq
 Zg:T.ft.get 125=some Xr
 Zh:T.ft.get 126=some Xs
 Zi:T.ft.get 127=some Xt
 Zj:T.ft.get 128=some Xu
 O1:T.ft.get 129=some Xv
 O2:T.ft.get 130=some Xw
 Zk:T.ft.get 131=some Xx
 Zl:T.ft.get 132=some Xy
 Zm:T.ft.get 140=some Xz
 Zn:T.ft.get 102=some W9
 Zo:T.ft.get 103=some Xa
 Zp:T.ft.get 104=some Xb
 Zq:T.ft.get 105=some Xc
 Zr:T.ft.get 106=some Xd
 Zs:T.ft.get 107=some Xe
 Zt:T.ft.get 146=some XA
 Zu:T.ft.get 147=some XC
 Zv:T.ft.get 148=some XD
 Zw:T.ft.get 149=some XE
 Zx:T.ft.get 150=some XF
 Zy:T.ft.get 151=some XG
 Zz:T.ft.get 152=some XH
 ZA:T.ft.get 153=some XI
 O3:T.ft.get 154=some XJ
 ZB:T.ft.get 155=some XK
 ZC:T.ft.get 156=some XL
 ZD:T.ft.get 157=some XM
 ZE:T.ft.get 158=some XN
 ZF:T.ft.get 159=some XO
 ZG:T.ft.get 160=some XP
 ZH:T.ft.get 161=some XQ
 ZI:T.ft.get 162=some XR
 ZJ:T.ft.get 167=some XU
 O4:T.ft.get 168=some XV
 ZK:T.ft.get 169=some XW
 ZL:T.ft.get 170=some XX
 ZM:T.ft.get 171=some XY
 ZN:T.ft.get 172=some XZ
 ZO:T.ft.get 173=some X1
 ZP:T.ft.get 174=some X2
 ZQ:T.ft.get 175=some X3
 ZR:T.ft.get 176=some X4
 ZS:T.ft.get 177=some X5
 O5:T.ft.get 178=some X6
 ZT:T.ft.get 179=some X7
 uQ:T.ft.get 180=some X8
 ZU:T.ft.get 181=some X9
 ZV:T.ft.get 183=some Ya
 ZW:T.ft.get 184=some Yb
 ZX:T.ft.get 185=some Yc
 ZY:T.ft.get 196=some Yd
 ZZ:T.ft.get 197=some Ye
 Z0:T.ft.get 198=some Yf
 Z1:T.ft.get 199=some Yg
 Z2:T.ft.get 200=some Yh
 Z3:T.ft.get 201=some Yi
 Z4:T.ft.get 202=some Yj
 Z5:T.ft.get 203=some Yk
 Z6:T.ft.get 204=some Yl
 Z7:T.ft.get 205=some Ym
 O6:T.ft.get 208=some Yo
 Z8:T.ft.get 209=some Yp
 Z9:T.ft.get 210=some Yq
 Z':T.ft.get 211=some Yr
 aaa:T.ft.get 212=some Ys
 aab:T.ft.get 213=some Yt
 aac:T.ft.get 214=some Yu
 aad:T.ft.get 215=some Yv
 aae:T.ft.get 216=some Yw
 aaf:T.ft.get 219=some Yx
 aag:T.ft.get 220=some Yy
 aah:T.ft.get 221=some Yz
 aai:T.ft.get 227=some YA
 aaj:T.ft.get 228=some YB
 aak:T.ft.get 232=some YC
 aal:T.ft.get 234=some YD
 aam:T.ft.get 235=some YE
 aan:T.ft.get 236=some YF
 aao:T.ft.get 237=some YG
 aap:T.ft.get 238=some YH
 aaq:T.ft.get 240=some YI
 aar:T.ft.get 241=some YJ
 aas:T.ft.get 242=some YK
 aat:T.ft.get 243=some YL
 aau:T.ft.get 244=some YM
 aav:T.ft.get 245=some YN
 aaw:T.ft.get 246=some YO
 aax:T.ft.get 258=some YP
 aay:T.ft.get 263=some YQ
 aaz:T.ft.get 166=some XT
 aaA:T.ft.get 165=some XS
 aaB:T.ft.get 265=some YS
 aaC:T.ft.get 266=some YT
 aaD:T.ft.get 267=some YU
 aaE:T.ft.get 268=some YV
 aaF:T.ft.get 274=some YW
 aaG:T.ft.get 275=some YX
 aaH:T.ft.get 206=some Yn
 aaI:T.ft.get 276=some YY
 aaJ:T.ft.get 277=some YZ
 aaK:T.ft.get 278=some Y0
 aaL:T.ft.get 279=some Y1
 aaM:T.ft.get 280=some Y2
 aaN:T.ft.get 281=some Y3
 aaO:T.ft.get 282=some Y4
 aaP:T.ft.get 283=some Y5
open Go
structure gX(T:bf)(D:Rd):Prop where
 uint:∀s,nA s→Sound T 182 [dS s,dI 10,dI 64] fun r=>r= .tuple [.d (.i .u64 (dW s:Nat)),.k .gO]
 sint:∀neg s,nA s→Sound T 239 [dS (if neg=true then 45::s else s),dI 10,dI 64] fun r=>∃n e,r= .tuple [dI n,e]∧((∃m,D.int neg s=some m∧n=m∧e= .k .gO)∨(D.int neg s=none∧e= .jq))
 day:∀s:List UInt8,s.length≤200→Sound T 216 [dS s] fun r=>r= .tuple [dI (D.day s).1,dI (D.day s).2]
 il:∀s:List UInt8,s.length≤200→Sound T 213 [dS s] fun r=>r= .tuple [.agg [dI (D.il s).1.1,dI (D.il s).1.2],dI (D.il s).2]
theorem BU{s:List UInt8}(h:nA s):dW s<10^19:=by
 obtain⟨_,h2,z⟩:=h
 have aux:∀(s:List UInt8)(n:Nat),(∀c,c∈s→48≤c.toNat∧c.toNat≤57)→s.foldl (fun n c=>n*10+(c.toNat-48)) n<(n+1)*10^s.length:=by
  intro s
  induction s with
  |nil=>intro n _;simp
  |cons c r G=>
   intro n A
   have K:=A c (lh ..)
   have h2:=G (n*10+(c.toNat-48)) fun d I=>A d (nO _ I)
   have z:(n*10+(c.toNat-48)+1)*10^r.length≤((n+1)*10)*10^r.length:=kN _ (by omega)
   calc _<_:=h2
    _≤_:=z
    _=(n+1)*10^(r.length+1):=by rw[ye,Aw,mL 10]
 have J:=aux s 0 z
 have O:10^s.length≤10^19:=Ay (by decide) h2
 have U:dW s<(0+1)*10^s.length:=J
 omega
theorem vY{σ:List (Nat×Nat)}{N:Nat}{B L:br}{p:PS}(z:(aZ σ 1000).isSome=true)(h2:aZ B (cu σ N 1000)=some ((BS.one 123 80 p.row).cu σ N))(A:(aZ σ 1050).isSome=true)(G:aZ B (cu σ N 1050)=some ((BS.acc 142 88 8 (p.ex.map aL.enc)).cu σ N))(I:qA σ N L B):qA σ N (p.bi++L) B:=⟨z,h2,A,G,I⟩
open Go
set_option maxRecDepth 10000
theorem tok{T:bf}(F:FT T){p:PS}(hp:p.ok):bX T 119 [.vp 1000 0] (PS.bi p) fun r Bn=>r=et p.tok.enc∧Bn=PS.bi p:=by
 refine cr F.OY aa ?_
 have z:(p.aA.map cM.enc)[p.aJ]?=some p.tok.enc:=by rw[iw,hp.get];rfl
 refine ak 1 aa (eX (bo 8 aa (dG (kZ (row:=p.tok.enc) aa aa z aa ?_))))
 refine bo 2 aa (dc ?_)
 exact ax (⟨_,PS.bi p,aa,cI aa aa,aa,aa⟩)
theorem fail{T:bf}(F:FT T){p:PS}(hp:p.ok)(e:Int):bX T 120 [.vp 1000 0,dI e] (PS.bi p) fun r Bn=>r= .tuple []∧Bn=PS.bi (p.fail e):=by
 refine cr F.OZ aa (ak 5 aa (aK aa (fun z=>?_) (fun z=>?_)))
 ·have h0:p.err=0:=by simpa using z
  refine bG (ae 4 aa (bj (tok F hp) aa aa aa aa aa (ae 7 aa (af ?_))))
  exact⟨_,PS.bi {p with err:=e,pos:=p.tok.pos},rfl,cI rfl rfl,rfl,by unfold PS.fail;rw[aw h0]⟩
 refine aU ?_
 exact⟨_,PS.bi p,rfl,cI rfl rfl,rfl,by unfold PS.fail;rw[aj (by simpa using z)]⟩
theorem next{T:bf}(F:FT T){p:PS}(hp:p.ok)(k:Int)(s:List UInt8):bX T 208 [.vp 1000 0,dI k,dS s] (PS.bi p) fun r Bn=>r=dB (p.next k s)∧Bn=PS.bi p:=by
 refine cr F.O6 aa (ak 1 aa (ai (ae 1 aa (bj (tok F hp) aa aa aa aa aa (ae 2 aa (af ?_))))))
 refine ai (ae 6 aa (da (g:=aY) aa (fun z=>?_) (fun z=>?_)))
 ·have h0:p.err=0:=by simpa using z
  refine au aa (z) (du aa ?_)
  refine au aa (z) (c8 aa aa aa ?_)
  refine au aa (z) (bM aa ?_)
  refine au aa (z) (gZ aa aa ?_)
  refine al (cU aa (z) aa ?_)
  refine ae 1 aa (da (g:=bu) aa (fun A=>?_) (fun A=>?_))
  ·refine au aa (A) (du aa ?_)
   refine au aa (A) (c8 aa aa aa ?_)
   refine au aa (A) (bM aa ?_)
   refine au aa (A) (oo aa aa ?_)
   refine al (cU aa (A) aa ?_)
   refine ae 1 aa (af ?_)
   refine ax (⟨_,PS.bi p,aa,cI aa aa,?_,aa⟩)
   clear F hp
   simp_all [gr,PS.next]
  refine ee aa (A) (ee aa (A) (ee aa (A) (ee aa (A) (al (cK aa (A) aa ?_)))))
  refine ae 1 aa (af ?_)
  refine ax (⟨_,PS.bi p,aa,cI aa aa,?_,aa⟩)
  clear F hp
  simp_all [gr,PS.next]
 refine ee aa (z) (ee aa (z) (ee aa (z) (ee aa (z) (al (cK aa (z) aa ?_)))))
 refine ae 1 aa (ee aa aa (ee aa aa (ee aa aa (ee aa aa (ae 2 aa (af ?_))))))
 refine ax (⟨_,PS.bi p,aa,cI aa aa,?_,aa⟩)
 clear F hp
 simp_all [gr,PS.next]
theorem accept{T:bf}(F:FT T){p:PS}(hp:p.ok){k:Int}(hk:k≠6)(s:List UInt8):bX T 168 [.vp 1000 0,dI k,dS s] (PS.bi p) fun r Bn=>r=dB (p.accept k s).1∧Bn=PS.bi (p.accept k s).2:=by
 refine cr F.O4 aa (ak 1 aa (aM (ai (ae 3 aa (bj (next F hp k s) aa aa aa aa aa (ae 1 aa (af ?_)))))))
 refine aK aa (fun z=>?_) (fun z=>?_)
 ·have A:p.next k s=false:=by simpa using z
  refine ak 1 aa (ax ?_)
  exact⟨_,PS.bi p,rfl,cI rfl rfl,by unfold PS.accept;rw[A];rfl,by unfold PS.accept;rw[A];rfl⟩
 have A:p.next k s=true:=by simpa using z
 have dR:=PS.kV hp hk A
 have fu:=hp.dY
 refine aU (ai (ae 4 aa ?_))
 refine al (cX rfl rfl (by omega) ?_)
 refine ae 3 aa (af ?_)
 refine ak 1 aa (ax ?_)
 exact⟨_,PS.bi p.step,rfl,cI rfl rfl,by unfold PS.accept;rw[aw A];rfl,by unfold PS.accept;rw[aw A]⟩
theorem keyword{T:bf}(F:FT T){p:PS}(hp:p.ok)(s:List UInt8):bX T 121 [.vp 1000 0,dS s] (PS.bi p) fun r Bn=>r=dB (p.keyword s).1∧Bn=PS.bi (p.keyword s).2:=by
 refine cr F.O0 aa (ak 1 aa (ai (ae 2 aa ?_)))
 refine bj (accept F hp (by decide) s) rfl rfl rfl rfl rfl ?_
 refine ae 1 aa (af ?_)
 exact ax (⟨_,PS.bi (p.accept 1 s).2,aa,cI aa aa,aa,aa⟩)
theorem sign{T:bf}(F:FT T){p:PS}(hp:p.ok)(s:List UInt8):bX T 172 [.vp 1000 0,dS s] (PS.bi p) fun r Bn=>r=dB (p.sign s).1∧Bn=PS.bi (p.sign s).2:=by
 refine cr F.ZN aa (ak 1 aa (ai (ae 2 aa ?_)))
 refine bj (accept F hp (by decide) s) rfl rfl rfl rfl rfl ?_
 refine ae 1 aa (af ?_)
 exact ax (⟨_,PS.bi (p.accept 5 s).2,aa,cI aa aa,aa,aa⟩)
theorem bx{T:bf}(F:FT T){p:PS}(hp:p.ok)(s:List UInt8):bX T 170 [.vp 1000 0,dS s] (PS.bi p) fun r Bn=>r= .tuple []∧Bn=PS.bi (p.bx s):=by
 refine cr F.ZL aa (ai (ae 2 aa (bj (sign F hp s) aa aa aa aa aa (ae 1 aa (af ?_)))))
 refine aK aa (fun z=>?_) (fun z=>?_)
 ·refine bG (ae 1 aa (bj (fail F (PS.zA hp s) 5) aa aa aa aa aa (af ?_)))
  exact⟨_,PS.bi ((p.sign s).2.fail 5),rfl,cI rfl rfl,rfl,by unfold PS.bx;rw[aj (by simpa using z)]⟩
 refine aU ?_
 exact⟨_,PS.bi (p.sign s).2,rfl,cI rfl rfl,rfl,by unfold PS.bx;rw[aw (by simpa using z)]⟩
theorem enter{T:bf}(F:FT T){p:PS}(hp:p.ok):bX T 277 [.vp 1000 0] (PS.bi p) fun r Bn=>r=dB p.enter.1∧Bn=PS.bi p.enter.2:=by
 refine cr F.aaJ aa (ak 1 aa (aM (ak 5 aa (aK aa (fun A=>?_) (fun A=>?_)))))
 ·have z:p.depth=60:=by simp at A;omega
  refine ai (ae 1 aa (bj (fail F hp 19) aa aa aa aa aa (af (ak 1 aa (ax ?_)))))
  exact⟨_,PS.bi (p.fail 19),rfl,cI rfl rfl,by unfold PS.enter;rw[aw z];rfl,by unfold PS.enter;rw[aw z]⟩
 have z:¬p.depth=60:=by simp at A;omega
 have hle:=hp.kD
 refine aU (ai (ae 4 aa ?_))
 refine al (cX rfl rfl (by omega) ?_)
 refine ae 3 aa (af ?_)
 refine ak 1 aa (ax ?_)
 exact⟨_,PS.bi {p with depth:=p.depth+1},rfl,cI rfl rfl,by unfold PS.enter;rw[aj z];rfl,by unfold PS.enter;rw[aj z]⟩
theorem push{T:bf}(F:FT T){p:PS}(z:p.ex.length≤5000)(e:aL):bX T 244 [.vp 1000 0,et e.enc] (PS.bi p) fun r Bn=>r=dI (p.push e).1∧Bn=PS.bi (p.push e).2:=by
 refine cr F.aau aa (ak 2 aa (eX (bo 7 aa ?_)))
 refine eL rfl (ey (rows:=p.ex.map aL.enc) (ys:=[e.enc]) rfl rfl rfl (.bs (rows:=[e.enc]) rfl) (bW rfl) (by rw[bK,cC];simp only[dk,dO];omega) (fun h=>by rw[h];rfl) (fun h=>by unfold PS.bi PS.row;rw[h];rfl) ?_)
 refine bo 3 aa (dc ?_)
 refine ai (ae 5 aa ?_)
 refine al (gj rfl rfl (by simp only[bK,cC,dk,dO,bb];omega) (by simp only[bK,cC,dk,dO,bb];omega) ?_)
 refine ae 1 aa (af ?_)
 refine ax (⟨_,PS.bi (p.push e).2,aa,cI (p:=(p.push e).2) ?_ ?_,?_,aa⟩)
 ·simp only[PS.push,PS.row,dT,eB,fy];rfl
 ·simp only[PS.push,PS.row,dT,eB,fy];rfl
 simp[gr,PS.push]
theorem aW{T:bf}(F:FT T){p:PS}(hp:p.ok)(l:List (List UInt8))(Y:l.length≤100):bX T 130 [.vp 1000 0,.d (.sl (l.map fun s=>[cJ s]))] (PS.bi p) fun r Bn=>r= .tuple []∧Bn=PS.bi (p.aW l):=by
 refine cr F.O2 aa (ak 3 aa (bN (d6 (fun k VE B=>∃i:Nat,i≤l.length∧k=l.length-i∧bw [(0,.vp 1000 0),(6,.d (.sl (l.map fun s=>[cJ s]))),(7,dI ((l.map fun s=>[cJ s]).length:Nat)),(8,dI (i:Nat))] VE∧bw (PS.bi ((l.take i).foldl PS.fO p)) B) ?_ (k:=l.length) ⟨0,df _,aa,⟨aa,aa,aa,aa,trivial⟩,cI aa aa⟩)))
 rintro k VE B⟨i,hi,rfl,U,G⟩
 refine eA (PS.bi ((l.take i).foldl PS.fO p)++[]) G ?_
 have G:bw (PS.bi ((l.take i).foldl PS.fO p)++[]) (PS.bi ((l.take i).foldl PS.fO p)++[]):=dj rfl rfl trivial
 have O:PS.ok ((l.take i).foldl PS.fO p):=PS.FD (l:=l.take i) hp
 refine dx _ _ U G (ak 1 aa (aM (aK aa (fun I=>?_) (fun I=>?_))))
 ·have dR:i<l.length:=by simpa using I
  obtain⟨x,J⟩:∃x,l[i]?=some x:=⟨_,eY dR⟩
  have A:(l.map fun s=>[cJ s])[i]?=some [cJ x]:=by rw[iw,J];rfl
  refine aU (aM (bN (ai (al (kZ aa aa A aa ?_)))))
  refine ae 2 aa (af ?_)
  refine ai (ae 2 aa (bj (keyword F O x) aa aa aa aa aa (ae 1 aa (af ?_))))
  refine aK aa (fun z=>?_) (fun z=>?_)
  ·refine bG (ae 1 aa (bj (fail F (PS.wJ O x) 5) aa aa aa aa aa (af (bG ?_))))
   refine al (cX rfl rfl (by omega) ?_)
   refine ae 1 aa (af ?_)
   refine⟨l.length-(i+1),by omega,i+1,by omega,rfl,⟨rfl,rfl,rfl,rfl,trivial⟩,?_⟩
   rw[xE,J,xF]
   rw[show List.foldl PS.fO ((l.take i).foldl PS.fO p) (some x).toList=PS.fO ((l.take i).foldl PS.fO p) x from rfl,PS.zz (by simpa using z)];exact cI rfl rfl
  refine aU (bG ?_)
  refine al (cX rfl rfl (by omega) ?_)
  refine ae 1 aa (af ?_)
  refine⟨l.length-(i+1),by omega,i+1,by omega,rfl,⟨rfl,rfl,rfl,rfl,trivial⟩,?_⟩
  rw[xE,J,xF]
  rw[show List.foldl PS.fO ((l.take i).foldl PS.fO p) (some x).toList=PS.fO ((l.take i).foldl PS.fO p) x from rfl,PS.Co (by simpa using z)];exact cI rfl rfl
 have K:l.length≤i:=by simpa using I
 refine dM (⟨_,PS.bi ((l.take i).foldl PS.fO p),aa,cI aa aa,aa,?_⟩)
 rw[qu K];rfl
end Go.Ev.Pp
