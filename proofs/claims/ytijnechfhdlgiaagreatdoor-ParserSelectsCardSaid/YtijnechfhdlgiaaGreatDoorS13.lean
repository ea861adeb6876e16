/- Part 13 of rules for walks through the code of a program, and of such walks; what each part proves is said by its theorems. -/
import Derived.Test.YtijnechfhdlgiaaGreatDoorS11
import Derived.Test.YtijnechfhdlgiaaGreatDoorS12
set_option linter.unusedVariables false
set_option linter.unusedSimpArgs false
namespace Go.Ev.Pp
open Go
structure cb where
 kind:Int
 pos:Int
 text:List UInt8
def cb.enc(t:cb):List DC:=[.i .i64 t.kind,.i .i64 t.pos,cB t.text]
structure gZ where
 kind:Int
 n:Int
 s:List UInt8
def gZ.enc(v:gZ):List DC:=[.i .i64 v.kind,.i .i64 v.n,cB v.s]
structure aN where
 kind:Int
 a:Int
 b:Int
 table:List UInt8
 name:List UInt8
 c:gZ
def aN.enc(e:aN):List DC:=[.i .i64 e.kind,.i .i64 e.a,.i .i64 e.b,cB e.table,cB e.name,.i .i64 e.c.kind,.i .i64 e.c.n,cB e.c.s]
def ez(l:List DC):VV:=.agg (l.map .d)
structure PS where
 aA:List cb
 aJ:Nat
 pos:Int
 err:Int
 depth:Nat
 ex:List aN
structure PS.ok(p:PS):Prop where
 lt:p.aJ<p.aA.length
 d8:p.aA.length≤2000
 last:∀(i:Nat)t,p.aA[i]?=some t→(t.kind=6↔i+1=p.aA.length)
 kN:p.depth≤60
 vt:p.ex.length≤p.aJ+(if p.err=0 then 0 else 1)
def PS.row(p:PS):List VV:=[.d (.sl (p.aA.map cb.enc)),dI (p.aJ:Nat),dI p.pos,dI p.err,dI (p.depth:Nat),.ac 1050 (p.ex.map aN.enc).length 8]
def PS.bi(p:PS):bo:=[(1000,.one 123 80 p.row),(1050,.acc 142 88 8 (p.ex.map aN.enc))]
def OU:cb:=⟨0,0,[]⟩
def PS.tok(p:PS):cb:=(p.aA[p.aJ]?).getD OU
theorem PS.ok.get{p:PS}(h:p.ok):p.aA[p.aJ]?=some p.tok:=by
 have z:p.aA[p.aJ]?=some (p.aA[p.aJ]'h.lt):=eP h.lt
 unfold PS.tok
 rw[z];rfl
def PS.fail(p:PS)(e:Int):PS:=if p.err=0 then{p with err:=e,pos:=p.tok.pos} else p
def PS.next(p:PS)(kind:Int)(text:List UInt8):Bool:=decide (p.err=0)&&(decide (p.tok.kind=kind)&&decide (p.tok.text=text))
def PS.step(p:PS):PS:={p with aJ:=p.aJ+1}
def PS.accept(p:PS)(kind:Int)(text:List UInt8):Bool×PS:=if p.next kind text then(true,p.step) else(false,p)
def PS.keyword(p:PS)(s:List UInt8):Bool×PS:=p.accept 1 s
def PS.sign(p:PS)(s:List UInt8):Bool×PS:=p.accept 5 s
def PS.fV(p:PS)(s:List UInt8):PS:=if(p.keyword s).1 then(p.keyword s).2 else(p.keyword s).2.fail 5
theorem PS.CX{p:PS}{s:List UInt8}(h:(p.keyword s).1=true):p.fV s=(p.keyword s).2:=aw h
theorem PS.zU{p:PS}{s:List UInt8}(h:(p.keyword s).1=false):p.fV s=(p.keyword s).2.fail 5:=aj (by rw[h];decide)
def PS.aU(p:PS)(l:List (List UInt8)):PS:=l.foldl PS.fV p
def PS.bA(p:PS)(s:List UInt8):PS:=if(p.sign s).1 then(p.sign s).2 else(p.sign s).2.fail 5
def PS.enter(p:PS):Bool×PS:=if p.depth=60 then(false,p.fail 19) else(true,{p with depth:=p.depth+1})
def PS.push(p:PS)(e:aN):Int×PS:=((p.ex.length:Nat),{p with ex:=p.ex++[e]})
theorem PS.xw{p:PS}(h:p.ok){e:Int}(he:e≠0):(p.fail e).ok:=by
 unfold PS.fail
 split
 ·rename_i h0
  refine⟨h.lt,h.d8,h.last,h.kN,?_⟩
  have:=h.vt
  rw[aw h0] at this
  show p.ex.length≤p.aJ+(if e=0 then 0 else 1)
  rw[aj he]
  omega
 exact h
theorem PS.lk{p:PS}(h:p.ok){kind:Int}{text:List UInt8}(hk:kind≠6)(z:p.next kind text=true):p.aJ+1<p.aA.length:=by
 unfold PS.next at z
 simp only[fc,e6] at z
 have A:=h.last _ _ h.get
 rw[z.2.1] at A
 have h2:=h.lt
 have G:¬(p.aJ+1=p.aA.length):=fun e=>hk (A.2 e)
 omega
theorem PS.tZ{p:PS}(h:p.ok)(z:p.aJ+1<p.aA.length):p.step.ok:=
 ⟨z,h.d8,h.last,h.kN,by have:=h.vt;show p.ex.length≤p.aJ+1+(if p.err=0 then 0 else 1);omega⟩
theorem PS.Lg{p:PS}(h:p.ok){kind:Int}{text:List UInt8}(hk:kind≠6):(p.accept kind text).2.ok:=by
 unfold PS.accept
 split
 ·rename_i z;exact PS.tZ h (PS.lk h hk z)
 exact h
theorem PS.w3{p:PS}(h:p.ok)(s:List UInt8):(p.keyword s).2.ok:=PS.Lg h (by decide)
theorem PS.zV{p:PS}(h:p.ok)(s:List UInt8):(p.sign s).2.ok:=PS.Lg h (by decide)
theorem PS.TQ{p:PS}(h:p.ok)(s:List UInt8):(p.fV s).ok:=by
 unfold PS.fV
 split
 ·exact PS.w3 h s
 exact PS.xw (PS.w3 h s) (by decide)
theorem PS.Gm{l:List (List UInt8)}:∀{p:PS},p.ok→(p.aU l).ok:=by
 induction l with
 |nil=>intro p h;exact h
 |cons s r z=>intro p h;exact z (PS.TQ h s)
theorem PS.RC{p:PS}(h:p.ok)(s:List UInt8):(p.bA s).ok:=by
 unfold PS.bA
 split
 ·exact PS.zV h s
 exact PS.xw (PS.zV h s) (by decide)
theorem PS.TR{p:PS}(h:p.ok):p.enter.2.ok:=by
 unfold PS.enter
 split
 ·exact PS.xw h (by decide)
 rename_i z
 exact⟨h.lt,h.d8,h.last,by show p.depth+1≤60;have:=h.kN;omega,h.vt⟩
section
variable{T:bd}{VE:b0}{B L:bo}
theorem dq{p:PS}(z:aY B 1000=some (.one 123 80 p.row))(h2:aY B 1050=some (.acc 142 88 8 (p.ex.map aN.enc)))(A:br L B):br (p.bi++L) B:=⟨z,h2,A⟩
theorem cL{p:PS}(z:aY B 1000=some (.one 123 80 p.row))(h2:aY B 1050=some (.acc 142 88 8 (p.ex.map aN.enc))):br p.bi B:=⟨z,h2,trivial⟩
theorem eB{ops:List bt}{Q:b0→bo→Prop}(B':bo)(z:br B' B)(h:VO T ops VE B' Q):VO T ops VE B Q:=fun H0 X0 E H β A=>
 (h H0 X0 E H β (A.AL fun _ _ hk=>z.get hk)).mono fun _ _ hp=>hp.more fun _ s G I=>⟨s,z.get G,I⟩
theorem eD{c:IC}{R:Ex→b0→bo→Prop}(B':bo)(z:br B' B)(h:VC T c VE B' R):VC T c VE B R:=fun H0 X0 E H β A=>
 (h H0 X0 E H β (A.AL fun _ _ hk=>z.get hk)).mono fun _ _ _ hp=>hp.more fun _ s G I=>⟨s,z.get G,I⟩
end
open Go
def d6(s:List UInt8):Nat:=s.foldl (fun n c=>n*10+(c.toNat-48)) 0
def nO(s:List UInt8):Prop:=0<s.length∧s.length≤19∧∀c,c∈s→48≤c.toNat∧c.toNat≤57
def PS.nz(p:PS):Prop:=(∀t,t∈p.aA→t.kind=3→nO t.text)∧∀t,t∈p.aA→t.text.length≤200
theorem PS.ok.mem{p:PS}(h:p.ok):p.tok∈p.aA:=kY h.get
structure St(p:PS):Prop where
 ok:p.ok
 nz:p.nz
def PS.called(p:PS)(k:Int):Bool:=decide (p.err=0)&&decide (p.tok.kind=k)
def PS.take(p:PS)(k:Int)(e:Int):List UInt8×PS:=if p.err=0 then(if p.tok.kind=k then(if e=0 then(p.tok.text,p.step) else([],p.fail e)) else([],p.fail 5)) else([],p)
theorem PS.lO{p:PS}(h:p.ok){k:Int}(hk:k≠6)(A:p.tok.kind=k):p.aJ+1<p.aA.length:=by
 have z:=h.last _ _ h.get
 rw[A] at z
 have h2:=h.lt
 have G:¬(p.aJ+1=p.aA.length):=fun e=>hk (z.2 e)
 omega
theorem PS.UP{p:PS}(h:p.ok){k e:Int}(hk:k≠6):(p.take k e).2.ok:=by
 unfold PS.take
 split
 ·split
  ·rename_i z
   split
   ·exact PS.tZ h (PS.lO h hk z)
   rename_i he;exact PS.xw h he
  exact PS.xw h (by decide)
 exact h
def PS.name(p:PS):List UInt8×PS:=p.take 2 0
def mD(least:Int)(s:List UInt8):Int:=if(d6 s:Int)<1099511627776∧least<(d6 s:Int) then 0 else 10
def PS.number(p:PS)(least:Int):Int×PS:=(if p.called 3=true∧mD least p.tok.text=0 then(d6 p.tok.text:Nat) else 0,(p.take 3 (mD least p.tok.text)).2)
structure Rd where
 day:List UInt8→Int×Int
 iC:List UInt8→(Int×Int)×Int
 int:Bool→List UInt8→Option Int
def Rd.jY(D:Rd)(s:List UInt8):Int:=if(D.day s).2=0∧1000000≤(D.day s).1 then 10 else(D.day s).2
def PS.day(p:PS)(D:Rd):Int×PS:=(if p.called 4=true then(D.day p.tok.text).1 else 0,(p.take 4 (D.jY p.tok.text)).2)
def PS.period(p:PS)(D:Rd):(Int×Int)×PS:=(if p.called 4=true then(D.iC p.tok.text).1 else(0,0),(p.take 4 (D.iC p.tok.text).2).2)
def Rd.qw(D:Rd)(neg:Bool)(s:List UInt8):Int:=if(D.int neg s).isSome then 0 else 10
def PS.integer(p:PS)(D:Rd)(neg:Bool):gZ×PS:=(⟨1,if p.called 3=true then(D.int neg p.tok.text).getD 0 else 0,[]⟩,(p.take 3 (D.qw neg p.tok.text)).2)
def gN:List UInt8:=[45]
def pd:List UInt8:=[84,82,85,69]
def o3:List UInt8:=[70,65,76,83,69]
def lv:List UInt8:=[78,85,76,76]
def cb.lr(t:cb):Bool:=decide (t.kind=3)||(decide (t.kind=4)||(if t.kind=5 then decide (t.text=gN) else(decide (t.kind=1)&&(decide (t.text=pd)||(decide (t.text=o3)||decide (t.text=lv))))))
def ct:gZ:=⟨0,0,[]⟩
def PS.literal(p:PS)(D:Rd):gZ×PS:=
 if p.err≠0 then(ct,p)
 else if p.tok.lr=false then(ct,p.fail 5)
 else if(p.sign gN).1=true then(p.sign gN).2.integer D true
 else if p.tok.kind=3 then p.integer D false
 else if(p.keyword pd).1=true then(⟨3,1,[]⟩,(p.keyword pd).2)
 else if(p.keyword o3).1=true then(⟨3,0,[]⟩,(p.keyword o3).2)
 else if(p.keyword lv).1=true then(ct,(p.keyword lv).2)
 else(⟨2,0,p.tok.text⟩,p.step)
open Go
theorem PS.vB(p:PS)(e:Int):(p.fail e).aA=p.aA:=by unfold PS.fail;split<;>rfl
theorem PS.Kk(p:PS)(k:Int)(s:List UInt8):(p.accept k s).2.aA=p.aA:=by unfold PS.accept;split<;>rfl
theorem PS.GO(p:PS)(s:List UInt8):(p.sign s).2.aA=p.aA:=PS.Kk ..
theorem PS.Gg(p:PS)(s:List UInt8):(p.keyword s).2.aA=p.aA:=PS.Kk ..
theorem PS.Sb(p:PS)(s:List UInt8):(p.fV s).aA=p.aA:=by
 unfold PS.fV;split
 ·exact PS.Gg ..
 rw[PS.vB,PS.Gg]
theorem PS.Q3(p:PS)(s:List UInt8):(p.bA s).aA=p.aA:=by
 unfold PS.bA;split
 ·exact PS.GO ..
 rw[PS.vB,PS.GO]
theorem PS.Q4{l:List (List UInt8)}:∀{p:PS},(p.aU l).aA=p.aA:=by
 induction l with
 |nil=>intro p;rfl
 |cons s r z=>intro p;exact(z (p:=p.fV s)).trans (PS.Sb p s)
theorem PS.Sc(p:PS):p.enter.2.aA=p.aA:=by
 unfold PS.enter;split
 ·exact PS.vB ..
 rfl
theorem PS.SW(p:PS)(k e:Int):(p.take k e).2.aA=p.aA:=by
 unfold PS.take
 split
 ·split
  ·split
   ·rfl
   exact PS.vB ..
  exact PS.vB ..
 rfl
theorem St.of{p q:PS}(h:St p)(ho:q.ok)(z:q.aA=p.aA):St q:=⟨ho,by unfold PS.nz;rw[z];exact h.nz⟩
theorem St.fail{p:PS}(h:St p){e:Int}(he:e≠0):St (p.fail e):=h.of (PS.xw h.ok he) (PS.vB ..)
theorem St.sign{p:PS}(h:St p)(s:List UInt8):St (p.sign s).2:=h.of (PS.zV h.ok s) (PS.GO ..)
theorem St.keyword{p:PS}(h:St p)(s:List UInt8):St (p.keyword s).2:=h.of (PS.w3 h.ok s) (PS.Gg ..)
theorem St.aU{p:PS}(h:St p)(l:List (List UInt8)):St (p.aU l):=h.of (PS.Gm h.ok) PS.Q4
theorem St.bA{p:PS}(h:St p)(s:List UInt8):St (p.bA s):=h.of (PS.RC h.ok s) (PS.Q3 ..)
theorem St.enter{p:PS}(h:St p):St p.enter.2:=h.of (PS.TR h.ok) (PS.Sc ..)
theorem St.take{p:PS}(h:St p){k e:Int}(hk:k≠6):St (p.take k e).2:=h.of (PS.UP h.ok hk) (PS.SW ..)
theorem St.name{p:PS}(h:St p):St p.name.2:=h.take (by decide)
theorem St.number{p:PS}(h:St p)(l:Int):St (p.number l).2:=h.take (by decide)
theorem St.day{p:PS}(h:St p)(D:Rd):St (p.day D).2:=h.take (by decide)
theorem St.period{p:PS}(h:St p)(D:Rd):St (p.period D).2:=h.take (by decide)
theorem St.integer{p:PS}(h:St p)(D:Rd)(n:Bool):St (p.integer D n).2:=h.take (by decide)
theorem PS.se{p:PS}{k:Int}{s:List UInt8}(h:(p.accept k s).1=false):(p.accept k s).2=p∧p.next k s=false:=by
 unfold PS.accept at h⊢
 split at h
 ·cases h
 rename_i z;rw[aj z];exact⟨rfl,by simpa using z⟩
theorem PS.pK{p:PS}{k:Int}{s:List UInt8}(h:(p.accept k s).1=true):(p.accept k s).2=p.step∧p.next k s=true:=by
 unfold PS.accept at h⊢
 split at h
 ·rename_i z;rw[aw z];exact⟨rfl,z⟩
 cases h
theorem PS.iA{p:PS}{s:List UInt8}(h:(p.sign s).1=false):(p.sign s).2=p:=(PS.se h).1
theorem PS.cQ{p:PS}{s:List UInt8}(h:(p.keyword s).1=false):(p.keyword s).2=p:=(PS.se h).1
theorem PS.Gh{p:PS}(h0:p.err=0)(z:p.tok.lr=true)(A:(p.sign gN).1=false)(Z:p.tok.kind≠3)(G:(p.keyword pd).1=false)(I:(p.keyword o3).1=false)(hN:(p.keyword lv).1=false):p.tok.kind=4:=by
 have J:=(PS.se A).2
 have K:=(PS.se G).2
 have O:=(PS.se I).2
 have U:=(PS.se hN).2
 unfold PS.next at J K O U
 unfold cb.lr at z
 by_cases Y:p.tok.kind=4
 ·exact Y
 by_cases k5:p.tok.kind=5
 ·simp_all
 by_cases k1:p.tok.kind=1
 ·simp_all
 simp_all
theorem PS.KB{p:PS}(h:St p)(D:Rd):St (p.literal D).2:=by
 unfold PS.literal
 split
 ·exact h
 rename_i h0
 split
 ·exact h.fail (by decide)
 rename_i z
 split
 ·exact(h.sign _).integer D true
 rename_i h2
 split
 ·exact h.integer D false
 rename_i A
 split
 ·exact h.keyword _
 rename_i G
 split
 ·exact h.keyword _
 rename_i I
 split
 ·exact h.keyword _
 rename_i J
 have hk:=PS.Gh (by simpa using h0) (by simpa using z) (by simpa using h2) A (by simpa using G) (by simpa using I) (by simpa using J)
 exact h.of (PS.tZ h.ok (PS.lO h.ok (k:=4) (by decide) hk)) rfl
open Go
def ed(p:PS):Nat:=if p.err=0 then 0 else 1
def PS.pk(p:PS):Prop:=p.err≠0→p.pos=p.tok.pos
structure bE(k:Nat)(p q:PS):Prop where
 st:St q
 aA:q.aA=p.aA
 depth:q.depth=p.depth
 aJ:p.aJ≤q.aJ
 sl:q.ex.length+(p.aJ+ed p)+k≤p.ex.length+(q.aJ+ed q)
 er:q.err=0→p.err=0
 pk:p.pk→q.pk
theorem bE.refl{p:PS}(h:St p):bE 0 p p:=⟨h,rfl,rfl,bV _,by omega,id,id⟩
theorem bE.trans{j k:Nat}{p q r:PS}(h:bE j p q)(g:bE k q r):bE (j+k) p r:=
 ⟨g.st,g.aA.trans h.aA,g.depth.trans h.depth,j7 h.aJ g.aJ,by have:=h.sl;have:=g.sl;omega,fun k=>h.er (g.er k),fun k=>g.pk (h.pk k)⟩
theorem bE.dE{j k:Nat}{p q:PS}(h:bE j p q)(hk:k≤j):bE k p q:=⟨h.st,h.aA,h.depth,h.aJ,by have:=h.sl;omega,h.er,h.pk⟩
theorem bE.step{p:PS}(h:St p)(h0:p.err=0)(z:p.aJ+1<p.aA.length):bE 1 p p.step:=
 ⟨h.of (PS.tZ h.ok z) rfl,rfl,rfl,sM _,by show p.ex.length+(p.aJ+ed p)+1≤p.ex.length+(p.aJ+1+ed p);omega,id,fun _ k=>absurd h0 k⟩
theorem bE.ER{p:PS}(h:St p){e:Int}(he:e≠0)(h0:p.err=0):bE 1 p (p.fail e):=by
 have e1:p.fail e={p with err:=e,pos:=p.tok.pos}:=aw h0
 refine⟨h.fail he,PS.vB ..,by rw[e1],by rw[e1];exact bV _,?_,fun _=>h0,fun _ _=>by rw[e1];rfl⟩
 rw[e1]
 unfold ed
 rw[aw h0,aj he]
 show p.ex.length+(p.aJ+0)+1≤p.ex.length+(p.aJ+1)
 omega
theorem bE.fail{p:PS}(h:St p){e:Int}(he:e≠0):bE 0 p (p.fail e):=by
 by_cases h0:p.err=0
 ·exact(bE.ER h he h0).dE (by omega)
 rw[show p.fail e=p from aj h0];exact .refl h
theorem bE.accept{p:PS}(h:St p){k:Int}(hk:k≠6){s:List UInt8}(z:(p.accept k s).1=true):bE 1 p (p.accept k s).2:=by
 obtain⟨A,h2⟩:=PS.pK z
 rw[A]
 exact .step h (by unfold PS.next at h2;simp only[fc,e6] at h2;exact h2.1) (PS.lk h.ok hk h2)
theorem bE.sign{p:PS}(h:St p){s:List UInt8}(z:(p.sign s).1=true):bE 1 p (p.sign s).2:=.accept h (by decide) z
theorem bE.keyword{p:PS}(h:St p){s:List UInt8}(z:(p.keyword s).1=true):bE 1 p (p.keyword s).2:=.accept h (by decide) z
theorem bE.yn{p:PS}(h:St p)(s:List UInt8):bE 0 p (p.sign s).2:=by
 cases z:(p.sign s).1
 ·rw[PS.iA z];exact .refl h
 exact(bE.sign h z).dE (by omega)
theorem bE.G2{p:PS}(h:St p)(s:List UInt8):bE 0 p (p.keyword s).2:=by
 cases z:(p.keyword s).1
 ·rw[PS.cQ z];exact .refl h
 exact(bE.keyword h z).dE (by omega)
theorem bE.fV{p:PS}(h:St p)(s:List UInt8):bE 0 p (p.fV s):=by
 cases z:(p.keyword s).1
 ·rw[PS.zU z,PS.cQ z];exact .fail h (by decide)
 rw[PS.CX z];exact(bE.keyword h z).dE (by omega)
theorem bE.aU{l:List (List UInt8)}:∀{p:PS},St p→bE 0 p (p.aU l):=by
 induction l with
 |nil=>intro p h;exact .refl h
 |cons s r z=>intro p h;exact(bE.fV h s).trans (z (bE.fV h s).st)
theorem bE.bA{p:PS}(h:St p)(s:List UInt8):bE 0 p (p.bA s):=by
 unfold PS.bA
 split
 ·exact bE.yn h s
 exact(bE.yn h s).trans (bE.fail (h.sign s) (by decide))
theorem bE.yo{p:PS}(h:St p){k e:Int}(hk:k≠6)(h0:p.err=0):bE 1 p (p.take k e).2:=by
 unfold PS.take
 rw[aw h0]
 split
 ·rename_i z
  split
  ·exact .step h h0 (PS.lO h.ok hk z)
  rename_i he;exact .ER h he h0
 exact .ER h (by decide) h0
theorem bE.take{p:PS}(h:St p){k e:Int}(hk:k≠6):bE 0 p (p.take k e).2:=by
 by_cases h0:p.err=0
 ·exact(bE.yo h hk h0).dE (by omega)
 unfold PS.take;rw[aj h0];exact .refl h
theorem bE.G3{p:PS}(h:St p)(D:Rd)(h0:p.err=0):bE 1 p (p.literal D).2:=by
 unfold PS.literal
 rw[aj (by simpa using h0)]
 split
 ·exact .ER h (by decide) h0
 rename_i I
 split
 ·rename_i h2
  exact((bE.sign h h2).trans (bE.take (h.sign _) (k:=3) (by decide))).dE (by omega)
 rename_i h2
 split
 ·exact bE.yo h (by decide) h0
 rename_i J
 split
 ·rename_i z;exact .keyword h z
 rename_i z
 split
 ·rename_i A;exact .keyword h A
 rename_i A
 split
 ·rename_i G;exact .keyword h G
 rename_i G
 have hk:=PS.Gh h0 (by simpa using I) (by simpa using h2) J (by simpa using z) (by simpa using A) (by simpa using G)
 exact .step h h0 (PS.lO h.ok (k:=4) (by decide) hk)
theorem bE.push{k:Nat}{p q:PS}(hp:p.ok)(h:bE (k+1) p q)(e:aN):bE k p (q.push e).2:=by
 have A:=h.sl
 have h2:=hp.vt
 have z:(q.push e).2.ex.length=q.ex.length+1:=by simp[PS.push]
 refine⟨h.st.of ⟨h.st.ok.lt,h.st.ok.d8,h.st.ok.last,h.st.ok.kN,?_⟩ aa,h.aA,h.depth,h.aJ,?_,h.er,h.pk⟩
 ·rw[z]
  show q.ex.length+1≤q.aJ+ed q
  have G:p.ex.length≤p.aJ+ed p:=h2
  omega
 rw[z]
 show q.ex.length+1+(p.aJ+ed p)+k≤p.ex.length+(q.aJ+ed q)
 omega
theorem PS.ok.small{p:PS}(h:p.ok):p.ex.length≤5000:=by
 have z:=h.vt
 have h2:=h.lt
 have A:=h.d8
 split at z<;>omega
def jo:List UInt8:=[46]
def eV:List UInt8:=[42]
def nW:List UInt8:=[43]
def na:List UInt8:=[61]
def uP:List UInt8:=[60]
def uQ:List UInt8:=[62]
def cq:List UInt8:=[40]
def dP:List UInt8:=[41]
def zc:List UInt8:=[73,83]
def wH:List UInt8:=[78,79,84]
def mn:List UInt8:=[65,78,68]
def mw:List UInt8:=[79,82]
def PS.gk(p:PS):Int×PS:=
 if(p.name.2.sign jo).1=true then((p.name.2.sign jo).2.name.2).push ⟨2,0,0,p.name.1,(p.name.2.sign jo).2.name.1,ct⟩
 else p.name.2.push ⟨2,0,0,[],p.name.1,ct⟩
def km(sub:PS→Int×PS)(test:PS→Option (Int×PS)):Nat→Int→PS→Int×PS
 |0,a,p=>(a,p)
 |k+1,a,p=>match test p with
  |none=>(a,p)
  |some (kind,q)=>km sub test k ((sub q).2.push ⟨kind,a,(sub q).1,[],[],ct⟩).1 ((sub q).2.push ⟨kind,a,(sub q).1,[],[],ct⟩).2
def chain(sub:PS→Int×PS)(test:PS→Option (Int×PS))(p:PS):Int×PS:=km sub test p.aA.length (sub p).1 (sub p).2
def lS(p:PS):Option (Int×PS):=if(p.sign eV).1=true then some (5,(p.sign eV).2) else none
def kt(p:PS):Option (Int×PS):=if(p.sign gN).1=true then some (4,(p.sign gN).2) else if(p.sign nW).1=true then some (3,(p.sign nW).2) else none
def mo(p:PS):Option (Int×PS):=if(p.keyword mn).1=true then some (9,(p.keyword mn).2) else none
def mN(p:PS):Option (Int×PS):=if(p.keyword mw).1=true then some (10,(p.keyword mw).2) else none
def un(p:PS)(kind a:Int):Int×PS:=p.push ⟨kind,a,0,[],[],ct⟩
def rW(sub:PS→Int×PS)(kind a:Int)(q:PS):Int×PS:=(sub q).2.push ⟨kind,a,(sub q).1,[],[],ct⟩
def iI(sub:PS→Int×PS)(p:PS):Int×PS:=
 if((sub p).2.sign na).1=true then rW sub 6 (sub p).1 ((sub p).2.sign na).2
 else if((sub p).2.sign uP).1=true then rW sub 7 (sub p).1 ((sub p).2.sign uP).2
 else if((sub p).2.sign uQ).1=true then rW sub 8 (sub p).1 ((sub p).2.sign uQ).2
 else if((sub p).2.keyword zc).1=true then un (((sub p).2.keyword zc).2.aU [lv]) 12 (sub p).1
 else sub p
def PS.up(p:PS):PS:={p with depth:=p.depth-1}
def nA(sub inner:PS→Int×PS)(p:PS):Int×PS:=
 if p.next 1 wH=false then sub p
 else if p.enter.1=false then(0,p.enter.2)
 else un (inner p.enter.2.step).2.up 11 (inner p.enter.2.step).1
def lz(D:Rd)(inner:PS→Int×PS)(p:PS):Int×PS:=
 if p.err≠0 then(0,p)
 else if p.next 5 cq=true then(if p.enter.1=false then(0,p.enter.2) else((inner p.enter.2.step).1,((inner p.enter.2.step).2.bA dP).up))
 else if p.tok.kind=2 then p.gk
 else(p.literal D).2.push ⟨1,0,0,[],[],(p.literal D).1⟩
def wS(D:Rd):Nat→(PS→Int×PS)×(PS→Int×PS)
 |0=>(fun p=>(0,p),fun p=>(0,p))
 |n+1=>(chain (chain (nA (iI (chain (chain (lz D (wS D n).1) lS) kt)) (wS D n).2) mo) mN,nA (iI (chain (chain (lz D (wS D n).1) lS) kt)) (wS D n).2)
def fb(D:Rd)(n:Nat):PS→Int×PS:=lz D (wS D n).1
def fg(D:Rd)(n:Nat):PS→Int×PS:=chain (fb D n) lS
def ew(D:Rd)(n:Nat):PS→Int×PS:=chain (fg D n) kt
def cmpL(D:Rd)(n:Nat):PS→Int×PS:=iI (ew D n)
def eH(D:Rd)(n:Nat):PS→Int×PS:=(wS D n).2
def jd(D:Rd)(n:Nat):PS→Int×PS:=chain (eH D (n+1)) mo
def lT(D:Rd)(n:Nat):PS→Int×PS:=(wS D n).1
theorem xb(D:Rd)(n:Nat):eH D (n+1)=nA (cmpL D n) (eH D n):=rfl
open Go
theorem bE.gk{p:PS}(h:St p)(h0:p.err=0):bE 0 p p.gk.2:=by
 have z:bE 1 p p.name.2:=bE.yo h (by decide) h0
 unfold PS.gk
 split
 ·rename_i A
  have h2:bE (1+(1+0)) p ((p.name.2.sign jo).2.name.2):=z.trans ((bE.sign z.st A).trans (bE.take (z.st.sign _) (k:=2) (e:=0) (by decide)))
  exact(bE.push h.ok (k:=1) (h2.dE (by omega)) _).dE (by omega)
 exact bE.push h.ok z _
theorem bE.km{n:Nat}{sub:PS→Int×PS}{test:PS→Option (Int×PS)}(G:∀p,St p→p.depth+n=61→bE 0 p (sub p).2)(I:∀p kind q,St p→test p=some (kind,q)→bE 1 p q):
  ∀(k:Nat)(a:Int)(p:PS),St p→p.depth+n=61→bE 0 p (km sub test k a p).2
 |0,a,p,h,_=>.refl h
 |k+1,a,p,h,J=>by
  unfold Pp.km
  split
  ·exact .refl h
  rename_i kind q K
  have z:=I p kind q h K
  have h2:=z.trans (G q z.st (by rw[z.depth];exact J))
  have A:=bE.push h.ok h2 ⟨kind,a,(sub q).1,[],[],ct⟩
  exact A.trans (bE.km G I k _ _ A.st (by rw[A.depth];exact J))
theorem bE.chain{n:Nat}{sub:PS→Int×PS}{test:PS→Option (Int×PS)}(A:∀p,St p→p.depth+n=61→bE 0 p (sub p).2)(I:∀p kind q,St p→test p=some (kind,q)→bE 1 p q){p:PS}(h:St p)(G:p.depth+n=61):bE 0 p (chain sub test p).2:=by
 have z:=A p h G
 exact z.trans (bE.km A I _ _ _ z.st (by rw[z.depth];exact G))
theorem Cm(p:PS)(kind:Int)(q:PS)(h:St p)(z:lS p=some (kind,q)):bE 1 p q:=by
 unfold lS at z
 split at z
 ·rename_i A;cases z;exact .sign h A
 cases z
theorem xk(p:PS)(kind:Int)(q:PS)(h:St p)(z:kt p=some (kind,q)):bE 1 p q:=by
 unfold kt at z
 split at z
 ·rename_i A;cases z;exact .sign h A
 split at z
 ·rename_i A;cases z;exact .sign h A
 cases z
theorem Cx(p:PS)(kind:Int)(q:PS)(h:St p)(z:mo p=some (kind,q)):bE 1 p q:=by
 unfold mo at z
 split at z
 ·rename_i A;cases z;exact .keyword h A
 cases z
theorem Hk(p:PS)(kind:Int)(q:PS)(h:St p)(z:mN p=some (kind,q)):bE 1 p q:=by
 unfold mN at z
 split at z
 ·rename_i A;cases z;exact .keyword h A
 cases z
theorem bE.iI{n:Nat}{sub:PS→Int×PS}(G:∀p,St p→p.depth+n=61→bE 0 p (sub p).2){p:PS}(h:St p)(I:p.depth+n=61):bE 0 p (iI sub p).2:=by
 have A:=G p h I
 have two:∀{kind:Int}{s:List UInt8},((sub p).2.sign s).1=true→bE 0 p (rW sub kind (sub p).1 ((sub p).2.sign s).2).2:=fun{kind s}z=>by
  have h2:=A.trans (bE.sign A.st z)
  exact bE.push h.ok (k:=0) ((h2.trans (G _ h2.st (by rw[h2.depth];exact I))).dE (by omega)) _
 unfold Pp.iI
 split
 ·rename_i z;exact two z
 split
 ·rename_i z;exact two z
 split
 ·rename_i z;exact two z
 split
 ·rename_i z
  have h2:=A.trans (bE.keyword A.st z)
  exact bE.push h.ok (k:=0) ((h2.trans (bE.aU h2.st)).dE (by omega)) _
 exact A
theorem PS.Hl{p:PS}(h:p.enter.1=true):p.enter.2={p with depth:=p.depth+1}∧p.depth≠60:=by
 unfold PS.enter at h⊢
 split at h
 ·cases h
 rename_i z;rw[aj z];exact⟨rfl,z⟩
theorem PS.xx{p:PS}(h:p.enter.1=false):p.enter.2=p.fail 19:=by
 unfold PS.enter at h⊢
 split at h
 ·rename_i z;rw[aw z]
 cases h
theorem St.ri{p:PS}(h:St p)(he:p.enter.1=true)(G:p.aJ+1<p.aA.length):St p.enter.2.step∧p.enter.2.step.depth=p.depth+1:=by
 obtain⟨z,h2⟩:=PS.Hl he
 have A:=h.enter
 refine⟨A.of (PS.tZ A.ok (by rw[z];exact G)) rfl,by rw[z];rfl⟩
theorem bE.ri{k:Nat}{p r:PS}(h:St p)(h0:p.err=0)(he:p.enter.1=true)(z:bE k p.enter.2.step r):bE (k+1) p r.up:=by
 obtain⟨A,h2⟩:=PS.Hl he
 have G:=z.aA;have I:=z.depth;have J:=z.aJ;have K:=z.sl
 rw[A] at G I J K
 have b1:r.aA=p.aA:=G
 have b2:r.depth=p.depth+1:=I
 have O:p.aJ+1≤r.aJ:=J
 have U:r.ex.length+(p.aJ+1+ed p)+k≤p.ex.length+(r.aJ+ed r):=K
 refine⟨z.st.of ⟨z.st.ok.lt,z.st.ok.d8,z.st.ok.last,by show r.depth-1≤60;have:=z.st.ok.kN;omega,z.st.ok.vt⟩ rfl,b1,by show r.depth-1=p.depth;omega,by show p.aJ≤r.aJ;omega,?_,fun _=>h0,fun _=>z.pk fun k=>absurd (by rw[A];exact h0) k⟩
 show r.ex.length+(p.aJ+ed p)+(k+1)≤p.ex.length+(r.aJ+ed r)
 omega
theorem bE.nA{n:Nat}{sub inner:PS→Int×PS}(A:∀p,St p→p.depth+(n+1)=61→bE 0 p (sub p).2)(hi:∀p,St p→p.depth+n=61→bE 0 p (inner p).2){p:PS}(h:St p)(G:p.depth+(n+1)=61):bE 0 p (nA sub inner p).2:=by
 unfold Pp.nA
 split
 ·exact A p h G
 rename_i z
 split
 ·rename_i he;rw[PS.xx he];exact .fail h (by decide)
 rename_i he
 have I:=PS.lk h.ok (kind:=1) (by decide) (by simpa using z)
 obtain⟨J,h2⟩:=h.ri (by simpa using he) I
 exact bE.push h.ok (bE.ri h (by unfold PS.next at z;simp only[Bool.not_eq_false,fc,e6] at z;exact z.1) (by simpa using he) (hi _ J (by rw[h2];omega))) _
theorem bE.lz{n:Nat}{D:Rd}{inner:PS→Int×PS}(hi:∀p,St p→p.depth+n=61→bE 0 p (inner p).2){p:PS}(h:St p)(J:p.depth+(n+1)=61):bE 0 p (lz D inner p).2:=by
 unfold Pp.lz
 split
 ·exact .refl h
 rename_i h0
 have h0:p.err=0:=by simpa using h0
 split
 ·rename_i A
  split
  ·rename_i he;rw[PS.xx he];exact .fail h (by decide)
  rename_i he
  have G:=PS.lk h.ok (kind:=5) (by decide) A
  obtain⟨I,h2⟩:=h.ri (by simpa using he) G
  have z:=hi _ I (by rw[h2];omega)
  exact(bE.ri h h0 (by simpa using he) (z.trans (bE.bA z.st dP))).dE (by omega)
 split
 ·exact .gk h h0
 exact bE.push h.ok (bE.G3 h D h0) _
theorem pO(D:Rd):∀n,(∀p,St p→p.depth+n=61→bE 0 p (lT D n p).2)∧(∀p,St p→p.depth+n=61→bE 0 p (eH D n p).2)
 |0=>⟨fun p h _=>.refl h,fun p h _=>.refl h⟩
 |n+1=>by
  obtain⟨G,h2⟩:=pO D n
  have I:∀p,St p→p.depth+(n+1)=61→bE 0 p (fb D n p).2:=fun p h z=>bE.lz G h z
  have J:∀p,St p→p.depth+(n+1)=61→bE 0 p (fg D n p).2:=fun p h z=>bE.chain I Cm h z
  have K:∀p,St p→p.depth+(n+1)=61→bE 0 p (ew D n p).2:=fun p h z=>bE.chain J xk h z
  have O:∀p,St p→p.depth+(n+1)=61→bE 0 p (cmpL D n p).2:=fun p h z=>bE.iI K h z
  have A:∀p,St p→p.depth+(n+1)=61→bE 0 p (eH D (n+1) p).2:=fun p h z=>bE.nA O h2 h z
  have U:∀p,St p→p.depth+(n+1)=61→bE 0 p (jd D n p).2:=fun p h z=>bE.chain A Cx h z
  exact⟨fun p h z=>bE.chain U Hk h z,A⟩
theorem zC(D:Rd){n:Nat}{p:PS}(h:St p)(z:p.depth+(n+1)=61):bE 0 p (fb D n p).2:=bE.lz (pO D n).1 h z
theorem vL(D:Rd){n:Nat}{p:PS}(h:St p)(z:p.depth+(n+1)=61):bE 0 p (fg D n p).2:=bE.chain (fun _ a b=>zC D a b) Cm h z
theorem t6(D:Rd){n:Nat}{p:PS}(h:St p)(z:p.depth+(n+1)=61):bE 0 p (ew D n p).2:=bE.chain (fun _ a b=>vL D a b) xk h z
theorem CY(D:Rd){n:Nat}{p:PS}(h:St p)(z:p.depth+(n+1)=61):bE 0 p (jd D n p).2:=bE.chain (fun _ a b=>(pO D (n+1)).2 _ a b) Cx h z
open Go
def jt:List (Nat×Nat):=[(1000,1000),(1050,1050)]
section
variable{T:bd}{VE:b0}{B:bo}
theorem Iq{f:Nat}{l:List aF}{b9:List VV}{p A:PS}{R:VV}{Q:VV→bo→Prop}(h:bY T f b9 p.bi fun r Bn=>r=R∧Bn=A.bi)(G:aY B 1000=some (.one 123 80 p.row))(h2:aY B 1050=some (.acc 142 88 8 (p.ex.map aN.enc)))
  (I:(kK 2000 VE&&(kL 2000 B&&clean VE (eM jt B) jt))=true) (J:i6 VE l=some (iN jt 2000 b9)) (K:R.cC jt 2000=R) (O:Q R (A.bi++eM jt B)):VI T (.call f l) VE B [1000,1050] Q:=by
 obtain⟨U,z⟩:=iF I
 obtain⟨z,Y⟩:=iF z
 exact jU (Bi:=p.bi) jt 2000 rfl rfl U z rfl Y J ⟨rfl,G,rfl,h2,trivial⟩ h fun r Bn hp=>by
  obtain⟨rfl,rfl⟩:=hp
  rw[K]
  exact O
theorem bh{d:Key}{A:Option (List Nat)}{r:List bt}{f:Nat}{l:List aF}{b9:List VV}{p z:PS}{R:VV}{Q:b0→bo→Prop}(h:bY T f b9 p.bi fun r Bn=>r=R∧Bn=z.bi)(G:aY B 1000=some (.one 123 80 p.row))(h2:aY B 1050=some (.acc 142 88 8 (p.ex.map aN.enc)))
  (I:(kK 2000 VE&&(kL 2000 B&&clean VE (eM jt B) jt))=true) (J:i6 VE l=some (iN jt 2000 b9)) (K:R.cC jt 2000=R) (O:VO T r ((d.n,R)::VE) (z.bi++eM jt B) Q):VO T (⟨some d,none,A,.call f l⟩::r) VE B Q:=ak (Iq h G h2 I J K O)
theorem m7{d:Key}{m:List Nat}{fl:List FL}{r:List bt}{f:Nat}{l:List aF}{b9:List VV}{p z:PS}{R:VV}{Q:b0→bo→Prop}(h:bY T f b9 p.bi fun r Bn=>r=R∧Bn=z.bi)(hk:nU [1000,1050] m fl=true)(A:aY B 1000=some (.one 123 80 p.row))(h2:aY B 1050=some (.acc 142 88 8 (p.ex.map aN.enc)))
  (G:(kK 2000 VE&&(kL 2000 B&&clean VE (eM jt B) jt))=true) (I:i6 VE l=some (iN jt 2000 b9)) (J:R.cC jt 2000=R) (K:VQ T r ((d.n,R)::VE) (z.bi++eM jt B) (.un::fl) Q):VQ T (⟨some d,none,some m,.call f l⟩::r) VE B fl Q:=eo hk (Iq h A h2 G I J K)
end
open Go
set_option maxRecDepth 10000
structure FT(T:bd):Prop where
 f5:T.ft.get 5=some i5
 f8:T.ft.get 8=some i8
 f9:T.ft.get 9=some i9
 f12:T.ft.get 12=some i12
 f22:T.ft.get 22=some i22
 f7:T.ft.get 7=some i7
 f13:T.ft.get 13=some i13
 f14:T.ft.get 14=some i14
 f17:T.ft.get 17=some i17
 f18:T.ft.get 18=some i18
 f19:T.ft.get 19=some i19
 f20:T.ft.get 20=some i20
 f28:T.ft.get 28=some i28
 f29:T.ft.get 29=some i29
 f30:T.ft.get 30=some i30
 f21:T.ft.get 21=some i21
 f41:T.ft.get 41=some i41
 f42:T.ft.get 42=some i42
 f43:T.ft.get 43=some i43
 f44:T.ft.get 44=some i44
 f45:T.ft.get 45=some i45
 f46:T.ft.get 46=some i46
 f56:T.ft.get 56=some i56
 f57:T.ft.get 57=some i57
 f58:T.ft.get 58=some i58
 f59:T.ft.get 59=some i59
 Qt:T.ft.get 60=some i60
 f61:T.ft.get 61=some i61
 f62:T.ft.get 62=some i62
 f63:T.ft.get 63=some i63
 f64:T.ft.get 64=some i64
 f91:T.ft.get 91=some i91
 f94:T.ft.get 94=some i94
 f47:T.ft.get 47=some i47
 f48:T.ft.get 48=some i48
 f49:T.ft.get 49=some i49
 f99:T.ft.get 99=some ig
 ZL:T.ft.get 100=some XO
 ZM:T.ft.get 101=some XP
 ZN:T.ft.get 113=some XW
 ZO:T.ft.get 114=some XX
 ZP:T.ft.get 115=some XY
 ZQ:T.ft.get 116=some XZ
 ZR:T.ft.get 117=some X1
 ZS:T.ft.get 118=some X2
 PG:T.ft.get 119=some X3
 PH:T.ft.get 120=some X4
 PI:T.ft.get 121=some X5
 ZT:T.ft.get 122=some X6
 ZU:T.ft.get 123=some X7
 ZV:T.ft.get 124=some X8
 ZW:T.ft.get 125=some X9
 ZX:T.ft.get 126=some Ya
 ZY:T.ft.get 127=some Yb
 ZZ:T.ft.get 128=some Yc
 PJ:T.ft.get 129=some Yd
 PK:T.ft.get 130=some Ye
 Z0:T.ft.get 131=some Yf
 Z1:T.ft.get 132=some Yg
 Z2:T.ft.get 140=some Yh
 Z3:T.ft.get 102=some XQ
 Z4:T.ft.get 103=some XR
 Z5:T.ft.get 104=some XS
 Z6:T.ft.get 105=some XT
 Z7:T.ft.get 106=some XU
 Z8:T.ft.get 107=some XV
 Z9:T.ft.get 146=some Yi
 Z':T.ft.get 147=some Yj
 aaa:T.ft.get 148=some Yk
 aab:T.ft.get 149=some Yl
 aac:T.ft.get 150=some Ym
 aad:T.ft.get 151=some Yn
 aae:T.ft.get 152=some Yo
 aaf:T.ft.get 153=some Yp
 PL:T.ft.get 154=some Yq
 aag:T.ft.get 155=some Yr
 aah:T.ft.get 156=some Ys
 aai:T.ft.get 157=some Yt
 aaj:T.ft.get 158=some Yu
 aak:T.ft.get 159=some Yv
 aal:T.ft.get 160=some Yw
 aam:T.ft.get 161=some Yx
 aan:T.ft.get 162=some Yy
 aao:T.ft.get 167=some YB
 PM:T.ft.get 168=some YC
 aap:T.ft.get 169=some YD
 aaq:T.ft.get 170=some YE
 aar:T.ft.get 171=some YF
 aas:T.ft.get 172=some YG
 aat:T.ft.get 173=some YH
 aau:T.ft.get 174=some YI
 aav:T.ft.get 175=some YJ
 aaw:T.ft.get 176=some YK
 aax:T.ft.get 177=some YL
 PN:T.ft.get 178=some YM
 aay:T.ft.get 179=some YN
 u7:T.ft.get 180=some YO
 aaz:T.ft.get 181=some YP
 aaA:T.ft.get 183=some YQ
 aaB:T.ft.get 184=some YS
 aaC:T.ft.get 185=some YT
 aaD:T.ft.get 196=some YU
 aaE:T.ft.get 197=some YV
 aaF:T.ft.get 198=some YW
 aaG:T.ft.get 199=some YX
 aaH:T.ft.get 200=some YY
 aaI:T.ft.get 201=some YZ
 aaJ:T.ft.get 202=some Y0
 aaK:T.ft.get 203=some Y1
 aaL:T.ft.get 204=some Y2
 aaM:T.ft.get 205=some Y3
 PO:T.ft.get 208=some Y5
 aaN:T.ft.get 209=some Y6
 aaO:T.ft.get 210=some Y7
 aaP:T.ft.get 211=some Y8
 aaQ:T.ft.get 212=some Y9
 aaR:T.ft.get 213=some Y'
 aaS:T.ft.get 214=some Za
 aaT:T.ft.get 215=some Zb
 aaU:T.ft.get 216=some Zc
 aaV:T.ft.get 219=some Zd
 aaW:T.ft.get 220=some Ze
 aaX:T.ft.get 221=some Zf
 aaY:T.ft.get 227=some Zg
 aaZ:T.ft.get 228=some Zh
 aa0:T.ft.get 232=some Zi
 aa1:T.ft.get 234=some Zj
 aa2:T.ft.get 235=some Zk
 aa3:T.ft.get 236=some Zl
 aa4:T.ft.get 237=some Zm
 aa5:T.ft.get 238=some Zn
 aa6:T.ft.get 240=some Zo
 aa7:T.ft.get 241=some Zp
 aa8:T.ft.get 242=some Zq
 aa9:T.ft.get 243=some Zr
 aba:T.ft.get 244=some Zs
 abb:T.ft.get 245=some Zt
 abc:T.ft.get 246=some Zu
 abd:T.ft.get 258=some Zv
 abe:T.ft.get 263=some Zw
 abf:T.ft.get 166=some YA
 abg:T.ft.get 165=some Yz
 abh:T.ft.get 265=some Zx
 abi:T.ft.get 266=some Zy
 abj:T.ft.get 267=some Zz
 abk:T.ft.get 268=some ZA
 abl:T.ft.get 274=some ZB
 abm:T.ft.get 275=some ZC
 abn:T.ft.get 206=some Y4
 abo:T.ft.get 276=some ZD
 abp:T.ft.get 277=some ZE
 abq:T.ft.get 278=some ZF
 abr:T.ft.get 279=some ZG
 abt:T.ft.get 280=some ZH
 abu:T.ft.get 281=some ZI
 abv:T.ft.get 282=some ZJ
 abw:T.ft.get 283=some ZK
open Go
structure hM(T:bd)(D:Rd):Prop where
 uint:∀s,nO s→Sound T 182 [dS s,dI 10,dI 64] fun r=>r= .tuple [.d (.i .u64 (d6 s:Nat)),.k .gS]
 sint:∀neg s,nO s→Sound T 239 [dS (if neg=true then 45::s else s),dI 10,dI 64] fun r=>∃n e,r= .tuple [dI n,e]∧((∃m,D.int neg s=some m∧n=m∧e= .k .gS)∨(D.int neg s=none∧e= .jB))
 day:∀s:List UInt8,s.length≤200→Sound T 216 [dS s] fun r=>r= .tuple [dI (D.day s).1,dI (D.day s).2]
 iC:∀s:List UInt8,s.length≤200→Sound T 213 [dS s] fun r=>r= .tuple [.agg [dI (D.iC s).1.1,dI (D.iC s).1.2],dI (D.iC s).2]
theorem Cn{s:List UInt8}(h:nO s):d6 s<10^19:=by
 obtain⟨_,h2,z⟩:=h
 have aux:∀(s:List UInt8)(n:Nat),(∀c,c∈s→48≤c.toNat∧c.toNat≤57)→s.foldl (fun n c=>n*10+(c.toNat-48)) n<(n+1)*10^s.length:=by
  intro s
  induction s with
  |nil=>intro n _;simp
  |cons c r G=>
   intro n A
   have K:=A c (kG ..)
   have h2:=G (n*10+(c.toNat-48)) fun d I=>A d (nZ _ I)
   have z:(n*10+(c.toNat-48)+1)*10^r.length≤((n+1)*10)*10^r.length:=kZ _ (by omega)
   calc _<_:=h2
    _≤_:=z
    _=(n+1)*10^(r.length+1):=by rw[yz,AT,mY 10]
 have J:=aux s 0 z
 have O:10^s.length≤10^19:=AV (by decide) h2
 have U:d6 s<(0+1)*10^s.length:=J
 omega
theorem wq{σ:List (Nat×Nat)}{N:Nat}{B L:bo}{p:PS}(z:(aY σ 1000).isSome=true)(h2:aY B (cC σ N 1000)=some ((BS.one 123 80 p.row).cC σ N))(A:(aY σ 1050).isSome=true)(G:aY B (cC σ N 1050)=some ((BS.acc 142 88 8 (p.ex.map aN.enc)).cC σ N))(I:qO σ N L B):qO σ N (p.bi++L) B:=⟨z,h2,A,G,I⟩
open Go
set_option maxRecDepth 10000
theorem tok{T:bd}(F:FT T){p:PS}(hp:p.ok):bY T 119 [.vp 1000 0] (PS.bi p) fun r Bn=>r=ez p.tok.enc∧Bn=PS.bi p:=by
 refine cw F.PG aa ?_
 have z:(p.aA.map cb.enc)[p.aJ]?=some p.tok.enc:=by rw[im,hp.get];rfl
 refine al 1 aa (eZ (bk 8 aa (c8 (kR (row:=p.tok.enc) aa aa z aa ?_))))
 refine bk 2 aa (c6 ?_)
 exact ax (⟨_,PS.bi p,aa,cL aa aa,aa,aa⟩)
theorem fail{T:bd}(F:FT T){p:PS}(hp:p.ok)(e:Int):bY T 120 [.vp 1000 0,dI e] (PS.bi p) fun r Bn=>r= .tuple []∧Bn=PS.bi (p.fail e):=by
 refine cw F.PH aa (al 5 aa (aI aa (fun z=>?_) (fun z=>?_)))
 ·have h0:p.err=0:=by simpa using z
  refine bD (ae 4 aa (bh (tok F hp) aa aa aa aa aa (ae 7 aa (af ?_))))
  exact⟨_,PS.bi {p with err:=e,pos:=p.tok.pos},rfl,cL rfl rfl,rfl,by unfold PS.fail;rw[aw h0]⟩
 refine aQ ?_
 exact⟨_,PS.bi p,rfl,cL rfl rfl,rfl,by unfold PS.fail;rw[aj (by simpa using z)]⟩
theorem next{T:bd}(F:FT T){p:PS}(hp:p.ok)(k:Int)(s:List UInt8):bY T 208 [.vp 1000 0,dI k,dS s] (PS.bi p) fun r Bn=>r=dB (p.next k s)∧Bn=PS.bi p:=by
 refine cw F.PO aa (al 1 aa (ai (ae 1 aa (bh (tok F hp) aa aa aa aa aa (ae 2 aa (af ?_))))))
 refine ai (ae 6 aa (dc (g:=aZ) aa (fun z=>?_) (fun z=>?_)))
 ·have h0:p.err=0:=by simpa using z
  refine ao aa (z) (dz aa ?_)
  refine ao aa (z) (df aa aa aa ?_)
  refine ao aa (z) (bN aa ?_)
  refine ao aa (z) (hY aa aa ?_)
  refine ak (cT aa (z) aa ?_)
  refine ae 1 aa (dc (g:=bw) aa (fun A=>?_) (fun A=>?_))
  ·refine ao aa (A) (dz aa ?_)
   refine ao aa (A) (df aa aa aa ?_)
   refine ao aa (A) (bN aa ?_)
   refine ao aa (A) (oA aa aa ?_)
   refine ak (cT aa (A) aa ?_)
   refine ae 1 aa (af ?_)
   refine ax (⟨_,PS.bi p,aa,cL aa aa,?_,aa⟩)
   clear F hp
   simp_all [gB,PS.next]
  refine en aa (A) (en aa (A) (en aa (A) (en aa (A) (ak (cJ aa (A) aa ?_)))))
  refine ae 1 aa (af ?_)
  refine ax (⟨_,PS.bi p,aa,cL aa aa,?_,aa⟩)
  clear F hp
  simp_all [gB,PS.next]
 refine en aa (z) (en aa (z) (en aa (z) (en aa (z) (ak (cJ aa (z) aa ?_)))))
 refine ae 1 aa (en aa aa (en aa aa (en aa aa (en aa aa (ae 2 aa (af ?_))))))
 refine ax (⟨_,PS.bi p,aa,cL aa aa,?_,aa⟩)
 clear F hp
 simp_all [gB,PS.next]
theorem accept{T:bd}(F:FT T){p:PS}(hp:p.ok){k:Int}(hk:k≠6)(s:List UInt8):bY T 168 [.vp 1000 0,dI k,dS s] (PS.bi p) fun r Bn=>r=dB (p.accept k s).1∧Bn=PS.bi (p.accept k s).2:=by
 refine cw F.PM aa (al 1 aa (aK (ai (ae 3 aa (bh (next F hp k s) aa aa aa aa aa (ae 1 aa (af ?_)))))))
 refine aI aa (fun z=>?_) (fun z=>?_)
 ·have A:p.next k s=false:=by simpa using z
  refine al 1 aa (ax ?_)
  exact⟨_,PS.bi p,rfl,cL rfl rfl,by unfold PS.accept;rw[A];rfl,by unfold PS.accept;rw[A];rfl⟩
 have A:p.next k s=true:=by simpa using z
 have dT:=PS.lk hp hk A
 have fy:=hp.d8
 refine aQ (ai (ae 4 aa ?_))
 refine ak (cM rfl rfl (by omega) ?_)
 refine ae 3 aa (af ?_)
 refine al 1 aa (ax ?_)
 exact⟨_,PS.bi p.step,rfl,cL rfl rfl,by unfold PS.accept;rw[aw A];rfl,by unfold PS.accept;rw[aw A]⟩
theorem keyword{T:bd}(F:FT T){p:PS}(hp:p.ok)(s:List UInt8):bY T 121 [.vp 1000 0,dS s] (PS.bi p) fun r Bn=>r=dB (p.keyword s).1∧Bn=PS.bi (p.keyword s).2:=by
 refine cw F.PI aa (al 1 aa (ai (ae 2 aa ?_)))
 refine bh (accept F hp (by decide) s) rfl rfl rfl rfl rfl ?_
 refine ae 1 aa (af ?_)
 exact ax (⟨_,PS.bi (p.accept 1 s).2,aa,cL aa aa,aa,aa⟩)
theorem sign{T:bd}(F:FT T){p:PS}(hp:p.ok)(s:List UInt8):bY T 172 [.vp 1000 0,dS s] (PS.bi p) fun r Bn=>r=dB (p.sign s).1∧Bn=PS.bi (p.sign s).2:=by
 refine cw F.aas aa (al 1 aa (ai (ae 2 aa ?_)))
 refine bh (accept F hp (by decide) s) rfl rfl rfl rfl rfl ?_
 refine ae 1 aa (af ?_)
 exact ax (⟨_,PS.bi (p.accept 5 s).2,aa,cL aa aa,aa,aa⟩)
theorem bA{T:bd}(F:FT T){p:PS}(hp:p.ok)(s:List UInt8):bY T 170 [.vp 1000 0,dS s] (PS.bi p) fun r Bn=>r= .tuple []∧Bn=PS.bi (p.bA s):=by
 refine cw F.aaq aa (ai (ae 2 aa (bh (sign F hp s) aa aa aa aa aa (ae 1 aa (af ?_)))))
 refine aI aa (fun z=>?_) (fun z=>?_)
 ·refine bD (ae 1 aa (bh (fail F (PS.zV hp s) 5) aa aa aa aa aa (af ?_)))
  exact⟨_,PS.bi ((p.sign s).2.fail 5),rfl,cL rfl rfl,rfl,by unfold PS.bA;rw[aj (by simpa using z)]⟩
 refine aQ ?_
 exact⟨_,PS.bi (p.sign s).2,rfl,cL rfl rfl,rfl,by unfold PS.bA;rw[aw (by simpa using z)]⟩
theorem enter{T:bd}(F:FT T){p:PS}(hp:p.ok):bY T 277 [.vp 1000 0] (PS.bi p) fun r Bn=>r=dB p.enter.1∧Bn=PS.bi p.enter.2:=by
 refine cw F.abp aa (al 1 aa (aK (al 5 aa (aI aa (fun A=>?_) (fun A=>?_)))))
 ·have z:p.depth=60:=by simp at A;omega
  refine ai (ae 1 aa (bh (fail F hp 19) aa aa aa aa aa (af (al 1 aa (ax ?_)))))
  exact⟨_,PS.bi (p.fail 19),rfl,cL rfl rfl,by unfold PS.enter;rw[aw z];rfl,by unfold PS.enter;rw[aw z]⟩
 have z:¬p.depth=60:=by simp at A;omega
 have hle:=hp.kN
 refine aQ (ai (ae 4 aa ?_))
 refine ak (cM rfl rfl (by omega) ?_)
 refine ae 3 aa (af ?_)
 refine al 1 aa (ax ?_)
 exact⟨_,PS.bi {p with depth:=p.depth+1},rfl,cL rfl rfl,by unfold PS.enter;rw[aj z];rfl,by unfold PS.enter;rw[aj z]⟩
theorem push{T:bd}(F:FT T){p:PS}(z:p.ex.length≤5000)(e:aN):bY T 244 [.vp 1000 0,ez e.enc] (PS.bi p) fun r Bn=>r=dI (p.push e).1∧Bn=PS.bi (p.push e).2:=by
 refine cw F.aba aa (al 2 aa (eZ (bk 7 aa ?_)))
 refine eo rfl (dZ (rows:=p.ex.map aN.enc) (ys:=[e.enc]) rfl rfl rfl (.bs (rows:=[e.enc]) rfl) (bO rfl) (by rw[bC,bZ];simp only[cP,dx];omega) (fun h=>by rw[h];rfl) (fun h=>by unfold PS.bi PS.row;rw[h];rfl) ?_)
 refine bk 3 aa (c6 ?_)
 refine ai (ae 5 aa ?_)
 refine ak (gm rfl rfl (by simp only[bC,bZ,cP,dx,bb];omega) (by simp only[bC,bZ,cP,dx,bb];omega) ?_)
 refine ae 1 aa (af ?_)
 refine ax (⟨_,PS.bi (p.push e).2,aa,cL (p:=(p.push e).2) ?_ ?_,?_,aa⟩)
 ·simp only[PS.push,PS.row,dr,eF,fH];rfl
 ·simp only[PS.push,PS.row,dr,eF,fH];rfl
 simp[gB,PS.push]
theorem aU{T:bd}(F:FT T){p:PS}(hp:p.ok)(l:List (List UInt8))(Y:l.length≤100):bY T 130 [.vp 1000 0,.d (.sl (l.map fun s=>[cB s]))] (PS.bi p) fun r Bn=>r= .tuple []∧Bn=PS.bi (p.aU l):=by
 refine cw F.PK aa (al 3 aa (bJ (dY (fun k VE B=>∃i:Nat,i≤l.length∧k=l.length-i∧br [(0,.vp 1000 0),(6,.d (.sl (l.map fun s=>[cB s]))),(7,dI ((l.map fun s=>[cB s]).length:Nat)),(8,dI (i:Nat))] VE∧br (PS.bi ((l.take i).foldl PS.fV p)) B) ?_ (k:=l.length) ⟨0,da _,aa,⟨aa,aa,aa,aa,trivial⟩,cL aa aa⟩)))
 rintro k VE B⟨i,hi,rfl,U,G⟩
 refine eD (PS.bi ((l.take i).foldl PS.fV p)++[]) G ?_
 have G:br (PS.bi ((l.take i).foldl PS.fV p)++[]) (PS.bi ((l.take i).foldl PS.fV p)++[]):=dq rfl rfl trivial
 have O:PS.ok ((l.take i).foldl PS.fV p):=PS.Gm (l:=l.take i) hp
 refine dn _ _ U G (al 1 aa (aK (aI aa (fun I=>?_) (fun I=>?_))))
 ·have dT:i<l.length:=by simpa using I
  obtain⟨x,J⟩:∃x,l[i]?=some x:=⟨_,eP dT⟩
  have A:(l.map fun s=>[cB s])[i]?=some [cB x]:=by rw[im,J];rfl
  refine aQ (aK (bJ (ai (ak (kR aa aa A aa ?_)))))
  refine ae 2 aa (af ?_)
  refine ai (ae 2 aa (bh (keyword F O x) aa aa aa aa aa (ae 1 aa (af ?_))))
  refine aI aa (fun z=>?_) (fun z=>?_)
  ·refine bD (ae 1 aa (bh (fail F (PS.w3 O x) 5) aa aa aa aa aa (af (bD ?_))))
   refine ak (cM rfl rfl (by omega) ?_)
   refine ae 1 aa (af ?_)
   refine⟨l.length-(i+1),by omega,i+1,by omega,rfl,⟨rfl,rfl,rfl,rfl,trivial⟩,?_⟩
   rw[xW,J,xX]
   rw[show List.foldl PS.fV ((l.take i).foldl PS.fV p) (some x).toList=PS.fV ((l.take i).foldl PS.fV p) x from rfl,PS.zU (by simpa using z)];exact cL rfl rfl
  refine aQ (bD ?_)
  refine ak (cM rfl rfl (by omega) ?_)
  refine ae 1 aa (af ?_)
  refine⟨l.length-(i+1),by omega,i+1,by omega,rfl,⟨rfl,rfl,rfl,rfl,trivial⟩,?_⟩
  rw[xW,J,xX]
  rw[show List.foldl PS.fV ((l.take i).foldl PS.fV p) (some x).toList=PS.fV ((l.take i).foldl PS.fV p) x from rfl,PS.CX (by simpa using z)];exact cL rfl rfl
 have K:l.length≤i:=by simpa using I
 refine dD (⟨_,PS.bi ((l.take i).foldl PS.fV p),aa,cL aa aa,aa,?_⟩)
 rw[pf K];rfl
open Go
set_option maxRecDepth 10000
set_option maxHeartbeats 1000000 in
theorem yo{T:bd}(F:FT T){p:PS}(hp:St p){k e:Int}(l8:k≠6){g:Nat}(hC:p.err=0→p.tok.kind=k→bY T g ([dS p.tok.text]++[]) [] fun r Bn=>r=dI e∧Bn=[]):bY T 180 [.vp 1000 0,dI k,.fn g []] (PS.bi p++[]) fun r Bn=>r=dS (p.take k e).1∧Bn=PS.bi (p.take k e).2++[]:=by
 refine cw F.u7 aa (eD (PS.bi p++[]) (dq aa aa trivial) (al 1 aa (aK (al 5 aa (aI aa (fun bM=>?_) (fun bM=>?_))))))
 ·have h0:¬p.err=0:=by simpa using bM
  refine al 1 aa (ax ?_)
  exact⟨_,PS.bi p++[],rfl,dq rfl rfl trivial,by unfold PS.take;rw[aj h0];rfl,by simp[PS.take,PS.called,h0]⟩
 have h0:p.err=0:=by simpa using bM
 refine aQ (ai (ae 1 aa (bh (tok F hp.ok) aa aa aa aa aa (ae 2 aa (af ?_)))))
 refine aK (ai (ae 3 aa (ak (iD aa aa ?_))))
 refine af (aI aa (fun eA=>?_) (fun eA=>?_))
 ·have hk:¬p.tok.kind=k:=by simpa using eA
  refine ai (ae 1 aa (bh (fail F hp.ok 5) aa aa aa aa aa (af (al 1 aa (ax ?_)))))
  exact⟨_,PS.bi (p.fail 5)++[],rfl,dq rfl rfl trivial,by unfold PS.take;rw[aw h0,aj hk];rfl,by simp[PS.take,PS.called,h0,hk]⟩
 have hk:p.tok.kind=k:=by simpa using eA
 have dT:=PS.lO hp.ok l8 hk
 have fy:=hp.ok.d8
 refine aQ (aK (ai (ae 3 aa (ak (qY (b9:=[dS p.tok.text]) (Bi:=[]) [] 2000 aa aa aa aa aa aa aa aa aa trivial (hC h0 hk) (fun r Bn fT=>?_))))))
 obtain⟨rfl,rfl⟩:=fT
 refine eB (PS.bi p++[(7,.one 69 32 (p.tok.enc.map .d))]) (dq aa aa ⟨aa,trivial⟩) (ae 1 aa (af ?_))
 refine al 2 aa (aI aa (fun dy=>?_) (fun dy=>?_))
 ·have he:¬e=0:=by simpa using dy
  refine ai (ae 2 aa (bh (fail F hp.ok e) aa aa aa aa aa (af (al 1 aa (ax ?_)))))
  exact⟨_,PS.bi (p.fail e)++[],rfl,dq rfl rfl trivial,by unfold PS.take;rw[aw h0,aw hk,aj he];rfl,by simp[PS.take,PS.called,h0,hk,he]⟩
 have he:e=0:=by simpa using dy
 refine aQ (ai (ae 4 aa ?_))
 refine ak (cM rfl rfl (by omega) ?_)
 refine ae 3 aa (af ?_)
 refine al 3 aa (ax ?_)
 exact⟨_,PS.bi p.step++[],rfl,dq rfl rfl trivial,by unfold PS.take;rw[aw h0,aw hk,aw he];rfl,by simp[PS.take,PS.called,h0,hk,he]⟩
set_option maxHeartbeats 1000000 in
theorem W2{T:bd}(F:FT T){p:PS}(hp:St p){k e:Int}(l8:k≠6){g:Nat}{e1 b1:Nat}{x x2:DC}(hC:p.err=0→p.tok.kind=k→bY T g ([dS p.tok.text]++[.vp 1001 0]) [(1001,.one e1 b1 [.d x])] fun r Bn=>r=dI e∧Bn=[(1001,.one e1 b1 [.d x2])]):bY T 180 [.vp 1000 0,dI k,.fn g [.vp 1001 0]] (PS.bi p++[(1001,.one e1 b1 [.d x])]) fun r Bn=>r=dS (p.take k e).1∧Bn=PS.bi (p.take k e).2++[(1001,.one e1 b1 [.d (if p.called k=true then x2 else x)])]:=by
 refine cw F.u7 aa (eD (PS.bi p++[(1001,.one e1 b1 [.d x])]) (dq aa aa ⟨aa,trivial⟩) (al 1 aa (aK (al 5 aa (aI aa (fun bM=>?_) (fun bM=>?_))))))
 ·have h0:¬p.err=0:=by simpa using bM
  refine al 1 aa (ax ?_)
  exact⟨_,PS.bi p++[(1001,.one e1 b1 [.d x])],rfl,dq rfl rfl ⟨rfl,trivial⟩,by unfold PS.take;rw[aj h0];rfl,by simp[PS.take,PS.called,h0]⟩
 have h0:p.err=0:=by simpa using bM
 refine aQ (ai (ae 1 aa (bh (tok F hp.ok) aa aa aa aa aa (ae 2 aa (af ?_)))))
 refine aK (ai (ae 3 aa (ak (iD aa aa ?_))))
 refine af (aI aa (fun eA=>?_) (fun eA=>?_))
 ·have hk:¬p.tok.kind=k:=by simpa using eA
  refine ai (ae 1 aa (bh (fail F hp.ok 5) aa aa aa aa aa (af (al 1 aa (ax ?_)))))
  exact⟨_,PS.bi (p.fail 5)++[(1001,.one e1 b1 [.d x])],rfl,dq rfl rfl ⟨rfl,trivial⟩,by unfold PS.take;rw[aw h0,aj hk];rfl,by simp[PS.take,PS.called,h0,hk]⟩
 have hk:p.tok.kind=k:=by simpa using eA
 have dT:=PS.lO hp.ok l8 hk
 have fy:=hp.ok.d8
 refine aQ (aK (ai (ae 3 aa (ak (qY (b9:=[dS p.tok.text,.vp 1001 0]) (Bi:=[(1001,.one e1 b1 [.d x])]) [(1001,1001)] 2000 aa aa aa aa aa aa aa aa aa ⟨aa,aa,trivial⟩ (hC h0 hk) (fun r Bn fT=>?_))))))
 obtain⟨rfl,rfl⟩:=fT
 refine eB (PS.bi p++[(1001,.one e1 b1 [.d x2]),(7,.one 69 32 (p.tok.enc.map .d))]) (dq aa aa ⟨aa,aa,trivial⟩) (ae 1 aa (af ?_))
 refine al 2 aa (aI aa (fun dy=>?_) (fun dy=>?_))
 ·have he:¬e=0:=by simpa using dy
  refine ai (ae 2 aa (bh (fail F hp.ok e) aa aa aa aa aa (af (al 1 aa (ax ?_)))))
  exact⟨_,PS.bi (p.fail e)++[(1001,.one e1 b1 [.d x2])],rfl,dq rfl rfl ⟨rfl,trivial⟩,by unfold PS.take;rw[aw h0,aw hk,aj he];rfl,by simp[PS.take,PS.called,h0,hk,he]⟩
 have he:e=0:=by simpa using dy
 refine aQ (ai (ae 4 aa ?_))
 refine ak (cM rfl rfl (by omega) ?_)
 refine ae 3 aa (af ?_)
 refine al 3 aa (ax ?_)
 exact⟨_,PS.bi p.step++[(1001,.one e1 b1 [.d x2])],rfl,dq rfl rfl ⟨rfl,trivial⟩,by unfold PS.take;rw[aw h0,aw hk,aw he];rfl,by simp[PS.take,PS.called,h0,hk,he]⟩
set_option maxHeartbeats 1000000 in
theorem W3{T:bd}(F:FT T){p:PS}(hp:St p){k e:Int}(l8:k≠6){g:Nat}{e1 b1:Nat}{x y x2 y2:DC}(hC:p.err=0→p.tok.kind=k→bY T g ([dS p.tok.text]++[.vp 1001 0]) [(1001,.one e1 b1 [.d x,.d y])] fun r Bn=>r=dI e∧Bn=[(1001,.one e1 b1 [.d x2,.d y2])]):bY T 180 [.vp 1000 0,dI k,.fn g [.vp 1001 0]] (PS.bi p++[(1001,.one e1 b1 [.d x,.d y])]) fun r Bn=>r=dS (p.take k e).1∧Bn=PS.bi (p.take k e).2++[(1001,.one e1 b1 [.d (if p.called k=true then x2 else x),.d (if p.called k=true then y2 else y)])]:=by
 refine cw F.u7 aa (eD (PS.bi p++[(1001,.one e1 b1 [.d x,.d y])]) (dq aa aa ⟨aa,trivial⟩) (al 1 aa (aK (al 5 aa (aI aa (fun bM=>?_) (fun bM=>?_))))))
 ·have h0:¬p.err=0:=by simpa using bM
  refine al 1 aa (ax ?_)
  exact⟨_,PS.bi p++[(1001,.one e1 b1 [.d x,.d y])],rfl,dq rfl rfl ⟨rfl,trivial⟩,by unfold PS.take;rw[aj h0];rfl,by simp[PS.take,PS.called,h0]⟩
 have h0:p.err=0:=by simpa using bM
 refine aQ (ai (ae 1 aa (bh (tok F hp.ok) aa aa aa aa aa (ae 2 aa (af ?_)))))
 refine aK (ai (ae 3 aa (ak (iD aa aa ?_))))
 refine af (aI aa (fun eA=>?_) (fun eA=>?_))
 ·have hk:¬p.tok.kind=k:=by simpa using eA
  refine ai (ae 1 aa (bh (fail F hp.ok 5) aa aa aa aa aa (af (al 1 aa (ax ?_)))))
  exact⟨_,PS.bi (p.fail 5)++[(1001,.one e1 b1 [.d x,.d y])],rfl,dq rfl rfl ⟨rfl,trivial⟩,by unfold PS.take;rw[aw h0,aj hk];rfl,by simp[PS.take,PS.called,h0,hk]⟩
 have hk:p.tok.kind=k:=by simpa using eA
 have dT:=PS.lO hp.ok l8 hk
 have fy:=hp.ok.d8
 refine aQ (aK (ai (ae 3 aa (ak (qY (b9:=[dS p.tok.text,.vp 1001 0]) (Bi:=[(1001,.one e1 b1 [.d x,.d y])]) [(1001,1001)] 2000 aa aa aa aa aa aa aa aa aa ⟨aa,aa,trivial⟩ (hC h0 hk) (fun r Bn fT=>?_))))))
 obtain⟨rfl,rfl⟩:=fT
 refine eB (PS.bi p++[(1001,.one e1 b1 [.d x2,.d y2]),(7,.one 69 32 (p.tok.enc.map .d))]) (dq aa aa ⟨aa,aa,trivial⟩) (ae 1 aa (af ?_))
 refine al 2 aa (aI aa (fun dy=>?_) (fun dy=>?_))
 ·have he:¬e=0:=by simpa using dy
  refine ai (ae 2 aa (bh (fail F hp.ok e) aa aa aa aa aa (af (al 1 aa (ax ?_)))))
  exact⟨_,PS.bi (p.fail e)++[(1001,.one e1 b1 [.d x2,.d y2])],rfl,dq rfl rfl ⟨rfl,trivial⟩,by unfold PS.take;rw[aw h0,aw hk,aj he];rfl,by simp[PS.take,PS.called,h0,hk,he]⟩
 have he:e=0:=by simpa using dy
 refine aQ (ai (ae 4 aa ?_))
 refine ak (cM rfl rfl (by omega) ?_)
 refine ae 3 aa (af ?_)
 refine al 3 aa (ax ?_)
 exact⟨_,PS.bi p.step++[(1001,.one e1 b1 [.d x2,.d y2])],rfl,dq rfl rfl ⟨rfl,trivial⟩,by unfold PS.take;rw[aw h0,aw hk,aw he];rfl,by simp[PS.take,PS.called,h0,hk,he]⟩
set_option maxHeartbeats 1000000 in
theorem W4{T:bd}(F:FT T){p:PS}(hp:St p){k e:Int}(l8:k≠6){g:Nat}{e1 b1 e2 b2:Nat}{x y y2:DC}(hC:p.err=0→p.tok.kind=k→bY T g ([dS p.tok.text]++[.vp 1001 0,.vp 1002 0]) [(1001,.one e1 b1 [.d x]),(1002,.one e2 b2 [.d y])] fun r Bn=>r=dI e∧Bn=[(1001,.one e1 b1 [.d x]),(1002,.one e2 b2 [.d y2])]):bY T 180 [.vp 1000 0,dI k,.fn g [.vp 1001 0,.vp 1002 0]] (PS.bi p++[(1001,.one e1 b1 [.d x]),(1002,.one e2 b2 [.d y])]) fun r Bn=>r=dS (p.take k e).1∧Bn=PS.bi (p.take k e).2++[(1001,.one e1 b1 [.d x]),(1002,.one e2 b2 [.d (if p.called k=true then y2 else y)])]:=by
 refine cw F.u7 aa (eD (PS.bi p++[(1001,.one e1 b1 [.d x]),(1002,.one e2 b2 [.d y])]) (dq aa aa ⟨aa,aa,trivial⟩) (al 1 aa (aK (al 5 aa (aI aa (fun bM=>?_) (fun bM=>?_))))))
 ·have h0:¬p.err=0:=by simpa using bM
  refine al 1 aa (ax ?_)
  exact⟨_,PS.bi p++[(1001,.one e1 b1 [.d x]),(1002,.one e2 b2 [.d y])],rfl,dq rfl rfl ⟨rfl,rfl,trivial⟩,by unfold PS.take;rw[aj h0];rfl,by simp[PS.take,PS.called,h0]⟩
 have h0:p.err=0:=by simpa using bM
 refine aQ (ai (ae 1 aa (bh (tok F hp.ok) aa aa aa aa aa (ae 2 aa (af ?_)))))
 refine aK (ai (ae 3 aa (ak (iD aa aa ?_))))
 refine af (aI aa (fun eA=>?_) (fun eA=>?_))
 ·have hk:¬p.tok.kind=k:=by simpa using eA
  refine ai (ae 1 aa (bh (fail F hp.ok 5) aa aa aa aa aa (af (al 1 aa (ax ?_)))))
  exact⟨_,PS.bi (p.fail 5)++[(1001,.one e1 b1 [.d x]),(1002,.one e2 b2 [.d y])],rfl,dq rfl rfl ⟨rfl,rfl,trivial⟩,by unfold PS.take;rw[aw h0,aj hk];rfl,by simp[PS.take,PS.called,h0,hk]⟩
 have hk:p.tok.kind=k:=by simpa using eA
 have dT:=PS.lO hp.ok l8 hk
 have fy:=hp.ok.d8
 refine aQ (aK (ai (ae 3 aa (ak (qY (b9:=[dS p.tok.text,.vp 1001 0,.vp 1002 0]) (Bi:=[(1001,.one e1 b1 [.d x]),(1002,.one e2 b2 [.d y])]) [(1001,1001),(1002,1002)] 2000 aa aa aa aa aa aa aa aa aa ⟨aa,aa,aa,aa,trivial⟩ (hC h0 hk) (fun r Bn fT=>?_))))))
 obtain⟨rfl,rfl⟩:=fT
 refine eB (PS.bi p++[(1001,.one e1 b1 [.d x]),(1002,.one e2 b2 [.d y2]),(7,.one 69 32 (p.tok.enc.map .d))]) (dq aa aa ⟨aa,aa,aa,trivial⟩) (ae 1 aa (af ?_))
 refine al 2 aa (aI aa (fun dy=>?_) (fun dy=>?_))
 ·have he:¬e=0:=by simpa using dy
  refine ai (ae 2 aa (bh (fail F hp.ok e) aa aa aa aa aa (af (al 1 aa (ax ?_)))))
  exact⟨_,PS.bi (p.fail e)++[(1001,.one e1 b1 [.d x]),(1002,.one e2 b2 [.d y2])],rfl,dq rfl rfl ⟨rfl,rfl,trivial⟩,by unfold PS.take;rw[aw h0,aw hk,aj he];rfl,by simp[PS.take,PS.called,h0,hk,he]⟩
 have he:e=0:=by simpa using dy
 refine aQ (ai (ae 4 aa ?_))
 refine ak (cM rfl rfl (by omega) ?_)
 refine ae 3 aa (af ?_)
 refine al 3 aa (ax ?_)
 exact⟨_,PS.bi p.step++[(1001,.one e1 b1 [.d x]),(1002,.one e2 b2 [.d y2])],rfl,dq rfl rfl ⟨rfl,rfl,trivial⟩,by unfold PS.take;rw[aw h0,aw hk,aw he];rfl,by simp[PS.take,PS.called,h0,hk,he]⟩
set_option maxHeartbeats 1000000 in
theorem W5{T:bd}(F:FT T){p:PS}(hp:St p){k e:Int}(l8:k≠6){g:Nat}{e1 b1 e2 b2:Nat}{x y z u y2 A u2:DC}(hC:p.err=0→p.tok.kind=k→bY T g ([dS p.tok.text]++[.vp 1001 0,.vp 1002 0]) [(1001,.one e1 b1 [.d x]),(1002,.one e2 b2 [.d y,.d z,.d u])] fun r Bn=>r=dI e∧Bn=[(1001,.one e1 b1 [.d x]),(1002,.one e2 b2 [.d y2,.d A,.d u2])]):bY T 180 [.vp 1000 0,dI k,.fn g [.vp 1001 0,.vp 1002 0]] (PS.bi p++[(1001,.one e1 b1 [.d x]),(1002,.one e2 b2 [.d y,.d z,.d u])]) fun r Bn=>r=dS (p.take k e).1∧Bn=PS.bi (p.take k e).2++[(1001,.one e1 b1 [.d x]),(1002,.one e2 b2 [.d (if p.called k=true then y2 else y),.d (if p.called k=true then A else z),.d (if p.called k=true then u2 else u)])]:=by
 refine cw F.u7 aa (eD (PS.bi p++[(1001,.one e1 b1 [.d x]),(1002,.one e2 b2 [.d y,.d z,.d u])]) (dq aa aa ⟨aa,aa,trivial⟩) (al 1 aa (aK (al 5 aa (aI aa (fun bM=>?_) (fun bM=>?_))))))
 ·have h0:¬p.err=0:=by simpa using bM
  refine al 1 aa (ax ?_)
  exact⟨_,PS.bi p++[(1001,.one e1 b1 [.d x]),(1002,.one e2 b2 [.d y,.d z,.d u])],rfl,dq rfl rfl ⟨rfl,rfl,trivial⟩,by unfold PS.take;rw[aj h0];rfl,by simp[PS.take,PS.called,h0]⟩
 have h0:p.err=0:=by simpa using bM
 refine aQ (ai (ae 1 aa (bh (tok F hp.ok) aa aa aa aa aa (ae 2 aa (af ?_)))))
 refine aK (ai (ae 3 aa (ak (iD aa aa ?_))))
 refine af (aI aa (fun eA=>?_) (fun eA=>?_))
 ·have hk:¬p.tok.kind=k:=by simpa using eA
  refine ai (ae 1 aa (bh (fail F hp.ok 5) aa aa aa aa aa (af (al 1 aa (ax ?_)))))
  exact⟨_,PS.bi (p.fail 5)++[(1001,.one e1 b1 [.d x]),(1002,.one e2 b2 [.d y,.d z,.d u])],rfl,dq rfl rfl ⟨rfl,rfl,trivial⟩,by unfold PS.take;rw[aw h0,aj hk];rfl,by simp[PS.take,PS.called,h0,hk]⟩
 have hk:p.tok.kind=k:=by simpa using eA
 have dT:=PS.lO hp.ok l8 hk
 have fy:=hp.ok.d8
 refine aQ (aK (ai (ae 3 aa (ak (qY (b9:=[dS p.tok.text,.vp 1001 0,.vp 1002 0]) (Bi:=[(1001,.one e1 b1 [.d x]),(1002,.one e2 b2 [.d y,.d z,.d u])]) [(1001,1001),(1002,1002)] 2000 aa aa aa aa aa aa aa aa aa ⟨aa,aa,aa,aa,trivial⟩ (hC h0 hk) (fun r Bn fT=>?_))))))
 obtain⟨rfl,rfl⟩:=fT
 refine eB (PS.bi p++[(1001,.one e1 b1 [.d x]),(1002,.one e2 b2 [.d y2,.d A,.d u2]),(7,.one 69 32 (p.tok.enc.map .d))]) (dq aa aa ⟨aa,aa,aa,trivial⟩) (ae 1 aa (af ?_))
 refine al 2 aa (aI aa (fun dy=>?_) (fun dy=>?_))
 ·have he:¬e=0:=by simpa using dy
  refine ai (ae 2 aa (bh (fail F hp.ok e) aa aa aa aa aa (af (al 1 aa (ax ?_)))))
  exact⟨_,PS.bi (p.fail e)++[(1001,.one e1 b1 [.d x]),(1002,.one e2 b2 [.d y2,.d A,.d u2])],rfl,dq rfl rfl ⟨rfl,rfl,trivial⟩,by unfold PS.take;rw[aw h0,aw hk,aj he];rfl,by simp[PS.take,PS.called,h0,hk,he]⟩
 have he:e=0:=by simpa using dy
 refine aQ (ai (ae 4 aa ?_))
 refine ak (cM rfl rfl (by omega) ?_)
 refine ae 3 aa (af ?_)
 refine al 3 aa (ax ?_)
 exact⟨_,PS.bi p.step++[(1001,.one e1 b1 [.d x]),(1002,.one e2 b2 [.d y2,.d A,.d u2])],rfl,dq rfl rfl ⟨rfl,rfl,trivial⟩,by unfold PS.take;rw[aw h0,aw hk,aw he];rfl,by simp[PS.take,PS.called,h0,hk,he]⟩
open Go
set_option maxRecDepth 10000
theorem W6{T:bd}(F:FT T)(s:List UInt8):bY T 209 ([dS s]++[]) [] fun r Bn=>r=d0∧Bn=[]:=by
 exact cw F.aaN aa (al 1 aa (al 1 aa (ax (⟨_,[],aa,trivial,aa,aa⟩))))
theorem name{T:bd}(F:FT T){p:PS}(hp:St p):bY T 169 [.vp 1000 0] (PS.bi p) fun r Bn=>r=dS p.name.1∧Bn=PS.bi p.name.2:=by
 refine cw F.aap aa (al 1 aa (ai (ae 1 aa ?_)))
 refine ak (jU (b9:=[.vp 1000 0,dI 2,.fn 209 []]) (Bi:=PS.bi p++[]) [(1000,1000),(1050,1050)] 2000 rfl rfl rfl rfl rfl rfl rfl (wq rfl rfl rfl rfl trivial) (yo F hp (by decide) (fun _ _=>W6 F _)) (fun r Bn fT=>?_))
 obtain⟨rfl,rfl⟩:=fT
 refine eB (PS.bi (p.take 2 0).2++[]) (dq aa aa trivial) (ae 1 aa (af ?_))
 exact ax (⟨_,PS.bi (p.take 2 0).2,aa,cL aa aa,aa,aa⟩)
theorem MG{T:bd}(F:FT T){D:Rd}(O:hM T D){s:List UInt8}(K:nO s)(least:Int):bY T 181 ([dS s]++[.vp 1001 0,.vp 1002 0]) [(1001,.one 3 8 [dI least]),(1002,.one 3 8 [d0])] fun r Bn=>r=dI (mD least s)∧Bn=[(1001,.one 3 8 [dI least]),(1002,.one 3 8 [dI (if mD least s=0 then(d6 s:Nat) else 0)])]:=by
 refine cw F.aaz aa ?_
 have U:=Cn K
 refine al 1 aa (ai (ae 1 aa ?_))
 refine ak (mO (args:=[dS s,dI 10,dI 64]) rfl (by repeat(first|exact trivial|apply And.intro)) (O.uint s K) (fun r Z Y=>?_))
 subst Y
 refine ae 5 aa (af ?_)
 refine aK (ai (ae 3 aa (ao aa aa (bN aa ?_))))
 refine ao aa aa (Am aa aa ?_)
 refine ae 2 aa (dc (g:=bj) aa (fun z=>?_) (fun z=>?_))
 ·have J:¬(d6 s:Int)<1099511627776:=by simp at z;omega
  have I:mD least s=10:=aj (fun h=>J h.1)
  refine en aa (z) (en aa (z) (en aa (z) (en aa (z) (ak (cT aa (z) aa ?_)))))
  refine af (fm aa aa (al 1 aa (ax ?_)))
  rw[I]
  exact⟨_,[(1001,.one 3 8 [dI least]),(1002,.one 3 8 [d0])],aa,⟨aa,aa,trivial⟩,aa,aa⟩
 have dT:(d6 s:Int)<1099511627776:=by simp at z;omega
 refine ao aa (z) (bN aa ?_)
 refine ao aa (z) (CM aa ?_)
 rw[wrap_i64 (by omega) (by omega)]
 refine ao aa (z) (df aa aa aa ?_)
 refine ao aa (z) (pU aa aa ?_)
 refine ak (cJ aa (z) aa ?_)
 refine af (aI aa (fun A=>?_) (fun A=>?_))
 ·have I:mD least s=10:=aj (fun h=>by have G:=A;simp at G;omega)
  refine al 1 aa (ax ?_)
  rw[I]
  exact⟨_,[(1001,.one 3 8 [dI least]),(1002,.one 3 8 [d0])],aa,⟨aa,aa,trivial⟩,aa,aa⟩
 have I:mD least s=0:=aw ⟨dT,by have G:=A;simp at G;omega⟩
 refine aQ (ai (ae 2 aa ?_))
 rw[wrap_i64 (by omega) (by omega)]
 refine ae 1 aa (af ?_)
 refine al 1 aa (ax ?_)
 rw[I]
 exact⟨_,[(1001,.one 3 8 [dI least]),(1002,.one 3 8 [dI (d6 s:Nat)])],aa,⟨aa,aa,trivial⟩,aa,aa⟩
theorem number{T:bd}(F:FT T){D:Rd}(z:hM T D){p:PS}(hp:St p)(least:Int):bY T 129 [.vp 1000 0,dI least] (PS.bi p) fun r Bn=>r=dI (p.number least).1∧Bn=PS.bi (p.number least).2:=by
 refine cw F.PJ aa (al 2 aa (al 2 aa (ai (ae 2 aa ?_))))
 refine ak (jU (b9:=[.vp 1000 0,dI 3,.fn 181 [.vp 1001 0,.vp 1002 0]]) (Bi:=PS.bi p++[(1001,.one 3 8 [dI least]),(1002,.one 3 8 [d0])]) [(1000,1000),(1050,1050),(1001,3),(1002,5)] 2000 rfl rfl rfl rfl rfl rfl rfl (wq rfl rfl rfl rfl ⟨rfl,rfl,rfl,rfl,trivial⟩) (W4 F hp (by decide) (fun _ hk=>MG F z (hp.nz.1 _ hp.ok.mem hk) least)) (fun r Bn fT=>?_))
 obtain⟨rfl,rfl⟩:=fT
 refine eB (PS.bi (p.take 3 (mD least p.tok.text)).2++[(5,.one 3 8 [.d (if p.called 3=true then .i .i64 (if mD least p.tok.text=0 then(d6 p.tok.text:Nat) else 0) else .i .i64 0)])]) (dq aa aa ⟨aa,trivial⟩) (af (al 2 aa (ax (⟨_,PS.bi (p.number least).2,aa,cL aa aa,?_,aa⟩))))
 unfold PS.number
 by_cases A:p.called 3=true<;>by_cases h2:mD least p.tok.text=0<;>simp[gB,A,h2]
end Go.Ev.Pp
