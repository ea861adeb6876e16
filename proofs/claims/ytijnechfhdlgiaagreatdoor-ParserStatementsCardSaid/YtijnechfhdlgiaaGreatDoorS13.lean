/- Part 13 of rules for walks through the code of a program, and of such walks; what each part proves is said by its theorems. -/
import Derived.Test.YtijnechfhdlgiaaGreatDoorS11
import Derived.Test.YtijnechfhdlgiaaGreatDoorS12
set_option linter.unusedVariables false
set_option linter.unusedSimpArgs false
noncomputable section
set_option maxRecDepth 100000
set_option maxHeartbeats 4000000
namespace Go.Ev.Pp
open Go
structure cu where
 kind:Int
 pos:Int
 text:List UInt8
def cu.enc(t:cu):List DC:=[.i .i64 t.kind,.i .i64 t.pos,cl t.text]
structure iA where
 kind:Int
 n:Int
 s:List UInt8
def iA.enc(v:iA):List DC:=[.i .i64 v.kind,.i .i64 v.n,cl v.s]
structure aT where
 kind:Int
 a:Int
 b:Int
 table:List UInt8
 name:List UInt8
 c:iA
def aT.enc(e:aT):List DC:=[.i .i64 e.kind,.i .i64 e.a,.i .i64 e.b,cl e.table,cl e.name,.i .i64 e.c.kind,.i .i64 e.c.n,cl e.c.s]
def eU(l:List DC):VV:=.agg (l.map .d)
structure PS where
 aF:List cu
 aO:Nat
 pos:Int
 err:Int
 depth:Nat
 ex:List aT
structure PS.ok(p:PS):Prop where
 lt:p.aO<p.aF.length
 eG:p.aF.length≤2000
 last:∀(i:Nat)t,p.aF[i]?=some t→(t.kind=6↔i+1=p.aF.length)
 lC:p.depth≤60
 wu:p.ex.length≤p.aO+(if p.err=0 then 0 else 1)
def PS.row(p:PS):List VV:=[.d (.sl (p.aF.map cu.enc)),dI (p.aO:Nat),dI p.pos,dI p.err,dI (p.depth:Nat),.ac 1050 (p.ex.map aT.enc).length 8]
def PS.bi(p:PS):bw:=[(1000,.one 123 80 p.row),(1050,.acc 142 88 8 (p.ex.map aT.enc))]
def PO:cu:=⟨0,0,[]⟩
def PS.tok(p:PS):cu:=(p.aF[p.aO]?).getD PO
theorem PS.ok.get{p:PS}(h:p.ok):p.aF[p.aO]?=some p.tok:=by
 have z:p.aF[p.aO]?=some (p.aF[p.aO]'h.lt):=fe h.lt
 unfold PS.tok
 rw[z];rfl
def PS.fail(p:PS)(e:Int):PS:=if p.err=0 then{p with err:=e,pos:=p.tok.pos} else p
def PS.next(p:PS)(kind:Int)(text:List UInt8):Bool:=decide (p.err=0)&&(decide (p.tok.kind=kind)&&decide (p.tok.text=text))
def PS.step(p:PS):PS:={p with aO:=p.aO+1}
def PS.accept(p:PS)(kind:Int)(text:List UInt8):Bool×PS:=if p.next kind text then(true,p.step) else(false,p)
def PS.keyword(p:PS)(s:List UInt8):Bool×PS:=p.accept 1 s
def PS.sign(p:PS)(s:List UInt8):Bool×PS:=p.accept 5 s
def PS.gA(p:PS)(s:List UInt8):PS:=if(p.keyword s).1 then(p.keyword s).2 else(p.keyword s).2.fail 5
theorem PS.Ep{p:PS}{s:List UInt8}(h:(p.keyword s).1=true):p.gA s=(p.keyword s).2:=az h
theorem PS.Bs{p:PS}{s:List UInt8}(h:(p.keyword s).1=false):p.gA s=(p.keyword s).2.fail 5:=al (by rw[h];decide)
def PS.bc(p:PS)(l:List (List UInt8)):PS:=l.foldl PS.gA p
def PS.bJ(p:PS)(s:List UInt8):PS:=if(p.sign s).1 then(p.sign s).2 else(p.sign s).2.fail 5
def PS.enter(p:PS):Bool×PS:=if p.depth=60 then(false,p.fail 19) else(true,{p with depth:=p.depth+1})
def PS.push(p:PS)(e:aT):Int×PS:=((p.ex.length:Nat),{p with ex:=p.ex++[e]})
theorem PS.yt{p:PS}(h:p.ok){e:Int}(he:e≠0):(p.fail e).ok:=by
 unfold PS.fail
 split
 ·rename_i h0
  refine⟨h.lt,h.eG,h.last,h.lC,?_⟩
  have:=h.wu
  rw[az h0] at this
  show p.ex.length≤p.aO+(if e=0 then 0 else 1)
  rw[al he]
  omega
 exact h
theorem PS.lQ{p:PS}(h:p.ok){kind:Int}{text:List UInt8}(hk:kind≠6)(z:p.next kind text=true):p.aO+1<p.aF.length:=by
 unfold PS.next at z
 simp only[fE,fx] at z
 have A:=h.last _ _ h.get
 rw[z.2.1] at A
 have h2:=h.lt
 have G:¬(p.aO+1=p.aF.length):=fun e=>hk (A.2 e)
 omega
theorem PS.uV{p:PS}(h:p.ok)(z:p.aO+1<p.aF.length):p.step.ok:=
 ⟨z,h.eG,h.last,h.lC,by have:=h.wu;show p.ex.length≤p.aO+1+(if p.err=0 then 0 else 1);omega⟩
theorem PS.L9{p:PS}(h:p.ok){kind:Int}{text:List UInt8}(hk:kind≠6):(p.accept kind text).2.ok:=by
 unfold PS.accept
 split
 ·rename_i z;exact PS.uV h (PS.lQ h hk z)
 exact h
theorem PS.xU{p:PS}(h:p.ok)(s:List UInt8):(p.keyword s).2.ok:=PS.L9 h aq
theorem PS.Bt{p:PS}(h:p.ok)(s:List UInt8):(p.sign s).2.ok:=PS.L9 h aq
theorem PS.U6{p:PS}(h:p.ok)(s:List UInt8):(p.gA s).ok:=by
 unfold PS.gA
 split
 ·exact PS.xU h s
 exact PS.yt (PS.xU h s) aq
theorem PS.G3{l:List (List UInt8)}:∀{p:PS},p.ok→(p.bc l).ok:=by
 induction l with
 |nil=>intro p h;exact h
 |cons s r z=>intro p h;exact z (PS.U6 h s)
theorem PS.SU{p:PS}(h:p.ok)(s:List UInt8):(p.bJ s).ok:=by
 unfold PS.bJ
 split
 ·exact PS.Bt h s
 exact PS.yt (PS.Bt h s) aq
theorem PS.U7{p:PS}(h:p.ok):p.enter.2.ok:=by
 unfold PS.enter
 split
 ·exact PS.yt h aq
 rename_i z
 exact⟨h.lt,h.eG,h.last,by show p.depth+1≤60;have:=h.lC;omega,h.wu⟩
section
variable{T:bd}{VE:cj}{B L:bw}
theorem dK{p:PS}(z:bf B 1000=some (.one 123 80 p.row))(h2:bf B 1050=some (.acc 142 88 8 (p.ex.map aT.enc)))(A:bn L B):bn (p.bi++L) B:=⟨z,h2,A⟩
theorem cX{p:PS}(z:bf B 1000=some (.one 123 80 p.row))(h2:bf B 1050=some (.acc 142 88 8 (p.ex.map aT.enc))):bn p.bi B:=⟨z,h2,trivial⟩
theorem eX{ops:List bA}{Q:cj→bw→Prop}(B':bw)(z:bn B' B)(h:VO T ops VE B' Q):VO T ops VE B Q:=fun H0 X0 E H β A=>
 (h H0 X0 E H β (A.Cg fun _ _ hk=>z.get hk)).mono fun _ _ hp=>hp.more fun _ s G I=>⟨s,z.get G,I⟩
theorem eZ{c:IC}{R:Ex→cj→bw→Prop}(B':bw)(z:bn B' B)(h:VC T c VE B' R):VC T c VE B R:=fun H0 X0 E H β A=>
 (h H0 X0 E H β (A.Cg fun _ _ hk=>z.get hk)).mono fun _ _ _ hp=>hp.more fun _ s G I=>⟨s,z.get G,I⟩
end
def eE(s:List UInt8):Nat:=s.foldl (fun n c=>n*10+(c.toNat-48)) 0
def om(s:List UInt8):Prop:=0<s.length∧s.length≤19∧∀c,c∈s→48≤c.toNat∧c.toNat≤57
def PS.nY(p:PS):Prop:=(∀t,t∈p.aF→t.kind=3→om t.text)∧∀t,t∈p.aF→t.text.length≤200
theorem PS.ok.mem{p:PS}(h:p.ok):p.tok∈p.aF:=lJ h.get
structure St(p:PS):Prop where
 ok:p.ok
 nY:p.nY
def PS.called(p:PS)(k:Int):Bool:=decide (p.err=0)&&decide (p.tok.kind=k)
def PS.take(p:PS)(k:Int)(e:Int):List UInt8×PS:=if p.err=0 then(if p.tok.kind=k then(if e=0 then(p.tok.text,p.step) else([],p.fail e)) else([],p.fail 5)) else([],p)
theorem PS.mc{p:PS}(h:p.ok){k:Int}(hk:k≠6)(A:p.tok.kind=k):p.aO+1<p.aF.length:=by
 have z:=h.last _ _ h.get
 rw[A] at z
 have h2:=h.lt
 have G:¬(p.aO+1=p.aF.length):=fun e=>hk (z.2 e)
 omega
theorem PS.Wb{p:PS}(h:p.ok){k e:Int}(hk:k≠6):(p.take k e).2.ok:=by
 unfold PS.take
 split
 ·split
  ·rename_i z
   split
   ·exact PS.uV h (PS.mc h hk z)
   rename_i he;exact PS.yt h he
  exact PS.yt h aq
 exact h
def PS.name(p:PS):List UInt8×PS:=p.take 2 0
def mW(least:Int)(s:List UInt8):Int:=if(eE s:Int)<1099511627776∧least<(eE s:Int) then 0 else 10
def PS.number(p:PS)(least:Int):Int×PS:=(if p.called 3=true∧mW least p.tok.text=0 then(eE p.tok.text:Nat) else 0,(p.take 3 (mW least p.tok.text)).2)
structure Rd where
 day:List UInt8→Int×Int
 iU:List UInt8→(Int×Int)×Int
 int:Bool→List UInt8→Option Int
def Rd.kr(D:Rd)(s:List UInt8):Int:=if(D.day s).2=0∧1000000≤(D.day s).1 then 10 else(D.day s).2
def PS.day(p:PS)(D:Rd):Int×PS:=(if p.called 4=true then(D.day p.tok.text).1 else 0,(p.take 4 (D.kr p.tok.text)).2)
def PS.period(p:PS)(D:Rd):(Int×Int)×PS:=(if p.called 4=true then(D.iU p.tok.text).1 else(0,0),(p.take 4 (D.iU p.tok.text).2).2)
def Rd.rh(D:Rd)(neg:Bool)(s:List UInt8):Int:=if(D.int neg s).isSome then 0 else 10
def PS.integer(p:PS)(D:Rd)(neg:Bool):iA×PS:=(⟨1,if p.called 3=true then(D.int neg p.tok.text).getD 0 else 0,[]⟩,(p.take 3 (D.rh neg p.tok.text)).2)
def hZ:List UInt8:=[45]
def pQ:List UInt8:=[84,82,85,69]
def pI:List UInt8:=[70,65,76,83,69]
def lW:List UInt8:=[78,85,76,76]
def cu.lU(t:cu):Bool:=decide (t.kind=3)||(decide (t.kind=4)||(if t.kind=5 then decide (t.text=hZ) else(decide (t.kind=1)&&(decide (t.text=pQ)||(decide (t.text=pI)||decide (t.text=lW))))))
def cI:iA:=⟨0,0,[]⟩
def PS.literal(p:PS)(D:Rd):iA×PS:=
 if p.err≠0 then(cI,p)
 else if p.tok.lU=false then(cI,p.fail 5)
 else if(p.sign hZ).1=true then(p.sign hZ).2.integer D true
 else if p.tok.kind=3 then p.integer D false
 else if(p.keyword pQ).1=true then(⟨3,1,[]⟩,(p.keyword pQ).2)
 else if(p.keyword pI).1=true then(⟨3,0,[]⟩,(p.keyword pI).2)
 else if(p.keyword lW).1=true then(cI,(p.keyword lW).2)
 else(⟨2,0,p.tok.text⟩,p.step)
theorem PS.wD(p:PS)(e:Int):(p.fail e).aF=p.aF:=by unfold PS.fail;split<;>rfl
theorem PS.K9(p:PS)(k:Int)(s:List UInt8):(p.accept k s).2.aF=p.aF:=by unfold PS.accept;split<;>rfl
theorem PS.Hu(p:PS)(s:List UInt8):(p.sign s).2.aF=p.aF:=PS.K9 ..
theorem PS.GX(p:PS)(s:List UInt8):(p.keyword s).2.aF=p.aF:=PS.K9 ..
theorem PS.Tt(p:PS)(s:List UInt8):(p.gA s).aF=p.aF:=by
 unfold PS.gA;split
 ·exact PS.GX ..
 rw[PS.wD,PS.GX]
theorem PS.Sk(p:PS)(s:List UInt8):(p.bJ s).aF=p.aF:=by
 unfold PS.bJ;split
 ·exact PS.Hu ..
 rw[PS.wD,PS.Hu]
theorem PS.Sl{l:List (List UInt8)}:∀{p:PS},(p.bc l).aF=p.aF:=by
 induction l with
 |nil=>intro p;rfl
 |cons s r z=>intro p;exact(z (p:=p.gA s)).trans (PS.Tt p s)
theorem PS.Tu(p:PS):p.enter.2.aF=p.aF:=by
 unfold PS.enter;split
 ·exact PS.wD ..
 rfl
theorem PS.Ug(p:PS)(k e:Int):(p.take k e).2.aF=p.aF:=by
 unfold PS.take
 split
 ·split
  ·split
   ·rfl
   exact PS.wD ..
  exact PS.wD ..
 rfl
theorem St.of{p q:PS}(h:St p)(ho:q.ok)(z:q.aF=p.aF):St q:=⟨ho,by unfold PS.nY;rw[z];exact h.nY⟩
theorem St.fail{p:PS}(h:St p){e:Int}(he:e≠0):St (p.fail e):=h.of (PS.yt h.ok he) (PS.wD ..)
theorem St.sign{p:PS}(h:St p)(s:List UInt8):St (p.sign s).2:=h.of (PS.Bt h.ok s) (PS.Hu ..)
theorem St.keyword{p:PS}(h:St p)(s:List UInt8):St (p.keyword s).2:=h.of (PS.xU h.ok s) (PS.GX ..)
theorem St.bc{p:PS}(h:St p)(l:List (List UInt8)):St (p.bc l):=h.of (PS.G3 h.ok) PS.Sl
theorem St.bJ{p:PS}(h:St p)(s:List UInt8):St (p.bJ s):=h.of (PS.SU h.ok s) (PS.Sk ..)
theorem St.enter{p:PS}(h:St p):St p.enter.2:=h.of (PS.U7 h.ok) (PS.Tu ..)
theorem St.take{p:PS}(h:St p){k e:Int}(hk:k≠6):St (p.take k e).2:=h.of (PS.Wb h.ok hk) (PS.Ug ..)
theorem St.name{p:PS}(h:St p):St p.name.2:=h.take aq
theorem St.number{p:PS}(h:St p)(l:Int):St (p.number l).2:=h.take aq
theorem St.day{p:PS}(h:St p)(D:Rd):St (p.day D).2:=h.take aq
theorem St.period{p:PS}(h:St p)(D:Rd):St (p.period D).2:=h.take aq
theorem St.integer{p:PS}(h:St p)(D:Rd)(n:Bool):St (p.integer D n).2:=h.take aq
theorem PS.tc{p:PS}{k:Int}{s:List UInt8}(h:(p.accept k s).1=false):(p.accept k s).2=p∧p.next k s=false:=by
 unfold PS.accept at h⊢
 split at h
 ·cases h
 rename_i z;rw[al z];exact⟨rfl,by simpa using z⟩
theorem PS.qg{p:PS}{k:Int}{s:List UInt8}(h:(p.accept k s).1=true):(p.accept k s).2=p.step∧p.next k s=true:=by
 unfold PS.accept at h⊢
 split at h
 ·rename_i z;rw[az z];exact⟨rfl,z⟩
 cases h
theorem PS.iS{p:PS}{s:List UInt8}(h:(p.sign s).1=false):(p.sign s).2=p:=(PS.tc h).1
theorem PS.da{p:PS}{s:List UInt8}(h:(p.keyword s).1=false):(p.keyword s).2=p:=(PS.tc h).1
theorem PS.GY{p:PS}(h0:p.err=0)(z:p.tok.lU=true)(A:(p.sign hZ).1=false)(Z:p.tok.kind≠3)(G:(p.keyword pQ).1=false)(I:(p.keyword pI).1=false)(hN:(p.keyword lW).1=false):p.tok.kind=4:=by
 have J:=(PS.tc A).2
 have K:=(PS.tc G).2
 have O:=(PS.tc I).2
 have U:=(PS.tc hN).2
 unfold PS.next at J K O U
 unfold cu.lU at z
 by_cases Y:p.tok.kind=4
 ·exact Y
 by_cases k5:p.tok.kind=5
 ·simp_all
 by_cases k1:p.tok.kind=1
 ·simp_all
 simp_all
theorem PS.Ls{p:PS}(h:St p)(D:Rd):St (p.literal D).2:=by
 unfold PS.literal
 split
 ·exact h
 rename_i h0
 split
 ·exact h.fail aq
 rename_i z
 split
 ·exact(h.sign _).integer D true
 rename_i h2
 split
 ·exact h.integer D false
 rename_i A
 split
 ·exact h.keyword _
 rename_i G
 split
 ·exact h.keyword _
 rename_i I
 split
 ·exact h.keyword _
 rename_i J
 have hk:=PS.GY (by simpa using h0) (by simpa using z) (by simpa using h2) A (by simpa using G) (by simpa using I) (by simpa using J)
 exact h.of (PS.uV h.ok (PS.mc h.ok (k:=4) aq hk)) aa
def ed(p:PS):Nat:=if p.err=0 then 0 else 1
def PS.pk(p:PS):Prop:=p.err≠0→p.pos=p.tok.pos
structure bO(k:Nat)(p q:PS):Prop where
 st:St q
 aF:q.aF=p.aF
 depth:q.depth=p.depth
 aO:p.aO≤q.aO
 sl:q.ex.length+(p.aO+ed p)+k≤p.ex.length+(q.aO+ed q)
 er:q.err=0→p.err=0
 pk:p.pk→q.pk
theorem bO.refl{p:PS}(h:St p):bO 0 p p:=⟨h,rfl,rfl,bR _,ah,id,id⟩
theorem bO.trans{j k:Nat}{p q r:PS}(h:bO j p q)(g:bO k q r):bO (j+k) p r:=
 ⟨g.st,g.aF.trans h.aF,g.depth.trans h.depth,kx h.aO g.aO,by have:=h.sl;have:=g.sl;omega,fun k=>h.er (g.er k),fun k=>g.pk (h.pk k)⟩
theorem bO.dW{j k:Nat}{p q:PS}(h:bO j p q)(hk:k≤j):bO k p q:=⟨h.st,h.aF,h.depth,h.aO,by have:=h.sl;omega,h.er,h.pk⟩
theorem bO.step{p:PS}(h:St p)(h0:p.err=0)(z:p.aO+1<p.aF.length):bO 1 p p.step:=
 ⟨h.of (PS.uV h.ok z) rfl,rfl,rfl,tS _,by show p.ex.length+(p.aO+ed p)+1≤p.ex.length+(p.aO+1+ed p);omega,id,fun _ k=>absurd h0 k⟩
theorem bO.FD{p:PS}(h:St p){e:Int}(he:e≠0)(h0:p.err=0):bO 1 p (p.fail e):=by
 have e1:p.fail e={p with err:=e,pos:=p.tok.pos}:=az h0
 refine⟨h.fail he,PS.wD ..,by rw[e1],by rw[e1];exact bR _,?_,fun _=>h0,fun _ _=>by rw[e1];rfl⟩
 rw[e1]
 unfold ed
 rw[az h0,al he]
 show p.ex.length+(p.aO+0)+1≤p.ex.length+(p.aO+1)
 omega
theorem bO.fail{p:PS}(h:St p){e:Int}(he:e≠0):bO 0 p (p.fail e):=by
 by_cases h0:p.err=0
 ·exact(bO.FD h he h0).dW ah
 rw[show p.fail e=p from al h0];exact .refl h
theorem bO.accept{p:PS}(h:St p){k:Int}(hk:k≠6){s:List UInt8}(z:(p.accept k s).1=true):bO 1 p (p.accept k s).2:=by
 obtain⟨A,h2⟩:=PS.qg z
 rw[A]
 exact .step h (by unfold PS.next at h2;simp only[fE,fx] at h2;exact h2.1) (PS.lQ h.ok hk h2)
theorem bO.sign{p:PS}(h:St p){s:List UInt8}(z:(p.sign s).1=true):bO 1 p (p.sign s).2:=.accept h aq z
theorem bO.keyword{p:PS}(h:St p){s:List UInt8}(z:(p.keyword s).1=true):bO 1 p (p.keyword s).2:=.accept h aq z
theorem bO.zT{p:PS}(h:St p)(s:List UInt8):bO 0 p (p.sign s).2:=by
 cases z:(p.sign s).1
 ·rw[PS.iS z];exact .refl h
 exact(bO.sign h z).dW ah
theorem bO.HH{p:PS}(h:St p)(s:List UInt8):bO 0 p (p.keyword s).2:=by
 cases z:(p.keyword s).1
 ·rw[PS.da z];exact .refl h
 exact(bO.keyword h z).dW ah
theorem bO.gA{p:PS}(h:St p)(s:List UInt8):bO 0 p (p.gA s):=by
 cases z:(p.keyword s).1
 ·rw[PS.Bs z,PS.da z];exact .fail h aq
 rw[PS.Ep z];exact(bO.keyword h z).dW ah
theorem bO.bc{l:List (List UInt8)}:∀{p:PS},St p→bO 0 p (p.bc l):=by
 induction l with
 |nil=>intro p h;exact .refl h
 |cons s r z=>intro p h;exact(bO.gA h s).trans (z (bO.gA h s).st)
theorem bO.bJ{p:PS}(h:St p)(s:List UInt8):bO 0 p (p.bJ s):=by
 unfold PS.bJ
 split
 ·exact bO.zT h s
 exact(bO.zT h s).trans (bO.fail (h.sign s) aq)
theorem bO.zU{p:PS}(h:St p){k e:Int}(hk:k≠6)(h0:p.err=0):bO 1 p (p.take k e).2:=by
 unfold PS.take
 rw[az h0]
 split
 ·rename_i z
  split
  ·exact .step h h0 (PS.mc h.ok hk z)
  rename_i he;exact .FD h he h0
 exact .FD h aq h0
theorem bO.take{p:PS}(h:St p){k e:Int}(hk:k≠6):bO 0 p (p.take k e).2:=by
 by_cases h0:p.err=0
 ·exact(bO.zU h hk h0).dW ah
 unfold PS.take;rw[al h0];exact .refl h
theorem bO.HI{p:PS}(h:St p)(D:Rd)(h0:p.err=0):bO 1 p (p.literal D).2:=by
 unfold PS.literal
 rw[al (by simpa using h0)]
 split
 ·exact .FD h aq h0
 rename_i I
 split
 ·rename_i h2
  exact((bO.sign h h2).trans (bO.take (h.sign _) (k:=3) aq)).dW ah
 rename_i h2
 split
 ·exact bO.zU h aq h0
 rename_i J
 split
 ·rename_i z;exact .keyword h z
 rename_i z
 split
 ·rename_i A;exact .keyword h A
 rename_i A
 split
 ·rename_i G;exact .keyword h G
 rename_i G
 have hk:=PS.GY h0 (by simpa using I) (by simpa using h2) J (by simpa using z) (by simpa using A) (by simpa using G)
 exact .step h h0 (PS.mc h.ok (k:=4) aq hk)
theorem bO.push{k:Nat}{p q:PS}(hp:p.ok)(h:bO (k+1) p q)(e:aT):bO k p (q.push e).2:=by
 have A:=h.sl
 have h2:=hp.wu
 have z:(q.push e).2.ex.length=q.ex.length+1:=by simp[PS.push]
 refine⟨h.st.of ⟨h.st.ok.lt,h.st.ok.eG,h.st.ok.last,h.st.ok.lC,?_⟩ aa,h.aF,h.depth,h.aO,?_,h.er,h.pk⟩
 ·rw[z]
  show q.ex.length+1≤q.aO+ed q
  have G:p.ex.length≤p.aO+ed p:=h2
  omega
 rw[z]
 show q.ex.length+1+(p.aO+ed p)+k≤p.ex.length+(q.aO+ed q)
 omega
theorem PS.ok.small{p:PS}(h:p.ok):p.ex.length≤5000:=by
 have z:=h.wu
 have h2:=h.lt
 have A:=h.eG
 split at z<;>omega
def jJ:List UInt8:=[46]
def fv:List UInt8:=[42]
def oD:List UInt8:=[43]
def nE:List UInt8:=[61]
def vK:List UInt8:=[60]
def vL:List UInt8:=[62]
def cE:List UInt8:=[40]
def ee:List UInt8:=[41]
def AJ:List UInt8:=[73,83]
def xA:List UInt8:=[78,79,84]
def mH:List UInt8:=[65,78,68]
def mN:List UInt8:=[79,82]
def PS.gJ(p:PS):Int×PS:=
 if(p.name.2.sign jJ).1=true then((p.name.2.sign jJ).2.name.2).push ⟨2,0,0,p.name.1,(p.name.2.sign jJ).2.name.1,cI⟩
 else p.name.2.push ⟨2,0,0,[],p.name.1,cI⟩
def kJ(sub:PS→Int×PS)(test:PS→Option (Int×PS)):Nat→Int→PS→Int×PS
 |0,a,p=>(a,p)
 |k+1,a,p=>match test p with
  |none=>(a,p)
  |some (kind,q)=>kJ sub test k ((sub q).2.push ⟨kind,a,(sub q).1,[],[],cI⟩).1 ((sub q).2.push ⟨kind,a,(sub q).1,[],[],cI⟩).2
def chain(sub:PS→Int×PS)(test:PS→Option (Int×PS))(p:PS):Int×PS:=kJ sub test p.aF.length (sub p).1 (sub p).2
def mg(p:PS):Option (Int×PS):=if(p.sign fv).1=true then some (5,(p.sign fv).2) else none
def kR(p:PS):Option (Int×PS):=if(p.sign hZ).1=true then some (4,(p.sign hZ).2) else if(p.sign oD).1=true then some (3,(p.sign oD).2) else none
def mI(p:PS):Option (Int×PS):=if(p.keyword mH).1=true then some (9,(p.keyword mH).2) else none
def ng(p:PS):Option (Int×PS):=if(p.keyword mN).1=true then some (10,(p.keyword mN).2) else none
def un(p:PS)(kind a:Int):Int×PS:=p.push ⟨kind,a,0,[],[],cI⟩
def sS(sub:PS→Int×PS)(kind a:Int)(q:PS):Int×PS:=(sub q).2.push ⟨kind,a,(sub q).1,[],[],cI⟩
def ja(sub:PS→Int×PS)(p:PS):Int×PS:=
 if((sub p).2.sign nE).1=true then sS sub 6 (sub p).1 ((sub p).2.sign nE).2
 else if((sub p).2.sign vK).1=true then sS sub 7 (sub p).1 ((sub p).2.sign vK).2
 else if((sub p).2.sign vL).1=true then sS sub 8 (sub p).1 ((sub p).2.sign vL).2
 else if((sub p).2.keyword AJ).1=true then un (((sub p).2.keyword AJ).2.bc [lW]) 12 (sub p).1
 else sub p
def PS.up(p:PS):PS:={p with depth:=p.depth-1}
def nZ(sub inner:PS→Int×PS)(p:PS):Int×PS:=
 if p.next 1 xA=false then sub p
 else if p.enter.1=false then(0,p.enter.2)
 else un (inner p.enter.2.step).2.up 11 (inner p.enter.2.step).1
def lX(D:Rd)(inner:PS→Int×PS)(p:PS):Int×PS:=
 if p.err≠0 then(0,p)
 else if p.next 5 cE=true then(if p.enter.1=false then(0,p.enter.2) else((inner p.enter.2.step).1,((inner p.enter.2.step).2.bJ ee).up))
 else if p.tok.kind=2 then p.gJ
 else(p.literal D).2.push ⟨1,0,0,[],[],(p.literal D).1⟩
def xL(D:Rd):Nat→(PS→Int×PS)×(PS→Int×PS)
 |0=>(fun p=>(0,p),fun p=>(0,p))
 |n+1=>(chain (chain (nZ (ja (chain (chain (lX D (xL D n).1) mg) kR)) (xL D n).2) mI) ng,nZ (ja (chain (chain (lX D (xL D n).1) mg) kR)) (xL D n).2)
def fD(D:Rd)(n:Nat):PS→Int×PS:=lX D (xL D n).1
def fH(D:Rd)(n:Nat):PS→Int×PS:=chain (fD D n) mg
def eP(D:Rd)(n:Nat):PS→Int×PS:=chain (fH D n) kR
def cmpL(D:Rd)(n:Nat):PS→Int×PS:=ja (eP D n)
def fb(D:Rd)(n:Nat):PS→Int×PS:=(xL D n).2
def jB(D:Rd)(n:Nat):PS→Int×PS:=chain (fb D (n+1)) mI
def mh(D:Rd)(n:Nat):PS→Int×PS:=(xL D n).1
theorem x6(D:Rd)(n:Nat):fb D (n+1)=nZ (cmpL D n) (fb D n):=rfl
theorem bO.gJ{p:PS}(h:St p)(h0:p.err=0):bO 0 p p.gJ.2:=by
 have z:bO 1 p p.name.2:=bO.zU h aq h0
 unfold PS.gJ
 split
 ·rename_i A
  have h2:bO (1+(1+0)) p ((p.name.2.sign jJ).2.name.2):=z.trans ((bO.sign z.st A).trans (bO.take (z.st.sign _) (k:=2) (e:=0) aq))
  exact(bO.push h.ok (k:=1) (h2.dW ah) _).dW ah
 exact bO.push h.ok z _
theorem bO.kJ{n:Nat}{sub:PS→Int×PS}{test:PS→Option (Int×PS)}(G:∀p,St p→p.depth+n=61→bO 0 p (sub p).2)(I:∀p kind q,St p→test p=some (kind,q)→bO 1 p q):
  ∀(k:Nat)(a:Int)(p:PS),St p→p.depth+n=61→bO 0 p (kJ sub test k a p).2
 |0,a,p,h,_=>.refl h
 |k+1,a,p,h,J=>by
  unfold Pp.kJ
  split
  ·exact .refl h
  rename_i kind q K
  have z:=I p kind q h K
  have h2:=z.trans (G q z.st (by rw[z.depth];exact J))
  have A:=bO.push h.ok h2 ⟨kind,a,(sub q).1,[],[],cI⟩
  exact A.trans (bO.kJ G I k _ _ A.st (by rw[A.depth];exact J))
theorem bO.chain{n:Nat}{sub:PS→Int×PS}{test:PS→Option (Int×PS)}(A:∀p,St p→p.depth+n=61→bO 0 p (sub p).2)(I:∀p kind q,St p→test p=some (kind,q)→bO 1 p q){p:PS}(h:St p)(G:p.depth+n=61):bO 0 p (chain sub test p).2:=by
 have z:=A p h G
 exact z.trans (bO.kJ A I _ _ _ z.st (by rw[z.depth];exact G))
theorem DR(p:PS)(kind:Int)(q:PS)(h:St p)(z:mg p=some (kind,q)):bO 1 p q:=by
 unfold mg at z
 split at z
 ·rename_i A;cases z;exact .sign h A
 cases z
theorem yg(p:PS)(kind:Int)(q:PS)(h:St p)(z:kR p=some (kind,q)):bO 1 p q:=by
 unfold kR at z
 split at z
 ·rename_i A;cases z;exact .sign h A
 split at z
 ·rename_i A;cases z;exact .sign h A
 cases z
theorem D2(p:PS)(kind:Int)(q:PS)(h:St p)(z:mI p=some (kind,q)):bO 1 p q:=by
 unfold mI at z
 split at z
 ·rename_i A;cases z;exact .keyword h A
 cases z
theorem H5(p:PS)(kind:Int)(q:PS)(h:St p)(z:ng p=some (kind,q)):bO 1 p q:=by
 unfold ng at z
 split at z
 ·rename_i A;cases z;exact .keyword h A
 cases z
theorem bO.ja{n:Nat}{sub:PS→Int×PS}(G:∀p,St p→p.depth+n=61→bO 0 p (sub p).2){p:PS}(h:St p)(I:p.depth+n=61):bO 0 p (ja sub p).2:=by
 have A:=G p h I
 have two:∀{kind:Int}{s:List UInt8},((sub p).2.sign s).1=true→bO 0 p (sS sub kind (sub p).1 ((sub p).2.sign s).2).2:=fun{kind s}z=>by
  have h2:=A.trans (bO.sign A.st z)
  exact bO.push h.ok (k:=0) ((h2.trans (G _ h2.st (by rw[h2.depth];exact I))).dW ah) _
 unfold Pp.ja
 split
 ·rename_i z;exact two z
 split
 ·rename_i z;exact two z
 split
 ·rename_i z;exact two z
 split
 ·rename_i z
  have h2:=A.trans (bO.keyword A.st z)
  exact bO.push h.ok (k:=0) ((h2.trans (bO.bc h2.st)).dW ah) _
 exact A
theorem PS.H6{p:PS}(h:p.enter.1=true):p.enter.2={p with depth:=p.depth+1}∧p.depth≠60:=by
 unfold PS.enter at h⊢
 split at h
 ·cases h
 rename_i z;rw[al z];exact⟨rfl,z⟩
theorem PS.yu{p:PS}(h:p.enter.1=false):p.enter.2=p.fail 19:=by
 unfold PS.enter at h⊢
 split at h
 ·rename_i z;rw[az z]
 cases h
theorem St.r5{p:PS}(h:St p)(he:p.enter.1=true)(G:p.aO+1<p.aF.length):St p.enter.2.step∧p.enter.2.step.depth=p.depth+1:=by
 obtain⟨z,h2⟩:=PS.H6 he
 have A:=h.enter
 refine⟨A.of (PS.uV A.ok (by rw[z];exact G)) rfl,by rw[z];rfl⟩
theorem bO.r5{k:Nat}{p r:PS}(h:St p)(h0:p.err=0)(he:p.enter.1=true)(z:bO k p.enter.2.step r):bO (k+1) p r.up:=by
 obtain⟨A,h2⟩:=PS.H6 he
 have G:=z.aF;have I:=z.depth;have J:=z.aO;have K:=z.sl
 rw[A] at G I J K
 have b1:r.aF=p.aF:=G
 have b2:r.depth=p.depth+1:=I
 have O:p.aO+1≤r.aO:=J
 have U:r.ex.length+(p.aO+1+ed p)+k≤p.ex.length+(r.aO+ed r):=K
 refine⟨z.st.of ⟨z.st.ok.lt,z.st.ok.eG,z.st.ok.last,by show r.depth-1≤60;have:=z.st.ok.lC;omega,z.st.ok.wu⟩ rfl,b1,by show r.depth-1=p.depth;omega,by show p.aO≤r.aO;omega,?_,fun _=>h0,fun _=>z.pk fun k=>absurd (by rw[A];exact h0) k⟩
 show r.ex.length+(p.aO+ed p)+(k+1)≤p.ex.length+(r.aO+ed r)
 omega
theorem bO.nZ{n:Nat}{sub inner:PS→Int×PS}(A:∀p,St p→p.depth+(n+1)=61→bO 0 p (sub p).2)(hi:∀p,St p→p.depth+n=61→bO 0 p (inner p).2){p:PS}(h:St p)(G:p.depth+(n+1)=61):bO 0 p (nZ sub inner p).2:=by
 unfold Pp.nZ
 split
 ·exact A p h G
 rename_i z
 split
 ·rename_i he;rw[PS.yu he];exact .fail h aq
 rename_i he
 have I:=PS.lQ h.ok (kind:=1) aq (by simpa using z)
 obtain⟨J,h2⟩:=h.r5 (by simpa using he) I
 exact bO.push h.ok (bO.r5 h (by unfold PS.next at z;simp only[Bool.not_eq_false,fE,fx] at z;exact z.1) (by simpa using he) (hi _ J (by rw[h2];omega))) _
theorem bO.lX{n:Nat}{D:Rd}{inner:PS→Int×PS}(hi:∀p,St p→p.depth+n=61→bO 0 p (inner p).2){p:PS}(h:St p)(J:p.depth+(n+1)=61):bO 0 p (lX D inner p).2:=by
 unfold Pp.lX
 split
 ·exact .refl h
 rename_i h0
 have h0:p.err=0:=by simpa using h0
 split
 ·rename_i A
  split
  ·rename_i he;rw[PS.yu he];exact .fail h aq
  rename_i he
  have G:=PS.lQ h.ok (kind:=5) aq A
  obtain⟨I,h2⟩:=h.r5 (by simpa using he) G
  have z:=hi _ I (by rw[h2];omega)
  exact(bO.r5 h h0 (by simpa using he) (z.trans (bO.bJ z.st ee))).dW ah
 split
 ·exact .gJ h h0
 exact bO.push h.ok (bO.HI h D h0) _
theorem qn(D:Rd):∀n,(∀p,St p→p.depth+n=61→bO 0 p (mh D n p).2)∧(∀p,St p→p.depth+n=61→bO 0 p (fb D n p).2)
 |0=>⟨fun p h _=>.refl h,fun p h _=>.refl h⟩
 |n+1=>by
  obtain⟨G,h2⟩:=qn D n
  have I:∀p,St p→p.depth+(n+1)=61→bO 0 p (fD D n p).2:=fun p h z=>bO.lX G h z
  have J:∀p,St p→p.depth+(n+1)=61→bO 0 p (fH D n p).2:=fun p h z=>bO.chain I DR h z
  have K:∀p,St p→p.depth+(n+1)=61→bO 0 p (eP D n p).2:=fun p h z=>bO.chain J yg h z
  have O:∀p,St p→p.depth+(n+1)=61→bO 0 p (cmpL D n p).2:=fun p h z=>bO.ja K h z
  have A:∀p,St p→p.depth+(n+1)=61→bO 0 p (fb D (n+1) p).2:=fun p h z=>bO.nZ O h2 h z
  have U:∀p,St p→p.depth+(n+1)=61→bO 0 p (jB D n p).2:=fun p h z=>bO.chain A D2 h z
  exact⟨fun p h z=>bO.chain U H5 h z,A⟩
theorem A9(D:Rd){n:Nat}{p:PS}(h:St p)(z:p.depth+(n+1)=61):bO 0 p (fD D n p).2:=bO.lX (qn D n).1 h z
theorem wO(D:Rd){n:Nat}{p:PS}(h:St p)(z:p.depth+(n+1)=61):bO 0 p (fH D n p).2:=bO.chain (fun _ a b=>A9 D a b) DR h z
theorem uY(D:Rd){n:Nat}{p:PS}(h:St p)(z:p.depth+(n+1)=61):bO 0 p (eP D n p).2:=bO.chain (fun _ a b=>wO D a b) yg h z
theorem Er(D:Rd){n:Nat}{p:PS}(h:St p)(z:p.depth+(n+1)=61):bO 0 p (jB D n p).2:=bO.chain (fun _ a b=>(qn D (n+1)).2 _ a b) D2 h z
def jN:List (Nat×Nat):=[(1000,1000),(1050,1050)]
section
variable{T:bd}{VE:cj}{B:bw}
theorem I6{f:Nat}{l:List aI}{cm:List VV}{p A:PS}{R:VV}{Q:VV→bw→Prop}(h:cg T f cm p.bi fun r Bn=>r=R∧Bn=A.bi)(G:bf B 1000=some (.one 123 80 p.row))(h2:bf B 1050=some (.acc 142 88 8 (p.ex.map aT.enc)))
  (I:(lz 2000 VE&&(lA 2000 B&&clean VE (fg jN B) jN))=true) (J:jv VE l=some (jh jN 2000 cm)) (K:R.cO jN 2000=R) (O:Q R (A.bi++fg jN B)):VI T (.call f l) VE B [1000,1050] Q:=by
 obtain⟨U,z⟩:=iX I
 obtain⟨z,Y⟩:=iX z
 exact kn (Bi:=p.bi) jN 2000 rfl rfl U z rfl Y J ⟨rfl,G,rfl,h2,trivial⟩ h fun r Bn hp=>by
  obtain⟨rfl,rfl⟩:=hp
  rw[K]
  exact O
theorem bo{d:Key}{A:Option (List Nat)}{r:List bA}{f:Nat}{l:List aI}{cm:List VV}{p z:PS}{R:VV}{Q:cj→bw→Prop}(h:cg T f cm p.bi fun r Bn=>r=R∧Bn=z.bi)(G:bf B 1000=some (.one 123 80 p.row))(h2:bf B 1050=some (.acc 142 88 8 (p.ex.map aT.enc)))
  (I:(lz 2000 VE&&(lA 2000 B&&clean VE (fg jN B) jN))=true) (J:jv VE l=some (jh jN 2000 cm)) (K:R.cO jN 2000=R) (O:VO T r ((d.n,R)::VE) (z.bi++fg jN B) Q):VO T (⟨some d,none,A,.call f l⟩::r) VE B Q:=aj (I6 h G h2 I J K O)
theorem nB{d:Key}{m:List Nat}{fl:List FL}{r:List bA}{f:Nat}{l:List aI}{cm:List VV}{p z:PS}{R:VV}{Q:cj→bw→Prop}(h:cg T f cm p.bi fun r Bn=>r=R∧Bn=z.bi)(hk:ox [1000,1050] m fl=true)(A:bf B 1000=some (.one 123 80 p.row))(h2:bf B 1050=some (.acc 142 88 8 (p.ex.map aT.enc)))
  (G:(lz 2000 VE&&(lA 2000 B&&clean VE (fg jN B) jN))=true) (I:jv VE l=some (jh jN 2000 cm)) (J:R.cO jN 2000=R) (K:VQ T r ((d.n,R)::VE) (z.bi++fg jN B) (.un::fl) Q):VQ T (⟨some d,none,some m,.call f l⟩::r) VE B fl Q:=dy hk (I6 h A h2 G I J K)
end
structure FT(T:bd):Prop where
 f8:T.ft.get 8=some i8
 f9:T.ft.get 9=some i9
 f12:T.ft.get 12=some i12
 f22:T.ft.get 22=some i22
 f4:T.ft.get 4=some i4
 f10:T.ft.get 10=some i10
 f11:T.ft.get 11=some i11
 f23:T.ft.get 23=some i23
 f24:T.ft.get 24=some i24
 f25:T.ft.get 25=some i25
 f26:T.ft.get 26=some i26
 f27:T.ft.get 27=some i27
 f50:T.ft.get 50=some i50
 Ru:T.ft.get 51=some i51
 f52:T.ft.get 52=some i52
 f53:T.ft.get 53=some i53
 f54:T.ft.get 54=some i54
 Rv:T.ft.get 55=some i55
 QC:T.ft.get 108=some Zd
 aa7:T.ft.get 109=some Ze
 aa8:T.ft.get 110=some Zf
 aa9:T.ft.get 111=some Zg
 aba:T.ft.get 112=some Zh
 abb:T.ft.get 163=some ZU
 abc:T.ft.get 164=some ZV
 f7:T.ft.get 7=some i7
 f13:T.ft.get 13=some i13
 f14:T.ft.get 14=some i14
 f17:T.ft.get 17=some i17
 f18:T.ft.get 18=some i18
 f19:T.ft.get 19=some i19
 f20:T.ft.get 20=some i20
 f28:T.ft.get 28=some i28
 f29:T.ft.get 29=some i29
 f30:T.ft.get 30=some i30
 f21:T.ft.get 21=some i21
 f41:T.ft.get 41=some i41
 f42:T.ft.get 42=some i42
 f43:T.ft.get 43=some i43
 f44:T.ft.get 44=some i44
 f45:T.ft.get 45=some i45
 f46:T.ft.get 46=some i46
 f56:T.ft.get 56=some i56
 f57:T.ft.get 57=some i57
 f58:T.ft.get 58=some i58
 f59:T.ft.get 59=some i59
 Rw:T.ft.get 60=some i60
 f61:T.ft.get 61=some i61
 f62:T.ft.get 62=some i62
 f63:T.ft.get 63=some i63
 f64:T.ft.get 64=some i64
 f91:T.ft.get 91=some i91
 f94:T.ft.get 94=some i94
 f47:T.ft.get 47=some i47
 f48:T.ft.get 48=some i48
 f49:T.ft.get 49=some i49
 f99:T.ft.get 99=some iM
 abd:T.ft.get 100=some Y6
 abe:T.ft.get 101=some Y7
 abf:T.ft.get 113=some Zi
 abg:T.ft.get 114=some Zj
 abh:T.ft.get 115=some Zk
 abi:T.ft.get 116=some Zl
 abj:T.ft.get 117=some Zm
 abk:T.ft.get 118=some Zn
 QD:T.ft.get 119=some Zo
 QE:T.ft.get 120=some Zp
 QF:T.ft.get 121=some Zq
 abl:T.ft.get 122=some Zr
 abm:T.ft.get 123=some Zs
 abn:T.ft.get 124=some Zt
 abo:T.ft.get 125=some Zu
 abp:T.ft.get 126=some Zv
 abq:T.ft.get 127=some Zw
 abr:T.ft.get 128=some Zx
 QG:T.ft.get 129=some Zy
 QH:T.ft.get 130=some Zz
 abt:T.ft.get 131=some ZA
 abu:T.ft.get 132=some ZB
 abv:T.ft.get 140=some ZC
 abw:T.ft.get 102=some Y8
 abx:T.ft.get 103=some Y9
 aby:T.ft.get 104=some Y'
 abz:T.ft.get 105=some Za
 abA:T.ft.get 106=some Zb
 abB:T.ft.get 107=some Zc
 abC:T.ft.get 146=some ZD
 abD:T.ft.get 147=some ZE
 abE:T.ft.get 148=some ZF
 abF:T.ft.get 149=some ZG
 abG:T.ft.get 150=some ZH
 abH:T.ft.get 151=some ZI
 abI:T.ft.get 152=some ZJ
 abJ:T.ft.get 153=some ZK
 QI:T.ft.get 154=some ZL
 abK:T.ft.get 155=some ZM
 abL:T.ft.get 156=some ZN
 abM:T.ft.get 157=some ZO
 abN:T.ft.get 158=some ZP
 abO:T.ft.get 159=some ZQ
 abP:T.ft.get 160=some ZR
 abQ:T.ft.get 161=some ZS
 abR:T.ft.get 162=some ZT
 abS:T.ft.get 167=some ZY
 QJ:T.ft.get 168=some ZZ
 abT:T.ft.get 169=some Z0
 abU:T.ft.get 170=some Z1
 abV:T.ft.get 171=some Z2
 abW:T.ft.get 172=some Z3
 abX:T.ft.get 173=some Z4
 abY:T.ft.get 174=some Z5
 abZ:T.ft.get 175=some Z6
 ab0:T.ft.get 176=some Z7
 ab1:T.ft.get 177=some Z8
 QK:T.ft.get 178=some Z9
 ab2:T.ft.get 179=some Z'
 vW:T.ft.get 180=some aaa
 ab3:T.ft.get 181=some aab
 ab4:T.ft.get 183=some aac
 ab5:T.ft.get 184=some aad
 ab6:T.ft.get 185=some aae
 ab7:T.ft.get 196=some aaf
 ab8:T.ft.get 197=some aag
 ab9:T.ft.get 198=some aah
 aca:T.ft.get 199=some aai
 acb:T.ft.get 200=some aaj
 acd:T.ft.get 201=some aak
 ace:T.ft.get 202=some aal
 acf:T.ft.get 203=some aam
 acg:T.ft.get 204=some aan
 ach:T.ft.get 205=some aao
 QL:T.ft.get 208=some aaq
 aci:T.ft.get 209=some aar
 acj:T.ft.get 210=some aas
 ack:T.ft.get 211=some aat
 acm:T.ft.get 212=some aau
 acn:T.ft.get 213=some aav
 aco:T.ft.get 214=some aaw
 acp:T.ft.get 215=some aax
 acq:T.ft.get 216=some aay
 acr:T.ft.get 219=some aaz
 acs:T.ft.get 220=some aaA
 acu:T.ft.get 221=some aaB
 acv:T.ft.get 227=some aaC
 acw:T.ft.get 228=some aaD
 acx:T.ft.get 232=some aaE
 acy:T.ft.get 234=some aaF
 acz:T.ft.get 235=some aaG
 acA:T.ft.get 236=some aaH
 acB:T.ft.get 237=some aaI
 acC:T.ft.get 238=some aaJ
 acD:T.ft.get 240=some aaK
 acE:T.ft.get 241=some aaL
 acF:T.ft.get 242=some aaM
 acG:T.ft.get 243=some aaN
 acH:T.ft.get 244=some aaO
 acI:T.ft.get 245=some aaP
 acJ:T.ft.get 246=some aaQ
 acK:T.ft.get 258=some aaR
 acL:T.ft.get 263=some aaS
 acM:T.ft.get 166=some ZX
 acN:T.ft.get 165=some ZW
 acO:T.ft.get 265=some aaT
 acP:T.ft.get 266=some aaU
 acQ:T.ft.get 267=some aaV
 acR:T.ft.get 268=some aaW
 acS:T.ft.get 274=some aaX
 acT:T.ft.get 275=some aaY
 acU:T.ft.get 206=some aap
 acV:T.ft.get 276=some aaZ
 acW:T.ft.get 277=some aa0
 acX:T.ft.get 278=some aa1
 acY:T.ft.get 279=some aa2
 acZ:T.ft.get 280=some aa3
 ac0:T.ft.get 281=some aa4
 ac1:T.ft.get 282=some aa5
 ac2:T.ft.get 283=some aa6
structure iF(T:bd)(D:Rd):Prop where
 uint:∀s,om s→Sound T 182 [dS s,dI 10,dI 64] fun r=>r= .tuple [.d (.i .u64 (eE s:Nat)),.k .il]
 sint:∀neg s,om s→Sound T 239 [dS (if neg=true then 45::s else s),dI 10,dI 64] fun r=>∃n e,r= .tuple [dI n,e]∧((∃m,D.int neg s=some m∧n=m∧e= .k .il)∨(D.int neg s=none∧e= .jV))
 day:∀s:List UInt8,s.length≤200→Sound T 216 [dS s] fun r=>r= .tuple [dI (D.day s).1,dI (D.day s).2]
 iU:∀s:List UInt8,s.length≤200→Sound T 213 [dS s] fun r=>r= .tuple [.agg [dI (D.iU s).1.1,dI (D.iU s).1.2],dI (D.iU s).2]
theorem DS{s:List UInt8}(h:om s):eE s<10^19:=by
 obtain⟨_,h2,z⟩:=h
 have aux:∀(s:List UInt8)(n:Nat),(∀c,c∈s→48≤c.toNat∧c.toNat≤57)→s.foldl (fun n c=>n*10+(c.toNat-48)) n<(n+1)*10^s.length:=by
  intro s
  induction s with
  |nil=>intro n _;simp
  |cons c r G=>
   intro n A
   have K:=A c (lh ..)
   have h2:=G (n*10+(c.toNat-48)) fun d I=>A d (oR _ I)
   have z:(n*10+(c.toNat-48)+1)*10^r.length≤((n+1)*10)*10^r.length:=lK _ ah
   calc _<_:=h2
    _≤_:=z
    _=(n+1)*10^(r.length+1):=by rw[z7,Co,ny 10]
 have J:=aux s 0 z
 have O:10^s.length≤10^19:=Cq aq h2
 have U:eE s<(0+1)*10^s.length:=J
 omega
theorem xj{σ:List (Nat×Nat)}{N:Nat}{B L:bw}{p:PS}(z:(bf σ 1000).isSome=true)(h2:bf B (cO σ N 1000)=some ((BS.one 123 80 p.row).cO σ N))(A:(bf σ 1050).isSome=true)(G:bf B (cO σ N 1050)=some ((BS.acc 142 88 8 (p.ex.map aT.enc)).cO σ N))(I:rF σ N L B):rF σ N (p.bi++L) B:=⟨z,h2,A,G,I⟩
theorem tok{T:bd}(F:FT T){p:PS}(hp:p.ok):cg T 119 [.vp 1000 0] (PS.bi p) fun r Bn=>r=eU p.tok.enc∧Bn=PS.bi p:=by
 refine cL F.QD aa ?_
 have z:(p.aF.map cu.enc)[p.aO]?=some p.tok.enc:=by rw[iJ,hp.get];rfl
 refine an 1 aa (eO (bD 8 aa (bG (lF (row:=p.tok.enc) aa aa z aa ?_))))
 exact du 2 aa (ay (⟨_,PS.bi p,aa,cX aa aa,aa,aa⟩))
theorem fail{T:bd}(F:FT T){p:PS}(hp:p.ok)(e:Int):cg T 120 [.vp 1000 0,dI e] (PS.bi p) fun r Bn=>r= .tuple []∧Bn=PS.bi (p.fail e):=by
 refine cL F.QE aa (an 5 aa (aK aa (fun z=>?_) (fun z=>?_)))
 ·have h0:p.err=0:=by simpa using z
  refine bC (ae 4 aa (bo (tok F hp) aa aa aa aa aa (ak 7 aa ?_)))
  exact⟨_,PS.bi {p with err:=e,pos:=p.tok.pos},rfl,cX rfl rfl,rfl,by unfold PS.fail;rw[az h0]⟩
 refine aQ ?_
 exact⟨_,PS.bi p,rfl,cX rfl rfl,rfl,by unfold PS.fail;rw[al (by simpa using z)]⟩
theorem next{T:bd}(F:FT T){p:PS}(hp:p.ok)(k:Int)(s:List UInt8):cg T 208 [.vp 1000 0,dI k,dS s] (PS.bi p) fun r Bn=>r=dB (p.next k s)∧Bn=PS.bi p:=by
 refine cL F.QL aa (an 1 aa (ai (ae 1 aa (bo (tok F hp) aa aa aa aa aa (ak 2 aa (ai (ae 6 aa (dc (g:=bb) aa (fun z=>?_) (fun z=>?_)))))))))
 ·have h0:p.err=0:=by simpa using z
  refine aw aa (z) (dD aa ?_)
  refine aw aa (z) (df aa aa aa ?_)
  refine aw aa (z) (bY aa ?_)
  refine aw aa (z) (iC aa aa ?_)
  refine aj (c8 aa (z) aa ?_)
  refine ae 1 aa (dc (g:=bx) aa (fun A=>?_) (fun A=>?_))
  ·refine aw aa (A) (dD aa ?_)
   refine aw aa (A) (df aa aa aa ?_)
   refine aw aa (A) (bY aa ?_)
   refine aw aa (A) (nL aa aa ?_)
   refine aj (c8 aa (A) aa ?_)
   refine ak 1 aa (ay (⟨_,PS.bi p,aa,cX aa aa,?_,aa⟩))
   clear F hp
   simp_all [gX,PS.next]
  refine eJ aa (A) (eJ aa (A) (eJ aa (A) (eJ aa (A) (aj (cS aa (A) aa ?_)))))
  refine ak 1 aa (ay (⟨_,PS.bi p,aa,cX aa aa,?_,aa⟩))
  clear F hp
  simp_all [gX,PS.next]
 refine eJ aa (z) (eJ aa (z) (eJ aa (z) (eJ aa (z) (aj (cS aa (z) aa ?_)))))
 refine ae 1 aa (eJ aa aa (eJ aa aa (eJ aa aa (eJ aa aa (ak 2 aa (ay (⟨_,PS.bi p,aa,cX aa aa,?_,aa⟩)))))))
 clear F hp
 simp_all [gX,PS.next]
theorem accept{T:bd}(F:FT T){p:PS}(hp:p.ok){k:Int}(hk:k≠6)(s:List UInt8):cg T 168 [.vp 1000 0,dI k,dS s] (PS.bi p) fun r Bn=>r=dB (p.accept k s).1∧Bn=PS.bi (p.accept k s).2:=by
 refine cL F.QJ aa (an 1 aa (aL (ai (ae 3 aa (bo (next F hp k s) aa aa aa aa aa (ak 1 aa (aK aa (fun z=>?_) (fun z=>?_))))))))
 ·have A:p.next k s=false:=by simpa using z
  refine an 1 aa (ay ?_)
  exact⟨_,PS.bi p,rfl,cX rfl rfl,by unfold PS.accept;rw[A];rfl,by unfold PS.accept;rw[A];rfl⟩
 have A:p.next k s=true:=by simpa using z
 have ew:=PS.lQ hp hk A
 have fZ:=hp.eG
 refine aQ (ai (ae 4 aa (aj (cM aa aa ah ?_))))
 refine ak 3 aa (an 1 aa (ay ?_))
 exact⟨_,PS.bi p.step,rfl,cX rfl rfl,by unfold PS.accept;rw[az A];rfl,by unfold PS.accept;rw[az A]⟩
theorem keyword{T:bd}(F:FT T){p:PS}(hp:p.ok)(s:List UInt8):cg T 121 [.vp 1000 0,dS s] (PS.bi p) fun r Bn=>r=dB (p.keyword s).1∧Bn=PS.bi (p.keyword s).2:=by
 exact cL F.QF aa (an 1 aa (ai (ae 2 aa (bo (accept F hp aq s) aa aa aa aa aa (ak 1 aa (ay (⟨_,PS.bi (p.accept 1 s).2,aa,cX aa aa,aa,aa⟩)))))))
theorem sign{T:bd}(F:FT T){p:PS}(hp:p.ok)(s:List UInt8):cg T 172 [.vp 1000 0,dS s] (PS.bi p) fun r Bn=>r=dB (p.sign s).1∧Bn=PS.bi (p.sign s).2:=by
 exact cL F.abW aa (an 1 aa (ai (ae 2 aa (bo (accept F hp aq s) aa aa aa aa aa (ak 1 aa (ay (⟨_,PS.bi (p.accept 5 s).2,aa,cX aa aa,aa,aa⟩)))))))
theorem bJ{T:bd}(F:FT T){p:PS}(hp:p.ok)(s:List UInt8):cg T 170 [.vp 1000 0,dS s] (PS.bi p) fun r Bn=>r= .tuple []∧Bn=PS.bi (p.bJ s):=by
 refine cL F.abU aa (ai (ae 2 aa (bo (sign F hp s) aa aa aa aa aa (ak 1 aa (aK aa (fun z=>?_) (fun z=>?_))))))
 ·refine bC (ae 1 aa (bo (fail F (PS.Bt hp s) 5) aa aa aa aa aa (aX ?_)))
  exact⟨_,PS.bi ((p.sign s).2.fail 5),rfl,cX rfl rfl,rfl,by unfold PS.bJ;rw[al (by simpa using z)]⟩
 refine aQ ?_
 exact⟨_,PS.bi (p.sign s).2,rfl,cX rfl rfl,rfl,by unfold PS.bJ;rw[az (by simpa using z)]⟩
theorem enter{T:bd}(F:FT T){p:PS}(hp:p.ok):cg T 277 [.vp 1000 0] (PS.bi p) fun r Bn=>r=dB p.enter.1∧Bn=PS.bi p.enter.2:=by
 refine cL F.acW aa (an 1 aa (aL (an 5 aa (aK aa (fun A=>?_) (fun A=>?_)))))
 ·have z:p.depth=60:=by simp at A;omega
  refine ai (ae 1 aa (bo (fail F hp 19) aa aa aa aa aa (aX (an 1 aa (ay ?_)))))
  exact⟨_,PS.bi (p.fail 19),rfl,cX rfl rfl,by unfold PS.enter;rw[az z];rfl,by unfold PS.enter;rw[az z]⟩
 have z:¬p.depth=60:=by simp at A;omega
 have hle:=hp.lC
 refine aQ (ai (ae 4 aa (aj (cM aa aa ah ?_))))
 refine ak 3 aa (an 1 aa (ay ?_))
 exact⟨_,PS.bi {p with depth:=p.depth+1},rfl,cX rfl rfl,by unfold PS.enter;rw[al z];rfl,by unfold PS.enter;rw[al z]⟩
theorem push{T:bd}(F:FT T){p:PS}(z:p.ex.length≤5000)(e:aT):cg T 244 [.vp 1000 0,eU e.enc] (PS.bi p) fun r Bn=>r=dI (p.push e).1∧Bn=PS.bi (p.push e).2:=by
 refine cL F.acH aa (an 2 aa (eO (bD 7 aa ?_)))
 refine dy rfl (eD (rows:=p.ex.map aT.enc) (ys:=[e.enc]) rfl rfl rfl (.bs (rows:=[e.enc]) rfl) (b0 rfl) (by rw[bE,ca];simp only[cV,dL];omega) (fun h=>by rw[h];rfl) (fun h=>by unfold PS.bi PS.row;rw[h];rfl) ?_)
 refine du 3 aa (ai (ae 5 aa ?_))
 refine aj (f3 rfl rfl (by simp only[bE,ca,cV,dL,bN];omega) (by simp only[bE,ca,cV,dL,bN];omega) ?_)
 refine ak 1 aa (ay (⟨_,PS.bi (p.push e).2,aa,cX (p:=(p.push e).2) ?_ ?_,?_,aa⟩))
 ·simp only[PS.push,PS.row,dx,e7,gj];rfl
 ·simp only[PS.push,PS.row,dx,e7,gj];rfl
 simp[gX,PS.push]
theorem bc{T:bd}(F:FT T){p:PS}(hp:p.ok)(l:List (List UInt8))(Y:l.length≤100):cg T 130 [.vp 1000 0,.d (.sl (l.map fun s=>[cl s]))] (PS.bi p) fun r Bn=>r= .tuple []∧Bn=PS.bi (p.bc l):=by
 refine cL F.QH aa (an 3 aa (bM (d7 (fun k VE B=>∃i:Nat,i≤l.length∧k=l.length-i∧bn [(0,.vp 1000 0),(6,.d (.sl (l.map fun s=>[cl s]))),(7,dI ((l.map fun s=>[cl s]).length:Nat)),(8,dI (i:Nat))] VE∧bn (PS.bi ((l.take i).foldl PS.gA p)) B) ?_ (k:=l.length) ⟨0,dp _,aa,⟨aa,aa,aa,aa,trivial⟩,cX aa aa⟩)))
 rintro k VE B⟨i,hi,rfl,U,G⟩
 refine eZ (PS.bi ((l.take i).foldl PS.gA p)++[]) G ?_
 have G:bn (PS.bi ((l.take i).foldl PS.gA p)++[]) (PS.bi ((l.take i).foldl PS.gA p)++[]):=dK rfl rfl trivial
 have O:PS.ok ((l.take i).foldl PS.gA p):=PS.G3 (l:=l.take i) hp
 refine db _ _ U G (an 1 aa (aL (aK aa (fun I=>?_) (fun I=>?_))))
 ·have ew:i<l.length:=by simpa using I
  obtain⟨x,J⟩:∃x,l[i]?=some x:=⟨_,fe ew⟩
  have A:(l.map fun s=>[cl s])[i]?=some [cl x]:=by rw[iJ,J];rfl
  refine aQ (aL (bM (ai (aj (lF aa aa A aa ?_)))))
  refine ak 2 aa (ai (ae 2 aa (bo (keyword F O x) aa aa aa aa aa (ak 1 aa (aK aa (fun z=>?_) (fun z=>?_))))))
  ·refine bC (ae 1 aa (bo (fail F (PS.xU O x) 5) aa aa aa aa aa (aX (bC (aj (cM aa aa ah ?_))))))
   refine ak 1 aa (⟨l.length-(i+1),ah,i+1,ah,aa,⟨aa,aa,aa,aa,trivial⟩,?_⟩)
   rw[yR,J,yS]
   rw[show List.foldl PS.gA ((l.take i).foldl PS.gA p) (some x).toList=PS.gA ((l.take i).foldl PS.gA p) x from rfl,PS.Bs (by simpa using z)];exact cX rfl rfl
  refine aQ (bC (aj (cM aa aa ah ?_)))
  refine ak 1 aa (⟨l.length-(i+1),ah,i+1,ah,aa,⟨aa,aa,aa,aa,trivial⟩,?_⟩)
  rw[yR,J,yS]
  rw[show List.foldl PS.gA ((l.take i).foldl PS.gA p) (some x).toList=PS.gA ((l.take i).foldl PS.gA p) x from rfl,PS.Ep (by simpa using z)];exact cX rfl rfl
 have K:l.length≤i:=by simpa using I
 refine dJ (⟨_,PS.bi ((l.take i).foldl PS.gA p),aa,cX aa aa,aa,?_⟩)
 rw[pR K];rfl
theorem zU{T:bd}(F:FT T){p:PS}(hp:St p){k e:Int}(mv:k≠6){g:Nat}(hC:p.err=0→p.tok.kind=k→cg T g ([dS p.tok.text]++[]) [] fun r Bn=>r=dI e∧Bn=[]):cg T 180 [.vp 1000 0,dI k,.fn g []] (PS.bi p++[]) fun r Bn=>r=dS (p.take k e).1∧Bn=PS.bi (p.take k e).2++[]:=by
 refine cL F.vW aa (eZ (PS.bi p++[]) (dK aa aa trivial) (an 1 aa (aL (an 5 aa (aK aa (fun bQ=>?_) (fun bQ=>?_))))))
 ·have h0:¬p.err=0:=by simpa using bQ
  refine an 1 aa (ay ?_)
  exact⟨_,PS.bi p++[],rfl,dK rfl rfl trivial,by unfold PS.take;rw[al h0];rfl,by simp[PS.take,PS.called,h0]⟩
 have h0:p.err=0:=by simpa using bQ
 refine aQ (ai (ae 1 aa (bo (tok F hp.ok) aa aa aa aa aa (ak 2 aa (aL (ai (ae 3 aa (aj (iV aa aa ?_)))))))))
 refine aX (aK aa (fun eC=>?_) (fun eC=>?_))
 ·have hk:¬p.tok.kind=k:=by simpa using eC
  refine ai (ae 1 aa (bo (fail F hp.ok 5) aa aa aa aa aa (aX (an 1 aa (ay ?_)))))
  exact⟨_,PS.bi (p.fail 5)++[],rfl,dK rfl rfl trivial,by unfold PS.take;rw[az h0,al hk];rfl,by simp[PS.take,PS.called,h0,hk]⟩
 have hk:p.tok.kind=k:=by simpa using eC
 have ew:=PS.mc hp.ok mv hk
 have fZ:=hp.ok.eG
 refine aQ (aL (ai (ae 3 aa (aj (rQ (cm:=[dS p.tok.text]) (Bi:=[]) [] 2000 aa aa aa aa aa aa aa aa aa trivial (hC h0 hk) (fun r Bn gx=>?_))))))
 obtain⟨rfl,rfl⟩:=gx
 refine eX (PS.bi p++[(7,.one 69 32 (p.tok.enc.map .d))]) (dK aa aa ⟨aa,trivial⟩) (ak 1 aa (an 2 aa (aK aa (fun dr=>?_) (fun dr=>?_))))
 ·have he:¬e=0:=by simpa using dr
  refine ai (ae 2 aa (bo (fail F hp.ok e) aa aa aa aa aa (aX (an 1 aa (ay ?_)))))
  exact⟨_,PS.bi (p.fail e)++[],rfl,dK rfl rfl trivial,by unfold PS.take;rw[az h0,az hk,al he];rfl,by simp[PS.take,PS.called,h0,hk,he]⟩
 have he:e=0:=by simpa using dr
 refine aQ (ai (ae 4 aa (aj (cM aa aa ah ?_))))
 refine ak 3 aa (an 3 aa (ay ?_))
 exact⟨_,PS.bi p.step++[],rfl,dK rfl rfl trivial,by unfold PS.take;rw[az h0,az hk,az he];rfl,by simp[PS.take,PS.called,h0,hk,he]⟩
theorem Yh{T:bd}(F:FT T){p:PS}(hp:St p){k e:Int}(mv:k≠6){g:Nat}{e1 b1:Nat}{x x2:DC}(hC:p.err=0→p.tok.kind=k→cg T g ([dS p.tok.text]++[.vp 1001 0]) [(1001,.one e1 b1 [.d x])] fun r Bn=>r=dI e∧Bn=[(1001,.one e1 b1 [.d x2])]):cg T 180 [.vp 1000 0,dI k,.fn g [.vp 1001 0]] (PS.bi p++[(1001,.one e1 b1 [.d x])]) fun r Bn=>r=dS (p.take k e).1∧Bn=PS.bi (p.take k e).2++[(1001,.one e1 b1 [.d (if p.called k=true then x2 else x)])]:=by
 refine cL F.vW aa (eZ (PS.bi p++[(1001,.one e1 b1 [.d x])]) (dK aa aa ⟨aa,trivial⟩) (an 1 aa (aL (an 5 aa (aK aa (fun bQ=>?_) (fun bQ=>?_))))))
 ·have h0:¬p.err=0:=by simpa using bQ
  refine an 1 aa (ay ?_)
  exact⟨_,PS.bi p++[(1001,.one e1 b1 [.d x])],rfl,dK rfl rfl ⟨rfl,trivial⟩,by unfold PS.take;rw[al h0];rfl,by simp[PS.take,PS.called,h0]⟩
 have h0:p.err=0:=by simpa using bQ
 refine aQ (ai (ae 1 aa (bo (tok F hp.ok) aa aa aa aa aa (ak 2 aa (aL (ai (ae 3 aa (aj (iV aa aa ?_)))))))))
 refine aX (aK aa (fun eC=>?_) (fun eC=>?_))
 ·have hk:¬p.tok.kind=k:=by simpa using eC
  refine ai (ae 1 aa (bo (fail F hp.ok 5) aa aa aa aa aa (aX (an 1 aa (ay ?_)))))
  exact⟨_,PS.bi (p.fail 5)++[(1001,.one e1 b1 [.d x])],rfl,dK rfl rfl ⟨rfl,trivial⟩,by unfold PS.take;rw[az h0,al hk];rfl,by simp[PS.take,PS.called,h0,hk]⟩
 have hk:p.tok.kind=k:=by simpa using eC
 have ew:=PS.mc hp.ok mv hk
 have fZ:=hp.ok.eG
 refine aQ (aL (ai (ae 3 aa (aj (rQ (cm:=[dS p.tok.text,.vp 1001 0]) (Bi:=[(1001,.one e1 b1 [.d x])]) [(1001,1001)] 2000 aa aa aa aa aa aa aa aa aa ⟨aa,aa,trivial⟩ (hC h0 hk) (fun r Bn gx=>?_))))))
 obtain⟨rfl,rfl⟩:=gx
 refine eX (PS.bi p++[(1001,.one e1 b1 [.d x2]),(7,.one 69 32 (p.tok.enc.map .d))]) (dK aa aa ⟨aa,aa,trivial⟩) (ak 1 aa (an 2 aa (aK aa (fun dr=>?_) (fun dr=>?_))))
 ·have he:¬e=0:=by simpa using dr
  refine ai (ae 2 aa (bo (fail F hp.ok e) aa aa aa aa aa (aX (an 1 aa (ay ?_)))))
  exact⟨_,PS.bi (p.fail e)++[(1001,.one e1 b1 [.d x2])],rfl,dK rfl rfl ⟨rfl,trivial⟩,by unfold PS.take;rw[az h0,az hk,al he];rfl,by simp[PS.take,PS.called,h0,hk,he]⟩
 have he:e=0:=by simpa using dr
 refine aQ (ai (ae 4 aa (aj (cM aa aa ah ?_))))
 refine ak 3 aa (an 3 aa (ay ?_))
 exact⟨_,PS.bi p.step++[(1001,.one e1 b1 [.d x2])],rfl,dK rfl rfl ⟨rfl,trivial⟩,by unfold PS.take;rw[az h0,az hk,az he];rfl,by simp[PS.take,PS.called,h0,hk,he]⟩
theorem Yi{T:bd}(F:FT T){p:PS}(hp:St p){k e:Int}(mv:k≠6){g:Nat}{e1 b1:Nat}{x y x2 y2:DC}(hC:p.err=0→p.tok.kind=k→cg T g ([dS p.tok.text]++[.vp 1001 0]) [(1001,.one e1 b1 [.d x,.d y])] fun r Bn=>r=dI e∧Bn=[(1001,.one e1 b1 [.d x2,.d y2])]):cg T 180 [.vp 1000 0,dI k,.fn g [.vp 1001 0]] (PS.bi p++[(1001,.one e1 b1 [.d x,.d y])]) fun r Bn=>r=dS (p.take k e).1∧Bn=PS.bi (p.take k e).2++[(1001,.one e1 b1 [.d (if p.called k=true then x2 else x),.d (if p.called k=true then y2 else y)])]:=by
 refine cL F.vW aa (eZ (PS.bi p++[(1001,.one e1 b1 [.d x,.d y])]) (dK aa aa ⟨aa,trivial⟩) (an 1 aa (aL (an 5 aa (aK aa (fun bQ=>?_) (fun bQ=>?_))))))
 ·have h0:¬p.err=0:=by simpa using bQ
  refine an 1 aa (ay ?_)
  exact⟨_,PS.bi p++[(1001,.one e1 b1 [.d x,.d y])],rfl,dK rfl rfl ⟨rfl,trivial⟩,by unfold PS.take;rw[al h0];rfl,by simp[PS.take,PS.called,h0]⟩
 have h0:p.err=0:=by simpa using bQ
 refine aQ (ai (ae 1 aa (bo (tok F hp.ok) aa aa aa aa aa (ak 2 aa (aL (ai (ae 3 aa (aj (iV aa aa ?_)))))))))
 refine aX (aK aa (fun eC=>?_) (fun eC=>?_))
 ·have hk:¬p.tok.kind=k:=by simpa using eC
  refine ai (ae 1 aa (bo (fail F hp.ok 5) aa aa aa aa aa (aX (an 1 aa (ay ?_)))))
  exact⟨_,PS.bi (p.fail 5)++[(1001,.one e1 b1 [.d x,.d y])],rfl,dK rfl rfl ⟨rfl,trivial⟩,by unfold PS.take;rw[az h0,al hk];rfl,by simp[PS.take,PS.called,h0,hk]⟩
 have hk:p.tok.kind=k:=by simpa using eC
 have ew:=PS.mc hp.ok mv hk
 have fZ:=hp.ok.eG
 refine aQ (aL (ai (ae 3 aa (aj (rQ (cm:=[dS p.tok.text,.vp 1001 0]) (Bi:=[(1001,.one e1 b1 [.d x,.d y])]) [(1001,1001)] 2000 aa aa aa aa aa aa aa aa aa ⟨aa,aa,trivial⟩ (hC h0 hk) (fun r Bn gx=>?_))))))
 obtain⟨rfl,rfl⟩:=gx
 refine eX (PS.bi p++[(1001,.one e1 b1 [.d x2,.d y2]),(7,.one 69 32 (p.tok.enc.map .d))]) (dK aa aa ⟨aa,aa,trivial⟩) (ak 1 aa (an 2 aa (aK aa (fun dr=>?_) (fun dr=>?_))))
 ·have he:¬e=0:=by simpa using dr
  refine ai (ae 2 aa (bo (fail F hp.ok e) aa aa aa aa aa (aX (an 1 aa (ay ?_)))))
  exact⟨_,PS.bi (p.fail e)++[(1001,.one e1 b1 [.d x2,.d y2])],rfl,dK rfl rfl ⟨rfl,trivial⟩,by unfold PS.take;rw[az h0,az hk,al he];rfl,by simp[PS.take,PS.called,h0,hk,he]⟩
 have he:e=0:=by simpa using dr
 refine aQ (ai (ae 4 aa (aj (cM aa aa ah ?_))))
 refine ak 3 aa (an 3 aa (ay ?_))
 exact⟨_,PS.bi p.step++[(1001,.one e1 b1 [.d x2,.d y2])],rfl,dK rfl rfl ⟨rfl,trivial⟩,by unfold PS.take;rw[az h0,az hk,az he];rfl,by simp[PS.take,PS.called,h0,hk,he]⟩
theorem Yj{T:bd}(F:FT T){p:PS}(hp:St p){k e:Int}(mv:k≠6){g:Nat}{e1 b1 e2 b2:Nat}{x y y2:DC}(hC:p.err=0→p.tok.kind=k→cg T g ([dS p.tok.text]++[.vp 1001 0,.vp 1002 0]) [(1001,.one e1 b1 [.d x]),(1002,.one e2 b2 [.d y])] fun r Bn=>r=dI e∧Bn=[(1001,.one e1 b1 [.d x]),(1002,.one e2 b2 [.d y2])]):cg T 180 [.vp 1000 0,dI k,.fn g [.vp 1001 0,.vp 1002 0]] (PS.bi p++[(1001,.one e1 b1 [.d x]),(1002,.one e2 b2 [.d y])]) fun r Bn=>r=dS (p.take k e).1∧Bn=PS.bi (p.take k e).2++[(1001,.one e1 b1 [.d x]),(1002,.one e2 b2 [.d (if p.called k=true then y2 else y)])]:=by
 refine cL F.vW aa (eZ (PS.bi p++[(1001,.one e1 b1 [.d x]),(1002,.one e2 b2 [.d y])]) (dK aa aa ⟨aa,aa,trivial⟩) (an 1 aa (aL (an 5 aa (aK aa (fun bQ=>?_) (fun bQ=>?_))))))
 ·have h0:¬p.err=0:=by simpa using bQ
  refine an 1 aa (ay ?_)
  exact⟨_,PS.bi p++[(1001,.one e1 b1 [.d x]),(1002,.one e2 b2 [.d y])],rfl,dK rfl rfl ⟨rfl,rfl,trivial⟩,by unfold PS.take;rw[al h0];rfl,by simp[PS.take,PS.called,h0]⟩
 have h0:p.err=0:=by simpa using bQ
 refine aQ (ai (ae 1 aa (bo (tok F hp.ok) aa aa aa aa aa (ak 2 aa (aL (ai (ae 3 aa (aj (iV aa aa ?_)))))))))
 refine aX (aK aa (fun eC=>?_) (fun eC=>?_))
 ·have hk:¬p.tok.kind=k:=by simpa using eC
  refine ai (ae 1 aa (bo (fail F hp.ok 5) aa aa aa aa aa (aX (an 1 aa (ay ?_)))))
  exact⟨_,PS.bi (p.fail 5)++[(1001,.one e1 b1 [.d x]),(1002,.one e2 b2 [.d y])],rfl,dK rfl rfl ⟨rfl,rfl,trivial⟩,by unfold PS.take;rw[az h0,al hk];rfl,by simp[PS.take,PS.called,h0,hk]⟩
 have hk:p.tok.kind=k:=by simpa using eC
 have ew:=PS.mc hp.ok mv hk
 have fZ:=hp.ok.eG
 refine aQ (aL (ai (ae 3 aa (aj (rQ (cm:=[dS p.tok.text,.vp 1001 0,.vp 1002 0]) (Bi:=[(1001,.one e1 b1 [.d x]),(1002,.one e2 b2 [.d y])]) [(1001,1001),(1002,1002)] 2000 aa aa aa aa aa aa aa aa aa ⟨aa,aa,aa,aa,trivial⟩ (hC h0 hk) (fun r Bn gx=>?_))))))
 obtain⟨rfl,rfl⟩:=gx
 refine eX (PS.bi p++[(1001,.one e1 b1 [.d x]),(1002,.one e2 b2 [.d y2]),(7,.one 69 32 (p.tok.enc.map .d))]) (dK aa aa ⟨aa,aa,aa,trivial⟩) (ak 1 aa (an 2 aa (aK aa (fun dr=>?_) (fun dr=>?_))))
 ·have he:¬e=0:=by simpa using dr
  refine ai (ae 2 aa (bo (fail F hp.ok e) aa aa aa aa aa (aX (an 1 aa (ay ?_)))))
  exact⟨_,PS.bi (p.fail e)++[(1001,.one e1 b1 [.d x]),(1002,.one e2 b2 [.d y2])],rfl,dK rfl rfl ⟨rfl,rfl,trivial⟩,by unfold PS.take;rw[az h0,az hk,al he];rfl,by simp[PS.take,PS.called,h0,hk,he]⟩
 have he:e=0:=by simpa using dr
 refine aQ (ai (ae 4 aa (aj (cM aa aa ah ?_))))
 refine ak 3 aa (an 3 aa (ay ?_))
 exact⟨_,PS.bi p.step++[(1001,.one e1 b1 [.d x]),(1002,.one e2 b2 [.d y2])],rfl,dK rfl rfl ⟨rfl,rfl,trivial⟩,by unfold PS.take;rw[az h0,az hk,az he];rfl,by simp[PS.take,PS.called,h0,hk,he]⟩
theorem Yk{T:bd}(F:FT T){p:PS}(hp:St p){k e:Int}(mv:k≠6){g:Nat}{e1 b1 e2 b2:Nat}{x y z u y2 A u2:DC}(hC:p.err=0→p.tok.kind=k→cg T g ([dS p.tok.text]++[.vp 1001 0,.vp 1002 0]) [(1001,.one e1 b1 [.d x]),(1002,.one e2 b2 [.d y,.d z,.d u])] fun r Bn=>r=dI e∧Bn=[(1001,.one e1 b1 [.d x]),(1002,.one e2 b2 [.d y2,.d A,.d u2])]):cg T 180 [.vp 1000 0,dI k,.fn g [.vp 1001 0,.vp 1002 0]] (PS.bi p++[(1001,.one e1 b1 [.d x]),(1002,.one e2 b2 [.d y,.d z,.d u])]) fun r Bn=>r=dS (p.take k e).1∧Bn=PS.bi (p.take k e).2++[(1001,.one e1 b1 [.d x]),(1002,.one e2 b2 [.d (if p.called k=true then y2 else y),.d (if p.called k=true then A else z),.d (if p.called k=true then u2 else u)])]:=by
 refine cL F.vW aa (eZ (PS.bi p++[(1001,.one e1 b1 [.d x]),(1002,.one e2 b2 [.d y,.d z,.d u])]) (dK aa aa ⟨aa,aa,trivial⟩) (an 1 aa (aL (an 5 aa (aK aa (fun bQ=>?_) (fun bQ=>?_))))))
 ·have h0:¬p.err=0:=by simpa using bQ
  refine an 1 aa (ay ?_)
  exact⟨_,PS.bi p++[(1001,.one e1 b1 [.d x]),(1002,.one e2 b2 [.d y,.d z,.d u])],rfl,dK rfl rfl ⟨rfl,rfl,trivial⟩,by unfold PS.take;rw[al h0];rfl,by simp[PS.take,PS.called,h0]⟩
 have h0:p.err=0:=by simpa using bQ
 refine aQ (ai (ae 1 aa (bo (tok F hp.ok) aa aa aa aa aa (ak 2 aa (aL (ai (ae 3 aa (aj (iV aa aa ?_)))))))))
 refine aX (aK aa (fun eC=>?_) (fun eC=>?_))
 ·have hk:¬p.tok.kind=k:=by simpa using eC
  refine ai (ae 1 aa (bo (fail F hp.ok 5) aa aa aa aa aa (aX (an 1 aa (ay ?_)))))
  exact⟨_,PS.bi (p.fail 5)++[(1001,.one e1 b1 [.d x]),(1002,.one e2 b2 [.d y,.d z,.d u])],rfl,dK rfl rfl ⟨rfl,rfl,trivial⟩,by unfold PS.take;rw[az h0,al hk];rfl,by simp[PS.take,PS.called,h0,hk]⟩
 have hk:p.tok.kind=k:=by simpa using eC
 have ew:=PS.mc hp.ok mv hk
 have fZ:=hp.ok.eG
 refine aQ (aL (ai (ae 3 aa (aj (rQ (cm:=[dS p.tok.text,.vp 1001 0,.vp 1002 0]) (Bi:=[(1001,.one e1 b1 [.d x]),(1002,.one e2 b2 [.d y,.d z,.d u])]) [(1001,1001),(1002,1002)] 2000 aa aa aa aa aa aa aa aa aa ⟨aa,aa,aa,aa,trivial⟩ (hC h0 hk) (fun r Bn gx=>?_))))))
 obtain⟨rfl,rfl⟩:=gx
 refine eX (PS.bi p++[(1001,.one e1 b1 [.d x]),(1002,.one e2 b2 [.d y2,.d A,.d u2]),(7,.one 69 32 (p.tok.enc.map .d))]) (dK aa aa ⟨aa,aa,aa,trivial⟩) (ak 1 aa (an 2 aa (aK aa (fun dr=>?_) (fun dr=>?_))))
 ·have he:¬e=0:=by simpa using dr
  refine ai (ae 2 aa (bo (fail F hp.ok e) aa aa aa aa aa (aX (an 1 aa (ay ?_)))))
  exact⟨_,PS.bi (p.fail e)++[(1001,.one e1 b1 [.d x]),(1002,.one e2 b2 [.d y2,.d A,.d u2])],rfl,dK rfl rfl ⟨rfl,rfl,trivial⟩,by unfold PS.take;rw[az h0,az hk,al he];rfl,by simp[PS.take,PS.called,h0,hk,he]⟩
 have he:e=0:=by simpa using dr
 refine aQ (ai (ae 4 aa (aj (cM aa aa ah ?_))))
 refine ak 3 aa (an 3 aa (ay ?_))
 exact⟨_,PS.bi p.step++[(1001,.one e1 b1 [.d x]),(1002,.one e2 b2 [.d y2,.d A,.d u2])],rfl,dK rfl rfl ⟨rfl,rfl,trivial⟩,by unfold PS.take;rw[az h0,az hk,az he];rfl,by simp[PS.take,PS.called,h0,hk,he]⟩
theorem Yl{T:bd}(F:FT T)(s:List UInt8):cg T 209 ([dS s]++[]) [] fun r Bn=>r=d0∧Bn=[]:=by
 exact cL F.aci aa (an 1 aa (an 1 aa (ay (⟨_,[],aa,trivial,aa,aa⟩))))
theorem name{T:bd}(F:FT T){p:PS}(hp:St p):cg T 169 [.vp 1000 0] (PS.bi p) fun r Bn=>r=dS p.name.1∧Bn=PS.bi p.name.2:=by
 refine cL F.abT aa (an 1 aa (ai (ae 1 aa (aj (kn (cm:=[.vp 1000 0,dI 2,.fn 209 []]) (Bi:=PS.bi p++[]) [(1000,1000),(1050,1050)] 2000 aa aa aa aa aa aa aa (xj aa aa aa aa trivial) (zU F hp aq (fun _ _=>Yl F _)) (fun r Bn gx=>?_))))))
 obtain⟨rfl,rfl⟩:=gx
 exact eX (PS.bi (p.take 2 0).2++[]) (dK aa aa trivial) (ak 1 aa (ay (⟨_,PS.bi (p.take 2 0).2,aa,cX aa aa,aa,aa⟩)))
theorem Nw{T:bd}(F:FT T){D:Rd}(O:iF T D){s:List UInt8}(K:om s)(least:Int):cg T 181 ([dS s]++[.vp 1001 0,.vp 1002 0]) [(1001,.one 3 8 [dI least]),(1002,.one 3 8 [d0])] fun r Bn=>r=dI (mW least s)∧Bn=[(1001,.one 3 8 [dI least]),(1002,.one 3 8 [dI (if mW least s=0 then(eE s:Nat) else 0)])]:=by
 refine cL F.ab3 aa ?_
 have U:=DS K
 refine an 1 aa (ai (ae 1 aa (aj (fG (args:=[dS s,dI 10,dI 64]) aa fJ (O.uint s K) (fun r Z Y=>?_)))))
 subst Y
 refine ak 5 aa (aL (ai (ae 3 aa (aw aa aa (bY aa ?_)))))
 refine aw aa aa (BO aa aa ?_)
 refine ae 2 aa (dc (g:=bh) aa (fun z=>?_) (fun z=>?_))
 ·have J:¬(eE s:Int)<1099511627776:=by simp at z;omega
  have I:mW least s=10:=al (fun h=>J h.1)
  refine eJ aa (z) (eJ aa (z) (eJ aa (z) (eJ aa (z) (aj (c8 aa (z) aa ?_)))))
  refine aX (eW aa aa (an 1 aa (ay ?_)))
  rw[I]
  exact⟨_,[(1001,.one 3 8 [dI least]),(1002,.one 3 8 [d0])],aa,⟨aa,aa,trivial⟩,aa,aa⟩
 have ew:(eE s:Int)<1099511627776:=by simp at z;omega
 refine aw aa (z) (bY aa ?_)
 refine aw aa (z) (uW aa ?_)
 rw[wrap_i64 ah ah]
 refine aw aa (z) (df aa aa aa ?_)
 refine aw aa (z) (nO aa aa ?_)
 refine aj (cS aa (z) aa ?_)
 refine aX (aK aa (fun A=>?_) (fun A=>?_))
 ·have I:mW least s=10:=al (fun h=>by have G:=A;simp at G;omega)
  refine an 1 aa (ay ?_)
  rw[I]
  exact⟨_,[(1001,.one 3 8 [dI least]),(1002,.one 3 8 [d0])],aa,⟨aa,aa,trivial⟩,aa,aa⟩
 have I:mW least s=0:=az ⟨ew,by have G:=A;simp at G;omega⟩
 refine aQ (ai (ae 2 aa ?_))
 rw[wrap_i64 ah ah]
 refine ak 1 aa (an 1 aa (ay ?_))
 rw[I]
 exact⟨_,[(1001,.one 3 8 [dI least]),(1002,.one 3 8 [dI (eE s:Nat)])],aa,⟨aa,aa,trivial⟩,aa,aa⟩
theorem number{T:bd}(F:FT T){D:Rd}(z:iF T D){p:PS}(hp:St p)(least:Int):cg T 129 [.vp 1000 0,dI least] (PS.bi p) fun r Bn=>r=dI (p.number least).1∧Bn=PS.bi (p.number least).2:=by
 refine cL F.QG aa (an 2 aa (an 2 aa (ai (ae 2 aa (aj (kn (cm:=[.vp 1000 0,dI 3,.fn 181 [.vp 1001 0,.vp 1002 0]]) (Bi:=PS.bi p++[(1001,.one 3 8 [dI least]),(1002,.one 3 8 [d0])]) [(1000,1000),(1050,1050),(1001,3),(1002,5)] 2000 aa aa aa aa aa aa aa (xj aa aa aa aa ⟨aa,aa,aa,aa,trivial⟩) (Yj F hp aq (fun _ hk=>Nw F z (hp.nY.1 _ hp.ok.mem hk) least)) (fun r Bn gx=>?_)))))))
 obtain⟨rfl,rfl⟩:=gx
 refine eX (PS.bi (p.take 3 (mW least p.tok.text)).2++[(5,.one 3 8 [.d (if p.called 3=true then .i .i64 (if mW least p.tok.text=0 then(eE p.tok.text:Nat) else 0) else .i .i64 0)])]) (dK aa aa ⟨aa,trivial⟩) (aX (an 2 aa (ay (⟨_,PS.bi (p.number least).2,aa,cX aa aa,?_,aa⟩))))
 unfold PS.number
 by_cases A:p.called 3=true<;>by_cases h2:mW least p.tok.text=0<;>simp[gX,A,h2]
end Go.Ev.Pp
