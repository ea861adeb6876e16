/- Part 15 of rules for walks through the code of a program, and of such walks; what each part proves is said by its theorems. -/
import Derived.Test.YtijnechfhdlgiaaGreatDoorS13
import Derived.Test.YtijnechfhdlgiaaGreatDoorS14
set_option linter.unusedVariables false
set_option linter.unusedSimpArgs false
namespace Go.Ev.Pp
open Go
def cF:List UInt8:=[44]
def jP:List UInt8:=[87,72,69,82,69]
def zB:List UInt8:=[83,69,76,69,67,84]
def ja:List UInt8:=[68,73,83,84,73,78,67,84]
def hY:List UInt8:=[70,82,79,77]
def gp:List UInt8:=[71,82,79,85,80]
def gC:List UInt8:=[66,89]
def tZ:List UInt8:=[85,78,73,79,78]
def tM:List UInt8:=[69,88,67,69,80,84]
def tq:List UInt8:=[73,78,84,69,82,83,69,67,84]
def gE:List UInt8:=[65,76,76]
def nL:List UInt8:=[76,69,70,84]
def ka:List UInt8:=[74,79,73,78]
def pd:List UInt8:=[79,78]
def fc:List UInt8:=[65,83]
def j6:List UInt8:=[79,70]
def jv:List UInt8:=[67,79,85,78,84]
def nj:List UInt8:=[83,85,77]
def nk:List UInt8:=[77,73,78]
def nm:List UInt8:=[77,65,88]
def yu:List UInt8:=[73,78,84]
def x6:List UInt8:=[84,69,88,84]
def x7:List UInt8:=[66,79,79,76]
def lE:List UInt8:=[73,78,84,79]
def lr:List UInt8:=[86,65,76,85,69,83]
def kO:List UInt8:=[70,79,82]
def oq:List UInt8:=[80,79,82,84,73,79,78]
def kz:List UInt8:=[83,69,84]
def db:List UInt8:=[84,65,66,76,69]
def rA:List UInt8:=[75,69,89]
def lS:List UInt8:=[82,69,70,69,82,69,78,67,69,83]
def yR:List UInt8:=[73,78]
def pM:List UInt8:=[78,79,71,65,80]
def po:List UInt8:=[78,79,79,86,69,82,76,65,80]
def nV:List UInt8:=[65,68,68]
def pR:List UInt8:=[68,82,79,80]
def jG:List UInt8:=[65,84]
def jX:List UInt8:=[68,65,89]
def oh:List UInt8:=[86,65,76,73,68,84,73,77,69]
def og:List UInt8:=[82,69,67,79,82,68,84,73,77,69]
def oi:List UInt8:=[66,79,84,72,84,73,77,69]
def oe:List UInt8:=[78,79,78,83,69,81,85,69,78,67,69,68]
def r6:List UInt8:=[73,78,83,69,82,84]
def r7:List UInt8:=[68,69,76,69,84,69]
def r8:List UInt8:=[85,80,68,65,84,69]
def r9:List UInt8:=[67,82,69,65,84,69]
def sh:List UInt8:=[65,76,84,69,82]
def sq:List UInt8:=[67,73,84,69]
def sa:List UInt8:=[82,69,67,65,76,76]
def sr:List UInt8:=[72,79,76,68]
def pA:List UInt8:=[82,69,76,69,65,83,69]
def pF:List UInt8:=[70,79,82,71,69,84]
def oO:List UInt8:=[66,69,76,79,87]
def xx:List UInt8:=[85,78,84,73,76]
def IM:List UInt8:=[84,79]
structure bd(p:PS):Prop where
 st:St p
 d0:p.depth=0
structure bQ(p q:PS):Prop where
 top:bd q
 aA:q.aA=p.aA
 aJ:p.aJ≤q.aJ
 er:q.err=0→p.err=0
 pk:p.pk→q.pk
theorem bd.ok{p:PS}(h:bd p):p.ok:=h.st.ok
theorem bQ.st{p q:PS}(h:bQ p q):St q:=h.top.st
theorem bQ.ok{p q:PS}(h:bQ p q):q.ok:=h.top.st.ok
theorem bQ.refl{p:PS}(h:bd p):bQ p p:=⟨h,rfl,bY _,id,id⟩
theorem bQ.trans{p q r:PS}(h:bQ p q)(g:bQ q r):bQ p r:=⟨g.top,g.aA.trans h.aA,jT h.aJ g.aJ,fun k=>h.er (g.er k),fun k=>g.pk (h.pk k)⟩
theorem bD.go{k:Nat}{p q:PS}(a:bD k p q)(h:bd p):bQ p q:=⟨⟨a.st,by rw[a.depth];exact h.d0⟩,a.aA,a.aJ,a.er,a.pk⟩
theorem bd.kw{p:PS}(h:bd p)(s:List UInt8):bQ p (p.keyword s).2:=(bD.Gg h.st s).go h
theorem bd.sign{p:PS}(h:bd p)(s:List UInt8):bQ p (p.sign s).2:=(bD.xY h.st s).go h
theorem bd.dF{p:PS}(h:bd p)(l:List (List UInt8)):bQ p (p.aW l):=(bD.aW h.st).go h
theorem bd.gK{p:PS}(h:bd p)(s:List UInt8):bQ p (p.bx s):=(bD.bx h.st s).go h
theorem bd.fail{p:PS}(h:bd p){e:Int}(he:e≠0):bQ p (p.fail e):=(bD.fail h.st he).go h
theorem bd.take{p:PS}(h:bd p){k e:Int}(hk:k≠6):bQ p (p.take k e).2:=(bD.take h.st hk).go h
theorem bd.name{p:PS}(h:bd p):bQ p p.name.2:=h.take (by decide)
theorem bd.number{p:PS}(h:bd p)(n:Int):bQ p (p.number n).2:=h.take (by decide)
theorem bd.day{p:PS}(h:bd p)(D:Rd):bQ p (p.day D).2:=h.take (by decide)
theorem bd.period{p:PS}(h:bd p)(D:Rd):bQ p (p.period D).2:=h.take (by decide)
theorem bd.literal{p:PS}(h:bd p)(D:Rd):bQ p (p.literal D).2:=by
 by_cases h0:p.err=0
 ·exact(bD.Gh h.st D h0).go h
 have:p.literal D=(cq,p):=by unfold PS.literal;rw[aw h0]
 rw[this];exact .refl h
def PS.expr(p:PS)(D:Rd):Int×PS:=lC D 61 p
theorem bd.expr{p:PS}(h:bd p)(D:Rd):bQ p (p.expr D).2:=((pE D 61).1 p h.st (by rw[h.d0])).go h
theorem bd.step{p:PS}(h:bd p)(h0:p.err=0)(z:p.aJ+1<p.aA.length):bQ p p.step:=(bD.step h.st h0 z).go h
theorem ov{p:PS}(hp:p.ok){s:List UInt8}(h:(p.sign s).1=true):p.aJ+1≤(p.sign s).2.aJ∧p.aJ+1<p.aA.length:=by
 have z:=PS.pz h
 refine⟨by rw[show(p.sign s).2=p.step from z.1];exact bY _,PS.kV hp (by decide) z.2⟩
theorem nc{p:PS}(hp:p.ok){s:List UInt8}(h:(p.keyword s).1=true):p.aJ+1≤(p.keyword s).2.aJ∧p.aJ+1<p.aA.length:=by
 have z:=PS.pz h
 refine⟨by rw[show(p.keyword s).2=p.step from z.1];exact bY _,PS.kV hp (by decide) z.2⟩
section
variable{α:Type}
def kv(f:PS→α×PS):Nat→List α→PS→List α×PS
 |0,l,p=>(l,p)
 |k+1,l,p=>if(p.sign cF).1=true then kv f k (l++[(f (p.sign cF).2).1]) (f (p.sign cF).2).2 else(l,p)
def jc(f:PS→α×PS)(p:PS):List α×PS:=kv f p.aA.length [(f p).1] (f p).2
theorem ow{f:PS→α×PS}{p:PS}(h:(p.sign cF).1=true)(k:Nat)(l:List α):kv f (k+1) l p=kv f k (l++[(f (p.sign cF).2).1]) (f (p.sign cF).2).2:=aw h
theorem ox{f:PS→α×PS}{p:PS}(h:(p.sign cF).1=false)(l:List α):∀k,kv f k l p=(l,p)
 |0=>rfl
 |k+1=>aj (by rw[h];decide)
theorem Lm{f:PS→α×PS}(z:∀p,bd p→bQ p (f p).2):∀(k:Nat)(l:List α){p:PS},bd p→bQ p (kv f k l p).2
 |0,l,p,h=>.refl h
 |k+1,l,p,h=>by
  unfold kv
  split
  ·have A:=h.sign cF
   have h2:=A.trans (z _ A.top)
   exact h2.trans (Lm z k _ h2.top)
  exact .refl h
theorem w3{f:PS→α×PS}(z:∀p,bd p→bQ p (f p).2){p:PS}(h:bd p):bQ p (jc f p).2:=(z p h).trans (Lm z _ _ (z p h).top)
end
def PS.dX(p:PS)(D:Rd):Int×PS:=if(p.keyword jP).1=true then(p.keyword jP).2.expr D else(-1,p)
def PS.set(p:PS)(D:Rd):(List UInt8×Int)×PS:=((p.name.1,((p.name.2.bx mS).expr D).1),((p.name.2.bx mS).expr D).2)
def PS.nF(q:PS):Int×PS:=
 if(q.keyword yu).1=true then(1,(q.keyword yu).2) else if(q.keyword x6).1=true then(2,(q.keyword x6).2) else if(q.keyword x7).1=true then(3,(q.keyword x7).2) else(0,q.fail 5)
def PS.column(p:PS):(List UInt8×Int)×PS:=((p.name.1,p.name.2.nF.1),p.name.2.nF.2)
def PS.names(p:PS):List (List UInt8)×PS:=((jc PS.name (p.bx cm)).1,(jc PS.name (p.bx cm)).2.bx dL)
def PS.hJ(p:PS):Int×PS:=if(p.keyword fc).1=true then((p.keyword fc).2.aW [j6]).number (-1) else(1099511627776,p)
def PS.after(p:PS):cM:=(p.aA[p.aJ+1]?).getD Oa
def PS.alias(p:PS)(hJ:Bool):List UInt8×PS:=
 if p.next 1 fc=false then([],p) else if hJ=true∧p.after.kind=1∧p.after.text=j6 then([],p) else p.step.name
structure Item where
 agg:Int
 expr:Int
 alias:List UInt8
def Item.enc(x:Item):List DC:=[.i .i64 x.agg,.i .i64 x.expr,cJ x.alias]
def PS.agg(p:PS):Int×PS:=
 if(p.keyword nj).1=true then(2,(p.keyword nj).2) else if(p.keyword nk).1=true then(3,(p.keyword nk).2) else if(p.keyword nm).1=true then(4,(p.keyword nm).2) else(0,p)
def PS.fN(p:PS)(D:Rd):Int×PS:=(((p.bx cm).expr D).1,((p.bx cm).expr D).2.bx dL)
def PS.iF(p:PS)(D:Rd):(Int×Int)×PS:=
 if(p.keyword jv).1=true then((1, -1),(((p.keyword jv).2.bx cm).bx eS).bx dL)
 else if p.agg.1=0 then((0,(p.expr D).1),(p.expr D).2)
 else((p.agg.1,(p.agg.2.fN D).1),(p.agg.2.fN D).2)
def PS.item(p:PS)(D:Rd):Item×PS:=(⟨(p.iF D).1.1,(p.iF D).1.2,((p.iF D).2.alias false).1⟩,((p.iF D).2.alias false).2)
structure Src where
 left:Bool
 table:List UInt8
 alias:List UInt8
 on:Int
def Src.enc(x:Src):List DC:=[.b x.left,cJ x.table,cJ x.alias,.i .i64 x.on]
def PS.source(p:PS)(hJ:Bool):Src×PS:=(⟨false,p.name.1,(p.name.2.alias hJ).1, -1⟩,(p.name.2.alias hJ).2)
def PS.join(p:PS):Option (Bool×PS):=if(p.keyword nL).1=true then some (true,(p.keyword nL).2.aW [ka]) else if(p.keyword ka).1=true then some (false,(p.keyword ka).2) else none
def PS.gx(q:PS)(D:Rd)(left:Bool):Src×PS:=(⟨left,(q.source false).1.table,(q.source false).1.alias,(((q.source false).2.aW [pd]).expr D).1⟩,(((q.source false).2.aW [pd]).expr D).2)
def oR(D:Rd):Nat→List Src→PS→List Src×PS
 |0,l,p=>(l,p)
 |k+1,l,p=>match p.join with
  |none=>(l,p)
  |some (left,q)=>oR D k (l++[(q.gx D left).1]) (q.gx D left).2
def PS.jS(p:PS)(D:Rd)(hJ:Bool):List Src×PS:=oR D p.aA.length [(p.source hJ).1] (p.source hJ).2
def PS.kb(p:PS):PS:=if p.err=0∧p.tok.kind≠2 then p.fail 5 else p
def PS.dy(p:PS):Int×PS:=if p.kb.err≠0 then(0,p.kb) else p.kb.f5
structure Core where
 distinct:Bool
 exprs:List aL
 items:List Item
 src:List Src
 wh:Int
 Ue:Bool
 group:List Int
def Core.enc(c:Core):List DC:=[.b c.distinct,.ff (c.exprs.map aL.enc),.ff (c.items.map Item.enc),.ff (c.src.map Src.enc),.i .i64 c.wh,.b c.Ue,.ff (c.group.map fun i=>[.i .i64 i])]
def PS.iM(p:PS):PS:=PS.aW {p with ex:=[]} [zB]
def PS.items(p:PS)(D:Rd):List Item×PS:=if(p.sign eS).1=true then([],(p.sign eS).2) else jc (fun p=>p.item D) p
def PS.group(p:PS):(Bool×List Int)×PS:=if(p.keyword gp).1=true then((true,(jc PS.dy ((p.keyword gp).2.aW [gC])).1),(jc PS.dy ((p.keyword gp).2.aW [gC])).2) else((false,[]),p)
def PS.fq(p:PS):PS:=(p.iM.keyword ja).2
def PS.fv(p:PS)(D:Rd):PS:=(p.fq.items D).2.aW [hY]
def PS.iV(p:PS)(D:Rd)(a:Bool):PS:=((p.fv D).jS D a).2
def PS.dD(p:PS)(D:Rd)(a:Bool):PS:=((p.iV D a).dX D).2
def PS.core(p:PS)(D:Rd)(a:Bool):Core×PS:=
 (⟨(p.iM.keyword ja).1,(p.dD D a).group.2.ex,(p.fq.items D).1,((p.fv D).jS D a).1,((p.iV D a).dX D).1,(p.dD D a).group.1.1,(p.dD D a).group.1.2⟩,(p.dD D a).group.2)
structure jr where
 fP:List Core
 ops:List Int
def jr.enc(x:jr):List DC:=[.ff (x.fP.map Core.enc),.ff (x.ops.map fun i=>[.i .i64 i])]
def PS.op(p:PS):Option (Int×PS):=
 if(p.keyword tZ).1=true then some (6,(p.keyword tZ).2) else if(p.keyword tM).1=true then some (7,(p.keyword tM).2) else if(p.keyword tq).1=true then some (8,(p.keyword tq).2) else none
def p0(D:Rd)(a:Bool):Nat→jr→PS→jr×PS
 |0,s,p=>(s,p)
 |k+1,s,p=>match p.op with
  |none=>(s,p)
  |some (o,q)=>p0 D a k ⟨s.fP++[((q.aW [gE]).core D a).1],s.ops++[o]⟩ ((q.aW [gE]).core D a).2
def PS.cT(p:PS)(D:Rd)(a:Bool):jr×PS:=p0 D a p.aA.length ⟨[(p.core D a).1],[]⟩ (p.core D a).2
structure Fk where
 jh:List (List UInt8)
 table:List UInt8
 refs:List (List UInt8)
def fR(l:List (List UInt8)):DC:=.ff (l.map fun s=>[cJ s])
def Fk.enc(x:Fk):List DC:=[fR x.jh,cJ x.table,fR x.refs]
structure Stmt where
 kind:Int:=0
 mode:Int:=0
 day:Int:=0
 aJ:Int:=0
 cT:jr:=⟨[],[]⟩
 table:List UInt8:=[]
 name:List UInt8:=[]
 row:List gU:=[]
 valid:Int×Int:=(0,0)
 exprs:List aL:=[]
 wh:Int:=0
 mR:List (List UInt8×Int):=[]
 jh:List (List UInt8×Int):=[]
 key:List (List UInt8):=[]
 mh:List Fk:=[]
 cons:List (Int×List (List UInt8)):=[]
 n:Int:=0
 wq:Int×Int:=(0,0)
def cS(x:List UInt8×Int):List DC:=[.i .i64 0,cJ x.1,.i .i64 x.2]
def eM(x:List UInt8×Int):List DC:=[cJ x.1,.i .i64 x.2]
def dQ(x:Int×List (List UInt8)):List DC:=[.i .i64 x.1,fR x.2]
def Stmt.enc(s:Stmt):List DC:=[.i .i64 s.kind,.i .i64 s.mode,.i .i64 s.day,.i .i64 s.aJ,.ff (s.cT.fP.map Core.enc),.ff (s.cT.ops.map fun i=>[.i .i64 i]),cJ s.table,cJ s.name,.ff (s.row.map gU.enc),.i .i64 s.valid.1,.i .i64 s.valid.2,.ff (s.exprs.map aL.enc),.i .i64 s.wh,.ff (s.mR.map eM),.ff (s.jh.map cS),fR s.key,.ff (s.mh.map Fk.enc),.ff (s.cons.map dQ),.i .i64 s.n,.i .i64 s.wq.1,.i .i64 s.wq.2]
def PS.kP(p:PS):PS:=(p.aW [lE]).name.2
def PS.sM(p:PS)(D:Rd):List gU×PS:=jc (fun p=>p.literal D) ((p.kP.aW [lr]).bx cm)
def PS.p5(p:PS)(D:Rd):PS:=((p.sM D).2.bx dL).aW [kO]
def PS.insert(p:PS)(D:Rd):Stmt×PS:=({kind:=2,table:=(p.aW [lE]).name.1,row:=(p.sM D).1,valid:=((p.p5 D).period D).1},((p.p5 D).period D).2)
def PS.wt(p:PS):PS:=(p.aW [hY]).name.2.aW [kO,oq,j6]
def PS.nq(p:PS)(D:Rd):PS:=(p.wt.period D).2
def PS.remove(p:PS)(D:Rd):Stmt×PS:=({kind:=3,table:=(p.aW [hY]).name.1,valid:=(p.wt.period D).1,wh:=((p.nq D).dX D).1,exprs:=((p.nq D).dX D).2.ex},((p.nq D).dX D).2)
def PS.gA(p:PS):PS:=p.name.2.aW [kO,oq,j6]
def PS.o7(p:PS)(D:Rd):List (List UInt8×Int)×PS:=jc (fun p=>p.set D) ((p.gA.period D).2.aW [kz])
def PS.update(p:PS)(D:Rd):Stmt×PS:=({kind:=4,table:=p.name.1,valid:=(p.gA.period D).1,mR:=(p.o7 D).1,wh:=((p.o7 D).2.dX D).1,exprs:=((p.o7 D).2.dX D).2.ex},((p.o7 D).2.dX D).2)
def PS.tc(p:PS):PS:=p.names.2.aW [yR]
def PS.fk(p:PS):Fk×PS:=(⟨p.names.1,p.tc.name.1,p.tc.name.2.names.1⟩,p.tc.name.2.names.2)
def o8:Nat→List Fk→PS→List Fk×PS
 |0,l,p=>(l,p)
 |k+1,l,p=>if(p.keyword lS).1=true then o8 k (l++[(p.keyword lS).2.fk.1]) (p.keyword lS).2.fk.2 else(l,p)
def PS.gN(p:PS):Option (Int×PS):=if(p.keyword pM).1=true then some (1,(p.keyword pM).2) else if(p.keyword po).1=true then some (2,(p.keyword po).2) else none
def nM:Nat→List (Int×List (List UInt8))→PS→List (Int×List (List UInt8))×PS
 |0,l,p=>(l,p)
 |k+1,l,p=>match p.gN with
  |none=>(l,p)
  |some (c,q)=>nM k (l++[(c,q.names.1)]) q.names.2
def PS.sN(p:PS):List (List UInt8×Int)×PS:=jc PS.column ((p.aW [db]).name.2.bx cm)
def PS.ik(p:PS):PS:=p.sN.2.bx dL
def PS.key(p:PS):List (List UInt8)×PS:=if(p.keyword rA).1=true then(p.keyword rA).2.names else([],p)
def PS.o9(p:PS):List Fk×PS:=o8 p.aA.length [] p.ik.key.2
def PS.uR(p:PS):List (Int×List (List UInt8))×PS:=nM p.aA.length [] p.o9.2
def PS.create(p:PS):Stmt×PS:=({kind:=5,table:=(p.aW [db]).name.1,jh:=p.sN.1,key:=p.ik.key.1,mh:=p.o9.1,cons:=p.uR.1},p.uR.2)
def PS.gm(p:PS):PS:=(p.aW [db]).name.2
def PS.alter(p:PS):Stmt×PS:=
 if(p.gm.keyword nV).1=true then({kind:=6,table:=(p.aW [db]).name.1,jh:=[(p.gm.keyword nV).2.column.1]},(p.gm.keyword nV).2.column.2)
 else if(p.gm.keyword pR).1=true then({kind:=7,table:=(p.aW [db]).name.1,name:=(p.gm.keyword pR).2.name.1},(p.gm.keyword pR).2.name.2)
 else(({}:Stmt),p.gm.fail 5)
def PS.ri(p:PS)(D:Rd):PS:=(p.cT D false).2.aW [jG,jX]
def PS.qB(p:PS)(D:Rd):Stmt×PS:=({kind:=8,cT:=(p.cT D false).1,day:=((p.ri D).day D).1,aJ:=((p.ri D).day D).2.hJ.1},((p.ri D).day D).2.hJ.2)
def PS.lW(p:PS):PS:=(p.number (-1)).2.aW [hY]
def PS.mq(p:PS):PS:=(p.lW.number (-1)).2.aW [IM]
def PS.pS(p:PS):Int×PS:=if(p.mq.keyword xx).1=true then(1099511627776,(p.mq.keyword xx).2) else p.mq.number (p.lW.number (-1)).1
def PS.hold(p:PS):Stmt×PS:=({kind:=10,n:=(p.number (-1)).1,wq:=((p.lW.number (-1)).1,p.pS.1)},p.pS.2)
def PS.mode(p:PS):Int×PS:=
 if(p.keyword oh).1=true then(2,(p.keyword oh).2) else if(p.keyword og).1=true then(3,(p.keyword og).2)
 else if(p.keyword oi).1=true then(4,(p.keyword oi).2) else if(p.keyword oe).1=true then(5,(p.keyword oe).2) else(1,p)
def PS.gy(p:PS)(D:Rd):Int×PS:=if(p.keyword jG).1=true then((p.keyword jG).2.aW [jX]).day D else(-1,p)
def PS.query(p:PS)(D:Rd):Stmt×PS:=
 ({kind:=1,mode:=p.mode.1,day:=((p.mode.2.cT D true).2.gy D).1,aJ:=((p.mode.2.cT D true).2.gy D).2.hJ.1,cT:=(p.mode.2.cT D true).1},((p.mode.2.cT D true).2.gy D).2.hJ.2)
def PS.cV(p:PS)(D:Rd):Stmt×PS:=
 if(p.keyword r6).1=true then(p.keyword r6).2.insert D
 else if(p.keyword r7).1=true then(p.keyword r7).2.remove D
 else if(p.keyword r8).1=true then(p.keyword r8).2.update D
 else if(p.keyword r9).1=true then(p.keyword r9).2.create
 else if(p.keyword sh).1=true then(p.keyword sh).2.alter
 else if(p.keyword sq).1=true then(p.keyword sq).2.qB D
 else if(p.keyword sa).1=true then({kind:=9},(p.keyword sa).2)
 else if(p.keyword sr).1=true then(p.keyword sr).2.hold
 else if(p.keyword pA).1=true then({kind:=11,n:=((p.keyword pA).2.number (-1)).1},((p.keyword pA).2.number (-1)).2)
 else if(p.keyword pF).1=true then({kind:=12,n:=(((p.keyword pF).2.aW [oO]).number (-1)).1},(((p.keyword pF).2.aW [oO]).number (-1)).2)
 else p.query D
open Go
def PS.wu(p:PS):List VV:=[.d (.sl (p.aA.map cM.enc)),dI (p.aJ:Nat),dI p.pos,dI p.err,dI (p.depth:Nat),.undef]
def PS.bz(p:PS):br:=[(1000,.one 123 80 p.wu)]
section
variable{T:bf}{VE:b0}{B L:br}
theorem gh{p:PS}(z:aZ B 1000=some (.one 123 80 p.wu))(A:bw L B):bw (p.bz++L) B:=⟨z,A⟩
theorem fC{p:PS}(z:aZ B 1000=some (.one 123 80 p.wu)):bw p.bz B:=⟨z,trivial⟩
theorem Eb{σ:List (Nat×Nat)}{N:Nat}{B L:br}{p:PS}(z:(aZ σ 1000).isSome=true)(h2:aZ B (cu σ N 1000)=some ((BS.one 123 80 p.wu).cu σ N))(A:qA σ N L B):qA σ N (p.bz++L) B:=⟨z,h2,A⟩
end
section
variable{T:bf}{VE:b0}{B:br}
def f4:List (Nat×Nat):=[(1000,1000)]
theorem Ec{f:Nat}{l:List aG}{bZ:List VV}{p A:PS}{R:VV}{Q:VV→br→Prop}(h:bX T f bZ p.bz fun r Bn=>r=R∧Bn=A.bz)(G:aZ B 1000=some (.one 123 80 p.wu))
  (I:(kA 2000 VE&&(kB 2000 B&&clean VE (eH f4 B) f4))=true) (J:iU VE l=some (iI f4 2000 bZ)) (K:R.cu f4 2000=R) (O:Q R (A.bz++eH f4 B)):VI T (.call f l) VE B [1000] Q:=by
 obtain⟨U,z⟩:=iv I
 obtain⟨z,Y⟩:=iv z
 exact jI (Bi:=p.bz) f4 2000 rfl rfl U z rfl Y J ⟨rfl,G,trivial⟩ h fun r Bn hp=>by
  obtain⟨rfl,rfl⟩:=hp
  rw[K]
  exact O
theorem dV{d:Key}{A:Option (List Nat)}{r:List bt}{f:Nat}{l:List aG}{bZ:List VV}{p z:PS}{R:VV}{Q:b0→br→Prop}(h:bX T f bZ p.bz fun r Bn=>r=R∧Bn=z.bz)(G:aZ B 1000=some (.one 123 80 p.wu))
  (I:(kA 2000 VE&&(kB 2000 B&&clean VE (eH f4 B) f4))=true) (J:iU VE l=some (iI f4 2000 bZ)) (K:R.cu f4 2000=R) (O:VO T r ((d.n,R)::VE) (z.bz++eH f4 B) Q):VO T (⟨some d,none,A,.call f l⟩::r) VE B Q:=al (Ec h G I J K O)
theorem Ia{d:Key}{m:List Nat}{fl:List FL}{r:List bt}{f:Nat}{l:List aG}{bZ:List VV}{p z:PS}{R:VV}{Q:b0→br→Prop}(h:bX T f bZ p.bz fun r Bn=>r=R∧Bn=z.bz)(hk:nG [1000] m fl=true)(A:aZ B 1000=some (.one 123 80 p.wu))
  (G:(kA 2000 VE&&(kB 2000 B&&clean VE (eH f4 B) f4))=true) (I:iU VE l=some (iI f4 2000 bZ)) (J:R.cu f4 2000=R) (K:VQ T r ((d.n,R)::VE) (z.bz++eH f4 B) (.un::fl) Q):VQ T (⟨some d,none,some m,.call f l⟩::r) VE B fl Q:=eL hk (Ec h A G I J K)
theorem Ib{d:Key}{G:Option (List Nat)}{r:List bt}{f:Nat}{l:List aG}{bZ:List VV}{p A:PS}{R:VV}{Q:b0→br→Prop}(h:bX T f bZ p.bi fun r Bn=>r=R∧Bn=A.bz)(I:aZ B 1000=some (.one 123 80 p.row))(h2:aZ B 1050=some (.acc 142 88 8 (p.ex.map aL.enc)))
  (J:(kA 2000 VE&&(kB 2000 B&&clean VE (eH jk B) jk))=true) (K:iU VE l=some (iI jk 2000 bZ)) (O:R.cu jk 2000=R) (U:VO T r ((d.n,R)::VE) (A.bz++eH jk B) Q):VO T (⟨some d,none,G,.call f l⟩::r) VE B Q:=by
 obtain⟨Y,z⟩:=iv J
 obtain⟨z,Z⟩:=iv z
 exact al (jI (Bi:=p.bi) jk 2000 rfl rfl Y z rfl Z K ⟨rfl,I,rfl,h2,trivial⟩ h fun r Bn hp=>by
  obtain⟨rfl,rfl⟩:=hp
  rw[O]
  exact U)
end
theorem uF{T:bf}(F:FT T){D:Rd}(z:gX T D){p:PS}(h:bd p):bX T 214 [.vp 1000 0] p.bi fun r Bn=>r=dI (p.expr D).1∧Bn=PS.bi (p.expr D).2:=(MO F z 61).1 p h.st (by rw[h.d0])
open Go
set_option maxRecDepth 10000
theorem wv{T:bf}(F:FT T){p:PS}(hp:p.ok):bX T 119 [.vp 1000 0] (PS.bz p) fun r Bn=>r=et p.tok.enc∧Bn=PS.bz p:=by
 refine cr F.OY aa ?_
 have z:(p.aA.map cM.enc)[p.aJ]?=some p.tok.enc:=by rw[iw,hp.get];rfl
 refine ak 1 aa (eX (bo 8 aa (dG (kZ (row:=p.tok.enc) aa aa z aa ?_))))
 refine bo 2 aa (dc ?_)
 exact ax (⟨_,PS.bz p,aa,fC aa,aa,aa⟩)
theorem su{T:bf}(F:FT T){p:PS}(hp:p.ok)(e:Int):bX T 120 [.vp 1000 0,dI e] (PS.bz p) fun r Bn=>r= .tuple []∧Bn=PS.bz (p.fail e):=by
 refine cr F.OZ aa (ak 5 aa (aK aa (fun z=>?_) (fun z=>?_)))
 ·have h0:p.err=0:=by simpa using z
  refine bG (ae 4 aa (dV (wv F hp) aa aa aa aa (ae 7 aa (af ?_))))
  exact⟨_,PS.bz {p with err:=e,pos:=p.tok.pos},rfl,fC rfl,rfl,by unfold PS.fail;rw[aw h0]⟩
 refine aU ?_
 exact⟨_,PS.bz p,rfl,fC rfl,rfl,by unfold PS.fail;rw[aj (by simpa using z)]⟩
theorem Wp{T:bf}(F:FT T){p:PS}(hp:p.ok)(k:Int)(s:List UInt8):bX T 208 [.vp 1000 0,dI k,dS s] (PS.bz p) fun r Bn=>r=dB (p.next k s)∧Bn=PS.bz p:=by
 refine cr F.O6 aa (ak 1 aa (ai (ae 1 aa (dV (wv F hp) aa aa aa aa (ae 2 aa (af ?_))))))
 refine ai (ae 6 aa (da (g:=aY) aa (fun z=>?_) (fun z=>?_)))
 ·have h0:p.err=0:=by simpa using z
  refine au aa (z) (du aa ?_)
  refine au aa (z) (c8 aa aa aa ?_)
  refine au aa (z) (bM aa ?_)
  refine au aa (z) (gZ aa aa ?_)
  refine al (cU aa (z) aa ?_)
  refine ae 1 aa (da (g:=bu) aa (fun A=>?_) (fun A=>?_))
  ·refine au aa (A) (du aa ?_)
   refine au aa (A) (c8 aa aa aa ?_)
   refine au aa (A) (bM aa ?_)
   refine au aa (A) (oo aa aa ?_)
   refine al (cU aa (A) aa ?_)
   refine ae 1 aa (af ?_)
   refine ax (⟨_,PS.bz p,aa,fC aa,?_,aa⟩)
   clear F hp
   simp_all [gr,PS.next]
  refine ee aa (A) (ee aa (A) (ee aa (A) (ee aa (A) (al (cK aa (A) aa ?_)))))
  refine ae 1 aa (af ?_)
  refine ax (⟨_,PS.bz p,aa,fC aa,?_,aa⟩)
  clear F hp
  simp_all [gr,PS.next]
 refine ee aa (z) (ee aa (z) (ee aa (z) (ee aa (z) (al (cK aa (z) aa ?_)))))
 refine ae 1 aa (ee aa aa (ee aa aa (ee aa aa (ee aa aa (ae 2 aa (af ?_))))))
 refine ax (⟨_,PS.bz p,aa,fC aa,?_,aa⟩)
 clear F hp
 simp_all [gr,PS.next]
theorem Uf{T:bf}(F:FT T){p:PS}(hp:p.ok){k:Int}(hk:k≠6)(s:List UInt8):bX T 168 [.vp 1000 0,dI k,dS s] (PS.bz p) fun r Bn=>r=dB (p.accept k s).1∧Bn=PS.bz (p.accept k s).2:=by
 refine cr F.O4 aa (ak 1 aa (aM (ai (ae 3 aa (dV (Wp F hp k s) aa aa aa aa (ae 1 aa (af ?_)))))))
 refine aK aa (fun z=>?_) (fun z=>?_)
 ·have A:p.next k s=false:=by simpa using z
  refine ak 1 aa (ax ?_)
  exact⟨_,PS.bz p,rfl,fC rfl,by unfold PS.accept;rw[A];rfl,by unfold PS.accept;rw[A];rfl⟩
 have A:p.next k s=true:=by simpa using z
 have dR:=PS.kV hp hk A
 have fu:=hp.dY
 refine aU (ai (ae 4 aa ?_))
 refine al (cX rfl rfl (by omega) ?_)
 refine ae 3 aa (af ?_)
 refine ak 1 aa (ax ?_)
 exact⟨_,PS.bz p.step,rfl,fC rfl,by unfold PS.accept;rw[aw A];rfl,by unfold PS.accept;rw[aw A]⟩
theorem nB{T:bf}(F:FT T){p:PS}(hp:p.ok)(s:List UInt8):bX T 121 [.vp 1000 0,dS s] (PS.bz p) fun r Bn=>r=dB (p.keyword s).1∧Bn=PS.bz (p.keyword s).2:=by
 refine cr F.O0 aa (ak 1 aa (ai (ae 2 aa ?_)))
 refine dV (Uf F hp (by decide) s) rfl rfl rfl rfl ?_
 refine ae 1 aa (af ?_)
 exact ax (⟨_,PS.bz (p.accept 1 s).2,aa,fC aa,aa,aa⟩)
theorem qM{T:bf}(F:FT T){p:PS}(hp:p.ok)(l:List (List UInt8))(Y:l.length≤100):bX T 130 [.vp 1000 0,.d (.sl (l.map fun s=>[cJ s]))] (PS.bz p) fun r Bn=>r= .tuple []∧Bn=PS.bz (p.aW l):=by
 refine cr F.O2 aa (ak 3 aa (bN (d6 (fun k VE B=>∃i:Nat,i≤l.length∧k=l.length-i∧bw [(0,.vp 1000 0),(6,.d (.sl (l.map fun s=>[cJ s]))),(7,dI ((l.map fun s=>[cJ s]).length:Nat)),(8,dI (i:Nat))] VE∧bw (PS.bz ((l.take i).foldl PS.fO p)) B) ?_ (k:=l.length) ⟨0,df _,aa,⟨aa,aa,aa,aa,trivial⟩,fC aa⟩)))
 rintro k VE B⟨i,hi,rfl,U,G⟩
 refine eA (PS.bz ((l.take i).foldl PS.fO p)++[]) G ?_
 have G:bw (PS.bz ((l.take i).foldl PS.fO p)++[]) (PS.bz ((l.take i).foldl PS.fO p)++[]):=gh rfl trivial
 have O:PS.ok ((l.take i).foldl PS.fO p):=PS.FD (l:=l.take i) hp
 refine dx _ _ U G (ak 1 aa (aM (aK aa (fun I=>?_) (fun I=>?_))))
 ·have dR:i<l.length:=by simpa using I
  obtain⟨x,J⟩:∃x,l[i]?=some x:=⟨_,eY dR⟩
  have A:(l.map fun s=>[cJ s])[i]?=some [cJ x]:=by rw[iw,J];rfl
  refine aU (aM (bN (ai (al (kZ aa aa A aa ?_)))))
  refine ae 2 aa (af ?_)
  refine ai (ae 2 aa (dV (nB F O x) aa aa aa aa (ae 1 aa (af ?_))))
  refine aK aa (fun z=>?_) (fun z=>?_)
  ·refine bG (ae 1 aa (dV (su F (PS.wJ O x) 5) aa aa aa aa (af (bG ?_))))
   refine al (cX rfl rfl (by omega) ?_)
   refine ae 1 aa (af ?_)
   refine⟨l.length-(i+1),by omega,i+1,by omega,rfl,⟨rfl,rfl,rfl,rfl,trivial⟩,?_⟩
   rw[xE,J,xF]
   rw[show List.foldl PS.fO ((l.take i).foldl PS.fO p) (some x).toList=PS.fO ((l.take i).foldl PS.fO p) x from rfl,PS.zz (by simpa using z)];exact fC rfl
  refine aU (bG ?_)
  refine al (cX rfl rfl (by omega) ?_)
  refine ae 1 aa (af ?_)
  refine⟨l.length-(i+1),by omega,i+1,by omega,rfl,⟨rfl,rfl,rfl,rfl,trivial⟩,?_⟩
  rw[xE,J,xF]
  rw[show List.foldl PS.fO ((l.take i).foldl PS.fO p) (some x).toList=PS.fO ((l.take i).foldl PS.fO p) x from rfl,PS.Co (by simpa using z)];exact fC rfl
 have K:l.length≤i:=by simpa using I
 refine dM (⟨_,PS.bz ((l.take i).foldl PS.fO p),aa,fC aa,aa,?_⟩)
 rw[qu K];rfl
set_option maxHeartbeats 1000000 in theorem take0Z{T:bf}(F:FT T){p:PS}(hp:St p){k e:Int}(mD:k≠6){g:Nat}(hC:p.err=0→p.tok.kind=k→bX T g ([dS p.tok.text]++[]) [] fun r Bn=>r=dI e∧Bn=[]):bX T 180 [.vp 1000 0,dI k,.fn g []] (PS.bz p++[]) fun r Bn=>r=dS (p.take k e).1∧Bn=PS.bz (p.take k e).2++[]:=by
 refine cr F.uQ aa (eA (PS.bz p++[]) (gh aa trivial) (ak 1 aa (aM (ak 5 aa (aK aa (fun bJ=>?_) (fun bJ=>?_))))))
 ·have h0:¬p.err=0:=by simpa using bJ
  refine ak 1 aa (ax ?_)
  exact⟨_,PS.bz p++[],rfl,gh rfl trivial,by unfold PS.take;rw[aj h0];rfl,by simp[PS.take,PS.called,h0]⟩
 have h0:p.err=0:=by simpa using bJ
 refine aU (ai (ae 1 aa (dV (wv F hp.ok) aa aa aa aa (ae 2 aa (af ?_)))))
 refine aM (ai (ae 3 aa (al (iq aa aa ?_))))
 refine af (aK aa (fun ew=>?_) (fun ew=>?_))
 ·have hk:¬p.tok.kind=k:=by simpa using ew
  refine ai (ae 1 aa (dV (su F hp.ok 5) aa aa aa aa (af (ak 1 aa (ax ?_)))))
  exact⟨_,PS.bz (p.fail 5)++[],rfl,gh rfl trivial,by unfold PS.take;rw[aw h0,aj hk];rfl,by simp[PS.take,PS.called,h0,hk]⟩
 have hk:p.tok.kind=k:=by simpa using ew
 have dR:=PS.lv hp.ok mD hk
 have fu:=hp.ok.dY
 refine aU (aM (ai (ae 3 aa (al (qJ (bZ:=[dS p.tok.text]) (Bi:=[]) [] 2000 aa aa aa aa aa aa aa aa aa trivial (hC h0 hk) (fun r Bn fJ=>?_))))))
 obtain⟨rfl,rfl⟩:=fJ
 refine ez (PS.bz p++[(7,.one 69 32 (p.tok.enc.map .d))]) (gh aa ⟨aa,trivial⟩) (ae 1 aa (af ?_))
 refine ak 2 aa (aK aa (fun dq=>?_) (fun dq=>?_))
 ·have he:¬e=0:=by simpa using dq
  refine ai (ae 2 aa (dV (su F hp.ok e) aa aa aa aa (af (ak 1 aa (ax ?_)))))
  exact⟨_,PS.bz (p.fail e)++[],rfl,gh rfl trivial,by unfold PS.take;rw[aw h0,aw hk,aj he];rfl,by simp[PS.take,PS.called,h0,hk,he]⟩
 have he:e=0:=by simpa using dq
 refine aU (ai (ae 4 aa ?_))
 refine al (cX rfl rfl (by omega) ?_)
 refine ae 3 aa (af ?_)
 refine ak 3 aa (ax ?_)
 exact⟨_,PS.bz p.step++[],rfl,gh rfl trivial,by unfold PS.take;rw[aw h0,aw hk,aw he];rfl,by simp[PS.take,PS.called,h0,hk,he]⟩
set_option maxHeartbeats 1000000 in theorem Vl{T:bf}(F:FT T){p:PS}(hp:St p){k e:Int}(mD:k≠6){g:Nat}{e1 b1:Nat}{x x2:DC}(hC:p.err=0→p.tok.kind=k→bX T g ([dS p.tok.text]++[.vp 1001 0]) [(1001,.one e1 b1 [.d x])] fun r Bn=>r=dI e∧Bn=[(1001,.one e1 b1 [.d x2])]):bX T 180 [.vp 1000 0,dI k,.fn g [.vp 1001 0]] (PS.bz p++[(1001,.one e1 b1 [.d x])]) fun r Bn=>r=dS (p.take k e).1∧Bn=PS.bz (p.take k e).2++[(1001,.one e1 b1 [.d (if p.called k=true then x2 else x)])]:=by
 refine cr F.uQ aa (eA (PS.bz p++[(1001,.one e1 b1 [.d x])]) (gh aa ⟨aa,trivial⟩) (ak 1 aa (aM (ak 5 aa (aK aa (fun bJ=>?_) (fun bJ=>?_))))))
 ·have h0:¬p.err=0:=by simpa using bJ
  refine ak 1 aa (ax ?_)
  exact⟨_,PS.bz p++[(1001,.one e1 b1 [.d x])],rfl,gh rfl ⟨rfl,trivial⟩,by unfold PS.take;rw[aj h0];rfl,by simp[PS.take,PS.called,h0]⟩
 have h0:p.err=0:=by simpa using bJ
 refine aU (ai (ae 1 aa (dV (wv F hp.ok) aa aa aa aa (ae 2 aa (af ?_)))))
 refine aM (ai (ae 3 aa (al (iq aa aa ?_))))
 refine af (aK aa (fun ew=>?_) (fun ew=>?_))
 ·have hk:¬p.tok.kind=k:=by simpa using ew
  refine ai (ae 1 aa (dV (su F hp.ok 5) aa aa aa aa (af (ak 1 aa (ax ?_)))))
  exact⟨_,PS.bz (p.fail 5)++[(1001,.one e1 b1 [.d x])],rfl,gh rfl ⟨rfl,trivial⟩,by unfold PS.take;rw[aw h0,aj hk];rfl,by simp[PS.take,PS.called,h0,hk]⟩
 have hk:p.tok.kind=k:=by simpa using ew
 have dR:=PS.lv hp.ok mD hk
 have fu:=hp.ok.dY
 refine aU (aM (ai (ae 3 aa (al (qJ (bZ:=[dS p.tok.text,.vp 1001 0]) (Bi:=[(1001,.one e1 b1 [.d x])]) [(1001,1001)] 2000 aa aa aa aa aa aa aa aa aa ⟨aa,aa,trivial⟩ (hC h0 hk) (fun r Bn fJ=>?_))))))
 obtain⟨rfl,rfl⟩:=fJ
 refine ez (PS.bz p++[(1001,.one e1 b1 [.d x2]),(7,.one 69 32 (p.tok.enc.map .d))]) (gh aa ⟨aa,aa,trivial⟩) (ae 1 aa (af ?_))
 refine ak 2 aa (aK aa (fun dq=>?_) (fun dq=>?_))
 ·have he:¬e=0:=by simpa using dq
  refine ai (ae 2 aa (dV (su F hp.ok e) aa aa aa aa (af (ak 1 aa (ax ?_)))))
  exact⟨_,PS.bz (p.fail e)++[(1001,.one e1 b1 [.d x2])],rfl,gh rfl ⟨rfl,trivial⟩,by unfold PS.take;rw[aw h0,aw hk,aj he];rfl,by simp[PS.take,PS.called,h0,hk,he]⟩
 have he:e=0:=by simpa using dq
 refine aU (ai (ae 4 aa ?_))
 refine al (cX rfl rfl (by omega) ?_)
 refine ae 3 aa (af ?_)
 refine ak 3 aa (ax ?_)
 exact⟨_,PS.bz p.step++[(1001,.one e1 b1 [.d x2])],rfl,gh rfl ⟨rfl,trivial⟩,by unfold PS.take;rw[aw h0,aw hk,aw he];rfl,by simp[PS.take,PS.called,h0,hk,he]⟩
set_option maxHeartbeats 1000000 in theorem Vm{T:bf}(F:FT T){p:PS}(hp:St p){k e:Int}(mD:k≠6){g:Nat}{e1 b1 e2 b2:Nat}{x y y2:DC}(hC:p.err=0→p.tok.kind=k→bX T g ([dS p.tok.text]++[.vp 1001 0,.vp 1002 0]) [(1001,.one e1 b1 [.d x]),(1002,.one e2 b2 [.d y])] fun r Bn=>r=dI e∧Bn=[(1001,.one e1 b1 [.d x]),(1002,.one e2 b2 [.d y2])]):bX T 180 [.vp 1000 0,dI k,.fn g [.vp 1001 0,.vp 1002 0]] (PS.bz p++[(1001,.one e1 b1 [.d x]),(1002,.one e2 b2 [.d y])]) fun r Bn=>r=dS (p.take k e).1∧Bn=PS.bz (p.take k e).2++[(1001,.one e1 b1 [.d x]),(1002,.one e2 b2 [.d (if p.called k=true then y2 else y)])]:=by
 refine cr F.uQ aa (eA (PS.bz p++[(1001,.one e1 b1 [.d x]),(1002,.one e2 b2 [.d y])]) (gh aa ⟨aa,aa,trivial⟩) (ak 1 aa (aM (ak 5 aa (aK aa (fun bJ=>?_) (fun bJ=>?_))))))
 ·have h0:¬p.err=0:=by simpa using bJ
  refine ak 1 aa (ax ?_)
  exact⟨_,PS.bz p++[(1001,.one e1 b1 [.d x]),(1002,.one e2 b2 [.d y])],rfl,gh rfl ⟨rfl,rfl,trivial⟩,by unfold PS.take;rw[aj h0];rfl,by simp[PS.take,PS.called,h0]⟩
 have h0:p.err=0:=by simpa using bJ
 refine aU (ai (ae 1 aa (dV (wv F hp.ok) aa aa aa aa (ae 2 aa (af ?_)))))
 refine aM (ai (ae 3 aa (al (iq aa aa ?_))))
 refine af (aK aa (fun ew=>?_) (fun ew=>?_))
 ·have hk:¬p.tok.kind=k:=by simpa using ew
  refine ai (ae 1 aa (dV (su F hp.ok 5) aa aa aa aa (af (ak 1 aa (ax ?_)))))
  exact⟨_,PS.bz (p.fail 5)++[(1001,.one e1 b1 [.d x]),(1002,.one e2 b2 [.d y])],rfl,gh rfl ⟨rfl,rfl,trivial⟩,by unfold PS.take;rw[aw h0,aj hk];rfl,by simp[PS.take,PS.called,h0,hk]⟩
 have hk:p.tok.kind=k:=by simpa using ew
 have dR:=PS.lv hp.ok mD hk
 have fu:=hp.ok.dY
 refine aU (aM (ai (ae 3 aa (al (qJ (bZ:=[dS p.tok.text,.vp 1001 0,.vp 1002 0]) (Bi:=[(1001,.one e1 b1 [.d x]),(1002,.one e2 b2 [.d y])]) [(1001,1001),(1002,1002)] 2000 aa aa aa aa aa aa aa aa aa ⟨aa,aa,aa,aa,trivial⟩ (hC h0 hk) (fun r Bn fJ=>?_))))))
 obtain⟨rfl,rfl⟩:=fJ
 refine ez (PS.bz p++[(1001,.one e1 b1 [.d x]),(1002,.one e2 b2 [.d y2]),(7,.one 69 32 (p.tok.enc.map .d))]) (gh aa ⟨aa,aa,aa,trivial⟩) (ae 1 aa (af ?_))
 refine ak 2 aa (aK aa (fun dq=>?_) (fun dq=>?_))
 ·have he:¬e=0:=by simpa using dq
  refine ai (ae 2 aa (dV (su F hp.ok e) aa aa aa aa (af (ak 1 aa (ax ?_)))))
  exact⟨_,PS.bz (p.fail e)++[(1001,.one e1 b1 [.d x]),(1002,.one e2 b2 [.d y2])],rfl,gh rfl ⟨rfl,rfl,trivial⟩,by unfold PS.take;rw[aw h0,aw hk,aj he];rfl,by simp[PS.take,PS.called,h0,hk,he]⟩
 have he:e=0:=by simpa using dq
 refine aU (ai (ae 4 aa ?_))
 refine al (cX rfl rfl (by omega) ?_)
 refine ae 3 aa (af ?_)
 refine ak 3 aa (ax ?_)
 exact⟨_,PS.bz p.step++[(1001,.one e1 b1 [.d x]),(1002,.one e2 b2 [.d y2])],rfl,gh rfl ⟨rfl,rfl,trivial⟩,by unfold PS.take;rw[aw h0,aw hk,aw he];rfl,by simp[PS.take,PS.called,h0,hk,he]⟩
theorem Ug{T:bf}(F:FT T){D:Rd}(z:gX T D){p:PS}(hp:St p)(least:Int):bX T 129 [.vp 1000 0,dI least] (PS.bz p) fun r Bn=>r=dI (p.number least).1∧Bn=PS.bz (p.number least).2:=by
 refine cr F.O1 aa (ak 2 aa (ak 2 aa (ai (ae 2 aa ?_))))
 refine al (jI (bZ:=[.vp 1000 0,dI 3,.fn 181 [.vp 1001 0,.vp 1002 0]]) (Bi:=PS.bz p++[(1001,.one 3 8 [dI least]),(1002,.one 3 8 [d0])]) [(1000,1000),(1001,3),(1002,5)] 2000 rfl rfl rfl rfl rfl rfl rfl (Eb rfl rfl ⟨rfl,rfl,rfl,rfl,trivial⟩) (Vm F hp (by decide) (fun _ hk=>L1 F z (hp.nh.1 _ hp.ok.mem hk) least)) (fun r Bn fJ=>?_))
 obtain⟨rfl,rfl⟩:=fJ
 refine ez (PS.bz (p.take 3 (mn least p.tok.text)).2++[(5,.one 3 8 [.d (if p.called 3=true then .i .i64 (if mn least p.tok.text=0 then(dW p.tok.text:Nat) else 0) else .i .i64 0)])]) (gh aa ⟨aa,trivial⟩) (af (ak 2 aa (ax (⟨_,PS.bz (p.number least).2,aa,fC aa,?_,aa⟩))))
 unfold PS.number
 by_cases A:p.called 3=true<;>by_cases h2:mn least p.tok.text=0<;>simp[gr,A,h2]
theorem yv{T:bf}(F:FT T){D:Rd}(z:gX T D){p:PS}(hp:St p):bX T 178 [.vp 1000 0] (PS.bz p) fun r Bn=>r=dI (p.day D).1∧Bn=PS.bz (p.day D).2:=by
 refine cr F.O5 aa (ak 1 aa (ak 2 aa (ai (ae 2 aa ?_))))
 refine al (jI (bZ:=[.vp 1000 0,dI 4,.fn 215 [.vp 1001 0]]) (Bi:=PS.bz p++[(1001,.one 3 8 [d0])]) [(1000,1000),(1001,3)] 2000 rfl rfl rfl rfl rfl rfl rfl (Eb rfl rfl ⟨rfl,rfl,trivial⟩) (Vl F hp (by decide) (fun _ _=>O7 F z (hp.nh.2 _ hp.ok.mem))) (fun r Bn fJ=>?_))
 obtain⟨rfl,rfl⟩:=fJ
 refine ez (PS.bz (p.take 4 (D.jO p.tok.text)).2++[(3,.one 3 8 [.d (if p.called 4=true then .i .i64 (D.day p.tok.text).1 else .i .i64 0)])]) (gh aa ⟨aa,trivial⟩) (af (ak 2 aa (ax (⟨_,PS.bz (p.day D).2,aa,fC aa,?_,aa⟩))))
 unfold PS.day
 by_cases A:p.called 4=true<;>simp[gr,A]<;>rfl
open Go
set_option maxRecDepth 10000
theorem CL{T:bf}(F:FT T){D:Rd}(I:gX T D){p:PS}(hp:bd p):bX T 174 [.vp 1000 0] (PS.bi p) fun r Bn=>r=dI (p.dX D).1∧Bn=PS.bi (p.dX D).2:=by
 refine cr F.ZP aa (ak 1 aa (aM (ai (ae 1 aa (bj (keyword F hp.ok jP) aa aa aa aa aa (ae 1 aa (af ?_)))))))
 refine aK aa (fun A=>?_) (fun A=>?_)
 ·have z:(p.keyword jP).1=false:=by simpa using A
  have G:p.dX D=(-1,p):=by unfold PS.dX;rw[aj (by rw[z];decide)]
  rw[PS.cL z]
  refine ak 1 aa (ax ?_)
  rw[G]
  exact⟨_,PS.bi _,aa,cI aa aa,aa,aa⟩
 have z:(p.keyword jP).1=true:=by simpa using A
 have G:p.dX D=(p.keyword jP).2.expr D:=by unfold PS.dX;rw[aw z]
 refine aU (ai (ae 1 aa (bj (uF F I (hp.kw jP).top) aa aa aa aa aa (ae 1 aa (af ?_)))))
 refine ax ?_
 rw[G]
 exact⟨_,PS.bi _,aa,cI aa aa,aa,aa⟩
theorem gq{T:bf}(F:FT T){D:Rd}(z:gX T D){p:PS}(hp:bd p):bX T 175 [.vp 1000 0] (PS.bi p) fun r Bn=>r=et (eM (p.set D).1)∧Bn=PS.bi (p.set D).2:=by
 refine cr F.ZQ aa (ak 1 aa (ai (ae 1 aa (bj (name F hp.st) aa aa aa aa aa (ae 3 aa (af ?_))))))
 refine ai (ae 1 aa (bj (bx F hp.name.ok mS) aa aa aa aa aa (af (ai (ae 1 aa (bj (uF F z (hp.name.top.gK mS).top) aa aa aa aa aa (ae 2 aa (af ?_))))))))
 exact ak 2 aa (ax (⟨_,PS.bi (p.set D).2,aa,cI aa aa,aa,aa⟩))
theorem GF{T:bf}(F:FT T){p:PS}(hp:bd p):bX T 176 [.vp 1000 0] (PS.bi p) fun r Bn=>r=et (cS p.column.1)∧Bn=PS.bi p.column.2:=by
 refine cr F.ZR aa (ak 1 aa (ai (ae 1 aa (bj (name F hp.st) aa aa aa aa aa (ae 3 aa (af ?_))))))
 refine aM (bN (ai (ae 1 aa (bj (keyword F hp.name.ok yu) aa aa aa aa aa (ae 1 aa (af ?_))))))
 refine aK aa (fun G=>?_) (fun G=>?_)
 ·have A:p.column=((p.name.1,1),(p.name.2.keyword yu).2):=by unfold PS.column PS.nF;rw[aw G]
  refine bG (ae 2 aa (af ?_))
  refine ak 2 aa (ax ?_)
  rw[A]
  exact⟨_,PS.bi _,aa,cI aa aa,aa,aa⟩
 rw[PS.cL G]
 refine ai (ae 1 aa (bj (keyword F hp.name.ok x6) aa aa aa aa aa (ae 1 aa (af ?_))))
 refine aK aa (fun bJ=>?_) (fun bJ=>?_)
 ·have A:p.column=((p.name.1,2),(p.name.2.keyword x6).2):=by unfold PS.column PS.nF;rw[aj (by rw[G];decide),aw bJ]
  refine bG (ae 2 aa (af ?_))
  refine ak 2 aa (ax ?_)
  rw[A]
  exact⟨_,PS.bi _,aa,cI aa aa,aa,aa⟩
 rw[PS.cL bJ]
 refine ai (ae 1 aa (bj (keyword F hp.name.ok x7) aa aa aa aa aa (ae 1 aa (af ?_))))
 refine aK aa (fun z=>?_) (fun z=>?_)
 ·have A:p.column=((p.name.1,3),(p.name.2.keyword x7).2):=by unfold PS.column PS.nF;rw[aj (by rw[G];decide),aj (by rw[bJ];decide),aw z]
  refine bG (ae 2 aa (af ?_))
  refine ak 2 aa (ax ?_)
  rw[A]
  exact⟨_,PS.bi _,aa,cI aa aa,aa,aa⟩
 have A:p.column=((p.name.1,0),p.name.2.fail 5):=by unfold PS.column PS.nF;rw[aj (by rw[G];decide),aj (by rw[bJ];decide),aj (by rw[z];decide)]
 rw[PS.cL z]
 refine bG (ae 1 aa (bj (fail F hp.name.ok 5) aa aa aa aa aa (af (ak 2 aa (ax ?_)))))
 rw[A]
 exact⟨_,PS.bi _,aa,cI aa aa,aa,aa⟩
set_option maxHeartbeats 1000000 in
theorem si{T:bf}(F:FT T){p:PS}(hp:bd p):bX T 177 [.vp 1000 0] (PS.bi p) fun r Bn=>r= .d (fR p.names.1)∧Bn=PS.bi p.names.2:=by
 refine cr F.ZS aa ?_
 have U:=hp.gK cm
 have G:∀x:PS,bd x→bQ x (PS.name x).2:=fun _ h=>h.name
 refine ak 1 aa (ai (ae 1 aa (bj (bx F hp.ok cm) aa aa aa aa aa (af (ai (ae 1 aa (bj (name F U.st) aa aa aa aa aa (ae 2 aa (af ?_)))))))))
 refine aM (bN (d6 (fun k VE B=>∃(l:List _)(q:PS),kv PS.name k l q=(jc PS.name (p.bx cm))∧l≠[]∧l.length≤q.aJ+1∧(p.bx cm).aA.length≤k+q.aJ∧bQ (p.bx cm) q∧bw [(0,.vp 1000 0),(3,.bs 8 (l.map (fun s=>[cJ s])).length 1)] VE∧bw (PS.bi q++[(8,.arr 9 16 1 (l.map (fun s=>[cJ s])).length (l.map (fun s=>[cJ s])))]) B) ?_ (k:=(p.bx cm).aA.length) ⟨[(PS.name (p.bx cm)).1],(PS.name (p.bx cm)).2,aa,pO _ _,mG (df _),jQ _ _,G _ U.top,⟨aa,aa,trivial⟩,dj aa aa ⟨aa,trivial⟩⟩))
 rintro k VE B⟨l,q,z,K,Z,hk,I,hV,O⟩
 refine eA (PS.bi q++[(8,.arr 9 16 1 (l.map (fun s=>[cJ s])).length (l.map (fun s=>[cJ s])))]) O ?_
 have O:bw (PS.bi q++[(8,.arr 9 16 1 (l.map (fun s=>[cJ s])).length (l.map (fun s=>[cJ s])))]) (PS.bi q++[(8,.arr 9 16 1 (l.map (fun s=>[cJ s])).length (l.map (fun s=>[cJ s])))]):=dj rfl rfl ⟨rfl,trivial⟩
 have gi:q.aA.length=(p.bx cm).aA.length:=by rw[I.aA]
 refine dx _ _ hV O (aM (ai (ae 1 aa (bj (sign F I.ok cF) aa aa aa aa aa (af (aK aa (fun A=>?_) (fun A=>?_)))))))
 ·have h2:=I.top.sign cF
  have J:=ov I.ok A
  have fu:=I.ok.dY
  obtain⟨k,rfl⟩:∃k',k=k'+1:=⟨k-1,by have:=J.2;omega⟩
  rw[ow A] at z
  have Y:=h2.trans (G _ h2.top)
  refine aU (bN (bG (ae 2 aa (bj (name F h2.top.st) aa aa aa aa aa (ae 1 aa ?_)))))
  refine al (r5 (rows:=l.map (fun s=>[cJ s])) (ys:=[[cJ (PS.name (q.sign cF).2).1]]) rfl rfl rfl (.bs (rows:=[[cJ (PS.name (q.sign cF).2).1]]) rfl) (bW rfl) (by simp only[bK,cC,dk,dO];omega) ?_)
  refine ae 1 aa (af ?_)
  refine⟨k,fZ k,l++[(PS.name (q.sign cF).2).1],(PS.name (q.sign cF).2).2,z,mo K _,?_,?_,I.trans Y,?_,?_⟩
  ·have:=Y.aJ;have:=J.1;have:=(G _ h2.top).aJ;rw[bK,eK];show l.length+1≤(PS.name (q.sign cF).2).2.aJ+1;omega
  ·have:=(G _ h2.top).aJ;have:=J.1;show(p.bx cm).aA.length≤k+(PS.name (q.sign cF).2).2.aJ;omega
  ·try simp only[dT,eB,fy]
   exact⟨aa,aa,trivial⟩
  try simp only[dT,eB,fy]
  exact dj aa aa ⟨aa,trivial⟩
 rw[ox A] at z
 rw[PS.ig A]
 refine dM (ai (ae 1 aa (bj (bx F I.ok dL) aa aa aa aa aa (af (ai (ae 1 aa (gn 18 8 aa aa (fun _=>⟨aa,aa⟩) (ae 1 aa (af ?_)))))))))
 refine ax ?_
 have hm:p.names=(l,q.bx dL):=by unfold PS.names;rw[←z]
 rw[hm]
 unfold fR
 rw[DC.qO (by simpa using K)]
 exact⟨_,PS.bi _,aa,cI aa aa,aa,aa⟩
open Go
variable{p:PS}{D:Rd}
theorem bd.dX(h:bd p)(D:Rd):bQ p (p.dX D).2:=by
 unfold PS.dX
 split
 ·exact(h.kw _).trans ((h.kw _).top.expr D)
 exact .refl h
theorem bd.set(h:bd p)(D:Rd):bQ p (p.set D).2:=by
 have z:=h.name
 have h2:=z.trans (z.top.gK mS)
 exact h2.trans (h2.top.expr D)
theorem bd.nF(h:bd p):bQ p p.nF.2:=by
 unfold PS.nF
 split
 ·exact h.kw _
 split
 ·exact h.kw _
 split
 ·exact h.kw _
 exact h.fail (by decide)
theorem bd.column(h:bd p):bQ p p.column.2:=h.name.trans h.name.top.nF
theorem bd.names(h:bd p):bQ p p.names.2:=by
 have z:=h.gK cm
 have h2:=z.trans (w3 (fun _ h=>h.name) z.top)
 exact h2.trans (h2.top.gK dL)
theorem bd.hJ(h:bd p):bQ p p.hJ.2:=by
 unfold PS.hJ
 split
 ·have z:=h.kw fc
  have h2:=z.trans (z.top.dF [j6])
  exact h2.trans (h2.top.number _)
 exact .refl h
theorem bd.alias(h:bd p)(a:Bool):bQ p (p.alias a).2:=by
 unfold PS.alias
 split
 ·exact .refl h
 rename_i z
 split
 ·exact .refl h
 have A:=h.step (by unfold PS.next at z;simp only[Bool.not_eq_false,eZ,eV] at z;exact z.1) (PS.kV h.ok (kind:=1) (by decide) (by simpa using z))
 exact A.trans A.top.name
theorem bd.agg(h:bd p):bQ p p.agg.2:=by
 unfold PS.agg
 split
 ·exact h.kw _
 split
 ·exact h.kw _
 split
 ·exact h.kw _
 exact .refl h
theorem bd.fN(h:bd p)(D:Rd):bQ p (p.fN D).2:=by
 have z:=h.gK cm
 have h2:=z.trans (z.top.expr D)
 exact h2.trans (h2.top.gK dL)
theorem bd.iF(h:bd p)(D:Rd):bQ p (p.iF D).2:=by
 unfold PS.iF
 split
 ·have z:=h.kw jv
  have h2:=z.trans (z.top.gK cm)
  have A:=h2.trans (h2.top.gK eS)
  exact A.trans (A.top.gK dL)
 split
 ·exact h.expr D
 exact h.agg.trans (h.agg.top.fN D)
theorem bd.item(h:bd p)(D:Rd):bQ p (p.item D).2:=(h.iF D).trans ((h.iF D).top.alias false)
theorem bd.source(h:bd p)(a:Bool):bQ p (p.source a).2:=h.name.trans (h.name.top.alias a)
theorem bd.join(h:bd p){l:Bool}{q:PS}(z:p.join=some (l,q)):bQ p q∧p.aJ+1≤q.aJ∧p.aJ+1<p.aA.length:=by
 unfold PS.join at z
 split at z
 ·rename_i hk
  cases z
  have A:=h.kw nL
  have h2:=A.top.dF [ka]
  have G:=nc h.ok hk
  exact⟨A.trans h2,by have:=h2.aJ;omega,G.2⟩
 split at z
 ·rename_i hk
  cases z
  exact⟨h.kw _,(nc h.ok hk).1,(nc h.ok hk).2⟩
 cases z
theorem bd.gx(h:bd p)(D:Rd)(l:Bool):bQ p (p.gx D l).2:=by
 have z:=h.source false
 have h2:=z.trans (z.top.dF [pd])
 exact h2.trans (h2.top.expr D)
theorem BE(h:p.join=none)(l:List Src):∀k,oR D k l p=(l,p)
 |0=>rfl
 |k+1=>by unfold oR;rw[h]
theorem yZ{b:Bool}{q:PS}(h:p.join=some (b,q))(k:Nat)(l:List Src):oR D (k+1) l p=oR D k (l++[(q.gx D b).1]) (q.gx D b).2:=by
 show(match p.join with|none=>(l,p)|some (left,q)=>oR D k (l++[(q.gx D left).1]) (q.gx D left).2)=_
 rw[h]
theorem KC:∀(k:Nat)(l:List Src){p:PS},bd p→bQ p (oR D k l p).2
 |0,l,p,h=>.refl h
 |k+1,l,p,h=>by
  cases z:p.join with
  |none=>rw[BE z];exact .refl h
  |some x=>
   obtain⟨b,q⟩:=x
   rw[yZ z]
   have A:=(h.join z).1
   have h2:=A.trans (A.top.gx D b)
   exact h2.trans (KC k _ h2.top)
theorem bd.jS(h:bd p)(D:Rd)(a:Bool):bQ p (p.jS D a).2:=(h.source a).trans (KC _ _ (h.source a).top)
theorem bd.kb(h:bd p):bQ p p.kb:=by
 unfold PS.kb
 split
 ·exact h.fail (by decide)
 exact .refl h
theorem bd.dy(h:bd p):bQ p p.dy.2:=by
 unfold PS.dy
 split
 ·exact h.kb
 rename_i h0
 exact h.kb.trans ((bD.f5 h.kb.st (by simpa using h0)).go h.kb.top)
theorem bd.nil(h:bd p):bQ p {p with ex:=[]}:=⟨⟨h.st.of ⟨h.ok.lt,h.ok.dY,h.ok.last,h.ok.kD,df _⟩ rfl,h.d0⟩,rfl,bY _,id,id⟩
theorem bd.iM(h:bd p):bQ p p.iM:=h.nil.trans (h.nil.top.dF [zB])
theorem bd.fq(h:bd p):bQ p p.fq:=h.iM.trans (h.iM.top.kw ja)
theorem bd.items(h:bd p)(D:Rd):bQ p (p.items D).2:=by
 unfold PS.items
 split
 ·exact h.sign _
 exact w3 (fun _ h=>h.item D) h
theorem bd.group(h:bd p):bQ p p.group.2:=by
 unfold PS.group
 split
 ·have z:=h.kw gp
  have h2:=z.trans (z.top.dF [gC])
  exact h2.trans (w3 (fun _ h=>h.dy) h2.top)
 exact .refl h
theorem bd.fv(h:bd p)(D:Rd):bQ p (p.fv D):=by
 have z:=h.fq
 have h2:=z.trans (z.top.items D)
 exact h2.trans (h2.top.dF [hY])
theorem bd.iV(h:bd p)(D:Rd)(a:Bool):bQ p (p.iV D a):=(h.fv D).trans ((h.fv D).top.jS D a)
theorem bd.dD(h:bd p)(D:Rd)(a:Bool):bQ p (p.dD D a):=(h.iV D a).trans ((h.iV D a).top.dX D)
theorem bd.core(h:bd p)(D:Rd)(a:Bool):bQ p (p.core D a).2:=(h.dD D a).trans (h.dD D a).top.group
theorem bd.op(h:bd p){o:Int}{q:PS}(z:p.op=some (o,q)):bQ p q∧p.aJ+1≤q.aJ∧p.aJ+1<p.aA.length:=by
 unfold PS.op at z
 split at z
 ·rename_i hk;cases z;exact⟨h.kw _,(nc h.ok hk).1,(nc h.ok hk).2⟩
 split at z
 ·rename_i hk;cases z;exact⟨h.kw _,(nc h.ok hk).1,(nc h.ok hk).2⟩
 split at z
 ·rename_i hk;cases z;exact⟨h.kw _,(nc h.ok hk).1,(nc h.ok hk).2⟩
 cases z
theorem BV{a:Bool}(h:p.op=none)(s:jr):∀k,p0 D a k s p=(s,p)
 |0=>rfl
 |k+1=>by unfold p0;rw[h]
theorem vm{a:Bool}{o:Int}{q:PS}(h:p.op=some (o,q))(k:Nat)(s:jr):p0 D a (k+1) s p=p0 D a k ⟨s.fP++[((q.aW [gE]).core D a).1],s.ops++[o]⟩ ((q.aW [gE]).core D a).2:=by
 show(match p.op with|none=>(s,p)|some (o,q)=>p0 D a k ⟨s.fP++[((q.aW [gE]).core D a).1],s.ops++[o]⟩ ((q.aW [gE]).core D a).2)=_
 rw[h]
theorem L2{a:Bool}:∀(k:Nat)(s:jr){p:PS},bd p→bQ p (p0 D a k s p).2
 |0,s,p,h=>.refl h
 |k+1,s,p,h=>by
  cases z:p.op with
  |none=>rw[BV z];exact .refl h
  |some x=>
   obtain⟨o,q⟩:=x
   rw[vm z]
   have A:=(h.op z).1
   have h2:=A.trans (A.top.dF [gE])
   have G:=h2.trans (h2.top.core D a)
   exact G.trans (L2 k _ G.top)
theorem bd.cT(h:bd p)(D:Rd)(a:Bool):bQ p (p.cT D a).2:=(h.core D a).trans (L2 _ _ (h.core D a).top)
theorem bd.kP(h:bd p):bQ p p.kP:=(h.dF [lE]).trans (h.dF [lE]).top.name
theorem bd.sv(h:bd p):bQ p ((p.kP.aW [lr]).bx cm):=by
 have z:=h.kP
 have h2:=z.trans (z.top.dF [lr])
 exact h2.trans (h2.top.gK cm)
theorem bd.sM(h:bd p)(D:Rd):bQ p (p.sM D).2:=h.sv.trans (w3 (fun _ h=>h.literal D) h.sv.top)
theorem bd.p5(h:bd p)(D:Rd):bQ p (p.p5 D):=by
 have z:=h.sM D
 have h2:=z.trans (z.top.gK dL)
 exact h2.trans (h2.top.dF [kO])
theorem bd.insert(h:bd p)(D:Rd):bQ p (p.insert D).2:=(h.p5 D).trans ((h.p5 D).top.period D)
theorem bd.wt(h:bd p):bQ p p.wt:=by
 have z:=h.dF [hY]
 have h2:=z.trans z.top.name
 exact h2.trans (h2.top.dF [kO,oq,j6])
theorem bd.nq(h:bd p)(D:Rd):bQ p (p.nq D):=h.wt.trans (h.wt.top.period D)
theorem bd.remove(h:bd p)(D:Rd):bQ p (p.remove D).2:=(h.nq D).trans ((h.nq D).top.dX D)
theorem bd.gA(h:bd p):bQ p p.gA:=h.name.trans (h.name.top.dF [kO,oq,j6])
theorem bd.x8(h:bd p)(D:Rd):bQ p ((p.gA.period D).2.aW [kz]):=by
 have z:=h.gA
 have h2:=z.trans (z.top.period D)
 exact h2.trans (h2.top.dF [kz])
theorem bd.o7(h:bd p)(D:Rd):bQ p (p.o7 D).2:=(h.x8 D).trans (w3 (fun _ h=>h.set D) (h.x8 D).top)
theorem bd.update(h:bd p)(D:Rd):bQ p (p.update D).2:=(h.o7 D).trans ((h.o7 D).top.dX D)
theorem bd.tc(h:bd p):bQ p p.tc:=h.names.trans (h.names.top.dF [yR])
theorem bd.fk(h:bd p):bQ p p.fk.2:=by
 have z:=h.tc
 have h2:=z.trans z.top.name
 exact h2.trans h2.top.names
theorem GY(h:(p.keyword lS).1=true)(k:Nat)(l:List Fk):o8 (k+1) l p=o8 k (l++[(p.keyword lS).2.fk.1]) (p.keyword lS).2.fk.2:=aw h
theorem GZ(h:(p.keyword lS).1=false)(l:List Fk):∀k,o8 k l p=(l,p)
 |0=>rfl
 |k+1=>aj (by rw[h];decide)
theorem L3:∀(k:Nat)(l:List Fk){p:PS},bd p→bQ p (o8 k l p).2
 |0,l,p,h=>.refl h
 |k+1,l,p,h=>by
  unfold o8
  split
  ·have z:=h.kw lS
   have h2:=z.trans z.top.fk
   exact h2.trans (L3 k _ h2.top)
  exact .refl h
theorem bd.gN(h:bd p){o:Int}{q:PS}(z:p.gN=some (o,q)):bQ p q∧p.aJ+1≤q.aJ∧p.aJ+1<p.aA.length:=by
 unfold PS.gN at z
 split at z
 ·rename_i hk;cases z;exact⟨h.kw _,(nc h.ok hk).1,(nc h.ok hk).2⟩
 split at z
 ·rename_i hk;cases z;exact⟨h.kw _,(nc h.ok hk).1,(nc h.ok hk).2⟩
 cases z
theorem y5(h:p.gN=none)(l:List (Int×List (List UInt8))):∀k,nM k l p=(l,p)
 |0=>rfl
 |k+1=>by unfold nM;rw[h]
theorem vh{o:Int}{q:PS}(h:p.gN=some (o,q))(k:Nat)(l:List (Int×List (List UInt8))):nM (k+1) l p=nM k (l++[(o,q.names.1)]) q.names.2:=by
 show(match p.gN with|none=>(l,p)|some (c,q)=>nM k (l++[(c,q.names.1)]) q.names.2)=_
 rw[h]
theorem Ln:∀(k:Nat)(l:List (Int×List (List UInt8))){p:PS},bd p→bQ p (nM k l p).2
 |0,l,p,h=>.refl h
 |k+1,l,p,h=>by
  cases z:p.gN with
  |none=>rw[y5 z];exact .refl h
  |some x=>
   obtain⟨o,q⟩:=x
   rw[vh z]
   have A:=(h.gN z).1
   have h2:=A.trans A.top.names
   exact h2.trans (Ln k _ h2.top)
theorem bd.Ar(h:bd p):bQ p ((p.aW [db]).name.2.bx cm):=by
 have z:=h.dF [db]
 have h2:=z.trans z.top.name
 exact h2.trans (h2.top.gK cm)
theorem bd.sN(h:bd p):bQ p p.sN.2:=h.Ar.trans (w3 (fun _ h=>h.column) h.Ar.top)
theorem bd.ik(h:bd p):bQ p p.ik:=h.sN.trans (h.sN.top.gK dL)
theorem bd.key(h:bd p):bQ p p.key.2:=by
 unfold PS.key
 split
 ·exact(h.kw _).trans (h.kw _).top.names
 exact .refl h
theorem bd.x9(h:bd p):bQ p p.ik.key.2:=h.ik.trans h.ik.top.key
theorem bd.o9(h:bd p):bQ p p.o9.2:=h.x9.trans (L3 _ _ h.x9.top)
theorem bd.create(h:bd p):bQ p p.create.2:=h.o9.trans (Ln _ _ h.o9.top)
theorem bd.gm(h:bd p):bQ p p.gm:=(h.dF [db]).trans (h.dF [db]).top.name
theorem bd.alter(h:bd p):bQ p p.alter.2:=by
 unfold PS.alter
 split
 ·exact h.gm.trans ((h.gm.top.kw _).trans (h.gm.top.kw _).top.column)
 split
 ·exact h.gm.trans ((h.gm.top.kw _).trans (h.gm.top.kw _).top.name)
 exact h.gm.trans (h.gm.top.fail (by decide))
theorem bd.ri(h:bd p)(D:Rd):bQ p (p.ri D):=(h.cT D false).trans ((h.cT D false).top.dF _)
theorem bd.qB(h:bd p)(D:Rd):bQ p (p.qB D).2:=by
 have z:=(h.ri D).trans ((h.ri D).top.day D)
 exact z.trans z.top.hJ
theorem bd.lW(h:bd p):bQ p p.lW:=(h.number _).trans ((h.number _).top.dF _)
theorem bd.mq(h:bd p):bQ p p.mq:=h.lW.trans ((h.lW.top.number _).trans ((h.lW.top.number _).top.dF _))
theorem bd.hold(h:bd p):bQ p p.hold.2:=by
 refine h.mq.trans ?_
 show bQ p.mq p.pS.2
 unfold PS.pS
 split
 ·exact h.mq.top.kw _
 exact h.mq.top.number _
theorem bd.mode(h:bd p):bQ p p.mode.2:=by
 unfold PS.mode
 split
 ·exact h.kw _
 split
 ·exact h.kw _
 split
 ·exact h.kw _
 split
 ·exact h.kw _
 exact .refl h
theorem bd.gy(h:bd p)(D:Rd):bQ p (p.gy D).2:=by
 unfold PS.gy
 split
 ·have z:=h.kw jG
  have h2:=z.trans (z.top.dF [jX])
  exact h2.trans (h2.top.day D)
 exact .refl h
theorem bd.O8(h:bd p)(D:Rd):bQ p (p.mode.2.cT D true).2:=h.mode.trans (h.mode.top.cT D true)
theorem bd.query(h:bd p)(D:Rd):bQ p (p.query D).2:=by
 have z:=(h.O8 D).trans ((h.O8 D).top.gy D)
 exact z.trans z.top.hJ
theorem bd.cV(h:bd p)(D:Rd):bQ p (p.cV D).2:=by
 unfold PS.cV
 repeat' split
 ·exact(h.kw _).trans ((h.kw _).top.insert D)
 ·exact(h.kw _).trans ((h.kw _).top.remove D)
 ·exact(h.kw _).trans ((h.kw _).top.update D)
 ·exact(h.kw _).trans ((h.kw _).top.create)
 ·exact(h.kw _).trans ((h.kw _).top.alter)
 ·exact(h.kw _).trans ((h.kw _).top.qB D)
 ·exact h.kw _
 ·exact(h.kw _).trans ((h.kw _).top.hold)
 ·exact(h.kw _).trans ((h.kw _).top.number _)
 ·exact(h.kw _).trans (((h.kw _).top.dF _).trans (((h.kw _).top.dF _).top.number _))
 exact h.query D
end Go.Ev.Pp
