/- Part 15 of rules for walks through the code of a program, and of such walks; what each part proves is said by its theorems. -/
import Derived.Test.YtddbkonalipepaaGreatDoorS13
import Derived.Test.YtddbkonalipepaaGreatDoorS14
set_option linter.unusedVariables false
set_option linter.unusedSimpArgs false
namespace Go.Ev.Pp
open Go
def cE:List UInt8:=[44]
def jO:List UInt8:=[87,72,69,82,69]
def zA:List UInt8:=[83,69,76,69,67,84]
def jc:List UInt8:=[68,73,83,84,73,78,67,84]
def hZ:List UInt8:=[70,82,79,77]
def gq:List UInt8:=[71,82,79,85,80]
def gI:List UInt8:=[66,89]
def tG:List UInt8:=[85,78,73,79,78]
def tt:List UInt8:=[69,88,67,69,80,84]
def s9:List UInt8:=[73,78,84,69,82,83,69,67,84]
def gK:List UInt8:=[65,76,76]
def nK:List UInt8:=[76,69,70,84]
def j9:List UInt8:=[74,79,73,78]
def o9:List UInt8:=[79,78]
def e6:List UInt8:=[65,83]
def jZ:List UInt8:=[79,70]
def jw:List UInt8:=[67,79,85,78,84]
def nk:List UInt8:=[83,85,77]
def nm:List UInt8:=[77,73,78]
def nq:List UInt8:=[77,65,88]
def yq:List UInt8:=[73,78,84]
def xY:List UInt8:=[84,69,88,84]
def xZ:List UInt8:=[66,79,79,76]
def lD:List UInt8:=[73,78,84,79]
def lp:List UInt8:=[86,65,76,85,69,83]
def kO:List UInt8:=[70,79,82]
def om:List UInt8:=[80,79,82,84,73,79,78]
def kz:List UInt8:=[83,69,84]
def c6:List UInt8:=[84,65,66,76,69]
def rl:List UInt8:=[75,69,89]
def lP:List UInt8:=[82,69,70,69,82,69,78,67,69,83]
def yQ:List UInt8:=[73,78]
def pI:List UInt8:=[78,79,71,65,80]
def ph:List UInt8:=[78,79,79,86,69,82,76,65,80]
def nT:List UInt8:=[65,68,68]
def pO:List UInt8:=[68,82,79,80]
def jG:List UInt8:=[65,84]
def jV:List UInt8:=[68,65,89]
def oe:List UInt8:=[86,65,76,73,68,84,73,77,69]
def od:List UInt8:=[82,69,67,79,82,68,84,73,77,69]
def og:List UInt8:=[66,79,84,72,84,73,77,69]
def oc:List UInt8:=[78,79,78,83,69,81,85,69,78,67,69,68]
def rU:List UInt8:=[73,78,83,69,82,84]
def rV:List UInt8:=[68,69,76,69,84,69]
def rW:List UInt8:=[85,80,68,65,84,69]
def rX:List UInt8:=[67,82,69,65,84,69]
def r9:List UInt8:=[65,76,84,69,82]
def se:List UInt8:=[67,73,84,69]
def rY:List UInt8:=[82,69,67,65,76,76]
def sf:List UInt8:=[72,79,76,68]
def pv:List UInt8:=[82,69,76,69,65,83,69]
def pB:List UInt8:=[70,79,82,71,69,84]
def oA:List UInt8:=[66,69,76,79,87]
def xu:List UInt8:=[85,78,84,73,76]
def IB:List UInt8:=[84,79]
structure bd(p:PS):Prop where
 st:St p
 d0:p.depth=0
structure bO(p q:PS):Prop where
 top:bd q
 ay:q.ay=p.ay
 aI:p.aI≤q.aI
 er:q.err=0→p.err=0
 pk:p.pk→q.pk
theorem bd.ok{p:PS}(h:bd p):p.ok:=h.st.ok
theorem bO.st{p q:PS}(h:bO p q):St q:=h.top.st
theorem bO.ok{p q:PS}(h:bO p q):q.ok:=h.top.st.ok
theorem bO.refl{p:PS}(h:bd p):bO p p:=⟨h,rfl,bY _,id,id⟩
theorem bO.trans{p q r:PS}(h:bO p q)(g:bO q r):bO p r:=⟨g.top,g.ay.trans h.ay,kb h.aI g.aI,fun k=>h.er (g.er k),fun k=>g.pk (h.pk k)⟩
theorem bC.go{k:Nat}{p q:PS}(a:bC k p q)(h:bd p):bO p q:=⟨⟨a.st,by rw[a.depth];exact h.d0⟩,a.ay,a.aI,a.er,a.pk⟩
theorem bd.kw{p:PS}(h:bd p)(s:List UInt8):bO p (p.keyword s).2:=(bC.Ga h.st s).go h
theorem bd.sign{p:PS}(h:bd p)(s:List UInt8):bO p (p.sign s).2:=(bC.xW h.st s).go h
theorem bd.dD{p:PS}(h:bd p)(l:List (List UInt8)):bO p (p.aU l):=(bC.aU h.st).go h
theorem bd.gP{p:PS}(h:bd p)(s:List UInt8):bO p (p.bw s):=(bC.bw h.st s).go h
theorem bd.fail{p:PS}(h:bd p){e:Int}(he:e≠0):bO p (p.fail e):=(bC.fail h.st he).go h
theorem bd.take{p:PS}(h:bd p){k e:Int}(hk:k≠6):bO p (p.take k e).2:=(bC.take h.st hk).go h
theorem bd.name{p:PS}(h:bd p):bO p p.name.2:=h.take (by decide)
theorem bd.number{p:PS}(h:bd p)(n:Int):bO p (p.number n).2:=h.take (by decide)
theorem bd.day{p:PS}(h:bd p)(D:Rd):bO p (p.day D).2:=h.take (by decide)
theorem bd.period{p:PS}(h:bd p)(D:Rd):bO p (p.period D).2:=h.take (by decide)
theorem bd.literal{p:PS}(h:bd p)(D:Rd):bO p (p.literal D).2:=by
 by_cases h0:p.err=0
 ·exact(bC.Gb h.st D h0).go h
 have:p.literal D=(cj,p):=by unfold PS.literal;rw[aq h0]
 rw[this];exact .refl h
def PS.expr(p:PS)(D:Rd):Int×PS:=lB D 61 p
theorem bd.expr{p:PS}(h:bd p)(D:Rd):bO p (p.expr D).2:=((pA D 61).1 p h.st (by rw[h.d0])).go h
theorem bd.step{p:PS}(h:bd p)(h0:p.err=0)(z:p.aI+1<p.ay.length):bO p p.step:=(bC.step h.st h0 z).go h
theorem ot{p:PS}(hp:p.ok){s:List UInt8}(h:(p.sign s).1=true):p.aI+1≤(p.sign s).2.aI∧p.aI+1<p.ay.length:=by
 have z:=PS.pr h
 refine⟨by rw[show(p.sign s).2=p.step from z.1];exact bY _,PS.kR hp (by decide) z.2⟩
theorem nd{p:PS}(hp:p.ok){s:List UInt8}(h:(p.keyword s).1=true):p.aI+1≤(p.keyword s).2.aI∧p.aI+1<p.ay.length:=by
 have z:=PS.pr h
 refine⟨by rw[show(p.keyword s).2=p.step from z.1];exact bY _,PS.kR hp (by decide) z.2⟩
section
variable{α:Type}
def kv(f:PS→α×PS):Nat→List α→PS→List α×PS
 |0,l,p=>(l,p)
 |k+1,l,p=>if(p.sign cE).1=true then kv f k (l++[(f (p.sign cE).2).1]) (f (p.sign cE).2).2 else(l,p)
def je(f:PS→α×PS)(p:PS):List α×PS:=kv f p.ay.length [(f p).1] (f p).2
theorem ou{f:PS→α×PS}{p:PS}(h:(p.sign cE).1=true)(k:Nat)(l:List α):kv f (k+1) l p=kv f k (l++[(f (p.sign cE).2).1]) (f (p.sign cE).2).2:=aq h
theorem ov{f:PS→α×PS}{p:PS}(h:(p.sign cE).1=false)(l:List α):∀k,kv f k l p=(l,p)
 |0=>rfl
 |k+1=>aj (by rw[h];decide)
theorem Lc{f:PS→α×PS}(z:∀p,bd p→bO p (f p).2):∀(k:Nat)(l:List α){p:PS},bd p→bO p (kv f k l p).2
 |0,l,p,h=>.refl h
 |k+1,l,p,h=>by
  unfold kv
  split
  ·have A:=h.sign cE
   have h2:=A.trans (z _ A.top)
   exact h2.trans (Lc z k _ h2.top)
  exact .refl h
theorem wX{f:PS→α×PS}(z:∀p,bd p→bO p (f p).2){p:PS}(h:bd p):bO p (je f p).2:=(z p h).trans (Lc z _ _ (z p h).top)
end
def PS.dW(p:PS)(D:Rd):Int×PS:=if(p.keyword jO).1=true then(p.keyword jO).2.expr D else(-1,p)
def PS.set(p:PS)(D:Rd):(List UInt8×Int)×PS:=((p.name.1,((p.name.2.bw mT).expr D).1),((p.name.2.bw mT).expr D).2)
def PS.nF(q:PS):Int×PS:=
 if(q.keyword yq).1=true then(1,(q.keyword yq).2) else if(q.keyword xY).1=true then(2,(q.keyword xY).2) else if(q.keyword xZ).1=true then(3,(q.keyword xZ).2) else(0,q.fail 5)
def PS.column(p:PS):(List UInt8×Int)×PS:=((p.name.1,p.name.2.nF.1),p.name.2.nF.2)
def PS.names(p:PS):List (List UInt8)×PS:=((je PS.name (p.bw cg)).1,(je PS.name (p.bw cg)).2.bw dG)
def PS.hM(p:PS):Int×PS:=if(p.keyword e6).1=true then((p.keyword e6).2.aU [jZ]).number (-1) else(1099511627776,p)
def PS.after(p:PS):cL:=(p.ay[p.aI+1]?).getD NX
def PS.alias(p:PS)(hM:Bool):List UInt8×PS:=
 if p.next 1 e6=false then([],p) else if hM=true∧p.after.kind=1∧p.after.text=jZ then([],p) else p.step.name
structure Item where
 agg:Int
 expr:Int
 alias:List UInt8
def Item.enc(x:Item):List DC:=[.i .i64 x.agg,.i .i64 x.expr,cJ x.alias]
def PS.agg(p:PS):Int×PS:=
 if(p.keyword nk).1=true then(2,(p.keyword nk).2) else if(p.keyword nm).1=true then(3,(p.keyword nm).2) else if(p.keyword nq).1=true then(4,(p.keyword nq).2) else(0,p)
def PS.fJ(p:PS)(D:Rd):Int×PS:=(((p.bw cg).expr D).1,((p.bw cg).expr D).2.bw dG)
def PS.iE(p:PS)(D:Rd):(Int×Int)×PS:=
 if(p.keyword jw).1=true then((1, -1),(((p.keyword jw).2.bw cg).bw eM).bw dG)
 else if p.agg.1=0 then((0,(p.expr D).1),(p.expr D).2)
 else((p.agg.1,(p.agg.2.fJ D).1),(p.agg.2.fJ D).2)
def PS.item(p:PS)(D:Rd):Item×PS:=(⟨(p.iE D).1.1,(p.iE D).1.2,((p.iE D).2.alias false).1⟩,((p.iE D).2.alias false).2)
structure Src where
 left:Bool
 table:List UInt8
 alias:List UInt8
 on:Int
def Src.enc(x:Src):List DC:=[.b x.left,cJ x.table,cJ x.alias,.i .i64 x.on]
def PS.source(p:PS)(hM:Bool):Src×PS:=(⟨false,p.name.1,(p.name.2.alias hM).1, -1⟩,(p.name.2.alias hM).2)
def PS.join(p:PS):Option (Bool×PS):=if(p.keyword nK).1=true then some (true,(p.keyword nK).2.aU [j9]) else if(p.keyword j9).1=true then some (false,(p.keyword j9).2) else none
def PS.gC(q:PS)(D:Rd)(left:Bool):Src×PS:=(⟨left,(q.source false).1.table,(q.source false).1.alias,(((q.source false).2.aU [o9]).expr D).1⟩,(((q.source false).2.aU [o9]).expr D).2)
def oD(D:Rd):Nat→List Src→PS→List Src×PS
 |0,l,p=>(l,p)
 |k+1,l,p=>match p.join with
  |none=>(l,p)
  |some (left,q)=>oD D k (l++[(q.gC D left).1]) (q.gC D left).2
def PS.jR(p:PS)(D:Rd)(hM:Bool):List Src×PS:=oD D p.ay.length [(p.source hM).1] (p.source hM).2
def PS.j'(p:PS):PS:=if p.err=0∧p.tok.kind≠2 then p.fail 5 else p
def PS.dx(p:PS):Int×PS:=if p.j'.err≠0 then(0,p.j') else p.j'.fU
structure Core where
 distinct:Bool
 exprs:List aL
 items:List Item
 src:List Src
 wh:Int
 TZ:Bool
 group:List Int
def Core.enc(c:Core):List DC:=[.b c.distinct,.e8 (c.exprs.map aL.enc),.e8 (c.items.map Item.enc),.e8 (c.src.map Src.enc),.i .i64 c.wh,.b c.TZ,.e8 (c.group.map fun i=>[.i .i64 i])]
def PS.iN(p:PS):PS:=PS.aU {p with ex:=[]} [zA]
def PS.items(p:PS)(D:Rd):List Item×PS:=if(p.sign eM).1=true then([],(p.sign eM).2) else je (fun p=>p.item D) p
def PS.group(p:PS):(Bool×List Int)×PS:=if(p.keyword gq).1=true then((true,(je PS.dx ((p.keyword gq).2.aU [gI])).1),(je PS.dx ((p.keyword gq).2.aU [gI])).2) else((false,[]),p)
def PS.ff(p:PS):PS:=(p.iN.keyword jc).2
def PS.fo(p:PS)(D:Rd):PS:=(p.ff.items D).2.aU [hZ]
def PS.iX(p:PS)(D:Rd)(a:Bool):PS:=((p.fo D).jR D a).2
def PS.dC(p:PS)(D:Rd)(a:Bool):PS:=((p.iX D a).dW D).2
def PS.core(p:PS)(D:Rd)(a:Bool):Core×PS:=
 (⟨(p.iN.keyword jc).1,(p.dC D a).group.2.ex,(p.ff.items D).1,((p.fo D).jR D a).1,((p.iX D a).dW D).1,(p.dC D a).group.1.1,(p.dC D a).group.1.2⟩,(p.dC D a).group.2)
structure js where
 fN:List Core
 ops:List Int
def js.enc(x:js):List DC:=[.e8 (x.fN.map Core.enc),.e8 (x.ops.map fun i=>[.i .i64 i])]
def PS.op(p:PS):Option (Int×PS):=
 if(p.keyword tG).1=true then some (6,(p.keyword tG).2) else if(p.keyword tt).1=true then some (7,(p.keyword tt).2) else if(p.keyword s9).1=true then some (8,(p.keyword s9).2) else none
def pX(D:Rd)(a:Bool):Nat→js→PS→js×PS
 |0,s,p=>(s,p)
 |k+1,s,p=>match p.op with
  |none=>(s,p)
  |some (o,q)=>pX D a k ⟨s.fN++[((q.aU [gK]).core D a).1],s.ops++[o]⟩ ((q.aU [gK]).core D a).2
def PS.cQ(p:PS)(D:Rd)(a:Bool):js×PS:=pX D a p.ay.length ⟨[(p.core D a).1],[]⟩ (p.core D a).2
structure Fk where
 ji:List (List UInt8)
 table:List UInt8
 refs:List (List UInt8)
def fP(l:List (List UInt8)):DC:=.e8 (l.map fun s=>[cJ s])
def Fk.enc(x:Fk):List DC:=[fP x.ji,cJ x.table,fP x.refs]
structure Stmt where
 kind:Int:=0
 mode:Int:=0
 day:Int:=0
 aI:Int:=0
 cQ:js:=⟨[],[]⟩
 table:List UInt8:=[]
 name:List UInt8:=[]
 row:List gX:=[]
 valid:Int×Int:=(0,0)
 exprs:List aL:=[]
 wh:Int:=0
 mS:List (List UInt8×Int):=[]
 ji:List (List UInt8×Int):=[]
 key:List (List UInt8):=[]
 ma:List Fk:=[]
 cons:List (Int×List (List UInt8)):=[]
 n:Int:=0
 wq:Int×Int:=(0,0)
def cP(x:List UInt8×Int):List DC:=[.i .i64 0,cJ x.1,.i .i64 x.2]
def eK(x:List UInt8×Int):List DC:=[cJ x.1,.i .i64 x.2]
def dQ(x:Int×List (List UInt8)):List DC:=[.i .i64 x.1,fP x.2]
def Stmt.enc(s:Stmt):List DC:=[.i .i64 s.kind,.i .i64 s.mode,.i .i64 s.day,.i .i64 s.aI,.e8 (s.cQ.fN.map Core.enc),.e8 (s.cQ.ops.map fun i=>[.i .i64 i]),cJ s.table,cJ s.name,.e8 (s.row.map gX.enc),.i .i64 s.valid.1,.i .i64 s.valid.2,.e8 (s.exprs.map aL.enc),.i .i64 s.wh,.e8 (s.mS.map eK),.e8 (s.ji.map cP),fP s.key,.e8 (s.ma.map Fk.enc),.e8 (s.cons.map dQ),.i .i64 s.n,.i .i64 s.wq.1,.i .i64 s.wq.2]
def PS.kP(p:PS):PS:=(p.aU [lD]).name.2
def PS.sA(p:PS)(D:Rd):List gX×PS:=je (fun p=>p.literal D) ((p.kP.aU [lp]).bw cg)
def PS.pY(p:PS)(D:Rd):PS:=((p.sA D).2.bw dG).aU [kO]
def PS.insert(p:PS)(D:Rd):Stmt×PS:=({kind:=2,table:=(p.aU [lD]).name.1,row:=(p.sA D).1,valid:=((p.pY D).period D).1},((p.pY D).period D).2)
def PS.wt(p:PS):PS:=(p.aU [hZ]).name.2.aU [kO,om,jZ]
def PS.nr(p:PS)(D:Rd):PS:=(p.wt.period D).2
def PS.remove(p:PS)(D:Rd):Stmt×PS:=({kind:=3,table:=(p.aU [hZ]).name.1,valid:=(p.wt.period D).1,wh:=((p.nr D).dW D).1,exprs:=((p.nr D).dW D).2.ex},((p.nr D).dW D).2)
def PS.gG(p:PS):PS:=p.name.2.aU [kO,om,jZ]
def PS.o4(p:PS)(D:Rd):List (List UInt8×Int)×PS:=je (fun p=>p.set D) ((p.gG.period D).2.aU [kz])
def PS.update(p:PS)(D:Rd):Stmt×PS:=({kind:=4,table:=p.name.1,valid:=(p.gG.period D).1,mS:=(p.o4 D).1,wh:=((p.o4 D).2.dW D).1,exprs:=((p.o4 D).2.dW D).2.ex},((p.o4 D).2.dW D).2)
def PS.sT(p:PS):PS:=p.names.2.aU [yQ]
def PS.fk(p:PS):Fk×PS:=(⟨p.names.1,p.sT.name.1,p.sT.name.2.names.1⟩,p.sT.name.2.names.2)
def o5:Nat→List Fk→PS→List Fk×PS
 |0,l,p=>(l,p)
 |k+1,l,p=>if(p.keyword lP).1=true then o5 k (l++[(p.keyword lP).2.fk.1]) (p.keyword lP).2.fk.2 else(l,p)
def PS.gS(p:PS):Option (Int×PS):=if(p.keyword pI).1=true then some (1,(p.keyword pI).2) else if(p.keyword ph).1=true then some (2,(p.keyword ph).2) else none
def nL:Nat→List (Int×List (List UInt8))→PS→List (Int×List (List UInt8))×PS
 |0,l,p=>(l,p)
 |k+1,l,p=>match p.gS with
  |none=>(l,p)
  |some (c,q)=>nL k (l++[(c,q.names.1)]) q.names.2
def PS.sB(p:PS):List (List UInt8×Int)×PS:=je PS.column ((p.aU [c6]).name.2.bw cg)
def PS.il(p:PS):PS:=p.sB.2.bw dG
def PS.key(p:PS):List (List UInt8)×PS:=if(p.keyword rl).1=true then(p.keyword rl).2.names else([],p)
def PS.o6(p:PS):List Fk×PS:=o5 p.ay.length [] p.il.key.2
def PS.uO(p:PS):List (Int×List (List UInt8))×PS:=nL p.ay.length [] p.o6.2
def PS.create(p:PS):Stmt×PS:=({kind:=5,table:=(p.aU [c6]).name.1,ji:=p.sB.1,key:=p.il.key.1,ma:=p.o6.1,cons:=p.uO.1},p.uO.2)
def PS.gp(p:PS):PS:=(p.aU [c6]).name.2
def PS.alter(p:PS):Stmt×PS:=
 if(p.gp.keyword nT).1=true then({kind:=6,table:=(p.aU [c6]).name.1,ji:=[(p.gp.keyword nT).2.column.1]},(p.gp.keyword nT).2.column.2)
 else if(p.gp.keyword pO).1=true then({kind:=7,table:=(p.aU [c6]).name.1,name:=(p.gp.keyword pO).2.name.1},(p.gp.keyword pO).2.name.2)
 else(({}:Stmt),p.gp.fail 5)
def PS.q7(p:PS)(D:Rd):PS:=(p.cQ D false).2.aU [jG,jV]
def PS.qz(p:PS)(D:Rd):Stmt×PS:=({kind:=8,cQ:=(p.cQ D false).1,day:=((p.q7 D).day D).1,aI:=((p.q7 D).day D).2.hM.1},((p.q7 D).day D).2.hM.2)
def PS.lU(p:PS):PS:=(p.number (-1)).2.aU [hZ]
def PS.mi(p:PS):PS:=(p.lU.number (-1)).2.aU [IB]
def PS.pP(p:PS):Int×PS:=if(p.mi.keyword xu).1=true then(1099511627776,(p.mi.keyword xu).2) else p.mi.number (p.lU.number (-1)).1
def PS.hold(p:PS):Stmt×PS:=({kind:=10,n:=(p.number (-1)).1,wq:=((p.lU.number (-1)).1,p.pP.1)},p.pP.2)
def PS.mode(p:PS):Int×PS:=
 if(p.keyword oe).1=true then(2,(p.keyword oe).2) else if(p.keyword od).1=true then(3,(p.keyword od).2)
 else if(p.keyword og).1=true then(4,(p.keyword og).2) else if(p.keyword oc).1=true then(5,(p.keyword oc).2) else(1,p)
def PS.gD(p:PS)(D:Rd):Int×PS:=if(p.keyword jG).1=true then((p.keyword jG).2.aU [jV]).day D else(-1,p)
def PS.query(p:PS)(D:Rd):Stmt×PS:=
 ({kind:=1,mode:=p.mode.1,day:=((p.mode.2.cQ D true).2.gD D).1,aI:=((p.mode.2.cQ D true).2.gD D).2.hM.1,cQ:=(p.mode.2.cQ D true).1},((p.mode.2.cQ D true).2.gD D).2.hM.2)
def PS.cT(p:PS)(D:Rd):Stmt×PS:=
 if(p.keyword rU).1=true then(p.keyword rU).2.insert D
 else if(p.keyword rV).1=true then(p.keyword rV).2.remove D
 else if(p.keyword rW).1=true then(p.keyword rW).2.update D
 else if(p.keyword rX).1=true then(p.keyword rX).2.create
 else if(p.keyword r9).1=true then(p.keyword r9).2.alter
 else if(p.keyword se).1=true then(p.keyword se).2.qz D
 else if(p.keyword rY).1=true then({kind:=9},(p.keyword rY).2)
 else if(p.keyword sf).1=true then(p.keyword sf).2.hold
 else if(p.keyword pv).1=true then({kind:=11,n:=((p.keyword pv).2.number (-1)).1},((p.keyword pv).2.number (-1)).2)
 else if(p.keyword pB).1=true then({kind:=12,n:=(((p.keyword pB).2.aU [oA]).number (-1)).1},(((p.keyword pB).2.aU [oA]).number (-1)).2)
 else p.query D
open Go
def PS.wu(p:PS):List VV:=[.d (.sl (p.ay.map cL.enc)),dI (p.aI:Nat),dI p.pos,dI p.err,dI (p.depth:Nat),.undef]
def PS.bz(p:PS):br:=[(1000,.one 97 80 p.wu)]
section
variable{T:bf}{VE:b0}{B L:br}
theorem gg{p:PS}(z:aY B 1000=some (.one 97 80 p.wu))(A:bu L B):bu (p.bz++L) B:=⟨z,A⟩
theorem fA{p:PS}(z:aY B 1000=some (.one 97 80 p.wu)):bu p.bz B:=⟨z,trivial⟩
theorem D'{σ:List (Nat×Nat)}{N:Nat}{B L:br}{p:PS}(z:(aY σ 1000).isSome=true)(h2:aY B (cu σ N 1000)=some ((BS.one 97 80 p.wu).cu σ N))(A:qy σ N L B):qy σ N (p.bz++L) B:=⟨z,h2,A⟩
end
section
variable{T:bf}{VE:b0}{B:br}
def fT:List (Nat×Nat):=[(1000,1000)]
theorem Ea{f:Nat}{l:List aF}{bZ:List VV}{p A:PS}{R:VV}{Q:VV→br→Prop}(h:bV T f bZ p.bz fun r Bn=>r=R∧Bn=A.bz)(G:aY B 1000=some (.one 97 80 p.wu))
  (I:(kA 2000 VE&&(kB 2000 B&&clean VE (eE fT B) fT))=true) (J:iW VE l=some (iI fT 2000 bZ)) (K:R.cu fT 2000=R) (O:Q R (A.bz++eE fT B)):VI T (.call f l) VE B [1000] Q:=by
 obtain⟨U,z⟩:=iw I
 obtain⟨z,Y⟩:=iw z
 exact jI (Bi:=p.bz) fT 2000 rfl rfl U z rfl Y J ⟨rfl,G,trivial⟩ h fun r Bn hp=>by
  obtain⟨rfl,rfl⟩:=hp
  rw[K]
  exact O
theorem dU{d:Key}{A:Option (List Nat)}{r:List bo}{f:Nat}{l:List aF}{bZ:List VV}{p z:PS}{R:VV}{Q:b0→br→Prop}(h:bV T f bZ p.bz fun r Bn=>r=R∧Bn=z.bz)(G:aY B 1000=some (.one 97 80 p.wu))
  (I:(kA 2000 VE&&(kB 2000 B&&clean VE (eE fT B) fT))=true) (J:iW VE l=some (iI fT 2000 bZ)) (K:R.cu fT 2000=R) (O:VO T r ((d.n,R)::VE) (z.bz++eE fT B) Q):VO T (⟨some d,none,A,.call f l⟩::r) VE B Q:=al (Ea h G I J K O)
theorem HY{d:Key}{m:List Nat}{fl:List FL}{r:List bo}{f:Nat}{l:List aF}{bZ:List VV}{p z:PS}{R:VV}{Q:b0→br→Prop}(h:bV T f bZ p.bz fun r Bn=>r=R∧Bn=z.bz)(hk:nG [1000] m fl=true)(A:aY B 1000=some (.one 97 80 p.wu))
  (G:(kA 2000 VE&&(kB 2000 B&&clean VE (eE fT B) fT))=true) (I:iW VE l=some (iI fT 2000 bZ)) (J:R.cu fT 2000=R) (K:VQ T r ((d.n,R)::VE) (z.bz++eE fT B) (.un::fl) Q):VQ T (⟨some d,none,some m,.call f l⟩::r) VE B fl Q:=eJ hk (Ea h A G I J K)
theorem HZ{d:Key}{G:Option (List Nat)}{r:List bo}{f:Nat}{l:List aF}{bZ:List VV}{p A:PS}{R:VV}{Q:b0→br→Prop}(h:bV T f bZ p.bi fun r Bn=>r=R∧Bn=A.bz)(I:aY B 1000=some (.one 97 80 p.row))(h2:aY B 1050=some (.acc 116 88 8 (p.ex.map aL.enc)))
  (J:(kA 2000 VE&&(kB 2000 B&&clean VE (eE jl B) jl))=true) (K:iW VE l=some (iI jl 2000 bZ)) (O:R.cu jl 2000=R) (U:VO T r ((d.n,R)::VE) (A.bz++eE jl B) Q):VO T (⟨some d,none,G,.call f l⟩::r) VE B Q:=by
 obtain⟨Y,z⟩:=iw J
 obtain⟨z,Z⟩:=iw z
 exact al (jI (Bi:=p.bi) jl 2000 rfl rfl Y z rfl Z K ⟨rfl,I,rfl,h2,trivial⟩ h fun r Bn hp=>by
  obtain⟨rfl,rfl⟩:=hp
  rw[O]
  exact U)
end
theorem uB{T:bf}(F:FT T){D:Rd}(z:g7 T D){p:PS}(h:bd p):bV T 185 [.vp 1000 0] p.bi fun r Bn=>r=dI (p.expr D).1∧Bn=PS.bi (p.expr D).2:=(MD F z 61).1 p h.st (by rw[h.d0])
open Go
set_option maxRecDepth 10000
theorem wv{T:bf}(F:FT T){p:PS}(hp:p.ok):bV T 89 [.vp 1000 0] (PS.bz p) fun r Bn=>r=ep p.tok.enc∧Bn=PS.bz p:=by
 refine cl F.Px aa ?_
 have z:(p.ay.map cL.enc)[p.aI]?=some p.tok.enc:=by rw[iO,hp.get];rfl
 refine ak 1 aa (eU (bm 8 aa (dE (lS (row:=p.tok.enc) aa aa z aa ?_))))
 refine bm 2 aa (da ?_)
 exact ax (⟨_,PS.bz p,aa,fA aa,aa,aa⟩)
theorem sg{T:bf}(F:FT T){p:PS}(hp:p.ok)(e:Int):bV T 90 [.vp 1000 0,dI e] (PS.bz p) fun r Bn=>r= .tuple []∧Bn=PS.bz (p.fail e):=by
 refine cl F.Py aa (ak 5 aa (aJ aa (fun z=>?_) (fun z=>?_)))
 ·have h0:p.err=0:=by simpa using z
  refine bG (ae 4 aa (dU (wv F hp) aa aa aa aa (ae 7 aa (af ?_))))
  exact⟨_,PS.bz {p with err:=e,pos:=p.tok.pos},rfl,fA rfl,rfl,by unfold PS.fail;rw[aq h0]⟩
 refine aT ?_
 exact⟨_,PS.bz p,rfl,fA rfl,rfl,by unfold PS.fail;rw[aj (by simpa using z)]⟩
theorem V8{T:bf}(F:FT T){p:PS}(hp:p.ok)(k:Int)(s:List UInt8):bV T 179 [.vp 1000 0,dI k,dS s] (PS.bz p) fun r Bn=>r=dB (p.next k s)∧Bn=PS.bz p:=by
 refine cl F.OP aa (ak 1 aa (ai (ae 1 aa (dU (wv F hp) aa aa aa aa (ae 2 aa (af ?_))))))
 refine ai (ae 6 aa (cX (g:=bb) aa (fun z=>?_) (fun z=>?_)))
 ·have h0:p.err=0:=by simpa using z
  refine ao aa (z) (dq aa ?_)
  refine ao aa (z) (cW aa aa aa ?_)
  refine ao aa (z) (bM aa ?_)
  refine ao aa (z) (hH aa aa ?_)
  refine al (cS aa (z) aa ?_)
  refine ae 1 aa (cX (g:=bx) aa (fun A=>?_) (fun A=>?_))
  ·refine ao aa (A) (dq aa ?_)
   refine ao aa (A) (cW aa aa aa ?_)
   refine ao aa (A) (bM aa ?_)
   refine ao aa (A) (oj aa aa ?_)
   refine al (cS aa (A) aa ?_)
   refine ae 1 aa (af ?_)
   refine ax (⟨_,PS.bz p,aa,fA aa,?_,aa⟩)
   clear F hp
   simp_all [gx,PS.next]
  refine d6 aa (A) (d6 aa (A) (d6 aa (A) (d6 aa (A) (al (cI aa (A) aa ?_)))))
  refine ae 1 aa (af ?_)
  refine ax (⟨_,PS.bz p,aa,fA aa,?_,aa⟩)
  clear F hp
  simp_all [gx,PS.next]
 refine d6 aa (z) (d6 aa (z) (d6 aa (z) (d6 aa (z) (al (cI aa (z) aa ?_)))))
 refine ae 1 aa (d6 aa aa (d6 aa aa (d6 aa aa (d6 aa aa (ae 2 aa (af ?_))))))
 refine ax (⟨_,PS.bz p,aa,fA aa,?_,aa⟩)
 clear F hp
 simp_all [gx,PS.next]
theorem T0{T:bf}(F:FT T){p:PS}(hp:p.ok){k:Int}(hk:k≠6)(s:List UInt8):bV T 140 [.vp 1000 0,dI k,dS s] (PS.bz p) fun r Bn=>r=dB (p.accept k s).1∧Bn=PS.bz (p.accept k s).2:=by
 refine cl F.ON aa (ak 1 aa (aM (ai (ae 3 aa (dU (V8 F hp k s) aa aa aa aa (ae 1 aa (af ?_)))))))
 refine aJ aa (fun z=>?_) (fun z=>?_)
 ·have A:p.next k s=false:=by simpa using z
  refine ak 1 aa (ax ?_)
  exact⟨_,PS.bz p,rfl,fA rfl,by unfold PS.accept;rw[A];rfl,by unfold PS.accept;rw[A];rfl⟩
 have A:p.next k s=true:=by simpa using z
 have dR:=PS.kR hp hk A
 have fi:=hp.dY
 refine aT (ai (ae 4 aa ?_))
 refine al (cV rfl rfl (by omega) ?_)
 refine ae 3 aa (af ?_)
 refine ak 1 aa (ax ?_)
 exact⟨_,PS.bz p.step,rfl,fA rfl,by unfold PS.accept;rw[aq A];rfl,by unfold PS.accept;rw[aq A]⟩
theorem nB{T:bf}(F:FT T){p:PS}(hp:p.ok)(s:List UInt8):bV T 91 [.vp 1000 0,dS s] (PS.bz p) fun r Bn=>r=dB (p.keyword s).1∧Bn=PS.bz (p.keyword s).2:=by
 refine cl F.Pz aa (ak 1 aa (ai (ae 2 aa ?_)))
 refine dU (T0 F hp (by decide) s) rfl rfl rfl rfl ?_
 refine ae 1 aa (af ?_)
 exact ax (⟨_,PS.bz (p.accept 1 s).2,aa,fA aa,aa,aa⟩)
theorem qJ{T:bf}(F:FT T){p:PS}(hp:p.ok)(l:List (List UInt8))(Y:l.length≤100):bV T 100 [.vp 1000 0,.d (.sl (l.map fun s=>[cJ s]))] (PS.bz p) fun r Bn=>r= .tuple []∧Bn=PS.bz (p.aU l):=by
 refine cl F.OL aa (ak 3 aa (bN (d7 (fun k VE B=>∃i:Nat,i≤l.length∧k=l.length-i∧bu [(0,.vp 1000 0),(6,.d (.sl (l.map fun s=>[cJ s]))),(7,dI ((l.map fun s=>[cJ s]).length:Nat)),(8,dI (i:Nat))] VE∧bu (PS.bz ((l.take i).foldl PS.fM p)) B) ?_ (k:=l.length) ⟨0,dh _,aa,⟨aa,aa,aa,aa,trivial⟩,fA aa⟩)))
 rintro k VE B⟨i,hi,rfl,U,G⟩
 refine ey (PS.bz ((l.take i).foldl PS.fM p)++[]) G ?_
 have G:bu (PS.bz ((l.take i).foldl PS.fM p)++[]) (PS.bz ((l.take i).foldl PS.fM p)++[]):=gg rfl trivial
 have O:PS.ok ((l.take i).foldl PS.fM p):=PS.Fx (l:=l.take i) hp
 refine dy _ _ U G (ak 1 aa (aM (aJ aa (fun I=>?_) (fun I=>?_))))
 ·have dR:i<l.length:=by simpa using I
  obtain⟨x,J⟩:∃x,l[i]?=some x:=⟨_,eY dR⟩
  have A:(l.map fun s=>[cJ s])[i]?=some [cJ x]:=by rw[iO,J];rfl
  refine aT (aM (bN (ai (al (lS aa aa A aa ?_)))))
  refine ae 2 aa (af ?_)
  refine ai (ae 2 aa (dU (nB F O x) aa aa aa aa (ae 1 aa (af ?_))))
  refine aJ aa (fun z=>?_) (fun z=>?_)
  ·refine bG (ae 1 aa (dU (sg F (PS.wH O x) 5) aa aa aa aa (af (bG ?_))))
   refine al (cV rfl rfl (by omega) ?_)
   refine ae 1 aa (af ?_)
   refine⟨l.length-(i+1),by omega,i+1,by omega,rfl,⟨rfl,rfl,rfl,rfl,trivial⟩,?_⟩
   rw[xC,J,xD]
   rw[show List.foldl PS.fM ((l.take i).foldl PS.fM p) (some x).toList=PS.fM ((l.take i).foldl PS.fM p) x from rfl,PS.zy (by simpa using z)];exact fA rfl
  refine aT (bG ?_)
  refine al (cV rfl rfl (by omega) ?_)
  refine ae 1 aa (af ?_)
  refine⟨l.length-(i+1),by omega,i+1,by omega,rfl,⟨rfl,rfl,rfl,rfl,trivial⟩,?_⟩
  rw[xC,J,xD]
  rw[show List.foldl PS.fM ((l.take i).foldl PS.fM p) (some x).toList=PS.fM ((l.take i).foldl PS.fM p) x from rfl,PS.Co (by simpa using z)];exact fA rfl
 have K:l.length≤i:=by simpa using I
 refine dM (⟨_,PS.bz ((l.take i).foldl PS.fM p),aa,fA aa,aa,?_⟩)
 rw[qq K];rfl
set_option maxHeartbeats 1000000 in theorem take0Z{T:bf}(F:FT T){p:PS}(hp:St p){k e:Int}(mz:k≠6){g:Nat}(hC:p.err=0→p.tok.kind=k→bV T g ([dS p.tok.text]++[]) [] fun r Bn=>r=dI e∧Bn=[]):bV T 152 [.vp 1000 0,dI k,.fn g []] (PS.bz p++[]) fun r Bn=>r=dS (p.take k e).1∧Bn=PS.bz (p.take k e).2++[]:=by
 refine cl F.uN aa (ey (PS.bz p++[]) (gg aa trivial) (ak 1 aa (aM (ak 5 aa (aJ aa (fun bI=>?_) (fun bI=>?_))))))
 ·have h0:¬p.err=0:=by simpa using bI
  refine ak 1 aa (ax ?_)
  exact⟨_,PS.bz p++[],rfl,gg rfl trivial,by unfold PS.take;rw[aj h0];rfl,by simp[PS.take,PS.called,h0]⟩
 have h0:p.err=0:=by simpa using bI
 refine aT (ai (ae 1 aa (dU (wv F hp.ok) aa aa aa aa (ae 2 aa (af ?_)))))
 refine aM (ai (ae 3 aa (al (iu aa aa ?_))))
 refine af (aJ aa (fun et=>?_) (fun et=>?_))
 ·have hk:¬p.tok.kind=k:=by simpa using et
  refine ai (ae 1 aa (dU (sg F hp.ok 5) aa aa aa aa (af (ak 1 aa (ax ?_)))))
  exact⟨_,PS.bz (p.fail 5)++[],rfl,gg rfl trivial,by unfold PS.take;rw[aq h0,aj hk];rfl,by simp[PS.take,PS.called,h0,hk]⟩
 have hk:p.tok.kind=k:=by simpa using et
 have dR:=PS.lu hp.ok mz hk
 have fi:=hp.ok.dY
 refine aT (aM (ai (ae 3 aa (al (qI (bZ:=[dS p.tok.text]) (Bi:=[]) [] 2000 aa aa aa aa aa aa aa aa aa trivial (hC h0 hk) (fun r Bn fG=>?_))))))
 obtain⟨rfl,rfl⟩:=fG
 refine ew (PS.bz p++[(7,.one 91 32 (p.tok.enc.map .d))]) (gg aa ⟨aa,trivial⟩) (ae 1 aa (af ?_))
 refine ak 2 aa (aJ aa (fun dn=>?_) (fun dn=>?_))
 ·have he:¬e=0:=by simpa using dn
  refine ai (ae 2 aa (dU (sg F hp.ok e) aa aa aa aa (af (ak 1 aa (ax ?_)))))
  exact⟨_,PS.bz (p.fail e)++[],rfl,gg rfl trivial,by unfold PS.take;rw[aq h0,aq hk,aj he];rfl,by simp[PS.take,PS.called,h0,hk,he]⟩
 have he:e=0:=by simpa using dn
 refine aT (ai (ae 4 aa ?_))
 refine al (cV rfl rfl (by omega) ?_)
 refine ae 3 aa (af ?_)
 refine ak 3 aa (ax ?_)
 exact⟨_,PS.bz p.step++[],rfl,gg rfl trivial,by unfold PS.take;rw[aq h0,aq hk,aq he];rfl,by simp[PS.take,PS.called,h0,hk,he]⟩
set_option maxHeartbeats 1000000 in theorem U6{T:bf}(F:FT T){p:PS}(hp:St p){k e:Int}(mz:k≠6){g:Nat}{e1 b1:Nat}{x x2:DC}(hC:p.err=0→p.tok.kind=k→bV T g ([dS p.tok.text]++[.vp 1001 0]) [(1001,.one e1 b1 [.d x])] fun r Bn=>r=dI e∧Bn=[(1001,.one e1 b1 [.d x2])]):bV T 152 [.vp 1000 0,dI k,.fn g [.vp 1001 0]] (PS.bz p++[(1001,.one e1 b1 [.d x])]) fun r Bn=>r=dS (p.take k e).1∧Bn=PS.bz (p.take k e).2++[(1001,.one e1 b1 [.d (if p.called k=true then x2 else x)])]:=by
 refine cl F.uN aa (ey (PS.bz p++[(1001,.one e1 b1 [.d x])]) (gg aa ⟨aa,trivial⟩) (ak 1 aa (aM (ak 5 aa (aJ aa (fun bI=>?_) (fun bI=>?_))))))
 ·have h0:¬p.err=0:=by simpa using bI
  refine ak 1 aa (ax ?_)
  exact⟨_,PS.bz p++[(1001,.one e1 b1 [.d x])],rfl,gg rfl ⟨rfl,trivial⟩,by unfold PS.take;rw[aj h0];rfl,by simp[PS.take,PS.called,h0]⟩
 have h0:p.err=0:=by simpa using bI
 refine aT (ai (ae 1 aa (dU (wv F hp.ok) aa aa aa aa (ae 2 aa (af ?_)))))
 refine aM (ai (ae 3 aa (al (iu aa aa ?_))))
 refine af (aJ aa (fun et=>?_) (fun et=>?_))
 ·have hk:¬p.tok.kind=k:=by simpa using et
  refine ai (ae 1 aa (dU (sg F hp.ok 5) aa aa aa aa (af (ak 1 aa (ax ?_)))))
  exact⟨_,PS.bz (p.fail 5)++[(1001,.one e1 b1 [.d x])],rfl,gg rfl ⟨rfl,trivial⟩,by unfold PS.take;rw[aq h0,aj hk];rfl,by simp[PS.take,PS.called,h0,hk]⟩
 have hk:p.tok.kind=k:=by simpa using et
 have dR:=PS.lu hp.ok mz hk
 have fi:=hp.ok.dY
 refine aT (aM (ai (ae 3 aa (al (qI (bZ:=[dS p.tok.text,.vp 1001 0]) (Bi:=[(1001,.one e1 b1 [.d x])]) [(1001,1001)] 2000 aa aa aa aa aa aa aa aa aa ⟨aa,aa,trivial⟩ (hC h0 hk) (fun r Bn fG=>?_))))))
 obtain⟨rfl,rfl⟩:=fG
 refine ew (PS.bz p++[(1001,.one e1 b1 [.d x2]),(7,.one 91 32 (p.tok.enc.map .d))]) (gg aa ⟨aa,aa,trivial⟩) (ae 1 aa (af ?_))
 refine ak 2 aa (aJ aa (fun dn=>?_) (fun dn=>?_))
 ·have he:¬e=0:=by simpa using dn
  refine ai (ae 2 aa (dU (sg F hp.ok e) aa aa aa aa (af (ak 1 aa (ax ?_)))))
  exact⟨_,PS.bz (p.fail e)++[(1001,.one e1 b1 [.d x2])],rfl,gg rfl ⟨rfl,trivial⟩,by unfold PS.take;rw[aq h0,aq hk,aj he];rfl,by simp[PS.take,PS.called,h0,hk,he]⟩
 have he:e=0:=by simpa using dn
 refine aT (ai (ae 4 aa ?_))
 refine al (cV rfl rfl (by omega) ?_)
 refine ae 3 aa (af ?_)
 refine ak 3 aa (ax ?_)
 exact⟨_,PS.bz p.step++[(1001,.one e1 b1 [.d x2])],rfl,gg rfl ⟨rfl,trivial⟩,by unfold PS.take;rw[aq h0,aq hk,aq he];rfl,by simp[PS.take,PS.called,h0,hk,he]⟩
set_option maxHeartbeats 1000000 in theorem U7{T:bf}(F:FT T){p:PS}(hp:St p){k e:Int}(mz:k≠6){g:Nat}{e1 b1 e2 b2:Nat}{x y y2:DC}(hC:p.err=0→p.tok.kind=k→bV T g ([dS p.tok.text]++[.vp 1001 0,.vp 1002 0]) [(1001,.one e1 b1 [.d x]),(1002,.one e2 b2 [.d y])] fun r Bn=>r=dI e∧Bn=[(1001,.one e1 b1 [.d x]),(1002,.one e2 b2 [.d y2])]):bV T 152 [.vp 1000 0,dI k,.fn g [.vp 1001 0,.vp 1002 0]] (PS.bz p++[(1001,.one e1 b1 [.d x]),(1002,.one e2 b2 [.d y])]) fun r Bn=>r=dS (p.take k e).1∧Bn=PS.bz (p.take k e).2++[(1001,.one e1 b1 [.d x]),(1002,.one e2 b2 [.d (if p.called k=true then y2 else y)])]:=by
 refine cl F.uN aa (ey (PS.bz p++[(1001,.one e1 b1 [.d x]),(1002,.one e2 b2 [.d y])]) (gg aa ⟨aa,aa,trivial⟩) (ak 1 aa (aM (ak 5 aa (aJ aa (fun bI=>?_) (fun bI=>?_))))))
 ·have h0:¬p.err=0:=by simpa using bI
  refine ak 1 aa (ax ?_)
  exact⟨_,PS.bz p++[(1001,.one e1 b1 [.d x]),(1002,.one e2 b2 [.d y])],rfl,gg rfl ⟨rfl,rfl,trivial⟩,by unfold PS.take;rw[aj h0];rfl,by simp[PS.take,PS.called,h0]⟩
 have h0:p.err=0:=by simpa using bI
 refine aT (ai (ae 1 aa (dU (wv F hp.ok) aa aa aa aa (ae 2 aa (af ?_)))))
 refine aM (ai (ae 3 aa (al (iu aa aa ?_))))
 refine af (aJ aa (fun et=>?_) (fun et=>?_))
 ·have hk:¬p.tok.kind=k:=by simpa using et
  refine ai (ae 1 aa (dU (sg F hp.ok 5) aa aa aa aa (af (ak 1 aa (ax ?_)))))
  exact⟨_,PS.bz (p.fail 5)++[(1001,.one e1 b1 [.d x]),(1002,.one e2 b2 [.d y])],rfl,gg rfl ⟨rfl,rfl,trivial⟩,by unfold PS.take;rw[aq h0,aj hk];rfl,by simp[PS.take,PS.called,h0,hk]⟩
 have hk:p.tok.kind=k:=by simpa using et
 have dR:=PS.lu hp.ok mz hk
 have fi:=hp.ok.dY
 refine aT (aM (ai (ae 3 aa (al (qI (bZ:=[dS p.tok.text,.vp 1001 0,.vp 1002 0]) (Bi:=[(1001,.one e1 b1 [.d x]),(1002,.one e2 b2 [.d y])]) [(1001,1001),(1002,1002)] 2000 aa aa aa aa aa aa aa aa aa ⟨aa,aa,aa,aa,trivial⟩ (hC h0 hk) (fun r Bn fG=>?_))))))
 obtain⟨rfl,rfl⟩:=fG
 refine ew (PS.bz p++[(1001,.one e1 b1 [.d x]),(1002,.one e2 b2 [.d y2]),(7,.one 91 32 (p.tok.enc.map .d))]) (gg aa ⟨aa,aa,aa,trivial⟩) (ae 1 aa (af ?_))
 refine ak 2 aa (aJ aa (fun dn=>?_) (fun dn=>?_))
 ·have he:¬e=0:=by simpa using dn
  refine ai (ae 2 aa (dU (sg F hp.ok e) aa aa aa aa (af (ak 1 aa (ax ?_)))))
  exact⟨_,PS.bz (p.fail e)++[(1001,.one e1 b1 [.d x]),(1002,.one e2 b2 [.d y2])],rfl,gg rfl ⟨rfl,rfl,trivial⟩,by unfold PS.take;rw[aq h0,aq hk,aj he];rfl,by simp[PS.take,PS.called,h0,hk,he]⟩
 have he:e=0:=by simpa using dn
 refine aT (ai (ae 4 aa ?_))
 refine al (cV rfl rfl (by omega) ?_)
 refine ae 3 aa (af ?_)
 refine ak 3 aa (ax ?_)
 exact⟨_,PS.bz p.step++[(1001,.one e1 b1 [.d x]),(1002,.one e2 b2 [.d y2])],rfl,gg rfl ⟨rfl,rfl,trivial⟩,by unfold PS.take;rw[aq h0,aq hk,aq he];rfl,by simp[PS.take,PS.called,h0,hk,he]⟩
theorem T1{T:bf}(F:FT T){D:Rd}(z:g7 T D){p:PS}(hp:St p)(least:Int):bV T 99 [.vp 1000 0,dI least] (PS.bz p) fun r Bn=>r=dI (p.number least).1∧Bn=PS.bz (p.number least).2:=by
 refine cl F.PA aa (ak 2 aa (ak 2 aa (ai (ae 2 aa ?_))))
 refine al (jI (bZ:=[.vp 1000 0,dI 3,.fn 153 [.vp 1001 0,.vp 1002 0]]) (Bi:=PS.bz p++[(1001,.one 3 8 [dI least]),(1002,.one 3 8 [d0])]) [(1000,1000),(1001,3),(1002,5)] 2000 rfl rfl rfl rfl rfl rfl rfl (D' rfl rfl ⟨rfl,rfl,rfl,rfl,trivial⟩) (U7 F hp (by decide) (fun _ hk=>LQ F z (hp.ni.1 _ hp.ok.mem hk) least)) (fun r Bn fG=>?_))
 obtain⟨rfl,rfl⟩:=fG
 refine ew (PS.bz (p.take 3 (mg least p.tok.text)).2++[(5,.one 3 8 [.d (if p.called 3=true then .i .i64 (if mg least p.tok.text=0 then(dV p.tok.text:Nat) else 0) else .i .i64 0)])]) (gg aa ⟨aa,trivial⟩) (af (ak 2 aa (ax (⟨_,PS.bz (p.number least).2,aa,fA aa,?_,aa⟩))))
 unfold PS.number
 by_cases A:p.called 3=true<;>by_cases h2:mg least p.tok.text=0<;>simp[gx,A,h2]
theorem yt{T:bf}(F:FT T){D:Rd}(z:g7 T D){p:PS}(hp:St p):bV T 150 [.vp 1000 0] (PS.bz p) fun r Bn=>r=dI (p.day D).1∧Bn=PS.bz (p.day D).2:=by
 refine cl F.OO aa (ak 1 aa (ak 2 aa (ai (ae 2 aa ?_))))
 refine al (jI (bZ:=[.vp 1000 0,dI 4,.fn 186 [.vp 1001 0]]) (Bi:=PS.bz p++[(1001,.one 3 8 [d0])]) [(1000,1000),(1001,3)] 2000 rfl rfl rfl rfl rfl rfl rfl (D' rfl rfl ⟨rfl,rfl,trivial⟩) (U6 F hp (by decide) (fun _ _=>OQ F z (hp.ni.2 _ hp.ok.mem))) (fun r Bn fG=>?_))
 obtain⟨rfl,rfl⟩:=fG
 refine ew (PS.bz (p.take 4 (D.jN p.tok.text)).2++[(3,.one 3 8 [.d (if p.called 4=true then .i .i64 (D.day p.tok.text).1 else .i .i64 0)])]) (gg aa ⟨aa,trivial⟩) (af (ak 2 aa (ax (⟨_,PS.bz (p.day D).2,aa,fA aa,?_,aa⟩))))
 unfold PS.day
 by_cases A:p.called 4=true<;>simp[gx,A]<;>rfl
open Go
set_option maxRecDepth 10000
theorem CK{T:bf}(F:FT T){D:Rd}(I:g7 T D){p:PS}(hp:bd p):bV T 146 [.vp 1000 0] (PS.bi p) fun r Bn=>r=dI (p.dW D).1∧Bn=PS.bi (p.dW D).2:=by
 refine cl F.Y1 aa (ak 1 aa (aM (ai (ae 1 aa (bh (keyword F hp.ok jO) aa aa aa aa aa (ae 1 aa (af ?_)))))))
 refine aJ aa (fun A=>?_) (fun A=>?_)
 ·have z:(p.keyword jO).1=false:=by simpa using A
  have G:p.dW D=(-1,p):=by unfold PS.dW;rw[aj (by rw[z];decide)]
  rw[PS.cK z]
  refine ak 1 aa (ax ?_)
  rw[G]
  exact⟨_,PS.bi _,aa,cH aa aa,aa,aa⟩
 have z:(p.keyword jO).1=true:=by simpa using A
 have G:p.dW D=(p.keyword jO).2.expr D:=by unfold PS.dW;rw[aq z]
 refine aT (ai (ae 1 aa (bh (uB F I (hp.kw jO).top) aa aa aa aa aa (ae 1 aa (af ?_)))))
 refine ax ?_
 rw[G]
 exact⟨_,PS.bi _,aa,cH aa aa,aa,aa⟩
theorem gr{T:bf}(F:FT T){D:Rd}(z:g7 T D){p:PS}(hp:bd p):bV T 147 [.vp 1000 0] (PS.bi p) fun r Bn=>r=ep (eK (p.set D).1)∧Bn=PS.bi (p.set D).2:=by
 refine cl F.Y2 aa (ak 1 aa (ai (ae 1 aa (bh (name F hp.st) aa aa aa aa aa (ae 3 aa (af ?_))))))
 refine ai (ae 1 aa (bh (bw F hp.name.ok mT) aa aa aa aa aa (af (ai (ae 1 aa (bh (uB F z (hp.name.top.gP mT).top) aa aa aa aa aa (ae 2 aa (af ?_))))))))
 exact ak 2 aa (ax (⟨_,PS.bi (p.set D).2,aa,cH aa aa,aa,aa⟩))
theorem Gw{T:bf}(F:FT T){p:PS}(hp:bd p):bV T 148 [.vp 1000 0] (PS.bi p) fun r Bn=>r=ep (cP p.column.1)∧Bn=PS.bi p.column.2:=by
 refine cl F.Y3 aa (ak 1 aa (ai (ae 1 aa (bh (name F hp.st) aa aa aa aa aa (ae 3 aa (af ?_))))))
 refine aM (bN (ai (ae 1 aa (bh (keyword F hp.name.ok yq) aa aa aa aa aa (ae 1 aa (af ?_))))))
 refine aJ aa (fun G=>?_) (fun G=>?_)
 ·have A:p.column=((p.name.1,1),(p.name.2.keyword yq).2):=by unfold PS.column PS.nF;rw[aq G]
  refine bG (ae 2 aa (af ?_))
  refine ak 2 aa (ax ?_)
  rw[A]
  exact⟨_,PS.bi _,aa,cH aa aa,aa,aa⟩
 rw[PS.cK G]
 refine ai (ae 1 aa (bh (keyword F hp.name.ok xY) aa aa aa aa aa (ae 1 aa (af ?_))))
 refine aJ aa (fun bI=>?_) (fun bI=>?_)
 ·have A:p.column=((p.name.1,2),(p.name.2.keyword xY).2):=by unfold PS.column PS.nF;rw[aj (by rw[G];decide),aq bI]
  refine bG (ae 2 aa (af ?_))
  refine ak 2 aa (ax ?_)
  rw[A]
  exact⟨_,PS.bi _,aa,cH aa aa,aa,aa⟩
 rw[PS.cK bI]
 refine ai (ae 1 aa (bh (keyword F hp.name.ok xZ) aa aa aa aa aa (ae 1 aa (af ?_))))
 refine aJ aa (fun z=>?_) (fun z=>?_)
 ·have A:p.column=((p.name.1,3),(p.name.2.keyword xZ).2):=by unfold PS.column PS.nF;rw[aj (by rw[G];decide),aj (by rw[bI];decide),aq z]
  refine bG (ae 2 aa (af ?_))
  refine ak 2 aa (ax ?_)
  rw[A]
  exact⟨_,PS.bi _,aa,cH aa aa,aa,aa⟩
 have A:p.column=((p.name.1,0),p.name.2.fail 5):=by unfold PS.column PS.nF;rw[aj (by rw[G];decide),aj (by rw[bI];decide),aj (by rw[z];decide)]
 rw[PS.cK z]
 refine bG (ae 1 aa (bh (fail F hp.name.ok 5) aa aa aa aa aa (af (ak 2 aa (ax ?_)))))
 rw[A]
 exact⟨_,PS.bi _,aa,cH aa aa,aa,aa⟩
set_option maxHeartbeats 1000000 in
theorem sa{T:bf}(F:FT T){p:PS}(hp:bd p):bV T 149 [.vp 1000 0] (PS.bi p) fun r Bn=>r= .d (fP p.names.1)∧Bn=PS.bi p.names.2:=by
 refine cl F.Y4 aa ?_
 have U:=hp.gP cg
 have G:∀x:PS,bd x→bO x (PS.name x).2:=fun _ h=>h.name
 refine ak 1 aa (ai (ae 1 aa (bh (bw F hp.ok cg) aa aa aa aa aa (af (ai (ae 1 aa (bh (name F U.st) aa aa aa aa aa (ae 2 aa (af ?_)))))))))
 refine aM (bN (d7 (fun k VE B=>∃(l:List _)(q:PS),kv PS.name k l q=(je PS.name (p.bw cg))∧l≠[]∧l.length≤q.aI+1∧(p.bw cg).ay.length≤k+q.aI∧bO (p.bw cg) q∧bu [(0,.vp 1000 0),(3,.bs 8 (l.map (fun s=>[cJ s])).length 1)] VE∧bu (PS.bi q++[(8,.arr 9 16 1 (l.map (fun s=>[cJ s])).length (l.map (fun s=>[cJ s])))]) B) ?_ (k:=(p.bw cg).ay.length) ⟨[(PS.name (p.bw cg)).1],(PS.name (p.bw cg)).2,aa,pK _ _,mD (dh _),jP _ _,G _ U.top,⟨aa,aa,trivial⟩,di aa aa ⟨aa,trivial⟩⟩))
 rintro k VE B⟨l,q,z,K,Z,hk,I,hV,O⟩
 refine ey (PS.bi q++[(8,.arr 9 16 1 (l.map (fun s=>[cJ s])).length (l.map (fun s=>[cJ s])))]) O ?_
 have O:bu (PS.bi q++[(8,.arr 9 16 1 (l.map (fun s=>[cJ s])).length (l.map (fun s=>[cJ s])))]) (PS.bi q++[(8,.arr 9 16 1 (l.map (fun s=>[cJ s])).length (l.map (fun s=>[cJ s])))]):=di rfl rfl ⟨rfl,trivial⟩
 have gh:q.ay.length=(p.bw cg).ay.length:=by rw[I.ay]
 refine dy _ _ hV O (aM (ai (ae 1 aa (bh (sign F I.ok cE) aa aa aa aa aa (af (aJ aa (fun A=>?_) (fun A=>?_)))))))
 ·have h2:=I.top.sign cE
  have J:=ot I.ok A
  have fi:=I.ok.dY
  obtain⟨k,rfl⟩:∃k',k=k'+1:=⟨k-1,by have:=J.2;omega⟩
  rw[ou A] at z
  have Y:=h2.trans (G _ h2.top)
  refine aT (bN (bG (ae 2 aa (bh (name F h2.top.st) aa aa aa aa aa (ae 1 aa ?_)))))
  refine al (rT (rows:=l.map (fun s=>[cJ s])) (ys:=[[cJ (PS.name (q.sign cE).2).1]]) rfl rfl rfl (.bs (rows:=[[cJ (PS.name (q.sign cE).2).1]]) rfl) (bS rfl) (by simp only[bJ,cF,dj,dJ];omega) ?_)
  refine ae 1 aa (af ?_)
  refine⟨k,fS k,l++[(PS.name (q.sign cE).2).1],(PS.name (q.sign cE).2).2,z,mh K _,?_,?_,I.trans Y,?_,?_⟩
  ·have:=Y.aI;have:=J.1;have:=(G _ h2.top).aI;rw[bJ,eG];show l.length+1≤(PS.name (q.sign cE).2).2.aI+1;omega
  ·have:=(G _ h2.top).aI;have:=J.1;show(p.bw cg).ay.length≤k+(PS.name (q.sign cE).2).2.aI;omega
  ·try simp only[dX,ez,fw]
   exact⟨aa,aa,trivial⟩
  try simp only[dX,ez,fw]
  exact di aa aa ⟨aa,trivial⟩
 rw[ov A] at z
 rw[PS.ic A]
 refine dM (ai (ae 1 aa (bh (bw F I.ok dG) aa aa aa aa aa (af (ai (ae 1 aa (gB 18 8 aa aa (fun _=>⟨aa,aa⟩) (ae 1 aa (af ?_)))))))))
 refine ax ?_
 have hm:p.names=(l,q.bw dG):=by unfold PS.names;rw[←z]
 rw[hm]
 unfold fP
 rw[DC.qN (by simpa using K)]
 exact⟨_,PS.bi _,aa,cH aa aa,aa,aa⟩
open Go
variable{p:PS}{D:Rd}
theorem bd.dW(h:bd p)(D:Rd):bO p (p.dW D).2:=by
 unfold PS.dW
 split
 ·exact(h.kw _).trans ((h.kw _).top.expr D)
 exact .refl h
theorem bd.set(h:bd p)(D:Rd):bO p (p.set D).2:=by
 have z:=h.name
 have h2:=z.trans (z.top.gP mT)
 exact h2.trans (h2.top.expr D)
theorem bd.nF(h:bd p):bO p p.nF.2:=by
 unfold PS.nF
 split
 ·exact h.kw _
 split
 ·exact h.kw _
 split
 ·exact h.kw _
 exact h.fail (by decide)
theorem bd.column(h:bd p):bO p p.column.2:=h.name.trans h.name.top.nF
theorem bd.names(h:bd p):bO p p.names.2:=by
 have z:=h.gP cg
 have h2:=z.trans (wX (fun _ h=>h.name) z.top)
 exact h2.trans (h2.top.gP dG)
theorem bd.hM(h:bd p):bO p p.hM.2:=by
 unfold PS.hM
 split
 ·have z:=h.kw e6
  have h2:=z.trans (z.top.dD [jZ])
  exact h2.trans (h2.top.number _)
 exact .refl h
theorem bd.alias(h:bd p)(a:Bool):bO p (p.alias a).2:=by
 unfold PS.alias
 split
 ·exact .refl h
 rename_i z
 split
 ·exact .refl h
 have A:=h.step (by unfold PS.next at z;simp only[Bool.not_eq_false,fv,eP] at z;exact z.1) (PS.kR h.ok (kind:=1) (by decide) (by simpa using z))
 exact A.trans A.top.name
theorem bd.agg(h:bd p):bO p p.agg.2:=by
 unfold PS.agg
 split
 ·exact h.kw _
 split
 ·exact h.kw _
 split
 ·exact h.kw _
 exact .refl h
theorem bd.fJ(h:bd p)(D:Rd):bO p (p.fJ D).2:=by
 have z:=h.gP cg
 have h2:=z.trans (z.top.expr D)
 exact h2.trans (h2.top.gP dG)
theorem bd.iE(h:bd p)(D:Rd):bO p (p.iE D).2:=by
 unfold PS.iE
 split
 ·have z:=h.kw jw
  have h2:=z.trans (z.top.gP cg)
  have A:=h2.trans (h2.top.gP eM)
  exact A.trans (A.top.gP dG)
 split
 ·exact h.expr D
 exact h.agg.trans (h.agg.top.fJ D)
theorem bd.item(h:bd p)(D:Rd):bO p (p.item D).2:=(h.iE D).trans ((h.iE D).top.alias false)
theorem bd.source(h:bd p)(a:Bool):bO p (p.source a).2:=h.name.trans (h.name.top.alias a)
theorem bd.join(h:bd p){l:Bool}{q:PS}(z:p.join=some (l,q)):bO p q∧p.aI+1≤q.aI∧p.aI+1<p.ay.length:=by
 unfold PS.join at z
 split at z
 ·rename_i hk
  cases z
  have A:=h.kw nK
  have h2:=A.top.dD [j9]
  have G:=nd h.ok hk
  exact⟨A.trans h2,by have:=h2.aI;omega,G.2⟩
 split at z
 ·rename_i hk
  cases z
  exact⟨h.kw _,(nd h.ok hk).1,(nd h.ok hk).2⟩
 cases z
theorem bd.gC(h:bd p)(D:Rd)(l:Bool):bO p (p.gC D l).2:=by
 have z:=h.source false
 have h2:=z.trans (z.top.dD [o9])
 exact h2.trans (h2.top.expr D)
theorem BE(h:p.join=none)(l:List Src):∀k,oD D k l p=(l,p)
 |0=>rfl
 |k+1=>by unfold oD;rw[h]
theorem yY{b:Bool}{q:PS}(h:p.join=some (b,q))(k:Nat)(l:List Src):oD D (k+1) l p=oD D k (l++[(q.gC D b).1]) (q.gC D b).2:=by
 show(match p.join with|none=>(l,p)|some (left,q)=>oD D k (l++[(q.gC D left).1]) (q.gC D left).2)=_
 rw[h]
theorem Ku:∀(k:Nat)(l:List Src){p:PS},bd p→bO p (oD D k l p).2
 |0,l,p,h=>.refl h
 |k+1,l,p,h=>by
  cases z:p.join with
  |none=>rw[BE z];exact .refl h
  |some x=>
   obtain⟨b,q⟩:=x
   rw[yY z]
   have A:=(h.join z).1
   have h2:=A.trans (A.top.gC D b)
   exact h2.trans (Ku k _ h2.top)
theorem bd.jR(h:bd p)(D:Rd)(a:Bool):bO p (p.jR D a).2:=(h.source a).trans (Ku _ _ (h.source a).top)
theorem bd.j'(h:bd p):bO p p.j':=by
 unfold PS.j'
 split
 ·exact h.fail (by decide)
 exact .refl h
theorem bd.dx(h:bd p):bO p p.dx.2:=by
 unfold PS.dx
 split
 ·exact h.j'
 rename_i h0
 exact h.j'.trans ((bC.fU h.j'.st (by simpa using h0)).go h.j'.top)
theorem bd.nil(h:bd p):bO p {p with ex:=[]}:=⟨⟨h.st.of ⟨h.ok.lt,h.ok.dY,h.ok.last,h.ok.kD,dh _⟩ rfl,h.d0⟩,rfl,bY _,id,id⟩
theorem bd.iN(h:bd p):bO p p.iN:=h.nil.trans (h.nil.top.dD [zA])
theorem bd.ff(h:bd p):bO p p.ff:=h.iN.trans (h.iN.top.kw jc)
theorem bd.items(h:bd p)(D:Rd):bO p (p.items D).2:=by
 unfold PS.items
 split
 ·exact h.sign _
 exact wX (fun _ h=>h.item D) h
theorem bd.group(h:bd p):bO p p.group.2:=by
 unfold PS.group
 split
 ·have z:=h.kw gq
  have h2:=z.trans (z.top.dD [gI])
  exact h2.trans (wX (fun _ h=>h.dx) h2.top)
 exact .refl h
theorem bd.fo(h:bd p)(D:Rd):bO p (p.fo D):=by
 have z:=h.ff
 have h2:=z.trans (z.top.items D)
 exact h2.trans (h2.top.dD [hZ])
theorem bd.iX(h:bd p)(D:Rd)(a:Bool):bO p (p.iX D a):=(h.fo D).trans ((h.fo D).top.jR D a)
theorem bd.dC(h:bd p)(D:Rd)(a:Bool):bO p (p.dC D a):=(h.iX D a).trans ((h.iX D a).top.dW D)
theorem bd.core(h:bd p)(D:Rd)(a:Bool):bO p (p.core D a).2:=(h.dC D a).trans (h.dC D a).top.group
theorem bd.op(h:bd p){o:Int}{q:PS}(z:p.op=some (o,q)):bO p q∧p.aI+1≤q.aI∧p.aI+1<p.ay.length:=by
 unfold PS.op at z
 split at z
 ·rename_i hk;cases z;exact⟨h.kw _,(nd h.ok hk).1,(nd h.ok hk).2⟩
 split at z
 ·rename_i hk;cases z;exact⟨h.kw _,(nd h.ok hk).1,(nd h.ok hk).2⟩
 split at z
 ·rename_i hk;cases z;exact⟨h.kw _,(nd h.ok hk).1,(nd h.ok hk).2⟩
 cases z
theorem BV{a:Bool}(h:p.op=none)(s:js):∀k,pX D a k s p=(s,p)
 |0=>rfl
 |k+1=>by unfold pX;rw[h]
theorem vk{a:Bool}{o:Int}{q:PS}(h:p.op=some (o,q))(k:Nat)(s:js):pX D a (k+1) s p=pX D a k ⟨s.fN++[((q.aU [gK]).core D a).1],s.ops++[o]⟩ ((q.aU [gK]).core D a).2:=by
 show(match p.op with|none=>(s,p)|some (o,q)=>pX D a k ⟨s.fN++[((q.aU [gK]).core D a).1],s.ops++[o]⟩ ((q.aU [gK]).core D a).2)=_
 rw[h]
theorem LR{a:Bool}:∀(k:Nat)(s:js){p:PS},bd p→bO p (pX D a k s p).2
 |0,s,p,h=>.refl h
 |k+1,s,p,h=>by
  cases z:p.op with
  |none=>rw[BV z];exact .refl h
  |some x=>
   obtain⟨o,q⟩:=x
   rw[vk z]
   have A:=(h.op z).1
   have h2:=A.trans (A.top.dD [gK])
   have G:=h2.trans (h2.top.core D a)
   exact G.trans (LR k _ G.top)
theorem bd.cQ(h:bd p)(D:Rd)(a:Bool):bO p (p.cQ D a).2:=(h.core D a).trans (LR _ _ (h.core D a).top)
theorem bd.kP(h:bd p):bO p p.kP:=(h.dD [lD]).trans (h.dD [lD]).top.name
theorem bd.sh(h:bd p):bO p ((p.kP.aU [lp]).bw cg):=by
 have z:=h.kP
 have h2:=z.trans (z.top.dD [lp])
 exact h2.trans (h2.top.gP cg)
theorem bd.sA(h:bd p)(D:Rd):bO p (p.sA D).2:=h.sh.trans (wX (fun _ h=>h.literal D) h.sh.top)
theorem bd.pY(h:bd p)(D:Rd):bO p (p.pY D):=by
 have z:=h.sA D
 have h2:=z.trans (z.top.gP dG)
 exact h2.trans (h2.top.dD [kO])
theorem bd.insert(h:bd p)(D:Rd):bO p (p.insert D).2:=(h.pY D).trans ((h.pY D).top.period D)
theorem bd.wt(h:bd p):bO p p.wt:=by
 have z:=h.dD [hZ]
 have h2:=z.trans z.top.name
 exact h2.trans (h2.top.dD [kO,om,jZ])
theorem bd.nr(h:bd p)(D:Rd):bO p (p.nr D):=h.wt.trans (h.wt.top.period D)
theorem bd.remove(h:bd p)(D:Rd):bO p (p.remove D).2:=(h.nr D).trans ((h.nr D).top.dW D)
theorem bd.gG(h:bd p):bO p p.gG:=h.name.trans (h.name.top.dD [kO,om,jZ])
theorem bd.x6(h:bd p)(D:Rd):bO p ((p.gG.period D).2.aU [kz]):=by
 have z:=h.gG
 have h2:=z.trans (z.top.period D)
 exact h2.trans (h2.top.dD [kz])
theorem bd.o4(h:bd p)(D:Rd):bO p (p.o4 D).2:=(h.x6 D).trans (wX (fun _ h=>h.set D) (h.x6 D).top)
theorem bd.update(h:bd p)(D:Rd):bO p (p.update D).2:=(h.o4 D).trans ((h.o4 D).top.dW D)
theorem bd.sT(h:bd p):bO p p.sT:=h.names.trans (h.names.top.dD [yQ])
theorem bd.fk(h:bd p):bO p p.fk.2:=by
 have z:=h.sT
 have h2:=z.trans z.top.name
 exact h2.trans h2.top.names
theorem GP(h:(p.keyword lP).1=true)(k:Nat)(l:List Fk):o5 (k+1) l p=o5 k (l++[(p.keyword lP).2.fk.1]) (p.keyword lP).2.fk.2:=aq h
theorem GQ(h:(p.keyword lP).1=false)(l:List Fk):∀k,o5 k l p=(l,p)
 |0=>rfl
 |k+1=>aj (by rw[h];decide)
theorem LS:∀(k:Nat)(l:List Fk){p:PS},bd p→bO p (o5 k l p).2
 |0,l,p,h=>.refl h
 |k+1,l,p,h=>by
  unfold o5
  split
  ·have z:=h.kw lP
   have h2:=z.trans z.top.fk
   exact h2.trans (LS k _ h2.top)
  exact .refl h
theorem bd.gS(h:bd p){o:Int}{q:PS}(z:p.gS=some (o,q)):bO p q∧p.aI+1≤q.aI∧p.aI+1<p.ay.length:=by
 unfold PS.gS at z
 split at z
 ·rename_i hk;cases z;exact⟨h.kw _,(nd h.ok hk).1,(nd h.ok hk).2⟩
 split at z
 ·rename_i hk;cases z;exact⟨h.kw _,(nd h.ok hk).1,(nd h.ok hk).2⟩
 cases z
theorem y4(h:p.gS=none)(l:List (Int×List (List UInt8))):∀k,nL k l p=(l,p)
 |0=>rfl
 |k+1=>by unfold nL;rw[h]
theorem ve{o:Int}{q:PS}(h:p.gS=some (o,q))(k:Nat)(l:List (Int×List (List UInt8))):nL (k+1) l p=nL k (l++[(o,q.names.1)]) q.names.2:=by
 show(match p.gS with|none=>(l,p)|some (c,q)=>nL k (l++[(c,q.names.1)]) q.names.2)=_
 rw[h]
theorem Ld:∀(k:Nat)(l:List (Int×List (List UInt8))){p:PS},bd p→bO p (nL k l p).2
 |0,l,p,h=>.refl h
 |k+1,l,p,h=>by
  cases z:p.gS with
  |none=>rw[y4 z];exact .refl h
  |some x=>
   obtain⟨o,q⟩:=x
   rw[ve z]
   have A:=(h.gS z).1
   have h2:=A.trans A.top.names
   exact h2.trans (Ld k _ h2.top)
theorem bd.Aq(h:bd p):bO p ((p.aU [c6]).name.2.bw cg):=by
 have z:=h.dD [c6]
 have h2:=z.trans z.top.name
 exact h2.trans (h2.top.gP cg)
theorem bd.sB(h:bd p):bO p p.sB.2:=h.Aq.trans (wX (fun _ h=>h.column) h.Aq.top)
theorem bd.il(h:bd p):bO p p.il:=h.sB.trans (h.sB.top.gP dG)
theorem bd.key(h:bd p):bO p p.key.2:=by
 unfold PS.key
 split
 ·exact(h.kw _).trans (h.kw _).top.names
 exact .refl h
theorem bd.x7(h:bd p):bO p p.il.key.2:=h.il.trans h.il.top.key
theorem bd.o6(h:bd p):bO p p.o6.2:=h.x7.trans (LS _ _ h.x7.top)
theorem bd.create(h:bd p):bO p p.create.2:=h.o6.trans (Ld _ _ h.o6.top)
theorem bd.gp(h:bd p):bO p p.gp:=(h.dD [c6]).trans (h.dD [c6]).top.name
theorem bd.alter(h:bd p):bO p p.alter.2:=by
 unfold PS.alter
 split
 ·exact h.gp.trans ((h.gp.top.kw _).trans (h.gp.top.kw _).top.column)
 split
 ·exact h.gp.trans ((h.gp.top.kw _).trans (h.gp.top.kw _).top.name)
 exact h.gp.trans (h.gp.top.fail (by decide))
theorem bd.q7(h:bd p)(D:Rd):bO p (p.q7 D):=(h.cQ D false).trans ((h.cQ D false).top.dD _)
theorem bd.qz(h:bd p)(D:Rd):bO p (p.qz D).2:=by
 have z:=(h.q7 D).trans ((h.q7 D).top.day D)
 exact z.trans z.top.hM
theorem bd.lU(h:bd p):bO p p.lU:=(h.number _).trans ((h.number _).top.dD _)
theorem bd.mi(h:bd p):bO p p.mi:=h.lU.trans ((h.lU.top.number _).trans ((h.lU.top.number _).top.dD _))
theorem bd.hold(h:bd p):bO p p.hold.2:=by
 refine h.mi.trans ?_
 show bO p.mi p.pP.2
 unfold PS.pP
 split
 ·exact h.mi.top.kw _
 exact h.mi.top.number _
theorem bd.mode(h:bd p):bO p p.mode.2:=by
 unfold PS.mode
 split
 ·exact h.kw _
 split
 ·exact h.kw _
 split
 ·exact h.kw _
 split
 ·exact h.kw _
 exact .refl h
theorem bd.gD(h:bd p)(D:Rd):bO p (p.gD D).2:=by
 unfold PS.gD
 split
 ·have z:=h.kw jG
  have h2:=z.trans (z.top.dD [jV])
  exact h2.trans (h2.top.day D)
 exact .refl h
theorem bd.OR(h:bd p)(D:Rd):bO p (p.mode.2.cQ D true).2:=h.mode.trans (h.mode.top.cQ D true)
theorem bd.query(h:bd p)(D:Rd):bO p (p.query D).2:=by
 have z:=(h.OR D).trans ((h.OR D).top.gD D)
 exact z.trans z.top.hM
theorem bd.cT(h:bd p)(D:Rd):bO p (p.cT D).2:=by
 unfold PS.cT
 repeat' split
 ·exact(h.kw _).trans ((h.kw _).top.insert D)
 ·exact(h.kw _).trans ((h.kw _).top.remove D)
 ·exact(h.kw _).trans ((h.kw _).top.update D)
 ·exact(h.kw _).trans ((h.kw _).top.create)
 ·exact(h.kw _).trans ((h.kw _).top.alter)
 ·exact(h.kw _).trans ((h.kw _).top.qz D)
 ·exact h.kw _
 ·exact(h.kw _).trans ((h.kw _).top.hold)
 ·exact(h.kw _).trans ((h.kw _).top.number _)
 ·exact(h.kw _).trans (((h.kw _).top.dD _).trans (((h.kw _).top.dD _).top.number _))
 exact h.query D
end Go.Ev.Pp
