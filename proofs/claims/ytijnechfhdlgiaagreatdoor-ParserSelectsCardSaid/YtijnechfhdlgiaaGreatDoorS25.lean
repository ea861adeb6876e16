/- Part 25 of rules for walks through the code of a program, and of such walks; what each part proves is said by its theorems. -/
import Derived.Test.YtijnechfhdlgiaaGreatDoorS24
set_option linter.unusedVariables false
set_option linter.unusedSimpArgs false
namespace Go.Ev.Pp
open Go
variable{p q:PS}{D:Rd}{a:Bool}
structure Core.sm(c:Core):Prop where
 e:c.exprs.length≤10000
 i:c.items.length≤10000
 s:c.src.length≤10000
 g:c.group.length≤10000
structure jC.sm(s:jC):Prop where
 c:s.fZ.length≤10000
 o:s.ops.length≤10000
 all:∀x,x∈s.fZ→x.sm
structure Stmt.sm(s:Stmt):Prop where
 cW:s.cW.sm
 row:s.row.length≤10000
 ex:s.exprs.length≤10000
 m8:s.m8.length≤10000
 jq:s.jq.length≤10000
 key:s.key.length≤10000
 my:s.my.length≤10000
 fk:∀f,f∈s.my→f.jq.length≤10000∧f.refs.length≤10000
 cons:s.cons.length≤10000
 gR:∀c,c∈s.cons→c.2.length≤10000
theorem bf.d8(h:bf p):p.aA.length≤2000:=h.ok.d8
theorem bP.d8(h:bP p q)(hp:bf p):q.aA.length≤2000:=by rw[h.aA];exact hp.d8
theorem bf.JM(h:bf p):p.ex.length≤10000:=by
 have z:=h.ok.vt;have h2:=h.ok.lt;have A:=h.d8
 split at z<;>omega
section
variable{α:Type}{f:PS→α×PS}
theorem Lu:∀(k:Nat)(l:List α)(p:PS),(kE f k l p).1.length≤l.length+k
 |0,l,p=>bV _
 |k+1,l,p=>by
  unfold kE
  split
  ·have:=Lu k (l++[(f (p.sign cH).2).1]) (f (p.sign cH).2).2
   rw[bC,dU] at this;omega
  show l.length≤_;omega
theorem xo(h:bf p):(jk f p).1.length≤10000:=by
 have:=Lu (f:=f) p.aA.length [(f p).1] (f p).2
 have:=h.d8
 unfold jk;rw[dU] at*;omega
end
theorem CB(h:bf p):p.names.1.length≤10000:=xo (h.gQ cq).top
theorem KH:∀(k:Nat)(l:List Src)(p:PS),(o5 D k l p).1.length≤l.length+k
 |0,l,p=>bV _
 |k+1,l,p=>by
  unfold o5
  split
  ·show l.length≤_;omega
  rename_i b q _
  have:=KH k (l++[(q.gD D b).1]) (q.gD D b).2
  rw[bC,dU] at this;omega
theorem M5(h:bf p):(p.core D a).1.sm:=by
 have z:=h.dH D a
 refine⟨z.top.group.top.JM,?_,?_,?_⟩
 ·show(p.fw.items D).1.length≤_
  unfold PS.items
  split
  ·exact da _
  exact xo h.fw.top
 ·have:=KH (D:=D) (p.fA D).aA.length [((p.fA D).source a).1] ((p.fA D).source a).2
  have:=(h.fA D).top.d8
  rw[dU] at*
  show(o5 _ _ _ _).1.length≤_
  omega
 show(p.dH D a).group.1.2.length≤_
 unfold PS.group
 split
 ·exact xo ((z.top.kw gx).top.dK [gI]).top
 exact da _
theorem M6:∀(k:Nat)(s:jC){p:PS},bf p→s.fZ.length+k≤10000→s.ops.length+k≤10000→(∀x,x∈s.fZ→x.sm)→(qc D a k s p).1.sm
 |0,s,p,_,G,h2,A=>⟨G,h2,A⟩
 |k+1,s,p,h,G,h2,A=>by
  unfold qc
  split
  ·exact⟨by show s.fZ.length≤_;omega,by show s.ops.length≤_;omega,A⟩
  rename_i o q J
  have g:=(h.op J).1
  have I:=g.top.dK [gK]
  refine M6 k _ (I.top.core D a).top ?_ ?_ fun x z=>?_
  ·rw[bC,dU];omega
  ·rw[bC,dU];omega
  rcases List.mem_append.1 z with z|z
  ·exact A x z
  rcases List.mem_singleton.1 z with rfl;exact M5 I.top
theorem HM(h:bf p):(p.cW D a).1.sm:=by
 have:=h.d8
 exact M6 _ _ (h.core D a).top (by rw[dU];omega) (by show 0+_≤_;omega) fun x z=>by
  rcases List.mem_singleton.1 z with rfl;exact M5 h
theorem Hw:jC.sm ⟨[],[]⟩:=⟨da _,da _,fun _ h=>(by cases h)⟩
theorem nj:Stmt.sm {}:=⟨Hw,da _,da _,da _,da _,da _,da _,fun _ h=>(by cases h),da _,fun _ h=>(by cases h)⟩
theorem M7:∀(k:Nat)(l:List Fk){p:PS},bf p→l.length+k≤10000→(∀f,f∈l→f.jq.length≤10000∧f.refs.length≤10000)→(po k l p).1.length≤10000∧∀f,f∈(po k l p).1→f.jq.length≤10000∧f.refs.length≤10000
 |0,l,p,_,A,h2=>⟨A,h2⟩
 |k+1,l,p,h,A,h2=>by
  unfold po
  split
  ·have g:=h.kw ma
   refine M7 k _ g.top.fk.top (by rw[bC,dU];omega) fun f z=>?_
   rcases List.mem_append.1 z with z|z
   ·exact h2 f z
   rcases List.mem_singleton.1 z with rfl
   exact⟨CB g.top,CB (g.top.tt.top.name).top⟩
  exact⟨by show l.length≤_;omega,h2⟩
theorem Me:∀(k:Nat)(l:List (Int×List (List UInt8))){p:PS},bf p→l.length+k≤10000→(∀c,c∈l→c.2.length≤10000)→(nY k l p).1.length≤10000∧∀c,c∈(nY k l p).1→c.2.length≤10000
 |0,l,p,_,A,h2=>⟨A,h2⟩
 |k+1,l,p,h,A,h2=>by
  unfold nY
  split
  ·exact⟨by show l.length≤_;omega,h2⟩
  rename_i c q G
  have g:=(h.gR G).1
  refine Me k _ g.top.names.top (by rw[bC,dU];omega) fun f z=>?_
  rcases List.mem_append.1 z with z|z
  ·exact h2 f z
  rcases List.mem_singleton.1 z with rfl
  exact CB g.top
theorem S5(h:bf p):(p.insert D).1.sm:={nj with row:=xo h.sL.top}
theorem S7(h:bf p):(p.remove D).1.sm:={nj with ex:=((h.nE D).top.d7 D).top.JM}
theorem S8(h:bf p):(p.update D).1.sm:={nj with m8:=xo (h.yt D).top,ex:=((h.pn D).top.d7 D).top.JM}
theorem S9(h:bf p):p.create.1.sm:=by
 have J:=h.d8
 obtain⟨z,A⟩:=M7 p.aA.length [] h.yu.top (by show 0+_≤_;omega) (fun _ h=>by cases h)
 obtain⟨G,I⟩:=Me p.aA.length [] h.pr.top (by show 0+_≤_;omega) (fun _ h=>by cases h)
 exact{nj with
  jq:=xo h.AN.top
  key:=by
   show p.iB.key.1.length≤_
   unfold PS.key
   split
   ·exact CB (h.iB.top.kw rN).top
   exact da _
  my:=z
  fk:=A
  cons:=G
  gR:=I}
theorem Ug:p.alter.1.sm:=by
 unfold PS.alter
 split
 ·exact{nj with jq:=by show 1≤10000;decide}
 split
 ·exact{nj with}
 exact nj
theorem Vv(h:bf p):(p.qP D).1.sm:={nj with cW:=HM h}
theorem Vw:p.hold.1.sm:={nj with}
theorem Uh(h:bf p):(p.query D).1.sm:={nj with cW:=HM h.mode.top}
theorem Rj(h:bf p):(p.cX D).1.sm:=by
 unfold PS.cX
 split
 ·exact S5 (h.kw _).top
 split
 ·exact S7 (h.kw _).top
 split
 ·exact S8 (h.kw _).top
 split
 ·exact S9 (h.kw _).top
 split
 ·exact Ug
 split
 ·exact Vv (h.kw _).top
 split
 ·exact{nj with}
 split
 ·exact Vw
 split
 ·exact{nj with}
 split
 ·exact{nj with}
 exact Uh h
theorem S'{aA:List cb}(z:rF aA):(lP D aA).1.sm:=by
 unfold lP
 split
 ·exact nj
 exact Rj z.top
theorem Sl{aA:List cb}(z:rF aA):(lN D aA).1.sm:=by
 unfold lN
 split
 ·exact Hw
 exact HM z.top
open Go
set_option maxRecDepth 10000
theorem O8{T:bd}(F:FT T){l:List aN}(K:l.length≤10000):Sound T 43 [.d (.e9 (l.map aN.enc)),.d (.e9 (l.map aN.enc))] fun r=>r=dB true:=by
 refine eh F.f43 aa (al 1 aa (aK (ai (ae 1 aa (ak (hO aa ?_))))))
 refine ae 1 aa (ak (hO aa ?_))
 refine ak (lu aa aa ?_)
 refine af (eC aa aa (aQ (aK (al 1 aa (bJ (dY (fun k VE B=>∃i,i≤l.length∧k=l.length-i∧br [(0,.d (.e9 (l.map aN.enc))),(1,.d (.e9 (l.map aN.enc))),(4,dB false),(5,dI (i:Nat))] VE∧br [] B) ?_ (k:=l.length) ⟨0,da _,aa,⟨aa,aa,aa,aa,trivial⟩,trivial⟩))))))
 rintro k VE B⟨i,hi,rfl,I,J⟩
 refine dn _ _ I J (aK (ai (ae 2 aa (ak (hO aa ?_)))))
 refine ae 1 aa (af ?_)
 refine aI aa (fun A=>?_) (fun A=>?_)
 ·have G:i<l.length:=by simp at A;omega
  obtain⟨e,he⟩:∃e,l[i]?=some e:=⟨_,eP G⟩
  have z:(l.map aN.enc)[i]?=some e.enc:=by rw[im,he];rfl
  have hlen:e.enc.length=8:=rfl
  refine aQ (aK (bJ (eZ (bk 2 aa (c8 (jF aa aa z hlen ?_))))))
  refine jV rfl rfl (mc rfl (by decide) (bV 8) ?_)
  refine bk 2 aa (c8 (jF aa aa z hlen ?_))
  refine jV rfl rfl (mc rfl (by decide) (bV 8) ?_)
  refine c8 (uc (r:=e.enc) aa aa aa ?_)
  refine c6 (eC aa aa (aQ (bD (ae 1 aa ?_))))
  refine ak (cM rfl rfl (by omega) ?_)
  refine ae 1 aa (af ?_)
  exact⟨l.length-(i+1),by omega,i+1,by omega,rfl,⟨rfl,rfl,rfl,rfl,trivial⟩,trivial⟩
 exact dD (al 1 aa (ax (bx aa aa aa)))
theorem E0{T:bd}(F:FT T){l:List (List UInt8)}(K:l.length≤10000):Sound T 44 [.d (f4 l),.d (f4 l)] fun r=>r=dB true:=by
 refine eh F.f44 aa (al 1 aa (aK (ai (ae 1 aa (ak (hO aa ?_))))))
 refine ae 1 aa (ak (hO aa ?_))
 refine ak (lu aa aa ?_)
 refine af (eC aa aa (aQ (aK (al 1 aa (bJ (dY (fun k VE B=>∃i,i≤l.length∧k=l.length-i∧br [(0,.d (f4 l)),(1,.d (f4 l)),(4,dB false),(5,dI (i:Nat))] VE∧br [] B) ?_ (k:=l.length) ⟨0,da _,aa,⟨aa,aa,aa,aa,trivial⟩,trivial⟩))))))
 rintro k VE B⟨i,hi,rfl,I,J⟩
 refine dn _ _ I J (aK (ai (ae 2 aa (ak (hO aa ?_)))))
 refine ae 1 aa (af ?_)
 refine aI aa (fun A=>?_) (fun A=>?_)
 ·have G:i<l.length:=by simp at A;omega
  obtain⟨e,he⟩:∃e,l[i]?=some e:=⟨_,eP G⟩
  have z:(l.map fun s=>[cB s])[i]?=some [cB e]:=by rw[im,he];rfl
  have hlen:[cB e].length=1:=rfl
  refine aQ (aK (bJ (eZ (bk 2 aa (c8 (jF aa aa z hlen ?_))))))
  refine jV aa aa (mb (x:=cB e) aa aa ?_)
  refine bk 2 aa (c8 (jF aa aa z hlen ?_))
  refine jV aa aa (mb (x:=cB e) aa aa ?_)
  refine c8 (Dv aa aa ?_)
  refine c6 (eC aa aa (aQ (bD (ae 1 aa ?_))))
  refine ak (cM rfl rfl (by omega) ?_)
  refine ae 1 aa (af ?_)
  exact⟨l.length-(i+1),by omega,i+1,by omega,rfl,⟨rfl,rfl,rfl,rfl,trivial⟩,trivial⟩
 exact dD (al 1 aa (ax (bx aa aa aa)))
theorem O9{T:bd}(F:FT T){l:List Int}(K:l.length≤10000):Sound T 45 [.d (.e9 (l.map fun i=>[.i .i64 i])),.d (.e9 (l.map fun i=>[.i .i64 i]))] fun r=>r=dB true:=by
 refine eh F.f45 aa (al 1 aa (aK (ai (ae 1 aa (ak (hO aa ?_))))))
 refine ae 1 aa (ak (hO aa ?_))
 refine ak (lu aa aa ?_)
 refine af (eC aa aa (aQ (aK (al 1 aa (bJ (dY (fun k VE B=>∃i,i≤l.length∧k=l.length-i∧br [(0,.d (.e9 (l.map fun i=>[.i .i64 i]))),(1,.d (.e9 (l.map fun i=>[.i .i64 i]))),(4,dB false),(5,dI (i:Nat))] VE∧br [] B) ?_ (k:=l.length) ⟨0,da _,aa,⟨aa,aa,aa,aa,trivial⟩,trivial⟩))))))
 rintro k VE B⟨i,hi,rfl,I,J⟩
 refine dn _ _ I J (aK (ai (ae 2 aa (ak (hO aa ?_)))))
 refine ae 1 aa (af ?_)
 refine aI aa (fun A=>?_) (fun A=>?_)
 ·have G:i<l.length:=by simp at A;omega
  obtain⟨e,he⟩:∃e,l[i]?=some e:=⟨_,eP G⟩
  have z:(l.map fun i=>[DC.i .i64 i])[i]?=some [.i .i64 e]:=by rw[im,he];rfl
  have hlen:[DC.i .i64 e].length=1:=rfl
  refine aQ (aK (bJ (eZ (bk 2 aa (c8 (jF aa aa z hlen ?_))))))
  refine jV aa aa (mb (x:=.i .i64 e) aa aa ?_)
  refine bk 2 aa (c8 (jF aa aa z hlen ?_))
  refine jV aa aa (mb (x:=.i .i64 e) aa aa ?_)
  refine c8 (lu aa aa ?_)
  refine c6 (eC aa aa (aQ (bD (ae 1 aa ?_))))
  refine ak (cM rfl rfl (by omega) ?_)
  refine ae 1 aa (af ?_)
  exact⟨l.length-(i+1),by omega,i+1,by omega,rfl,⟨rfl,rfl,rfl,rfl,trivial⟩,trivial⟩
 exact dD (al 1 aa (ax (bx aa aa aa)))
open Go
set_option maxRecDepth 10000
set_option maxHeartbeats 1000000 in
theorem Xt{T:bd}(F:FT T){c:Core}(J:c.sm):Sound T 46 [ez c.enc,ez c.enc] fun r=>r=dB true:=by
 refine eh F.f46 aa (al 3 aa (aK (ai (ae 4 aa (ak (M4 aa aa ?_))))))
 refine ae 1 aa (ao aa aa (dz aa ?_))
 refine ao aa aa (df aa aa aa ?_)
 refine ao aa aa (dz aa ?_)
 refine ao aa aa (df aa aa aa ?_)
 refine ao aa aa (lu aa aa ?_)
 refine ae 2 aa (ao aa aa (dz aa ?_))
 refine ao aa aa (df aa aa aa ?_)
 refine ao aa aa (dz aa ?_)
 refine ao aa aa (df aa aa aa ?_)
 refine ao aa aa (M4 aa aa ?_)
 refine ae 2 aa (ao aa aa (dz aa ?_))
 refine ao aa aa (df aa aa aa ?_)
 refine ao aa aa (dz aa ?_)
 refine ao aa aa (df aa aa aa ?_)
 refine ao aa aa (cO (O9 F J.g) aa aa ?_)
 refine ao aa aa (jH aa ?_)
 refine ae 2 aa (ao aa aa (dz aa ?_))
 refine ao aa aa (df aa aa aa ?_)
 refine ao aa aa (dz aa ?_)
 refine ao aa aa (df aa aa aa ?_)
 refine ao aa aa (cO (O8 F J.e) aa aa ?_)
 refine ao aa aa (jH aa ?_)
 refine ae 2 aa (ao aa aa (dz aa ?_))
 refine ao aa aa (df aa aa aa ?_)
 refine ao aa aa (hO aa ?_)
 refine ao aa aa (dz aa ?_)
 refine ao aa aa (df aa aa aa ?_)
 refine ao aa aa (hO aa ?_)
 refine ao aa aa (lu aa aa ?_)
 refine ae 2 aa (ao aa aa (dz aa ?_))
 refine ao aa aa (df aa aa aa ?_)
 refine ao aa aa (hO aa ?_)
 refine ao aa aa (dz aa ?_)
 refine ao aa aa (df aa aa aa ?_)
 refine ao aa aa (hO aa ?_)
 refine ao aa aa (lu aa aa ?_)
 refine ae 1 aa (af ?_)
 refine eC aa aa (aQ (aK (al 1 aa (bJ (dY (fun k VE B=>∃i,i≤c.items.length∧k=c.items.length-i∧br [(2,.vp 2 0),(3,.vp 3 0),(4,dB false),(5,dI (i:Nat))] VE∧br [(2,.one 106 120 (c.enc.map .d)),(3,.one 106 120 (c.enc.map .d))] B) ?_ (k:=c.items.length) ⟨0,da _,aa,⟨aa,aa,aa,aa,trivial⟩,⟨aa,aa,trivial⟩⟩)))))
 rintro k VE B⟨i,hi,rfl,K,O⟩
 refine dn _ _ K O (aK (ai (ae 3 aa (ak (hO aa ?_)))))
 refine ae 1 aa (af ?_)
 refine aI aa (fun G=>?_) (fun G=>?_)
 ·have U:=J.i
  have A:i<c.items.length:=by simp at G;omega
  obtain⟨e,he⟩:∃e,c.items[i]?=some e:=⟨_,eP A⟩
  have z:(c.items.map Item.enc)[i]?=some (Item.enc e):=by rw[im,he];rfl
  refine aQ (aK (bJ (eZ (bk 3 aa (c8 (jF aa aa z aa ?_))))))
  refine jV rfl rfl (mc rfl (by decide) (bV 3) ?_)
  refine bk 3 aa (c8 (jF aa aa z aa ?_))
  refine jV rfl rfl (mc rfl (by decide) (bV 3) ?_)
  refine c8 (uc (r:=Item.enc e) aa aa aa ?_)
  refine c6 (eC aa aa (aQ (bD (ae 1 aa ?_))))
  refine ak (cM rfl rfl (by omega) ?_)
  refine ae 1 aa (af ?_)
  exact⟨c.items.length-(i+1),by omega,i+1,by omega,rfl,⟨rfl,rfl,rfl,rfl,trivial⟩,⟨rfl,rfl,trivial⟩⟩
 refine dD (aK (al 1 aa (bJ (dY (fun k VE B=>∃i,i≤c.src.length∧k=c.src.length-i∧br [(2,.vp 2 0),(3,.vp 3 0),(4,dB false),(6,dI (i:Nat))] VE∧br [(2,.one 106 120 (c.enc.map .d)),(3,.one 106 120 (c.enc.map .d))] B) ?_ (k:=c.src.length) ⟨0,da _,aa,⟨aa,aa,aa,aa,trivial⟩,⟨aa,aa,trivial⟩⟩))))
 rintro k VE B⟨i,hi,rfl,K,O⟩
 refine dn _ _ K O (aK (ai (ae 3 aa (ak (hO aa ?_)))))
 refine ae 1 aa (af ?_)
 refine aI aa (fun I=>?_) (fun I=>?_)
 ·have U:=J.s
  have A:i<c.src.length:=by simp at I;omega
  obtain⟨e,he⟩:∃e,c.src[i]?=some e:=⟨_,eP A⟩
  have z:(c.src.map Src.enc)[i]?=some (Src.enc e):=by rw[im,he];rfl
  refine aQ (aK (bJ (eZ (bk 3 aa (c8 (jF aa aa z aa ?_))))))
  refine jV rfl rfl (mc rfl (by decide) (bV 4) ?_)
  refine bk 3 aa (c8 (jF aa aa z aa ?_))
  refine jV rfl rfl (mc rfl (by decide) (bV 4) ?_)
  refine c8 (uc (r:=Src.enc e) aa aa aa ?_)
  refine c6 (eC aa aa (aQ (bD (ae 1 aa ?_))))
  refine ak (cM rfl rfl (by omega) ?_)
  refine ae 1 aa (af ?_)
  exact⟨c.src.length-(i+1),by omega,i+1,by omega,rfl,⟨rfl,rfl,rfl,rfl,trivial⟩,⟨rfl,rfl,trivial⟩⟩
 exact dD (al 1 aa (ax (bx aa aa aa)))
set_option maxHeartbeats 1000000 in
theorem O'{T:bd}(F:FT T){s:jC}(G:s.sm):Sound T 20 [ez s.enc,ez s.enc] fun r=>r=dB true:=by
 refine eh F.f20 aa (al 3 aa (aK (ai (ae 2 aa (ak (hO aa ?_))))))
 refine ae 2 aa (ak (hO aa ?_))
 refine ak (lu aa aa ?_)
 refine ae 1 aa (ao aa aa (dz aa ?_))
 refine ao aa aa (df aa aa aa ?_)
 refine ao aa aa (dz aa ?_)
 refine ao aa aa (df aa aa aa ?_)
 refine ao aa aa (cO (O9 F G.o) aa aa ?_)
 refine ao aa aa (jH aa ?_)
 refine ae 1 aa (af ?_)
 refine eC aa aa (aQ (aK (al 1 aa (bJ (dY (fun k VE B=>∃i,i≤s.fZ.length∧k=s.fZ.length-i∧br [(2,.vp 2 0),(3,.vp 3 0),(4,dB false),(5,dI (i:Nat))] VE∧br [(2,.one 39 48 (s.enc.map .d)),(3,.one 39 48 (s.enc.map .d))] B) ?_ (k:=s.fZ.length) ⟨0,da _,aa,⟨aa,aa,aa,aa,trivial⟩,⟨aa,aa,trivial⟩⟩)))))
 rintro k VE B⟨i,hi,rfl,J,K⟩
 refine dn _ _ J K (aK (ai (ae 3 aa (ak (hO aa ?_)))))
 refine ae 1 aa (af ?_)
 refine aI aa (fun A=>?_) (fun A=>?_)
 ·have O:=G.c
  have I:i<s.fZ.length:=by simp at A;omega
  obtain⟨e,he⟩:∃e,s.fZ[i]?=some e:=⟨_,eP I⟩
  have z:(s.fZ.map Core.enc)[i]?=some (Core.enc e):=by rw[im,he];rfl
  refine aQ (aK (bJ (eZ (bk 3 aa (c8 (jF aa aa z aa ?_))))))
  refine jV rfl rfl (mc rfl (by decide) (bV 7) ?_)
  refine bk 3 aa (c8 (jF aa aa z aa ?_))
  refine jV rfl rfl (mc rfl (by decide) (bV 7) ?_)
  refine eo aa (cO (Xt F (G.all e (kY he))) aa aa ?_)
  refine bk 1 aa (c6 ?_)
  refine eC aa aa (aQ (bD (ae 1 aa ?_)))
  refine ak (cM rfl rfl (by omega) ?_)
  refine ae 1 aa (af ?_)
  exact⟨s.fZ.length-(i+1),by omega,i+1,by omega,rfl,⟨rfl,rfl,rfl,rfl,trivial⟩,⟨rfl,rfl,trivial⟩⟩
 exact dD (al 1 aa (ax (bx aa aa aa)))
open Go
set_option maxRecDepth 10000
set_option maxHeartbeats 4000000 in
theorem Xu{T:bd}(F:FT T){s:Stmt}(G:s.sm):Sound T 19 [ez s.enc,ez s.enc] fun r=>r=dB true:=by
 refine eh F.f19 aa (al 3 aa (aK (ai (ae 4 aa (ak (lu aa aa ?_))))))
 refine ae 1 aa (ao aa aa (dz aa ?_))
 refine ao aa aa (df aa aa aa ?_)
 refine ao aa aa (dz aa ?_)
 refine ao aa aa (df aa aa aa ?_)
 refine ao aa aa (lu aa aa ?_)
 refine ae 2 aa (ao aa aa (dz aa ?_))
 refine ao aa aa (df aa aa aa ?_)
 refine ao aa aa (dz aa ?_)
 refine ao aa aa (df aa aa aa ?_)
 refine ao aa aa (lu aa aa ?_)
 refine ae 2 aa (ao aa aa (dz aa ?_))
 refine ao aa aa (df aa aa aa ?_)
 refine ao aa aa (dz aa ?_)
 refine ao aa aa (df aa aa aa ?_)
 refine ao aa aa (lu aa aa ?_)
 refine ae 2 aa (ao aa aa (dz aa ?_))
 refine ao aa aa (df aa aa aa ?_)
 refine ao aa aa (dz aa ?_)
 refine ao aa aa (df aa aa aa ?_)
 refine ao aa aa (Dv aa aa ?_)
 refine ae 2 aa (ao aa aa (dz aa ?_))
 refine ao aa aa (df aa aa aa ?_)
 refine ao aa aa (dz aa ?_)
 refine ao aa aa (df aa aa aa ?_)
 refine ao aa aa (Dv aa aa ?_)
 refine ae 2 aa (ao aa aa (dz aa ?_))
 refine ao aa aa (pG aa aa (bO aa) (bO aa) ?_)
 refine ao aa aa (dz aa ?_)
 refine ao aa aa (pG aa aa (bO aa) (bO aa) ?_)
 refine ao aa aa (uc (r:=[.i .i64 s.valid.1,.i .i64 s.valid.2]) aa aa aa ?_)
 refine ae 2 aa (ao aa aa (dz aa ?_))
 refine ao aa aa (df aa aa aa ?_)
 refine ao aa aa (dz aa ?_)
 refine ao aa aa (df aa aa aa ?_)
 refine ao aa aa (lu aa aa ?_)
 refine ae 2 aa (ao aa aa (dz aa ?_))
 refine ao aa aa (df aa aa aa ?_)
 refine ao aa aa (dz aa ?_)
 refine ao aa aa (df aa aa aa ?_)
 refine ao aa aa (lu aa aa ?_)
 refine ae 2 aa (ao aa aa (dz aa ?_))
 refine ao aa aa (pG aa aa (bO aa) (bO aa) ?_)
 refine ao aa aa (dz aa ?_)
 refine ao aa aa (pG aa aa (bO aa) (bO aa) ?_)
 refine ao aa aa (uc (r:=[.i .i64 s.wI.1,.i .i64 s.wI.2]) aa aa aa ?_)
 refine ae 2 aa (ao aa aa (dz aa ?_))
 refine ao aa aa (pG aa aa (bO aa) (bO aa) ?_)
 refine ao aa aa (dz aa ?_)
 refine ao aa aa (pG aa aa (bO aa) (bO aa) ?_)
 refine ao aa aa (cO (O' F G.cW) aa aa ?_)
 refine ao aa aa (jH aa ?_)
 refine ae 2 aa (ao aa aa (dz aa ?_))
 refine ao aa aa (df aa aa aa ?_)
 refine ao aa aa (dz aa ?_)
 refine ao aa aa (df aa aa aa ?_)
 refine ao aa aa (cO (O8 F G.ex) aa aa ?_)
 refine ao aa aa (jH aa ?_)
 refine ae 2 aa (ao aa aa (dz aa ?_))
 refine ao aa aa (df aa aa aa ?_)
 refine ao aa aa (dz aa ?_)
 refine ao aa aa (df aa aa aa ?_)
 refine ao aa aa (cO (E0 F G.key) aa aa ?_)
 refine ao aa aa (jH aa ?_)
 refine ae 1 aa (af ?_)
 refine eC aa aa (aQ (aK (ai (ae 2 aa (ak (hO aa ?_))))))
 refine ae 2 aa (ak (hO aa ?_))
 refine ak (lu aa aa ?_)
 refine ae 1 aa (ao aa aa (dz aa ?_))
 refine ao aa aa (df aa aa aa ?_)
 refine ao aa aa (hO aa ?_)
 refine ao aa aa (dz aa ?_)
 refine ao aa aa (df aa aa aa ?_)
 refine ao aa aa (hO aa ?_)
 refine ao aa aa (lu aa aa ?_)
 refine ae 2 aa (ao aa aa (dz aa ?_))
 refine ao aa aa (df aa aa aa ?_)
 refine ao aa aa (hO aa ?_)
 refine ao aa aa (dz aa ?_)
 refine ao aa aa (df aa aa aa ?_)
 refine ao aa aa (hO aa ?_)
 refine ao aa aa (lu aa aa ?_)
 refine ae 2 aa (ao aa aa (dz aa ?_))
 refine ao aa aa (df aa aa aa ?_)
 refine ao aa aa (hO aa ?_)
 refine ao aa aa (dz aa ?_)
 refine ao aa aa (df aa aa aa ?_)
 refine ao aa aa (hO aa ?_)
 refine ao aa aa (lu aa aa ?_)
 refine ae 2 aa (ao aa aa (dz aa ?_))
 refine ao aa aa (df aa aa aa ?_)
 refine ao aa aa (hO aa ?_)
 refine ao aa aa (dz aa ?_)
 refine ao aa aa (df aa aa aa ?_)
 refine ao aa aa (hO aa ?_)
 refine ao aa aa (lu aa aa ?_)
 refine ae 1 aa (af ?_)
 refine eC aa aa (aQ (aK (al 1 aa (bJ (dY (fun k VE B=>∃i,i≤s.row.length∧k=s.row.length-i∧br [(2,.vp 2 0),(3,.vp 3 0),(4,dB false),(5,dI (i:Nat))] VE∧br [(2,.one 50 328 (s.enc.map .d)),(3,.one 50 328 (s.enc.map .d))] B) ?_ (k:=s.row.length) ⟨0,da _,aa,⟨aa,aa,aa,aa,trivial⟩,⟨aa,aa,trivial⟩⟩)))))
 rintro k VE B⟨i,hi,rfl,I,J⟩
 refine dn _ _ I J (aK (ai (ae 3 aa (ak (hO aa ?_)))))
 refine ae 1 aa (af ?_)
 refine aI aa (fun O=>?_) (fun O=>?_)
 ·have K:=G.row
  have A:i<s.row.length:=by simp at O;omega
  obtain⟨e,he⟩:∃e,s.row[i]?=some e:=⟨_,eP A⟩
  have z:(s.row.map gZ.enc)[i]?=some (gZ.enc e):=by rw[im,he];rfl
  refine aQ (aK (bJ (eZ (bk 3 aa (c8 (jF aa aa z aa ?_))))))
  refine jV rfl rfl (mc rfl (by decide) (bV 3) ?_)
  refine bk 3 aa (c8 (jF aa aa z aa ?_))
  refine jV rfl rfl (mc rfl (by decide) (bV 3) ?_)
  refine c8 (uc (r:=gZ.enc e) aa aa aa ?_)
  refine c6 (eC aa aa (aQ (bD (ae 1 aa ?_))))
  refine ak (cM rfl rfl (by omega) ?_)
  refine ae 1 aa (af ?_)
  exact⟨s.row.length-(i+1),by omega,i+1,by omega,rfl,⟨rfl,rfl,rfl,rfl,trivial⟩,⟨rfl,rfl,trivial⟩⟩
 refine dD (aK (al 1 aa (bJ (dY (fun k VE B=>∃i,i≤s.m8.length∧k=s.m8.length-i∧br [(2,.vp 2 0),(3,.vp 3 0),(4,dB false),(6,dI (i:Nat))] VE∧br [(2,.one 50 328 (s.enc.map .d)),(3,.one 50 328 (s.enc.map .d))] B) ?_ (k:=s.m8.length) ⟨0,da _,aa,⟨aa,aa,aa,aa,trivial⟩,⟨aa,aa,trivial⟩⟩))))
 rintro k VE B⟨i,hi,rfl,I,J⟩
 refine dn _ _ I J (aK (ai (ae 3 aa (ak (hO aa ?_)))))
 refine ae 1 aa (af ?_)
 refine aI aa (fun U=>?_) (fun U=>?_)
 ·have K:=G.m8
  have A:i<s.m8.length:=by simp at U;omega
  obtain⟨e,he⟩:∃e,s.m8[i]?=some e:=⟨_,eP A⟩
  have z:(s.m8.map eR)[i]?=some (eR e):=by rw[im,he];rfl
  refine aQ (aK (bJ (eZ (bk 3 aa (c8 (jF aa aa z aa ?_))))))
  refine jV rfl rfl (mc rfl (by decide) (bV 2) ?_)
  refine bk 3 aa (c8 (jF aa aa z aa ?_))
  refine jV rfl rfl (mc rfl (by decide) (bV 2) ?_)
  refine c8 (uc (r:=eR e) aa aa aa ?_)
  refine c6 (eC aa aa (aQ (bD (ae 1 aa ?_))))
  refine ak (cM rfl rfl (by omega) ?_)
  refine ae 1 aa (af ?_)
  exact⟨s.m8.length-(i+1),by omega,i+1,by omega,rfl,⟨rfl,rfl,rfl,rfl,trivial⟩,⟨rfl,rfl,trivial⟩⟩
 refine dD (aK (al 1 aa (bJ (dY (fun k VE B=>∃i,i≤s.jq.length∧k=s.jq.length-i∧br [(2,.vp 2 0),(3,.vp 3 0),(4,dB false),(7,dI (i:Nat))] VE∧br [(2,.one 50 328 (s.enc.map .d)),(3,.one 50 328 (s.enc.map .d))] B) ?_ (k:=s.jq.length) ⟨0,da _,aa,⟨aa,aa,aa,aa,trivial⟩,⟨aa,aa,trivial⟩⟩))))
 rintro k VE B⟨i,hi,rfl,I,J⟩
 refine dn _ _ I J (aK (ai (ae 3 aa (ak (hO aa ?_)))))
 refine ae 1 aa (af ?_)
 refine aI aa (fun Y=>?_) (fun Y=>?_)
 ·have K:=G.jq
  have A:i<s.jq.length:=by simp at Y;omega
  obtain⟨e,he⟩:∃e,s.jq[i]?=some e:=⟨_,eP A⟩
  have z:(s.jq.map cV)[i]?=some (cV e):=by rw[im,he];rfl
  refine aQ (aK (bJ (eZ (bk 3 aa (c8 (jF aa aa z aa ?_))))))
  refine jV rfl rfl (mc rfl (by decide) (bV 3) ?_)
  refine bk 3 aa (c8 (jF aa aa z aa ?_))
  refine jV rfl rfl (mc rfl (by decide) (bV 3) ?_)
  refine c8 (uc (r:=cV e) aa aa aa ?_)
  refine c6 (eC aa aa (aQ (bD (ae 1 aa ?_))))
  refine ak (cM rfl rfl (by omega) ?_)
  refine ae 1 aa (af ?_)
  exact⟨s.jq.length-(i+1),by omega,i+1,by omega,rfl,⟨rfl,rfl,rfl,rfl,trivial⟩,⟨rfl,rfl,trivial⟩⟩
 refine dD (aK (al 1 aa (bJ (dY (fun k VE B=>∃i,i≤s.my.length∧k=s.my.length-i∧br [(2,.vp 2 0),(3,.vp 3 0),(4,dB false),(8,dI (i:Nat))] VE∧br [(2,.one 50 328 (s.enc.map .d)),(3,.one 50 328 (s.enc.map .d))] B) ?_ (k:=s.my.length) ⟨0,da _,aa,⟨aa,aa,aa,aa,trivial⟩,⟨aa,aa,trivial⟩⟩))))
 rintro k VE B⟨i,hi,rfl,I,J⟩
 refine dn _ _ I J (aK (ai (ae 3 aa (ak (hO aa ?_)))))
 refine ae 1 aa (af ?_)
 refine aI aa (fun Z=>?_) (fun Z=>?_)
 ·have K:=G.my
  have A:i<s.my.length:=by simp at Z;omega
  obtain⟨e,he⟩:∃e,s.my[i]?=some e:=⟨_,eP A⟩
  have z:(s.my.map Fk.enc)[i]?=some (Fk.enc e):=by rw[im,he];rfl
  refine aQ (aK (bJ (eZ (bk 3 aa (c8 (jF aa aa z aa ?_))))))
  refine jV rfl rfl (mc rfl (by decide) (bV 3) ?_)
  refine bk 3 aa (c8 (jF aa aa z aa ?_))
  refine jV rfl rfl (mc rfl (by decide) (bV 3) ?_)
  refine bk 4 aa (c6 ?_)
  refine ai (ae 4 aa (ak (Dv aa aa ?_)))
  refine ae 1 aa (ao aa aa (dz aa ?_))
  refine ao aa aa (df aa aa aa ?_)
  refine ao aa aa (dz aa ?_)
  refine ao aa aa (df aa aa aa ?_)
  refine ao aa aa (cO (E0 F (G.fk e (kY he)).1) aa aa ?_)
  refine ao aa aa (jH aa ?_)
  refine ae 2 aa (ao aa aa (dz aa ?_))
  refine ao aa aa (df aa aa aa ?_)
  refine ao aa aa (dz aa ?_)
  refine ao aa aa (df aa aa aa ?_)
  refine ao aa aa (cO (E0 F (G.fk e (kY he)).2) aa aa ?_)
  refine ao aa aa (jH aa ?_)
  refine ae 1 aa (af ?_)
  refine eC aa aa (aQ (bD (ae 1 aa ?_)))
  refine ak (cM rfl rfl (by omega) ?_)
  refine ae 1 aa (af ?_)
  exact⟨s.my.length-(i+1),by omega,i+1,by omega,rfl,⟨rfl,rfl,rfl,rfl,trivial⟩,⟨rfl,rfl,trivial⟩⟩
 refine dD (aK (al 1 aa (bJ (dY (fun k VE B=>∃i,i≤s.cons.length∧k=s.cons.length-i∧br [(2,.vp 2 0),(3,.vp 3 0),(4,dB false),(11,dI (i:Nat))] VE∧br [(2,.one 50 328 (s.enc.map .d)),(3,.one 50 328 (s.enc.map .d))] B) ?_ (k:=s.cons.length) ⟨0,da _,aa,⟨aa,aa,aa,aa,trivial⟩,⟨aa,aa,trivial⟩⟩))))
 rintro k VE B⟨i,hi,rfl,I,J⟩
 refine dn _ _ I J (aK (ai (ae 3 aa (ak (hO aa ?_)))))
 refine ae 1 aa (af ?_)
 refine aI aa (fun P0=>?_) (fun P0=>?_)
 ·have K:=G.cons
  have A:i<s.cons.length:=by simp at P0;omega
  obtain⟨e,he⟩:∃e,s.cons[i]?=some e:=⟨_,eP A⟩
  have z:(s.cons.map dR)[i]?=some (dR e):=by rw[im,he];rfl
  refine aQ (aK (bJ (eZ (bk 3 aa (c8 (jF aa aa z aa ?_))))))
  refine bk 1 aa (jV aa aa (mb (x:=.i .i64 e.1) aa aa ?_))
  refine bk 3 aa (c8 (jF aa aa z aa ?_))
  refine bk 1 aa (jV aa aa (mb (x:=.i .i64 e.1) aa aa ?_))
  refine c8 (lu aa aa ?_)
  refine bk 1 aa (el aa aa (dz aa ?_))
  refine ky aa aa aa (df aa aa aa ?_)
  refine el aa aa (bN aa ?_)
  refine el aa aa (jF aa aa z aa ?_)
  refine el aa aa (tS aa ?_)
  refine ky aa aa aa (mb (x:=f4 e.2) aa aa ?_)
  refine el aa aa (dz aa ?_)
  refine ky aa aa aa (df aa aa aa ?_)
  refine el aa aa (bN aa ?_)
  refine el aa aa (jF aa aa z aa ?_)
  refine el aa aa (tS aa ?_)
  refine ky aa aa aa (mb (x:=f4 e.2) aa aa ?_)
  refine ky aa aa aa (cO (E0 F (G.gR e (kY he))) aa aa ?_)
  refine el aa aa (jH aa ?_)
  refine bk 1 aa (c6 ?_)
  refine eC aa aa (aQ (bD (ae 1 aa ?_)))
  refine ak (cM rfl rfl (by omega) ?_)
  refine ae 1 aa (af ?_)
  exact⟨s.cons.length-(i+1),by omega,i+1,by omega,rfl,⟨rfl,rfl,rfl,rfl,trivial⟩,⟨rfl,rfl,trivial⟩⟩
 exact dD (al 1 aa (ax (bx aa aa aa)))
open Go
set_option maxRecDepth 10000
def pW(s:List UInt8):Stmt×Int×Int:=if¬(eE s).2.2=0 then({},((eE s).2.1:Nat),(eE s).2.2) else lP rI (eE s).1
def pQ(s:List UInt8):jC×Int×Int:=if¬(eE s).2.2=0 then(⟨[],[]⟩,((eE s).2.1:Nat),(eE s).2.2) else lN rI (eE s).1
theorem C6{s:List UInt8}(h:(eE s).2.2=0):(eE s).1.map cb.enc≠[]:=fun k=>by
 have:=(vD h).ne
 rw[List.map_eq_nil_iff.1 k] at this;exact absurd this (by decide)
theorem Ta{s:List UInt8}:(pW s).1.sm:=by
 unfold pW
 split
 ·exact nj
 rename_i h;exact S' (vD (by simpa using h))
theorem Sm{s:List UInt8}:(pQ s).1.sm:=by
 unfold pQ
 split
 ·exact Hw
 rename_i h;exact Sl (vD (by simpa using h))
set_option maxHeartbeats 1000000 in
theorem Wy{T:bd}(F:FT T)(X:FX T)(s:List UInt8):Sound T 13 [dS s] fun r=>r= .tuple [ez (pW s).1.enc,dI (pW s).2.1,dI (pW s).2.2]:=by
 refine eh F.f13 aa (al 3 aa (ai (ae 1 aa (ak (cO (R:=.tuple [.d (.e9 ((eE s).1.map cb.enc)),dI ((eE s).2.1:Nat),dI (eE s).2.2]) (O7 F X s) aa aa ?_)))))
 refine ae 7 aa (af ?_)
 refine aK (al 2 aa (aI aa (fun z=>?_) (fun z=>?_)))
 ·have A:pW s=(({}:Stmt),(((eE s).2.1:Nat):Int),(eE s).2.2):=aw (by simpa using z)
  refine al 6 aa (ax ?_)
  exact bx rfl rfl (by rw[A];rfl)
 have he:(eE s).2.2=0:=by simpa using z
 have G:=vD he
 rw[DC.q7 (C6 he)]
 have A:pW s=lP rI (eE s).1:=aj (fun k=>k he)
 refine aQ (ai (ae 1 aa (ak (cO (Rh F (leaf F X) G) aa aa ?_))))
 refine ae 6 aa (af ?_)
 refine ax ?_
 exact bx rfl rfl (by rw[A];rfl)
set_option maxHeartbeats 1000000 in
theorem Vx{T:bd}(F:FT T)(s:List UInt8):Sound T 17 [dS s] fun r=>r= .tuple [ez (pW s).1.enc,dI (pW s).2.1,dI (pW s).2.2]:=by
 refine eh F.f17 aa (al 3 aa (ai (ae 1 aa (ak (cO (R:=.tuple [.d (.e9 ((eE s).1.map cb.enc)),dI ((eE s).2.1:Nat),dI (eE s).2.2]) (EZ F s) aa aa ?_)))))
 refine ae 7 aa (af ?_)
 refine aK (al 2 aa (aI aa (fun z=>?_) (fun z=>?_)))
 ·have A:pW s=(({}:Stmt),(((eE s).2.1:Nat):Int),(eE s).2.2):=aw (by simpa using z)
  refine al 6 aa (ax ?_)
  exact bx rfl rfl (by rw[A];rfl)
 have he:(eE s).2.2=0:=by simpa using z
 have G:=vD he
 rw[DC.q7 (C6 he)]
 have A:pW s=lP rI (eE s).1:=aj (fun k=>k he)
 refine aQ (ai (ae 1 aa (ak (cO (Ri F (O6 F) G) aa aa ?_))))
 refine ae 6 aa (af ?_)
 refine ax ?_
 exact bx rfl rfl (by rw[A];rfl)
set_option maxHeartbeats 1000000 in
theorem Vy{T:bd}(F:FT T)(X:FX T)(s:List UInt8):Sound T 14 [dS s] fun r=>r= .tuple [ez (pQ s).1.enc,dI (pQ s).2.1,dI (pQ s).2.2]:=by
 refine eh F.f14 aa (al 3 aa (ai (ae 1 aa (ak (cO (R:=.tuple [.d (.e9 ((eE s).1.map cb.enc)),dI ((eE s).2.1:Nat),dI (eE s).2.2]) (O7 F X s) aa aa ?_)))))
 refine ae 7 aa (af ?_)
 refine aK (al 2 aa (aI aa (fun z=>?_) (fun z=>?_)))
 ·have A:pQ s=((⟨[],[]⟩:jC),(((eE s).2.1:Nat):Int),(eE s).2.2):=aw (by simpa using z)
  refine al 6 aa (ax ?_)
  exact bx rfl rfl (by rw[A];rfl)
 have he:(eE s).2.2=0:=by simpa using z
 have G:=vD he
 rw[DC.q7 (C6 he)]
 have A:pQ s=lN rI (eE s).1:=aj (fun k=>k he)
 refine aQ (ai (ae 1 aa (ak (cO (Q6 F (leaf F X) G) aa aa ?_))))
 refine ae 6 aa (af ?_)
 refine ax ?_
 exact bx rfl rfl (by rw[A];rfl)
set_option maxHeartbeats 1000000 in
theorem Ui{T:bd}(F:FT T)(s:List UInt8):Sound T 18 [dS s] fun r=>r= .tuple [ez (pQ s).1.enc,dI (pQ s).2.1,dI (pQ s).2.2]:=by
 refine eh F.f18 aa (al 3 aa (ai (ae 1 aa (ak (cO (R:=.tuple [.d (.e9 ((eE s).1.map cb.enc)),dI ((eE s).2.1:Nat),dI (eE s).2.2]) (EZ F s) aa aa ?_)))))
 refine ae 7 aa (af ?_)
 refine aK (al 2 aa (aI aa (fun z=>?_) (fun z=>?_)))
 ·have A:pQ s=((⟨[],[]⟩:jC),(((eE s).2.1:Nat):Int),(eE s).2.2):=aw (by simpa using z)
  refine al 6 aa (ax ?_)
  exact bx rfl rfl (by rw[A];rfl)
 have he:(eE s).2.2=0:=by simpa using z
 have G:=vD he
 rw[DC.q7 (C6 he)]
 have A:pQ s=lN rI (eE s).1:=aj (fun k=>k he)
 refine aQ (ai (ae 1 aa (ak (cO (Q7 F (O6 F) G) aa aa ?_))))
 refine ae 6 aa (af ?_)
 refine ax ?_
 exact bx rfl rfl (by rw[A];rfl)
set_option maxHeartbeats 1000000 in
theorem Vz{T:bd}(F:FT T)(X:FX T)(s:List UInt8):Sound T 7 [dS s] fun r=>r=dB true:=by
 refine eh F.f7 aa (al 1 aa (ai (ae 1 aa (ak (cO (Wy F X s) aa aa ?_)))))
 refine ae 8 aa (af ?_)
 refine ai (ae 1 aa (ak (cO (Vx F s) aa aa ?_)))
 refine ae 8 aa (af ?_)
 refine ai (ae 1 aa (ak (cO (Vy F X s) aa aa ?_)))
 refine ae 8 aa (af ?_)
 refine ai (ae 1 aa (ak (cO (Ui F s) aa aa ?_)))
 refine ae 8 aa (af ?_)
 refine ai (ae 2 aa (ak (Dw aa aa ?_)))
 refine ae 1 aa (ao aa aa (bN aa ?_))
 refine ao aa aa (bN aa ?_)
 refine ao aa aa (Dw aa aa ?_)
 refine ae 2 aa (ao aa aa (pG aa aa (bO aa) (bO aa) ?_))
 refine ao aa aa (pG aa aa (bO aa) (bO aa) ?_)
 refine ao aa aa (cO (Xu F Ta) aa aa ?_)
 refine ae 2 aa (ao aa aa (bN aa ?_))
 refine ao aa aa (bN aa ?_)
 refine ao aa aa (Dw aa aa ?_)
 refine ae 2 aa (ao aa aa (bN aa ?_))
 refine ao aa aa (bN aa ?_)
 refine ao aa aa (Dw aa aa ?_)
 refine ae 2 aa (ao aa aa (pG aa aa (bO aa) (bO aa) ?_))
 refine ao aa aa (pG aa aa (bO aa) (bO aa) ?_)
 refine ao aa aa (cO (O' F Sm) aa aa ?_)
 refine ae 2 aa (af ?_)
 exact ax (bx aa aa aa)
open Go
set_option maxRecDepth 10000
set_option maxHeartbeats 2000000 in
theorem I9{T:bd}(F:FT T){A:List cb}{d:DC}(J:pD (A.map cb.enc) d)(ht:∀t∈A,yR t)(hl:A.length≤1010):Sound T 22 [.d d] fun r=>∃s:List UInt8,r= .d (cB s):=by
 refine eh F.f22 aa (al 1 aa (al 1 aa (aK (al 1 aa (G1 3 1101 5 1 1 aa aa (bJ (dY (fun k VE B=>∃(i:Nat)(b:List UInt8),i≤A.length∧k=A.length-i∧b.length≤500*i∧br [(0,.d d),(2,.d (cB [])),(3,.ac 1101 (b.map fE).length 1),(4,.d (.i .i64 (i:Nat)))] VE∧br [(1101,.acc 5 1 1 (b.map fE))] B) ?_ (k:=A.length) ⟨0,[],da _,aa,da _,⟨aa,aa,aa,aa,trivial⟩,aa,trivial⟩)))))))
 rintro k VE B⟨i,b,hi,rfl,hb,K,O⟩
 refine dn _ _ K O (aK (ai (ae 2 aa (ak (C4 aa J ?_)))))
 rw[bZ]
 refine ae 1 aa (af ?_)
 refine aI aa (fun h9=>?_) (fun h9=>?_)
 ·have m9:i<A.length:=by simp at h9;omega
  obtain⟨t,he⟩:∃t,A[i]?=some t:=⟨_,eP m9⟩
  have z:(A.map cb.enc)[i]?=some t.enc:=by rw[im,he];rfl
  have G:=ht t (kY he)
  have l8:¬t.kind=6:=fun e=>by have:=G.1.kind;omega
  refine aQ (aK (bJ (aK (ai (ae 2 aa (ak (vT aa J aa z aa ?_)))))))
  refine ae 1 aa ?_
  refine ak (cO (NI F t.pos G.1 (by have:=G.2;omega)) rfl rfl ?_)
  refine ae 1 aa (af ?_)
  refine aI aa (fun rX=>?_) (fun rX=>?_)
  ·exact al 1 aa (ax (bx aa aa ⟨[],aa⟩))
  refine aQ (aK (ai (ae 2 aa (ak (vT aa J aa z aa ?_)))))
  refine ae 3 aa (af ?_)
  refine aI aa (fun Y=>?_) (fun Y=>?_)
  ·exact absurd (by simpa using Y) l8
  refine aQ (vY (fun VE B=>∃b1:List UInt8,b1.length≤500*i+1∧br [(0,.d d),(2,.d (cB [])),(3,.ac 1101 (b1.map fE).length 1),(4,.d (.i .i64 (i:Nat)))] VE∧br [(1101,.acc 5 1 1 (b1.map fE))] B) ?_ ?_)
  ·rintro VE B⟨b1,hb1,K,O⟩
   refine dn _ _ K O (aK (ai (ae 2 aa (ak (vT aa J aa z aa ?_)))))
   refine ae 3 aa (af ?_)
   refine aI aa (fun JN=>?_) (fun JN=>?_)
   ·have Z:=G.2
    refine ai (ae 3 aa (ak (vT aa J aa z aa ?_)))
    refine ae 2 aa ?_
    refine ak (S3 rfl rfl rfl (by rw[bC,bZ,bZ];omega) (fun h=>by rw[h];rfl) (fun h=>by rw[h];rfl) ?_)
    refine ae 1 aa (af ?_)
    refine dD (bD (ae 1 aa ?_))
    refine ak (cM rfl rfl (by omega) ?_)
    refine ae 1 aa (af ?_)
    exact⟨A.length-(i+1),by omega,i+1,b1++t.text,by omega,rfl,by rw[bC];omega,by rw[dr];exact⟨rfl,rfl,rfl,rfl,trivial⟩,by rw[dr];exact⟨rfl,trivial⟩⟩
   have Z:=G.2
   refine aQ (ai (ae 2 aa ?_))
   refine ak (dZ (rows:=b1.map fE) (ys:=[fE 39]) rfl rfl rfl (.bs (rows:=[fE 39]) rfl) (bO rfl) (by rw[bC,bZ];simp only[cP,dx];omega) (fun h=>by rw[h];rfl) (fun h=>by rw[h];rfl) ?_)
   refine ae 1 aa (af ?_)
   refine aK (al 1 aa (bJ ?_))
   refine dY (fun k VE B=>∃(j:Nat)(I:List UInt8),j≤t.text.length∧k=t.text.length-j∧I.length≤500*i+2+2*j∧br [(0,.d d),(2,.d (cB [])),(3,.ac 1101 (I.map fE).length 1),(4,.d (.i .i64 (i:Nat))),(5,.d (.i .i64 (j:Nat)))] VE∧br [(1101,.acc 5 1 1 (I.map fE))] B) ?_ (k:=t.text.length) ⟨0,b1++[39],da _,rfl,by rw[bC,dU];omega,by rw[dr];exact⟨rfl,rfl,rfl,rfl,rfl,trivial⟩,by rw[dr];exact⟨rfl,trivial⟩⟩
   rintro k VE B⟨j,I,hj,rfl,hb3,K,O⟩
   refine dn _ _ K O (aK (ai (ae 3 aa (ak (vT aa J aa z aa ?_)))))
   refine ae 4 aa (af ?_)
   refine aI aa (fun Gb=>?_) (fun Gb=>?_)
   ·have hj2:j<t.text.length:=by simp at Gb;omega
    obtain⟨c,hc⟩:=jD hj2
    refine aQ (aK (bJ (vY (fun VE B=>∃U:List UInt8,U.length≤500*i+3+2*j∧br [(0,.d d),(2,.d (cB [])),(3,.ac 1101 (U.map fE).length 1),(4,.d (.i .i64 (i:Nat))),(5,.d (.i .i64 (j:Nat)))] VE∧br [(1101,.acc 5 1 1 (U.map fE))] B) ?_ ?_)))
    ·rintro VE B⟨U,hb4,K,O⟩
     refine dn _ _ K O (bD (ae 3 aa (ak (vT aa J aa z aa ?_))))
     refine ae 3 aa (ak (fG aa aa hc ?_))
     refine ae 1 aa ?_
     refine ak (dZ (rows:=U.map fE) (ys:=[fE c]) rfl rfl rfl (.bs (rows:=[fE c]) rfl) (bO rfl) (by rw[bC,bZ];simp only[cP,dx];omega) (fun h=>by rw[h];rfl) (fun h=>by rw[h];rfl) ?_)
     refine ae 1 aa (af ?_)
     refine bD (ae 1 aa ?_)
     refine ak (cM rfl rfl (by omega) ?_)
     refine ae 1 aa (af ?_)
     exact⟨t.text.length-(j+1),by omega,j+1,U++[c],by omega,rfl,by rw[bC,dU];omega,by rw[dr];exact⟨rfl,rfl,rfl,rfl,rfl,trivial⟩,by rw[dr];exact⟨rfl,trivial⟩⟩
    refine ai (ae 2 aa (ak (vT aa J aa z aa ?_)))
    refine ae 3 aa (ak (fG aa aa hc ?_))
    refine ae 1 aa (af ?_)
    refine aI aa (fun h63=>?_) (fun h63=>?_)
    ·refine bD (ae 2 aa ?_)
     refine ak (dZ (rows:=I.map fE) (ys:=[fE 39]) rfl rfl rfl (.bs (rows:=[fE 39]) rfl) (bO rfl) (by rw[bC,bZ];simp only[cP,dx];omega) (fun h=>by rw[h];rfl) (fun h=>by rw[h];rfl) ?_)
     refine ae 1 aa (af ?_)
     exact⟨I++[39],by rw[bC,dU];omega,by rw[dr];exact⟨rfl,rfl,rfl,rfl,rfl,trivial⟩,by rw[dr];exact⟨rfl,trivial⟩⟩
    refine aQ ?_
    exact⟨I,by omega,⟨rfl,rfl,rfl,rfl,rfl,trivial⟩,rfl,trivial⟩
   refine dD (bD (ae 2 aa ?_))
   refine ak (dZ (rows:=I.map fE) (ys:=[fE 39]) rfl rfl rfl (.bs (rows:=[fE 39]) rfl) (bO rfl) (by rw[bC,bZ];simp only[cP,dx];omega) (fun h=>by rw[h];rfl) (fun h=>by rw[h];rfl) ?_)
   refine ae 1 aa (af ?_)
   refine bD (ae 1 aa ?_)
   refine ak (cM rfl rfl (by omega) ?_)
   refine ae 1 aa (af ?_)
   exact⟨A.length-(i+1),by omega,i+1,I++[39],by omega,rfl,by rw[bC,dU];omega,by rw[dr];exact⟨rfl,rfl,rfl,rfl,trivial⟩,by rw[dr];exact⟨rfl,trivial⟩⟩
  refine ai (ae 1 aa (ak (xv aa ?_)))
  refine ae 1 aa (af ?_)
  refine aI aa (fun nM=>?_) (fun nM=>?_)
  ·refine bD (ae 2 aa ?_)
   refine ak (dZ (rows:=b.map fE) (ys:=[fE 32]) rfl rfl rfl (.bs (rows:=[fE 32]) rfl) (bO rfl) (by rw[bC,bZ];simp only[cP,dx];omega) (fun h=>by rw[h];rfl) (fun h=>by rw[h];rfl) ?_)
   refine ae 1 aa (af ?_)
   exact⟨b++[32],by rw[bC,dU];omega,by rw[dr];exact⟨rfl,rfl,rfl,rfl,trivial⟩,by rw[dr];exact⟨rfl,trivial⟩⟩
  refine aQ ?_
  exact⟨b,by omega,⟨rfl,rfl,rfl,rfl,trivial⟩,rfl,trivial⟩
 refine dD (ai (ae 1 aa ?_))
 rw[bZ]
 refine ak (GR aa aa ?_)
 refine ae 1 aa (af ?_)
 exact ax (bx aa aa ⟨_,aa⟩)
open Go
set_option maxRecDepth 10000
def QS(n:Nat):List DC:=[.i .u16 (n:Int)]
theorem Wz{T:bd}(F:FT T)(o:Option (List Nat))(ho:∀n∈mv o,n<65536):Sound T 8 [.d (qE QS o)] fun r=>r= .d (cB (qA ((mv o).take 100))):=by
 refine eh F.f8 aa (al 1 aa (ai (ae 1 aa (gq 6 6 aa aa (fun _=>⟨aa,aa⟩) (ae 1 aa (af ?_))))))
 refine al 1 aa (aK (al 1 aa (bJ (dY (fun k VE B=>∃(i:Nat),i≤100∧k=100-i∧(qA ((mv o).take i)).length≤24*i∧br [(0,.d (qE QS o)),(3,.d (.sl HL)),(4,.d (cB (qA ((mv o).take i)))),(5,.d (.i .i64 (i:Nat)))] VE∧br [] B) ?_ (k:=100) ⟨0,da _,aa,da _,⟨aa,aa,aa,aa,trivial⟩,trivial⟩))))
 rintro k VE B⟨i,hi,rfl,U,J,K⟩
 refine dn _ _ J K (aK (ai (ae 2 aa (ak (My aa ?_)))))
 refine ak (OR aa aa ?_)
 refine ae 1 aa (dc (g:=aS) aa (fun h=>?_) (fun h=>?_))
 ·have z:i<(mv o).length:=by simpa using h
  obtain⟨n,A⟩:∃n,(mv o)[i]?=some n:=⟨_,eP z⟩
  have O:n<65536:=ho n (kY A)
  refine ao aa h (bN aa ?_)
  refine ao aa h (OR aa aa ?_)
  refine ak (cT aa h aa ?_)
  refine af (aI aa (fun h=>?_) (fun h=>?_))
  ·have G:i<100:=by simp at h;omega
   have hp:=Uf n
   have I:=RI A
   refine aQ (aK (bJ (bD (ae 1 aa ?_))))
   refine ak (CU (b:=[32]) rfl rfl (by rw[dU];omega) ?_)
   refine ae 3 aa (ak (CP aa aa A aa ?_))
   refine ak (mb aa aa ?_)
   refine ak (zE rfl (by omega) ?_)
   refine ae 1 aa (ak (Ak aa ?_))
   refine ak (tU rfl rfl (by decide) ?_)
   refine ak (kR aa aa (Sk n) aa ?_)
   refine ak (mb aa aa ?_)
   refine ak (CU rfl rfl (by rw[bC,dU];omega) ?_)
   rw[←I]
   refine ae 1 aa (af ?_)
   refine bD (ae 1 aa ?_)
   refine ak (cM rfl rfl (by omega) ?_)
   refine ae 1 aa (af ?_)
   exact⟨100-(i+1),by omega,i+1,G,rfl,by rw[I,bC,bC,dU];omega,⟨rfl,rfl,rfl,rfl,trivial⟩,trivial⟩
  obtain rfl:i=100:=by simp at h;omega
  exact dD (al 2 aa (ax (bx aa aa aa)))
 have he:(mv o).take i=(mv o).take 100:=by rw[pf (by simp at h;omega),pf (by simp at h;omega)]
 refine aO aa h (aO aa h (ak (cJ aa h aa ?_)))
 refine af (eC aa aa (dD (al 2 aa (ax ?_))))
 exact bx rfl rfl (by rw[←he];rfl)
def B0(p:Nat×Nat):List DC:=[.i .u16 (p.1:Int),.i .u16 (p.2:Int)]
theorem vc{z:List cb}:∀row,row∈z.map cb.enc→row.length=3:=fun row h=>by
 obtain⟨t,_,rfl⟩:=List.mem_map.1 h
 rfl
theorem yS{z:List cb}{l n:Nat}:∀row,row∈((z.map cb.enc).drop l).take n→row.length=3:=fun row h=>vc row (E5 (AZ h))
theorem wO(z:List cb)(l n:Nat):((z.map cb.enc).drop l).take n=((z.drop l).take n).map cb.enc:=by rw[List.map_take,HQ]
theorem yT{z:List cb}{l n:Nat}{t:cb}(h:t∈(z.drop l).take n):t∈z:=E5 (AZ h)
set_option maxHeartbeats 4000000 in
theorem VA{T:bd}(F:FT T)(s:List UInt8)(o:Option (List (Nat×Nat)))(ho:∀p∈mv o,p.1<65536∧p.2<65536):Sound T 9 [.d (cB s),.d (qE B0 o)] fun r=>∃z:List UInt8,r= .d (cB z):=by
 refine eh F.f9 aa (al 1 aa (ai (ae 1 aa (ak (cO (EZ F s) aa aa ?_)))))
 refine ae 7 aa (af ?_)
 refine aK (ai (ae 1 aa (ak (hO aa ?_))))
 rw[bZ]
 refine ae 1 aa (af ?_)
 refine aI aa (fun Y=>?_) (fun Y=>?_)
 ·exact al 2 aa (ax (bx aa aa ⟨s,aa⟩))
 obtain⟨A,p,e,O,hl⟩:=(Lt s).resolve_left fun k=>by(rw[k] at Y;exact absurd Y (by decide))
 have Z:pD ((A++[(⟨6,p,[]⟩:cb)]).map cb.enc) (.e9 ((eE s).1.map cb.enc)):=by rw[←e];exact pD.acc _
 have hle:(eE s).1.length=A.length+1:=by rw[e];simp
 refine aQ (ai (ae 2 aa (ak (C4 aa Z ?_))))
 rw[bZ,bC,dU]
 refine ak (gm rfl rfl (by simp only[bb];omega) (by simp only[bb];omega) ?_)
 rw[show((A.length+1:Nat):Int) -Int.ofNat 1=((A.length:Nat):Int) by simp]
 refine ak (vZ (l:=0) (h:=A.length) rfl Z vc (by simp) ⟨_,rfl⟩ rfl (by omega) (by simp) ?_)
 have Bw:(((A++[(⟨6,p,[]⟩:cb)]).map cb.enc).drop 0).take (A.length-0)=A.map cb.enc:=by rw[wO];simp
 rw[Bw]
 refine ae 1 aa (af ?_)
 refine aK (al 1 aa (bJ ?_))
 refine dY (fun k VE B=>∃(i:Nat)(A:List cb)(d:DC),i≤3∧k=3-i∧(∀t∈A,yR t)∧A.length≤1000+i∧pD (A.map cb.enc) d∧br [(1,.d (qE B0 o)),(5,.d d),(8,.d (.i .i64 (i:Nat)))] VE∧br [] B) ?_ (k:=3) ⟨0,A,_,by decide,rfl,O,hl,.inl rfl,⟨rfl,rfl,rfl,trivial⟩,trivial⟩
 clear Z hle e O hl Bw
 rintro _ VE B⟨i,A,d,hi,rfl,O,hl,U,hV,hB⟩
 refine dn _ _ hV hB (aK (ai (ae 2 aa (ak (My aa ?_)))))
 refine ae 2 aa (dc (g:=cj) aa (fun J=>?_) (fun J=>?_))
 ·have m9:i<(mv o).length:=by simpa using J
  obtain⟨q,hx⟩:∃q,(mv o)[i]?=some q:=⟨_,eP m9⟩
  have hq:=ho q (kY hx)
  refine ao aa (J) (bN aa ?_)
  refine ao aa (J) (Dn aa aa ?_)
  refine ak (cT aa (J) aa ?_)
  refine ae 1 aa (dc (g:=cS) aa (fun G=>?_) (fun G=>?_))
  ·have BO:i+1≤3:=by(simp at G;omega)
   refine ao aa (G) (bN aa ?_)
   refine ao aa (G) (C4 aa U ?_)
   rw[bZ]
   refine ao aa (G) (sC aa aa ?_)
   refine ak (cT aa (G) aa ?_)
   refine af (aI aa (fun QT=>?_) (fun QT=>?_))
   ·have qQ:0<A.length:=by simpa using QT
    have K:0<(A.map cb.enc).length:=by rw[bZ];exact qQ
    refine aQ (aK (bJ (ai (ae 2 aa (ak (CP aa aa hx aa ?_))))))
    refine ak (GC rfl (k:=.i64) (j:=0) rfl (by decide) ?_)
    refine ae 1 aa ?_
    refine ak (zE rfl (by omega) ?_)
    refine ae 1 aa (ak (C4 aa U ?_))
    rw[bZ]
    refine ak (tU aa aa qQ ?_)
    obtain⟨k,hk,BB⟩:∃k,k=q.1 % A.length∧k<A.length:=⟨_,rfl,jR _ qQ⟩
    rw[←hk]
    refine ae 1 aa (af ?_)
    refine ai (ae 2 aa (ak (CP aa aa hx aa ?_)))
    refine ak (GC rfl (k:=.i64) (j:=1) rfl (by decide) ?_)
    refine ae 1 aa ?_
    refine ak (tU (b:=4) rfl rfl (by decide) ?_)
    refine af (bJ (al 2 aa (aI aa (fun h85=>?_) (fun h85=>?_))))
    ·refine iw (bk 2 aa ?_)
     refine c8 (vZ (l:=0) (h:=k) rfl U vc K ⟨_,rfl⟩ rfl (by omega) (by rw[bZ];omega) ?_)
     refine eo rfl (CQ 90 rfl rfl rfl rfl rfl (.sl yS) (by decide) (by simp only[bC,jw,gy,bZ,cP,dx];omega) ?_)
     refine bk 2 aa ?_
     refine c8 (cM rfl rfl (by omega) ?_)
     refine c8 (vZ (l:=k+1) (h:=A.length) rfl U vc K (bZ ..).symm ⟨_,rfl⟩ (by omega) (by rw[bZ];omega) ?_)
     refine eo rfl (dZ rfl rfl rfl (.sl yS) (by decide) (by simp only[bC,jw,gy,bZ,cP,dx];omega) (fun h=>by rw[h];rfl) (fun h=>by rw[h];rfl) ?_)
     refine bk 1 aa (c6 ?_)
     refine bD (fo 5 90 (rows:=((A.map cb.enc).drop 0).take (k-0)++((A.map cb.enc).drop (k+1)).take (A.length-(k+1))) aa aa (fun _=>⟨aa,aa⟩) (ae 1 aa ?_))
     refine ak (cM rfl rfl (by omega) ?_)
     refine ae 1 aa (af ?_)
     refine⟨3-(i+1),by omega,i+1,(A.drop 0).take (k-0)++(A.drop (k+1)).take (A.length-(k+1)),_,BO,rfl,fun t I=>by
      rcases List.mem_append.1 I with I|I
      ·exact O t (yT I)
      exact O t (yT I),?_,?_,⟨aa,aa,aa,trivial⟩,trivial⟩
     ·simp only[bC,jw,gy,dU];omega
     rw[dr,←wO,←wO];exact pD.acc _
    refine al 2 aa (aI aa (fun h96=>?_) (fun h96=>?_))
    ·refine iw (bk 2 aa ?_)
     refine c8 (cM rfl rfl (by omega) ?_)
     refine c8 (vZ (l:=0) (h:=k+1) rfl U vc K ⟨_,rfl⟩ rfl (by omega) (by rw[bZ];omega) ?_)
     refine eo rfl (CQ 102 rfl rfl rfl rfl rfl (.sl yS) (by decide) (by simp only[bC,jw,gy,bZ,cP,dx];omega) ?_)
     refine bk 2 aa ?_
     refine c8 (vZ (l:=k) (h:=A.length) rfl U vc K (bZ ..).symm ⟨_,rfl⟩ (by omega) (by rw[bZ];omega) ?_)
     refine eo rfl (dZ rfl rfl rfl (.sl yS) (by decide) (by simp only[bC,jw,gy,bZ,cP,dx];omega) (fun h=>by rw[h];rfl) (fun h=>by rw[h];rfl) ?_)
     refine bk 1 aa (c6 ?_)
     refine bD (fo 5 102 (rows:=((A.map cb.enc).drop 0).take (k+1-0)++((A.map cb.enc).drop k).take (A.length-k)) aa aa (fun _=>⟨aa,aa⟩) (ae 1 aa ?_))
     refine ak (cM rfl rfl (by omega) ?_)
     refine ae 1 aa (af ?_)
     refine⟨3-(i+1),by omega,i+1,(A.drop 0).take (k+1-0)++(A.drop k).take (A.length-k),_,BO,rfl,fun t I=>by
      rcases List.mem_append.1 I with I|I
      ·exact O t (yT I)
      exact O t (yT I),?_,?_,⟨aa,aa,aa,trivial⟩,trivial⟩
     ·simp only[bC,jw,gy,dU];omega
     rw[dr,←wO,←wO];exact pD.acc _
    refine ai (ae 2 aa (ak (CP aa aa hx aa ?_)))
    refine ak (GC rfl (k:=.i64) (j:=1) rfl (by decide) ?_)
    refine ae 1 aa ?_
    refine ak (Ue (b:=4) rfl rfl (by omega) (Wx (by omega) (by omega)) ?_)
    refine ae 1 aa (gq 65 65 aa aa (fun _=>⟨aa,aa⟩) ?_)
    refine ak (cO (Wz F (some [q.2/4]) (fun n hn=>by rcases List.mem_singleton.1 hn with rfl;omega)) rfl rfl ?_)
    obtain⟨t0,r0,hw0,ht0⟩:=Xs (q.2/4)
    refine ak (cO (EZ F _) aa aa ?_)
    refine ae 7 aa (af ?_)
    refine iw (bk 2 aa ?_)
    refine c8 (vZ (l:=0) (h:=k) rfl U vc K ⟨_,rfl⟩ rfl (by omega) (by rw[bZ];omega) ?_)
    refine eo rfl (VI.fresh rfl (CQ 74 rfl rfl rfl rfl rfl (.sl yS) (by decide) (by simp only[bC,jw,gy,bZ,cP,dx];omega) ?_))
    refine bk 1 aa ?_
    refine c8 (jF (j:=0) (row:=t0.enc) rfl rfl (by rw[show(eE (qA ((mv (some [q.2/4])).take 100))).1=t0::r0 from hw0];rfl) rfl ?_)
    refine bk 2 aa ?_
    refine eo rfl (dZ (ys:=[t0.enc]) rfl rfl rfl (.bs (rows:=[t0.enc]) rfl) (by decide) (by simp only[bC,jw,gy,bZ,cP,dx];omega) (fun h=>by rw[h];rfl) (fun h=>by rw[h];rfl) ?_)
    refine bk 2 aa ?_
    refine c8 (cM rfl rfl (by omega) ?_)
    refine c8 (vZ (l:=k+1) (h:=A.length) rfl U vc K (bZ ..).symm ⟨_,rfl⟩ (by omega) (by rw[bZ];omega) ?_)
    refine eo rfl (dZ rfl rfl rfl (.sl yS) (by decide) (by simp only[bC,jw,gy,bZ,cP,dx];omega) (fun h=>by simp at h) (fun h=>by simp at h) ?_)
    refine bk 1 aa (c6 ?_)
    refine bD (fo 5 74 (rows:=((A.map cb.enc).drop 0).take (k-0)++[t0.enc]++((A.map cb.enc).drop (k+1)).take (A.length-(k+1))) aa aa (fun _=>⟨aa,aa⟩) (ae 1 aa ?_))
    refine ak (cM rfl rfl (by omega) ?_)
    refine ae 1 aa (af ?_)
    refine⟨3-(i+1),by omega,i+1,(A.drop 0).take (k-0)++[t0]++(A.drop (k+1)).take (A.length-(k+1)),_,BO,rfl,fun t I=>by
     rcases List.mem_append.1 I with I|I
     ·rcases List.mem_append.1 I with I|I
      ·exact O t (yT I)
      rcases List.mem_singleton.1 I with rfl;exact ht0
     exact O t (yT I),?_,?_,⟨aa,aa,aa,trivial⟩,trivial⟩
    ·simp only[bC,jw,gy,dU];omega
    rw[dr,dr,←wO,←wO];exact pD.acc _
   refine dD (ai (ae 1 aa ?_))
   refine ak (mO rfl (qy rfl) (I9 F U O (by omega)) fun r _ hr=>?_)
   obtain⟨z,rfl⟩:=hr
   refine ae 1 aa (af ?_)
   exact ax (bx aa aa ⟨z,aa⟩)
  refine aO aa (G) (aO aa (G) (aO aa (G) (ak (cJ aa (G) aa ?_))))
  refine af (eC aa aa (dD (ai (ae 1 aa ?_))))
  refine ak (mO rfl (qy rfl) (I9 F U O (by omega)) fun r _ hr=>?_)
  obtain⟨z,rfl⟩:=hr
  refine ae 1 aa (af ?_)
  exact ax (bx aa aa ⟨z,aa⟩)
 refine aO aa (J) (aO aa (J) (ak (cJ aa (J) aa ?_)))
 refine ae 1 aa (aO aa aa (aO aa aa (aO aa aa (ae 1 aa (af ?_)))))
 refine eC aa aa (dD (ai (ae 1 aa ?_)))
 refine ak (mO rfl (qy rfl) (I9 F U O (by omega)) fun r _ hr=>?_)
 obtain⟨z,rfl⟩:=hr
 refine ae 1 aa (af ?_)
 exact ax (bx aa aa ⟨z,aa⟩)
open Go
set_option maxRecDepth 10000
def Gc(n:Nat):List (List DC)→Prop
 |[]=>True
 |[d]::r=>qH n d∧Gc n r
 |_=>False
theorem Gc.get{n:Nat}:∀{rows:List (List DC)},Gc n rows→∀j,j<rows.length→∃d,rows[j]?=some [d]∧qH n d
 |[],_,j,z=>by cases z
 |r::rs,h,j,z=>by
  match r,h with
  |[d],h=>cases j with
   |zero=>exact⟨d,rfl,h.1⟩
   |succ j=>exact h.2.get j (NM z)
def u16(a:Nat):VV:=.d (.i .u16 (a:Int))
set_option maxHeartbeats 2000000 in
theorem Xv{T:bd}(F:FT T){a:Nat}(b c d:Nat)(ha:a<65536):Sound T 12 [.agg [u16 a,u16 b,u16 c,u16 d]] fun r=>∃s,r= .d s∧qH 400 s:=by
 refine eh F.f12 aa (al 2 aa (ai (ae 1 aa ?_)))
 refine ak (md rfl (k:=.i64) (j:=1) rfl (by decide) ?_)
 refine ae 1 aa ?_
 refine ak (tU (b:=4) rfl rfl (by decide) ?_)
 obtain⟨d12,O,G⟩:=(C3 (n:=4) (k:=4) (rows:=[[.s 1 48],[.s 1 49],[.s 3 3219501],[.s 4 1280070990]]) (by decide+kernel) rfl).2 (b % 4) (jR _ (by decide))
 refine ak (zS rfl rfl (jR _ (by decide)) ?_)
 refine ak (zu rfl rfl (bV _) (bV _) (jR _ (by decide)) O rfl ?_)
 refine ae 1 aa (af ?_)
 refine ai (ae 1 aa ?_)
 refine ak (md rfl (k:=.i64) (j:=2) rfl (by decide) ?_)
 refine ae 1 aa ?_
 refine ak (tU (b:=3) rfl rfl (by decide) ?_)
 obtain⟨d18,U,Y⟩:=(C3 (n:=5) (k:=3) (rows:=[[.s 2 10023],[.s 3 2580775],[.s 5 168160616999]]) (by decide+kernel) rfl).2 (c % 3) (jR _ (by decide))
 refine ak (zS rfl rfl (jR _ (by decide)) ?_)
 refine ak (zu rfl rfl (bV _) (bV _) (jR _ (by decide)) U rfl ?_)
 refine ae 1 aa (af ?_)
 refine eZ (bk 1 aa ?_)
 refine c8 (md rfl (k:=.i64) (j:=3) rfl (by decide) ?_)
 refine bk 1 aa ?_
 refine c8 (tU (b:=2) rfl rfl (by decide) ?_)
 obtain⟨d24,Z,z⟩:=(C3 (n:=1) (k:=2) (rows:=[[.s 1 116],[.s 1 117]]) (by decide+kernel) rfl).2 (d % 2) (jR _ (by decide))
 refine c8 (zS rfl rfl (jR _ (by decide)) ?_)
 refine eo rfl (zu rfl rfl (bV _) (bV _) (jR _ (by decide)) Z rfl ?_)
 refine bk 1 aa ?_
 refine c8 (md rfl (k:=.i64) (j:=3) rfl (by decide) ?_)
 refine bk 1 aa ?_
 refine c8 (tU (b:=2) rfl rfl (by decide) ?_)
 obtain⟨d30,e30,A⟩:=(C3 (n:=1) (k:=2) (rows:=[[.s 1 117],[.s 1 116]]) (by decide+kernel) rfl).2 (d % 2) (jR _ (by decide))
 refine c8 (zS rfl rfl (jR _ (by decide)) ?_)
 refine eo rfl (zu rfl rfl (bV _) (bV _) (jR _ (by decide)) e30 rfl ?_)
 refine bk 2 aa (c6 ?_)
 refine ai (ae 1 aa ?_)
 refine ak (gM rfl (iP (n:=14) (by decide+kernel)) rfl z (by decide) (fun d33 h33=>?_))
 refine ae 1 aa ?_
 refine ak (gM rfl (iP (n:=18) (by decide+kernel)) rfl z (by decide) (fun d35 JN=>?_))
 refine ak (gM rfl JN rfl (iP (n:=11) (by decide+kernel)) (by decide) (fun d36 wX=>?_))
 refine ae 1 aa ?_
 refine ak (gM rfl wX rfl G (by decide) (fun d38 wV=>?_))
 refine ak (gM rfl wV rfl (iP (n:=8) (by decide+kernel)) (by decide) (fun d39 h39=>?_))
 refine ae 1 aa ?_
 refine ak (gM rfl h39 rfl Y (by decide) (fun d41 r4=>?_))
 refine ae 1 aa ?_
 refine ak (gM rfl (iP (n:=14) (by decide+kernel)) rfl z (by decide) (fun d43 h43=>?_))
 refine ak (gM rfl h43 rfl (iP (n:=15) (by decide+kernel)) (by decide) (fun d44 h44=>?_))
 refine ae 1 aa ?_
 refine ak (gM rfl h44 rfl G (by decide) (fun d46 h46=>?_))
 refine ae 1 aa ?_
 refine ak (gM rfl (iP (n:=24) (by decide+kernel)) rfl z (by decide) (fun d48 rY=>?_))
 refine ae 1 aa ?_
 refine ak (gM rfl (iP (n:=35) (by decide+kernel)) rfl z (by decide) (fun d50 h50=>?_))
 refine ak (gM rfl h50 rfl (iP (n:=11) (by decide+kernel)) (by decide) (fun d51 BM=>?_))
 refine ae 1 aa ?_
 refine ak (gM rfl (iP (n:=34) (by decide+kernel)) rfl z (by decide) (fun d53 Gb=>?_))
 refine ak (gM rfl Gb rfl (iP (n:=11) (by decide+kernel)) (by decide) (fun d54 h54=>?_))
 refine ae 1 aa ?_
 refine ak (gM rfl h54 rfl G (by decide) (fun d56 vu=>?_))
 refine ae 1 aa ?_
 refine ak (gM rfl (iP (n:=26) (by decide+kernel)) rfl z (by decide) (fun d58 BU=>?_))
 refine ak (gM rfl BU rfl (iP (n:=16) (by decide+kernel)) (by decide) (fun d59 h59=>?_))
 refine ae 1 aa ?_
 refine ak (gM rfl h59 rfl A (by decide) (fun d61 h61=>?_))
 refine ak (gM rfl h61 rfl (iP (n:=40) (by decide+kernel)) (by decide) (fun d62 wY=>?_))
 refine ae 1 aa ?_
 refine ak (gM rfl (iP (n:=14) (by decide+kernel)) rfl z (by decide) (fun d64 h64=>?_))
 refine ak (gM rfl h64 rfl (iP (n:=26) (by decide+kernel)) (by decide) (fun d65 h65=>?_))
 refine ae 1 aa ?_
 refine ak (gM rfl h65 rfl A (by decide) (fun d67 h67=>?_))
 refine ae 1 aa ?_
 refine ak (gM rfl (iP (n:=14) (by decide+kernel)) rfl z (by decide) (fun d69 h69=>?_))
 refine ak (gM rfl h69 rfl (iP (n:=29) (by decide+kernel)) (by decide) (fun d70 BZ=>?_))
 refine ae 1 aa ?_
 refine ak (gM rfl BZ rfl A (by decide) (fun d72 BW=>?_))
 refine ae 1 aa ?_
 refine ak (gM rfl (iP (n:=18) (by decide+kernel)) rfl z (by decide) (fun d74 h74=>?_))
 refine ak (gM rfl h74 rfl (iP (n:=29) (by decide+kernel)) (by decide) (fun d75 h75=>?_))
 refine ae 1 aa ?_
 refine ak (gM rfl h75 rfl A (by decide) (fun d77 h77=>?_))
 refine ae 1 aa ?_
 refine ak (gM rfl (iP (n:=23) (by decide+kernel)) rfl z (by decide) (fun d79 h79=>?_))
 refine ae 1 aa ?_
 refine ak (gM rfl (iP (n:=22) (by decide+kernel)) rfl z (by decide) (fun d81 BV=>?_))
 refine ae 1 aa ?_
 refine ak (gM rfl (iP (n:=14) (by decide+kernel)) rfl z (by decide) (fun d83 h83=>?_))
 refine ak (gM rfl h83 rfl (iP (n:=16) (by decide+kernel)) (by decide) (fun d84 BX=>?_))
 refine ae 1 aa ?_
 refine ak (gM rfl (iP (n:=23) (by decide+kernel)) rfl z (by decide) (fun d86 h86=>?_))
 refine ak (gM rfl h86 rfl (iP (n:=38) (by decide+kernel)) (by decide) (fun d87 h87=>?_))
 refine ae 1 aa ?_
 refine ak (gM rfl h87 rfl G (by decide) (fun d89 BY=>?_))
 refine ak (gM rfl BY rfl (iP (n:=6) (by decide+kernel)) (by decide) (fun d90 h90=>?_))
 refine ae 1 aa ?_
 refine ak (gM rfl h90 rfl A (by decide) (fun d92 h92=>?_))
 refine ae 2 aa (af ?_)
 refine ai (ae 1 aa ?_)
 refine ak (md rfl (k:=.i64) (j:=0) rfl (by decide) ?_)
 refine ae 1 aa ?_
 refine ak (zE rfl (by omega) ?_)
 refine ae 2 aa ?_
 refine ak (tU (b:=15) rfl rfl (by decide) ?_)
 obtain⟨I,J,K⟩:=Gc.get (n:=84) (rows:=[[d33],[d41],[d46],[d48],[d51],[d56],[.s 51 250802836897146067041583090060478008241135904689160299582463649850049496622166772829493036873657347118657512449423765685587],[d62],[d67],[d72],[d77],[d79],[d81],[d84],[d92]]) ⟨h33.mono (by decide),r4.mono (by decide),h46.mono (by decide),rY.mono (by decide),BM.mono (by decide),vu.mono (by decide),(iP (n:=51) (by decide+kernel)).mono (by decide),wY,h67.mono (by decide),BW.mono (by decide),h77.mono (by decide),h79.mono (by decide),BV.mono (by decide),BX.mono (by decide),h92.mono (by decide),trivial⟩ (a % 15) (jR _ (by decide))
 refine ak (zS rfl rfl (jR _ (by decide)) ?_)
 refine ak (zu rfl rfl (bV _) (bV _) (jR _ (by decide)) J rfl ?_)
 refine ae 1 aa (af ?_)
 refine ax ?_
 exact bx rfl rfl ⟨I,rfl,K.mono (by decide)⟩
theorem lawS{T:bd}(F:FT T)(X:FX T)(G:Sound T 6 [] fun r=>r= .d (.b true)){a:Nat}(b c d:Nat)(I:a<65536)(o:Option (List (Nat×Nat)))(ho:∀p∈mv o,p.1<65536∧p.2<65536):Sound T 5 [.agg [u16 a,u16 b,u16 c,u16 d],.d (qE B0 o)] fun r=>r= .d (.b true):=by
 refine eh F.f5 aa (al 2 aa (ai (ak (cO G aa aa ?_))))
 refine ae 1 aa ?_
 first|refine ao rfl (rfl) (pG rfl rfl (bO rfl) (bO rfl) ?_)|refine ao rfl (rfl) (mc rfl (bO rfl) (bO rfl) ?_)
 refine ao aa aa (mO aa (qy aa) (Xv F b c d I) (fun r _ A=>?_))
 obtain⟨_,rfl,s,rfl,_⟩:=A
 refine ao aa aa (bN aa ?_)
 refine ao aa aa (mO aa (qy aa) (VA F s o ho) (fun r _ A=>?_))
 obtain⟨z,rfl⟩:=A
 refine ao aa aa (cO (Vz F X z) aa aa ?_)
 refine ae 2 aa (af ?_)
 exact ax (bx aa aa aa)
theorem yU{n:Int}(h:(Lit.int .u16 n).wf=true):∃m:Nat,n=m∧m<65536:=by
 simp[Lit.wf,IntKind.min,IntKind.max,IntKind.signed,IntKind.bits] at h
 exact⟨n.toNat,(Int.toNat_of_nonneg h.1).symm,by omega⟩
theorem xV{k:IntKind}{ps:List nL}{r:List DC}(h:jh (.i k::ps) r):∃n q,r= .i k n::q∧(Lit.int k n).wf=true∧jh ps q:=by
 rw[jh] at h
 obtain⟨_,q,rfl,⟨n,rfl,z⟩,h⟩:=h
 exact⟨n,q,aa,z,h⟩
theorem HN{r:List DC}(h:jh [] r):r=[]:=by rwa [jh] at h
theorem fits_quad{r:List DC}(h:jh [.i .u16,.i .u16,.i .u16,.i .u16] r):∃a b c d:Nat,r=[.i .u16 a,.i .u16 b,.i .u16 c,.i .u16 d]∧a<65536:=by
 obtain⟨a,_,rfl,z,h⟩:=xV h
 obtain⟨b,_,rfl,A,h⟩:=xV h
 obtain⟨c,_,rfl,G,h⟩:=xV h
 obtain⟨d,_,rfl,I,h⟩:=xV h
 obtain rfl:=HN h
 obtain⟨a,rfl,J⟩:=yU z
 obtain⟨b,rfl,_⟩:=yU A
 obtain⟨c,rfl,_⟩:=yU G
 obtain⟨d,rfl,_⟩:=yU I
 exact⟨a,b,c,d,aa,J⟩
theorem fits_pairs{r:List DC}(h:jh [.sl [.i .u16,.i .u16]] r):∃o:Option (List (Nat×Nat)),r=[qE B0 o]∧∀p∈mv o,p.1<65536∧p.2<65536:=by
 rw[jh] at h
 obtain⟨d,_,rfl,z,h⟩:=h
 obtain rfl:=HN h
 obtain⟨o,rfl⟩:=UK (e:=fun a:{p:Nat×Nat//p.1<65536∧p.2<65536}=>B0 a.1) (fun r A=>by
  obtain⟨a,_,rfl,G,h⟩:=xV A
  obtain⟨b,_,rfl,I,h⟩:=xV h
  obtain rfl:=HN h
  obtain⟨a,rfl,z⟩:=yU G
  obtain⟨b,rfl,h2⟩:=yU I
  exact⟨⟨(a,b),z,h2⟩,aa⟩) z
 refine⟨o.map (·.map (·.1)),?_,?_⟩
 ·cases o with
  |none=>rfl
  |some l=>simp only[qE,sO,Dy];rfl
 cases o with
 |none=>intro n h;cases h
 |some l=>
  intro n h
  obtain⟨a,_,rfl⟩:=List.mem_map.1 h
  exact a.2
end Go.Ev.Pp
