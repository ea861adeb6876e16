/- Part 22 of rules for walks through the code of a program, and of such walks; what each part proves is said by its theorems. -/
import Derived.Test.YtijnechfhdlgiaaGreatDoorS21
set_option linter.unusedVariables false
set_option linter.unusedSimpArgs false
namespace Go.Ev.Pp
open Go
set_option maxRecDepth 10000
theorem jJ{T:bf}{VE:b0}{B:br}{Q:b0→br→Prop}{fl:List FL}{d:Key}{l:List Nat}{n:Nat}{w:Bool}{a:aG}{row:List DC}{o:Nat}{r:List bt}(Z:a.vv VE=some (.rp row o))(hk:nG [] l fl=true)(h:VI T (.load n w a) VE B [] fun v B'=>VQ T r ((d.n,v)::VE) B' (.rd []::fl) Q):VQ T (⟨some d,none,some l,.load n w a⟩::r) VE B fl Q:=by
 intro H0 X0 E H β J bS I
 obtain⟨N,v0,H',e,K,v,B',β',U,O,hv,hq⟩:=zw h J
 obtain⟨x,Y,A⟩:=J.b9 Z
 simp only[aN] at A
 obtain⟨f,g,Q1,l1,rfl,_,_,hX,dR⟩:=A
 have z:H'=H.mark:=KB Y (e N N (bY _) (bY _))
 have G:H.mark.ws=[]∧H.mark.next=H.next:=by cases H;exact⟨rfl,rfl⟩
 have k:uP H.next B β (.rd []) ⟨(bE.load n w a).reads E,H'.ws,H.next,H'.next⟩:=by
  refine⟨by rw[z];exact G.1,by show H.next=H'.next;rw[z];exact G.2.symm,[f],?_,fun f' I=>?_⟩
  ·show some (iT (a.ev E))=_
   rw[Y];rfl
  rcases List.mem_singleton.1 I with rfl
  exact⟨dR,fun b s K h2 h3=>absurd (.inr ⟨b,s,K,h2,h3⟩) hX⟩
 obtain⟨N2,E2,H2,e2,hp⟩:=hq H0 X0 _ _ β' (O.set hv) (⟨(bE.load n w a).reads E,H'.ws,H.next,H'.next⟩::bS) ((I.cons k).step U)
 refine⟨max N N2,E2,H2,fun lf n a1 a2=>?_,hp.of U J.bc⟩
 show bt.m9 (T.call lf n) ⟨some d,none,some l,_⟩ E H bS (lU (T.call lf n) r)=_
 rw[y3,y4 (e lf n (by omega) (by omega)) (wY I K hk)]
 exact e2 lf n (by omega) (by omega)
set_option maxHeartbeats 4000000 in
theorem QA{T:bf}(F:FT T){D:Rd}(Lq:ke T D){aA:List cM}(hg:rj aA):Sound T 41 [.d (.sl (aA.map cM.enc))] fun r=>r= .tuple [et (lz D aA).1.enc,dI (lz D aA).2.1,dI (lz D aA).2.2]:=by
 refine ep F.f41 aa ?_
 have A:bQ (start aA) ((start aA).cV D).2:=hg.top.cV D
 have G:=A.trans A.top.fin
 have htk:(jx D aA).aA=aA:=G.aA
 refine ak 3 aa (ak 4 aa (ai (ae 1 aa (al (jI (bZ:=[.vp 1000 0]) (Bi:=PS.bq false (start aA)) [(1000,9)] 2000 aa aa aa aa aa aa aa ⟨aa,aa,trivial⟩ (RB F Lq hg.top aa) (fun r Bn fJ=>?_))))))
 obtain⟨st,a,rfl,rfl,I⟩:=fJ
 refine ae 2 aa (af ?_)
 refine ai (ae 1 aa (al (jI (bZ:=[.vp 1000 0]) (Bi:=PS.bq _ ((start aA).cV D).2) [(1000,9)] 2000 aa aa aa aa aa aa aa ⟨aa,aa,trivial⟩ (Pa F A.top) (fun r Bn fJ=>?_))))
 obtain⟨rfl,rfl⟩:=fJ
 refine af (aM (ak 5 aa (aK aa (fun z=>?_) (fun z=>?_))))
 ·have he:¬(jx D aA).err=0:=by unfold jx;simpa using z
  have O:PS.ea (jx D aA)=(jx D aA).aJ:=aj he
  have U:(jx D aA).pos=(jx D aA).tok.pos:=G.pk (fun k=>absurd rfl k) he
  have Y:lz D aA=({},(jx D aA).pos,(jx D aA).err):=by unfold lz;rw[aw (by unfold jx;simpa using z)]
  have J:(aA.map cM.enc)[PS.ea (jx D aA)]?=some (jx D aA).tok.enc:=by
   rw[O,iw]
   have K:=G.ok.get
   rw[G.aA] at K
   show Option.map cM.enc aA[(jx D aA).aJ]?=_
   rw[show aA[(jx D aA).aJ]?=_ from K];rfl
  refine eX (bo 6 aa (dG (kZ (row:=(jx D aA).tok.enc) aa aa J aa ?_)))
  refine bo 1 aa (jJ aa aa (lT aa aa ?_))
  refine bo 7 aa (dc ?_)
  refine ax ?_
  rw[Y,U];exact⟨_,rfl,(by repeat(first|exact trivial|apply And.intro)),rfl⟩
 have he:(jx D aA).err=0:=by unfold jx;simpa using z
 have Y:lz D aA=(((start aA).cV D).1,0,0):=by unfold lz;rw[aj (by unfold jx;simpa using z)]
 have Z:=I (A.top.fin.er he)
 refine aU (ak 4 aa (ax ?_))
 rw[Y,←Z];exact⟨_,rfl,(by repeat(first|exact trivial|apply And.intro)),rfl⟩
set_option maxHeartbeats 4000000 in
theorem Qp{T:bf}(F:FT T){D:Rd}(Lq:ke T D){aA:List cM}(hg:rj aA):Sound T 42 [.d (.sl (aA.map cM.enc))] fun r=>r= .tuple [et (lu D aA).1.enc,dI (lu D aA).2.1,dI (lu D aA).2.2]:=by
 refine ep F.f42 aa ?_
 have A:bQ (start aA) ((start aA).cT D false).2:=hg.top.cT D false
 have G:=A.trans A.top.fin
 have htk:(jD D aA).aA=aA:=G.aA
 refine ak 3 aa (ak 4 aa (ai (ae 1 aa (al (jI (bZ:=[.vp 1000 0]) (Bi:=PS.bq false (start aA)) [(1000,9)] 2000 aa aa aa aa aa aa aa ⟨aa,aa,trivial⟩ (G0 F Lq hg.top) (fun r Bn fJ=>?_))))))
 obtain⟨⟨st,rfl,I⟩,rfl⟩:=fJ
 refine ae 2 aa (af ?_)
 refine ai (ae 1 aa (al (jI (bZ:=[.vp 1000 0]) (Bi:=PS.bq _ ((start aA).cT D false).2) [(1000,9)] 2000 aa aa aa aa aa aa aa ⟨aa,aa,trivial⟩ (Pa F A.top) (fun r Bn fJ=>?_))))
 obtain⟨rfl,rfl⟩:=fJ
 refine af (aM (ak 5 aa (aK aa (fun z=>?_) (fun z=>?_))))
 ·have he:¬(jD D aA).err=0:=by unfold jD;simpa using z
  have O:PS.ea (jD D aA)=(jD D aA).aJ:=aj he
  have U:(jD D aA).pos=(jD D aA).tok.pos:=G.pk (fun k=>absurd rfl k) he
  have Y:lu D aA=(⟨[],[]⟩,(jD D aA).pos,(jD D aA).err):=by unfold lu;rw[aw (by unfold jD;simpa using z)]
  have J:(aA.map cM.enc)[PS.ea (jD D aA)]?=some (jD D aA).tok.enc:=by
   rw[O,iw]
   have K:=G.ok.get
   rw[G.aA] at K
   show Option.map cM.enc aA[(jD D aA).aJ]?=_
   rw[show aA[(jD D aA).aJ]?=_ from K];rfl
  refine eX (bo 6 aa (dG (kZ (row:=(jD D aA).tok.enc) aa aa J aa ?_)))
  refine bo 1 aa (jJ aa aa (lT aa aa ?_))
  refine bo 7 aa (dc ?_)
  refine ax ?_
  rw[Y,U];exact⟨_,rfl,(by repeat(first|exact trivial|apply And.intro)),rfl⟩
 have he:(jD D aA).err=0:=by unfold jD;simpa using z
 have Y:lu D aA=(((start aA).cT D false).1,0,0):=by unfold lu;rw[aj (by unfold jD;simpa using z)]
 have Z:=I (A.top.fin.er he)
 refine aU (ak 4 aa (ax ?_))
 rw[Y,←Z];exact⟨_,rfl,(by repeat(first|exact trivial|apply And.intro)),rfl⟩
end Go.Ev.Pp
namespace Go.Ev
open Go
variable{T:bf}{VE:b0}{B:br}{Q:VV→br→Prop}
theorem tO{x y:aG}{a b:Int}(z:x.vv VE=some (dI a))(A:y.vv VE=some (dI b))(G: -9223372036854775808≤a*b)(h2:a*b≤9223372036854775807)(I:Q (dI (a*b)) B):VI T (.bin .mul x y) VE B [] Q:=
 LY z A (by rw[wrap_i64 G h2];exact I)
theorem xg{x y:aG}{a b:Int}(A:x.vv VE=some (dI a))(G:y.vv VE=some (dI b))(h0:me b 0=false)(z:0≤a)(I:0<b)(h2:a≤9223372036854775807)(J:Q (dI (a/b)) B):VI T (.bin .quo x y) VE B [] Q:=
 T8 A G h0 (by
  have K:0≤a/b:=Int.ediv_nonneg z (Int.le_of_lt I)
  have O:a/b≤a:=Int.ediv_le_self b z
  rw[Int.tdiv_eq_ediv_of_nonneg z,wrap_i64 (by omega) (by omega)];exact J)
theorem tP{x y:aG}{a b:Int}(z:x.vv VE=some (dI a))(A:y.vv VE=some (dI b))(h0:me b 0=false)(G:0≤a)(I:Q (dI (a % b)) B):VI T (.bin .rem x y) VE B [] Q:=
 LZ z A h0 (by rw[Int.tmod_eq_emod_of_nonneg G];exact I)
theorem MR{x y:aG}{c:UInt8}(z:x.vv VE=some (.d (.i .u8 (c.toNat:Nat))))(A:y.vv VE=some (.d (.i .u8 (Int.ofNat 48))))(I:48≤c.toNat)(G:Q (.d (.i .u8 ((c.toNat-48:Nat):Int))) B):VI T (.bin .sub x y) VE B [] Q:=
 GB z A (by
  have h:=c.toNat_lt
  rw[show IntKind.u8.wrap (((c.toNat:Nat):Int) -Int.ofNat 48)=((c.toNat-48:Nat):Int) from ?_]
  ·exact G
  show(((c.toNat:Nat):Int) -48) % 256=_
  omega)
theorem Gm{x:aG}{z:IntKind}{n:Nat}(A:x.vv VE=some (.d (.i z (n:Int))))(h:n<4294967296)(G:Q (dI (n:Int)) B):VI T (.conv .i64 x) VE B [] Q:=
 Cj A (by rw[wrap_i64 (by omega) (by omega)];exact G)
def ER:List VV→Bool
 |[]=>true
 |.d _::r=>ER r
 |_=>false
theorem Mb:∀{l:List VV},ER l=true→mf l
 |[],_=>trivial
 |.d _::r,h=>⟨trivial,Mb (l:=r) h⟩
def uS:List VV→Bool
 |[]=>true
 |.d _::r=>uS r
 |.agg l::r=>ER l&&uS r
 |.fn _ []::r=>uS r
 |_=>false
theorem vM:∀{l:List VV},uS l=true→mf l
 |[],_=>trivial
 |.fn _ []::r,h=>⟨trivial,vM (l:=r) h⟩
 |.d _::r,h=>⟨trivial,vM (l:=r) h⟩
 |.agg l::r,h=>by
  obtain⟨z,h2⟩:=iv (show(ER l&&uS r)=true from h)
  exact⟨by simp only[VV.nb];exact Mb z,vM h2⟩
theorem bC{rs:List lJ}{VE:b0}{B:br}{P:VV→Prop}{vs:List VV}(h:uB VE B rs=some vs)(z:uS vs=true)(A:P (gr vs)):OT rs P .ret VE B:=⟨vs,h,vM z,A⟩
theorem cQ{f:Nat}{l:List aG}{args:List VV}{R:VV}(h:Sound T f args fun r=>r=R)(z:iU VE l=some args)(A:uS args=true)(G:Q R B):VI T (.call f l) VE B [] Q:=
 pD z (vM A) h fun r _ I=>by rw[I];exact G
theorem VB{x:aG}{f:Nat}{l:List aG}{z:List VV}{R:VV}(h:Sound T f z fun r=>r=R)(A:x.vv VE=some (.fn f []))(G:iU VE l=some z)(I:uS z=true)(J:Q R B):VI T (.mI x l) VE B [] Q:=
 S0 A G (by rw[yf];exact vM I) (by rw[yf];exact h) fun r _ K=>by rw[K];exact J
structure FX(T:bf):Prop where
 aaT:T.ft.get 182=none
 aaU:T.xt.get 182=some 3
 aaV:T.ft.get 239=none
 aaW:∃t,T.xt.get 239=some (4+t)
 aaX:T.ft.get 207=none
 aaY:T.xt.get 207=some 0
 aaZ:T.ft.get 190=none
 aa0:T.xt.get 190=some 1
def eI(c:UInt8):List UInt8→Int
 |[]=> -1
 |x::r=>if x=c then 0 else if eI c r= -1 then-1 else eI c r+1
theorem xh(c:UInt8):∀l, -1≤eI c l
 |[]=>Int.le_refl _
 |x::r=>by unfold eI;have:=xh c r;split<;>(try split)<;>omega
theorem Mc(c:UInt8):∀l,eI c l<(l.length:Nat)
 |[]=>by unfold eI;simp
 |x::r=>by unfold eI;have:=Mc c r;have:=xh c r;rw[dk];split<;>(try split)<;>omega
theorem KG(c:UInt8):∀l,Lib.indexByte l c=eI c l
 |[]=>rfl
 |x::r=>by
  show(if(x==c)=true then 0 else if(Lib.indexByte r c== -1)=true then-1 else Lib.indexByte r c+1)=_
  rw[KG c r,show eI c (x::r)=if x=c then 0 else if eI c r= -1 then-1 else eI c r+1 from rfl];simp only[beq_iff_eq]
theorem QX(X:FX T)(s:List UInt8)(c:UInt8):Sound T 207 [dS s,.d (.i .u8 (c.toNat:Nat))] fun r=>r=dI (eI c s):=by
 intro H0 Y H β l A z
 simp only[bm,aN,cJ,cO] at z
 obtain⟨_,_,rfl,rfl,_,_,rfl,rfl,rfl⟩:=z
 refine⟨1,.int .i64 (eI c s),H,fun lf n _ h=>?_,dI (eI c s),[],β,.refl,A,by simp only[aN,cO],by simp only[VV.nb],rfl⟩
 obtain⟨n,rfl⟩:∃n',n=n'+1:=⟨n-1,by omega⟩
 show ob (T.ft.get 207) (ob (T.xt.get 207) (.err (Nat.add 10000 207)) fun c=>qy c _ H) _=_
 rw[X.aaX,X.aaY]
 show aH (Nat.beq 4 4) (aH (Nat.ble c.toNat 255) (aH (Nat.beq 1 1) (kW (AM c.toNat s.length (pack s) 0) fun i=>aE.ok (.int .i64 i) H) (.err 90)) (.err 90)) (.err 90)=_
 have h:=c.toNat_lt
 rw[show Nat.ble c.toNat 255=true from jz (by omega),Gw c s 0,KG]
 rw[show(if eI c s= -1 then(-1:Int) else eI c s+((0:Nat):Int))=eI c s by split<;>simp_all]
 exact(rQ (eI c s) fun i=>aE.ok (.int .i64 i) H)
end Go.Ev
namespace Go.Ev.Pp
open Go
def rl(y:Nat):Bool:=decide ((y % 4=0∧¬y % 100=0)∨y % 400=0)
def kE(y m:Nat):Nat:=if m=1∨m=3∨m=5∨m=7∨m=8∨m=10∨m=12 then 31 else if m=4∨m=6∨m=9∨m=11 then 30 else if m=2 then(if rl y=true then 29 else 28) else 0
theorem v7{y m:Nat}(h:m=1∨m=3∨m=5∨m=7∨m=8∨m=10∨m=12):kE y m=31:=aw h
theorem Ef{y m:Nat}(h:m=4∨m=6∨m=9∨m=11):kE y m=30:=by unfold kE;rw[aj (by omega),aw h]
theorem ES{y m:Nat}(h:m=2):kE y m=if rl y=true then 29 else 28:=by unfold kE;rw[aj (by omega),aj (by omega),aw h]
theorem ET{y m:Nat}(h:m<1∨12<m):kE y m=0:=by unfold kE;rw[aj (by omega),aj (by omega),aj (by omega)]
theorem G1(y m:Nat):kE y m≤31:=by unfold kE;split<;>(try split)<;>(try split)<;>(try split)<;>omega
theorem Oi{y m:Nat}(h:0<kE y m):1≤m∧m≤12:=by
 refine t7 fun k=>?_
 rw[ET (by omega)] at h;omega
def qc(y:Nat):Int:=Int.ofNat 365*((y:Int) -Int.ofNat 1600)+((y:Int) -Int.ofNat 1600+Int.ofNat 3)/Int.ofNat 4-((y:Int) -Int.ofNat 1600+Int.ofNat 99)/Int.ofNat 100+((y:Int) -Int.ofNat 1600+Int.ofNat 399)/Int.ofNat 400
theorem Oj{y:Nat}(h:1600≤y)(h2:y≤9999):0≤qc y∧qc y≤4000000:=by unfold qc;simp only[bb];omega
theorem Uy{y:Nat}(h:4400<y):1000000≤qc y:=by unfold qc;simp only[bb];omega
def p6(y:Nat):Nat→Nat
 |0=>0
 |k+1=>p6 y k+kE y (k+1)
theorem zF(y:Nat):∀k,p6 y k≤31*k
 |0=>bY _
 |k+1=>by unfold p6;have:=zF y k;have:=G1 y (k+1);omega
def sO(y m d:Nat):Int:=qc y+d-Int.ofNat 1+p6 y (m-1)
def jy(y m d:Nat):Option Int:=if y<1600∨4400<y∨d<1∨kE y m<d then none else if 1000000≤sO y m d then none else some (sO y m d)
def Ok(o:Option Int):VV:=.tuple [dI (o.getD 0),dB o.isSome]
def gR(c:UInt8):Bool:=decide (48≤c.toNat)&&decide (c.toNat≤57)
def gB(s:List UInt8):Nat×Bool:=if s.all gR=true then(dW s,true) else(0,false)
def tE:List UInt8:=[102,111,114,101,118,101,114]
def Ic:Option Int→Int×Int
 |none=>(0,10)
 |some n=>(n,0)
def fm(s:List UInt8):Int×Int:=
 if s=tE then(1000000,0)
 else if¬(s.length=10∧s[4]?=some 45∧s[7]?=some 45) then(0,5)
 else if¬((gB (s.take 4)).2=true∧(gB ((s.drop 5).take 2)).2=true∧(gB (s.drop 8)).2=true) then(0,5)
 else Ic (jy (gB (s.take 4)).1 (gB ((s.drop 5).take 2)).1 (gB (s.drop 8)).1)
def lN(x:Int×Int):VV:=.tuple [dI x.1,dI x.2]
theorem QY(s:List UInt8)(c:UInt8):dW (s++[c])=dW s*10+(c.toNat-48):=by
 unfold dW;rw[xF];rfl
theorem wR{c:UInt8}:gR c=true↔48≤c.toNat∧c.toNat≤57:=by unfold gR;simp
theorem Uz{s:List UInt8}(h:s.all gR=true):∀c,c∈s→48≤c.toNat∧c.toNat≤57:=fun c z=>wR.1 (List.all_eq_true.1 h c z)
theorem Ls{s:List UInt8}{n:Nat}(h:s.all gR=true)(z:s.length≤n):dW s<10^n:=mw (J0 (Uz h)) (Ay (by decide) z)
theorem take_succ{s:List UInt8}{i:Nat}{c:UInt8}(h:s[i]?=some c):s.take (i+1)=s.take i++[c]:=by rw[xE,h];rfl
theorem jH{s:List UInt8}{i:Nat}(h:i<s.length):∃c,s[i]?=some c:=⟨s[i],eY h⟩
def EU(s:List UInt8):VV:=.tuple [dI ((gB s).1:Nat),dB (gB s).2]
theorem Md{s:List UInt8}{i:Nat}{c:UInt8}(h:s[i]?=some c)(z:¬(48≤c.toNat∧c.toNat≤57)):gB s=(0,false):=by
 refine aj fun k=>z (wR.1 ?_)
 exact List.all_eq_true.1 k c (lG h)
theorem Tn{s:List UInt8}{c:UInt8}(h:s.all gR=true)(z:48≤c.toNat∧c.toNat≤57):(s++[c]).all gR=true:=by
 rw[List.all_append,h];simp[wR.2 z]
open Go
set_option maxRecDepth 10000
theorem Wz{T:bf}(F:FT T)(y:Nat):Sound T 258 [dI (y:Nat)] fun r=>r=dB (rl y):=by
 refine ep F.aax aa (ak 1 aa (ai (ae 1 aa ?_)))
 refine al (tP rfl rfl rfl (by(try simp only[bb] at*);omega) ?_)
 refine ae 2 aa (da (g:=aC) aa (fun A=>?_) (fun A=>?_))
 ·refine au aa (A) (bM aa ?_)
  refine au rfl (A) (tP rfl rfl rfl (by(try simp only[bb] at*);omega) ?_)
  refine au aa (A) (iq aa aa ?_)
  refine al (cU aa (A) aa ?_)
  refine ae 1 aa (da (g:=aQ) aa (fun z=>?_) (fun z=>?_))
  ·refine aS aa (z) (aS aa (z) (aS aa (z) (al (cU aa (z) aa ?_))))
   refine ae 1 aa (af ?_)
   refine ax ?_
   exact bC rfl rfl ((by refine congrArg (fun b=>VV.d (DC.b b)) ?_;rw[fS];unfold rl;simp at*;omega))
  refine au aa (z) (bM aa ?_)
  refine au rfl (z) (tP rfl rfl rfl (by(try simp only[bb] at*);omega) ?_)
  refine au aa (z) (gZ aa aa ?_)
  refine al (cK aa (z) aa ?_)
  refine ae 1 aa (af ?_)
  refine ax ?_
  exact bC rfl rfl ((by refine congrArg (fun b=>VV.d (DC.b b)) ?_;rw[fS];unfold rl;simp at*;omega))
 refine aS aa (A) (aS aa (A) (aS aa (A) (al (cK aa (A) aa ?_))))
 refine ae 1 aa (au aa aa (bM aa ?_))
 refine au rfl (rfl) (tP rfl rfl rfl (by(try simp only[bb] at*);omega) ?_)
 refine au aa aa (gZ aa aa ?_)
 refine ae 2 aa (af ?_)
 refine ax ?_
 exact bC rfl rfl ((by refine congrArg (fun b=>VV.d (DC.b b)) ?_;rw[fS];unfold rl;simp at*;omega))
theorem WA{T:bf}(F:FT T)(y:Nat):Sound T 206 [dI (y:Nat)] fun r=>r=dB (rl y):=by
 refine ep F.aaH aa (ak 1 aa (ai (ae 1 aa ?_)))
 refine al (tP rfl rfl rfl (by(try simp only[bb] at*);omega) ?_)
 refine ae 2 aa (da (g:=aC) aa (fun A=>?_) (fun A=>?_))
 ·refine au aa (A) (bM aa ?_)
  refine au rfl (A) (tP rfl rfl rfl (by(try simp only[bb] at*);omega) ?_)
  refine au aa (A) (iq aa aa ?_)
  refine al (cU aa (A) aa ?_)
  refine ae 1 aa (da (g:=aQ) aa (fun z=>?_) (fun z=>?_))
  ·refine aS aa (z) (aS aa (z) (aS aa (z) (al (cU aa (z) aa ?_))))
   refine ae 1 aa (af ?_)
   refine ax ?_
   exact bC rfl rfl ((by refine congrArg (fun b=>VV.d (DC.b b)) ?_;rw[fS];unfold rl;simp at*;omega))
  refine au aa (z) (bM aa ?_)
  refine au rfl (z) (tP rfl rfl rfl (by(try simp only[bb] at*);omega) ?_)
  refine au aa (z) (gZ aa aa ?_)
  refine al (cK aa (z) aa ?_)
  refine ae 1 aa (af ?_)
  refine ax ?_
  exact bC rfl rfl ((by refine congrArg (fun b=>VV.d (DC.b b)) ?_;rw[fS];unfold rl;simp at*;omega))
 refine aS aa (A) (aS aa (A) (aS aa (A) (al (cK aa (A) aa ?_))))
 refine ae 1 aa (au aa aa (bM aa ?_))
 refine au rfl (rfl) (tP rfl rfl rfl (by(try simp only[bb] at*);omega) ?_)
 refine au aa aa (gZ aa aa ?_)
 refine ae 2 aa (af ?_)
 refine ax ?_
 exact bC rfl rfl ((by refine congrArg (fun b=>VV.d (DC.b b)) ?_;rw[fS];unfold rl;simp at*;omega))
set_option maxHeartbeats 1000000 in
theorem Pb{T:bf}(F:FT T)(y m:Nat):Sound T 228 [dI (y:Nat),dI (m:Nat)] fun r=>r=dI (kE y m:Nat):=by
 refine ep F.aaj aa (ak 1 aa (aM (ak 1 aa (bN (aM (ak 2 aa (aK aa (fun A=>?_) (fun A=>?_))))))))
 ·refine aU (fe aa (A) (ak 1 aa (ax ?_)))
  exact bC rfl rfl (by rw[v7 (by simp only[eV,fw,bb] at*;omega)];rfl)
 refine ak 2 aa (aK aa (fun A=>?_) (fun A=>?_))
 ·refine aU (fe aa (A) (ak 1 aa (ax ?_)))
  exact bC rfl rfl (by rw[v7 (by simp only[eV,fw,bb] at*;omega)];rfl)
 refine ak 2 aa (aK aa (fun A=>?_) (fun A=>?_))
 ·refine aU (fe aa (A) (ak 1 aa (ax ?_)))
  exact bC rfl rfl (by rw[v7 (by simp only[eV,fw,bb] at*;omega)];rfl)
 refine ak 2 aa (aK aa (fun A=>?_) (fun A=>?_))
 ·refine aU (fe aa (A) (ak 1 aa (ax ?_)))
  exact bC rfl rfl (by rw[v7 (by simp only[eV,fw,bb] at*;omega)];rfl)
 refine ak 2 aa (aK aa (fun A=>?_) (fun A=>?_))
 ·refine aU (fe aa (A) (ak 1 aa (ax ?_)))
  exact bC rfl rfl (by rw[v7 (by simp only[eV,fw,bb] at*;omega)];rfl)
 refine ak 2 aa (aK aa (fun A=>?_) (fun A=>?_))
 ·refine aU (fe aa (A) (ak 1 aa (ax ?_)))
  exact bC rfl rfl (by rw[v7 (by simp only[eV,fw,bb] at*;omega)];rfl)
 refine bG (ae 2 aa (af ?_))
 refine aK aa (fun A=>?_) (fun A=>?_)
 ·refine ak 1 aa (ax ?_)
  exact bC rfl rfl (by rw[v7 (by simp only[eV,fw,bb] at*;omega)];rfl)
 refine aM (ak 2 aa (aK aa (fun z=>?_) (fun z=>?_)))
 ·refine aU (fe aa (z) (ak 1 aa (ax ?_)))
  exact bC rfl rfl (by rw[Ef (by simp only[eV,fw,bb] at*;omega)];rfl)
 refine ak 2 aa (aK aa (fun z=>?_) (fun z=>?_))
 ·refine aU (fe aa (z) (ak 1 aa (ax ?_)))
  exact bC rfl rfl (by rw[Ef (by simp only[eV,fw,bb] at*;omega)];rfl)
 refine ak 2 aa (aK aa (fun z=>?_) (fun z=>?_))
 ·refine aU (fe aa (z) (ak 1 aa (ax ?_)))
  exact bC rfl rfl (by rw[Ef (by simp only[eV,fw,bb] at*;omega)];rfl)
 refine bG (ae 2 aa (af ?_))
 refine aK aa (fun z=>?_) (fun z=>?_)
 ·refine ak 1 aa (ax ?_)
  exact bC rfl rfl (by rw[Ef (by simp only[eV,fw,bb] at*;omega)];rfl)
 refine ak 2 aa (aK aa (fun ew=>?_) (fun ew=>?_))
 ·refine aM (ai (ae 1 aa (al (cQ (Wz F y) aa aa ?_))))
  refine af (aK aa (fun G=>?_) (fun G=>?_))
  ·refine ak 1 aa (ax ?_)
   exact bC rfl rfl (by rw[ES (by simp only[eV,fw,bb] at*;omega),aw G];rfl)
  refine aU (ak 1 aa (ax ?_))
  exact bC rfl rfl (by rw[ES (by simp only[eV,fw,bb] at*;omega),aj (by rw[G];decide)];rfl)
 refine aU (ak 1 aa (ax ?_))
 exact bC rfl rfl (by rw[ET (by simp only[eV,fw,bb] at*;omega)];rfl)
set_option maxHeartbeats 1000000 in
theorem Pc{T:bf}(F:FT T)(y m:Nat):Sound T 166 [dI (y:Nat),dI (m:Nat)] fun r=>r=dI (kE y m:Nat):=by
 refine ep F.aaz aa (ak 1 aa (ak 3 aa (aM (ai (ae 3 aa (da (g:=aI) aa (fun A=>?_) (fun A=>?_)))))))
 ·refine aS aa (A) (aS aa (A) (al (cU aa (A) aa ?_)))
  refine af (fe aa aa (ak 1 aa (ax ?_)))
  exact bC rfl rfl (by rw[ET (by simp only[eV,fw,bb] at*;omega)];rfl)
 refine au aa (A) (bM aa ?_)
 refine au aa (A) (tV aa aa ?_)
 refine al (cK aa (A) aa ?_)
 refine af (aK aa (fun I=>?_) (fun I=>?_))
 ·refine ak 1 aa (ax ?_)
  exact bC rfl rfl (by rw[ET (by simp only[eV,fw,bb] at*;omega)];rfl)
 refine aU (aM (ai (ae 3 aa (da (g:=aY) aa (fun z=>?_) (fun z=>?_)))))
 ·refine au aa (z) (bM aa ?_)
  refine au aa (z) (cQ (WA F y) aa aa ?_)
  refine al (cU aa (z) aa ?_)
  refine af (aK aa (fun G=>?_) (fun G=>?_))
  ·refine ak 1 aa (ax ?_)
   exact bC rfl rfl (by rw[ES (by simp only[eV,fw,bb] at*;omega),aw G];rfl)
  refine aU (ai ?_)
  have K:1≤m∧m≤12:=by simp only[eV,fw,bb] at*;omega
  obtain⟨J,hk⟩:m<13∧[VV.d (.i .i64 0),.d (.i .i64 31),.d (.i .i64 28),.d (.i .i64 31),.d (.i .i64 30),.d (.i .i64 31),.d (.i .i64 30),.d (.i .i64 31),.d (.i .i64 31),.d (.i .i64 30),.d (.i .i64 31),.d (.i .i64 30),.d (.i .i64 31)][0+m*1]?=some (.d (.i .i64 (kE y m:Nat))):=by
   refine⟨by omega,?_⟩
   rcases(by omega:m=1∨m=2∨m=3∨m=4∨m=5∨m=6∨m=7∨m=8∨m=9∨m=10∨m=11∨m=12) with rfl|rfl|rfl|rfl|rfl|rfl|rfl|rfl|rfl|rfl|rfl|rfl
   any_goals rfl
   rw[ES rfl,aj (by rw[G];decide)];rfl
  refine ae 1 aa (al (om aa aa J ?_))
  refine al (c8 aa aa hk ?_)
  refine ae 1 aa (af ?_)
  exact ax (bC aa aa aa)
 refine aS aa (z) (aS aa (z) (al (cK aa (z) aa ?_)))
 refine af (eJ aa aa (aU (ai ?_)))
 have K:1≤m∧m≤12:=by simp only[eV,fw,bb] at*;omega
 obtain⟨J,hk⟩:m<13∧[VV.d (.i .i64 0),.d (.i .i64 31),.d (.i .i64 28),.d (.i .i64 31),.d (.i .i64 30),.d (.i .i64 31),.d (.i .i64 30),.d (.i .i64 31),.d (.i .i64 31),.d (.i .i64 30),.d (.i .i64 31),.d (.i .i64 30),.d (.i .i64 31)][0+m*1]?=some (.d (.i .i64 (kE y m:Nat))):=by
  refine⟨by omega,?_⟩
  rcases(by omega:m=1∨m=2∨m=3∨m=4∨m=5∨m=6∨m=7∨m=8∨m=9∨m=10∨m=11∨m=12) with rfl|rfl|rfl|rfl|rfl|rfl|rfl|rfl|rfl|rfl|rfl|rfl
  any_goals rfl
  rw[show decide (((2:Nat):Int)=Int.ofNat 2)=true from rfl] at z;cases z
 refine ae 1 aa (al (om aa aa J ?_))
 refine al (c8 aa aa hk ?_)
 refine ae 1 aa (af ?_)
 exact ax (bC aa aa aa)
theorem WB{T:bf}(F:FT T){y:Nat}(z:1600≤y)(h2:y≤9999):Sound T 227 [dI (y:Nat)] fun r=>r=dI (qc y):=by
 refine ep F.aai aa (ak 1 aa (ai (ae 1 aa ?_)))
 refine al (gj rfl rfl (by(try simp only[bb] at*);omega) (by(try simp only[bb] at*);omega) ?_)
 refine ae 1 aa (af ?_)
 refine ai (ae 1 aa ?_)
 refine al (tO rfl rfl (by(try simp only[bb] at*);omega) (by(try simp only[bb] at*);omega) ?_)
 refine ae 1 aa ?_
 refine al (jM rfl rfl (by(try simp only[bb] at*);omega) (by(try simp only[bb] at*);omega) ?_)
 refine al (xg rfl rfl rfl (by(try simp only[bb] at*);omega) (by decide) (by(try simp only[bb] at*);omega) ?_)
 refine al (jM rfl rfl (by(try simp only[bb] at*);omega) (by(try simp only[bb] at*);omega) ?_)
 refine ae 1 aa ?_
 refine al (jM rfl rfl (by(try simp only[bb] at*);omega) (by(try simp only[bb] at*);omega) ?_)
 refine al (xg rfl rfl rfl (by(try simp only[bb] at*);omega) (by decide) (by(try simp only[bb] at*);omega) ?_)
 refine al (gj rfl rfl (by(try simp only[bb] at*);omega) (by(try simp only[bb] at*);omega) ?_)
 refine ae 1 aa ?_
 refine al (jM rfl rfl (by(try simp only[bb] at*);omega) (by(try simp only[bb] at*);omega) ?_)
 refine al (xg rfl rfl rfl (by(try simp only[bb] at*);omega) (by decide) (by(try simp only[bb] at*);omega) ?_)
 refine al (jM rfl rfl (by(try simp only[bb] at*);omega) (by(try simp only[bb] at*);omega) ?_)
 refine ae 1 aa (af ?_)
 exact ax (bC aa aa aa)
theorem WC{T:bf}(F:FT T){y:Nat}(z:1600≤y)(h2:y≤9999):Sound T 165 [dI (y:Nat)] fun r=>r=dI (qc y):=by
 refine ep F.aaA aa (ak 1 aa (ai (ae 1 aa ?_)))
 refine al (gj rfl rfl (by(try simp only[bb] at*);omega) (by(try simp only[bb] at*);omega) ?_)
 refine ae 1 aa (af ?_)
 refine ai (ae 1 aa ?_)
 refine al (tO rfl rfl (by(try simp only[bb] at*);omega) (by(try simp only[bb] at*);omega) ?_)
 refine ae 1 aa ?_
 refine al (jM rfl rfl (by(try simp only[bb] at*);omega) (by(try simp only[bb] at*);omega) ?_)
 refine al (xg rfl rfl rfl (by(try simp only[bb] at*);omega) (by decide) (by(try simp only[bb] at*);omega) ?_)
 refine al (jM rfl rfl (by(try simp only[bb] at*);omega) (by(try simp only[bb] at*);omega) ?_)
 refine ae 1 aa ?_
 refine al (jM rfl rfl (by(try simp only[bb] at*);omega) (by(try simp only[bb] at*);omega) ?_)
 refine al (xg rfl rfl rfl (by(try simp only[bb] at*);omega) (by decide) (by(try simp only[bb] at*);omega) ?_)
 refine al (gj rfl rfl (by(try simp only[bb] at*);omega) (by(try simp only[bb] at*);omega) ?_)
 refine ae 1 aa ?_
 refine al (jM rfl rfl (by(try simp only[bb] at*);omega) (by(try simp only[bb] at*);omega) ?_)
 refine al (xg rfl rfl rfl (by(try simp only[bb] at*);omega) (by decide) (by(try simp only[bb] at*);omega) ?_)
 refine al (jM rfl rfl (by(try simp only[bb] at*);omega) (by(try simp only[bb] at*);omega) ?_)
 refine ae 1 aa (af ?_)
 exact ax (bC aa aa aa)
open Go
set_option maxRecDepth 10000
theorem Ie{T:bf}(F:FT T){s:List UInt8}(hl:s.length≤9):Sound T 245 [dS s] fun r=>r=EU s:=by
 refine ep F.aav aa (ak 2 aa (ak 1 aa (aM (ak 3 aa (bN (d6 (fun k VE B=>∃i,i≤s.length∧k=s.length-i∧(s.take i).all gR=true∧bw [(0,dS s),(2,d0),(3,dB false),(4,dI (dW (s.take i):Nat)),(7,dI (s.length:Nat)),(8,dI (i:Nat))] VE∧bw [] B) ?_ (k:=s.length) ⟨0,df _,aa,aa,⟨aa,aa,aa,aa,aa,aa,trivial⟩,trivial⟩))))))
 rintro k VE B⟨i,hi,rfl,O,hV,hB⟩
 refine dx _ _ hV hB (ak 1 aa (aM (aK aa (fun U=>?_) (fun U=>?_))))
 ·have Y:i<s.length:=by simp at U;omega
  obtain⟨c,G⟩:=jH Y
  have Z:=take_succ G
  have hv:=Ls O (n:=9) (by rw[nf];omega)
  have aa1:=c.toNat_lt
  have I:=QY (s.take i) c
  rw[←Z] at I
  refine aU (aM (bN (ak 2 aa (aM (ai (ae 2 aa (al (fM aa aa G ?_))))))))
  refine ae 2 aa (da (g:=aY) aa (fun z=>?_) (fun z=>?_))
  ·have J:=Md G (by simp at z;omega)
   refine aS aa (z) (aS aa (z) (aS aa (z) (aS aa (z) (al (cU aa (z) aa ?_)))))
   refine af (fe aa aa (ak 2 aa (ax ?_)))
   exact bC rfl rfl (by unfold EU;rw[J];rfl)
  refine au aa (z) (bM aa ?_)
  refine au aa (z) (bM aa ?_)
  refine au aa (z) (fM aa aa G ?_)
  refine au aa (z) (tV aa aa ?_)
  refine al (cK aa (z) aa ?_)
  refine af (aK aa (fun A=>?_) (fun A=>?_))
  ·have J:=Md G (by simp at A;omega)
   refine ak 2 aa (ax ?_)
   exact bC rfl rfl (by unfold EU;rw[J];rfl)
  have K:48≤c.toNat∧c.toNat≤57:=by simp at z A;omega
  refine aU (bG (ae 1 aa ?_))
  refine al (tO rfl rfl (by(try simp only[bb] at*);omega) (by(try simp only[bb] at*);omega) ?_)
  refine ae 2 aa (al (fM aa aa G ?_))
  refine al (MR aa aa K.1 ?_)
  refine al (Gm rfl (by omega) ?_)
  refine al (jM rfl rfl (by(try simp only[bb] at*);omega) (by(try simp only[bb] at*);omega) ?_)
  rw[show(Int.ofNat 10*((dW (s.take i):Nat):Int)+((c.toNat-48:Nat):Int))=((dW (s.take (i+1)):Nat):Int) by rw[I];simp only[bb];omega]
  refine ae 1 aa (af ?_)
  refine bG ?_
  refine al (cX rfl rfl (by omega) ?_)
  refine ae 1 aa (af ?_)
  exact⟨s.length-(i+1),by omega,i+1,by omega,rfl,by rw[Z];exact Tn O K,⟨rfl,rfl,rfl,rfl,rfl,rfl,trivial⟩,trivial⟩
 have he:i=s.length:=by simp at U;omega
 have J:gB s=(dW (s.take i),true):=by rw[he,G'] at O⊢;exact aw O
 refine dM (ak 3 aa (ax ?_))
 exact bC rfl rfl (by unfold EU;rw[J];rfl)
set_option maxHeartbeats 1000000 in
theorem WD{T:bf}(F:FT T){y m d:Nat}(h1:y≤9999)(h2:m≤99)(h3:d≤99):Sound T 246 [dI (y:Nat),dI (m:Nat),dI (d:Nat)] fun r=>r=Ok (jy y m d):=by
 refine ep F.aaw aa (ak 2 aa (aM (ai (ae 3 aa (da (g:=aP) aa (fun A=>?_) (fun A=>?_))))))
 ·refine aS aa (A) (aS aa (A) (al (cU aa (A) aa ?_)))
  refine ae 1 aa (aS aa aa (aS aa aa (ae 2 aa (aS aa aa (aS aa aa (aS aa aa (aS aa aa (aS aa aa (ae 1 aa (af ?_))))))))))
  refine fe aa aa (ak 2 aa (ax ?_))
  exact bC rfl rfl (by unfold jy;rw[aw (by simp only[eV,fw,bb] at*;omega)];rfl)
 refine au aa (A) (bM aa ?_)
 refine au aa (A) (tV aa aa ?_)
 refine al (cK aa (A) aa ?_)
 refine ae 1 aa (da (g:=bg) aa (fun G=>?_) (fun G=>?_))
 ·refine aS aa (G) (aS aa (G) (al (cU aa (G) aa ?_)))
  refine ae 1 aa (aS aa aa (aS aa aa (aS aa aa (aS aa aa (aS aa aa (ae 1 aa (af ?_)))))))
  refine fe aa aa (ak 2 aa (ax ?_))
  exact bC rfl rfl (by unfold jy;rw[aw (by simp only[eV,fw,bb] at*;omega)];rfl)
 refine au aa (G) (bM aa ?_)
 refine au aa (G) (GX aa aa ?_)
 refine al (cK aa (G) aa ?_)
 refine ae 1 aa (da (g:=bl) aa (fun z=>?_) (fun z=>?_))
 ·refine aS aa (z) (aS aa (z) (aS aa (z) (aS aa (z) (aS aa (z) (al (cU aa (z) aa ?_))))))
  refine af (fe aa aa (ak 2 aa (ax ?_)))
  exact bC rfl rfl (by unfold jy;rw[aw (by simp only[eV,fw,bb] at*;omega)];rfl)
 refine au aa (z) (bM aa ?_)
 refine au aa (z) (bM aa ?_)
 refine au aa (z) (bM aa ?_)
 refine au aa (z) (cQ (Pb F y m) aa aa ?_)
 refine au aa (z) (tV aa aa ?_)
 refine al (cK aa (z) aa ?_)
 refine af (aK aa (fun K=>?_) (fun K=>?_))
 ·refine ak 2 aa (ax ?_)
  exact bC rfl rfl (by unfold jy;rw[aw (by simp only[eV,fw,bb] at*;omega)];rfl)
 have J:0<kE y m:=by simp only[eV,fw,bb] at*;omega
 have hmb:=Oi J
 have hyb:=Oj (y:=y) (by simp only[eV,fw,bb] at*;omega) (by omega)
 refine aU (ai (ae 1 aa ?_))
 refine al (cQ (WB F (by simp only[eV,fw,bb] at*;omega) (by omega)) rfl rfl ?_)
 refine ae 1 aa ?_
 refine al (jM rfl rfl (by(try simp only[bb] at*);omega) (by(try simp only[bb] at*);omega) ?_)
 refine al (gj rfl rfl (by(try simp only[bb] at*);omega) (by(try simp only[bb] at*);omega) ?_)
 refine ae 1 aa (af ?_)
 refine aM (ak 1 aa (bN ?_))
 refine d6 (fun k VE B=>∃(j:Nat)(v:Int),j+1≤m∧k=m-j∧v=qc y+(d:Nat) -Int.ofNat 1+(p6 y j:Nat)∧bw [(0,dI (y:Nat)),(1,dI (m:Nat)),(2,dI (d:Nat)),(6,d0),(7,dB false),(8,dI v),(9,dI ((j+1:Nat):Int))] VE∧bw [] B) ?_ (k:=m) ⟨0,_,by omega,rfl,by unfold p6;exact(Int.add_zero _).symm,⟨rfl,rfl,rfl,rfl,rfl,rfl,rfl,trivial⟩,trivial⟩
 rintro k VE B⟨j,v,hj0,rfl,hv,hV,hB⟩
 refine dx _ _ hV hB (aM (ak 3 aa (aK aa (fun I=>?_) (fun I=>?_))))
 ·have hj:j+1<m:=by simp at I;omega
  have hdj:=G1 y (j+1)
  have O:=zF y j
  refine aU (aM (bN (bG (ae 3 aa (al (cQ (Pb F y (j+1)) aa aa ?_))))))
  refine al (jM rfl rfl (by(try simp only[bb] at*);omega) (by(try simp only[bb] at*);omega) ?_)
  rw[show v+((kE y (j+1):Nat):Int)=_ from rfl]
  refine ae 1 aa (af ?_)
  refine bG (ae 1 aa ?_)
  refine al (cX rfl rfl (by omega) ?_)
  refine ae 1 aa (af ?_)
  exact⟨m-(j+1),by omega,j+1,_,by omega,rfl,by rw[hv];show _=_+((p6 y j+kE y (j+1):Nat):Int);omega,⟨rfl,rfl,rfl,rfl,rfl,rfl,rfl,trivial⟩,trivial⟩
 have hj:j+1=m:=by simp at I;omega
 have O:=zF y j
 have U:m-1=j:=by omega
 have Y:sO y m d=qc y+(d:Nat) -Int.ofNat 1+(p6 y j:Nat):=by unfold sO;rw[U]
 refine dM (aM (ak 2 aa (aK aa (fun Z=>?_) (fun Z=>?_))))
 ·refine ak 2 aa (ax ?_)
  exact bC rfl rfl (by unfold jy;rw[aj (by simp only[eV,fw,bb] at*;omega),aw (by simp only[eV,fw,bb] at*;omega)];rfl)
 refine aU (ak 3 aa (ax ?_))
 exact bC rfl rfl (by unfold jy;rw[aj (by simp only[eV,fw,bb] at*;omega),aj (by simp only[eV,fw,bb] at*;omega),show sO y m d=v by rw[Y];exact hv.symm];rfl)
set_option maxHeartbeats 1000000 in
theorem WE{T:bf}(F:FT T){y m d:Nat}(h1:y≤9999)(h2:m≤99)(h3:d≤99):Sound T 237 [dI (y:Nat),dI (m:Nat),dI (d:Nat)] fun r=>r=Ok (jy y m d):=by
 refine ep F.aao aa (ak 2 aa (aM (ai (ae 3 aa (da (g:=aP) aa (fun A=>?_) (fun A=>?_))))))
 ·refine aS aa (A) (aS aa (A) (al (cU aa (A) aa ?_)))
  refine ae 1 aa (aS aa aa (aS aa aa (ae 2 aa (aS aa aa (aS aa aa (aS aa aa (aS aa aa (aS aa aa (ae 1 aa (af ?_))))))))))
  refine fe aa aa (ak 2 aa (ax ?_))
  exact bC rfl rfl (by unfold jy;rw[aw (by simp only[eV,fw,bb] at*;omega)];rfl)
 refine au aa (A) (bM aa ?_)
 refine au aa (A) (tV aa aa ?_)
 refine al (cK aa (A) aa ?_)
 refine ae 1 aa (da (g:=bg) aa (fun G=>?_) (fun G=>?_))
 ·refine aS aa (G) (aS aa (G) (al (cU aa (G) aa ?_)))
  refine ae 1 aa (aS aa aa (aS aa aa (aS aa aa (aS aa aa (aS aa aa (ae 1 aa (af ?_)))))))
  refine fe aa aa (ak 2 aa (ax ?_))
  exact bC rfl rfl (by unfold jy;rw[aw (by simp only[eV,fw,bb] at*;omega)];rfl)
 refine au aa (G) (bM aa ?_)
 refine au aa (G) (GX aa aa ?_)
 refine al (cK aa (G) aa ?_)
 refine ae 1 aa (da (g:=bl) aa (fun z=>?_) (fun z=>?_))
 ·refine aS aa (z) (aS aa (z) (aS aa (z) (aS aa (z) (aS aa (z) (al (cU aa (z) aa ?_))))))
  refine af (fe aa aa (ak 2 aa (ax ?_)))
  exact bC rfl rfl (by unfold jy;rw[aw (by simp only[eV,fw,bb] at*;omega)];rfl)
 refine au aa (z) (bM aa ?_)
 refine au aa (z) (bM aa ?_)
 refine au aa (z) (bM aa ?_)
 refine au aa (z) (cQ (Pc F y m) aa aa ?_)
 refine au aa (z) (tV aa aa ?_)
 refine al (cK aa (z) aa ?_)
 refine af (aK aa (fun K=>?_) (fun K=>?_))
 ·refine ak 2 aa (ax ?_)
  exact bC rfl rfl (by unfold jy;rw[aw (by simp only[eV,fw,bb] at*;omega)];rfl)
 have J:0<kE y m:=by simp only[eV,fw,bb] at*;omega
 have hmb:=Oi J
 have hyb:=Oj (y:=y) (by simp only[eV,fw,bb] at*;omega) (by omega)
 refine aU (ai (ae 1 aa ?_))
 refine al (cQ (WC F (by simp only[eV,fw,bb] at*;omega) (by omega)) rfl rfl ?_)
 refine ae 1 aa (af ?_)
 refine aM (ak 1 aa (bN ?_))
 refine d6 (fun k VE B=>∃(j:Nat)(v:Int),j+1≤m∧k=m-j∧v=qc y+(p6 y j:Nat)∧bw [(0,dI (y:Nat)),(1,dI (m:Nat)),(2,dI (d:Nat)),(6,d0),(7,dB false),(8,dI v),(9,dI ((j+1:Nat):Int))] VE∧bw [] B) ?_ (k:=m) ⟨0,_,by omega,rfl,by unfold p6;exact(Int.add_zero _).symm,⟨rfl,rfl,rfl,rfl,rfl,rfl,rfl,trivial⟩,trivial⟩
 rintro k VE B⟨j,v,hj0,rfl,hv,hV,hB⟩
 refine dx _ _ hV hB (aM (ak 3 aa (aK aa (fun I=>?_) (fun I=>?_))))
 ·have hj:j+1<m:=by simp at I;omega
  have hdj:=G1 y (j+1)
  have O:=zF y j
  refine aU (aM (bN (bG (ae 3 aa (al (cQ (Pc F y (j+1)) aa aa ?_))))))
  refine al (jM rfl rfl (by(try simp only[bb] at*);omega) (by(try simp only[bb] at*);omega) ?_)
  rw[show v+((kE y (j+1):Nat):Int)=_ from rfl]
  refine ae 1 aa (af ?_)
  refine bG (ae 1 aa ?_)
  refine al (cX rfl rfl (by omega) ?_)
  refine ae 1 aa (af ?_)
  exact⟨m-(j+1),by omega,j+1,_,by omega,rfl,by rw[hv];show _=_+((p6 y j+kE y (j+1):Nat):Int);omega,⟨rfl,rfl,rfl,rfl,rfl,rfl,rfl,trivial⟩,trivial⟩
 have hj:j+1=m:=by simp at I;omega
 have O:=zF y j
 have U:m-1=j:=by omega
 have Y:sO y m d=qc y+(d:Nat) -Int.ofNat 1+(p6 y j:Nat):=by unfold sO;rw[U]
 refine dM (ai (ae 2 aa ?_))
 refine al (jM rfl rfl (by(try simp only[bb] at*);omega) (by(try simp only[bb] at*);omega) ?_)
 refine al (gj rfl rfl (by(try simp only[bb] at*);omega) (by(try simp only[bb] at*);omega) ?_)
 refine ae 1 aa (af ?_)
 refine aM (ak 2 aa (aK aa (fun Z=>?_) (fun Z=>?_)))
 ·refine ak 2 aa (ax ?_)
  exact bC rfl rfl (by
   by_cases hy:4400<y
   ·unfold jy;rw[aw (by omega)];rfl
   unfold jy;rw[aj (by simp only[eV,fw,bb] at*;omega),aw (by simp only[eV,fw,bb] at*;omega)];rfl)
 refine aU (ak 3 aa (ax ?_))
 have hy:¬4400<y:=fun k=>by
  have:=Uy k
  simp only[eV,fw,bb] at*;omega
 exact bC rfl rfl (by unfold jy;rw[aj (by simp only[eV,fw,bb] at*;omega),aj (by simp only[eV,fw,bb] at*;omega),show sO y m d=v+(d:Nat) -Int.ofNat 1 by rw[Y,hv];omega];rfl)
open Go
variable{s:List UInt8}
theorem xi{n:Nat}(h:s.length≤n):(gB s).1<10^n:=by
 unfold gB
 split
 ·rename_i z;exact Ls z h
 exact Nat.pow_pos (by decide)
def dg(s:List UInt8)(j:Nat):Nat:=((s[j]?).getD 0).toNat-48
def AY(s:List UInt8)(i:Nat):List VV:=[0,1,2,3,4,5,6,7,8,9].map fun j=>dI ((if j<i∧j≠4∧j≠7 then dg s j else 0:Nat):Int)
theorem To{i:Nat}(h:i<10)(z:i≠4)(A:i≠7):EK (AY s i) (0+i*1) [VV.d (.i .i64 (dg s i:Nat))]=AY s (i+1):=by
 rcases(by omega:i=0∨i=1∨i=2∨i=3∨i=5∨i=6∨i=8∨i=9) with rfl|rfl|rfl|rfl|rfl|rfl|rfl|rfl<;>rfl
theorem KH{i:Nat}(h:i=4∨i=7):AY s i=AY s (i+1):=by
 rcases h with rfl|rfl<;>rfl
def P4(s:List UInt8)(i:Nat):Prop:=∀j,j<i→j=4∨j=7∨gR ((s[j]?).getD 0)=true
theorem P5(h:s.length=10):∃a b c d e f g i j k,s=[a,b,c,d,e,f,g,i,j,k]:=by
 match s,h with
 |[a,b,c,d,e,f,g,i,j,k],_=>exact⟨a,b,c,d,e,f,g,i,j,k,rfl⟩
theorem UA(h:s.length=10)(Y:P4 s 10):gB (s.take 4)=(1000*dg s 0+100*dg s 1+10*dg s 2+dg s 3,true)∧gB ((s.drop 5).take 2)=(10*dg s 5+dg s 6,true)∧gB (s.drop 8)=(10*dg s 8+dg s 9,true):=by
 have k:=fun j(Z:j<10)(h4:j≠4)(h7:j≠7)=>(Y j Z).resolve_left h4|>.resolve_left h7
 have z:=k 0 (by decide) (by decide) (by decide);have A:=k 1 (by decide) (by decide) (by decide);have G:=k 2 (by decide) (by decide) (by decide);have I:=k 3 (by decide) (by decide) (by decide)
 have J:=k 5 (by decide) (by decide) (by decide);have K:=k 6 (by decide) (by decide) (by decide);have O:=k 8 (by decide) (by decide) (by decide);have U:=k 9 (by decide) (by decide) (by decide)
 obtain⟨a,b,c,d,e,f,g,i,j,l,rfl⟩:=P5 h
 simp at z A G I J K O U
 unfold gB dg
 simp[z,A,G,I,J,K,O,U,dW]
 omega
theorem MS(h:s.length=10){i:Nat}{c:UInt8}(hi:i<10)(I:i≠4)(J:i≠7)(G:s[i]?=some c)(A:¬(48≤c.toNat∧c.toNat≤57)):¬((gB (s.take 4)).2=true∧(gB ((s.drop 5).take 2)).2=true∧(gB (s.drop 8)).2=true):=by
 have A:gR c=false:=by simpa using fun k=>A (wR.1 k)
 obtain⟨a,b,K,d,e,f,g,O,j,l,rfl⟩:=P5 h
 have z:∀x:List UInt8,(gB x).2=x.all gR:=fun x=>by unfold gB;split<;>simp_all
 rw[z,z,z]
 rcases(by omega:i=0∨i=1∨i=2∨i=3∨i=5∨i=6∨i=8∨i=9) with rfl|rfl|rfl|rfl|rfl|rfl|rfl|rfl<;>simp at G<;>subst G<;>simp[A]
theorem toNat_45{c:UInt8}(h:((c.toNat:Nat):Int)=Int.ofNat 45):c=45:=by
 have h2:c.toNat=45:=by simp only[bb] at h;omega
 exact UInt8.toNat_inj.1 (h2.trans aa)
theorem xC(h:¬s=tE)(h2:¬(s.length=10∧s[4]?=some 45∧s[7]?=some 45)):fm s=(0,5):=by unfold fm;rw[aj h,aw h2]
theorem zX(h:¬s=tE)(h2:s.length=10∧s[4]?=some 45∧s[7]?=some 45)(z:¬((gB (s.take 4)).2=true∧(gB ((s.drop 5).take 2)).2=true∧(gB (s.drop 8)).2=true)):fm s=(0,5):=by unfold fm;rw[aj h,aj (fun k=>k h2),aw z]
theorem MT(h:¬s=tE)(h2:s.length=10∧s[4]?=some 45∧s[7]?=some 45)(z:(gB (s.take 4)).2=true∧(gB ((s.drop 5).take 2)).2=true∧(gB (s.drop 8)).2=true):fm s=Ic (jy (gB (s.take 4)).1 (gB ((s.drop 5).take 2)).1 (gB (s.drop 8)).1):=by unfold fm;rw[aj h,aj (fun k=>k h2),aj (fun k=>k z)]
open Go
set_option maxRecDepth 10000
set_option maxHeartbeats 1000000 in
theorem Ig{T:bf}(F:FT T)(s:List UInt8):Sound T 216 [dS s] fun r=>r=lN (fm s):=by
 refine ep F.aae aa (ak 2 aa (aM (ai (ae 1 aa (al (oo (b:=tE) aa aa ?_))))))
 refine af (aK aa (fun bJ=>?_) (fun bJ=>?_))
 ·refine ak 2 aa (ax ?_)
  exact bC rfl rfl (by unfold lN fm;rw[aw (by simpa using bJ)];rfl)
 have K:¬s=tE:=by simpa using bJ
 refine aU (aM (ai (ae 4 aa (da (g:=bk) aa (fun z=>?_) (fun z=>?_)))))
 ·have J:=xC K (fun k=>by simp at z;omega)
  refine aS aa (z) (aS aa (z) (aS aa (z) (al (cU aa (z) aa ?_))))
  refine ae 1 aa (aS aa aa (aS aa aa (aS aa aa (ae 1 aa (af ?_)))))
  refine fe aa aa (ak 2 aa (ax ?_))
  exact bC rfl rfl (by unfold lN;rw[J];rfl)
 have hl:s.length=10:=by simp at z;omega
 obtain⟨c4,h4⟩:=jH (s:=s) (i:=4) (by omega)
 obtain⟨c7,h7⟩:=jH (s:=s) (i:=7) (by omega)
 refine au aa (z) (bM aa ?_)
 refine au aa (z) (fM aa aa h4 ?_)
 refine au aa (z) (iq aa aa ?_)
 refine al (cK aa (z) aa ?_)
 refine ae 1 aa (da (g:=bH) aa (fun A=>?_) (fun A=>?_))
 ·have J:=xC K (fun k=>by have h:=vP (h4.symm.trans k.2.1);subst h;simp at A)
  refine aS aa (A) (aS aa (A) (aS aa (A) (al (cU aa (A) aa ?_))))
  refine af (fe aa aa (ak 2 aa (ax ?_)))
  exact bC rfl rfl (by unfold lN;rw[J];rfl)
 refine au aa (A) (bM aa ?_)
 refine au aa (A) (fM aa aa h7 ?_)
 refine au aa (A) (iq aa aa ?_)
 refine al (cK aa (A) aa ?_)
 refine af (aK aa (fun O=>?_) (fun O=>?_))
 ·have J:=xC K (fun k=>by have h:=vP (h7.symm.trans k.2.2);subst h;simp at O)
  refine ak 2 aa (ax ?_)
  exact bC rfl rfl (by unfold lN;rw[J];rfl)
 obtain rfl:c4=45:=toNat_45 (by simpa using A)
 obtain rfl:c7=45:=toNat_45 (by simpa using O)
 have Z:s.length=10∧s[4]?=some 45∧s[7]?=some 45:=⟨hl,h4,h7⟩
 refine aU (ai (ae 1 aa ?_))
 refine al (j7 (l:=0) (h:=4) rfl ⟨_,rfl⟩ rfl (by omega) (by omega) ?_)
 rw[show(s.drop 0).take (4-0)=s.take 4 from rfl]
 refine al (cQ (Ie F (by rw[nf];omega)) rfl rfl ?_)
 refine ae 5 aa (af ?_)
 refine ai (ae 1 aa ?_)
 refine al (j7 (l:=5) (h:=7) rfl ⟨_,rfl⟩ ⟨_,rfl⟩ (by omega) (by omega) ?_)
 rw[show(s.drop 5).take (7-5)=(s.drop 5).take 2 from rfl]
 refine al (cQ (Ie F (by rw[nf];omega)) rfl rfl ?_)
 refine ae 5 aa (af ?_)
 refine ai (ae 1 aa ?_)
 refine al (j7 (l:=8) (h:=s.length) rfl rfl ⟨_,rfl⟩ (by omega) (by omega) ?_)
 rw[show(s.drop 8).take (s.length-8)=s.drop 8 from qu (by rw[iL];omega)]
 refine al (cQ (Ie F (by rw[iL];omega)) rfl rfl ?_)
 refine ae 5 aa (af ?_)
 refine aM (ai (ae 3 aa (da (g:=d8) aa (fun G=>?_) (fun G=>?_))))
 ·have J:=zX K Z (fun k=>by simp[k.1] at G)
  refine aS aa (G) (aS aa (G) (al (cU aa (G) aa ?_)))
  refine ae 1 aa (aS aa aa (aS aa aa (ae 1 aa (af ?_))))
  refine fe aa aa (ak 2 aa (ax ?_))
  exact bC rfl rfl (by unfold lN;rw[J];rfl)
 refine au aa (G) (bM aa ?_)
 refine au aa (G) (ju aa ?_)
 refine al (cK aa (G) aa ?_)
 refine ae 1 aa (da (g:=ef) aa (fun I=>?_) (fun I=>?_))
 ·have J:=zX K Z (fun k=>by simp[k.2.1] at I)
  refine aS aa (I) (aS aa (I) (al (cU aa (I) aa ?_)))
  refine af (fe aa aa (ak 2 aa (ax ?_)))
  exact bC rfl rfl (by unfold lN;rw[J];rfl)
 refine au aa (I) (bM aa ?_)
 refine au aa (I) (ju aa ?_)
 refine al (cK aa (I) aa ?_)
 refine af (aK aa (fun U=>?_) (fun U=>?_))
 ·have J:=zX K Z (fun k=>by simp[k.2.2] at U)
  refine ak 2 aa (ax ?_)
  exact bC rfl rfl (by unfold lN;rw[J];rfl)
 have J:=MT K Z ⟨by simpa using G,by simpa using I,by simpa using U⟩
 refine aU (ai (ae 3 aa ?_))
 refine al (cQ (WD F (vN (xi (n:=4) (by rw[nf];omega))) (vN (xi (n:=2) (by rw[nf];omega))) (vN (xi (n:=2) (by rw[iL];omega)))) rfl rfl ?_)
 refine ae 5 aa (af ?_)
 refine aM (ak 2 aa (aK aa (fun Y=>?_) (fun Y=>?_)))
 ·have ho:jy (gB (s.take 4)).1 (gB ((s.drop 5).take 2)).1 (gB (s.drop 8)).1=none:=by simpa using Y
  rw[ho] at J
  refine ak 2 aa (ax ?_)
  exact bC rfl rfl (by unfold lN;rw[J];rfl)
 obtain⟨n,ho⟩:∃n,jy (gB (s.take 4)).1 (gB ((s.drop 5).take 2)).1 (gB (s.drop 8)).1=some n:=by cases hc:jy (gB (s.take 4)).1 (gB ((s.drop 5).take 2)).1 (gB (s.drop 8)).1<;>simp[hc] at Y;exact⟨_,rfl⟩
 rw[ho] at J
 refine aU (ak 3 aa (ax ?_))
 exact bC rfl rfl (by unfold lN;rw[J,ho];rfl)
set_option maxHeartbeats 2000000 in
theorem HE{T:bf}(F:FT T)(s:List UInt8):Sound T 201 [dS s] fun r=>r=lN (fm s):=by
 refine ep F.Z3 aa (ak 2 aa (aM (ai (ae 1 aa (al (oo (b:=tE) aa aa ?_))))))
 refine af (aK aa (fun h9=>?_) (fun h9=>?_))
 ·refine ak 2 aa (ax ?_)
  exact bC rfl rfl (by unfold lN fm;rw[aw (by simpa using h9)];rfl)
 have hf:¬s=tE:=by simpa using h9
 refine aU (aM (ai (ae 4 aa (da (g:=aR) aa (fun bJ=>?_) (fun bJ=>?_)))))
 ·have J:=xC hf (fun k=>by simp at bJ;omega)
  refine aS aa (bJ) (aS aa (bJ) (aS aa (bJ) (al (cU aa (bJ) aa ?_))))
  refine ae 1 aa (aS aa aa (aS aa aa (aS aa aa (ae 1 aa (af ?_)))))
  refine fe aa aa (ak 2 aa (ax ?_))
  exact bC rfl rfl (by unfold lN;rw[J];rfl)
 have hl:s.length=10:=by simp at bJ;omega
 obtain⟨c4,h4⟩:=jH (s:=s) (i:=4) (by omega)
 obtain⟨c7,h7⟩:=jH (s:=s) (i:=7) (by omega)
 refine au aa (bJ) (bM aa ?_)
 refine au aa (bJ) (fM aa aa h4 ?_)
 refine au aa (bJ) (iq aa aa ?_)
 refine al (cK aa (bJ) aa ?_)
 refine ae 1 aa (da (g:=bh) aa (fun A=>?_) (fun A=>?_))
 ·have J:=xC hf (fun k=>by have h:=vP (h4.symm.trans k.2.1);subst h;simp at A)
  refine aS aa (A) (aS aa (A) (aS aa (A) (al (cU aa (A) aa ?_))))
  refine af (fe aa aa (ak 2 aa (ax ?_)))
  exact bC rfl rfl (by unfold lN;rw[J];rfl)
 refine au aa (A) (bM aa ?_)
 refine au aa (A) (fM aa aa h7 ?_)
 refine au aa (A) (iq aa aa ?_)
 refine al (cK aa (A) aa ?_)
 refine af (aK aa (fun U=>?_) (fun U=>?_))
 ·have J:=xC hf (fun k=>by have h:=vP (h7.symm.trans k.2.2);subst h;simp at U)
  refine ak 2 aa (ax ?_)
  exact bC rfl rfl (by unfold lN;rw[J];rfl)
 obtain rfl:c4=45:=toNat_45 (by simpa using A)
 obtain rfl:c7=45:=toNat_45 (by simpa using U)
 have hs:s.length=10∧s[4]?=some 45∧s[7]?=some 45:=⟨hl,h4,h7⟩
 refine aU (ak 1 aa (aM (ak 1 aa (bN ?_))))
 refine d6 (fun k VE B=>∃i,i≤10∧k=10-i∧P4 s i∧bw [(0,dS s),(2,d0),(3,d0),(4,.vp 4 0),(5,dI (i:Nat))] VE∧bw [(4,.one 245 80 (AY s i))] B) ?_ (k:=10) ⟨0,by decide,rfl,fun _ h=>absurd h (Ha _),⟨rfl,rfl,rfl,rfl,rfl,trivial⟩,rfl,trivial⟩
 rintro k VE B⟨i,hi,rfl,hd,hV,hB⟩
 refine dx _ _ hV hB (aM (ak 2 aa (aK aa (fun Y=>?_) (fun Y=>?_))))
 ·have G:i<10:=by simp at Y;omega
  obtain⟨c,K⟩:=jH (s:=s) (i:=i) (by omega)
  have aa1:=c.toNat_lt
  have hdg:dg s i=c.toNat-48:=by unfold dg;rw[K];rfl
  refine aU (aM (bN (aM (ai (ae 3 aa (da (g:=cl) aa (fun I=>?_) (fun I=>?_)))))))
  ·have Z:i=4∨i=7:=by simp at I;omega
   refine aS aa (I) (aS aa (I) (al (cU aa (I) aa ?_)))
   refine af (fe aa aa (dM (bG (ae 1 aa ?_))))
   refine al (cX rfl rfl (by omega) ?_)
   refine ae 1 aa (af ?_)
   exact⟨10-(i+1),by omega,i+1,by omega,rfl,fun j hj=>by(rcases Nat.lt_succ_iff_lt_or_eq.1 hj with k|rfl;exact hd j k;omega),⟨rfl,rfl,rfl,rfl,rfl,trivial⟩,by rw[←KH Z];rfl,trivial⟩
  have I0:i≠4:=by simp at I;omega
  refine au aa (I) (bM aa ?_)
  refine au aa (I) (gZ aa aa ?_)
  refine al (cK aa (I) aa ?_)
  refine af (aK aa (fun ph=>?_) (fun ph=>?_))
  ·have Z:i=4∨i=7:=by simp at ph;omega
   refine dM (bG (ae 1 aa ?_))
   refine al (cX rfl rfl (by omega) ?_)
   refine ae 1 aa (af ?_)
   exact⟨10-(i+1),by omega,i+1,by omega,rfl,fun j hj=>by(rcases Nat.lt_succ_iff_lt_or_eq.1 hj with k|rfl;exact hd j k;omega),⟨rfl,rfl,rfl,rfl,rfl,trivial⟩,by rw[←KH Z];rfl,trivial⟩
  have I1:i≠7:=by simp at ph;omega
  refine aU (aM (ai (ae 2 aa (al (fM aa aa K ?_)))))
  refine ae 2 aa (da (g:=cY) aa (fun z=>?_) (fun z=>?_))
  ·have J:=zX hf hs (MS hl G I0 I1 K (by simp at z;omega))
   refine aS aa (z) (aS aa (z) (aS aa (z) (aS aa (z) (al (cU aa (z) aa ?_)))))
   refine af (fe aa aa (ak 2 aa (ax ?_)))
   exact bC rfl rfl (by unfold lN;rw[J];rfl)
  refine au aa (z) (bM aa ?_)
  refine au aa (z) (bM aa ?_)
  refine au aa (z) (fM aa aa K ?_)
  refine au aa (z) (tV aa aa ?_)
  refine al (cK aa (z) aa ?_)
  refine af (aK aa (fun qE=>?_) (fun qE=>?_))
  ·have J:=zX hf hs (MS hl G I0 I1 K (by simp at qE;omega))
   refine ak 2 aa (ax ?_)
   exact bC rfl rfl (by unfold lN;rw[J];rfl)
  have P6:48≤c.toNat∧c.toNat≤57:=by simp at z qE;omega
  refine aU (bG (ae 3 aa (al (fM aa aa K ?_))))
  refine al (MR aa aa P6.1 ?_)
  refine al (Gm rfl (by omega) ?_)
  refine al (om aa aa G ?_)
  refine MM (Kp rfl rfl rfl rfl rfl (by decide) (by show 0+i*1+1≤10;omega) ?_)
  refine af (bG (ae 1 aa ?_))
  refine al (cX rfl rfl (by omega) ?_)
  refine ae 1 aa (af ?_)
  exact⟨10-(i+1),by omega,i+1,by omega,rfl,fun j hj=>by(rcases Nat.lt_succ_iff_lt_or_eq.1 hj with k|rfl;exact hd j k;exact .inr (.inr (by rw[K];exact wR.2 P6))),⟨rfl,rfl,rfl,rfl,rfl,trivial⟩,by rw[←To G I0 I1,hdg];rfl,trivial⟩
 have G:i=10:=by simp at Y;omega
 subst G
 have O:∀j,dg s j≤207:=fun j=>by have:=((s[j]?).getD 0).toNat_lt;unfold dg;omega
 have g0:=O 0;have g1:=O 1;have g2:=O 2;have g3:=O 3;have g5:=O 5;have g6:=O 6;have g8:=O 8;have g9:=O 9
 obtain⟨n1,n2,n3⟩:=UA hl hd
 have J:=MT hf hs ⟨by rw[n1],by rw[n2],by rw[n3]⟩
 rw[n1,n2,n3] at J
 have hy:1000*dg s 0+100*dg s 1+10*dg s 2+dg s 3≤9999:=by have:=xi (s:=s.take 4) (n:=4) (by rw[nf];omega);rw[n1] at this;exact vN this
 have hmm:10*dg s 5+dg s 6≤99:=by have:=xi (s:=(s.drop 5).take 2) (n:=2) (by rw[nf];omega);rw[n2] at this;exact vN this
 have hdd:10*dg s 8+dg s 9≤99:=by have:=xi (s:=s.drop 8) (n:=2) (by rw[iL];omega);rw[n3] at this;exact vN this
 refine dM (ai ?_)
 refine al (om (j:=0) rfl rfl (by decide) ?_)
 refine al (c8 (v:=dI (dg s 0:Nat)) aa aa aa ?_)
 refine al (tO rfl rfl (by(try simp only[bb] at*);omega) (by(try simp only[bb] at*);omega) ?_)
 refine al (om (j:=1) rfl rfl (by decide) ?_)
 refine al (c8 (v:=dI (dg s 1:Nat)) aa aa aa ?_)
 refine al (tO rfl rfl (by(try simp only[bb] at*);omega) (by(try simp only[bb] at*);omega) ?_)
 refine al (jM rfl rfl (by(try simp only[bb] at*);omega) (by(try simp only[bb] at*);omega) ?_)
 refine al (om (j:=2) rfl rfl (by decide) ?_)
 refine al (c8 (v:=dI (dg s 2:Nat)) aa aa aa ?_)
 refine al (tO rfl rfl (by(try simp only[bb] at*);omega) (by(try simp only[bb] at*);omega) ?_)
 refine al (jM rfl rfl (by(try simp only[bb] at*);omega) (by(try simp only[bb] at*);omega) ?_)
 refine al (om (j:=3) rfl rfl (by decide) ?_)
 refine al (c8 (v:=dI (dg s 3:Nat)) aa aa aa ?_)
 refine al (jM rfl rfl (by(try simp only[bb] at*);omega) (by(try simp only[bb] at*);omega) ?_)
 rw[show Int.ofNat 1000*(dg s 0:Nat)+Int.ofNat 100*(dg s 1:Nat)+Int.ofNat 10*(dg s 2:Nat)+((dg s 3:Nat):Int)=((1000*dg s 0+100*dg s 1+10*dg s 2+dg s 3:Nat):Int) by simp only[bb];omega]
 refine al (om (j:=5) rfl rfl (by decide) ?_)
 refine al (c8 (v:=dI (dg s 5:Nat)) aa aa aa ?_)
 refine al (tO rfl rfl (by(try simp only[bb] at*);omega) (by(try simp only[bb] at*);omega) ?_)
 refine al (om (j:=6) rfl rfl (by decide) ?_)
 refine al (c8 (v:=dI (dg s 6:Nat)) aa aa aa ?_)
 refine al (jM rfl rfl (by(try simp only[bb] at*);omega) (by(try simp only[bb] at*);omega) ?_)
 rw[show Int.ofNat 10*(dg s 5:Nat)+((dg s 6:Nat):Int)=((10*dg s 5+dg s 6:Nat):Int) by simp only[bb];omega]
 refine al (om (j:=8) rfl rfl (by decide) ?_)
 refine al (c8 (v:=dI (dg s 8:Nat)) aa aa aa ?_)
 refine al (tO rfl rfl (by(try simp only[bb] at*);omega) (by(try simp only[bb] at*);omega) ?_)
 refine al (om (j:=9) rfl rfl (by decide) ?_)
 refine al (c8 (v:=dI (dg s 9:Nat)) aa aa aa ?_)
 refine al (jM rfl rfl (by(try simp only[bb] at*);omega) (by(try simp only[bb] at*);omega) ?_)
 rw[show Int.ofNat 10*(dg s 8:Nat)+((dg s 9:Nat):Int)=((10*dg s 8+dg s 9:Nat):Int) by simp only[bb];omega]
 refine al (cQ (WE F (y:=1000*dg s 0+100*dg s 1+10*dg s 2+dg s 3) (m:=10*dg s 5+dg s 6) (d:=10*dg s 8+dg s 9) hy hmm hdd) aa aa ?_)
 refine ae 5 aa (af ?_)
 refine aM (ak 2 aa (aK aa (fun I2=>?_) (fun I2=>?_)))
 ·have ho:jy (1000*dg s 0+100*dg s 1+10*dg s 2+dg s 3) (10*dg s 5+dg s 6) (10*dg s 8+dg s 9)=none:=by simpa using I2
  refine ak 2 aa (ax ?_)
  exact bC rfl rfl (by unfold lN;rw[J,ho];rfl)
 obtain⟨n,ho⟩:∃n,jy (1000*dg s 0+100*dg s 1+10*dg s 2+dg s 3) (10*dg s 5+dg s 6) (10*dg s 8+dg s 9)=some n:=by cases K:jy (1000*dg s 0+100*dg s 1+10*dg s 2+dg s 3) (10*dg s 5+dg s 6) (10*dg s 8+dg s 9)<;>simp[K] at I2;exact⟨_,rfl⟩
 refine aU (ak 3 aa (ax ?_))
 exact bC rfl rfl (by unfold lN;rw[J,ho];rfl)
open Go
def preB(s p:List UInt8):Bool:=decide (p.length≤s.length)&&decide (s.take p.length=p)
def eR(s:List UInt8)(c:UInt8):List UInt8×List UInt8×Bool:=if 0≤eI c s then(s.take (eI c s).toNat,s.drop ((eI c s).toNat+1),true) else(s,[],false)
def mc(a b:Int×Int):(Int×Int)×Int:=if¬a.2=0 then((0,0),a.2) else if¬b.2=0 then((0,0),b.2) else if b.1≤a.1 then((0,0),10) else((a.1,b.1),0)
def At(r:List UInt8):Prop:=preB r [32]=true∧eI 41 r=(r.length:Nat) -Int.ofNat 1
instance(r:List UInt8):Decidable (At r):=inferInstanceAs(Decidable (_∧_))
def lO(s:List UInt8):(Int×Int)×Int:=
 if preB s [91]=true∧(eR (s.drop 1) 44).2.2=true∧At (eR (s.drop 1) 44).2.1 then mc (fm (eR (s.drop 1) 44).1) (fm (((eR (s.drop 1) 44).2.1.drop 1).take ((eR (s.drop 1) 44).2.1.length-1-1)))
 else((0,0),5)
def ll(x:(Int×Int)×Int):VV:=.tuple [.agg [dI x.1.1,dI x.1.2],dI x.2]
theorem Au{s:List UInt8}{c:UInt8}:preB s [c]=true↔s[0]?=some c:=by
 unfold preB;cases s<;>simp
theorem Gn{c:UInt8}:∀{a b:List UInt8},(∀x,x∈a→x≠c)→eI c (a++b)=if eI c b= -1 then-1 else eI c b+(a.length:Nat)
 |[],b,_=>by simp
 |x::a,b,h=>by
  have z:=Gn (c:=c) (a:=a) (b:=b) fun y A=>h y (nO _ A)
  have G:¬x=c:=h x lh
  show(if x=c then 0 else if eI c (a++b)= -1 then-1 else eI c (a++b)+1)=_
  rw[aj G,z]
  have I:=xh c b
  rw[dk]
  by_cases k:eI c b= -1
  ·simp[k]
  rw[aj k,aj k,aj (by omega)];omega
theorem UB{c:UInt8}{a:List UInt8}(h:∀x,x∈a→x≠c):eI c a= -1:=by
 have:=Gn (b:=[]) h
 rw[yf] at this;rw[this];rfl
theorem BX{c:UInt8}:∀{s:List UInt8}{k:Nat},eI c s=(k:Int)→s[k]?=some c∧∀j x,j<k→s[j]?=some x→x≠c
 |[],k,h=>by unfold eI at h;omega
 |y::s,k,h=>by
  have h:(if y=c then(0:Int) else if eI c s= -1 then-1 else eI c s+1)=(k:Int):=h
  by_cases z:y=c
  ·rw[aw z] at h;obtain rfl:k=0:=by omega
   exact⟨by rw[z];rfl,fun j x G=>absurd G (Ha _)⟩
  rw[aj z] at h
  by_cases I:eI c s= -1
  ·rw[aw I] at h;omega
  rw[aj I] at h
  have K:=xh c s
  obtain⟨m,rfl⟩:∃m,k=m+1:=⟨k-1,by omega⟩
  obtain⟨J,h2⟩:=BX (c:=c) (s:=s) (k:=m) (by omega)
  refine⟨J,fun j x G A=>?_⟩
  cases j with
  |zero=>simp at A;subst A;exact z
  |succ j=>exact h2 j x (by omega) A
theorem KI{r:List UInt8}(h:At r):2≤r.length:=by
 obtain⟨z,h2⟩:=h
 rw[Au] at z
 match r,z,h2 with
 |[x],z,h2=>simp at z;subst z;exact absurd h2 (by decide)
 |_::_::_,_,_=>simp
theorem Me{c:UInt8}:∀{s:List UInt8}{k:Nat},s[k]?=some c→(∀j x,j<k→s[j]?=some x→x≠c)→eI c s=(k:Int)
 |[],k,h,_=>by simp at h
 |y::s,0,h,_=>by simp at h;subst h;exact aw rfl
 |y::s,k+1,h,h2=>by
  have z:¬y=c:=h2 0 y (HP _) rfl
  have A:=Me (c:=c) (s:=s) (k:=k) h fun j x I G=>h2 (j+1) x (by omega) G
  show(if y=c then(0:Int) else if eI c s= -1 then-1 else eI c s+1)=_
  rw[aj z,A,aj (by omega)];omega
def dw(s:List UInt8):List UInt8:=(s.drop 1).take (s.length-1-1)
theorem VD{s:List UInt8}(h:4≤s.length)(h0:s[0]?=some 91)(z:s[s.length-1]?=some 41):s=91::(dw s++[41]):=by
 match s,h0 with
 |x::r,h0=>
  simp at h0;subst h0
  congr 1
  have A:r.length=(r.length-1)+1:=by simp at h;omega
  have h2:r[r.length-1]?=some 41:=by
   have z:=z
   rw[dk,G7] at z
   conv at z=>lhs;rw[A]
   rw[HN] at z
   exact z
  show r=r.take (r.length+1-1-1)++[41]
  rw[G7]
  conv=>lhs;rw[←G' (l:=r),A,take_succ h2]
variable{s:List UInt8}{k:Nat}
theorem Mf(J:s=91::(dw s++[41]))(hk:k≤(dw s).length)(I:∀j x,j<k→(dw s)[j]?=some x→x≠44)(K:k<(dw s).length→(dw s)[k]?=some 44):
  (k<(dw s).length→eR (s.drop 1) 44=((dw s).take k,(dw s).drop (k+1)++[41],true))∧(¬k<(dw s).length→(eR (s.drop 1) 44).2.2=false):=by
 generalize dw s=i at*
 subst J
 show(_→eR (i++[41]) 44=_)∧(_→(eR (i++[41]) 44).2.2=false)
 constructor
 ·intro h
  have G:eI 44 (i++[41])=(k:Int):=Me (by rw[qv h];exact K h) fun j x A z=>I j x A (by rw[qv (by omega)] at z;exact z)
  unfold eR
  rw[G,aw (by omega),Ek,List.take_append_of_le_length (by omega),List.drop_append_of_le_length (by omega)]
 intro h
 obtain rfl:k=i.length:=by omega
 have G:eI 44 (i++[41])= -1:=UB fun x z=>by
  rcases List.mem_append.1 z with z|z
  ·obtain⟨j,A,he⟩:=Hb z
   exact I j x A (by rw[eY A,he])
  rcases List.mem_singleton.1 z with rfl;decide
 unfold eR
 rw[G,aj (by omega)]
theorem UC(J:s=91::(dw s++[41]))(hk:k+1<(dw s).length)(K:∀j x,j<k→(dw s)[j]?=some x→x≠44)(O:(dw s)[k]?=some 44)(z:(dw s)[k+1]?=some 32)(A:∀x,x∈(dw s).drop (k+2)→x≠41):
  lO s=mc (fm ((dw s).take k)) (fm ((dw s).drop (k+2))):=by
 have U:=(Mf J (by omega) K fun _=>O).1 (by omega)
 have G:(dw s).drop (k+1)=32::(dw s).drop (k+2):=by
  obtain⟨Y,he⟩:=List.getElem?_eq_some_iff.1 z
  rw[AA Y,he]
 have h2:preB s [91]=true:=Au.2 (by rw[J];rfl)
 have Z:At ((dw s).drop (k+1)++[41]):=by
  refine⟨Au.2 (by rw[G];rfl),?_⟩
  rw[Gn (by rw[G];intro x I;rcases List.mem_cons.1 I with rfl|I;decide;exact A x I)]
  rw[bK,eK,show eI 41 [41]=0 from rfl,aj (by decide)]
  simp
 unfold lO
 rw[U,aw ⟨h2,rfl,Z⟩]
 congr 2
 rw[G]
 show((dw s).drop (k+2)++[41]).take _=_
 rw[yA,dk,bK,eK]
 exact List.take_left' (by omega)
theorem GJ(K:s=91::(dw s++[41]))(hk:k≤(dw s).length)(O:∀j x,j<k→(dw s)[j]?=some x→x≠44)(U:k<(dw s).length→(dw s)[k]?=some 44)
  (h:(dw s).length≤k+1∨¬(dw s)[k+1]?=some 32∨∃x,x∈(dw s).drop (k+2)∧x=41):lO s=((0,0),5):=by
 obtain⟨Y,h2⟩:=Mf K hk O U
 refine aj fun⟨_,G,I⟩=>?_
 by_cases J:k<(dw s).length
 ·rw[Y J] at I
  obtain⟨z,A⟩:=I
  have A:eI 41 ((dw s).drop (k+1)++[41])=(((dw s).drop (k+1)).length:Nat):=by rw[A,bK,eK];simp
  have Z:=(BX A).2
  rw[Au] at z
  rcases h with h|h|⟨x,hx,rfl⟩
  ·obtain h:(dw s).length=k+1:=by omega
   rw[←h,G9] at z;simp at z
  ·by_cases j0:k+1<(dw s).length
   ·rw[qv (by rw[iL];omega),sT] at z
    exact h z
   obtain h:(dw s).length=k+1:=by omega
   rw[←h,G9] at z;simp at z
  obtain⟨j,hj,he⟩:=Hb hx
  rw[iL] at hj
  refine Z (j+1) 41 (by rw[iL];omega) ?_ rfl
  rw[qv (by rw[iL];omega),sT]
  rw[List.getElem_drop] at he
  rw[show k+1+(j+1)=k+2+j by omega,eY (by omega),he]
 rw[h2 J] at G;cases G
theorem GK(h:s.length<4∨¬s[0]?=some 91∨¬s[s.length-1]?=some 41):lO s=((0,0),5):=by
 refine aj fun⟨I,G,J⟩=>?_
 rw[Au] at I
 have z:=KI J
 have A:=J.2
 unfold eR at G A z
 split at G
 ·rename_i hp
  rw[aw hp] at A z
  simp only at A z
  generalize (eI 44 (s.drop 1)).toNat=m at A z
  rw[iL,iL] at z
  have O:eI 41 ((s.drop 1).drop (m+1))=(((s.drop 1).drop (m+1)).length-1:Nat):=by
   rw[A,iL,iL];simp only[bb];omega
  have K:=(BX O).1
  rw[sT,sT,iL,iL] at K
  rcases h with h|h|h
  ·omega
  ·exact h I
  exact h (by rw[←K];congr 1;omega)
 cases G
theorem rB{a b:UInt8}(n:Nat)(z:a.toNat=n)(A:b.toNat=n):a=b:=UInt8.toNat_inj.1 (z.trans A.symm)
end Go.Ev.Pp
