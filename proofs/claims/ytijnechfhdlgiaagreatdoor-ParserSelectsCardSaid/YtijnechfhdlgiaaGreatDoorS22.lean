/- Part 22 of rules for walks through the code of a program, and of such walks; what each part proves is said by its theorems. -/
import Derived.Test.YtijnechfhdlgiaaGreatDoorS21
set_option linter.unusedVariables false
set_option linter.unusedSimpArgs false
namespace Go.Ev.Pp
open Go
set_option maxRecDepth 10000
theorem jV{T:bd}{VE:b0}{B:bo}{Q:b0→bo→Prop}{fl:List FL}{d:Key}{l:List Nat}{n:Nat}{w:Bool}{a:aF}{row:List DC}{o:Nat}{r:List bt}(Z:a.vv VE=some (.rp row o))(hk:nU [] l fl=true)(h:VI T (.load n w a) VE B [] fun v B'=>VQ T r ((d.n,v)::VE) B' (.rd []::fl) Q):VQ T (⟨some d,none,some l,.load n w a⟩::r) VE B fl Q:=by
 intro H0 X0 E H β J bR I
 obtain⟨N,v0,H',e,K,v,B',β',U,O,hv,hq⟩:=zR h J
 obtain⟨x,Y,A⟩:=J.b8 Z
 simp only[aM] at A
 obtain⟨f,g,Q1,l1,rfl,_,_,hX,dT⟩:=A
 have z:H'=H.mark:=Le Y (e N N (bV _) (bV _))
 have G:H.mark.ws=[]∧H.mark.next=H.next:=by cases H;exact⟨rfl,rfl⟩
 have k:u6 H.next B β (.rd []) ⟨(bG.load n w a).reads E,H'.ws,H.next,H'.next⟩:=by
  refine⟨by rw[z];exact G.1,by show H.next=H'.next;rw[z];exact G.2.symm,[f],?_,fun f' I=>?_⟩
  ·show some (iZ (a.ev E))=_
   rw[Y];rfl
  rcases List.mem_singleton.1 I with rfl
  exact⟨dT,fun b s K h2 h3=>absurd (.inr ⟨b,s,K,h2,h3⟩) hX⟩
 obtain⟨N2,E2,H2,e2,hp⟩:=hq H0 X0 _ _ β' (O.set hv) (⟨(bG.load n w a).reads E,H'.ws,H.next,H'.next⟩::bR) ((I.cons k).step U)
 refine⟨max N N2,E2,H2,fun lf n a1 a2=>?_,hp.of U J.bc⟩
 show bt.ns (T.call lf n) ⟨some d,none,some l,_⟩ E H bR (me (T.call lf n) r)=_
 rw[zn,zo (e lf n (by omega) (by omega)) (xj I K hk)]
 exact e2 lf n (by omega) (by omega)
set_option maxHeartbeats 4000000 in
theorem Ri{T:bd}(F:FT T){D:Rd}(Lq:kp T D){aA:List cb}(hg:rF aA):Sound T 41 [.d (.sl (aA.map cb.enc))] fun r=>r= .tuple [ez (lP D aA).1.enc,dI (lP D aA).2.1,dI (lP D aA).2.2]:=by
 refine eh F.f41 aa ?_
 have A:bP (start aA) ((start aA).cX D).2:=hg.top.cX D
 have G:=A.trans A.top.fin
 have htk:(jL D aA).aA=aA:=G.aA
 refine al 3 aa (al 4 aa (ai (ae 1 aa (ak (jU (b9:=[.vp 1000 0]) (Bi:=PS.bq false (start aA)) [(1000,9)] 2000 aa aa aa aa aa aa aa ⟨aa,aa,trivial⟩ (Sj F Lq hg.top aa) (fun r Bn fT=>?_))))))
 obtain⟨st,a,rfl,rfl,I⟩:=fT
 refine ae 2 aa (af ?_)
 refine ai (ae 1 aa (ak (jU (b9:=[.vp 1000 0]) (Bi:=PS.bq _ ((start aA).cX D).2) [(1000,9)] 2000 aa aa aa aa aa aa aa ⟨aa,aa,trivial⟩ (PV F A.top) (fun r Bn fT=>?_))))
 obtain⟨rfl,rfl⟩:=fT
 refine af (aK (al 5 aa (aI aa (fun z=>?_) (fun z=>?_))))
 ·have he:¬(jL D aA).err=0:=by unfold jL;simpa using z
  have O:PS.ea (jL D aA)=(jL D aA).aJ:=aj he
  have U:(jL D aA).pos=(jL D aA).tok.pos:=G.pk (fun k=>absurd rfl k) he
  have Y:lP D aA=({},(jL D aA).pos,(jL D aA).err):=by unfold lP;rw[aw (by unfold jL;simpa using z)]
  have J:(aA.map cb.enc)[PS.ea (jL D aA)]?=some (jL D aA).tok.enc:=by
   rw[O,im]
   have K:=G.ok.get
   rw[G.aA] at K
   show Option.map cb.enc aA[(jL D aA).aJ]?=_
   rw[show aA[(jL D aA).aJ]?=_ from K];rfl
  refine eZ (bk 6 aa (c8 (kR (row:=(jL D aA).tok.enc) aa aa J aa ?_)))
  refine bk 1 aa (jV aa aa (mb aa aa ?_))
  refine bk 7 aa (c6 ?_)
  refine ax ?_
  rw[Y,U];exact⟨_,rfl,(by repeat(first|exact trivial|apply And.intro)),rfl⟩
 have he:(jL D aA).err=0:=by unfold jL;simpa using z
 have Y:lP D aA=(((start aA).cX D).1,0,0):=by unfold lP;rw[aj (by unfold jL;simpa using z)]
 have Z:=I (A.top.fin.er he)
 refine aQ (al 4 aa (ax ?_))
 rw[Y,←Z];exact⟨_,rfl,(by repeat(first|exact trivial|apply And.intro)),rfl⟩
set_option maxHeartbeats 4000000 in
theorem Q7{T:bd}(F:FT T){D:Rd}(Lq:kp T D){aA:List cb}(hg:rF aA):Sound T 42 [.d (.sl (aA.map cb.enc))] fun r=>r= .tuple [ez (lN D aA).1.enc,dI (lN D aA).2.1,dI (lN D aA).2.2]:=by
 refine eh F.f42 aa ?_
 have A:bP (start aA) ((start aA).cW D false).2:=hg.top.cW D false
 have G:=A.trans A.top.fin
 have htk:(jP D aA).aA=aA:=G.aA
 refine al 3 aa (al 4 aa (ai (ae 1 aa (ak (jU (b9:=[.vp 1000 0]) (Bi:=PS.bq false (start aA)) [(1000,9)] 2000 aa aa aa aa aa aa aa ⟨aa,aa,trivial⟩ (HI F Lq hg.top) (fun r Bn fT=>?_))))))
 obtain⟨⟨st,rfl,I⟩,rfl⟩:=fT
 refine ae 2 aa (af ?_)
 refine ai (ae 1 aa (ak (jU (b9:=[.vp 1000 0]) (Bi:=PS.bq _ ((start aA).cW D false).2) [(1000,9)] 2000 aa aa aa aa aa aa aa ⟨aa,aa,trivial⟩ (PV F A.top) (fun r Bn fT=>?_))))
 obtain⟨rfl,rfl⟩:=fT
 refine af (aK (al 5 aa (aI aa (fun z=>?_) (fun z=>?_))))
 ·have he:¬(jP D aA).err=0:=by unfold jP;simpa using z
  have O:PS.ea (jP D aA)=(jP D aA).aJ:=aj he
  have U:(jP D aA).pos=(jP D aA).tok.pos:=G.pk (fun k=>absurd rfl k) he
  have Y:lN D aA=(⟨[],[]⟩,(jP D aA).pos,(jP D aA).err):=by unfold lN;rw[aw (by unfold jP;simpa using z)]
  have J:(aA.map cb.enc)[PS.ea (jP D aA)]?=some (jP D aA).tok.enc:=by
   rw[O,im]
   have K:=G.ok.get
   rw[G.aA] at K
   show Option.map cb.enc aA[(jP D aA).aJ]?=_
   rw[show aA[(jP D aA).aJ]?=_ from K];rfl
  refine eZ (bk 6 aa (c8 (kR (row:=(jP D aA).tok.enc) aa aa J aa ?_)))
  refine bk 1 aa (jV aa aa (mb aa aa ?_))
  refine bk 7 aa (c6 ?_)
  refine ax ?_
  rw[Y,U];exact⟨_,rfl,(by repeat(first|exact trivial|apply And.intro)),rfl⟩
 have he:(jP D aA).err=0:=by unfold jP;simpa using z
 have Y:lN D aA=(((start aA).cW D false).1,0,0):=by unfold lN;rw[aj (by unfold jP;simpa using z)]
 have Z:=I (A.top.fin.er he)
 refine aQ (al 4 aa (ax ?_))
 rw[Y,←Z];exact⟨_,rfl,(by repeat(first|exact trivial|apply And.intro)),rfl⟩
end Go.Ev.Pp
namespace Go.Ev
open Go
variable{T:bd}{VE:b0}{B:bo}{Q:VV→bo→Prop}
theorem ua{x y:aF}{a b:Int}(z:x.vv VE=some (dI a))(A:y.vv VE=some (dI b))(G: -9223372036854775808≤a*b)(h2:a*b≤9223372036854775807)(I:Q (dI (a*b)) B):VI T (.bin .mul x y) VE B [] Q:=
 MC z A (by rw[wrap_i64 G h2];exact I)
theorem xA{x y:aF}{a b:Int}(A:x.vv VE=some (dI a))(G:y.vv VE=some (dI b))(h0:mr b 0=false)(z:0≤a)(I:0<b)(h2:a≤9223372036854775807)(J:Q (dI (a/b)) B):VI T (.bin .quo x y) VE B [] Q:=
 MD A G h0 (by
  have K:0≤a/b:=Int.ediv_nonneg z (Int.le_of_lt I)
  have O:a/b≤a:=Int.ediv_le_self b z
  rw[Int.tdiv_eq_ediv_of_nonneg z,wrap_i64 (by omega) (by omega)];exact J)
theorem ub{x y:aF}{a b:Int}(z:x.vv VE=some (dI a))(A:y.vv VE=some (dI b))(h0:mr b 0=false)(G:0≤a)(I:Q (dI (a % b)) B):VI T (.bin .rem x y) VE B [] Q:=
 ME z A h0 (by rw[Int.tmod_eq_emod_of_nonneg G];exact I)
theorem Ny{x y:aF}{c:UInt8}(z:x.vv VE=some (.d (.i .u8 (c.toNat:Nat))))(A:y.vv VE=some (.d (.i .u8 (Int.ofNat 48))))(I:48≤c.toNat)(G:Q (.d (.i .u8 ((c.toNat-48:Nat):Int))) B):VI T (.bin .sub x y) VE B [] Q:=
 Hj z A (by
  have h:=c.toNat_lt
  rw[show IntKind.u8.wrap (((c.toNat:Nat):Int) -Int.ofNat 48)=((c.toNat-48:Nat):Int) from ?_]
  ·exact G
  show(((c.toNat:Nat):Int) -48) % 256=_
  omega)
theorem zE{x:aF}{z:IntKind}{n:Nat}(A:x.vv VE=some (.d (.i z (n:Int))))(h:n<4294967296)(G:Q (dI (n:Int)) B):VI T (.conv .i64 x) VE B [] Q:=
 CM A (by rw[wrap_i64 (by omega) (by omega)];exact G)
def FD:List VV→Bool
 |[]=>true
 |.d _::r=>FD r
 |_=>false
theorem MR:∀{l:List VV},FD l=true→mu l
 |[],_=>trivial
 |.d _::r,h=>⟨trivial,MR (l:=r) h⟩
def va:List VV→Bool
 |[]=>true
 |.d _::r=>va r
 |.agg l::r=>FD l&&va r
 |.fn _ []::r=>va r
 |_=>false
theorem qy:∀{l:List VV},va l=true→mu l
 |[],_=>trivial
 |.fn _ []::r,h=>⟨trivial,qy (l:=r) h⟩
 |.d _::r,h=>⟨trivial,qy (l:=r) h⟩
 |.agg l::r,h=>by
  obtain⟨z,h2⟩:=iF (show(FD l&&va r)=true from h)
  exact⟨by simp only[VV.nb];exact MR z,qy h2⟩
theorem bx{rs:List lW}{VE:b0}{B:bo}{P:VV→Prop}{vs:List VV}(h:uN VE B rs=some vs)(z:va vs=true)(A:P (gB vs)):PA rs P .ret VE B:=⟨vs,h,qy z,A⟩
theorem cO{f:Nat}{l:List aF}{args:List VV}{R:VV}(h:Sound T f args fun r=>r=R)(z:i6 VE l=some args)(A:va args=true)(G:Q R B):VI T (.call f l) VE B [] Q:=
 mO z (qy A) h fun r _ I=>by rw[I];exact G
theorem Wl{x:aF}{f:Nat}{l:List aF}{z:List VV}{R:VV}(h:Sound T f z fun r=>r=R)(A:x.vv VE=some (.fn f []))(G:i6 VE l=some z)(I:va z=true)(J:Q R B):VI T (.mU x l) VE B [] Q:=
 TJ A G (by rw[yA];exact qy I) (by rw[yA];exact h) fun r _ K=>by rw[K];exact J
structure FX(T:bd):Prop where
 abA:T.ft.get 182=none
 abB:T.xt.get 182=some 3
 abC:T.ft.get 239=none
 abD:∃t,T.xt.get 239=some (4+t)
 abE:T.ft.get 207=none
 abF:T.xt.get 207=some 0
 abG:T.ft.get 190=none
 abH:T.xt.get 190=some 1
def eO(c:UInt8):List UInt8→Int
 |[]=> -1
 |x::r=>if x=c then 0 else if eO c r= -1 then-1 else eO c r+1
theorem xB(c:UInt8):∀l, -1≤eO c l
 |[]=>Int.le_refl _
 |x::r=>by unfold eO;have:=xB c r;split<;>(try split)<;>omega
theorem MS(c:UInt8):∀l,eO c l<(l.length:Nat)
 |[]=>by unfold eO;simp
 |x::r=>by unfold eO;have:=MS c r;have:=xB c r;rw[cP];split<;>(try split)<;>omega
theorem Ll(c:UInt8):∀l,Lib.indexByte l c=eO c l
 |[]=>rfl
 |x::r=>by
  show(if(x==c)=true then 0 else if(Lib.indexByte r c== -1)=true then-1 else Lib.indexByte r c+1)=_
  rw[Ll c r,show eO c (x::r)=if x=c then 0 else if eO c r= -1 then-1 else eO c r+1 from rfl];simp only[beq_iff_eq]
theorem RG(X:FX T)(s:List UInt8)(c:UInt8):Sound T 207 [dS s,.d (.i .u8 (c.toNat:Nat))] fun r=>r=dI (eO c s):=by
 intro H0 Y H β l A z
 simp only[bm,aM,cB,cN] at z
 obtain⟨_,_,rfl,rfl,_,_,rfl,rfl,rfl⟩:=z
 refine⟨1,.int .i64 (eO c s),H,fun lf n _ h=>?_,dI (eO c s),[],β,.refl,A,by simp only[aM,cN],by simp only[VV.nb],rfl⟩
 obtain⟨n,rfl⟩:∃n',n=n'+1:=⟨n-1,by omega⟩
 show ob (T.ft.get 207) (ob (T.xt.get 207) (.err (Nat.add 10000 207)) fun c=>qM c _ H) _=_
 rw[X.abE,X.abF]
 show aG (Nat.beq 4 4) (aG (Nat.ble c.toNat 255) (aG (Nat.beq 1 1) (ll (A9 c.toNat s.length (pack s) 0) fun i=>aE.ok (.int .i64 i) H) (.err 90)) (.err 90)) (.err 90)=_
 have h:=c.toNat_lt
 rw[show Nat.ble c.toNat 255=true from jN (by omega),Hf c s 0,Ll]
 rw[show(if eO c s= -1 then(-1:Int) else eO c s+((0:Nat):Int))=eO c s by split<;>simp_all]
 exact(r9 (eO c s) fun i=>aE.ok (.int .i64 i) H)
end Go.Ev
namespace Go.Ev.Pp
open Go
def rH(y:Nat):Bool:=decide ((y % 4=0∧¬y % 100=0)∨y % 400=0)
def kO(y m:Nat):Nat:=if m=1∨m=3∨m=5∨m=7∨m=8∨m=10∨m=12 then 31 else if m=4∨m=6∨m=9∨m=11 then 30 else if m=2 then(if rH y=true then 29 else 28) else 0
theorem wu{y m:Nat}(h:m=1∨m=3∨m=5∨m=7∨m=8∨m=10∨m=12):kO y m=31:=aw h
theorem EW{y m:Nat}(h:m=4∨m=6∨m=9∨m=11):kO y m=30:=by unfold kO;rw[aj (by omega),aw h]
theorem FE{y m:Nat}(h:m=2):kO y m=if rH y=true then 29 else 28:=by unfold kO;rw[aj (by omega),aj (by omega),aw h]
theorem FF{y m:Nat}(h:m<1∨12<m):kO y m=0:=by unfold kO;rw[aj (by omega),aj (by omega),aj (by omega)]
theorem HJ(y m:Nat):kO y m≤31:=by unfold kO;split<;>(try split)<;>(try split)<;>(try split)<;>omega
theorem O2{y m:Nat}(h:0<kO y m):1≤m∧m≤12:=by
 refine uj fun k=>?_
 rw[FF (by omega)] at h;omega
def qo(y:Nat):Int:=Int.ofNat 365*((y:Int) -Int.ofNat 1600)+((y:Int) -Int.ofNat 1600+Int.ofNat 3)/Int.ofNat 4-((y:Int) -Int.ofNat 1600+Int.ofNat 99)/Int.ofNat 100+((y:Int) -Int.ofNat 1600+Int.ofNat 399)/Int.ofNat 400
theorem O3{y:Nat}(h:1600≤y)(h2:y≤9999):0≤qo y∧qo y≤4000000:=by unfold qo;simp only[bb];omega
theorem Vc{y:Nat}(h:4400<y):1000000≤qo y:=by unfold qo;simp only[bb];omega
def qe(y:Nat):Nat→Nat
 |0=>0
 |k+1=>qe y k+kO y (k+1)
theorem z1(y:Nat):∀k,qe y k≤31*k
 |0=>bV _
 |k+1=>by unfold qe;have:=z1 y k;have:=HJ y (k+1);omega
def s9(y m d:Nat):Int:=qo y+d-Int.ofNat 1+qe y (m-1)
def jM(y m d:Nat):Option Int:=if y<1600∨4400<y∨d<1∨kO y m<d then none else if 1000000≤s9 y m d then none else some (s9 y m d)
def O4(o:Option Int):VV:=.tuple [dI (o.getD 0),dB o.isSome]
def gV(c:UInt8):Bool:=decide (48≤c.toNat)&&decide (c.toNat≤57)
def gH(s:List UInt8):Nat×Bool:=if s.all gV=true then(d6 s,true) else(0,false)
def tT:List UInt8:=[102,111,114,101,118,101,114]
def IZ:Option Int→Int×Int
 |none=>(0,10)
 |some n=>(n,0)
def fr(s:List UInt8):Int×Int:=
 if s=tT then(1000000,0)
 else if¬(s.length=10∧s[4]?=some 45∧s[7]?=some 45) then(0,5)
 else if¬((gH (s.take 4)).2=true∧(gH ((s.drop 5).take 2)).2=true∧(gH (s.drop 8)).2=true) then(0,5)
 else IZ (jM (gH (s.take 4)).1 (gH ((s.drop 5).take 2)).1 (gH (s.drop 8)).1)
def l4(x:Int×Int):VV:=.tuple [dI x.1,dI x.2]
theorem RH(s:List UInt8)(c:UInt8):d6 (s++[c])=d6 s*10+(c.toNat-48):=by
 unfold d6;rw[xX];rfl
theorem xd{c:UInt8}:gV c=true↔48≤c.toNat∧c.toNat≤57:=by unfold gV;simp
theorem Vd{s:List UInt8}(h:s.all gV=true):∀c,c∈s→48≤c.toNat∧c.toNat≤57:=fun c z=>xd.1 (List.all_eq_true.1 h c z)
theorem L'{s:List UInt8}{n:Nat}(h:s.all gV=true)(z:s.length≤n):d6 s<10^n:=mI (KC (Vd h)) (AV (by decide) z)
theorem take_succ{s:List UInt8}{i:Nat}{c:UInt8}(h:s[i]?=some c):s.take (i+1)=s.take i++[c]:=by rw[xW,h];rfl
theorem jD{s:List UInt8}{i:Nat}(h:i<s.length):∃c,s[i]?=some c:=⟨s[i],eP h⟩
def FG(s:List UInt8):VV:=.tuple [dI ((gH s).1:Nat),dB (gH s).2]
theorem MT{s:List UInt8}{i:Nat}{c:UInt8}(h:s[i]?=some c)(z:¬(48≤c.toNat∧c.toNat≤57)):gH s=(0,false):=by
 refine aj fun k=>z (xd.1 ?_)
 exact List.all_eq_true.1 k c (kY h)
theorem T9{s:List UInt8}{c:UInt8}(h:s.all gV=true)(z:48≤c.toNat∧c.toNat≤57):(s++[c]).all gV=true:=by
 rw[List.all_append,h];simp[xd.2 z]
open Go
set_option maxRecDepth 10000
theorem Xg{T:bd}(F:FT T)(y:Nat):Sound T 258 [dI (y:Nat)] fun r=>r=dB (rH y):=by
 refine eh F.abd aa (al 1 aa (ai (ae 1 aa ?_)))
 refine ak (ub rfl rfl rfl (by(try simp only[bb] at*);omega) ?_)
 refine ae 2 aa (dc (g:=aC) aa (fun A=>?_) (fun A=>?_))
 ·refine ao aa (A) (bN aa ?_)
  refine ao rfl (A) (ub rfl rfl rfl (by(try simp only[bb] at*);omega) ?_)
  refine ao aa (A) (iD aa aa ?_)
  refine ak (cT aa (A) aa ?_)
  refine ae 1 aa (dc (g:=aS) aa (fun z=>?_) (fun z=>?_))
  ·refine aO aa (z) (aO aa (z) (aO aa (z) (ak (cT aa (z) aa ?_))))
   refine ae 1 aa (af ?_)
   refine ax ?_
   exact bx rfl rfl ((by refine congrArg (fun b=>VV.d (DC.b b)) ?_;rw[gg];unfold rH;simp at*;omega))
  refine ao aa (z) (bN aa ?_)
  refine ao rfl (z) (ub rfl rfl rfl (by(try simp only[bb] at*);omega) ?_)
  refine ao aa (z) (hY aa aa ?_)
  refine ak (cJ aa (z) aa ?_)
  refine ae 1 aa (af ?_)
  refine ax ?_
  exact bx rfl rfl ((by refine congrArg (fun b=>VV.d (DC.b b)) ?_;rw[gg];unfold rH;simp at*;omega))
 refine aO aa (A) (aO aa (A) (aO aa (A) (ak (cJ aa (A) aa ?_))))
 refine ae 1 aa (ao aa aa (bN aa ?_))
 refine ao rfl (rfl) (ub rfl rfl rfl (by(try simp only[bb] at*);omega) ?_)
 refine ao aa aa (hY aa aa ?_)
 refine ae 2 aa (af ?_)
 refine ax ?_
 exact bx rfl rfl ((by refine congrArg (fun b=>VV.d (DC.b b)) ?_;rw[gg];unfold rH;simp at*;omega))
theorem Xh{T:bd}(F:FT T)(y:Nat):Sound T 206 [dI (y:Nat)] fun r=>r=dB (rH y):=by
 refine eh F.abn aa (al 1 aa (ai (ae 1 aa ?_)))
 refine ak (ub rfl rfl rfl (by(try simp only[bb] at*);omega) ?_)
 refine ae 2 aa (dc (g:=aC) aa (fun A=>?_) (fun A=>?_))
 ·refine ao aa (A) (bN aa ?_)
  refine ao rfl (A) (ub rfl rfl rfl (by(try simp only[bb] at*);omega) ?_)
  refine ao aa (A) (iD aa aa ?_)
  refine ak (cT aa (A) aa ?_)
  refine ae 1 aa (dc (g:=aS) aa (fun z=>?_) (fun z=>?_))
  ·refine aO aa (z) (aO aa (z) (aO aa (z) (ak (cT aa (z) aa ?_))))
   refine ae 1 aa (af ?_)
   refine ax ?_
   exact bx rfl rfl ((by refine congrArg (fun b=>VV.d (DC.b b)) ?_;rw[gg];unfold rH;simp at*;omega))
  refine ao aa (z) (bN aa ?_)
  refine ao rfl (z) (ub rfl rfl rfl (by(try simp only[bb] at*);omega) ?_)
  refine ao aa (z) (hY aa aa ?_)
  refine ak (cJ aa (z) aa ?_)
  refine ae 1 aa (af ?_)
  refine ax ?_
  exact bx rfl rfl ((by refine congrArg (fun b=>VV.d (DC.b b)) ?_;rw[gg];unfold rH;simp at*;omega))
 refine aO aa (A) (aO aa (A) (aO aa (A) (ak (cJ aa (A) aa ?_))))
 refine ae 1 aa (ao aa aa (bN aa ?_))
 refine ao rfl (rfl) (ub rfl rfl rfl (by(try simp only[bb] at*);omega) ?_)
 refine ao aa aa (hY aa aa ?_)
 refine ae 2 aa (af ?_)
 refine ax ?_
 exact bx rfl rfl ((by refine congrArg (fun b=>VV.d (DC.b b)) ?_;rw[gg];unfold rH;simp at*;omega))
set_option maxHeartbeats 1000000 in
theorem PW{T:bd}(F:FT T)(y m:Nat):Sound T 228 [dI (y:Nat),dI (m:Nat)] fun r=>r=dI (kO y m:Nat):=by
 refine eh F.aaZ aa (al 1 aa (aK (al 1 aa (bJ (aK (al 2 aa (aI aa (fun A=>?_) (fun A=>?_))))))))
 ·refine aQ (fm aa (A) (al 1 aa (ax ?_)))
  exact bx rfl rfl (by rw[wu (by simp only[e6,fC,bb] at*;omega)];rfl)
 refine al 2 aa (aI aa (fun A=>?_) (fun A=>?_))
 ·refine aQ (fm aa (A) (al 1 aa (ax ?_)))
  exact bx rfl rfl (by rw[wu (by simp only[e6,fC,bb] at*;omega)];rfl)
 refine al 2 aa (aI aa (fun A=>?_) (fun A=>?_))
 ·refine aQ (fm aa (A) (al 1 aa (ax ?_)))
  exact bx rfl rfl (by rw[wu (by simp only[e6,fC,bb] at*;omega)];rfl)
 refine al 2 aa (aI aa (fun A=>?_) (fun A=>?_))
 ·refine aQ (fm aa (A) (al 1 aa (ax ?_)))
  exact bx rfl rfl (by rw[wu (by simp only[e6,fC,bb] at*;omega)];rfl)
 refine al 2 aa (aI aa (fun A=>?_) (fun A=>?_))
 ·refine aQ (fm aa (A) (al 1 aa (ax ?_)))
  exact bx rfl rfl (by rw[wu (by simp only[e6,fC,bb] at*;omega)];rfl)
 refine al 2 aa (aI aa (fun A=>?_) (fun A=>?_))
 ·refine aQ (fm aa (A) (al 1 aa (ax ?_)))
  exact bx rfl rfl (by rw[wu (by simp only[e6,fC,bb] at*;omega)];rfl)
 refine bD (ae 2 aa (af ?_))
 refine aI aa (fun A=>?_) (fun A=>?_)
 ·refine al 1 aa (ax ?_)
  exact bx rfl rfl (by rw[wu (by simp only[e6,fC,bb] at*;omega)];rfl)
 refine aK (al 2 aa (aI aa (fun z=>?_) (fun z=>?_)))
 ·refine aQ (fm aa (z) (al 1 aa (ax ?_)))
  exact bx rfl rfl (by rw[EW (by simp only[e6,fC,bb] at*;omega)];rfl)
 refine al 2 aa (aI aa (fun z=>?_) (fun z=>?_))
 ·refine aQ (fm aa (z) (al 1 aa (ax ?_)))
  exact bx rfl rfl (by rw[EW (by simp only[e6,fC,bb] at*;omega)];rfl)
 refine al 2 aa (aI aa (fun z=>?_) (fun z=>?_))
 ·refine aQ (fm aa (z) (al 1 aa (ax ?_)))
  exact bx rfl rfl (by rw[EW (by simp only[e6,fC,bb] at*;omega)];rfl)
 refine bD (ae 2 aa (af ?_))
 refine aI aa (fun z=>?_) (fun z=>?_)
 ·refine al 1 aa (ax ?_)
  exact bx rfl rfl (by rw[EW (by simp only[e6,fC,bb] at*;omega)];rfl)
 refine al 2 aa (aI aa (fun eA=>?_) (fun eA=>?_))
 ·refine aK (ai (ae 1 aa (ak (cO (Xg F y) aa aa ?_))))
  refine af (aI aa (fun G=>?_) (fun G=>?_))
  ·refine al 1 aa (ax ?_)
   exact bx rfl rfl (by rw[FE (by simp only[e6,fC,bb] at*;omega),aw G];rfl)
  refine aQ (al 1 aa (ax ?_))
  exact bx rfl rfl (by rw[FE (by simp only[e6,fC,bb] at*;omega),aj (by rw[G];decide)];rfl)
 refine aQ (al 1 aa (ax ?_))
 exact bx rfl rfl (by rw[FF (by simp only[e6,fC,bb] at*;omega)];rfl)
set_option maxHeartbeats 1000000 in
theorem PX{T:bd}(F:FT T)(y m:Nat):Sound T 166 [dI (y:Nat),dI (m:Nat)] fun r=>r=dI (kO y m:Nat):=by
 refine eh F.abf aa (al 1 aa (al 3 aa (aK (ai (ae 3 aa (dc (g:=aL) aa (fun A=>?_) (fun A=>?_)))))))
 ·refine aO aa (A) (aO aa (A) (ak (cT aa (A) aa ?_)))
  refine af (fm aa aa (al 1 aa (ax ?_)))
  exact bx rfl rfl (by rw[FF (by simp only[e6,fC,bb] at*;omega)];rfl)
 refine ao aa (A) (bN aa ?_)
 refine ao aa (A) (sC aa aa ?_)
 refine ak (cJ aa (A) aa ?_)
 refine af (aI aa (fun I=>?_) (fun I=>?_))
 ·refine al 1 aa (ax ?_)
  exact bx rfl rfl (by rw[FF (by simp only[e6,fC,bb] at*;omega)];rfl)
 refine aQ (aK (ai (ae 3 aa (dc (g:=aZ) aa (fun z=>?_) (fun z=>?_)))))
 ·refine ao aa (z) (bN aa ?_)
  refine ao aa (z) (cO (Xh F y) aa aa ?_)
  refine ak (cT aa (z) aa ?_)
  refine af (aI aa (fun G=>?_) (fun G=>?_))
  ·refine al 1 aa (ax ?_)
   exact bx rfl rfl (by rw[FE (by simp only[e6,fC,bb] at*;omega),aw G];rfl)
  refine aQ (ai ?_)
  have K:1≤m∧m≤12:=by simp only[e6,fC,bb] at*;omega
  obtain⟨J,hk⟩:m<13∧[VV.d (.i .i64 0),.d (.i .i64 31),.d (.i .i64 28),.d (.i .i64 31),.d (.i .i64 30),.d (.i .i64 31),.d (.i .i64 30),.d (.i .i64 31),.d (.i .i64 31),.d (.i .i64 30),.d (.i .i64 31),.d (.i .i64 30),.d (.i .i64 31)][0+m*1]?=some (.d (.i .i64 (kO y m:Nat))):=by
   refine⟨by omega,?_⟩
   rcases(by omega:m=1∨m=2∨m=3∨m=4∨m=5∨m=6∨m=7∨m=8∨m=9∨m=10∨m=11∨m=12) with rfl|rfl|rfl|rfl|rfl|rfl|rfl|rfl|rfl|rfl|rfl|rfl
   any_goals rfl
   rw[FE rfl,aj (by rw[G];decide)];rfl
  refine ae 1 aa (ak (md aa aa J ?_))
  refine ak (df aa aa hk ?_)
  refine ae 1 aa (af ?_)
  exact ax (bx aa aa aa)
 refine aO aa (z) (aO aa (z) (ak (cJ aa (z) aa ?_)))
 refine af (eC aa aa (aQ (ai ?_)))
 have K:1≤m∧m≤12:=by simp only[e6,fC,bb] at*;omega
 obtain⟨J,hk⟩:m<13∧[VV.d (.i .i64 0),.d (.i .i64 31),.d (.i .i64 28),.d (.i .i64 31),.d (.i .i64 30),.d (.i .i64 31),.d (.i .i64 30),.d (.i .i64 31),.d (.i .i64 31),.d (.i .i64 30),.d (.i .i64 31),.d (.i .i64 30),.d (.i .i64 31)][0+m*1]?=some (.d (.i .i64 (kO y m:Nat))):=by
  refine⟨by omega,?_⟩
  rcases(by omega:m=1∨m=2∨m=3∨m=4∨m=5∨m=6∨m=7∨m=8∨m=9∨m=10∨m=11∨m=12) with rfl|rfl|rfl|rfl|rfl|rfl|rfl|rfl|rfl|rfl|rfl|rfl
  any_goals rfl
  rw[show decide (((2:Nat):Int)=Int.ofNat 2)=true from rfl] at z;cases z
 refine ae 1 aa (ak (md aa aa J ?_))
 refine ak (df aa aa hk ?_)
 refine ae 1 aa (af ?_)
 exact ax (bx aa aa aa)
theorem Xi{T:bd}(F:FT T){y:Nat}(z:1600≤y)(h2:y≤9999):Sound T 227 [dI (y:Nat)] fun r=>r=dI (qo y):=by
 refine eh F.aaY aa (al 1 aa (ai (ae 1 aa ?_)))
 refine ak (gm rfl rfl (by(try simp only[bb] at*);omega) (by(try simp only[bb] at*);omega) ?_)
 refine ae 1 aa (af ?_)
 refine ai (ae 1 aa ?_)
 refine ak (ua rfl rfl (by(try simp only[bb] at*);omega) (by(try simp only[bb] at*);omega) ?_)
 refine ae 1 aa ?_
 refine ak (jX rfl rfl (by(try simp only[bb] at*);omega) (by(try simp only[bb] at*);omega) ?_)
 refine ak (xA rfl rfl rfl (by(try simp only[bb] at*);omega) (by decide) (by(try simp only[bb] at*);omega) ?_)
 refine ak (jX rfl rfl (by(try simp only[bb] at*);omega) (by(try simp only[bb] at*);omega) ?_)
 refine ae 1 aa ?_
 refine ak (jX rfl rfl (by(try simp only[bb] at*);omega) (by(try simp only[bb] at*);omega) ?_)
 refine ak (xA rfl rfl rfl (by(try simp only[bb] at*);omega) (by decide) (by(try simp only[bb] at*);omega) ?_)
 refine ak (gm rfl rfl (by(try simp only[bb] at*);omega) (by(try simp only[bb] at*);omega) ?_)
 refine ae 1 aa ?_
 refine ak (jX rfl rfl (by(try simp only[bb] at*);omega) (by(try simp only[bb] at*);omega) ?_)
 refine ak (xA rfl rfl rfl (by(try simp only[bb] at*);omega) (by decide) (by(try simp only[bb] at*);omega) ?_)
 refine ak (jX rfl rfl (by(try simp only[bb] at*);omega) (by(try simp only[bb] at*);omega) ?_)
 refine ae 1 aa (af ?_)
 exact ax (bx aa aa aa)
theorem Xj{T:bd}(F:FT T){y:Nat}(z:1600≤y)(h2:y≤9999):Sound T 165 [dI (y:Nat)] fun r=>r=dI (qo y):=by
 refine eh F.abg aa (al 1 aa (ai (ae 1 aa ?_)))
 refine ak (gm rfl rfl (by(try simp only[bb] at*);omega) (by(try simp only[bb] at*);omega) ?_)
 refine ae 1 aa (af ?_)
 refine ai (ae 1 aa ?_)
 refine ak (ua rfl rfl (by(try simp only[bb] at*);omega) (by(try simp only[bb] at*);omega) ?_)
 refine ae 1 aa ?_
 refine ak (jX rfl rfl (by(try simp only[bb] at*);omega) (by(try simp only[bb] at*);omega) ?_)
 refine ak (xA rfl rfl rfl (by(try simp only[bb] at*);omega) (by decide) (by(try simp only[bb] at*);omega) ?_)
 refine ak (jX rfl rfl (by(try simp only[bb] at*);omega) (by(try simp only[bb] at*);omega) ?_)
 refine ae 1 aa ?_
 refine ak (jX rfl rfl (by(try simp only[bb] at*);omega) (by(try simp only[bb] at*);omega) ?_)
 refine ak (xA rfl rfl rfl (by(try simp only[bb] at*);omega) (by decide) (by(try simp only[bb] at*);omega) ?_)
 refine ak (gm rfl rfl (by(try simp only[bb] at*);omega) (by(try simp only[bb] at*);omega) ?_)
 refine ae 1 aa ?_
 refine ak (jX rfl rfl (by(try simp only[bb] at*);omega) (by(try simp only[bb] at*);omega) ?_)
 refine ak (xA rfl rfl rfl (by(try simp only[bb] at*);omega) (by decide) (by(try simp only[bb] at*);omega) ?_)
 refine ak (jX rfl rfl (by(try simp only[bb] at*);omega) (by(try simp only[bb] at*);omega) ?_)
 refine ae 1 aa (af ?_)
 exact ax (bx aa aa aa)
open Go
set_option maxRecDepth 10000
theorem I0{T:bd}(F:FT T){s:List UInt8}(hl:s.length≤9):Sound T 245 [dS s] fun r=>r=FG s:=by
 refine eh F.abb aa (al 2 aa (al 1 aa (aK (al 3 aa (bJ (dY (fun k VE B=>∃i,i≤s.length∧k=s.length-i∧(s.take i).all gV=true∧br [(0,dS s),(2,d0),(3,dB false),(4,dI (d6 (s.take i):Nat)),(7,dI (s.length:Nat)),(8,dI (i:Nat))] VE∧br [] B) ?_ (k:=s.length) ⟨0,da _,aa,aa,⟨aa,aa,aa,aa,aa,aa,trivial⟩,trivial⟩))))))
 rintro k VE B⟨i,hi,rfl,O,hV,hB⟩
 refine dn _ _ hV hB (al 1 aa (aK (aI aa (fun U=>?_) (fun U=>?_))))
 ·have Y:i<s.length:=by simp at U;omega
  obtain⟨c,G⟩:=jD Y
  have Z:=take_succ G
  have hv:=L' O (n:=9) (by rw[jw];omega)
  have abI:=c.toNat_lt
  have I:=RH (s.take i) c
  rw[←Z] at I
  refine aQ (aK (bJ (al 2 aa (aK (ai (ae 2 aa (ak (fG aa aa G ?_))))))))
  refine ae 2 aa (dc (g:=aZ) aa (fun z=>?_) (fun z=>?_))
  ·have J:=MT G (by simp at z;omega)
   refine aO aa (z) (aO aa (z) (aO aa (z) (aO aa (z) (ak (cT aa (z) aa ?_)))))
   refine af (fm aa aa (al 2 aa (ax ?_)))
   exact bx rfl rfl (by unfold FG;rw[J];rfl)
  refine ao aa (z) (bN aa ?_)
  refine ao aa (z) (bN aa ?_)
  refine ao aa (z) (fG aa aa G ?_)
  refine ao aa (z) (sC aa aa ?_)
  refine ak (cJ aa (z) aa ?_)
  refine af (aI aa (fun A=>?_) (fun A=>?_))
  ·have J:=MT G (by simp at A;omega)
   refine al 2 aa (ax ?_)
   exact bx rfl rfl (by unfold FG;rw[J];rfl)
  have K:48≤c.toNat∧c.toNat≤57:=by simp at z A;omega
  refine aQ (bD (ae 1 aa ?_))
  refine ak (ua rfl rfl (by(try simp only[bb] at*);omega) (by(try simp only[bb] at*);omega) ?_)
  refine ae 2 aa (ak (fG aa aa G ?_))
  refine ak (Ny aa aa K.1 ?_)
  refine ak (zE rfl (by omega) ?_)
  refine ak (jX rfl rfl (by(try simp only[bb] at*);omega) (by(try simp only[bb] at*);omega) ?_)
  rw[show(Int.ofNat 10*((d6 (s.take i):Nat):Int)+((c.toNat-48:Nat):Int))=((d6 (s.take (i+1)):Nat):Int) by rw[I];simp only[bb];omega]
  refine ae 1 aa (af ?_)
  refine bD ?_
  refine ak (cM rfl rfl (by omega) ?_)
  refine ae 1 aa (af ?_)
  exact⟨s.length-(i+1),by omega,i+1,by omega,rfl,by rw[Z];exact T9 O K,⟨rfl,rfl,rfl,rfl,rfl,rfl,trivial⟩,trivial⟩
 have he:i=s.length:=by simp at U;omega
 have J:gH s=(d6 (s.take i),true):=by rw[he,HV] at O⊢;exact aw O
 refine dD (al 3 aa (ax ?_))
 exact bx rfl rfl (by unfold FG;rw[J];rfl)
set_option maxHeartbeats 1000000 in
theorem Xk{T:bd}(F:FT T){y m d:Nat}(h1:y≤9999)(h2:m≤99)(h3:d≤99):Sound T 246 [dI (y:Nat),dI (m:Nat),dI (d:Nat)] fun r=>r=O4 (jM y m d):=by
 refine eh F.abc aa (al 2 aa (aK (ai (ae 3 aa (dc (g:=aR) aa (fun A=>?_) (fun A=>?_))))))
 ·refine aO aa (A) (aO aa (A) (ak (cT aa (A) aa ?_)))
  refine ae 1 aa (aO aa aa (aO aa aa (ae 2 aa (aO aa aa (aO aa aa (aO aa aa (aO aa aa (aO aa aa (ae 1 aa (af ?_))))))))))
  refine fm aa aa (al 2 aa (ax ?_))
  exact bx rfl rfl (by unfold jM;rw[aw (by simp only[e6,fC,bb] at*;omega)];rfl)
 refine ao aa (A) (bN aa ?_)
 refine ao aa (A) (sC aa aa ?_)
 refine ak (cJ aa (A) aa ?_)
 refine ae 1 aa (dc (g:=bg) aa (fun G=>?_) (fun G=>?_))
 ·refine aO aa (G) (aO aa (G) (ak (cT aa (G) aa ?_)))
  refine ae 1 aa (aO aa aa (aO aa aa (aO aa aa (aO aa aa (aO aa aa (ae 1 aa (af ?_)))))))
  refine fm aa aa (al 2 aa (ax ?_))
  exact bx rfl rfl (by unfold jM;rw[aw (by simp only[e6,fC,bb] at*;omega)];rfl)
 refine ao aa (G) (bN aa ?_)
 refine ao aa (G) (Dn aa aa ?_)
 refine ak (cJ aa (G) aa ?_)
 refine ae 1 aa (dc (g:=bn) aa (fun z=>?_) (fun z=>?_))
 ·refine aO aa (z) (aO aa (z) (aO aa (z) (aO aa (z) (aO aa (z) (ak (cT aa (z) aa ?_))))))
  refine af (fm aa aa (al 2 aa (ax ?_)))
  exact bx rfl rfl (by unfold jM;rw[aw (by simp only[e6,fC,bb] at*;omega)];rfl)
 refine ao aa (z) (bN aa ?_)
 refine ao aa (z) (bN aa ?_)
 refine ao aa (z) (bN aa ?_)
 refine ao aa (z) (cO (PW F y m) aa aa ?_)
 refine ao aa (z) (sC aa aa ?_)
 refine ak (cJ aa (z) aa ?_)
 refine af (aI aa (fun K=>?_) (fun K=>?_))
 ·refine al 2 aa (ax ?_)
  exact bx rfl rfl (by unfold jM;rw[aw (by simp only[e6,fC,bb] at*;omega)];rfl)
 have J:0<kO y m:=by simp only[e6,fC,bb] at*;omega
 have hmb:=O2 J
 have hyb:=O3 (y:=y) (by simp only[e6,fC,bb] at*;omega) (by omega)
 refine aQ (ai (ae 1 aa ?_))
 refine ak (cO (Xi F (by simp only[e6,fC,bb] at*;omega) (by omega)) rfl rfl ?_)
 refine ae 1 aa ?_
 refine ak (jX rfl rfl (by(try simp only[bb] at*);omega) (by(try simp only[bb] at*);omega) ?_)
 refine ak (gm rfl rfl (by(try simp only[bb] at*);omega) (by(try simp only[bb] at*);omega) ?_)
 refine ae 1 aa (af ?_)
 refine aK (al 1 aa (bJ ?_))
 refine dY (fun k VE B=>∃(j:Nat)(v:Int),j+1≤m∧k=m-j∧v=qo y+(d:Nat) -Int.ofNat 1+(qe y j:Nat)∧br [(0,dI (y:Nat)),(1,dI (m:Nat)),(2,dI (d:Nat)),(6,d0),(7,dB false),(8,dI v),(9,dI ((j+1:Nat):Int))] VE∧br [] B) ?_ (k:=m) ⟨0,_,by omega,rfl,by unfold qe;exact(Int.add_zero _).symm,⟨rfl,rfl,rfl,rfl,rfl,rfl,rfl,trivial⟩,trivial⟩
 rintro k VE B⟨j,v,hj0,rfl,hv,hV,hB⟩
 refine dn _ _ hV hB (aK (al 3 aa (aI aa (fun I=>?_) (fun I=>?_))))
 ·have hj:j+1<m:=by simp at I;omega
  have hdj:=HJ y (j+1)
  have O:=z1 y j
  refine aQ (aK (bJ (bD (ae 3 aa (ak (cO (PW F y (j+1)) aa aa ?_))))))
  refine ak (jX rfl rfl (by(try simp only[bb] at*);omega) (by(try simp only[bb] at*);omega) ?_)
  rw[show v+((kO y (j+1):Nat):Int)=_ from rfl]
  refine ae 1 aa (af ?_)
  refine bD (ae 1 aa ?_)
  refine ak (cM rfl rfl (by omega) ?_)
  refine ae 1 aa (af ?_)
  exact⟨m-(j+1),by omega,j+1,_,by omega,rfl,by rw[hv];show _=_+((qe y j+kO y (j+1):Nat):Int);omega,⟨rfl,rfl,rfl,rfl,rfl,rfl,rfl,trivial⟩,trivial⟩
 have hj:j+1=m:=by simp at I;omega
 have O:=z1 y j
 have U:m-1=j:=by omega
 have Y:s9 y m d=qo y+(d:Nat) -Int.ofNat 1+(qe y j:Nat):=by unfold s9;rw[U]
 refine dD (aK (al 2 aa (aI aa (fun Z=>?_) (fun Z=>?_))))
 ·refine al 2 aa (ax ?_)
  exact bx rfl rfl (by unfold jM;rw[aj (by simp only[e6,fC,bb] at*;omega),aw (by simp only[e6,fC,bb] at*;omega)];rfl)
 refine aQ (al 3 aa (ax ?_))
 exact bx rfl rfl (by unfold jM;rw[aj (by simp only[e6,fC,bb] at*;omega),aj (by simp only[e6,fC,bb] at*;omega),show s9 y m d=v by rw[Y];exact hv.symm];rfl)
set_option maxHeartbeats 1000000 in
theorem Xl{T:bd}(F:FT T){y m d:Nat}(h1:y≤9999)(h2:m≤99)(h3:d≤99):Sound T 237 [dI (y:Nat),dI (m:Nat),dI (d:Nat)] fun r=>r=O4 (jM y m d):=by
 refine eh F.aa4 aa (al 2 aa (aK (ai (ae 3 aa (dc (g:=aR) aa (fun A=>?_) (fun A=>?_))))))
 ·refine aO aa (A) (aO aa (A) (ak (cT aa (A) aa ?_)))
  refine ae 1 aa (aO aa aa (aO aa aa (ae 2 aa (aO aa aa (aO aa aa (aO aa aa (aO aa aa (aO aa aa (ae 1 aa (af ?_))))))))))
  refine fm aa aa (al 2 aa (ax ?_))
  exact bx rfl rfl (by unfold jM;rw[aw (by simp only[e6,fC,bb] at*;omega)];rfl)
 refine ao aa (A) (bN aa ?_)
 refine ao aa (A) (sC aa aa ?_)
 refine ak (cJ aa (A) aa ?_)
 refine ae 1 aa (dc (g:=bg) aa (fun G=>?_) (fun G=>?_))
 ·refine aO aa (G) (aO aa (G) (ak (cT aa (G) aa ?_)))
  refine ae 1 aa (aO aa aa (aO aa aa (aO aa aa (aO aa aa (aO aa aa (ae 1 aa (af ?_)))))))
  refine fm aa aa (al 2 aa (ax ?_))
  exact bx rfl rfl (by unfold jM;rw[aw (by simp only[e6,fC,bb] at*;omega)];rfl)
 refine ao aa (G) (bN aa ?_)
 refine ao aa (G) (Dn aa aa ?_)
 refine ak (cJ aa (G) aa ?_)
 refine ae 1 aa (dc (g:=bn) aa (fun z=>?_) (fun z=>?_))
 ·refine aO aa (z) (aO aa (z) (aO aa (z) (aO aa (z) (aO aa (z) (ak (cT aa (z) aa ?_))))))
  refine af (fm aa aa (al 2 aa (ax ?_)))
  exact bx rfl rfl (by unfold jM;rw[aw (by simp only[e6,fC,bb] at*;omega)];rfl)
 refine ao aa (z) (bN aa ?_)
 refine ao aa (z) (bN aa ?_)
 refine ao aa (z) (bN aa ?_)
 refine ao aa (z) (cO (PX F y m) aa aa ?_)
 refine ao aa (z) (sC aa aa ?_)
 refine ak (cJ aa (z) aa ?_)
 refine af (aI aa (fun K=>?_) (fun K=>?_))
 ·refine al 2 aa (ax ?_)
  exact bx rfl rfl (by unfold jM;rw[aw (by simp only[e6,fC,bb] at*;omega)];rfl)
 have J:0<kO y m:=by simp only[e6,fC,bb] at*;omega
 have hmb:=O2 J
 have hyb:=O3 (y:=y) (by simp only[e6,fC,bb] at*;omega) (by omega)
 refine aQ (ai (ae 1 aa ?_))
 refine ak (cO (Xj F (by simp only[e6,fC,bb] at*;omega) (by omega)) rfl rfl ?_)
 refine ae 1 aa (af ?_)
 refine aK (al 1 aa (bJ ?_))
 refine dY (fun k VE B=>∃(j:Nat)(v:Int),j+1≤m∧k=m-j∧v=qo y+(qe y j:Nat)∧br [(0,dI (y:Nat)),(1,dI (m:Nat)),(2,dI (d:Nat)),(6,d0),(7,dB false),(8,dI v),(9,dI ((j+1:Nat):Int))] VE∧br [] B) ?_ (k:=m) ⟨0,_,by omega,rfl,by unfold qe;exact(Int.add_zero _).symm,⟨rfl,rfl,rfl,rfl,rfl,rfl,rfl,trivial⟩,trivial⟩
 rintro k VE B⟨j,v,hj0,rfl,hv,hV,hB⟩
 refine dn _ _ hV hB (aK (al 3 aa (aI aa (fun I=>?_) (fun I=>?_))))
 ·have hj:j+1<m:=by simp at I;omega
  have hdj:=HJ y (j+1)
  have O:=z1 y j
  refine aQ (aK (bJ (bD (ae 3 aa (ak (cO (PX F y (j+1)) aa aa ?_))))))
  refine ak (jX rfl rfl (by(try simp only[bb] at*);omega) (by(try simp only[bb] at*);omega) ?_)
  rw[show v+((kO y (j+1):Nat):Int)=_ from rfl]
  refine ae 1 aa (af ?_)
  refine bD (ae 1 aa ?_)
  refine ak (cM rfl rfl (by omega) ?_)
  refine ae 1 aa (af ?_)
  exact⟨m-(j+1),by omega,j+1,_,by omega,rfl,by rw[hv];show _=_+((qe y j+kO y (j+1):Nat):Int);omega,⟨rfl,rfl,rfl,rfl,rfl,rfl,rfl,trivial⟩,trivial⟩
 have hj:j+1=m:=by simp at I;omega
 have O:=z1 y j
 have U:m-1=j:=by omega
 have Y:s9 y m d=qo y+(d:Nat) -Int.ofNat 1+(qe y j:Nat):=by unfold s9;rw[U]
 refine dD (ai (ae 2 aa ?_))
 refine ak (jX rfl rfl (by(try simp only[bb] at*);omega) (by(try simp only[bb] at*);omega) ?_)
 refine ak (gm rfl rfl (by(try simp only[bb] at*);omega) (by(try simp only[bb] at*);omega) ?_)
 refine ae 1 aa (af ?_)
 refine aK (al 2 aa (aI aa (fun Z=>?_) (fun Z=>?_)))
 ·refine al 2 aa (ax ?_)
  exact bx rfl rfl (by
   by_cases hy:4400<y
   ·unfold jM;rw[aw (by omega)];rfl
   unfold jM;rw[aj (by simp only[e6,fC,bb] at*;omega),aw (by simp only[e6,fC,bb] at*;omega)];rfl)
 refine aQ (al 3 aa (ax ?_))
 have hy:¬4400<y:=fun k=>by
  have:=Vc k
  simp only[e6,fC,bb] at*;omega
 exact bx rfl rfl (by unfold jM;rw[aj (by simp only[e6,fC,bb] at*;omega),aj (by simp only[e6,fC,bb] at*;omega),show s9 y m d=v+(d:Nat) -Int.ofNat 1 by rw[Y,hv];omega];rfl)
open Go
variable{s:List UInt8}
theorem xC{n:Nat}(h:s.length≤n):(gH s).1<10^n:=by
 unfold gH
 split
 ·rename_i z;exact L' z h
 exact Nat.pow_pos (by decide)
def dg(s:List UInt8)(j:Nat):Nat:=((s[j]?).getD 0).toNat-48
def Bk(s:List UInt8)(i:Nat):List VV:=[0,1,2,3,4,5,6,7,8,9].map fun j=>dI ((if j<i∧j≠4∧j≠7 then dg s j else 0:Nat):Int)
theorem T'{i:Nat}(h:i<10)(z:i≠4)(A:i≠7):Fy (Bk s i) (0+i*1) [VV.d (.i .i64 (dg s i:Nat))]=Bk s (i+1):=by
 rcases(by omega:i=0∨i=1∨i=2∨i=3∨i=5∨i=6∨i=8∨i=9) with rfl|rfl|rfl|rfl|rfl|rfl|rfl|rfl<;>rfl
theorem Lm{i:Nat}(h:i=4∨i=7):Bk s i=Bk s (i+1):=by
 rcases h with rfl|rfl<;>rfl
def QI(s:List UInt8)(i:Nat):Prop:=∀j,j<i→j=4∨j=7∨gV ((s[j]?).getD 0)=true
theorem QJ(h:s.length=10):∃a b c d e f g i j k,s=[a,b,c,d,e,f,g,i,j,k]:=by
 match s,h with
 |[a,b,c,d,e,f,g,i,j,k],_=>exact⟨a,b,c,d,e,f,g,i,j,k,rfl⟩
theorem Ve(h:s.length=10)(Y:QI s 10):gH (s.take 4)=(1000*dg s 0+100*dg s 1+10*dg s 2+dg s 3,true)∧gH ((s.drop 5).take 2)=(10*dg s 5+dg s 6,true)∧gH (s.drop 8)=(10*dg s 8+dg s 9,true):=by
 have k:=fun j(Z:j<10)(h4:j≠4)(h7:j≠7)=>(Y j Z).resolve_left h4|>.resolve_left h7
 have z:=k 0 (by decide) (by decide) (by decide);have A:=k 1 (by decide) (by decide) (by decide);have G:=k 2 (by decide) (by decide) (by decide);have I:=k 3 (by decide) (by decide) (by decide)
 have J:=k 5 (by decide) (by decide) (by decide);have K:=k 6 (by decide) (by decide) (by decide);have O:=k 8 (by decide) (by decide) (by decide);have U:=k 9 (by decide) (by decide) (by decide)
 obtain⟨a,b,c,d,e,f,g,i,j,l,rfl⟩:=QJ h
 simp at z A G I J K O U
 unfold gH dg
 simp[z,A,G,I,J,K,O,U,d6]
 omega
theorem Nz(h:s.length=10){i:Nat}{c:UInt8}(hi:i<10)(I:i≠4)(J:i≠7)(G:s[i]?=some c)(A:¬(48≤c.toNat∧c.toNat≤57)):¬((gH (s.take 4)).2=true∧(gH ((s.drop 5).take 2)).2=true∧(gH (s.drop 8)).2=true):=by
 have A:gV c=false:=by simpa using fun k=>A (xd.1 k)
 obtain⟨a,b,K,d,e,f,g,O,j,l,rfl⟩:=QJ h
 have z:∀x:List UInt8,(gH x).2=x.all gV:=fun x=>by unfold gH;split<;>simp_all
 rw[z,z,z]
 rcases(by omega:i=0∨i=1∨i=2∨i=3∨i=5∨i=6∨i=8∨i=9) with rfl|rfl|rfl|rfl|rfl|rfl|rfl|rfl<;>simp at G<;>subst G<;>simp[A]
theorem toNat_45{c:UInt8}(h:((c.toNat:Nat):Int)=Int.ofNat 45):c=45:=by
 have h2:c.toNat=45:=by simp only[bb] at h;omega
 exact UInt8.toNat_inj.1 (h2.trans aa)
theorem xT(h:¬s=tT)(h2:¬(s.length=10∧s[4]?=some 45∧s[7]?=some 45)):fr s=(0,5):=by unfold fr;rw[aj h,aw h2]
theorem Ao(h:¬s=tT)(h2:s.length=10∧s[4]?=some 45∧s[7]?=some 45)(z:¬((gH (s.take 4)).2=true∧(gH ((s.drop 5).take 2)).2=true∧(gH (s.drop 8)).2=true)):fr s=(0,5):=by unfold fr;rw[aj h,aj (fun k=>k h2),aw z]
theorem NA(h:¬s=tT)(h2:s.length=10∧s[4]?=some 45∧s[7]?=some 45)(z:(gH (s.take 4)).2=true∧(gH ((s.drop 5).take 2)).2=true∧(gH (s.drop 8)).2=true):fr s=IZ (jM (gH (s.take 4)).1 (gH ((s.drop 5).take 2)).1 (gH (s.drop 8)).1):=by unfold fr;rw[aj h,aj (fun k=>k h2),aj (fun k=>k z)]
open Go
set_option maxRecDepth 10000
set_option maxHeartbeats 1000000 in
theorem I1{T:bd}(F:FT T)(s:List UInt8):Sound T 216 [dS s] fun r=>r=l4 (fr s):=by
 refine eh F.aaU aa (al 2 aa (aK (ai (ae 1 aa (ak (oA (b:=tT) aa aa ?_))))))
 refine af (aI aa (fun bM=>?_) (fun bM=>?_))
 ·refine al 2 aa (ax ?_)
  exact bx rfl rfl (by unfold l4 fr;rw[aw (by simpa using bM)];rfl)
 have K:¬s=tT:=by simpa using bM
 refine aQ (aK (ai (ae 4 aa (dc (g:=bl) aa (fun z=>?_) (fun z=>?_)))))
 ·have J:=xT K (fun k=>by simp at z;omega)
  refine aO aa (z) (aO aa (z) (aO aa (z) (ak (cT aa (z) aa ?_))))
  refine ae 1 aa (aO aa aa (aO aa aa (aO aa aa (ae 1 aa (af ?_)))))
  refine fm aa aa (al 2 aa (ax ?_))
  exact bx rfl rfl (by unfold l4;rw[J];rfl)
 have hl:s.length=10:=by simp at z;omega
 obtain⟨c4,h4⟩:=jD (s:=s) (i:=4) (by omega)
 obtain⟨c7,h7⟩:=jD (s:=s) (i:=7) (by omega)
 refine ao aa (z) (bN aa ?_)
 refine ao aa (z) (fG aa aa h4 ?_)
 refine ao aa (z) (iD aa aa ?_)
 refine ak (cJ aa (z) aa ?_)
 refine ae 1 aa (dc (g:=bK) aa (fun A=>?_) (fun A=>?_))
 ·have J:=xT K (fun k=>by have h:=wb (h4.symm.trans k.2.1);subst h;simp at A)
  refine aO aa (A) (aO aa (A) (aO aa (A) (ak (cT aa (A) aa ?_))))
  refine af (fm aa aa (al 2 aa (ax ?_)))
  exact bx rfl rfl (by unfold l4;rw[J];rfl)
 refine ao aa (A) (bN aa ?_)
 refine ao aa (A) (fG aa aa h7 ?_)
 refine ao aa (A) (iD aa aa ?_)
 refine ak (cJ aa (A) aa ?_)
 refine af (aI aa (fun O=>?_) (fun O=>?_))
 ·have J:=xT K (fun k=>by have h:=wb (h7.symm.trans k.2.2);subst h;simp at O)
  refine al 2 aa (ax ?_)
  exact bx rfl rfl (by unfold l4;rw[J];rfl)
 obtain rfl:c4=45:=toNat_45 (by simpa using A)
 obtain rfl:c7=45:=toNat_45 (by simpa using O)
 have Z:s.length=10∧s[4]?=some 45∧s[7]?=some 45:=⟨hl,h4,h7⟩
 refine aQ (ai (ae 1 aa ?_))
 refine ak (kh (l:=0) (h:=4) rfl ⟨_,rfl⟩ rfl (by omega) (by omega) ?_)
 rw[show(s.drop 0).take (4-0)=s.take 4 from rfl]
 refine ak (cO (I0 F (by rw[jw];omega)) rfl rfl ?_)
 refine ae 5 aa (af ?_)
 refine ai (ae 1 aa ?_)
 refine ak (kh (l:=5) (h:=7) rfl ⟨_,rfl⟩ ⟨_,rfl⟩ (by omega) (by omega) ?_)
 rw[show(s.drop 5).take (7-5)=(s.drop 5).take 2 from rfl]
 refine ak (cO (I0 F (by rw[jw];omega)) rfl rfl ?_)
 refine ae 5 aa (af ?_)
 refine ai (ae 1 aa ?_)
 refine ak (kh (l:=8) (h:=s.length) rfl rfl ⟨_,rfl⟩ (by omega) (by omega) ?_)
 rw[show(s.drop 8).take (s.length-8)=s.drop 8 from pf (by rw[gy];omega)]
 refine ak (cO (I0 F (by rw[gy];omega)) rfl rfl ?_)
 refine ae 5 aa (af ?_)
 refine aK (ai (ae 3 aa (dc (g:=eg) aa (fun G=>?_) (fun G=>?_))))
 ·have J:=Ao K Z (fun k=>by simp[k.1] at G)
  refine aO aa (G) (aO aa (G) (ak (cT aa (G) aa ?_)))
  refine ae 1 aa (aO aa aa (aO aa aa (ae 1 aa (af ?_))))
  refine fm aa aa (al 2 aa (ax ?_))
  exact bx rfl rfl (by unfold l4;rw[J];rfl)
 refine ao aa (G) (bN aa ?_)
 refine ao aa (G) (jH aa ?_)
 refine ak (cJ aa (G) aa ?_)
 refine ae 1 aa (dc (g:=ee) aa (fun I=>?_) (fun I=>?_))
 ·have J:=Ao K Z (fun k=>by simp[k.2.1] at I)
  refine aO aa (I) (aO aa (I) (ak (cT aa (I) aa ?_)))
  refine af (fm aa aa (al 2 aa (ax ?_)))
  exact bx rfl rfl (by unfold l4;rw[J];rfl)
 refine ao aa (I) (bN aa ?_)
 refine ao aa (I) (jH aa ?_)
 refine ak (cJ aa (I) aa ?_)
 refine af (aI aa (fun U=>?_) (fun U=>?_))
 ·have J:=Ao K Z (fun k=>by simp[k.2.2] at U)
  refine al 2 aa (ax ?_)
  exact bx rfl rfl (by unfold l4;rw[J];rfl)
 have J:=NA K Z ⟨by simpa using G,by simpa using I,by simpa using U⟩
 refine aQ (ai (ae 3 aa ?_))
 refine ak (cO (Xk F (v7 (xC (n:=4) (by rw[jw];omega))) (v7 (xC (n:=2) (by rw[jw];omega))) (v7 (xC (n:=2) (by rw[gy];omega)))) rfl rfl ?_)
 refine ae 5 aa (af ?_)
 refine aK (al 2 aa (aI aa (fun Y=>?_) (fun Y=>?_)))
 ·have ho:jM (gH (s.take 4)).1 (gH ((s.drop 5).take 2)).1 (gH (s.drop 8)).1=none:=by simpa using Y
  rw[ho] at J
  refine al 2 aa (ax ?_)
  exact bx rfl rfl (by unfold l4;rw[J];rfl)
 obtain⟨n,ho⟩:∃n,jM (gH (s.take 4)).1 (gH ((s.drop 5).take 2)).1 (gH (s.drop 8)).1=some n:=by cases hc:jM (gH (s.take 4)).1 (gH ((s.drop 5).take 2)).1 (gH (s.drop 8)).1<;>simp[hc] at Y;exact⟨_,rfl⟩
 rw[ho] at J
 refine aQ (al 3 aa (ax ?_))
 exact bx rfl rfl (by unfold l4;rw[J,ho];rfl)
set_option maxHeartbeats 2000000 in
theorem Is{T:bd}(F:FT T)(s:List UInt8):Sound T 201 [dS s] fun r=>r=l4 (fr s):=by
 refine eh F.aaI aa (al 2 aa (aK (ai (ae 1 aa (ak (oA (b:=tT) aa aa ?_))))))
 refine af (aI aa (fun h9=>?_) (fun h9=>?_))
 ·refine al 2 aa (ax ?_)
  exact bx rfl rfl (by unfold l4 fr;rw[aw (by simpa using h9)];rfl)
 have hf:¬s=tT:=by simpa using h9
 refine aQ (aK (ai (ae 4 aa (dc (g:=aV) aa (fun bM=>?_) (fun bM=>?_)))))
 ·have J:=xT hf (fun k=>by simp at bM;omega)
  refine aO aa (bM) (aO aa (bM) (aO aa (bM) (ak (cT aa (bM) aa ?_))))
  refine ae 1 aa (aO aa aa (aO aa aa (aO aa aa (ae 1 aa (af ?_)))))
  refine fm aa aa (al 2 aa (ax ?_))
  exact bx rfl rfl (by unfold l4;rw[J];rfl)
 have hl:s.length=10:=by simp at bM;omega
 obtain⟨c4,h4⟩:=jD (s:=s) (i:=4) (by omega)
 obtain⟨c7,h7⟩:=jD (s:=s) (i:=7) (by omega)
 refine ao aa (bM) (bN aa ?_)
 refine ao aa (bM) (fG aa aa h4 ?_)
 refine ao aa (bM) (iD aa aa ?_)
 refine ak (cJ aa (bM) aa ?_)
 refine ae 1 aa (dc (g:=bj) aa (fun A=>?_) (fun A=>?_))
 ·have J:=xT hf (fun k=>by have h:=wb (h4.symm.trans k.2.1);subst h;simp at A)
  refine aO aa (A) (aO aa (A) (aO aa (A) (ak (cT aa (A) aa ?_))))
  refine af (fm aa aa (al 2 aa (ax ?_)))
  exact bx rfl rfl (by unfold l4;rw[J];rfl)
 refine ao aa (A) (bN aa ?_)
 refine ao aa (A) (fG aa aa h7 ?_)
 refine ao aa (A) (iD aa aa ?_)
 refine ak (cJ aa (A) aa ?_)
 refine af (aI aa (fun U=>?_) (fun U=>?_))
 ·have J:=xT hf (fun k=>by have h:=wb (h7.symm.trans k.2.2);subst h;simp at U)
  refine al 2 aa (ax ?_)
  exact bx rfl rfl (by unfold l4;rw[J];rfl)
 obtain rfl:c4=45:=toNat_45 (by simpa using A)
 obtain rfl:c7=45:=toNat_45 (by simpa using U)
 have hs:s.length=10∧s[4]?=some 45∧s[7]?=some 45:=⟨hl,h4,h7⟩
 refine aQ (al 1 aa (aK (al 1 aa (bJ ?_))))
 refine dY (fun k VE B=>∃i,i≤10∧k=10-i∧QI s i∧br [(0,dS s),(2,d0),(3,d0),(4,.vp 4 0),(5,dI (i:Nat))] VE∧br [(4,.one 245 80 (Bk s i))] B) ?_ (k:=10) ⟨0,by decide,rfl,fun _ h=>absurd h (HW _),⟨rfl,rfl,rfl,rfl,rfl,trivial⟩,rfl,trivial⟩
 rintro k VE B⟨i,hi,rfl,hd,hV,hB⟩
 refine dn _ _ hV hB (aK (al 2 aa (aI aa (fun Y=>?_) (fun Y=>?_))))
 ·have G:i<10:=by simp at Y;omega
  obtain⟨c,K⟩:=jD (s:=s) (i:=i) (by omega)
  have abI:=c.toNat_lt
  have hdg:dg s i=c.toNat-48:=by unfold dg;rw[K];rfl
  refine aQ (aK (bJ (aK (ai (ae 3 aa (dc (g:=cn) aa (fun I=>?_) (fun I=>?_)))))))
  ·have Z:i=4∨i=7:=by simp at I;omega
   refine aO aa (I) (aO aa (I) (ak (cT aa (I) aa ?_)))
   refine af (fm aa aa (dD (bD (ae 1 aa ?_))))
   refine ak (cM rfl rfl (by omega) ?_)
   refine ae 1 aa (af ?_)
   exact⟨10-(i+1),by omega,i+1,by omega,rfl,fun j hj=>by(rcases Nat.lt_succ_iff_lt_or_eq.1 hj with k|rfl;exact hd j k;omega),⟨rfl,rfl,rfl,rfl,rfl,trivial⟩,by rw[←Lm Z];rfl,trivial⟩
  have JF:i≠4:=by simp at I;omega
  refine ao aa (I) (bN aa ?_)
  refine ao aa (I) (hY aa aa ?_)
  refine ak (cJ aa (I) aa ?_)
  refine af (aI aa (fun pB=>?_) (fun pB=>?_))
  ·have Z:i=4∨i=7:=by simp at pB;omega
   refine dD (bD (ae 1 aa ?_))
   refine ak (cM rfl rfl (by omega) ?_)
   refine ae 1 aa (af ?_)
   exact⟨10-(i+1),by omega,i+1,by omega,rfl,fun j hj=>by(rcases Nat.lt_succ_iff_lt_or_eq.1 hj with k|rfl;exact hd j k;omega),⟨rfl,rfl,rfl,rfl,rfl,trivial⟩,by rw[←Lm Z];rfl,trivial⟩
  have JG:i≠7:=by simp at pB;omega
  refine aQ (aK (ai (ae 2 aa (ak (fG aa aa K ?_)))))
  refine ae 2 aa (dc (g:=db) aa (fun z=>?_) (fun z=>?_))
  ·have J:=Ao hf hs (Nz hl G JF JG K (by simp at z;omega))
   refine aO aa (z) (aO aa (z) (aO aa (z) (aO aa (z) (ak (cT aa (z) aa ?_)))))
   refine af (fm aa aa (al 2 aa (ax ?_)))
   exact bx rfl rfl (by unfold l4;rw[J];rfl)
  refine ao aa (z) (bN aa ?_)
  refine ao aa (z) (bN aa ?_)
  refine ao aa (z) (fG aa aa K ?_)
  refine ao aa (z) (sC aa aa ?_)
  refine ak (cJ aa (z) aa ?_)
  refine af (aI aa (fun qT=>?_) (fun qT=>?_))
  ·have J:=Ao hf hs (Nz hl G JF JG K (by simp at qT;omega))
   refine al 2 aa (ax ?_)
   exact bx rfl rfl (by unfold l4;rw[J];rfl)
  have QK:48≤c.toNat∧c.toNat≤57:=by simp at z qT;omega
  refine aQ (bD (ae 3 aa (ak (fG aa aa K ?_))))
  refine ak (Ny aa aa QK.1 ?_)
  refine ak (zE rfl (by omega) ?_)
  refine ak (md aa aa G ?_)
  refine Nt (K3 rfl rfl rfl rfl rfl (by decide) (by show 0+i*1+1≤10;omega) ?_)
  refine af (bD (ae 1 aa ?_))
  refine ak (cM rfl rfl (by omega) ?_)
  refine ae 1 aa (af ?_)
  exact⟨10-(i+1),by omega,i+1,by omega,rfl,fun j hj=>by(rcases Nat.lt_succ_iff_lt_or_eq.1 hj with k|rfl;exact hd j k;exact .inr (.inr (by rw[K];exact xd.2 QK))),⟨rfl,rfl,rfl,rfl,rfl,trivial⟩,by rw[←T' G JF JG,hdg];rfl,trivial⟩
 have G:i=10:=by simp at Y;omega
 subst G
 have O:∀j,dg s j≤207:=fun j=>by have:=((s[j]?).getD 0).toNat_lt;unfold dg;omega
 have g0:=O 0;have g1:=O 1;have g2:=O 2;have g3:=O 3;have g5:=O 5;have g6:=O 6;have g8:=O 8;have g9:=O 9
 obtain⟨n1,n2,n3⟩:=Ve hl hd
 have J:=NA hf hs ⟨by rw[n1],by rw[n2],by rw[n3]⟩
 rw[n1,n2,n3] at J
 have hy:1000*dg s 0+100*dg s 1+10*dg s 2+dg s 3≤9999:=by have:=xC (s:=s.take 4) (n:=4) (by rw[jw];omega);rw[n1] at this;exact v7 this
 have hmm:10*dg s 5+dg s 6≤99:=by have:=xC (s:=(s.drop 5).take 2) (n:=2) (by rw[jw];omega);rw[n2] at this;exact v7 this
 have hdd:10*dg s 8+dg s 9≤99:=by have:=xC (s:=s.drop 8) (n:=2) (by rw[gy];omega);rw[n3] at this;exact v7 this
 refine dD (ai ?_)
 refine ak (md (j:=0) rfl rfl (by decide) ?_)
 refine ak (df (v:=dI (dg s 0:Nat)) aa aa aa ?_)
 refine ak (ua rfl rfl (by(try simp only[bb] at*);omega) (by(try simp only[bb] at*);omega) ?_)
 refine ak (md (j:=1) rfl rfl (by decide) ?_)
 refine ak (df (v:=dI (dg s 1:Nat)) aa aa aa ?_)
 refine ak (ua rfl rfl (by(try simp only[bb] at*);omega) (by(try simp only[bb] at*);omega) ?_)
 refine ak (jX rfl rfl (by(try simp only[bb] at*);omega) (by(try simp only[bb] at*);omega) ?_)
 refine ak (md (j:=2) rfl rfl (by decide) ?_)
 refine ak (df (v:=dI (dg s 2:Nat)) aa aa aa ?_)
 refine ak (ua rfl rfl (by(try simp only[bb] at*);omega) (by(try simp only[bb] at*);omega) ?_)
 refine ak (jX rfl rfl (by(try simp only[bb] at*);omega) (by(try simp only[bb] at*);omega) ?_)
 refine ak (md (j:=3) rfl rfl (by decide) ?_)
 refine ak (df (v:=dI (dg s 3:Nat)) aa aa aa ?_)
 refine ak (jX rfl rfl (by(try simp only[bb] at*);omega) (by(try simp only[bb] at*);omega) ?_)
 rw[show Int.ofNat 1000*(dg s 0:Nat)+Int.ofNat 100*(dg s 1:Nat)+Int.ofNat 10*(dg s 2:Nat)+((dg s 3:Nat):Int)=((1000*dg s 0+100*dg s 1+10*dg s 2+dg s 3:Nat):Int) by simp only[bb];omega]
 refine ak (md (j:=5) rfl rfl (by decide) ?_)
 refine ak (df (v:=dI (dg s 5:Nat)) aa aa aa ?_)
 refine ak (ua rfl rfl (by(try simp only[bb] at*);omega) (by(try simp only[bb] at*);omega) ?_)
 refine ak (md (j:=6) rfl rfl (by decide) ?_)
 refine ak (df (v:=dI (dg s 6:Nat)) aa aa aa ?_)
 refine ak (jX rfl rfl (by(try simp only[bb] at*);omega) (by(try simp only[bb] at*);omega) ?_)
 rw[show Int.ofNat 10*(dg s 5:Nat)+((dg s 6:Nat):Int)=((10*dg s 5+dg s 6:Nat):Int) by simp only[bb];omega]
 refine ak (md (j:=8) rfl rfl (by decide) ?_)
 refine ak (df (v:=dI (dg s 8:Nat)) aa aa aa ?_)
 refine ak (ua rfl rfl (by(try simp only[bb] at*);omega) (by(try simp only[bb] at*);omega) ?_)
 refine ak (md (j:=9) rfl rfl (by decide) ?_)
 refine ak (df (v:=dI (dg s 9:Nat)) aa aa aa ?_)
 refine ak (jX rfl rfl (by(try simp only[bb] at*);omega) (by(try simp only[bb] at*);omega) ?_)
 rw[show Int.ofNat 10*(dg s 8:Nat)+((dg s 9:Nat):Int)=((10*dg s 8+dg s 9:Nat):Int) by simp only[bb];omega]
 refine ak (cO (Xl F (y:=1000*dg s 0+100*dg s 1+10*dg s 2+dg s 3) (m:=10*dg s 5+dg s 6) (d:=10*dg s 8+dg s 9) hy hmm hdd) aa aa ?_)
 refine ae 5 aa (af ?_)
 refine aK (al 2 aa (aI aa (fun BV=>?_) (fun BV=>?_)))
 ·have ho:jM (1000*dg s 0+100*dg s 1+10*dg s 2+dg s 3) (10*dg s 5+dg s 6) (10*dg s 8+dg s 9)=none:=by simpa using BV
  refine al 2 aa (ax ?_)
  exact bx rfl rfl (by unfold l4;rw[J,ho];rfl)
 obtain⟨n,ho⟩:∃n,jM (1000*dg s 0+100*dg s 1+10*dg s 2+dg s 3) (10*dg s 5+dg s 6) (10*dg s 8+dg s 9)=some n:=by cases K:jM (1000*dg s 0+100*dg s 1+10*dg s 2+dg s 3) (10*dg s 5+dg s 6) (10*dg s 8+dg s 9)<;>simp[K] at BV;exact⟨_,rfl⟩
 refine aQ (al 3 aa (ax ?_))
 exact bx rfl rfl (by unfold l4;rw[J,ho];rfl)
open Go
def preB(s p:List UInt8):Bool:=decide (p.length≤s.length)&&decide (s.take p.length=p)
def eU(s:List UInt8)(c:UInt8):List UInt8×List UInt8×Bool:=if 0≤eO c s then(s.take (eO c s).toNat,s.drop ((eO c s).toNat+1),true) else(s,[],false)
def mq(a b:Int×Int):(Int×Int)×Int:=if¬a.2=0 then((0,0),a.2) else if¬b.2=0 then((0,0),b.2) else if b.1≤a.1 then((0,0),10) else((a.1,b.1),0)
def AP(r:List UInt8):Prop:=preB r [32]=true∧eO 41 r=(r.length:Nat) -Int.ofNat 1
instance(r:List UInt8):Decidable (AP r):=inferInstanceAs(Decidable (_∧_))
def l5(s:List UInt8):(Int×Int)×Int:=
 if preB s [91]=true∧(eU (s.drop 1) 44).2.2=true∧AP (eU (s.drop 1) 44).2.1 then mq (fr (eU (s.drop 1) 44).1) (fr (((eU (s.drop 1) 44).2.1.drop 1).take ((eU (s.drop 1) 44).2.1.length-1-1)))
 else((0,0),5)
def lJ(x:(Int×Int)×Int):VV:=.tuple [.agg [dI x.1.1,dI x.1.2],dI x.2]
theorem AQ{s:List UInt8}{c:UInt8}:preB s [c]=true↔s[0]?=some c:=by
 unfold preB;cases s<;>simp
theorem G8{c:UInt8}:∀{a b:List UInt8},(∀x,x∈a→x≠c)→eO c (a++b)=if eO c b= -1 then-1 else eO c b+(a.length:Nat)
 |[],b,_=>by simp
 |x::a,b,h=>by
  have z:=G8 (c:=c) (a:=a) (b:=b) fun y A=>h y (nZ _ A)
  have G:¬x=c:=h x kG
  show(if x=c then 0 else if eO c (a++b)= -1 then-1 else eO c (a++b)+1)=_
  rw[aj G,z]
  have I:=xB c b
  rw[cP]
  by_cases k:eO c b= -1
  ·simp[k]
  rw[aj k,aj k,aj (by omega)];omega
theorem Vf{c:UInt8}{a:List UInt8}(h:∀x,x∈a→x≠c):eO c a= -1:=by
 have:=G8 (b:=[]) h
 rw[yA] at this;rw[this];rfl
theorem Cq{c:UInt8}:∀{s:List UInt8}{k:Nat},eO c s=(k:Int)→s[k]?=some c∧∀j x,j<k→s[j]?=some x→x≠c
 |[],k,h=>by unfold eO at h;omega
 |y::s,k,h=>by
  have h:(if y=c then(0:Int) else if eO c s= -1 then-1 else eO c s+1)=(k:Int):=h
  by_cases z:y=c
  ·rw[aw z] at h;obtain rfl:k=0:=by omega
   exact⟨by rw[z];rfl,fun j x G=>absurd G (HW _)⟩
  rw[aj z] at h
  by_cases I:eO c s= -1
  ·rw[aw I] at h;omega
  rw[aj I] at h
  have K:=xB c s
  obtain⟨m,rfl⟩:∃m,k=m+1:=⟨k-1,by omega⟩
  obtain⟨J,h2⟩:=Cq (c:=c) (s:=s) (k:=m) (by omega)
  refine⟨J,fun j x G A=>?_⟩
  cases j with
  |zero=>simp at A;subst A;exact z
  |succ j=>exact h2 j x (by omega) A
theorem Ln{r:List UInt8}(h:AP r):2≤r.length:=by
 obtain⟨z,h2⟩:=h
 rw[AQ] at z
 match r,z,h2 with
 |[x],z,h2=>simp at z;subst z;exact absurd h2 (by decide)
 |_::_::_,_,_=>simp
theorem MU{c:UInt8}:∀{s:List UInt8}{k:Nat},s[k]?=some c→(∀j x,j<k→s[j]?=some x→x≠c)→eO c s=(k:Int)
 |[],k,h,_=>by simp at h
 |y::s,0,h,_=>by simp at h;subst h;exact aw rfl
 |y::s,k+1,h,h2=>by
  have z:¬y=c:=h2 0 y (ID _) rfl
  have A:=MU (c:=c) (s:=s) (k:=k) h fun j x I G=>h2 (j+1) x (by omega) G
  show(if y=c then(0:Int) else if eO c s= -1 then-1 else eO c s+1)=_
  rw[aj z,A,aj (by omega)];omega
def dA(s:List UInt8):List UInt8:=(s.drop 1).take (s.length-1-1)
theorem Wm{s:List UInt8}(h:4≤s.length)(h0:s[0]?=some 91)(z:s[s.length-1]?=some 41):s=91::(dA s++[41]):=by
 match s,h0 with
 |x::r,h0=>
  simp at h0;subst h0
  congr 1
  have A:r.length=(r.length-1)+1:=by simp at h;omega
  have h2:r[r.length-1]?=some 41:=by
   have z:=z
   rw[cP,HR] at z
   conv at z=>lhs;rw[A]
   rw[IA] at z
   exact z
  show r=r.take (r.length+1-1-1)++[41]
  rw[HR]
  conv=>lhs;rw[←HV (l:=r),A,take_succ h2]
variable{s:List UInt8}{k:Nat}
theorem MV(J:s=91::(dA s++[41]))(hk:k≤(dA s).length)(I:∀j x,j<k→(dA s)[j]?=some x→x≠44)(K:k<(dA s).length→(dA s)[k]?=some 44):
  (k<(dA s).length→eU (s.drop 1) 44=((dA s).take k,(dA s).drop (k+1)++[41],true))∧(¬k<(dA s).length→(eU (s.drop 1) 44).2.2=false):=by
 generalize dA s=i at*
 subst J
 show(_→eU (i++[41]) 44=_)∧(_→(eU (i++[41]) 44).2.2=false)
 constructor
 ·intro h
  have G:eO 44 (i++[41])=(k:Int):=MU (by rw[qI h];exact K h) fun j x A z=>I j x A (by rw[qI (by omega)] at z;exact z)
  unfold eU
  rw[G,aw (by omega),E6,List.take_append_of_le_length (by omega),List.drop_append_of_le_length (by omega)]
 intro h
 obtain rfl:k=i.length:=by omega
 have G:eO 44 (i++[41])= -1:=Vf fun x z=>by
  rcases List.mem_append.1 z with z|z
  ·obtain⟨j,A,he⟩:=HX z
   exact I j x A (by rw[eP A,he])
  rcases List.mem_singleton.1 z with rfl;decide
 unfold eU
 rw[G,aj (by omega)]
theorem Vg(J:s=91::(dA s++[41]))(hk:k+1<(dA s).length)(K:∀j x,j<k→(dA s)[j]?=some x→x≠44)(O:(dA s)[k]?=some 44)(z:(dA s)[k+1]?=some 32)(A:∀x,x∈(dA s).drop (k+2)→x≠41):
  l5 s=mq (fr ((dA s).take k)) (fr ((dA s).drop (k+2))):=by
 have U:=(MV J (by omega) K fun _=>O).1 (by omega)
 have G:(dA s).drop (k+1)=32::(dA s).drop (k+2):=by
  obtain⟨Y,he⟩:=List.getElem?_eq_some_iff.1 z
  rw[AX Y,he]
 have h2:preB s [91]=true:=AQ.2 (by rw[J];rfl)
 have Z:AP ((dA s).drop (k+1)++[41]):=by
  refine⟨AQ.2 (by rw[G];rfl),?_⟩
  rw[G8 (by rw[G];intro x I;rcases List.mem_cons.1 I with rfl|I;decide;exact A x I)]
  rw[bC,dU,show eO 41 [41]=0 from rfl,aj (by decide)]
  simp
 unfold l5
 rw[U,aw ⟨h2,rfl,Z⟩]
 congr 2
 rw[G]
 show((dA s).drop (k+2)++[41]).take _=_
 rw[yV,cP,bC,dU]
 exact List.take_left' (by omega)
theorem Hu(K:s=91::(dA s++[41]))(hk:k≤(dA s).length)(O:∀j x,j<k→(dA s)[j]?=some x→x≠44)(U:k<(dA s).length→(dA s)[k]?=some 44)
  (h:(dA s).length≤k+1∨¬(dA s)[k+1]?=some 32∨∃x,x∈(dA s).drop (k+2)∧x=41):l5 s=((0,0),5):=by
 obtain⟨Y,h2⟩:=MV K hk O U
 refine aj fun⟨_,G,I⟩=>?_
 by_cases J:k<(dA s).length
 ·rw[Y J] at I
  obtain⟨z,A⟩:=I
  have A:eO 41 ((dA s).drop (k+1)++[41])=(((dA s).drop (k+1)).length:Nat):=by rw[A,bC,dU];simp
  have Z:=(Cq A).2
  rw[AQ] at z
  rcases h with h|h|⟨x,hx,rfl⟩
  ·obtain h:(dA s).length=k+1:=by omega
   rw[←h,HU] at z;simp at z
  ·by_cases ke:k+1<(dA s).length
   ·rw[qI (by rw[gy];omega),td] at z
    exact h z
   obtain h:(dA s).length=k+1:=by omega
   rw[←h,HU] at z;simp at z
  obtain⟨j,hj,he⟩:=HX hx
  rw[gy] at hj
  refine Z (j+1) 41 (by rw[gy];omega) ?_ rfl
  rw[qI (by rw[gy];omega),td]
  rw[List.getElem_drop] at he
  rw[show k+1+(j+1)=k+2+j by omega,eP (by omega),he]
 rw[h2 J] at G;cases G
theorem Hv(h:s.length<4∨¬s[0]?=some 91∨¬s[s.length-1]?=some 41):l5 s=((0,0),5):=by
 refine aj fun⟨I,G,J⟩=>?_
 rw[AQ] at I
 have z:=Ln J
 have A:=J.2
 unfold eU at G A z
 split at G
 ·rename_i hp
  rw[aw hp] at A z
  simp only at A z
  generalize (eO 44 (s.drop 1)).toNat=m at A z
  rw[gy,gy] at z
  have O:eO 41 ((s.drop 1).drop (m+1))=(((s.drop 1).drop (m+1)).length-1:Nat):=by
   rw[A,gy,gy];simp only[bb];omega
  have K:=(Cq O).1
  rw[td,td,gy,gy] at K
  rcases h with h|h|h
  ·omega
  ·exact h I
  exact h (by rw[←K];congr 1;omega)
 cases G
theorem rO{a b:UInt8}(n:Nat)(z:a.toNat=n)(A:b.toNat=n):a=b:=UInt8.toNat_inj.1 (z.trans A.symm)
end Go.Ev.Pp
