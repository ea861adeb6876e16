/- Part 22 of rules for walks through the code of a program, and of such walks; what each part proves is said by its theorems. -/
import Derived.Test.YtddbkonalipepaaGreatDoorS21
set_option linter.unusedVariables false
set_option linter.unusedSimpArgs false
namespace Go.Ev.Pp
open Go
set_option maxRecDepth 10000
theorem jJ{T:bf}{VE:b0}{B:br}{Q:b0→br→Prop}{fl:List FL}{d:Key}{l:List Nat}{n:Nat}{w:Bool}{a:aF}{row:List DC}{o:Nat}{r:List bo}(Z:a.vv VE=some (.rp row o))(hk:nG [] l fl=true)(h:VI T (.load n w a) VE B [] fun v B'=>VQ T r ((d.n,v)::VE) B' (.rd []::fl) Q):VQ T (⟨some d,none,some l,.load n w a⟩::r) VE B fl Q:=by
 intro H0 X0 E H β J bP I
 obtain⟨N,v0,H',e,K,v,B',β',U,O,hv,hq⟩:=zu h J
 obtain⟨x,Y,A⟩:=J.b9 Z
 simp only[aN] at A
 obtain⟨f,g,Q1,l1,rfl,_,_,hX,dR⟩:=A
 have z:H'=H.mark:=Kt Y (e N N (bY _) (bY _))
 have G:H.mark.ws=[]∧H.mark.next=H.next:=by cases H;exact⟨rfl,rfl⟩
 have k:uM H.next B β (.rd []) ⟨(bE.load n w a).reads E,H'.ws,H.next,H'.next⟩:=by
  refine⟨by rw[z];exact G.1,by show H.next=H'.next;rw[z];exact G.2.symm,[f],?_,fun f' I=>?_⟩
  ·show some (iV (a.ev E))=_
   rw[Y];rfl
  rcases List.mem_singleton.1 I with rfl
  exact⟨dR,fun b s K h2 h3=>absurd (.inr ⟨b,s,K,h2,h3⟩) hX⟩
 obtain⟨N2,E2,H2,e2,hp⟩:=hq H0 X0 _ _ β' (O.set hv) (⟨(bE.load n w a).reads E,H'.ws,H.next,H'.next⟩::bP) ((I.cons k).step U)
 refine⟨max N N2,E2,H2,fun lf n a1 a2=>?_,hp.of U J.bc⟩
 show bo.na (T.call lf n) ⟨some d,none,some l,_⟩ E H bP (lR (T.call lf n) r)=_
 rw[y1,y3 (e lf n (by omega) (by omega)) (wV I K hk)]
 exact e2 lf n (by omega) (by omega)
set_option maxHeartbeats 4000000 in
theorem Qn{T:bf}(F:FT T){D:Rd}(Lq:ka T D){ay:List cL}(hg:q8 ay):Sound T 28 [.d (.sl (ay.map cL.enc))] fun r=>r= .tuple [ep (lv D ay).1.enc,dI (lv D ay).2.1,dI (lv D ay).2.2]:=by
 refine eo F.f28 aa ?_
 have A:bO (start ay) ((start ay).cT D).2:=hg.top.cT D
 have G:=A.trans A.top.fin
 have htk:(jy D ay).ay=ay:=G.ay
 refine ak 3 aa (ak 4 aa (ai (ae 1 aa (al (jI (bZ:=[.vp 1000 0]) (Bi:=PS.bq false (start ay)) [(1000,9)] 2000 aa aa aa aa aa aa aa ⟨aa,aa,trivial⟩ (Rn F Lq hg.top aa) (fun r Bn fG=>?_))))))
 obtain⟨st,a,rfl,rfl,I⟩:=fG
 refine ae 2 aa (af ?_)
 refine ai (ae 1 aa (al (jI (bZ:=[.vp 1000 0]) (Bi:=PS.bq _ ((start ay).cT D).2) [(1000,9)] 2000 aa aa aa aa aa aa aa ⟨aa,aa,trivial⟩ (OU F A.top) (fun r Bn fG=>?_))))
 obtain⟨rfl,rfl⟩:=fG
 refine af (aM (ak 5 aa (aJ aa (fun z=>?_) (fun z=>?_))))
 ·have he:¬(jy D ay).err=0:=by unfold jy;simpa using z
  have O:PS.ea (jy D ay)=(jy D ay).aI:=aj he
  have U:(jy D ay).pos=(jy D ay).tok.pos:=G.pk (fun k=>absurd rfl k) he
  have Y:lv D ay=({},(jy D ay).pos,(jy D ay).err):=by unfold lv;rw[aq (by unfold jy;simpa using z)]
  have J:(ay.map cL.enc)[PS.ea (jy D ay)]?=some (jy D ay).tok.enc:=by
   rw[O,iO]
   have K:=G.ok.get
   rw[G.ay] at K
   show Option.map cL.enc ay[(jy D ay).aI]?=_
   rw[show ay[(jy D ay).aI]?=_ from K];rfl
  refine eU (bm 6 aa (dE (lS (row:=(jy D ay).tok.enc) aa aa J aa ?_)))
  refine bm 1 aa (jJ aa aa (mA aa aa ?_))
  refine bm 7 aa (da ?_)
  refine ax ?_
  rw[Y,U];exact⟨_,rfl,(by repeat(first|exact trivial|apply And.intro)),rfl⟩
 have he:(jy D ay).err=0:=by unfold jy;simpa using z
 have Y:lv D ay=(((start ay).cT D).1,0,0):=by unfold lv;rw[aj (by unfold jy;simpa using z)]
 have Z:=I (A.top.fin.er he)
 refine aT (ak 4 aa (ax ?_))
 rw[Y,←Z];exact⟨_,rfl,(by repeat(first|exact trivial|apply And.intro)),rfl⟩
set_option maxHeartbeats 4000000 in
theorem Qc{T:bf}(F:FT T){D:Rd}(Lq:ka T D){ay:List cL}(hg:q8 ay):Sound T 29 [.d (.sl (ay.map cL.enc))] fun r=>r= .tuple [ep (lq D ay).1.enc,dI (lq D ay).2.1,dI (lq D ay).2.2]:=by
 refine eo F.f29 aa ?_
 have A:bO (start ay) ((start ay).cQ D false).2:=hg.top.cQ D false
 have G:=A.trans A.top.fin
 have htk:(jD D ay).ay=ay:=G.ay
 refine ak 3 aa (ak 4 aa (ai (ae 1 aa (al (jI (bZ:=[.vp 1000 0]) (Bi:=PS.bq false (start ay)) [(1000,9)] 2000 aa aa aa aa aa aa aa ⟨aa,aa,trivial⟩ (GR F Lq hg.top) (fun r Bn fG=>?_))))))
 obtain⟨⟨st,rfl,I⟩,rfl⟩:=fG
 refine ae 2 aa (af ?_)
 refine ai (ae 1 aa (al (jI (bZ:=[.vp 1000 0]) (Bi:=PS.bq _ ((start ay).cQ D false).2) [(1000,9)] 2000 aa aa aa aa aa aa aa ⟨aa,aa,trivial⟩ (OU F A.top) (fun r Bn fG=>?_))))
 obtain⟨rfl,rfl⟩:=fG
 refine af (aM (ak 5 aa (aJ aa (fun z=>?_) (fun z=>?_))))
 ·have he:¬(jD D ay).err=0:=by unfold jD;simpa using z
  have O:PS.ea (jD D ay)=(jD D ay).aI:=aj he
  have U:(jD D ay).pos=(jD D ay).tok.pos:=G.pk (fun k=>absurd rfl k) he
  have Y:lq D ay=(⟨[],[]⟩,(jD D ay).pos,(jD D ay).err):=by unfold lq;rw[aq (by unfold jD;simpa using z)]
  have J:(ay.map cL.enc)[PS.ea (jD D ay)]?=some (jD D ay).tok.enc:=by
   rw[O,iO]
   have K:=G.ok.get
   rw[G.ay] at K
   show Option.map cL.enc ay[(jD D ay).aI]?=_
   rw[show ay[(jD D ay).aI]?=_ from K];rfl
  refine eU (bm 6 aa (dE (lS (row:=(jD D ay).tok.enc) aa aa J aa ?_)))
  refine bm 1 aa (jJ aa aa (mA aa aa ?_))
  refine bm 7 aa (da ?_)
  refine ax ?_
  rw[Y,U];exact⟨_,rfl,(by repeat(first|exact trivial|apply And.intro)),rfl⟩
 have he:(jD D ay).err=0:=by unfold jD;simpa using z
 have Y:lq D ay=(((start ay).cQ D false).1,0,0):=by unfold lq;rw[aj (by unfold jD;simpa using z)]
 have Z:=I (A.top.fin.er he)
 refine aT (ak 4 aa (ax ?_))
 rw[Y,←Z];exact⟨_,rfl,(by repeat(first|exact trivial|apply And.intro)),rfl⟩
end Go.Ev.Pp
namespace Go.Ev
open Go
variable{T:bf}{VE:b0}{B:br}{Q:VV→br→Prop}
theorem tv{x y:aF}{a b:Int}(z:x.vv VE=some (dI a))(A:y.vv VE=some (dI b))(G: -9223372036854775808≤a*b)(h2:a*b≤9223372036854775807)(I:Q (dI (a*b)) B):VI T (.bin .mul x y) VE B [] Q:=
 LO z A (by rw[wrap_i64 G h2];exact I)
theorem xd{x y:aF}{a b:Int}(A:x.vv VE=some (dI a))(G:y.vv VE=some (dI b))(h0:l7 b 0=false)(z:0≤a)(I:0<b)(h2:a≤9223372036854775807)(J:Q (dI (a/b)) B):VI T (.bin .quo x y) VE B [] Q:=
 TQ A G h0 (by
  have K:0≤a/b:=Int.ediv_nonneg z (Int.le_of_lt I)
  have O:a/b≤a:=Int.ediv_le_self b z
  rw[Int.tdiv_eq_ediv_of_nonneg z,wrap_i64 (by omega) (by omega)];exact J)
theorem tw{x y:aF}{a b:Int}(z:x.vv VE=some (dI a))(A:y.vv VE=some (dI b))(h0:l7 b 0=false)(G:0≤a)(I:Q (dI (a % b)) B):VI T (.bin .rem x y) VE B [] Q:=
 TR z A h0 (by rw[Int.tmod_eq_emod_of_nonneg G];exact I)
theorem MG{x y:aF}{c:UInt8}(z:x.vv VE=some (.d (.i .u8 (c.toNat:Nat))))(A:y.vv VE=some (.d (.i .u8 (Int.ofNat 48))))(I:48≤c.toNat)(G:Q (.d (.i .u8 ((c.toNat-48:Nat):Int))) B):VI T (.bin .sub x y) VE B [] Q:=
 Gt z A (by
  have h:=c.toNat_lt
  rw[show IntKind.u8.wrap (((c.toNat:Nat):Int) -Int.ofNat 48)=((c.toNat-48:Nat):Int) from ?_]
  ·exact G
  show(((c.toNat:Nat):Int) -48) % 256=_
  omega)
theorem Li{x:aF}{z:IntKind}{n:Nat}(A:x.vv VE=some (.d (.i z (n:Int))))(h:n<4294967296)(G:Q (dI (n:Int)) B):VI T (.conv .i64 x) VE B [] Q:=
 Cj A (by rw[wrap_i64 (by omega) (by omega)];exact G)
def EN:List VV→Bool
 |[]=>true
 |.d _::r=>EN r
 |_=>false
theorem L2:∀{l:List VV},EN l=true→l8 l
 |[],_=>trivial
 |.d _::r,h=>⟨trivial,L2 (l:=r) h⟩
def uP:List VV→Bool
 |[]=>true
 |.d _::r=>uP r
 |.agg l::r=>EN l&&uP r
 |.fn _ []::r=>uP r
 |_=>false
theorem xz:∀{l:List VV},uP l=true→l8 l
 |[],_=>trivial
 |.fn _ []::r,h=>⟨trivial,xz (l:=r) h⟩
 |.d _::r,h=>⟨trivial,xz (l:=r) h⟩
 |.agg l::r,h=>by
  obtain⟨z,h2⟩:=iw (show(EN l&&uP r)=true from h)
  exact⟨by simp only[VV.nb];exact L2 z,xz h2⟩
theorem bB{rs:List lG}{VE:b0}{B:br}{P:VV→Prop}{vs:List VV}(h:ux VE B rs=some vs)(z:uP vs=true)(A:P (gx vs)):OG rs P .ret VE B:=⟨vs,h,xz z,A⟩
theorem cO{f:Nat}{l:List aF}{args:List VV}{R:VV}(h:Sound T f args fun r=>r=R)(z:iW VE l=some args)(A:uP args=true)(G:Q R B):VI T (.call f l) VE B [] Q:=
 qe z (xz A) h fun r _ I=>by rw[I];exact G
theorem Vk{x:aF}{f:Nat}{l:List aF}{z:List VV}{R:VV}(h:Sound T f z fun r=>r=R)(A:x.vv VE=some (.fn f []))(G:iW VE l=some z)(I:uP z=true)(J:Q R B):VI T (.mF x l) VE B [] Q:=
 SL A G (by rw[yd];exact xz I) (by rw[yd];exact h) fun r _ K=>by rw[K];exact J
structure FX(T:bf):Prop where
 Z5:T.ft.get 154=none
 Z6:T.xt.get 154=some 3
 Z7:T.ft.get 210=none
 Z8:∃t,T.xt.get 210=some (4+t)
 Z9:T.ft.get 178=none
 Z':T.xt.get 178=some 0
 aaa:T.ft.get 162=none
 aab:T.xt.get 162=some 1
def eF(c:UInt8):List UInt8→Int
 |[]=> -1
 |x::r=>if x=c then 0 else if eF c r= -1 then-1 else eF c r+1
theorem xe(c:UInt8):∀l, -1≤eF c l
 |[]=>Int.le_refl _
 |x::r=>by unfold eF;have:=xe c r;split<;>(try split)<;>omega
theorem L3(c:UInt8):∀l,eF c l<(l.length:Nat)
 |[]=>by unfold eF;simp
 |x::r=>by unfold eF;have:=L3 c r;have:=xe c r;rw[dj];split<;>(try split)<;>omega
theorem Ky(c:UInt8):∀l,Lib.indexByte l c=eF c l
 |[]=>rfl
 |x::r=>by
  show(if(x==c)=true then 0 else if(Lib.indexByte r c== -1)=true then-1 else Lib.indexByte r c+1)=_
  rw[Ky c r,show eF c (x::r)=if x=c then 0 else if eF c r= -1 then-1 else eF c r+1 from rfl];simp only[beq_iff_eq]
theorem QK(X:FX T)(s:List UInt8)(c:UInt8):Sound T 178 [dS s,.d (.i .u8 (c.toNat:Nat))] fun r=>r=dI (eF c s):=by
 intro H0 Y H β l A z
 simp only[bk,aN,cJ,cM] at z
 obtain⟨_,_,rfl,rfl,_,_,rfl,rfl,rfl⟩:=z
 refine⟨1,.int .i64 (eF c s),H,fun lf n _ h=>?_,dI (eF c s),[],β,.refl,A,by simp only[aN,cM],by simp only[VV.nb],rfl⟩
 obtain⟨n,rfl⟩:∃n',n=n'+1:=⟨n-1,by omega⟩
 show ob (T.ft.get 178) (ob (T.xt.get 178) (.err (Nat.add 10000 178)) fun c=>qv c _ H) _=_
 rw[X.Z9,X.Z']
 show aH (Nat.beq 4 4) (aH (Nat.ble c.toNat 255) (aH (Nat.beq 1 1) (kV (AM c.toNat s.length (pack s) 0) fun i=>aD.ok (.int .i64 i) H) (.err 90)) (.err 90)) (.err 90)=_
 have h:=c.toNat_lt
 rw[show Nat.ble c.toNat 255=true from jA (by omega),Gp c s 0,Ky]
 rw[show(if eF c s= -1 then(-1:Int) else eF c s+((0:Nat):Int))=eF c s by split<;>simp_all]
 exact(rJ (eF c s) fun i=>aD.ok (.int .i64 i) H)
end Go.Ev
namespace Go.Ev.Pp
open Go
def ra(y:Nat):Bool:=decide ((y % 4=0∧¬y % 100=0)∨y % 400=0)
def kE(y m:Nat):Nat:=if m=1∨m=3∨m=5∨m=7∨m=8∨m=10∨m=12 then 31 else if m=4∨m=6∨m=9∨m=11 then 30 else if m=2 then(if ra y=true then 29 else 28) else 0
theorem vZ{y m:Nat}(h:m=1∨m=3∨m=5∨m=7∨m=8∨m=10∨m=12):kE y m=31:=aq h
theorem Ed{y m:Nat}(h:m=4∨m=6∨m=9∨m=11):kE y m=30:=by unfold kE;rw[aj (by omega),aq h]
theorem EO{y m:Nat}(h:m=2):kE y m=if ra y=true then 29 else 28:=by unfold kE;rw[aj (by omega),aj (by omega),aq h]
theorem EP{y m:Nat}(h:m<1∨12<m):kE y m=0:=by unfold kE;rw[aj (by omega),aj (by omega),aj (by omega)]
theorem GS(y m:Nat):kE y m≤31:=by unfold kE;split<;>(try split)<;>(try split)<;>(try split)<;>omega
theorem N6{y m:Nat}(h:0<kE y m):1≤m∧m≤12:=by
 refine tM fun k=>?_
 rw[EP (by omega)] at h;omega
def p'(y:Nat):Int:=Int.ofNat 365*((y:Int) -Int.ofNat 1600)+((y:Int) -Int.ofNat 1600+Int.ofNat 3)/Int.ofNat 4-((y:Int) -Int.ofNat 1600+Int.ofNat 99)/Int.ofNat 100+((y:Int) -Int.ofNat 1600+Int.ofNat 399)/Int.ofNat 400
theorem N7{y:Nat}(h:1600≤y)(h2:y≤9999):0≤p' y∧p' y≤4000000:=by unfold p';simp only[aZ];omega
theorem Uj{y:Nat}(h:4400<y):1000000≤p' y:=by unfold p';simp only[aZ];omega
def pZ(y:Nat):Nat→Nat
 |0=>0
 |k+1=>pZ y k+kE y (k+1)
theorem zE(y:Nat):∀k,pZ y k≤31*k
 |0=>bY _
 |k+1=>by unfold pZ;have:=zE y k;have:=GS y (k+1);omega
def sC(y m d:Nat):Int:=p' y+d-Int.ofNat 1+pZ y (m-1)
def jz(y m d:Nat):Option Int:=if y<1600∨4400<y∨d<1∨kE y m<d then none else if 1000000≤sC y m d then none else some (sC y m d)
def N8(o:Option Int):VV:=.tuple [dI (o.getD 0),dB o.isSome]
def gW(c:UInt8):Bool:=decide (48≤c.toNat)&&decide (c.toNat≤57)
def gH(s:List UInt8):Nat×Bool:=if s.all gW=true then(dV s,true) else(0,false)
def tn:List UInt8:=[102,111,114,101,118,101,114]
def H3:Option Int→Int×Int
 |none=>(0,10)
 |some n=>(n,0)
def fc(s:List UInt8):Int×Int:=
 if s=tn then(1000000,0)
 else if¬(s.length=10∧s[4]?=some 45∧s[7]?=some 45) then(0,5)
 else if¬((gH (s.take 4)).2=true∧(gH ((s.drop 5).take 2)).2=true∧(gH (s.drop 8)).2=true) then(0,5)
 else H3 (jz (gH (s.take 4)).1 (gH ((s.drop 5).take 2)).1 (gH (s.drop 8)).1)
def lK(x:Int×Int):VV:=.tuple [dI x.1,dI x.2]
theorem QL(s:List UInt8)(c:UInt8):dV (s++[c])=dV s*10+(c.toNat-48):=by
 unfold dV;rw[xD];rfl
theorem wO{c:UInt8}:gW c=true↔48≤c.toNat∧c.toNat≤57:=by unfold gW;simp
theorem Uk{s:List UInt8}(h:s.all gW=true):∀c,c∈s→48≤c.toNat∧c.toNat≤57:=fun c z=>wO.1 (List.all_eq_true.1 h c z)
theorem Lj{s:List UInt8}{n:Nat}(h:s.all gW=true)(z:s.length≤n):dV s<10^n:=mn (JS (Uk h)) (Ax (by decide) z)
theorem take_succ{s:List UInt8}{i:Nat}{c:UInt8}(h:s[i]?=some c):s.take (i+1)=s.take i++[c]:=by rw[xC,h];rfl
theorem jH{s:List UInt8}{i:Nat}(h:i<s.length):∃c,s[i]?=some c:=⟨s[i],eY h⟩
def ER(s:List UInt8):VV:=.tuple [dI ((gH s).1:Nat),dB (gH s).2]
theorem L4{s:List UInt8}{i:Nat}{c:UInt8}(h:s[i]?=some c)(z:¬(48≤c.toNat∧c.toNat≤57)):gH s=(0,false):=by
 refine aj fun k=>z (wO.1 ?_)
 exact List.all_eq_true.1 k c (lW h)
theorem S'{s:List UInt8}{c:UInt8}(h:s.all gW=true)(z:48≤c.toNat∧c.toNat≤57):(s++[c]).all gW=true:=by
 rw[List.all_append,h];simp[wO.2 z]
open Go
set_option maxRecDepth 10000
theorem Wg{T:bf}(F:FT T)(y:Nat):Sound T 229 [dI (y:Nat)] fun r=>r=dB (ra y):=by
 refine eo F.ZJ aa (ak 1 aa (ai (ae 1 aa ?_)))
 refine al (tw rfl rfl rfl (by(try simp only[aZ] at*);omega) ?_)
 refine ae 2 aa (cX (g:=aE) aa (fun A=>?_) (fun A=>?_))
 ·refine ao aa (A) (bM aa ?_)
  refine ao rfl (A) (tw rfl rfl rfl (by(try simp only[aZ] at*);omega) ?_)
  refine ao aa (A) (iu aa aa ?_)
  refine al (cS aa (A) aa ?_)
  refine ae 1 aa (cX (g:=aS) aa (fun z=>?_) (fun z=>?_))
  ·refine aO aa (z) (aO aa (z) (aO aa (z) (al (cS aa (z) aa ?_))))
   refine ae 1 aa (af ?_)
   refine ax ?_
   exact bB rfl rfl ((by refine congrArg (fun b=>VV.d (DC.b b)) ?_;rw[fQ];unfold ra;simp at*;omega))
  refine ao aa (z) (bM aa ?_)
  refine ao rfl (z) (tw rfl rfl rfl (by(try simp only[aZ] at*);omega) ?_)
  refine ao aa (z) (hH aa aa ?_)
  refine al (cI aa (z) aa ?_)
  refine ae 1 aa (af ?_)
  refine ax ?_
  exact bB rfl rfl ((by refine congrArg (fun b=>VV.d (DC.b b)) ?_;rw[fQ];unfold ra;simp at*;omega))
 refine aO aa (A) (aO aa (A) (aO aa (A) (al (cI aa (A) aa ?_))))
 refine ae 1 aa (ao aa aa (bM aa ?_))
 refine ao rfl (rfl) (tw rfl rfl rfl (by(try simp only[aZ] at*);omega) ?_)
 refine ao aa aa (hH aa aa ?_)
 refine ae 2 aa (af ?_)
 refine ax ?_
 exact bB rfl rfl ((by refine congrArg (fun b=>VV.d (DC.b b)) ?_;rw[fQ];unfold ra;simp at*;omega))
theorem Wh{T:bf}(F:FT T)(y:Nat):Sound T 249 [dI (y:Nat)] fun r=>r=dB (ra y):=by
 refine eo F.ZT aa (ak 1 aa (ai (ae 1 aa ?_)))
 refine al (tw rfl rfl rfl (by(try simp only[aZ] at*);omega) ?_)
 refine ae 2 aa (cX (g:=aE) aa (fun A=>?_) (fun A=>?_))
 ·refine ao aa (A) (bM aa ?_)
  refine ao rfl (A) (tw rfl rfl rfl (by(try simp only[aZ] at*);omega) ?_)
  refine ao aa (A) (iu aa aa ?_)
  refine al (cS aa (A) aa ?_)
  refine ae 1 aa (cX (g:=aS) aa (fun z=>?_) (fun z=>?_))
  ·refine aO aa (z) (aO aa (z) (aO aa (z) (al (cS aa (z) aa ?_))))
   refine ae 1 aa (af ?_)
   refine ax ?_
   exact bB rfl rfl ((by refine congrArg (fun b=>VV.d (DC.b b)) ?_;rw[fQ];unfold ra;simp at*;omega))
  refine ao aa (z) (bM aa ?_)
  refine ao rfl (z) (tw rfl rfl rfl (by(try simp only[aZ] at*);omega) ?_)
  refine ao aa (z) (hH aa aa ?_)
  refine al (cI aa (z) aa ?_)
  refine ae 1 aa (af ?_)
  refine ax ?_
  exact bB rfl rfl ((by refine congrArg (fun b=>VV.d (DC.b b)) ?_;rw[fQ];unfold ra;simp at*;omega))
 refine aO aa (A) (aO aa (A) (aO aa (A) (al (cI aa (A) aa ?_))))
 refine ae 1 aa (ao aa aa (bM aa ?_))
 refine ao rfl (rfl) (tw rfl rfl rfl (by(try simp only[aZ] at*);omega) ?_)
 refine ao aa aa (hH aa aa ?_)
 refine ae 2 aa (af ?_)
 refine ax ?_
 exact bB rfl rfl ((by refine congrArg (fun b=>VV.d (DC.b b)) ?_;rw[fQ];unfold ra;simp at*;omega))
set_option maxHeartbeats 1000000 in
theorem OV{T:bf}(F:FT T)(y m:Nat):Sound T 199 [dI (y:Nat),dI (m:Nat)] fun r=>r=dI (kE y m:Nat):=by
 refine eo F.Zv aa (ak 1 aa (aM (ak 1 aa (bN (aM (ak 2 aa (aJ aa (fun A=>?_) (fun A=>?_))))))))
 ·refine aT (e7 aa (A) (ak 1 aa (ax ?_)))
  exact bB rfl rfl (by rw[vZ (by simp only[eP,fq,aZ] at*;omega)];rfl)
 refine ak 2 aa (aJ aa (fun A=>?_) (fun A=>?_))
 ·refine aT (e7 aa (A) (ak 1 aa (ax ?_)))
  exact bB rfl rfl (by rw[vZ (by simp only[eP,fq,aZ] at*;omega)];rfl)
 refine ak 2 aa (aJ aa (fun A=>?_) (fun A=>?_))
 ·refine aT (e7 aa (A) (ak 1 aa (ax ?_)))
  exact bB rfl rfl (by rw[vZ (by simp only[eP,fq,aZ] at*;omega)];rfl)
 refine ak 2 aa (aJ aa (fun A=>?_) (fun A=>?_))
 ·refine aT (e7 aa (A) (ak 1 aa (ax ?_)))
  exact bB rfl rfl (by rw[vZ (by simp only[eP,fq,aZ] at*;omega)];rfl)
 refine ak 2 aa (aJ aa (fun A=>?_) (fun A=>?_))
 ·refine aT (e7 aa (A) (ak 1 aa (ax ?_)))
  exact bB rfl rfl (by rw[vZ (by simp only[eP,fq,aZ] at*;omega)];rfl)
 refine ak 2 aa (aJ aa (fun A=>?_) (fun A=>?_))
 ·refine aT (e7 aa (A) (ak 1 aa (ax ?_)))
  exact bB rfl rfl (by rw[vZ (by simp only[eP,fq,aZ] at*;omega)];rfl)
 refine bG (ae 2 aa (af ?_))
 refine aJ aa (fun A=>?_) (fun A=>?_)
 ·refine ak 1 aa (ax ?_)
  exact bB rfl rfl (by rw[vZ (by simp only[eP,fq,aZ] at*;omega)];rfl)
 refine aM (ak 2 aa (aJ aa (fun z=>?_) (fun z=>?_)))
 ·refine aT (e7 aa (z) (ak 1 aa (ax ?_)))
  exact bB rfl rfl (by rw[Ed (by simp only[eP,fq,aZ] at*;omega)];rfl)
 refine ak 2 aa (aJ aa (fun z=>?_) (fun z=>?_))
 ·refine aT (e7 aa (z) (ak 1 aa (ax ?_)))
  exact bB rfl rfl (by rw[Ed (by simp only[eP,fq,aZ] at*;omega)];rfl)
 refine ak 2 aa (aJ aa (fun z=>?_) (fun z=>?_))
 ·refine aT (e7 aa (z) (ak 1 aa (ax ?_)))
  exact bB rfl rfl (by rw[Ed (by simp only[eP,fq,aZ] at*;omega)];rfl)
 refine bG (ae 2 aa (af ?_))
 refine aJ aa (fun z=>?_) (fun z=>?_)
 ·refine ak 1 aa (ax ?_)
  exact bB rfl rfl (by rw[Ed (by simp only[eP,fq,aZ] at*;omega)];rfl)
 refine ak 2 aa (aJ aa (fun et=>?_) (fun et=>?_))
 ·refine aM (ai (ae 1 aa (al (cO (Wg F y) aa aa ?_))))
  refine af (aJ aa (fun G=>?_) (fun G=>?_))
  ·refine ak 1 aa (ax ?_)
   exact bB rfl rfl (by rw[EO (by simp only[eP,fq,aZ] at*;omega),aq G];rfl)
  refine aT (ak 1 aa (ax ?_))
  exact bB rfl rfl (by rw[EO (by simp only[eP,fq,aZ] at*;omega),aj (by rw[G];decide)];rfl)
 refine aT (ak 1 aa (ax ?_))
 exact bB rfl rfl (by rw[EP (by simp only[eP,fq,aZ] at*;omega)];rfl)
set_option maxHeartbeats 1000000 in
theorem OW{T:bf}(F:FT T)(y m:Nat):Sound T 235 [dI (y:Nat),dI (m:Nat)] fun r=>r=dI (kE y m:Nat):=by
 refine eo F.ZL aa (ak 1 aa (ak 3 aa (aM (ai (ae 3 aa (cX (g:=aK) aa (fun A=>?_) (fun A=>?_)))))))
 ·refine aO aa (A) (aO aa (A) (al (cS aa (A) aa ?_)))
  refine af (e7 aa aa (ak 1 aa (ax ?_)))
  exact bB rfl rfl (by rw[EP (by simp only[eP,fq,aZ] at*;omega)];rfl)
 refine ao aa (A) (bM aa ?_)
 refine ao aa (A) (r8 aa aa ?_)
 refine al (cI aa (A) aa ?_)
 refine af (aJ aa (fun I=>?_) (fun I=>?_))
 ·refine ak 1 aa (ax ?_)
  exact bB rfl rfl (by rw[EP (by simp only[eP,fq,aZ] at*;omega)];rfl)
 refine aT (aM (ai (ae 3 aa (cX (g:=bb) aa (fun z=>?_) (fun z=>?_)))))
 ·refine ao aa (z) (bM aa ?_)
  refine ao aa (z) (cO (Wh F y) aa aa ?_)
  refine al (cS aa (z) aa ?_)
  refine af (aJ aa (fun G=>?_) (fun G=>?_))
  ·refine ak 1 aa (ax ?_)
   exact bB rfl rfl (by rw[EO (by simp only[eP,fq,aZ] at*;omega),aq G];rfl)
  refine aT (ai ?_)
  have K:1≤m∧m≤12:=by simp only[eP,fq,aZ] at*;omega
  obtain⟨J,hk⟩:m<13∧[VV.d (.i .i64 0),.d (.i .i64 31),.d (.i .i64 28),.d (.i .i64 31),.d (.i .i64 30),.d (.i .i64 31),.d (.i .i64 30),.d (.i .i64 31),.d (.i .i64 31),.d (.i .i64 30),.d (.i .i64 31),.d (.i .i64 30),.d (.i .i64 31)][0+m*1]?=some (.d (.i .i64 (kE y m:Nat))):=by
   refine⟨by omega,?_⟩
   rcases(by omega:m=1∨m=2∨m=3∨m=4∨m=5∨m=6∨m=7∨m=8∨m=9∨m=10∨m=11∨m=12) with rfl|rfl|rfl|rfl|rfl|rfl|rfl|rfl|rfl|rfl|rfl|rfl
   any_goals rfl
   rw[EO rfl,aj (by rw[G];decide)];rfl
  refine ae 1 aa (al (oi aa aa J ?_))
  refine al (cW aa aa hk ?_)
  refine ae 1 aa (af ?_)
  exact ax (bB aa aa aa)
 refine aO aa (z) (aO aa (z) (al (cI aa (z) aa ?_)))
 refine af (eI aa aa (aT (ai ?_)))
 have K:1≤m∧m≤12:=by simp only[eP,fq,aZ] at*;omega
 obtain⟨J,hk⟩:m<13∧[VV.d (.i .i64 0),.d (.i .i64 31),.d (.i .i64 28),.d (.i .i64 31),.d (.i .i64 30),.d (.i .i64 31),.d (.i .i64 30),.d (.i .i64 31),.d (.i .i64 31),.d (.i .i64 30),.d (.i .i64 31),.d (.i .i64 30),.d (.i .i64 31)][0+m*1]?=some (.d (.i .i64 (kE y m:Nat))):=by
  refine⟨by omega,?_⟩
  rcases(by omega:m=1∨m=2∨m=3∨m=4∨m=5∨m=6∨m=7∨m=8∨m=9∨m=10∨m=11∨m=12) with rfl|rfl|rfl|rfl|rfl|rfl|rfl|rfl|rfl|rfl|rfl|rfl
  any_goals rfl
  rw[show decide (((2:Nat):Int)=Int.ofNat 2)=true from rfl] at z;cases z
 refine ae 1 aa (al (oi aa aa J ?_))
 refine al (cW aa aa hk ?_)
 refine ae 1 aa (af ?_)
 exact ax (bB aa aa aa)
theorem Wi{T:bf}(F:FT T){y:Nat}(z:1600≤y)(h2:y≤9999):Sound T 198 [dI (y:Nat)] fun r=>r=dI (p' y):=by
 refine eo F.Zu aa (ak 1 aa (ai (ae 1 aa ?_)))
 refine al (gi rfl rfl (by(try simp only[aZ] at*);omega) (by(try simp only[aZ] at*);omega) ?_)
 refine ae 1 aa (af ?_)
 refine ai (ae 1 aa ?_)
 refine al (tv rfl rfl (by(try simp only[aZ] at*);omega) (by(try simp only[aZ] at*);omega) ?_)
 refine ae 1 aa ?_
 refine al (jL rfl rfl (by(try simp only[aZ] at*);omega) (by(try simp only[aZ] at*);omega) ?_)
 refine al (xd rfl rfl rfl (by(try simp only[aZ] at*);omega) (by decide) (by(try simp only[aZ] at*);omega) ?_)
 refine al (jL rfl rfl (by(try simp only[aZ] at*);omega) (by(try simp only[aZ] at*);omega) ?_)
 refine ae 1 aa ?_
 refine al (jL rfl rfl (by(try simp only[aZ] at*);omega) (by(try simp only[aZ] at*);omega) ?_)
 refine al (xd rfl rfl rfl (by(try simp only[aZ] at*);omega) (by decide) (by(try simp only[aZ] at*);omega) ?_)
 refine al (gi rfl rfl (by(try simp only[aZ] at*);omega) (by(try simp only[aZ] at*);omega) ?_)
 refine ae 1 aa ?_
 refine al (jL rfl rfl (by(try simp only[aZ] at*);omega) (by(try simp only[aZ] at*);omega) ?_)
 refine al (xd rfl rfl rfl (by(try simp only[aZ] at*);omega) (by decide) (by(try simp only[aZ] at*);omega) ?_)
 refine al (jL rfl rfl (by(try simp only[aZ] at*);omega) (by(try simp only[aZ] at*);omega) ?_)
 refine ae 1 aa (af ?_)
 exact ax (bB aa aa aa)
theorem Wj{T:bf}(F:FT T){y:Nat}(z:1600≤y)(h2:y≤9999):Sound T 236 [dI (y:Nat)] fun r=>r=dI (p' y):=by
 refine eo F.ZM aa (ak 1 aa (ai (ae 1 aa ?_)))
 refine al (gi rfl rfl (by(try simp only[aZ] at*);omega) (by(try simp only[aZ] at*);omega) ?_)
 refine ae 1 aa (af ?_)
 refine ai (ae 1 aa ?_)
 refine al (tv rfl rfl (by(try simp only[aZ] at*);omega) (by(try simp only[aZ] at*);omega) ?_)
 refine ae 1 aa ?_
 refine al (jL rfl rfl (by(try simp only[aZ] at*);omega) (by(try simp only[aZ] at*);omega) ?_)
 refine al (xd rfl rfl rfl (by(try simp only[aZ] at*);omega) (by decide) (by(try simp only[aZ] at*);omega) ?_)
 refine al (jL rfl rfl (by(try simp only[aZ] at*);omega) (by(try simp only[aZ] at*);omega) ?_)
 refine ae 1 aa ?_
 refine al (jL rfl rfl (by(try simp only[aZ] at*);omega) (by(try simp only[aZ] at*);omega) ?_)
 refine al (xd rfl rfl rfl (by(try simp only[aZ] at*);omega) (by decide) (by(try simp only[aZ] at*);omega) ?_)
 refine al (gi rfl rfl (by(try simp only[aZ] at*);omega) (by(try simp only[aZ] at*);omega) ?_)
 refine ae 1 aa ?_
 refine al (jL rfl rfl (by(try simp only[aZ] at*);omega) (by(try simp only[aZ] at*);omega) ?_)
 refine al (xd rfl rfl rfl (by(try simp only[aZ] at*);omega) (by decide) (by(try simp only[aZ] at*);omega) ?_)
 refine al (jL rfl rfl (by(try simp only[aZ] at*);omega) (by(try simp only[aZ] at*);omega) ?_)
 refine ae 1 aa (af ?_)
 exact ax (bB aa aa aa)
open Go
set_option maxRecDepth 10000
theorem H4{T:bf}(F:FT T){s:List UInt8}(hl:s.length≤9):Sound T 216 [dS s] fun r=>r=ER s:=by
 refine eo F.ZH aa (ak 2 aa (ak 1 aa (aM (ak 3 aa (bN (d7 (fun k VE B=>∃i,i≤s.length∧k=s.length-i∧(s.take i).all gW=true∧bu [(0,dS s),(2,d0),(3,dB false),(4,dI (dV (s.take i):Nat)),(7,dI (s.length:Nat)),(8,dI (i:Nat))] VE∧bu [] B) ?_ (k:=s.length) ⟨0,dh _,aa,aa,⟨aa,aa,aa,aa,aa,aa,trivial⟩,trivial⟩))))))
 rintro k VE B⟨i,hi,rfl,O,hV,hB⟩
 refine dy _ _ hV hB (ak 1 aa (aM (aJ aa (fun U=>?_) (fun U=>?_))))
 ·have Y:i<s.length:=by simp at U;omega
  obtain⟨c,G⟩:=jH Y
  have Z:=take_succ G
  have hv:=Lj O (n:=9) (by rw[ng];omega)
  have aac:=c.toNat_lt
  have I:=QL (s.take i) c
  rw[←Z] at I
  refine aT (aM (bN (ak 2 aa (aM (ai (ae 2 aa (al (fH aa aa G ?_))))))))
  refine ae 2 aa (cX (g:=bb) aa (fun z=>?_) (fun z=>?_))
  ·have J:=L4 G (by simp at z;omega)
   refine aO aa (z) (aO aa (z) (aO aa (z) (aO aa (z) (al (cS aa (z) aa ?_)))))
   refine af (e7 aa aa (ak 2 aa (ax ?_)))
   exact bB rfl rfl (by unfold ER;rw[J];rfl)
  refine ao aa (z) (bM aa ?_)
  refine ao aa (z) (bM aa ?_)
  refine ao aa (z) (fH aa aa G ?_)
  refine ao aa (z) (r8 aa aa ?_)
  refine al (cI aa (z) aa ?_)
  refine af (aJ aa (fun A=>?_) (fun A=>?_))
  ·have J:=L4 G (by simp at A;omega)
   refine ak 2 aa (ax ?_)
   exact bB rfl rfl (by unfold ER;rw[J];rfl)
  have K:48≤c.toNat∧c.toNat≤57:=by simp at z A;omega
  refine aT (bG (ae 1 aa ?_))
  refine al (tv rfl rfl (by(try simp only[aZ] at*);omega) (by(try simp only[aZ] at*);omega) ?_)
  refine ae 2 aa (al (fH aa aa G ?_))
  refine al (MG aa aa K.1 ?_)
  refine al (Li rfl (by omega) ?_)
  refine al (jL rfl rfl (by(try simp only[aZ] at*);omega) (by(try simp only[aZ] at*);omega) ?_)
  rw[show(Int.ofNat 10*((dV (s.take i):Nat):Int)+((c.toNat-48:Nat):Int))=((dV (s.take (i+1)):Nat):Int) by rw[I];simp only[aZ];omega]
  refine ae 1 aa (af ?_)
  refine bG ?_
  refine al (cV rfl rfl (by omega) ?_)
  refine ae 1 aa (af ?_)
  exact⟨s.length-(i+1),by omega,i+1,by omega,rfl,by rw[Z];exact S' O K,⟨rfl,rfl,rfl,rfl,rfl,rfl,trivial⟩,trivial⟩
 have he:i=s.length:=by simp at U;omega
 have J:gH s=(dV (s.take i),true):=by rw[he,G0] at O⊢;exact aq O
 refine dM (ak 3 aa (ax ?_))
 exact bB rfl rfl (by unfold ER;rw[J];rfl)
set_option maxHeartbeats 1000000 in
theorem Wk{T:bf}(F:FT T){y m d:Nat}(h1:y≤9999)(h2:m≤99)(h3:d≤99):Sound T 217 [dI (y:Nat),dI (m:Nat),dI (d:Nat)] fun r=>r=N8 (jz y m d):=by
 refine eo F.ZI aa (ak 2 aa (aM (ai (ae 3 aa (cX (g:=aR) aa (fun A=>?_) (fun A=>?_))))))
 ·refine aO aa (A) (aO aa (A) (al (cS aa (A) aa ?_)))
  refine ae 1 aa (aO aa aa (aO aa aa (ae 2 aa (aO aa aa (aO aa aa (aO aa aa (aO aa aa (aO aa aa (ae 1 aa (af ?_))))))))))
  refine e7 aa aa (ak 2 aa (ax ?_))
  exact bB rfl rfl (by unfold jz;rw[aq (by simp only[eP,fq,aZ] at*;omega)];rfl)
 refine ao aa (A) (bM aa ?_)
 refine ao aa (A) (r8 aa aa ?_)
 refine al (cI aa (A) aa ?_)
 refine ae 1 aa (cX (g:=bg) aa (fun G=>?_) (fun G=>?_))
 ·refine aO aa (G) (aO aa (G) (al (cS aa (G) aa ?_)))
  refine ae 1 aa (aO aa aa (aO aa aa (aO aa aa (aO aa aa (aO aa aa (ae 1 aa (af ?_)))))))
  refine e7 aa aa (ak 2 aa (ax ?_))
  exact bB rfl rfl (by unfold jz;rw[aq (by simp only[eP,fq,aZ] at*;omega)];rfl)
 refine ao aa (G) (bM aa ?_)
 refine ao aa (G) (GO aa aa ?_)
 refine al (cI aa (G) aa ?_)
 refine ae 1 aa (cX (g:=bn) aa (fun z=>?_) (fun z=>?_))
 ·refine aO aa (z) (aO aa (z) (aO aa (z) (aO aa (z) (aO aa (z) (al (cS aa (z) aa ?_))))))
  refine af (e7 aa aa (ak 2 aa (ax ?_)))
  exact bB rfl rfl (by unfold jz;rw[aq (by simp only[eP,fq,aZ] at*;omega)];rfl)
 refine ao aa (z) (bM aa ?_)
 refine ao aa (z) (bM aa ?_)
 refine ao aa (z) (bM aa ?_)
 refine ao aa (z) (cO (OV F y m) aa aa ?_)
 refine ao aa (z) (r8 aa aa ?_)
 refine al (cI aa (z) aa ?_)
 refine af (aJ aa (fun K=>?_) (fun K=>?_))
 ·refine ak 2 aa (ax ?_)
  exact bB rfl rfl (by unfold jz;rw[aq (by simp only[eP,fq,aZ] at*;omega)];rfl)
 have J:0<kE y m:=by simp only[eP,fq,aZ] at*;omega
 have hmb:=N6 J
 have hyb:=N7 (y:=y) (by simp only[eP,fq,aZ] at*;omega) (by omega)
 refine aT (ai (ae 1 aa ?_))
 refine al (cO (Wi F (by simp only[eP,fq,aZ] at*;omega) (by omega)) rfl rfl ?_)
 refine ae 1 aa ?_
 refine al (jL rfl rfl (by(try simp only[aZ] at*);omega) (by(try simp only[aZ] at*);omega) ?_)
 refine al (gi rfl rfl (by(try simp only[aZ] at*);omega) (by(try simp only[aZ] at*);omega) ?_)
 refine ae 1 aa (af ?_)
 refine aM (ak 1 aa (bN ?_))
 refine d7 (fun k VE B=>∃(j:Nat)(v:Int),j+1≤m∧k=m-j∧v=p' y+(d:Nat) -Int.ofNat 1+(pZ y j:Nat)∧bu [(0,dI (y:Nat)),(1,dI (m:Nat)),(2,dI (d:Nat)),(6,d0),(7,dB false),(8,dI v),(9,dI ((j+1:Nat):Int))] VE∧bu [] B) ?_ (k:=m) ⟨0,_,by omega,rfl,by unfold pZ;exact(Int.add_zero _).symm,⟨rfl,rfl,rfl,rfl,rfl,rfl,rfl,trivial⟩,trivial⟩
 rintro k VE B⟨j,v,hj0,rfl,hv,hV,hB⟩
 refine dy _ _ hV hB (aM (ak 3 aa (aJ aa (fun I=>?_) (fun I=>?_))))
 ·have hj:j+1<m:=by simp at I;omega
  have hdj:=GS y (j+1)
  have O:=zE y j
  refine aT (aM (bN (bG (ae 3 aa (al (cO (OV F y (j+1)) aa aa ?_))))))
  refine al (jL rfl rfl (by(try simp only[aZ] at*);omega) (by(try simp only[aZ] at*);omega) ?_)
  rw[show v+((kE y (j+1):Nat):Int)=_ from rfl]
  refine ae 1 aa (af ?_)
  refine bG (ae 1 aa ?_)
  refine al (cV rfl rfl (by omega) ?_)
  refine ae 1 aa (af ?_)
  exact⟨m-(j+1),by omega,j+1,_,by omega,rfl,by rw[hv];show _=_+((pZ y j+kE y (j+1):Nat):Int);omega,⟨rfl,rfl,rfl,rfl,rfl,rfl,rfl,trivial⟩,trivial⟩
 have hj:j+1=m:=by simp at I;omega
 have O:=zE y j
 have U:m-1=j:=by omega
 have Y:sC y m d=p' y+(d:Nat) -Int.ofNat 1+(pZ y j:Nat):=by unfold sC;rw[U]
 refine dM (aM (ak 2 aa (aJ aa (fun Z=>?_) (fun Z=>?_))))
 ·refine ak 2 aa (ax ?_)
  exact bB rfl rfl (by unfold jz;rw[aj (by simp only[eP,fq,aZ] at*;omega),aq (by simp only[eP,fq,aZ] at*;omega)];rfl)
 refine aT (ak 3 aa (ax ?_))
 exact bB rfl rfl (by unfold jz;rw[aj (by simp only[eP,fq,aZ] at*;omega),aj (by simp only[eP,fq,aZ] at*;omega),show sC y m d=v by rw[Y];exact hv.symm];rfl)
set_option maxHeartbeats 1000000 in
theorem Wl{T:bf}(F:FT T){y m d:Nat}(h1:y≤9999)(h2:m≤99)(h3:d≤99):Sound T 208 [dI (y:Nat),dI (m:Nat),dI (d:Nat)] fun r=>r=N8 (jz y m d):=by
 refine eo F.ZA aa (ak 2 aa (aM (ai (ae 3 aa (cX (g:=aR) aa (fun A=>?_) (fun A=>?_))))))
 ·refine aO aa (A) (aO aa (A) (al (cS aa (A) aa ?_)))
  refine ae 1 aa (aO aa aa (aO aa aa (ae 2 aa (aO aa aa (aO aa aa (aO aa aa (aO aa aa (aO aa aa (ae 1 aa (af ?_))))))))))
  refine e7 aa aa (ak 2 aa (ax ?_))
  exact bB rfl rfl (by unfold jz;rw[aq (by simp only[eP,fq,aZ] at*;omega)];rfl)
 refine ao aa (A) (bM aa ?_)
 refine ao aa (A) (r8 aa aa ?_)
 refine al (cI aa (A) aa ?_)
 refine ae 1 aa (cX (g:=bg) aa (fun G=>?_) (fun G=>?_))
 ·refine aO aa (G) (aO aa (G) (al (cS aa (G) aa ?_)))
  refine ae 1 aa (aO aa aa (aO aa aa (aO aa aa (aO aa aa (aO aa aa (ae 1 aa (af ?_)))))))
  refine e7 aa aa (ak 2 aa (ax ?_))
  exact bB rfl rfl (by unfold jz;rw[aq (by simp only[eP,fq,aZ] at*;omega)];rfl)
 refine ao aa (G) (bM aa ?_)
 refine ao aa (G) (GO aa aa ?_)
 refine al (cI aa (G) aa ?_)
 refine ae 1 aa (cX (g:=bn) aa (fun z=>?_) (fun z=>?_))
 ·refine aO aa (z) (aO aa (z) (aO aa (z) (aO aa (z) (aO aa (z) (al (cS aa (z) aa ?_))))))
  refine af (e7 aa aa (ak 2 aa (ax ?_)))
  exact bB rfl rfl (by unfold jz;rw[aq (by simp only[eP,fq,aZ] at*;omega)];rfl)
 refine ao aa (z) (bM aa ?_)
 refine ao aa (z) (bM aa ?_)
 refine ao aa (z) (bM aa ?_)
 refine ao aa (z) (cO (OW F y m) aa aa ?_)
 refine ao aa (z) (r8 aa aa ?_)
 refine al (cI aa (z) aa ?_)
 refine af (aJ aa (fun K=>?_) (fun K=>?_))
 ·refine ak 2 aa (ax ?_)
  exact bB rfl rfl (by unfold jz;rw[aq (by simp only[eP,fq,aZ] at*;omega)];rfl)
 have J:0<kE y m:=by simp only[eP,fq,aZ] at*;omega
 have hmb:=N6 J
 have hyb:=N7 (y:=y) (by simp only[eP,fq,aZ] at*;omega) (by omega)
 refine aT (ai (ae 1 aa ?_))
 refine al (cO (Wj F (by simp only[eP,fq,aZ] at*;omega) (by omega)) rfl rfl ?_)
 refine ae 1 aa (af ?_)
 refine aM (ak 1 aa (bN ?_))
 refine d7 (fun k VE B=>∃(j:Nat)(v:Int),j+1≤m∧k=m-j∧v=p' y+(pZ y j:Nat)∧bu [(0,dI (y:Nat)),(1,dI (m:Nat)),(2,dI (d:Nat)),(6,d0),(7,dB false),(8,dI v),(9,dI ((j+1:Nat):Int))] VE∧bu [] B) ?_ (k:=m) ⟨0,_,by omega,rfl,by unfold pZ;exact(Int.add_zero _).symm,⟨rfl,rfl,rfl,rfl,rfl,rfl,rfl,trivial⟩,trivial⟩
 rintro k VE B⟨j,v,hj0,rfl,hv,hV,hB⟩
 refine dy _ _ hV hB (aM (ak 3 aa (aJ aa (fun I=>?_) (fun I=>?_))))
 ·have hj:j+1<m:=by simp at I;omega
  have hdj:=GS y (j+1)
  have O:=zE y j
  refine aT (aM (bN (bG (ae 3 aa (al (cO (OW F y (j+1)) aa aa ?_))))))
  refine al (jL rfl rfl (by(try simp only[aZ] at*);omega) (by(try simp only[aZ] at*);omega) ?_)
  rw[show v+((kE y (j+1):Nat):Int)=_ from rfl]
  refine ae 1 aa (af ?_)
  refine bG (ae 1 aa ?_)
  refine al (cV rfl rfl (by omega) ?_)
  refine ae 1 aa (af ?_)
  exact⟨m-(j+1),by omega,j+1,_,by omega,rfl,by rw[hv];show _=_+((pZ y j+kE y (j+1):Nat):Int);omega,⟨rfl,rfl,rfl,rfl,rfl,rfl,rfl,trivial⟩,trivial⟩
 have hj:j+1=m:=by simp at I;omega
 have O:=zE y j
 have U:m-1=j:=by omega
 have Y:sC y m d=p' y+(d:Nat) -Int.ofNat 1+(pZ y j:Nat):=by unfold sC;rw[U]
 refine dM (ai (ae 2 aa ?_))
 refine al (jL rfl rfl (by(try simp only[aZ] at*);omega) (by(try simp only[aZ] at*);omega) ?_)
 refine al (gi rfl rfl (by(try simp only[aZ] at*);omega) (by(try simp only[aZ] at*);omega) ?_)
 refine ae 1 aa (af ?_)
 refine aM (ak 2 aa (aJ aa (fun Z=>?_) (fun Z=>?_)))
 ·refine ak 2 aa (ax ?_)
  exact bB rfl rfl (by
   by_cases hy:4400<y
   ·unfold jz;rw[aq (by omega)];rfl
   unfold jz;rw[aj (by simp only[eP,fq,aZ] at*;omega),aq (by simp only[eP,fq,aZ] at*;omega)];rfl)
 refine aT (ak 3 aa (ax ?_))
 have hy:¬4400<y:=fun k=>by
  have:=Uj k
  simp only[eP,fq,aZ] at*;omega
 exact bB rfl rfl (by unfold jz;rw[aj (by simp only[eP,fq,aZ] at*;omega),aj (by simp only[eP,fq,aZ] at*;omega),show sC y m d=v+(d:Nat) -Int.ofNat 1 by rw[Y,hv];omega];rfl)
open Go
variable{s:List UInt8}
theorem xf{n:Nat}(h:s.length≤n):(gH s).1<10^n:=by
 unfold gH
 split
 ·rename_i z;exact Lj z h
 exact Nat.pow_pos (by decide)
def dg(s:List UInt8)(j:Nat):Nat:=((s[j]?).getD 0).toNat-48
def AY(s:List UInt8)(i:Nat):List VV:=[0,1,2,3,4,5,6,7,8,9].map fun j=>dI ((if j<i∧j≠4∧j≠7 then dg s j else 0:Nat):Int)
theorem Ta{i:Nat}(h:i<10)(z:i≠4)(A:i≠7):EH (AY s i) (0+i*1) [VV.d (.i .i64 (dg s i:Nat))]=AY s (i+1):=by
 rcases(by omega:i=0∨i=1∨i=2∨i=3∨i=5∨i=6∨i=8∨i=9) with rfl|rfl|rfl|rfl|rfl|rfl|rfl|rfl<;>rfl
theorem Kz{i:Nat}(h:i=4∨i=7):AY s i=AY s (i+1):=by
 rcases h with rfl|rfl<;>rfl
def PQ(s:List UInt8)(i:Nat):Prop:=∀j,j<i→j=4∨j=7∨gW ((s[j]?).getD 0)=true
theorem PR(h:s.length=10):∃a b c d e f g i j k,s=[a,b,c,d,e,f,g,i,j,k]:=by
 match s,h with
 |[a,b,c,d,e,f,g,i,j,k],_=>exact⟨a,b,c,d,e,f,g,i,j,k,rfl⟩
theorem Ul(h:s.length=10)(Y:PQ s 10):gH (s.take 4)=(1000*dg s 0+100*dg s 1+10*dg s 2+dg s 3,true)∧gH ((s.drop 5).take 2)=(10*dg s 5+dg s 6,true)∧gH (s.drop 8)=(10*dg s 8+dg s 9,true):=by
 have k:=fun j(Z:j<10)(h4:j≠4)(h7:j≠7)=>(Y j Z).resolve_left h4|>.resolve_left h7
 have z:=k 0 (by decide) (by decide) (by decide);have A:=k 1 (by decide) (by decide) (by decide);have G:=k 2 (by decide) (by decide) (by decide);have I:=k 3 (by decide) (by decide) (by decide)
 have J:=k 5 (by decide) (by decide) (by decide);have K:=k 6 (by decide) (by decide) (by decide);have O:=k 8 (by decide) (by decide) (by decide);have U:=k 9 (by decide) (by decide) (by decide)
 obtain⟨a,b,c,d,e,f,g,i,j,l,rfl⟩:=PR h
 simp at z A G I J K O U
 unfold gH dg
 simp[z,A,G,I,J,K,O,U,dV]
 omega
theorem MH(h:s.length=10){i:Nat}{c:UInt8}(hi:i<10)(I:i≠4)(J:i≠7)(G:s[i]?=some c)(A:¬(48≤c.toNat∧c.toNat≤57)):¬((gH (s.take 4)).2=true∧(gH ((s.drop 5).take 2)).2=true∧(gH (s.drop 8)).2=true):=by
 have A:gW c=false:=by simpa using fun k=>A (wO.1 k)
 obtain⟨a,b,K,d,e,f,g,O,j,l,rfl⟩:=PR h
 have z:∀x:List UInt8,(gH x).2=x.all gW:=fun x=>by unfold gH;split<;>simp_all
 rw[z,z,z]
 rcases(by omega:i=0∨i=1∨i=2∨i=3∨i=5∨i=6∨i=8∨i=9) with rfl|rfl|rfl|rfl|rfl|rfl|rfl|rfl<;>simp at G<;>subst G<;>simp[A]
theorem toNat_45{c:UInt8}(h:((c.toNat:Nat):Int)=Int.ofNat 45):c=45:=by
 have h2:c.toNat=45:=by simp only[aZ] at h;omega
 exact UInt8.toNat_inj.1 (h2.trans aa)
theorem xA(h:¬s=tn)(h2:¬(s.length=10∧s[4]?=some 45∧s[7]?=some 45)):fc s=(0,5):=by unfold fc;rw[aj h,aq h2]
theorem zW(h:¬s=tn)(h2:s.length=10∧s[4]?=some 45∧s[7]?=some 45)(z:¬((gH (s.take 4)).2=true∧(gH ((s.drop 5).take 2)).2=true∧(gH (s.drop 8)).2=true)):fc s=(0,5):=by unfold fc;rw[aj h,aj (fun k=>k h2),aq z]
theorem MI(h:¬s=tn)(h2:s.length=10∧s[4]?=some 45∧s[7]?=some 45)(z:(gH (s.take 4)).2=true∧(gH ((s.drop 5).take 2)).2=true∧(gH (s.drop 8)).2=true):fc s=H3 (jz (gH (s.take 4)).1 (gH ((s.drop 5).take 2)).1 (gH (s.drop 8)).1):=by unfold fc;rw[aj h,aj (fun k=>k h2),aj (fun k=>k z)]
open Go
set_option maxRecDepth 10000
set_option maxHeartbeats 1000000 in
theorem H5{T:bf}(F:FT T)(s:List UInt8):Sound T 187 [dS s] fun r=>r=lK (fc s):=by
 refine eo F.Zq aa (ak 2 aa (aM (ai (ae 1 aa (al (oj (b:=tn) aa aa ?_))))))
 refine af (aJ aa (fun bI=>?_) (fun bI=>?_))
 ·refine ak 2 aa (ax ?_)
  exact bB rfl rfl (by unfold lK fc;rw[aq (by simpa using bI)];rfl)
 have K:¬s=tn:=by simpa using bI
 refine aT (aM (ai (ae 4 aa (cX (g:=bl) aa (fun z=>?_) (fun z=>?_)))))
 ·have J:=xA K (fun k=>by simp at z;omega)
  refine aO aa (z) (aO aa (z) (aO aa (z) (al (cS aa (z) aa ?_))))
  refine ae 1 aa (aO aa aa (aO aa aa (aO aa aa (ae 1 aa (af ?_)))))
  refine e7 aa aa (ak 2 aa (ax ?_))
  exact bB rfl rfl (by unfold lK;rw[J];rfl)
 have hl:s.length=10:=by simp at z;omega
 obtain⟨c4,h4⟩:=jH (s:=s) (i:=4) (by omega)
 obtain⟨c7,h7⟩:=jH (s:=s) (i:=7) (by omega)
 refine ao aa (z) (bM aa ?_)
 refine ao aa (z) (fH aa aa h4 ?_)
 refine ao aa (z) (iu aa aa ?_)
 refine al (cI aa (z) aa ?_)
 refine ae 1 aa (cX (g:=bK) aa (fun A=>?_) (fun A=>?_))
 ·have J:=xA K (fun k=>by have h:=vO (h4.symm.trans k.2.1);subst h;simp at A)
  refine aO aa (A) (aO aa (A) (aO aa (A) (al (cS aa (A) aa ?_))))
  refine af (e7 aa aa (ak 2 aa (ax ?_)))
  exact bB rfl rfl (by unfold lK;rw[J];rfl)
 refine ao aa (A) (bM aa ?_)
 refine ao aa (A) (fH aa aa h7 ?_)
 refine ao aa (A) (iu aa aa ?_)
 refine al (cI aa (A) aa ?_)
 refine af (aJ aa (fun O=>?_) (fun O=>?_))
 ·have J:=xA K (fun k=>by have h:=vO (h7.symm.trans k.2.2);subst h;simp at O)
  refine ak 2 aa (ax ?_)
  exact bB rfl rfl (by unfold lK;rw[J];rfl)
 obtain rfl:c4=45:=toNat_45 (by simpa using A)
 obtain rfl:c7=45:=toNat_45 (by simpa using O)
 have Z:s.length=10∧s[4]?=some 45∧s[7]?=some 45:=⟨hl,h4,h7⟩
 refine aT (ai (ae 1 aa ?_))
 refine al (j0 (l:=0) (h:=4) rfl ⟨_,rfl⟩ rfl (by omega) (by omega) ?_)
 rw[show(s.drop 0).take (4-0)=s.take 4 from rfl]
 refine al (cO (H4 F (by rw[ng];omega)) rfl rfl ?_)
 refine ae 5 aa (af ?_)
 refine ai (ae 1 aa ?_)
 refine al (j0 (l:=5) (h:=7) rfl ⟨_,rfl⟩ ⟨_,rfl⟩ (by omega) (by omega) ?_)
 rw[show(s.drop 5).take (7-5)=(s.drop 5).take 2 from rfl]
 refine al (cO (H4 F (by rw[ng];omega)) rfl rfl ?_)
 refine ae 5 aa (af ?_)
 refine ai (ae 1 aa ?_)
 refine al (j0 (l:=8) (h:=s.length) rfl rfl ⟨_,rfl⟩ (by omega) (by omega) ?_)
 rw[show(s.drop 8).take (s.length-8)=s.drop 8 from qq (by rw[iL];omega)]
 refine al (cO (H4 F (by rw[iL];omega)) rfl rfl ?_)
 refine ae 5 aa (af ?_)
 refine aM (ai (ae 3 aa (cX (g:=en) aa (fun G=>?_) (fun G=>?_))))
 ·have J:=zW K Z (fun k=>by simp[k.1] at G)
  refine aO aa (G) (aO aa (G) (al (cS aa (G) aa ?_)))
  refine ae 1 aa (aO aa aa (aO aa aa (ae 1 aa (af ?_))))
  refine e7 aa aa (ak 2 aa (ax ?_))
  exact bB rfl rfl (by unfold lK;rw[J];rfl)
 refine ao aa (G) (bM aa ?_)
 refine ao aa (G) (jv aa ?_)
 refine al (cI aa (G) aa ?_)
 refine ae 1 aa (cX (g:=eg) aa (fun I=>?_) (fun I=>?_))
 ·have J:=zW K Z (fun k=>by simp[k.2.1] at I)
  refine aO aa (I) (aO aa (I) (al (cS aa (I) aa ?_)))
  refine af (e7 aa aa (ak 2 aa (ax ?_)))
  exact bB rfl rfl (by unfold lK;rw[J];rfl)
 refine ao aa (I) (bM aa ?_)
 refine ao aa (I) (jv aa ?_)
 refine al (cI aa (I) aa ?_)
 refine af (aJ aa (fun U=>?_) (fun U=>?_))
 ·have J:=zW K Z (fun k=>by simp[k.2.2] at U)
  refine ak 2 aa (ax ?_)
  exact bB rfl rfl (by unfold lK;rw[J];rfl)
 have J:=MI K Z ⟨by simpa using G,by simpa using I,by simpa using U⟩
 refine aT (ai (ae 3 aa ?_))
 refine al (cO (Wk F (vM (xf (n:=4) (by rw[ng];omega))) (vM (xf (n:=2) (by rw[ng];omega))) (vM (xf (n:=2) (by rw[iL];omega)))) rfl rfl ?_)
 refine ae 5 aa (af ?_)
 refine aM (ak 2 aa (aJ aa (fun Y=>?_) (fun Y=>?_)))
 ·have ho:jz (gH (s.take 4)).1 (gH ((s.drop 5).take 2)).1 (gH (s.drop 8)).1=none:=by simpa using Y
  rw[ho] at J
  refine ak 2 aa (ax ?_)
  exact bB rfl rfl (by unfold lK;rw[J];rfl)
 obtain⟨n,ho⟩:∃n,jz (gH (s.take 4)).1 (gH ((s.drop 5).take 2)).1 (gH (s.drop 8)).1=some n:=by cases hc:jz (gH (s.take 4)).1 (gH ((s.drop 5).take 2)).1 (gH (s.drop 8)).1<;>simp[hc] at Y;exact⟨_,rfl⟩
 rw[ho] at J
 refine aT (ak 3 aa (ax ?_))
 exact bB rfl rfl (by unfold lK;rw[J,ho];rfl)
set_option maxHeartbeats 2000000 in
theorem Hu{T:bf}(F:FT T)(s:List UInt8):Sound T 173 [dS s] fun r=>r=lK (fc s):=by
 refine eo F.Ze aa (ak 2 aa (aM (ai (ae 1 aa (al (oj (b:=tn) aa aa ?_))))))
 refine af (aJ aa (fun h9=>?_) (fun h9=>?_))
 ·refine ak 2 aa (ax ?_)
  exact bB rfl rfl (by unfold lK fc;rw[aq (by simpa using h9)];rfl)
 have hf:¬s=tn:=by simpa using h9
 refine aT (aM (ai (ae 4 aa (cX (g:=aV) aa (fun bI=>?_) (fun bI=>?_)))))
 ·have J:=xA hf (fun k=>by simp at bI;omega)
  refine aO aa (bI) (aO aa (bI) (aO aa (bI) (al (cS aa (bI) aa ?_))))
  refine ae 1 aa (aO aa aa (aO aa aa (aO aa aa (ae 1 aa (af ?_)))))
  refine e7 aa aa (ak 2 aa (ax ?_))
  exact bB rfl rfl (by unfold lK;rw[J];rfl)
 have hl:s.length=10:=by simp at bI;omega
 obtain⟨c4,h4⟩:=jH (s:=s) (i:=4) (by omega)
 obtain⟨c7,h7⟩:=jH (s:=s) (i:=7) (by omega)
 refine ao aa (bI) (bM aa ?_)
 refine ao aa (bI) (fH aa aa h4 ?_)
 refine ao aa (bI) (iu aa aa ?_)
 refine al (cI aa (bI) aa ?_)
 refine ae 1 aa (cX (g:=bj) aa (fun A=>?_) (fun A=>?_))
 ·have J:=xA hf (fun k=>by have h:=vO (h4.symm.trans k.2.1);subst h;simp at A)
  refine aO aa (A) (aO aa (A) (aO aa (A) (al (cS aa (A) aa ?_))))
  refine af (e7 aa aa (ak 2 aa (ax ?_)))
  exact bB rfl rfl (by unfold lK;rw[J];rfl)
 refine ao aa (A) (bM aa ?_)
 refine ao aa (A) (fH aa aa h7 ?_)
 refine ao aa (A) (iu aa aa ?_)
 refine al (cI aa (A) aa ?_)
 refine af (aJ aa (fun U=>?_) (fun U=>?_))
 ·have J:=xA hf (fun k=>by have h:=vO (h7.symm.trans k.2.2);subst h;simp at U)
  refine ak 2 aa (ax ?_)
  exact bB rfl rfl (by unfold lK;rw[J];rfl)
 obtain rfl:c4=45:=toNat_45 (by simpa using A)
 obtain rfl:c7=45:=toNat_45 (by simpa using U)
 have hs:s.length=10∧s[4]?=some 45∧s[7]?=some 45:=⟨hl,h4,h7⟩
 refine aT (ak 1 aa (aM (ak 1 aa (bN ?_))))
 refine d7 (fun k VE B=>∃i,i≤10∧k=10-i∧PQ s i∧bu [(0,dS s),(2,d0),(3,d0),(4,.vp 4 0),(5,dI (i:Nat))] VE∧bu [(4,.one 220 80 (AY s i))] B) ?_ (k:=10) ⟨0,by decide,rfl,fun _ h=>absurd h (G1 _),⟨rfl,rfl,rfl,rfl,rfl,trivial⟩,rfl,trivial⟩
 rintro k VE B⟨i,hi,rfl,hd,hV,hB⟩
 refine dy _ _ hV hB (aM (ak 2 aa (aJ aa (fun Y=>?_) (fun Y=>?_))))
 ·have G:i<10:=by simp at Y;omega
  obtain⟨c,K⟩:=jH (s:=s) (i:=i) (by omega)
  have aac:=c.toNat_lt
  have hdg:dg s i=c.toNat-48:=by unfold dg;rw[K];rfl
  refine aT (aM (bN (aM (ai (ae 3 aa (cX (g:=cr) aa (fun I=>?_) (fun I=>?_)))))))
  ·have Z:i=4∨i=7:=by simp at I;omega
   refine aO aa (I) (aO aa (I) (al (cS aa (I) aa ?_)))
   refine af (e7 aa aa (dM (bG (ae 1 aa ?_))))
   refine al (cV rfl rfl (by omega) ?_)
   refine ae 1 aa (af ?_)
   exact⟨10-(i+1),by omega,i+1,by omega,rfl,fun j hj=>by(rcases Nat.lt_succ_iff_lt_or_eq.1 hj with k|rfl;exact hd j k;omega),⟨rfl,rfl,rfl,rfl,rfl,trivial⟩,by rw[←Kz Z];rfl,trivial⟩
  have IP:i≠4:=by simp at I;omega
  refine ao aa (I) (bM aa ?_)
  refine ao aa (I) (hH aa aa ?_)
  refine al (cI aa (I) aa ?_)
  refine af (aJ aa (fun pd=>?_) (fun pd=>?_))
  ·have Z:i=4∨i=7:=by simp at pd;omega
   refine dM (bG (ae 1 aa ?_))
   refine al (cV rfl rfl (by omega) ?_)
   refine ae 1 aa (af ?_)
   exact⟨10-(i+1),by omega,i+1,by omega,rfl,fun j hj=>by(rcases Nat.lt_succ_iff_lt_or_eq.1 hj with k|rfl;exact hd j k;omega),⟨rfl,rfl,rfl,rfl,rfl,trivial⟩,by rw[←Kz Z];rfl,trivial⟩
  have IQ:i≠7:=by simp at pd;omega
  refine aT (aM (ai (ae 2 aa (al (fH aa aa K ?_)))))
  refine ae 2 aa (cX (g:=db) aa (fun z=>?_) (fun z=>?_))
  ·have J:=zW hf hs (MH hl G IP IQ K (by simp at z;omega))
   refine aO aa (z) (aO aa (z) (aO aa (z) (aO aa (z) (al (cS aa (z) aa ?_)))))
   refine af (e7 aa aa (ak 2 aa (ax ?_)))
   exact bB rfl rfl (by unfold lK;rw[J];rfl)
  refine ao aa (z) (bM aa ?_)
  refine ao aa (z) (bM aa ?_)
  refine ao aa (z) (fH aa aa K ?_)
  refine ao aa (z) (r8 aa aa ?_)
  refine al (cI aa (z) aa ?_)
  refine af (aJ aa (fun qD=>?_) (fun qD=>?_))
  ·have J:=zW hf hs (MH hl G IP IQ K (by simp at qD;omega))
   refine ak 2 aa (ax ?_)
   exact bB rfl rfl (by unfold lK;rw[J];rfl)
  have PT:48≤c.toNat∧c.toNat≤57:=by simp at z qD;omega
  refine aT (bG (ae 3 aa (al (fH aa aa K ?_))))
  refine al (MG aa aa PT.1 ?_)
  refine al (Li rfl (by omega) ?_)
  refine al (oi aa aa G ?_)
  refine MA (Kh rfl rfl rfl rfl rfl (by decide) (by show 0+i*1+1≤10;omega) ?_)
  refine af (bG (ae 1 aa ?_))
  refine al (cV rfl rfl (by omega) ?_)
  refine ae 1 aa (af ?_)
  exact⟨10-(i+1),by omega,i+1,by omega,rfl,fun j hj=>by(rcases Nat.lt_succ_iff_lt_or_eq.1 hj with k|rfl;exact hd j k;exact .inr (.inr (by rw[K];exact wO.2 PT))),⟨rfl,rfl,rfl,rfl,rfl,trivial⟩,by rw[←Ta G IP IQ,hdg];rfl,trivial⟩
 have G:i=10:=by simp at Y;omega
 subst G
 have O:∀j,dg s j≤207:=fun j=>by have:=((s[j]?).getD 0).toNat_lt;unfold dg;omega
 have g0:=O 0;have g1:=O 1;have g2:=O 2;have g3:=O 3;have g5:=O 5;have g6:=O 6;have g8:=O 8;have g9:=O 9
 obtain⟨n1,n2,n3⟩:=Ul hl hd
 have J:=MI hf hs ⟨by rw[n1],by rw[n2],by rw[n3]⟩
 rw[n1,n2,n3] at J
 have hy:1000*dg s 0+100*dg s 1+10*dg s 2+dg s 3≤9999:=by have:=xf (s:=s.take 4) (n:=4) (by rw[ng];omega);rw[n1] at this;exact vM this
 have hmm:10*dg s 5+dg s 6≤99:=by have:=xf (s:=(s.drop 5).take 2) (n:=2) (by rw[ng];omega);rw[n2] at this;exact vM this
 have hdd:10*dg s 8+dg s 9≤99:=by have:=xf (s:=s.drop 8) (n:=2) (by rw[iL];omega);rw[n3] at this;exact vM this
 refine dM (ai ?_)
 refine al (oi (j:=0) rfl rfl (by decide) ?_)
 refine al (cW (v:=dI (dg s 0:Nat)) aa aa aa ?_)
 refine al (tv rfl rfl (by(try simp only[aZ] at*);omega) (by(try simp only[aZ] at*);omega) ?_)
 refine al (oi (j:=1) rfl rfl (by decide) ?_)
 refine al (cW (v:=dI (dg s 1:Nat)) aa aa aa ?_)
 refine al (tv rfl rfl (by(try simp only[aZ] at*);omega) (by(try simp only[aZ] at*);omega) ?_)
 refine al (jL rfl rfl (by(try simp only[aZ] at*);omega) (by(try simp only[aZ] at*);omega) ?_)
 refine al (oi (j:=2) rfl rfl (by decide) ?_)
 refine al (cW (v:=dI (dg s 2:Nat)) aa aa aa ?_)
 refine al (tv rfl rfl (by(try simp only[aZ] at*);omega) (by(try simp only[aZ] at*);omega) ?_)
 refine al (jL rfl rfl (by(try simp only[aZ] at*);omega) (by(try simp only[aZ] at*);omega) ?_)
 refine al (oi (j:=3) rfl rfl (by decide) ?_)
 refine al (cW (v:=dI (dg s 3:Nat)) aa aa aa ?_)
 refine al (jL rfl rfl (by(try simp only[aZ] at*);omega) (by(try simp only[aZ] at*);omega) ?_)
 rw[show Int.ofNat 1000*(dg s 0:Nat)+Int.ofNat 100*(dg s 1:Nat)+Int.ofNat 10*(dg s 2:Nat)+((dg s 3:Nat):Int)=((1000*dg s 0+100*dg s 1+10*dg s 2+dg s 3:Nat):Int) by simp only[aZ];omega]
 refine al (oi (j:=5) rfl rfl (by decide) ?_)
 refine al (cW (v:=dI (dg s 5:Nat)) aa aa aa ?_)
 refine al (tv rfl rfl (by(try simp only[aZ] at*);omega) (by(try simp only[aZ] at*);omega) ?_)
 refine al (oi (j:=6) rfl rfl (by decide) ?_)
 refine al (cW (v:=dI (dg s 6:Nat)) aa aa aa ?_)
 refine al (jL rfl rfl (by(try simp only[aZ] at*);omega) (by(try simp only[aZ] at*);omega) ?_)
 rw[show Int.ofNat 10*(dg s 5:Nat)+((dg s 6:Nat):Int)=((10*dg s 5+dg s 6:Nat):Int) by simp only[aZ];omega]
 refine al (oi (j:=8) rfl rfl (by decide) ?_)
 refine al (cW (v:=dI (dg s 8:Nat)) aa aa aa ?_)
 refine al (tv rfl rfl (by(try simp only[aZ] at*);omega) (by(try simp only[aZ] at*);omega) ?_)
 refine al (oi (j:=9) rfl rfl (by decide) ?_)
 refine al (cW (v:=dI (dg s 9:Nat)) aa aa aa ?_)
 refine al (jL rfl rfl (by(try simp only[aZ] at*);omega) (by(try simp only[aZ] at*);omega) ?_)
 rw[show Int.ofNat 10*(dg s 8:Nat)+((dg s 9:Nat):Int)=((10*dg s 8+dg s 9:Nat):Int) by simp only[aZ];omega]
 refine al (cO (Wl F (y:=1000*dg s 0+100*dg s 1+10*dg s 2+dg s 3) (m:=10*dg s 5+dg s 6) (d:=10*dg s 8+dg s 9) hy hmm hdd) aa aa ?_)
 refine ae 5 aa (af ?_)
 refine aM (ak 2 aa (aJ aa (fun IS=>?_) (fun IS=>?_)))
 ·have ho:jz (1000*dg s 0+100*dg s 1+10*dg s 2+dg s 3) (10*dg s 5+dg s 6) (10*dg s 8+dg s 9)=none:=by simpa using IS
  refine ak 2 aa (ax ?_)
  exact bB rfl rfl (by unfold lK;rw[J,ho];rfl)
 obtain⟨n,ho⟩:∃n,jz (1000*dg s 0+100*dg s 1+10*dg s 2+dg s 3) (10*dg s 5+dg s 6) (10*dg s 8+dg s 9)=some n:=by cases K:jz (1000*dg s 0+100*dg s 1+10*dg s 2+dg s 3) (10*dg s 5+dg s 6) (10*dg s 8+dg s 9)<;>simp[K] at IS;exact⟨_,rfl⟩
 refine aT (ak 3 aa (ax ?_))
 exact bB rfl rfl (by unfold lK;rw[J,ho];rfl)
open Go
def preB(s p:List UInt8):Bool:=decide (p.length≤s.length)&&decide (s.take p.length=p)
def eL(s:List UInt8)(c:UInt8):List UInt8×List UInt8×Bool:=if 0≤eF c s then(s.take (eF c s).toNat,s.drop ((eF c s).toNat+1),true) else(s,[],false)
def l6(a b:Int×Int):(Int×Int)×Int:=if¬a.2=0 then((0,0),a.2) else if¬b.2=0 then((0,0),b.2) else if b.1≤a.1 then((0,0),10) else((a.1,b.1),0)
def As(r:List UInt8):Prop:=preB r [32]=true∧eF 41 r=(r.length:Nat) -Int.ofNat 1
instance(r:List UInt8):Decidable (As r):=inferInstanceAs(Decidable (_∧_))
def lL(s:List UInt8):(Int×Int)×Int:=
 if preB s [91]=true∧(eL (s.drop 1) 44).2.2=true∧As (eL (s.drop 1) 44).2.1 then l6 (fc (eL (s.drop 1) 44).1) (fc (((eL (s.drop 1) 44).2.1.drop 1).take ((eL (s.drop 1) 44).2.1.length-1-1)))
 else((0,0),5)
def lh(x:(Int×Int)×Int):VV:=.tuple [.agg [dI x.1.1,dI x.1.2],dI x.2]
theorem At{s:List UInt8}{c:UInt8}:preB s [c]=true↔s[0]?=some c:=by
 unfold preB;cases s<;>simp
theorem Gg{c:UInt8}:∀{a b:List UInt8},(∀x,x∈a→x≠c)→eF c (a++b)=if eF c b= -1 then-1 else eF c b+(a.length:Nat)
 |[],b,_=>by simp
 |x::a,b,h=>by
  have z:=Gg (c:=c) (a:=a) (b:=b) fun y A=>h y (o0 _ A)
  have G:¬x=c:=h x lF
  show(if x=c then 0 else if eF c (a++b)= -1 then-1 else eF c (a++b)+1)=_
  rw[aj G,z]
  have I:=xe c b
  rw[dj]
  by_cases k:eF c b= -1
  ·simp[k]
  rw[aj k,aj k,aj (by omega)];omega
theorem Um{c:UInt8}{a:List UInt8}(h:∀x,x∈a→x≠c):eF c a= -1:=by
 have:=Gg (b:=[]) h
 rw[yd] at this;rw[this];rfl
theorem BX{c:UInt8}:∀{s:List UInt8}{k:Nat},eF c s=(k:Int)→s[k]?=some c∧∀j x,j<k→s[j]?=some x→x≠c
 |[],k,h=>by unfold eF at h;omega
 |y::s,k,h=>by
  have h:(if y=c then(0:Int) else if eF c s= -1 then-1 else eF c s+1)=(k:Int):=h
  by_cases z:y=c
  ·rw[aq z] at h;obtain rfl:k=0:=by omega
   exact⟨by rw[z];rfl,fun j x G=>absurd G (G1 _)⟩
  rw[aj z] at h
  by_cases I:eF c s= -1
  ·rw[aq I] at h;omega
  rw[aj I] at h
  have K:=xe c s
  obtain⟨m,rfl⟩:∃m,k=m+1:=⟨k-1,by omega⟩
  obtain⟨J,h2⟩:=BX (c:=c) (s:=s) (k:=m) (by omega)
  refine⟨J,fun j x G A=>?_⟩
  cases j with
  |zero=>simp at A;subst A;exact z
  |succ j=>exact h2 j x (by omega) A
theorem KA{r:List UInt8}(h:As r):2≤r.length:=by
 obtain⟨z,h2⟩:=h
 rw[At] at z
 match r,z,h2 with
 |[x],z,h2=>simp at z;subst z;exact absurd h2 (by decide)
 |_::_::_,_,_=>simp
theorem L5{c:UInt8}:∀{s:List UInt8}{k:Nat},s[k]?=some c→(∀j x,j<k→s[j]?=some x→x≠c)→eF c s=(k:Int)
 |[],k,h,_=>by simp at h
 |y::s,0,h,_=>by simp at h;subst h;exact aq rfl
 |y::s,k+1,h,h2=>by
  have z:¬y=c:=h2 0 y (HF _) rfl
  have A:=L5 (c:=c) (s:=s) (k:=k) h fun j x I G=>h2 (j+1) x (by omega) G
  show(if y=c then(0:Int) else if eF c s= -1 then-1 else eF c s+1)=_
  rw[aj z,A,aj (by omega)];omega
def du(s:List UInt8):List UInt8:=(s.drop 1).take (s.length-1-1)
theorem Vl{s:List UInt8}(h:4≤s.length)(h0:s[0]?=some 91)(z:s[s.length-1]?=some 41):s=91::(du s++[41]):=by
 match s,h0 with
 |x::r,h0=>
  simp at h0;subst h0
  congr 1
  have A:r.length=(r.length-1)+1:=by simp at h;omega
  have h2:r[r.length-1]?=some 41:=by
   have z:=z
   rw[dj,GY] at z
   conv at z=>lhs;rw[A]
   rw[HD] at z
   exact z
  show r=r.take (r.length+1-1-1)++[41]
  rw[GY]
  conv=>lhs;rw[←G0 (l:=r),A,take_succ h2]
variable{s:List UInt8}{k:Nat}
theorem L6(J:s=91::(du s++[41]))(hk:k≤(du s).length)(I:∀j x,j<k→(du s)[j]?=some x→x≠44)(K:k<(du s).length→(du s)[k]?=some 44):
  (k<(du s).length→eL (s.drop 1) 44=((du s).take k,(du s).drop (k+1)++[41],true))∧(¬k<(du s).length→(eL (s.drop 1) 44).2.2=false):=by
 generalize du s=i at*
 subst J
 show(_→eL (i++[41]) 44=_)∧(_→(eL (i++[41]) 44).2.2=false)
 constructor
 ·intro h
  have G:eF 44 (i++[41])=(k:Int):=L5 (by rw[qs h];exact K h) fun j x A z=>I j x A (by rw[qs (by omega)] at z;exact z)
  unfold eL
  rw[G,aq (by omega),Ei,List.take_append_of_le_length (by omega),List.drop_append_of_le_length (by omega)]
 intro h
 obtain rfl:k=i.length:=by omega
 have G:eF 44 (i++[41])= -1:=Um fun x z=>by
  rcases List.mem_append.1 z with z|z
  ·obtain⟨j,A,he⟩:=G2 z
   exact I j x A (by rw[eY A,he])
  rcases List.mem_singleton.1 z with rfl;decide
 unfold eL
 rw[G,aj (by omega)]
theorem Un(J:s=91::(du s++[41]))(hk:k+1<(du s).length)(K:∀j x,j<k→(du s)[j]?=some x→x≠44)(O:(du s)[k]?=some 44)(z:(du s)[k+1]?=some 32)(A:∀x,x∈(du s).drop (k+2)→x≠41):
  lL s=l6 (fc ((du s).take k)) (fc ((du s).drop (k+2))):=by
 have U:=(L6 J (by omega) K fun _=>O).1 (by omega)
 have G:(du s).drop (k+1)=32::(du s).drop (k+2):=by
  obtain⟨Y,he⟩:=List.getElem?_eq_some_iff.1 z
  rw[Az Y,he]
 have h2:preB s [91]=true:=At.2 (by rw[J];rfl)
 have Z:As ((du s).drop (k+1)++[41]):=by
  refine⟨At.2 (by rw[G];rfl),?_⟩
  rw[Gg (by rw[G];intro x I;rcases List.mem_cons.1 I with rfl|I;decide;exact A x I)]
  rw[bJ,eG,show eF 41 [41]=0 from rfl,aj (by decide)]
  simp
 unfold lL
 rw[U,aq ⟨h2,rfl,Z⟩]
 congr 2
 rw[G]
 show((du s).drop (k+2)++[41]).take _=_
 rw[yz,dj,bJ,eG]
 exact List.take_left' (by omega)
theorem GA(K:s=91::(du s++[41]))(hk:k≤(du s).length)(O:∀j x,j<k→(du s)[j]?=some x→x≠44)(U:k<(du s).length→(du s)[k]?=some 44)
  (h:(du s).length≤k+1∨¬(du s)[k+1]?=some 32∨∃x,x∈(du s).drop (k+2)∧x=41):lL s=((0,0),5):=by
 obtain⟨Y,h2⟩:=L6 K hk O U
 refine aj fun⟨_,G,I⟩=>?_
 by_cases J:k<(du s).length
 ·rw[Y J] at I
  obtain⟨z,A⟩:=I
  have A:eF 41 ((du s).drop (k+1)++[41])=(((du s).drop (k+1)).length:Nat):=by rw[A,bJ,eG];simp
  have Z:=(BX A).2
  rw[At] at z
  rcases h with h|h|⟨x,hx,rfl⟩
  ·obtain h:(du s).length=k+1:=by omega
   rw[←h,GZ] at z;simp at z
  ·by_cases jY:k+1<(du s).length
   ·rw[qs (by rw[iL];omega),sH] at z
    exact h z
   obtain h:(du s).length=k+1:=by omega
   rw[←h,GZ] at z;simp at z
  obtain⟨j,hj,he⟩:=G2 hx
  rw[iL] at hj
  refine Z (j+1) 41 (by rw[iL];omega) ?_ rfl
  rw[qs (by rw[iL];omega),sH]
  rw[List.getElem_drop] at he
  rw[show k+1+(j+1)=k+2+j by omega,eY (by omega),he]
 rw[h2 J] at G;cases G
theorem GB(h:s.length<4∨¬s[0]?=some 91∨¬s[s.length-1]?=some 41):lL s=((0,0),5):=by
 refine aj fun⟨I,G,J⟩=>?_
 rw[At] at I
 have z:=KA J
 have A:=J.2
 unfold eL at G A z
 split at G
 ·rename_i hp
  rw[aq hp] at A z
  simp only at A z
  generalize (eF 44 (s.drop 1)).toNat=m at A z
  rw[iL,iL] at z
  have O:eF 41 ((s.drop 1).drop (m+1))=(((s.drop 1).drop (m+1)).length-1:Nat):=by
   rw[A,iL,iL];simp only[aZ];omega
  have K:=(BX O).1
  rw[sH,sH,iL,iL] at K
  rcases h with h|h|h
  ·omega
  ·exact h I
  exact h (by rw[←K];congr 1;omega)
 cases G
theorem rm{a b:UInt8}(n:Nat)(z:a.toNat=n)(A:b.toNat=n):a=b:=UInt8.toNat_inj.1 (z.trans A.symm)
end Go.Ev.Pp
