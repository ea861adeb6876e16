/- Part 22 of rules for walks through the code of a program, and of such walks; what each part proves is said by its theorems. -/
import Derived.Test.YtijnechfhdlgiaaGreatDoorS21
set_option linter.unusedVariables false
set_option linter.unusedSimpArgs false
noncomputable section
set_option maxRecDepth 100000
set_option maxHeartbeats 4000000
namespace Go.Ev
open Go
variable{T:bd}{VE:cj}{B:bw}{Q:VV→bw→Prop}
theorem qp{x y:aI}{a b:Int}(z:x.vv VE=some (dI a))(A:y.vv VE=some (dI b))(G: -9223372036854775808≤a*b)(h2:a*b≤9223372036854775807)(I:Q (dI (a*b)) B):VI T (.bin .mul x y) VE B [] Q:=
 Nt z A (by rw[wrap_i64 G h2];exact I)
theorem u7{x y:aI}{a b:Int}(A:x.vv VE=some (dI a))(G:y.vv VE=some (dI b))(h0:mK b 0=false)(z:0≤a)(I:0<b)(h2:a≤9223372036854775807)(J:Q (dI (a/b)) B):VI T (.bin .quo x y) VE B [] Q:=
 Nu A G h0 (by
  have K:0≤a/b:=Int.ediv_nonneg z (Int.le_of_lt I)
  have O:a/b≤a:=Int.ediv_le_self b z
  rw[Int.tdiv_eq_ediv_of_nonneg z,wrap_i64 ah ah];exact J)
theorem u9{x y:aI}{a b:Int}(z:x.vv VE=some (dI a))(A:y.vv VE=some (dI b))(h0:mK b 0=false)(G:0≤a)(I:Q (dI (a % b)) B):VI T (.bin .rem x y) VE B [] Q:=
 Nv z A h0 (by rw[Int.tmod_eq_emod_of_nonneg G];exact I)
theorem Oq{x y:aI}{c:UInt8}(z:x.vv VE=some (.d (.i .u8 (c.toNat:Nat))))(A:y.vv VE=some (.d (.i .u8 (Int.ofNat 48))))(I:48≤c.toNat)(G:Q (.d (.i .u8 ((c.toNat-48:Nat):Int))) B):VI T (.bin .sub x y) VE B [] Q:=
 H3 z A (by
  have h:=c.toNat_lt
  rw[show IntKind.u8.wrap (((c.toNat:Nat):Int) -Int.ofNat 48)=((c.toNat-48:Nat):Int) from ?_]
  ·exact G
  show(((c.toNat:Nat):Int) -48) % 256=_
  omega)
theorem rV{x:aI}{z:IntKind}{n:Nat}(A:x.vv VE=some (.d (.i z (n:Int))))(h:n<4294967296)(G:Q (dI (n:Int)) B):VI T (.conv .i64 x) VE B [] Q:=
 uW A (by rw[wrap_i64 ah ah];exact G)
def Gl:List VV→Bool
 |[]=>true
 |.d _::r=>Gl r
 |_=>false
theorem NI:∀{l:List VV},Gl l=true→mL l
 |[],_=>trivial
 |.d _::r,h=>⟨trivial,NI (l:=r) h⟩
def vY:List VV→Bool
 |[]=>true
 |.d _::r=>vY r
 |.agg l::r=>Gl l&&vY r
 |.fn _ []::r=>vY r
 |_=>false
theorem gu:∀{l:List VV},vY l=true→mL l
 |[],_=>trivial
 |.fn _ []::r,h=>⟨trivial,gu (l:=r) h⟩
 |.d _::r,h=>⟨trivial,gu (l:=r) h⟩
 |.agg l::r,h=>by
  obtain⟨z,h2⟩:=iX (show(Gl l&&vY r)=true from h)
  exact⟨by simp only[VV.nb];exact NI z,gu h2⟩
theorem bt{rs:List ml}{VE:cj}{B:bw}{P:VV→Prop}{vs:List VV}(h:vI VE B rs=some vs)(z:vY vs=true)(A:P (gX vs)):Qv rs P .ret VE B:=⟨vs,h,gu z,A⟩
theorem cJ{f:Nat}{l:List aI}{args:List VV}{R:VV}(h:Sound T f args fun r=>r=R)(z:jv VE l=some args)(A:vY args=true)(G:Q R B):VI T (.call f l) VE B [] Q:=
 fG z (gu A) h fun r _ I=>by rw[I];exact G
theorem XE{x:aI}{f:Nat}{l:List aI}{z:List VV}{R:VV}(h:Sound T f z fun r=>r=R)(A:x.vv VE=some (.fn f []))(G:jv VE l=some z)(I:vY z=true)(J:Q R B):VI T (.ns x l) VE B [] Q:=
 U0 A G (by rw[z8];exact gu I) (by rw[z8];exact h) fun r _ K=>by rw[K];exact J
structure FX(T:bd):Prop where
 ac6:T.ft.get 182=none
 ac7:T.xt.get 182=some 3
 ac8:T.ft.get 239=none
 ac9:∃t,T.xt.get 239=some (4+t)
 ada:T.ft.get 207=none
 adb:T.xt.get 207=some 0
 ade:T.ft.get 190=none
 adf:T.xt.get 190=some 1
def fh(c:UInt8):List UInt8→Int
 |[]=> -1
 |x::r=>if x=c then 0 else if fh c r= -1 then-1 else fh c r+1
theorem yw(c:UInt8):∀l, -1≤fh c l
 |[]=>Int.le_refl _
 |x::r=>by unfold fh;have:=yw c r;split<;>(try split)<;>omega
theorem NJ(c:UInt8):∀l,fh c l<(l.length:Nat)
 |[]=>by unfold fh;simp
 |x::r=>by unfold fh;have:=NJ c r;have:=yw c r;rw[cV];split<;>(try split)<;>omega
theorem Md(c:UInt8):∀l,Lib.indexByte l c=fh c l
 |[]=>rfl
 |x::r=>by
  show(if(x==c)=true then 0 else if(Lib.indexByte r c== -1)=true then-1 else Lib.indexByte r c+1)=_
  rw[Md c r,show fh c (x::r)=if x=c then 0 else if fh c r= -1 then-1 else fh c r+1 from rfl];simp only[beq_iff_eq]
theorem SY(X:FX T)(s:List UInt8)(c:UInt8):Sound T 207 [dS s,.d (.i .u8 (c.toNat:Nat))] fun r=>r=dI (fh c s):=by
 intro H0 Y H β l A z
 simp only[bu,aP,cl,cY] at z
 obtain⟨_,_,rfl,rfl,_,_,rfl,rfl,rfl⟩:=z
 refine⟨1,.int .i64 (fh c s),H,fun lf n _ h=>?_,dI (fh c s),[],β,.refl,A,by simp only[aP,cY],by simp only[VV.nb],rfl⟩
 obtain⟨n,rfl⟩:∃n',n=n'+1:=⟨n-1,ah⟩
 show ob (T.ft.get 207) (ob (T.xt.get 207) (.err (Nat.add 10000 207)) fun c=>rB c _ H) _=_
 rw[X.ada,X.adb]
 show aJ (Nat.beq 4 4) (aJ (Nat.ble c.toNat 255) (aJ (Nat.beq 1 1) (lR (CF c.toNat s.length (pack s) 0) fun i=>aH.ok (.int .i64 i) H) (.err 90)) (.err 90)) (.err 90)=_
 have h:=c.toNat_lt
 rw[show Nat.ble c.toNat 255=true from jy ah,HW c s 0,Md]
 rw[show(if fh c s= -1 then(-1:Int) else fh c s+((0:Nat):Int))=fh c s by split<;>simp_all]
 exact(sZ (fh c s) fun i=>aH.ok (.int .i64 i) H)
end Go.Ev
namespace Go.Ev.Pp
open Go
def sA(y:Nat):Bool:=decide ((y % 4=0∧¬y % 100=0)∨y % 400=0)
def kE(y m:Nat):Nat:=if m=1∨m=3∨m=5∨m=7∨m=8∨m=10∨m=12 then 31 else if m=4∨m=6∨m=9∨m=11 then 30 else if m=2 then(if sA y=true then 29 else 28) else 0
theorem xl{y m:Nat}(h:m=1∨m=3∨m=5∨m=7∨m=8∨m=10∨m=12):kE y m=31:=az h
theorem FI{y m:Nat}(h:m=4∨m=6∨m=9∨m=11):kE y m=30:=by unfold kE;rw[al ah,az h]
theorem Gm{y m:Nat}(h:m=2):kE y m=if sA y=true then 29 else 28:=by unfold kE;rw[al ah,al ah,az h]
theorem Gn{y m:Nat}(h:m<1∨12<m):kE y m=0:=by unfold kE;rw[al ah,al ah,al ah]
theorem Iw(y m:Nat):kE y m≤31:=by unfold kE;split<;>(try split)<;>(try split)<;>(try split)<;>omega
theorem PY{y m:Nat}(h:0<kE y m):1≤m∧m≤12:=by
 refine vi fun k=>?_
 rw[Gn ah] at h;omega
def pg(y:Nat):Int:=Int.ofNat 365*((y:Int) -Int.ofNat 1600)+((y:Int) -Int.ofNat 1600+Int.ofNat 3)/Int.ofNat 4-((y:Int) -Int.ofNat 1600+Int.ofNat 99)/Int.ofNat 100+((y:Int) -Int.ofNat 1600+Int.ofNat 399)/Int.ofNat 400
theorem PZ{y:Nat}(h:1600≤y)(h2:y≤9999):0≤pg y∧pg y≤4000000:=by unfold pg;simp only[bN];omega
theorem WA{y:Nat}(h:4400<y):1000000≤pg y:=by unfold pg;simp only[bN];omega
def qT(y:Nat):Nat→Nat
 |0=>0
 |k+1=>qT y k+kE y (k+1)
theorem By(y:Nat):∀k,qT y k≤31*k
 |0=>bR _
 |k+1=>by unfold qT;have:=By y k;have:=Iw y (k+1);omega
def ui(y m d:Nat):Int:=pg y+d-Int.ofNat 1+qT y (m-1)
def j'(y m d:Nat):Option Int:=if y<1600∨4400<y∨d<1∨kE y m<d then none else if 1000000≤ui y m d then none else some (ui y m d)
def P0(o:Option Int):VV:=.tuple [dI (o.getD 0),dB o.isSome]
def iu(c:UInt8):Bool:=decide (48≤c.toNat)&&decide (c.toNat≤57)
def hH(s:List UInt8):Nat×Bool:=if s.all iu=true then(eE s,true) else(0,false)
def uS:List UInt8:=[102,111,114,101,118,101,114]
def JD:Option Int→Int×Int
 |none=>(0,10)
 |some n=>(n,0)
def fQ(s:List UInt8):Int×Int:=
 if s=uS then(1000000,0)
 else if¬(s.length=10∧s[4]?=some 45∧s[7]?=some 45) then(0,5)
 else if¬((hH (s.take 4)).2=true∧(hH ((s.drop 5).take 2)).2=true∧(hH (s.drop 8)).2=true) then(0,5)
 else JD (j' (hH (s.take 4)).1 (hH ((s.drop 5).take 2)).1 (hH (s.drop 8)).1)
def mq(x:Int×Int):VV:=.tuple [dI x.1,dI x.2]
theorem SZ(s:List UInt8)(c:UInt8):eE (s++[c])=eE s*10+(c.toNat-48):=by
 unfold eE;rw[yS];rfl
theorem x7{c:UInt8}:iu c=true↔48≤c.toNat∧c.toNat≤57:=by unfold iu;simp
theorem WB{s:List UInt8}(h:s.all iu=true):∀c,c∈s→48≤c.toNat∧c.toNat≤57:=fun c z=>x7.1 (List.all_eq_true.1 h c z)
theorem MZ{s:List UInt8}{n:Nat}(h:s.all iu=true)(z:s.length≤n):eE s<10^n:=m9 (Lt (WB h)) (Cq aq z)
theorem take_succ{s:List UInt8}{i:Nat}{c:UInt8}(h:s[i]?=some c):s.take (i+1)=s.take i++[c]:=by rw[yR,h];rfl
theorem jO{s:List UInt8}{i:Nat}(h:i<s.length):∃c,s[i]?=some c:=⟨s[i],fe h⟩
def Gp(s:List UInt8):VV:=.tuple [dI ((hH s).1:Nat),dB (hH s).2]
theorem NK{s:List UInt8}{i:Nat}{c:UInt8}(h:s[i]?=some c)(z:¬(48≤c.toNat∧c.toNat≤57)):hH s=(0,false):=by
 refine al fun k=>z (x7.1 ?_)
 exact List.all_eq_true.1 k c (lJ h)
theorem Vm{s:List UInt8}{c:UInt8}(h:s.all iu=true)(z:48≤c.toNat∧c.toNat≤57):(s++[c]).all iu=true:=by
 rw[List.all_append,h];simp[x7.2 z]
theorem Yv{T:bd}(F:FT T)(y:Nat):Sound T 258 [dI (y:Nat)] fun r=>r=dB (sA y):=by
 refine dG F.acK aa (an 1 aa (ai (ae 1 aa (aj (u9 aa aa aa cQ ?_)))))
 refine ae 2 aa (dc (g:=aC) aa (fun A=>?_) (fun A=>?_))
 ·refine aw aa (A) (bY aa ?_)
  refine aw aa (A) (u9 aa aa aa cQ ?_)
  refine aw aa (A) (iV aa aa ?_)
  refine aj (c8 aa (A) aa ?_)
  refine ae 1 aa (dc (g:=aW) aa (fun z=>?_) (fun z=>?_))
  ·refine aY aa (z) (aY aa (z) (aY aa (z) (aj (c8 aa (z) aa ?_))))
   refine ak 1 aa (ay ?_)
   exact bt rfl rfl ((by refine congrArg (fun b=>VV.d (DC.b b)) ?_;rw[gE];unfold sA;simp at*;omega))
  refine aw aa (z) (bY aa ?_)
  refine aw aa (z) (u9 aa aa aa cQ ?_)
  refine aw aa (z) (iC aa aa ?_)
  refine aj (cS aa (z) aa ?_)
  refine ak 1 aa (ay ?_)
  exact bt rfl rfl ((by refine congrArg (fun b=>VV.d (DC.b b)) ?_;rw[gE];unfold sA;simp at*;omega))
 refine aY aa (A) (aY aa (A) (aY aa (A) (aj (cS aa (A) aa ?_))))
 refine ae 1 aa (aw aa aa (bY aa ?_))
 refine aw aa aa (u9 aa aa aa cQ ?_)
 refine aw aa aa (iC aa aa ?_)
 refine ak 2 aa (ay ?_)
 exact bt rfl rfl ((by refine congrArg (fun b=>VV.d (DC.b b)) ?_;rw[gE];unfold sA;simp at*;omega))
theorem Yw{T:bd}(F:FT T)(y:Nat):Sound T 206 [dI (y:Nat)] fun r=>r=dB (sA y):=by
 refine dG F.acU aa (an 1 aa (ai (ae 1 aa (aj (u9 aa aa aa cQ ?_)))))
 refine ae 2 aa (dc (g:=aC) aa (fun A=>?_) (fun A=>?_))
 ·refine aw aa (A) (bY aa ?_)
  refine aw aa (A) (u9 aa aa aa cQ ?_)
  refine aw aa (A) (iV aa aa ?_)
  refine aj (c8 aa (A) aa ?_)
  refine ae 1 aa (dc (g:=aW) aa (fun z=>?_) (fun z=>?_))
  ·refine aY aa (z) (aY aa (z) (aY aa (z) (aj (c8 aa (z) aa ?_))))
   refine ak 1 aa (ay ?_)
   exact bt rfl rfl ((by refine congrArg (fun b=>VV.d (DC.b b)) ?_;rw[gE];unfold sA;simp at*;omega))
  refine aw aa (z) (bY aa ?_)
  refine aw aa (z) (u9 aa aa aa cQ ?_)
  refine aw aa (z) (iC aa aa ?_)
  refine aj (cS aa (z) aa ?_)
  refine ak 1 aa (ay ?_)
  exact bt rfl rfl ((by refine congrArg (fun b=>VV.d (DC.b b)) ?_;rw[gE];unfold sA;simp at*;omega))
 refine aY aa (A) (aY aa (A) (aY aa (A) (aj (cS aa (A) aa ?_))))
 refine ae 1 aa (aw aa aa (bY aa ?_))
 refine aw aa aa (u9 aa aa aa cQ ?_)
 refine aw aa aa (iC aa aa ?_)
 refine ak 2 aa (ay ?_)
 exact bt rfl rfl ((by refine congrArg (fun b=>VV.d (DC.b b)) ?_;rw[gE];unfold sA;simp at*;omega))
theorem QR{T:bd}(F:FT T)(y m:Nat):Sound T 228 [dI (y:Nat),dI (m:Nat)] fun r=>r=dI (kE y m:Nat):=by
 refine dG F.acw aa (an 1 aa (aL (an 1 aa (bM (aL (an 2 aa (aK aa (fun A=>?_) (fun A=>?_))))))))
 ·refine aQ (eW aa (A) (an 1 aa (ay ?_)))
  exact bt rfl rfl (by rw[xl (by simp only[fx,f6,bN] at*;omega)];rfl)
 refine an 2 aa (aK aa (fun A=>?_) (fun A=>?_))
 ·refine aQ (eW aa (A) (an 1 aa (ay ?_)))
  exact bt rfl rfl (by rw[xl (by simp only[fx,f6,bN] at*;omega)];rfl)
 refine an 2 aa (aK aa (fun A=>?_) (fun A=>?_))
 ·refine aQ (eW aa (A) (an 1 aa (ay ?_)))
  exact bt rfl rfl (by rw[xl (by simp only[fx,f6,bN] at*;omega)];rfl)
 refine an 2 aa (aK aa (fun A=>?_) (fun A=>?_))
 ·refine aQ (eW aa (A) (an 1 aa (ay ?_)))
  exact bt rfl rfl (by rw[xl (by simp only[fx,f6,bN] at*;omega)];rfl)
 refine an 2 aa (aK aa (fun A=>?_) (fun A=>?_))
 ·refine aQ (eW aa (A) (an 1 aa (ay ?_)))
  exact bt rfl rfl (by rw[xl (by simp only[fx,f6,bN] at*;omega)];rfl)
 refine an 2 aa (aK aa (fun A=>?_) (fun A=>?_))
 ·refine aQ (eW aa (A) (an 1 aa (ay ?_)))
  exact bt rfl rfl (by rw[xl (by simp only[fx,f6,bN] at*;omega)];rfl)
 refine bC (ak 2 aa (aK aa (fun A=>?_) (fun A=>?_)))
 ·refine an 1 aa (ay ?_)
  exact bt rfl rfl (by rw[xl (by simp only[fx,f6,bN] at*;omega)];rfl)
 refine aL (an 2 aa (aK aa (fun z=>?_) (fun z=>?_)))
 ·refine aQ (eW aa (z) (an 1 aa (ay ?_)))
  exact bt rfl rfl (by rw[FI (by simp only[fx,f6,bN] at*;omega)];rfl)
 refine an 2 aa (aK aa (fun z=>?_) (fun z=>?_))
 ·refine aQ (eW aa (z) (an 1 aa (ay ?_)))
  exact bt rfl rfl (by rw[FI (by simp only[fx,f6,bN] at*;omega)];rfl)
 refine an 2 aa (aK aa (fun z=>?_) (fun z=>?_))
 ·refine aQ (eW aa (z) (an 1 aa (ay ?_)))
  exact bt rfl rfl (by rw[FI (by simp only[fx,f6,bN] at*;omega)];rfl)
 refine bC (ak 2 aa (aK aa (fun z=>?_) (fun z=>?_)))
 ·refine an 1 aa (ay ?_)
  exact bt rfl rfl (by rw[FI (by simp only[fx,f6,bN] at*;omega)];rfl)
 refine an 2 aa (aK aa (fun eC=>?_) (fun eC=>?_))
 ·refine aL (ai (ae 1 aa (aj (cJ (Yv F y) aa aa ?_))))
  refine aX (aK aa (fun G=>?_) (fun G=>?_))
  ·refine an 1 aa (ay ?_)
   exact bt rfl rfl (by rw[Gm (by simp only[fx,f6,bN] at*;omega),az G];rfl)
  refine aQ (an 1 aa (ay ?_))
  exact bt rfl rfl (by rw[Gm (by simp only[fx,f6,bN] at*;omega),al (by rw[G];decide)];rfl)
 refine aQ (an 1 aa (ay ?_))
 exact bt rfl rfl (by rw[Gn (by simp only[fx,f6,bN] at*;omega)];rfl)
theorem Gq{T:bd}(F:FT T)(y m:Nat):Sound T 166 [dI (y:Nat),dI (m:Nat)] fun r=>r=dI (kE y m:Nat):=by
 refine dG F.acM aa (an 1 aa (an 3 aa (aL (ai (ae 3 aa (dc (g:=aM) aa (fun A=>?_) (fun A=>?_)))))))
 ·refine aY aa (A) (aY aa (A) (aj (c8 aa (A) aa ?_)))
  refine aX (eW aa aa (an 1 aa (ay ?_)))
  exact bt rfl rfl (by rw[Gn (by simp only[fx,f6,bN] at*;omega)];rfl)
 refine aw aa (A) (bY aa ?_)
 refine aw aa (A) (tC aa aa ?_)
 refine aj (cS aa (A) aa ?_)
 refine aX (aK aa (fun I=>?_) (fun I=>?_))
 ·refine an 1 aa (ay ?_)
  exact bt rfl rfl (by rw[Gn (by simp only[fx,f6,bN] at*;omega)];rfl)
 refine aQ (aL (ai (ae 3 aa (dc (g:=bb) aa (fun z=>?_) (fun z=>?_)))))
 ·refine aw aa (z) (bY aa ?_)
  refine aw aa (z) (cJ (Yw F y) aa aa ?_)
  refine aj (c8 aa (z) aa ?_)
  refine aX (aK aa (fun G=>?_) (fun G=>?_))
  ·refine an 1 aa (ay ?_)
   exact bt rfl rfl (by rw[Gm (by simp only[fx,f6,bN] at*;omega),az G];rfl)
  refine aQ (ai ?_)
  have K:1≤m∧m≤12:=by simp only[fx,f6,bN] at*;omega
  obtain⟨J,hk⟩:m<13∧[VV.d (.i .i64 0),.d (.i .i64 31),.d (.i .i64 28),.d (.i .i64 31),.d (.i .i64 30),.d (.i .i64 31),.d (.i .i64 30),.d (.i .i64 31),.d (.i .i64 31),.d (.i .i64 30),.d (.i .i64 31),.d (.i .i64 30),.d (.i .i64 31)][0+m*1]?=some (.d (.i .i64 (kE y m:Nat))):=by
   refine⟨ah,?_⟩
   rcases(by omega:m=1∨m=2∨m=3∨m=4∨m=5∨m=6∨m=7∨m=8∨m=9∨m=10∨m=11∨m=12) with rfl|rfl|rfl|rfl|rfl|rfl|rfl|rfl|rfl|rfl|rfl|rfl
   any_goals rfl
   rw[Gm rfl,al (by rw[G];decide)];rfl
  refine ae 1 aa (aj (eg aa aa J ?_))
  refine aj (df aa aa hk ?_)
  exact ak 1 aa (ay (bt aa aa aa))
 refine aY aa (z) (aY aa (z) (aj (cS aa (z) aa ?_)))
 refine aX (ef aa aa (aQ (ai ?_)))
 have K:1≤m∧m≤12:=by simp only[fx,f6,bN] at*;omega
 obtain⟨J,hk⟩:m<13∧[VV.d (.i .i64 0),.d (.i .i64 31),.d (.i .i64 28),.d (.i .i64 31),.d (.i .i64 30),.d (.i .i64 31),.d (.i .i64 30),.d (.i .i64 31),.d (.i .i64 31),.d (.i .i64 30),.d (.i .i64 31),.d (.i .i64 30),.d (.i .i64 31)][0+m*1]?=some (.d (.i .i64 (kE y m:Nat))):=by
  refine⟨ah,?_⟩
  rcases(by omega:m=1∨m=2∨m=3∨m=4∨m=5∨m=6∨m=7∨m=8∨m=9∨m=10∨m=11∨m=12) with rfl|rfl|rfl|rfl|rfl|rfl|rfl|rfl|rfl|rfl|rfl|rfl
  any_goals rfl
  rw[show decide (((2:Nat):Int)=Int.ofNat 2)=true from rfl] at z;cases z
 refine ae 1 aa (aj (eg aa aa J ?_))
 refine aj (df aa aa hk ?_)
 exact ak 1 aa (ay (bt aa aa aa))
theorem Yx{T:bd}(F:FT T){y:Nat}(z:1600≤y)(h2:y≤9999):Sound T 227 [dI (y:Nat)] fun r=>r=dI (pg y):=by
 refine dG F.acv aa (an 1 aa (ai (ae 1 aa (aj (f3 aa aa cQ cQ ?_)))))
 refine ak 1 aa (ai (ae 1 aa (aj (qp aa aa cQ cQ ?_))))
 refine ae 1 aa (aj (jj aa aa cQ cQ ?_))
 refine aj (u7 aa aa aa cQ aq cQ ?_)
 refine aj (jj aa aa cQ cQ ?_)
 refine ae 1 aa (aj (jj aa aa cQ cQ ?_))
 refine aj (u7 aa aa aa cQ aq cQ ?_)
 refine aj (f3 aa aa cQ cQ ?_)
 refine ae 1 aa (aj (jj aa aa cQ cQ ?_))
 refine aj (u7 aa aa aa cQ aq cQ ?_)
 refine aj (jj aa aa cQ cQ ?_)
 exact ak 1 aa (ay (bt aa aa aa))
theorem I8{T:bd}(F:FT T){y:Nat}(z:1600≤y)(h2:y≤9999):Sound T 165 [dI (y:Nat)] fun r=>r=dI (pg y):=by
 refine dG F.acN aa (an 1 aa (ai (ae 1 aa (aj (f3 aa aa cQ cQ ?_)))))
 refine ak 1 aa (ai (ae 1 aa (aj (qp aa aa cQ cQ ?_))))
 refine ae 1 aa (aj (jj aa aa cQ cQ ?_))
 refine aj (u7 aa aa aa cQ aq cQ ?_)
 refine aj (jj aa aa cQ cQ ?_)
 refine ae 1 aa (aj (jj aa aa cQ cQ ?_))
 refine aj (u7 aa aa aa cQ aq cQ ?_)
 refine aj (f3 aa aa cQ cQ ?_)
 refine ae 1 aa (aj (jj aa aa cQ cQ ?_))
 refine aj (u7 aa aa aa cQ aq cQ ?_)
 refine aj (jj aa aa cQ cQ ?_)
 exact ak 1 aa (ay (bt aa aa aa))
theorem JE{T:bd}(F:FT T){s:List UInt8}(hl:s.length≤9):Sound T 245 [dS s] fun r=>r=Gp s:=by
 refine dG F.acI aa (an 2 aa (an 1 aa (aL (an 3 aa (bM (d7 (fun k VE B=>∃i,i≤s.length∧k=s.length-i∧(s.take i).all iu=true∧bn [(0,dS s),(2,d0),(3,dB false),(4,dI (eE (s.take i):Nat)),(7,dI (s.length:Nat)),(8,dI (i:Nat))] VE∧bn [] B) ?_ (k:=s.length) ⟨0,dp _,aa,aa,⟨aa,aa,aa,aa,aa,aa,trivial⟩,trivial⟩))))))
 rintro k VE B⟨i,hi,rfl,O,hV,hB⟩
 refine db _ _ hV hB (an 1 aa (aL (aK aa (fun U=>?_) (fun U=>?_))))
 ·have Y:i<s.length:=by simp at U;omega
  obtain⟨c,G⟩:=jO Y
  have Z:=take_succ G
  have hv:=MZ O (n:=9) (by rw[jH];omega)
  have adg:=c.toNat_lt
  have I:=SZ (s.take i) c
  rw[←Z] at I
  refine aQ (aL (bM (an 2 aa (aL (ai (ae 2 aa (aj (fR aa aa G ?_))))))))
  refine ae 2 aa (dc (g:=bb) aa (fun z=>?_) (fun z=>?_))
  ·have J:=NK G (by simp at z;omega)
   refine aY aa (z) (aY aa (z) (aY aa (z) (aY aa (z) (aj (c8 aa (z) aa ?_)))))
   refine aX (eW aa aa (an 2 aa (ay ?_)))
   exact bt rfl rfl (by unfold Gp;rw[J];rfl)
  refine aw aa (z) (bY aa ?_)
  refine aw aa (z) (bY aa ?_)
  refine aw aa (z) (fR aa aa G ?_)
  refine aw aa (z) (tC aa aa ?_)
  refine aj (cS aa (z) aa ?_)
  refine aX (aK aa (fun A=>?_) (fun A=>?_))
  ·have J:=NK G (by simp at A;omega)
   refine an 2 aa (ay ?_)
   exact bt rfl rfl (by unfold Gp;rw[J];rfl)
  have K:48≤c.toNat∧c.toNat≤57:=by simp at z A;omega
  refine aQ (bC (ae 1 aa (aj (qp aa aa cQ cQ ?_))))
  refine ae 2 aa (aj (fR aa aa G ?_))
  refine aj (Oq aa aa K.1 ?_)
  refine aj (rV aa ah ?_)
  refine aj (jj aa aa cQ cQ ?_)
  rw[show(Int.ofNat 10*((eE (s.take i):Nat):Int)+((c.toNat-48:Nat):Int))=((eE (s.take (i+1)):Nat):Int) by rw[I];simp only[bN];omega]
  refine ak 1 aa (bC (aj (cM aa aa ah ?_)))
  refine ak 1 aa ?_
  exact⟨s.length-(i+1),ah,i+1,ah,rfl,by rw[Z];exact Vm O K,⟨rfl,rfl,rfl,rfl,rfl,rfl,trivial⟩,trivial⟩
 have he:i=s.length:=by simp at U;omega
 have J:hH s=(eE (s.take i),true):=by rw[he,IK] at O⊢;exact az O
 refine dJ (an 3 aa (ay ?_))
 exact bt rfl rfl (by unfold Gp;rw[J];rfl)
theorem Yy{T:bd}(F:FT T){y m d:Nat}(h1:y≤9999)(h2:m≤99)(h3:d≤99):Sound T 246 [dI (y:Nat),dI (m:Nat),dI (d:Nat)] fun r=>r=P0 (j' y m d):=by
 refine dG F.acJ aa (an 2 aa (aL (ai (ae 3 aa (dc (g:=aU) aa (fun A=>?_) (fun A=>?_))))))
 ·refine aY aa (A) (aY aa (A) (aj (c8 aa (A) aa ?_)))
  refine ae 1 aa (aY aa aa (aY aa aa (ae 2 aa (aY aa aa (aY aa aa (aY aa aa (aY aa aa (aY aa aa (ak 1 aa ?_)))))))))
  refine eW aa aa (an 2 aa (ay ?_))
  exact bt rfl rfl (by unfold j';rw[az (by simp only[fx,f6,bN] at*;omega)];rfl)
 refine aw aa (A) (bY aa ?_)
 refine aw aa (A) (tC aa aa ?_)
 refine aj (cS aa (A) aa ?_)
 refine ae 1 aa (dc (g:=bg) aa (fun G=>?_) (fun G=>?_))
 ·refine aY aa (G) (aY aa (G) (aj (c8 aa (G) aa ?_)))
  refine ae 1 aa (aY aa aa (aY aa aa (aY aa aa (aY aa aa (aY aa aa (ak 1 aa (eW aa aa (an 2 aa (ay ?_)))))))))
  exact bt rfl rfl (by unfold j';rw[az (by simp only[fx,f6,bN] at*;omega)];rfl)
 refine aw aa (G) (bY aa ?_)
 refine aw aa (G) (w4 aa aa ?_)
 refine aj (cS aa (G) aa ?_)
 refine ae 1 aa (dc (g:=bm) aa (fun z=>?_) (fun z=>?_))
 ·refine aY aa (z) (aY aa (z) (aY aa (z) (aY aa (z) (aY aa (z) (aj (c8 aa (z) aa ?_))))))
  refine aX (eW aa aa (an 2 aa (ay ?_)))
  exact bt rfl rfl (by unfold j';rw[az (by simp only[fx,f6,bN] at*;omega)];rfl)
 refine aw aa (z) (bY aa ?_)
 refine aw aa (z) (bY aa ?_)
 refine aw aa (z) (bY aa ?_)
 refine aw aa (z) (cJ (QR F y m) aa aa ?_)
 refine aw aa (z) (tC aa aa ?_)
 refine aj (cS aa (z) aa ?_)
 refine aX (aK aa (fun K=>?_) (fun K=>?_))
 ·refine an 2 aa (ay ?_)
  exact bt rfl rfl (by unfold j';rw[az (by simp only[fx,f6,bN] at*;omega)];rfl)
 have J:0<kE y m:=by simp only[fx,f6,bN] at*;omega
 have hmb:=PY J
 have hyb:=PZ (y:=y) (by simp only[fx,f6,bN] at*;omega) ah
 refine aQ (ai (ae 1 aa ?_))
 refine aj (cJ (Yx F (by simp only[fx,f6,bN] at*;omega) ah) rfl rfl ?_)
 refine ae 1 aa (aj (jj aa aa cQ cQ ?_))
 refine aj (f3 aa aa cQ cQ ?_)
 refine ak 1 aa (aL (an 1 aa (bM ?_)))
 refine d7 (fun k VE B=>∃(j:Nat)(v:Int),j+1≤m∧k=m-j∧v=pg y+(d:Nat) -Int.ofNat 1+(qT y j:Nat)∧bn [(0,dI (y:Nat)),(1,dI (m:Nat)),(2,dI (d:Nat)),(6,d0),(7,dB false),(8,dI v),(9,dI ((j+1:Nat):Int))] VE∧bn [] B) ?_ (k:=m) ⟨0,_,ah,rfl,by unfold qT;exact(Int.add_zero _).symm,⟨rfl,rfl,rfl,rfl,rfl,rfl,rfl,trivial⟩,trivial⟩
 rintro k VE B⟨j,v,hj0,rfl,hv,hV,hB⟩
 refine db _ _ hV hB (aL (an 3 aa (aK aa (fun I=>?_) (fun I=>?_))))
 ·have hj:j+1<m:=by simp at I;omega
  have hdj:=Iw y (j+1)
  have O:=By y j
  refine aQ (aL (bM (bC (ae 3 aa (aj (cJ (QR F y (j+1)) aa aa ?_))))))
  refine aj (jj aa aa cQ cQ ?_)
  rw[show v+((kE y (j+1):Nat):Int)=_ from rfl]
  refine ak 1 aa (bC (ae 1 aa (aj (cM aa aa ah ?_))))
  refine ak 1 aa ?_
  exact⟨m-(j+1),ah,j+1,_,ah,rfl,by rw[hv];show _=_+((qT y j+kE y (j+1):Nat):Int);omega,⟨rfl,rfl,rfl,rfl,rfl,rfl,rfl,trivial⟩,trivial⟩
 have hj:j+1=m:=by simp at I;omega
 have O:=By y j
 have U:m-1=j:=by omega
 have Y:ui y m d=pg y+(d:Nat) -Int.ofNat 1+(qT y j:Nat):=by unfold ui;rw[U]
 refine dJ (aL (an 2 aa (aK aa (fun Z=>?_) (fun Z=>?_))))
 ·refine an 2 aa (ay ?_)
  exact bt rfl rfl (by unfold j';rw[al (by simp only[fx,f6,bN] at*;omega),az (by simp only[fx,f6,bN] at*;omega)];rfl)
 refine aQ (an 3 aa (ay ?_))
 exact bt rfl rfl (by unfold j';rw[al (by simp only[fx,f6,bN] at*;omega),al (by simp only[fx,f6,bN] at*;omega),show ui y m d=v by rw[Y];exact hv.symm];rfl)
theorem Yz{T:bd}(F:FT T){y m d:Nat}(h1:y≤9999)(h2:m≤99)(h3:d≤99):Sound T 237 [dI (y:Nat),dI (m:Nat),dI (d:Nat)] fun r=>r=P0 (j' y m d):=by
 refine dG F.acB aa (an 2 aa (aL (ai (ae 3 aa (dc (g:=aU) aa (fun A=>?_) (fun A=>?_))))))
 ·refine aY aa (A) (aY aa (A) (aj (c8 aa (A) aa ?_)))
  refine ae 1 aa (aY aa aa (aY aa aa (ae 2 aa (aY aa aa (aY aa aa (aY aa aa (aY aa aa (aY aa aa (ak 1 aa ?_)))))))))
  refine eW aa aa (an 2 aa (ay ?_))
  exact bt rfl rfl (by unfold j';rw[az (by simp only[fx,f6,bN] at*;omega)];rfl)
 refine aw aa (A) (bY aa ?_)
 refine aw aa (A) (tC aa aa ?_)
 refine aj (cS aa (A) aa ?_)
 refine ae 1 aa (dc (g:=bg) aa (fun G=>?_) (fun G=>?_))
 ·refine aY aa (G) (aY aa (G) (aj (c8 aa (G) aa ?_)))
  refine ae 1 aa (aY aa aa (aY aa aa (aY aa aa (aY aa aa (aY aa aa (ak 1 aa (eW aa aa (an 2 aa (ay ?_)))))))))
  exact bt rfl rfl (by unfold j';rw[az (by simp only[fx,f6,bN] at*;omega)];rfl)
 refine aw aa (G) (bY aa ?_)
 refine aw aa (G) (w4 aa aa ?_)
 refine aj (cS aa (G) aa ?_)
 refine ae 1 aa (dc (g:=bm) aa (fun z=>?_) (fun z=>?_))
 ·refine aY aa (z) (aY aa (z) (aY aa (z) (aY aa (z) (aY aa (z) (aj (c8 aa (z) aa ?_))))))
  refine aX (eW aa aa (an 2 aa (ay ?_)))
  exact bt rfl rfl (by unfold j';rw[az (by simp only[fx,f6,bN] at*;omega)];rfl)
 refine aw aa (z) (bY aa ?_)
 refine aw aa (z) (bY aa ?_)
 refine aw aa (z) (bY aa ?_)
 refine aw aa (z) (cJ (Gq F y m) aa aa ?_)
 refine aw aa (z) (tC aa aa ?_)
 refine aj (cS aa (z) aa ?_)
 refine aX (aK aa (fun K=>?_) (fun K=>?_))
 ·refine an 2 aa (ay ?_)
  exact bt rfl rfl (by unfold j';rw[az (by simp only[fx,f6,bN] at*;omega)];rfl)
 have J:0<kE y m:=by simp only[fx,f6,bN] at*;omega
 have hmb:=PY J
 have hyb:=PZ (y:=y) (by simp only[fx,f6,bN] at*;omega) ah
 refine aQ (ai (ae 1 aa ?_))
 refine aj (cJ (I8 F (by simp only[fx,f6,bN] at*;omega) ah) rfl rfl ?_)
 refine ak 1 aa (aL (an 1 aa (bM ?_)))
 refine d7 (fun k VE B=>∃(j:Nat)(v:Int),j+1≤m∧k=m-j∧v=pg y+(qT y j:Nat)∧bn [(0,dI (y:Nat)),(1,dI (m:Nat)),(2,dI (d:Nat)),(6,d0),(7,dB false),(8,dI v),(9,dI ((j+1:Nat):Int))] VE∧bn [] B) ?_ (k:=m) ⟨0,_,ah,rfl,by unfold qT;exact(Int.add_zero _).symm,⟨rfl,rfl,rfl,rfl,rfl,rfl,rfl,trivial⟩,trivial⟩
 rintro k VE B⟨j,v,hj0,rfl,hv,hV,hB⟩
 refine db _ _ hV hB (aL (an 3 aa (aK aa (fun I=>?_) (fun I=>?_))))
 ·have hj:j+1<m:=by simp at I;omega
  have hdj:=Iw y (j+1)
  have O:=By y j
  refine aQ (aL (bM (bC (ae 3 aa (aj (cJ (Gq F y (j+1)) aa aa ?_))))))
  refine aj (jj aa aa cQ cQ ?_)
  rw[show v+((kE y (j+1):Nat):Int)=_ from rfl]
  refine ak 1 aa (bC (ae 1 aa (aj (cM aa aa ah ?_))))
  refine ak 1 aa ?_
  exact⟨m-(j+1),ah,j+1,_,ah,rfl,by rw[hv];show _=_+((qT y j+kE y (j+1):Nat):Int);omega,⟨rfl,rfl,rfl,rfl,rfl,rfl,rfl,trivial⟩,trivial⟩
 have hj:j+1=m:=by simp at I;omega
 have O:=By y j
 have U:m-1=j:=by omega
 have Y:ui y m d=pg y+(d:Nat) -Int.ofNat 1+(qT y j:Nat):=by unfold ui;rw[U]
 refine dJ (ai (ae 2 aa (aj (jj aa aa cQ cQ ?_))))
 refine aj (f3 aa aa cQ cQ ?_)
 refine ak 1 aa (aL (an 2 aa (aK aa (fun Z=>?_) (fun Z=>?_))))
 ·refine an 2 aa (ay ?_)
  exact bt rfl rfl (by
   by_cases hy:4400<y
   ·unfold j';rw[az ah];rfl
   unfold j';rw[al (by simp only[fx,f6,bN] at*;omega),az (by simp only[fx,f6,bN] at*;omega)];rfl)
 refine aQ (an 3 aa (ay ?_))
 have hy:¬4400<y:=fun k=>by
  have:=WA k
  simp only[fx,f6,bN] at*;omega
 exact bt rfl rfl (by unfold j';rw[al (by simp only[fx,f6,bN] at*;omega),al (by simp only[fx,f6,bN] at*;omega),show ui y m d=v+(d:Nat) -Int.ofNat 1 by rw[Y,hv];omega];rfl)
variable{s:List UInt8}
theorem yy{n:Nat}(h:s.length≤n):(hH s).1<10^n:=by
 unfold hH
 split
 ·rename_i z;exact MZ z h
 exact Nat.pow_pos aq
def dg(s:List UInt8)(j:Nat):Nat:=((s[j]?).getD 0).toNat-48
def CQ(s:List UInt8)(i:Nat):List VV:=[0,1,2,3,4,5,6,7,8,9].map fun j=>dI ((if j<i∧j≠4∧j≠7 then dg s j else 0:Nat):Int)
theorem Vn{i:Nat}(h:i<10)(z:i≠4)(A:i≠7):Gf (CQ s i) (0+i*1) [VV.d (.i .i64 (dg s i:Nat))]=CQ s (i+1):=by
 rcases(by omega:i=0∨i=1∨i=2∨i=3∨i=5∨i=6∨i=8∨i=9) with rfl|rfl|rfl|rfl|rfl|rfl|rfl|rfl<;>rfl
theorem Me{i:Nat}(h:i=4∨i=7):CQ s i=CQ s (i+1):=by
 rcases h with rfl|rfl<;>rfl
def RL(s:List UInt8)(i:Nat):Prop:=∀j,j<i→j=4∨j=7∨iu ((s[j]?).getD 0)=true
theorem RM(h:s.length=10):∃a b c d e f g i j k,s=[a,b,c,d,e,f,g,i,j,k]:=by
 match s,h with
 |[a,b,c,d,e,f,g,i,j,k],_=>exact⟨a,b,c,d,e,f,g,i,j,k,rfl⟩
theorem WC(h:s.length=10)(Y:RL s 10):hH (s.take 4)=(1000*dg s 0+100*dg s 1+10*dg s 2+dg s 3,true)∧hH ((s.drop 5).take 2)=(10*dg s 5+dg s 6,true)∧hH (s.drop 8)=(10*dg s 8+dg s 9,true):=by
 have k:=fun j(Z:j<10)(h4:j≠4)(h7:j≠7)=>(Y j Z).resolve_left h4|>.resolve_left h7
 have z:=k 0 aq aq aq;have A:=k 1 aq aq aq;have G:=k 2 aq aq aq;have I:=k 3 aq aq aq
 have J:=k 5 aq aq aq;have K:=k 6 aq aq aq;have O:=k 8 aq aq aq;have U:=k 9 aq aq aq
 obtain⟨a,b,c,d,e,f,g,i,j,l,rfl⟩:=RM h
 simp at z A G I J K O U
 unfold hH dg
 simp[z,A,G,I,J,K,O,U,eE]
 omega
theorem Ot(h:s.length=10){i:Nat}{c:UInt8}(hi:i<10)(I:i≠4)(J:i≠7)(G:s[i]?=some c)(A:¬(48≤c.toNat∧c.toNat≤57)):¬((hH (s.take 4)).2=true∧(hH ((s.drop 5).take 2)).2=true∧(hH (s.drop 8)).2=true):=by
 have A:iu c=false:=by simpa using fun k=>A (x7.1 k)
 obtain⟨a,b,K,d,e,f,g,O,j,l,rfl⟩:=RM h
 have z:∀x:List UInt8,(hH x).2=x.all iu:=fun x=>by unfold hH;split<;>simp_all
 rw[z,z,z]
 rcases(by omega:i=0∨i=1∨i=2∨i=3∨i=5∨i=6∨i=8∨i=9) with rfl|rfl|rfl|rfl|rfl|rfl|rfl|rfl<;>simp at G<;>subst G<;>simp[A]
theorem toNat_45{c:UInt8}(h:((c.toNat:Nat):Int)=Int.ofNat 45):c=45:=by
 have h2:c.toNat=45:=by simp only[bN] at h;omega
 exact UInt8.toNat_inj.1 (h2.trans aa)
theorem yP(h:¬s=uS)(h2:¬(s.length=10∧s[4]?=some 45∧s[7]?=some 45)):fQ s=(0,5):=by unfold fQ;rw[al h,az h2]
theorem BQ(h:¬s=uS)(h2:s.length=10∧s[4]?=some 45∧s[7]?=some 45)(z:¬((hH (s.take 4)).2=true∧(hH ((s.drop 5).take 2)).2=true∧(hH (s.drop 8)).2=true)):fQ s=(0,5):=by unfold fQ;rw[al h,al (fun k=>k h2),az z]
theorem Ou(h:¬s=uS)(h2:s.length=10∧s[4]?=some 45∧s[7]?=some 45)(z:(hH (s.take 4)).2=true∧(hH ((s.drop 5).take 2)).2=true∧(hH (s.drop 8)).2=true):fQ s=JD (j' (hH (s.take 4)).1 (hH ((s.drop 5).take 2)).1 (hH (s.drop 8)).1):=by unfold fQ;rw[al h,al (fun k=>k h2),al (fun k=>k z)]
theorem JF{T:bd}(F:FT T)(s:List UInt8):Sound T 216 [dS s] fun r=>r=mq (fQ s):=by
 refine dG F.acq aa (an 2 aa (aL (ai (ae 1 aa (aj (nL (b:=uS) aa aa ?_))))))
 refine aX (aK aa (fun bQ=>?_) (fun bQ=>?_))
 ·refine an 2 aa (ay ?_)
  exact bt rfl rfl (by unfold mq fQ;rw[az (by simpa using bQ)];rfl)
 have K:¬s=uS:=by simpa using bQ
 refine aQ (aL (ai (ae 4 aa (dc (g:=bl) aa (fun z=>?_) (fun z=>?_)))))
 ·have J:=yP K (fun k=>by simp at z;omega)
  refine aY aa (z) (aY aa (z) (aY aa (z) (aj (c8 aa (z) aa ?_))))
  refine ae 1 aa (aY aa aa (aY aa aa (aY aa aa (ak 1 aa (eW aa aa (an 2 aa (ay ?_)))))))
  exact bt rfl rfl (by unfold mq;rw[J];rfl)
 have hl:s.length=10:=by simp at z;omega
 obtain⟨c4,h4⟩:=jO (s:=s) (i:=4) ah
 obtain⟨c7,h7⟩:=jO (s:=s) (i:=7) ah
 refine aw aa (z) (bY aa ?_)
 refine aw aa (z) (fR aa aa h4 ?_)
 refine aw aa (z) (iV aa aa ?_)
 refine aj (cS aa (z) aa ?_)
 refine ae 1 aa (dc (g:=bK) aa (fun A=>?_) (fun A=>?_))
 ·have J:=yP K (fun k=>by have h:=xd (h4.symm.trans k.2.1);subst h;simp at A)
  refine aY aa (A) (aY aa (A) (aY aa (A) (aj (c8 aa (A) aa ?_))))
  refine aX (eW aa aa (an 2 aa (ay ?_)))
  exact bt rfl rfl (by unfold mq;rw[J];rfl)
 refine aw aa (A) (bY aa ?_)
 refine aw aa (A) (fR aa aa h7 ?_)
 refine aw aa (A) (iV aa aa ?_)
 refine aj (cS aa (A) aa ?_)
 refine aX (aK aa (fun O=>?_) (fun O=>?_))
 ·have J:=yP K (fun k=>by have h:=xd (h7.symm.trans k.2.2);subst h;simp at O)
  refine an 2 aa (ay ?_)
  exact bt rfl rfl (by unfold mq;rw[J];rfl)
 obtain rfl:c4=45:=toNat_45 (by simpa using A)
 obtain rfl:c7=45:=toNat_45 (by simpa using O)
 have Z:s.length=10∧s[4]?=some 45∧s[7]?=some 45:=⟨hl,h4,h7⟩
 refine aQ (ai (ae 1 aa (aj (ko (l:=0) (h:=4) aa ⟨_,aa⟩ aa ah ah ?_))))
 rw[show(s.drop 0).take (4-0)=s.take 4 from rfl]
 refine aj (cJ (JE F (by rw[jH];omega)) rfl rfl ?_)
 refine ak 5 aa (ai (ae 1 aa (aj (ko (l:=5) (h:=7) aa ⟨_,aa⟩ ⟨_,aa⟩ ah ah ?_))))
 rw[show(s.drop 5).take (7-5)=(s.drop 5).take 2 from rfl]
 refine aj (cJ (JE F (by rw[jH];omega)) rfl rfl ?_)
 refine ak 5 aa (ai (ae 1 aa (aj (ko (l:=8) (h:=s.length) aa aa ⟨_,aa⟩ ah ah ?_))))
 rw[show(s.drop 8).take (s.length-8)=s.drop 8 from pR (by rw[gN];omega)]
 refine aj (cJ (JE F (by rw[gN];omega)) rfl rfl ?_)
 refine ak 5 aa (aL (ai (ae 3 aa (dc (g:=en) aa (fun G=>?_) (fun G=>?_)))))
 ·have J:=BQ K Z (fun k=>by simp[k.1] at G)
  refine aY aa (G) (aY aa (G) (aj (c8 aa (G) aa ?_)))
  refine ae 1 aa (aY aa aa (aY aa aa (ak 1 aa (eW aa aa (an 2 aa (ay ?_))))))
  exact bt rfl rfl (by unfold mq;rw[J];rfl)
 refine aw aa (G) (bY aa ?_)
 refine aw aa (G) (j0 aa ?_)
 refine aj (cS aa (G) aa ?_)
 refine ae 1 aa (dc (g:=ep) aa (fun I=>?_) (fun I=>?_))
 ·have J:=BQ K Z (fun k=>by simp[k.2.1] at I)
  refine aY aa (I) (aY aa (I) (aj (c8 aa (I) aa ?_)))
  refine aX (eW aa aa (an 2 aa (ay ?_)))
  exact bt rfl rfl (by unfold mq;rw[J];rfl)
 refine aw aa (I) (bY aa ?_)
 refine aw aa (I) (j0 aa ?_)
 refine aj (cS aa (I) aa ?_)
 refine aX (aK aa (fun U=>?_) (fun U=>?_))
 ·have J:=BQ K Z (fun k=>by simp[k.2.2] at U)
  refine an 2 aa (ay ?_)
  exact bt rfl rfl (by unfold mq;rw[J];rfl)
 have J:=Ou K Z ⟨by simpa using G,by simpa using I,by simpa using U⟩
 refine aQ (ai (ae 3 aa ?_))
 refine aj (cJ (Yy F (w8 (yy (n:=4) (by rw[jH];omega))) (w8 (yy (n:=2) (by rw[jH];omega))) (w8 (yy (n:=2) (by rw[gN];omega)))) rfl rfl ?_)
 refine ak 5 aa (aL (an 2 aa (aK aa (fun Y=>?_) (fun Y=>?_))))
 ·have ho:j' (hH (s.take 4)).1 (hH ((s.drop 5).take 2)).1 (hH (s.drop 8)).1=none:=by simpa using Y
  rw[ho] at J
  refine an 2 aa (ay ?_)
  exact bt rfl rfl (by unfold mq;rw[J];rfl)
 obtain⟨n,ho⟩:∃n,j' (hH (s.take 4)).1 (hH ((s.drop 5).take 2)).1 (hH (s.drop 8)).1=some n:=by cases hc:j' (hH (s.take 4)).1 (hH ((s.drop 5).take 2)).1 (hH (s.drop 8)).1<;>simp[hc] at Y;exact⟨_,rfl⟩
 rw[ho] at J
 refine aQ (an 3 aa (ay ?_))
 exact bt rfl rfl (by unfold mq;rw[J,ho];rfl)
theorem I9{T:bd}(F:FT T)(s:List UInt8):Sound T 201 [dS s] fun r=>r=mq (fQ s):=by
 refine dG F.acd aa (an 2 aa (aL (ai (ae 1 aa (aj (nL (b:=uS) aa aa ?_))))))
 refine aX (aK aa (fun h9=>?_) (fun h9=>?_))
 ·refine an 2 aa (ay ?_)
  exact bt rfl rfl (by unfold mq fQ;rw[az (by simpa using h9)];rfl)
 have hf:¬s=uS:=by simpa using h9
 refine aQ (aL (ai (ae 4 aa (dc (g:=aS) aa (fun bQ=>?_) (fun bQ=>?_)))))
 ·have J:=yP hf (fun k=>by simp at bQ;omega)
  refine aY aa (bQ) (aY aa (bQ) (aY aa (bQ) (aj (c8 aa (bQ) aa ?_))))
  refine ae 1 aa (aY aa aa (aY aa aa (aY aa aa (ak 1 aa (eW aa aa (an 2 aa (ay ?_)))))))
  exact bt rfl rfl (by unfold mq;rw[J];rfl)
 have hl:s.length=10:=by simp at bQ;omega
 obtain⟨c4,h4⟩:=jO (s:=s) (i:=4) ah
 obtain⟨c7,h7⟩:=jO (s:=s) (i:=7) ah
 refine aw aa (bQ) (bY aa ?_)
 refine aw aa (bQ) (fR aa aa h4 ?_)
 refine aw aa (bQ) (iV aa aa ?_)
 refine aj (cS aa (bQ) aa ?_)
 refine ae 1 aa (dc (g:=bh) aa (fun A=>?_) (fun A=>?_))
 ·have J:=yP hf (fun k=>by have h:=xd (h4.symm.trans k.2.1);subst h;simp at A)
  refine aY aa (A) (aY aa (A) (aY aa (A) (aj (c8 aa (A) aa ?_))))
  refine aX (eW aa aa (an 2 aa (ay ?_)))
  exact bt rfl rfl (by unfold mq;rw[J];rfl)
 refine aw aa (A) (bY aa ?_)
 refine aw aa (A) (fR aa aa h7 ?_)
 refine aw aa (A) (iV aa aa ?_)
 refine aj (cS aa (A) aa ?_)
 refine aX (aK aa (fun U=>?_) (fun U=>?_))
 ·have J:=yP hf (fun k=>by have h:=xd (h7.symm.trans k.2.2);subst h;simp at U)
  refine an 2 aa (ay ?_)
  exact bt rfl rfl (by unfold mq;rw[J];rfl)
 obtain rfl:c4=45:=toNat_45 (by simpa using A)
 obtain rfl:c7=45:=toNat_45 (by simpa using U)
 have hs:s.length=10∧s[4]?=some 45∧s[7]?=some 45:=⟨hl,h4,h7⟩
 refine aQ (an 1 aa (aL (an 1 aa (bM (d7 (fun k VE B=>∃i,i≤10∧k=10-i∧RL s i∧bn [(0,dS s),(2,d0),(3,d0),(4,.vp 4 0),(5,dI (i:Nat))] VE∧bn [(4,.one 245 80 (CQ s i))] B) ?_ (k:=10) ⟨0,aq,aa,fun _ h=>absurd h (IL _),⟨aa,aa,aa,aa,aa,trivial⟩,aa,trivial⟩)))))
 rintro k VE B⟨i,hi,rfl,hd,hV,hB⟩
 refine db _ _ hV hB (aL (an 2 aa (aK aa (fun Y=>?_) (fun Y=>?_))))
 ·have G:i<10:=by simp at Y;omega
  obtain⟨c,K⟩:=jO (s:=s) (i:=i) ah
  have adg:=c.toNat_lt
  have hdg:dg s i=c.toNat-48:=by unfold dg;rw[K];rfl
  refine aQ (aL (bM (aL (ai (ae 3 aa (dc (g:=cn) aa (fun I=>?_) (fun I=>?_)))))))
  ·have Z:i=4∨i=7:=by simp at I;omega
   refine aY aa (I) (aY aa (I) (aj (c8 aa (I) aa ?_)))
   refine aX (eW aa aa (dJ (bC (ae 1 aa (aj (cM aa aa ah ?_))))))
   refine ak 1 aa ?_
   exact⟨10-(i+1),ah,i+1,ah,rfl,fun j hj=>by(rcases Nat.lt_succ_iff_lt_or_eq.1 hj with k|rfl;exact hd j k;omega),⟨rfl,rfl,rfl,rfl,rfl,trivial⟩,by rw[←Me Z];rfl,trivial⟩
  have Kj:i≠4:=by simp at I;omega
  refine aw aa (I) (bY aa ?_)
  refine aw aa (I) (iC aa aa ?_)
  refine aj (cS aa (I) aa ?_)
  refine aX (aK aa (fun p7=>?_) (fun p7=>?_))
  ·have Z:i=4∨i=7:=by simp at p7;omega
   refine dJ (bC (ae 1 aa (aj (cM aa aa ah ?_))))
   refine ak 1 aa ?_
   exact⟨10-(i+1),ah,i+1,ah,rfl,fun j hj=>by(rcases Nat.lt_succ_iff_lt_or_eq.1 hj with k|rfl;exact hd j k;omega),⟨rfl,rfl,rfl,rfl,rfl,trivial⟩,by rw[←Me Z];rfl,trivial⟩
  have Kk:i≠7:=by simp at p7;omega
  refine aQ (aL (ai (ae 2 aa (aj (fR aa aa K ?_)))))
  refine ae 2 aa (dc (g:=cW) aa (fun z=>?_) (fun z=>?_))
  ·have J:=BQ hf hs (Ot hl G Kj Kk K (by simp at z;omega))
   refine aY aa (z) (aY aa (z) (aY aa (z) (aY aa (z) (aj (c8 aa (z) aa ?_)))))
   refine aX (eW aa aa (an 2 aa (ay ?_)))
   exact bt rfl rfl (by unfold mq;rw[J];rfl)
  refine aw aa (z) (bY aa ?_)
  refine aw aa (z) (bY aa ?_)
  refine aw aa (z) (fR aa aa K ?_)
  refine aw aa (z) (tC aa aa ?_)
  refine aj (cS aa (z) aa ?_)
  refine aX (aK aa (fun p8=>?_) (fun p8=>?_))
  ·have J:=BQ hf hs (Ot hl G Kj Kk K (by simp at p8;omega))
   refine an 2 aa (ay ?_)
   exact bt rfl rfl (by unfold mq;rw[J];rfl)
  have RN:48≤c.toNat∧c.toNat≤57:=by simp at z p8;omega
  refine aQ (bC (ae 3 aa (aj (fR aa aa K ?_))))
  refine aj (Oq aa aa RN.1 ?_)
  refine aj (rV aa ah ?_)
  refine aj (eg aa aa G ?_)
  refine Ir (LX rfl rfl rfl rfl rfl aq (by show 0+i*1+1≤10;omega) ?_)
  refine aX (bC (ae 1 aa (aj (cM aa aa ah ?_))))
  refine ak 1 aa ?_
  exact⟨10-(i+1),ah,i+1,ah,rfl,fun j hj=>by(rcases Nat.lt_succ_iff_lt_or_eq.1 hj with k|rfl;exact hd j k;exact .inr (.inr (by rw[K];exact x7.2 RN))),⟨rfl,rfl,rfl,rfl,rfl,trivial⟩,by rw[←Vn G Kj Kk,hdg];rfl,trivial⟩
 have G:i=10:=by simp at Y;omega
 subst G
 have O:∀j,dg s j≤207:=fun j=>by have:=((s[j]?).getD 0).toNat_lt;unfold dg;omega
 have g0:=O 0;have g1:=O 1;have g2:=O 2;have g3:=O 3;have g5:=O 5;have g6:=O 6;have g8:=O 8;have g9:=O 9
 obtain⟨n1,n2,n3⟩:=WC hl hd
 have J:=Ou hf hs ⟨by rw[n1],by rw[n2],by rw[n3]⟩
 rw[n1,n2,n3] at J
 have hy:1000*dg s 0+100*dg s 1+10*dg s 2+dg s 3≤9999:=by have:=yy (s:=s.take 4) (n:=4) (by rw[jH];omega);rw[n1] at this;exact w8 this
 have hmm:10*dg s 5+dg s 6≤99:=by have:=yy (s:=(s.drop 5).take 2) (n:=2) (by rw[jH];omega);rw[n2] at this;exact w8 this
 have hdd:10*dg s 8+dg s 9≤99:=by have:=yy (s:=s.drop 8) (n:=2) (by rw[gN];omega);rw[n3] at this;exact w8 this
 refine dJ (ai (aj (eg (j:=0) aa aa aq ?_)))
 refine aj (df (v:=dI (dg s 0:Nat)) aa aa aa ?_)
 refine aj (qp aa aa cQ cQ ?_)
 refine aj (eg (j:=1) aa aa aq ?_)
 refine aj (df (v:=dI (dg s 1:Nat)) aa aa aa ?_)
 refine aj (qp aa aa cQ cQ ?_)
 refine aj (jj aa aa cQ cQ ?_)
 refine aj (eg (j:=2) aa aa aq ?_)
 refine aj (df (v:=dI (dg s 2:Nat)) aa aa aa ?_)
 refine aj (qp aa aa cQ cQ ?_)
 refine aj (jj aa aa cQ cQ ?_)
 refine aj (eg (j:=3) aa aa aq ?_)
 refine aj (df (v:=dI (dg s 3:Nat)) aa aa aa ?_)
 refine aj (jj aa aa cQ cQ ?_)
 rw[show Int.ofNat 1000*(dg s 0:Nat)+Int.ofNat 100*(dg s 1:Nat)+Int.ofNat 10*(dg s 2:Nat)+((dg s 3:Nat):Int)=((1000*dg s 0+100*dg s 1+10*dg s 2+dg s 3:Nat):Int) by simp only[bN];omega]
 refine aj (eg (j:=5) aa aa aq ?_)
 refine aj (df (v:=dI (dg s 5:Nat)) aa aa aa ?_)
 refine aj (qp aa aa cQ cQ ?_)
 refine aj (eg (j:=6) aa aa aq ?_)
 refine aj (df (v:=dI (dg s 6:Nat)) aa aa aa ?_)
 refine aj (jj aa aa cQ cQ ?_)
 rw[show Int.ofNat 10*(dg s 5:Nat)+((dg s 6:Nat):Int)=((10*dg s 5+dg s 6:Nat):Int) by simp only[bN];omega]
 refine aj (eg (j:=8) aa aa aq ?_)
 refine aj (df (v:=dI (dg s 8:Nat)) aa aa aa ?_)
 refine aj (qp aa aa cQ cQ ?_)
 refine aj (eg (j:=9) aa aa aq ?_)
 refine aj (df (v:=dI (dg s 9:Nat)) aa aa aa ?_)
 refine aj (jj aa aa cQ cQ ?_)
 rw[show Int.ofNat 10*(dg s 8:Nat)+((dg s 9:Nat):Int)=((10*dg s 8+dg s 9:Nat):Int) by simp only[bN];omega]
 refine aj (cJ (Yz F (y:=1000*dg s 0+100*dg s 1+10*dg s 2+dg s 3) (m:=10*dg s 5+dg s 6) (d:=10*dg s 8+dg s 9) hy hmm hdd) aa aa ?_)
 refine ak 5 aa (aL (an 2 aa (aK aa (fun Dq=>?_) (fun Dq=>?_))))
 ·have ho:j' (1000*dg s 0+100*dg s 1+10*dg s 2+dg s 3) (10*dg s 5+dg s 6) (10*dg s 8+dg s 9)=none:=by simpa using Dq
  refine an 2 aa (ay ?_)
  exact bt rfl rfl (by unfold mq;rw[J,ho];rfl)
 obtain⟨n,ho⟩:∃n,j' (1000*dg s 0+100*dg s 1+10*dg s 2+dg s 3) (10*dg s 5+dg s 6) (10*dg s 8+dg s 9)=some n:=by cases K:j' (1000*dg s 0+100*dg s 1+10*dg s 2+dg s 3) (10*dg s 5+dg s 6) (10*dg s 8+dg s 9)<;>simp[K] at Dq;exact⟨_,rfl⟩
 refine aQ (an 3 aa (ay ?_))
 exact bt rfl rfl (by unfold mq;rw[J,ho];rfl)
def preB(s p:List UInt8):Bool:=decide (p.length≤s.length)&&decide (s.take p.length=p)
def fu(s:List UInt8)(c:UInt8):List UInt8×List UInt8×Bool:=if 0≤fh c s then(s.take (fh c s).toNat,s.drop ((fh c s).toNat+1),true) else(s,[],false)
def mJ(a b:Int×Int):(Int×Int)×Int:=if¬a.2=0 then((0,0),a.2) else if¬b.2=0 then((0,0),b.2) else if b.1≤a.1 then((0,0),10) else((a.1,b.1),0)
def Ck(r:List UInt8):Prop:=preB r [32]=true∧fh 41 r=(r.length:Nat) -Int.ofNat 1
instance(r:List UInt8):Decidable (Ck r):=inferInstanceAs(Decidable (_∧_))
def mr(s:List UInt8):(Int×Int)×Int:=
 if preB s [91]=true∧(fu (s.drop 1) 44).2.2=true∧Ck (fu (s.drop 1) 44).2.1 then mJ (fQ (fu (s.drop 1) 44).1) (fQ (((fu (s.drop 1) 44).2.1.drop 1).take ((fu (s.drop 1) 44).2.1.length-1-1)))
 else((0,0),5)
def l7(x:(Int×Int)×Int):VV:=.tuple [.agg [dI x.1.1,dI x.1.2],dI x.2]
theorem Cl{s:List UInt8}{c:UInt8}:preB s [c]=true↔s[0]?=some c:=by
 unfold preB;cases s<;>simp
theorem HN{c:UInt8}:∀{a b:List UInt8},(∀x,x∈a→x≠c)→fh c (a++b)=if fh c b= -1 then-1 else fh c b+(a.length:Nat)
 |[],b,_=>by simp
 |x::a,b,h=>by
  have z:=HN (c:=c) (a:=a) (b:=b) fun y A=>h y (oR _ A)
  have G:¬x=c:=h x lh
  show(if x=c then 0 else if fh c (a++b)= -1 then-1 else fh c (a++b)+1)=_
  rw[al G,z]
  have I:=yw c b
  rw[cV]
  by_cases k:fh c b= -1
  ·simp[k]
  rw[al k,al k,al ah];omega
theorem WD{c:UInt8}{a:List UInt8}(h:∀x,x∈a→x≠c):fh c a= -1:=by
 have:=HN (b:=[]) h
 rw[z8] at this;rw[this];rfl
theorem DV{c:UInt8}:∀{s:List UInt8}{k:Nat},fh c s=(k:Int)→s[k]?=some c∧∀j x,j<k→s[j]?=some x→x≠c
 |[],k,h=>by unfold fh at h;omega
 |y::s,k,h=>by
  have h:(if y=c then(0:Int) else if fh c s= -1 then-1 else fh c s+1)=(k:Int):=h
  by_cases z:y=c
  ·rw[az z] at h;obtain rfl:k=0:=by omega
   exact⟨by rw[z];rfl,fun j x G=>absurd G (IL _)⟩
  rw[al z] at h
  by_cases I:fh c s= -1
  ·rw[az I] at h;omega
  rw[al I] at h
  have K:=yw c s
  obtain⟨m,rfl⟩:∃m,k=m+1:=⟨k-1,ah⟩
  obtain⟨J,h2⟩:=DV (c:=c) (s:=s) (k:=m) ah
  refine⟨J,fun j x G A=>?_⟩
  cases j with
  |zero=>simp at A;subst A;exact z
  |succ j=>exact h2 j x ah A
theorem Mf{r:List UInt8}(h:Ck r):2≤r.length:=by
 obtain⟨z,h2⟩:=h
 rw[Cl] at z
 match r,z,h2 with
 |[x],z,h2=>simp at z;subst z;exact absurd h2 aq
 |_::_::_,_,_=>simp
theorem NL{c:UInt8}:∀{s:List UInt8}{k:Nat},s[k]?=some c→(∀j x,j<k→s[j]?=some x→x≠c)→fh c s=(k:Int)
 |[],k,h,_=>by simp at h
 |y::s,0,h,_=>by simp at h;subst h;exact az rfl
 |y::s,k+1,h,h2=>by
  have z:¬y=c:=h2 0 y (Jj _) rfl
  have A:=NL (c:=c) (s:=s) (k:=k) h fun j x I G=>h2 (j+1) x ah G
  show(if y=c then(0:Int) else if fh c s= -1 then-1 else fh c s+1)=_
  rw[al z,A,al ah];omega
def dT(s:List UInt8):List UInt8:=(s.drop 1).take (s.length-1-1)
theorem XF{s:List UInt8}(h:4≤s.length)(h0:s[0]?=some 91)(z:s[s.length-1]?=some 41):s=91::(dT s++[41]):=by
 match s,h0 with
 |x::r,h0=>
  simp at h0;subst h0
  congr 1
  have A:r.length=(r.length-1)+1:=by simp at h;omega
  have h2:r[r.length-1]?=some 41:=by
   have z:=z
   rw[cV,IH] at z
   conv at z=>lhs;rw[A]
   rw[Jh] at z
   exact z
  show r=r.take (r.length+1-1-1)++[41]
  rw[IH]
  conv=>lhs;rw[←IK (l:=r),A,take_succ h2]
variable{s:List UInt8}{k:Nat}
theorem NM(J:s=91::(dT s++[41]))(hk:k≤(dT s).length)(I:∀j x,j<k→(dT s)[j]?=some x→x≠44)(K:k<(dT s).length→(dT s)[k]?=some 44):
  (k<(dT s).length→fu (s.drop 1) 44=((dT s).take k,(dT s).drop (k+1)++[41],true))∧(¬k<(dT s).length→(fu (s.drop 1) 44).2.2=false):=by
 generalize dT s=i at*
 subst J
 show(_→fu (i++[41]) 44=_)∧(_→(fu (i++[41]) 44).2.2=false)
 constructor
 ·intro h
  have G:fh 44 (i++[41])=(k:Int):=NL (by rw[rz h];exact K h) fun j x A z=>I j x A (by rw[rz ah] at z;exact z)
  unfold fu
  rw[G,az ah,FV,List.take_append_of_le_length ah,List.drop_append_of_le_length ah]
 intro h
 obtain rfl:k=i.length:=by omega
 have G:fh 44 (i++[41])= -1:=WD fun x z=>by
  rcases List.mem_append.1 z with z|z
  ·obtain⟨j,A,he⟩:=IM z
   exact I j x A (by rw[fe A,he])
  rcases List.mem_singleton.1 z with rfl;decide
 unfold fu
 rw[G,al ah]
theorem WE(J:s=91::(dT s++[41]))(hk:k+1<(dT s).length)(K:∀j x,j<k→(dT s)[j]?=some x→x≠44)(O:(dT s)[k]?=some 44)(z:(dT s)[k+1]?=some 32)(A:∀x,x∈(dT s).drop (k+2)→x≠41):
  mr s=mJ (fQ ((dT s).take k)) (fQ ((dT s).drop (k+2))):=by
 have U:=(NM J ah K fun _=>O).1 ah
 have G:(dT s).drop (k+1)=32::(dT s).drop (k+2):=by
  obtain⟨Y,he⟩:=List.getElem?_eq_some_iff.1 z
  rw[Cs Y,he]
 have h2:preB s [91]=true:=Cl.2 (by rw[J];rfl)
 have Z:Ck ((dT s).drop (k+1)++[41]):=by
  refine⟨Cl.2 (by rw[G];rfl),?_⟩
  rw[HN (by rw[G];intro x I;rcases List.mem_cons.1 I with rfl|I;decide;exact A x I)]
  rw[bE,dY,show fh 41 [41]=0 from rfl,al aq]
  simp
 unfold mr
 rw[U,az ⟨h2,rfl,Z⟩]
 congr 2
 rw[G]
 show((dT s).drop (k+2)++[41]).take _=_
 rw[As,cV,bE,dY]
 exact List.take_left' ah
theorem Ib(K:s=91::(dT s++[41]))(hk:k≤(dT s).length)(O:∀j x,j<k→(dT s)[j]?=some x→x≠44)(U:k<(dT s).length→(dT s)[k]?=some 44)
  (h:(dT s).length≤k+1∨¬(dT s)[k+1]?=some 32∨∃x,x∈(dT s).drop (k+2)∧x=41):mr s=((0,0),5):=by
 obtain⟨Y,h2⟩:=NM K hk O U
 refine al fun⟨_,G,I⟩=>?_
 by_cases J:k<(dT s).length
 ·rw[Y J] at I
  obtain⟨z,A⟩:=I
  have A:fh 41 ((dT s).drop (k+1)++[41])=(((dT s).drop (k+1)).length:Nat):=by rw[A,bE,dY];simp
  have Z:=(DV A).2
  rw[Cl] at z
  rcases h with h|h|⟨x,hx,rfl⟩
  ·obtain h:(dT s).length=k+1:=by omega
   rw[←h,IJ] at z;simp at z
  ·by_cases kC:k+1<(dT s).length
   ·rw[rz (by rw[gN];omega),tR] at z
    exact h z
   obtain h:(dT s).length=k+1:=by omega
   rw[←h,IJ] at z;simp at z
  obtain⟨j,hj,he⟩:=IM hx
  rw[gN] at hj
  refine Z (j+1) 41 (by rw[gN];omega) ?_ rfl
  rw[rz (by rw[gN];omega),tR]
  rw[List.getElem_drop] at he
  rw[show k+1+(j+1)=k+2+j by omega,fe ah,he]
 rw[h2 J] at G;cases G
theorem Ic(h:s.length<4∨¬s[0]?=some 91∨¬s[s.length-1]?=some 41):mr s=((0,0),5):=by
 refine al fun⟨I,G,J⟩=>?_
 rw[Cl] at I
 have z:=Mf J
 have A:=J.2
 unfold fu at G A z
 split at G
 ·rename_i hp
  rw[az hp] at A z
  simp only at A z
  generalize (fh 44 (s.drop 1)).toNat=m at A z
  rw[gN,gN] at z
  have O:fh 41 ((s.drop 1).drop (m+1))=(((s.drop 1).drop (m+1)).length-1:Nat):=by
   rw[A,gN,gN];simp only[bN];omega
  have K:=(DV O).1
  rw[tR,tR,gN,gN] at K
  rcases h with h|h|h
  ·omega
  ·exact h I
  exact h (by rw[←K];congr 1;omega)
 cases G
theorem sI{a b:UInt8}(n:Nat)(z:a.toNat=n)(A:b.toNat=n):a=b:=UInt8.toNat_inj.1 (z.trans A.symm)
theorem Ov{T:bd}(F:FT T)(X:FX T)(s:List UInt8)(c:UInt8):Sound T 167 [dS s,.d (.i .u8 (c.toNat:Nat))] fun r=>r=dI (fh c s):=by
 refine dG F.abS aa (an 1 aa (ai (ae 2 aa (aj (cJ (SY X s c) aa aa ?_)))))
 exact ak 1 aa (ay (bt aa aa aa))
theorem NN{T:bd}(F:FT T)(X:FX T)(s:List UInt8)(c:UInt8):Sound T 118 [dS s,.d (.i .u8 (c.toNat:Nat))] fun r=>r=dI (fh c s):=by
 refine dG F.abk aa (an 1 aa (ai (ae 2 aa (aj (cJ (Ov F X s c) aa aa ?_)))))
 exact ak 1 aa (ay (bt aa aa aa))
theorem P1{T:bd}(F:FT T)(s p:List UInt8):Sound T 267 [dS s,dS p] fun r=>r=dB (preB s p):=by
 refine dG F.acQ aa (an 1 aa (ai (ae 6 aa (dc (g:=aR) aa (fun z=>?_) (fun z=>?_)))))
 ·have A:preB s p=decide ((s.drop 0).take (p.length-0)=p):=by unfold preB;rw[show decide (p.length≤s.length)=true by simp at z⊢;omega];rfl
  refine aw aa (z) (bY aa ?_)
  refine aw aa (z) (bY aa ?_)
  refine aw aa (z) (uM aa ?_)
  refine aw rfl (z) (ko (l:=0) (h:=p.length) rfl ⟨_,rfl⟩ rfl ah (by simp at z;omega) ?_)
  refine aw aa (z) (bY aa ?_)
  refine aw aa (z) (nL aa aa ?_)
  refine aj (c8 aa (z) aa ?_)
  refine ak 1 aa (ay ?_)
  exact bt rfl rfl (by rw[A];rfl)
 have A:preB s p=false:=by unfold preB;rw[show decide (p.length≤s.length)=false by simp at z⊢;omega];rfl
 refine aY aa (z) (aY aa (z) (aY aa (z) (aY aa (z) (aY aa (z) (aY aa (z) (aj (cS aa (z) aa ?_)))))))
 refine ak 1 aa (ay ?_)
 exact bt rfl rfl (by rw[A];rfl)
theorem XG{T:bd}(F:FT T)(s p:List UInt8):Sound T 242 [dS s,dS p] fun r=>r=dB (preB s p):=by
 refine dG F.acF aa (an 1 aa (ai (ae 2 aa (aj (cJ (P1 F s p) aa aa ?_)))))
 exact ak 1 aa (ay (bt aa aa aa))
theorem YA{T:bd}(F:FT T)(s p:List UInt8):Sound T 265 [dS s,dS p] fun r=>r= .tuple [dS (if preB s p=true then s.drop p.length else s),dB (preB s p)]:=by
 refine dG F.acO aa (an 2 aa (aL (ai (ae 2 aa (aj (cJ (P1 F s p) aa aa ?_))))))
 refine ak 1 aa (aK aa (fun z=>?_) (fun z=>?_))
 ·have hp:preB s p=false:=by simpa using z
  refine an 3 aa (ay ?_)
  exact bt rfl rfl (by rw[hp];rfl)
 have hp:preB s p=true:=by simpa using z
 have A:p.length≤s.length:=by unfold preB at hp;simp at hp;exact hp.1
 refine aQ (ai (ae 3 aa (aj (ko (l:=p.length) (h:=s.length) aa aa ⟨_,aa⟩ A (bR _) ?_))))
 rw[show(s.drop p.length).take (s.length-p.length)=s.drop p.length from pR (by rw[gN];omega)]
 refine ak 2 aa (ay ?_)
 exact bt rfl rfl (by rw[hp];rfl)
theorem XH{T:bd}(F:FT T)(s p:List UInt8):Sound T 240 [dS s,dS p] fun r=>r= .tuple [dS (if preB s p=true then s.drop p.length else s),dB (preB s p)]:=by
 refine dG F.acD aa (an 2 aa (ai (ae 2 aa (aj (cJ (YA F s p) aa aa ?_)))))
 exact ak 4 aa (ay (bt aa aa aa))
theorem XI{T:bd}(F:FT T)(X:FX T)(s:List UInt8)(c:UInt8):Sound T 232 [dS s,dS [c]] fun r=>r=dI (fh c s):=by
 refine dG F.acx aa (an 1 aa (an 3 aa (aL (bM (ai (ae 3 aa (aw aa aa (bY aa ?_))))))))
 refine aw aa aa (bY aa ?_)
 refine aw aa aa (nL aa aa ?_)
 refine ak 2 aa (aK aa (fun z=>?_) (fun z=>?_))
 ·have A:s=[c]:=(by simpa using z:[c]=s).symm
  have G:fh c s=0:=by rw[A];exact az rfl
  refine an 1 aa (ay ?_)
  exact bt rfl rfl (by rw[G];rfl)
 refine an 3 aa (eW aa aa (ai (ae 2 aa (aj (fR (j:=0) (c:=c) aa aa aa ?_)))))
 refine aj (cJ (Ov F X s c) aa aa ?_)
 exact ak 1 aa (ay (bt aa aa aa))
theorem adh{T:bd}(F:FT T)(X:FX T)(s:List UInt8)(c:UInt8)(I:s.length<1000000):Sound T 266 [dS s,dS [c]] fun r=>r= .tuple [dS (fu s c).1,dS (fu s c).2.1,dB (fu s c).2.2]:=by
 refine dG F.acP aa (an 3 aa (aL (ai (ae 2 aa (aj (cJ (XI F X s c) aa aa ?_))))))
 refine ak 1 aa (an 2 aa (aK aa (fun z=>?_) (fun z=>?_)))
 ·obtain⟨k,hk⟩:∃k:Nat,fh c s=(k:Int):=⟨(fh c s).toNat,by simp at z;omega⟩
  have G:=NJ c s
  rw[hk] at G
  have A:fu s c=(s.take k,s.drop (k+1),true):=by unfold fu;rw[hk,az ah,FV]
  rw[hk]
  refine eO (bD 2 aa (bG (ko (l:=0) (h:=k) aa ⟨_,aa⟩ aa ah ah ?_)))
  refine bD 4 aa ?_
  refine bG (jj rfl rfl (by show _≤(k:Int)+Int.ofNat 1;simp only[bN];omega) (by show(k:Int)+Int.ofNat 1≤_;simp only[bN];omega) ?_)
  refine bG (ko (l:=k+1) (h:=s.length) aa aa ⟨_,aa⟩ ah ah ?_)
  rw[show(s.drop (k+1)).take (s.length-(k+1))=s.drop (k+1) from pR (by rw[gN];omega)]
  refine du 3 aa (ay ?_)
  exact bt rfl rfl (by rw[A];rfl)
 have A:fu s c=(s,[],false):=by unfold fu;rw[al (by simp at z;omega)]
 refine aQ (an 4 aa (ay ?_))
 exact bt rfl rfl (by rw[A];rfl)
theorem YB{T:bd}(F:FT T)(X:FX T)(s:List UInt8)(c:UInt8)(z:s.length<1000000):Sound T 241 [dS s,dS [c]] fun r=>r= .tuple [dS (fu s c).1,dS (fu s c).2.1,dB (fu s c).2.2]:=by
 refine dG F.acE aa (an 3 aa (ai (ae 2 aa (aj (cJ (adh F X s c z) aa aa ?_)))))
 exact ak 6 aa (ay (bt aa aa aa))
theorem adi{T:bd}(F:FT T)(s:List UInt8)(c:UInt8)(Z:s.length<1000000):Sound T 234 [dS s,.d (.i .u8 (c.toNat:Nat))] fun r=>r=dB (decide (c∈s)):=by
 refine dG F.acy aa (an 1 aa (aL (an 1 aa (bM ?_))))
 refine d7 (fun k VE B=>∃i,i≤s.length∧k=s.length-i∧(∀x,x∈s.take i→x≠c)∧bn [(0,dS s),(1,.d (.i .u8 (c.toNat:Nat))),(4,dB false),(5,dI (i:Nat))] VE∧bn [] B) ?_ (k:=s.length) ⟨0,dp _,rfl,fun _ h=>(by cases h),⟨rfl,rfl,rfl,rfl,trivial⟩,trivial⟩
 rintro k VE B⟨i,hi,rfl,G,U,Y⟩
 refine db _ _ U Y (aL (an 4 aa (aK aa (fun I=>?_) (fun I=>?_))))
 ·have J:i<s.length:=by simp at I;omega
  obtain⟨b,K⟩:=jO J
  refine aQ (aL (bM (ai (ae 2 aa (aj (fR aa aa K ?_))))))
  refine ae 1 aa (aj (iC aa aa ?_))
  refine aX (aK aa (fun z=>?_) (fun z=>?_))
  ·have O:decide (c∈s)=true:=by(obtain rfl:b=c:=UInt8.toNat_inj.1 (by simp at z;omega));simpa using lJ K
   refine an 1 aa (ay ?_)
   exact bt rfl rfl (by rw[O];rfl)
  refine aQ (bC (ae 1 aa (aj (cM aa aa ah ?_))))
  refine ak 1 aa ?_
  exact⟨s.length-(i+1),ah,i+1,ah,rfl,fun x A=>by(rw[take_succ K] at A;rcases List.mem_append.1 A with A|A;exact G x A;rcases List.mem_singleton.1 A with rfl;exact fun e=>absurd z (by rw[e];simp)),⟨rfl,rfl,rfl,rfl,trivial⟩,trivial⟩
 have O:decide (c∈s)=false:=by(have:i=s.length:=by simp at I;omega);subst this;rw[IK] at G;simpa using fun k=>G c k rfl
 refine dJ (an 1 aa (ay ?_))
 exact bt rfl rfl (by rw[O];rfl)
end Go.Ev.Pp
