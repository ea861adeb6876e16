/- Part 14 of rules for walks through the code of a program, and of such walks; what each part proves is said by its theorems. -/
import Derived.Test.YtmpoloiempjdpaaGreatS12
import Derived.Test.YtmpoloiempjdpaaGreatS13
set_option linter.unusedVariables false
set_option linter.unusedSimpArgs false
noncomputable section
set_option maxRecDepth 100000
set_option maxHeartbeats 4000000
namespace Go.Ev.Rp
open Go Go.Ev.Pp
def dR(X:List Int)(m:Nat):List Ty:=[.l m cB,.q (fv X)]
def MP(X:List Int):List Ty:=[.q (InX X),.l 1000000000 cB,.i .i64 (-9223372036854775808) 9223372036854775807,.i .i64 (-9223372036854775808) 9223372036854775807,.i .i64 (-9223372036854775808) 9223372036854775807,.i .i64 (-9223372036854775808) 9223372036854775807]
def Uw(X:List Int):List Ty:=[.q (InX X),.l 13 cB,.i .i64 (-9223372036854775808) 9223372036854775807,.i .i64 (-9223372036854775808) 9223372036854775807,.i .i64 (-9223372036854775808) 9223372036854775807,.i .i64 (-9223372036854775808) 9223372036854775807]
def MQ(X:List Int):List Ty:=[.l 13 cB,.i .i64 (-9223372036854775808) 9223372036854775807,.i .i64 (-9223372036854775808) 9223372036854775807,.q (fv X)]
def Ux(X:List Int):List Ty:=[.s 1000,.l 200 bn,.l 100000 (Uw X)]
def MR(X:List Int):List Ty:=[.s 1000,.l 200 bn,.l 100000 (MQ X)]
def HZ(X:List Int):List Ty:=[.s 1000,.l 200 bn,.l 100000 (dR X 13)]
theorem rowP_of{X:List Int}{m:Nat}{w:ah}(h:af (dR X m) w):af [.q (Ty.l m cB).ok,.q (fv X)] w:=fun r z=>by
 obtain⟨d,q,rfl,A,h2⟩:=dw (h r z);exact aj (bT A) h2
theorem rowW_of{X:List Int}{m:Nat}{w:ah}(h:af [.q (Ty.l m cB).ok,.q (fv X)] w):af (dR X m) w:=fun r z=>by
 obtain⟨d,q,rfl,A,h2⟩:=dw (h r z);exact aj (Ty.bT A) h2
def ye(X:List Int)(m:Nat):List Ty:=[.l m cB,.q (ry),.q (fv X)]
def Uy:List Ty:=[.l 64 bn]
def fg:List Ty:=[.i .i64 (-9223372036854775808) 9223372036854775807,.i .i64 (-9223372036854775808) 9223372036854775807]
def ku:List Ty:=[.i .i64 (-9223372036854775808) 9223372036854775807,.i .i64 (-9223372036854775808) 9223372036854775807,.i .i64 (-9223372036854775808) 9223372036854775807,.i .i64 (-9223372036854775808) 9223372036854775807,.s 1000,.l 64 bn,.l 64 fg]
theorem uX{X:List Int}{a b:Nat}{w:ah}(h:af (dR X a) w)(z:a≤b):af (dR X b) w:=fun r A=>by
 obtain⟨d,q,rfl,G,h2⟩:=dw (h r A);obtain⟨rows,I,L,M⟩:=Ty.aM G;exact aj (aM I (eT L z) M) h2
theorem rowD_mono{X:List Int}{a b n:Nat}{w:ah}(h:af [.l n (dR X a)] w)(z:a≤b):af [.l n (dR X b)] w:=fun r A=>by
 obtain⟨d,q,rfl,G,h2⟩:=dw (h r A);obtain⟨rows,I,L,M⟩:=Ty.aM G;exact aj (aM I L (uX M z)) h2
def A5(X:List Int):List Ty:=[.s 1000,.l 100 dX,.l 200 bn,.l 4 ew,.l 4 dW,.l 100000 (MP X)]
def yf:List Ty:=[.i .i64 0 12,.i .i64 0 30,.i .i64 0 30,.s 1000,.s 1000,.i .i64 (-9223372036854775808) 9223372036854775807,.i .i64 (-9223372036854775808) 9223372036854775807,.s 1000]
def oN:List Ty:=[.s 1000]
def yg:List Ty:=[.b,.s 1000,.s 1000,.i .i64 (-1) 30]
def SG(ne:Nat):List Ty:=[.b,.q (BE yf ne),.q (A4 ne),.q (LstQ yg 1 2),.i .i64 (-1) 30,.b,.l 4 [.i .i64 0 ((ne:Int) -1)]]
def agE(T:aL)(c o:DC):Prop:=∃w wo:ah,au w c∧1≤w.length∧w.length≤2∧yd SG w∧au wo o∧wo.length≤2∧w.length≤wo.length+1∧af bn wo∧Sound T 166 [.agg [.d c,.d o]] fun r=>∃s:List UInt8,r=dS s
def xI(T:aL)(A:List UInt8):Prop:=A.length≤1000∧Sound T 120 [dS A] fun r=>∃(c o:DC)(z e:Int),r= .tuple [.agg [.d c,.d o],dI z,dI e]∧(-9223372036854775808≤z∧z≤9223372036854775807)∧(-9223372036854775808≤e∧e≤9223372036854775807)∧(e=0→agE T c o)
theorem rowW_x{X:List Int}{m:Nat}{w:ah}(h:af (dR X m) w)(G:m≤1000000000)(I:X.length≤1000000000):af HY w:=fun r L=>by
 obtain⟨d,q,rfl,M,h2⟩:=dw (h r L);obtain⟨d2,q2,rfl,O,U⟩:=dw h2;obtain rfl:=oL U;obtain⟨rows,Y,Z,k3⟩:=Ty.aM M;obtain⟨z,j1,A⟩:=Ty.bT O;exact aj (aM Y (eT Z G) k3) (aj (aM j1 (eT A.len I) A.1) bm)
def Ja(T:aL)(d:DC):Prop:=∃z:List UInt8,d=aw z∧xI T z
theorem tabX_of{nv mv:Nat}{w:ah}(h:af (d8 nv mv) w)(h1:nv≤100)(h2:mv≤100000)(h3:w.length≤16):∃X:List Int,X.length≤2000000∧af (A5 X) w:=by
 have main:∀w:ah,af (d8 nv mv) w→∃X:List Int,X.length≤100000*w.length∧af (A5 X) w:=by
  intro w
  induction w with
  |nil=>exact fun _=>⟨[],gL _,cj⟩
  |cons r rs ih=>
   intro h;obtain⟨X,hl,hx⟩:=ih fun q G=>h q (oV _ G)
   have A:=h r (jo ..);obtain⟨d0,_,rfl,M,A⟩:=dw A;obtain⟨d1,_,rfl,O,A⟩:=dw A;obtain⟨d2,_,rfl,U,A⟩:=dw A;obtain⟨d3,_,rfl,k3,A⟩:=dw A;obtain⟨d4,_,rfl,k4,A⟩:=dw A;obtain⟨d5,_,rfl,k5,A⟩:=dw A;obtain rfl:=oL A;obtain⟨v1,a1,b1,c1⟩:=Ty.aM O;obtain⟨v5,a5,b5,c5⟩:=Ty.aM k5;have key:∀(Y:List Int)(v:ah),af gj v→(∀z,z∈v.map hdI→z∈Y)→af (MP Y) v:=fun Y v hv hy q G=>by
    obtain⟨e0,_,rfl,m0,I⟩:=dw (hv q G);obtain⟨z,rfl,z1,z2⟩:=Ty.dV m0;exact aj (bT ⟨z,aa,⟨z1,z2⟩,hy z (List.mem_map.2 ⟨_,G,aa⟩)⟩) I
   have sub:∀{Y Z:List Int}{v:ah},(∀z,z∈Y→z∈Z)→af (MP Y) v→af (MP Z) v:=fun hYZ hv q G=>by
    obtain⟨e0,_,rfl,m0,I⟩:=dw (hv q G);obtain⟨z,rfl,z1,z2⟩:=Ty.bT m0;exact aj (bT ⟨z,aa,z1,hYZ _ z2⟩) I
   refine⟨v5.map hdI++X,by simp only[e7,pM,gB];omega,fun q G=>?_⟩;rcases List.mem_cons.1 G with rfl|G
   ·exact aj M (aj (aM a1 (eT b1 h1) c1) (aj U (aj k3 (aj k4 (aj (aM a5 (eT b5 h2) (sub (fun z L=>List.mem_append.2 (.inl L)) (key _ _ c5 fun z L=>L))) bm)))))
   have A:=hx q G;obtain⟨d0,_,rfl,M,A⟩:=dw A;obtain⟨d1,_,rfl,O,A⟩:=dw A;obtain⟨d2,_,rfl,U,A⟩:=dw A;obtain⟨d3,_,rfl,k3,A⟩:=dw A;obtain⟨d4,_,rfl,k4,A⟩:=dw A;obtain⟨d5,_,rfl,k5,A⟩:=dw A;obtain rfl:=oL A;obtain⟨v5,a5,b5,c5⟩:=Ty.aM k5;exact aj M (aj O (aj U (aj k3 (aj k4 (aj (aM a5 b5 (sub (fun z L=>List.mem_append.2 (.inr L)) c5)) bm)))))
 obtain⟨X,h4,h5⟩:=main w h;exact⟨X,an,h5⟩
def XU(n s t u:List UInt8):List (List UInt8):=[([83,69,76,69,67,84,32,42,32,70,82,79,77,32]++t),((((([83,69,76,69,67,84,32,97,32,44,32,98,32,70,82,79,77,32]++t)++[32,87,72,69,82,69,32,97,32,61,32])++n)++[32,79,82,32,98,32,60,32])++s),((([83,69,76,69,67,84,32,98,32,70,82,79,77,32]++t)++[32,87,72,69,82,69,32,78,79,84,32,97,32,60,32])++n),([83,69,76,69,67,84,32,67,79,85,78,84,32,40,32,42,32,41,32,70,82,79,77,32]++t),(([83,69,76,69,67,84,32,98,32,44,32,83,85,77,32,40,32,97,32,41,32,65,83,32,116,111,116,97,108,32,70,82,79,77,32]++t)++[32,71,82,79,85,80,32,66,89,32,98]),((([83,69,76,69,67,84,32,77,73,78,32,40,32,97,32,41,32,44,32,77,65,88,32,40,32,98,32,41,32,70,82,79,77,32]++t)++[32,87,72,69,82,69,32,97,32,62,32])++n),[83,69,76,69,67,84,32,116,32,46,32,97,32,44,32,117,32,46,32,98,32,70,82,79,77,32,116,32,74,79,73,78,32,117,32,79,78,32,116,32,46,32,97,32,61,32,117,32,46,32,97],(((([83,69,76,69,67,84,32,120,32,46,32,98,32,44,32,121,32,46,32,98,32,70,82,79,77,32]++t)++[32,65,83,32,120,32,76,69,70,84,32,74,79,73,78,32])++u)++[32,65,83,32,121,32,79,78,32,120,32,46,32,97,32,61,32,121,32,46,32,97,32,65,78,68,32,120,32,46,32,98,32,61,32,121,32,46,32,98]),((([83,69,76,69,67,84,32,97,32,70,82,79,77,32]++t)++[32,69,88,67,69,80,84,32,65,76,76,32,83,69,76,69,67,84,32,97,32,70,82,79,77,32])++u),((([83,69,76,69,67,84,32,97,32,70,82,79,77,32]++t)++[32,73,78,84,69,82,83,69,67,84,32,65,76,76,32,83,69,76,69,67,84,32,97,32,70,82,79,77,32])++u),((([83,69,76,69,67,84,32,97,32,44,32,98,32,70,82,79,77,32]++t)++[32,85,78,73,79,78,32,65,76,76,32,83,69,76,69,67,84,32,97,32,44,32,98,32,70,82,79,77,32])++u),([83,69,76,69,67,84,32,68,73,83,84,73,78,67,84,32,98,32,70,82,79,77,32]++t),([83,69,76,69,67,84,32,97,32,43,32,49,32,44,32,99,32,70,82,79,77,32]++t),(([83,69,76,69,67,84,32,97,32,70,82,79,77,32]++t)++[32,87,72,69,82,69,32,98,32,73,83,32,78,85,76,76]),((((([83,69,76,69,67,84,32,68,73,83,84,73,78,67,84,32,97,32,70,82,79,77,32]++t)++[32,87,72,69,82,69,32,97,32,42,32,50,32,60,32,49,32,85,78,73,79,78,32,65,76,76,32,83,69,76,69,67,84,32,97,32,45,32])++n)++[32,70,82,79,77,32])++u)]
def Cn(T:aL):Prop:=xI T []∧∀n s t u:List UInt8,(n=[48]∨n=[49]∨n=[45,32,49]∨n=[78,85,76,76])→(s=[39,39]∨s=[39,97,39]∨s=[39,98,39,39,39])→(t=[116]∨t=[117])→(u=[117]∨u=[116])→∀(k:Nat)(z:List UInt8),(XU n s t u)[k]?=some z→xI T z
def MS(T:aL):List Ty:=[.i .i64 1 5,.i .i64 (-9223372036854775808) 9223372036854775807,.l 2 [.i .i64 (-9223372036854775808) 9223372036854775807,.s 1000,.l 1000000000 cB,.i .i64 (-9223372036854775808) 9223372036854775807,.i .i64 (-9223372036854775808) 9223372036854775807,.l 100 ey,.i .i64 (-9223372036854775808) 9223372036854775807,.l 10 fg,.s 1000,.l 100 dX,.l 200 bn,.l 4 ew,.l 4 dW,.i .i64 (-9223372036854775808) 9223372036854775807,.s 1000,.i .i64 (-9223372036854775808) 9223372036854775807],.i .i64 (-9223372036854775808) 9223372036854775807,.i .i64 (-9223372036854775808) 9223372036854775807,.i .i64 (-9223372036854775808) 9223372036854775807,.q (Ja T),.i .i64 0 4,.i .i64 (-9223372036854775808) 9223372036854775807,.i .i64 (-9223372036854775808) 9223372036854775807]
abbrev tTL(nv:Nat):Ty:=.q (pT (d8 nv 4096) 0 16)
end Go.Ev.Rp
namespace Go.Ev
open Go
def Ty.all:Ty→(DC→Prop)→Prop
 |.i k lo hi,P=>∀z:Int,lo≤z→z≤hi→P (.i k z)
 |.b,P=>∀b:Bool,P (.b b)
 |.s n,P=>∀s:List UInt8,s.length≤n→P (aw s)
 |.l n row,P=>∀(rows:ah)(d:DC),au rows d→rows.length≤n→af row rows→P d
 |.e y,P=>P y
 |.x,P=>∀d,P d
 |.q p,P=>∀d,p d→P d
def BG:List Ty→(List DC→Prop)→Prop
 |[],P=>P []
 |t::z,P=>t.all fun d=>BG z fun r=>P (d::r)
theorem Ty.all_ok:∀{t:Ty}{P:DC→Prop}{d:DC},t.all P→t.ok d→P d
 |.i k lo hi,P,d,h,A=>by obtain⟨z,rfl,a,b⟩:=Ty.dV A;exact h z a b
 |.b,P,d,h,A=>by obtain⟨z,rfl⟩:=Ty.eU A;exact h z
 |.s n,P,d,h,A=>by obtain⟨z,rfl,a⟩:=Ty.bH A;exact h z a
 |.l n row,P,d,h,A=>by obtain⟨z,a,b,c⟩:=Ty.aM A;exact h z d a b c
 |.e y,P,d,h,A=>by simp only[Ty.ok] at A;subst A;exact h
 |.x,P,d,h,A=>h d
 |.q p,P,d,h,A=>h d (Ty.bT A)
theorem BG.ok:∀{row:List Ty}{P:List DC→Prop}{r:List DC},BG row P→fk row r→P r
 |[],P,r,h,k=>by obtain rfl:=oL k;exact h
 |t::z,P,r,h,k=>by
  obtain⟨d,q,rfl,A,h2⟩:=dw k;have:=Ty.all_ok (P:=fun d=>BG z fun r=>P (d::r)) h A;exact BG.ok (P:=fun r=>P (d::r)) this h2
section
variable{T:aL}{VE:bb}{B:aK}{Q:VV→aK→Prop}
theorem Lk{x i:aG}{es:Nat}{k:IntKind}{rows:ah}{row:List Ty}{d:DC}{z:Int}(G:x.vv VE=some (.d d))(hi:i.vv VE=some (.d (.i k z)))(I:au rows d)(L:af row rows)(M:row.length=es)(h0:0≤z)(Y:z<(rows.length:Int))
  (O:BG row fun r=>rows[z.toNat]?=some r→Q (.rp r 0) B):VI T (.kr es x i) VE B [] Q:=by
 have U:z.toNat<rows.length:=by omega
 have A:rows[z.toNat]?=some rows[z.toNat]:=dx U;have ho:=lJ L A;exact aH G hi I h0 A ((RI ho).trans M) (BG.ok (P:=fun r=>rows[z.toNat]?=some r→Q (.rp r 0) B) O ho A)
end
theorem CM{VE:bb}{k:Nat}{v:VV}(h:aF VE k=some v):∀j w,aF ((k,v)::VE) j=some w→aF VE j=some w:=fun j w z=>by
 rw[cP] at z
 split at z
 ·rename_i e;subst e;rw[h];exact z
 exact z
theorem bu{T:aL}{VE:bb}{B:aK}{d:Option Key}{g:Key}{w t:Bool}{qq:Option (List Nat)}{op:br}{p q:Prop}{ops:List bl}{Q:bb→aK→Prop}(z:aF VE g.n=some (.d (.b t)))(A:p→VO T (⟨d,some (g,w),qq,op⟩::ops) ((g.n,.d (.b true))::VE) B Q)(h2:q→VO T (⟨d,some (g,w),qq,op⟩::ops) ((g.n,.d (.b false))::VE) B Q)(G:(t=true)=p:=by first|(simp only[eM,gQ,gD,mE,gm];first|done|rfl)|rfl)(I:(t=false)=q:=by first|(simp only[eM,gQ,gD,mE,gm];first|done|rfl)|rfl):VO T (⟨d,some (g,w),qq,op⟩::ops) VE B Q:=by
 cases t with
 |true=>exact abR (CM z) (A (Eq.mp G rfl))
 |false=>exact abR (CM z) (h2 (Eq.mp I rfl))
theorem ay{T:aL}{VE:bb}{B:aK}{R:Ex→bb→aK→Prop}{k:Key}{a b:IC}{t:Bool}{p q:Prop}(z:aF VE k.n=some (.d (.b t)))(A:p→VC T a ((k.n,.d (.b true))::VE) B R)(h2:q→VC T b ((k.n,.d (.b false))::VE) B R)(G:(t=true)=p:=by first|(simp only[eM,gQ,gD,mE,gm];first|done|rfl)|rfl)(I:(t=false)=q:=by first|(simp only[eM,gQ,gD,mE,gm];first|done|rfl)|rfl):VC T (.cond (.t k) a b) VE B R:=by
 cases t with
 |true=>exact aaT z (abS (CM z) (A (Eq.mp G rfl)))
 |false=>exact aaU z (abS (CM z) (h2 (Eq.mp I rfl)))
def Ll(o:bl):Bool:=match o.op with
 |.conv _ _=>false
 |_=>true
theorem qU(n:Nat){T:aL}{VE:bb}{B:aK}{Q:bb→aK→Prop}{ops:List bl}{bj:bb}{B':aK}{r:List bl}(_hc:(ops.take n).all Ll=true)(h:t5 n ops VE B=some (bj,B',r))(k:VO T r bj B' Q):VO T ops VE B Q:=di n h k
theorem qV(n:Nat){T:aL}{VE:bb}{B:aK}{Q:bb→aK→Prop}{ops:List bl}{fl lV:List FL}{bj:bb}{B':aK}{r:List bl}(_hc:(ops.take n).all Ll=true)(h:vI n ops VE B fl=some (bj,B',lV,r))(k:VQ T r bj B' lV Q):VQ T ops VE B fl Q:=kA n h k
def ta(row:List Ty)(z:ah)(f:Nat)(r:ah):Prop:=(r=[]∧(z=[]∨z=[]++[[.nil]]))∨(r≠[]∧∃pre,z=pre++[[.raw f r.length 2]]∧af [.l 1000000 row] pre)
theorem ta.mk{row:List Ty}{pre w:ah}{d:DC}{j f:Nat}{r:ah}{n:Nat}(z:w=(pre++[[d]]).set j (jV [d] 0 [.raw f n 2]))(A:j=pre.length)(G:n=r.length)(I:r≠[])(L:af [.l 1000000 row] pre):ta row w f r:=by
 refine .inr ⟨I,pre,?_,L⟩;subst A G;rw[z,List.set_append_right _ _ (bd _)];simp[jV]
theorem agF{row:List Ty}{pre w:ah}(z:af [.l 1000000 row] pre)(A:af row w)(G:w.length≤1000000):af [.l 1000000 row] (pre++[[.sl w]]):=eB z (ee (aj (aM (.inl rfl) G A) bm))
section
variable{T:aL}{VE:bb}{B:aK}
theorem vi_load1PA{Q:VV→aK→Prop}{a:aG}{b j o es elem aC f:Nat}{rows:ah}{row:List DC}{x:DC}(G:a.vv VE=some (.bp b rows.length j o es))(I:aF B b=some (.bK f (.acc elem aC es rows)))(L:rows[j]?=some row)(M:row[o]?=some x)(O:Q (.d x) B):VI T (.load 1 false a) VE B [] Q:=fun _ _ _ _ _ z=>by
 obtain⟨_,U,A⟩:=z.bC G;simp only[aE] at A;subst A;obtain⟨l,Y,Z,k5⟩:=de.C8 (z.box b _ I).2 L;obtain⟨y,k6,k7⟩:=k5.get M;exact zM U Y (by rw[Z]) k6 (du z (v:=.d x) (by simp only[aE];exact k7) O)
theorem Rel.frzR{H0:Nat→Nat}{X0:Nat→Prop}{E:Env}{H:ax}{β:Nat→Nat}(Z:Rel H0 X0 VE B E H β){b c f elem aC es O A:Nat}{w pre:ah}(hb:aF B b=some (.bK f (.acc elem aC es w)))(hw:w≠[])(hc:aF B c=some (.acc O A 1 (pre++[[.raw f w.length es]])))(Ka:b≠c):Rel H0 X0 VE ((c,.acc O A 1 (pre++[[.sl w]]))::cL B b) E H β:=by
 have hf:=Z.pinned hb hw;have h:=Z.drop b;have I:∀d s,aF (cL B b) d=some s→b≠d∧aF B d=some s:=fun d s z=>by
  rw[gz] at z
  by_cases e:b=d
  ·rw[bg e] at z;cases z
  rw[aX e] at z;exact⟨e,z⟩
 have o8:aF (cL B b) c=some (.acc O A 1 (pre++[[.raw f w.length es]])):=by rw[gz,aX Ka];exact hc
 have Y:(BS.acc O A 1 (pre++[[.sl w]])).born↔(BS.acc O A 1 (pre++[[.raw f w.length es]])).born:=by simp[BS.born]
 have hd:=ji (s':=.acc O A 1 (pre++[[.sl w]])) o8 Y;generalize hX:XB X0 ((c,.acc O A 1 (pre++[[.sl w]]))::cL B b) β=X;have hl:eJ H (XB X0 (cL B b) β) H X:=by rw[←hX];exact⟨bd _,fun f _ hx=>⟨fun k=>hx (k.imp id fun⟨c,t,z,ho,h2⟩=>by obtain⟨u,G,L⟩:=hd c t z ho;exact⟨c,u,G,L,h2⟩),rfl⟩⟩
 have kG:eJ H (XB X0 B β) H X:=by rw[←hX];exact⟨bd _,fun f _ hx=>⟨fun k=>hx (k.imp id fun⟨c,t,z,ho,h2⟩=>by obtain⟨u,G,L⟩:=hd c t z ho;exact⟨c,u,(I c u G).2,L,h2⟩),rfl⟩⟩
 have hx:¬X (β b):=by
  rw[←hX];rintro(k|⟨d,s,z,pb,h2⟩)
  ·exact(Z.new b _ hb hw).1 k
  obtain⟨u,G,L⟩:=hd d s z pb;exact(I d u G).1 (Z.inj d b u _ (I d u G).2 hb L hw h2).symm
 have BF:bA H X (.sl w) (.slice f w.length 0 w.length es):=by
  simp only[bA];refine⟨f,w.length,0,es,rfl,.inr ⟨hf▸hx,hf▸(Z.new b _ hb hw).2,0,by simp,dF.mW fun q r U=>?_⟩⟩;obtain⟨l,z,h2,h3⟩:=de.C8 (Z.box b _ hb).2 U;exact⟨l,by rw[e6];exact hf▸z,h2,h3.lift kG⟩
 refine⟨h.jr,h.aS,h.x0,fun d t hc ho=>?_,fun c d t u hc lU hs ht he=>?_,fun k v hk=>?_,fun d t M=>?_⟩
 ·obtain⟨u,G,L⟩:=hd d t hc ho;exact h.new d u G L
 ·obtain⟨s1,G,L⟩:=hd c t hc hs;obtain⟨t1,k3,k4⟩:=hd d u lU ht;exact h.inj c d s1 t1 G k3 L k4 he
 ·obtain⟨a,z,h2⟩:=h.env k v hk;exact⟨a,z,hX▸h2.lift hl⟩
 rw[hX];rw[cP] at M
 by_cases k:c=d
 ·subst k;rw[bg rfl] at M
  cases M
  rcases(h.box c _ o8).lift hl rfl with k|⟨lo,cs,z,h2,h3⟩
  ·simp at k
  refine .inr ⟨lo,cs,by rw[z];simp,by simpa using h2,fun q r U=>?_⟩
  by_cases e:q=pre.length
  ·subst e;have Xn:r=[.sl w]:=by rw[jj] at U;cases U;rfl
   subst Xn;obtain⟨l,G,L,k3⟩:=h3 pre.length _ jj;refine⟨l,G,L,?_⟩;simp only[bS,bA] at k3;obtain⟨a,s,rfl,rfl,rfl⟩:=k3;simp only[bS];exact⟨_,_,aa,BF,aa⟩
  have hq':(pre++[[DC.raw f w.length es]])[q]?=some r:=by
   by_cases O:q<pre.length
   ·rw[sA O] at U⊢;exact U
   rw[yB (by simp;omega)] at U;cases U
  exact h3 q r hq'
 rw[aX k] at M;exact(h.box d t M).lift hl rfl
theorem more_frzR{b c G A:Nat}{rows z:ah}(I:aF B c=some (.acc G A 1 rows))(L:rows≠[]):∀d t,aF ((c,BS.acc G A 1 z)::cL B b) d=some t→t.born→∃u,aF B d=some u∧u.born:=fun d t h ho=>by
 rw[cP] at h
 by_cases k:c=d
 ·subst k;exact⟨_,I,L⟩
 rw[aX k,gz] at h
 by_cases e:b=d
 ·rw[bg e] at h;cases h
 rw[aX e] at h;exact⟨t,h,ho⟩
theorem ace{cc:IC}{R:Ex→bb→aK→Prop}(b c:Nat){f elem aC es G z:Nat}{w pre:ah}(L:aF B b=some (.bK f (.acc elem aC es w)))(M:w≠[])(I:aF B c=some (.acc G z 1 (pre++[[.raw f w.length es]])))(A:b≠c)(h:VC T cc VE ((c,.acc G z 1 (pre++[[.sl w]]))::cL B b) R):VC T cc VE B R:=
 fun H0 X0 E H β O=>(h H0 X0 E H β (O.frzR L M I A)).mono fun _ _ _ U=>U.more (more_frzR I (by simp))
theorem vc_frzRs{cc:IC}{R:Ex→bb→aK→Prop}(s b c:Nat){f elem aC es G z:Nat}{w pre:ah}(I:aF B b=some (.bK f (.acc elem aC es w)))(L:w≠[])(M:aF B c=some (.acc G z 1 (pre++[[.raw f w.length es]])))(A:b≠c)(O:aF VE s=some (.ac c (pre++[[DC.raw f w.length es]]).length 1))(h:VC T cc ((s,.ac c (pre++[[DC.sl w]]).length 1)::VE) ((c,.acc G z 1 (pre++[[.sl w]]))::cL B b) R):VC T cc VE B R:=
 ace b c I L M A fun H0 X0 E H β U=>h H0 X0 E H β (U.slot O fun a Y=>by
  have e:(pre++[[DC.sl w]]).length=(pre++[[DC.raw f w.length es]]).length:=by simp
  rw[e];exact Y)
theorem vc_slot{cc:IC}{R:Ex→bb→aK→Prop}(k:Nat){v:VV}(v':VV)(z:aF VE k=some v)(A:∀H X β a,aE H X β v a→aE H X β v' a)(h:VC T cc ((k,v')::VE) B R):VC T cc VE B R:=fun H0 X0 E H β G=>h H0 X0 E H β (G.slot z fun a I=>A H _ β a I)
theorem vc_grp{cc:IC}{R:Ex→bb→aK→Prop}(s b c:Nat){row:List Ty}{A r:ah}{f elem aC M z:Nat}(Z:ta row A f r)(G:af row r)(hl:r.length≤1000000)(hb:aF B b=some (.bK f (.acc elem aC 2 r)))(Y:aF B c=some (.acc M z 1 A))(I:b≠c)(hs:aF VE s=some (.ac c A.length 1))
  (h:∀w':ah,w'.length=A.length→af [.l 1000000 row] w'→VC T cc ((s,.ac c w'.length 1)::VE) ((c,.acc M z 1 w')::cL B b) R):VC T cc VE B R:=by
 have sl:∀{B':aK}{n:Nat},n=A.length→VC T cc ((s,.ac c n 1)::VE) B' R→VC T cc VE B' R:=fun e h H0 X0 E H β G=>h H0 X0 E H β (G.slot hs fun a ha=>e▸ha)
 have same:∀{w':ah},w'=A→VC T cc VE ((c,.acc M z 1 w')::cL B b) R→VC T cc VE B R:=fun{w'}e k=>by
  subst e;refine abT b (fun H0 X0 E H β G=>?_);have L:aF (cL B b) c=some (.acc M z 1 w'):=by rw[gz,aX I];exact Y
  exact(k H0 X0 E H β (G.nZ L fS fun _ k=>k)).mono fun _ _ _ O=>O.more (ji L fS)
 rcases Z with⟨_,e|e⟩|⟨U,pre,e,O⟩
 ·subst e;exact same aa (sl aa (h [] aa cj))
 ·subst e;exact same aa (sl aa (h ([]++[[.nil]]) aa (ee (aj gK bm))))
 subst e;refine ace b c hb U Y I (sl (by simp) (h _ (by simp) (agF O G hl)))
end
section
variable{T:aL}{VE:bb}{B:aK}{Q:VV→aK→Prop}
theorem vi_shr1{x y:aG}{k:IntKind}{a:Int}(z:x.vv VE=some (.d (.i k a)))(A:y.vv VE=some (.d (.i k 1)))(G:Nat.min 1 k.bits=1)(L:0≤a)(I:Q (.d (.i k (a/2))) B):VI T (.bin .shr x y) VE B [] Q:=xr z A (by
 have:fZ .shr k a k 1=aJ (fu 1 0) none (some (.int k (a.fdiv (2^(Nat.min (1:Int).toNat k.bits))))):=rfl;rw[this,show(1:Int).toNat=1 from rfl,G,show fu 1 0=false from rfl]
 rfl) (by rw[show a.fdiv (2^1)=a/2 from agq _ ao];exact I)
theorem vq_rawB{ops:List bl}{fl:List FL}{Q:bb→aK→Prop}(k b:Nat){f n es elem aC e lo:Nat}{rows:ah}(z:aF VE k=some (.bs b n es))(A:aF B b=some (.bK f (.arr elem aC e lo rows)))(h:VQ T ops ((k,.d (.raw f n es))::VE) B fl Q):VQ T ops VE B fl Q:=
 fun H0 X0 E H β G bf I=>h H0 X0 E H β (G.rawB z A) bf I
theorem vi_sl3B{x lo hi mx:aG}{b n es f elem aC e G i j:Nat}{rows:ah}(I:x.vv VE=some (.bs b n es))(L:aF B b=some (.bK f (.arr elem aC e G rows)))(M:pR VE (some lo) 0 i)(O:pR VE (some hi) 0 j)(U:pR VE (some mx) 0 n)(A:i≤j)(Y:j≤n)(Z:Q (.k (.slice f n (i*es) (j-i) es)) B):VI T (.ER es x (some lo) hi mx) VE B [] Q:=fun H0 X0 E H β z=>by
 obtain⟨_,h1,h2⟩:=z.bC I;simp only[aE] at h2;subst h2;refine eG (v:=.slice f n (i*es) (j-i) es) (fun _=>?_) (du z (v:=.k (.slice f n (i*es) (j-i) es)) (by simp only[aE]) Z);show bq x E (.err 17) _=_;rw[cQ,h1,cA];show aJ (Nat.beq es es) (dT E (some mx) 0 n (.err 17) fun m=>aJ (Nat.ble (Nat.mul n es) (Nat.add 0 (Nat.mul m es))) (dT E (some hi) 0 m (.err 17) fun h=>dT E (some lo) 0 h (.err 17) fun lo=>ch (Nat.add 0 (Nat.mul lo es)) fun off=>ch (Nat.sub h lo) fun l=>aD.ok (.slice (β b) n off l es) H) (.err 17)) (.err 17)=_;rw[show Nat.beq es es=true from gu es,dM,vf z U (bd _) (gL _),show Nat.ble (Nat.mul n es) (Nat.add 0 (Nat.mul n es))=true from fR (by rw[show Nat.add 0 (Nat.mul n es)=n*es from e6 _];exact bd _),dM,vf z O Y (gL _),vf z M A (gL _),fc,fc,z.pinned L trivial];show aD.ok (ai.slice f n (0+i*es) (j-i) es) H=_;rw[e6]
theorem vi_lenK{x:aG}{f g o l es:Nat}(A:x.vv VE=some (.k (.slice f g o l es)))(G:Q (.d (.i .i64 (l:Int))) B):VI T (.len x) VE B [] Q:=fun H0 X0 E H β z=>by
 obtain⟨_,I,h2⟩:=z.bC A;simp only[aE] at h2;subst h2;refine eG (v:=.int .i64 (.ofNat l)) (fun _=>?_) (du z (v:=.d (.i .i64 (l:Int))) (by simp only[aE,bA];rfl) G);show bq x E (.err 25) _=_;rw[cQ,I,cA];rfl
theorem vi_appK0{x y:aG}{e es aC f g o l z I g2 o2 zq:Nat}(L:x.vv VE=some (.k (.slice f g o l z)))(M:y.vv VE=some (.k (.slice I g2 o2 0 zq)))(O:Q (.k (.slice f g o l z)) B):VI T (.app e es aC x y) VE B [] Q:=fun H0 X0 E H β A=>by
 obtain⟨_,U,h2⟩:=A.bC L;obtain⟨_,Y,G⟩:=A.bC M;simp only[aE] at h2 G;subst h2 G;refine eG (v:=.slice f g o l z) (fun _=>?_) (du A (v:=.k (.slice f g o l z)) (by simp only[aE]) O);show bq x E (.err 26) _=_;rw[cQ,U,cA];show bq y E (.err 26) _=_;rw[cQ,Y,cA];rfl
theorem vi_slKK{x lo hi:aG}{f g l es i j:Nat}(I:x.vv VE=some (.k (.slice f g 0 l es)))(L:pR VE (some lo) 0 i)(M:pR VE (some hi) l j)(A:i≤j)(O:j≤nW g 0 es l)(G:l≤nW g 0 es l)(U:Q (.k (.slice f g (i*es) (j-i) es)) B):VI T (.sE es x (some lo) (some hi)) VE B [] Q:=fun H0 X0 E H β z=>by
 obtain⟨_,Y,h2⟩:=z.bC I;simp only[aE] at h2;subst h2;refine eG (v:=.slice f g (i*es) (j-i) es) (fun _=>?_) (du z (v:=.k (.slice f g (i*es) (j-i) es)) (by simp only[aE]) U);show bq x E (.err 16) _=_;rw[cQ,Y,cA];show aJ (Nat.beq es es) (dT E (some hi) l (nW g 0 es l) (.err 16) fun h=>dT E (some lo) 0 h (.err 16) fun lo=>ch (Nat.add 0 (Nat.mul lo es)) fun off=>ch (Nat.sub h lo) fun n=>aD.ok (.slice f g off n es) H) (.err 16)=_;rw[show Nat.beq es es=true from gu es,dM,vf z M O G,vf z L A (gL _),fc,fc];show aD.ok (ai.slice f g (0+i*es) (j-i) es) H=_;rw[e6]
theorem upTo_gen{g es l:Nat}(z:0<es)(h:l≤g):nW g 0 es l=g:=by
 unfold nW;have e:Nat.sub (Nat.div (Nat.mul g es) es) (Nat.div 0 es)=g:=by
  show g*es/es-0/es=g;rw[Nat.mul_div_cancel _ z,Nat.zero_div,Ee]
 rw[e];show Bool.rec (motive:=fun _=>Nat) l g (Nat.ble l g)=g;rw[fR h]
theorem vi_idxK{x i:aG}{l v:Nat}{k:IntKind}{j:Nat}(G:x.vv VE=some (.d (.s l v)))(hi:i.vv VE=some (.d (.i k (j:Int))))(I:j<l)(L:∀c:Int,0≤c→c≤255→Q (.d (.i .u8 c)) B):VI T (.Ao x i) VE B [] Q:=fun _ _ _ _ _ z=>by
 have M:=z.ai8 G;have h2:=z.sH hi;have O:pw v j<256:=yy _ ao;refine eG (v:=.int .u8 (.ofNat (pw v j))) (fun call=>?_) (du z (v:=.d (.i .u8 ((pw v j:Nat):Int))) (by simp only[aE,bA];rfl) (L _ an an));show bq x _ (.err 14) (fun v=>kT v (.err 14) fun l s=>bq i _ (.err 14) fun A=>Ev.idx A l (.err 14) fun j=>ch (pw s j) fun b=>.ok (.int .u8 (.ofNat b)) _)=_;rw[cQ,M,cA];show bq i _ (.err 14) (fun A=>Ev.idx A l (.err 14) fun j=>ch (pw v j) fun b=>.ok (.int .u8 (.ofNat b)) _)=_;rw[cQ,h2,cA];show aJ (Nat.ble (Nat.succ j) l) (ch (pw v j) fun b=>aD.ok (.int .u8 (.ofNat b)) _) (aD.err 14)=_;rw[show Nat.ble (Nat.succ j) l=true from fR I,dM,fc]
theorem vc_condC{a b:IC}{R:Ex→bb→aK→Prop}(h:VC T b VE B R):VC T (.cond (.c (.bool false)) a b) VE B R:=fun H0 X0 E H β z=>
 FI (t:=false) rfl (fun e=>by cases e) (fun _=>h H0 X0 E H β z)
end
def yh{α:Type}:List Nat→List (Nat×α)→List (Nat×α)→Option (List (Nat×α))
 |[],_,acc=>some acc
 |k::ks,l,acc=>match aF l k with
  |some v=>yh ks l ((k,v)::acc)
  |none=>none
def GM{β:Type}(n:Nat)(k:Nat→Option β):Option β:=bif Nat.beq n 0 then k 0 else bif Nat.beq n 1 then k 1 else bif Nat.beq n 2 then k 2 else bif Nat.beq n 3 then k 3 else bif Nat.beq n 4 then k 4 else bif Nat.beq n 5 then k 5 else k n
theorem forceN_eq{β:Type}(n:Nat)(k:Nat→Option β):GM n k=k n:=by
 unfold GM;have z:∀m,Nat.beq n m=true→n=m:=fun m h=>cW h
 cases h0:Nat.beq n 0 with
 |true=>rw[z 0 h0];rfl
 |false=>cases A:Nat.beq n 1 with
  |true=>rw[z 1 A];rfl
  |false=>cases h2:Nat.beq n 2 with
   |true=>rw[z 2 h2];rfl
   |false=>cases G:Nat.beq n 3 with
    |true=>rw[z 3 G];rfl
    |false=>cases I:Nat.beq n 4 with
     |true=>rw[z 4 I];rfl
     |false=>cases L:Nat.beq n 5 with
      |true=>rw[z 5 L];rfl
      |false=>rfl
def Gi{α β:Type}:List α→(List α→Option β)→Option β
 |[],k=>k []
 |v::r,k=>Gi r fun r=>k (v::r)
theorem ZG{α β:Type}:∀(l:List α)(k:List α→Option β),Gi l k=k l
 |[],_=>rfl
 |v::r,k=>by simp only[Gi];rw[ZG r]
def GN{β:Type}(v:VV)(k:VV→Option β):Option β:=match v with
 |.d x=>k (.d x)
 |.agg l=>Gi l fun l=>k (.agg l)
 |.tuple l=>Gi l fun l=>k (.tuple l)
 |.vp b o=>GM o fun o=>k (.vp b o)
 |.bp b g q o es=>GM o fun o=>k (.bp b g q o es)
 |.rp r o=>GM o fun o=>k (.rp r o)
 |.bs b n es=>k (.bs b n es)
 |.ac b n es=>k (.ac b n es)
 |.fn f c=>k (.fn f c)
 |.k a=>k (.k a)
 |.jH=>k .jH
 |.undef=>k .undef
theorem QU{β:Type}(v:VV)(k:VV→Option β):GN v k=k v:=by
 cases v<;>simp only[GN,forceN_eq,ZG]
def LZ{β:Type}:List VV→(List VV→Option β)→Option β
 |[],k=>k []
 |v::r,k=>GN v fun v=>LZ r fun r=>k (v::r)
theorem aam{β:Type}:∀(l:List VV)(k:List VV→Option β),LZ l k=k l
 |[],_=>rfl
 |v::r,k=>by simp only[LZ];rw[QU,aam r]
def L0{β:Type}(s:BS)(k:BS→Option β):Option β:=match s with
 |.one e z row=>LZ row fun row=>k (.one e z row)
 |.arr e b s lo rows=>k (.arr e b s lo rows)
 |.acc e b s rows=>k (.acc e b s rows)
 |.bK f s=>k (.bK f s)
theorem aan{β:Type}(s:BS)(k:BS→Option β):L0 s k=k s:=by
 cases s<;>simp only[L0,aam]
def Co:List Nat→bb→bb→Option bb
 |[],_,acc=>some acc
 |k::ks,l,acc=>match aF l k with
  |some v=>GN v fun v=>Co ks l ((k,v)::acc)
  |none=>none
def Cp:List Nat→aK→aK→Option aK
 |[],_,acc=>some acc
 |k::ks,l,acc=>match aF l k with
  |some v=>L0 v fun v=>Cp ks l ((k,v)::acc)
  |none=>none
theorem abe:∀(ks:List Nat)(l acc:bb),Co ks l acc=yh ks l acc
 |[],_,_=>rfl
 |k::ks,l,acc=>by
  simp only[Co,yh]
  cases aF l k with
  |none=>rfl
  |some v=>simp only[QU,abe ks]
theorem abf:∀(ks:List Nat)(l acc:aK),Cp ks l acc=yh ks l acc
 |[],_,_=>rfl
 |k::ks,l,acc=>by
  simp only[Cp,yh]
  cases aF l k with
  |none=>rfl
  |some v=>simp only[aan,abf ks]
theorem QV{α:Type}:∀{ks:List Nat}{l acc r:List (Nat×α)},yh ks l acc=some r→ak acc l→ak r l
 |[],_,_,_,h,k=>by simp only[yh] at h;cases h;exact k
 |i::ks,l,acc,r,h,k=>by
  simp only[yh] at h
  split at h
  ·rename_i v e;exact QV h ⟨e,k⟩
  cases h
variable{T:aL}{VE bj pd:bb}{B B' Bb:aK}{R:Ex→bb→aK→Prop}
theorem cD(ks bs:List Nat){c:IC}(z:Co ks VE []=some bj)(h2:Cp bs B []=some B')(h:VC T c bj B' R):VC T c VE B R:=by
 rw[abe] at z;rw[abf] at h2;exact aT bj B' (QV z trivial) (QV h2 trivial) h
theorem CN(ks bs:List Nat){c:IC}(A:Co ks VE []=some pd)(h2:Cp bs B []=some Bb)(I:bb→aK→Nat→bb→aK→Prop)(z:∀k VE B,I pd Bb k VE B→VC T c VE B fun x bj B'=>match x with|.normal=>∃j,j<k∧I pd Bb j bj B'|x=>R x bj B'){k:Nat}(h0:I pd Bb k VE B):VC T (.loop c) VE B R:=RH (I pd Bb) z h0
inductive Fr where
 |c (c:IC)
 |b (id:Nat)
 |l (J:bb→aK→Prop)
def RK(T:aL)(R:Ex→bb→aK→Prop):List Fr→Ex→bb→aK→Prop
 |[]=>R
 |.c c::K=>fun x VE B=>match x with
  |.normal=>VC T c VE B (RK T R K)
  |x=>RK T R K x VE B
 |.b id::K=>fun x=>RK T R K (Ci id x)
 |.l J::K=>fun x VE B=>match x with
  |.normal=>J VE B
  |x=>RK T R K x VE B
inductive lW where
 |c (c:IC) (K:List Fr) (VE:bb) (B:aK)
 |o (l:List bl) (K:List Fr) (VE:bb) (B:aK)
 |q (l:List bl) (fl:List FL) (K:List Fr) (VE:bb) (B:aK)
 |x (x:Ex) (K:List Fr) (VE:bb) (B:aK)
@[reducible] def lW.P(T:aL)(R:Ex→bb→aK→Prop):lW→Prop
 |.c y K VE B=>VC T y VE B (RK T R K)
 |.o y K VE B=>VO T y VE B fun bj B'=>RK T R K .normal bj B'
 |.q y fl K VE B=>VQ T y VE B fl fun bj B'=>RK T R K .normal bj B'
 |.x y K VE B=>RK T R K y VE B
def wa:List Fr→Ex→bb→aK→lW
 |[],x,VE,B=>.x x [] VE B
 |.b id::K,x,VE,B=>wa K (Ci id x) VE B
 |.c c::K,x,VE,B=>match x with
  |.normal=>.c c K VE B
  |x=>wa K x VE B
 |.l J::K,x,VE,B=>match x with
  |.normal=>.x .normal (.l J::K) VE B
  |x=>wa K x VE B
theorem tP:∀{K:List Fr}{x:Ex}{VE:bb}{B:aK},(wa K x VE B).P T R→RK T R K x VE B
 |[],_,_,_,h=>h
 |.b id::K,x,VE,B,h=>tP (K:=K) (x:=Ci id x) h
 |.c c::K,x,VE,B,h=>by
  cases x with
  |normal=>exact h
  |ret=>exact tP (K:=K) (x:=.ret) h
  |exit i=>exact tP (K:=K) (x:=.exit i) h
 |.l J::K,x,VE,B,h=>by
  cases x with
  |normal=>exact h
  |ret=>exact tP (K:=K) (x:=.ret) h
  |exit i=>exact tP (K:=K) (x:=.exit i) h
def L1{β:Type}(B:aK)(k:aK→Option β):Option β:=match B with
 |[]=>k []
 |(b,s)::r=>L0 s fun s=>k ((b,s)::r)
theorem forceH_eq{β:Type}(B:aK)(k:aK→Option β):L1 B k=k B:=by
 cases B with
 |nil=>rfl
 |cons p r=>obtain⟨b,s⟩:=p;simp only[L1,aan]
def Uz(op:bl)(VE:bb)(B:aK):Option (bb×aK):=match op with
 |⟨d,g,_,i⟩=>match g with
  |none=>match d with
   |some d=>match ib VE B d.n i with
    |some (v,B',_)=>GN v fun v=>L1 B' fun B'=>some ((d.n,v)::VE,B')
    |none=>none
   |none=>match ib VE B 0 i with
    |some (_,B',_)=>L1 B' fun B'=>some (VE,B')
    |none=>none
  |some (g,want)=>match d with
   |some d=>match aF VE g.n with
    |some (.d (.b t))=>match t with
     |true=>match want with
      |true=>match ib VE B d.n i with
       |some (v,B',_)=>some ((d.n,v)::VE,B')
       |none=>none
      |false=>some ((d.n,.k .undef)::VE,B)
     |false=>match want with
      |false=>match ib VE B d.n i with
       |some (v,B',_)=>some ((d.n,v)::VE,B')
       |none=>none
      |true=>some ((d.n,.k .undef)::VE,B)
    |_=>none
   |none=>none
def SH(d g:Key)(want:Bool)(q:Option (List Nat))(i:br)(VE:bb)(B:aK)(fl:List FL):Option (bb×aK×List FL):=match aF VE g.n with
 |some (.d (.b t))=>match(match t with|true=>want|false=>!want) with
  |true=>match ib VE B d.n i with
   |some (v,B',W)=>match q with
    |none=>some ((d.n,v)::VE,B',fl)
    |some l=>gd (mX W l fl) (some ((d.n,v)::VE,B',uo W::fl))
   |none=>none
  |false=>match q with
   |none=>some ((d.n,.k .undef)::VE,B,fl)
   |some _=>some ((d.n,.k .undef)::VE,B,.rd []::fl)
 |_=>none
theorem acf{ops:List bl}{fl:List FL}{Q:bb→aK→Prop}(z:∀k v,aF bj k=some v→aF VE k=some v)(h:VQ T ops bj B fl Q):VQ T ops VE B fl Q:=fun H0 X0 E H β A bf G=>h H0 X0 E H β (A.less z) bf G
theorem dL{d:Option Key}{g:Key}{w t:Bool}{qq:Option (List Nat)}{op:br}{p q:Prop}{ops:List bl}{fl:List FL}{Q:bb→aK→Prop}(z:aF VE g.n=some (.d (.b t)))(A:p→VQ T (⟨d,some (g,w),qq,op⟩::ops) ((g.n,.d (.b true))::VE) B fl Q)(h2:q→VQ T (⟨d,some (g,w),qq,op⟩::ops) ((g.n,.d (.b false))::VE) B fl Q)(G:(t=true)=p:=by first|(simp only[eM,gQ,gD,mE,gm];first|done|rfl)|rfl)(I:(t=false)=q:=by first|(simp only[eM,gQ,gD,mE,gm];first|done|rfl)|rfl):VQ T (⟨d,some (g,w),qq,op⟩::ops) VE B fl Q:=by
 cases t with
 |true=>exact acf (CM z) (A (Eq.mp G rfl))
 |false=>exact acf (CM z) (h2 (Eq.mp I rfl))
theorem exec1Q_ok{d g:Key}{want:Bool}{q:Option (List Nat)}{i:br}{fl lV:List FL}{r:List bl}{Q:bb→aK→Prop}(h:SH d g want q i VE B fl=some (bj,B',lV))(k:VQ T r bj B' lV Q):VQ T (⟨some d,some (g,want),q,i⟩::r) VE B fl Q:=by
 simp only[SH] at h
 split at h
 ·rename_i t z
  cases t<;>cases want<;>simp only[Bool.not_true,Bool.not_false] at h
  all_goals first
   |(split at h
     ·rename_i e
      cases q with
      |none=>cases h;exact cn z rfl (iO e k)
      |some l=>
       simp only[gd] at h
       cases A:mX _ l fl with
       |true=>rw[A] at h;cases h;exact fx z rfl A (iO e k)
       |false=>rw[A] at h;cases h
     cases h)
   |(cases q with
     |none=>cases h;exact oA z rfl k
     |some l=>cases h;exact FA z rfl k)
 cases h
def H3:lW→Option lW
 |.c c K VE B=>match c with
  |.seq a b=>some (.c a (.c b::K) VE B)
  |.region d l=>match d with
   |true=>some (.q l [] K VE B)
   |false=>some (.o l K VE B)
  |.skip=>some (wa K .normal VE B)
  |.block id c=>some (.c c (.b id::K) VE B)
  |.exit id=>some (wa K (.exit id) VE B)
  |.ret=>some (wa K .ret VE B)
  |_=>none
 |.o l K VE B=>match l with
  |[]=>some (wa K .normal VE B)
  |op::r=>match Uz op VE B with
   |some (bj,B')=>some (.o r K bj B')
   |none=>none
 |.q l fl K VE B=>match l with
  |[]=>some (wa K .normal VE B)
  |⟨d,g,q,i⟩::r=>match g with
   |none=>match vI 1 (⟨d,none,q,i⟩::r) VE B fl with
    |some (bj,B',lV,r')=>some (.q r' lV K bj B')
    |none=>none
   |some (g,want)=>match d with
    |some d=>match SH d g want q i VE B fl with
     |some (bj,B',lV)=>some (.q r lV K bj B')
     |none=>none
    |none=>none
 |.x _ _ _ _=>none
theorem exec1_ok{op:bl}{r:List bl}{Q:bb→aK→Prop}(h:Uz op VE B=some (bj,B'))(k:VO T r bj B' Q):VO T (op::r) VE B Q:=by
 obtain⟨d,g,q,i⟩:=op;simp only[Uz,QU,forceH_eq] at h
 split at h
 ·split at h
  ·split at h
   ·rename_i e;cases h;exact aq (iO e k)
   cases h
  split at h
  ·rename_i e;cases h;exact iT (iO e k)
  cases h
 split at h
 ·split at h
  ·rename_i z
   split at h
   ·split at h
    ·split at h
     ·rename_i e;cases h;exact bw z rfl (iO e k)
     cases h
    cases h;exact lI z rfl k
   split at h
   ·split at h
    ·rename_i e;cases h;exact bw z rfl (iO e k)
    cases h
   cases h;exact lI z rfl k
  cases h
 cases h
theorem abg{S S':lW}(h:H3 S=some S')(k:S'.P T R):S.P T R:=by
 cases S with
 |c c K VE B=>
  cases c with
  |seq a b=>
   cases h
   exact eR (R:=RK T R K) (VC.mono (show VC T a VE B (RK T R (.c b::K)) from k) fun x VE B G=>by cases x<;>exact G)
  |region d l=>
   cases d with
   |true=>cases h;exact rX (R:=RK T R K) (show VQ T l VE B [] _ from k)
   |false=>cases h;exact iu (R:=RK T R K) (show VO T l VE B _ from k)
  |skip=>cases h;exact jw (R:=RK T R K) (tP k)
  |block id c=>cases h;exact jN (R:=RK T R K) (show VC T c VE B (RK T R (.b id::K)) from k)
  |exit id=>cases h;exact mQ (R:=RK T R K) (tP k)
  |ret=>cases h;exact ki (R:=RK T R K) (tP k)
  |cond _ _ _=>cases h
  |loop _=>cases h
 |o l K VE B=>
  cases l with
  |nil=>cases h;exact mc (Q:=fun VE B=>RK T R K .normal VE B) (tP k)
  |cons op r=>
   simp only[H3] at h
   split at h
   ·rename_i z B1 e;cases h;exact exec1_ok (Q:=fun VE B=>RK T R K .normal VE B) e (show VO T r z B1 _ from k)
   cases h
 |q l fl K VE B=>
  cases l with
  |nil=>cases h;exact Ar (Q:=fun VE B=>RK T R K .normal VE B) (tP k)
  |cons op r=>
   obtain⟨d,g,q,i⟩:=op;simp only[H3] at h
   cases g with
   |none=>
    simp only at h
    split at h
    ·rename_i z B1 A I e;cases h;exact kA (Q:=fun VE B=>RK T R K .normal VE B) 1 e (show VQ T I z B1 A _ from k)
    cases h
   |some p=>
    obtain⟨g,want⟩:=p
    cases d with
    |none=>cases h
    |some d=>
     simp only at h
     split at h
     ·rename_i z B1 A e;cases h;exact exec1Q_ok (Q:=fun VE B=>RK T R K .normal VE B) e (show VQ T r z B1 A _ from k)
     cases h
 |x x K VE B=>cases h
def lz:Nat→lW→Option lW
 |0,S=>some S
 |n+1,S=>match H3 S with
  |some S'=>lz n S'
  |none=>none
theorem qF:∀{n:Nat}{S S':lW},lz n S=some S'→S'.P T R→S.P T R
 |0,S,S',h,k=>by cases h;exact k
 |n+1,S,S',h,k=>by
  simp only[lz] at h
  split at h
  ·rename_i z e;exact abg e (qF h k)
  cases h
section
variable(n:Nat){c:IC}{K:List Fr}{l:List bl}{fl:List FL}{S S':lW}
theorem r0(h:lz n (.c c [] VE B)=some S')(k:S'.P T R):VC T c VE B R:=qF (S:=.c c [] VE B) h k
theorem rc(h:lz n (.c c K VE B)=some S')(k:S'.P T R):VC T c VE B (RK T R K):=qF (S:=.c c K VE B) h k
theorem ro(h:lz n (.o l K VE B)=some S')(k:S'.P T R):VO T l VE B fun VE B=>RK T R K .normal VE B:=qF (S:=.o l K VE B) h k
theorem rq(h:lz n (.q l fl K VE B)=some S')(k:S'.P T R):VQ T l VE B fl fun VE B=>RK T R K .normal VE B:=qF (S:=.q l fl K VE B) h k
theorem rp(h:lz n S=some S')(k:S'.P T R):S.P T R:=qF h k
variable{x:Ex}{J:bb→aK→Prop}{K':List Fr}
theorem r0x(h:lz n (.c c [] VE B)=some (.x x [] bj B'))(k:R x bj B'):VC T c VE B R:=qF (S:=.c c [] VE B) h k
theorem fE(h:lz n (.c c K VE B)=some (.x x [] bj B'))(k:R x bj B'):VC T c VE B (RK T R K):=qF (S:=.c c K VE B) h k
theorem eV(h:lz n (.o l K VE B)=some (.x x [] bj B'))(k:R x bj B'):VO T l VE B fun VE B=>RK T R K .normal VE B:=qF (S:=.o l K VE B) h k
theorem rpx(h:lz n S=some (.x x [] bj B'))(k:R x bj B'):S.P T R:=qF h k
theorem rcl(h:lz n (.c c K VE B)=some (.x .normal (.l J::K') bj B'))(k:J bj B'):VC T c VE B (RK T R K):=qF (S:=.c c K VE B) h k
theorem dC(h:lz n (.o l K VE B)=some (.x .normal (.l J::K') bj B'))(k:J bj B'):VO T l VE B fun VE B=>RK T R K .normal VE B:=qF (S:=.o l K VE B) h k
theorem vc_loopR(I:Nat→bb→aK→Prop)(z:∀k VE B,I k VE B→VC T c VE B (RK T R (.l (fun VE B=>∃j,j<k∧I j VE B)::K))){k:Nat}(h0:I k VE B):VC T (.loop c) VE B (RK T R K):=RH I (fun k VE B h=>(z k VE B h).mono fun x bj B' A=>by cases x<;>exact A) h0
theorem bh(ks bs:List Nat)(A:Co ks VE []=some pd)(h2:Cp bs B []=some Bb)(I:bb→aK→Nat→bb→aK→Prop)(z:∀k VE B,I pd Bb k VE B→VC T c VE B (RK T R (.l (fun VE B=>∃j,j<k∧I pd Bb j VE B)::K))){k:Nat}(h0:I pd Bb k VE B):VC T (.loop c) VE B (RK T R K):=vc_loopR (I pd Bb) z h0
theorem vc_joinR{a b:IC}(J:bb→aK→Prop)(A:VC T a VE B (RK T R (.l J::K)))(h2:∀bj B',J bj B'→VC T b bj B' (RK T R K)):VC T (.seq a b) VE B (RK T R K):=eR (A.mono fun x VE B z=>by cases x<;>first|exact h2 _ _ z|exact z)
theorem dP(ks bs:List Nat){a b:IC}(G:Co ks VE []=some pd)(h2:Cp bs B []=some Bb)(J:bb→aK→bb→aK→Prop)(z:VC T a VE B (RK T R (.l (J pd Bb)::K)))(A:∀bj B',J pd Bb bj B'→VC T b bj B' (RK T R K)):VC T (.seq a b) VE B (RK T R K):=vc_joinR (J pd Bb) z A
end
@[reducible] def eg(k:Nat)(lo v n:Int):Prop:=k=(n-v).toNat∧(lo≤v∧(v≤n∨v=lo))
variable{T:aL}{VE bj:bb}{B B':aK}{R:Ex→bb→aK→Prop}
def plainS:lW→Bool
 |.o (op::_) _ _ _=>Ll op
 |.q (op::_) _ _ _ _=>Ll op
 |_=>true
def BH:Nat→lW→Option lW
 |0,S=>some S
 |n+1,S=>match plainS S with
  |true=>match H3 S with
   |some S'=>BH n S'
   |none=>none
  |false=>none
theorem Gj:∀{n:Nat}{S S':lW},BH n S=some S'→S'.P T R→S.P T R
 |0,S,S',h,k=>by cases h;exact k
 |n+1,S,S',h,k=>by
  simp only[BH] at h
  split at h
  ·split at h
   ·rename_i z e;exact abg e (Gj h k)
   cases h
  cases h
section
variable(n:Nat){c:IC}{K:List Fr}{l:List bl}{fl:List FL}{S S':lW}{x:Ex}{J:bb→aK→Prop}{K':List Fr}
theorem wc(h:BH n (.c c K VE B)=some S')(k:S'.P T R):VC T c VE B (RK T R K):=Gj (S:=.c c K VE B) h k
theorem wo(h:BH n (.o l K VE B)=some S')(k:S'.P T R):VO T l VE B fun VE B=>RK T R K .normal VE B:=Gj (S:=.o l K VE B) h k
theorem wq(h:BH n (.q l fl K VE B)=some S')(k:S'.P T R):VQ T l VE B fl fun VE B=>RK T R K .normal VE B:=Gj (S:=.q l fl K VE B) h k
theorem wp(h:BH n S=some S')(k:S'.P T R):S.P T R:=Gj h k
theorem PJ(k:R x VE B):(lW.x x [] VE B).P T R:=k
theorem PK(k:J VE B):(lW.x .normal (.l J::K) VE B).P T R:=k
end
variable{T:aL}{VE bj:bb}{B B':aK}{R:Ex→bb→aK→Prop}
def agG(VE:bb)(l:List aG):Option (List VV):=match oK VE l with
 |some a=>bif v7 a then some a else none
 |none=>none
theorem aA{Q:VV→aK→Prop}{f:Nat}{l:List aG}{args:List VV}{P:VV→Prop}(h0:agG VE l=some args)(h:Sound T f args P)(A:∀r,r.nb→P r→Q r B):VI T (.call f l) VE B [] Q:=by
 unfold agG at h0
 split at h0
 ·rename_i a e
  cases z:v7 a with
  |false=>rw[z] at h0;cases h0
  |true=>rw[z] at h0;cases h0;exact Lf e (jy z) h A
 cases h0
section
variable(n:Nat){c:IC}{K K':List Fr}{l r:List bl}{fl lV:List FL}{S:lW}{d:Key}{qq:Option (List Nat)}{op:br}{W:List Nat}
theorem bV(h:lz n (.c c [] VE B)=some (.o (⟨some d,none,qq,op⟩::r) K' bj B'))(k:VI T op bj B' W fun v z=>VO T r ((d.n,v)::bj) z fun VE B=>RK T R K' .normal VE B):VC T c VE B R:=r0 n h (aq k)
theorem aB(h:lz n (.c c K VE B)=some (.o (⟨some d,none,qq,op⟩::r) K' bj B'))(k:VI T op bj B' W fun v z=>VO T r ((d.n,v)::bj) z fun VE B=>RK T R K' .normal VE B):VC T c VE B (RK T R K):=rc n h (aq k)
theorem aP(h:lz n (.o l K VE B)=some (.o (⟨some d,none,qq,op⟩::r) K' bj B'))(k:VI T op bj B' W fun v z=>VO T r ((d.n,v)::bj) z fun VE B=>RK T R K' .normal VE B):VO T l VE B fun VE B=>RK T R K .normal VE B:=ro n h (aq k)
theorem hY(h:lz n S=some (.o (⟨some d,none,qq,op⟩::r) K' bj B'))(k:VI T op bj B' W fun v z=>VO T r ((d.n,v)::bj) z fun VE B=>RK T R K' .normal VE B):S.P T R:=rp n h (aq k)
theorem db(h:lz n (.q l fl K VE B)=some (.q (⟨some d,none,none,op⟩::r) lV K' bj B'))(k:VI T op bj B' W fun v z=>VQ T r ((d.n,v)::bj) z lV fun VE B=>RK T R K' .normal VE B):VQ T l VE B fl fun VE B=>RK T R K .normal VE B:=rq n h (aU k)
end
end Go.Ev
namespace Go.Ev.Rp
theorem fin{p:Prop}(h:p:=by(repeat' (first|rfl|assumption|exact ae|exact trivial|exact dV ae ae|exact eU|exact gK|exact cg|exact uq|exact bH (s:=[]) (gL _)|exact cj|exact bm|apply aj|apply eB|apply ee|apply cI|exact .inl rfl|exact .inr ⟨rfl,rfl⟩|exact .acc _|apply aM|apply bH|apply And.intro|exact fun _=>rfl|(intro h;rw[h];rfl)|(intro h;simp at h;done)|(intro h;(try simp only[eM,gD,gQ,cU,oW] at h);first|omega|(simp_all;done)|(simp_all;omega))|apply Exists.intro));all_goals(first|rfl|exact ae|assumption)):p:=h
theorem rz{a b:Prop}(h:b)(k:a):a∧b:=⟨k,h⟩
theorem sJ{rs:List jU}{VE:bb}{B:aK}{P:VV→aK→Prop}{vs:List VV}{z:aK}(A:sm VE B rs=some vs:=by rfl)(G:P (mu vs) z:=by(repeat' (first|rfl|assumption|exact ae|exact trivial|exact dV ae ae|exact eU|exact gK|exact cg|exact uq|exact bH (s:=[]) (gL _)|exact cj|exact bm|apply aj|apply eB|apply ee|apply cI|exact .inl rfl|exact .inr ⟨rfl,rfl⟩|exact .acc _|apply aM|apply bH|apply And.intro|exact fun _=>rfl|(intro h;rw[h];rfl)|(intro h;simp at h;done)|(intro h;(try simp only[eM,gD,gQ,cU,oW] at h);first|omega|(simp_all;done)|(simp_all;omega))|apply Exists.intro));all_goals(first|rfl|exact ae|assumption))(h2:ak z B:=by(repeat' (first|rfl|assumption|exact ae|exact trivial|exact dV ae ae|exact eU|exact gK|exact cg|exact uq|exact bH (s:=[]) (gL _)|exact cj|exact bm|apply aj|apply eB|apply ee|apply cI|exact .inl rfl|exact .inr ⟨rfl,rfl⟩|exact .acc _|apply aM|apply bH|apply And.intro|exact fun _=>rfl|(intro h;rw[h];rfl)|(intro h;simp at h;done)|(intro h;(try simp only[eM,gD,gQ,cU,oW] at h);first|omega|(simp_all;done)|(simp_all;omega))|apply Exists.intro));all_goals(first|rfl|exact ae|assumption)):ai4 rs P .ret VE B:=⟨vs,z,A,h2,G⟩
def Kb:List Ty→(List DC→Prop)→Prop
 |[],P=>P []
 |t::z,P=>∃d,t.ok d∧Kb z fun r=>P (d::r)
theorem L2:∀{row:List Ty}{P:List DC→Prop}{r:List DC},fk row r→P r→Kb row P
 |[],P,r,h,k=>by obtain rfl:=oL h;exact k
 |t::A,P,r,h,k=>by obtain⟨d,r,rfl,z,h2⟩:=dw h;exact⟨d,z,L2 h2 k⟩
theorem qI{row:List Ty}{rows:ah}(z:Int)(h:af row rows)(A:z.toNat<rows.length:=by exact ae):Kb row fun r=>rows[z.toNat]?=some r:=L2 (lJ h (dx A)) (dx A)
theorem qN{row:List Ty}{rows:ah}{j n:Nat}(k:j<n)(h:af row rows)(z:j<n→j<rows.length:=by intro k;simpa using k):Kb row fun r=>rows[j]?=some r:=L2 (lJ h (dx (z k))) (dx (z k))
theorem qO{row:List Ty}{l:List DC}(h:fk row l):Kb row fun r=>l=r:=L2 h rfl
attribute [local irreducible] VC VO VQ VI Sound bW
theorem W{p:Prop}(h:p:=by repeat' (first|refine wp 6 rfl ?_|refine wp 2 rfl ?_|refine wp 1 rfl ?_|(refine PJ ?_;first|exact bN rfl rfl fin|exact sJ|exact fin)|(refine PK ?_;first|exact⟨_,rz fin ae⟩|exact fin)|refine wo 1 rfl ?_|refine wc 1 rfl ?_|refine wq 1 rfl ?_|refine mc ?_|refine qU 8 rfl rfl ?_|refine qU 3 rfl rfl ?_|refine qU 1 rfl rfl ?_|refine dq ?_|refine Ar ?_|refine qV 8 rfl rfl ?_|refine qV 3 rfl rfl ?_|refine qV 1 rfl rfl ?_|refine A2 ?_|refine rX ?_|(refine ki ?_;exact bN rfl rfl fin)|(refine ki ?_;exact sJ)|refine eA rfl (by first|with_reducible rfl|assumption) ?_|refine dn rfl (by first|with_reducible rfl|assumption) ?_|(refine ay rfl (fun h=>?_) (fun h=>?_)<;>(try(have h:(_:Bool)=_:=h;subst h)))|refine jw ?_|refine mQ ?_|refine jN ?_|refine iu ?_|refine eR ?_|refine iv rfl ?_|refine bw rfl (by first|with_reducible rfl|assumption) (iO (d:=0) rfl ?_)|refine bw (W:=[]) rfl (by first|with_reducible rfl|assumption) ?_|refine lI rfl (by first|with_reducible exact Bool.not_true.symm|with_reducible exact Bool.not_false.symm|assumption) ?_|(refine bu rfl (fun h=>?_) (fun h=>?_)<;>(try(have h:(_:Bool)=_:=h;subst h)))|refine aq (W:=[]) ?_|refine tB rfl (by assumption) rfl ?_|refine tC rfl (by assumption) rfl ?_|refine iO (d:=0) rfl ?_|refine bB rfl rfl ae ae ?_|refine dr rfl rfl ae ae ?_|refine aR rfl (by first|assumption|exact .inl rfl) ?_|(refine Lk rfl rfl (by first|assumption|exact .inl rfl) (by assumption) rfl ae ae ?_;repeat intro _)|(refine bJ (j:=0) rfl rfl (aV rfl) ?_)|refine c7 rfl rfl rfl ae ae ?_|refine pn rfl rfl ?_|refine pn (b:=[]) rfl rfl ?_|refine kL rfl rfl ?_|refine kL (b:=[]) rfl rfl ?_|refine rY rfl rfl rfl rfl ae ae ae ao ?_|refine eO rfl ao ae ae ?_|refine Af rfl rfl ao (fun _=>?_)|refine oB rfl rfl (fun _ _=>?_)|refine mR rfl rfl (fun _ _=>?_)|refine tO rfl rfl (fun _ _=>?_)|refine qB rfl rfl ?_|refine tA rfl rfl ?_|(exfalso;first|omega|((try simp only[eM,gQ,gD,mE] at*);first|omega|(simp_all;done)))|exact⟨_,rz fin ae⟩|exact fin|refine aU (W:=[]) ?_|(rename (Ty.ok Ty.b _)=>z;obtain⟨_,e⟩:=Ty.eU z;subst e;clear z)|(rename (Ty.ok (Ty.i _ _ _) _)=>z;obtain⟨_,e,_,_⟩:=Ty.dV z;first|(subst e;clear z)|clear z)|(rename (Ty.ok (Ty.s _) _)=>z;obtain⟨_,e,_⟩:=Ty.bH z;first|(subst e;clear z)|clear z)|(rename (Ty.ok (Ty.l _ _) _)=>z;obtain⟨_,_,_,_⟩:=Ty.aM z;clear z))):p:=h
end Go.Ev.Rp
