/- Part 22 of rules for walks through the code of a program, and of such walks; what each part proves is said by its theorems. -/
import Derived.Test.YtdaamclhcpjdpaaGreatDoorR19
import Derived.Test.YtdaamclhcpjdpaaGreatDoorR21
set_option linter.unusedVariables false
set_option linter.unusedSimpArgs false
noncomputable section
set_option maxRecDepth 100000
set_option maxHeartbeats 4000000
namespace Go.Ev.Rp
open Go Go.Ev.Pp
def dK(X:List Int)(m:Nat):List Ty:=[.l m cC,.q (fb X)]
def MI(X:List Int):List Ty:=[.q (InX X),.l 1000000000 cC,.i .i64 (-9223372036854775808) 9223372036854775807,.i .i64 (-9223372036854775808) 9223372036854775807,.i .i64 (-9223372036854775808) 9223372036854775807,.i .i64 (-9223372036854775808) 9223372036854775807]
def TL(X:List Int):List Ty:=[.q (InX X),.l 13 cC,.i .i64 (-9223372036854775808) 9223372036854775807,.i .i64 (-9223372036854775808) 9223372036854775807,.i .i64 (-9223372036854775808) 9223372036854775807,.i .i64 (-9223372036854775808) 9223372036854775807]
def MJ(X:List Int):List Ty:=[.l 13 cC,.i .i64 (-9223372036854775808) 9223372036854775807,.i .i64 (-9223372036854775808) 9223372036854775807,.q (fb X)]
def TN(X:List Int):List Ty:=[.s 1000,.l 200 br,.l 100000 (TL X)]
def MK(X:List Int):List Ty:=[.s 1000,.l 200 br,.l 100000 (MJ X)]
def HW(X:List Int):List Ty:=[.s 1000,.l 200 br,.l 100000 (dK X 13)]
theorem rowP_of{X:List Int}{m:Nat}{w:ak}(h:af (dK X m) w):af [.q (Ty.l m cC).ok,.q (fb X)] w:=fun r z=>by
 obtain⟨d,q,rfl,A,h2⟩:=eM (h r z);exact aj (bA A) h2
theorem rowW_of{X:List Int}{m:Nat}{w:ak}(h:af [.q (Ty.l m cC).ok,.q (fb X)] w):af (dK X m) w:=fun r z=>by
 obtain⟨d,q,rfl,A,h2⟩:=eM (h r z);exact aj (Ty.bA A) h2
def xM(X:List Int)(m:Nat):List Ty:=[.l m cC,.q (qL),.q (fb X)]
def TO:List Ty:=[.l 64 br]
def ep:List Ty:=[.i .i64 (-9223372036854775808) 9223372036854775807,.i .i64 (-9223372036854775808) 9223372036854775807]
def jG:List Ty:=[.i .i64 (-9223372036854775808) 9223372036854775807,.i .i64 (-9223372036854775808) 9223372036854775807,.i .i64 (-9223372036854775808) 9223372036854775807,.i .i64 (-9223372036854775808) 9223372036854775807,.s 1000,.l 64 br,.l 64 ep]
theorem uG{X:List Int}{a b:Nat}{w:ak}(h:af (dK X a) w)(z:a≤b):af (dK X b) w:=fun r A=>by
 obtain⟨d,q,rfl,G,h2⟩:=eM (h r A);obtain⟨rows,I,L,M⟩:=Ty.aM G;exact aj (aM I (eZ L z) M) h2
theorem rowD_mono{X:List Int}{a b n:Nat}{w:ak}(h:af [.l n (dK X a)] w)(z:a≤b):af [.l n (dK X b)] w:=fun r A=>by
 obtain⟨d,q,rfl,G,h2⟩:=eM (h r A);obtain⟨rows,I,L,M⟩:=Ty.aM G;exact aj (aM I L (uG M z)) h2
def AL(X:List Int):List Ty:=[.s 1000,.l 100 en,.l 200 br,.l 4 eD,.l 4 ee,.l 100000 (MI X)]
def xN:List Ty:=[.i .i64 0 12,.i .i64 0 30,.i .i64 0 30,.s 1000,.s 1000,.i .i64 (-9223372036854775808) 9223372036854775807,.i .i64 (-9223372036854775808) 9223372036854775807,.s 1000]
def nY:List Ty:=[.s 1000]
def xO:List Ty:=[.b,.s 1000,.s 1000,.i .i64 (-1) 30]
def RM(ne:Nat):List Ty:=[.b,.q (Bj xN ne),.q (AK ne),.q (LstQ xO 1 2),.i .i64 (-1) 30,.b,.l 4 [.i .i64 0 ((ne:Int) -1)]]
def afL(T:aN)(c o:DC):Prop:=∃w wo:ak,aA w c∧1≤w.length∧w.length≤2∧xL RM w∧aA wo o∧wo.length≤2∧w.length≤wo.length+1∧af br wo∧Sound T 320 [.agg [.d c,.d o]] fun r=>∃s:List UInt8,r=dS s
def xi(T:aN)(A:List UInt8):Prop:=A.length≤1000∧Sound T 213 [dS A] fun r=>∃(c o:DC)(z e:Int),r= .tuple [.agg [.d c,.d o],dI z,dI e]∧(-9223372036854775808≤z∧z≤9223372036854775807)∧(-9223372036854775808≤e∧e≤9223372036854775807)∧(e=0→afL T c o)
theorem rowW_x{X:List Int}{m:Nat}{w:ak}(h:af (dK X m) w)(G:m≤1000000000)(I:X.length≤1000000000):af afK w:=fun r L=>by
 obtain⟨d,q,rfl,M,h2⟩:=eM (h r L);obtain⟨d2,q2,rfl,O,U⟩:=eM h2;obtain rfl:=oZ U;obtain⟨rows,Y,Z,k3⟩:=Ty.aM M;obtain⟨z,j1,A⟩:=Ty.bA O;exact aj (aM Y (eZ Z G) k3) (aj (aM j1 (eZ A.len I) A.1) bg)
def I0(T:aN)(d:DC):Prop:=∃z:List UInt8,d=aq z∧xi T z
theorem tabX_of{nv mv:Nat}{w:ak}(h:af (fF nv mv) w)(h1:nv≤100)(h2:mv≤100000)(h3:w.length≤16):∃X:List Int,X.length≤2000000∧af (AL X) w:=by
 have main:∀w:ak,af (fF nv mv) w→∃X:List Int,X.length≤100000*w.length∧af (AL X) w:=by
  intro w
  induction w with
  |nil=>exact fun _=>⟨[],gT _,bT⟩
  |cons r rs ih=>
   intro h;obtain⟨X,hl,hx⟩:=ih fun q G=>h q (m5 _ G)
   have A:=h r (gu ..);obtain⟨d0,_,rfl,M,A⟩:=eM A;obtain⟨d1,_,rfl,O,A⟩:=eM A;obtain⟨d2,_,rfl,U,A⟩:=eM A;obtain⟨d3,_,rfl,k3,A⟩:=eM A;obtain⟨d4,_,rfl,k4,A⟩:=eM A;obtain⟨d5,_,rfl,k5,A⟩:=eM A;obtain rfl:=oZ A;obtain⟨v1,a1,b1,c1⟩:=Ty.aM O;obtain⟨v5,a5,b5,c5,_⟩:=Ty.bA k5;have key:∀(Y:List Int)(v:ak),af jK v→(∀z,z∈v.map gh→z∈Y)→af (MI Y) v:=fun Y v hv hy q G=>by
    obtain⟨e0,_,rfl,m0,I⟩:=eM (hv q G);obtain⟨z,rfl,z1,z2⟩:=Ty.dH m0;exact aj (bA ⟨z,aa,⟨z1,z2⟩,hy z (List.mem_map.2 ⟨_,G,aa⟩)⟩) I
   have sub:∀{Y Z:List Int}{v:ak},(∀z,z∈Y→z∈Z)→af (MI Y) v→af (MI Z) v:=fun hYZ hv q G=>by
    obtain⟨e0,_,rfl,m0,I⟩:=eM (hv q G);obtain⟨z,rfl,z1,z2⟩:=Ty.bA m0;exact aj (bA ⟨z,aa,z1,hYZ _ z2⟩) I
   refine⟨v5.map gh++X,by simp only[fA,pc,gr];omega,fun q G=>?_⟩;rcases List.mem_cons.1 G with rfl|G
   ·exact aj M (aj (aM a1 (eZ b1 h1) c1) (aj U (aj k3 (aj k4 (aj (aM a5 (eZ b5 h2) (sub (fun z L=>List.mem_append.2 (.inl L)) (key _ _ c5 fun z L=>L))) bg)))))
   have A:=hx q G;obtain⟨d0,_,rfl,M,A⟩:=eM A;obtain⟨d1,_,rfl,O,A⟩:=eM A;obtain⟨d2,_,rfl,U,A⟩:=eM A;obtain⟨d3,_,rfl,k3,A⟩:=eM A;obtain⟨d4,_,rfl,k4,A⟩:=eM A;obtain⟨d5,_,rfl,k5,A⟩:=eM A;obtain rfl:=oZ A;obtain⟨v5,a5,b5,c5⟩:=Ty.aM k5;exact aj M (aj O (aj U (aj k3 (aj k4 (aj (aM a5 b5 (sub (fun z L=>List.mem_append.2 (.inr L)) c5)) bg)))))
 obtain⟨X,h4,h5⟩:=main w h;exact⟨X,ah,h5⟩
def Xd(n s t u:List UInt8):List (List UInt8):=[([83,69,76,69,67,84,32,42,32,70,82,79,77,32]++t),((((([83,69,76,69,67,84,32,97,32,44,32,98,32,70,82,79,77,32]++t)++[32,87,72,69,82,69,32,97,32,61,32])++n)++[32,79,82,32,98,32,60,32])++s),((([83,69,76,69,67,84,32,98,32,70,82,79,77,32]++t)++[32,87,72,69,82,69,32,78,79,84,32,97,32,60,32])++n),([83,69,76,69,67,84,32,67,79,85,78,84,32,40,32,42,32,41,32,70,82,79,77,32]++t),(([83,69,76,69,67,84,32,98,32,44,32,83,85,77,32,40,32,97,32,41,32,65,83,32,116,111,116,97,108,32,70,82,79,77,32]++t)++[32,71,82,79,85,80,32,66,89,32,98]),((([83,69,76,69,67,84,32,77,73,78,32,40,32,97,32,41,32,44,32,77,65,88,32,40,32,98,32,41,32,70,82,79,77,32]++t)++[32,87,72,69,82,69,32,97,32,62,32])++n),[83,69,76,69,67,84,32,116,32,46,32,97,32,44,32,117,32,46,32,98,32,70,82,79,77,32,116,32,74,79,73,78,32,117,32,79,78,32,116,32,46,32,97,32,61,32,117,32,46,32,97],(((([83,69,76,69,67,84,32,120,32,46,32,98,32,44,32,121,32,46,32,98,32,70,82,79,77,32]++t)++[32,65,83,32,120,32,76,69,70,84,32,74,79,73,78,32])++u)++[32,65,83,32,121,32,79,78,32,120,32,46,32,97,32,61,32,121,32,46,32,97,32,65,78,68,32,120,32,46,32,98,32,61,32,121,32,46,32,98]),((([83,69,76,69,67,84,32,97,32,70,82,79,77,32]++t)++[32,69,88,67,69,80,84,32,65,76,76,32,83,69,76,69,67,84,32,97,32,70,82,79,77,32])++u),((([83,69,76,69,67,84,32,97,32,70,82,79,77,32]++t)++[32,73,78,84,69,82,83,69,67,84,32,65,76,76,32,83,69,76,69,67,84,32,97,32,70,82,79,77,32])++u),((([83,69,76,69,67,84,32,97,32,44,32,98,32,70,82,79,77,32]++t)++[32,85,78,73,79,78,32,65,76,76,32,83,69,76,69,67,84,32,97,32,44,32,98,32,70,82,79,77,32])++u),([83,69,76,69,67,84,32,68,73,83,84,73,78,67,84,32,98,32,70,82,79,77,32]++t),([83,69,76,69,67,84,32,97,32,43,32,49,32,44,32,99,32,70,82,79,77,32]++t),(([83,69,76,69,67,84,32,97,32,70,82,79,77,32]++t)++[32,87,72,69,82,69,32,98,32,73,83,32,78,85,76,76]),((((([83,69,76,69,67,84,32,68,73,83,84,73,78,67,84,32,97,32,70,82,79,77,32]++t)++[32,87,72,69,82,69,32,97,32,42,32,50,32,60,32,49,32,85,78,73,79,78,32,65,76,76,32,83,69,76,69,67,84,32,97,32,45,32])++n)++[32,70,82,79,77,32])++u)]
def zc(T:aN):Prop:=xi T []∧∀n s t u:List UInt8,(n=[48]∨n=[49]∨n=[45,32,49]∨n=[78,85,76,76])→(s=[39,39]∨s=[39,97,39]∨s=[39,98,39,39,39])→(t=[116]∨t=[117])→(u=[117]∨u=[116])→∀(k:Nat)(z:List UInt8),(Xd n s t u)[k]?=some z→xi T z
def ML(T:aN):List Ty:=[.i .i64 1 5,.i .i64 (-9223372036854775808) 9223372036854775807,.l 2 [.i .i64 (-9223372036854775808) 9223372036854775807,.s 1000,.l 1000000000 cC,.i .i64 (-9223372036854775808) 9223372036854775807,.i .i64 (-9223372036854775808) 9223372036854775807,.l 100 ew,.i .i64 (-9223372036854775808) 9223372036854775807,.l 10 ep,.s 1000,.l 100 en,.l 200 br,.l 4 eD,.l 4 ee,.i .i64 (-9223372036854775808) 9223372036854775807,.s 1000,.i .i64 (-9223372036854775808) 9223372036854775807],.i .i64 (-9223372036854775808) 9223372036854775807,.i .i64 (-9223372036854775808) 9223372036854775807,.i .i64 (-9223372036854775808) 9223372036854775807,.q (I0 T),.i .i64 0 4,.i .i64 (-9223372036854775808) 9223372036854775807,.i .i64 (-9223372036854775808) 9223372036854775807]
abbrev tTL(nv:Nat):Ty:=.q (pj (fF nv 4096) 0 16)
theorem adl{α:Type}{w v:List α}{P:α→Prop}(h:∀r,w[0]?=some r→P r)(A:1≤(w.length:Int)):∀r,(w++v)[0]?=some r→P r:=fun r z=>h r (by rwa [vz ah] at z)
end Go.Ev.Rp
namespace Go.Ev
open Go
def Ty.all:Ty→(DC→Prop)→Prop
 |.i k lo hi,P=>∀z:Int,lo≤z→z≤hi→P (.i k z)
 |.b,P=>∀b:Bool,P (.b b)
 |.s n,P=>∀s:List UInt8,s.length≤n→P (aq s)
 |.l n row,P=>∀(rows:ak)(d:DC),aA rows d→rows.length≤n→af row rows→P d
 |.e y,P=>P y
 |.x,P=>∀d,P d
 |.q p,P=>∀d,p d→P d
def Bk:List Ty→(List DC→Prop)→Prop
 |[],P=>P []
 |t::z,P=>t.all fun d=>Bk z fun r=>P (d::r)
theorem Ty.all_ok:∀{t:Ty}{P:DC→Prop}{d:DC},t.all P→t.ok d→P d
 |.i k lo hi,P,d,h,A=>by obtain⟨z,rfl,a,b⟩:=Ty.dH A;exact h z a b
 |.b,P,d,h,A=>by obtain⟨z,rfl⟩:=Ty.dY A;exact h z
 |.s n,P,d,h,A=>by obtain⟨z,rfl,a⟩:=Ty.bE A;exact h z a
 |.l n row,P,d,h,A=>by obtain⟨z,a,b,c⟩:=Ty.aM A;exact h z d a b c
 |.e y,P,d,h,A=>by simp only[Ty.ok] at A;subst A;exact h
 |.x,P,d,h,A=>h d
 |.q p,P,d,h,A=>h d (Ty.bA A)
theorem Bk.ok:∀{row:List Ty}{P:List DC→Prop}{r:List DC},Bk row P→fC row r→P r
 |[],P,r,h,k=>by obtain rfl:=oZ k;exact h
 |t::z,P,r,h,k=>by
  obtain⟨d,q,rfl,A,h2⟩:=eM k;have:=Ty.all_ok (P:=fun d=>Bk z fun r=>P (d::r)) h A;exact Bk.ok (P:=fun r=>P (d::r)) this h2
section
variable{T:aN}{VE:bo}{B:aT}{Q:VV→aT→Prop}
theorem vi_idxW{x i:aH}{es:Nat}{k:IntKind}{rows:ak}{row:List Ty}{d:DC}{z:Int}(G:x.vv VE=some (.d d))(hi:i.vv VE=some (.d (.i k z)))(I:aA rows d)(L:af row rows)(M:row.length=es)(h0:0≤z)(Y:z<(rows.length:Int))
  (O:Bk row fun r=>rows[z.toNat]?=some r→Q (.rp r 0) B):VI T (.iE es x i) VE B [] Q:=by
 have U:z.toNat<rows.length:=by omega
 have A:rows[z.toNat]?=some rows[z.toNat]:=c7 U;have ho:=mN L A;exact aI G hi I h0 A ((QN ho).trans M) (Bk.ok (P:=fun r=>rows[z.toNat]?=some r→Q (.rp r 0) B) O ho A)
end
theorem Cu{VE:bo}{k:Nat}{v:VV}(h:aL VE k=some v):∀j w,aL ((k,v)::VE) j=some w→aL VE j=some w:=fun j w z=>by
 rw[dn] at z
 split at z
 ·rename_i e;subst e;rw[h];exact z
 exact z
theorem bm{T:aN}{VE:bo}{B:aT}{d:Option Key}{g:Key}{w t:Bool}{qq:Option (List Nat)}{op:bn}{p q:Prop}{ops:List bl}{Q:bo→aT→Prop}(z:aL VE g.n=some (.d (.b t)))(A:p→VO T (⟨d,some (g,w),qq,op⟩::ops) ((g.n,.d (.b true))::VE) B Q)(h2:q→VO T (⟨d,some (g,w),qq,op⟩::ops) ((g.n,.d (.b false))::VE) B Q)(G:(t=true)=p:=by first|(simp only[eK,ij,gZ,oz,fQ];first|done|rfl)|rfl)(I:(t=false)=q:=by first|(simp only[eK,ij,gZ,oz,fQ];first|done|rfl)|rfl):VO T (⟨d,some (g,w),qq,op⟩::ops) VE B Q:=by
 cases t with
 |true=>exact aaX (Cu z) (A (Eq.mp G rfl))
 |false=>exact aaX (Cu z) (h2 (Eq.mp I rfl))
theorem au{T:aN}{VE:bo}{B:aT}{R:Ex→bo→aT→Prop}{k:Key}{a b:IC}{t:Bool}{p q:Prop}(z:aL VE k.n=some (.d (.b t)))(A:p→VC T a ((k.n,.d (.b true))::VE) B R)(h2:q→VC T b ((k.n,.d (.b false))::VE) B R)(G:(t=true)=p:=by first|(simp only[eK,ij,gZ,oz,fQ];first|done|rfl)|rfl)(I:(t=false)=q:=by first|(simp only[eK,ij,gZ,oz,fQ];first|done|rfl)|rfl):VC T (.cond (.t k) a b) VE B R:=by
 cases t with
 |true=>exact Z5 z (aaY (Cu z) (A (Eq.mp G rfl)))
 |false=>exact Z6 z (aaY (Cu z) (h2 (Eq.mp I rfl)))
def Lb(o:bl):Bool:=match o.op with
 |.conv _ _=>false
 |_=>true
theorem TP(n:Nat){T:aN}{VE:bo}{B:aT}{Q:bo→aT→Prop}{ops:List bl}{bF:bo}{B':aT}{r:List bl}(_hc:(ops.take n).all Lb=true)(h:AJ n ops VE B=some (bF,B',r))(k:VO T r bF B' Q):VO T ops VE B Q:=lI n h k
theorem TQ(n:Nat){T:aN}{VE:bo}{B:aT}{Q:bo→aT→Prop}{ops:List bl}{fl kH:List FL}{bF:bo}{B':aT}{r:List bl}(_hc:(ops.take n).all Lb=true)(h:vl n ops VE B fl=some (bF,B',kH,r))(k:VQ T r bF B' kH Q):VQ T ops VE B fl Q:=ua n h k
def sG(row:List Ty)(z:ak)(f:Nat)(r:ak):Prop:=(r=[]∧(z=[]∨z=[]++[[.nil]]))∨(r≠[]∧∃pre,z=pre++[[.raw f r.length 2]]∧af [.l 1000000 row] pre)
theorem sG.mk{row:List Ty}{pre w:ak}{d:DC}{j f:Nat}{r:ak}{n:Nat}(z:w=(pre++[[d]]).set j (qJ [d] 0 [.raw f n 2]))(A:j=pre.length)(G:n=r.length)(I:r≠[])(L:af [.l 1000000 row] pre):sG row w f r:=by
 refine .inr ⟨I,pre,?_,L⟩;subst A G;rw[z,afv _ _ (bq _)];simp[qJ]
theorem afM{row:List Ty}{pre w:ak}(z:af [.l 1000000 row] pre)(A:af row w)(G:w.length≤1000000):af [.l 1000000 row] (pre++[[.sl w]]):=dC z (dr (aj (aM (.inl rfl) G A) bg))
section
variable{T:aN}{VE:bo}{B:aT}
theorem vi_load1PA{Q:VV→aT→Prop}{a:aH}{b j o es elem aF f:Nat}{rows:ak}{row:List DC}{x:DC}(G:a.vv VE=some (.bp b rows.length j o es))(I:aL B b=some (.c9 f (.acc elem aF es rows)))(L:rows[j]?=some row)(M:row[o]?=some x)(O:Q (.d x) B):VI T (.load 1 false a) VE B [] Q:=fun _ _ _ _ _ z=>by
 obtain⟨_,U,A⟩:=z.bD G;simp only[aG] at A;subst A;obtain⟨l,Y,Z,k5⟩:=dk.CT (z.box b _ I).2 L;obtain⟨y,k6,k7⟩:=k5.get M;exact Fv U Y (by rw[Z]) k6 (dy z (v:=.d x) (by simp only[aG];exact k7) O)
theorem Rel.frzR{H0:Nat→Nat}{X0:Nat→Prop}{E:Env}{H:aw}{β:Nat→Nat}(Z:Rel H0 X0 VE B E H β){b c f elem aF es O A:Nat}{w pre:ak}(hb:aL B b=some (.c9 f (.acc elem aF es w)))(hw:w≠[])(hc:aL B c=some (.acc O A 1 (pre++[[.raw f w.length es]])))(hbc:b≠c):Rel H0 X0 VE ((c,.acc O A 1 (pre++[[.sl w]]))::du B b) E H β:=by
 have hf:=Z.pinned hb hw;have h:=Z.drop b;have I:∀d s,aL (du B b) d=some s→b≠d∧aL B d=some s:=fun d s z=>by
  rw[mL] at z
  by_cases e:b=d
  ·rw[bh e] at z;cases z
  rw[aZ e] at z;exact⟨e,z⟩
 have yS:aL (du B b) c=some (.acc O A 1 (pre++[[.raw f w.length es]])):=by rw[mL,aZ hbc];exact hc
 have Y:(BS.acc O A 1 (pre++[[.sl w]])).born↔(BS.acc O A 1 (pre++[[.raw f w.length es]])).born:=by simp[BS.born]
 have hd:=lY (s':=.acc O A 1 (pre++[[.sl w]])) yS Y;generalize hX:XB X0 ((c,.acc O A 1 (pre++[[.sl w]]))::du B b) β=X;have hl:e9 H (XB X0 (du B b) β) H X:=by rw[←hX];exact⟨bq _,fun f _ hx=>⟨fun k=>hx (k.imp id fun⟨c,t,z,ho,h2⟩=>by obtain⟨u,G,L⟩:=hd c t z ho;exact⟨c,u,G,L,h2⟩),rfl⟩⟩
 have kX:e9 H (XB X0 B β) H X:=by rw[←hX];exact⟨bq _,fun f _ hx=>⟨fun k=>hx (k.imp id fun⟨c,t,z,ho,h2⟩=>by obtain⟨u,G,L⟩:=hd c t z ho;exact⟨c,u,(I c u G).2,L,h2⟩),rfl⟩⟩
 have hx:¬X (β b):=by
  rw[←hX];rintro(k|⟨d,s,z,pL,h2⟩)
  ·exact(Z.new b _ hb hw).1 k
  obtain⟨u,G,L⟩:=hd d s z pL;exact(I d u G).1 (Z.inj d b u _ (I d u G).2 hb L hw h2).symm
 have Vb:bH H X (.sl w) (.slice f w.length 0 w.length es):=by
  simp only[bH];refine⟨f,w.length,0,es,rfl,.inr ⟨hf▸hx,hf▸(Z.new b _ hb hw).2,0,by simp,dF.oS fun q r U=>?_⟩⟩;obtain⟨l,z,h2,h3⟩:=dk.CT (Z.box b _ hb).2 U;exact⟨l,by rw[fG];exact hf▸z,h2,h3.lift kX⟩
 refine⟨h.kY,h.aQ,h.x0,fun d t hc ho=>?_,fun c d t u hc wu hs ht he=>?_,fun k v hk=>?_,fun d t M=>?_⟩
 ·obtain⟨u,G,L⟩:=hd d t hc ho;exact h.new d u G L
 ·obtain⟨s1,G,L⟩:=hd c t hc hs;obtain⟨t1,k3,k4⟩:=hd d u wu ht;exact h.inj c d s1 t1 G k3 L k4 he
 ·obtain⟨a,z,h2⟩:=h.env k v hk;exact⟨a,z,hX▸h2.lift hl⟩
 rw[hX];rw[dn] at M
 by_cases k:c=d
 ·subst k;rw[bh rfl] at M
  cases M
  rcases(h.box c _ yS).lift hl rfl with k|⟨lo,cs,z,h2,h3⟩
  ·simp at k
  refine .inr ⟨lo,cs,by rw[z];simp,by simpa using h2,fun q r U=>?_⟩
  by_cases e:q=pre.length
  ·subst e;have WG:r=[.sl w]:=by rw[iQ] at U;cases U;rfl
   subst WG;obtain⟨l,G,L,k3⟩:=h3 pre.length _ iQ;refine⟨l,G,L,?_⟩;simp only[bU,bH] at k3;obtain⟨a,s,rfl,rfl,rfl⟩:=k3;simp only[bU];exact⟨_,_,aa,Vb,aa⟩
  have hq':(pre++[[DC.raw f w.length es]])[q]?=some r:=by
   by_cases O:q<pre.length
   ·rw[vz O] at U⊢;exact U
   rw[A8 (by simp;omega)] at U;cases U
  exact h3 q r hq'
 rw[aZ k] at M;exact(h.box d t M).lift hl rfl
theorem more_frzR{b c G A:Nat}{rows z:ak}(I:aL B c=some (.acc G A 1 rows))(L:rows≠[]):∀d t,aL ((c,BS.acc G A 1 z)::du B b) d=some t→t.born→∃u,aL B d=some u∧u.born:=fun d t h ho=>by
 rw[dn] at h
 by_cases k:c=d
 ·subst k;exact⟨_,I,L⟩
 rw[aZ k,mL] at h
 by_cases e:b=d
 ·rw[bh e] at h;cases h
 rw[aZ e] at h;exact⟨t,h,ho⟩
theorem abh{G:IC}{R:Ex→bo→aT→Prop}(b c:Nat){f elem aF es I z:Nat}{w pre:ak}(M:aL B b=some (.c9 f (.acc elem aF es w)))(O:w≠[])(L:aL B c=some (.acc I z 1 (pre++[[.raw f w.length es]])))(A:b≠c)(h:VC T G VE ((c,.acc I z 1 (pre++[[.sl w]]))::du B b) R):VC T G VE B R:=
 fun H0 X0 E H β U=>(h H0 X0 E H β (U.frzR M O L A)).mono fun _ _ _ Y=>Y.more (more_frzR L (by simp))
theorem vc_frzRs{G:IC}{R:Ex→bo→aT→Prop}(s b c:Nat){f elem aF es I z:Nat}{w pre:ak}(L:aL B b=some (.c9 f (.acc elem aF es w)))(M:w≠[])(O:aL B c=some (.acc I z 1 (pre++[[.raw f w.length es]])))(A:b≠c)(U:aL VE s=some (.ac c (pre++[[DC.raw f w.length es]]).length 1))(h:VC T G ((s,.ac c (pre++[[DC.sl w]]).length 1)::VE) ((c,.acc I z 1 (pre++[[.sl w]]))::du B b) R):VC T G VE B R:=
 abh b c L M O A fun H0 X0 E H β Y=>h H0 X0 E H β (Y.slot U fun a Z=>by
  have e:(pre++[[DC.sl w]]).length=(pre++[[DC.raw f w.length es]]).length:=by simp
  rw[e];exact Z)
theorem vc_slot{z:IC}{R:Ex→bo→aT→Prop}(k:Nat){v:VV}(A:VV)(G:aL VE k=some v)(I:∀H X β a,aG H X β v a→aG H X β A a)(h:VC T z ((k,A)::VE) B R):VC T z VE B R:=fun H0 X0 E H β L=>h H0 X0 E H β (L.slot G fun a M=>I H _ β a M)
theorem vc_grp{A:IC}{R:Ex→bo→aT→Prop}(s b c:Nat){row:List Ty}{G r:ak}{f elem aF O z:Nat}(hg:sG row G f r)(I:af row r)(hl:r.length≤1000000)(hb:aL B b=some (.c9 f (.acc elem aF 2 r)))(Z:aL B c=some (.acc O z 1 G))(L:b≠c)(hs:aL VE s=some (.ac c G.length 1))
  (h:∀w':ak,w'.length=G.length→af [.l 1000000 row] w'→VC T A ((s,.ac c w'.length 1)::VE) ((c,.acc O z 1 w')::du B b) R):VC T A VE B R:=by
 have sl:∀{B':aT}{n:Nat},n=G.length→VC T A ((s,.ac c n 1)::VE) B' R→VC T A VE B' R:=fun e h H0 X0 E H β I=>h H0 X0 E H β (I.slot hs fun a ha=>e▸ha)
 have same:∀{w':ak},w'=G→VC T A VE ((c,.acc O z 1 w')::du B b) R→VC T A VE B R:=fun{w'}e k=>by
  subst e;refine aaZ b (fun H0 X0 E H β I=>?_);have M:aL (du B b) c=some (.acc O z 1 w'):=by rw[mL,aZ L];exact Z
  exact(k H0 X0 E H β (I.qK M gS fun _ k=>k)).mono fun _ _ _ U=>U.more (lY M gS)
 rcases hg with⟨_,e|e⟩|⟨Y,pre,e,U⟩
 ·subst e;exact same aa (sl aa (h [] aa bT))
 ·subst e;exact same aa (sl aa (h ([]++[[.nil]]) aa (dr (aj gp bg))))
 subst e;refine abh b c hb Y Z L (sl (by simp) (h _ (by simp) (afM U I hl)))
end
section
variable{T:aN}{VE:bo}{B:aT}{Q:VV→aT→Prop}
theorem vi_idxK{x i:aH}{l v:Nat}{k:IntKind}{j:Nat}(G:x.vv VE=some (.d (.s l v)))(hi:i.vv VE=some (.d (.i k (j:Int))))(I:j<l)(L:∀c:Int,0≤c→c≤255→Q (.d (.i .u8 c)) B):VI T (.zY x i) VE B [] Q:=fun _ _ _ _ _ z=>by
 have M:=z.aip G;have h2:=z.rZ hi;have O:oQ v j<256:=ye _ ao;refine eO (v:=.int .u8 (.ofNat (oQ v j))) (fun call=>?_) (dy z (v:=.d (.i .u8 ((oQ v j:Nat):Int))) (by simp only[aG,bH];rfl) (L _ ah ah));show bk x _ (.err 14) (fun v=>jm v (.err 14) fun l s=>bk i _ (.err 14) fun A=>Ev.idx A l (.err 14) fun j=>ct (oQ s j) fun b=>.ok (.int .u8 (.ofNat b)) _)=_;rw[cL,M,cI];show bk i _ (.err 14) (fun A=>Ev.idx A l (.err 14) fun j=>ct (oQ v j) fun b=>.ok (.int .u8 (.ofNat b)) _)=_;rw[cL,h2,cI];show aD (Nat.ble (Nat.succ j) l) (ct (oQ v j) fun b=>aC.ok (.int .u8 (.ofNat b)) _) (aC.err 14)=_;rw[show Nat.ble (Nat.succ j) l=true from gF I,dV,fK]
theorem vc_condC{a b:IC}{R:Ex→bo→aT→Prop}(h:VC T b VE B R):VC T (.cond (.c (.bool false)) a b) VE B R:=fun H0 X0 E H β z=>
 KL (t:=false) rfl (fun e=>by cases e) (fun _=>h H0 X0 E H β z)
end
end Go.Ev
