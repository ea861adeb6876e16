/- Part 23 of rules for walks through the code of a program, and of such walks; what each part proves is said by its theorems. -/
import Derived.Test.YtdaamclhcpjdpaaGreatDoorT21
import Derived.Test.YtdaamclhcpjdpaaGreatDoorT22
set_option linter.unusedVariables false
set_option linter.unusedSimpArgs false
noncomputable section
set_option maxRecDepth 100000
set_option maxHeartbeats 4000000
namespace Go.Ev.Rp
open Go Go.Ev.Pp
def dL(X:List Int)(m:Nat):List Ty:=[.l m cn,.q (fi X)]
def MX(X:List Int):List Ty:=[.q (InX X),.l 1000000000 cn,.i .i64 (-9223372036854775808) 9223372036854775807,.i .i64 (-9223372036854775808) 9223372036854775807,.i .i64 (-9223372036854775808) 9223372036854775807,.i .i64 (-9223372036854775808) 9223372036854775807]
def Uk(X:List Int):List Ty:=[.q (InX X),.l 13 cn,.i .i64 (-9223372036854775808) 9223372036854775807,.i .i64 (-9223372036854775808) 9223372036854775807,.i .i64 (-9223372036854775808) 9223372036854775807,.i .i64 (-9223372036854775808) 9223372036854775807]
def MY(X:List Int):List Ty:=[.l 13 cn,.i .i64 (-9223372036854775808) 9223372036854775807,.i .i64 (-9223372036854775808) 9223372036854775807,.q (fi X)]
def Ul(X:List Int):List Ty:=[.s 1000,.l 200 bc,.l 100000 (Uk X)]
def MZ(X:List Int):List Ty:=[.s 1000,.l 200 bc,.l 100000 (MY X)]
def Ib(X:List Int):List Ty:=[.s 1000,.l 200 bc,.l 100000 (dL X 13)]
theorem rowP_of{X:List Int}{m:Nat}{w:aj}(h:af (dL X m) w):af [.q (Ty.l m cn).ok,.q (fi X)] w:=fun r z=>by
 obtain⟨d,q,rfl,A,h2⟩:=eP (h r z);exact ah (bE A) h2
theorem rowW_of{X:List Int}{m:Nat}{w:aj}(h:af [.q (Ty.l m cn).ok,.q (fi X)] w):af (dL X m) w:=fun r z=>by
 obtain⟨d,q,rfl,A,h2⟩:=eP (h r z);exact ah (Ty.bE A) h2
def x9(X:List Int)(m:Nat):List Ty:=[.l m cn,.q (qC),.q (fi X)]
def Um:List Ty:=[.l 64 bc]
def ze:List Ty:=[.i .i64 (-9223372036854775808) 9223372036854775807,.i .i64 (-9223372036854775808) 9223372036854775807]
def jR:List Ty:=[.i .i64 (-9223372036854775808) 9223372036854775807,.i .i64 (-9223372036854775808) 9223372036854775807,.i .i64 (-9223372036854775808) 9223372036854775807,.i .i64 (-9223372036854775808) 9223372036854775807,.s 1000,.l 64 bc,.l 64 ze]
theorem uD{X:List Int}{a b:Nat}{w:aj}(h:af (dL X a) w)(z:a≤b):af (dL X b) w:=fun r A=>by
 obtain⟨d,q,rfl,G,h2⟩:=eP (h r A);obtain⟨rows,I,L,M⟩:=Ty.aL G;exact ah (aL I (eZ L z) M) h2
theorem rowD_mono{X:List Int}{a b n:Nat}{w:aj}(h:af [.l n (dL X a)] w)(z:a≤b):af [.l n (dL X b)] w:=fun r A=>by
 obtain⟨d,q,rfl,G,h2⟩:=eP (h r A);obtain⟨rows,I,L,M⟩:=Ty.aL G;exact ah (aL I L (uD M z)) h2
def Bo(X:List Int):List Ty:=[.s 1000,.l 100 dk,.l 200 bc,.l 4 dy,.l 4 dj,.l 100000 (MX X)]
def yb:List Ty:=[.i .i64 0 12,.i .i64 0 30,.i .i64 0 30,.s 1000,.s 1000,.i .i64 (-9223372036854775808) 9223372036854775807,.i .i64 (-9223372036854775808) 9223372036854775807,.s 1000]
def nV:List Ty:=[.s 1000]
def yd:List Ty:=[.b,.s 1000,.s 1000,.i .i64 (-1) 30]
def R'(ne:Nat):List Ty:=[.b,.q (BR yb ne),.q (Bl ne),.q (LstQ yd 1 2),.i .i64 (-1) 30,.b,.l 4 [.i .i64 0 ((ne:Int) -1)]]
def af6(T:aO)(c o:DC):Prop:=∃w wo:aj,ao w c∧1≤w.length∧w.length≤2∧xZ R' w∧ao wo o∧wo.length≤2∧w.length≤wo.length+1∧af bc wo∧Sound T 320 [.agg [.d c,.d o]] fun r=>∃s:List UInt8,r=dS s
def xu(T:aO)(A:List UInt8):Prop:=A.length≤1000∧Sound T 213 [dS A] fun r=>∃(c o:DC)(z e:Int),r= .tuple [.agg [.d c,.d o],dI z,dI e]∧(-9223372036854775808≤z∧z≤9223372036854775807)∧(-9223372036854775808≤e∧e≤9223372036854775807)∧(e=0→af6 T c o)
theorem rowW_x{X:List Int}{m:Nat}{w:aj}(h:af (dL X m) w)(G:m≤1000000000)(I:X.length≤1000000000):af af1 w:=fun r L=>by
 obtain⟨d,q,rfl,M,h2⟩:=eP (h r L);obtain⟨d2,q2,rfl,O,U⟩:=eP h2;obtain rfl:=oT U;obtain⟨rows,Y,Z,k3⟩:=Ty.aL M;obtain⟨z,j1,A⟩:=Ty.bE O;exact ah (aL Y (eZ Z G) k3) (ah (aL j1 (eZ A.len I) A.1) bf)
def I7(T:aO)(d:DC):Prop:=∃z:List UInt8,d=al z∧xu T z
theorem tabX_of{nv mv:Nat}{w:aj}(h:af (fG nv mv) w)(h1:nv≤100)(h2:mv≤100000)(h3:w.length≤16):∃X:List Int,X.length≤2000000∧af (Bo X) w:=by
 have main:∀w:aj,af (fG nv mv) w→∃X:List Int,X.length≤100000*w.length∧af (Bo X) w:=by
  intro w
  induction w with
  |nil=>exact fun _=>⟨[],gX _,ca⟩
  |cons r rs ih=>
   intro h;obtain⟨X,hl,hx⟩:=ih fun q G=>h q (mu _ G)
   have A:=h r (iI ..);obtain⟨d0,_,rfl,M,A⟩:=eP A;obtain⟨d1,_,rfl,O,A⟩:=eP A;obtain⟨d2,_,rfl,U,A⟩:=eP A;obtain⟨d3,_,rfl,k3,A⟩:=eP A;obtain⟨d4,_,rfl,k4,A⟩:=eP A;obtain⟨d5,_,rfl,k5,A⟩:=eP A;obtain rfl:=oT A;obtain⟨v1,a1,b1,c1⟩:=Ty.aL O;obtain⟨v5,a5,b5,c5,_⟩:=Ty.bE k5;have key:∀(Y:List Int)(v:aj),af fC v→(∀z,z∈v.map ka→z∈Y)→af (MX Y) v:=fun Y v hv hy q G=>by
    obtain⟨e0,_,rfl,m0,I⟩:=eP (hv q G);obtain⟨z,rfl,z1,z2⟩:=Ty.dP m0;exact ah (bE ⟨z,aa,⟨z1,z2⟩,hy z (List.mem_map.2 ⟨_,G,aa⟩)⟩) I
   have sub:∀{Y Z:List Int}{v:aj},(∀z,z∈Y→z∈Z)→af (MX Y) v→af (MX Z) v:=fun hYZ hv q G=>by
    obtain⟨e0,_,rfl,m0,I⟩:=eP (hv q G);obtain⟨z,rfl,z1,z2⟩:=Ty.bE m0;exact ah (bE ⟨z,aa,z1,hYZ _ z2⟩) I
   refine⟨v5.map ka++X,by simp only[fv,n6,gy];omega,fun q G=>?_⟩;rcases List.mem_cons.1 G with rfl|G
   ·exact ah M (ah (aL a1 (eZ b1 h1) c1) (ah U (ah k3 (ah k4 (ah (aL a5 (eZ b5 h2) (sub (fun z L=>List.mem_append.2 (.inl L)) (key _ _ c5 fun z L=>L))) bf)))))
   have A:=hx q G;obtain⟨d0,_,rfl,M,A⟩:=eP A;obtain⟨d1,_,rfl,O,A⟩:=eP A;obtain⟨d2,_,rfl,U,A⟩:=eP A;obtain⟨d3,_,rfl,k3,A⟩:=eP A;obtain⟨d4,_,rfl,k4,A⟩:=eP A;obtain⟨d5,_,rfl,k5,A⟩:=eP A;obtain rfl:=oT A;obtain⟨v5,a5,b5,c5⟩:=Ty.aL k5;exact ah M (ah O (ah U (ah k3 (ah k4 (ah (aL a5 b5 (sub (fun z L=>List.mem_append.2 (.inr L)) c5)) bf)))))
 obtain⟨X,h4,h5⟩:=main w h;exact⟨X,aq,h5⟩
def XG(n s t u:List UInt8):List (List UInt8):=[([83,69,76,69,67,84,32,42,32,70,82,79,77,32]++t),((((([83,69,76,69,67,84,32,97,32,44,32,98,32,70,82,79,77,32]++t)++[32,87,72,69,82,69,32,97,32,61,32])++n)++[32,79,82,32,98,32,60,32])++s),((([83,69,76,69,67,84,32,98,32,70,82,79,77,32]++t)++[32,87,72,69,82,69,32,78,79,84,32,97,32,60,32])++n),([83,69,76,69,67,84,32,67,79,85,78,84,32,40,32,42,32,41,32,70,82,79,77,32]++t),(([83,69,76,69,67,84,32,98,32,44,32,83,85,77,32,40,32,97,32,41,32,65,83,32,116,111,116,97,108,32,70,82,79,77,32]++t)++[32,71,82,79,85,80,32,66,89,32,98]),((([83,69,76,69,67,84,32,77,73,78,32,40,32,97,32,41,32,44,32,77,65,88,32,40,32,98,32,41,32,70,82,79,77,32]++t)++[32,87,72,69,82,69,32,97,32,62,32])++n),[83,69,76,69,67,84,32,116,32,46,32,97,32,44,32,117,32,46,32,98,32,70,82,79,77,32,116,32,74,79,73,78,32,117,32,79,78,32,116,32,46,32,97,32,61,32,117,32,46,32,97],(((([83,69,76,69,67,84,32,120,32,46,32,98,32,44,32,121,32,46,32,98,32,70,82,79,77,32]++t)++[32,65,83,32,120,32,76,69,70,84,32,74,79,73,78,32])++u)++[32,65,83,32,121,32,79,78,32,120,32,46,32,97,32,61,32,121,32,46,32,97,32,65,78,68,32,120,32,46,32,98,32,61,32,121,32,46,32,98]),((([83,69,76,69,67,84,32,97,32,70,82,79,77,32]++t)++[32,69,88,67,69,80,84,32,65,76,76,32,83,69,76,69,67,84,32,97,32,70,82,79,77,32])++u),((([83,69,76,69,67,84,32,97,32,70,82,79,77,32]++t)++[32,73,78,84,69,82,83,69,67,84,32,65,76,76,32,83,69,76,69,67,84,32,97,32,70,82,79,77,32])++u),((([83,69,76,69,67,84,32,97,32,44,32,98,32,70,82,79,77,32]++t)++[32,85,78,73,79,78,32,65,76,76,32,83,69,76,69,67,84,32,97,32,44,32,98,32,70,82,79,77,32])++u),([83,69,76,69,67,84,32,68,73,83,84,73,78,67,84,32,98,32,70,82,79,77,32]++t),([83,69,76,69,67,84,32,97,32,43,32,49,32,44,32,99,32,70,82,79,77,32]++t),(([83,69,76,69,67,84,32,97,32,70,82,79,77,32]++t)++[32,87,72,69,82,69,32,98,32,73,83,32,78,85,76,76]),((((([83,69,76,69,67,84,32,68,73,83,84,73,78,67,84,32,97,32,70,82,79,77,32]++t)++[32,87,72,69,82,69,32,97,32,42,32,50,32,60,32,49,32,85,78,73,79,78,32,65,76,76,32,83,69,76,69,67,84,32,97,32,45,32])++n)++[32,70,82,79,77,32])++u)]
def zO(T:aO):Prop:=xu T []∧∀n s t u:List UInt8,(n=[48]∨n=[49]∨n=[45,32,49]∨n=[78,85,76,76])→(s=[39,39]∨s=[39,97,39]∨s=[39,98,39,39,39])→(t=[116]∨t=[117])→(u=[117]∨u=[116])→∀(k:Nat)(z:List UInt8),(XG n s t u)[k]?=some z→xu T z
def M0(T:aO):List Ty:=[.i .i64 1 5,.i .i64 (-9223372036854775808) 9223372036854775807,.l 2 [.i .i64 (-9223372036854775808) 9223372036854775807,.s 1000,.l 1000000000 cn,.i .i64 (-9223372036854775808) 9223372036854775807,.i .i64 (-9223372036854775808) 9223372036854775807,.l 100 eB,.i .i64 (-9223372036854775808) 9223372036854775807,.l 10 ze,.s 1000,.l 100 dk,.l 200 bc,.l 4 dy,.l 4 dj,.i .i64 (-9223372036854775808) 9223372036854775807,.s 1000,.i .i64 (-9223372036854775808) 9223372036854775807],.i .i64 (-9223372036854775808) 9223372036854775807,.i .i64 (-9223372036854775808) 9223372036854775807,.i .i64 (-9223372036854775808) 9223372036854775807,.q (I7 T),.i .i64 0 4,.i .i64 (-9223372036854775808) 9223372036854775807,.i .i64 (-9223372036854775808) 9223372036854775807]
abbrev tTL(nv:Nat):Ty:=.q (pf (fG nv 4096) 0 16)
theorem adN{α:Type}{w v:List α}{P:α→Prop}(h:∀r,w[0]?=some r→P r)(A:1≤(w.length:Int)):∀r,(w++v)[0]?=some r→P r:=fun r z=>h r (by rwa [tB aq] at z)
end Go.Ev.Rp
namespace Go.Ev.Rp
open Go Go.Ev.Pp
attribute [local irreducible] VC VO VQ VI Sound cF
theorem ai4{T:aO}(F:FT T){a0 a1 a2 a3 a4:DC}(cC:(Ty.s 1000).ok a0){A:aj}(G:ao A a1)(dg:A.length≤100)(O:af dk A)(cN:(Ty.l 200 bc).ok a2)(ch:(Ty.l 4 dy).ok a3)(bY:(Ty.l 4 dj).ok a4){bO:Int}(nx:(-9223372036854775808)≤bO)(ny:bO≤9223372036854775807):Sound T 67 [.agg [.d a0,.d a1,.d a2,.d a3,.d a4],.d (dJ bO)] fun r=>∃y0 y1 y2 y3,r= .tuple [.agg [.d y0,.d y1,.d y2],dB y3]∧tJ.ok y0∧tJ.ok y1∧(Ty.l 13 gB).ok y2∧(y3=true↔fV A bO):=by
 refine bg F.XE aa ?_;rcases cC,cN,ch,bY with⟨⟨gN,rfl,jl⟩,⟨bu,cu,cX,bS⟩,⟨da,ez,fe,dQ⟩,⟨ed,dY,fJ,dw⟩⟩
 refine r0 12 aa (bd [5,4,2,1,0] [4,2] aa aa (fun e0 b0 k VE B=>∃z,an ((6,.d (dJ z))::e0) VE∧an b0 B∧k=((A.length:Int) -z).toNat∧(0≤z∧(z≤(A.length:Int)∨z=0))∧(gl A z bO)) ?_ fin);rintro _ VE B⟨z,hV,hB,rfl,bR,cM⟩;refine aS _ _ hV hB (aB 6 aa (aM aa G ?_));refine ro 2 aa ?_;refine ax aa ?_ ?_<;>intro g1
 ·refine rc 8 aa ?_;obtain⟨_,⟨I,rfl,Z,nM⟩,_,⟨L,rfl,uV,pY⟩,U,M,Y⟩:=qI z O;refine aw (aF aa aa G ae Y aa ?_);refine ro 7 aa ?_;skip;refine rp 5 aa ?_;refine bk aa ?_ ?_<;>intro g3
  ·refine ro 6 aa ?_;refine ax aa ?_ ?_<;>intro g4
   ·refine aB 5 aa (aF aa aa G ae Y aa ?_);refine dR 5 aa ?_;exact bD rfl rfl ⟨(dJ I),(dJ L),U,true,rfl,ai,ai,M,(by first|exact⟨fun _=>fV.mk (by assumption) ae ae,fun _=>rfl⟩|exact⟨fun h=>(by cases h),fun h=>absurd h (gl.all (by assumption) ae)⟩)⟩
   refine aB 3 aa (bB aa aa ae ae ?_);refine cA 2 aa ?_;exact⟨((A.length:Int) -((z+1))).toNat,ae,(z+1),⟨rfl,rfl,rfl,rfl,rfl,rfl,trivial⟩,⟨rfl,rfl,trivial⟩,rfl,ae,(by first|exact C7|exact gl.succ (by assumption) ae (by assumption) ae)⟩
  refine ro 6 aa (dc aa aa (aB 3 aa (bB aa aa ae ae ?_)));refine cA 2 aa ?_;exact⟨((A.length:Int) -((z+1))).toNat,ae,(z+1),⟨rfl,rfl,rfl,rfl,rfl,rfl,trivial⟩,⟨rfl,rfl,trivial⟩,rfl,ae,(by first|exact C7|exact gl.succ (by assumption) ae (by assumption) ae)⟩
 refine dH 8 aa ?_;exact bD rfl rfl ⟨i0,i0,.nil,false,rfl,ai,ai,gv,(by first|exact⟨fun _=>fV.mk (by assumption) ae ae,fun _=>rfl⟩|exact⟨fun h=>(by cases h),fun h=>absurd h (gl.all (by assumption) ae)⟩)⟩
theorem abG{T:aO}(F:FT T){a0 a1 a2 a3 a4:DC}(cC:(Ty.s 1000).ok a0){I:aj}(O:ao I a1)(dg:I.length≤100)(U:af dk I)(cN:(Ty.l 200 bc).ok a2)(ch:(Ty.l 4 dy).ok a3)(bY:(Ty.l 4 dj).ok a4){bO:Int}(nx:(-9223372036854775808)≤bO)(ny:bO≤9223372036854775807):Sound T 125 [.agg [.d a0,.d a1,.d a2,.d a3,.d a4],.d (dJ bO),dB false] fun r=>∃y0 M y2,r= .tuple [.d y0,dB y2]∧ao M y0∧(M.length:Int)≤13∧af gB M∧(y2=true↔fV I bO):=by
 refine bg F.aiN aa ?_;rcases cC,cN,ch,bY with⟨⟨gN,rfl,jl⟩,⟨bu,Y,cX,Z⟩,⟨da,ez,fe,dQ⟩,⟨ed,dY,fJ,dw⟩⟩
 refine cf 10 aa (aA aa (ai4 (bO:=bO) F (bC aq) O ae U (aL Y ae Z) (aL ez ae dQ) (aL dY ae dw) ae ae) ?_);rintro _ _⟨eo,zf,tY,VT,rfl,oV,Bp,⟨z,L,uW,A⟩,G⟩;refine ro 13 aa ?_;refine cO aa ?_ ?_<;>intro h2
 ·have k2:¬_:=fun p=>absurd (G.2 p) (by simpa using h2)
  exact dH 6 aa (bD aa aa ⟨.nil,[],false,aa,(.inr ⟨aa,aa⟩),ae,ca,MR⟩)
 have k2:=G.1 (by simpa using h2);refine rc 3 aa (iw 2 aa (dZ (ys:=z) 21 aa aa aa aa aa (.sD L (cP A aa)) au ae ?_));exact ro 7 aa (dc aa aa (rc 7 aa (cl 6 21 aa aa (fun _=>⟨aa,aa⟩) (dH 1 aa (bD aa aa ⟨(.cm z),z,true,aa,(.acc _),ae,A,MR⟩)))))
theorem visibleV{T:aO}(F:FT T){a0 a1:DC}{I:aj}(A:ao I a0)(cI:I.length≤16)(bJ:af [.s 1000,.l 100 dk,.l 200 bc,.l 4 dy,.l 4 dj] I)(bX:(Ty.s 1000).ok a1){bA:Int}(pF:(-9223372036854775808)≤bA)(nw:bA≤9223372036854775807):Sound T 514 [.d a0,.d a1,.d (dJ bA),dB false] fun r=>∃y0 O y2,r= .tuple [.d y0,.d y2]∧ao O y0∧(O.length:Int)≤13∧af gB O∧(Ty.b).ok y2:=by
 refine bg F.q514 aa ?_;obtain⟨sa1,rfl,hsa1⟩:=bX;refine r0 11 aa (bd [9,8,3,2,1,0] [] aa aa (fun e0 b0 k VE B=>∃z,an ((10,.d (dJ z))::e0) VE∧an b0 B∧dT k 0 z (I.length:Int)) ?_ fin);rintro _ VE B⟨z,hV,hB,rfl,bR⟩;refine aS _ _ hV hB (aB 5 aa (aM aa A ?_));refine ro 2 aa ?_;refine ax aa ?_ ?_<;>intro g1
 ·refine rc 7 aa ?_;obtain⟨_,⟨M1,rfl,rm⟩,ff,⟨jy,L,jg,M⟩,fg,U,jB,Y,pn,Z,bM⟩:=qI z bJ;refine aw (aF aa aa A ae bM aa ?_);refine aJ 3 aa (Ar aa aa ?_);refine ro 1 aa ?_;refine ax aa ?_ ?_<;>intro g4
  ·refine aB 4 aa (aF aa aa A ae bM aa ?_);refine aJ 3 aa (aA aa (abG (bO:=bA) F (bC aq) L ae M U Y Z ae ae) ?_);rintro _ _⟨gM,gV,Of,rfl,lu,pZ,kr,G⟩;refine ro 10 aa ?_;refine cO aa ?_ ?_<;>intro h6
   ·have k6:=G.1 (by simpa using h6);exact W
   have k6:¬_:=fun p=>absurd (G.2 p) (by simpa using h6)
   exact W
  exact W
 exact W
theorem adO{T:aO}(F:FT T){a0:DC}{L:aj}(cg:ao L a0)(cI:L.length≤16)(bJ:af [.s 1000,.l 100 dk,.l 200 bc,.l 4 dy,.l 4 dj] L){aH:Int}(jE:(-9223372036854775808)≤aH)(jF:aH≤9223372036854775807):Sound T 65 [.d a0,.d (dJ aH),dB false] fun r=>∃y0 Z,r= .d y0∧ao Z y0∧(Z.length:Int)≤16∧af ph Z∧0≤(Z.length:Int)∧(Z=[]→y0= .nil)∧((Z.length:Int)=jk aH L):=by
 refine bg F.q65 aa (r0 14 aa (de 7 90 85 40 2 aa aa (bd [6,2,1,0] [] aa aa (fun e0 b0 k VE B=>∃A G,an ((7,.ac 90 G.length 2)::(8,.d (dJ A))::e0) VE∧an ((90,.acc 85 40 2 G)::b0) B∧k=((L.length:Int) -A).toNat∧(0≤A∧(A≤(L.length:Int)∨A=0))∧((G.length:Int)≤A)∧(af ph G)∧((G.length:Int)=jk aH (L.take A.toNat))) ?_ fin)));rintro _ VE B⟨A,G,hV,hB,rfl,bR,cM,M,hH⟩;refine aS _ _ hV hB (aB 5 aa (aM aa cg ?_));refine ro 2 aa ?_;refine ax aa ?_ ?_<;>intro g1
 ·refine rc 7 aa ?_;obtain⟨gm,gx,ff,⟨jy,ia,jg,gk⟩,fg,fT,jB,iV,pn,mX,bM⟩:=qI A bJ;refine aw (aF aa aa cg ae bM aa ?_);refine aJ 3 aa (aA aa (abG (bO:=aH) F gx ia ae gk fT iV mX ae ae) ?_);rintro _ _⟨jX,nW,EM,rfl,Y,AN,p0,ye⟩;refine ro 12 aa ?_;refine cO aa ?_ ?_<;>intro h4
  ·have k4:¬_:=fun p=>absurd (ye.2 p) (by simpa using h4)
   refine aB 3 aa (bB aa aa ae ae ?_);refine cA 2 aa ?_;exact⟨((L.length:Int) -((A+1))).toNat,ae,(A+1),G,⟨rfl,rfl,rfl,rfl,rfl,rfl,trivial⟩,⟨rfl,trivial⟩,rfl,ae,ae,M,(by first|rfl|(simp only[fv,gy,jP];exact Gp (by assumption) ae (by assumption) (by assumption) (by assumption))|exact Lh (by assumption) ae (by assumption) (by assumption) (by assumption))⟩
  have k4:=ye.1 (by simpa using h4);refine aB 5 aa (aF aa aa cg ae bM aa ?_);refine ro 12 aa (iQ 11 1 91 3 8 1 aa aa aa (bd [30,16,11,10,9,8,7,6,2,1,0] [90] aa aa (fun e0 b0 k VE B=>∃I z,an ((12,.d (dJ I))::e0) VE∧an ((11,.one 85 40 [.d gm,.ac 91 z.length 1])::(91,.acc 3 8 1 z)::b0) B∧k=((nW.length:Int) -I).toNat∧(0≤I∧(I≤(nW.length:Int)∨I=0))∧((z.length:Int)≤I)∧(af bc z)) ?_ fin));rintro _ VE B⟨I,z,hV,hB,rfl,fh,gn,O⟩;refine aS _ _ hV hB (aB 5 aa (aM aa Y ?_));refine ro 2 aa ?_;refine ax aa ?_ ?_<;>intro g5
  ·refine rc 8 aa ?_;obtain⟨zg,rF,vV,rG,_,⟨Un,rfl,adP,adQ⟩,e6⟩:=qI I p0;refine aT (aF aa aa Y ae e6 aa ?_);refine rq 1 aa (cr aa aa (c4 aa aa ?_));refine rq 1 aa ?_;refine aP rfl (aW (rows:=z) (ys:=[[(dJ Un)]]) rfl rfl rfl (.bs (rows:=[[(dJ Un)]]) rfl) au ae (fun h=>by rw[h];rfl) (fun h=>by rw[h];rfl) ?_);exact W
  refine rc 4 aa (eK 54 91 aa aa dx ?_);obtain⟨U,rfl,rm⟩:=Ty.bC gx;refine ro 1 aa ?_;refine aw (aW (rows:=G) (ys:=[[(al U),(.cm z)]]) rfl rfl rfl (.bs (rows:=[[(al U),(.cm z)]]) rfl) au ae (fun h=>by rw[h];rfl) (fun h=>by rw[h];rfl) ?_);refine aJ 4 aa (bB aa aa ae ae ?_);refine cA 2 aa ?_;exact⟨((L.length:Int) -((A+1))).toNat,ae,(A+1),(G++[[(al U),(.cm z)]]),⟨rfl,rfl,rfl,rfl,rfl,rfl,trivial⟩,⟨rfl,trivial⟩,rfl,ae,cE,(df M (c9 (ah (bC aq) (ah (aL (.acc _) ae O) bf)))),(by first|rfl|(simp only[fv,gy,jP];exact Gp (by assumption) ae (by assumption) (by assumption) (by assumption))|exact Lh (by assumption) ae (by assumption) (by assumption) (by assumption))⟩
 refine rc 6 aa (cl 6 90 aa aa (fun _=>⟨aa,aa⟩) (dH 1 aa ?_));exact bD rfl rfl ⟨(.cm G),G,rfl,(.acc _),ae,M,ae,(fun h=>by rw[h];rfl),(visN_all dz ae)⟩
end Go.Ev.Rp
namespace Go.Ev.Rp
open Go
def bU(K:List DC→Prop)(R:List DC→List DC→Prop):aj→aj→Prop
 |[],w'=>w'=[]
 |r::w,w'=>(K r∧∃x t,w'=x::t∧R r x∧bU K R w t)∨(¬K r∧bU K R w w')
theorem bU.app{K:List DC→Prop}{R:List DC→List DC→Prop}{v v':aj}(k:bU K R v v'):∀{w w':aj},bU K R w w'→bU K R (w++v) (w'++v')
 |[],w',h=>by cases (h:w'=[]);exact k
 |r::w,w',h=>by
  rcases h with⟨z,x,t,rfl,A,h⟩|⟨z,h⟩
  ·exact .inl ⟨z,x,t++v',aa,A,bU.app k h⟩
  exact .inr ⟨z,bU.app k h⟩
theorem nN{K:List DC→Prop}{R:List DC→List DC→Prop}{w:aj}:bU K R (w.take (0:Int).toNat) []:=by simp[bU]
theorem AO{w:aj}{k:Int}{r:List DC}(h0:0≤k)(z:w[k.toNat]?=some r):w.take (k+1).toNat=w.take k.toNat++[r]:=by
 rw[show(k+1).toNat=k.toNat+1 by omega,Be,z];rfl
theorem bU.T{K:List DC→Prop}{R:List DC→List DC→Prop}{w w':aj}{k:Int}{r x:List DC}(h:bU K R (w.take k.toNat) w')(h0:0≤k)(z:w[k.toNat]?=some r)(A:K r)(G:R r x):bU K R (w.take (k+1).toNat) (w'++[x]):=by
 rw[AO h0 z];exact bU.app (v:=[r]) (v':=[x]) (.inl ⟨A,x,[],aa,G,aa⟩) h
theorem bU.F{K:List DC→Prop}{R:List DC→List DC→Prop}{w w':aj}{k:Int}{r:List DC}(h:bU K R (w.take k.toNat) w')(h0:0≤k)(z:w[k.toNat]?=some r)(A:¬K r):bU K R (w.take (k+1).toNat) w':=by
 rw[AO h0 z,←NJ w'];exact bU.app (v:=[r]) (v':=[]) (.inr ⟨A,aa⟩) h
theorem CY{K:List DC→Prop}{R:List DC→List DC→Prop}{w w':aj}{k:Int}(h:bU K R (w.take k.toNat) w')(z:(w.length:Int)≤k):bU K R w w':=by rwa [o5 aq] at h
theorem relL_nil{R:List DC→List DC→Prop}:fB R [] []:=⟨rfl,fun q r r' h=>by simp at h⟩
theorem relL_cons{R:List DC→List DC→Prop}{x y:List DC}{w v:aj}(h:R x y)(k:fB R w v):fB R (x::w) (y::v):=
 ⟨by simp[k.1],fun q r r' z h2=>by
  cases q with
  |zero=>cases z;cases h2;exact h
  |succ q=>exact k.2 q r r' z h2⟩
theorem aaM{R:List DC→List DC→Prop}{x:List DC}{w v:aj}(h:fB R (x::w) v):∃y t,v=y::t∧R x y∧fB R w t:=by
 cases v with
 |nil=>exact absurd h.1 (by simp)
 |cons y t=>exact⟨y,t,rfl,h.2 0 x y rfl rfl,by have:=h.1;simpa using this,fun q r r' z h2=>h.2 (q+1) r r' z h2⟩
theorem bU.comp{K:List DC→Prop}{R S:List DC→List DC→Prop}:∀{w a b:aj},bU K R w a→fB S a b→bU K (fun r y=>∃x,R r x∧S x y) w b
 |[],a,b,h,k=>by cases (h:a=[]);exact o0 k.1.symm
 |r::w,a,b,h,k=>by
  rcases h with⟨z,x,t,rfl,A,h⟩|⟨z,h⟩
  ·obtain⟨y,u,rfl,G,k⟩:=aaM k;exact .inl ⟨z,y,u,aa,⟨x,A,G⟩,bU.comp h k⟩
  exact .inr ⟨z,bU.comp h k⟩
theorem bU.same{K:List DC→Prop}{R S:List DC→List DC→Prop}:∀{w a b:aj},bU K R w a→bU K S w b→fB (fun x y=>∃r,r∈w∧K r∧R r x∧S r y) a b
 |[],a,b,h,k=>by cases (h:a=[]);cases (k:b=[]);exact relL_nil
 |r::w,a,b,h,k=>by
  rcases h with⟨A,x,t,rfl,O,h⟩|⟨A,h⟩<;>rcases k with⟨G,y,u,rfl,U,k⟩|⟨G,k⟩
  ·refine relL_cons ⟨r,iI,A,O,U⟩ ?_;have:=bU.same h k;exact⟨this.1,fun q I L M h2=>by obtain⟨z,m,e⟩:=this.2 q I L M h2;exact⟨z,mu _ m,e⟩⟩
  ·exact absurd A G
  ·exact absurd G A
  have:=bU.same h k;exact⟨this.1,fun q I L M h2=>by obtain⟨z,m,e⟩:=this.2 q I L M h2;exact⟨z,mu _ m,e⟩⟩
theorem bU.map{K:List DC→Prop}{R:List DC→List DC→Prop}{f:List DC→List DC}:∀{w a:aj},bU K R (w.map f) a→bU (fun r=>K (f r)) (fun r=>R (f r)) w a
 |[],a,h=>h
 |r::w,a,h=>by
  rcases h with⟨z,x,t,rfl,A,h⟩|⟨z,h⟩
  ·exact .inl ⟨z,x,t,aa,A,bU.map h⟩
  exact .inr ⟨z,bU.map h⟩
theorem ao.inj{w v:aj}{d:DC}(h:ao w d)(k:ao v d):w=v:=by
 rcases h with rfl|⟨rfl,rfl⟩<;>rcases k with e|⟨rfl,e⟩<;>first|(cases e;rfl)|cases e|rfl
def Cw(t:Int)(w:aj)(c:DC):Prop:=∃(v:Int)(f g:DC),gl w v t∧0≤v∧w[v.toNat]?=some [f,g,c]∧VN t [f,g,c]
theorem Cw.mk{w:aj}{v t f g:Int}{c:DC}(h:gl w v t)(h0:0≤v)(z:w[v.toNat]?=some [.i .i64 f,.i .i64 g,c])(A:f≤t)(h2:t<g):Cw t w c:=⟨v,_,_,h,h0,z,f,g,c,rfl,A,h2⟩
theorem Cw.inj{w:aj}{t:Int}{c d:DC}(h:Cw t w c)(k:Cw t w d):c=d:=by
 obtain⟨v,f,g,G,h2,A,I⟩:=h;obtain⟨u,f',g',L,O,z,M⟩:=k;have e:v=u:=by
  rcases Int.lt_trichotomy v u with h|h|h
  ·exact absurd I (L v.toNat _ aq A)
  ·exact h
  exact absurd M (G u.toNat _ aq z)
 subst e;rw[A] at z;cases z;rfl
def mJ(w:aj)(c:List DC):List DC:=match c with
 |.i _ k::_=>if 1≤k∧k≤w.length then(w[(k-1).toNat]?).getD [] else [.i .i64 0,.i .i64 0,DC.s 0 0]
 |_=>[.i .i64 0,.i .i64 0,DC.s 0 0]
def J6(wc w:aj):aj:=wc.map (mJ w)
end Go.Ev.Rp
namespace Go.Ev.Rp
open Go Go.Ev.Pp
attribute [local irreducible] VC VO VQ VI Sound cF
def js(t:Int)(w wc:aj):Prop:=∃c,Cw t w c∧ao wc c
theorem js.inj{w a b:aj}{t:Int}(h:js t w a)(k:js t w b):a=b:=by
 rcases h,k with⟨⟨c,z,h2⟩,⟨d,A,G⟩⟩
 obtain rfl:=z.inj A;exact ao.inj h2 G
theorem js.mk{w wc:aj}{v t f g:Int}{c:DC}(h:gl w v t)(h0:0≤v)(z:w[v.toNat]?=some [.i .i64 f,.i .i64 g,c])(A:f≤t)(h2:t<g)(G:ao wc c):js t w wc:=⟨_,Cw.mk h h0 z A h2,G⟩
def BW(r:List DC):List DC:=r.drop 2
def eJ(t:Int)(s y:List DC):Prop:=∃n d rest w wc k,s=n::d::rest∧ao w d∧js t w wc∧y=[n,k]∧ao (wc.map BW) k
theorem eJ.mk{t:Int}{n d k:DC}{rest:List DC}{w wc z:aj}(A:ao w d)(G:fV w t)(h:fV w t→js t w wc){v:Int}(I:ao z k)(e:z=(wc.take v.toNat).map BW)(L:(wc.length:Int)≤v):eJ t (n::d::rest) [n,k]:=⟨n,d,rest,w,wc,k,rfl,A,h G,rfl,by rw[o5 aq] at e;exact e▸I⟩
theorem mapf_s{f:List DC→List DC}{w w':aj}{v:Int}{r x:List DC}(h:w'=(w.take v.toNat).map f)(h0:0≤v)(z:w[v.toNat]?=some r)(e:f r=x):w'++[x]=(w.take (v+1).toNat).map f:=by
 rw[AO h0 z,lK,←h,←e];rfl
theorem ew.mk{t:Int}{n d:DC}{rest:List DC}{w:aj}(z:ao w d)(A:fV w t):ew t (n::d::rest):=⟨n,d,rest,w,rfl,z,A⟩
theorem ew.no{t:Int}{n d:DC}{rest:List DC}{w:aj}(z:ao w d)(A:¬fV w t):¬ew t (n::d::rest):=by
 rintro⟨_,_,_,v,e,h,k⟩
 cases e
 exact A (ao.inj z h▸k)
theorem ai5{T:aO}(F:FT T){a0 a1 a2 a3 a4:DC}(cC:(Ty.s 1000).ok a0){A:aj}(G:ao A a1)(dg:A.length≤27)(Z:af dk A)(cN:(Ty.l 200 bc).ok a2)(ch:(Ty.l 4 dy).ok a3)(bY:(Ty.l 4 dj).ok a4){bO:Int}(nx:(-9223372036854775808)≤bO)(ny:bO≤9223372036854775807):Sound T 67 [.agg [.d a0,.d a1,.d a2,.d a3,.d a4],.d (dJ bO)] fun r=>∃y0 y1 y2 I y4,r= .tuple [.agg [.d y0,.d y1,.d y2],dB y4]∧tJ.ok y0∧tJ.ok y1∧ao I y2∧(I.length:Int)≤13∧af gB I∧0≤(I.length:Int)∧((fV A bO→js bO A I))∧(y4=true↔fV A bO):=by
 refine bg F.XE aa ?_;rcases cC,cN,ch,bY with⟨⟨gN,rfl,jl⟩,⟨bu,cu,cX,bS⟩,⟨da,ez,fe,dQ⟩,⟨ed,dY,fJ,dw⟩⟩
 refine r0 12 aa (bd [5,4,2,1,0] [4,2] aa aa (fun e0 b0 k VE B=>∃z,an ((6,.d (dJ z))::e0) VE∧an b0 B∧k=((A.length:Int) -z).toNat∧(0≤z∧(z≤(A.length:Int)∨z=0))∧(gl A z bO)) ?_ fin);rintro _ VE B⟨z,hV,hB,rfl,bR,cM⟩;refine aS _ _ hV hB (aB 6 aa (aM aa G ?_));refine ro 2 aa ?_;refine ax aa ?_ ?_<;>intro g1
 ·refine rc 8 aa ?_;obtain⟨_,⟨O,rfl,mT,nM⟩,_,⟨U,rfl,uV,pY⟩,fg,⟨Y,L,p5,M⟩,bM⟩:=qI z Z;refine aw (aF aa aa G ae bM aa ?_);refine ro 7 aa ?_;skip;refine rp 5 aa ?_;refine bk aa ?_ ?_<;>intro g3
  ·refine ro 6 aa ?_;refine ax aa ?_ ?_<;>intro g4
   ·refine aB 5 aa (aF aa aa G ae bM aa ?_);refine ro 5 aa ?_;exact bD rfl rfl ⟨(dJ O),(dJ U),fg,Y,true,rfl,ai,ai,L,ae,M,ae,(by first|exact fun h=>absurd h (gl.all (by assumption) ae)|exact fun _=>js.mk (by assumption) ae (by assumption) ae ae (by assumption)),(by first|exact⟨fun _=>fV.mk (by assumption) ae ae,fun _=>rfl⟩|exact⟨fun h=>(by cases h),fun h=>absurd h (gl.all (by assumption) ae)⟩)⟩
   refine aB 3 aa (bB aa aa ae ae ?_);refine cA 2 aa ?_;exact⟨((A.length:Int) -((z+1))).toNat,ae,(z+1),⟨rfl,rfl,rfl,rfl,rfl,rfl,trivial⟩,⟨rfl,rfl,trivial⟩,rfl,ae,(by first|exact C7|exact gl.succ (by assumption) ae (by assumption) ae)⟩
  refine ro 6 aa (dc aa aa (aB 3 aa (bB aa aa ae ae ?_)));refine cA 2 aa ?_;exact⟨((A.length:Int) -((z+1))).toNat,ae,(z+1),⟨rfl,rfl,rfl,rfl,rfl,rfl,trivial⟩,⟨rfl,rfl,trivial⟩,rfl,ae,(by first|exact C7|exact gl.succ (by assumption) ae (by assumption) ae)⟩
 refine dH 8 aa ?_;exact bD rfl rfl ⟨i0,i0,.nil,[],false,rfl,ai,ai,(.inr ⟨rfl,rfl⟩),ae,ca,ae,(by first|exact fun h=>absurd h (gl.all (by assumption) ae)|exact fun _=>js.mk (by assumption) ae (by assumption) ae ae (by assumption)),(by first|exact⟨fun _=>fV.mk (by assumption) ae ae,fun _=>rfl⟩|exact⟨fun h=>(by cases h),fun h=>absurd h (gl.all (by assumption) ae)⟩)⟩
theorem colsOfE{T:aO}(F:FT T){a0 a1 a2 a3 a4:DC}(cC:(Ty.s 1000).ok a0){G:aj}(O:ao G a1)(dg:G.length≤27)(U:af dk G)(cN:(Ty.l 200 bc).ok a2)(ch:(Ty.l 4 dy).ok a3)(bY:(Ty.l 4 dj).ok a4){bO:Int}(nx:(-9223372036854775808)≤bO)(ny:bO≤9223372036854775807):Sound T 125 [.agg [.d a0,.d a1,.d a2,.d a3,.d a4],.d (dJ bO),dB false] fun r=>∃y0 I y2,r= .tuple [.d y0,dB y2]∧ao I y0∧(I.length:Int)≤13∧af gB I∧0≤(I.length:Int)∧((fV G bO→js bO G I))∧(y2=true↔fV G bO):=by
 refine bg F.aiN aa ?_;rcases cC,cN,ch,bY with⟨⟨gN,rfl,jl⟩,⟨bu,Y,cX,Z⟩,⟨da,ez,fe,dQ⟩,⟨ed,dY,fJ,dw⟩⟩
 refine cf 10 aa (aA aa (ai5 (bO:=bO) F (bC aq) O ae U (aL Y ae Z) (aL ez ae dQ) (aL dY ae dw) ae ae) ?_);rintro _ _⟨eo,zf,tY,z,vW,rfl,oV,Bp,M,uW,A,adR,hfy1_2,L⟩;refine ro 13 aa ?_;refine cO aa ?_ ?_<;>intro h2
 ·have k2:¬_:=fun p=>absurd (L.2 p) (by simpa using h2)
  refine dH 6 aa ?_;exact bD rfl rfl ⟨.nil,[],false,rfl,(.inr ⟨rfl,rfl⟩),ae,ca,ae,(by first|exact fun h=>absurd h (by assumption)|assumption),MR⟩
 have k2:=L.1 (by simpa using h2);refine aB 5 aa (dZ (ys:=z) 21 aa aa aa aa aa (.sD M (cP A aa)) au ae ?_);refine ro 7 aa (dc aa aa (rc 7 aa (cl 6 21 aa aa (fun _=>⟨aa,aa⟩) (dH 1 aa ?_))));exact bD rfl rfl ⟨(.cm z),z,true,rfl,(.acc _),ae,A,ae,(by first|exact fun h=>absurd h (by assumption)|assumption),MR⟩
theorem TypesE{T:aO}(F:FT T){a0:DC}{M:aj}(cg:ao M a0)(cI:M.length≤16)(bJ:af [.s 1000,.l 27 dk,.l 200 bc,.l 4 dy,.l 4 dj] M){aH:Int}(jE:(-9223372036854775808)≤aH)(jF:aH≤9223372036854775807):Sound T 65 [.d a0,.d (dJ aH),dB false] fun r=>∃y0 br,r= .d y0∧ao br y0∧(br.length:Int)≤16∧af ph br∧0≤(br.length:Int)∧(br=[]→y0= .nil)∧(bU (ew aH) (eJ aH) M br):=by
 refine bg F.q65 aa (r0 14 aa (de 7 90 85 40 2 aa aa (bd [6,2,1,0] [] aa aa (fun e0 b0 k VE B=>∃G I,an ((7,.ac 90 I.length 2)::(8,.d (dJ G))::e0) VE∧an ((90,.acc 85 40 2 I)::b0) B∧k=((M.length:Int) -G).toNat∧(0≤G∧(G≤(M.length:Int)∨G=0))∧((I.length:Int)≤G)∧(af ph I)∧(bU (ew aH) (eJ aH) (M.take G.toNat) I)) ?_ fin)));rintro _ VE B⟨G,I,hV,hB,rfl,bR,cM,O,hH⟩;refine aS _ _ hV hB (aB 5 aa (aM aa cg ?_));refine ro 2 aa ?_;refine ax aa ?_ ?_<;>intro g1
 ·refine rc 7 aa ?_;obtain⟨gm,gx,ff,⟨jy,ia,jg,gk⟩,fg,fT,jB,iV,pn,mX,bM⟩:=qI G bJ;refine aw (aF aa aa cg ae bM aa ?_);refine aJ 3 aa (aA aa (colsOfE (bO:=aH) F gx ia ae gk fT iV mX ae ae) ?_);rintro _ _⟨jX,U,EM,rfl,rn,AN,p0,GS,hfy3_0,ye⟩;refine ro 12 aa ?_;refine cO aa ?_ ?_<;>intro h4
  ·have k4:¬_:=fun p=>absurd (ye.2 p) (by simpa using h4)
   refine aB 3 aa (bB aa aa ae ae ?_);refine cA 2 aa ?_;exact⟨((M.length:Int) -((G+1))).toNat,ae,(G+1),I,⟨rfl,rfl,rfl,rfl,rfl,rfl,trivial⟩,⟨rfl,trivial⟩,rfl,ae,ae,O,(by first|exact nN|exact bU.T (by assumption) ae (by assumption) (ew.mk (by assumption) (by assumption)) (eJ.mk (by assumption) (by assumption) (by assumption) (.acc _) (by assumption) ae)|exact bU.F (by assumption) ae (by assumption) (ew.no (by assumption) (by assumption))|assumption)⟩
  have k4:=ye.1 (by simpa using h4);refine aB 5 aa (aF aa aa cg ae bM aa ?_);refine ro 12 aa (iQ 11 1 91 3 8 1 aa aa aa (bd [30,16,11,10,9,8,7,6,2,1,0] [90] aa aa (fun e0 b0 k VE B=>∃A z,an ((12,.d (dJ A))::e0) VE∧an ((11,.one 85 40 [.d gm,.ac 91 z.length 1])::(91,.acc 3 8 1 z)::b0) B∧k=((U.length:Int) -A).toNat∧(0≤A∧(A≤(U.length:Int)∨A=0))∧((z.length:Int)≤A)∧(af bc z)∧(z=(U.take A.toNat).map BW)) ?_ fin));rintro _ VE B⟨A,z,hV,hB,rfl,fh,gn,L,I8⟩;refine aS _ _ hV hB (aB 5 aa (aM aa rn ?_));refine ro 2 aa ?_;refine ax aa ?_ ?_<;>intro g5
  ·refine rc 8 aa ?_;obtain⟨zg,rF,vV,rG,_,⟨Y,rfl,adP,adQ⟩,e6⟩:=qI A p0;refine aT (aF aa aa rn ae e6 aa ?_);refine rq 1 aa (cr aa aa (c4 aa aa ?_));refine rq 1 aa ?_;refine aP rfl (aW (rows:=z) (ys:=[[(dJ Y)]]) rfl rfl rfl (.bs (rows:=[[(dJ Y)]]) rfl) au ae (fun h=>by rw[h];rfl) (fun h=>by rw[h];rfl) ?_);refine rq 5 aa (aw (bB aa aa ae ae ?_));refine cA 2 aa ?_;exact⟨((U.length:Int) -((A+1))).toNat,ae,(A+1),(z++[[(dJ Y)]]),⟨rfl,rfl,rfl,rfl,rfl,rfl,rfl,rfl,rfl,rfl,rfl,rfl,trivial⟩,⟨rfl,rfl,rfl,trivial⟩,rfl,ae,cE,(df L (c9 (ah ai bf))),(by first|rfl|exact mapf_s (by assumption) ae (by assumption) rfl|assumption)⟩
  refine rc 4 aa (eK 54 91 aa aa dx ?_);obtain⟨Z,rfl,rm⟩:=Ty.bC gx;refine ro 1 aa ?_;refine aw (aW (rows:=I) (ys:=[[(al Z),(.cm z)]]) rfl rfl rfl (.bs (rows:=[[(al Z),(.cm z)]]) rfl) au ae (fun h=>by rw[h];rfl) (fun h=>by rw[h];rfl) ?_);refine aJ 4 aa (bB aa aa ae ae ?_);refine cA 2 aa ?_;exact⟨((M.length:Int) -((G+1))).toNat,ae,(G+1),(I++[[(al Z),(.cm z)]]),⟨rfl,rfl,rfl,rfl,rfl,rfl,trivial⟩,⟨rfl,trivial⟩,rfl,ae,cE,(df O (c9 (ah (bC aq) (ah (aL (.acc _) ae L) bf)))),(by first|exact nN|exact bU.T (by assumption) ae (by assumption) (ew.mk (by assumption) (by assumption)) (eJ.mk (by assumption) (by assumption) (by assumption) (.acc _) (by assumption) ae)|exact bU.F (by assumption) ae (by assumption) (ew.no (by assumption) (by assumption))|assumption)⟩
 refine rc 6 aa (cl 6 90 aa aa (fun _=>⟨aa,aa⟩) (dH 1 aa ?_));exact bD rfl rfl ⟨(.cm I),I,rfl,(.acc _),ae,O,ae,(fun h=>by rw[h];rfl),(CY dz ae)⟩
end Go.Ev.Rp
namespace Go.Ev.Rp
open Go Go.Ev.Pp
attribute [local irreducible] VC VO VQ VI Sound cF
end Go.Ev.Rp
namespace Go.Ev
open Go
@[reducible] def pW(a b:Int):List DC:=[.i .i64 a,.i .i64 b]
theorem Sa{a b c d:Int}(h:pW a b=pW c d):a=c∧b=d:=by
 simp only[pW,vg,DC.i.injEq,true_and,and_true] at h;exact h
def inW(w:aj)(t:Int):Prop:=∃a b,pW a b∈w∧a≤t∧t<b
def Cx(w:aj)(x:Int):Prop:=∀a b,pW a b∈w→b<x
def yf(w:aj):Prop:=(∀r,r∈w→∃a b,r=pW a b∧a<b)∧w.Pairwise fun r s=>∀a b c d,r=pW a b→s=pW c d→b<c
theorem Cx.app{w:aj}{c d x:Int}(h:Cx w x)(z:d<x):Cx (w++[pW c d]) x:=fun a b k=>by
 rcases List.mem_append.1 k with k|k
 ·exact h a b k
 obtain⟨rfl,rfl⟩:=Sa (List.mem_singleton.1 k);exact z
theorem Cx.mono{w:aj}{x y:Int}(h:Cx w x)(k:x≤y):Cx w y:=fun a b m=>Int.lt_of_lt_of_le (h a b m) k
theorem yf.app{w:aj}{c d:Int}(h:yf w)(G:Cx w c)(A:c<d):yf (w++[pW c d]):=by
 refine⟨fun r z=>?_,List.pairwise_append.2 ⟨h.2,List.pairwise_singleton ..,fun r z s I a b e f L h2=>?_⟩⟩
 ·rcases List.mem_append.1 z with z|z
  ·exact h.1 r z
  exact⟨c,d,List.mem_singleton.1 z,A⟩
 subst L;obtain rfl:=List.mem_singleton.1 I;obtain⟨rfl, -⟩:=Sa h2;exact G a b z
theorem yf.tail{r:List DC}{w:aj}(h:yf (r::w)):yf w:=⟨fun s z=>h.1 s (mu _ z),(List.pairwise_cons.1 h.2).2⟩
theorem yf.head{a b:Int}{w:aj}(h:yf (pW a b::w)):a<b∧∀t,inW w t→b<t:=by
 refine⟨?_,fun t⟨c,d,m,z,h2⟩=>?_⟩
 ·obtain⟨c,d,e,k⟩:=h.1 _ (iI ..);obtain⟨rfl,rfl⟩:=Sa e;exact k
 have:=(List.pairwise_cons.1 h.2).1 _ m a b c d rfl rfl;omega
end Go.Ev
namespace Go.Ev.Rp
open Go Go.Ev.Pp
attribute [local irreducible] VC VO VQ VI Sound cF
theorem Sb{T:aO}(F:FT T){aK:Int}(A:(-9223372036854775808)≤aK)(G:aK≤9223372036854775807){aH:Int}(I:(-9223372036854775808)≤aH)(L:aH≤9223372036854775807):Sound T 39 [.agg [.d (dJ aK),.d (dJ aH)]] fun r=>∃z,r=dB z∧(z=true↔(0≤aK∧aK<aH∧aH≤1099511627776)):=by
 refine bg F.XD aa (r0 11 aa ?_);refine bk aa ?_ ?_<;>intro M
 ·refine ro 7 aa ?_;refine bk aa ?_ ?_<;>intro O
  ·exact dR 7 aa (bD aa aa ⟨decide (aH≤1099511627776),aa,EF⟩)
  exact dR 7 aa (bD aa aa ⟨false,aa,EF⟩)
 exact dR 14 aa (bD aa aa ⟨false,aa,EF⟩)
theorem inclX{T:aO}(F:FT T){aK:Int}(I:(-9223372036854775808)≤aK)(L:aK≤9223372036854775807){aH:Int}(M:(-9223372036854775808)≤aH)(O:aH≤9223372036854775807){bA:Int}(U:(-9223372036854775808)≤bA)(Y:bA≤9223372036854775807):Sound T 19 [.agg [.d (dJ aK),.d (dJ aH)],.d (dJ bA)] fun r=>∃A,r=dB A∧(A=true↔eF bA (bA+1) aK aH):=by
 refine bg F.q19 aa (cf 8 aa (aA aa (Sb (aK:=aK) (aH:=aH) F ae ae ae ae) ?_));rintro _ _⟨G,rfl,z⟩;refine ro 1 aa ?_;refine bk aa ?_ ?_<;>intro h2
 ·have Z:=z.1 (by simpa using h2);refine ro 6 aa ?_;refine bk aa ?_ ?_<;>intro g3
  ·refine dR 8 aa ?_;exact bD rfl rfl ⟨decide (bA<aH),rfl,(by first|(simp only[fy,gK,false_iff,true_iff,eF] at*;omega)|(simp[eF] at*;omega)|(unfold eF;omega))⟩
  refine dR 8 aa ?_;exact bD rfl rfl ⟨false,rfl,(by first|(simp only[fy,gK,false_iff,true_iff,eF] at*;omega)|(simp[eF] at*;omega)|(unfold eF;omega))⟩
 have Z:¬_:=fun p=>absurd (z.2 p) (by simpa using h2)
 refine dR 14 aa ?_;exact bD rfl rfl ⟨false,rfl,(by first|(simp only[fy,gK,false_iff,true_iff,eF] at*;omega)|(simp[eF] at*;omega)|(unfold eF;omega))⟩
end Go.Ev.Rp
