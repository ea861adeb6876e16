/- Part 25 of rules for walks through the code of a program, and of such walks; what each part proves is said by its theorems. -/
import Derived.Test.YtdaamclhcpjdpaaGreatDoorR21
import Derived.Test.YtdaamclhcpjdpaaGreatDoorR22
import Derived.Test.YtdaamclhcpjdpaaGreatDoorR23
import Derived.Test.YtdaamclhcpjdpaaGreatDoorR24
set_option linter.unusedVariables false
set_option linter.unusedSimpArgs false
noncomputable section
set_option maxRecDepth 100000
set_option maxHeartbeats 4000000
namespace Go.Ev.Rp
open Go Go.Ev.Pp
attribute [local irreducible] VC VO VQ VI Sound cm
theorem app_nil'{α:Type}{a b:List α}(h:b.length=0):a++b=a:=by rw[o8 h,Ny]
def fx(a b:Int):Prop:=0≤a∧a<b∧b≤1099511627776
def I4(a b c d:Int)(w:ak):Prop:=eJ w∧(∀t,eQ w t↔(fx a b∧a≤t∧t<b∧¬(fx c d∧c≤t∧t<d)))∧∀x y,pW x y∈w→a≤x∧y≤b
theorem CZ{a b c d:Int}(h:∀t,¬(fx a b∧a≤t∧t<b∧¬(fx c d∧c≤t∧t<d))):I4 a b c d []:=⟨wN,fun t=>⟨fun k=>(oP k).elim,fun k=>(h t k).elim⟩,fun x y k=>by cases k⟩
theorem C1{a b c d x y:Int}(h0:x<y)(z:a≤x∧y≤b)(h:∀t,(x≤t∧t<y)↔(fx a b∧a≤t∧t<b∧¬(fx c d∧c≤t∧t<d))):I4 a b c d [pW x y]:=
 ⟨eJ.app (w:=[]) wN Gb h0,fun t=>(mS (w:=[])).trans ⟨fun k=>(h t).1 (k.resolve_left oP),fun k=>.inr ((h t).2 k)⟩,fun p q k=>by
  obtain⟨rfl,rfl⟩:=iD (List.mem_singleton.1 k)
  exact z⟩
theorem C2{a b c d x y z w:Int}(h0:x<y)(h2:y<z)(A:z<w)(G:a≤x∧w≤b)(h:∀t,((x≤t∧t<y)∨(z≤t∧t<w))↔(fx a b∧a≤t∧t<b∧¬(fx c d∧c≤t∧t<d))):I4 a b c d ([pW x y]++[pW z w]):=by
 have n1:eJ [pW x y]:=eJ.app (w:=[]) wN Gb h0;have u1:ny [pW x y] z:=ny.app (w:=[]) Gb h2;refine⟨n1.app u1 A,fun t=>mS.trans ⟨fun k=>(h t).1 (k.imp_left fun k=>((mS (w:=[])).1 k).resolve_left oP),fun k=>((h t).2 k).imp_left fun k=>(mS (w:=[])).2 (.inr k)⟩,fun p q k=>?_⟩;rcases List.mem_append.1 k with k|k
 ·obtain⟨rfl,rfl⟩:=iD (List.mem_singleton.1 k);omega
 obtain⟨rfl,rfl⟩:=iD (List.mem_singleton.1 k);omega
def sf(zh:Int)(w:ak):Prop:=eJ w∧∀t,eQ w t↔(0≤t∧t<zh)
theorem cut0_0{zh:Int}(h:zh≤0):sf zh []:=⟨wN,fun t=>⟨fun k=>(oP k).elim,fun k=>by omega⟩⟩
theorem cut0_1{zh:Int}(h:0<zh):sf zh [pW 0 zh]:=⟨eJ.app (w:=[]) wN Gb h,fun t=>(mS (w:=[])).trans ⟨fun k=>k.resolve_left oP,.inr⟩⟩
theorem adz{w:ak}{zh a b:Int}{j:Nat}(h:w=[pW 0 zh])(z:w[j]?=some (pW a b)):a=0∧b=zh:=by
 subst h
 cases j with
 |zero=>obtain⟨A,G⟩:=iD (Mo z);exact⟨A.symm,G.symm⟩
 |succ n=>simp at z
def vM(w:ak)(t:Int):Prop:=∃a b,pW a b∈w∧fx a b∧a≤t∧t<b
def oo(zh:Int)(v:ak)(w:ak):Prop:=eJ w∧∀t,eQ w t↔(0≤t∧t<zh∧¬vM v t)
theorem adA{zh:Int}{v w:ak}(h:sf zh w):oo zh (v.take (0:Int).toNat) w:=⟨h.1,fun t=>(h.2 t).trans ⟨fun k=>⟨k.1,k.2,fun⟨_,_,m,_⟩=>by simp at m⟩,fun k=>⟨k.1,k.2.1⟩⟩⟩
def vN(o:ak)(n c d:Int)(w:ak):Prop:=eJ w∧(∀t,eQ w t↔(eQ (o.take n.toNat) t∧¬(fx c d∧c≤t∧t<d)))∧∀x y,pW x y∈w→∃A z,pW A z∈o.take n.toNat∧y≤z
theorem adB{o:ak}{c d:Int}:vN o 0 c d []:=⟨wN,fun t=>⟨fun k=>(oP k).elim,fun⟨⟨_,_,m,_⟩,_⟩=>by simp at m⟩,fun x y k=>by cases k⟩
theorem eJ.lt{w:ak}{i j:Nat}{a b c d:Int}(h:eJ w)(z:i<j)(A:w[i]?=some (pW a b))(h2:w[j]?=some (pW c d)):b<c:=by
 have G:=(List.getElem?_eq_some_iff.1 h2).1;have I:=(List.getElem?_eq_some_iff.1 A).2;have L:=(List.getElem?_eq_some_iff.1 h2).2;exact List.pairwise_iff_getElem.1 h.2 i j ah G z a b c d I L
theorem eJ.append{w v:ak}(h:eJ w)(k:eJ v)(A:∀a b c d,pW a b∈w→pW c d∈v→b<c):eJ (w++v):=by
 refine⟨fun r z=>(List.mem_append.1 z).elim (h.1 r) (k.1 r),List.pairwise_append.2 ⟨h.2,k.2,fun r z s G a b c d I L=>?_⟩⟩;subst I;subst L;exact A a b c d z G
theorem zu{w v:ak}{t:Int}:eQ (w++v) t↔eQ w t∨eQ v t:=by
 constructor
 ·rintro⟨a,b,m,h⟩;exact(List.mem_append.1 m).imp (fun m=>⟨a,b,m,h⟩) (fun m=>⟨a,b,m,h⟩)
 rintro(⟨a,b,m,h⟩|⟨a,b,m,h⟩)
 ·exact⟨a,b,List.mem_append.2 (.inl m),h⟩
 exact⟨a,b,List.mem_append.2 (.inr m),h⟩
theorem nN{w:ak}{v:Int}{r:List DC}(h0:0≤v)(z:w[v.toNat]?=some r):w.take (v+1).toNat=w.take v.toNat++[r]:=by
 rw[show(v+1).toNat=v.toNat+1 by omega,Dl,z];rfl
theorem vN.step{o w s:ak}{n c d a b zh:Int}{u:ak}(h:vN o n c d w)(ho:oo zh u o)(hz:zh≤1099511627776)(h0:0≤n)(A:o[n.toNat]?=some (pW a b))(Z:I4 a b c d s):vN o (n+1) c d (w++s):=by
 rcases h,Z with⟨⟨h1,h2,L⟩,⟨s1,s2,M⟩⟩
 have G:=hZ A;obtain⟨a',b',e,z⟩:=ho.1.1 _ G;obtain⟨rfl,rfl⟩:=iD e;have k1:=(ho.2 a).1 ⟨a,b,G,mb _,z⟩;have k2:=(ho.2 (b-1)).1 ⟨a,b,G,ah,ah⟩;have hv:fx a b:=⟨ah,z,ah⟩;rw[vN,nN h0 A];refine⟨eJ.append h1 s1 fun x y p q m1 m2=>?_,fun t=>?_,fun x y m=>?_⟩
 ·obtain⟨O,U,I,Y⟩:=L x y m1;have:=(M p q m2).1;obtain⟨i,hi,e⟩:=List.mem_iff_getElem.1 I;rw[Mq] at e;rw[lF] at hi;have:=eJ.lt ho.1 (i:=i) (j:=n.toNat) ah (by rw[c7 ah,e]) A;omega
 ·rw[zu,zu,h2 t,s2 t];have:eQ [pW a b] t↔(a≤t∧t<b):=(mS (w:=[])).trans ⟨fun k=>k.resolve_left oP,.inr⟩;rw[this];constructor
  ·rintro(⟨k,l⟩|⟨_,k,l,m⟩)
   ·exact⟨.inl k,l⟩
   exact⟨.inr ⟨k,l⟩,m⟩
  rintro⟨k|⟨k,l⟩,m⟩
  ·exact .inl ⟨k,m⟩
  exact .inr ⟨hv,k,l,m⟩
 rcases List.mem_append.1 m with m|m
 ·obtain⟨O,U,I,Y⟩:=L x y m;exact⟨O,U,List.mem_append.2 (.inl I),Y⟩
 exact⟨a,b,List.mem_append.2 (.inr (List.mem_singleton.2 aa)),(M x y m).2⟩
theorem oo.step{zh n k c d:Int}{v o w:ak}(h:oo zh (v.take k.toNat) o)(hi:vN o n c d w)(U:(o.length:Int)≤n)(h0:0≤k)(M:v[k.toNat]?=some (pW c d)):oo zh (v.take (k+1).toNat) w:=by
 obtain⟨O,G,_⟩:=hi;rw[mq ah] at G;rw[nN h0 M];refine⟨O,fun t=>(G t).trans ?_⟩;rw[h.2 t];constructor
 ·rintro⟨⟨a,b,z⟩,e⟩;refine⟨a,b,fun⟨x,y,m,A,I,L⟩=>?_⟩;rcases List.mem_append.1 m with m|m
  ·exact z ⟨x,y,m,A,I,L⟩
  obtain⟨rfl,rfl⟩:=iD (List.mem_singleton.1 m);exact e ⟨A,I,L⟩
 rintro⟨a,b,z⟩;exact⟨⟨a,b,fun⟨x,y,m,A⟩=>z ⟨x,y,List.mem_append.2 (.inl m),A⟩⟩,fun e=>z ⟨c,d,List.mem_append.2 (.inr (List.mem_singleton.2 rfl)),e⟩⟩
theorem oo.fin{zh k:Int}{v w:ak}(h:oo zh (v.take k.toNat) w)(z:(v.length:Int)≤k):oo zh v w:=by rwa [mq ah] at h
theorem interY{T:aN}(F:FT T){aE:Int}(Z:(-9223372036854775808)≤aE)(iX:aE≤9223372036854775807){aJ:Int}(kJ:(-9223372036854775808)≤aJ)(kK:aJ≤9223372036854775807){bf:Int}(nz:(-9223372036854775808)≤bf)(kL:bf≤9223372036854775807){aW:Int}(gi:(-9223372036854775808)≤aW)(gj:aW≤9223372036854775807):Sound T 119 [.agg [.d (dJ aE),.d (dJ aJ)],.agg [.d (dJ bf),.d (dJ aW)]] fun r=>∃G I L,r= .tuple [.agg [.d (dJ G),.d (dJ I)],dB L]∧((-9223372036854775808)≤G∧G≤9223372036854775807∧(True))∧((-9223372036854775808)≤I∧I≤9223372036854775807∧((da aE aJ bf aW→(aE≤G∧bf≤G∧(G=aE∨G=bf))∧(I≤aJ∧I≤aW∧(I=aJ∨I=aW)))))∧(L=true↔da aE aJ bf aW):=by
 refine bj F.Vc aa (bY 13 aa (pZ aa aa (fun z1 E5=>?_)));refine aK 4 aa (zP aa aa (fun z2 oD=>?_));refine aK 8 aa (ay aa (GH (aE:=aE) (aJ:=aJ) F ae ae ae ae) ?_);rintro _ _⟨M,rfl,z⟩;refine ro 2 aa ?_;refine bm aa ?_ ?_<;>intro O
 ·have k4:¬_:=fun p=>absurd (z.2 p) (by simpa using O)
  refine ro 12 aa (eG aa aa (dO 7 aa ?_));exact bI rfl rfl ⟨0,0,false,rfl,⟨ae,ae,trivial⟩,⟨ae,ae,(by first|exact fun _=>by omega|(intro h;unfold da at h;omega))⟩,(by first|(simp only[eK,fW,false_iff,true_iff,da] at*;omega)|(simp[da] at*;omega)|(unfold da;omega))⟩
 have k4:=z.1 (by simpa using O);refine ro 1 aa (bJ aa aa (ay aa (GH (aE:=bf) (aJ:=aW) F ae ae ae ae) ?_));rintro _ _⟨U,rfl,A⟩;refine ro 3 aa ?_;refine bm aa ?_ ?_<;>intro Y
 ·have k6:¬_:=fun p=>absurd (A.2 p) (by simpa using Y)
  refine ro 7 aa (eG aa aa (dO 7 aa ?_));exact bI rfl rfl ⟨0,0,false,rfl,⟨ae,ae,trivial⟩,⟨ae,ae,(by first|exact fun _=>by omega|(intro h;unfold da at h;omega))⟩,(by first|(simp only[eK,fW,false_iff,true_iff,da] at*;omega)|(simp[da] at*;omega)|(unfold da;omega))⟩
 have k6:=A.1 (by simpa using Y);refine ro 7 aa ?_;refine au aa ?_ ?_<;>intro g7
 ·refine dO 7 aa ?_;exact bI rfl rfl ⟨0,0,false,rfl,⟨ae,ae,trivial⟩,⟨ae,ae,(by first|exact fun _=>by omega|(intro h;unfold da at h;omega))⟩,(by first|(simp only[eK,fW,false_iff,true_iff,da] at*;omega)|(simp[da] at*;omega)|(unfold da;omega))⟩
 refine dO 8 aa ?_;exact bI rfl rfl ⟨z1,z2,true,rfl,⟨ae,ae,trivial⟩,⟨ae,ae,(by first|exact fun _=>by omega|(intro h;unfold da at h;omega))⟩,(by first|(simp only[eK,fW,false_iff,true_iff,da] at*;omega)|(simp[da] at*;omega)|(unfold da;omega))⟩
theorem subX{T:aN}(F:FT T){aE:Int}(jw:(-9223372036854775808)≤aE)(iX:aE≤9223372036854775807){aJ:Int}(kJ:(-9223372036854775808)≤aJ)(kK:aJ≤9223372036854775807){bf:Int}(nz:(-9223372036854775808)≤bf)(kL:bf≤9223372036854775807){aW:Int}(gi:(-9223372036854775808)≤aW)(gj:aW≤9223372036854775807):Sound T 56 [.agg [.d (dJ aE),.d (dJ aJ)],.agg [.d (dJ bf),.d (dJ aW)]] fun r=>∃y0 G,r= .d y0∧aA G y0∧(G.length:Int)≤2∧af ep G∧0≤(G.length:Int)∧(I4 aE aJ bf aW G):=by
 refine bj F.q56 aa (bY 10 aa (ay aa (GH (aE:=aE) (aJ:=aJ) F ae ae ae ae) ?_));rintro _ _⟨ez,rfl,I⟩;refine ro 2 aa ?_;refine cH aa ?_ ?_<;>intro h2
 ·have k2:¬_:=fun p=>absurd (I.2 p) (by simpa using h2)
  refine dO 5 aa ?_;exact bI rfl rfl ⟨.nil,[],rfl,(.inr ⟨rfl,rfl⟩),ae,bT,ae,(by(try have q:=(by assumption:da _ _ _ _→_∧_) (by assumption));(try unfold da at*);first|exact CZ (fun t=>by unfold fx;omega)|exact C1 ah ah (fun t=>by unfold fx;constructor<;>intro h<;>omega)|exact C2 ah ah ah ah (fun t=>by unfold fx;constructor<;>intro h<;>omega))⟩
 have k2:=I.1 (by simpa using h2);refine aB 5 aa (ay aa (interY (aE:=aE) (aJ:=aJ) (bf:=bf) (aW:=aW) F ae ae ae ae ae ae ae ae) ?_);rintro _ _⟨A,z,I5,rfl,M,⟨O,U,Y⟩,L⟩;refine ro 13 aa ?_;refine cH aa ?_ ?_<;>intro h4
 ·have k4:¬_:=fun p=>absurd (L.2 p) (by simpa using h4)
  refine rc 6 aa ?_;have Z:af ep [[(dJ aE),(dJ aJ)]]:=(cA (aj ai (aj ai bg)) bT);refine qa 4 20 aa aa (fun _=>⟨aa,aa⟩) (dO 1 aa ?_);exact bI rfl rfl ⟨(.sl [[(dJ aE),(dJ aJ)]]),[[(dJ aE),(dJ aJ)]],rfl,(.inl rfl),oe,Z,ae,(by(try have q:=(by assumption:da _ _ _ _→_∧_) (by assumption));(try unfold da at*);first|exact CZ (fun t=>by unfold fx;omega)|exact C1 ah ah (fun t=>by unfold fx;constructor<;>intro h<;>omega)|exact C2 ah ah ah ah (fun t=>by unfold fx;constructor<;>intro h<;>omega))⟩
 have k4:=L.1 (by simpa using h4);refine rc 14 aa ?_;refine au aa ?_ ?_<;>intro g6
 ·refine aB 8 aa (dQ (ys:=[[(dJ aE),(dJ A)]]) 33 aa aa aa aa aa (.bs (rows:=[[(dJ aE),(dJ A)]]) aa) ao ae ?_);refine ro 11 aa ?_;refine au aa ?_ ?_<;>intro g7
  ·refine aB 8 aa (aX (rows:=[[(dJ aE),(dJ A)]]) (ys:=[[(dJ z),(dJ aJ)]]) aa aa aa (.bs (rows:=[[(dJ z),(dJ aJ)]]) aa) ao ae (fun h=>absurd h bB) (fun h=>absurd h bB) ?_);refine ro 7 aa (cf 4 33 aa aa (fun _=>⟨aa,aa⟩) (dO 1 aa ?_));exact bI rfl rfl ⟨(.cE ([[(dJ aE),(dJ A)]]++[[(dJ z),(dJ aJ)]])),([[(dJ aE),(dJ A)]]++[[(dJ z),(dJ aJ)]]),rfl,(.acc _),oe,(dC (dr (aj ai (aj ai bg))) (dr (aj ai (aj ai bg)))),ae,(by(try have q:=(by assumption:da _ _ _ _→_∧_) (by assumption));(try unfold da at*);first|exact CZ (fun t=>by unfold fx;omega)|exact C1 ah ah (fun t=>by unfold fx;constructor<;>intro h<;>omega)|exact C2 ah ah ah ah (fun t=>by unfold fx;constructor<;>intro h<;>omega))⟩
  refine rc 6 aa (cf 4 33 aa aa (fun _=>⟨aa,aa⟩) (dO 1 aa ?_));exact bI rfl rfl ⟨(.cE [[(dJ aE),(dJ A)]]),[[(dJ aE),(dJ A)]],rfl,(.acc _),oe,(dr (aj ai (aj ai bg))),ae,(by(try have q:=(by assumption:da _ _ _ _→_∧_) (by assumption));(try unfold da at*);first|exact CZ (fun t=>by unfold fx;omega)|exact C1 ah ah (fun t=>by unfold fx;constructor<;>intro h<;>omega)|exact C2 ah ah ah ah (fun t=>by unfold fx;constructor<;>intro h<;>omega))⟩
 refine rc 10 aa ?_;refine au aa ?_ ?_<;>intro g8
 ·refine aB 8 aa (dQ (ys:=[[(dJ z),(dJ aJ)]]) 46 aa aa aa aa aa (.bs (rows:=[[(dJ z),(dJ aJ)]]) aa) ao ae ?_);refine ro 7 aa (cf 4 46 aa aa (fun _=>⟨aa,aa⟩) (dO 1 aa ?_));exact bI rfl rfl ⟨(.cE [[(dJ z),(dJ aJ)]]),[[(dJ z),(dJ aJ)]],rfl,(.acc _),oe,(dr (aj ai (aj ai bg))),ae,(by(try have q:=(by assumption:da _ _ _ _→_∧_) (by assumption));(try unfold da at*);first|exact CZ (fun t=>by unfold fx;omega)|exact C1 ah ah (fun t=>by unfold fx;constructor<;>intro h<;>omega)|exact C2 ah ah ah ah (fun t=>by unfold fx;constructor<;>intro h<;>omega))⟩
 refine dO 7 aa ?_;exact bI rfl rfl ⟨.nil,[],rfl,(.inr ⟨rfl,rfl⟩),ae,bT,ae,(by(try have q:=(by assumption:da _ _ _ _→_∧_) (by assumption));(try unfold da at*);first|exact CZ (fun t=>by unfold fx;omega)|exact C1 ah ah (fun t=>by unfold fx;constructor<;>intro h<;>omega)|exact C2 ah ah ah ah (fun t=>by unfold fx;constructor<;>intro h<;>omega))⟩
end Go.Ev.Rp
namespace Go.Ev.Rp
open Go Go.Ev.Pp
attribute [local irreducible] VC VO VQ VI Sound cm
theorem Dt{T:aN}(F:FT T){I L:DC}{A:ak}(M:aA A I)(O:A.length≤1000000000)(U:af br A)(G:tJ.ok L):Sound T 81 [.d I,.d L] fun r=>∃Y,r= .d Y∧(Ty.b).ok Y:=by
 refine bj F.q81 aa ?_;obtain⟨aJ,rfl,Z,eg⟩:=G;refine r0 10 aa (bd [4,1,0] [] aa aa (fun e0 b0 k VE B=>∃z,an ((5,.d (dJ z))::e0) VE∧an b0 B∧dP k 0 z (A.length:Int)) ?_ fin);rintro _ VE B⟨z,hV,hB,rfl,bS⟩;exact aU _ _ hV hB (W)
theorem oV{T:aN}(F:FT T){G I:DC}(z:tJ.ok G)(A:tJ.ok I):Sound T 39 [.agg [.d G,.d I]] fun r=>∃L,r= .d L∧(Ty.b).ok L:=by
 refine bj F.Xc aa ?_;rcases z,A with⟨⟨aE,rfl,M,O⟩,⟨aJ,rfl,U,Y⟩⟩
 exact W
theorem MQ{T:aN}(F:FT T){L M O:DC}(z:tJ.ok L)(A:tJ.ok M)(G:tJ.ok O):Sound T 19 [.agg [.d L,.d M],.d O] fun r=>∃U,r= .d U∧(Ty.b).ok U:=by
 refine bj F.q19 aa ?_;rcases z,A,G with⟨⟨aE,rfl,Y,Z⟩,⟨aJ,rfl,eC,eg⟩,⟨bf,rfl,lJ,lK⟩⟩
 refine bY 8 aa (ay aa (oV F ai ai) ?_);rintro _ _⟨ez,rfl,I⟩;exact W
theorem GI{T:aN}(F:FT T){I L:DC}(z:tJ.ok I)(A:tJ.ok L):Sound T 143 [.agg [.d I,.d L]] fun r=>∃M,r= .d M∧(Ty.b).ok M:=by
 refine bj F.q143 aa ?_;rcases z,A with⟨⟨aE,rfl,O,U⟩,⟨aJ,rfl,Y,Z⟩⟩
 refine bY 8 aa (ay aa (oV F ai ai) ?_);rintro _ _⟨ez,rfl,G⟩;exact W
theorem C3{T:aN}(F:FT T){O U Y Z:DC}(z:tJ.ok O)(A:tJ.ok U)(G:tJ.ok Y)(I:tJ.ok Z):Sound T 119 [.agg [.d O,.d U],.agg [.d Y,.d Z]] fun r=>∃y0 y1 y2,r= .tuple [.agg [.d y0,.d y1],.d y2]∧tJ.ok y0∧tJ.ok y1∧(Ty.b).ok y2:=by
 refine bj F.Vc aa ?_;rcases z,A,G,I with⟨⟨aE,rfl,iU,iV⟩,⟨aJ,rfl,eC,eg⟩,⟨bf,rfl,lJ,lK⟩,⟨aW,rfl,mA,mB⟩⟩
 refine bY 13 aa (pZ aa aa (fun z1 E5=>?_));refine aK 4 aa (zP aa aa (fun z2 oD=>?_));refine aK 8 aa (ay aa (oV F ai ai) ?_);rintro _ _⟨_,rfl,L,rfl⟩;refine ro 2 aa ?_;refine bm aa ?_ ?_<;>intro h4
 ·exact W
 refine ro 1 aa (bJ aa aa (ay aa (oV F ai ai) ?_));rintro _ _⟨gV,rfl,M⟩;exact W
theorem widthC{T:aN}(F:FT T){a0 a1 a2 a3 a4:DC}(cU:(Ty.s 1000).ok a0)(bW:(Ty.l 100 en).ok a1)(cG:(Ty.l 200 br).ok a2)(cn:(Ty.l 4 eD).ok a3)(bZ:(Ty.l 4 ee).ok a4):Sound T 139 [.agg [.d a0,.d a1,.d a2,.d a3,.d a4]] fun r=>∃y0,r= .d y0∧(Ty.i .i64 0 12).ok y0:=by
 refine bj F.aiu aa ?_;rcases cU,bW,cG,cn,bZ with⟨⟨iP,rfl,kE⟩,⟨Y,M,df,Z⟩,⟨bt,cF,dc,bV⟩,⟨de,e6,fI,eA⟩,⟨eu,er,fu,dg⟩⟩
 refine r0 15 aa (bd [2,1,0] [1] aa aa (fun e0 b0 k VE B=>∃G z,an ((3,.d (dJ G))::(4,.d (dJ z))::e0) VE∧an b0 B∧k=((Y.length:Int) -z).toNat∧(0≤G∧G≤12)∧(0≤z∧(z≤(Y.length:Int)∨z=0))) ?_ fin);rintro _ VE B⟨G,z,hV,hB,rfl,bS,cM⟩;refine aU _ _ hV hB (aB 6 aa (aO aa M ?_));refine ro 2 aa ?_;refine au aa ?_ ?_<;>intro g1
 ·refine rc 8 aa ?_;obtain⟨gW,iG,fP,jf,gb,⟨O,I,Af,U⟩,bQ⟩:=qI z Z;refine bd [10,4,2,1,0] [1] aa aa (fun e0 b0 k VE B=>∃L A,an ((3,.d (dJ L))::(5,.d (dJ A))::e0) VE∧an b0 B∧k=((O.length:Int) -A).toNat∧(0≤L∧L≤12)∧(0≤A∧(A≤(O.length:Int)∨A=0))) ?_ fin;rintro _ VE B⟨L,A,hV,hB,rfl,eU,fO⟩;refine aU _ _ hV hB (aB 7 aa (aI aa aa M ae bQ aa ?_));refine aK 2 aa (aO aa I ?_);refine ro 2 aa ?_;refine au aa ?_ ?_<;>intro g3
  ·refine aB 8 aa (aI aa aa M ae bQ aa ?_);refine ro 3 aa ?_;obtain⟨_,⟨tt,rfl,qc,qd⟩,fo,mh,sg,rO,cY⟩:=qI A U;refine ax (aI aa aa I ae cY aa ?_);refine aK 2 aa (pZ aa aa (fun z5 hz5=>?_));refine aK 4 aa (bC aa aa ae ae ?_);exact cW 2 aa (⟨_,Em fin ae⟩)
  exact W
 exact W
theorem N8{T:aN}(F:FT T){O U Y Z:DC}(G:tJ.ok O)(I:tJ.ok U){z:ak}(cF:aA z Y)(dc:z.length≤13)(bV:af mw z)(L:tJ.ok Z):Sound T 141 [.agg [.d O,.d U,.d Y],.d Z] fun r=>∃M,r= .d (dJ M)∧((-1)≤M∧M≤(z.length:Int) -1∧(True)):=by
 refine bj F.q141 aa ?_;rcases G,I,L with⟨⟨aE,rfl,iU,iV⟩,⟨aJ,rfl,eC,eg⟩,⟨aW,rfl,mA,mB⟩⟩
 refine r0 11 aa (bd [4,2,1,0] [2] aa aa (fun e0 b0 k VE B=>∃A,an ((5,.d (dJ A))::e0) VE∧an b0 B∧dP k 0 A (z.length:Int)) ?_ fin);rintro _ VE B⟨A,hV,hB,rfl,bS⟩;exact aU _ _ hV hB (W)
theorem RR{T:aN}(F:FT T){O U Y Z:DC}(G:tJ.ok O)(I:tJ.ok U){z:ak}(cF:aA z Y)(dc:z.length≤13)(bV:af mw z)(L:(Ty.s 1000).ok Z):Sound T 138 [.agg [.d O,.d U,.d Y],.d Z] fun r=>∃M,r= .d (dJ M)∧((-1)≤M∧M≤(z.length:Int) -1∧(True)):=by
 refine bj F.q138 aa ?_;rcases G,I,L with⟨⟨aE,rfl,iU,iV⟩,⟨aJ,rfl,eC,eg⟩,⟨sa3,rfl,aiP⟩⟩
 refine r0 11 aa (bd [4,2,1,0] [2] aa aa (fun e0 b0 k VE B=>∃A,an ((5,.d (dJ A))::e0) VE∧an b0 B∧dP k 0 A (z.length:Int)) ?_ fin);rintro _ VE B⟨A,hV,hB,rfl,bS⟩;exact aU _ _ hV hB (W)
theorem afQ{T:aN}(F:FT T){a0 a1:DC}{G:ak}(A:aA G a0)(cK:G.length≤1000000000)(M:af br G){L:ak}(I:aA L a1)(df:L.length≤1000000000)(O:af br L):Sound T 27 [.d a0,.d a1] fun r=>∃y0,r= .d y0∧(Ty.b).ok y0:=by
 refine bj F.q27 aa (bY 8 aa (aO aa A ?_));refine aK 1 aa (aO aa I ?_);refine ro 2 aa ?_;refine au aa ?_ ?_<;>intro h1
 ·exact W
 refine rc 7 aa (bd [10,4,1,0] [] aa aa (fun e0 b0 k VE B=>∃z,an ((5,.d (dJ z))::e0) VE∧an b0 B∧dP k 0 z (G.length:Int)) ?_ fin);rintro _ VE B⟨z,hV,hB,rfl,bS⟩;refine aU _ _ hV hB (aB 5 aa (aO aa A ?_));refine ro 2 aa ?_;refine au aa ?_ ?_<;>intro g2
 ·refine rc 7 aa ?_;obtain⟨pz,U,Y⟩:=qI z M;refine aR (aI aa aa A ae Y aa ?_);refine cD aa aa (dx aa aa ?_);refine rq 2 aa ?_;obtain⟨pw,Z,cY⟩:=qI z O;refine aR (aI aa aa I ae cY aa ?_);refine cD aa aa (dx aa aa ?_);exact W
 exact W
theorem HZ{T:aN}(F:FT T){Y Z a2 a3 a4 a5:DC}(G:tJ.ok Y)(I:tJ.ok Z)(L:(Ty.s 1000).ok a2)(M:tJ.ok a3)(O:tJ.ok a4)(U:(Ty.s 1000).ok a5):Sound T 209 [.agg [.d Y,.d Z,.d a2],.agg [.d a3,.d a4,.d a5]] fun r=>∃y0,r= .d y0∧(Ty.i .i64 (-1) 1).ok y0:=by
 refine bj F.q209 aa ?_;rcases G,I,L,M,O,U with⟨⟨aE,rfl,iU,iV⟩,⟨aJ,rfl,eC,eg⟩,⟨z,rfl,aiQ⟩,⟨aW,rfl,mA,mB⟩,⟨bR,rfl,oq,ot⟩,⟨A,rfl,hsa5⟩⟩
 refine r0 16 aa ?_;refine bm aa ?_ ?_<;>intro h1
 ·exact W
 refine ro 6 aa ?_;refine bm aa ?_ ?_<;>intro g2
 ·refine ro 8 aa ?_;refine bm aa ?_ ?_<;>intro h3
  ·exact W
  refine ro 6 aa ?_;refine bm aa ?_ ?_<;>intro g4
  ·refine ro 7 aa ?_;refine bm aa ?_ ?_<;>intro g5
   ·refine ro 4 aa (bJ aa aa (K8 aa aa ao (fun b6=>?_)));refine ro 4 aa ?_;refine cH aa ?_ ?_<;>intro h7
    ·exact W
    refine aB 4 aa (wX (r:=[(dJ aE),(dJ aJ),(aq z)]) (r':=[(dJ aW),(dJ bR),(aq A)]) aa aa aa aa (fun b8=>?_));exact W
   refine ro 9 aa (eo aa aa (aB 4 aa (wX (r:=[(dJ aE),(dJ aJ),(aq z)]) (r':=[(dJ aW),(dJ bR),(aq A)]) aa aa aa aa (fun b10=>?_))));exact W
  refine ro 16 aa (eo aa aa (aB 4 aa (wX (r:=[(dJ aE),(dJ aJ),(aq z)]) (r':=[(dJ aW),(dJ bR),(aq A)]) aa aa aa aa (fun b12=>?_))));exact W
 refine ro 14 aa ?_;refine bm aa ?_ ?_<;>intro B7
 ·refine ro 7 aa ?_;refine bm aa ?_ ?_<;>intro ur
  ·refine ro 4 aa (bJ aa aa (K8 aa aa ao (fun b16=>?_)));refine ro 4 aa ?_;refine cH aa ?_ ?_<;>intro rb
   ·exact W
   refine aB 4 aa (wX (r:=[(dJ aE),(dJ aJ),(aq z)]) (r':=[(dJ aW),(dJ bR),(aq A)]) aa aa aa aa (fun b18=>?_));exact W
  refine ro 9 aa (eo aa aa (aB 4 aa (wX (r:=[(dJ aE),(dJ aJ),(aq z)]) (r':=[(dJ aW),(dJ bR),(aq A)]) aa aa aa aa (fun b20=>?_))));exact W
 refine ro 16 aa (eo aa aa (aB 4 aa (wX (r:=[(dJ aE),(dJ aJ),(aq z)]) (r':=[(dJ aW),(dJ bR),(aq A)]) aa aa aa aa (fun b22=>?_))));exact W
theorem xQ{T:aN}(F:FT T){a0 a1:DC}(cU:(Ty.l 1000000000 cC).ok a0)(bW:(Ty.l 1000000000 cC).ok a1):Sound T 120 [.d a0,.d a1] fun r=>∃y0,r= .d y0∧(Ty.i .i64 (-1) 1).ok y0:=by
 refine bj F.q120 aa ?_;rcases cU,bW with⟨⟨bP,A,cK,Z⟩,⟨bL,G,df,cb⟩⟩
 refine r0 10 aa (bd [4,1,0] [] aa aa (fun e0 b0 k VE B=>∃z,an ((5,.d (dJ z))::e0) VE∧an b0 B∧dP k 0 z (bP.length:Int)) ?_ fin);rintro _ VE B⟨z,hV,hB,rfl,bS⟩;refine aU _ _ hV hB (aB 5 aa (aO aa A ?_));refine ro 2 aa ?_;refine bm aa ?_ ?_<;>intro g1
 ·refine ro 2 aa (bJ aa aa (aO aa G ?_));refine ro 3 aa ?_;refine au aa ?_ ?_<;>intro g2
  ·refine rc 7 aa ?_;obtain⟨pz,I,ud,L,Eu,M,fD⟩:=qI z Z;refine aR (aI aa aa A ae fD aa ?_);refine cD aa aa (gm aa (aS aa) (aS aa) ?_);refine rq 2 aa ?_;obtain⟨pw,O,fo,U,sg,Y,cY⟩:=qI z cb;refine aR (aI aa aa G ae cY aa ?_);refine cD aa aa (gm aa (aS aa) (aS aa) ?_);refine aP aa (ay aa (HZ F I L M O U Y) ?_);rintro _ _⟨gV,rfl,rK⟩;exact W
  exact W
 exact W
theorem afR{T:aN}(F:FT T){a0 a1:DC}{I:ak}(A:aA I a0)(cK:I.length≤1000000000)(M:af br I){L:ak}(G:aA L a1)(df:L.length≤1000000000)(O:af br L):Sound T 121 [.d a0,.d a1] fun r=>∃y0,r= .d y0∧(Ty.i .i64 (-1) 1).ok y0:=by
 refine bj F.q121 aa (r0 10 aa (bd [4,1,0] [] aa aa (fun e0 b0 k VE B=>∃z,an ((5,.d (dJ z))::e0) VE∧an b0 B∧dP k 0 z (I.length:Int)) ?_ fin));rintro _ VE B⟨z,hV,hB,rfl,bS⟩;refine aU _ _ hV hB (aB 5 aa (aO aa A ?_));refine ro 2 aa ?_;refine bm aa ?_ ?_<;>intro g1
 ·refine ro 2 aa (bJ aa aa (aO aa G ?_));refine ro 3 aa ?_;refine au aa ?_ ?_<;>intro g2
  ·refine rc 8 aa ?_;obtain⟨_,⟨AM,rfl,Z,CW⟩,U⟩:=qI z M;refine aR (aI aa aa A ae U aa ?_);refine cD aa aa (dx aa aa ?_);refine rq 2 aa ?_;obtain⟨_,⟨tt,rfl,qc,qd⟩,Y⟩:=qI z O;refine aR (aI aa aa G ae Y aa ?_);refine cD aa aa (dx aa aa ?_);refine rq 2 aa ?_;refine au aa ?_ ?_<;>intro h5
   ·exact W
   refine rc 5 aa (aR (aI aa aa A ae U aa ?_));refine cD aa aa (dx aa aa ?_);refine cZ 2 aa (aI aa aa G ae Y aa ?_);refine cD aa aa (dx aa aa ?_);exact W
  exact W
 exact W
end Go.Ev.Rp
namespace Go.Ev.Rp
open Go Go.Ev.Pp
attribute [local irreducible] VC VO VQ VI Sound cm
theorem insC{T:aN}(F:FT T){a0 a1 a2:DC}{U:ak}(N5:0≤U.length)(N9:U=[]→a0= .nil)(L:aA U a0)(cK:U.length≤1000000000)(bM:af ey U)(bW:tJ.ok a1)(cG:tJ.ok a2):Sound T 118 [.d a0,.agg [.d a1,.d a2]] fun r=>∃y0 bu,r= .d y0∧aA bu y0∧(bu.length:Int)≤U.length+1∧af ey bu∧1≤(bu.length:Int)∧(bu=[]→y0= .nil):=by
 refine bj F.ait aa ?_;rcases bW,cG with⟨⟨aJ,rfl,eC,eg⟩,⟨bf,rfl,lJ,lK⟩⟩
 refine r0 15 aa (dh 5 90 47 16 2 aa aa (bd [4,3,1,0] [3] aa aa (fun e0 b0 k VE B=>∃lL O,an ((5,.ac 90 O.length 2)::(6,.d (dJ lL))::e0) VE∧an ((90,.acc 47 16 2 O)::b0) B∧k=((U.length:Int) -lL).toNat∧(0≤lL∧(lL≤(U.length:Int)∨lL=0))∧((O.length:Int)≤lL)∧(af ey O)) ?_ fin));rintro _ VE B⟨lL,O,hV,hB,rfl,bS,cM,nO⟩;refine aU _ _ hV hB (rc 5 aa (aR (aO aa L ?_)));refine rq 2 aa ?_;refine dw aa ?_ ?_<;>intro g1
 ·refine rq 2 aa ?_;obtain⟨_,⟨ka,rfl,qe,rB⟩,_,⟨lz,rfl,oU,l9⟩,bQ⟩:=qI lL bM;refine ca aa aa (aI aa aa L ae bQ aa ?_);refine rq 4 aa (rp 3 aa ?_);refine au aa ?_ ?_<;>intro g3
  ·refine aB 7 aa (aI aa aa L ae bQ aa ?_);refine ro 2 aa ?_;refine ax (aX (rows:=O) (ys:=[[(dJ ka),(dJ lz)]]) rfl rfl rfl (.bs (rows:=[[(dJ ka),(dJ lz)]]) rfl) ao ae (fun h=>by rw[h];rfl) (fun h=>by rw[h];rfl) ?_);exact W
  refine rc 3 aa (bd [20,5,4,3,1,0] [90] aa aa (fun e0 b0 k VE B=>∃I Ag Ah,an ((6,.d (dJ I))::e0) VE∧an ((3,.one 47 16 [.d Ag,.d Ah])::b0) B∧k=((U.length:Int) -I).toNat∧(lL≤I∧(I≤(U.length:Int)∨I=lL))∧(tJ.ok Ag)∧(tJ.ok Ah)) ?_ fin);rintro _ VE B⟨I,Ag,Ah,hV,hB,rfl,eU,M,Gc⟩;refine aU _ _ hV hB (rc 5 aa (aR (aO aa L ?_)));refine rq 2 aa ?_;refine dw aa ?_ ?_<;>intro g4
  ·refine rq 2 aa ?_;obtain⟨_,⟨tu,rfl,xj,xk⟩,_,⟨Du,rfl,CX,CY⟩,eW⟩:=qI I bM;refine ca aa aa (aI aa aa L ae eW aa ?_);refine rq 4 aa ?_;obtain⟨G,rfl,Qi,Qj⟩:=Ty.dH Gc;refine rp 3 aa ?_;refine au aa ?_ ?_<;>intro g6
   ·refine rc 8 aa (aR (aI aa aa L ae eW aa ?_));refine rq 1 aa (cD aa aa (dx aa aa ?_));obtain⟨A,rfl,Y,Z⟩:=Ty.dH M;refine aR (zP aa aa (fun z7 hz7=>?_));refine cZ 9 aa (aI aa aa L ae eW aa ?_);refine rq 1 aa (cD aa aa (dx aa aa ?_));refine aR (pZ aa aa (fun z8 Xe=>?_));exact W
   refine rc 3 aa ?_;obtain⟨A,rfl,Y,Z⟩:=Ty.dH M;refine rp 3 aa ?_;refine aP rfl (aX (rows:=O) (ys:=[[(dJ A),(dJ G)]]) rfl rfl rfl (.bs (rows:=[[(dJ A),(dJ G)]]) rfl) ao ae (fun h=>by rw[h];rfl) (fun h=>by rw[h];rfl) ?_);refine rq 2 aa ?_;obtain⟨j9,sI,pN⟩:=bz (z:=I) (n:=U.length+1) ae ae;refine aR (eI (l:=j9) (h:=U.length) rfl L bM rfl N9 rfl ⟨_,(by rw[←sI];rfl)⟩ ae ae (fun d10 ze I6 Vf Vk=>?_));refine aP aa (aX (rows:=(O++[[(dJ A),(dJ G)]])) (ys:=ze) aa aa aa (.sD I6 (cO Vk aa)) ao ae (fun h=>absurd h bB) (fun h=>absurd h bB) ?_);exact rq 2 aa (cf 4 90 aa aa (fun _=>⟨aa,aa⟩) (W))
  refine rq 10 aa (eo aa aa (rc 3 aa ?_));rcases Ty.dH M,Ty.dH Gc with⟨⟨A,rfl,Y,Z⟩,⟨G,rfl,Qi,Qj⟩⟩
  refine rp 3 aa ?_;refine aP rfl (aX (rows:=O) (ys:=[[(dJ A),(dJ G)]]) rfl rfl rfl (.bs (rows:=[[(dJ A),(dJ G)]]) rfl) ao ae (fun h=>by rw[h];rfl) (fun h=>by rw[h];rfl) ?_);refine rq 2 aa ?_;obtain⟨mG,sb,Bo⟩:=bz (z:=I) (n:=U.length+1) ae ae;refine aR (eI (l:=mG) (h:=U.length) rfl L bM rfl N9 rfl ⟨_,(by rw[←sb];rfl)⟩ ae ae (fun d12 OX I7 Vg Vl=>?_));refine aP aa (aX (rows:=(O++[[(dJ A),(dJ G)]])) (ys:=OX) aa aa aa (.sD I7 (cO Vl aa)) ao ae (fun h=>absurd h bB) (fun h=>absurd h bB) ?_);exact rq 2 aa (cf 4 90 aa aa (fun _=>⟨aa,aa⟩) (W))
 refine rq 10 aa (eo aa aa (rc 3 aa (bd [20,5,4,3,1,0] [90] aa aa (fun e0 b0 k VE B=>∃I Ag Ah,an ((6,.d (dJ I))::e0) VE∧an ((3,.one 47 16 [.d Ag,.d Ah])::b0) B∧k=((U.length:Int) -I).toNat∧(lL≤I∧(I≤(U.length:Int)∨I=lL))∧(tJ.ok Ag)∧(tJ.ok Ah)) ?_ fin)));rintro _ VE B⟨I,Ag,Ah,hV,hB,rfl,eU,M,Gc⟩;refine aU _ _ hV hB (rc 5 aa (aR (aO aa L ?_)));refine rq 2 aa ?_;refine dw aa ?_ ?_<;>intro sK
 ·refine rq 2 aa ?_;obtain⟨_,⟨C4,rfl,Gd,Ge⟩,_,⟨Ai,rfl,QP,QQ⟩,gX⟩:=qI I bM;refine ca aa aa (aI aa aa L ae gX aa ?_);refine rq 4 aa ?_;obtain⟨G,rfl,Qi,Qj⟩:=Ty.dH Gc;refine rp 3 aa ?_;refine au aa ?_ ?_<;>intro ur
  ·refine rc 8 aa (aR (aI aa aa L ae gX aa ?_));refine rq 1 aa (cD aa aa (dx aa aa ?_));obtain⟨A,rfl,Y,Z⟩:=Ty.dH M;refine aR (zP aa aa (fun z16 hz16=>?_));refine cZ 9 aa (aI aa aa L ae gX aa ?_);refine rq 1 aa (cD aa aa (dx aa aa ?_));refine aR (pZ aa aa (fun z17 hz17=>?_));exact W
  refine rc 3 aa ?_;obtain⟨A,rfl,Y,Z⟩:=Ty.dH M;refine rp 3 aa ?_;refine aP rfl (aX (rows:=O) (ys:=[[(dJ A),(dJ G)]]) rfl rfl rfl (.bs (rows:=[[(dJ A),(dJ G)]]) rfl) ao ae (fun h=>by rw[h];rfl) (fun h=>by rw[h];rfl) ?_);refine rq 2 aa ?_;obtain⟨pQ,sh,si⟩:=bz (z:=I) (n:=U.length+1) ae ae;refine aR (eI (l:=pQ) (h:=U.length) rfl L bM rfl N9 rfl ⟨_,(by rw[←sh];rfl)⟩ ae ae (fun d19 Xf Vm hl19 yF=>?_));refine aP aa (aX (rows:=(O++[[(dJ A),(dJ G)]])) (ys:=Xf) aa aa aa (.sD Vm (cO yF aa)) ao ae (fun h=>absurd h bB) (fun h=>absurd h bB) ?_);exact rq 2 aa (cf 4 90 aa aa (fun _=>⟨aa,aa⟩) (W))
 refine rq 10 aa (eo aa aa (rc 3 aa ?_));rcases Ty.dH M,Ty.dH Gc with⟨⟨A,rfl,Y,Z⟩,⟨G,rfl,Qi,Qj⟩⟩
 refine rp 3 aa ?_;refine aP rfl (aX (rows:=O) (ys:=[[(dJ A),(dJ G)]]) rfl rfl rfl (.bs (rows:=[[(dJ A),(dJ G)]]) rfl) ao ae (fun h=>by rw[h];rfl) (fun h=>by rw[h];rfl) ?_);refine rq 2 aa ?_;obtain⟨B8,vO,qQ⟩:=bz (z:=I) (n:=U.length+1) ae ae;refine aR (eI (l:=B8) (h:=U.length) rfl L bM rfl N9 rfl ⟨_,(by rw[←vO];rfl)⟩ ae ae (fun d21 OY hd21 aiR hr21=>?_));refine aP aa (aX (rows:=(O++[[(dJ A),(dJ G)]])) (ys:=OY) aa aa aa (.sD hd21 (cO hr21 aa)) ao ae (fun h=>absurd h bB) (fun h=>absurd h bB) ?_);exact rq 2 aa (cf 4 90 aa aa (fun _=>⟨aa,aa⟩) (W))
theorem MR{T:aN}(F:FT T){a0:DC}{I:ak}(L:aA I a0)(cK:I.length≤1000000000)(bM:af ey I):Sound T 55 [.d a0] fun r=>∃y0 M,r= .d y0∧aA M y0∧(M.length:Int)≤I.length∧af ey M∧0≤(M.length:Int)∧(M=[]→y0= .nil):=by
 refine bj F.q55 aa (r0 14 aa (bd [2,0] [] aa aa (fun e0 b0 k VE B=>∃G A z,an ((3,.d G)::(4,.d (dJ z))::e0) VE∧an b0 B∧k=((I.length:Int) -z).toNat∧(aA A G)∧((A.length:Int)≤z)∧(af ey A)∧(A=[]→G= .nil)∧(0≤z∧(z≤(I.length:Int)∨z=0))) ?_ fin));rintro _ VE B⟨G,A,z,hV,hB,rfl,Y,cM,Z,adC,qM⟩;refine aU _ _ hV hB (aB 5 aa (aO aa L ?_));refine ro 2 aa ?_;refine au aa ?_ ?_<;>intro g1
 ·refine rc 7 aa ?_;obtain⟨gW,O,fP,U,bQ⟩:=qI z bM;refine ax (aI aa aa L ae bQ aa ?_);refine aK 1 aa (ay aa (oV F O U) ?_);rintro _ _⟨_,rfl,AP,rfl⟩;refine ro 1 aa ?_;refine cH aa ?_ ?_<;>intro h4
  ·refine aB 4 aa (aI aa aa L ae bQ aa ?_);refine aK 1 aa (ay aa (insC F ae adC Y ae Z O U) ?_);rintro _ _⟨gV,gR,rfl,jY,qf,jl,rD,qg⟩;exact W
  exact W
 exact W
theorem covC{T:aN}(F:FT T){a0:DC}{G:ak}(U:aA G a0)(cK:G.length≤1000000000)(Y:af jr G):Sound T 235 [.d a0] fun r=>∃y0 I,r= .d y0∧aA I y0∧(I.length:Int)≤G.length∧af ey I∧0≤(I.length:Int)∧(I=[]→y0= .nil):=by
 refine bj F.q235 aa (bY 12 aa (aO aa U ?_));refine ro 3 aa (dh 3 90 47 16 2 aa aa (bd [7,6,2,0] [] aa aa (fun e0 b0 k VE B=>∃z A,an ((3,.ac 90 A.length 2)::(8,.d (dJ z))::e0) VE∧an ((90,.acc 47 16 2 A)::b0) B∧k=((G.length:Int) -z).toNat∧(0≤z∧(z≤(G.length:Int)∨z=0))∧((A.length:Int)≤z)∧(af ey A)) ?_ fin));rintro _ VE B⟨z,A,hV,hB,rfl,bS,cM,O⟩;refine aU _ _ hV hB (rc 5 aa ?_);refine au aa ?_ ?_<;>intro g1
 ·refine rc 5 aa ?_;obtain⟨gW,iG,_,⟨L,rfl,Z,l9⟩,_,⟨M,rfl,uX,uY⟩,lM,mi,bQ⟩:=qI z Y;refine ax (aI aa aa U ae bQ aa ?_);refine ro 5 aa (rp 4 aa ?_);refine ax (aX (rows:=A) (ys:=[[(dJ L),(dJ M)]]) rfl rfl rfl (.bs (rows:=[[(dJ L),(dJ M)]]) rfl) ao ae (fun h=>by rw[h];rfl) (fun h=>by rw[h];rfl) ?_);exact W
 refine rc 1 aa (cf 3 90 aa aa (fun _=>⟨aa,aa⟩) (aB 3 aa (ay aa (MR F (.acc _) ae O) ?_)));rintro _ _⟨jL,o4,rfl,C5,GJ,xl,RU,RV⟩;exact W
end Go.Ev.Rp
namespace Go.Ev.Rp
open Go Go.Ev.Pp
attribute [local irreducible] VC VO VQ VI Sound cm
theorem SubC{T:aN}(F:FT T){a0 a1 a2 a3:DC}(U:tJ.ok a0)(Y:tJ.ok a1)(Z:tJ.ok a2)(cn:tJ.ok a3):Sound T 56 [.agg [.d a0,.d a1],.agg [.d a2,.d a3]] fun r=>∃y0 G,r= .d y0∧aA G y0∧(G.length:Int)≤2∧af ey G:=by
 refine bj F.q56 aa ?_;rcases U,Y,Z,cn with⟨⟨aE,rfl,iU,iV⟩,⟨aJ,rfl,eC,eg⟩,⟨bf,rfl,lJ,lK⟩,⟨aW,rfl,mA,mB⟩⟩
 refine bY 10 aa (ay aa (oV F ai ai) ?_);rintro _ _⟨_,rfl,TS,rfl⟩;refine ro 2 aa ?_;refine cH aa ?_ ?_<;>intro h2
 ·exact W
 refine aB 5 aa (ay aa (C3 F ai ai ai ai) ?_);rintro _ _⟨_,_,_,rfl,⟨A,rfl,I,L⟩,⟨z,rfl,M,O⟩,afS,rfl⟩;refine ro 10 aa (rp 3 aa ?_);refine cH aa ?_ ?_<;>intro h4
 ·refine rc 6 aa ?_;have J3:af ey [[(dJ aE),(dJ aJ)]]:=(cA (aj ai (aj ai bg)) bT);exact qa 4 20 aa aa (fun _=>⟨aa,aa⟩) (W)
 refine rc 8 aa (rp 6 aa ?_);refine au aa ?_ ?_<;>intro g6
 ·refine aB 8 aa (dQ (ys:=[[(dJ aE),(dJ A)]]) 33 aa aa aa aa aa (.bs (rows:=[[(dJ aE),(dJ A)]]) aa) ao ae ?_);refine ro 5 aa (rp 6 aa ?_);refine au aa ?_ ?_<;>intro g7
  ·refine aB 8 aa (aX (rows:=[[(dJ aE),(dJ A)]]) (ys:=[[(dJ z),(dJ aJ)]]) aa aa aa (.bs (rows:=[[(dJ z),(dJ aJ)]]) aa) ao ae (fun h=>absurd h bB) (fun h=>absurd h bB) ?_);exact ro 7 aa (cf 4 33 aa aa (fun _=>⟨aa,aa⟩) (dO 1 aa (bI aa aa ⟨(.cE ([[(dJ aE),(dJ A)]]++[[(dJ z),(dJ aJ)]])),([[(dJ aE),(dJ A)]]++[[(dJ z),(dJ aJ)]]),aa,(.acc _),oe,(dC (dr (aj ai (aj ai bg))) (dr (aj ai (aj ai bg))))⟩)))
  exact rc 6 aa (cf 4 33 aa aa (fun _=>⟨aa,aa⟩) (W))
 refine rc 4 aa (rp 6 aa ?_);refine au aa ?_ ?_<;>intro g8
 ·refine aB 8 aa (dQ (ys:=[[(dJ z),(dJ aJ)]]) 46 aa aa aa aa aa (.bs (rows:=[[(dJ z),(dJ aJ)]]) aa) ao ae ?_);exact ro 7 aa (cf 4 46 aa aa (fun _=>⟨aa,aa⟩) (W))
 exact W
end Go.Ev.Rp
namespace Go.Ev.Rp
open Go Go.Ev.Pp
attribute [local irreducible] VC VO VQ VI Sound cm
def dd(z:Int):Int:=2^z.toNat
theorem aiS:dd 0=1:=rfl
theorem N'{z:Int}(h:0≤z):dd (z+1)=2*dd z:=by
 unfold dd;rw[show(z+1).toNat=z.toNat+1 by omega,Int.pow_succ,Int.mul_comm]
theorem afT{z:Int}(h:0≤z)(h2:z≤13):1≤dd z∧dd z≤8192:=by
 unfold dd;have:z.toNat≤13:=by omega
 generalize z.toNat=n at this;have:∀m:Nat,m≤13→1≤(2:Int)^m∧(2:Int)^m≤8192:=by decide
 exact this n dm
theorem SubSC{T:aN}(F:FT T){a0 a1:DC}{bP:ak}(cr:aA bP a0)(cK:bP.length≤1)(bM:af ey bP){M:ak}(cN:aA M a1)(df:M.length≤13)(cb:af ey M):Sound T 26 [.d a0,.d a1] fun r=>∃y0 bu,r= .d y0∧aA bu y0∧(bu.length:Int)≤8192∧af ey bu:=by
 refine bj F.q26 aa (r0 6 aa ?_);have k0:=aiS;refine gz 1 aa (ay aa (MR F cr ae bM) ?_);rintro _ _⟨ez,fg,rfl,Y,jE,Z,lu,mT⟩;refine ro 8 aa (bd [4,1,0] [] aa aa (fun e0 b0 k VE B=>∃O G A,an ((5,.d O)::(6,.d (dJ A))::e0) VE∧an b0 B∧k=((M.length:Int) -A).toNat∧(aA G O)∧((G.length:Int)≤dd A)∧(af ey G)∧(G=[]→O= .nil)∧(0≤A∧(A≤(M.length:Int)∨A=0))) ?_ (k:=((M.length:Int) -0).toNat) ⟨ez,fg,0,⟨aa,aa,aa,aa,aa,trivial⟩,trivial,aa,Y,ae,Z,mT,ae⟩);rintro _ VE B⟨O,G,A,hV,hB,rfl,U,cM,RW,RX,qM⟩;refine aU _ _ hV hB (rc 4 aa ?_);have k9:=afT (z:=A) ae ae;refine gz 1 aa (aO aa cN ?_);refine ro 2 aa ?_;refine au aa ?_ ?_<;>intro g2
 ·refine rc 5 aa ?_;have k1:=N' (z:=A) ae;refine rp 8 aa (dh 7 90 47 16 2 aa aa (bd [14,6,5,4,1,0] [] aa aa (fun e0 b0 k VE B=>∃I L,an ((7,.ac 90 L.length 2)::(8,.d (dJ I))::e0) VE∧an ((90,.acc 47 16 2 L)::b0) B∧k=((G.length:Int) -I).toNat∧(0≤I∧(I≤(G.length:Int)∨I=0))∧((L.length:Int)≤2*I)∧(af ey L)) ?_ fin));rintro _ VE B⟨I,L,hV,hB,rfl,eU,fO,RY⟩;refine aU _ _ hV hB (aB 5 aa (aO aa U ?_));refine ro 2 aa ?_;refine au aa ?_ ?_<;>intro g3
  ·refine rc 7 aa ?_;obtain⟨pw,kQ,fo,mh,cY⟩:=qI I RW;refine aR (aI aa aa U ae cY aa ?_);refine cD aa aa (gm aa (aS aa) (aS aa) ?_);refine rq 2 aa ?_;obtain⟨Et,AN,Br,xR,eW⟩:=qI A cb;refine aR (aI aa aa cN ae eW aa ?_);refine cD aa aa (gm aa (aS aa) (aS aa) ?_);refine aP aa (ay aa (SubC F kQ mh AN xR) ?_);rintro _ _⟨kD,nZ,rfl,oW,xm,ma⟩;refine aP rfl (aX (rows:=L) (ys:=nZ) rfl rfl rfl (.sD oW (cO ma rfl)) ao ae (fun h=>by rw[h];rfl) (fun h=>by rw[h];rfl) ?_);have k1:=N' (z:=A) ae;exact W
  refine rc 1 aa (cf 7 90 aa aa (fun _=>⟨aa,aa⟩) (aB 6 aa (bC aa aa ae ae ?_)));refine cW 2 aa ?_;exact⟨((M.length:Int) -((A+1))).toNat,ae,(.cE L),L,(A+1),⟨rfl,rfl,rfl,rfl,rfl,trivial⟩,trivial,rfl,(.acc _),ae,RY,(fun h=>by rw[h];rfl),ae⟩
 exact W
end Go.Ev.Rp
