/- Part 24 of rules for walks through the code of a program, and of such walks; what each part proves is said by its theorems. -/
import Derived.Test.YtmpoloiempjdpaaGreatR21
import Derived.Test.YtmpoloiempjdpaaGreatR23
set_option linter.unusedVariables false
set_option linter.unusedSimpArgs false
noncomputable section
set_option maxRecDepth 100000
set_option maxHeartbeats 4000000
namespace Go.Ev
open Go
def intOf:List DC→Int
 |[.i _ z]=>z
 |_=>0
def cC(X:List Int)(w:ai):Prop:=af [.i .i64 (-9223372036854775808) 9223372036854775807] w∧(w.map intOf).Pairwise (· < ·)∧∀z,z∈w.map intOf→z∈X
def e7(X:List Int)(d:DC):Prop:=∃w,au w d∧cC X w
theorem cC.nil{X:List Int}:cC X []:=⟨cb,.nil,fun _ h=>by cases h⟩
theorem e7.nil{X:List Int}:e7 X .nil:=⟨[],.inr ⟨rfl,rfl⟩,cC.nil⟩
theorem aem:∀(l X:List Int),l.Pairwise (· < ·)→(∀z,z∈l→z∈X)→l.length≤X.length
 |[],_,_,_=>hZ _
 |a::l,X,h,A=>by
  have G:=List.pairwise_cons.1 h;have I:a∈X:=A a (jw ..);have:=aem l (X.erase a) G.2 fun z L=>(List.mem_erase_of_ne (by have:=G.1 z L;omega)).2 (A z (pG _ L))
  rw[List.length_erase_of_mem I] at this;have:0<X.length:=List.length_pos_of_mem I;simp only[gF];omega
theorem cC.len{X:List Int}{w:ai}(h:cC X w):w.length≤X.length:=by
 have:=aem _ _ h.2.1 h.2.2;simpa using this
theorem cC.mem{X:List Int}{w:ai}{k:IntKind}{i:Nat}{z:Int}(h:cC X w)(A:w[i]?=some [.i k z]):z∈X:=h.2.2 z (List.mem_map.2 ⟨_,nJ A,rfl⟩)
def vt(w:ai)(k x:Int):Prop:=∀(j:Nat)(z:Int),(j:Int)<k→w[j]?=some [.i .i64 z]→z<x
theorem ab7{w:ai}{x:Int}:vt w 0 x:=fun j z h _=>by omega
theorem vt.succ{w:ai}{k x z:Int}(h:vt w k x)(M:0≤k)(G:w[k.toNat]?=some [.i .i64 z])(I:z<x):vt w (k+1) x:=fun j L O A=>by
 by_cases e:j=k.toNat
 ·subst e;rw[G] at A;cases A;exact I
 exact h j L al A
theorem cC.ins{X:List Int}{w:ai}{v x:Int}{k A:Nat}(h:cC X w)(hx:x∈X)(hk:(k:Int)=v)(hk':(A:Int)=v)(hkn:v≤(w.length:Int))(hb: -9223372036854775808≤x∧x≤9223372036854775807)(Z:vt w v x)
  (BZ:v=(w.length:Int)∨∃z,w[v.toNat]?=some [.i .i64 z]∧x<z):cC X ((w.drop 0).take (k-0)++[[.i .i64 x]]++(w.drop A).take (w.length-A)):=by
 obtain rfl:A=k:=by omega
 have hc:(w.drop A).take (w.length-A)=w.drop A:=by rw[pF];simp
 have h0:(w.drop 0).take (A-0)=w.take A:=by simp
 rw[hc,h0];have O:∀(j:Nat)(r:List DC),w[j]?=some r→∃z,r=[.i .i64 z]:=fun j r hg=>by
  have I:=lu h.1 hg;obtain⟨d,_,rfl,hd,I⟩:=dw I;obtain rfl:=pv I;obtain⟨z,rfl,_⟩:=Ty.dY hd;exact⟨z,aa⟩
 refine⟨dW (dW (fun r I=>h.1 r (D5 I)) (dG (ah (dY hb.1 hb.2) bl))) (fun r I=>h.1 r (D4 I)),?_,?_⟩
 ·have hp:=h.2.1;rw[oO,oO,T2,Mi];have JD:(w.map intOf)=(w.map intOf).take A++(w.map intOf).drop A:=(yn _ _).symm;rw[JD] at hp;obtain⟨p1,p2,p3⟩:=List.pairwise_append.1 hp;have ha:∀z,z∈(w.map intOf).take A→z<x:=fun z G=>by
   obtain⟨j,hj,e⟩:=List.mem_take_iff_getElem.1 G;simp only[pH] at hj;obtain⟨z',I⟩:=O j w[j] (dm al);have U:=Z j z' al (by rw[dm al,I]);simp only[List.getElem_map,I,intOf] at e;omega
  have Y:∀z,z∈(w.map intOf).drop A→x<z:=fun z G=>by
   rcases BZ with e|⟨z0,hg,hl⟩
   ·rw[No (by simp;omega)] at G;cases G
   obtain⟨i,hi,e⟩:=List.mem_iff_getElem.1 G;simp only[qz,pH] at hi;have Xw:A=v.toNat:=by omega
   have M:A<w.length:=by omega
   have L:(w.map intOf)[A]?=some z0:=by rw[yq,Xw,hg];rfl
   by_cases ei:i=0
   ·subst ei;simp only[List.getElem_drop,tR] at e;rw[dm (by simpa using M)] at L
    cases L
    omega
   have hlt':(w.map intOf)[A]'(by simpa using M)<(w.map intOf)[A+i]'(by simp only[pH];omega):=List.pairwise_iff_getElem.1 h.2.1 _ _ _ _ al;rw[dm (by simpa using M)] at L;have e0:=Option.some.inj L;simp only[List.getElem_drop] at e;omega
  rw[agB];refine List.pairwise_append.2 ⟨p1,List.pairwise_append.2 ⟨by simp,p2,fun a U b h2=>?_⟩,fun a U b h2=>?_⟩
  ·have:a=x:=by simpa[intOf] using U
   rw[this];exact Y b h2
  rcases List.mem_append.1 h2 with h2|h2
  ·have:b=x:=by simpa[intOf] using h2
   rw[this];exact ha a U
  have:=ha a U;have:=Y b h2;omega
 intro z G;simp only[oO,yt,T2,Mi] at G;rcases G with(G|G)|G
 ·exact h.2.2 z (D5 G)
 ·have:z=x:=by simpa[intOf] using G
  rw[this];exact hx
 exact h.2.2 z (D4 G)
theorem e7.one{X:List Int}{x:Int}(G:x∈X)(A: -9223372036854775808≤x∧x≤9223372036854775807):e7 X (.sl [[.i .i64 x]]):=⟨[[.i .i64 x]],.inl rfl,dG (ah (dY A.1 A.2) bl),by simp[intOf],fun z I=>by
 have:z=x:=by simpa[intOf] using I
 rw[this];exact G⟩
def qV(d:DC):Prop:=d= .nil∨∃f n,d= .raw f n 2∧n≤1000001
theorem qV.nil:qV .nil:=.inl rfl
theorem qV.raw{f n:Nat}(h:n≤1000001):qV (.raw f n 2):=.inr ⟨f,n,rfl,h⟩
theorem ab8{T:aM}{VE:bb}{B:aK}{Q:VV→aK→Prop}{x:aG}{d:DC}(A:x.vv VE=some (.d d))(L:qV d)(G:∀z:Int,0≤z→z≤1000001→Q (.d (.i .i64 z)) B):VI T (.len x) VE B [] Q:=by
 rcases L with rfl|⟨f,n,rfl,O⟩
 ·exact zT A (G 0 al al)
 intro H0 X0 E H β I;obtain⟨a,M,h2⟩:=I.bI A;simp only[aE,bF] at h2;subst h2;exact KW M (dA I (v:=.d (.i .i64 (n:Int))) (by simp only[aE,bF]) (G n al al))
section
variable{T:aM}{VE:bb}{B:aK}{ops:List bk}{Q:bb→aK→Prop}{c:IC}{R:Ex→bb→aK→Prop}
theorem accArr{H:ax}{X:Nat→Prop}{β:Nat→Nat}{f elem aD es:Nat}{rows:ai}(z:rows≠[])(h:db H X β f (.acc elem aD es rows)):db H X β f (.arr elem aD es rows.length rows):=by
 rcases h with h|⟨lo,cs,A,h2,G⟩
 ·exact absurd h z
 exact⟨lo,cs,A,h2,bf _,G⟩
theorem arrAcc{H:ax}{X:Nat→Prop}{β:Nat→Nat}{f elem aD es lo:Nat}{rows:ai}(h:db H X β f (.arr elem aD es lo rows)):db H X β f (.acc elem aD es rows):=by
 obtain⟨z,cs,A,h2,G,I⟩:=h;exact .inr ⟨z,cs,A,eO h2 G,I⟩
theorem vo_accArr(b:Nat){elem aD es:Nat}{rows:ai}(A:aF B b=some (.acc elem aD es rows))(z:rows≠[])(h:VO T ops VE ((b,.arr elem aD es rows.length rows)::B) Q):VO T ops VE B Q:=
 fun H0 X0 E H β G=>(h H0 X0 E H β (G.nN A ⟨fun _=>z,fun _=>trivial⟩ fun _ k=>accArr z k)).mono fun _ _ I=>I.more (jH A ⟨fun _=>z,fun _=>trivial⟩)
theorem aar(b:Nat){elem aD es lo:Nat}{rows:ai}(z:aF B b=some (.arr elem aD es lo rows))(A:rows≠[])(h:VO T ops VE ((b,.acc elem aD es rows)::B) Q):VO T ops VE B Q:=
 fun H0 X0 E H β G=>(h H0 X0 E H β (G.nN z ⟨fun _=>trivial,fun _=>A⟩ fun _ k=>arrAcc k)).mono fun _ _ I=>I.more (jH z ⟨fun _=>trivial,fun _=>A⟩)
theorem ac_bs{H:ax}{X:Nat→Prop}{β:Nat→Nat}{b n es:Nat}{a:aj}(h0:0<n)(h:aE H X β (.ac b n es) a):aE H X β (.bs b n es) a:=by
 simp only[aE] at h⊢;rcases h with⟨z,_⟩|⟨_,h2⟩
 ·omega
 exact h2
theorem bs_ac{H:ax}{X:Nat→Prop}{β:Nat→Nat}{b n es:Nat}{a:aj}(h0:0<n)(h:aE H X β (.bs b n es) a):aE H X β (.ac b n es) a:=by
 simp only[aE] at h⊢;exact .inr ⟨h0,h⟩
end
def InX(X:List Int)(d:DC):Prop:=∃z,d= .i .i64 z∧(-9223372036854775808≤z∧z≤9223372036854775807)∧z∈X
def tn(w:ai)(i:Int):Prop:=∀z A B r,w[i.toNat]?=some (.i .i64 z::.i .i64 A::.i .i64 B::r)→(z≠1→0≤A∧A<i)∧((4≤z∧z≤8)→0≤B∧B<i)
theorem tn.mk{w:ai}{i G A B:Int}{r:List DC}(I:w[i.toNat]?=some (.i .i64 G::.i .i64 A::.i .i64 B::r))(h:(G≠1→0≤A∧A<i)∧((4≤G∧G≤8)→0≤B∧B<i)):tn w i:=fun L M B' r' z=>by
 rw[I] at z;cases z;exact h
def mH(w:ai)(n:Int):Prop:=∀i:Int,0≤i→i<n→tn w i
theorem ZN{w:ai}:mH w 0:=fun i z h2=>by omega
theorem mH.succ{w:ai}{n:Int}(h:mH w n)(k:tn w n):mH w (n+1):=fun i z h2=>by
 by_cases e:i=n
 ·subst e;exact k
 exact h i z al
theorem mH.all{w:ai}{n k:Int}(h:mH w n)(A:k≤n):mH w k:=fun i z h2=>h i z al
theorem mH.get{w:ai}{n i z A B:Int}{r:List DC}(h:mH w n)(h0:0≤i)(G:i<n)(I:w[i.toNat]?=some (.i .i64 z::.i .i64 A::.i .i64 B::r)):(z≠1→0≤A∧A<i)∧((4≤z∧z≤8)→0≤B∧B<i):=h i h0 G z A B r I
def wm(z:Int):Nat:=64*2^z.toNat
theorem wm_s{z:Int}(h:0≤z):wm (z+1)=2*wm z:=by
 unfold wm;rw[show(z+1).toNat=z.toNat+1 by omega,Nl];omega
theorem agR{z:Int}(h2:z≤19):64≤wm z∧wm z≤33554432:=by
 unfold wm;have:z.toNat≤19:=by omega
 generalize z.toNat=n at this;have:∀m:Nat,m≤19→64≤64*2^m∧64*2^m≤33554432:=by decide
 exact this n (by assumption)
def ajv(t:Int)(r:List DC):Prop:=∃f g c,r=[.i .i64 f,.i .i64 g,c]∧f≤t∧t<g
def sm(w:ai)(t:Int):Prop:=∃r,r∈w∧ajv t r
def rV(w:ai)(v t:Int):Prop:=∀(q:Nat)(r:List DC),(q:Int)<v→w[q]?=some r→¬ajv t r
theorem sm.mk{w:ai}{q:Nat}{t f g:Int}{c:DC}(z:w[q]?=some [.i .i64 f,.i .i64 g,c])(A:f≤t)(h2:t<g):sm w t:=⟨_,nJ z,f,g,c,rfl,A,h2⟩
theorem ab9{w:ai}{t:Int}:rV w 0 t:=fun q r h _=>by omega
theorem rV.succ{w:ai}{v t f g:Int}{c:DC}(h:rV w v t)(h0:0≤v)(A:w[v.toNat]?=some [.i .i64 f,.i .i64 g,c])(G:¬(f≤t∧t<g)):rV w (v+1) t:=fun q r L z=>by
 by_cases e:q=v.toNat
 ·subst e;rw[A] at z;cases z;rintro⟨f',g',M,e,I,h2⟩
  cases e;exact G ⟨I,h2⟩
 exact h q r al z
theorem rV.all{w:ai}{v t:Int}(h:rV w v t)(I:(w.length:Int)≤v):¬sm w t:=by
 rintro⟨r,z,A⟩;obtain⟨q,G,e⟩:=List.mem_iff_getElem.1 z;exact h q r al (by rw[dm G,e]) A
def IM(t:Int)(r:List DC):Prop:=∃n d rest w,r=n::d::rest∧au w d∧sm w t
open Classical in
def jx(t:Int)(w:ai):Nat:=(w.filter fun r=>decide (IM t r)).length
theorem Sl{α:Type}{w:List α}{v:Int}{r:α}(h0:0≤v)(z:w[v.toNat]?=some r):w.take (v+1).toNat=w.take v.toNat++[r]:=by
 rw[show(v+1).toNat=v.toNat+1 by omega,oC,z];rfl
theorem F5{w z:ai}{v t:Int}{m:Nat}{n d:DC}{rest:List DC}(h:(m:Int)=jx t (w.take v.toNat))(h0:0≤v)(A:w[v.toNat]?=some (n::d::rest))(G:au z d)(I:sm z t):((m+1:Nat):Int)=jx t (w.take (v+1).toNat):=by
 have:IM t (n::d::rest):=⟨n,d,rest,z,rfl,G,I⟩;rw[Sl h0 A];simp[jx,this] at h⊢;omega
theorem K3{w z:ai}{v t:Int}{m:Nat}{n d:DC}{rest:List DC}(h:(m:Int)=jx t (w.take v.toNat))(h0:0≤v)(A:w[v.toNat]?=some (n::d::rest))(G:au z d)(I:¬sm z t):(m:Int)=jx t (w.take (v+1).toNat):=by
 have:¬IM t (n::d::rest):=by
  rintro⟨_,_,_,w',e,L,h2⟩
  cases e
  exact I (G.uniq L▸h2)
 rw[Sl h0 A];simp[jx,this] at h⊢;omega
theorem visN_lt{w z:ai}{v t:Int}{n d:DC}{rest:List DC}(h0:0≤v)(A:w[v.toNat]?=some (n::d::rest))(G:au z d)(I:sm z t):jx t (w.take v.toNat)<jx t w:=by
 have L:=F5 (m:=jx t (w.take v.toNat)) rfl h0 A G I;have h2:jx t (w.take (v+1).toNat)≤jx t w:=by
  simp only[jx];exact((T' _ _).filter _).length_le
 omega
theorem visT_take{t:Int}{r:List DC}{k:Nat}(z:2≤k):IM t (r.take k)↔IM t r:=by
 obtain⟨k,rfl⟩:∃j,k=j+2:=⟨k-2,al⟩;constructor
 ·rintro⟨n,d,rest,w,e,h⟩;rcases r with _|⟨a,_|⟨b,l⟩⟩
  ·cases e
  ·cases e
  simp only[xK] at e
  cases e
  exact⟨_,_,l,w,aa,h⟩
 rintro⟨n,d,rest,w,rfl,h⟩;exact⟨n,d,rest.take k,w,by simp only[xK],h⟩
theorem abe{t:Int}{w:ai}{k:Nat}(z:2≤k):jx t (w.map (List.take k))=jx t w:=by
 simp only[jx,List.filter_map,pH];congr 1;refine List.filter_congr fun r _=>?_
 simp only[agA];exact decide_eq_decide.2 (visT_take z)
theorem visN_all{t:Int}{w:ai}{v:Int}{m:Nat}(h:(m:Int)=jx t (w.take v.toNat))(z:(w.length:Int)≤v):(m:Int)=jx t w:=by
 rw[pF al] at h;exact h
theorem map_take_s{w w':ai}{v:Int}{r r':List DC}{k:Nat}(h:w'=(w.take v.toNat).map (List.take k))(h0:0≤v)(z:w[v.toNat]?=some r)(A:r.take k=r'):w'++[r']=(w.take (v+1).toNat).map (List.take k):=by
 rw[Sl h0 z,h,oO];simp[A]
theorem map_take_all{w w':ai}{v:Int}{k:Nat}(h:w'=(w.take v.toNat).map (List.take k))(z:(w.length:Int)≤v):w'=w.map (List.take k):=by
 rw[pF al] at h;exact h
def qm(ne:Nat)(w:ai):Prop:=af [.i .i64 0 4,.i .i64 (-1) ((ne:Int) -1),.s 1000] w∧∀(q:Nat)(a e:Int)(r:List DC),w[q]?=some (.i .i64 a::.i .i64 e::r)→a=0→0≤e
def AO(ne:Nat)(d:DC):Prop:=∃w,au w d∧w.length≤4∧qm ne w
theorem qm.get{ne:Nat}{w:ai}{q:Nat}{a e:Int}{r:List DC}(h:qm ne w)(z:w[q]?=some (.i .i64 a::.i .i64 e::r)):a=0→0≤e:=h.2 q a e r z
def Bo(row:List Ty)(ne:Nat)(d:DC):Prop:=∃w,au w d∧w.length=ne∧af row w
def LstQ(row:List Ty)(lo hi:Nat)(d:DC):Prop:=∃w,au w d∧lo≤w.length∧w.length≤hi∧af row w
def pN(row:List Ty)(lo hi:Nat)(d:DC):Prop:=∃w,au w d∧lo≤w.length∧w.length≤hi∧af row w∧(w=[]→d= .nil)
theorem jo{VE:bb}{k n:Nat}{l:List UInt8}(h:DC.s k n=aq l):(aG.c (.str k n)).vv VE=some (.d (aq l)):=by rw[←h];rfl
def gv:List DC→Int
 |.i _ z::_=>z
 |_=>0
theorem okX{t:Ty}{w:ai}(h:af [t] w):af [.x] w:=fun r z=>by
 obtain⟨d,q,rfl,_,h2⟩:=dw (h r z);obtain rfl:=pv h2;exact ah bZ bl
def xS(row:Nat→List Ty)(w:ai):Prop:=∀r,r∈w→∃ne,ne≤30∧(2≤w.length→1≤ne)∧e6 (row ne) r
theorem xS.get{row:Nat→List Ty}{w:ai}{q:Nat}{r:List DC}(h:xS row w)(z:w[q]?=some r):∃ne,ne≤30∧(2≤w.length→1≤ne)∧e6 (row ne) r:=h r (nJ z)
theorem xS.len{row:Nat→List Ty}{w:ai}{n:Nat}(z:∀ne r,e6 (row ne) r→r.length=n)(h:xS row w):∀r,r∈w→r.length=n:=fun r A=>by
 obtain⟨ne,_,_,G⟩:=h r A;exact z ne r G
section
variable{T:aM}{VE:bb}{B:aK}
theorem vc_loop1{c:IC}{R:Ex→bb→aK→Prop}(I:Nat→bb→aK→Prop)(M:Nat)(U:VC T c VE B fun x bh B'=>match x with|.normal=>∃j,j<M∧I j bh B'|x=>R x bh B')(Y:∀k VE B,I k VE B→VC T c VE B fun x bh B'=>match x with|.normal=>∃j,j<k∧I j bh B'|x=>R x bh B'):VC T (.loop c) VE B R:=by
 refine Rd (fun k V B'=>(k=M∧V=VE∧B'=B)∨(k<M∧I k V B')) (fun k V B' h=>?_) (k:=M) (.inl ⟨aa,aa,aa⟩);rcases h with⟨rfl,rfl,rfl⟩|⟨Z,h⟩
 ·exact fun H0 X0 E H β L=>(U H0 X0 E H β L).mono fun x _ _ O=>by
   obtain⟨z,B1,A,a,b,c⟩:=O;refine⟨z,B1,A,a,b,?_⟩
   cases x with
   |normal=>obtain⟨j,G,hi⟩:=c;exact⟨j,G,.inr ⟨G,hi⟩⟩
   |exit id=>exact c
   |ret=>exact c
 exact fun H0 X0 E H β L=>(Y k V B' h H0 X0 E H β L).mono fun x _ _ O=>by
  obtain⟨z,B1,A,a,b,c⟩:=O;refine⟨z,B1,A,a,b,?_⟩
  cases x with
  |normal=>obtain⟨j,G,hi⟩:=c;exact⟨j,G,.inr ⟨al,hi⟩⟩
  |exit id=>exact c
  |ret=>exact c
theorem Rel.frzC{H0:Nat→Nat}{X0:Nat→Prop}{E:Env}{H:ax}{β:Nat→Nat}(Y:Rel H0 X0 VE B E H β){b g e O i elem aD es:Nat}{row:List VV}{rows:ai}(hb:aF B b=some (.one e O row))(hi:row[i]?=some (.ac g rows.length es))(hg:aF B g=some (.acc elem aD es rows))(hbg:g≠b):Rel H0 X0 VE ((b,.one e O (row.set i (.d (.cF rows))))::cQ B g) E H β:=by
 have h:=Y.drop g;have I:∀c s,aF (cQ B g) c=some s→g≠c∧aF B c=some s:=fun c s z=>by
  rw[jb] at z
  by_cases e:g=c
  ·rw[bg e] at z;cases z
  rw[aZ e] at z;exact⟨e,z⟩
 have Z:aF (cQ B g) b=some (.one e O row):=by rw[jb,aZ hbg];exact hb
 have U:=jH (s':=.one e O (row.set i (.d (.cF rows)))) Z ga;have hl:eP H (XB X0 (cQ B g) β) H (XB X0 ((b,.one e O (row.set i (.d (.cF rows))))::cQ B g) β):=⟨bf _,fun f _ hx=>⟨fun k=>hx (k.imp id fun⟨c,t,z,ho,h2⟩=>by obtain⟨u,G,L⟩:=U c t z ho;exact⟨c,u,G,L,h2⟩),rfl⟩⟩;have lI:eP H (XB X0 B β) H (XB X0 ((b,.one e O (row.set i (.d (.cF rows))))::cQ B g) β):=⟨bf _,fun f _ hx=>⟨fun k=>hx (k.imp id fun⟨c,t,z,ho,h2⟩=>by obtain⟨u,G,L⟩:=U c t z ho;exact⟨c,u,(I c u G).2,L,h2⟩),rfl⟩⟩;have hx:rows≠[]→¬XB X0 ((b,.one e O (row.set i (.d (.cF rows))))::cQ B g) β (β g):=by
  rintro A(k|⟨c,s,z,ri,h2⟩)
  ·exact(Y.new g _ hg A).1 k
  obtain⟨u,G,L⟩:=U c s z ri;exact(I c u G).1 (Y.inj c g u _ (I c u G).2 hg L A h2).symm
 have IN:rows≠[]→bF H (XB X0 ((b,.one e O (row.set i (.d (.cF rows))))::cQ B g) β) (.sl rows) (.slice (β g) rows.length 0 rows.length es):=fun A=>by
  simp only[bF];refine⟨β g,rows.length,0,es,rfl,.inr ⟨hx A,(Y.new g _ hg A).2,0,by simp,dz.nx fun q r hq=>?_⟩⟩;obtain⟨l,z,h2,h3⟩:=(Y.box g _ hg).CV hq;exact⟨l,by rw[fh];exact z,h2,h3.lift lI⟩
 refine⟨h.jD,h.aR,h.x0,fun c t M ho=>?_,fun c d t u M sL hs ht he=>?_,fun k v hk=>?_,fun c t M=>?_⟩
 ·obtain⟨u,G,L⟩:=U c t M ho;exact h.new c u G L
 ·obtain⟨s1,G,L⟩:=U c t M hs;obtain⟨t1,k3,k4⟩:=U d u sL ht;exact h.inj c d s1 t1 G k3 L k4 he
 ·obtain⟨a,z,h2⟩:=h.env k v hk;exact⟨a,z,h2.lift hl⟩
 rw[c7] at M
 by_cases k:b=c
 ·subst k;rw[bg rfl] at M
  cases M
  obtain⟨l,lo,cs,z,h2,h3,h4⟩:=(h.box b _ Z).lift hl rfl;refine⟨l,lo,cs,z,h2,h3,bc.IL (fun a ha=>?_) hi h4⟩;simp only[aE] at ha⊢;rcases ha with⟨G,rfl⟩|⟨G,rfl⟩
  ·rw[List.length_eq_zero_iff.1 G];simp only[DC.cF,bF]
  have A:rows≠[]:=fun e=>by rw[e] at G;simp at G
  have h5:=IN A
  cases rows with
  |nil=>exact absurd rfl A
  |cons r0 rs=>exact h5
 rw[aZ k] at M;exact(h.box c t M).lift hl rfl
theorem more_frzC{b g e G:Nat}{row A:List VV}(I:aF B b=some (.one e G row)):∀c t,aF ((b,BS.one e G A)::cQ B g) c=some t→t.born→∃u,aF B c=some u∧u.born:=fun c t z ho=>by
 rw[c7] at z
 by_cases k:b=c
 ·subst k;exact⟨_,I,trivial⟩
 rw[aZ k,jb] at z
 by_cases e:g=c
 ·rw[bg e] at z;cases z
 rw[aZ e] at z;exact⟨t,z,ho⟩
theorem aca{c:IC}{R:Ex→bb→aK→Prop}(b i g:Nat){e A elem aD es:Nat}{row:List VV}{rows:ai}(G:aF B b=some (.one e A row))(hi:row[i]?=some (.ac g rows.length es))(I:aF B g=some (.acc elem aD es rows))(z:g≠b)(h:VC T c VE ((b,.one e A (row.set i (.d (.cF rows))))::cQ B g) R):VC T c VE B R:=
 fun H0 X0 E H β L=>(h H0 X0 E H β (L.frzC G hi I z)).mono fun _ _ _ M=>M.more (more_frzC G)
end
def aen(r:List DC):Prop:=∃f g,r[4]?=some (.i .i64 f)∧r[5]?=some (.i .i64 g)∧0≤f∧f≤1000∧g≤1099511627776
def ji(w:ai):Prop:=(w.map gv).Nodup∧∀r,r∈w→aen r
theorem rJ:ji []:=⟨List.nodup_nil,fun _ h=>by cases h⟩
theorem ji.filter{w:ai}{p:List DC→Bool}(h:ji w):ji (w.filter p):=⟨h.1.sublist (List.filter_sublist.map gv),fun r z=>h.2 r (List.mem_filter.1 z).1⟩
def fG(v:Int)(w0 w:ai):Prop:=(w.map gv).Sublist ((w0.take v.toNat).map gv)∧∀r,r∈w→aen r
theorem Ai{w0:ai}:fG 0 w0 []:=⟨List.nil_sublist _,fun _ h=>by cases h⟩
theorem fG.step{v:Int}{w0 w:ai}{r r':List DC}(h:fG v w0 w)(O:ji w0)(h0:0≤v)(I:w0[v.toNat]?=some r)(e:gv r'=gv r:=by rfl)(L:r'[4]?=r[4]?:=by rfl)(z:r'[5]?=r[5]?∨∃g,r'[5]?=some (.i .i64 g)∧g≤1099511627776:=by first|exact .inl rfl|exact .inr ⟨_,rfl,ae⟩):fG (v+1) w0 (w++[r']):=by
 rw[fG,show(v+1).toNat=v.toNat+1 by omega,oC,I,oO,oO];refine⟨h.1.append ?_,fun q A=>?_⟩
 ·rw[Iu,jv,jv,e];exact List.Sublist.refl _
 rcases List.mem_append.1 A with A|A
 ·exact h.2 q A
 rcases List.mem_singleton.1 A with rfl
 obtain⟨f,g,M,h2,G⟩:=O.2 r (nJ I);rcases z with z|⟨g',z,U⟩
 ·exact⟨f,g,L.trans M,z.trans h2,G⟩
 exact⟨f,g',L.trans M,z,G.1,G.2.1,U⟩
theorem fG.skip{v:Int}{w0 w:ai}(h:fG v w0 w)(h0:0≤v):fG (v+1) w0 w:=by
 rw[fG,show(v+1).toNat=v.toNat+1 by omega,oC,oO];exact⟨h.1.trans (List.sublist_append_left _ _),h.2⟩
theorem fG.fin{v:Int}{w0 w:ai}(h:fG v w0 w)(z:ji w0):ji w:=⟨z.1.sublist (h.1.trans ((T' _ _).map gv)),h.2⟩
def B6(v:Int)(w:ai)(n:Int):Prop:=∀(q:Nat)(r:List DC),(q:Int)<v→w[q]?=some r→gv r<n
theorem ltV_0{w:ai}{n:Int}:B6 0 w n:=fun q _ h=>by omega
theorem B6.step{v n:Int}{w:ai}{r:List DC}(h:B6 v w n)(h0:0≤v)(z:w[v.toNat]?=some r)(A:gv r<n):B6 (v+1) w n:=fun q r' I e=>by
 by_cases G:(q:Int)<v
 ·exact h q r' G e
 have:q=v.toNat:=by omega
 subst this;rw[z] at e;cases e;exact A
def gV(w:ai)(n:Int):Prop:=ji w∧∀r,r∈w→gv r<n
theorem gV.mk{u v n m:Int}{w0 w:ai}(h:fG v w0 w)(z:ji w0)(A:B6 u w0 n)(M:(w0.length:Int)≤u)(O:n≤m):gV w m:=⟨h.fin z,fun r G=>by
 have:gv r∈w0.map gv:=(T' _ _).map gv|>.subset (h.1.subset (agC G));obtain⟨r0,h0,e⟩:=List.mem_map.1 this;obtain⟨q,I,L⟩:=List.mem_iff_getElem.1 h0;have:=A q r0 al (by rw[dm I,L])
 omega⟩
theorem gV.step{n m f g:Int}{w:ai}{r:List DC}(h:gV w n)(Y:gv r=n)(G:r[4]?=some (.i .i64 f))(A:0≤f∧f≤1000)(I:r[5]?=some (.i .i64 g))(L:g≤1099511627776)(Z:m=n+1):gV (w++[r]) m:=by
 refine⟨⟨?_,fun q z=>?_⟩,fun q z=>?_⟩
 ·rw[oO,jv,D7];refine List.nodup_append.2 ⟨h.1.1,by simp,fun a M b O e=>?_⟩;obtain⟨x,U,rfl⟩:=List.mem_map.1 M;have:=h.2 x U;have:=List.mem_singleton.1 O;omega
 ·rcases List.mem_append.1 z with z|z
  ·exact h.1.2 q z
  rcases List.mem_singleton.1 z with rfl
  exact⟨f,g,G,I,A.1,A.2,L⟩
 rcases List.mem_append.1 z with z|z
 ·have:=h.2 q z;omega
 rcases List.mem_singleton.1 z with rfl;omega
theorem gV.fin{n:Int}{w:ai}(h:gV w n):ji w:=h.1
end Go.Ev
namespace Go.Ev.Rp
open Go Go.Ev.Pp
structure FT(T:aM):Prop where
 q3:T.ft.get 3=some i3
 q5:T.ft.get 5=some i5
 q6:T.ft.get 6=some i6
 q8:T.ft.get 8=some i8
 q9:T.ft.get 9=some i9
 q10:T.ft.get 10=some i10
 q11:T.ft.get 11=some i11
 q12:T.ft.get 12=some i12
 q13:T.ft.get 13=some i13
 q14:T.ft.get 14=some i14
 q15:T.ft.get 15=some i15
 q16:T.ft.get 16=some i16
 q17:T.ft.get 17=some i17
 q18:T.ft.get 18=some i18
 q19:T.ft.get 19=some i19
 q20:T.ft.get 20=some i20
 q21:T.ft.get 21=some i21
 q22:T.ft.get 22=some i22
 q23:T.ft.get 23=some i23
 q24:T.ft.get 24=some i24
 q25:T.ft.get 25=some i25
 q26:T.ft.get 26=some i26
 q27:T.ft.get 27=some i27
 q28:T.ft.get 28=some i28
 q29:T.ft.get 29=some i29
 q30:T.ft.get 30=some i30
 q31:T.ft.get 31=some i31
 q32:T.ft.get 32=some i32
 q33:T.ft.get 33=some i33
 q34:T.ft.get 34=some i34
 q35:T.ft.get 35=some i35
 q36:T.ft.get 36=some i36
 q37:T.ft.get 37=some i37
 q38:T.ft.get 38=some i38
 q39:T.ft.get 39=some i39
 q40:T.ft.get 40=some i40
 q41:T.ft.get 41=some i41
 q42:T.ft.get 42=some i42
 q43:T.ft.get 43=some i43
 q46:T.ft.get 46=some i46
 q47:T.ft.get 47=some i47
 q48:T.ft.get 48=some i48
 q49:T.ft.get 49=some i49
 q50:T.ft.get 50=some i50
 q51:T.ft.get 51=some i51
 q52:T.ft.get 52=some i52
 q53:T.ft.get 53=some i53
 q54:T.ft.get 54=some i54
 q55:T.ft.get 55=some i55
 XV:T.ft.get 56=some i56
 q57:T.ft.get 57=some i57
 q58:T.ft.get 58=some i58
 q59:T.ft.get 59=some i59
 q60:T.ft.get 60=some i60
 q61:T.ft.get 61=some i61
 q62:T.ft.get 62=some i62
 q63:T.ft.get 63=some i63
 q64:T.ft.get 64=some i64
 q65:T.ft.get 65=some i65
 q66:T.ft.get 66=some i66
 q67:T.ft.get 67=some i67
 q68:T.ft.get 68=some i68
 q69:T.ft.get 69=some i69
 q70:T.ft.get 70=some i70
 q71:T.ft.get 71=some i71
 q72:T.ft.get 72=some i72
 q73:T.ft.get 73=some i73
 q74:T.ft.get 74=some i74
 q76:T.ft.get 76=some i76
 q77:T.ft.get 77=some i77
 q78:T.ft.get 78=some i78
 q79:T.ft.get 79=some i79
 q80:T.ft.get 80=some i80
 q81:T.ft.get 81=some i81
 q82:T.ft.get 82=some i82
 q83:T.ft.get 83=some i83
 q84:T.ft.get 84=some i84
 q85:T.ft.get 85=some i85
 q86:T.ft.get 86=some i86
 q87:T.ft.get 87=some i87
 q88:T.ft.get 88=some i88
 q89:T.ft.get 89=some i89
 q90:T.ft.get 90=some i90
 q91:T.ft.get 91=some i91
 q92:T.ft.get 92=some i92
 q93:T.ft.get 93=some i93
 q94:T.ft.get 94=some i94
 q95:T.ft.get 95=some i95
 q96:T.ft.get 96=some i96
 q97:T.ft.get 97=some i97
 q98:T.ft.get 98=some i98
 q99:T.ft.get 99=some i99
 q100:T.ft.get 100=some i100
 ajw:T.ft.get 101=some i101
 q102:T.ft.get 102=some i102
 q103:T.ft.get 103=some i103
 q104:T.ft.get 104=some i104
 q105:T.ft.get 105=some i105
 q106:T.ft.get 106=some i106
 q107:T.ft.get 107=some i107
 q108:T.ft.get 108=some i108
 q109:T.ft.get 109=some i109
 q110:T.ft.get 110=some i110
 q111:T.ft.get 111=some i111
 q112:T.ft.get 112=some i112
 ajx:T.ft.get 113=some i113
 q114:T.ft.get 114=some i114
 q115:T.ft.get 115=some i115
 q116:T.ft.get 116=some i116
 q118:T.ft.get 118=some i118
 q119:T.ft.get 119=some i119
 q121:T.ft.get 121=some i121
 q122:T.ft.get 122=some i122
 q123:T.ft.get 123=some i123
 q124:T.ft.get 124=some i124
 q125:T.ft.get 125=some i125
 q126:T.ft.get 126=some i126
 q131:T.ft.get 131=some i131
 q134:T.ft.get 134=some i134
 ajy:T.ft.get 135=some i135
 ajz:T.ft.get 136=some i136
 q137:T.ft.get 137=some i137
 q138:T.ft.get 138=some i138
 q139:T.ft.get 139=some i139
 q140:T.ft.get 140=some i140
 q141:T.ft.get 141=some i141
 q142:T.ft.get 142=some i142
 q143:T.ft.get 143=some i143
 q144:T.ft.get 144=some i144
 q145:T.ft.get 145=some i145
 q146:T.ft.get 146=some i146
 q147:T.ft.get 147=some i147
 ajA:T.ft.get 148=some i148
 q149:T.ft.get 149=some i149
 ajB:T.ft.get 150=some i150
 q151:T.ft.get 151=some i151
 q152:T.ft.get 152=some aju
 q153:T.ft.get 153=some i153
 q154:T.ft.get 154=some i154
 q163:T.ft.get 163=some i163
 ajC:T.ft.get 167=some i167
 q168:T.ft.get 168=some i168
 q169:T.ft.get 169=some i169
 q170:T.ft.get 170=some i170
 q171:T.ft.get 171=some i171
 q172:T.ft.get 172=some i172
 q173:T.ft.get 173=some i173
 q174:T.ft.get 174=some i174
 q175:T.ft.get 175=some i175
 q176:T.ft.get 176=some i176
 q177:T.ft.get 177=some i177
 q178:T.ft.get 178=some i178
 q179:T.ft.get 179=some i179
 q180:T.ft.get 180=some i180
 q181:T.ft.get 181=some i181
 ajD:T.ft.get 182=some i182
 q183:T.ft.get 183=some i183
 q184:T.ft.get 184=some i184
 q186:T.ft.get 186=some i186
 q190:T.ft.get 190=some i190
 q196:T.ft.get 196=some i196
 q197:T.ft.get 197=some i197
 q198:T.ft.get 198=some i198
 q199:T.ft.get 199=some i199
 q200:T.ft.get 200=some i200
 q201:T.ft.get 201=some i201
 q202:T.ft.get 202=some i202
 q203:T.ft.get 203=some i203
 q204:T.ft.get 204=some i204
 ajE:T.ft.get 205=some i205
 q206:T.ft.get 206=some i206
 q221:T.ft.get 221=some i221
 q222:T.ft.get 222=some i222
 q223:T.ft.get 223=some i223
 q224:T.ft.get 224=some i224
 q225:T.ft.get 225=some i225
 q226:T.ft.get 226=some i226
 q227:T.ft.get 227=some i227
 ajF:T.ft.get 228=some i228
 q229:T.ft.get 229=some i229
 q230:T.ft.get 230=some i230
 ajG:T.ft.get 231=some i231
 q232:T.ft.get 232=some i232
 q233:T.ft.get 233=some i233
 q234:T.ft.get 234=some i234
 ajH:T.ft.get 235=some i235
 q236:T.ft.get 236=some i236
 q241:T.ft.get 241=some i241
 q242:T.ft.get 242=some i242
 q243:T.ft.get 243=some i243
 q259:T.ft.get 259=some i259
 q260:T.ft.get 260=some i260
 q262:T.ft.get 262=some i262
 q263:T.ft.get 263=some i263
 q264:T.ft.get 264=some i264
 q265:T.ft.get 265=some i265
 q266:T.ft.get 266=some i266
 q267:T.ft.get 267=some i267
 q268:T.ft.get 268=some i268
 q270:T.ft.get 270=some i270
 q271:T.ft.get 271=some i271
 q284:T.ft.get 284=some i284
 q285:T.ft.get 285=some i285
def bn:List Ty:=[tJ]
def cu:List Ty:=[tJ,tJ,.s 1000]
def lE:List Ty:=[.i .i64 1 12,.s 1000,tJ]
def dV:List Ty:=[tJ,tJ,.l 13 lE]
def ep:List Ty:=[.e (DC.sl [[DC.i .i64 1]]),.s 1000,.e (DC.sl [[DC.i .i64 1]])]
def dT:List Ty:=[tJ,.l 200 bn]
def gb:List Ty:=[tJ,.l 1000000000 cu,tJ,tJ,tJ,tJ]
def iP:List Ty:=[.i .i64 1 4,tJ,tJ]
def kH:List Ty:=[tJ,tJ,tJ]
def ey:List Ty:=[.i .i64 0 100,.i .i64 0 100,.i .i64 0 100,.i .i64 0 100,tJ,tJ,.s 1000]
def VY:List Ty:=[.s 10]
def jS:List Ty:=[.l 1000000000 cu,tJ,tJ,.l 200 bn]
def qD:List Ty:=[.l 1000000000 cu,.l 0 bn]
def ez:List Ty:=[tJ,tJ]
def yE:List Ty:=[.l 1000000000 cu,.x,.l 0 bn]
def mU:List Ty:=[tJ,tJ,.l 1000000000 bn]
def ajI(n:Nat)(d:DC):Prop:=∃w,au w d∧w.length≤n∧af gb w∧ji w
def fq(nv mv:Nat):List Ty:=[.s 1000,.l nv dV,.l 200 bn,.l 4 ep,.l 4 dT,.q (ajI mv)]
def rW(nv mv:Nat):List Ty:=[.s 1000,.l nv dV,.l 200 bn,.l 4 ep,.l 4 dT,.l mv gb]
theorem Rk{a b:Nat}{w:ai}(h:af (fq a b) w):af (rW a b) w:=fun r z=>by
 obtain⟨x0,_,rfl,A,x1,_,rfl,G,x2,_,rfl,I,x3,_,rfl,L,x4,_,rfl,M,x5,_,rfl,⟨Y,O,U,f3,_⟩,rfl⟩:=h r z;exact ah A (ah G (ah I (ah L (ah M (ah (aL O U f3) bl)))))
def Mz:List Ty:=[tJ,.s 1000,.l 1000000000 cu,tJ,tJ,.l 100 ey,tJ,.l 10 ez,.s 1000,.l 100 dV,.l 200 bn,.l 4 ep,.l 4 dT,tJ,.s 1000,tJ]
def Pf:List Ty:=[.i .u16 0 65535,.i .u16 0 65535,.i .u16 0 65535,.i .u16 0 65535,.i .u16 0 65535,.i .u16 0 65535,.i .u16 0 65535,.i .u16 0 65535,.i .u16 0 65535]
def Uw:List Ty:=[tJ,.s 1000,tJ]
def HH:List Ty:=[.l 1000000000 cu,.l 1000000000 bn]
def yF:List Ty:=[.s 1000,.l 200 bn]
def jN:List Ty:=[tJ,tJ,tJ,tJ,.s 1000,.l 4096 HH]
theorem Dw:af [.i .i64 1 1] [[.i .i64 1]]:=dG (ah ak bl)
theorem tp:af bn [[.i .i64 1]]:=dG (ah ak bl)
end Go.Ev.Rp
namespace Go.Ev.Rp
open Go Go.Ev.Pp
def dR(X:List Int)(m:Nat):List Ty:=[.l m cu,.q (e7 X)]
def MA(X:List Int):List Ty:=[.q (InX X),.l 1000000000 cu,.i .i64 (-9223372036854775808) 9223372036854775807,.i .i64 (-9223372036854775808) 9223372036854775807,.i .i64 (-9223372036854775808) 9223372036854775807,.i .i64 (-9223372036854775808) 9223372036854775807]
def Ux(X:List Int):List Ty:=[.q (InX X),.l 13 cu,.i .i64 (-9223372036854775808) 9223372036854775807,.i .i64 (-9223372036854775808) 9223372036854775807,.i .i64 (-9223372036854775808) 9223372036854775807,.i .i64 (-9223372036854775808) 9223372036854775807]
def MB(X:List Int):List Ty:=[.l 13 cu,.i .i64 (-9223372036854775808) 9223372036854775807,.i .i64 (-9223372036854775808) 9223372036854775807,.q (e7 X)]
def Uy(X:List Int):List Ty:=[.s 1000,.l 200 bn,.l 100000 (Ux X)]
def MC(X:List Int):List Ty:=[.s 1000,.l 200 bn,.l 100000 (MB X)]
def HI(X:List Int):List Ty:=[.s 1000,.l 200 bn,.l 100000 (dR X 13)]
theorem rowP_of{X:List Int}{m:Nat}{w:ai}(h:af (dR X m) w):af [.q (Ty.l m cu).ok,.q (e7 X)] w:=fun r z=>by
 obtain⟨d,q,rfl,A,h2⟩:=dw (h r z);exact ah (bC A) h2
theorem rowW_of{X:List Int}{m:Nat}{w:ai}(h:af [.q (Ty.l m cu).ok,.q (e7 X)] w):af (dR X m) w:=fun r z=>by
 obtain⟨d,q,rfl,A,h2⟩:=dw (h r z);exact ah (Ty.bC A) h2
def xT(X:List Int)(m:Nat):List Ty:=[.l m cu,.q (qV),.q (e7 X)]
def Uz:List Ty:=[.l 64 bn]
def yG:List Ty:=[.i .i64 (-9223372036854775808) 9223372036854775807,.i .i64 (-9223372036854775808) 9223372036854775807]
def j':List Ty:=[.i .i64 (-9223372036854775808) 9223372036854775807,.i .i64 (-9223372036854775808) 9223372036854775807,.i .i64 (-9223372036854775808) 9223372036854775807,.i .i64 (-9223372036854775808) 9223372036854775807,.s 1000,.l 64 bn,.l 64 yG]
theorem uJ{X:List Int}{a b:Nat}{w:ai}(h:af (dR X a) w)(z:a≤b):af (dR X b) w:=fun r A=>by
 obtain⟨d,q,rfl,G,h2⟩:=dw (h r A);obtain⟨rows,I,L,M⟩:=Ty.aL G;exact ah (aL I (eO L z) M) h2
theorem rowD_mono{X:List Int}{a b n:Nat}{w:ai}(h:af [.l n (dR X a)] w)(z:a≤b):af [.l n (dR X b)] w:=fun r A=>by
 obtain⟨d,q,rfl,G,h2⟩:=dw (h r A);obtain⟨rows,I,L,M⟩:=Ty.aL G;exact ah (aL I L (uJ M z)) h2
def AP(X:List Int):List Ty:=[.s 1000,.l 100 dV,.l 200 bn,.l 4 ep,.l 4 dT,.l 100000 (MA X)]
def xU:List Ty:=[.i .i64 0 12,.i .i64 0 30,.i .i64 0 30,.s 1000,.s 1000,.i .i64 (-9223372036854775808) 9223372036854775807,.i .i64 (-9223372036854775808) 9223372036854775807,.s 1000]
def oG:List Ty:=[.s 1000]
def xV:List Ty:=[.b,.s 1000,.s 1000,.i .i64 (-1) 30]
def Sm(ne:Nat):List Ty:=[.b,.q (Bo xU ne),.q (AO ne),.q (LstQ xV 1 2),.i .i64 (-1) 30,.b,.l 4 [.i .i64 0 ((ne:Int) -1)]]
def agS(T:aM)(c o:DC):Prop:=∃w wo:ai,au w c∧1≤w.length∧w.length≤2∧xS Sm w∧au wo o∧wo.length≤2∧w.length≤wo.length+1∧af bn wo∧Sound T 166 [.agg [.d c,.d o]] fun r=>∃s:List UInt8,r=dS s
def xu(T:aM)(A:List UInt8):Prop:=A.length≤1000∧Sound T 120 [dS A] fun r=>∃(c o:DC)(z e:Int),r= .tuple [.agg [.d c,.d o],dI z,dI e]∧(-9223372036854775808≤z∧z≤9223372036854775807)∧(-9223372036854775808≤e∧e≤9223372036854775807)∧(e=0→agS T c o)
theorem rowW_x{X:List Int}{m:Nat}{w:ai}(h:af (dR X m) w)(G:m≤1000000000)(I:X.length≤1000000000):af HH w:=fun r L=>by
 obtain⟨d,q,rfl,M,h2⟩:=dw (h r L);obtain⟨d2,q2,rfl,O,U⟩:=dw h2;obtain rfl:=pv U;obtain⟨rows,Y,Z,k3⟩:=Ty.aL M;obtain⟨z,j1,A⟩:=Ty.bC O;exact ah (aL Y (eO Z G) k3) (ah (aL j1 (eO A.len I) A.1) bl)
def IP(T:aM)(d:DC):Prop:=∃z:List UInt8,d=aq z∧xu T z
theorem tabX_of{nv mv:Nat}{w:ai}(h:af (fq nv mv) w)(h1:nv≤100)(h2:mv≤100000)(h3:w.length≤16):∃X:List Int,X.length≤2000000∧af (AP X) w:=by
 have main:∀w:ai,af (fq nv mv) w→∃X:List Int,X.length≤100000*w.length∧af (AP X) w:=by
  intro w
  induction w with
  |nil=>exact fun _=>⟨[],hZ _,cb⟩
  |cons r rs ih=>
   intro h;obtain⟨X,hl,hx⟩:=ih fun q G=>h q (pG _ G)
   have A:=h r (jw ..);obtain⟨d0,_,rfl,M,A⟩:=dw A;obtain⟨d1,_,rfl,O,A⟩:=dw A;obtain⟨d2,_,rfl,U,A⟩:=dw A;obtain⟨d3,_,rfl,k3,A⟩:=dw A;obtain⟨d4,_,rfl,k4,A⟩:=dw A;obtain⟨d5,_,rfl,k5,A⟩:=dw A;obtain rfl:=pv A;obtain⟨v1,a1,b1,c1⟩:=Ty.aL O;obtain⟨v5,a5,b5,c5,_⟩:=Ty.bC k5;have key:∀(Y:List Int)(v:ai),af gb v→(∀z,z∈v.map gv→z∈Y)→af (MA Y) v:=fun Y v hv hy q G=>by
    obtain⟨e0,_,rfl,m0,I⟩:=dw (hv q G);obtain⟨z,rfl,z1,z2⟩:=Ty.dY m0;exact ah (bC ⟨z,aa,⟨z1,z2⟩,hy z (List.mem_map.2 ⟨_,G,aa⟩)⟩) I
   have sub:∀{Y Z:List Int}{v:ai},(∀z,z∈Y→z∈Z)→af (MA Y) v→af (MA Z) v:=fun hYZ hv q G=>by
    obtain⟨e0,_,rfl,m0,I⟩:=dw (hv q G);obtain⟨z,rfl,z1,z2⟩:=Ty.bC m0;exact ah (bC ⟨z,aa,z1,hYZ _ z2⟩) I
   refine⟨v5.map gv++X,by simp only[eT,pH,gF];omega,fun q G=>?_⟩;rcases List.mem_cons.1 G with rfl|G
   ·exact ah M (ah (aL a1 (eO b1 h1) c1) (ah U (ah k3 (ah k4 (ah (aL a5 (eO b5 h2) (sub (fun z L=>List.mem_append.2 (.inl L)) (key _ _ c5 fun z L=>L))) bl)))))
   have A:=hx q G;obtain⟨d0,_,rfl,M,A⟩:=dw A;obtain⟨d1,_,rfl,O,A⟩:=dw A;obtain⟨d2,_,rfl,U,A⟩:=dw A;obtain⟨d3,_,rfl,k3,A⟩:=dw A;obtain⟨d4,_,rfl,k4,A⟩:=dw A;obtain⟨d5,_,rfl,k5,A⟩:=dw A;obtain rfl:=pv A;obtain⟨v5,a5,b5,c5⟩:=Ty.aL k5;exact ah M (ah O (ah U (ah k3 (ah k4 (ah (aL a5 b5 (sub (fun z L=>List.mem_append.2 (.inr L)) c5)) bl)))))
 obtain⟨X,h4,h5⟩:=main w h;exact⟨X,al,h5⟩
def XW(n s t u:List UInt8):List (List UInt8):=[([83,69,76,69,67,84,32,42,32,70,82,79,77,32]++t),((((([83,69,76,69,67,84,32,97,32,44,32,98,32,70,82,79,77,32]++t)++[32,87,72,69,82,69,32,97,32,61,32])++n)++[32,79,82,32,98,32,60,32])++s),((([83,69,76,69,67,84,32,98,32,70,82,79,77,32]++t)++[32,87,72,69,82,69,32,78,79,84,32,97,32,60,32])++n),([83,69,76,69,67,84,32,67,79,85,78,84,32,40,32,42,32,41,32,70,82,79,77,32]++t),(([83,69,76,69,67,84,32,98,32,44,32,83,85,77,32,40,32,97,32,41,32,65,83,32,116,111,116,97,108,32,70,82,79,77,32]++t)++[32,71,82,79,85,80,32,66,89,32,98]),((([83,69,76,69,67,84,32,77,73,78,32,40,32,97,32,41,32,44,32,77,65,88,32,40,32,98,32,41,32,70,82,79,77,32]++t)++[32,87,72,69,82,69,32,97,32,62,32])++n),[83,69,76,69,67,84,32,116,32,46,32,97,32,44,32,117,32,46,32,98,32,70,82,79,77,32,116,32,74,79,73,78,32,117,32,79,78,32,116,32,46,32,97,32,61,32,117,32,46,32,97],(((([83,69,76,69,67,84,32,120,32,46,32,98,32,44,32,121,32,46,32,98,32,70,82,79,77,32]++t)++[32,65,83,32,120,32,76,69,70,84,32,74,79,73,78,32])++u)++[32,65,83,32,121,32,79,78,32,120,32,46,32,97,32,61,32,121,32,46,32,97,32,65,78,68,32,120,32,46,32,98,32,61,32,121,32,46,32,98]),((([83,69,76,69,67,84,32,97,32,70,82,79,77,32]++t)++[32,69,88,67,69,80,84,32,65,76,76,32,83,69,76,69,67,84,32,97,32,70,82,79,77,32])++u),((([83,69,76,69,67,84,32,97,32,70,82,79,77,32]++t)++[32,73,78,84,69,82,83,69,67,84,32,65,76,76,32,83,69,76,69,67,84,32,97,32,70,82,79,77,32])++u),((([83,69,76,69,67,84,32,97,32,44,32,98,32,70,82,79,77,32]++t)++[32,85,78,73,79,78,32,65,76,76,32,83,69,76,69,67,84,32,97,32,44,32,98,32,70,82,79,77,32])++u),([83,69,76,69,67,84,32,68,73,83,84,73,78,67,84,32,98,32,70,82,79,77,32]++t),([83,69,76,69,67,84,32,97,32,43,32,49,32,44,32,99,32,70,82,79,77,32]++t),(([83,69,76,69,67,84,32,97,32,70,82,79,77,32]++t)++[32,87,72,69,82,69,32,98,32,73,83,32,78,85,76,76]),((((([83,69,76,69,67,84,32,68,73,83,84,73,78,67,84,32,97,32,70,82,79,77,32]++t)++[32,87,72,69,82,69,32,97,32,42,32,50,32,60,32,49,32,85,78,73,79,78,32,65,76,76,32,83,69,76,69,67,84,32,97,32,45,32])++n)++[32,70,82,79,77,32])++u)]
def zh(T:aM):Prop:=xu T []∧∀n s t u:List UInt8,(n=[48]∨n=[49]∨n=[45,32,49]∨n=[78,85,76,76])→(s=[39,39]∨s=[39,97,39]∨s=[39,98,39,39,39])→(t=[116]∨t=[117])→(u=[117]∨u=[116])→∀(k:Nat)(z:List UInt8),(XW n s t u)[k]?=some z→xu T z
def MD(T:aM):List Ty:=[.i .i64 1 5,.i .i64 (-9223372036854775808) 9223372036854775807,.l 2 [.i .i64 (-9223372036854775808) 9223372036854775807,.s 1000,.l 1000000000 cu,.i .i64 (-9223372036854775808) 9223372036854775807,.i .i64 (-9223372036854775808) 9223372036854775807,.l 100 ey,.i .i64 (-9223372036854775808) 9223372036854775807,.l 10 yG,.s 1000,.l 100 dV,.l 200 bn,.l 4 ep,.l 4 dT,.i .i64 (-9223372036854775808) 9223372036854775807,.s 1000,.i .i64 (-9223372036854775808) 9223372036854775807],.i .i64 (-9223372036854775808) 9223372036854775807,.i .i64 (-9223372036854775808) 9223372036854775807,.i .i64 (-9223372036854775808) 9223372036854775807,.q (IP T),.i .i64 0 4,.i .i64 (-9223372036854775808) 9223372036854775807,.i .i64 (-9223372036854775808) 9223372036854775807]
abbrev tTL(nv:Nat):Ty:=.q (pN (fq nv 4096) 0 16)
theorem aeo{α:Type}{w v:List α}{P:α→Prop}(h:∀r,w[0]?=some r→P r)(A:1≤(w.length:Int)):∀r,(w++v)[0]?=some r→P r:=fun r z=>h r (by rwa [sg al] at z)
end Go.Ev.Rp
