/- Part 19 of rules for walks through the code of a program, and of such walks; what each part proves is said by its theorems. -/
import Derived.Test.YtmpoloiempjdpaaGreatR18
set_option linter.unusedVariables false
set_option linter.unusedSimpArgs false
noncomputable section
set_option maxRecDepth 100000
set_option maxHeartbeats 4000000
namespace Go.Ev
open Go
def aq(bs:List UInt8):DC:=.s bs.length (pack bs)
section
variable{T:aM}{H0:Nat→Nat}{X0:Nat→Prop}{VE bh:bb}{B B':aK}{E:Env}{H H':ax}{β:Nat→Nat}{X:Nat→Prop}
variable{W:List Nat}{Q:VV→aK→Prop}
theorem Rel.strA(z:Rel H0 X0 VE B E H β){x:aG}{l v:Nat}(A:x.vv VE=some (.d (.s l v))):x.ev E=some (.str l v):=by
 obtain⟨_,G,h2⟩:=z.bI A;simp only[aE,bF] at h2;rw[G,h2]
theorem Rel.str(z:Rel H0 X0 VE B E H β){x:aG}{bs:List UInt8}(A:x.vv VE=some (.d (aq bs))):x.ev E=some (.str bs.length (pack bs)):=z.strA A
theorem Rel.t3(z:Rel H0 X0 VE B E H β){x:aG}{k:IntKind}{n:Int}(A:x.vv VE=some (.d (.i k n))):x.ev E=some (.int k n):=by
 obtain⟨_,G,h2⟩:=z.bI A;simp only[aE,bF] at h2;rw[G,h2]
theorem Qp{x i:aG}{bs:List UInt8}{k:IntKind}{j:Nat}{c:UInt8}(I:x.vv VE=some (.d (aq bs)))(hi:i.vv VE=some (.d (.i k (j:Int))))(L:bs[j]?=some c)(M:Q (.d (.i .u8 (c.toNat:Nat))) B):VI T (.CP x i) VE B [] Q:=fun _ _ _ _ _ A=>by
 have O:=A.str I;have h2:=A.t3 hi;obtain⟨z,U⟩:=List.getElem?_eq_some_iff.1 L;refine eX (v:=.int .u8 (.ofNat c.toNat)) (fun call=>?_) (dA A (v:=.d (.i .u8 (c.toNat:Nat))) (by simp only[aE,bF];rfl) M);show bt x _ (.err 14) (fun v=>lB v (.err 14) fun l s=>bt i _ (.err 14) fun G=>Ev.idx G l (.err 14) fun j=>cm (Ac s j) fun b=>.ok (.int .u8 (.ofNat b)) _)=_;rw[cY,O,cI];show bt i _ (.err 14) (fun G=>Ev.idx G bs.length (.err 14) fun j=>cm (Ac (pack bs) j) fun b=>.ok (.int .u8 (.ofNat b)) _)=_;rw[cY,h2,cI];show aI (Nat.ble (Nat.succ j) bs.length) (cm (Ac (pack bs) j) fun b=>aC.ok (.int .u8 (.ofNat b)) _) (aC.err 14)=_;rw[show Nat.ble (Nat.succ j) bs.length=true from gn z,dX,fy,Y' bs j z,U]
def yB(VE:bb):Option aG→Nat→Nat→Prop
 |none,d,n=>n=d
 |some x,_,n=>∃k,x.vv VE=some (.d (.i k (n:Int)))
theorem K0(A:Rel H0 X0 VE B E H β){x:Option aG}{d n y:Nat}(z:yB VE x d n)(G:n≤y)(I:d≤y){e:aC}{k:Nat→aC}:en E x d y e k=k n:=by
 cases x with
 |none=>simp only[yB] at z;subst z;rfl
 |some x=>
  obtain⟨L,z⟩:=z;have h2:=A.t3 z;show ob (x.ev E) e (fun v=>fA v e fun _ i=>iN i e fun n=>aI (Nat.ble n y) (k n) e)=_;rw[h2,cI];show aI (Nat.ble n y) (k n) e=_;rw[gn G,dX]
theorem fe{x y:aG}{a b:List UInt8}(A:x.vv VE=some (.d (aq a)))(G:y.vv VE=some (.d (aq b)))(I:a.length+b.length≤4611686018427387904)(L:Q (.d (aq (a++b))) B):VI T (.bin .add x y) VE B [] Q:=fun _ _ _ _ _ z=>
 zR (z.str A) (z.str G) (v:=.str (a.length+b.length) (Gk a.length (pack a) (pack b))) (by
  show aI (Nat.ble (Nat.add a.length b.length) 4611686018427387904) (some (aj.str (Nat.add a.length b.length) (Gk a.length (pack a) (pack b)))) none=_
  rw[show Nat.ble (Nat.add a.length b.length) 4611686018427387904=true from gn I];rfl)
  (dA z (v:=.d (aq (a++b))) (by simp only[aE,aq,bF,eT,Za]) L)
theorem pb{x y:aG}{a b:List UInt8}(A:x.vv VE=some (.d (aq a)))(G:y.vv VE=some (.d (aq b)))(I:Q (.d (.b (decide (a=b)))) B):VI T (.bin .eql x y) VE B [] Q:=fun _ _ _ _ _ z=>
 zR (z.str A) (z.str G) (v:=.bool (AJ a.length (pack a) b.length (pack b))) rfl (dA z (v:=.d (.b (decide (a=b)))) (by simp only[aE,bF,Ki]) I)
theorem kE{x y:aG}{a b:List UInt8}(A:x.vv VE=some (.d (aq a)))(G:y.vv VE=some (.d (aq b)))(I:Q (.d (.b (!decide (a=b)))) B):VI T (.bin .neq x y) VE B [] Q:=fun _ _ _ _ _ z=>
 zR (z.str A) (z.str G) (v:=.bool (!AJ a.length (pack a) b.length (pack b))) rfl (dA z (v:=.d (.b (!decide (a=b)))) (by simp only[aE,bF,Ki]) I)
theorem vi_lenStr{x:aG}{bs:List UInt8}(A:x.vv VE=some (.d (aq bs)))(G:Q (.d (.i .i64 (bs.length:Nat))) B):VI T (.tX x) VE B [] Q:=fun _ _ _ _ _ z=>
 aaT (z.str A) (dA z (v:=.d (.i .i64 (bs.length:Nat))) (by simp only[aE,bF]) G)
theorem CX{op:BinOp}{x y:aG}{k:IntKind}{a b:Int}{r:Bool}(A:x.vv VE=some (.d (.i k a)))(G:y.vv VE=some (.d (.i k b)))(h:gl op k a k b=some (.bool r))(I:Q (.d (.b r)) B):VI T (.bin op x y) VE B [] Q:=fun _ _ _ _ _ z=>
 zR (z.t3 A) (z.t3 G) (v:=.bool r) h (dA z (v:=.d (.b r)) (by simp only[aE,bF]) I)
theorem aeg{x y:aG}{k:IntKind}{a b:Int}(z:x.vv VE=some (.d (.i k a)))(A:y.vv VE=some (.d (.i k b)))(G:Q (.d (.b (decide (a<b)))) B):VI T (.bin .lss x y) VE B [] Q:=CX z A (by rw[←ou];cases k<;>rfl) G
theorem aeh{x y:aG}{k:IntKind}{a b:Int}(z:x.vv VE=some (.d (.i k a)))(A:y.vv VE=some (.d (.i k b)))(G:Q (.d (.b (decide (b<a)))) B):VI T (.bin .gtr x y) VE B [] Q:=CX z A (by rw[←ou];cases k<;>rfl) G
theorem aan(a b:Int):(!decide (a<b))=decide (b≤a):=by
 by_cases h:a<b
 ·simp[h,Int.not_le.2 h]
 simp[h,Int.not_lt.1 h]
theorem vi_leK{x y:aG}{k:IntKind}{a b:Int}(z:x.vv VE=some (.d (.i k a)))(A:y.vv VE=some (.d (.i k b)))(G:Q (.d (.b (decide (a≤b)))) B):VI T (.bin .leq x y) VE B [] Q:=CX z A (r:=!decide (b<a)) (by rw[←ou];cases k<;>rfl) (by rw[aan];exact G)
theorem vi_geK{x y:aG}{k:IntKind}{a b:Int}(z:x.vv VE=some (.d (.i k a)))(A:y.vv VE=some (.d (.i k b)))(G:Q (.d (.b (decide (b≤a)))) B):VI T (.bin .geq x y) VE B [] Q:=CX z A (r:=!decide (a<b)) (by rw[←ou];cases k<;>rfl) (by rw[aan];exact G)
theorem vi_eqK{x y:aG}{k:IntKind}{a b:Int}(z:x.vv VE=some (.d (.i k a)))(A:y.vv VE=some (.d (.i k b)))(G:Q (.d (.b (decide (a=b)))) B):VI T (.bin .eql x y) VE B [] Q:=CX z A (by rw[←tm];cases k<;>rfl) G
theorem vi_neK{x y:aG}{k:IntKind}{a b:Int}(z:x.vv VE=some (.d (.i k a)))(A:y.vv VE=some (.d (.i k b)))(G:Q (.d (.b (!decide (a=b)))) B):VI T (.bin .neq x y) VE B [] Q:=CX z A (by rw[←tm];cases k<;>rfl) G
theorem zN{op:BinOp}{x y:aG}{k:IntKind}{a b r:Int}(A:x.vv VE=some (.d (.i k a)))(G:y.vv VE=some (.d (.i k b)))(h:gl op k a k b=some (.int k r))(I:Q (.d (.i k r)) B):VI T (.bin op x y) VE B [] Q:=fun _ _ _ _ _ z=>
 zR (z.t3 A) (z.t3 G) (v:=.int k r) h (dA z (v:=.d (.i k r)) (by simp only[aE,bF]) I)
theorem abZ{x y:aG}{k:IntKind}{a b:Int}(z:x.vv VE=some (.d (.i k a)))(A:y.vv VE=some (.d (.i k b)))(G:Q (.d (.i k (k.wrap (a+b)))) B):VI T (.bin .add x y) VE B [] Q:=zN z A (by rw[←og];cases k<;>rfl) G
theorem ab0{x y:aG}{k:IntKind}{a b:Int}(z:x.vv VE=some (.d (.i k a)))(A:y.vv VE=some (.d (.i k b)))(G:Q (.d (.i k (k.wrap (a-b)))) B):VI T (.bin .sub x y) VE B [] Q:=zN z A (by rw[←og];cases k<;>rfl) G
theorem vi_mulK{x y:aG}{k:IntKind}{a b:Int}(z:x.vv VE=some (.d (.i k a)))(A:y.vv VE=some (.d (.i k b)))(G:Q (.d (.i k (k.wrap (a*b)))) B):VI T (.bin .mul x y) VE B [] Q:=zN z A (by rw[←og];cases k<;>rfl) G
theorem ab1{x y:aG}{k:IntKind}{a b:Int}(z:x.vv VE=some (.d (.i k a)))(A:y.vv VE=some (.d (.i k b)))(h0:mr b 0=false)(G:Q (.d (.i k (k.wrap (a.tdiv b)))) B):VI T (.bin .quo x y) VE B [] Q:=zN z A (by
 have:gl .quo k a k b=aI (Nat.beq (cK k) (cK k)) (aI (mr b 0) none (some (.int k (lW k (a.tdiv b))))) none:=rfl
 rw[this,h0,←og,show Nat.beq (cK k) (cK k)=true from gG _];rfl) G
theorem Rg{x y:aG}{k:IntKind}{a b:Int}(z:x.vv VE=some (.d (.i k a)))(A:y.vv VE=some (.d (.i k b)))(h0:mr b 0=false)(G:Q (.d (.i k (a.tmod b))) B):VI T (.bin .rem x y) VE B [] Q:=zN z A (by
 have:gl .rem k a k b=aI (Nat.beq (cK k) (cK k)) (aI (mr b 0) none (some (.int k (a.tmod b)))) none:=rfl
 rw[this,h0,show Nat.beq (cK k) (cK k)=true from gG _];rfl) G
theorem wrap_i64{a:Int}(z: -9223372036854775808≤a)(h2:a≤9223372036854775807):IntKind.i64.wrap a=a:=wrap64 z h2
theorem dQ{x y:aG}{a b:Int}(z:x.vv VE=some (.d (.i .i64 a)))(A:y.vv VE=some (.d (.i .i64 b)))(G: -9223372036854775808≤a-b)(h2:a-b≤9223372036854775807)(I:Q (.d (.i .i64 (a-b))) B):VI T (.bin .sub x y) VE B [] Q:=
 ab0 z A (by rw[wrap_i64 G h2];exact I)
theorem bx{x y:aG}{a b:Int}(z:x.vv VE=some (.d (.i .i64 a)))(A:y.vv VE=some (.d (.i .i64 b)))(G: -9223372036854775808≤a+b)(h2:a+b≤9223372036854775807)(I:Q (.d (.i .i64 (a+b))) B):VI T (.bin .add x y) VE B [] Q:=
 abZ z A (by rw[wrap_i64 G h2];exact I)
theorem vi_subA{x:aG}{off n:Nat}{l:List VV}(A:x.vv VE=some (.agg l))(G:Nat.ble (off+n) l.length=true)(I:Q (.agg ((l.drop off).take n)) B):VI T (.sub x off n true) VE B [] Q:=fun _ _ _ _ _ z=>by
 obtain⟨_,L,h2⟩:=z.bI A;simp only[aE] at h2;obtain⟨cs,rfl,h2⟩:=h2;refine eX (v:=.agg ((cs.drop off).take n)) (fun call=>?_) (dA z (v:=.agg ((l.drop off).take n)) (by simp only[aE];exact⟨_,rfl,(h2.drop off).take n⟩) I);show bt x _ (.err 10) (fun v=>mO v (.err 10) fun cs=>aI (Nat.ble (Nat.add off n) (gI cs)) (fO true ((cs.drop off).take n) (.err 10) fun v=>.ok v _) (.err 10))=_;rw[cY,L,cI];show aI (Nat.ble (Nat.add off n) (gI cs)) (fO true ((cs.drop off).take n) (aC.err 10) fun v=>aC.ok v _) (aC.err 10)=_;rw[pe,h2.length,show Nat.ble (Nat.add off n) l.length=true from G];rfl
theorem vi_sub1{x:aG}{off:Nat}{l:List VV}{v:VV}(G:x.vv VE=some (.agg l))(I:l[off]?=some v)(L:Q v B):VI T (.sub x off 1 false) VE B [] Q:=fun _ _ _ _ _ z=>by
 obtain⟨_,M,h2⟩:=z.bI G;simp only[aE] at h2;obtain⟨cs,rfl,h2⟩:=h2;obtain⟨a,O,U⟩:=h2.get I;obtain⟨A,Y⟩:=List.getElem?_eq_some_iff.1 O;refine eX (v:=a) (fun call=>?_) (dA z U L);show bt x _ (.err 10) (fun v=>mO v (.err 10) fun cs=>aI (Nat.ble (Nat.add off 1) (gI cs)) (fO false ((cs.drop off).take 1) (.err 10) fun v=>.ok v _) (.err 10))=_;rw[cY,M,cI];show aI (Nat.ble (Nat.add off 1) (gI cs)) (fO false ((cs.drop off).take 1) (aC.err 10) fun v=>aC.ok v _) (aC.err 10)=_;rw[pe,show Nat.ble (Nat.add off 1) cs.length=true from gn A,dX,vD A,xK,Nn,Y];rfl
theorem vi_mkfn{f:Nat}{l:List aG}{eo:List VV}(A:qC VE l=some eo)(G:Q (.fn f eo) B):VI T (.yv f [] l) VE B [] Q:=fun _ _ _ _ _ z=>by
 obtain⟨vs,I,h2⟩:=Co z A;refine eX (v:=.func f [] vs) (fun call=>?_) (dA z (v:=.fn f eo) (by simp only[aE];exact⟨vs,rfl,h2⟩) G);show ob (iB _ l) (aC.err 20) (fun vs=>aC.ok (.func f [] vs) _)=_;rw[I,cI]
theorem vi_nilckV{x:aG}{b o:Nat}(G:x.vv VE=some (.vp b o))(I:Q (.vp b o) B):VI T (.rT x) VE B [] Q:=fun _ _ _ _ _ z=>by
 obtain⟨a,L,h2⟩:=z.bI G;have A:=h2;simp only[aE] at A;refine eX (v:=a) (fun call=>?_) (dA z h2 I);show bt x _ (.err 19) (fun v=>aI (Cz v) (.ok v _) (.err 19))=_;rw[cY,L,cI,A];rfl
theorem vi_nilckR{x:aG}{row:List DC}{o:Nat}(G:x.vv VE=some (.rp row o))(I:Q (.rp row o) B):VI T (.rT x) VE B [] Q:=fun _ _ _ _ _ A=>by
 obtain⟨a,L,h2⟩:=A.bI G;have z:=h2;simp only[aE] at z;obtain⟨f,g,q,l,z,_⟩:=z;refine eX (v:=a) (fun call=>?_) (dA A h2 I);show bt x _ (.err 19) (fun v=>aI (Cz v) (.ok v _) (.err 19))=_;rw[cY,L,cI,z];rfl
theorem vi_nilckB{x:aG}{b g q o es:Nat}(G:x.vv VE=some (.bp b g q o es))(I:Q (.bp b g q o es) B):VI T (.rT x) VE B [] Q:=fun _ _ _ _ _ z=>by
 obtain⟨a,L,h2⟩:=z.bI G;have A:=h2;simp only[aE] at A;refine eX (v:=a) (fun call=>?_) (dA z h2 I);show bt x _ (.err 19) (fun v=>aI (Cz v) (.ok v _) (.err 19))=_;rw[cY,L,cI,A];rfl
theorem vi_nilckF{x:aG}{f:Nat}{c:List VV}(G:x.vv VE=some (.fn f c))(I:Q (.fn f c) B):VI T (.rT x) VE B [] Q:=fun _ _ _ _ _ A=>by
 obtain⟨a,L,h2⟩:=A.bI G;have z:=h2;simp only[aE] at z;obtain⟨cs,z,_⟩:=z;refine eX (v:=a) (fun call=>?_) (dA A h2 I);show bt x _ (.err 19) (fun v=>aI (Cz v) (.ok v _) (.err 19))=_;rw[cY,L,cI,z];rfl
def Uk:VV→Option Bool
 |.k .kA=>some true
 |.jB=>some false
 |_=>none
theorem vi_ifNil{neg:Bool}{x y:aG}{v:VV}{t:Bool}(I:x.vv VE=some v)(L:y.vv VE=some (.k .kA))(z:Uk v=some t)(M:Q (.d (.b (Bool.xor neg t))) B):VI T (.eqv .iface neg x y) VE B [] Q:=fun _ _ _ _ _ A=>by
 obtain⟨a,O,h2⟩:=A.bI I;obtain⟨c,U,G⟩:=A.bI L;simp only[aE] at G;subst G;have Y:pX .iface a .kA=some t:=by
  cases v with
  |jB=>simp only[aE] at h2;obtain⟨_,_,rfl⟩:=h2;cases z;rfl
  |k x=>
   simp only[aE] at h2;subst h2
   cases a<;>simp only[Uk,reduceCtorEq,eC] at z
   subst z;rfl
  |_=>cases z
 exact KV O U Y (dA A (v:=.d (.b (Bool.xor neg t))) (by simp only[aE,bF]) M)
end
@[reducible] def dI(x:Int):VV:=.d (.i .i64 x)
@[reducible] def dS(x:List UInt8):VV:=.d (aq x)
@[reducible] def dB(x:Bool):VV:=.d (.b x)
@[reducible] def dN:VV:=.d .nil
@[reducible] def d0:VV:=.d (.i .i64 0)
@[reducible] def i0:DC:=.i .i64 0
@[reducible] def zS:List VV:=[d0,d0,d0,d0,dN,dN,dS [],dS [],dN,d0,d0,dN,d0,dN,dN,dN,dN,dN,d0,d0,d0]
variable{T:aM}{VE:bb}{B:aK}{Q:bb→aK→Prop}
theorem Ku{call:dO}{E:Env}{H H1:ax}{n:Nat}{w:Bool}{a:aG}{f g o:Nat}{v:aj}(z:a.ev E=some (.ptr f g o))(h:(bq.load n w a).ev call E H= .ok v H1):H1=H:=by
 have key:PS H ((bq.load n w a).ev call E H):=by
  rw[Rb z];exact PS.kN (fun _ _ _ _ _ _ _=>PS.aI (PS.aI (PS.aI (PS.aI (PS.ob (fun _=>PS.aI (PS.fO (fun _=>PS.ok) PS.err) (PS.fO (fun _=>PS.ok) PS.err)) PS.err) PS.err) PS.err) PS.err) PS.err) PS.err
 exact key _ _ h
theorem vq_markL{fl:List FL}{d:Key}{l:List Nat}{n:Nat}{w:Bool}{a:aG}{b o:Nat}{s:BS}{r:List bk}(ha:a.vv VE=some (.vp b o))(U:aF B b=some s)(Y:s.born)(hk:mL [] l fl=true)(h:VI T (.load n w a) VE B [] fun v B'=>VQ T r ((d.n,v)::VE) B' (.rd [b]::fl) Q):VQ T (⟨some d,none,some l,.load n w a⟩::r) VE B fl Q:=by
 intro H0 X0 E H β A bd L;obtain⟨N,v0,H',e,M,v,B',β',Z,O,hv,hq⟩:=uR h A;obtain⟨x,hx,G⟩:=A.bI ha;simp only[aE] at G;subst G;have z:H'=H.mark:=Ku hx (e N N (bf _) (bf _));have I:H.mark.ws=[]∧H.mark.next=H.next:=by cases H;exact⟨rfl,rfl⟩
 have k:sk H.next B β (.rd [b]) ⟨(bq.load n w a).reads E,H'.ws,H.next,H'.next⟩:=by
  refine⟨by rw[z];exact I.1,by show H.next=H'.next;rw[z];exact I.2.symm,[β b],?_,fun f L=>?_⟩
  ·show some (im (a.ev E))=_;rw[hx];rfl
  rcases List.mem_singleton.1 L with rfl
  exact⟨(A.new b s U Y).2,fun c t M h2 h3=>List.mem_singleton.2 (A.inj c b t s M U h2 Y h3)⟩
 obtain⟨N2,E2,H2,e2,hp⟩:=hq H0 X0 _ _ β' (O.set hv) (⟨(bq.load n w a).reads E,H'.ws,H.next,H'.next⟩::bd) ((L.cons k).step Z);refine⟨max N N2,E2,H2,fun lf n a1 a2=>?_,hp.of Z A.aR⟩;show bk.jq (T.call lf n) ⟨some d,none,some l,_⟩ E H bd (iM (T.call lf n) r)=_;rw[uG,uH (e lf n al al) (xe L M hk)];exact e2 lf n al al
theorem Rel.aei{H0:Nat→Nat}{X0:Nat→Prop}{E:Env}{H:ax}{β:Nat→Nat}(h:Rel H0 X0 VE B E H β){b i g e I elem aD es:Nat}{row:List VV}(O:aF B b=some (.one e I row))(hi:row[i]?=some (.d .nil))(hg:aF B g=none):Rel H0 X0 VE ((g,.acc elem aD es [])::(b,.one e I (row.set i (.ac g 0 es)))::B) E H β:=by
 have hgb:g≠b:=fun k=>by rw[k,O] at hg;cases hg
 have M:∀c s,aF ((g,BS.acc elem aD es [])::(b,BS.one e I (row.set i (.ac g 0 es)))::B) c=some s→s.born→∃t,aF B c=some t∧t.born:=fun c s z ho=>by
  rw[c7] at z
  by_cases L:g=c
  ·rw[bg L] at z;cases z;exact absurd rfl ho
  rw[aZ L,c7] at z
  by_cases k:b=c
  ·subst k;exact⟨_,O,trivial⟩
  rw[aZ k] at z;exact⟨s,z,ho⟩
 have hX:∀f,XB X0 ((g,BS.acc elem aD es [])::(b,BS.one e I (row.set i (.ac g 0 es)))::B) β f→XB X0 B β f:=fun f U=>U.imp id fun⟨c,s,Y,ho,h2⟩=>by
  obtain⟨t,A,G⟩:=M c s Y ho;exact⟨c,t,A,G,h2⟩
 have Z:eP H (XB X0 B β) H (XB X0 ((g,BS.acc elem aD es [])::(b,BS.one e I (row.set i (.ac g 0 es)))::B) β):=⟨bf _,fun f _ U=>⟨fun k=>U (hX f k),rfl⟩⟩;refine⟨h.jD,h.aR,h.x0,fun c s z ho=>?_,fun c d s t z sL hs ht he=>?_,fun k v hk=>?_,fun c s z=>?_⟩
 ·obtain⟨t,A,G⟩:=M c s z ho;exact h.new c t A G
 ·obtain⟨s',A,G⟩:=M c s z hs;obtain⟨t',k3,k4⟩:=M d t sL ht;exact h.inj c d s' t' A k3 G k4 he
 ·obtain⟨a,Y,h2⟩:=h.env k v hk;exact⟨a,Y,h2.lift Z⟩
 rw[c7] at z
 by_cases L:g=c
 ·rw[bg L] at z;cases z;exact .inl rfl
 rw[aZ L,c7] at z
 by_cases k:b=c
 ·subst k;rw[bg rfl] at z
  cases z
  obtain⟨l,lo,cs,A,G,k3,k4⟩:=h.box b _ O;exact⟨l,lo,cs,A,G,k3,bc.lift Z (bc.setAt (new:=.ac g 0 es) (fun a ha=>by simp only[aE,bF] at ha⊢;exact .inl ⟨trivial,ha⟩) k4 hi)⟩
 rw[aZ k] at z;exact(h.box c s z).lift Z rfl
variable{T:aM}{VE:bb}{B:aK}{Q:bb→aK→Prop}
def ajt(op:BinOp)(a b:Int):Option Bool:=match op with
 |.lss=>some (decide (a<b))
 |.gtr=>some (decide (b<a))
 |.leq=>some (decide (a≤b))
 |.geq=>some (decide (b≤a))
 |.eql=>some (decide (a=b))
 |.neq=>some (!decide (a=b))
 |_=>none
def gd{α:Type}(b:Bool)(x:Option α):Option α:=bif b then x else none
theorem nw{α:Type}{b:Bool}{x:Option α}{y:α}(h:gd b x=some y):b=true∧x=some y:=by
 cases b
 ·cases h
 exact⟨rfl,h⟩
theorem js{a b:Bool}(h:(a&&b)=true):a=true∧b=true:=by simpa using h
def hU(VE:bb)(B:aK)(d:Nat):bq→Option (VV×aK×List Nat)
 |.d8 x=>(x.vv VE).bind fun v=>some (v,B,[])
 |.eR x k=>match x.vv VE with
  |some (.vp b o)=>some (.vp b (o+k),B,[])
  |some (.rp row o)=>some (.rp row (o+k),B,[])
  |some (.bp b g j o es)=>some (.bp b g j (o+k) es,B,[])
  |_=>none
 |.load n w a=>match a.vv VE with
  |some (.vp b o)=>match aF B b with
   |some (.one _ _ row)=>match w with
    |true=>gd (Nat.ble 1 n&&Nat.ble (o+n) row.length) (some (.agg ((row.drop o).take n),B,[]))
    |false=>gd (Nat.beq n 1) ((row[o]?).bind fun v=>some (v,B,[]))
   |_=>none
  |some (.rp row o)=>match w with
   |true=>gd (Nat.ble 1 n&&Nat.ble (o+n) row.length) (some (.agg (((row.drop o).take n).map .d),B,[]))
   |false=>gd (Nat.beq n 1) ((row[o]?).bind fun v=>some (.d v,B,[]))
  |_=>none
 |.store n a x=>match a.vv VE with
  |some (.vp b o)=>match aF B b with
   |some (.one e G row)=>(x.vv VE).bind fun v=>v.cells.bind fun new=>gd (Nat.beq new.length n&&(Nat.ble 1 n&&Nat.ble (o+n) row.length)) (some (.undef,(b,.one e G (VU row o new))::B,[b]))
   |_=>none
  |_=>none
 |.build zero ps=>(pf zero).bind fun z=>(CU VE ps z).bind fun out=>some (.agg out,B,[])
 |.box elem es aD x=>gd (mz d VE&&jC d B) ((x.vv VE).bind fun v=>v.cells.bind fun c=>gd (Nat.beq c.length es) (some (.vp d 0,(d,.one elem aD c)::B,[])))
 |.pI elem es aD l=>gd (mz d VE&&(jC d B&&Nat.beq l.length es)) ((pf l).bind fun c=>some (.vp d 0,(d,.one elem aD c)::B,[]))
 |.tb elem es aD A zero ps=>gd (mz d VE&&(jC d B&&Nat.beq zero.length es)) ((pf zero).bind fun z=>(gA z).bind fun I=>(zG VE es A ps (List.replicate A I)).bind fun rows=>some (.bs d A es,(d,.arr elem aD es A rows)::B,[]))
 |.rT x=>match x.vv VE with
  |some (.vp b o)=>some (.vp b o,B,[])
  |some (.rp row o)=>some (.rp row o,B,[])
  |some (.bp b g q o es)=>some (.bp b g q o es,B,[])
  |some (.fn f c)=>some (.fn f c,B,[])
  |_=>none
 |.sub x off n w=>match x.vv VE with
  |some (.agg l)=>match w with
   |true=>gd (Nat.ble (off+n) l.length) (some (.agg ((l.drop off).take n),B,[]))
   |false=>gd (Nat.beq n 1) ((l[off]?).bind fun v=>some (v,B,[]))
  |_=>none
 |.vH x i=>match x.vv VE with
  |some (.tuple l)=>(l[i]?).bind fun v=>some (v,B,[])
  |_=>none
 |.un op x=>match op with
  |.not=>match x.vv VE with|some (.d (.b b))=>some (.d (.b (!b)),B,[])|_=>none
  |_=>none
 |.yv f first l=>match first with
  |[]=>(qC VE l).bind fun c=>some (.fn f c,B,[])
  |_=>none
 |.len x=>match x.vv VE with
  |some (.d (.sl rows))=>some (.d (.i .i64 rows.length),B,[])
  |some (.d .nil)=>some (.d (.i .i64 0),B,[])
  |some (.bs _ n _)=>some (.d (.i .i64 n),B,[])
  |some (.ac _ n _)=>some (.d (.i .i64 n),B,[])
  |_=>none
 |.tX x=>match x.vv VE with|some (.d (.s l _))=>some (.d (.i .i64 l),B,[])|_=>none
 |.conv k x=>match x.vv VE with|some (.d (.i _ n))=>some (.d (.i k (k.wrap n)),B,[])|_=>none
 |.bin op x y=>match x.vv VE with
  |some (.d (.i k a))=>match y.vv VE with
   |some (.d (.i L b))=>if L=k then(ajt op a b).bind fun r=>some (.d (.b r),B,[]) else none
   |_=>none
  |_=>none
 |.pick c x y=>match c.vv VE with
  |some (.d (.b true))=>(x.vv VE).bind fun v=>some (v,B,[])
  |some (.d (.b false))=>(y.vv VE).bind fun v=>some (v,B,[])
  |_=>none
 |.eqv c neg x y=>match c with
  |.iface=>match y.vv VE with
   |some (.k .kA)=>(x.vv VE).bind fun v=>(Uk v).bind fun t=>some (.d (.b (Bool.xor neg t)),B,[])
   |_=>none
  |_=>none
 |_=>none
theorem iI{d:Nat}{op:bq}{v:VV}{B':aK}{W:List Nat}{R:VV→aK→Prop}(h:hU VE B d op=some (v,B',W))(G:R v B'):VI T op VE B W R:=by
 cases op with
 |d8 x=>
  obtain⟨u,A,h⟩:=Option.bind_eq_some_iff.1 h
  cases h;exact LB A G
 |eR x k=>
  simp only[hU] at h
  split at h
  ·rename_i A;cases h;exact QK A G
  ·rename_i A;cases h;exact vi_offsR A G
  ·rename_i A;cases h;exact vi_offsB A G
  cases h
 |load n w a=>
  simp only[hU] at h
  split at h
  ·rename_i A
   split at h
   ·rename_i Y
    cases w with
    |true=>
     obtain⟨I,h2⟩:=nw h;obtain⟨I,L⟩:=js I
     cases h2
     exact vi_loadAV A Y (aX I) (aX L) G
    |false=>
     obtain⟨I,h2⟩:=nw h;obtain⟨u,L,M⟩:=Option.bind_eq_some_iff.1 h2;obtain rfl:=cU I
     cases M
     exact oe A Y L G
   cases h
  ·rename_i A
   cases w with
   |true=>
    obtain⟨I,h2⟩:=nw h;obtain⟨I,L⟩:=js I
    cases h2
    exact iJ A (aX I) (aX L) G
   |false=>
    obtain⟨I,h2⟩:=nw h;obtain⟨u,L,M⟩:=Option.bind_eq_some_iff.1 h2;obtain rfl:=cU I
    cases M
    exact dy A L G
  cases h
 |store n a x=>
  simp only[hU] at h
  split at h
  ·rename_i ha
   split at h
   ·rename_i Y;obtain⟨u,A,h⟩:=Option.bind_eq_some_iff.1 h;obtain⟨new,hv,h⟩:=Option.bind_eq_some_iff.1 h;obtain⟨I,h2⟩:=nw h;obtain⟨I,L⟩:=js I;obtain⟨L,M⟩:=js L
    cases h2
    exact vi_storeV ha Y A hv (cU I) (aX L) (aX M) G
   cases h
  cases h
 |build zero ps=>
  obtain⟨z,Z,h⟩:=Option.bind_eq_some_iff.1 h;obtain⟨out,Y,h⟩:=Option.bind_eq_some_iff.1 h
  cases h;exact vi_build Z Y G
 |box elem es aD x=>
  obtain⟨I,h⟩:=nw h;obtain⟨I,h2⟩:=js I;obtain⟨u,A,h⟩:=Option.bind_eq_some_iff.1 h;obtain⟨c,U,h⟩:=Option.bind_eq_some_iff.1 h;obtain⟨L,h⟩:=nw h
  cases h;exact vi_box d I h2 A U (cU L) G
 |pI elem es aD l=>
  obtain⟨I,h⟩:=nw h;obtain⟨I,h2⟩:=js I;obtain⟨h2,L⟩:=js h2;obtain⟨c,U,h⟩:=Option.bind_eq_some_iff.1 h
  cases h;exact vi_boxz d I h2 U (cU L) G
 |tb elem es aD ln zero ps=>
  obtain⟨I,h⟩:=nw h;obtain⟨I,h2⟩:=js I;obtain⟨h2,L⟩:=js h2;obtain⟨z,Z,h⟩:=Option.bind_eq_some_iff.1 h;obtain⟨zd,hd,h⟩:=Option.bind_eq_some_iff.1 h;obtain⟨rows,hr,h⟩:=Option.bind_eq_some_iff.1 h
  cases h;exact ZI d I h2 Z hd (cU L) hr G
 |rT x=>
  simp only[hU] at h
  split at h
  ·rename_i A;cases h;exact vi_nilckV A G
  ·rename_i A;cases h;exact vi_nilckR A G
  ·rename_i A;cases h;exact vi_nilckB A G
  ·rename_i A;cases h;exact vi_nilckF A G
  cases h
 |sub x off n w=>
  simp only[hU] at h
  split at h
  ·rename_i A
   cases w with
   |true=>
    obtain⟨I,h2⟩:=nw h
    cases h2;exact vi_subA A I G
   |false=>
    obtain⟨I,h2⟩:=nw h;obtain⟨u,L,M⟩:=Option.bind_eq_some_iff.1 h2;obtain rfl:=cU I
    cases M;exact vi_sub1 A L G
  cases h
 |vH x i=>
  simp only[hU] at h
  split at h
  ·rename_i A;obtain⟨u,L,M⟩:=Option.bind_eq_some_iff.1 h
   cases M;exact vi_extr A L G
  cases h
 |un op x=>
  simp only[hU] at h
  split at h
  ·split at h
   ·rename_i A;cases h;exact vi_not A G
   cases h
  cases h
 |yv f first l=>
  simp only[hU] at h
  split at h
  ·obtain⟨u,L,M⟩:=Option.bind_eq_some_iff.1 h
   cases M;exact vi_mkfn L G
  cases h
 |len x=>
  simp only[hU] at h
  split at h
  ·rename_i A;cases h;exact aed A G
  ·rename_i A;cases h;exact zT A G
  ·rename_i A;cases h;exact Re A G
  ·rename_i A;cases h;exact abV A G
  cases h
 |tX x=>
  simp only[hU] at h
  split at h
  ·rename_i A;cases h;exact vi_lenS A G
  cases h
 |conv k x=>
  simp only[hU] at h
  split at h
  ·rename_i A;cases h;exact abU A G
  cases h
 |bin op x y=>
  simp only[hU] at h
  split at h
  ·rename_i A
   split at h
   ·rename_i O
    split at h
    ·rename_i hk;subst hk;obtain⟨r,L,M⟩:=Option.bind_eq_some_iff.1 h
     cases M
     cases op<;>simp only[ajt] at L<;>(first|cases L)<;>first|exact aeg A O G|exact aeh A O G|exact vi_leK A O G|exact vi_geK A O G|exact vi_eqK A O G|exact vi_neK A O G
    cases h
   cases h
  cases h
 |pick c x y=>
  simp only[hU] at h
  split at h
  ·rename_i U;obtain⟨u,L,M⟩:=Option.bind_eq_some_iff.1 h
   cases M;exact aa0 U L G
  ·rename_i U;obtain⟨u,L,M⟩:=Option.bind_eq_some_iff.1 h
   cases M;exact aa1 U L G
  cases h
 |eqv c neg x y=>
  simp only[hU] at h
  split at h
  ·split at h
   ·rename_i O;obtain⟨u,A,h⟩:=Option.bind_eq_some_iff.1 h;obtain⟨t,ht,h⟩:=Option.bind_eq_some_iff.1 h
    cases h;exact vi_ifNil A O ht G
   cases h
  cases h
 |_=>cases h
def IL(VE:bb)(v:VV):Option Key→bb
 |some k=>(k.n,v)::VE
 |none=>VE
def tD:Nat→List bk→bb→aK→Option (bb×aK×List bk)
 |0,ops,VE,B=>some (VE,B,ops)
 |_+1,[],_,_=>none
 |n+1,⟨d,g,_,op⟩::r,VE,B=>match g with
  |some _=>none
  |none=>match d with
   |some d=>match hU VE B d.n op with
    |some (v,B',_)=>tD n r ((d.n,v)::VE) B'
    |none=>none
   |none=>match hU VE B 0 op with
    |some (_,B',_)=>tD n r VE B'
    |none=>none
theorem eY(n:Nat){ops:List bk}{bh:bb}{B':aK}{r:List bk}(h:tD n ops VE B=some (bh,B',r))(k:VO T r bh B' Q):VO T ops VE B Q:=by
 induction n generalizing ops VE B with
 |zero=>cases h;exact k
 |succ n A=>
  cases ops with
  |nil=>cases h
  |cons o rest=>
   obtain⟨d,g,q,op⟩:=o
   cases g with
   |some _=>cases h
   |none=>
    cases d with
    |some d=>
     simp only[tD] at h
     split at h
     ·rename_i v B1 W z;exact aw (iI z (A h))
     cases h
    |none=>
     simp only[tD] at h
     split at h
     ·rename_i v B1 W z;exact jd (iI z (A h))
     cases h
def Ul(VE:bb)(B:aK)(W:List Nat):bq→FL
 |.load _ _ a=>match a.vv VE with
  |some (.vp b _)=>match aF B b with
   |some (.one _ _ _)=>.rd [b]
   |_=>tZ W
  |_=>tZ W
 |_=>tZ W
def vq:Nat→List bk→bb→aK→List FL→Option (bb×aK×List FL×List bk)
 |0,ops,VE,B,fl=>some (VE,B,fl,ops)
 |_+1,[],_,_,_=>none
 |n+1,⟨d,g,q,op⟩::r,VE,B,fl=>match g with
  |some _=>none
  |none=>match d with
   |some d=>match hU VE B d.n op with
    |some (v,B',W)=>match q with
     |none=>vq n r ((d.n,v)::VE) B' fl
     |some l=>gd (mL W l fl) (vq n r ((d.n,v)::VE) B' (Ul VE B W op::fl))
    |none=>none
   |none=>match hU VE B 0 op with
    |some (_,B',W)=>match q with
     |none=>none
     |some l=>gd (mL W l fl) (vq n r VE B' (tZ W::fl))
    |none=>none
theorem vq_markF{fl:List FL}{d:Key}{l:List Nat}{op:bq}{W:List Nat}{r:List bk}{v:VV}{B':aK}(z:hU VE B d.n op=some (v,B',W))(A:mL W l fl=true)(h:VQ T r ((d.n,v)::VE) B' (Ul VE B W op::fl) Q):VQ T (⟨some d,none,some l,op⟩::r) VE B fl Q:=by
 cases op with
 |load n w a=>
  simp only[Ul] at h
  split at h
  ·rename_i G
   split at h
   ·rename_i I;have L:W=[]:=by
     simp only[hU,G,I] at z
     cases w
     ·obtain⟨_,z⟩:=nw z;obtain⟨u,_,M⟩:=Option.bind_eq_some_iff.1 z
      cases M;rfl
     obtain⟨_,z⟩:=nw z
     cases z;rfl
    subst L;exact vq_markL G I trivial A (iI z h)
   exact aP A (iI z h)
  exact aP A (iI z h)
 |_=>exact aP A (iI z h)
theorem mS(n:Nat){ops:List bk}{fl lK:List FL}{bh:bb}{B':aK}{r:List bk}(h:vq n ops VE B fl=some (bh,B',lK,r))(k:VQ T r bh B' lK Q):VQ T ops VE B fl Q:=by
 induction n generalizing ops VE B fl with
 |zero=>cases h;exact k
 |succ n A=>
  cases ops with
  |nil=>cases h
  |cons o rest=>
   obtain⟨d,g,q,op⟩:=o
   cases g with
   |some _=>cases h
   |none=>
    cases d with
    |some d=>
     simp only[vq] at h
     split at h
     ·rename_i v B1 W z
      cases q with
      |none=>exact aV (iI z (A h))
      |some l=>
       obtain⟨G,I⟩:=nw h;exact vq_markF z G (A I)
     cases h
    |none=>
     simp only[vq] at h
     split at h
     ·rename_i v B1 W z
      cases q with
      |none=>cases h
      |some l=>
       obtain⟨G,I⟩:=nw h;exact iK G (iI z (A I))
     cases h
theorem ew{a:List bk}{c:IC}{R:Ex→bb→aK→Prop}(h:VO T a VE B fun bh B'=>VC T c bh B' R):VC T (.seq (.region false a) c) VE B R:=ff (i7 h)
theorem Dt{a:List bk}{c:IC}{R:Ex→bb→aK→Prop}(h:VQ T a VE B [] fun bh B'=>VC T c bh B' R):VC T (.seq (.region true a) c) VE B R:=ff (te h)
theorem c9(n:Nat){ops:List bk}{bh:bb}{B':aK}(h:tD n ops VE B=some (bh,B',[]))(k:Q bh B'):VO T ops VE B Q:=eY n h (qs k)
theorem Du(n:Nat){ops:List bk}{fl lK:List FL}{bh:bb}{B':aK}(h:vq n ops VE B fl=some (bh,B',lK,[]))(k:Q bh B'):VQ T ops VE B fl Q:=mS n h (Af k)
section
variable{T:aM}{VE:bb}{B:aK}{Q:bb→aK→Prop}
theorem oh{d g:Key}{want t:Bool}{qq:Option (List Nat)}{op:bq}{r:List bk}(A:aF VE g.n=some (.d (.b t)))(G:t=!want)(h:VO T r ((d.n,.k .undef)::VE) B Q):VO T (⟨some d,some (g,want),qq,op⟩::r) VE B Q:=by
 intro H0 X0 E H β z;refine wpO_skip (z.bool A) (by rw[G];cases want<;>decide) ?_;exact h H0 X0 _ H β (z.set (by simp only[aE]))
theorem fS{d g:Key}{want:Bool}{qq:Option (List Nat)}{op:bq}{r:List bk}(A:aF VE g.n=some (.k .undef))(h:VO T r ((d.n,.k .undef)::VE) B Q):VO T (⟨some d,some (g,want),qq,op⟩::r) VE B Q:=by
 intro H0 X0 E H β z;obtain⟨a,G,h2⟩:=z.env g _ A;simp only[aE] at h2;subst h2;obtain⟨I,L,M,b,c⟩:=h H0 X0 (E.set d .undef) H β (z.set (by simp only[aE]));refine⟨I,L,M,fun lf n O U=>?_,c⟩;show ob (E.get g) (.err 51) (fun v=>yw v (il (some d) E H fun E H=>mP (T.call lf n) r E H) fun b=>aI (Bool.xor b want) (il (some d) E H fun E H=>mP (T.call lf n) r E H) (fin (some d) E (fun E H=>mP (T.call lf n) r E H) (op.ev (T.call lf n) E H)))=_;rw[G,cI];show il (some d) E H (fun E H=>mP (T.call lf n) r E H)=_;rw[xd];exact b lf n O U
end
variable{T:aM}
theorem wpI_idxArr{E:Env}{H:ax}{x i:aG}{z es f g o:Nat}{k:IntKind}{j:Nat}{Q:aj→ax→Prop}(G:x.ev E=some (.ptr f g o))(hi:i.ev E=some (.int k (j:Int)))(I:j<z)(L:Q (.ptr f g (o+j*es)) H):gz T (.Ab z es x i) E H Q:=
 eX (fun _=>by
  show bt x E (.err 11) (fun v=>jf v (.err 11) fun f g off=>bt i E (.err 11) fun A=>idx A z (.err 11) fun j=>cm (Nat.add off (Nat.mul j es)) fun off=>.ok (.ptr f g off) H)=_;rw[cY,G,cI];show bt i E (.err 11) (fun A=>idx A z (.err 11) fun j=>cm (Nat.add o (Nat.mul j es)) fun off=>.ok (.ptr f g off) H)=_;rw[cY,hi,cI];show aI (Nat.ble (Nat.succ j) z) (cm (o+j*es) fun off=>aC.ok (.ptr f g off) H) (aC.err 11)=_
  rw[gn I,fy];rfl) L
variable{VE:bb}{B:aK}{Q:VV→aK→Prop}
theorem bG{x i:aG}{G es b o j:Nat}{k:IntKind}(I:x.vv VE=some (.vp b o))(hi:i.vv VE=some (.d (.i k (j:Int))))(L:j<G)(M:Q (.vp b (o+j*es)) B):VI T (.Ab G es x i) VE B [] Q:=fun _ _ _ _ _ z=>by
 obtain⟨_,O,h2⟩:=z.bI I;obtain⟨_,U,A⟩:=z.bI hi;simp only[aE] at h2 A;simp only[bF] at A;subst A;subst h2;exact wpI_idxArr O U L (dA z (v:=.vp b (o+j*es)) (by simp only[aE]) M)
variable{T:aM}{VE:bb}{B:aK}{Q:VV→aK→Prop}
def Oj:List VV→Bool
 |[]=>true
 |.d _::r=>Oj r
 |_=>false
theorem ab2:∀{l:List VV},Oj l=true→lq l
 |[],_=>trivial
 |.d _::r,h=>⟨trivial,ab2 (l:=r) h⟩
def yC:List VV→Bool
 |[]=>true
 |.d _::r=>yC r
 |.agg l::r=>Oj l&&yC r
 |.fn _ []::r=>yC r
 |_=>false
theorem ov:∀{l:List VV},yC l=true→lq l
 |[],_=>trivial
 |.fn _ []::r,h=>⟨trivial,ov (l:=r) h⟩
 |.d _::r,h=>⟨trivial,ov (l:=r) h⟩
 |.agg l::r,h=>by
  obtain⟨z,h2⟩:=js (show(Oj l&&yC r)=true from h);exact⟨by simp only[VV.nb];exact ab2 z,ov h2⟩
theorem bL{rs:List jO}{VE:bb}{B:aK}{P:VV→Prop}{vs:List VV}(h:rU VE B rs=some vs)(z:yC vs=true)(A:P (md vs)):ajq rs P .ret VE B:=⟨vs,h,ov z,A⟩
structure FX(T:aM):Prop where
 a154:T.ft.get 154=none
 x154:T.xt.get 154=some 3
 a210:T.ft.get 210=none
 x210:∃t,T.xt.get 210=some (4+t)
 a178:T.ft.get 178=none
 x178:T.xt.get 178=some 0
 a162:T.ft.get 162=none
 x162:T.xt.get 162=some 1
variable{T:aM}{VE:bb}{B:aK}{Q:VV→aK→Prop}
variable{T:aM}{VE:bb}{B:aK}{Q:VV→aK→Prop}
def Um(n:Nat)(d:DC):Prop:=∃a:List UInt8,d=aq a∧a.length≤n
theorem Um.mono{n m:Nat}{d:DC}(h:Um n d)(z:n≤m):Um m d:=let⟨a,A,h2⟩:=h;⟨a,A,eO h2 z⟩
variable{T:aM}
section
variable{H:ax}{X:Nat→Prop}
theorem dz.drop{f g es:Nat}:∀(n:Nat){q:Nat}{rows:ai},dz H X f g es q rows→dz H X f g es (q+n) (rows.drop n)
 |0,_,_,h=>h
 |n+1,_,[],_=>trivial
 |n+1,q,r::rs,h=>by
  simp only[dz] at h;have:=dz.drop n h.2;rw[show q+1+n=q+(n+1) by omega] at this;exact this
theorem dz.take{f g es:Nat}:∀(n:Nat){q:Nat}{rows:ai},dz H X f g es q rows→dz H X f g es q (rows.take n)
 |0,_,_,_=>trivial
 |n+1,_,[],_=>trivial
 |n+1,q,r::rs,h=>by
  simp only[dz,xK] at h⊢;exact⟨h.1,dz.take n h.2⟩
end
variable{VE:bb}{B:aK}{Q:VV→aK→Prop}
def au(rows:ai)(d:DC):Prop:=d= .sl rows∨rows=[]∧d= .nil
theorem au.acc(rows:ai):au rows (.cF rows):=by
 cases rows with
 |nil=>exact .inr ⟨rfl,rfl⟩
 |cons r s=>exact .inl rfl
theorem aQ{x:aG}{rows:ai}{d:DC}(z:x.vv VE=some (.d d))(G:au rows d)(A:Q (.d (.i .i64 (rows.length:Nat))) B):VI T (.len x) VE B [] Q:=by
 rcases G with rfl|⟨rfl,rfl⟩
 ·exact aed z A
 exact zT z A
theorem vi_idxD{x i:aG}{es j:Nat}{k:IntKind}{rows:ai}{row:List DC}{d:DC}(A:x.vv VE=some (.d d))(G:au rows d)(hi:i.vv VE=some (.d (.i k (j:Int))))(z:rows[j]?=some row)(I:row.length=es)(L:Q (.rp row 0) B):VI T (.j0 es x i) VE B [] Q:=by
 rcases G with rfl|⟨rfl,rfl⟩
 ·exact vi_idx A hi z I L
 simp at z
theorem YR.sD{B:aK}{es:Nat}{rows:ai}{d:DC}(z:au rows d)(h:∀row,row∈rows→row.length=es):YR B es (.d d) rows:=by
 rcases z with rfl|⟨rfl,rfl⟩
 ·exact .sl h
 exact .nil
theorem vi_slD{es:Nat}{x:aG}{lo hi:Option aG}{rows:ai}{d:DC}{l h:Nat}(U:x.vv VE=some (.d d))(Y:au rows d)(Z:∀row,row∈rows→row.length=es)(z:0<rows.length)(hh:yB VE hi rows.length h)(hl:yB VE lo 0 l)(I:l≤h)(L:h≤rows.length)
  (hq:Q (.d (.sl ((rows.drop l).take (h-l)))) B):VI T (.tW es x lo hi) VE B [] Q:=fun _ X0 _ H β G=>by
 obtain rfl:d= .sl rows:=Y.resolve_right fun k=>by rw[k.1] at z;cases z
 obtain⟨a,h1,h2⟩:=G.bI U;simp only[aE,bF] at h2;obtain⟨f,g,off,cW,rfl,h2⟩:=h2;rcases h2 with rfl|⟨k1,k2,q,k3,M⟩
 ·cases z
 have he:cW=es:=by
  cases rows with
  |nil=>cases z
  |cons r0 rs=>
   simp only[dz] at M;obtain⟨⟨l',_,j2,j3⟩,_⟩:=M;rw[←j2,j3.length,Z r0 (jw ..)]
 subst he;have hlen:((rows.drop l).take (h-l)).length=h-l:=by rw[ju,qz];omega
 refine eX (v:=.slice f g (off+l*cW) (h-l) cW) (fun call=>?_) (dA G (v:=.d (.sl ((rows.drop l).take (h-l)))) ?_ hq)
 ·show bt x _ (.err 16) (fun v=>fc v (.err 16) (en _ hi 0 0 (.err 16) fun h=>en _ lo 0 h (.err 16) fun _=>.ok .fR H)
   fun f g off O A=>aI (Nat.beq cW A) (en _ hi O (tY g off cW O) (.err 16) fun h=>en _ lo 0 h (.err 16) fun lo=>
    cm (Nat.add off (Nat.mul lo cW)) fun off=>cm (Nat.sub h lo) fun n=>.ok (.slice f g off n A) H) (.err 16))=_
  rw[cY,h1,cI]
  show aI (Nat.beq cW cW) (en _ hi rows.length (tY g off cW rows.length) (.err 16) fun h=>en _ lo 0 h (.err 16) fun lo=>
    cm (Nat.add off (Nat.mul lo cW)) fun off=>cm (Nat.sub h lo) fun n=>.ok (.slice f g off n cW) H) (.err 16)=_
  rw[show Nat.beq cW cW=true from gG cW,dX,K0 G hh (eO L KO) KO,K0 G hl I (hZ _),fy,fy];rfl
 simp only[aE,bF,hlen];refine⟨f,g,_,cW,aa,.inr ⟨k1,k2,q+l,?_,?_⟩⟩
 ·rw[k3,kW]
 exact(M.drop l).take _
theorem VI.fresh{op:bq}{b:Nat}(A:aF B b=none)(h:VI T op VE B [b] Q):VI T op VE B [] Q:=fun H0 X0 E H β G=>
 (h H0 X0 E H β G).mono fun a H'⟨v,B',β',z,I⟩=>⟨v,B',β',⟨z.aR,z.next,fun f L=>(z.ws f L).imp id fun⟨_,c,s,M,k,_⟩=>by
  (rw[List.mem_singleton.1 M,A] at k;cases k),z.since,z.jE⟩,I⟩
variable{T:aM}{VE:bb}{B:aK}{Q:VV→aK→Prop}
variable{T:aM}{VE:bb}{B:aK}{Q:VV→aK→Prop}
def jM:List Nat→List DC→Bool
 |[],[]=>true
 |c::r,.i k _::s=>Nat.beq (cK k) c&&jM r s
 |c::r,.b _::s=>Nat.beq c 100&&jM r s
 |c::r,.s _ _::s=>Nat.beq c 101&&jM r s
 |_,_=>false
end Go.Ev
