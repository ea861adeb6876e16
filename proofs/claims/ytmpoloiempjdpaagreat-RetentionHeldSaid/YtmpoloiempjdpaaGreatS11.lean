/- Part 11 of rules for walks through the code of a program, and of such walks; what each part proves is said by its theorems. -/
import Derived.Test.YtmpoloiempjdpaaGreatS10
import Derived.Test.YtmpoloiempjdpaaGreatProg
set_option linter.unusedVariables false
set_option linter.unusedSimpArgs false
noncomputable section
set_option maxRecDepth 100000
set_option maxHeartbeats 4000000
namespace Go.Ev
open Go
def aw(bs:List UInt8):DC:=.s bs.length (pack bs)
section
variable{T:aL}{H0:Nat→Nat}{X0:Nat→Prop}{VE bj:bb}{B B':aK}{E:Env}{H H':ax}{β:Nat→Nat}{X:Nat→Prop}
variable{W:List Nat}{Q:VV→aK→Prop}
theorem Rel.ai8(z:Rel H0 X0 VE B E H β){x:aG}{l v:Nat}(A:x.vv VE=some (.d (.s l v))):x.ev E=some (.str l v):=by
 obtain⟨_,G,h2⟩:=z.bC A;simp only[aE,bA] at h2;rw[G,h2]
theorem Rel.str(z:Rel H0 X0 VE B E H β){x:aG}{bs:List UInt8}(A:x.vv VE=some (.d (aw bs))):x.ev E=some (.str bs.length (pack bs)):=z.ai8 A
theorem Rel.sH(z:Rel H0 X0 VE B E H β){x:aG}{k:IntKind}{n:Int}(A:x.vv VE=some (.d (.i k n))):x.ev E=some (.int k n):=by
 obtain⟨_,G,h2⟩:=z.bC A;simp only[aE,bA] at h2;rw[G,h2]
theorem QQ{x i:aG}{bs:List UInt8}{k:IntKind}{j:Nat}{c:UInt8}(I:x.vv VE=some (.d (aw bs)))(hi:i.vv VE=some (.d (.i k (j:Int))))(L:bs[j]?=some c)(M:Q (.d (.i .u8 (c.toNat:Nat))) B):VI T (.Ao x i) VE B [] Q:=fun _ _ _ _ _ A=>by
 have O:=A.str I;have h2:=A.sH hi;obtain⟨z,U⟩:=List.getElem?_eq_some_iff.1 L;refine eG (v:=.int .u8 (.ofNat c.toNat)) (fun call=>?_) (du A (v:=.d (.i .u8 (c.toNat:Nat))) (by simp only[aE,bA];rfl) M);show bq x _ (.err 14) (fun v=>kT v (.err 14) fun l s=>bq i _ (.err 14) fun G=>Ev.idx G l (.err 14) fun j=>ch (pw s j) fun b=>.ok (.int .u8 (.ofNat b)) _)=_;rw[cQ,O,cA];show bq i _ (.err 14) (fun G=>Ev.idx G bs.length (.err 14) fun j=>ch (pw (pack bs) j) fun b=>.ok (.int .u8 (.ofNat b)) _)=_;rw[cQ,h2,cA];show aJ (Nat.ble (Nat.succ j) bs.length) (ch (pw (pack bs) j) fun b=>aD.ok (.int .u8 (.ofNat b)) _) (aD.err 14)=_;rw[show Nat.ble (Nat.succ j) bs.length=true from fR z,dM,fc,Y3 bs j z,U]
def pR(VE:bb):Option aG→Nat→Nat→Prop
 |none,d,n=>n=d
 |some x,_,n=>∃k,x.vv VE=some (.d (.i k (n:Int)))
theorem vf(A:Rel H0 X0 VE B E H β){x:Option aG}{d n y:Nat}(z:pR VE x d n)(G:n≤y)(I:d≤y){e:aD}{k:Nat→aD}:dT E x d y e k=k n:=by
 cases x with
 |none=>simp only[pR] at z;subst z;rfl
 |some x=>
  obtain⟨L,z⟩:=z;have h2:=A.sH z;show ob (x.ev E) e (fun v=>fG v e fun _ i=>iU i e fun n=>aJ (Nat.ble n y) (k n) e)=_;rw[h2,cA];show aJ (Nat.ble n y) (k n) e=_;rw[fR G,dM]
theorem fA{x y:aG}{a b:List UInt8}(A:x.vv VE=some (.d (aw a)))(G:y.vv VE=some (.d (aw b)))(I:a.length+b.length≤4611686018427387904)(L:Q (.d (aw (a++b))) B):VI T (.bin .add x y) VE B [] Q:=fun _ _ _ _ _ z=>
 Ab (z.str A) (z.str G) (v:=.str (a.length+b.length) (Gw a.length (pack a) (pack b))) (by
  show aJ (Nat.ble (Nat.add a.length b.length) 4611686018427387904) (some (ai.str (Nat.add a.length b.length) (Gw a.length (pack a) (pack b)))) none=_
  rw[show Nat.ble (Nat.add a.length b.length) 4611686018427387904=true from fR I];rfl)
  (du z (v:=.d (aw (a++b))) (by simp only[aE,aw,bA,e7,Y4]) L)
theorem pn{x y:aG}{a b:List UInt8}(A:x.vv VE=some (.d (aw a)))(G:y.vv VE=some (.d (aw b)))(I:Q (.d (.b (decide (a=b)))) B):VI T (.bin .eql x y) VE B [] Q:=fun _ _ _ _ _ z=>
 Ab (z.str A) (z.str G) (v:=.bool (AY a.length (pack a) b.length (pack b))) rfl (du z (v:=.d (.b (decide (a=b)))) (by simp only[aE,bA,KA]) I)
theorem kL{x y:aG}{a b:List UInt8}(A:x.vv VE=some (.d (aw a)))(G:y.vv VE=some (.d (aw b)))(I:Q (.d (.b (!decide (a=b)))) B):VI T (.bin .neq x y) VE B [] Q:=fun _ _ _ _ _ z=>
 Ab (z.str A) (z.str G) (v:=.bool (!AY a.length (pack a) b.length (pack b))) rfl (du z (v:=.d (.b (!decide (a=b)))) (by simp only[aE,bA,KA]) I)
theorem vi_lenStr{x:aG}{bs:List UInt8}(A:x.vv VE=some (.d (aw bs)))(G:Q (.d (.i .i64 (bs.length:Nat))) B):VI T (.um x) VE B [] Q:=fun _ _ _ _ _ z=>
 aaO (z.str A) (du z (v:=.d (.i .i64 (bs.length:Nat))) (by simp only[aE,bA]) G)
theorem Da{op:BinOp}{x y:aG}{k:IntKind}{a b:Int}{r:Bool}(A:x.vv VE=some (.d (.i k a)))(G:y.vv VE=some (.d (.i k b)))(h:fZ op k a k b=some (.bool r))(I:Q (.d (.b r)) B):VI T (.bin op x y) VE B [] Q:=fun _ _ _ _ _ z=>
 Ab (z.sH A) (z.sH G) (v:=.bool r) h (du z (v:=.d (.b r)) (by simp only[aE,bA]) I)
theorem aeb{x y:aG}{k:IntKind}{a b:Int}(z:x.vv VE=some (.d (.i k a)))(A:y.vv VE=some (.d (.i k b)))(G:Q (.d (.b (decide (a<b)))) B):VI T (.bin .lss x y) VE B [] Q:=Da z A (by rw[←oF];cases k<;>rfl) G
theorem aec{x y:aG}{k:IntKind}{a b:Int}(z:x.vv VE=some (.d (.i k a)))(A:y.vv VE=some (.d (.i k b)))(G:Q (.d (.b (decide (b<a)))) B):VI T (.bin .gtr x y) VE B [] Q:=Da z A (by rw[←oF];cases k<;>rfl) G
theorem aag(a b:Int):(!decide (a<b))=decide (b≤a):=by
 by_cases h:a<b
 ·simp[h,Int.not_le.2 h]
 simp[h,Int.not_lt.1 h]
theorem aed{x y:aG}{k:IntKind}{a b:Int}(z:x.vv VE=some (.d (.i k a)))(A:y.vv VE=some (.d (.i k b)))(G:Q (.d (.b (decide (a≤b)))) B):VI T (.bin .leq x y) VE B [] Q:=Da z A (r:=!decide (b<a)) (by rw[←oF];cases k<;>rfl) (by rw[aag];exact G)
theorem vi_geK{x y:aG}{k:IntKind}{a b:Int}(z:x.vv VE=some (.d (.i k a)))(A:y.vv VE=some (.d (.i k b)))(G:Q (.d (.b (decide (b≤a)))) B):VI T (.bin .geq x y) VE B [] Q:=Da z A (r:=!decide (a<b)) (by rw[←oF];cases k<;>rfl) (by rw[aag];exact G)
theorem LX{x y:aG}{k:IntKind}{a b:Int}(z:x.vv VE=some (.d (.i k a)))(A:y.vv VE=some (.d (.i k b)))(G:Q (.d (.b (decide (a=b)))) B):VI T (.bin .eql x y) VE B [] Q:=Da z A (by rw[←vo];cases k<;>rfl) G
theorem vi_neK{x y:aG}{k:IntKind}{a b:Int}(z:x.vv VE=some (.d (.i k a)))(A:y.vv VE=some (.d (.i k b)))(G:Q (.d (.b (!decide (a=b)))) B):VI T (.bin .neq x y) VE B [] Q:=Da z A (by rw[←vo];cases k<;>rfl) G
theorem xr{op:BinOp}{x y:aG}{k:IntKind}{a b r:Int}(A:x.vv VE=some (.d (.i k a)))(G:y.vv VE=some (.d (.i k b)))(h:fZ op k a k b=some (.int k r))(I:Q (.d (.i k r)) B):VI T (.bin op x y) VE B [] Q:=fun _ _ _ _ _ z=>
 Ab (z.sH A) (z.sH G) (v:=.int k r) h (du z (v:=.d (.i k r)) (by simp only[aE,bA]) I)
theorem ab0{x y:aG}{k:IntKind}{a b:Int}(z:x.vv VE=some (.d (.i k a)))(A:y.vv VE=some (.d (.i k b)))(G:Q (.d (.i k (k.wrap (a+b)))) B):VI T (.bin .add x y) VE B [] Q:=xr z A (by rw[←oz];cases k<;>rfl) G
theorem ab1{x y:aG}{k:IntKind}{a b:Int}(z:x.vv VE=some (.d (.i k a)))(A:y.vv VE=some (.d (.i k b)))(G:Q (.d (.i k (k.wrap (a-b)))) B):VI T (.bin .sub x y) VE B [] Q:=xr z A (by rw[←oz];cases k<;>rfl) G
theorem vi_mulK{x y:aG}{k:IntKind}{a b:Int}(z:x.vv VE=some (.d (.i k a)))(A:y.vv VE=some (.d (.i k b)))(G:Q (.d (.i k (k.wrap (a*b)))) B):VI T (.bin .mul x y) VE B [] Q:=xr z A (by rw[←oz];cases k<;>rfl) G
theorem ab2{x y:aG}{k:IntKind}{a b:Int}(z:x.vv VE=some (.d (.i k a)))(A:y.vv VE=some (.d (.i k b)))(h0:mF b 0=false)(G:Q (.d (.i k (k.wrap (a.tdiv b)))) B):VI T (.bin .quo x y) VE B [] Q:=xr z A (by
 have:fZ .quo k a k b=aJ (Nat.beq (cS k) (cS k)) (aJ (mF b 0) none (some (.int k (mf k (a.tdiv b))))) none:=rfl
 rw[this,h0,←oz,show Nat.beq (cS k) (cS k)=true from gu _];rfl) G
theorem ab3{x y:aG}{k:IntKind}{a b:Int}(z:x.vv VE=some (.d (.i k a)))(A:y.vv VE=some (.d (.i k b)))(h0:mF b 0=false)(G:Q (.d (.i k (a.tmod b))) B):VI T (.bin .rem x y) VE B [] Q:=xr z A (by
 have:fZ .rem k a k b=aJ (Nat.beq (cS k) (cS k)) (aJ (mF b 0) none (some (.int k (a.tmod b)))) none:=rfl
 rw[this,h0,show Nat.beq (cS k) (cS k)=true from gu _];rfl) G
theorem wrap_i64{a:Int}(z: -9223372036854775808≤a)(h2:a≤9223372036854775807):IntKind.i64.wrap a=a:=wrap64 z h2
theorem dr{x y:aG}{a b:Int}(z:x.vv VE=some (.d (.i .i64 a)))(A:y.vv VE=some (.d (.i .i64 b)))(G: -9223372036854775808≤a-b)(h2:a-b≤9223372036854775807)(I:Q (.d (.i .i64 (a-b))) B):VI T (.bin .sub x y) VE B [] Q:=
 ab1 z A (by rw[wrap_i64 G h2];exact I)
theorem bB{x y:aG}{a b:Int}(z:x.vv VE=some (.d (.i .i64 a)))(A:y.vv VE=some (.d (.i .i64 b)))(G: -9223372036854775808≤a+b)(h2:a+b≤9223372036854775807)(I:Q (.d (.i .i64 (a+b))) B):VI T (.bin .add x y) VE B [] Q:=
 ab0 z A (by rw[wrap_i64 G h2];exact I)
theorem vi_subA{x:aG}{off n:Nat}{l:List VV}(A:x.vv VE=some (.agg l))(G:Nat.ble (off+n) l.length=true)(I:Q (.agg ((l.drop off).take n)) B):VI T (.sub x off n true) VE B [] Q:=fun _ _ _ _ _ z=>by
 obtain⟨_,L,h2⟩:=z.bC A;simp only[aE] at h2;obtain⟨cs,rfl,h2⟩:=h2;refine eG (v:=.agg ((cs.drop off).take n)) (fun call=>?_) (du z (v:=.agg ((l.drop off).take n)) (by simp only[aE];exact⟨_,rfl,(h2.drop off).take n⟩) I);show bq x _ (.err 10) (fun v=>na v (.err 10) fun cs=>aJ (Nat.ble (Nat.add off n) (gM cs)) (fT true ((cs.drop off).take n) (.err 10) fun v=>.ok v _) (.err 10))=_;rw[cQ,L,cA];show aJ (Nat.ble (Nat.add off n) (gM cs)) (fT true ((cs.drop off).take n) (aD.err 10) fun v=>aD.ok v _) (aD.err 10)=_;rw[pt,h2.length,show Nat.ble (Nat.add off n) l.length=true from G];rfl
theorem vi_sub1{x:aG}{off:Nat}{l:List VV}{v:VV}(G:x.vv VE=some (.agg l))(I:l[off]?=some v)(L:Q v B):VI T (.sub x off 1 false) VE B [] Q:=fun _ _ _ _ _ z=>by
 obtain⟨_,M,h2⟩:=z.bC G;simp only[aE] at h2;obtain⟨cs,rfl,h2⟩:=h2;obtain⟨a,O,U⟩:=h2.get I;obtain⟨A,Y⟩:=List.getElem?_eq_some_iff.1 O;refine eG (v:=a) (fun call=>?_) (du z U L);show bq x _ (.err 10) (fun v=>na v (.err 10) fun cs=>aJ (Nat.ble (Nat.add off 1) (gM cs)) (fT false ((cs.drop off).take 1) (.err 10) fun v=>.ok v _) (.err 10))=_;rw[cQ,M,cA];show aJ (Nat.ble (Nat.add off 1) (gM cs)) (fT false ((cs.drop off).take 1) (aD.err 10) fun v=>aD.ok v _) (aD.err 10)=_;rw[pt,show Nat.ble (Nat.add off 1) cs.length=true from fR A,dM,Br A,xV,NH,Y];rfl
theorem vi_mkfn{f:Nat}{l:List aG}{dY:List VV}(A:oK VE l=some dY)(G:Q (.fn f dY) B):VI T (.yF f [] l) VE B [] Q:=fun _ _ _ _ _ z=>by
 obtain⟨vs,I,h2⟩:=zP z A;refine eG (v:=.func f [] vs) (fun call=>?_) (du z (v:=.fn f dY) (by simp only[aE];exact⟨vs,rfl,h2⟩) G);show ob (iK _ l) (aD.err 20) (fun vs=>aD.ok (.func f [] vs) _)=_;rw[I,cA]
theorem vi_nilckV{x:aG}{b o:Nat}(G:x.vv VE=some (.vp b o))(I:Q (.vp b o) B):VI T (.sj x) VE B [] Q:=fun _ _ _ _ _ z=>by
 obtain⟨a,L,h2⟩:=z.bC G;have A:=h2;simp only[aE] at A;refine eG (v:=a) (fun call=>?_) (du z h2 I);show bq x _ (.err 19) (fun v=>aJ (CQ v) (.ok v _) (.err 19))=_;rw[cQ,L,cA,A];rfl
theorem vi_nilckR{x:aG}{row:List DC}{o:Nat}(G:x.vv VE=some (.rp row o))(I:Q (.rp row o) B):VI T (.sj x) VE B [] Q:=fun _ _ _ _ _ A=>by
 obtain⟨a,L,h2⟩:=A.bC G;have z:=h2;simp only[aE] at z;obtain⟨f,g,q,l,z,_⟩:=z;refine eG (v:=a) (fun call=>?_) (du A h2 I);show bq x _ (.err 19) (fun v=>aJ (CQ v) (.ok v _) (.err 19))=_;rw[cQ,L,cA,z];rfl
theorem vi_nilckB{x:aG}{b g q o es:Nat}(G:x.vv VE=some (.bp b g q o es))(I:Q (.bp b g q o es) B):VI T (.sj x) VE B [] Q:=fun _ _ _ _ _ z=>by
 obtain⟨a,L,h2⟩:=z.bC G;have A:=h2;simp only[aE] at A;refine eG (v:=a) (fun call=>?_) (du z h2 I);show bq x _ (.err 19) (fun v=>aJ (CQ v) (.ok v _) (.err 19))=_;rw[cQ,L,cA,A];rfl
theorem vi_nilckF{x:aG}{f:Nat}{c:List VV}(G:x.vv VE=some (.fn f c))(I:Q (.fn f c) B):VI T (.sj x) VE B [] Q:=fun _ _ _ _ _ A=>by
 obtain⟨a,L,h2⟩:=A.bC G;have z:=h2;simp only[aE] at z;obtain⟨cs,z,_⟩:=z;refine eG (v:=a) (fun call=>?_) (du A h2 I);show bq x _ (.err 19) (fun v=>aJ (CQ v) (.ok v _) (.err 19))=_;rw[cQ,L,cA,z];rfl
def Uk:VV→Option Bool
 |.k .kJ=>some true
 |.jH=>some false
 |_=>none
theorem vi_ifNil{neg:Bool}{x y:aG}{v:VV}{t:Bool}(I:x.vv VE=some v)(L:y.vv VE=some (.k .kJ))(z:Uk v=some t)(M:Q (.d (.b (Bool.xor neg t))) B):VI T (.eqv .iface neg x y) VE B [] Q:=fun _ _ _ _ _ A=>by
 obtain⟨a,O,h2⟩:=A.bC I;obtain⟨c,U,G⟩:=A.bC L;simp only[aE] at G;subst G;have Y:qc .iface a .kJ=some t:=by
  cases v with
  |jH=>simp only[aE] at h2;obtain⟨_,_,rfl⟩:=h2;cases z;rfl
  |k x=>
   simp only[aE] at h2;subst h2
   cases a<;>simp only[Uk,reduceCtorEq,eE] at z
   subst z;rfl
  |_=>cases z
 exact Lb O U Y (du A (v:=.d (.b (Bool.xor neg t))) (by simp only[aE,bA]) M)
end
@[reducible] def dI(x:Int):VV:=.d (.i .i64 x)
@[reducible] def dS(x:List UInt8):VV:=.d (aw x)
@[reducible] def dB(x:Bool):VV:=.d (.b x)
@[reducible] def dN:VV:=.d .nil
@[reducible] def d0:VV:=.d (.i .i64 0)
@[reducible] def i0:DC:=.i .i64 0
@[reducible] def zS:List VV:=[d0,d0,d0,d0,dN,dN,dS [],dS [],dN,d0,d0,dN,d0,dN,dN,dN,dN,dN,d0,d0,d0]
variable{T:aL}{VE:bb}{B:aK}{Q:bb→aK→Prop}
theorem KN{call:dQ}{E:Env}{H H1:ax}{n:Nat}{w:Bool}{a:aG}{f g o:Nat}{v:ai}(z:a.ev E=some (.ptr f g o))(h:(br.load n w a).ev call E H= .ok v H1):H1=H:=by
 have key:PS H ((br.load n w a).ev call E H):=by
  rw[RF z];exact PS.kU (fun _ _ _ _ _ _ _=>PS.aJ (PS.aJ (PS.aJ (PS.aJ (PS.ob (fun _=>PS.aJ (PS.fT (fun _=>PS.ok) PS.err) (PS.fT (fun _=>PS.ok) PS.err)) PS.err) PS.err) PS.err) PS.err) PS.err) PS.err
 exact key _ _ h
theorem vq_markL{fl:List FL}{d:Key}{l:List Nat}{n:Nat}{w:Bool}{a:aG}{b o:Nat}{s:BS}{r:List bl}(ha:a.vv VE=some (.vp b o))(U:aF B b=some s)(Y:s.born)(hk:mX [] l fl=true)(h:VI T (.load n w a) VE B [] fun v B'=>VQ T r ((d.n,v)::VE) B' (.rd [b]::fl) Q):VQ T (⟨some d,none,some l,.load n w a⟩::r) VE B fl Q:=by
 intro H0 X0 E H β A bf L;obtain⟨N,v0,H',e,M,v,B',β',Z,O,hv,hq⟩:=ve h A;obtain⟨x,hx,G⟩:=A.bC ha;simp only[aE] at G;subst G;have z:H'=H.mark:=KN hx (e N N (bd _) (bd _));have I:H.mark.ws=[]∧H.mark.next=H.next:=by cases H;exact⟨rfl,rfl⟩
 have k:sG H.next B β (.rd [b]) ⟨(br.load n w a).reads E,H'.ws,H.next,H'.next⟩:=by
  refine⟨by rw[z];exact I.1,by show H.next=H'.next;rw[z];exact I.2.symm,[β b],?_,fun f L=>?_⟩
  ·show some (iB (a.ev E))=_;rw[hx];rfl
  rcases List.mem_singleton.1 L with rfl
  exact⟨(A.new b s U Y).2,fun c t M h2 h3=>List.mem_singleton.2 (A.inj c b t s M U h2 Y h3)⟩
 obtain⟨N2,E2,H2,e2,hp⟩:=hq H0 X0 _ _ β' (O.set hv) (⟨(br.load n w a).reads E,H'.ws,H.next,H'.next⟩::bf) ((L.cons k).step Z);refine⟨max N N2,E2,H2,fun lf n a1 a2=>?_,hp.of Z A.aS⟩;show bl.jB (T.call lf n) ⟨some d,none,some l,_⟩ E H bf (iS (T.call lf n) r)=_;rw[uU,uV (e lf n an an) (xq L M hk)];exact e2 lf n an an
theorem Rel.aee{H0:Nat→Nat}{X0:Nat→Prop}{E:Env}{H:ax}{β:Nat→Nat}(h:Rel H0 X0 VE B E H β){b i g e I elem aC es:Nat}{row:List VV}(O:aF B b=some (.one e I row))(hi:row[i]?=some (.d .nil))(hg:aF B g=none):Rel H0 X0 VE ((g,.acc elem aC es [])::(b,.one e I (row.set i (.ac g 0 es)))::B) E H β:=by
 have hgb:g≠b:=fun k=>by rw[k,O] at hg;cases hg
 have M:∀c s,aF ((g,BS.acc elem aC es [])::(b,BS.one e I (row.set i (.ac g 0 es)))::B) c=some s→s.born→∃t,aF B c=some t∧t.born:=fun c s z ho=>by
  rw[cP] at z
  by_cases L:g=c
  ·rw[bg L] at z;cases z;exact absurd rfl ho
  rw[aX L,cP] at z
  by_cases k:b=c
  ·subst k;exact⟨_,O,trivial⟩
  rw[aX k] at z;exact⟨s,z,ho⟩
 have hX:∀f,XB X0 ((g,BS.acc elem aC es [])::(b,BS.one e I (row.set i (.ac g 0 es)))::B) β f→XB X0 B β f:=fun f U=>U.imp id fun⟨c,s,Y,ho,h2⟩=>by
  obtain⟨t,A,G⟩:=M c s Y ho;exact⟨c,t,A,G,h2⟩
 have Z:eJ H (XB X0 B β) H (XB X0 ((g,BS.acc elem aC es [])::(b,BS.one e I (row.set i (.ac g 0 es)))::B) β):=⟨bd _,fun f _ U=>⟨fun k=>U (hX f k),rfl⟩⟩;refine⟨h.jr,h.aS,h.x0,fun c s z ho=>?_,fun c d s t z lU hs ht he=>?_,fun k v hk=>?_,fun c s z=>?_⟩
 ·obtain⟨t,A,G⟩:=M c s z ho;exact h.new c t A G
 ·obtain⟨s',A,G⟩:=M c s z hs;obtain⟨t',k3,k4⟩:=M d t lU ht;exact h.inj c d s' t' A k3 G k4 he
 ·obtain⟨a,Y,h2⟩:=h.env k v hk;exact⟨a,Y,h2.lift Z⟩
 rw[cP] at z
 by_cases L:g=c
 ·rw[bg L] at z;cases z;exact .inl rfl
 rw[aX L,cP] at z
 by_cases k:b=c
 ·subst k;rw[bg rfl] at z
  cases z
  obtain⟨l,lo,cs,A,G,k3,k4⟩:=h.box b _ O;exact⟨l,lo,cs,A,G,k3,bc.lift Z (bc.setAt (new:=.ac g 0 es) (fun a ha=>by simp only[aE,bA] at ha⊢;exact .inl ⟨trivial,ha⟩) k4 hi)⟩
 rw[aX k] at z;exact(h.box c s z).lift Z rfl
variable{T:aL}{VE:bb}{B:aK}{Q:bb→aK→Prop}
def ai9(op:BinOp)(a b:Int):Option Bool:=match op with
 |.lss=>some (decide (a<b))
 |.gtr=>some (decide (b<a))
 |.leq=>some (decide (a≤b))
 |.geq=>some (decide (b≤a))
 |.eql=>some (decide (a=b))
 |.neq=>some (!decide (a=b))
 |_=>none
def gd{α:Type}(b:Bool)(x:Option α):Option α:=bif b then x else none
theorem nH{α:Type}{b:Bool}{x:Option α}{y:α}(h:gd b x=some y):b=true∧x=some y:=by
 cases b
 ·cases h
 exact⟨rfl,h⟩
theorem jD{a b:Bool}(h:(a&&b)=true):a=true∧b=true:=by simpa using h
def ib(VE:bb)(B:aK)(d:Nat):br→Option (VV×aK×List Nat)
 |.eb x=>(x.vv VE).bind fun v=>some (v,B,[])
 |.eY x k=>match x.vv VE with
  |some (.vp b o)=>some (.vp b (o+k),B,[])
  |some (.rp row o)=>some (.rp row (o+k),B,[])
  |some (.bp b g j o es)=>some (.bp b g j (o+k) es,B,[])
  |_=>none
 |.load n w a=>match a.vv VE with
  |some (.vp b o)=>match aF B b with
   |some (.one _ _ row)=>match w with
    |true=>gd (Nat.ble 1 n&&Nat.ble (o+n) row.length) (some (.agg ((row.drop o).take n),B,[]))
    |false=>gd (Nat.beq n 1) ((row[o]?).bind fun v=>some (v,B,[]))
   |_=>none
  |some (.rp row o)=>match w with
   |true=>gd (Nat.ble 1 n&&Nat.ble (o+n) row.length) (some (.agg (((row.drop o).take n).map .d),B,[]))
   |false=>gd (Nat.beq n 1) ((row[o]?).bind fun v=>some (.d v,B,[]))
  |_=>none
 |.store n a x=>match a.vv VE with
  |some (.vp b o)=>match aF B b with
   |some (.one e G row)=>(x.vv VE).bind fun v=>v.cells.bind fun new=>gd (Nat.beq new.length n&&(Nat.ble 1 n&&Nat.ble (o+n) row.length)) (some (.undef,(b,.one e G (VM row o new))::B,[b]))
   |_=>none
  |_=>none
 |.build zero ps=>(pv zero).bind fun z=>(C7 VE ps z).bind fun out=>some (.agg out,B,[])
 |.box elem es aC x=>gd (j0 d VE&&fX d B) ((x.vv VE).bind fun v=>v.cells.bind fun c=>gd (Nat.beq c.length es) (some (.vp d 0,(d,.one elem aC c)::B,[])))
 |.pN elem es aC l=>gd (j0 d VE&&(fX d B&&Nat.beq l.length es)) ((pv l).bind fun c=>some (.vp d 0,(d,.one elem aC c)::B,[]))
 |.tK elem es aC A zero ps=>gd (j0 d VE&&(fX d B&&Nat.beq zero.length es)) ((pv zero).bind fun z=>(gG z).bind fun I=>(zO VE es A ps (List.replicate A I)).bind fun rows=>some (.bs d A es,(d,.arr elem aC es A rows)::B,[]))
 |.sj x=>match x.vv VE with
  |some (.vp b o)=>some (.vp b o,B,[])
  |some (.rp row o)=>some (.rp row o,B,[])
  |some (.bp b g q o es)=>some (.bp b g q o es,B,[])
  |some (.fn f c)=>some (.fn f c,B,[])
  |_=>none
 |.sub x off n w=>match x.vv VE with
  |some (.agg l)=>match w with
   |true=>gd (Nat.ble (off+n) l.length) (some (.agg ((l.drop off).take n),B,[]))
   |false=>gd (Nat.beq n 1) ((l[off]?).bind fun v=>some (v,B,[]))
  |_=>none
 |.vS x i=>match x.vv VE with
  |some (.tuple l)=>(l[i]?).bind fun v=>some (v,B,[])
  |_=>none
 |.un op x=>match op with
  |.not=>match x.vv VE with|some (.d (.b b))=>some (.d (.b (!b)),B,[])|_=>none
  |_=>none
 |.yF f first l=>match first with
  |[]=>(oK VE l).bind fun c=>some (.fn f c,B,[])
  |_=>none
 |.len x=>match x.vv VE with
  |some (.d (.sl rows))=>some (.d (.i .i64 rows.length),B,[])
  |some (.d .nil)=>some (.d (.i .i64 0),B,[])
  |some (.bs _ n _)=>some (.d (.i .i64 n),B,[])
  |some (.ac _ n _)=>some (.d (.i .i64 n),B,[])
  |_=>none
 |.um x=>match x.vv VE with|some (.d (.s l _))=>some (.d (.i .i64 l),B,[])|_=>none
 |.conv k x=>match x.vv VE with|some (.d (.i _ n))=>some (.d (.i k (k.wrap n)),B,[])|_=>none
 |.bin op x y=>match x.vv VE with
  |some (.d (.i k a))=>match y.vv VE with
   |some (.d (.i L b))=>if L=k then(ai9 op a b).bind fun r=>some (.d (.b r),B,[]) else none
   |_=>none
  |_=>none
 |.pick c x y=>match c.vv VE with
  |some (.d (.b true))=>(x.vv VE).bind fun v=>some (v,B,[])
  |some (.d (.b false))=>(y.vv VE).bind fun v=>some (v,B,[])
  |_=>none
 |.eqv c neg x y=>match c with
  |.iface=>match y.vv VE with
   |some (.k .kJ)=>(x.vv VE).bind fun v=>(Uk v).bind fun t=>some (.d (.b (Bool.xor neg t)),B,[])
   |_=>none
  |_=>none
 |_=>none
theorem iO{d:Nat}{op:br}{v:VV}{B':aK}{W:List Nat}{R:VV→aK→Prop}(h:ib VE B d op=some (v,B',W))(G:R v B'):VI T op VE B W R:=by
 cases op with
 |eb x=>
  obtain⟨u,A,h⟩:=Option.bind_eq_some_iff.1 h
  cases h;exact As A G
 |eY x k=>
  simp only[ib] at h
  split at h
  ·rename_i A;cases h;exact va A G
  ·rename_i A;cases h;exact vi_offsR A G
  ·rename_i A;cases h;exact vi_offsB A G
  cases h
 |load n w a=>
  simp only[ib] at h
  split at h
  ·rename_i A
   split at h
   ·rename_i Y
    cases w with
    |true=>
     obtain⟨I,h2⟩:=nH h;obtain⟨I,L⟩:=jD I
     cases h2
     exact KI A Y (aV I) (aV L) G
    |false=>
     obtain⟨I,h2⟩:=nH h;obtain⟨u,L,M⟩:=Option.bind_eq_some_iff.1 h2;obtain rfl:=cW I
     cases M
     exact kI A Y L G
   cases h
  ·rename_i A
   cases w with
   |true=>
    obtain⟨I,h2⟩:=nH h;obtain⟨I,L⟩:=jD I
    cases h2
    exact ia A (aV I) (aV L) G
   |false=>
    obtain⟨I,h2⟩:=nH h;obtain⟨u,L,M⟩:=Option.bind_eq_some_iff.1 h2;obtain rfl:=cW I
    cases M
    exact dy A L G
  cases h
 |store n a x=>
  simp only[ib] at h
  split at h
  ·rename_i ha
   split at h
   ·rename_i Y;obtain⟨u,A,h⟩:=Option.bind_eq_some_iff.1 h;obtain⟨new,hv,h⟩:=Option.bind_eq_some_iff.1 h;obtain⟨I,h2⟩:=nH h;obtain⟨I,L⟩:=jD I;obtain⟨L,M⟩:=jD L
    cases h2
    exact vi_storeV ha Y A hv (cW I) (aV L) (aV M) G
   cases h
  cases h
 |build zero ps=>
  obtain⟨z,Z,h⟩:=Option.bind_eq_some_iff.1 h;obtain⟨out,Y,h⟩:=Option.bind_eq_some_iff.1 h
  cases h;exact vi_build Z Y G
 |box elem es aC x=>
  obtain⟨I,h⟩:=nH h;obtain⟨I,h2⟩:=jD I;obtain⟨u,A,h⟩:=Option.bind_eq_some_iff.1 h;obtain⟨c,U,h⟩:=Option.bind_eq_some_iff.1 h;obtain⟨L,h⟩:=nH h
  cases h;exact vi_box d I h2 A U (cW L) G
 |pN elem es aC l=>
  obtain⟨I,h⟩:=nH h;obtain⟨I,h2⟩:=jD I;obtain⟨h2,L⟩:=jD h2;obtain⟨c,U,h⟩:=Option.bind_eq_some_iff.1 h
  cases h;exact vi_boxz d I h2 U (cW L) G
 |tK elem es aC ln zero ps=>
  obtain⟨I,h⟩:=nH h;obtain⟨I,h2⟩:=jD I;obtain⟨h2,L⟩:=jD h2;obtain⟨z,Z,h⟩:=Option.bind_eq_some_iff.1 h;obtain⟨zd,hd,h⟩:=Option.bind_eq_some_iff.1 h;obtain⟨rows,hr,h⟩:=Option.bind_eq_some_iff.1 h
  cases h;exact ZB d I h2 Z hd (cW L) hr G
 |sj x=>
  simp only[ib] at h
  split at h
  ·rename_i A;cases h;exact vi_nilckV A G
  ·rename_i A;cases h;exact vi_nilckR A G
  ·rename_i A;cases h;exact vi_nilckB A G
  ·rename_i A;cases h;exact vi_nilckF A G
  cases h
 |sub x off n w=>
  simp only[ib] at h
  split at h
  ·rename_i A
   cases w with
   |true=>
    obtain⟨I,h2⟩:=nH h
    cases h2;exact vi_subA A I G
   |false=>
    obtain⟨I,h2⟩:=nH h;obtain⟨u,L,M⟩:=Option.bind_eq_some_iff.1 h2;obtain rfl:=cW I
    cases M;exact vi_sub1 A L G
  cases h
 |vS x i=>
  simp only[ib] at h
  split at h
  ·rename_i A;obtain⟨u,L,M⟩:=Option.bind_eq_some_iff.1 h
   cases M;exact vi_extr A L G
  cases h
 |un op x=>
  simp only[ib] at h
  split at h
  ·split at h
   ·rename_i A;cases h;exact SA A G
   cases h
  cases h
 |yF f first l=>
  simp only[ib] at h
  split at h
  ·obtain⟨u,L,M⟩:=Option.bind_eq_some_iff.1 h
   cases M;exact vi_mkfn L G
  cases h
 |len x=>
  simp only[ib] at h
  split at h
  ·rename_i A;cases h;exact ad8 A G
  ·rename_i A;cases h;exact Ad A G
  ·rename_i A;cases h;exact Gc A G
  ·rename_i A;cases h;exact abW A G
  cases h
 |um x=>
  simp only[ib] at h
  split at h
  ·rename_i A;cases h;exact vi_lenS A G
  cases h
 |conv k x=>
  simp only[ib] at h
  split at h
  ·rename_i A;cases h;exact abV A G
  cases h
 |bin op x y=>
  simp only[ib] at h
  split at h
  ·rename_i A
   split at h
   ·rename_i O
    split at h
    ·rename_i hk;subst hk;obtain⟨r,L,M⟩:=Option.bind_eq_some_iff.1 h
     cases M
     cases op<;>simp only[ai9] at L<;>(first|cases L)<;>first|exact aeb A O G|exact aec A O G|exact aed A O G|exact vi_geK A O G|exact LX A O G|exact vi_neK A O G
    cases h
   cases h
  cases h
 |pick c x y=>
  simp only[ib] at h
  split at h
  ·rename_i U;obtain⟨u,L,M⟩:=Option.bind_eq_some_iff.1 h
   cases M;exact Ra U L G
  ·rename_i U;obtain⟨u,L,M⟩:=Option.bind_eq_some_iff.1 h
   cases M;exact aaV U L G
  cases h
 |eqv c neg x y=>
  simp only[ib] at h
  split at h
  ·split at h
   ·rename_i O;obtain⟨u,A,h⟩:=Option.bind_eq_some_iff.1 h;obtain⟨t,ht,h⟩:=Option.bind_eq_some_iff.1 h
    cases h;exact vi_ifNil A O ht G
   cases h
  cases h
 |_=>cases h
def I9(VE:bb)(v:VV):Option Key→bb
 |some k=>(k.n,v)::VE
 |none=>VE
def t5:Nat→List bl→bb→aK→Option (bb×aK×List bl)
 |0,ops,VE,B=>some (VE,B,ops)
 |_+1,[],_,_=>none
 |n+1,⟨d,g,_,op⟩::r,VE,B=>match g with
  |some _=>none
  |none=>match d with
   |some d=>match ib VE B d.n op with
    |some (v,B',_)=>t5 n r ((d.n,v)::VE) B'
    |none=>none
   |none=>match ib VE B 0 op with
    |some (_,B',_)=>t5 n r VE B'
    |none=>none
theorem di(n:Nat){ops:List bl}{bj:bb}{B':aK}{r:List bl}(h:t5 n ops VE B=some (bj,B',r))(k:VO T r bj B' Q):VO T ops VE B Q:=by
 induction n generalizing ops VE B with
 |zero=>cases h;exact k
 |succ n A=>
  cases ops with
  |nil=>cases h
  |cons o rest=>
   obtain⟨d,g,q,op⟩:=o
   cases g with
   |some _=>cases h
   |none=>
    cases d with
    |some d=>
     simp only[t5] at h
     split at h
     ·rename_i v B1 W z;exact aq (iO z (A h))
     cases h
    |none=>
     simp only[t5] at h
     split at h
     ·rename_i v B1 W z;exact iT (iO z (A h))
     cases h
def Ul(VE:bb)(B:aK)(W:List Nat):br→FL
 |.load _ _ a=>match a.vv VE with
  |some (.vp b _)=>match aF B b with
   |some (.one _ _ _)=>.rd [b]
   |_=>uo W
  |_=>uo W
 |_=>uo W
def vI:Nat→List bl→bb→aK→List FL→Option (bb×aK×List FL×List bl)
 |0,ops,VE,B,fl=>some (VE,B,fl,ops)
 |_+1,[],_,_,_=>none
 |n+1,⟨d,g,q,op⟩::r,VE,B,fl=>match g with
  |some _=>none
  |none=>match d with
   |some d=>match ib VE B d.n op with
    |some (v,B',W)=>match q with
     |none=>vI n r ((d.n,v)::VE) B' fl
     |some l=>gd (mX W l fl) (vI n r ((d.n,v)::VE) B' (Ul VE B W op::fl))
    |none=>none
   |none=>match ib VE B 0 op with
    |some (_,B',W)=>match q with
     |none=>none
     |some l=>gd (mX W l fl) (vI n r VE B' (uo W::fl))
    |none=>none
theorem vq_markF{fl:List FL}{d:Key}{l:List Nat}{op:br}{W:List Nat}{r:List bl}{v:VV}{B':aK}(z:ib VE B d.n op=some (v,B',W))(A:mX W l fl=true)(h:VQ T r ((d.n,v)::VE) B' (Ul VE B W op::fl) Q):VQ T (⟨some d,none,some l,op⟩::r) VE B fl Q:=by
 cases op with
 |load n w a=>
  simp only[Ul] at h
  split at h
  ·rename_i G
   split at h
   ·rename_i I;have L:W=[]:=by
     simp only[ib,G,I] at z
     cases w
     ·obtain⟨_,z⟩:=nH z;obtain⟨u,_,M⟩:=Option.bind_eq_some_iff.1 z
      cases M;rfl
     obtain⟨_,z⟩:=nH z
     cases z;rfl
    subst L;exact vq_markL G I trivial A (iO z h)
   exact aO A (iO z h)
  exact aO A (iO z h)
 |_=>exact aO A (iO z h)
theorem kA(n:Nat){ops:List bl}{fl lV:List FL}{bj:bb}{B':aK}{r:List bl}(h:vI n ops VE B fl=some (bj,B',lV,r))(k:VQ T r bj B' lV Q):VQ T ops VE B fl Q:=by
 induction n generalizing ops VE B fl with
 |zero=>cases h;exact k
 |succ n A=>
  cases ops with
  |nil=>cases h
  |cons o rest=>
   obtain⟨d,g,q,op⟩:=o
   cases g with
   |some _=>cases h
   |none=>
    cases d with
    |some d=>
     simp only[vI] at h
     split at h
     ·rename_i v B1 W z
      cases q with
      |none=>exact aU (iO z (A h))
      |some l=>
       obtain⟨G,I⟩:=nH h;exact vq_markF z G (A I)
     cases h
    |none=>
     simp only[vI] at h
     split at h
     ·rename_i v B1 W z
      cases q with
      |none=>cases h
      |some l=>
       obtain⟨G,I⟩:=nH h;exact gX G (iO z (A I))
     cases h
theorem dq{a:List bl}{c:IC}{R:Ex→bb→aK→Prop}(h:VO T a VE B fun bj B'=>VC T c bj B' R):VC T (.seq (.region false a) c) VE B R:=eR (iu h)
theorem A2{a:List bl}{c:IC}{R:Ex→bb→aK→Prop}(h:VQ T a VE B [] fun bj B'=>VC T c bj B' R):VC T (.seq (.region true a) c) VE B R:=eR (rX h)
theorem bZ(n:Nat){ops:List bl}{bj:bb}{B':aK}(h:t5 n ops VE B=some (bj,B',[]))(k:Q bj B'):VO T ops VE B Q:=di n h (mc k)
theorem yb(n:Nat){ops:List bl}{fl lV:List FL}{bj:bb}{B':aK}(h:vI n ops VE B fl=some (bj,B',lV,[]))(k:Q bj B'):VQ T ops VE B fl Q:=kA n h (Ar k)
section
variable{T:aL}{VE:bb}{B:aK}{Q:bb→aK→Prop}
theorem lI{d g:Key}{want t:Bool}{qq:Option (List Nat)}{op:br}{r:List bl}(A:aF VE g.n=some (.d (.b t)))(G:t=!want)(h:VO T r ((d.n,.k .undef)::VE) B Q):VO T (⟨some d,some (g,want),qq,op⟩::r) VE B Q:=by
 intro H0 X0 E H β z;refine wpO_skip (z.bool A) (by rw[G];cases want<;>decide) ?_;exact h H0 X0 _ H β (z.set (by simp only[aE]))
theorem iv{d g:Key}{want:Bool}{qq:Option (List Nat)}{op:br}{r:List bl}(A:aF VE g.n=some (.k .undef))(h:VO T r ((d.n,.k .undef)::VE) B Q):VO T (⟨some d,some (g,want),qq,op⟩::r) VE B Q:=by
 intro H0 X0 E H β z;obtain⟨a,G,h2⟩:=z.env g _ A;simp only[aE] at h2;subst h2;obtain⟨I,L,M,b,c⟩:=h H0 X0 (E.set d .undef) H β (z.set (by simp only[aE]));refine⟨I,L,M,fun lf n O U=>?_,c⟩;show ob (E.get g) (.err 51) (fun v=>yG v (iA (some d) E H fun E H=>nc (T.call lf n) r E H) fun b=>aJ (Bool.xor b want) (iA (some d) E H fun E H=>nc (T.call lf n) r E H) (fin (some d) E (fun E H=>nc (T.call lf n) r E H) (op.ev (T.call lf n) E H)))=_;rw[G,cA];show iA (some d) E H (fun E H=>nc (T.call lf n) r E H)=_;rw[xp];exact b lf n O U
end
variable{T:aL}
theorem wpI_idxArr{E:Env}{H:ax}{x i:aG}{z es f g o:Nat}{k:IntKind}{j:Nat}{Q:ai→ax→Prop}(G:x.ev E=some (.ptr f g o))(hi:i.ev E=some (.int k (j:Int)))(I:j<z)(L:Q (.ptr f g (o+j*es)) H):gF T (.An z es x i) E H Q:=
 eG (fun _=>by
  show bq x E (.err 11) (fun v=>jk v (.err 11) fun f g off=>bq i E (.err 11) fun A=>idx A z (.err 11) fun j=>ch (Nat.add off (Nat.mul j es)) fun off=>.ok (.ptr f g off) H)=_;rw[cQ,G,cA];show bq i E (.err 11) (fun A=>idx A z (.err 11) fun j=>ch (Nat.add o (Nat.mul j es)) fun off=>.ok (.ptr f g off) H)=_;rw[cQ,hi,cA];show aJ (Nat.ble (Nat.succ j) z) (ch (o+j*es) fun off=>aD.ok (.ptr f g off) H) (aD.err 11)=_
  rw[fR I,fc];rfl) L
variable{VE:bb}{B:aK}{Q:VV→aK→Prop}
theorem bJ{x i:aG}{G es b o j:Nat}{k:IntKind}(I:x.vv VE=some (.vp b o))(hi:i.vv VE=some (.d (.i k (j:Int))))(L:j<G)(M:Q (.vp b (o+j*es)) B):VI T (.An G es x i) VE B [] Q:=fun _ _ _ _ _ z=>by
 obtain⟨_,O,h2⟩:=z.bC I;obtain⟨_,U,A⟩:=z.bC hi;simp only[aE] at h2 A;simp only[bA] at A;subst A;subst h2;exact wpI_idxArr O U L (du z (v:=.vp b (o+j*es)) (by simp only[aE]) M)
end Go.Ev
namespace Go.Ev.Pp
open Go Go.Proofs
@[reducible] def aW(f:Func)(x:aQ)(_h:vX Tryz.prog f=some x:=by conv=>lhs;reduce):aQ:=x
@[reducible] def mkV(f:Func)(x:aQ)(_h:vX Tryz.prog f=some x:=by conv=>lhs;cbv):aQ:=x
def i4:aQ:=aW Tryz.f4 _
def i5:aQ:=aW Tryz.f5 _
def i6:aQ:=aW Tryz.f6 _
def i9:aQ:=aW Tryz.f9 _
def i10:aQ:=aW Tryz.f10 _
def i11:aQ:=aW Tryz.f11 _
def i12:aQ:=aW Tryz.f12 _
def i13:aQ:=aW Tryz.f13 _
def i14:aQ:=aW Tryz.f14 _
def i15:aQ:=aW Tryz.f15 _
def i16:aQ:=aW Tryz.f16 _
def i17:aQ:=aW Tryz.f17 _
def i18:aQ:=aW Tryz.f18 _
def i19:aQ:=aW Tryz.f19 _
def i20:aQ:=aW Tryz.f20 _
def i21:aQ:=aW Tryz.f21 _
def i22:aQ:=aW Tryz.f22 _
def i23:aQ:=aW Tryz.f23 _
def i24:aQ:=aW Tryz.f24 _
def i25:aQ:=aW Tryz.f25 _
def i26:aQ:=aW Tryz.f26 _
def i27:aQ:=aW Tryz.f27 _
def i28:aQ:=aW Tryz.f28 _
def i29:aQ:=aW Tryz.f29 _
def i30:aQ:=aW Tryz.f30 _
def i31:aQ:=aW Tryz.f31 _
def i32:aQ:=aW Tryz.f32 _
def i33:aQ:=aW Tryz.f33 _
def i34:aQ:=aW Tryz.f34 _
def i35:aQ:=aW Tryz.f35 _
def i36:aQ:=aW Tryz.f36 _
def i37:aQ:=aW Tryz.f37 _
def i38:aQ:=aW Tryz.f38 _
def i39:aQ:=aW Tryz.f39 _
def i40:aQ:=aW Tryz.f40 _
def i41:aQ:=aW Tryz.f41 _
def i42:aQ:=aW Tryz.f42 _
def i43:aQ:=aW Tryz.f43 _
def i46:aQ:=aW Tryz.f46 _
def i47:aQ:=aW Tryz.f47 _
def i48:aQ:=aW Tryz.f48 _
def i49:aQ:=aW Tryz.f49 _
def i50:aQ:=aW Tryz.f50 _
def i51:aQ:=aW Tryz.f51 _
def i52:aQ:=aW Tryz.f52 _
def i53:aQ:=aW Tryz.f53 _
def i54:aQ:=aW Tryz.f54 _
def i55:aQ:=aW Tryz.f55 _
def i56:aQ:=aW Tryz.f56 _
def i57:aQ:=aW Tryz.f57 _
def i58:aQ:=aW Tryz.f58 _
def i59:aQ:=aW Tryz.f59 _
def i60:aQ:=aW Tryz.f60 _
def i61:aQ:=aW Tryz.f61 _
def i62:aQ:=aW Tryz.f62 _
def i63:aQ:=aW Tryz.f63 _
def i64:aQ:=aW Tryz.f64 _
def i65:aQ:=aW Tryz.f65 _
def i66:aQ:=aW Tryz.f66 _
def i67:aQ:=aW Tryz.f67 _
def i68:aQ:=aW Tryz.f68 _
def i69:aQ:=aW Tryz.f69 _
def i70:aQ:=aW Tryz.f70 _
def i71:aQ:=aW Tryz.f71 _
open Go Go.Proofs
def i72:aQ:=aW Tryz.f72 _
def i73:aQ:=aW Tryz.f73 _
def i74:aQ:=aW Tryz.f74 _
def i76:aQ:=aW Tryz.f76 _
def i77:aQ:=aW Tryz.f77 _
def i78:aQ:=aW Tryz.f78 _
def i79:aQ:=aW Tryz.f79 _
def i80:aQ:=aW Tryz.f80 _
def i81:aQ:=aW Tryz.f81 _
def i82:aQ:=aW Tryz.f82 _
def i83:aQ:=aW Tryz.f83 _
def i84:aQ:=aW Tryz.f84 _
def i85:aQ:=aW Tryz.f85 _
def i86:aQ:=aW Tryz.f86 _
def i87:aQ:=aW Tryz.f87 _
def i88:aQ:=aW Tryz.f88 _
def i89:aQ:=aW Tryz.f89 _
def i90:aQ:=aW Tryz.f90 _
def i91:aQ:=aW Tryz.f91 _
def i92:aQ:=aW Tryz.f92 _
def i93:aQ:=aW Tryz.f93 _
def i94:aQ:=aW Tryz.f94 _
def i95:aQ:=aW Tryz.f95 _
def i96:aQ:=aW Tryz.f96 _
def i97:aQ:=aW Tryz.f97 _
def i98:aQ:=aW Tryz.f98 _
def i99:aQ:=aW Tryz.f99 _
def i100:aQ:=aW Tryz.f100 _
def i101:aQ:=aW Tryz.f101 _
def i102:aQ:=aW Tryz.f102 _
def i103:aQ:=aW Tryz.f103 _
def i104:aQ:=aW Tryz.f104 _
def i105:aQ:=aW Tryz.f105 _
def i106:aQ:=aW Tryz.f106 _
def i107:aQ:=aW Tryz.f107 _
def i108:aQ:=aW Tryz.f108 _
def i109:aQ:=aW Tryz.f109 _
def i110:aQ:=aW Tryz.f110 _
def i111:aQ:=aW Tryz.f111 _
def i112:aQ:=aW Tryz.f112 _
def i113:aQ:=aW Tryz.f113 _
def i114:aQ:=aW Tryz.f114 _
def i115:aQ:=aW Tryz.f115 _
def i116:aQ:=aW Tryz.f116 _
def i118:aQ:=aW Tryz.f118 _
def i119:aQ:=aW Tryz.f119 _
def i120:aQ:=aW Tryz.f120 _
def i121:aQ:=aW Tryz.f121 _
def i122:aQ:=aW Tryz.f122 _
def i123:aQ:=aW Tryz.f123 _
def i124:aQ:=aW Tryz.f124 _
def i125:aQ:=aW Tryz.f125 _
def i126:aQ:=aW Tryz.f126 _
def i131:aQ:=aW Tryz.f131 _
def i134:aQ:=aW Tryz.f134 _
def i135:aQ:=aW Tryz.f135 _
def i136:aQ:=aW Tryz.f136 _
def i137:aQ:=aW Tryz.f137 _
def i138:aQ:=aW Tryz.f138 _
def i139:aQ:=aW Tryz.f139 _
def i140:aQ:=aW Tryz.f140 _
def i141:aQ:=aW Tryz.f141 _
def i142:aQ:=aW Tryz.f142 _
def i143:aQ:=aW Tryz.f143 _
open Go Go.Proofs
def i144:aQ:=aW Tryz.f144 _
def i145:aQ:=aW Tryz.f145 _
def i146:aQ:=aW Tryz.f146 _
def i147:aQ:=aW Tryz.f147 _
def i148:aQ:=aW Tryz.f148 _
def i149:aQ:=aW Tryz.f149 _
def i150:aQ:=aW Tryz.f150 _
def i151:aQ:=aW Tryz.f151 _
def aja:aQ:=aW Tryz.f152 _
def i153:aQ:=aW Tryz.f153 _
def i154:aQ:=aW Tryz.f154 _
def i163:aQ:=aW Tryz.f163 _
def i164:aQ:=aW Tryz.f164 _
def i165:aQ:=aW Tryz.f165 _
def i166:aQ:=aW Tryz.f166 _
def i167:aQ:=aW Tryz.f167 _
def i168:aQ:=aW Tryz.f168 _
def i169:aQ:=aW Tryz.f169 _
def i170:aQ:=aW Tryz.f170 _
def i171:aQ:=aW Tryz.f171 _
def i172:aQ:=aW Tryz.f172 _
def i173:aQ:=aW Tryz.f173 _
def i174:aQ:=aW Tryz.f174 _
def i175:aQ:=aW Tryz.f175 _
def i176:aQ:=aW Tryz.f176 _
def i177:aQ:=aW Tryz.f177 _
def i178:aQ:=aW Tryz.f178 _
def i179:aQ:=aW Tryz.f179 _
def i180:aQ:=aW Tryz.f180 _
def i181:aQ:=aW Tryz.f181 _
def i182:aQ:=aW Tryz.f182 _
def i183:aQ:=aW Tryz.f183 _
def i184:aQ:=aW Tryz.f184 _
def i186:aQ:=aW Tryz.f186 _
def i190:aQ:=aW Tryz.f190 _
def i196:aQ:=aW Tryz.f196 _
def i197:aQ:=aW Tryz.f197 _
def i199:aQ:=aW Tryz.f199 _
def i200:aQ:=aW Tryz.f200 _
def i201:aQ:=aW Tryz.f201 _
def i202:aQ:=aW Tryz.f202 _
def i203:aQ:=aW Tryz.f203 _
def i204:aQ:=aW Tryz.f204 _
def i205:aQ:=aW Tryz.f205 _
def i206:aQ:=mkV Tryz.f206 _
def i212:aQ:=aW Tryz.f212 _
def i213:aQ:=aW Tryz.f213 _
def i214:aQ:=aW Tryz.f214 _
def i215:aQ:=aW Tryz.f215 _
def i216:aQ:=aW Tryz.f216 _
def i217:aQ:=aW Tryz.f217 _
def i218:aQ:=aW Tryz.f218 _
def i219:aQ:=aW Tryz.f219 _
def i220:aQ:=aW Tryz.f220 _
def i221:aQ:=aW Tryz.f221 _
def i222:aQ:=aW Tryz.f222 _
def i223:aQ:=aW Tryz.f223 _
def i224:aQ:=aW Tryz.f224 _
def i225:aQ:=aW Tryz.f225 _
def i226:aQ:=aW Tryz.f226 _
def i227:aQ:=aW Tryz.f227 _
def i228:aQ:=aW Tryz.f228 _
def i229:aQ:=aW Tryz.f229 _
def i230:aQ:=aW Tryz.f230 _
open Go Go.Proofs
def i231:aQ:=aW Tryz.f231 _
def i232:aQ:=aW Tryz.f232 _
def i233:aQ:=aW Tryz.f233 _
def i234:aQ:=aW Tryz.f234 _
def i235:aQ:=aW Tryz.f235 _
def i236:aQ:=aW Tryz.f236 _
def i241:aQ:=aW Tryz.f241 _
def i242:aQ:=aW Tryz.f242 _
def i243:aQ:=aW Tryz.f243 _
def i245:aQ:=aW Tryz.f245 _
def i246:aQ:=aW Tryz.f246 _
def i247:aQ:=aW Tryz.f247 _
def i248:aQ:=aW Tryz.f248 _
def i249:aQ:=aW Tryz.f249 _
def i250:aQ:=aW Tryz.f250 _
def i251:aQ:=aW Tryz.f251 _
def i252:aQ:=aW Tryz.f252 _
def i253:aQ:=aW Tryz.f253 _
def i254:aQ:=aW Tryz.f254 _
def i255:aQ:=aW Tryz.f255 _
def i256:aQ:=aW Tryz.f256 _
def i257:aQ:=aW Tryz.f257 _
def i259:aQ:=aW Tryz.f259 _
def i260:aQ:=aW Tryz.f260 _
def i262:aQ:=aW Tryz.f262 _
def i263:aQ:=aW Tryz.f263 _
def i264:aQ:=aW Tryz.f264 _
def i265:aQ:=aW Tryz.f265 _
def i266:aQ:=aW Tryz.f266 _
def i267:aQ:=aW Tryz.f267 _
def i268:aQ:=aW Tryz.f268 _
def i270:aQ:=aW Tryz.f270 _
def i271:aQ:=aW Tryz.f271 _
def i272:aQ:=aW Tryz.f272 _
def i273:aQ:=aW Tryz.f273 _
def i274:aQ:=aW Tryz.f274 _
def i275:aQ:=aW Tryz.f275 _
def i276:aQ:=aW Tryz.f276 _
def i277:aQ:=aW Tryz.f277 _
def i278:aQ:=aW Tryz.f278 _
def i279:aQ:=aW Tryz.f279 _
def i280:aQ:=aW Tryz.f280 _
def i281:aQ:=aW Tryz.f281 _
def i282:aQ:=aW Tryz.f282 _
def i283:aQ:=mkV Tryz.f283 _
def i284:aQ:=aW Tryz.f284 _
def i285:aQ:=aW Tryz.f285 _
def i286:aQ:=aW Tryz.f286 _
def i287:aQ:=aW Tryz.f287 _
def i288:aQ:=aW Tryz.f288 _
def i289:aQ:=aW Tryz.f289 _
def i290:aQ:=aW Tryz.f290 _
def i291:aQ:=aW Tryz.f291 _
def i292:aQ:=aW Tryz.f292 _
def i293:aQ:=aW Tryz.f293 _
def i294:aQ:=aW Tryz.f294 _
def i295:aQ:=aW Tryz.f295 _
def i296:aQ:=aW Tryz.f296 _
def i297:aQ:=aW Tryz.f297 _
def i298:aQ:=aW Tryz.f298 _
def i299:aQ:=aW Tryz.f299 _
def i300:aQ:=aW Tryz.f300 _
def i301:aQ:=aW Tryz.f301 _
def i198:aQ:={nt:=60,ps:=[JO,JP,oe],res:=[.tmp sY],body:=
 (.seq (.region false [⟨some o6,none,none,.box 129 3 40 (.t JO)⟩,
 ⟨some rH,none,none,.box 129 3 40 (.t JP)⟩,
 ⟨some sY,none,none,.eb (.c (.bool false))⟩])
 (.seq (.seq (.region false [⟨some Ps,none,none,.eY (.t o6) 0⟩,
 ⟨some NO,none,none,.eY (.t Ps) 1⟩,
 ⟨some NP,none,none,.load 1 false (.t NO)⟩,
 ⟨some vQ,none,none,.eY (.t rH) 0⟩,
 ⟨some NQ,none,none,.eY (.t vQ) 0⟩,
 ⟨some NR,none,none,.load 1 false (.t NQ)⟩,
 ⟨some NS,none,none,.bin .neq (.t NP) (.t NR)⟩])
 (.cond (.t NS)
 (.seq (.region false [⟨some sY,none,none,.eb (.c (.bool false))⟩])
 .ret)
 .skip))
 (.seq (.seq (.region false [⟨some wO,none,none,.eb (.c (.int .i64 (.ofNat 0)))⟩])
 (.block 0 (.loop (.seq (.seq (.region false [⟨some NT,none,none,.eb (.t wO)⟩,
  ⟨some NU,none,none,.eY (.t rH) 2⟩,
  ⟨some NV,none,none,.load 1 false (.t NU)⟩,
  ⟨some vR,none,none,.len (.t NV)⟩,
  ⟨some NW,none,none,.bin .lss (.t NT) (.t vR)⟩])
  (.cond (.t NW)
  .skip
  (.exit 0)))
  (.seq (.block 1 (.seq (.region true [⟨some NZ,none,some [],.load 3 true (.t o6)⟩,
   ⟨some N0,none,none,.eY (.t rH) 2⟩,
   ⟨some N1,none,some [0],.load 1 false (.t N0)⟩,
   ⟨some uj,none,none,.eb (.t wO)⟩,
   ⟨some N3,none,none,.kr 3 (.t N1) (.t uj)⟩,
   ⟨some N4,none,none,.eY (.t N3) 0⟩,
   ⟨some N5,none,some [1],.load 1 false (.t N4)⟩,
   ⟨some N6,none,some [],.call 98 [(.t NZ),(.t N5)]⟩,
   ⟨some EO,none,none,.eb (.t N6)⟩])
  (.seq (.region true [⟨some N7,none,none,.eb (.t EO)⟩,
   ⟨some N8,none,none,.bin .lss (.t N7) (.c (.int .i64 (.ofNat 0)))⟩,
   ⟨some rm,none,none,.eb (.t N8)⟩,
   ⟨some uk,some (rm,true),none,.eY (.t rH) 2⟩,
   ⟨some N9,some (rm,true),some [],.load 1 false (.t uk)⟩,
   ⟨some N',some (rm,true),none,.eb (.t wO)⟩,
   ⟨some Oa,some (rm,true),none,.kr 3 (.t N9) (.t N')⟩,
   ⟨some Ob,some (rm,true),none,.eY (.t Oa) 0⟩,
   ⟨some Oc,some (rm,true),some [],.load 1 false (.t Ob)⟩,
   ⟨some Od,some (rm,true),none,.eb (.t oe)⟩,
   ⟨some Oe,some (rm,true),none,.bin .leq (.t Oc) (.t Od)⟩,
   ⟨some sB,none,none,.pick (.t rm) (.t Oe) (.c (.bool false))⟩,
   ⟨some yE,none,none,.eb (.t sB)⟩,
   ⟨some Of,some (yE,false),none,.eb (.t EO)⟩,
   ⟨some Og,some (yE,false),none,.bin .geq (.t Of) (.c (.int .i64 (.ofNat 0)))⟩,
   ⟨some nV,some (yE,false),none,.eb (.t Og)⟩,
   ⟨some Oh,some (nV,true),none,.eY (.t o6) 2⟩,
   ⟨some Oi,some (nV,true),some [],.load 1 false (.t Oh)⟩,
   ⟨some Oj,some (nV,true),none,.eb (.t EO)⟩,
   ⟨some Ok,some (nV,true),none,.kr 3 (.t Oi) (.t Oj)⟩,
   ⟨some sC,some (nV,true),some [],.load 3 true (.t Ok)⟩,
   ⟨some Ol,some (nV,true),none,.eY (.t rH) 2⟩,
   ⟨some Om,some (nV,true),some [0,1],.load 1 false (.t Ol)⟩,
   ⟨some On,some (nV,true),none,.eb (.t wO)⟩,
   ⟨some Oo,some (nV,true),none,.kr 3 (.t Om) (.t On)⟩,
   ⟨some Oq,some (nV,true),some [1,2],.load 3 true (.t Oo)⟩,
   ⟨some Ot,some (nV,true),none,.eqv (.agg [3,101,3]) true (.t sC) (.t Oq)⟩,
   ⟨some Ou,some (yE,false),none,.pick (.t nV) (.t Ot) (.c (.bool false))⟩,
   ⟨some Ov,none,none,.pick (.t yE) (.c (.bool true)) (.t Ou)⟩])
  (.cond (.t Ov)
   (.seq (.region false [⟨some sY,none,none,.eb (.c (.bool false))⟩])
   .ret)
   .skip))))
  (.region false [⟨some NX,none,none,.eb (.t wO)⟩,
  ⟨some NY,none,none,.bin .add (.t NX) (.c (.int .i64 (.ofNat 1)))⟩,
  ⟨some wO,none,none,.eb (.t NY)⟩]))))))
 (.seq (.region false [⟨some sY,none,none,.eb (.c (.bool true))⟩])
 .ret))))}
def i258:aQ:={nt:=96,ps:=[JO,JP],res:=[.tmp rH],body:=
 (.seq (.region false [⟨some oe,none,none,.box 282 7 120 (.t JO)⟩,
 ⟨some o6,none,none,.box 282 7 120 (.t JP)⟩,
 ⟨some rH,none,none,.eb (.c (.bool false))⟩])
 (.seq (.seq (.region false [⟨some wO,none,none,.eY (.t oe) 0⟩,
 ⟨some EO,none,none,.load 1 false (.t wO)⟩,
 ⟨some Ps,none,none,.eY (.t o6) 0⟩,
 ⟨some NO,none,none,.load 1 false (.t Ps)⟩,
 ⟨some NP,none,none,.eqv .bool true (.t EO) (.t NO)⟩,
 ⟨some vQ,none,none,.eb (.t NP)⟩,
 ⟨some NQ,some (vQ,false),none,.eY (.t oe) 4⟩,
 ⟨some NR,some (vQ,false),none,.load 1 false (.t NQ)⟩,
 ⟨some NS,some (vQ,false),none,.eY (.t o6) 4⟩,
 ⟨some NT,some (vQ,false),none,.load 1 false (.t NS)⟩,
 ⟨some NU,some (vQ,false),none,.bin .neq (.t NR) (.t NT)⟩,
 ⟨some NV,none,none,.pick (.t vQ) (.c (.bool true)) (.t NU)⟩,
 ⟨some vR,none,none,.eb (.t NV)⟩,
 ⟨some NW,some (vR,false),none,.eY (.t oe) 5⟩,
 ⟨some NX,some (vR,false),none,.load 1 false (.t NW)⟩,
 ⟨some NY,some (vR,false),none,.eY (.t o6) 5⟩,
 ⟨some NZ,some (vR,false),none,.load 1 false (.t NY)⟩,
 ⟨some N0,some (vR,false),none,.eqv .bool true (.t NX) (.t NZ)⟩,
 ⟨some N1,none,none,.pick (.t vR) (.c (.bool true)) (.t N0)⟩,
 ⟨some uj,none,none,.eb (.t N1)⟩,
 ⟨some N3,some (uj,false),none,.eY (.t oe) 6⟩,
 ⟨some N4,some (uj,false),none,.load 1 false (.t N3)⟩,
 ⟨some N5,some (uj,false),none,.eY (.t o6) 6⟩,
 ⟨some N6,some (uj,false),none,.load 1 false (.t N5)⟩,
 ⟨some N7,some (uj,false),none,.call 152 [(.t N4),(.t N6)]⟩,
 ⟨some N8,some (uj,false),none,.un .not (.t N7)⟩,
 ⟨some rm,none,none,.pick (.t uj) (.c (.bool true)) (.t N8)⟩,
 ⟨some uk,none,none,.eb (.t rm)⟩,
 ⟨some N9,some (uk,false),none,.eY (.t oe) 1⟩,
 ⟨some N',some (uk,false),none,.load 1 false (.t N9)⟩,
 ⟨some Oa,some (uk,false),none,.eY (.t o6) 1⟩,
 ⟨some Ob,some (uk,false),none,.load 1 false (.t Oa)⟩,
 ⟨some Oc,some (uk,false),none,.call 283 [(.t N'),(.t Ob)]⟩,
 ⟨some Od,some (uk,false),none,.un .not (.t Oc)⟩,
 ⟨some Oe,none,none,.pick (.t uk) (.c (.bool true)) (.t Od)⟩,
 ⟨some sB,none,none,.eb (.t Oe)⟩,
 ⟨some yE,some (sB,false),none,.eY (.t oe) 2⟩,
 ⟨some Of,some (sB,false),none,.load 1 false (.t yE)⟩,
 ⟨some Og,some (sB,false),none,.len (.t Of)⟩,
 ⟨some nV,some (sB,false),none,.eY (.t o6) 2⟩,
 ⟨some Oh,some (sB,false),none,.load 1 false (.t nV)⟩,
 ⟨some Oi,some (sB,false),none,.len (.t Oh)⟩,
 ⟨some Oj,some (sB,false),none,.bin .neq (.t Og) (.t Oi)⟩,
 ⟨some Ok,none,none,.pick (.t sB) (.c (.bool true)) (.t Oj)⟩,
 ⟨some sC,none,none,.eb (.t Ok)⟩,
 ⟨some Ol,some (sC,false),none,.eY (.t oe) 3⟩,
 ⟨some Om,some (sC,false),none,.load 1 false (.t Ol)⟩,
 ⟨some On,some (sC,false),none,.len (.t Om)⟩,
 ⟨some Oo,some (sC,false),none,.eY (.t o6) 3⟩,
 ⟨some Oq,some (sC,false),none,.load 1 false (.t Oo)⟩,
 ⟨some Ot,some (sC,false),none,.len (.t Oq)⟩,
 ⟨some Ou,some (sC,false),none,.bin .neq (.t On) (.t Ot)⟩,
 ⟨some Ov,none,none,.pick (.t sC) (.c (.bool true)) (.t Ou)⟩])
 (.cond (.t Ov)
 (.seq (.region false [⟨some rH,none,none,.eb (.c (.bool false))⟩])
 .ret)
 .skip))
 (.seq (.seq (.region false [⟨some EN,none,none,.eb (.c (.int .i64 (.ofNat 0)))⟩])
 (.block 0 (.loop (.seq (.seq (.region false [⟨some aii,none,none,.eb (.t EN)⟩,
  ⟨some aij,none,none,.eY (.t oe) 2⟩,
  ⟨some aik,none,none,.load 1 false (.t aij)⟩,
  ⟨some ail,none,none,.len (.t aik)⟩,
  ⟨some aim,none,none,.bin .lss (.t aii) (.t ail)⟩])
  (.cond (.t aim)
  .skip
  (.exit 0)))
  (.seq (.block 1 (.seq (.region true [⟨some aip,none,none,.eY (.t oe) 2⟩,
   ⟨some aiq,none,some [],.load 1 false (.t aip)⟩,
   ⟨some air,none,none,.eb (.t EN)⟩,
   ⟨some ais,none,none,.kr 3 (.t aiq) (.t air)⟩,
   ⟨some ait,none,some [],.load 3 true (.t ais)⟩,
   ⟨some aiu,none,none,.eY (.t o6) 2⟩,
   ⟨some aiv,none,some [0,1],.load 1 false (.t aiu)⟩,
   ⟨some aiw,none,none,.eb (.t EN)⟩,
   ⟨some aix,none,none,.kr 3 (.t aiv) (.t aiw)⟩,
   ⟨some aiy,none,some [1,2],.load 3 true (.t aix)⟩,
   ⟨some aiz,none,none,.eqv (.agg [3,3,101]) true (.t ait) (.t aiy)⟩])
  (.cond (.t aiz)
   (.seq (.region false [⟨some rH,none,none,.eb (.c (.bool false))⟩])
   .ret)
   .skip)))
  (.region false [⟨some ain,none,none,.eb (.t EN)⟩,
  ⟨some aio,none,none,.bin .add (.t ain) (.c (.int .i64 (.ofNat 1)))⟩,
  ⟨some EN,none,none,.eb (.t aio)⟩]))))))
 (.seq (.seq (.region false [⟨some sY,none,none,.eb (.c (.int .i64 (.ofNat 0)))⟩])
 (.block 2 (.loop (.seq (.seq (.region false [⟨some aiA,none,none,.eb (.t sY)⟩,
  ⟨some aiB,none,none,.eY (.t oe) 3⟩,
  ⟨some aiC,none,none,.load 1 false (.t aiB)⟩,
  ⟨some aiD,none,none,.len (.t aiC)⟩,
  ⟨some aiE,none,none,.bin .lss (.t aiA) (.t aiD)⟩])
  (.cond (.t aiE)
  .skip
  (.exit 2)))
  (.seq (.block 3 (.seq (.region true [⟨some Vx,none,none,.eY (.t oe) 3⟩,
   ⟨some aiH,none,some [],.load 1 false (.t Vx)⟩,
   ⟨some aiI,none,none,.eb (.t sY)⟩,
   ⟨some aiJ,none,none,.kr 4 (.t aiH) (.t aiI)⟩,
   ⟨some Vy,none,some [],.load 4 true (.t aiJ)⟩,
   ⟨some aiK,none,none,.eY (.t o6) 3⟩,
   ⟨some aiL,none,some [0,1],.load 1 false (.t aiK)⟩,
   ⟨some aiM,none,none,.eb (.t sY)⟩,
   ⟨some aiN,none,none,.kr 4 (.t aiL) (.t aiM)⟩,
   ⟨some aiO,none,some [1,2],.load 4 true (.t aiN)⟩,
   ⟨some aiP,none,none,.eqv (.agg [100,101,101,3]) true (.t Vy) (.t aiO)⟩])
  (.cond (.t aiP)
   (.seq (.region false [⟨some rH,none,none,.eb (.c (.bool false))⟩])
   .ret)
   .skip)))
  (.region false [⟨some aiF,none,none,.eb (.t sY)⟩,
  ⟨some aiG,none,none,.bin .add (.t aiF) (.c (.int .i64 (.ofNat 1)))⟩,
  ⟨some sY,none,none,.eb (.t aiG)⟩]))))))
 (.seq (.region false [⟨some rH,none,none,.eb (.c (.bool true))⟩])
 .ret)))))}
end Go.Ev.Pp
namespace Go.Ev
open Go
variable{T:aL}{VE:bb}{B:aK}{Q:VV→aK→Prop}
def OF:List VV→Bool
 |[]=>true
 |.d _::r=>OF r
 |_=>false
theorem ab4:∀{l:List VV},OF l=true→kH l
 |[],_=>trivial
 |.d _::r,h=>⟨trivial,ab4 (l:=r) h⟩
def v7:List VV→Bool
 |[]=>true
 |.d _::r=>v7 r
 |.agg l::r=>OF l&&v7 r
 |.fn _ []::r=>v7 r
 |_=>false
theorem jy:∀{l:List VV},v7 l=true→kH l
 |[],_=>trivial
 |.fn _ []::r,h=>⟨trivial,jy (l:=r) h⟩
 |.d _::r,h=>⟨trivial,jy (l:=r) h⟩
 |.agg l::r,h=>by
  obtain⟨z,h2⟩:=jD (show(OF l&&v7 r)=true from h);exact⟨by simp only[VV.nb];exact ab4 z,jy h2⟩
theorem bN{rs:List jU}{VE:bb}{B:aK}{P:VV→Prop}{vs:List VV}(h:sm VE B rs=some vs)(z:v7 vs=true)(A:P (mu vs)):ai5 rs P .ret VE B:=⟨vs,h,jy z,A⟩
theorem agw{f:Nat}{l:List aG}{args:List VV}{R:VV}(h:Sound T f args fun r=>r=R)(z:oK VE l=some args)(A:v7 args=true)(G:Q R B):VI T (.call f l) VE B [] Q:=
 Lf z (jy A) h fun r _ I=>by rw[I];exact G
structure FX(T:aL):Prop where
 a154:T.ft.get 154=none
 x154:T.xt.get 154=some 3
 a210:T.ft.get 210=none
 x210:∃t,T.xt.get 210=some (4+t)
 a178:T.ft.get 178=none
 x178:T.xt.get 178=some 0
 a162:T.ft.get 162=none
 x162:T.xt.get 162=some 1
variable{T:aL}{VE:bb}{B:aK}{Q:VV→aK→Prop}
variable{T:aL}{VE:bb}{B:aK}{Q:VV→aK→Prop}
def Um(n:Nat)(d:DC):Prop:=∃a:List UInt8,d=aw a∧a.length≤n
theorem Um.mono{n m:Nat}{d:DC}(h:Um n d)(z:n≤m):Um m d:=let⟨a,A,h2⟩:=h;⟨a,A,eT h2 z⟩
variable{T:aL}
section
variable{H:ax}{X:Nat→Prop}
theorem dF.drop{f g es:Nat}:∀(n:Nat){q:Nat}{rows:ah},dF H X f g es q rows→dF H X f g es (q+n) (rows.drop n)
 |0,_,_,h=>h
 |n+1,_,[],_=>trivial
 |n+1,q,r::rs,h=>by
  simp only[dF] at h;have:=dF.drop n h.2;rw[show q+1+n=q+(n+1) by omega] at this;exact this
theorem dF.take{f g es:Nat}:∀(n:Nat){q:Nat}{rows:ah},dF H X f g es q rows→dF H X f g es q (rows.take n)
 |0,_,_,_=>trivial
 |n+1,_,[],_=>trivial
 |n+1,q,r::rs,h=>by
  simp only[dF,xV] at h⊢;exact⟨h.1,dF.take n h.2⟩
end
variable{VE:bb}{B:aK}{Q:VV→aK→Prop}
def au(rows:ah)(d:DC):Prop:=d= .sl rows∨rows=[]∧d= .nil
theorem au.acc(rows:ah):au rows (.cR rows):=by
 cases rows with
 |nil=>exact .inr ⟨rfl,rfl⟩
 |cons r s=>exact .inl rfl
theorem aR{x:aG}{rows:ah}{d:DC}(z:x.vv VE=some (.d d))(G:au rows d)(A:Q (.d (.i .i64 (rows.length:Nat))) B):VI T (.len x) VE B [] Q:=by
 rcases G with rfl|⟨rfl,rfl⟩
 ·exact ad8 z A
 exact Ad z A
theorem vi_idxD{x i:aG}{es j:Nat}{k:IntKind}{rows:ah}{row:List DC}{d:DC}(A:x.vv VE=some (.d d))(G:au rows d)(hi:i.vv VE=some (.d (.i k (j:Int))))(z:rows[j]?=some row)(I:row.length=es)(L:Q (.rp row 0) B):VI T (.kr es x i) VE B [] Q:=by
 rcases G with rfl|⟨rfl,rfl⟩
 ·exact vi_idx A hi z I L
 simp at z
theorem YR.sD{B:aK}{es:Nat}{rows:ah}{d:DC}(z:au rows d)(h:∀row,row∈rows→row.length=es):YR B es (.d d) rows:=by
 rcases z with rfl|⟨rfl,rfl⟩
 ·exact .sl h
 exact .nil
theorem vi_slD{es:Nat}{x:aG}{lo hi:Option aG}{rows:ah}{d:DC}{l h:Nat}(U:x.vv VE=some (.d d))(Y:au rows d)(Z:∀row,row∈rows→row.length=es)(z:0<rows.length)(hh:pR VE hi rows.length h)(hl:pR VE lo 0 l)(I:l≤h)(L:h≤rows.length)
  (hq:Q (.d (.sl ((rows.drop l).take (h-l)))) B):VI T (.sE es x lo hi) VE B [] Q:=fun _ X0 _ H β G=>by
 obtain rfl:d= .sl rows:=Y.resolve_right fun k=>by rw[k.1] at z;cases z
 obtain⟨a,h1,h2⟩:=G.bC U;simp only[aE,bA] at h2;obtain⟨f,g,off,c6,rfl,h2⟩:=h2;rcases h2 with rfl|⟨k1,k2,q,k3,M⟩
 ·cases z
 have he:c6=es:=by
  cases rows with
  |nil=>cases z
  |cons r0 rs=>
   simp only[dF] at M;obtain⟨⟨l',_,j2,j3⟩,_⟩:=M;rw[←j2,j3.length,Z r0 (jo ..)]
 subst he;have hlen:((rows.drop l).take (h-l)).length=h-l:=by rw[iD,qP];omega
 refine eG (v:=.slice f g (off+l*c6) (h-l) c6) (fun call=>?_) (du G (v:=.d (.sl ((rows.drop l).take (h-l)))) ?_ hq)
 ·show bq x _ (.err 16) (fun v=>fy v (.err 16) (dT _ hi 0 0 (.err 16) fun h=>dT _ lo 0 h (.err 16) fun _=>.ok .fV H)
   fun f g off O A=>aJ (Nat.beq c6 A) (dT _ hi O (nW g off c6 O) (.err 16) fun h=>dT _ lo 0 h (.err 16) fun lo=>
    ch (Nat.add off (Nat.mul lo c6)) fun off=>ch (Nat.sub h lo) fun n=>.ok (.slice f g off n A) H) (.err 16))=_
  rw[cQ,h1,cA]
  show aJ (Nat.beq c6 c6) (dT _ hi rows.length (nW g off c6 rows.length) (.err 16) fun h=>dT _ lo 0 h (.err 16) fun lo=>
    ch (Nat.add off (Nat.mul lo c6)) fun off=>ch (Nat.sub h lo) fun n=>.ok (.slice f g off n c6) H) (.err 16)=_
  rw[show Nat.beq c6 c6=true from gu c6,dM,vf G hh (eT L F4) F4,vf G hl I (gL _),fc,fc];rfl
 simp only[aE,bA,hlen];refine⟨f,g,_,c6,aa,.inr ⟨k1,k2,q+l,?_,?_⟩⟩
 ·rw[k3,lq]
 exact(M.drop l).take _
theorem VI.fresh{op:br}{b:Nat}(A:aF B b=none)(h:VI T op VE B [b] Q):VI T op VE B [] Q:=fun H0 X0 E H β G=>
 (h H0 X0 E H β G).mono fun a H'⟨v,B',β',z,I⟩=>⟨v,B',β',⟨z.aS,z.next,fun f L=>(z.ws f L).imp id fun⟨_,c,s,M,k,_⟩=>by
  (rw[List.mem_singleton.1 M,A] at k;cases k),z.since,z.jI⟩,I⟩
variable{T:aL}{VE:bb}{B:aK}{Q:VV→aK→Prop}
variable{T:aL}{VE:bb}{B:aK}{Q:VV→aK→Prop}
def jS:List Nat→List DC→Bool
 |[],[]=>true
 |c::r,.i k _::s=>Nat.beq (cS k) c&&jS r s
 |c::r,.b _::s=>Nat.beq c 100&&jS r s
 |c::r,.s _ _::s=>Nat.beq c 101&&jS r s
 |_,_=>false
end Go.Ev
