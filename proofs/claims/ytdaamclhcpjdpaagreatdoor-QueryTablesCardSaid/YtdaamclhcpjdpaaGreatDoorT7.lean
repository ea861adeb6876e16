/- Part 7 of rules for walks through the code of a program, and of such walks; what each part proves is said by its theorems. -/
import Derived.Test.YtdaamclhcpjdpaaGreatDoorT6
import Derived.Laws.IdiomStrings
import Derived.Laws.BytesArg
import Derived.Lib.Builder
import Derived.Lib.UnsafeStr
import Derived.DeepKeys
import Derived.OpenShut
import Derived.Laws.StructEq
set_option linter.unusedVariables false
set_option linter.unusedSimpArgs false
noncomputable section
set_option maxRecDepth 100000
set_option maxHeartbeats 4000000
namespace Go.Ev
section
variable{P:Program}{ρ:Ho}{nt:Nat}{E:Env}{a:Act}{C:Nat→Option cV}{w:World}{H H':ay}{v:ak}{o:Oper}{call:dG}
theorem convSB_sound(hA:AR P ρ nt E a)(hR:R ρ C w)(hF:fw ρ H.next H'.next){src dst e:TypeId}{x:Operand}{x':aI}(ho:o.op= .convert src dst x)(hx:ct P x=some x')
  (hs:P.underlying src=some .string) (hd:P.underlying dst=some (.slice e)) (he:P.underlying e=some (.int .u8)) (h:Gd e x' E H= .ok v H'):en P o a w (cQ ρ C w H v H'):=by
 replace h:=eg h;obtain⟨u,hu,h⟩:=h;replace h:=FW h;obtain⟨l,s,rfl,h⟩:=h;replace h:=eu h;obtain⟨_,h⟩:=h;rw[Ao] at h;have h:=CV h
 cases h
 have U:=hA.bG hx hu;simp only[VR] at U;obtain⟨b,U,rfl,rfl⟩:=U;have G:=run_bytes_of_string (P:=P) w src dst e b hs hd he;have Y:=grownCap_ge w b.size 0 e;generalize grownCap w b.size 0 e=A at*;have Z:b.data.toList.length=b.size:=o6;have I:(bytesRow b A).size=A:=by
  unfold bytesRow;simp only[NL,Array.size_map,Array.size_replicate];have:b.data.size=b.size:=rfl;omega
 obtain⟨ρ',g1,g2,g3⟩:=hR.adm 3 ((bytesRow b A).size,(bytesRow b A).size+1) (f:=H.next) (elem:=e) (es:=1) (aE:=1) (n:=b.size) (cs:=gb (oM b.size (pack b.data.toList)) .emp 0) (cells:=bytesRow b A)
  (w':=w.drew.alloc (.cells (bytesRow b A) e ((bytesRow b A).size,(bytesRow b A).size+1)))
  (Wr ⟨H.next+1,H.aQ,H.ws,H.t.set H.next (.row e 1 1 b.size b.size 3 (gb (oM b.size (pack b.data.toList)) .emp 0))⟩) (fun g=>hF _ g (bt _) (wB _)) aq (by rw[I];omega)
  (fun k hk=>by
   rw[sG,bj (by rw[FB];omega),IL];have L:k<(oM b.size (pack b.data.toList)).length:=by rw[FB];exact hk
   refine⟨_,dm L,?_⟩;have M:=dm L;obtain⟨y,O,hy2⟩:=PQ b.data.toList k _ (by rw[Z];exact M);rw[hy2];refine⟨rfl,fun j z hz=>?_⟩
   cases j with
   |succ j=>simp at hz
   |zero=>
    simp at hz;subst hz;refine⟨rfl,.int .u8 y.toNat,?_,by simp only[VR]⟩;unfold bytesRow;rw[NM (by rw[Array.size_map];show k*1+0<b.size;omega)];simp only[NN,qv,Array.getElem?_map];rw[NO] at O
    rw[O];rfl) rfl (fun i hi h=>by simp at h;omega) (fun h=>by omega) rfl rfl rfl
 refine .inl ⟨.slice (some ⟨w.heap.size,0,none⟩) b.size A,w.drew.alloc (.cells (bytesRow b A) e ((bytesRow b A).size,(bytesRow b A).size+1)),?_,ρ',?_,g2,?_⟩
 ·simp only[execOp,ho,U,Sem.run_bind];rw[G];rfl
 ·simp only[VR];exact⟨_,_,_,g1,rfl,⟨Y,aq⟩,.inl ⟨rfl,by simp only;rw[I];omega⟩⟩
 rw[KA];exact g3
theorem PT:∀{L:List (List ak)}{s:Nat},xh L=some s→∃z:List UInt8,z.length=L.length∧s=pack z∧∀(i:Nat)(b:UInt8),z[i]?=some b→L[i]?=some [ak.int .u8 (Int.ofNat b.toNat)]
 |[],s,h=>by cases h;exact⟨[],rfl,rfl,fun i b h=>by simp at h⟩
 |c::r,s,h=>by
  cases c with
  |nil=>cases h
  |cons x t=>cases t with
   |cons y t=>cases h
   |nil=>
    have h:adg x none (fun k i=>aD (Nat.beq (cG k) 4) (gR i none fun b=>aD (Nat.ble b 255) (ob (xh r) none fun v=>some (Nat.add b (Nat.mul 256 v))) none) none)=some s:=h
    cases x with
    |int k i=>
     have h:aD (Nat.beq (cG k) 4) (gR i none fun b=>aD (Nat.ble b 255) (ob (xh r) none fun v=>some (Nat.add b (Nat.mul 256 v))) none) none=some s:=h
     cases A:Nat.beq (cG k) 4
     ·rw[A] at h;cases h
     rw[A,et] at h
     cases i with
     |negSucc m=>cases h
     |ofNat b=>
      have h:aD (Nat.ble b 255) (ob (xh r) none fun v=>some (Nat.add b (Nat.mul 256 v))) none=some s:=h
      cases h2:Nat.ble b 255
      ·rw[h2] at h;cases h
      rw[h2,et] at h
      cases G:xh r with
      |none=>rw[G] at h;cases h
      |some v=>
       rw[G] at h
       cases h
       obtain⟨z,O,U,Y⟩:=PT G;have A:=cD A;have h2:=aV h2;have Z:k= .u8:=by cases k<;>simp[cG] at A<;>rfl
       subst Z;have M:(UInt8.ofNat b).toNat=b:=by rw[UInt8.toNat_ofNat'];omega
       refine⟨UInt8.ofNat b::z,by simp[O],?_,fun i y I=>?_⟩
       ·show b+256*v=(UInt8.ofNat b).toNat+256*pack z;rw[M,U]
       cases i with
       |zero=>simp at I;subst I;rw[M];rfl
       |succ i=>exact Y i y (by simpa using I)
    |_=>cases h
theorem convBS_sound(hA:AR P ρ nt E a)(Y:R ρ C w){src dst e:TypeId}{x:Operand}{Z:aI}(ho:o.op= .convert src dst x)(hx:ct P x=some Z)
  (hs:P.underlying src=some (.slice e)) (hd:P.underlying dst=some .string) (he:P.underlying e=some (.int .u8))
  (hC:∀f o,f∈fS (Z.ev E)→(∃g h,ρ f g=some h)→H.t.get f=some o→C f=some o) (h:Ge Z E H= .ok v H'):en P o a w (cQ ρ C w H v H'):=by
 replace h:=eg h;obtain⟨u,hu,h⟩:=h;have z:=hA.bG hx hu
 cases u<;>try(cases h;done)
 case fL=>
  cases h
  simp only[VR] at z;refine eX (cv:=.string ByteArray.empty) ?_ Y (by simp only[VR];exact⟨_,rfl,rfl,rfl⟩);have:=run_convert_bytes_nil (P:=P) (w:=w) src e hs he 0 0 dst hd;simp only[execOp,ho,z,Sem.run_bind,this];rfl
 case slice f g off n es=>
  have h:ob (elems H f g 1 n off) (.err 39) (fun l=>ob (xh l) (.err 39) fun s=>cL s fun s=>aC.ok (.str n s) H)= .ok v H':=h;replace h:=gS h;obtain⟨L,hL,h⟩:=h;replace h:=gS h;obtain⟨s,hs2,h⟩:=h;rw[fQ] at h
  cases h
  simp only[VR] at z;obtain⟨hm,ad,cap,hh,z,aiz,qQ⟩:=z;obtain⟨hlen,Fc⟩:=KO hL;obtain⟨O,g1,g2,g3⟩:=PT hs2;have Xh:O.length=n:=g1.trans hlen;subst Xh
  have A:=run_convert_bytes_back (P:=P) w src dst e ad cap O hs he hd (fun j hj=>by
   have U:=g3 j O[j] (dm hj);have G:=Fc j _ U;have pC:C f=H.t.get f:=by
    obtain⟨_,_,_,_,_,_,_,_,U,_⟩:=G;exact(hC f _ (by rw[hu];simp[fS]) ⟨_,_,hh⟩ U).trans U.symm
   obtain⟨_,_,hc⟩:=Y.rd G pC hh aq;obtain⟨cv,I,M⟩:=hc 0 _ rfl;simp only[VR] at M;subst M;rcases qQ with⟨rfl,_⟩|⟨h0,_,_⟩
   ·rw[Addr.add_lit];rw[←kH] at I;simpa using I
   omega)
  refine eX (cv:=.string ⟨O.toArray⟩) ?_ Y (by simp only[VR];exact⟨_,rfl,rfl,by rw[g2]⟩);simp only[execOp,ho,z,Sem.run_bind,A];rfl
theorem liesAt_self{e:TypeId}(A:P.cellsOf e≠0)(count:Nat)(G:1≤count):liesAt P P.depth e count 0 e 1=true:=by
 have z:P.depth=(2*(P.types.size+Made.depth)+1)+1:=rfl;rw[z];simp only[liesAt,m8];left;rw[z];simp[rowAt,A,G,sameLayout]
theorem YO(hA:AR P ρ nt E a)(hR:R ρ C w){src dst t:TypeId}{x:Operand}{x':aI}{io:bm}(ho:o.op= .convert src dst x)(hx:ct P x=some x')
  (I:(P.underlying src=some (.pointer t)∧P.underlying dst=some .unsafePointer)∨(P.underlying src=some .unsafePointer∧P.underlying dst=some (.pointer t))) (G:K0 P t x'=some io)
  (hC:∀f o,(∀l,io.reads E=some l→f∈l)→(∃g h,ρ f g=some h)→H.t.get f=some o→C f=some o) (h:io.ev call E H= .ok v H'):en P o a w (cQ ρ C w H v H'):=by
 unfold K0 at G
 split at G
 ·rename_i j hj
  split at G
  ·rename_i kO
   cases G
   have h:GI t (P.cellsOf t) x' E H= .ok v H':=h;replace h:=eg h;obtain⟨u,hu,h⟩:=h;have M:=hA.bG hx hu
   cases hn:LH u with
   |true=>
    rw[hn,et] at h
    cases u<;>try(cases hn;done)
    cases h
    simp only[VR] at M;refine eX (cv:=.pointer none) ?_ hR (by simp only[VR]);have:(convert src dst (.pointer none)).run P w= .ok (.pointer none) w:=by
     rcases I with⟨O,L⟩|⟨O,L⟩<;>simp[convert,run_underlying O,run_underlying L,Conv.unsafePointer]
    simp only[execOp,ho,M,Sem.run_bind,this];rfl
   |false=>
    rw[hn] at h
    have h:gw u (.err 44) (fun f g off=>iT (H.t.get f) (.err 44) fun elem es _ m lo fl _=>
     aD (Nat.beq elem t) (aD (Nat.beq es (P.cellsOf t)) (aD (Nat.beq off 0) (aD (Nat.ble lo g) (aD (Nat.ble g m) (aD (Nat.ble 1 g) (aD (Nat.beq fl 0) (aC.ok u H) (.err 44)) (.err 44)) (.err 44)) (.err 44)) (.err 44)) (.err 44)) (.err 44))= .ok v H':=h
    replace h:=Ap h;obtain⟨f,g,off,rfl,h⟩:=h
    cases hg:H.t.get f with
    |none=>rw[hg] at h;cases h
    |some ob=>cases ob with
     |map=>rw[hg] at h;cases h
     |row elem es aE m lo fl cs=>
      rw[hg] at h;have h:aD (Nat.beq elem t) (aD (Nat.beq es (P.cellsOf t)) (aD (Nat.beq off 0) (aD (Nat.ble lo g) (aD (Nat.ble g m) (aD (Nat.ble 1 g) (aD (Nat.beq fl 0) (aC.ok (.ptr f g off) H) (.err 44)) (.err 44)) (.err 44)) (.err 44)) (.err 44)) (.err 44)) (.err 44)= .ok v H':=h;replace h:=eu h;obtain⟨b1,h⟩:=h;replace h:=eu h;obtain⟨b2,h⟩:=h;replace h:=eu h;obtain⟨b3,h⟩:=h;replace h:=eu h;obtain⟨b4,h⟩:=h;replace h:=eu h;obtain⟨b5,h⟩:=h;replace h:=eu h;obtain⟨b6,h⟩:=h;replace h:=eu h;obtain⟨b7,h⟩:=h
      cases h
      have b1:=cD b1;have b2:=cD b2;have b3:=cD b3;have b4:=aV b4;have b5:=aV b5;have b6:=aV b6;have b7:=cD b7;subst b1;subst b3;subst b7;simp only[VR] at M;obtain⟨A,hh,M⟩:=M;have pC:=hC f _ (fun l e=>by have e:some (fS (x'.ev E))=some l:=e;rw[hu] at e;cases e;simp[fS]) ⟨_,_,hh⟩ hg;obtain⟨he,_,_,z⟩:=hR.obj f _ pC g A hh;have z:=z b4 b5;obtain⟨c,fz,U,T1⟩:=z.row;have Y:=z.tT (.inl rfl);have VA:=z.fits;have zF:es≤g*es:=Nat.le_mul_of_pos_left _ b6;have Z:w.shape? A.bz=some (elem,c.size):=by simp[World.shape?,U]
      refine eX (cv:=.pointer (some ⟨A.bz,A.off+0,none⟩)) ?_ hR (by simp only[VR];exact⟨A,hh,rfl⟩);have:(convert src dst (.pointer (some ⟨A.bz,A.off+0,none⟩))).run P w= .ok (.pointer (some ⟨A.bz,A.off+0,none⟩)) w:=by
       rcases I with⟨O,L⟩|⟨O,L⟩
       ·exact Lib.run_to_unsafe w ⟨A.bz,A.off+0,none⟩ O L hj kO Z (by show A.off+0<c.size;omega)
       refine Lib.run_from_unsafe w ⟨A.bz,A.off+0,none⟩ O L hj Z ?_;show liesAt P P.depth elem (c.size/P.cellsOf elem) (A.off+0) elem 1=true;rw[Y,←b2];have L:=Nat.div_pos (show es≤c.size by omega) he;have:=liesAt_self (P:=P) (e:=elem) (by rw[←b2];omega) (c.size/es) L;rw[qv];exact this
      simp only[execOp,ho,M,Sem.run_bind,this];rfl
  cases G
 cases G
theorem usd_sound(Z:AR P ρ nt E a)(L:R ρ C w){c:Call}{x:Operand}{M:aI}(ho:o.op= .call c)(O:c.callee= .builtin .unsafeSliceData)(z:c.args=#[x])(hx:ct P x=some M)
  (h:IY M E H= .ok v H'):en P o a w (cQ ρ C w H v H'):=by
 replace h:=eg h;obtain⟨u,hu,h⟩:=h;have A:=Z.bG hx hu
 cases u<;>try(cases h;done)
 case fL=>
  cases h
  simp only[VR] at A;refine eX (cv:=.pointer none) ?_ L (by simp only[VR]);simp[execOp,ho,resolve,O,z,invoke,builtin,A,Lib.run_unsafeSliceData_nil]
 case slice f g off l es=>
  have h:aD (Nat.beq l 0) (.err 45) (aC.ok (.ptr f g off) H)= .ok v H':=h;replace h:=ado h;obtain⟨U,h⟩:=h
  cases h
  simp only[VR] at A;obtain⟨G,ad,cap,hh,A,Y,I⟩:=A;have hl:l≠0:=fun e=>by rw[e] at U;cases U
  rcases I with⟨rfl,_⟩|⟨e,_,_⟩
  ·refine eX (cv:=.pointer (some ⟨G.bz,G.off+off,none⟩)) ?_ L (by simp only[VR];exact⟨G,hh,rfl⟩);simp[execOp,ho,resolve,O,z,invoke,builtin,A,Lib.run_unsafeSliceData_row w _ _ _ l cap aq]
  exact absurd e hl
theorem conv2_sound(I:AR P ρ nt E a)(L:R ρ C w)(Z:fw ρ H.next H'.next){src dst:TypeId}{x:Operand}{Y:aI}{io:bm}(ho:o.op= .convert src dst x)(M:ct P x=some Y)(z:QR P src dst Y=some io)
  (O:∀f o,(∀l,io.reads E=some l→f∈l)→(∃g h,ρ f g=some h)→H.t.get f=some o→C f=some o) (h:io.ev call E H= .ok v H'):en P o a w (cQ ρ C w H v H'):=by
 unfold QR at z
 split at z
 ·rename_i e A G
  split at z
  ·rename_i U;cases z;exact convSB_sound I L Z ho M A G U h
  cases z
 ·rename_i e A G
  split at z
  ·rename_i U;cases z;exact convBS_sound I L ho M A G U (fun f o hf=>O f o (fun l e=>by cases e;exact hf)) h
  cases z
 ·rename_i t A G;exact YO I L ho M (.inl ⟨A,G⟩) z O h
 ·rename_i t A G;exact YO I L ho M (.inr ⟨A,G⟩) z O h
 cases z
end
section
variable{P:Program}{ρ:Ho}{nt:Nat}{E:Env}{a:Act}{C:Nat→Option cV}{w:World}{H H':ay}{v:ak}{o:Oper}{call:dG}
def gY:Value→Lit
 |.bool b=>.bool b
 |.int k n=>.int k n
 |.string s=>.string s.data.toList
 |_=>.bool false
inductive xW:Nat→Value→Prop
 |int {q:IntKind} {n:Int}:xW (cG q) (.int q n)
 |bool {b:Bool}:xW 100 (.bool b)
 |str {s:ByteArray}:xW 101 (.string s)
def jw:List Nat→List Value→Prop
 |[],[]=>True
 |k::r,c::s=>xW k c∧jw r s
 |_,_=>False
theorem jw.split:∀{k l:List Nat}{cs:List Value},jw (k++l) cs→jw k (cs.take k.length)∧jw l (cs.drop k.length)
 |[],l,cs,h=>by simpa[jw] using h
 |x::k,l,[],h=>by simp[jw] at h
 |x::k,l,c::cs,h=>by
  have h:xW x c∧jw (k++l) cs:=h;obtain⟨z,h2⟩:=jw.split h.2;exact⟨by simpa[jw] using⟨h.1,z⟩,by simpa using h2⟩
theorem jw.length:∀{k:List Nat}{cs:List Value},jw k cs→cs.length=k.length
 |[],[],_=>rfl
 |[],_::_,h=>h.elim
 |_::_,[],h=>h.elim
 |_::k,_::cs,h=>by have:=jw.length h.2;simp[this]
def JT(P:Program)(t:TypeId)(x:Value)(l:List Value):Prop:=(P.plainKey t=true∧l=[x])∨∃fs z,P.underlying t=some (.struct fs)∧x= .agg z∧z.toList=l
def EqV(P:Program)(d:Nat)(t:TypeId)(ks:List Nat):Prop:=∀(w:World)x y z A,JT P t x z→JT P t y A→jw ks z→jw ks A→∃r:Bool,(Op.equalIn d t x y).run P w= .ok r w∧(r=true↔z.map gY=A.map gY)
theorem Zx(w:World){D:Nat}{e:TypeId}{k:List Nat}{z:Array Value}{off:Nat}(G:xi P D e=some k)(M:k.length=P.cellsOf e)(O:jw k ((z.toList.drop off).take k.length)):
  ∃a,(part e z off).run P w= .ok a w∧JT P e a ((z.toList.drop off).take k.length):=by
 cases D with
 |zero=>cases G
 |succ D=>
  unfold xi at G;have plain:P.plainKey e=true→k.length=1→∃a,(part e z off).run P w= .ok a w∧JT P e a ((z.toList.drop off).take k.length):=fun I U=>by
   have h2:=O.length;rw[U] at h2⊢;obtain⟨a,L⟩:∃a,(z.toList.drop off).take 1=[a]:=by
    match Z:(z.toList.drop off).take 1,h2 with
    |[a],_=>exact⟨a,rfl⟩
   exact⟨a,run_part_plain w I (getElem?_of_chunk L),.inl ⟨I,L⟩⟩
  split at G
  ·rename_i A;cases G;exact plain (by simp[Program.plainKey,A]) rfl
  ·rename_i A;cases G;exact plain (by simp[Program.plainKey,A]) rfl
  ·rename_i A;cases G;exact plain (by simp[Program.plainKey,A]) rfl
  ·rename_i fs A;obtain⟨i,hi⟩:=info_of_underlying A;have Y:(z.extract off (off+P.cellsOf e)).toList=(z.toList.drop off).take (P.cellsOf e):=by
    rw[Vl];simp[List.extract]
   exact⟨.agg (z.extract off (off+P.cellsOf e)),by simp[part,isAgg,run_underlying A,run_sizeOf w hi],.inr ⟨fs,_,A,rfl,by rw[Y,M]⟩⟩
  cases G
theorem YP{D dd:Nat}(Y:∀t ks,xi P D t=some ks→P.keyTypeAt D t=true→EqV P dd t ks)(w:World)(z ys:Array Value):∀(fs:List Field)(off:Nat)(ks:List Nat),KZ P (xi P D) off fs=some ks→
  (∀f,f∈fs→f.name≠ "_"∧P.keyTypeAt D f.type=true)→jw ks (z.toList.drop off)→jw ks (ys.toList.drop off)→
  ∃r:Bool,(Op.eqFields dd z ys fs).run P w= .ok r w∧(r=true↔(z.toList.drop off).map gY=(ys.toList.drop off).map gY)
 |[],off,ks,h,_,G,I=>by
  cases h
  refine⟨true,by simp[Op.eqFields],?_⟩;rw[o0 G.length,o0 I.length];simp
 |f::r,off,ks,h,Z,G,I=>by
  unfold KZ at h
  split at h
  ·rename_i k L
   split at h
   ·rename_i M
    split at h
    ·rename_i l O
     cases h
     obtain⟨x1,x2⟩:=G.split;obtain⟨U,y2⟩:=I.split;have lx:=x1.length;have ly:=U.length;rw[NP] at x2 y2;obtain⟨h1,h2⟩:=Z f (by simp);obtain⟨a,p1,i1⟩:=Zx w L M.2 x1;obtain⟨b,p2,i2⟩:=Zx w L M.2 U;obtain⟨q,p3,e1⟩:=Y _ _ L h2 w a b _ _ i1 i2 x1 U;obtain⟨q',p4,e2⟩:=YP Y w z ys r (off+k.length) l O (fun f hf=>Z f (by simp[hf])) x2 y2;have sx:(z.toList.drop off).map gY=((z.toList.drop off).take k.length).map gY++(z.toList.drop (off+k.length)).map gY:=by rw[←lK,←NP,IJ]
     have sy:(ys.toList.drop off).map gY=((ys.toList.drop off).take k.length).map gY++(ys.toList.drop (off+k.length)).map gY:=by rw[←lK,←NP,IJ]
     have A:(z.toList.drop off).map gY=(ys.toList.drop off).map gY↔((z.toList.drop off).take k.length).map gY=((ys.toList.drop off).take k.length).map gY∧(z.toList.drop (off+k.length)).map gY=(ys.toList.drop (off+k.length)).map gY:=by
      rw[sx,sy];exact⟨fun e=>List.append_inj e (by rw[n6,n6,lx,ly]),fun e=>by rw[e.1,e.2]⟩
     rw[←M.1] at p1 p2;simp only[Op.eqFields,h1,ne_eq,not_false_eq_true,if_true,Sem.run_bind,p1,p2,p3,Result.andThen_ok]
     cases q
     ·exact⟨false,by simp,by rw[A];exact⟨fun h=>(by cases h),fun e=>absurd (e1.2 e.1) (by simp)⟩⟩
     exact⟨q',by simpa using p4,by rw[A,e2];simp[e1.1 rfl]⟩
    cases h
   cases h
  cases h
theorem aa8(dd:Nat):∀(D:Nat)(t:TypeId)(ks:List Nat),xi P D t=some ks→P.keyTypeAt D t=true→EqV P (dd+D) t ks
 |0,_,_,h,_=>by cases h
 |D+1,t,ks,h,O=>by
  intro w x y lx ly ix iy U Y;have one:∀{k:Nat},jw [k] lx→jw [k] ly→P.plainKey t=true→lx=[x]∧ly=[y]∧xW k x∧xW k y:=fun{k}h1 h2 hp=>by
   have no:∀fs,P.underlying t=some (.struct fs)→False:=fun fs A=>by simp[Program.plainKey,A] at hp
   rcases ix with⟨_,rfl⟩|⟨fs,_,A,_⟩
   ·rcases iy with⟨_,rfl⟩|⟨fs,_,A,_⟩
    ·exact⟨rfl,rfl,h1.1,h2.1⟩
    exact(no fs A).elim
   exact(no fs A).elim
  unfold xi at h
  split at h
  ·rename_i A
   cases h
   obtain⟨rfl,rfl,M,L⟩:=one U Y (by simp[Program.plainKey,A]);generalize G:(100:Nat)=kk at M L
   cases M with
   |int=>rename_i q _;cases q<;>simp[cG] at G
   |str=>simp at G
   |bool=>
    generalize I:(100:Nat)=k2 at L
    cases L with
    |int=>rename_i q _;cases q<;>simp[cG] at I
    |str=>simp at I
    |bool=>exact⟨_,run_equalIn_bool' w _ t _ _ A,by simp[gY]⟩
  ·rename_i k A
   cases h
   obtain⟨rfl,rfl,M,L⟩:=one U Y (by simp[Program.plainKey,A]);generalize G:cG k=kk at M L
   cases M with
   |bool=>cases k<;>simp[cG] at G
   |str=>cases k<;>simp[cG] at G
   |int=>
    rename_i q n;obtain rfl:k=q:=K4 (by rw[G];exact ij _);generalize I:cG k=k2 at L
    cases L with
    |bool=>cases k<;>simp[cG] at I
    |str=>cases k<;>simp[cG] at I
    |int=>
     rename_i q' m;obtain rfl:k=q':=K4 (by rw[I];exact ij _);exact⟨_,run_equalIn_int w _ t k k n m A,by simp[gY]⟩
  ·rename_i A
   cases h
   obtain⟨rfl,rfl,M,L⟩:=one U Y (by simp[Program.plainKey,A]);generalize G:(101:Nat)=kk at M L
   cases M with
   |int=>rename_i q _;cases q<;>simp[cG] at G
   |bool=>simp at G
   |str=>
    generalize I:(101:Nat)=k2 at L
    cases L with
    |int=>rename_i q _;cases q<;>simp[cG] at I
    |bool=>simp at I
    |str=>
     refine⟨_,run_equalIn_string w _ t _ _ A,?_⟩;simp only[gY,jz,BH,vg,and_true,Lit.string.injEq,beq_iff_eq];rw[ByteArray.toList_eq,ByteArray.toList_eq]
  ·rename_i fs A
   split at h
   ·rename_i ks' Xi
    split at h
    ·cases h
     have hP:P.fieldsOf t=fs:=by unfold Program.fieldsOf;rw[A]
     unfold Program.keyTypeAt at O;simp only[A,cU,hO,Array.all_eq_true_iff_forall_mem,bne_iff_ne,ne_eq] at O;have ag:∀{z l},JT P t z l→∃Z,z= .agg Z∧Z.toList=l:=fun{z l}iz=>by
      rcases iz with⟨hp,_⟩|⟨_,Z,_,h1,h2⟩
      ·simp[Program.plainKey,A] at hp
      exact⟨Z,h1,h2⟩
     obtain⟨xs,rfl,rfl⟩:=ag ix;obtain⟨ys,rfl,rfl⟩:=ag iy;obtain⟨r,hr,hi⟩:=YP (fun t ks=>aa8 dd D t ks) w xs ys fs.toList 0 ks Xi (fun f hf=>O.1.1 f (Array.mem_toList_iff.1 hf)) U Y;refine⟨r,?_,hi⟩;rw[show dd+(D+1)=(dd+D)+1 from rfl,run_equalIn_agg w _ t xs ys (by rw[hP];exact A) O.2,hP];exact hr
    cases h
   cases h
  cases h
theorem leaf_ok{c:Nat}{x:ak}{cv:Value}(h:rk c x=true)(z:VR ρ x cv):xW c cv:=by
 unfold rk at h
 split at h
 ·have A:=cD h;simp only[VR] at z;subst z;subst A;exact .int
 ·have A:=cD h;simp only[VR] at z;subst z;subst A;exact .bool
 ·have A:=cD h;simp only[VR] at z;obtain⟨b,rfl,rfl,_⟩:=z;subst A;exact .str
 cases h
theorem P6:∀{ks:List Nat}{l:List ak}{cs:List Value},gj ks l=true→bQ ρ l cs→jw ks cs
 |[],[],_,_,z=>by simp only[bQ] at z;subst z;trivial
 |c::r,x::s,_,h,z=>by
  simp only[gj,cU] at h;simp only[bQ] at z;obtain⟨cv,t,rfl,A,h2⟩:=z;exact⟨leaf_ok h.1 A,P6 h.2 h2⟩
 |[],_::_,_,h,_=>by simp[gj] at h
 |_::_,[],_,h,_=>by simp[gj] at h
theorem YQ{x y:ak}{G cy:Value}{r:Bool}(h:wZ x y=some r)(z:VR ρ x G)(A:VR ρ y cy):r=true↔gY G=gY cy:=by
 unfold wZ at h
 split at h
 ·rename_i k U Y Z
  split at h
  ·rename_i M
   cases h
   have:=K4 M;subst this;simp only[VR] at z A;subst z;subst A;simp[gY,rl]
  cases h
 ·cases h
  simp only[VR] at z A;subst z;subst A;simp[gY]
 ·cases h
  simp only[VR] at z A;obtain⟨I,rfl,rfl,rfl⟩:=z;obtain⟨L,rfl,rfl,rfl⟩:=A;have O:I.size=I.data.toList.length:=Array.length_toList.symm;have h2:L.size=L.data.toList.length:=Array.length_toList.symm;rw[O,h2,Kx];simp[gY]
 cases h
theorem Y8:∀{x y:List ak}{L cy:List Value}{r:Bool},mP x y=some r→bQ ρ x L→bQ ρ y cy→(r=true↔L.map gY=cy.map gY)
 |[],[],_,_,r,h,A,G=>by
  cases h
  simp only[bQ] at A G;subst A;subst G;simp
 |x::s,y::t,_,_,r,h,A,G=>by
  simp only[bQ] at A G;obtain⟨cv,Z,rfl,M,h2⟩:=A;obtain⟨dv,dt,rfl,O,Y⟩:=G;unfold mP at h
  split at h
  ·rename_i e;have I:=YQ e M O;have U:=Y8 h h2 Y;simp only[jz,vg];exact⟨fun z=>⟨I.1 rfl,U.1 z⟩,fun z=>U.2 z.2⟩
  ·rename_i e;have I:=YQ e M O
   split at h
   ·cases h
    simp only[jz,vg];exact⟨fun z=>(by cases z),fun z=>absurd (I.2 z.1) (by simp)⟩
   cases h
  cases h
 |[],_::_,_,_,_,h,_,_=>by cases h
 |_::_,[],_,_,_,h,_,_=>by cases h
theorem eqAgg_sound(hA:AR P ρ nt E a)(hR:R ρ C w){op:BinOp}{t t':TypeId}{fs:Array Field}{x z:Operand}{x' z':aI}{io:bm}(ho:o.op= .binOp op t x z t')(hx:ct P x=some x')(hz:ct P z=some z')(hu:P.underlying t=some (.struct fs))
  (A:TZ P op t x' z'=some io) (h:io.ev call E H= .ok v H'):en P o a w (cQ ρ C w H v H'):=by
 unfold TZ at A
 split at A
 ·rename_i ks Xi
  split at A
  ·rename_i hc;have key:∀neg,(op= .eql∧neg=false)∨(op= .neq∧neg=true)→E5 (.agg ks) neg x' z' E H= .ok v H'→en P o a w (cQ ρ C w H v H'):=by
    intro neg zG h;replace h:=eg h;obtain⟨u,hu1,h⟩:=h;replace h:=eg h;obtain⟨u2,JU,h⟩:=h;replace h:=gS h;obtain⟨r,G,h⟩:=h;rw[PR] at h
    cases h
    have L:=hA.bG hx hu1;have M:=hA.bG hz JU
    cases u<;>try(cases G;done)
    rename_i la
    cases u2<;>try(cases G;done)
    rename_i lb;have G:aD (gj ks la) (aD (gj ks lb) (mP la lb) none) none=some r:=G
    cases g1:gj ks la
    ·rw[g1] at G;cases G
    rw[g1,et] at G
    cases g2:gj ks lb
    ·rw[g2] at G;cases G
    rw[g2,et] at G;simp only[VR] at L M;obtain⟨O,e1,U,_⟩:=L;obtain⟨Y,e2,Z,_⟩:=M;have hla:=P6 g1 U;have hlb:=P6 g2 Z;obtain⟨r',I,hiff⟩:=aa8 9988 12 t ks Xi hc.1 w (.agg O) (.agg Y) _ _ (.inr ⟨fs,O,hu,rfl,rfl⟩) (.inr ⟨fs,Y,hu,rfl,rfl⟩) hla hlb;have hrr:r'=r:=by
     have k:=Y8 G U Z;exact Bool.eq_iff_iff.2 (hiff.trans k.symm)
    subst hrr;have hg:=run_eqGuard_agg (P:=P) w op t x z O Y hc.2;refine eX (cv:=.bool (Bool.xor neg r')) ?_ hR (by simp only[VR]);simp only[execOp,ho,Sem.run_bind,e1,e2,hg,Result.andThen_ok];have I:(Op.equalIn 10000 t (.agg O) (.agg Y)).run P w= .ok r' w:=I;have he:(Op.equal t (.agg O) (.agg Y)).run P w= .ok r' w:=I;rcases zG with⟨rfl,rfl⟩|⟨rfl,rfl⟩
    ·simp only[binOp];simp[he]
    simp only[binOp];simp[he]
   cases op<;>simp only[eA,reduceCtorEq] at A
   ·subst A;exact key false (.inl ⟨rfl,rfl⟩) h
   subst A;exact key true (.inr ⟨rfl,rfl⟩) h
  cases A
 cases A
end
section
variable{P:Program}{ρ:Ho}{nt:Nat}{E:Env}{a:Act}{C:Nat→Option cV}{w:World}{H H':ay}{v:ak}{o:Oper}{call:dG}
theorem freeze_heap(w:World)(b n:Nat)(z:n≠0)(k:Nat):(w.freeze ⟨b,0,none⟩ n).heap[k]?=(w.heap[k]?).map fun ob=>if k=b then(match ob with
   |.cells c elem (lo,hi)=>.cells c elem (if lo==hi then(0,0+n) else(min lo 0,max hi (0+n)))
   |o=>o) else ob:=by
 unfold World.freeze;rw[aZ z];show(w.heap.modify b _)[k]?=_;rw[Vn]
 by_cases h:k=b
 ·subst h;rw[bj rfl];congr 1
  funext ob
  rw[bj rfl]
  cases ob<;>rfl
 rw[aZ (fun e=>h e.symm)]
 cases w.heap[k]?<;>simp[h]
theorem R.freeze(hR:R ρ C w){f g n m lo fl elem aE:Nat}{cs:RT}{z:Hm}(hC:C f=some (.row elem 1 aE m lo fl cs))(hh:ρ f g=some z)(E9:lo≤g)(Xj:g≤m)(hn:n≠0)(hng:n≤g)(U:fl=0∨fl=2)
  (W:Nat→Prop) (hW:W f) (n0:Nat):Ext W n0 n0 ρ ρ w (w.freeze ⟨z.bz,0,none⟩ n)∧R ρ (fun x=>if x=f then some (.row elem 1 aE m lo 2 cs) else C x) (w.freeze ⟨z.bz,0,none⟩ n):=by
 obtain⟨he,mG,_,A⟩:=hR.obj f _ hC g z hh;have A:=A E9 Xj;have aiA:z.ro=false:=by
  cases h:z.ro
  ·rfl
  have:=mG h;omega
 have ait:=A.tT U;obtain⟨c,fz,I,kO⟩:=A.row;have wE:=A.Cp U _ _ _ I;have Y:=freeze_heap w z.bz n hn;have L:∀k,k≠z.bz→(w.freeze ⟨z.bz,0,none⟩ n).heap[k]?=w.heap[k]?:=fun k hk=>by
  rw[Y k]
  cases w.heap[k]?<;>simp[hk]
 obtain⟨Z,M,hfz'⟩:∃Z,(w.freeze ⟨z.bz,0,none⟩ n).heap[z.bz]?=some (.cells c elem Z)∧Z.2≤m:=by
  rw[Y z.bz,I];obtain⟨l1,h1⟩:=fz;simp only[rK,if_true]
  by_cases G:l1=h1
  ·subst G;exact⟨(0,0+n),by simp,by simp;omega⟩
  refine⟨(min l1 0,max h1 (0+n)),by simp[G],?_⟩;have:h1≤m:=by
   rcases wE with h|h
   ·exact absurd h G
   simpa using h
  simp only;omega
 have MK:∀ad:Addr,(w.freeze ⟨z.bz,0,none⟩ n).cell? ad=w.cell? ad:=fun ad=>by
  by_cases G:ad.block=z.bz
  ·simp only[World.cell?,G,M,I]
  exact cell_of_heap (w:=w) (L _ G)
 have T1:(w.freeze ⟨z.bz,0,none⟩ n).heap.size=w.heap.size:=by
  unfold World.freeze;rw[aZ hn];simp
 refine⟨⟨Ho.le_refl _,fun f' g' h' e=>.inl ⟨g',h',e⟩,fun _ _ _ e=>.inl e,fun b _ G=>L b fun e=>G f g z hh aiA hW e.symm,by rw[T1];exact bt _,bt _,?_,?_,?_⟩,⟨?_,hR.my,fun f' g' h' e=>by rw[T1];exact hR.gE f' g' h' e,hR.uniq,fun f' g' h' e a b=>(hR.db f' g' h' e a b).gg (MK _)⟩⟩
 ·unfold World.freeze;rw[aZ hn]
 ·unfold World.freeze;rw[aZ hn]
 ·unfold World.freeze;rw[aZ hn]
 intro f' o' pD g' h' hx;have pB:(if f'=f then some (cV.row elem 1 aE m lo 2 cs) else C f')=some o':=pD;clear pD
 by_cases e:f'=f
 ·rw[bj e] at pB;subst e
  cases pB
  obtain⟨_,r1,r2,r3⟩:=hR.obj f' _ hC g' h' hx;refine⟨he,fun h=>by have:=r1 h;omega,r2,fun a1 a2=>?_⟩;have r:=r3 a1 a2;have O:∀i,i<g'→∃l,cs.get i=some l∧l.length=1∧∀j x,l[j]?=some x→eI x=true∧∃cv,(w.freeze ⟨z.bz,0,none⟩ n).cell? ⟨h'.bz,h'.off+i*1+j,none⟩=some cv∧VR ρ x cv:=fun i hi=>by
   obtain⟨l,l1,l2,l3⟩:=r.cell i hi;exact⟨l,l1,l2,fun j x hj=>by rw[MK];exact l3 j x hj⟩
  by_cases G:h'.bz=z.bz
  ·obtain⟨c1,wF,q1,q2⟩:=r.row;rw[G,I] at q1
   cases q1
   refine⟨⟨c,Z,by rw[G];exact M,q2⟩,r.fits,O,fun h=>by omega,fun _ i hi _=>?_,fun _=>r.tT U,fun _ c1 e1 wF oz=>?_⟩
   ·simp only[World.frozen?,G,M];obtain⟨l1,h1⟩:=Z;simp only at hfz'⊢;simp;omega
   rw[G,M] at oz
   cases oz
   right;omega
  have hw:=L _ G;refine⟨by rw[hw];exact r.row,r.fits,O,fun h=>by omega,fun _ i hi sd=>by rw[frozen_of_heap (w:=w) hw];exact r.Bg aq i hi sd,fun _=>r.tT U,fun _ c1 e1 wF oz=>r.Cp U c1 e1 wF (by rw[←hw];exact oz)⟩
 rw[aZ e] at pB;refine(hR.obj f' o' pB g' h' hx).gg (Ho.le_refl _) (L _ fun G=>?_);have:=(hR.my _ _ _ _ _ _ hx hh e G).2;rw[aiA] at this;cases this
theorem frz_ok{f e:Nat}{k:ay→aC}(h:jZ f e H k= .ok v H'):∃aE m lo fl cs,H.t.get f=some (.row e 1 aE m lo fl cs)∧(fl=0∨fl=2)∧k ⟨H.next,H.aQ,wrote f H.aQ H.ws,H.t.set f (.row e 1 aE m lo 2 cs)⟩= .ok v H':=by
 cases H with
 |mk next aQ ws t=>
  have h:iT (t.get f) (aC.err 46) (fun elem es aE m lo fl cs=>
   aD (Nat.beq elem e) (aD (Nat.beq es 1) (aD (aD (Nat.beq fl 0) true (Nat.beq fl 2)) (t.fr f (.row elem es aE m lo 2 cs) fun t=>k ⟨next,aQ,wrote f aQ ws,t⟩) (.err 46)) (.err 46)) (.err 46))= .ok v H':=h
  cases z:t.get f with
  |none=>rw[z] at h;cases h
  |some ob=>cases ob with
   |map=>rw[z] at h;cases h
   |row elem es aE m lo fl cs=>
    rw[z] at h;have h:aD (Nat.beq elem e) (aD (Nat.beq es 1) (aD (aD (Nat.beq fl 0) true (Nat.beq fl 2)) (t.fr f (.row elem es aE m lo 2 cs) fun t=>k ⟨next,aQ,wrote f aQ ws,t⟩) (.err 46)) (.err 46)) (.err 46)= .ok v H':=h;replace h:=eu h;obtain⟨A,h⟩:=h;replace h:=eu h;obtain⟨G,h⟩:=h;replace h:=eu h;obtain⟨I,h⟩:=h;rw[GT.jc] at h;have A:=cD A;have G:=cD G;have M:=h;subst A;subst G;have O:({next:=next,aQ:=aQ,ws:=ws,t:=t}:ay).t.get f=some (cV.row elem 1 aE m lo fl cs):=z;refine⟨aE,m,lo,fl,cs,rfl,?_,M⟩
    cases L:Nat.beq fl 0
    ·rw[L] at I;exact .inr (cD I)
    exact .inl (cD L)
theorem ustr_sound(hA:AR P ρ nt E a)(hR:R ρ C w){c:Call}{x y:Operand}{x' y':aI}{pt it e:TypeId}(ho:o.op= .call c)(hc:c.callee= .builtin .unsafeString)(A:c.args=#[x,y])(hx:ct P x=some x')(hy:ct P y=some y')
  (hts:c.argTypes=#[pt,it]) (hp:P.underlying pt=some (.pointer e)) (Xk:P.cellsOf e=1) (hC:∀f o,f∈fS (x'.ev E)→(∃g h,ρ f g=some h)→H.t.get f=some o→C f=some o)
  (h:HS e x' y' E H= .ok v H'):en P o a w (cQ ρ C w H v H'):=by
 replace h:=eg h;obtain⟨u,hu,h⟩:=h
 cases G:LH u with
 |true=>
  rw[G,et] at h;have hun:u= .kj:=by cases u<;>first|rfl|cases G
  subst hun;replace h:=eg h;obtain⟨u2,JU,h⟩:=h;replace h:=xd h;obtain⟨k,l0,rfl,h⟩:=h;replace h:=CU h;obtain⟨l,rfl,h⟩:=h;replace h:=eu h;obtain⟨b2,h⟩:=h;replace h:=eu h;obtain⟨O,h⟩:=h
  cases h
  have b2:=cD b2;have O:=cD O;have hk:k= .i64:=by cases k<;>simp[cG] at b2<;>rfl
  subst hk;subst O;have U:=hA.bG hx hu;have h2:=hA.bG hy JU;simp only[VR] at U h2;have I:(Builtin.unsafeString_ #[pt,it] o.type #[.pointer none,.int .i64 0]).run P w= .ok (.string .empty) w:=rfl;refine .inl ⟨.string .empty,w,?_,ρ,?_,Ext.refl _ _ _ _,?_⟩
  ·have h2:a.eval y= .int .i64 0:=h2;simp[execOp,ho,resolve,hc,A,invoke,builtin,U,h2,hts,I]
  ·simp only[VR];exact⟨_,rfl,rfl,rfl⟩
  rw[oJ];exact hR
 |false=>
 rw[G,show∀a b:aC,aD false a b=b from fun _ _=>rfl] at h;replace h:=Ap h;obtain⟨f,g,off,rfl,h⟩:=h;replace h:=eg h;obtain⟨u2,JU,h⟩:=h;replace h:=xd h;obtain⟨k,l0,rfl,h⟩:=h;replace h:=CU h;obtain⟨l,rfl,h⟩:=h;replace h:=eu h;obtain⟨b1,h⟩:=h;replace h:=eu h;obtain⟨b2,h⟩:=h;replace h:=eu h;obtain⟨O,h⟩:=h;replace h:=eu h;obtain⟨b4,h⟩:=h;replace h:=gS h;obtain⟨L,hL,h⟩:=h;replace h:=gS h;obtain⟨s,hs,h⟩:=h;rw[fQ] at h;obtain⟨aE,m,lo,fl,cs,hg,zD,h⟩:=frz_ok h
 cases h
 have b1:=cD b1;have b2:=cD b2;have O:=aV O;have b4:=aV b4;have hk:k= .i64:=by cases k<;>simp[cG] at b2<;>rfl
 subst hk;subst b1;have U:=hA.bG hx hu;have h2:=hA.bG hy JU;simp only[VR] at U h2;obtain⟨hm,hh,U⟩:=U;obtain⟨hlen,Fc⟩:=KO hL;obtain⟨Y,g1,g2,g3⟩:=PT hs;have Xh:Y.length=l:=g1.trans hlen;subst Xh;have M:=hC f _ (by rw[hu];simp[fS]) ⟨_,_,hh⟩ hg;have hlast:=Fc (Y.length-1) _ (dm aq);obtain⟨elem',cY,kT,m',zH,kP,cs',x1,hg',q1,q2,q3,q4,q5,_⟩:=hlast;rw[hg] at hg'
 cases hg'
 have hng:Y.length≤g:=by simp at q4;omega
 obtain⟨_,_,_,z⟩:=hR.obj f _ M g hm hh;have z:=z q1 q2;have Z:=z.tT zD;obtain⟨cc,fz,N0,kO⟩:=z.row;have VA:=z.fits;have hsh:w.shape? hm.bz=some (e,cc.size):=by simp[World.shape?,N0]
 have I:=Lib.run_unsafeString_row (P:=P) w pt it o.type e hp Xk hm.bz cc.size hsh Y (by intro e0;rw[e0] at O;simp at O) aq aq (fun j b hj=>by
  have zI:=Fc j _ (g3 j b hj);obtain⟨_,_,Fe⟩:=hR.rd zI (M.trans hg.symm) hh aq;obtain⟨cv,oz,hc2⟩:=Fe 0 _ rfl;simp only[VR] at hc2;subst hc2;rw[Addr.add_lit]
  simpa[Z] using oz)
 obtain⟨r1,r2⟩:=hR.freeze (n:=Y.length) M hh q1 q2 aq hng zD (Wr ⟨H.next,H.aQ,wrote f H.aQ H.ws,H.t.set f (.row e 1 aE m lo 2 cs)⟩) (KP _ _ _) H.next;refine .inl ⟨.string ⟨Y.toArray⟩,w.freeze ⟨hm.bz,0,none⟩ Y.length,?_,ρ,?_,r1,?_⟩
 ·rw[Z] at U;have h2:a.eval y= .int .i64 Y.length:=h2;simp[execOp,ho,resolve,hc,A,invoke,builtin,U,h2,hts,I]
 ·simp only[VR];exact⟨_,rfl,rfl,by rw[g2]⟩
 rw[P1 (M.trans hg.symm) hg];exact r2
end
section
variable{P:Program}{ρ:Ho}{nt:Nat}{E:Env}{a:Act}{C:Nat→Option cV}{w:World}{H H':ay}{v:ak}{o:Oper}
theorem adq{mx:Bool}{k:IntKind}:∀{vs:List ak}{nm:List Value}{n:Int}{r:ak},bQ ρ vs nm→E6 mx k vs n=some r→
  ∃m,r= .int k m∧(nm.foldlM (if mx=true then Builtin.max2 else Builtin.min2) (.int k n)).run P w= .ok (.int k m) w
 |[],nm,n,r,z,h=>by
  simp only[bQ] at z;subst z
  cases h
  exact⟨n,rfl,rfl⟩
 |x::vs,nm,n,r,z,h=>by
  simp only[bQ] at z;obtain⟨cv,t,rfl,A,h2⟩:=z;replace h:adh x none (fun _ b=>lq (aD (aD mx (fA n b) (fA b n)) b n) (E6 mx k vs))=some r:=h
  cases x<;>try(cases h;done)
  rename_i G b;replace h:lq (aD (aD mx (fA n b) (fA b n)) b n) (E6 mx k vs)=some r:=h;rw[wV] at h;simp only[VR] at A;subst A;obtain⟨m,I,L⟩:=adq (nm:=t) h2 h;refine⟨m,I,?_⟩;rw[List.foldlM_cons];have e:((if mx=true then Builtin.max2 else Builtin.min2) (.int k n) (.int G b)).run P w= .ok (.int k (aD (aD mx (fA n b) (fA b n)) b n)) w:=by
   cases mx
   ·simp only[gK,if_false,chk_false,nK,sT,fy];rfl
   simp only[if_true,et,nK,sT,fy];rfl
  simp only[Sem.run_bind,e];exact L
theorem YA(U:AR P ρ nt E a)(Z:R ρ C w){mx:Bool}{c:Call}{x:Operand}{r:List Operand}{Y:aI}{r':List aI}(ho:o.op= .call c)(L:c.callee= .builtin (if mx=true then .max else .min))(G:c.args.toList=x::r)(hx:ct P x=some Y)(hr:jM P r=some r')
  (h:Gc mx Y r' E H= .ok v H'):en P o a w (cQ ρ C w H v H'):=by
 replace h:=eg h;obtain⟨u,hu,h⟩:=h;replace h:=xd h;obtain⟨k,n,rfl,h⟩:=h;replace h:=gS h;obtain⟨vs,M,h⟩:=h;replace h:=gS h;obtain⟨res,I,h⟩:=h
 cases h
 have O:=U.bG hx hu;have h2:=U.cT hr M;simp only[VR] at O;obtain⟨m,rfl,z⟩:=adq (P:=P) (w:=w) h2 I;have A:c.args=(x::r).toArray:=by rw[←G]
 refine eX (cv:=.int k m) ?_ Z (by simp only[VR])
 cases mx
 ·simp only[gK,if_false] at L z;simp[execOp,ho,resolve,L,A,invoke,builtin,Builtin.min_,O,z]
 simp only[if_true] at L z;simp[execOp,ho,resolve,L,A,invoke,builtin,Builtin.max_,O,z]
end
end Go.Ev
