/- Part 5 of rules for walks through the code of a program, and of such walks; what each part proves is said by its theorems. -/
import Derived.Test.YtijnechfhdlgiaaGreatDoorS4
import Derived.Laws.IdiomStrings
import Derived.Laws.BytesArg
import Derived.Lib.Builder
import Derived.Lib.UnsafeStr
import Derived.DeepKeys
import Derived.OpenShut
import Derived.Laws.StructEq
set_option linter.unusedVariables false
set_option linter.unusedSimpArgs false
namespace Go.Ev
section
variable{P:Program}{ρ:Ho}{nt:Nat}{E:Env}{a:Act}{C:Nat→Option dQ}{w:World}{H H':az}{v:an}{o:Oper}{call:eI}
theorem Rc(hA:AR P ρ nt E a)(hR:R ρ C w)(hF:iv ρ H.next H'.next){src dst e:TypeId}{x:Operand}{x':aF}(ho:o.op= .convert src dst x)(hx:dm P x=some x')
  (hs:P.underlying src=some .string) (hd:P.underlying dst=some (.slice e)) (he:P.underlying e=some (.int .u8)) (h:zL e x' E H= .ok v H'):fq P o a w (dW ρ C w H v H'):=by
 replace h:=fu h;obtain⟨u,hu,h⟩:=h
 replace h:=xg h;obtain⟨l,s,rfl,h⟩:=h
 replace h:=fO h;obtain⟨_,h⟩:=h
 rw[vE] at h
 have h:=xh h
 cases h
 have U:=hA.b8 hx hu
 simp only[VR] at U
 obtain⟨b,U,rfl,rfl⟩:=U
 have G:=run_bytes_of_string (P:=P) w src dst e b hs hd he
 have Y:=grownCap_ge w b.size 0 e
 generalize grownCap w b.size 0 e=A at*
 have Z:b.data.toList.length=b.size:=nx
 have I:(bytesRow b A).size=A:=by
  unfold bytesRow
  simp only[Fb,Array.size_map,Array.size_replicate]
  have:b.data.size=b.size:=rfl
  omega
 obtain⟨ρ',g1,g2,g3⟩:=hR.Nc 3 ((bytesRow b A).size,(bytesRow b A).size+1) (f:=H.next) (elem:=e) (es:=1) (aP:=1) (n:=b.size) (cs:=jG (mC b.size (pack b.data.toList)) .emp 0) (cells:=bytesRow b A)
  (w':=w.drew.alloc (.cells (bytesRow b A) e ((bytesRow b A).size,(bytesRow b A).size+1)))
  (Wr ⟨H.next+1,H.bc,H.ws,H.t.set H.next (.row e 1 1 b.size b.size 3 (jG (mC b.size (pack b.data.toList)) .emp 0))⟩) (fun g=>hF _ g (bV _) (gh _)) (by omega) (by rw[I];omega)
  (fun k hk=>by
   rw[tE,aw (by rw[zj];omega),Fc]
   have J:k<(mC b.size (pack b.data.toList)).length:=by rw[zj];exact hk
   refine⟨_,eP J,?_⟩
   have K:=eP J
   obtain⟨y,O,hy2⟩:=Gv b.data.toList k _ (by rw[Z];exact K)
   rw[hy2]
   refine⟨rfl,fun j z hz=>?_⟩
   cases j with
   |succ j=>simp at hz
   |zero=>
    simp at hz
    subst hz
    refine⟨rfl,.int .u8 y.toNat,?_,by simp only[VR]⟩
    unfold bytesRow
    rw[Fe (by rw[Array.size_map];show k*1+0<b.size;omega)]
    simp only[IF,wx,Array.getElem?_map]
    rw[Pe] at O
    rw[O];rfl) rfl (fun i hi h=>by simp at h;omega) (fun h=>by omega) rfl rfl rfl
 refine .inl ⟨.slice (some ⟨w.heap.size,0,none⟩) b.size A,w.drew.alloc (.cells (bytesRow b A) e ((bytesRow b A).size,(bytesRow b A).size+1)),?_,ρ',?_,g2,?_⟩
 ·simp only[execOp,ho,U,Sem.run_bind]
  rw[G]
  rfl
 ·simp only[VR]
  exact⟨_,_,_,g1,rfl,Y,.inl ⟨rfl,by simp only;rw[I];omega⟩⟩
 rw[Cg];exact g3
theorem Gx:∀{L:List (List an)}{s:Nat},nR L=some s→∃z:List UInt8,z.length=L.length∧s=pack z∧∀(i:Nat)(b:UInt8),z[i]?=some b→L[i]?=some [an.int .u8 (Int.ofNat b.toNat)]
 |[],s,h=>by cases h;exact⟨[],rfl,rfl,fun i b h=>by simp at h⟩
 |c::r,s,h=>by
  cases c with
  |nil=>cases h
  |cons x t=>cases t with
   |cons y t=>cases h
   |nil=>
    have h:M8 x none (fun k i=>aG (Nat.beq (dw k) 4) (jj i none fun b=>aG (Nat.ble b 255) (ob (nR r) none fun v=>some (Nat.add b (Nat.mul 256 v))) none) none)=some s:=h
    cases x with
    |int k i=>
     have h:aG (Nat.beq (dw k) 4) (jj i none fun b=>aG (Nat.ble b 255) (ob (nR r) none fun v=>some (Nat.add b (Nat.mul 256 v))) none) none=some s:=h
     cases A:Nat.beq (dw k) 4
     ·rw[A] at h;cases h
     rw[A,f6] at h
     cases i with
     |negSucc m=>cases h
     |ofNat b=>
      have h:aG (Nat.ble b 255) (ob (nR r) none fun v=>some (Nat.add b (Nat.mul 256 v))) none=some s:=h
      cases h2:Nat.ble b 255
      ·rw[h2] at h;cases h
      rw[h2,f6] at h
      cases G:nR r with
      |none=>rw[G] at h;cases h
      |some v=>
       rw[G] at h
       cases h
       obtain⟨z,K,O,U⟩:=Gx G
       have A:=eb A
       have h2:=bO h2
       have hk:k= .u8:=by cases k<;>simp[dw] at A<;>rfl
       subst hk
       have J:(UInt8.ofNat b).toNat=b:=by rw[UInt8.toNat_ofNat'];omega
       refine⟨UInt8.ofNat b::z,by simp[K],?_,fun i y I=>?_⟩
       ·show b+256*v=(UInt8.ofNat b).toNat+256*pack z
        rw[J,O]
       cases i with
       |zero=>simp at I;subst I;rw[J];rfl
       |succ i=>exact U i y (by simpa using I)
    |_=>cases h
theorem Re(hA:AR P ρ nt E a)(U:R ρ C w){src dst e:TypeId}{x:Operand}{Y:aF}(ho:o.op= .convert src dst x)(hx:dm P x=some Y)
  (hs:P.underlying src=some (.slice e)) (hd:P.underlying dst=some .string) (he:P.underlying e=some (.int .u8))
  (hC:∀f o,f∈iZ (Y.ev E)→(∃g h,ρ f g=some h)→H.t.get f=some o→C f=some o) (h:zM Y E H= .ok v H'):fq P o a w (dW ρ C w H v H'):=by
 replace h:=fu h;obtain⟨u,hu,h⟩:=h
 have z:=hA.b8 hx hu
 cases u<;>try(cases h;done)
 case cg=>
  cases h
  simp only[VR] at z
  refine gJ (cv:=.string ByteArray.empty) ?_ U (by simp only[VR];exact⟨_,rfl,rfl,rfl⟩)
  have:=run_convert_bytes_nil (P:=P) (w:=w) src e hs he 0 0 dst hd
  simp only[execOp,ho,z,Sem.run_bind,this]
  rfl
 case slice f g off n es=>
  have h:ob (elems H f g 1 n off) (.err 39) (fun l=>ob (nR l) (.err 39) fun s=>dk s fun s=>aE.ok (.str n s) H)= .ok v H':=h
  replace h:=ju h;obtain⟨L,hL,h⟩:=h
  replace h:=ju h;obtain⟨s,Z,h⟩:=h
  rw[ij] at h
  cases h
  simp only[VR] at z
  obtain⟨hm,ad,cap,hh,z,Ps,qR⟩:=z
  obtain⟨hlen,FW⟩:=Ct hL
  obtain⟨K,g1,g2,g3⟩:=Gx Z
  have Bu:K.length=n:=g1.trans hlen
  subst Bu
  have A:=run_convert_bytes_back (P:=P) w src dst e ad cap K hs he hd (fun j hj=>by
   have O:=g3 j K[j] (eP hj)
   have G:=FW j _ O
   have th:C f=H.t.get f:=by
    obtain⟨_,_,_,_,_,_,_,_,O,_⟩:=G
    exact(hC f _ (by rw[hu];simp[iZ]) ⟨_,_,hh⟩ O).trans O.symm
   obtain⟨_,_,hc⟩:=U.rd G th hh (by omega)
   obtain⟨cv,I,J⟩:=hc 0 _ rfl
   simp only[VR] at J
   subst J
   rcases qR with⟨rfl,_⟩|⟨h0,_,_⟩
   ·rw[Addr.add_lit]
    rw[←mX] at I
    simpa using I
   omega)
  refine gJ (cv:=.string ⟨K.toArray⟩) ?_ U (by simp only[VR];exact⟨_,rfl,rfl,by rw[g2]⟩)
  simp only[execOp,ho,z,Sem.run_bind,A]
  rfl
theorem Rr{e:TypeId}(A:P.cellsOf e≠0)(count:Nat)(G:1≤count):liesAt P P.depth e count 0 e 1=true:=by
 have z:P.depth=(2*(P.types.size+Made.depth)+1)+1:=rfl
 rw[z]
 simp only[liesAt,uX]
 left
 rw[z]
 simp[rowAt,A,G,sameLayout]
theorem J9(hA:AR P ρ nt E a)(hR:R ρ C w){src dst t:TypeId}{x:Operand}{x':aF}{io:bG}(ho:o.op= .convert src dst x)(hx:dm P x=some x')
  (I:(P.underlying src=some (.pointer t)∧P.underlying dst=some .unsafePointer)∨(P.underlying src=some .unsafePointer∧P.underlying dst=some (.pointer t))) (G:CF P t x'=some io)
  (hC:∀f o,(∀l,io.reads E=some l→f∈l)→(∃g h,ρ f g=some h)→H.t.get f=some o→C f=some o) (h:io.ev call E H= .ok v H'):fq P o a w (dW ρ C w H v H'):=by
 unfold CF at G
 split at G
 ·rename_i j hj
  split at G
  ·rename_i nG
   cases G
   have h:Ae t (P.cellsOf t) x' E H= .ok v H':=h
   replace h:=fu h;obtain⟨u,hu,h⟩:=h
   have K:=hA.b8 hx hu
   cases hn:xI u with
   |true=>
    rw[hn,f6] at h
    cases u<;>try(cases hn;done)
    cases h
    simp only[VR] at K
    refine gJ (cv:=.pointer none) ?_ hR (by simp only[VR])
    have:(convert src dst (.pointer none)).run P w= .ok (.pointer none) w:=by
     rcases I with⟨O,J⟩|⟨O,J⟩<;>simp[convert,run_underlying O,run_underlying J,Conv.unsafePointer]
    simp only[execOp,ho,K,Sem.run_bind,this]
    rfl
   |false=>
    rw[hn] at h
    have h:iE u (.err 44) (fun f g off=>iY (H.t.get f) (.err 44) fun elem es _ m lo fl _=>
     aG (Nat.beq elem t) (aG (Nat.beq es (P.cellsOf t)) (aG (Nat.beq off 0) (aG (Nat.ble lo g) (aG (Nat.ble g m) (aG (Nat.ble 1 g) (aG (Nat.beq fl 0) (aE.ok u H) (.err 44)) (.err 44)) (.err 44)) (.err 44)) (.err 44)) (.err 44)) (.err 44))= .ok v H':=h
    replace h:=vF h;obtain⟨f,g,off,rfl,h⟩:=h
    cases hg:H.t.get f with
    |none=>rw[hg] at h;cases h
    |some ob=>cases ob with
     |map=>rw[hg] at h;cases h
     |row elem es aP m lo fl cs=>
      rw[hg] at h
      have h:aG (Nat.beq elem t) (aG (Nat.beq es (P.cellsOf t)) (aG (Nat.beq off 0) (aG (Nat.ble lo g) (aG (Nat.ble g m) (aG (Nat.ble 1 g) (aG (Nat.beq fl 0) (aE.ok (.ptr f g off) H) (.err 44)) (.err 44)) (.err 44)) (.err 44)) (.err 44)) (.err 44)) (.err 44)= .ok v H':=h
      replace h:=fO h;obtain⟨b1,h⟩:=h
      replace h:=fO h;obtain⟨b2,h⟩:=h
      replace h:=fO h;obtain⟨b3,h⟩:=h
      replace h:=fO h;obtain⟨b4,h⟩:=h
      replace h:=fO h;obtain⟨b5,h⟩:=h
      replace h:=fO h;obtain⟨b6,h⟩:=h
      replace h:=fO h;obtain⟨b7,h⟩:=h
      cases h
      have b1:=eb b1
      have b2:=eb b2
      have b3:=eb b3
      have b4:=bO b4
      have b5:=bO b5
      have b6:=bO b6
      have b7:=eb b7
      subst b1;subst b3;subst b7
      simp only[VR] at K
      obtain⟨A,hh,K⟩:=K
      have th:=hC f _ (fun l e=>by have e:some (iZ (x'.ev E))=some l:=e;rw[hu] at e;cases e;simp[iZ]) ⟨_,_,hh⟩ hg
      obtain⟨he,_,_,z⟩:=hR.obj f _ th g A hh
      have z:=z b4 b5
      obtain⟨c,fz,U,Ig⟩:=z.row
      have Y:=z.sT (.inl rfl)
      have IM:=z.fits
      have tm:es≤g*es:=Nat.le_mul_of_pos_left _ b6
      have Z:w.shape? A.ca=some (elem,c.size):=by simp[World.shape?,U]
      refine gJ (cv:=.pointer (some ⟨A.ca,A.off+0,none⟩)) ?_ hR (by simp only[VR];exact⟨A,hh,rfl⟩)
      have:(convert src dst (.pointer (some ⟨A.ca,A.off+0,none⟩))).run P w= .ok (.pointer (some ⟨A.ca,A.off+0,none⟩)) w:=by
       rcases I with⟨O,J⟩|⟨O,J⟩
       ·exact Lib.run_to_unsafe w ⟨A.ca,A.off+0,none⟩ O J hj nG Z (by show A.off+0<c.size;omega)
       refine Lib.run_from_unsafe w ⟨A.ca,A.off+0,none⟩ O J hj Z ?_
       show liesAt P P.depth elem (c.size/P.cellsOf elem) (A.off+0) elem 1=true
       rw[Y,←b2]
       have J:=Nat.div_pos (show es≤c.size by omega) he
       have:=Rr (P:=P) (e:=elem) (by rw[←b2];omega) (c.size/es) J
       rw[wx]
       exact this
      simp only[execOp,ho,K,Sem.run_bind,this]
      rfl
  cases G
 cases G
theorem SB(Z:AR P ρ nt E a)(J:R ρ C w){c:Call}{x:Operand}{K:aF}(ho:o.op= .call c)(O:c.callee= .builtin .unsafeSliceData)(z:c.args=#[x])(hx:dm P x=some K)
  (h:A8 K E H= .ok v H'):fq P o a w (dW ρ C w H v H'):=by
 replace h:=fu h;obtain⟨u,hu,h⟩:=h
 have A:=Z.b8 hx hu
 cases u<;>try(cases h;done)
 case cg=>
  cases h
  simp only[VR] at A
  refine gJ (cv:=.pointer none) ?_ J (by simp only[VR])
  simp[execOp,ho,resolve,O,z,invoke,builtin,A,Lib.run_unsafeSliceData_nil]
 case slice f g off l es=>
  have h:aG (Nat.beq l 0) (.err 45) (aE.ok (.ptr f g off) H)= .ok v H':=h
  replace h:=Nf h;obtain⟨U,h⟩:=h
  cases h
  simp only[VR] at A
  obtain⟨G,ad,cap,hh,A,Y,I⟩:=A
  have hl:l≠0:=fun e=>by rw[e] at U;cases U
  rcases I with⟨rfl,_⟩|⟨e,_,_⟩
  ·refine gJ (cv:=.pointer (some ⟨G.ca,G.off+off,none⟩)) ?_ J (by simp only[VR];exact⟨G,hh,rfl⟩)
   simp[execOp,ho,resolve,O,z,invoke,builtin,A,Lib.run_unsafeSliceData_row w _ _ _ l cap (by omega)]
  exact absurd e hl
theorem Rt(I:AR P ρ nt E a)(J:R ρ C w)(U:iv ρ H.next H'.next){src dst:TypeId}{x:Operand}{O:aF}{io:bG}(ho:o.op= .convert src dst x)(K:dm P x=some O)(z:G' P src dst O=some io)
  (hC:∀f o,(∀l,io.reads E=some l→f∈l)→(∃g h,ρ f g=some h)→H.t.get f=some o→C f=some o) (h:io.ev call E H= .ok v H'):fq P o a w (dW ρ C w H v H'):=by
 unfold G' at z
 split at z
 ·rename_i e A G
  split at z
  ·rename_i he;cases z;exact Rc I J U ho K A G he h
  cases z
 ·rename_i e A G
  split at z
  ·rename_i he;cases z;exact Re I J ho K A G he (fun f o Y=>hC f o (fun l e=>by cases e;exact Y)) h
  cases z
 ·rename_i t A G;exact J9 I J ho K (.inl ⟨A,G⟩) z hC h
 ·rename_i t A G;exact J9 I J ho K (.inr ⟨A,G⟩) z hC h
 cases z
end
section
variable{P:Program}{ρ:Ho}{nt:Nat}{E:Env}{a:Act}{C:Nat→Option dQ}{w:World}{H H':az}{v:an}{o:Oper}{call:eI}
def jA:Value→Lit
 |.bool b=>.bool b
 |.int k n=>.int k n
 |.string s=>.string s.data.toList
 |_=>.bool false
inductive uK:Nat→Value→Prop
 |int {q:IntKind} {n:Int}:uK (dw q) (.int q n)
 |bool {b:Bool}:uK 100 (.bool b)
 |str {s:ByteArray}:uK 101 (.string s)
def kV:List Nat→List Value→Prop
 |[],[]=>True
 |k::r,c::s=>uK k c∧kV r s
 |_,_=>False
theorem kV.split:∀{k l:List Nat}{cs:List Value},kV (k++l) cs→kV k (cs.take k.length)∧kV l (cs.drop k.length)
 |[],l,cs,h=>by simpa[kV] using h
 |x::k,l,[],h=>by simp[kV] at h
 |x::k,l,c::cs,h=>by
  have h:uK x c∧kV (k++l) cs:=h
  obtain⟨z,h2⟩:=kV.split h.2
  exact⟨by simpa[kV] using⟨h.1,z⟩,by simpa using h2⟩
theorem kV.length:∀{k:List Nat}{cs:List Value},kV k cs→cs.length=k.length
 |[],[],_=>rfl
 |[],_::_,h=>h.elim
 |_::_,[],h=>h.elim
 |_::k,_::cs,h=>by have:=kV.length h.2;simp[this]
def Bv(P:Program)(t:TypeId)(x:Value)(l:List Value):Prop:=(P.plainKey t=true∧l=[x])∨∃z xs,P.underlying t=some (.struct z)∧x= .agg xs∧xs.toList=l
def Qd(P:Program)(d:Nat)(t:TypeId)(ks:List Nat):Prop:=∀(w:World)x y z A,Bv P t x z→Bv P t y A→kV ks z→kV ks A→∃r:Bool,(Op.equalIn d t x y).run P w= .ok r w∧(r=true↔z.map jA=A.map jA)
theorem KO(w:World){D:Nat}{e:TypeId}{k:List Nat}{xs:Array Value}{off:Nat}(hk:tV P D e=some k)(G:k.length=P.cellsOf e)(I:kV k ((xs.toList.drop off).take k.length)):
  ∃a,(part e xs off).run P w= .ok a w∧Bv P e a ((xs.toList.drop off).take k.length):=by
 cases D with
 |zero=>cases hk
 |succ D=>
  unfold tV at hk
  have plain:P.plainKey e=true→k.length=1→∃a,(part e xs off).run P w= .ok a w∧Bv P e a ((xs.toList.drop off).take k.length):=fun hp J=>by
   have h2:=I.length
   rw[J] at h2⊢
   obtain⟨a,A⟩:∃a,(xs.toList.drop off).take 1=[a]:=by
    match U:(xs.toList.drop off).take 1,h2 with
    |[a],_=>exact⟨a,rfl⟩
   exact⟨a,run_part_plain w hp (getElem?_of_chunk A),.inl ⟨hp,A⟩⟩
  split at hk
  ·rename_i z;cases hk;exact plain (by simp[Program.plainKey,z]) rfl
  ·rename_i z;cases hk;exact plain (by simp[Program.plainKey,z]) rfl
  ·rename_i z;cases hk;exact plain (by simp[Program.plainKey,z]) rfl
  ·rename_i K z
   obtain⟨i,hi⟩:=info_of_underlying z
   have O:(xs.extract off (off+P.cellsOf e)).toList=(xs.toList.drop off).take (P.cellsOf e):=by
    rw[Iv];simp[List.extract]
   exact⟨.agg (xs.extract off (off+P.cellsOf e)),by simp[part,isAgg,run_underlying z,run_sizeOf w hi],.inr ⟨K,_,z,rfl,by rw[O,G]⟩⟩
  cases hk
theorem J'{D dd:Nat}(U:∀t ks,tV P D t=some ks→P.keyTypeAt D t=true→Qd P dd t ks)(w:World)(xs ys:Array Value):∀(A:List Field)(off:Nat)(ks:List Nat),CE P (tV P D) off A=some ks→
  (∀f,f∈A→f.name≠ "_"∧P.keyTypeAt D f.type=true)→kV ks (xs.toList.drop off)→kV ks (ys.toList.drop off)→
  ∃r:Bool,(Op.eqFields dd xs ys A).run P w= .ok r w∧(r=true↔(xs.toList.drop off).map jA=(ys.toList.drop off).map jA)
 |[],off,ks,h,_,G,I=>by
  cases h
  refine⟨true,by simp[Op.eqFields],?_⟩
  rw[tc G.length,tc I.length];simp
 |f::r,off,ks,h,Y,G,I=>by
  unfold CE at h
  split at h
  ·rename_i k hk
   split at h
   ·rename_i J
    split at h
    ·rename_i l K
     cases h
     obtain⟨x1,x2⟩:=G.split
     obtain⟨O,y2⟩:=I.split
     have lx:=x1.length;have ly:=O.length
     rw[Fg] at x2 y2
     obtain⟨h1,h2⟩:=Y f (by simp)
     obtain⟨a,Z,i1⟩:=KO w hk J.2 x1
     obtain⟨b,p2,i2⟩:=KO w hk J.2 O
     obtain⟨q,p3,e1⟩:=U _ _ hk h2 w a b _ _ i1 i2 x1 O
     obtain⟨q',p4,e2⟩:=J' U w xs ys r (off+k.length) l K (fun f hf=>Y f (by simp[hf])) x2 y2
     have sx:(xs.toList.drop off).map jA=((xs.toList.drop off).take k.length).map jA++(xs.toList.drop (off+k.length)).map jA:=by rw[←dr,←Fg,E3]
     have sy:(ys.toList.drop off).map jA=((ys.toList.drop off).take k.length).map jA++(ys.toList.drop (off+k.length)).map jA:=by rw[←dr,←Fg,E3]
     have z:(xs.toList.drop off).map jA=(ys.toList.drop off).map jA↔((xs.toList.drop off).take k.length).map jA=((ys.toList.drop off).take k.length).map jA∧(xs.toList.drop (off+k.length)).map jA=(ys.toList.drop (off+k.length)).map jA:=by
      rw[sx,sy]
      exact⟨fun e=>List.append_inj e (by rw[bZ,bZ,lx,ly]),fun e=>by rw[e.1,e.2]⟩
     rw[←J.1] at Z p2
     simp only[Op.eqFields,h1,ne_eq,not_false_eq_true,if_true,Sem.run_bind,Z,p2,p3,Result.andThen_ok]
     cases q
     ·exact⟨false,by simp,by rw[z];exact⟨fun h=>(by cases h),fun e=>absurd (e1.2 e.1) (by simp)⟩⟩
     exact⟨q',by simpa using p4,by rw[z,e2];simp[e1.1 rfl]⟩
    cases h
   cases h
  cases h
theorem Ml(dd:Nat):∀(D:Nat)(t:TypeId)(ks:List Nat),tV P D t=some ks→P.keyTypeAt D t=true→Qd P (dd+D) t ks
 |0,_,_,h,_=>by cases h
 |D+1,t,ks,h,hk=>by
  intro w x y lx ly ix iy U Y
  have one:∀{k:Nat},kV [k] lx→kV [k] ly→P.plainKey t=true→lx=[x]∧ly=[y]∧uK k x∧uK k y:=fun{k}h1 h2 hp=>by
   have no:∀K,P.underlying t=some (.struct K)→False:=fun K A=>by simp[Program.plainKey,A] at hp
   rcases ix with⟨_,rfl⟩|⟨K,_,A,_⟩
   ·rcases iy with⟨_,rfl⟩|⟨K,_,A,_⟩
    ·exact⟨rfl,rfl,h1.1,h2.1⟩
    exact(no K A).elim
   exact(no K A).elim
  unfold tV at h
  split at h
  ·rename_i A
   cases h
   obtain⟨rfl,rfl,O,J⟩:=one U Y (by simp[Program.plainKey,A])
   generalize G:(100:Nat)=kk at O J
   cases O with
   |int=>rename_i q _;cases q<;>simp[dw] at G
   |str=>simp at G
   |bool=>
    generalize I:(100:Nat)=k2 at J
    cases J with
    |int=>rename_i q _;cases q<;>simp[dw] at I
    |str=>simp at I
    |bool=>exact⟨_,run_equalIn_bool' w _ t _ _ A,by simp[jA]⟩
  ·rename_i k A
   cases h
   obtain⟨rfl,rfl,O,J⟩:=one U Y (by simp[Program.plainKey,A])
   generalize G:dw k=kk at O J
   cases O with
   |bool=>cases k<;>simp[dw] at G
   |str=>cases k<;>simp[dw] at G
   |int=>
    rename_i q n
    obtain rfl:k=q:=CJ (by rw[G];exact iR _)
    generalize I:dw k=k2 at J
    cases J with
    |bool=>cases k<;>simp[dw] at I
    |str=>cases k<;>simp[dw] at I
    |int=>
     rename_i q' m
     obtain rfl:k=q':=CJ (by rw[I];exact iR _)
     exact⟨_,run_equalIn_int w _ t k k n m A,by simp[jA]⟩
  ·rename_i A
   cases h
   obtain⟨rfl,rfl,O,J⟩:=one U Y (by simp[Program.plainKey,A])
   generalize G:(101:Nat)=kk at O J
   cases O with
   |int=>rename_i q _;cases q<;>simp[dw] at G
   |bool=>simp at G
   |str=>
    generalize I:(101:Nat)=k2 at J
    cases J with
    |int=>rename_i q _;cases q<;>simp[dw] at I
    |bool=>simp at I
    |str=>
     refine⟨_,run_equalIn_string w _ t _ _ A,?_⟩
     simp only[jA,eF,fH,yB,and_true,Lit.string.injEq,beq_iff_eq]
     rw[ByteArray.toList_eq,ByteArray.toList_eq]
  ·rename_i K A
   split at h
   ·rename_i ks' Jf
    split at h
    ·cases h
     have hP:P.fieldsOf t=K:=by unfold Program.fieldsOf;rw[A]
     unfold Program.keyTypeAt at hk
     simp only[A,fc,IH,Array.all_eq_true_iff_forall_mem,bne_iff_ne,ne_eq] at hk
     have ag:∀{z l},Bv P t z l→∃Z,z= .agg Z∧Z.toList=l:=fun{z l}iz=>by
      rcases iz with⟨hp,_⟩|⟨_,Z,_,h1,h2⟩
      ·simp[Program.plainKey,A] at hp
      exact⟨Z,h1,h2⟩
     obtain⟨xs,rfl,rfl⟩:=ag ix
     obtain⟨ys,rfl,rfl⟩:=ag iy
     obtain⟨r,hr,hi⟩:=J' (fun t ks=>Ml dd D t ks) w xs ys K.toList 0 ks Jf (fun f hf=>hk.1.1 f (Array.mem_toList_iff.1 hf)) U Y
     refine⟨r,?_,hi⟩
     rw[show dd+(D+1)=(dd+D)+1 from rfl,run_equalIn_agg w _ t xs ys (by rw[hP];exact A) hk.2,hP]
     exact hr
    cases h
   cases h
  cases h
theorem Uo{c:Nat}{x:an}{cv:Value}(h:sz c x=true)(z:VR ρ x cv):uK c cv:=by
 unfold sz at h
 split at h
 ·have A:=eb h
  simp only[VR] at z
  subst z;subst A
  exact .int
 ·have A:=eb h
  simp only[VR] at z
  subst z;subst A
  exact .bool
 ·have A:=eb h
  simp only[VR] at z
  obtain⟨b,rfl,rfl,_⟩:=z
  subst A
  exact .str
 cases h
theorem GH:∀{ks:List Nat}{l:List an}{cs:List Value},kQ ks l=true→cF ρ l cs→kV ks cs
 |[],[],_,_,z=>by simp only[cF] at z;subst z;trivial
 |c::r,x::s,_,h,z=>by
  simp only[kQ,fc] at h
  simp only[cF] at z
  obtain⟨cv,t,rfl,A,h2⟩:=z
  exact⟨Uo h.1 A,GH h.2 h2⟩
 |[],_::_,_,h,_=>by simp[kQ] at h
 |_::_,[],_,h,_=>by simp[kQ] at h
theorem Ka{x y:an}{G cy:Value}{r:Bool}(h:xe x y=some r)(z:VR ρ x G)(A:VR ρ y cy):r=true↔jA G=jA cy:=by
 unfold xe at h
 split at h
 ·rename_i k a' J K
  split at h
  ·rename_i hk
   cases h
   have:=CJ hk
   subst this
   simp only[VR] at z A
   subst z;subst A
   simp[jA,uf]
  cases h
 ·cases h
  simp only[VR] at z A
  subst z;subst A
  simp[jA]
 ·cases h
  simp only[VR] at z A
  obtain⟨b1,rfl,rfl,rfl⟩:=z
  obtain⟨b2,rfl,rfl,rfl⟩:=A
  have I:b1.size=b1.data.toList.length:=Array.length_toList.symm
  have h2:b2.size=b2.data.toList.length:=Array.length_toList.symm
  rw[I,h2,B9]
  simp[jA]
 cases h
theorem Kr:∀{x y:List an}{J cy:List Value}{r:Bool},qq x y=some r→cF ρ x J→cF ρ y cy→(r=true↔J.map jA=cy.map jA)
 |[],[],_,_,r,h,A,G=>by
  cases h
  simp only[cF] at A G
  subst A;subst G
  simp
 |x::s,y::t,_,_,r,h,A,G=>by
  simp only[cF] at A G
  obtain⟨cv,Z,rfl,K,h2⟩:=A
  obtain⟨dv,dt,rfl,O,Y⟩:=G
  unfold qq at h
  split at h
  ·rename_i e
   have I:=Ka e K O
   have U:=Kr h h2 Y
   simp only[eF,yB]
   exact⟨fun z=>⟨I.1 rfl,U.1 z⟩,fun z=>U.2 z.2⟩
  ·rename_i e
   have I:=Ka e K O
   split at h
   ·cases h
    simp only[eF,yB]
    exact⟨fun z=>(by cases z),fun z=>absurd (I.2 z.1) (by simp)⟩
   cases h
  cases h
 |[],_::_,_,_,_,h,_,_=>by cases h
 |_::_,[],_,_,_,h,_,_=>by cases h
theorem Ru(hA:AR P ρ nt E a)(hR:R ρ C w){op:BinOp}{t t':TypeId}{fs:Array Field}{x z:Operand}{x' z':aF}{io:bG}(ho:o.op= .binOp op t x z t')(hx:dm P x=some x')(hz:dm P z=some z')(hu:P.underlying t=some (.struct fs))
  (A:Ic P op t x' z'=some io) (h:io.ev call E H= .ok v H'):fq P o a w (dW ρ C w H v H'):=by
 unfold Ic at A
 split at A
 ·rename_i ks Jf
  split at A
  ·rename_i hc
   have key:∀neg,(op= .eql∧neg=false)∨(op= .neq∧neg=true)→yX (.agg ks) neg x' z' E H= .ok v H'→fq P o a w (dW ρ C w H v H'):=by
    intro neg vk h
    replace h:=fu h;obtain⟨u,hu1,h⟩:=h
    replace h:=fu h;obtain⟨u2,hu2,h⟩:=h
    replace h:=ju h;obtain⟨r,G,h⟩:=h
    rw[Gw] at h
    cases h
    have J:=hA.b8 hx hu1
    have K:=hA.b8 hz hu2
    cases u<;>try(cases G;done)
    rename_i la
    cases u2<;>try(cases G;done)
    rename_i lb
    have G:aG (kQ ks la) (aG (kQ ks lb) (qq la lb) none) none=some r:=G
    cases g1:kQ ks la
    ·rw[g1] at G;cases G
    rw[g1,f6] at G
    cases g2:kQ ks lb
    ·rw[g2] at G;cases G
    rw[g2,f6] at G
    simp only[VR] at J K
    obtain⟨O,e1,U,_⟩:=J
    obtain⟨Y,e2,Z,_⟩:=K
    have hla:=GH g1 U
    have hlb:=GH g2 Z
    obtain⟨r',I,XD⟩:=Ml 9988 12 t ks Jf hc.1 w (.agg O) (.agg Y) _ _ (.inr ⟨fs,O,hu,rfl,rfl⟩) (.inr ⟨fs,Y,hu,rfl,rfl⟩) hla hlb
    have hrr:r'=r:=by
     have k:=Kr G U Z
     exact Bool.eq_iff_iff.2 (XD.trans k.symm)
    subst hrr
    have hg:=run_eqGuard_agg (P:=P) w op t x z O Y hc.2
    refine gJ (cv:=.bool (Bool.xor neg r')) ?_ hR (by simp only[VR])
    simp only[execOp,ho,Sem.run_bind,e1,e2,hg,Result.andThen_ok]
    have I:(Op.equalIn 10000 t (.agg O) (.agg Y)).run P w= .ok r' w:=I
    have he:(Op.equal t (.agg O) (.agg Y)).run P w= .ok r' w:=I
    rcases vk with⟨rfl,rfl⟩|⟨rfl,rfl⟩
    ·simp only[binOp];simp[he]
    simp only[binOp];simp[he]
   cases op<;>simp only[gP,reduceCtorEq] at A
   ·subst A;exact key false (.inl ⟨rfl,rfl⟩) h
   subst A;exact key true (.inr ⟨rfl,rfl⟩) h
  cases A
 cases A
end
section
variable{P:Program}{ρ:Ho}{nt:Nat}{E:Env}{a:Act}{C:Nat→Option dQ}{w:World}{H H':az}{v:an}{o:Oper}{call:eI}
theorem Rv(w:World)(b n:Nat)(z:n≠0)(k:Nat):(w.freeze ⟨b,0,none⟩ n).heap[k]?=(w.heap[k]?).map fun ob=>if k=b then(match ob with
   |.cells c elem (lo,hi)=>.cells c elem (if lo==hi then(0,0+n) else(min lo 0,max hi (0+n)))
   |o=>o) else ob:=by
 unfold World.freeze
 rw[aj z]
 show(w.heap.modify b _)[k]?=_
 rw[Iw]
 by_cases h:k=b
 ·subst h
  rw[aw rfl]
  congr 1
  funext ob
  rw[aw rfl]
  cases ob<;>rfl
 rw[aj (fun e=>h e.symm)]
 cases w.heap[k]?<;>simp[h]
theorem R.freeze(hR:R ρ C w){f g n m lo fl elem aP:Nat}{cs:RT}{z:Hm}(hC:C f=some (.row elem 1 aP m lo fl cs))(hh:ρ f g=some z)(tl:lo≤g)(hgm:g≤m)(hn:n≠0)(Qe:n≤g)(U:fl=0∨fl=2)
  (W:Nat→Prop) (hW:W f) (n0:Nat):Ext W n0 n0 ρ ρ w (w.freeze ⟨z.ca,0,none⟩ n)∧R ρ (fun x=>if x=f then some (.row elem 1 aP m lo 2 cs) else C x) (w.freeze ⟨z.ca,0,none⟩ n):=by
 obtain⟨he,oe,_,A⟩:=hR.obj f _ hC g z hh
 have A:=A tl hgm
 have Pt:z.ro=false:=by
  cases h:z.ro
  ·rfl
  have:=oe h;omega
 have Fj:=A.sT U
 obtain⟨c,fz,I,nG⟩:=A.row
 have y4:=A.yZ U _ _ _ I
 have Y:=Rv w z.ca n hn
 have J:∀k,k≠z.ca→(w.freeze ⟨z.ca,0,none⟩ n).heap[k]?=w.heap[k]?:=fun k hk=>by
  rw[Y k]
  cases w.heap[k]?<;>simp[hk]
 obtain⟨Z,K,XE⟩:∃Z,(w.freeze ⟨z.ca,0,none⟩ n).heap[z.ca]?=some (.cells c elem Z)∧Z.2≤m:=by
  rw[Y z.ca,I]
  obtain⟨l1,h1⟩:=fz
  simp only[sO,if_true]
  by_cases G:l1=h1
  ·subst G
   exact⟨(0,0+n),by simp,by simp;omega⟩
  refine⟨(min l1 0,max h1 (0+n)),by simp[G],?_⟩
  have:h1≤m:=by
   rcases y4 with h|h
   ·exact absurd h G
   simpa using h
  simp only
  omega
 have EL:∀ad:Addr,(w.freeze ⟨z.ca,0,none⟩ n).cell? ad=w.cell? ad:=fun ad=>by
  by_cases G:ad.block=z.ca
  ·simp only[World.cell?,G,K,I]
  exact cell_of_heap (w:=w) (J _ G)
 have Ig:(w.freeze ⟨z.ca,0,none⟩ n).heap.size=w.heap.size:=by
  unfold World.freeze
  rw[aj hn]
  simp
 refine⟨⟨Ho.le_refl _,fun f' g' h' e=>.inl ⟨g',h',e⟩,fun _ _ _ e=>.inl e,fun b _ G=>J b fun e=>G f g z hh Pt hW e.symm,by rw[Ig];exact bV _,bV _,?_,?_,?_⟩,⟨?_,hR.n7,fun f' g' h' e=>by rw[Ig];exact hR.kb f' g' h' e,hR.uniq,fun f' g' h' e a b=>(hR.mM f' g' h' e a b).iU (EL _)⟩⟩
 ·unfold World.freeze;rw[aj hn]
 ·unfold World.freeze;rw[aj hn]
 ·unfold World.freeze;rw[aj hn]
 intro f' o' tn g' h' hx
 have nH:(if f'=f then some (dQ.row elem 1 aP m lo 2 cs) else C f')=some o':=tn
 clear tn
 by_cases e:f'=f
 ·rw[aw e] at nH
  subst e
  cases nH
  obtain⟨_,r1,r2,r3⟩:=hR.obj f' _ hC g' h' hx
  refine⟨he,fun h=>by have:=r1 h;omega,r2,fun a1 a2=>?_⟩
  have r:=r3 a1 a2
  have O:∀i,i<g'→∃l,cs.get i=some l∧l.length=1∧∀j x,l[j]?=some x→hD x=true∧∃cv,(w.freeze ⟨z.ca,0,none⟩ n).cell? ⟨h'.ca,h'.off+i*1+j,none⟩=some cv∧VR ρ x cv:=fun i hi=>by
   obtain⟨l,l1,l2,l3⟩:=r.cell i hi
   exact⟨l,l1,l2,fun j x hj=>by rw[EL];exact l3 j x hj⟩
  by_cases G:h'.ca=z.ca
  ·obtain⟨c1,tg,q1,q2⟩:=r.row
   rw[G,I] at q1
   cases q1
   refine⟨⟨c,Z,by rw[G];exact K,q2⟩,r.fits,O,fun h=>by omega,fun _ i hi _=>?_,fun _=>r.sT U,fun _ c1 e1 tg je=>?_⟩
   ·simp only[World.frozen?,G,K]
    obtain⟨l1,h1⟩:=Z
    simp only at XE⊢
    simp
    omega
   rw[G,K] at je
   cases je
   right;omega
  have hw:=J _ G
  refine⟨by rw[hw];exact r.row,r.fits,O,fun h=>by omega,fun _ i hi m9=>by rw[frozen_of_heap (w:=w) hw];exact r.yi (by omega) i hi m9,fun _=>r.sT U,fun _ c1 e1 tg je=>r.yZ U c1 e1 tg (by rw[←hw];exact je)⟩
 rw[aj e] at nH
 refine(hR.obj f' o' nH g' h' hx).iU (Ho.le_refl _) (J _ fun G=>?_)
 have:=(hR.n7 _ _ _ _ _ _ hx hh e G).2
 rw[Pt] at this;cases this
theorem VH{f e:Nat}{k:az→aE}(h:mL f e H k= .ok v H'):∃aP m lo fl cs,H.t.get f=some (.row e 1 aP m lo fl cs)∧(fl=0∨fl=2)∧k ⟨H.next,H.bc,wrote f H.bc H.ws,H.t.set f (.row e 1 aP m lo 2 cs)⟩= .ok v H':=by
 cases H with
 |mk next bc ws t=>
  have h:iY (t.get f) (aE.err 46) (fun elem es aP m lo fl cs=>
   aG (Nat.beq elem e) (aG (Nat.beq es 1) (aG (aG (Nat.beq fl 0) true (Nat.beq fl 2)) (t.gA f (.row elem es aP m lo 2 cs) fun t=>k ⟨next,bc,wrote f bc ws,t⟩) (.err 46)) (.err 46)) (.err 46))= .ok v H':=h
  cases z:t.get f with
  |none=>rw[z] at h;cases h
  |some ob=>cases ob with
   |map=>rw[z] at h;cases h
   |row elem es aP m lo fl cs=>
    rw[z] at h
    have h:aG (Nat.beq elem e) (aG (Nat.beq es 1) (aG (aG (Nat.beq fl 0) true (Nat.beq fl 2)) (t.gA f (.row elem es aP m lo 2 cs) fun t=>k ⟨next,bc,wrote f bc ws,t⟩) (.err 46)) (.err 46)) (.err 46)= .ok v H':=h
    replace h:=fO h;obtain⟨b1,h⟩:=h
    replace h:=fO h;obtain⟨b2,h⟩:=h
    replace h:=fO h;obtain⟨A,h⟩:=h
    rw[GT.ki] at h
    have b1:=eb b1
    have b2:=eb b2
    have I:=h
    subst b1;subst b2
    have J:({next:=next,bc:=bc,ws:=ws,t:=t}:az).t.get f=some (dQ.row elem 1 aP m lo fl cs):=z
    refine⟨aP,m,lo,fl,cs,rfl,?_,I⟩
    cases G:Nat.beq fl 0
    ·rw[G] at A;exact .inr (eb A)
    exact .inl (eb G)
theorem RZ(hA:AR P ρ nt E a)(hR:R ρ C w){c:Call}{x y:Operand}{x' y':aF}{pt it e:TypeId}(ho:o.op= .call c)(hc:c.callee= .builtin .unsafeString)(A:c.args=#[x,y])(hx:dm P x=some x')(hy:dm P y=some y')
  (Bw:c.argTypes=#[pt,it]) (hp:P.underlying pt=some (.pointer e)) (Jg:P.cellsOf e=1) (hC:∀f o,f∈iZ (x'.ev E)→(∃g h,ρ f g=some h)→H.t.get f=some o→C f=some o)
  (h:wk e x' y' E H= .ok v H'):fq P o a w (dW ρ C w H v H'):=by
 replace h:=fu h;obtain⟨u,hu,h⟩:=h
 cases G:xI u with
 |true=>
  rw[G,f6] at h
  have hun:u= .ik:=by cases u<;>first|rfl|cases G
  subst hun
  replace h:=fu h;obtain⟨u2,Z,h⟩:=h
  replace h:=sc h;obtain⟨k,l0,rfl,h⟩:=h
  replace h:=vG h;obtain⟨l,rfl,h⟩:=h
  replace h:=fO h;obtain⟨b2,h⟩:=h
  replace h:=fO h;obtain⟨K,h⟩:=h
  cases h
  have b2:=eb b2
  have K:=eb K
  have hk:k= .i64:=by cases k<;>simp[dw] at b2<;>rfl
  subst hk;subst K
  have O:=hA.b8 hx hu
  have h2:=hA.b8 hy Z
  simp only[VR] at O h2
  have I:(Builtin.unsafeString_ #[pt,it] o.type #[.pointer none,.int .i64 0]).run P w= .ok (.string .empty) w:=rfl
  refine .inl ⟨.string .empty,w,?_,ρ,?_,Ext.refl _ _ _ _,?_⟩
  ·have h2:a.eval y= .int .i64 0:=h2
   simp[execOp,ho,resolve,hc,A,invoke,builtin,O,h2,Bw,I]
  ·simp only[VR]
   exact⟨_,rfl,rfl,rfl⟩
  rw[pJ];exact hR
 |false=>
 rw[G,show∀a b:aE,aG false a b=b from fun _ _=>rfl] at h
 replace h:=vF h;obtain⟨f,g,off,rfl,h⟩:=h
 replace h:=fu h;obtain⟨u2,Z,h⟩:=h
 replace h:=sc h;obtain⟨k,l0,rfl,h⟩:=h
 replace h:=vG h;obtain⟨l,rfl,h⟩:=h
 replace h:=fO h;obtain⟨b1,h⟩:=h
 replace h:=fO h;obtain⟨b2,h⟩:=h
 replace h:=fO h;obtain⟨K,h⟩:=h
 replace h:=fO h;obtain⟨b4,h⟩:=h
 replace h:=ju h;obtain⟨L,hL,h⟩:=h
 replace h:=ju h;obtain⟨s,hs,h⟩:=h
 rw[ij] at h
 obtain⟨aP,m,lo,fl,cs,hg,vg,h⟩:=VH h
 cases h
 have b1:=eb b1
 have b2:=eb b2
 have K:=bO K
 have b4:=bO b4
 have hk:k= .i64:=by cases k<;>simp[dw] at b2<;>rfl
 subst hk;subst b1
 have O:=hA.b8 hx hu
 have h2:=hA.b8 hy Z
 simp only[VR] at O h2
 obtain⟨hm,hh,O⟩:=O
 obtain⟨hlen,FW⟩:=Ct hL
 obtain⟨U,g1,g2,g3⟩:=Gx hs
 have Bu:U.length=l:=g1.trans hlen
 subst Bu
 have J:=hC f _ (by rw[hu];simp[iZ]) ⟨_,_,hh⟩ hg
 have WN:=FW (U.length-1) _ (eP (by omega))
 obtain⟨elem',ff,mJ,m',Bx,fl',cs',x1,Qf,q1,q2,q3,q4,q5,_⟩:=WN
 rw[hg] at Qf
 cases Qf
 have Qe:U.length≤g:=by simp at q4;omega
 obtain⟨_,_,_,z⟩:=hR.obj f _ J g hm hh
 have z:=z q1 q2
 have Y:=z.sT vg
 obtain⟨cc,fz,yI,nG⟩:=z.row
 have IM:=z.fits
 have hsh:w.shape? hm.ca=some (e,cc.size):=by simp[World.shape?,yI]
 have I:=Lib.run_unsafeString_row (P:=P) w pt it o.type e hp Jg hm.ca cc.size hsh U (by intro e0;rw[e0] at K;simp at K) (by omega) (by omega) (fun j b hj=>by
  have ql:=FW j _ (g3 j b hj)
  obtain⟨_,_,rS⟩:=hR.rd ql (J.trans hg.symm) hh (by omega)
  obtain⟨cv,je,rT⟩:=rS 0 _ rfl
  simp only[VR] at rT
  subst rT
  rw[Addr.add_lit]
  simpa[Y] using je)
 obtain⟨r1,r2⟩:=hR.freeze (n:=U.length) J hh q1 q2 (by omega) Qe vg (Wr ⟨H.next,H.bc,wrote f H.bc H.ws,H.t.set f (.row e 1 aP m lo 2 cs)⟩) (GV _ _ _) H.next
 refine .inl ⟨.string ⟨U.toArray⟩,w.freeze ⟨hm.ca,0,none⟩ U.length,?_,ρ,?_,r1,?_⟩
 ·rw[Y] at O
  have h2:a.eval y= .int .i64 U.length:=h2
  simp[execOp,ho,resolve,hc,A,invoke,builtin,O,h2,Bw,I]
 ·simp only[VR]
  exact⟨_,rfl,rfl,by rw[g2]⟩
 rw[GF (J.trans hg.symm) hg]
 exact r2
end
section
variable{P:Program}{ρ:Ho}{nt:Nat}{E:Env}{a:Act}{C:Nat→Option dQ}{w:World}{H H':az}{v:an}{o:Oper}
theorem Nh{mx:Bool}{k:IntKind}:∀{vs:List an}{nJ:List Value}{n:Int}{r:an},cF ρ vs nJ→FK mx k vs n=some r→
  ∃m,r= .int k m∧(nJ.foldlM (if mx=true then Builtin.max2 else Builtin.min2) (.int k n)).run P w= .ok (.int k m) w
 |[],nJ,n,r,z,h=>by
  simp only[cF] at z
  subst z
  cases h
  exact⟨n,rfl,rfl⟩
 |x::vs,nJ,n,r,z,h=>by
  simp only[cF] at z
  obtain⟨cv,t,rfl,A,h2⟩:=z
  replace h:M9 x none (fun _ b=>ll (aG (aG mx (lh n b) (lh b n)) b n) (FK mx k vs))=some r:=h
  cases x<;>try(cases h;done)
  rename_i G b
  replace h:ll (aG (aG mx (lh n b) (lh b n)) b n) (FK mx k vs)=some r:=h
  rw[r9] at h
  simp only[VR] at A
  subst A
  obtain⟨m,I,J⟩:=Nh (nJ:=t) h2 h
  refine⟨m,I,?_⟩
  rw[List.foldlM_cons]
  have e:((if mx=true then Builtin.max2 else Builtin.min2) (.int k n) (.int G b)).run P w= .ok (.int k (aG (aG mx (lh n b) (lh b n)) b n)) w:=by
   cases mx
   ·simp only[p9,if_false,Sn,oZ,rh,e6];rfl
   simp only[if_true,f6,oZ,rh,e6];rfl
  simp only[Sem.run_bind,e]
  exact J
theorem JX(U:AR P ρ nt E a)(hR:R ρ C w){mx:Bool}{c:Call}{x:Operand}{r:List Operand}{Y:aF}{Z:List aF}(ho:o.op= .call c)(J:c.callee= .builtin (if mx=true then .max else .min))(G:c.args.toList=x::r)(hx:dm P x=some Y)(hr:lp P r=some Z)
  (h:zK mx Y Z E H= .ok v H'):fq P o a w (dW ρ C w H v H'):=by
 replace h:=fu h;obtain⟨u,hu,h⟩:=h
 replace h:=sc h;obtain⟨k,n,rfl,h⟩:=h
 replace h:=ju h;obtain⟨vs,K,h⟩:=h
 replace h:=ju h;obtain⟨res,I,h⟩:=h
 cases h
 have O:=U.b8 hx hu
 have h2:=U.dG hr K
 simp only[VR] at O
 obtain⟨m,rfl,z⟩:=Nh (P:=P) (w:=w) h2 I
 have A:c.args=(x::r).toArray:=by rw[←G]
 refine gJ (cv:=.int k m) ?_ hR (by simp only[VR])
 cases mx
 ·simp only[p9,if_false] at J z
  simp[execOp,ho,resolve,J,A,invoke,builtin,Builtin.min_,O,z]
 simp only[if_true] at J z
 simp[execOp,ho,resolve,J,A,invoke,builtin,Builtin.max_,O,z]
end
section
variable{P:Program}{ρ:Ho}{nt:Nat}{E:Env}{a:Act}{C:Nat→Option dQ}{w:World}{H H':az}{v:an}{o:Oper}{call:eI}{io:bG}
def Mm(io:bG)(E:Env)(ρ:Ho)(C:Nat→Option dQ)(H:az):Prop:=
 ∀f o,(∀l,io.reads E=some l→f∈l)→(∃g h,ρ f g=some h)→H.t.get f=some o→C f=some o
theorem Ca{l:List Operand}{G:aF}(h:lp P l=some [G]):∃x,l=[x]∧dm P x=some G:=by
 cases l with
 |nil=>simp[lp] at h
 |cons x r=>
  simp only[lp] at h
  split at h
  ·rename_i y l I A
   cases h
   cases r with
   |nil=>exact⟨x,rfl,I⟩
   |cons z s=>
    simp only[lp] at A
    split at A<;>cases A
  cases h
theorem B4{l:List Operand}{z:aF}{A:List aF}(h:lp P l=some (z::A)):∃x r,l=x::r∧dm P x=some z∧lp P r=some A:=by
 cases l with
 |nil=>simp[lp] at h
 |cons x r=>
  simp only[lp] at h
  split at h
  ·rename_i y l G I
   cases h
   exact⟨x,r,rfl,G,I⟩
  cases h
theorem B3{c:Array Operand}{l:List Operand}(h:c.toList=l):c=l.toArray:=by rw[←h]
theorem Rf(U:AR P ρ nt E a)(O:R ρ C w)(hF:iv ρ H.next H'.next)(hK:Mm io E ρ C H)(hm:H.bc≤H.next)(nK:∀x,H.next≤x→H.t.get x=none)(hc:kA P call){c:Call}
  (ho:o.op= .call c) (A:HB P c=some io) (h:io.ev call E H= .ok v H'):fq P o a w (dW ρ C w H v H'):=by
 unfold HB at A
 split at A
 ·rename_i f args I G
  split at A
  ·rename_i f
   cases A
   exact RX U O hF (fun f Y=>hK f Y (fun l e=>by cases e)) hm nK hc ho I G h
  split at A
  ·rename_i y hy
   cases A
   exact Rp U O hF (fun f Y=>hK f Y (fun l e=>by cases e)) hm nK hc ho I hy G h
  cases A
 ·rename_i x' I G
  obtain⟨x,J,K⟩:=Ca G
  have J:=B3 J
  split at A
  ·rename_i t ht
   split at A
   ·rename_i Z
    cases A
    exact RR U O ho I J K ht Z h
   ·rename_i e Z
    cases A
    exact Su U O ho I J K ht Z h
   ·rename_i n e Z
    cases A
    exact RQ (E:=E) O ho I J ht Z h
   cases A
  cases A
 ·rename_i x' y' I G
  obtain⟨x,r,J,K,hr⟩:=B4 G
  obtain⟨y,ke,hy⟩:=Ca hr
  subst ke
  have J:=B3 J
  split at A
  ·rename_i t u ht Z
   split at A
   ·rename_i e e2 Jh Ji
    split at A
    ·rename_i i z hi hz
     split at A
     ·rename_i hb
      cases A
      exact Sy U O hF ho I J K hy ht Z Jh Ji hi hz hb (fun f Y hf=>hK f Y (fun l e=>by cases e;exact hf)) h
     cases A
    cases A
   ·rename_i e Jh Ji
    split at A
    ·rename_i i z hi hz
     split at A
     ·rename_i hb
      cases A
      exact Rb U O hF ho I J K hy ht Z Jh Ji hi hz hb.1 hb.2 (fun f Y hf=>hK f Y (fun l e=>by cases e;exact hf)) h
     cases A
    cases A
   cases A
  cases A
 ·rename_i x' I G
  obtain⟨x,J,K⟩:=Ca G
  have J:=B3 J
  cases A
  exact SB U O ho I J K h
 ·rename_i x' y' I G
  obtain⟨x,r,J,K,hr⟩:=B4 G
  obtain⟨y,ke,hy⟩:=Ca hr
  subst ke
  have J:=B3 J
  split at A
  ·rename_i pt it Jj
   have Jj:c.argTypes=#[pt,it]:=Array.ext' Jj
   split at A
   ·rename_i e hp
    split at A
    ·rename_i he
     cases A
     exact RZ U O ho I J K hy Jj hp he (fun f Y hf=>hK f Y (fun l e=>by cases e;exact hf)) h
    cases A
   cases A
  cases A
 ·rename_i l I G
  cases l with
  |nil=>cases A
  |cons x' r'=>
   obtain⟨x,r,J,K,hr⟩:=B4 G
   cases A
   exact JX (mx:=false) U O ho I J K hr h
 ·rename_i l I G
  cases l with
  |nil=>cases A
  |cons x' r'=>
   obtain⟨x,r,J,K,hr⟩:=B4 G
   cases A
   exact JX (mx:=true) U O ho I J K hr h
 cases A
theorem KP(A:A' P o.op=some io)(K:AR P ρ nt E a)(J:R ρ C w)(hF:iv ρ H.next H'.next)(hK:Mm io E ρ C H)(hm:H.bc≤H.next)(nK:∀x,H.next≤x→H.t.get x=none)(hc:kA P call)
  (h:io.ev call E H= .ok v H'):fq P o a w (dW ρ C w H v H'):=by
 generalize G:o.op=op at A
 unfold A' at A
 split at A
 ·split at A
  ·rename_i y I;cases A;exact KK K J (.inl G) I h
  cases A
 ·split at A
  ·rename_i y I;cases A;exact KK K J (.inr G) I h
  cases A
 ·split at A
  ·rename_i c' a' b' h1 h2 h3;cases A;exact RK K J G h1 h2 h3 h
  cases A
 ·split at A
  ·rename_i z i hz hi;cases A;exact RV (E:=E) J hF G hz hi h
  cases A
 ·split at A
  ·rename_i n i y U hi I;cases A;exact Sv K J hF G I U h
  cases A
 ·exact Rq K J G A h
 ·exact Q0 K J hF G A h
 ·split at A
  ·rename_i n y U I;cases A;exact RW K J G I U (fun f o' Z=>hK f o' (fun l e=>by cases e;exact Z)) h
  cases A
 ·split at A
  ·rename_i n y z U I hz;cases A;exact Rn K J G I hz U (fun f o' Z=>hK f o' (fun l e=>by cases e;exact Z)) h
  cases A
 ·split at A
  ·rename_i y I;cases A;exact Rk K J G I h
  cases A
 ·split at A
  ·rename_i x' y' O I
   unfold OO at A
   split at A
   ·cases A;exact KL K J G O I h
   ·cases A;exact KL K J G O I h
   ·rename_i fs hu;exact Ru K J G O I hu A h
   ·rename_i d _ _ _ hu;exact SA K J G O I hu A h
   cases A
  cases A
 ·split at A
  ·rename_i y I;cases A;exact Td K J G I h
  cases A
 ·split at A
  ·rename_i y I
   unfold M' at A
   split at A
   ·rename_i hs hd;cases A;exact RU K J G I hs hd h
   exact Rt K J hF G I A (fun f o' hl=>hK f o' hl) h
  cases A
 ·split at A
  ·cases A
  ·rename_i d y lK hd I;cases A;exact RO K J G hd (fun ms e=>lK ms (e▸rfl)) I h
  cases A
 ·split at A
  ·rename_i fs l hfs hl;cases A;exact RN K J G hfs hl h
  cases A
 ·split at A
  ·rename_i x' y' O I;exact RY K J hF G O I A h
  cases A
 ·split at A
  ·rename_i x' Bx vi Y O tl Jk;cases A;exact Rm K J G O tl Jk Y h
  ·rename_i e x' Bx vi Y O tl Jk
   split at A
   ·rename_i n U;cases A;exact RP K J G O tl Jk Y U h
   cases A
  ·cases A
  cases A
 ·split at A
  ·rename_i fs y hs I
   split at A
   ·rename_i fd Z
    split at A
    ·rename_i n U
     cases A
     obtain⟨i,d,hi,_,e,h0⟩:=tQ U
     exact RL K J G I hs Z hi (by omega) h
    cases A
   cases A
  cases A
 ·split at A
  ·rename_i fs y hs I
   split at A
   ·rename_i fd Z
    split at A
    ·rename_i n U;cases A;exact Ss K J G I hs Z U h
    cases A
   cases A
  cases A
 ·split at A
  ·rename_i k e x' i' Y O hi
   split at A
   ·rename_i n U
    split at A
    ·cases A;exact Q8 K J G O hi Y U h
    cases A
   cases A
  ·rename_i e x' i' Y O hi
   split at A
   ·rename_i n U;cases A;exact Rl K J G O hi Y U h
   cases A
  cases A
 ·split at A
  ·rename_i k e x' i' Y O hi
   split at A
   ·rename_i n U;cases A;exact Q9 K J G O hi Y U h
   cases A
  ·rename_i x' i' Y O hi
   cases A
   exact Q' K J G O hi Y h
  cases A
 ·split at A
  ·rename_i y I;cases A;exact RM K J G I h
  cases A
 ·exact Rf K J hF hK hm nK hc G A h
 cases A
end
noncomputable def kq(E:Env)(d:Option Key)(v:an):Env:=match d with|some d=>E.set d v|none=>E
theorem Dh{dst:Option Key}{E E':Env}{H':az}{k:Env→az→eG}{r:aE}(h:fin dst E k r= .ok E' H'):∃v H1,r= .ok v H1∧k (kq E dst v) H1= .ok E' H':=by
 cases r with
 |err n=>cases h
 |ok v H1=>
  refine⟨v,H1,rfl,?_⟩
  cases dst with
  |none=>exact h
  |some d=>
   have h:E.yD d v (fun E=>k E H1)= .ok E' H':=h
   rw[T4.zF] at h
   exact h
theorem vI(dst:Option Key)(E:Env)(H:az)(k:Env→az→eG):kC dst E H k=k (kq E dst .undef) H:=by
 cases dst with
 |none=>rfl
 |some d=>show E.yD d .undef (fun E=>k E H)=_;rw[T4.zF];rfl
inductive mW(E:Env):Option (Key×Bool)→Bool→Prop
 |none:mW E none true
 |slot {t:Key} {want b:Bool}:E.get t=some (.bool b)→mW E (some (t,want)) (b==want)
 |off {t:Key} {want:Bool}:E.get t=some .undef→mW E (some (t,want)) false
theorem tZ{call:eI}{o:bt}{E E':Env}{H H':az}{k:Env→az→eG}(h:o.step call E H k= .ok E' H'):
  (mW E o.g true∧∃v H1,o.op.ev call E H= .ok v H1∧k (kq E o.dst v) H1= .ok E' H')∨(mW E o.g false∧k (kq E o.dst .undef) H= .ok E' H'):=by
 obtain⟨dst,g,q,op⟩:=o
 cases g with
 |none=>exact .inl ⟨.none,Dh h⟩
 |some G=>
  obtain⟨t,want⟩:=G
  have h:ob (E.get t) (eG.err 51) (fun v=>wA v (kC dst E H k) fun b=>aG (Bool.xor b want) (kC dst E H k) (bt.run call ⟨dst,some (t,want),q,op⟩ E H k))= .ok E' H':=h
  cases z:E.get t with
  |none=>rw[z] at h;cases h
  |some v=>
   rw[z] at h
   cases v<;>try(cases h;done)
   case undef=>
    have h:kC dst E H k= .ok E' H':=h
    rw[vI] at h
    exact .inr ⟨.off z,h⟩
   rename_i b
   have h:aG (Bool.xor b want) (kC dst E H k) (bt.run call ⟨dst,some (t,want),q,op⟩ E H k)= .ok E' H':=h
   have A:=mW.slot (E:=E) (want:=want) z
   cases b<;>cases want
   ·exact .inl ⟨A,Dh h⟩
   ·rw[show Bool.xor false true=true from rfl,f6,vI] at h;exact .inr ⟨A,h⟩
   ·rw[show Bool.xor true false=true from rfl,f6,vI] at h;exact .inr ⟨A,h⟩
   exact .inl ⟨A,Dh h⟩
structure yJ(P:Program)(nt:Nat)(ops:Array Oper)(o:Oper)(io:bt):Prop where
 dst:o.dst=io.dst.map Key.n
 lt:∀d,io.dst=some d→d.n<nt
 g:(o.guard=none∧io.g=none)∨∃j want d,o.guard=some (j,want)∧(ops[j]?).bind (·.dst)=some d.n∧io.g=some (d,want)
 op:A' P o.op=some io.op∨io.op=bad
theorem Mn{call:eI}{E:Env}{H H':az}{v:an}(h:bad.ev call E H= .ok v H'):False:=by cases h
section
variable{P:Program}{ρ:Ho}{nt:Nat}{E:Env}{a:Act}{C:Nat→Option dQ}{w:World}{H H':az}{v:an}{call:eI}{ops:Array Oper}{Q:Exit→Act→World→Prop}
theorem GI{o:Oper}{io:bt}{b:Bool}(ho:yJ P nt ops o io)(A:mW E io.g b)(K:∀t v,E.get t=some v→∃cv,a.tmps[t.n]?=some cv∧VR ρ v cv):Region.wanted o (yielded ops a.tmps)=b:=by
 unfold Region.wanted
 rcases ho.g with⟨G,h2⟩|⟨j,want,d,G,h2,O⟩
 ·rw[h2] at A
  rw[G]
  cases A
  rfl
 rw[O] at A
 rw[G]
 cases A with
 |slot I=>
  obtain⟨cv,J,z⟩:=K _ _ I
  simp only[VR] at z
  subst z
  simp only[yielded,h2,Option.bind_some,J]
  rename_i b
  cases b<;>cases want<;>rfl
 |off I=>
  obtain⟨cv,J,z⟩:=K _ _ I
  simp only[VR] at z
  subst z
  simp only[yielded,h2,Option.bind_some,J,undef]
  cases want<;>rfl
theorem Ch(A:kj ρ C H){ρ':Ho}(G:∀f g h,ρ' f g=some h→(∃g0 h0,ρ f g0=some h0)∨(H.next≤f∧f<H'.next)):kj ρ' (gC C H H') H':=by
 intro f o z ho
 obtain⟨g,h,z⟩:=z
 unfold gC
 split
 ·exact ho
 rename_i I
 split
 ·rename_i he
  refine A f o ?_ (he▸ho)
  rcases G f g h z with k|k
  ·exact k
  exact absurd k I
 exact ho
theorem iv.sub(h:iv ρ H.next H'.next){ρ':Ho}{n1:Nat}(z:∀f g h,ρ' f g=some h→(∃g0 h0,ρ f g0=some h0)∨(H.next≤f∧f<n1))(I:H.next≤n1):iv ρ' n1 H'.next:=by
 intro f g h2 A
 cases G:ρ' f g with
 |none=>rfl
 |some x=>
  rcases z f g x G with⟨g0,h0,e⟩|e
  ·rw[h f g0 (by omega) A] at e;cases e
  omega
theorem iv.le{n0 n1 z:Nat}(h:iv ρ n0 z)(A:n1≤z):iv ρ n0 n1:=fun f g a b=>h f g a (by omega)
theorem AR.Fo(h:AR P ρ nt E a){d:Option Key}(z:∀x,d=some x→x.n<nt){v:an}{cv:Value}(A:VR ρ v cv):AR P ρ nt (kq E d v) (a.put (d.map Key.n) cv):=by
 cases d with
 |none=>exact h
 |some d=>exact h.put (z d rfl) A
theorem Cb(A:kA P call):∀(l:List bt)(E:Env)(H:az)(E':Env)(H':az),H.bc≤H.next→mV call l E H= .ok E' H'→gr H H'
 |[],E,H,E',H',_,h=>by cases h;exact gr.refl _
 |o::r,E,H,E',H',z,h=>by
  rcases tZ (show o.step call E H (mV call r)= .ok E' H' from h) with⟨_,v,H1,G,h2⟩|⟨_,h2⟩
  ·have t1:=TM.ins z (fun f a=>A.mK f a H z) E o.op v H1 G
   exact t1.trans (Cb A r _ _ _ _ (by rw[t1.bc];exact j7 z t1.next) h2)
  exact Cb A r _ _ _ _ z h2
def WF(H:az):Prop:=∀x,H.next≤x→H.t.get x=none
theorem Hc{H1 A:az}(h:gr H1 A)(f:Nat)(z:Wr H1 f):Wr A f:=by
 rcases z with z|z
 ·exact .inl (h.ws f z)
 exact .inr (by rw[h.bc];exact z)
def qN(P:Program)(nt:Nat)(E':Env)(H H':az)(C:Nat→Option dQ)(ρ:Ho)(w:World)(K:Act→World→Prop):Prop:=
 ∀a' w' ρ',AR P ρ' nt E' a'→Ext (Wr H') H.next H'.next ρ ρ' w w'→R ρ' (gC C H H') w'→kj ρ' (gC C H H') H'→K a' w'
theorem KQ{ρ:Ho}(hK:kj ρ C H){H1 z:az}(h1:H.next≤H1.next)(h2:H1.next≤z.next)(A:∀f,H1.t.get f≠none→z.t.get f≠none){ρ':Ho}(hd:∀f g h,ρ' f g=some h→(∃g0 h0,ρ f g0=some h0)∨(H.next≤f∧f<z.next))
  (f:Nat) (o:dQ) (h:gC C H z f=some o) (I:∃g x,ρ' f g=some x):gC (gC C H H1) H1 z f=some o:=by
 obtain⟨g,x,I⟩:=I
 unfold gC at h⊢
 by_cases J:H1.next≤f∧f<z.next
 ·rw[aw ⟨by omega,J.2⟩] at h
  rw[aw J]
  exact h
 rw[aj J]
 by_cases K:H.next≤f∧f<H1.next
 ·rw[aw ⟨K.1,by omega⟩] at h
  rw[aw K]
  split
  ·rename_i e;rw[←e];exact h
  exact h
 have Z:¬(H.next≤f∧f<z.next):=by omega
 rw[aj K]
 rw[aj Z] at h
 have G:∃g0 h0,ρ f g0=some h0:=(hd f g x I).resolve_right Z
 have O:=fun U=>hK f U G
 split
 ·rename_i e
  split
  ·rename_i e1
   rw[aw (e.trans e1)] at h
   exact h
  rename_i e1
  rw[aj (by rw[e];exact e1),e] at h
  exact h
 rename_i e
 split at h
 ·rename_i e2
  rw[e2]
  cases Y:H.t.get f with
  |none=>
   have h3:H1.t.get f≠none:=fun e3=>e (by rw[e2,Y,e3])
   exact absurd (e2.trans Y) (A f h3)
  |some U=>
   rw[O U Y] at h
   exact h
 exact h
theorem Up{o:Oper}{io:bt}{H1:az}{E':Env}{K:Act→World→Prop}(ho:yJ P nt ops o io)(hA:AR P ρ nt E a)(U:kj ρ C H)(Y:gr H H1)(I:gr H1 H')
  (J:qN P nt E' H H' C ρ w K) {cv:Value} {w':World} (hp:dW ρ C w H v H1 cv w') {K':Act→World→Prop}
  (hk:∀ρ' Z,AR P ρ' nt (kq E io.dst v) (a.put o.dst cv)→R ρ' Z w'→kj ρ' Z H1→(∀f g h,ρ' f g=some h→(∃g0 h0,ρ f g0=some h0)∨(H.next≤f∧f<H1.next))→uJ P ρ'→qN P nt E' H1 H' Z ρ' w' K→K' (a.put o.dst cv) w'):
  K' (a.put o.dst cv) w':=by
 obtain⟨ρ',hv,A,By⟩:=hp
 have G:AR P ρ' nt (kq E io.dst v) (a.put o.dst cv):=by
  rw[ho.dst]
  exact(hA.mono A.le).Fo ho.lt hv
 refine hk ρ' (gC C H H1) G By (Ch U A.jr) A.jr G.rM fun a2 w2 O G FY hR2 hK2=>?_
 have z:Ext (Wr H') H.next H'.next ρ O w w2:=(A.mono (Hc I)).trans FY
 refine J a2 w2 O G z ?_ (Ch U z.jr)
 exact hR2.weaken fun f o h hf=>KQ U Y.next I.next I.iU z.jr f o h hf
theorem Kb(hc:kA P call){K:Act→World→Prop}:∀(l:List bt)(os:List Oper)(k:Nat),os.length=l.length→(∀(i:Nat)(o:Oper)(io:bt),os[i]?=some o→l[i]?=some io→yJ P nt ops o io)→(∀(i:Nat)(o:Oper),os[i]?=some o→ops[k+i]?=some o)→
  ∀(E:Env)(H:az)(E':Env)(H':az)(ρ:Ho)(C:Nat→Option dQ)(a:Act)(w:World),mV call l E H= .ok E' H'→AR P ρ nt E a→R ρ C w→kj ρ C H→iv ρ H.next H'.next→H.bc≤H.next→WF H→
  qN P nt E' H H' C ρ w K→(∀a w,K a w→Q .normal a w)→wpOps P ops Q ((List.range' k l.length)) a w
 |[],os,k,hl,O,U,E,H,E',H',ρ,C,a,w,h,Y,hR,hK,hF,hm,I,z,hQ=>by
  cases h
  refine hQ _ _ (z a w ρ Y (Ext.refl _ _ _ _) ?_ ?_)
  ·rw[pJ];exact hR
  rw[pJ];exact hK
 |io::r,[],k,hl,_,_,_,_,_,_,_,_,_,_,_,_,_,_,_,_,_,_,_=>by simp at hl
 |io::r,o::os,k,hl,O,U,E,H,E',H',ρ,C,a,w,h,Y,hR,hK,hF,hm,I,z,hQ=>by
  have ho:=O 0 o io rfl rfl
  have Bz:ops[k]?=some o:=by simpa using U 0 o rfl
  have A:=Kb hc (K:=K) r os (k+1) (by simpa using hl) (fun i o io J h2=>O (i+1) o io (by simpa using J) (by simpa using h2)) (fun i o J=>by
   have:=U (i+1) o (by simpa using J);rwa [show k+(i+1)=k+1+i by omega] at this)
  rw[cP,List.range'_succ,wpOps_cons]
  unfold wpOp
  simp only[Bz]
  rcases tZ (show io.step call E H (mV call r)= .ok E' H' from h) with⟨hw,v,H1,J,h2⟩|⟨hw,h2⟩
  ·rw[GI ho hw Y.tmp,aw rfl]
   left
   have G:=TM.ins hm (fun f a=>hc.mK f a H hm) E io.op v H1 J
   have tp:H1.bc≤H1.next:=by rw[G.bc];exact j7 hm G.next
   have Qg:=Cb hc r _ _ _ _ tp h2
   rcases ho.op with BA|IP
   case inr=>rw[IP] at J;exact(Mn J).elim
   have XF:=KP (o:=o) BA Y hR (hF.le Qg.next) (fun f o' _ hf tn=>hK f o' hf tn) hm I hc J
   refine Km XF fun cv w' hp=>?_
   refine Up ho Y hK G Qg z hp (K':=wpOps P ops Q (List.range' (k+1) r.length)) fun ρ' C' Z By hK' hd hg ht=>?_
   exact A _ H1 E' H' ρ' C' _ w' h2 Z By hK' (hF.sub hd G.next) tp (G.wf I) ht hQ
  rw[GI ho hw Y.tmp,aj (by simp)]
  have Z:AR P ρ nt (kq E io.dst .undef) (a.put o.dst undef):=by
   rw[ho.dst]
   exact Y.Fo ho.lt (by simp only[VR])
  exact A _ H E' H' ρ C _ w h2 Z hR hK hF hm I z hQ
end
def az.mark(H:az):az:=⟨H.next,H.next,[],H.t⟩
noncomputable def xL(H H1:az):az:=⟨H1.next,H.bc,oJ H.bc H.ws H1.ws,H1.t⟩
theorem zk(bc:Nat)(ws:List Nat):∀(new:List Nat)(x:Nat),x∈oJ bc ws new↔x∈ws∨(x∈new∧x<bc)
 |[],x=>by show x∈ws↔_;simp
 |f::r,x=>by
  show x∈wrote f bc (oJ bc ws r)↔_
  rw[zr,zk bc ws r]
  simp only[p']
  constructor
  ·rintro((h|⟨h,k⟩)|⟨rfl,k⟩)
   ·exact .inl h
   ·exact .inr ⟨.inr h,k⟩
   exact .inr ⟨.inl rfl,k⟩
  rintro(h|⟨rfl|h,k⟩)
  ·exact .inl (.inl h)
  ·exact .inr ⟨rfl,k⟩
  exact .inl (.inr ⟨h,k⟩)
theorem gr.xL{H H1:az}(G:H.bc≤H.next)(h:gr H.mark H1):gr H (xL H H1):=
 ⟨h.next,rfl,fun f z=>(zk _ _ _ _).2 (.inl z),fun f z A=>h.same f (by show f<H.next;omega) (fun e=>A ((zk _ _ _ _).2 (.inr ⟨e,z⟩))),h.wf,h.iU⟩
theorem KR{l m:List Nat}(h:yh l m=true):∀x,x∈l→x∉m:=by
 induction l with
 |nil=>intro x z;cases z
 |cons y r I=>
  have h:aG (qa y m) false (yh r m)=true:=h
  intro x z G
  cases A:qa y m
  ·rw[A] at h
   cases z with
   |head=>rw[(GU _ _).2 G] at A;cases A
   |tail _ z=>exact I h x z G
  rw[A] at h;cases h
theorem KS{l:List Nat}{r:Option (List Nat)}(h:AG l r=true){x:Nat}(z:x∈l):∃m,r=some m∧x∉m:=by
 cases l with
 |nil=>cases z
 |cons y s=>
  cases r with
  |none=>cases h
  |some m=>exact⟨m,rfl,KR (l:=y::s) h x z⟩
theorem Tg{l:List Nat}{lo hi:Nat}(h:uZ l lo hi=true):∀x,x∈l→¬(lo≤x∧x<hi):=by
 induction l with
 |nil=>intro x z;cases z
 |cons y r J=>
  have h:aG (Nat.ble lo y) (aG (Nat.ble hi y) (uZ r lo hi) false) (uZ r lo hi)=true:=h
  intro x z⟨G,h2⟩
  cases A:Nat.ble lo y
  ·rw[A] at h
   cases z with
   |head=>rw[jN G] at A;cases A
   |tail _ z=>exact J h x z ⟨G,h2⟩
  rw[A] at h
  have h:aG (Nat.ble hi y) (uZ r lo hi) false=true:=h
  cases I:Nat.ble hi y
  ·rw[I] at h;cases h
  rw[I] at h
  cases z with
  |head=>have:=bO I;omega
  |tail _ z=>exact J h x z ⟨G,h2⟩
structure xr(a b:FP):Prop where
 ab:∀x,x∈a.ws→∃m,b.rd=some m∧x∉m
 ba:∀x,x∈b.ws→∃m,a.rd=some m∧x∉m
 ww:∀x,x∈a.ws→x∉b.ws
 out:∀x,x∈a.ws→¬(b.lo≤x∧x<b.hi)
theorem R0{a b:FP}(h:sj a b=true):xr a b:=by
 unfold sj at h
 have z:∀{p:Bool}{q:Bool},aG p q false=true→p=true∧q=true:=by intro p q h;cases p;cases h;exact⟨rfl,h⟩
 obtain⟨A,h⟩:=z h
 obtain⟨h2,h⟩:=z h
 obtain⟨G,h⟩:=z h
 exact⟨fun x=>KS A,fun x=>KS h2,KR G,Tg h⟩
theorem Kc{a:FP}{bR:List FP}:∀{l:List Nat},pI a bR l=true→∀k,k∈l→∃b,bR[k]?=some b∧xr a b
 |[],_,k,hk=>by cases hk
 |i::r,h,k,hk=>by
  have h:ob (bR[i]?) false (fun b=>aG (sj a b) (pI a bR r) false)=true:=h
  cases z:bR[i]?with
  |none=>rw[z] at h;cases h
  |some b=>
   rw[z] at h
   have h:aG (sj a b) (pI a bR r) false=true:=h
   cases hp:sj a b
   ·rw[hp] at h;cases h
   rw[hp] at h
   cases hk with
   |head=>exact⟨b,z,R0 hp⟩
   |tail _ hk=>exact Kc h k hk
inductive p5(call:eI)(o:bt)(E:Env)(H:az)(bR:List FP):Bool→an→FP→az→Prop
 |skip {fp:FP}:mW E o.g false→(o.q.isSome=true→fp=⟨some [],[],0,0⟩)→p5 call o E H bR false .undef fp H
 |plain {v:an} {fp:FP} {H1:az}:mW E o.g true→o.q=none→o.op.ev call E H= .ok v H1→p5 call o E H bR true v fp H1
 |marked {v:an} {q:List Nat} {H1:az}:mW E o.g true→o.q=some q→o.op.ev call E H.mark= .ok v H1→pI ⟨o.op.reads E,H1.ws,H.next,H1.next⟩ bR q=true→
   p5 call o E H bR true v ⟨o.op.reads E,H1.ws,H.next,H1.next⟩ (xL H H1)
def zy(o:bt)(fp:FP)(bR:List FP):List FP:=match o.q with|some _=>fp::bR|none=>bR
theorem Uq{rs:Option (List Nat)}{l:List Nat}{next bc:Nat}{ws:List Nat}{bR:List FP}{dst:Option Key}{E E':Env}{H':az}{k:Env→az→List FP→eG}{v:an}{next' A:Nat}{z:List Nat}{t':HT}
  (h:yF rs l next bc ws bR dst E k (.ok v ⟨next',A,z,t'⟩)= .ok E' H'):
  pI ⟨rs,z,next,next'⟩ bR l=true∧k (kq E dst v) ⟨next',bc,oJ bc ws z,t'⟩ (⟨rs,z,next,next'⟩::bR)= .ok E' H':=by
 unfold yF at h
 dsimp only at h
 cases G:pI ⟨rs,z,next,next'⟩ bR l
 ·rw[G] at h;cases h
 rw[G,f6] at h
 refine⟨rfl,?_⟩
 cases dst with
 |none=>exact h
 |some d=>
  dsimp only at h
  rw[T4.zF] at h
  exact h
theorem LB{call:eI}{o:bt}{E E':Env}{H H':az}{bR:List FP}{k:Env→az→List FP→eG}(h:o.ns call E H bR k= .ok E' H'):
  ∃b v fp H1,p5 call o E H bR b v fp H1∧k (kq E o.dst v) H1 (zy o fp bR)= .ok E' H':=by
 have run:mW E o.g true→o.qb call E H bR k= .ok E' H'→∃b v fp H1,p5 call o E H bR b v fp H1∧k (kq E o.dst v) H1 (zy o fp bR)= .ok E' H':=by
  intro z h
  obtain⟨dst,g,q,op⟩:=o
  cases q with
  |none=>
   obtain⟨v,H1,K,h2⟩:=Dh (k:=fun E H=>k E H bR) h
   exact⟨true,v,⟨none,[],0,0⟩,H1,.plain z rfl K,h2⟩
  |some q=>
   cases H with
   |mk next bc ws t=>
    have h:dk next (fun next=>yF (op.reads E) q next bc ws bR dst E k (op.ev call E ⟨next,next,[],t⟩))= .ok E' H':=h
    rw[ij] at h
    cases J:op.ev call E ⟨next,next,[],t⟩ with
    |err n=>rw[J] at h;cases h
    |ok v H1=>
     rw[J] at h
     cases H1 with
     |mk next' A G t'=>
      obtain⟨O,h⟩:=Uq h
      exact⟨true,v,⟨op.reads E,G,next,next'⟩,xL ⟨next,bc,ws,t⟩ ⟨next',A,G,t'⟩,.marked (q:=q) (H1:=⟨next',A,G,t'⟩) z rfl J O,h⟩
 have skip:mW E o.g false→kC o.dst E H (fun E H=>k E H (rB o.q bR))= .ok E' H'→∃b v fp H1,p5 call o E H bR b v fp H1∧k (kq E o.dst v) H1 (zy o fp bR)= .ok E' H':=by
  intro z h
  rw[vI] at h
  obtain⟨dst,g,q,op⟩:=o
  refine⟨false,.undef,⟨some [],[],0,0⟩,H,.skip z (fun _=>rfl),?_⟩
  cases q<;>exact h
 obtain⟨dst,g,q,op⟩:=o
 cases g with
 |none=>exact run .none h
 |some U=>
  obtain⟨t,want⟩:=U
  have h:ob (E.get t) (eG.err 51) (fun v=>wA v (kC dst E H fun E H=>k E H (rB q bR)) fun b=>aG (Bool.xor b want) (kC dst E H fun E H=>k E H (rB q bR)) (bt.qb call ⟨dst,some (t,want),q,op⟩ E H bR k))= .ok E' H':=h
  cases I:E.get t with
  |none=>rw[I] at h;cases h
  |some v=>
   rw[I] at h
   cases v<;>try(cases h;done)
   case undef=>exact skip (.off I) h
   rename_i b
   have h:aG (Bool.xor b want) (kC dst E H fun E H=>k E H (rB q bR)) (bt.qb call ⟨dst,some (t,want),q,op⟩ E H bR k)= .ok E' H':=h
   have z:=mW.slot (E:=E) (want:=want) I
   cases b<;>cases want
   ·exact run z h
   ·exact skip z h
   ·exact skip z h
   exact run z h
structure Trace(call:eI)(l:List bt)(E:Env)(H:az)(bR:List FP)(E':Env)(H':az)(Es:Nat→Env)(Hs:Nat→az)(Rs:Nat→List FP)(Wn:Nat→Bool)(Vs:Nat→an)(Fp:Nat→FP):Prop where
 e0:Es 0=E
 h0:Hs 0=H
 r0:Rs 0=bR
 eN:Es l.length=E'
 hN:Hs l.length=H'
 step:∀i o,l[i]?=some o→p5 call o (Es i) (Hs i) (Rs i) (Wn i) (Vs i) (Fp i) (Hs (i+1))∧Es (i+1)=kq (Es i) o.dst (Vs i)∧Rs (i+1)=zy o (Fp i) (Rs i)
theorem LC{call:eI}:∀(l:List bt)(E:Env)(H:az)(bR:List FP)(E':Env)(H':az),me call l E H bR= .ok E' H'→
  ∃Es Hs Rs Wn Vs Fp,Trace call l E H bR E' H' Es Hs Rs Wn Vs Fp
 |[],E,H,bR,E',H',h=>by
  cases h
  exact⟨fun _=>E,fun _=>H,fun _=>bR,fun _=>true,fun _=>.undef,fun _=>⟨none,[],0,0⟩,rfl,rfl,rfl,rfl,rfl,fun i o h=>by simp at h⟩
 |o::r,E,H,bR,E',H',h=>by
  obtain⟨b,v,fp,H1,A,h2⟩:=LB (show o.ns call E H bR (me call r)= .ok E' H' from h)
  obtain⟨Es,Hs,Rs,Wn,Vs,Fp,t⟩:=LC r _ _ _ _ _ h2
  refine⟨fun|0=>E|i+1=>Es i,fun|0=>H|i+1=>Hs i,fun|0=>bR|i+1=>Rs i,fun|0=>b|i+1=>Wn i,fun|0=>v|i+1=>Vs i,fun|0=>fp|i+1=>Fp i,rfl,rfl,rfl,t.eN,t.hN,fun i x z=>?_⟩
  cases i with
  |zero=>
   simp at z
   subst z
   simp only[t.e0,t.h0,t.r0]
   exact⟨A,True.intro,True.intro⟩
  |succ i=>exact t.step i x (by simpa using z)
end Go.Ev
