/- Part 5 of rules for walks through the code of a program, and of such walks; what each part proves is said by its theorems. -/
import Derived.Test.YtijnechfhdlgiaaGreatDoorS4
import Derived.Laws.IdiomStrings
import Derived.Laws.BytesArg
import Derived.Lib.Builder
import Derived.Lib.UnsafeStr
import Derived.DeepKeys
import Derived.OpenShut
import Derived.Laws.StructEq
set_option linter.unusedVariables false
set_option linter.unusedSimpArgs false
namespace Go.Ev
section
variable{P:Program}{ρ:Ho}{nt:Nat}{E:Env}{a:Act}{C:Nat→Option dP}{w:World}{H H':aB}{v:an}{o:Oper}{call:eF}
theorem Qv(hA:AR P ρ nt E a)(hR:R ρ C w)(hF:ic ρ H.next H'.next){src dst e:TypeId}{x:Operand}{x':aG}(ho:o.op= .convert src dst x)(hx:de P x=some x')
  (hs:P.underlying src=some .string) (hd:P.underlying dst=some (.slice e)) (he:P.underlying e=some (.int .u8)) (h:zp e x' E H= .ok v H'):fi P o a w (dU ρ C w H v H'):=by
 replace h:=fo h;obtain⟨u,hu,h⟩:=h
 replace h:=wV h;obtain⟨l,s,rfl,h⟩:=h
 replace h:=fE h;obtain⟨_,h⟩:=h
 rw[vo] at h
 have h:=wW h
 cases h
 have U:=hA.b9 hx hu
 simp only[VR] at U
 obtain⟨b,U,rfl,rfl⟩:=U
 have G:=run_bytes_of_string (P:=P) w src dst e b hs hd he
 have Y:=grownCap_ge w b.size 0 e
 generalize grownCap w b.size 0 e=A at*
 have Z:b.data.toList.length=b.size:=ng
 have I:(bytesRow b A).size=A:=by
  unfold bytesRow
  simp only[Ep,Array.size_map,Array.size_replicate]
  have:b.data.size=b.size:=rfl
  omega
 obtain⟨ρ',g1,g2,g3⟩:=hR.Mw 3 ((bytesRow b A).size,(bytesRow b A).size+1) (f:=H.next) (elem:=e) (es:=1) (aT:=1) (n:=b.size) (cs:=jt (oz b.size (pack b.data.toList)) .emp 0) (cells:=bytesRow b A)
  (w':=w.drew.alloc (.cells (bytesRow b A) e ((bytesRow b A).size,(bytesRow b A).size+1)))
  (Wr ⟨H.next+1,H.bc,H.ws,H.t.set H.next (.row e 1 1 b.size b.size 3 (jt (oz b.size (pack b.data.toList)) .emp 0))⟩) (fun g=>hF _ g (bY _) (fZ _)) (by omega) (by rw[I];omega)
  (fun k hk=>by
   rw[tp,aw (by rw[yX];omega),Er]
   have J:k<(oz b.size (pack b.data.toList)).length:=by rw[yX];exact hk
   refine⟨_,eY J,?_⟩
   have K:=eY J
   obtain⟨y,O,hy2⟩:=FM b.data.toList k _ (by rw[Z];exact K)
   rw[hy2]
   refine⟨rfl,fun j z hz=>?_⟩
   cases j with
   |succ j=>simp at hz
   |zero=>
    simp at hz
    subst hz
    refine⟨rfl,.int .u8 y.toNat,?_,by simp only[VR]⟩
    unfold bytesRow
    rw[Et (by rw[Array.size_map];show k*1+0<b.size;omega)]
    simp only[HR,yg,Array.getElem?_map]
    rw[OA] at O
    rw[O];rfl) rfl (fun i hi h=>by simp at h;omega) (fun h=>by omega) rfl rfl rfl
 refine .inl ⟨.slice (some ⟨w.heap.size,0,none⟩) b.size A,w.drew.alloc (.cells (bytesRow b A) e ((bytesRow b A).size,(bytesRow b A).size+1)),?_,ρ',?_,g2,?_⟩
 ·simp only[execOp,ho,U,Sem.run_bind]
  rw[G]
  rfl
 ·simp only[VR]
  exact⟨_,_,_,g1,rfl,Y,.inl ⟨rfl,by simp only;rw[I];omega⟩⟩
 rw[BM];exact g3
theorem FO:∀{L:List (List an)}{s:Nat},nD L=some s→∃z:List UInt8,z.length=L.length∧s=pack z∧∀(i:Nat)(b:UInt8),z[i]?=some b→L[i]?=some [an.int .u8 (Int.ofNat b.toNat)]
 |[],s,h=>by cases h;exact⟨[],rfl,rfl,fun i b h=>by simp at h⟩
 |c::r,s,h=>by
  cases c with
  |nil=>cases h
  |cons x t=>cases t with
   |cons y t=>cases h
   |nil=>
    have h:Mr x none (fun k i=>aH (Nat.beq (dn k) 4) (jb i none fun b=>aH (Nat.ble b 255) (ob (nD r) none fun v=>some (Nat.add b (Nat.mul 256 v))) none) none)=some s:=h
    cases x with
    |int k i=>
     have h:aH (Nat.beq (dn k) 4) (jb i none fun b=>aH (Nat.ble b 255) (ob (nD r) none fun v=>some (Nat.add b (Nat.mul 256 v))) none) none=some s:=h
     cases A:Nat.beq (dn k) 4
     ·rw[A] at h;cases h
     rw[A,f9] at h
     cases i with
     |negSucc m=>cases h
     |ofNat b=>
      have h:aH (Nat.ble b 255) (ob (nD r) none fun v=>some (Nat.add b (Nat.mul 256 v))) none=some s:=h
      cases h2:Nat.ble b 255
      ·rw[h2] at h;cases h
      rw[h2,f9] at h
      cases G:nD r with
      |none=>rw[G] at h;cases h
      |some v=>
       rw[G] at h
       cases h
       obtain⟨z,K,O,U⟩:=FO G
       have A:=dZ A
       have h2:=bW h2
       have hk:k= .u8:=by cases k<;>simp[dn] at A<;>rfl
       subst hk
       have J:(UInt8.ofNat b).toNat=b:=by rw[UInt8.toNat_ofNat'];omega
       refine⟨UInt8.ofNat b::z,by simp[K],?_,fun i y I=>?_⟩
       ·show b+256*v=(UInt8.ofNat b).toNat+256*pack z
        rw[J,O]
       cases i with
       |zero=>simp at I;subst I;rw[J];rfl
       |succ i=>exact U i y (by simpa using I)
    |_=>cases h
theorem Qw(hA:AR P ρ nt E a)(U:R ρ C w){src dst e:TypeId}{x:Operand}{Y:aG}(ho:o.op= .convert src dst x)(hx:de P x=some Y)
  (hs:P.underlying src=some (.slice e)) (hd:P.underlying dst=some .string) (he:P.underlying e=some (.int .u8))
  (hC:∀f o,f∈iT (Y.ev E)→(∃g h,ρ f g=some h)→H.t.get f=some o→C f=some o) (h:zq Y E H= .ok v H'):fi P o a w (dU ρ C w H v H'):=by
 replace h:=fo h;obtain⟨u,hu,h⟩:=h
 have z:=hA.b9 hx hu
 cases u<;>try(cases h;done)
 case cb=>
  cases h
  simp only[VR] at z
  refine gD (cv:=.string ByteArray.empty) ?_ U (by simp only[VR];exact⟨_,rfl,rfl,rfl⟩)
  have:=run_convert_bytes_nil (P:=P) (w:=w) src e hs he 0 0 dst hd
  simp only[execOp,ho,z,Sem.run_bind,this]
  rfl
 case slice f g off n es=>
  have h:ob (elems H f g 1 n off) (.err 39) (fun l=>ob (nD l) (.err 39) fun s=>dr s fun s=>aE.ok (.str n s) H)= .ok v H':=h
  replace h:=jl h;obtain⟨L,hL,h⟩:=h
  replace h:=jl h;obtain⟨s,Z,h⟩:=h
  rw[im] at h
  cases h
  simp only[VR] at z
  obtain⟨hm,ad,cap,hh,z,OM,qC⟩:=z
  obtain⟨hlen,E8⟩:=B0 hL
  obtain⟨K,g1,g2,g3⟩:=FO Z
  have A8:K.length=n:=g1.trans hlen
  subst A8
  have A:=run_convert_bytes_back (P:=P) w src dst e ad cap K hs he hd (fun j hj=>by
   have O:=g3 j K[j] (eY hj)
   have G:=E8 j _ O
   have sW:C f=H.t.get f:=by
    obtain⟨_,_,_,_,_,_,_,_,O,_⟩:=G
    exact(hC f _ (by rw[hu];simp[iT]) ⟨_,_,hh⟩ O).trans O.symm
   obtain⟨_,_,hc⟩:=U.rd G sW hh (by omega)
   obtain⟨cv,I,J⟩:=hc 0 _ rfl
   simp only[VR] at J
   subst J
   rcases qC with⟨rfl,_⟩|⟨h0,_,_⟩
   ·rw[Addr.add_lit]
    rw[←nd] at I
    simpa using I
   omega)
  refine gD (cv:=.string ⟨K.toArray⟩) ?_ U (by simp only[VR];exact⟨_,rfl,rfl,by rw[g2]⟩)
  simp only[execOp,ho,z,Sem.run_bind,A]
  rfl
theorem QJ{e:TypeId}(A:P.cellsOf e≠0)(count:Nat)(G:1≤count):liesAt P P.depth e count 0 e 1=true:=by
 have z:P.depth=(2*(P.types.size+Made.depth)+1)+1:=rfl
 rw[z]
 simp only[liesAt,uL]
 left
 rw[z]
 simp[rowAt,A,G,sameLayout]
theorem Jx(hA:AR P ρ nt E a)(hR:R ρ C w){src dst t:TypeId}{x:Operand}{x':aG}{io:bE}(ho:o.op= .convert src dst x)(hx:de P x=some x')
  (I:(P.underlying src=some (.pointer t)∧P.underlying dst=some .unsafePointer)∨(P.underlying src=some .unsafePointer∧P.underlying dst=some (.pointer t))) (G:Cc P t x'=some io)
  (hC:∀f o,(∀l,io.reads E=some l→f∈l)→(∃g h,ρ f g=some h)→H.t.get f=some o→C f=some o) (h:io.ev call E H= .ok v H'):fi P o a w (dU ρ C w H v H'):=by
 unfold Cc at G
 split at G
 ·rename_i j hj
  split at G
  ·rename_i ns
   cases G
   have h:zN t (P.cellsOf t) x' E H= .ok v H':=h
   replace h:=fo h;obtain⟨u,hu,h⟩:=h
   have K:=hA.b9 hx hu
   cases hn:xo u with
   |true=>
    rw[hn,f9] at h
    cases u<;>try(cases hn;done)
    cases h
    simp only[VR] at K
    refine gD (cv:=.pointer none) ?_ hR (by simp only[VR])
    have:(convert src dst (.pointer none)).run P w= .ok (.pointer none) w:=by
     rcases I with⟨O,J⟩|⟨O,J⟩<;>simp[convert,run_underlying O,run_underlying J,Conv.unsafePointer]
    simp only[execOp,ho,K,Sem.run_bind,this]
    rfl
   |false=>
    rw[hn] at h
    have h:iu u (.err 44) (fun f g off=>iS (H.t.get f) (.err 44) fun elem es _ m lo fl _=>
     aH (Nat.beq elem t) (aH (Nat.beq es (P.cellsOf t)) (aH (Nat.beq off 0) (aH (Nat.ble lo g) (aH (Nat.ble g m) (aH (Nat.ble 1 g) (aH (Nat.beq fl 0) (aE.ok u H) (.err 44)) (.err 44)) (.err 44)) (.err 44)) (.err 44)) (.err 44)) (.err 44))= .ok v H':=h
    replace h:=vq h;obtain⟨f,g,off,rfl,h⟩:=h
    cases hg:H.t.get f with
    |none=>rw[hg] at h;cases h
    |some ob=>cases ob with
     |map=>rw[hg] at h;cases h
     |row elem es aT m lo fl cs=>
      rw[hg] at h
      have h:aH (Nat.beq elem t) (aH (Nat.beq es (P.cellsOf t)) (aH (Nat.beq off 0) (aH (Nat.ble lo g) (aH (Nat.ble g m) (aH (Nat.ble 1 g) (aH (Nat.beq fl 0) (aE.ok (.ptr f g off) H) (.err 44)) (.err 44)) (.err 44)) (.err 44)) (.err 44)) (.err 44)) (.err 44)= .ok v H':=h
      replace h:=fE h;obtain⟨b1,h⟩:=h
      replace h:=fE h;obtain⟨b2,h⟩:=h
      replace h:=fE h;obtain⟨b3,h⟩:=h
      replace h:=fE h;obtain⟨b4,h⟩:=h
      replace h:=fE h;obtain⟨b5,h⟩:=h
      replace h:=fE h;obtain⟨b6,h⟩:=h
      replace h:=fE h;obtain⟨b7,h⟩:=h
      cases h
      have b1:=dZ b1
      have b2:=dZ b2
      have b3:=dZ b3
      have b4:=bW b4
      have b5:=bW b5
      have b6:=bW b6
      have b7:=dZ b7
      subst b1;subst b3;subst b7
      simp only[VR] at K
      obtain⟨A,hh,K⟩:=K
      have sW:=hC f _ (fun l e=>by have e:some (iT (x'.ev E))=some l:=e;rw[hu] at e;cases e;simp[iT]) ⟨_,_,hh⟩ hg
      obtain⟨he,_,_,z⟩:=hR.obj f _ sW g A hh
      have z:=z b4 b5
      obtain⟨c,fz,U,Ht⟩:=z.row
      have Y:=z.sF (.inl rfl)
      have HZ:=z.fits
      have sY:es≤g*es:=Nat.le_mul_of_pos_left _ b6
      have Z:w.shape? A.b8=some (elem,c.size):=by simp[World.shape?,U]
      refine gD (cv:=.pointer (some ⟨A.b8,A.off+0,none⟩)) ?_ hR (by simp only[VR];exact⟨A,hh,rfl⟩)
      have:(convert src dst (.pointer (some ⟨A.b8,A.off+0,none⟩))).run P w= .ok (.pointer (some ⟨A.b8,A.off+0,none⟩)) w:=by
       rcases I with⟨O,J⟩|⟨O,J⟩
       ·exact Lib.run_to_unsafe w ⟨A.b8,A.off+0,none⟩ O J hj ns Z (by show A.off+0<c.size;omega)
       refine Lib.run_from_unsafe w ⟨A.b8,A.off+0,none⟩ O J hj Z ?_
       show liesAt P P.depth elem (c.size/P.cellsOf elem) (A.off+0) elem 1=true
       rw[Y,←b2]
       have J:=Nat.div_pos (show es≤c.size by omega) he
       have:=QJ (P:=P) (e:=elem) (by rw[←b2];omega) (c.size/es) J
       rw[yg]
       exact this
      simp only[execOp,ho,K,Sem.run_bind,this]
      rfl
  cases G
 cases G
theorem RR(Z:AR P ρ nt E a)(J:R ρ C w){c:Call}{x:Operand}{K:aG}(ho:o.op= .call c)(O:c.callee= .builtin .unsafeSliceData)(z:c.args=#[x])(hx:de P x=some K)
  (h:AL K E H= .ok v H'):fi P o a w (dU ρ C w H v H'):=by
 replace h:=fo h;obtain⟨u,hu,h⟩:=h
 have A:=Z.b9 hx hu
 cases u<;>try(cases h;done)
 case cb=>
  cases h
  simp only[VR] at A
  refine gD (cv:=.pointer none) ?_ J (by simp only[VR])
  simp[execOp,ho,resolve,O,z,invoke,builtin,A,Lib.run_unsafeSliceData_nil]
 case slice f g off l es=>
  have h:aH (Nat.beq l 0) (.err 45) (aE.ok (.ptr f g off) H)= .ok v H':=h
  replace h:=My h;obtain⟨U,h⟩:=h
  cases h
  simp only[VR] at A
  obtain⟨G,ad,cap,hh,A,Y,I⟩:=A
  have hl:l≠0:=fun e=>by rw[e] at U;cases U
  rcases I with⟨rfl,_⟩|⟨e,_,_⟩
  ·refine gD (cv:=.pointer (some ⟨G.b8,G.off+off,none⟩)) ?_ J (by simp only[VR];exact⟨G,hh,rfl⟩)
   simp[execOp,ho,resolve,O,z,invoke,builtin,A,Lib.run_unsafeSliceData_row w _ _ _ l cap (by omega)]
  exact absurd e hl
theorem QK(I:AR P ρ nt E a)(J:R ρ C w)(U:ic ρ H.next H'.next){src dst:TypeId}{x:Operand}{O:aG}{io:bE}(ho:o.op= .convert src dst x)(K:de P x=some O)(z:Gq P src dst O=some io)
  (hC:∀f o,(∀l,io.reads E=some l→f∈l)→(∃g h,ρ f g=some h)→H.t.get f=some o→C f=some o) (h:io.ev call E H= .ok v H'):fi P o a w (dU ρ C w H v H'):=by
 unfold Gq at z
 split at z
 ·rename_i e A G
  split at z
  ·rename_i he;cases z;exact Qv I J U ho K A G he h
  cases z
 ·rename_i e A G
  split at z
  ·rename_i he;cases z;exact Qw I J ho K A G he (fun f o Y=>hC f o (fun l e=>by cases e;exact Y)) h
  cases z
 ·rename_i t A G;exact Jx I J ho K (.inl ⟨A,G⟩) z hC h
 ·rename_i t A G;exact Jx I J ho K (.inr ⟨A,G⟩) z hC h
 cases z
end
section
variable{P:Program}{ρ:Ho}{nt:Nat}{E:Env}{a:Act}{C:Nat→Option dP}{w:World}{H H':aB}{v:an}{o:Oper}{call:eF}
def jo:Value→Lit
 |.bool b=>.bool b
 |.int k n=>.int k n
 |.string s=>.string s.data.toList
 |_=>.bool false
inductive uz:Nat→Value→Prop
 |int {q:IntKind} {n:Int}:uz (dn q) (.int q n)
 |bool {b:Bool}:uz 100 (.bool b)
 |str {s:ByteArray}:uz 101 (.string s)
def kK:List Nat→List Value→Prop
 |[],[]=>True
 |k::r,c::s=>uz k c∧kK r s
 |_,_=>False
theorem kK.split:∀{k l:List Nat}{cs:List Value},kK (k++l) cs→kK k (cs.take k.length)∧kK l (cs.drop k.length)
 |[],l,cs,h=>by simpa[kK] using h
 |x::k,l,[],h=>by simp[kK] at h
 |x::k,l,c::cs,h=>by
  have h:uz x c∧kK (k++l) cs:=h
  obtain⟨z,h2⟩:=kK.split h.2
  exact⟨by simpa[kK] using⟨h.1,z⟩,by simpa using h2⟩
theorem kK.length:∀{k:List Nat}{cs:List Value},kK k cs→cs.length=k.length
 |[],[],_=>rfl
 |[],_::_,h=>h.elim
 |_::_,[],h=>h.elim
 |_::k,_::cs,h=>by have:=kK.length h.2;simp[this]
def A9(P:Program)(t:TypeId)(x:Value)(l:List Value):Prop:=(P.plainKey t=true∧l=[x])∨∃z xs,P.underlying t=some (.struct z)∧x= .agg xs∧xs.toList=l
def Pw(P:Program)(d:Nat)(t:TypeId)(ks:List Nat):Prop:=∀(w:World)x y z A,A9 P t x z→A9 P t y A→kK ks z→kK ks A→∃r:Bool,(Op.equalIn d t x y).run P w= .ok r w∧(r=true↔z.map jo=A.map jo)
theorem Ka(w:World){D:Nat}{e:TypeId}{k:List Nat}{xs:Array Value}{off:Nat}(hk:tG P D e=some k)(G:k.length=P.cellsOf e)(I:kK k ((xs.toList.drop off).take k.length)):
  ∃a,(part e xs off).run P w= .ok a w∧A9 P e a ((xs.toList.drop off).take k.length):=by
 cases D with
 |zero=>cases hk
 |succ D=>
  unfold tG at hk
  have plain:P.plainKey e=true→k.length=1→∃a,(part e xs off).run P w= .ok a w∧A9 P e a ((xs.toList.drop off).take k.length):=fun hp J=>by
   have h2:=I.length
   rw[J] at h2⊢
   obtain⟨a,A⟩:∃a,(xs.toList.drop off).take 1=[a]:=by
    match U:(xs.toList.drop off).take 1,h2 with
    |[a],_=>exact⟨a,rfl⟩
   exact⟨a,run_part_plain w hp (getElem?_of_chunk A),.inl ⟨hp,A⟩⟩
  split at hk
  ·rename_i z;cases hk;exact plain (by simp[Program.plainKey,z]) rfl
  ·rename_i z;cases hk;exact plain (by simp[Program.plainKey,z]) rfl
  ·rename_i z;cases hk;exact plain (by simp[Program.plainKey,z]) rfl
  ·rename_i K z
   obtain⟨i,hi⟩:=info_of_underlying z
   have O:(xs.extract off (off+P.cellsOf e)).toList=(xs.toList.drop off).take (P.cellsOf e):=by
    rw[HH];simp[List.extract]
   exact⟨.agg (xs.extract off (off+P.cellsOf e)),by simp[part,isAgg,run_underlying z,run_sizeOf w hi],.inr ⟨K,_,z,rfl,by rw[O,G]⟩⟩
  cases hk
theorem Jy{D dd:Nat}(U:∀t ks,tG P D t=some ks→P.keyTypeAt D t=true→Pw P dd t ks)(w:World)(xs ys:Array Value):∀(A:List Field)(off:Nat)(ks:List Nat),Cb P (tG P D) off A=some ks→
  (∀f,f∈A→f.name≠ "_"∧P.keyTypeAt D f.type=true)→kK ks (xs.toList.drop off)→kK ks (ys.toList.drop off)→
  ∃r:Bool,(Op.eqFields dd xs ys A).run P w= .ok r w∧(r=true↔(xs.toList.drop off).map jo=(ys.toList.drop off).map jo)
 |[],off,ks,h,_,G,I=>by
  cases h
  refine⟨true,by simp[Op.eqFields],?_⟩
  rw[sS G.length,sS I.length];simp
 |f::r,off,ks,h,Y,G,I=>by
  unfold Cb at h
  split at h
  ·rename_i k hk
   split at h
   ·rename_i J
    split at h
    ·rename_i l K
     cases h
     obtain⟨x1,x2⟩:=G.split
     obtain⟨O,y2⟩:=I.split
     have lx:=x1.length;have ly:=O.length
     rw[Ew] at x2 y2
     obtain⟨h1,h2⟩:=Y f (by simp)
     obtain⟨a,Z,i1⟩:=Ka w hk J.2 x1
     obtain⟨b,p2,i2⟩:=Ka w hk J.2 O
     obtain⟨q,p3,e1⟩:=U _ _ hk h2 w a b _ _ i1 i2 x1 O
     obtain⟨q',p4,e2⟩:=Jy U w xs ys r (off+k.length) l K (fun f hf=>Y f (by simp[hf])) x2 y2
     have sx:(xs.toList.drop off).map jo=((xs.toList.drop off).take k.length).map jo++(xs.toList.drop (off+k.length)).map jo:=by rw[←dT,←Ew,Ei]
     have sy:(ys.toList.drop off).map jo=((ys.toList.drop off).take k.length).map jo++(ys.toList.drop (off+k.length)).map jo:=by rw[←dT,←Ew,Ei]
     have z:(xs.toList.drop off).map jo=(ys.toList.drop off).map jo↔((xs.toList.drop off).take k.length).map jo=((ys.toList.drop off).take k.length).map jo∧(xs.toList.drop (off+k.length)).map jo=(ys.toList.drop (off+k.length)).map jo:=by
      rw[sx,sy]
      exact⟨fun e=>List.append_inj e (by rw[cC,cC,lx,ly]),fun e=>by rw[e.1,e.2]⟩
     rw[←J.1] at Z p2
     simp only[Op.eqFields,h1,ne_eq,not_false_eq_true,if_true,Sem.run_bind,Z,p2,p3,Result.andThen_ok]
     cases q
     ·exact⟨false,by simp,by rw[z];exact⟨fun h=>(by cases h),fun e=>absurd (e1.2 e.1) (by simp)⟩⟩
     exact⟨q',by simpa using p4,by rw[z,e2];simp[e1.1 rfl]⟩
    cases h
   cases h
  cases h
theorem LF(dd:Nat):∀(D:Nat)(t:TypeId)(ks:List Nat),tG P D t=some ks→P.keyTypeAt D t=true→Pw P (dd+D) t ks
 |0,_,_,h,_=>by cases h
 |D+1,t,ks,h,hk=>by
  intro w x y lx ly ix iy U Y
  have one:∀{k:Nat},kK [k] lx→kK [k] ly→P.plainKey t=true→lx=[x]∧ly=[y]∧uz k x∧uz k y:=fun{k}h1 h2 hp=>by
   have no:∀K,P.underlying t=some (.struct K)→False:=fun K A=>by simp[Program.plainKey,A] at hp
   rcases ix with⟨_,rfl⟩|⟨K,_,A,_⟩
   ·rcases iy with⟨_,rfl⟩|⟨K,_,A,_⟩
    ·exact⟨rfl,rfl,h1.1,h2.1⟩
    exact(no K A).elim
   exact(no K A).elim
  unfold tG at h
  split at h
  ·rename_i A
   cases h
   obtain⟨rfl,rfl,O,J⟩:=one U Y (by simp[Program.plainKey,A])
   generalize G:(100:Nat)=kk at O J
   cases O with
   |int=>rename_i q _;cases q<;>simp[dn] at G
   |str=>simp at G
   |bool=>
    generalize I:(100:Nat)=k2 at J
    cases J with
    |int=>rename_i q _;cases q<;>simp[dn] at I
    |str=>simp at I
    |bool=>exact⟨_,run_equalIn_bool' w _ t _ _ A,by simp[jo]⟩
  ·rename_i k A
   cases h
   obtain⟨rfl,rfl,O,J⟩:=one U Y (by simp[Program.plainKey,A])
   generalize G:dn k=kk at O J
   cases O with
   |bool=>cases k<;>simp[dn] at G
   |str=>cases k<;>simp[dn] at G
   |int=>
    rename_i q n
    obtain rfl:k=q:=Cg (by rw[G];exact iX _)
    generalize I:dn k=k2 at J
    cases J with
    |bool=>cases k<;>simp[dn] at I
    |str=>cases k<;>simp[dn] at I
    |int=>
     rename_i q' m
     obtain rfl:k=q':=Cg (by rw[I];exact iX _)
     exact⟨_,run_equalIn_int w _ t k k n m A,by simp[jo]⟩
  ·rename_i A
   cases h
   obtain⟨rfl,rfl,O,J⟩:=one U Y (by simp[Program.plainKey,A])
   generalize G:(101:Nat)=kk at O J
   cases O with
   |int=>rename_i q _;cases q<;>simp[dn] at G
   |bool=>simp at G
   |str=>
    generalize I:(101:Nat)=k2 at J
    cases J with
    |int=>rename_i q _;cases q<;>simp[dn] at I
    |bool=>simp at I
    |str=>
     refine⟨_,run_equalIn_string w _ t _ _ A,?_⟩
     simp only[jo,eB,fy,yh,and_true,Lit.string.injEq,beq_iff_eq]
     rw[ByteArray.toList_eq,ByteArray.toList_eq]
  ·rename_i K A
   split at h
   ·rename_i ks' Iw
    split at h
    ·cases h
     have hP:P.fieldsOf t=K:=by unfold Program.fieldsOf;rw[A]
     unfold Program.keyTypeAt at hk
     simp only[A,eZ,HU,Array.all_eq_true_iff_forall_mem,bne_iff_ne,ne_eq] at hk
     have ag:∀{z l},A9 P t z l→∃Z,z= .agg Z∧Z.toList=l:=fun{z l}iz=>by
      rcases iz with⟨hp,_⟩|⟨_,Z,_,h1,h2⟩
      ·simp[Program.plainKey,A] at hp
      exact⟨Z,h1,h2⟩
     obtain⟨xs,rfl,rfl⟩:=ag ix
     obtain⟨ys,rfl,rfl⟩:=ag iy
     obtain⟨r,hr,hi⟩:=Jy (fun t ks=>LF dd D t ks) w xs ys K.toList 0 ks Iw (fun f hf=>hk.1.1 f (Array.mem_toList_iff.1 hf)) U Y
     refine⟨r,?_,hi⟩
     rw[show dd+(D+1)=(dd+D)+1 from rfl,run_equalIn_agg w _ t xs ys (by rw[hP];exact A) hk.2,hP]
     exact hr
    cases h
   cases h
  cases h
theorem TD{c:Nat}{x:an}{cv:Value}(h:se c x=true)(z:VR ρ x cv):uz c cv:=by
 unfold se at h
 split at h
 ·have A:=dZ h
  simp only[VR] at z
  subst z;subst A
  exact .int
 ·have A:=dZ h
  simp only[VR] at z
  subst z;subst A
  exact .bool
 ·have A:=dZ h
  simp only[VR] at z
  obtain⟨b,rfl,rfl,_⟩:=z
  subst A
  exact .str
 cases h
theorem F0:∀{ks:List Nat}{l:List an}{cs:List Value},kH ks l=true→cB ρ l cs→kK ks cs
 |[],[],_,_,z=>by simp only[cB] at z;subst z;trivial
 |c::r,x::s,_,h,z=>by
  simp only[kH,eZ] at h
  simp only[cB] at z
  obtain⟨cv,t,rfl,A,h2⟩:=z
  exact⟨TD h.1 A,F0 h.2 h2⟩
 |[],_::_,_,h,_=>by simp[kH] at h
 |_::_,[],_,h,_=>by simp[kH] at h
theorem Jz{x y:an}{G cy:Value}{r:Bool}(h:wS x y=some r)(z:VR ρ x G)(A:VR ρ y cy):r=true↔jo G=jo cy:=by
 unfold wS at h
 split at h
 ·rename_i k a' J K
  split at h
  ·rename_i hk
   cases h
   have:=Cg hk
   subst this
   simp only[VR] at z A
   subst z;subst A
   simp[jo,tT]
  cases h
 ·cases h
  simp only[VR] at z A
  subst z;subst A
  simp[jo]
 ·cases h
  simp only[VR] at z A
  obtain⟨b1,rfl,rfl,rfl⟩:=z
  obtain⟨b2,rfl,rfl,rfl⟩:=A
  have I:b1.size=b1.data.toList.length:=Array.length_toList.symm
  have h2:b2.size=b2.data.toList.length:=Array.length_toList.symm
  rw[I,h2,BF]
  simp[jo]
 cases h
theorem JQ:∀{x y:List an}{J cy:List Value}{r:Bool},qg x y=some r→cB ρ x J→cB ρ y cy→(r=true↔J.map jo=cy.map jo)
 |[],[],_,_,r,h,A,G=>by
  cases h
  simp only[cB] at A G
  subst A;subst G
  simp
 |x::s,y::t,_,_,r,h,A,G=>by
  simp only[cB] at A G
  obtain⟨cv,Z,rfl,K,h2⟩:=A
  obtain⟨dv,dt,rfl,O,Y⟩:=G
  unfold qg at h
  split at h
  ·rename_i e
   have I:=Jz e K O
   have U:=JQ h h2 Y
   simp only[eB,yh]
   exact⟨fun z=>⟨I.1 rfl,U.1 z⟩,fun z=>U.2 z.2⟩
  ·rename_i e
   have I:=Jz e K O
   split at h
   ·cases h
    simp only[eB,yh]
    exact⟨fun z=>(by cases z),fun z=>absurd (I.2 z.1) (by simp)⟩
   cases h
  cases h
 |[],_::_,_,_,_,h,_,_=>by cases h
 |_::_,[],_,_,_,h,_,_=>by cases h
theorem QL(hA:AR P ρ nt E a)(hR:R ρ C w){op:BinOp}{t t':TypeId}{fs:Array Field}{x z:Operand}{x' z':aG}{io:bE}(ho:o.op= .binOp op t x z t')(hx:de P x=some x')(hz:de P z=some z')(hu:P.underlying t=some (.struct fs))
  (A:Hq P op t x' z'=some io) (h:io.ev call E H= .ok v H'):fi P o a w (dU ρ C w H v H'):=by
 unfold Hq at A
 split at A
 ·rename_i ks Iw
  split at A
  ·rename_i hc
   have key:∀neg,(op= .eql∧neg=false)∨(op= .neq∧neg=true)→yC (.agg ks) neg x' z' E H= .ok v H'→fi P o a w (dU ρ C w H v H'):=by
    intro neg yL h
    replace h:=fo h;obtain⟨u,hu1,h⟩:=h
    replace h:=fo h;obtain⟨u2,hu2,h⟩:=h
    replace h:=jl h;obtain⟨r,G,h⟩:=h
    rw[FN] at h
    cases h
    have J:=hA.b9 hx hu1
    have K:=hA.b9 hz hu2
    cases u<;>try(cases G;done)
    rename_i la
    cases u2<;>try(cases G;done)
    rename_i lb
    have G:aH (kH ks la) (aH (kH ks lb) (qg la lb) none) none=some r:=G
    cases g1:kH ks la
    ·rw[g1] at G;cases G
    rw[g1,f9] at G
    cases g2:kH ks lb
    ·rw[g2] at G;cases G
    rw[g2,f9] at G
    simp only[VR] at J K
    obtain⟨O,e1,U,_⟩:=J
    obtain⟨Y,e2,Z,_⟩:=K
    have hla:=F0 g1 U
    have hlb:=F0 g2 Z
    obtain⟨r',I,WV⟩:=LF 9988 12 t ks Iw hc.1 w (.agg O) (.agg Y) _ _ (.inr ⟨fs,O,hu,rfl,rfl⟩) (.inr ⟨fs,Y,hu,rfl,rfl⟩) hla hlb
    have hrr:r'=r:=by
     have k:=JQ G U Z
     exact Bool.eq_iff_iff.2 (WV.trans k.symm)
    subst hrr
    have hg:=run_eqGuard_agg (P:=P) w op t x z O Y hc.2
    refine gD (cv:=.bool (Bool.xor neg r')) ?_ hR (by simp only[VR])
    simp only[execOp,ho,Sem.run_bind,e1,e2,hg,Result.andThen_ok]
    have I:(Op.equalIn 10000 t (.agg O) (.agg Y)).run P w= .ok r' w:=I
    have he:(Op.equal t (.agg O) (.agg Y)).run P w= .ok r' w:=I
    rcases yL with⟨rfl,rfl⟩|⟨rfl,rfl⟩
    ·simp only[binOp];simp[he]
    simp only[binOp];simp[he]
   cases op<;>simp only[gJ,reduceCtorEq] at A
   ·subst A;exact key false (.inl ⟨rfl,rfl⟩) h
   subst A;exact key true (.inr ⟨rfl,rfl⟩) h
  cases A
 cases A
end
section
variable{P:Program}{ρ:Ho}{nt:Nat}{E:Env}{a:Act}{C:Nat→Option dP}{w:World}{H H':aB}{v:an}{o:Oper}{call:eF}
theorem QM(w:World)(b n:Nat)(z:n≠0)(k:Nat):(w.freeze ⟨b,0,none⟩ n).heap[k]?=(w.heap[k]?).map fun ob=>if k=b then(match ob with
   |.cells c elem (lo,hi)=>.cells c elem (if lo==hi then(0,0+n) else(min lo 0,max hi (0+n)))
   |o=>o) else ob:=by
 unfold World.freeze
 rw[aj z]
 show(w.heap.modify b _)[k]?=_
 rw[HJ]
 by_cases h:k=b
 ·subst h
  rw[aw rfl]
  congr 1
  funext ob
  rw[aw rfl]
  cases ob<;>rfl
 rw[aj (fun e=>h e.symm)]
 cases w.heap[k]?<;>simp[h]
theorem R.freeze(hR:R ρ C w){f g n m lo fl elem aT:Nat}{cs:RT}{z:Hm}(hC:C f=some (.row elem 1 aT m lo fl cs))(hh:ρ f g=some z)(sX:lo≤g)(hgm:g≤m)(hn:n≠0)(Px:n≤g)(U:fl=0∨fl=2)
  (W:Nat→Prop) (hW:W f) (n0:Nat):Ext W n0 n0 ρ ρ w (w.freeze ⟨z.b8,0,none⟩ n)∧R ρ (fun x=>if x=f then some (.row elem 1 aT m lo 2 cs) else C x) (w.freeze ⟨z.b8,0,none⟩ n):=by
 obtain⟨he,nZ,_,A⟩:=hR.obj f _ hC g z hh
 have A:=A sX hgm
 have ON:z.ro=false:=by
  cases h:z.ro
  ·rfl
  have:=nZ h;omega
 have EA:=A.sF U
 obtain⟨c,fz,I,ns⟩:=A.row
 have yH:=A.yE U _ _ _ I
 have Y:=QM w z.b8 n hn
 have J:∀k,k≠z.b8→(w.freeze ⟨z.b8,0,none⟩ n).heap[k]?=w.heap[k]?:=fun k hk=>by
  rw[Y k]
  cases w.heap[k]?<;>simp[hk]
 obtain⟨Z,K,WW⟩:∃Z,(w.freeze ⟨z.b8,0,none⟩ n).heap[z.b8]?=some (.cells c elem Z)∧Z.2≤m:=by
  rw[Y z.b8,I]
  obtain⟨l1,h1⟩:=fz
  simp only[sA,if_true]
  by_cases G:l1=h1
  ·subst G
   exact⟨(0,0+n),by simp,by simp;omega⟩
  refine⟨(min l1 0,max h1 (0+n)),by simp[G],?_⟩
  have:h1≤m:=by
   rcases yH with h|h
   ·exact absurd h G
   simpa using h
  simp only
  omega
 have D5:∀ad:Addr,(w.freeze ⟨z.b8,0,none⟩ n).cell? ad=w.cell? ad:=fun ad=>by
  by_cases G:ad.block=z.b8
  ·simp only[World.cell?,G,K,I]
  exact cell_of_heap (w:=w) (J _ G)
 have Ht:(w.freeze ⟨z.b8,0,none⟩ n).heap.size=w.heap.size:=by
  unfold World.freeze
  rw[aj hn]
  simp
 refine⟨⟨Ho.le_refl _,fun f' g' h' e=>.inl ⟨g',h',e⟩,fun _ _ _ e=>.inl e,fun b _ G=>J b fun e=>G f g z hh ON hW e.symm,by rw[Ht];exact bY _,bY _,?_,?_,?_⟩,⟨?_,hR.nT,fun f' g' h' e=>by rw[Ht];exact hR.jZ f' g' h' e,hR.uniq,fun f' g' h' e a b=>(hR.mB f' g' h' e a b).iO (D5 _)⟩⟩
 ·unfold World.freeze;rw[aj hn]
 ·unfold World.freeze;rw[aj hn]
 ·unfold World.freeze;rw[aj hn]
 intro f' o' sZ g' h' hx
 have nu:(if f'=f then some (dP.row elem 1 aT m lo 2 cs) else C f')=some o':=sZ
 clear sZ
 by_cases e:f'=f
 ·rw[aw e] at nu
  subst e
  cases nu
  obtain⟨_,r1,r2,r3⟩:=hR.obj f' _ hC g' h' hx
  refine⟨he,fun h=>by have:=r1 h;omega,r2,fun a1 a2=>?_⟩
  have r:=r3 a1 a2
  have O:∀i,i<g'→∃l,cs.get i=some l∧l.length=1∧∀j x,l[j]?=some x→gW x=true∧∃cv,(w.freeze ⟨z.b8,0,none⟩ n).cell? ⟨h'.b8,h'.off+i*1+j,none⟩=some cv∧VR ρ x cv:=fun i hi=>by
   obtain⟨l,l1,l2,l3⟩:=r.cell i hi
   exact⟨l,l1,l2,fun j x hj=>by rw[D5];exact l3 j x hj⟩
  by_cases G:h'.b8=z.b8
  ·obtain⟨c1,sV,q1,q2⟩:=r.row
   rw[G,I] at q1
   cases q1
   refine⟨⟨c,Z,by rw[G];exact K,q2⟩,r.fits,O,fun h=>by omega,fun _ i hi _=>?_,fun _=>r.sF U,fun _ c1 e1 sV iZ=>?_⟩
   ·simp only[World.frozen?,G,K]
    obtain⟨l1,h1⟩:=Z
    simp only at WW⊢
    simp
    omega
   rw[G,K] at iZ
   cases iZ
   right;omega
  have hw:=J _ G
  refine⟨by rw[hw];exact r.row,r.fits,O,fun h=>by omega,fun _ i hi p9=>by rw[frozen_of_heap (w:=w) hw];exact r.xS (by omega) i hi p9,fun _=>r.sF U,fun _ c1 e1 sV iZ=>r.yE U c1 e1 sV (by rw[←hw];exact iZ)⟩
 rw[aj e] at nu
 refine(hR.obj f' o' nu g' h' hx).iO (Ho.le_refl _) (J _ fun G=>?_)
 have:=(hR.nT _ _ _ _ _ _ hx hh e G).2
 rw[ON] at this;cases this
theorem U1{f e:Nat}{k:aB→aE}(h:mA f e H k= .ok v H'):∃aT m lo fl cs,H.t.get f=some (.row e 1 aT m lo fl cs)∧(fl=0∨fl=2)∧k ⟨H.next,H.bc,wrote f H.bc H.ws,H.t.set f (.row e 1 aT m lo 2 cs)⟩= .ok v H':=by
 cases H with
 |mk next bc ws t=>
  have h:iS (t.get f) (aE.err 46) (fun elem es aT m lo fl cs=>
   aH (Nat.beq elem e) (aH (Nat.beq es 1) (aH (aH (Nat.beq fl 0) true (Nat.beq fl 2)) (t.gq f (.row elem es aT m lo 2 cs) fun t=>k ⟨next,bc,wrote f bc ws,t⟩) (.err 46)) (.err 46)) (.err 46))= .ok v H':=h
  cases z:t.get f with
  |none=>rw[z] at h;cases h
  |some ob=>cases ob with
   |map=>rw[z] at h;cases h
   |row elem es aT m lo fl cs=>
    rw[z] at h
    have h:aH (Nat.beq elem e) (aH (Nat.beq es 1) (aH (aH (Nat.beq fl 0) true (Nat.beq fl 2)) (t.gq f (.row elem es aT m lo 2 cs) fun t=>k ⟨next,bc,wrote f bc ws,t⟩) (.err 46)) (.err 46)) (.err 46)= .ok v H':=h
    replace h:=fE h;obtain⟨b1,h⟩:=h
    replace h:=fE h;obtain⟨b2,h⟩:=h
    replace h:=fE h;obtain⟨A,h⟩:=h
    rw[GT.j8] at h
    have b1:=dZ b1
    have b2:=dZ b2
    have I:=h
    subst b1;subst b2
    have J:({next:=next,bc:=bc,ws:=ws,t:=t}:aB).t.get f=some (dP.row elem 1 aT m lo fl cs):=z
    refine⟨aT,m,lo,fl,cs,rfl,?_,I⟩
    cases G:Nat.beq fl 0
    ·rw[G] at A;exact .inr (dZ A)
    exact .inl (dZ G)
theorem Re(hA:AR P ρ nt E a)(hR:R ρ C w){c:Call}{x y:Operand}{x' y':aG}{pt it e:TypeId}(ho:o.op= .call c)(hc:c.callee= .builtin .unsafeString)(A:c.args=#[x,y])(hx:de P x=some x')(hy:de P y=some y')
  (Py:c.argTypes=#[pt,it]) (hp:P.underlying pt=some (.pointer e)) (Ix:P.cellsOf e=1) (hC:∀f o,f∈iT (x'.ev E)→(∃g h,ρ f g=some h)→H.t.get f=some o→C f=some o)
  (h:vU e x' y' E H= .ok v H'):fi P o a w (dU ρ C w H v H'):=by
 replace h:=fo h;obtain⟨u,hu,h⟩:=h
 cases G:xo u with
 |true=>
  rw[G,f9] at h
  have hun:u= .hU:=by cases u<;>first|rfl|cases G
  subst hun
  replace h:=fo h;obtain⟨u2,Z,h⟩:=h
  replace h:=rT h;obtain⟨k,l0,rfl,h⟩:=h
  replace h:=vt h;obtain⟨l,rfl,h⟩:=h
  replace h:=fE h;obtain⟨b2,h⟩:=h
  replace h:=fE h;obtain⟨K,h⟩:=h
  cases h
  have b2:=dZ b2
  have K:=dZ K
  have hk:k= .i64:=by cases k<;>simp[dn] at b2<;>rfl
  subst hk;subst K
  have O:=hA.b9 hx hu
  have h2:=hA.b9 hy Z
  simp only[VR] at O h2
  have I:(Builtin.unsafeString_ #[pt,it] o.type #[.pointer none,.int .i64 0]).run P w= .ok (.string .empty) w:=rfl
  refine .inl ⟨.string .empty,w,?_,ρ,?_,Ext.refl _ _ _ _,?_⟩
  ·have h2:a.eval y= .int .i64 0:=h2
   simp[execOp,ho,resolve,hc,A,invoke,builtin,O,h2,Py,I]
  ·simp only[VR]
   exact⟨_,rfl,rfl,rfl⟩
  rw[pw];exact hR
 |false=>
 rw[G,show∀a b:aE,aH false a b=b from fun _ _=>rfl] at h
 replace h:=vq h;obtain⟨f,g,off,rfl,h⟩:=h
 replace h:=fo h;obtain⟨u2,Z,h⟩:=h
 replace h:=rT h;obtain⟨k,l0,rfl,h⟩:=h
 replace h:=vt h;obtain⟨l,rfl,h⟩:=h
 replace h:=fE h;obtain⟨b1,h⟩:=h
 replace h:=fE h;obtain⟨b2,h⟩:=h
 replace h:=fE h;obtain⟨K,h⟩:=h
 replace h:=fE h;obtain⟨b4,h⟩:=h
 replace h:=jl h;obtain⟨L,hL,h⟩:=h
 replace h:=jl h;obtain⟨s,hs,h⟩:=h
 rw[im] at h
 obtain⟨aT,m,lo,fl,cs,hg,uX,h⟩:=U1 h
 cases h
 have b1:=dZ b1
 have b2:=dZ b2
 have K:=bW K
 have b4:=bW b4
 have hk:k= .i64:=by cases k<;>simp[dn] at b2<;>rfl
 subst hk;subst b1
 have O:=hA.b9 hx hu
 have h2:=hA.b9 hy Z
 simp only[VR] at O h2
 obtain⟨hm,hh,O⟩:=O
 obtain⟨hlen,E8⟩:=B0 hL
 obtain⟨U,g1,g2,g3⟩:=FO hs
 have A8:U.length=l:=g1.trans hlen
 subst A8
 have J:=hC f _ (by rw[hu];simp[iT]) ⟨_,_,hh⟩ hg
 have V8:=E8 (U.length-1) _ (eY (by omega))
 obtain⟨elem',gM,my,m',A',fl',cs',x1,Pz,q1,q2,q3,q4,q5,_⟩:=V8
 rw[hg] at Pz
 cases Pz
 have Px:U.length≤g:=by simp at q4;omega
 obtain⟨_,_,_,z⟩:=hR.obj f _ J g hm hh
 have z:=z q1 q2
 have Y:=z.sF uX
 obtain⟨cc,fz,yp,ns⟩:=z.row
 have HZ:=z.fits
 have hsh:w.shape? hm.b8=some (e,cc.size):=by simp[World.shape?,yp]
 have I:=Lib.run_unsafeString_row (P:=P) w pt it o.type e hp Ix hm.b8 cc.size hsh U (by intro e0;rw[e0] at K;simp at K) (by omega) (by omega) (fun j b hj=>by
  have p':=E8 j _ (g3 j b hj)
  obtain⟨_,_,rH⟩:=hR.rd p' (J.trans hg.symm) hh (by omega)
  obtain⟨cv,iZ,rI⟩:=rH 0 _ rfl
  simp only[VR] at rI
  subst rI
  rw[Addr.add_lit]
  simpa[Y] using iZ)
 obtain⟨r1,r2⟩:=hR.freeze (n:=U.length) J hh q1 q2 (by omega) Px uX (Wr ⟨H.next,H.bc,wrote f H.bc H.ws,H.t.set f (.row e 1 aT m lo 2 cs)⟩) (Ga _ _ _) H.next
 refine .inl ⟨.string ⟨U.toArray⟩,w.freeze ⟨hm.b8,0,none⟩ U.length,?_,ρ,?_,r1,?_⟩
 ·rw[Y] at O
  have h2:a.eval y= .int .i64 U.length:=h2
  simp[execOp,ho,resolve,hc,A,invoke,builtin,O,h2,Py,I]
 ·simp only[VR]
  exact⟨_,rfl,rfl,by rw[g2]⟩
 rw[FY (J.trans hg.symm) hg]
 exact r2
end
section
variable{P:Program}{ρ:Ho}{nt:Nat}{E:Env}{a:Act}{C:Nat→Option dP}{w:World}{H H':aB}{v:an}{o:Oper}
theorem MA{mx:Bool}{k:IntKind}:∀{vs:List an}{nw:List Value}{n:Int}{r:an},cB ρ vs nw→EY mx k vs n=some r→
  ∃m,r= .int k m∧(nw.foldlM (if mx=true then Builtin.max2 else Builtin.min2) (.int k n)).run P w= .ok (.int k m) w
 |[],nw,n,r,z,h=>by
  simp only[cB] at z
  subst z
  cases h
  exact⟨n,rfl,rfl⟩
 |x::vs,nw,n,r,z,h=>by
  simp only[cB] at z
  obtain⟨cv,t,rfl,A,h2⟩:=z
  replace h:Ms x none (fun _ b=>kW (aH (aH mx (kQ n b) (kQ b n)) b n) (EY mx k vs))=some r:=h
  cases x<;>try(cases h;done)
  rename_i G b
  replace h:kW (aH (aH mx (kQ n b) (kQ b n)) b n) (EY mx k vs)=some r:=h
  rw[rQ] at h
  simp only[VR] at A
  subst A
  obtain⟨m,I,J⟩:=MA (nw:=t) h2 h
  refine⟨m,I,?_⟩
  rw[List.foldlM_cons]
  have e:((if mx=true then Builtin.max2 else Builtin.min2) (.int k n) (.int G b)).run P w= .ok (.int k (aH (aH mx (kQ n b) (kQ b n)) b n)) w:=by
   cases mx
   ·simp only[pU,if_false,RE,oA,qU,eV];rfl
   simp only[if_true,f9,oA,qU,eV];rfl
  simp only[Sem.run_bind,e]
  exact J
theorem Jl(U:AR P ρ nt E a)(hR:R ρ C w){mx:Bool}{c:Call}{x:Operand}{r:List Operand}{Y:aG}{Z:List aG}(ho:o.op= .call c)(J:c.callee= .builtin (if mx=true then .max else .min))(G:c.args.toList=x::r)(hx:de P x=some Y)(hr:kX P r=some Z)
  (h:zo mx Y Z E H= .ok v H'):fi P o a w (dU ρ C w H v H'):=by
 replace h:=fo h;obtain⟨u,hu,h⟩:=h
 replace h:=rT h;obtain⟨k,n,rfl,h⟩:=h
 replace h:=jl h;obtain⟨vs,K,h⟩:=h
 replace h:=jl h;obtain⟨res,I,h⟩:=h
 cases h
 have O:=U.b9 hx hu
 have h2:=U.dC hr K
 simp only[VR] at O
 obtain⟨m,rfl,z⟩:=MA (P:=P) (w:=w) h2 I
 have A:c.args=(x::r).toArray:=by rw[←G]
 refine gD (cv:=.int k m) ?_ hR (by simp only[VR])
 cases mx
 ·simp only[pU,if_false] at J z
  simp[execOp,ho,resolve,J,A,invoke,builtin,Builtin.min_,O,z]
 simp only[if_true] at J z
 simp[execOp,ho,resolve,J,A,invoke,builtin,Builtin.max_,O,z]
end
section
variable{P:Program}{ρ:Ho}{nt:Nat}{E:Env}{a:Act}{C:Nat→Option dP}{w:World}{H H':aB}{v:an}{o:Oper}{call:eF}{io:bE}
def LG(io:bE)(E:Env)(ρ:Ho)(C:Nat→Option dP)(H:aB):Prop:=
 ∀f o,(∀l,io.reads E=some l→f∈l)→(∃g h,ρ f g=some h)→H.t.get f=some o→C f=some o
theorem BG{l:List Operand}{G:aG}(h:kX P l=some [G]):∃x,l=[x]∧de P x=some G:=by
 cases l with
 |nil=>simp[kX] at h
 |cons x r=>
  simp only[kX] at h
  split at h
  ·rename_i y l I A
   cases h
   cases r with
   |nil=>exact⟨x,rfl,I⟩
   |cons z s=>
    simp only[kX] at A
    split at A<;>cases A
  cases h
theorem BA{l:List Operand}{z:aG}{A:List aG}(h:kX P l=some (z::A)):∃x r,l=x::r∧de P x=some z∧kX P r=some A:=by
 cases l with
 |nil=>simp[kX] at h
 |cons x r=>
  simp only[kX] at h
  split at h
  ·rename_i y l G I
   cases h
   exact⟨x,r,rfl,G,I⟩
  cases h
theorem Bz{c:Array Operand}{l:List Operand}(h:c.toList=l):c=l.toArray:=by rw[←h]
theorem Qx(U:AR P ρ nt E a)(O:R ρ C w)(hF:ic ρ H.next H'.next)(hK:LG io E ρ C H)(hm:H.bc≤H.next)(nx:∀x,H.next≤x→H.t.get x=none)(hc:kt P call){c:Call}
  (ho:o.op= .call c) (A:GQ P c=some io) (h:io.ev call E H= .ok v H'):fi P o a w (dU ρ C w H v H'):=by
 unfold GQ at A
 split at A
 ·rename_i f args I G
  split at A
  ·rename_i f
   cases A
   exact Rb U O hF (fun f Y=>hK f Y (fun l e=>by cases e)) hm nx hc ho I G h
  split at A
  ·rename_i y hy
   cases A
   exact QH U O hF (fun f Y=>hK f Y (fun l e=>by cases e)) hm nx hc ho I hy G h
  cases A
 ·rename_i x' I G
  obtain⟨x,J,K⟩:=BG G
  have J:=Bz J
  split at A
  ·rename_i t ht
   split at A
   ·rename_i Z
    cases A
    exact Q8 U O ho I J K ht Z h
   ·rename_i e Z
    cases A
    exact RK U O ho I J K ht Z h
   ·rename_i n e Z
    cases A
    exact Q7 (E:=E) O ho I J ht Z h
   cases A
  cases A
 ·rename_i x' y' I G
  obtain⟨x,r,J,K,hr⟩:=BA G
  obtain⟨y,j0,hy⟩:=BG hr
  subst j0
  have J:=Bz J
  split at A
  ·rename_i t u ht Z
   split at A
   ·rename_i e e2 Iy Iz
    split at A
    ·rename_i i z hi hz
     split at A
     ·rename_i hb
      cases A
      exact RO U O hF ho I J K hy ht Z Iy Iz hi hz hb (fun f Y hf=>hK f Y (fun l e=>by cases e;exact hf)) h
     cases A
    cases A
   ·rename_i e Iy Iz
    split at A
    ·rename_i i z hi hz
     split at A
     ·rename_i hb
      cases A
      exact Qu U O hF ho I J K hy ht Z Iy Iz hi hz hb.1 hb.2 (fun f Y hf=>hK f Y (fun l e=>by cases e;exact hf)) h
     cases A
    cases A
   cases A
  cases A
 ·rename_i x' I G
  obtain⟨x,J,K⟩:=BG G
  have J:=Bz J
  cases A
  exact RR U O ho I J K h
 ·rename_i x' y' I G
  obtain⟨x,r,J,K,hr⟩:=BA G
  obtain⟨y,j0,hy⟩:=BG hr
  subst j0
  have J:=Bz J
  split at A
  ·rename_i pt it IA
   have IA:c.argTypes=#[pt,it]:=Array.ext' IA
   split at A
   ·rename_i e hp
    split at A
    ·rename_i he
     cases A
     exact Re U O ho I J K hy IA hp he (fun f Y hf=>hK f Y (fun l e=>by cases e;exact hf)) h
    cases A
   cases A
  cases A
 ·rename_i l I G
  cases l with
  |nil=>cases A
  |cons x' r'=>
   obtain⟨x,r,J,K,hr⟩:=BA G
   cases A
   exact Jl (mx:=false) U O ho I J K hr h
 ·rename_i l I G
  cases l with
  |nil=>cases A
  |cons x' r'=>
   obtain⟨x,r,J,K,hr⟩:=BA G
   cases A
   exact Jl (mx:=true) U O ho I J K hr h
 cases A
theorem Kb(A:AN P o.op=some io)(K:AR P ρ nt E a)(J:R ρ C w)(hF:ic ρ H.next H'.next)(hK:LG io E ρ C H)(hm:H.bc≤H.next)(nx:∀x,H.next≤x→H.t.get x=none)(hc:kt P call)
  (h:io.ev call E H= .ok v H'):fi P o a w (dU ρ C w H v H'):=by
 generalize G:o.op=op at A
 unfold AN at A
 split at A
 ·split at A
  ·rename_i y I;cases A;exact J7 K J (.inl G) I h
  cases A
 ·split at A
  ·rename_i y I;cases A;exact J7 K J (.inr G) I h
  cases A
 ·split at A
  ·rename_i c' a' b' h1 h2 h3;cases A;exact Q0 K J G h1 h2 h3 h
  cases A
 ·split at A
  ·rename_i z i hz hi;cases A;exact Q' (E:=E) J hF G hz hi h
  cases A
 ·split at A
  ·rename_i n i y U hi I;cases A;exact RL K J hF G I U h
  cases A
 ·exact QI K J G A h
 ·exact Qj K J hF G A h
 ·split at A
  ·rename_i n y U I;cases A;exact Ra K J G I U (fun f o' Z=>hK f o' (fun l e=>by cases e;exact Z)) h
  cases A
 ·split at A
  ·rename_i n y z U I hz;cases A;exact QF K J G I hz U (fun f o' Z=>hK f o' (fun l e=>by cases e;exact Z)) h
  cases A
 ·split at A
  ·rename_i y I;cases A;exact QC K J G I h
  cases A
 ·split at A
  ·rename_i x' y' O I
   unfold N5 at A
   split at A
   ·cases A;exact J8 K J G O I h
   ·cases A;exact J8 K J G O I h
   ·rename_i fs hu;exact QL K J G O I hu A h
   ·rename_i d _ _ _ hu;exact RQ K J G O I hu A h
   cases A
  cases A
 ·split at A
  ·rename_i y I;cases A;exact Sv K J G I h
  cases A
 ·split at A
  ·rename_i y I
   unfold Mt at A
   split at A
   ·rename_i hs hd;cases A;exact Q9 K J G I hs hd h
   exact QK K J hF G I A (fun f o' hl=>hK f o' hl) h
  cases A
 ·split at A
  ·cases A
  ·rename_i d y lp hd I;cases A;exact Q5 K J G hd (fun ms e=>lp ms (e▸rfl)) I h
  cases A
 ·split at A
  ·rename_i fs l hfs hl;cases A;exact Q4 K J G hfs hl h
  cases A
 ·split at A
  ·rename_i x' y' O I;exact Rc K J hF G O I A h
  cases A
 ·split at A
  ·rename_i x' A' uZ Y O sX IB;cases A;exact QE K J G O sX IB Y h
  ·rename_i e x' A' uZ Y O sX IB
   split at A
   ·rename_i n U;cases A;exact Q6 K J G O sX IB Y U h
   cases A
  ·cases A
  cases A
 ·split at A
  ·rename_i fs y hs I
   split at A
   ·rename_i fd Z
    split at A
    ·rename_i n U
     cases A
     obtain⟨i,d,hi,_,e,h0⟩:=tA U
     exact Q2 K J G I hs Z hi (by omega) h
    cases A
   cases A
  cases A
 ·split at A
  ·rename_i fs y hs I
   split at A
   ·rename_i fd Z
    split at A
    ·rename_i n U;cases A;exact RJ K J G I hs Z U h
    cases A
   cases A
  cases A
 ·split at A
  ·rename_i k e x' i' Y O hi
   split at A
   ·rename_i n U
    split at A
    ·cases A;exact Qq K J G O hi Y U h
    cases A
   cases A
  ·rename_i e x' i' Y O hi
   split at A
   ·rename_i n U;cases A;exact QD K J G O hi Y U h
   cases A
  cases A
 ·split at A
  ·rename_i k e x' i' Y O hi
   split at A
   ·rename_i n U;cases A;exact Qr K J G O hi Y U h
   cases A
  ·rename_i x' i' Y O hi
   cases A
   exact Qs K J G O hi Y h
  cases A
 ·split at A
  ·rename_i y I;cases A;exact Q3 K J G I h
  cases A
 ·exact Qx K J hF hK hm nx hc G A h
 cases A
end
noncomputable def kf(E:Env)(d:Option Key)(v:an):Env:=match d with|some d=>E.set d v|none=>E
theorem CF{dst:Option Key}{E E':Env}{H':aB}{k:Env→aB→eD}{r:aE}(h:fin dst E k r= .ok E' H'):∃v H1,r= .ok v H1∧k (kf E dst v) H1= .ok E' H':=by
 cases r with
 |err n=>cases h
 |ok v H1=>
  refine⟨v,H1,rfl,?_⟩
  cases dst with
  |none=>exact h
  |some d=>
   have h:E.yj d v (fun E=>k E H1)= .ok E' H':=h
   rw[T4.zj] at h
   exact h
theorem vw(dst:Option Key)(E:Env)(H:aB)(k:Env→aB→eD):ku dst E H k=k (kf E dst .undef) H:=by
 cases dst with
 |none=>rfl
 |some d=>show E.yj d .undef (fun E=>k E H)=_;rw[T4.zj];rfl
inductive mK(E:Env):Option (Key×Bool)→Bool→Prop
 |none:mK E none true
 |slot {t:Key} {want b:Bool}:E.get t=some (.bool b)→mK E (some (t,want)) (b==want)
 |off {t:Key} {want:Bool}:E.get t=some .undef→mK E (some (t,want)) false
theorem tI{call:eF}{o:bt}{E E':Env}{H H':aB}{k:Env→aB→eD}(h:o.step call E H k= .ok E' H'):
  (mK E o.g true∧∃v H1,o.op.ev call E H= .ok v H1∧k (kf E o.dst v) H1= .ok E' H')∨(mK E o.g false∧k (kf E o.dst .undef) H= .ok E' H'):=by
 obtain⟨dst,g,q,op⟩:=o
 cases g with
 |none=>exact .inl ⟨.none,CF h⟩
 |some G=>
  obtain⟨t,want⟩:=G
  have h:ob (E.get t) (eD.err 51) (fun v=>wc v (ku dst E H k) fun b=>aH (Bool.xor b want) (ku dst E H k) (bt.run call ⟨dst,some (t,want),q,op⟩ E H k))= .ok E' H':=h
  cases z:E.get t with
  |none=>rw[z] at h;cases h
  |some v=>
   rw[z] at h
   cases v<;>try(cases h;done)
   case undef=>
    have h:ku dst E H k= .ok E' H':=h
    rw[vw] at h
    exact .inr ⟨.off z,h⟩
   rename_i b
   have h:aH (Bool.xor b want) (ku dst E H k) (bt.run call ⟨dst,some (t,want),q,op⟩ E H k)= .ok E' H':=h
   have A:=mK.slot (E:=E) (want:=want) z
   cases b<;>cases want
   ·exact .inl ⟨A,CF h⟩
   ·rw[show Bool.xor false true=true from rfl,f9,vw] at h;exact .inr ⟨A,h⟩
   ·rw[show Bool.xor true false=true from rfl,f9,vw] at h;exact .inr ⟨A,h⟩
   exact .inl ⟨A,CF h⟩
structure yq(P:Program)(nt:Nat)(ops:Array Oper)(o:Oper)(io:bt):Prop where
 dst:o.dst=io.dst.map Key.n
 lt:∀d,io.dst=some d→d.n<nt
 g:(o.guard=none∧io.g=none)∨∃j want d,o.guard=some (j,want)∧(ops[j]?).bind (·.dst)=some d.n∧io.g=some (d,want)
 op:AN P o.op=some io.op∨io.op=A4
theorem LH{call:eF}{E:Env}{H H':aB}{v:an}(h:A4.ev call E H= .ok v H'):False:=by cases h
section
variable{P:Program}{ρ:Ho}{nt:Nat}{E:Env}{a:Act}{C:Nat→Option dP}{w:World}{H H':aB}{v:an}{call:eF}{ops:Array Oper}{Q:Exit→Act→World→Prop}
theorem F1{o:Oper}{io:bt}{b:Bool}(ho:yq P nt ops o io)(A:mK E io.g b)(K:∀t v,E.get t=some v→∃cv,a.tmps[t.n]?=some cv∧VR ρ v cv):Region.wanted o (yielded ops a.tmps)=b:=by
 unfold Region.wanted
 rcases ho.g with⟨G,h2⟩|⟨j,want,d,G,h2,O⟩
 ·rw[h2] at A
  rw[G]
  cases A
  rfl
 rw[O] at A
 rw[G]
 cases A with
 |slot I=>
  obtain⟨cv,J,z⟩:=K _ _ I
  simp only[VR] at z
  subst z
  simp only[yielded,h2,Option.bind_some,J]
  rename_i b
  cases b<;>cases want<;>rfl
 |off I=>
  obtain⟨cv,J,z⟩:=K _ _ I
  simp only[VR] at z
  subst z
  simp only[yielded,h2,Option.bind_some,J,undef]
  cases want<;>rfl
theorem BN(A:j9 ρ C H){ρ':Ho}(G:∀f g h,ρ' f g=some h→(∃g0 h0,ρ f g0=some h0)∨(H.next≤f∧f<H'.next)):j9 ρ' (gu C H H') H':=by
 intro f o z ho
 obtain⟨g,h,z⟩:=z
 unfold gu
 split
 ·exact ho
 rename_i I
 split
 ·rename_i he
  refine A f o ?_ (he▸ho)
  rcases G f g h z with k|k
  ·exact k
  exact absurd k I
 exact ho
theorem ic.sub(h:ic ρ H.next H'.next){ρ':Ho}{n1:Nat}(z:∀f g h,ρ' f g=some h→(∃g0 h0,ρ f g0=some h0)∨(H.next≤f∧f<n1))(I:H.next≤n1):ic ρ' n1 H'.next:=by
 intro f g h2 A
 cases G:ρ' f g with
 |none=>rfl
 |some x=>
  rcases z f g x G with⟨g0,h0,e⟩|e
  ·rw[h f g0 (by omega) A] at e;cases e
  omega
theorem ic.le{n0 n1 z:Nat}(h:ic ρ n0 z)(A:n1≤z):ic ρ n0 n1:=fun f g a b=>h f g a (by omega)
theorem AR.EB(h:AR P ρ nt E a){d:Option Key}(z:∀x,d=some x→x.n<nt){v:an}{cv:Value}(A:VR ρ v cv):AR P ρ nt (kf E d v) (a.put (d.map Key.n) cv):=by
 cases d with
 |none=>exact h
 |some d=>exact h.put (z d rfl) A
theorem BH(A:kt P call):∀(l:List bt)(E:Env)(H:aB)(E':Env)(H':aB),H.bc≤H.next→mJ call l E H= .ok E' H'→gk H H'
 |[],E,H,E',H',_,h=>by cases h;exact gk.refl _
 |o::r,E,H,E',H',z,h=>by
  rcases tI (show o.step call E H (mJ call r)= .ok E' H' from h) with⟨_,v,H1,G,h2⟩|⟨_,h2⟩
  ·have t1:=TM.ins z (fun f a=>A.mz f a H z) E o.op v H1 G
   exact t1.trans (BH A r _ _ _ _ (by rw[t1.bc];exact jT z t1.next) h2)
  exact BH A r _ _ _ _ z h2
def WF(H:aB):Prop:=∀x,H.next≤x→H.t.get x=none
theorem Gt{H1 A:aB}(h:gk H1 A)(f:Nat)(z:Wr H1 f):Wr A f:=by
 rcases z with z|z
 ·exact .inl (h.ws f z)
 exact .inr (by rw[h.bc];exact z)
def qz(P:Program)(nt:Nat)(E':Env)(H H':aB)(C:Nat→Option dP)(ρ:Ho)(w:World)(K:Act→World→Prop):Prop:=
 ∀a' w' ρ',AR P ρ' nt E' a'→Ext (Wr H') H.next H'.next ρ ρ' w w'→R ρ' (gu C H H') w'→j9 ρ' (gu C H H') H'→K a' w'
theorem Kc{ρ:Ho}(hK:j9 ρ C H){H1 z:aB}(h1:H.next≤H1.next)(h2:H1.next≤z.next)(A:∀f,H1.t.get f≠none→z.t.get f≠none){ρ':Ho}(hd:∀f g h,ρ' f g=some h→(∃g0 h0,ρ f g0=some h0)∨(H.next≤f∧f<z.next))
  (f:Nat) (o:dP) (h:gu C H z f=some o) (I:∃g x,ρ' f g=some x):gu (gu C H H1) H1 z f=some o:=by
 obtain⟨g,x,I⟩:=I
 unfold gu at h⊢
 by_cases J:H1.next≤f∧f<z.next
 ·rw[aw ⟨by omega,J.2⟩] at h
  rw[aw J]
  exact h
 rw[aj J]
 by_cases K:H.next≤f∧f<H1.next
 ·rw[aw ⟨K.1,by omega⟩] at h
  rw[aw K]
  split
  ·rename_i e;rw[←e];exact h
  exact h
 have Z:¬(H.next≤f∧f<z.next):=by omega
 rw[aj K]
 rw[aj Z] at h
 have G:∃g0 h0,ρ f g0=some h0:=(hd f g x I).resolve_right Z
 have O:=fun U=>hK f U G
 split
 ·rename_i e
  split
  ·rename_i e1
   rw[aw (e.trans e1)] at h
   exact h
  rename_i e1
  rw[aj (by rw[e];exact e1),e] at h
  exact h
 rename_i e
 split at h
 ·rename_i e2
  rw[e2]
  cases Y:H.t.get f with
  |none=>
   have h3:H1.t.get f≠none:=fun e3=>e (by rw[e2,Y,e3])
   exact absurd (e2.trans Y) (A f h3)
  |some U=>
   rw[O U Y] at h
   exact h
 exact h
theorem TE{o:Oper}{io:bt}{H1:aB}{E':Env}{K:Act→World→Prop}(ho:yq P nt ops o io)(hA:AR P ρ nt E a)(U:j9 ρ C H)(Y:gk H H1)(I:gk H1 H')
  (J:qz P nt E' H H' C ρ w K) {cv:Value} {w':World} (hp:dU ρ C w H v H1 cv w') {K':Act→World→Prop}
  (hk:∀ρ' Z,AR P ρ' nt (kf E io.dst v) (a.put o.dst cv)→R ρ' Z w'→j9 ρ' Z H1→(∀f g h,ρ' f g=some h→(∃g0 h0,ρ f g0=some h0)∨(H.next≤f∧f<H1.next))→uy P ρ'→qz P nt E' H1 H' Z ρ' w' K→K' (a.put o.dst cv) w'):
  K' (a.put o.dst cv) w':=by
 obtain⟨ρ',hv,A,Ba⟩:=hp
 have G:AR P ρ' nt (kf E io.dst v) (a.put o.dst cv):=by
  rw[ho.dst]
  exact(hA.mono A.le).EB ho.lt hv
 refine hk ρ' (gu C H H1) G Ba (BN U A.ji) A.ji G.rz fun a2 w2 O G E9 hR2 hK2=>?_
 have z:Ext (Wr H') H.next H'.next ρ O w w2:=(A.mono (Gt I)).trans E9
 refine J a2 w2 O G z ?_ (BN U z.ji)
 exact hR2.weaken fun f o h hf=>Kc U Y.next I.next I.iO z.ji f o h hf
theorem JA(hc:kt P call){K:Act→World→Prop}:∀(l:List bt)(os:List Oper)(k:Nat),os.length=l.length→(∀(i:Nat)(o:Oper)(io:bt),os[i]?=some o→l[i]?=some io→yq P nt ops o io)→(∀(i:Nat)(o:Oper),os[i]?=some o→ops[k+i]?=some o)→
  ∀(E:Env)(H:aB)(E':Env)(H':aB)(ρ:Ho)(C:Nat→Option dP)(a:Act)(w:World),mJ call l E H= .ok E' H'→AR P ρ nt E a→R ρ C w→j9 ρ C H→ic ρ H.next H'.next→H.bc≤H.next→WF H→
  qz P nt E' H H' C ρ w K→(∀a w,K a w→Q .normal a w)→wpOps P ops Q ((List.range' k l.length)) a w
 |[],os,k,hl,O,U,E,H,E',H',ρ,C,a,w,h,Y,hR,hK,hF,hm,I,z,hQ=>by
  cases h
  refine hQ _ _ (z a w ρ Y (Ext.refl _ _ _ _) ?_ ?_)
  ·rw[pw];exact hR
  rw[pw];exact hK
 |io::r,[],k,hl,_,_,_,_,_,_,_,_,_,_,_,_,_,_,_,_,_,_,_=>by simp at hl
 |io::r,o::os,k,hl,O,U,E,H,E',H',ρ,C,a,w,h,Y,hR,hK,hF,hm,I,z,hQ=>by
  have ho:=O 0 o io rfl rfl
  have Bb:ops[k]?=some o:=by simpa using U 0 o rfl
  have A:=JA hc (K:=K) r os (k+1) (by simpa using hl) (fun i o io J h2=>O (i+1) o io (by simpa using J) (by simpa using h2)) (fun i o J=>by
   have:=U (i+1) o (by simpa using J);rwa [show k+(i+1)=k+1+i by omega] at this)
  rw[dk,List.range'_succ,wpOps_cons]
  unfold wpOp
  simp only[Bb]
  rcases tI (show io.step call E H (mJ call r)= .ok E' H' from h) with⟨hw,v,H1,J,h2⟩|⟨hw,h2⟩
  ·rw[F1 ho hw Y.tmp,aw rfl]
   left
   have G:=TM.ins hm (fun f a=>hc.mz f a H hm) E io.op v H1 J
   have s7:H1.bc≤H1.next:=by rw[G.bc];exact jT hm G.next
   have PA:=BH hc r _ _ _ _ s7 h2
   rcases ho.op with Bc|H4
   case inr=>rw[H4] at J;exact(LH J).elim
   have WX:=Kb (o:=o) Bc Y hR (hF.le PA.next) (fun f o' _ hf sZ=>hK f o' hf sZ) hm I hc J
   refine JL WX fun cv w' hp=>?_
   refine TE ho Y hK G PA z hp (K':=wpOps P ops Q (List.range' (k+1) r.length)) fun ρ' C' Z Ba hK' hd hg ht=>?_
   exact A _ H1 E' H' ρ' C' _ w' h2 Z Ba hK' (hF.sub hd G.next) s7 (G.wf I) ht hQ
  rw[F1 ho hw Y.tmp,aj (by simp)]
  have Z:AR P ρ nt (kf E io.dst .undef) (a.put o.dst undef):=by
   rw[ho.dst]
   exact Y.EB ho.lt (by simp only[VR])
  exact A _ H E' H' ρ C _ w h2 Z hR hK hF hm I z hQ
end
def aB.mark(H:aB):aB:=⟨H.next,H.next,[],H.t⟩
noncomputable def xr(H H1:aB):aB:=⟨H1.next,H.bc,ot H.bc H.ws H1.ws,H1.t⟩
theorem yY(bc:Nat)(ws:List Nat):∀(new:List Nat)(x:Nat),x∈ot bc ws new↔x∈ws∨(x∈new∧x<bc)
 |[],x=>by show x∈ws↔_;simp
 |f::r,x=>by
  show x∈wrote f bc (ot bc ws r)↔_
  rw[y7,yY bc ws r]
  simp only[pV]
  constructor
  ·rintro((h|⟨h,k⟩)|⟨rfl,k⟩)
   ·exact .inl h
   ·exact .inr ⟨.inr h,k⟩
   exact .inr ⟨.inl rfl,k⟩
  rintro(h|⟨rfl|h,k⟩)
  ·exact .inl (.inl h)
  ·exact .inr ⟨rfl,k⟩
  exact .inl (.inr ⟨h,k⟩)
theorem gk.xr{H H1:aB}(G:H.bc≤H.next)(h:gk H.mark H1):gk H (xr H H1):=
 ⟨h.next,rfl,fun f z=>(yY _ _ _ _).2 (.inl z),fun f z A=>h.same f (by show f<H.next;omega) (fun e=>A ((yY _ _ _ _).2 (.inr ⟨e,z⟩))),h.wf,h.iO⟩
theorem Kd{l m:List Nat}(h:xR l m=true):∀x,x∈l→x∉m:=by
 induction l with
 |nil=>intro x z;cases z
 |cons y r I=>
  have h:aH (pY y m) false (xR r m)=true:=h
  intro x z G
  cases A:pY y m
  ·rw[A] at h
   cases z with
   |head=>rw[(F' _ _).2 G] at A;cases A
   |tail _ z=>exact I h x z G
  rw[A] at h;cases h
theorem Ke{l:List Nat}{r:Option (List Nat)}(h:Ak l r=true){x:Nat}(z:x∈l):∃m,r=some m∧x∉m:=by
 cases l with
 |nil=>cases z
 |cons y s=>
  cases r with
  |none=>cases h
  |some m=>exact⟨m,rfl,Kd (l:=y::s) h x z⟩
theorem Sy{l:List Nat}{lo hi:Nat}(h:uN l lo hi=true):∀x,x∈l→¬(lo≤x∧x<hi):=by
 induction l with
 |nil=>intro x z;cases z
 |cons y r J=>
  have h:aH (Nat.ble lo y) (aH (Nat.ble hi y) (uN r lo hi) false) (uN r lo hi)=true:=h
  intro x z⟨G,h2⟩
  cases A:Nat.ble lo y
  ·rw[A] at h
   cases z with
   |head=>rw[jz G] at A;cases A
   |tail _ z=>exact J h x z ⟨G,h2⟩
  rw[A] at h
  have h:aH (Nat.ble hi y) (uN r lo hi) false=true:=h
  cases I:Nat.ble hi y
  ·rw[I] at h;cases h
  rw[I] at h
  cases z with
  |head=>have:=bW I;omega
  |tail _ z=>exact J h x z ⟨G,h2⟩
structure w9(a b:FP):Prop where
 ab:∀x,x∈a.ws→∃m,b.rd=some m∧x∉m
 ba:∀x,x∈b.ws→∃m,a.rd=some m∧x∉m
 ww:∀x,x∈a.ws→x∉b.ws
 out:∀x,x∈a.ws→¬(b.lo≤x∧x<b.hi)
theorem Rf{a b:FP}(h:r4 a b=true):w9 a b:=by
 unfold r4 at h
 have z:∀{p:Bool}{q:Bool},aH p q false=true→p=true∧q=true:=by intro p q h;cases p;cases h;exact⟨rfl,h⟩
 obtain⟨A,h⟩:=z h
 obtain⟨h2,h⟩:=z h
 obtain⟨G,h⟩:=z h
 exact⟨fun x=>Ke A,fun x=>Ke h2,Kd G,Sy h⟩
theorem JB{a:FP}{bS:List FP}:∀{l:List Nat},pv a bS l=true→∀k,k∈l→∃b,bS[k]?=some b∧w9 a b
 |[],_,k,hk=>by cases hk
 |i::r,h,k,hk=>by
  have h:ob (bS[i]?) false (fun b=>aH (r4 a b) (pv a bS r) false)=true:=h
  cases z:bS[i]?with
  |none=>rw[z] at h;cases h
  |some b=>
   rw[z] at h
   have h:aH (r4 a b) (pv a bS r) false=true:=h
   cases hp:r4 a b
   ·rw[hp] at h;cases h
   rw[hp] at h
   cases hk with
   |head=>exact⟨b,z,Rf hp⟩
   |tail _ hk=>exact JB h k hk
inductive pQ(call:eF)(o:bt)(E:Env)(H:aB)(bS:List FP):Bool→an→FP→aB→Prop
 |skip {fp:FP}:mK E o.g false→(o.q.isSome=true→fp=⟨some [],[],0,0⟩)→pQ call o E H bS false .undef fp H
 |plain {v:an} {fp:FP} {H1:aB}:mK E o.g true→o.q=none→o.op.ev call E H= .ok v H1→pQ call o E H bS true v fp H1
 |marked {v:an} {q:List Nat} {H1:aB}:mK E o.g true→o.q=some q→o.op.ev call E H.mark= .ok v H1→pv ⟨o.op.reads E,H1.ws,H.next,H1.next⟩ bS q=true→
   pQ call o E H bS true v ⟨o.op.reads E,H1.ws,H.next,H1.next⟩ (xr H H1)
def zc(o:bt)(fp:FP)(bS:List FP):List FP:=match o.q with|some _=>fp::bS|none=>bS
theorem TG{rs:Option (List Nat)}{l:List Nat}{next bc:Nat}{ws:List Nat}{bS:List FP}{dst:Option Key}{E E':Env}{H':aB}{k:Env→aB→List FP→eD}{v:an}{next' A:Nat}{z:List Nat}{t':HT}
  (h:yl rs l next bc ws bS dst E k (.ok v ⟨next',A,z,t'⟩)= .ok E' H'):
  pv ⟨rs,z,next,next'⟩ bS l=true∧k (kf E dst v) ⟨next',bc,ot bc ws z,t'⟩ (⟨rs,z,next,next'⟩::bS)= .ok E' H':=by
 unfold yl at h
 dsimp only at h
 cases G:pv ⟨rs,z,next,next'⟩ bS l
 ·rw[G] at h;cases h
 rw[G,f9] at h
 refine⟨rfl,?_⟩
 cases dst with
 |none=>exact h
 |some d=>
  dsimp only at h
  rw[T4.zj] at h
  exact h
theorem KT{call:eF}{o:bt}{E E':Env}{H H':aB}{bS:List FP}{k:Env→aB→List FP→eD}(h:o.m9 call E H bS k= .ok E' H'):
  ∃b v fp H1,pQ call o E H bS b v fp H1∧k (kf E o.dst v) H1 (zc o fp bS)= .ok E' H':=by
 have run:mK E o.g true→o.pZ call E H bS k= .ok E' H'→∃b v fp H1,pQ call o E H bS b v fp H1∧k (kf E o.dst v) H1 (zc o fp bS)= .ok E' H':=by
  intro z h
  obtain⟨dst,g,q,op⟩:=o
  cases q with
  |none=>
   obtain⟨v,H1,K,h2⟩:=CF (k:=fun E H=>k E H bS) h
   exact⟨true,v,⟨none,[],0,0⟩,H1,.plain z rfl K,h2⟩
  |some q=>
   cases H with
   |mk next bc ws t=>
    have h:dr next (fun next=>yl (op.reads E) q next bc ws bS dst E k (op.ev call E ⟨next,next,[],t⟩))= .ok E' H':=h
    rw[im] at h
    cases J:op.ev call E ⟨next,next,[],t⟩ with
    |err n=>rw[J] at h;cases h
    |ok v H1=>
     rw[J] at h
     cases H1 with
     |mk next' A G t'=>
      obtain⟨O,h⟩:=TG h
      exact⟨true,v,⟨op.reads E,G,next,next'⟩,xr ⟨next,bc,ws,t⟩ ⟨next',A,G,t'⟩,.marked (q:=q) (H1:=⟨next',A,G,t'⟩) z rfl J O,h⟩
 have skip:mK E o.g false→ku o.dst E H (fun E H=>k E H (rh o.q bS))= .ok E' H'→∃b v fp H1,pQ call o E H bS b v fp H1∧k (kf E o.dst v) H1 (zc o fp bS)= .ok E' H':=by
  intro z h
  rw[vw] at h
  obtain⟨dst,g,q,op⟩:=o
  refine⟨false,.undef,⟨some [],[],0,0⟩,H,.skip z (fun _=>rfl),?_⟩
  cases q<;>exact h
 obtain⟨dst,g,q,op⟩:=o
 cases g with
 |none=>exact run .none h
 |some U=>
  obtain⟨t,want⟩:=U
  have h:ob (E.get t) (eD.err 51) (fun v=>wc v (ku dst E H fun E H=>k E H (rh q bS)) fun b=>aH (Bool.xor b want) (ku dst E H fun E H=>k E H (rh q bS)) (bt.pZ call ⟨dst,some (t,want),q,op⟩ E H bS k))= .ok E' H':=h
  cases I:E.get t with
  |none=>rw[I] at h;cases h
  |some v=>
   rw[I] at h
   cases v<;>try(cases h;done)
   case undef=>exact skip (.off I) h
   rename_i b
   have h:aH (Bool.xor b want) (ku dst E H fun E H=>k E H (rh q bS)) (bt.pZ call ⟨dst,some (t,want),q,op⟩ E H bS k)= .ok E' H':=h
   have z:=mK.slot (E:=E) (want:=want) I
   cases b<;>cases want
   ·exact run z h
   ·exact skip z h
   ·exact skip z h
   exact run z h
structure Trace(call:eF)(l:List bt)(E:Env)(H:aB)(bS:List FP)(E':Env)(H':aB)(Es:Nat→Env)(Hs:Nat→aB)(Rs:Nat→List FP)(Wn:Nat→Bool)(Vs:Nat→an)(Fp:Nat→FP):Prop where
 e0:Es 0=E
 h0:Hs 0=H
 r0:Rs 0=bS
 eN:Es l.length=E'
 hN:Hs l.length=H'
 step:∀i o,l[i]?=some o→pQ call o (Es i) (Hs i) (Rs i) (Wn i) (Vs i) (Fp i) (Hs (i+1))∧Es (i+1)=kf (Es i) o.dst (Vs i)∧Rs (i+1)=zc o (Fp i) (Rs i)
theorem KU{call:eF}:∀(l:List bt)(E:Env)(H:aB)(bS:List FP)(E':Env)(H':aB),lU call l E H bS= .ok E' H'→
  ∃Es Hs Rs Wn Vs Fp,Trace call l E H bS E' H' Es Hs Rs Wn Vs Fp
 |[],E,H,bS,E',H',h=>by
  cases h
  exact⟨fun _=>E,fun _=>H,fun _=>bS,fun _=>true,fun _=>.undef,fun _=>⟨none,[],0,0⟩,rfl,rfl,rfl,rfl,rfl,fun i o h=>by simp at h⟩
 |o::r,E,H,bS,E',H',h=>by
  obtain⟨b,v,fp,H1,A,h2⟩:=KT (show o.m9 call E H bS (lU call r)= .ok E' H' from h)
  obtain⟨Es,Hs,Rs,Wn,Vs,Fp,t⟩:=KU r _ _ _ _ _ h2
  refine⟨fun|0=>E|i+1=>Es i,fun|0=>H|i+1=>Hs i,fun|0=>bS|i+1=>Rs i,fun|0=>b|i+1=>Wn i,fun|0=>v|i+1=>Vs i,fun|0=>fp|i+1=>Fp i,rfl,rfl,rfl,t.eN,t.hN,fun i x z=>?_⟩
  cases i with
  |zero=>
   simp at z
   subst z
   simp only[t.e0,t.h0,t.r0]
   exact⟨A,True.intro,True.intro⟩
  |succ i=>exact t.step i x (by simpa using z)
end Go.Ev
