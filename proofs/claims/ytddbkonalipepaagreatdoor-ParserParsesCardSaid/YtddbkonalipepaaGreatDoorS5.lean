/- Part 5 of rules for walks through the code of a program, and of such walks; what each part proves is said by its theorems. -/
import Derived.Test.YtddbkonalipepaaGreatDoorS4
import Derived.Laws.IdiomStrings
import Derived.Laws.BytesArg
import Derived.Lib.Builder
import Derived.Lib.UnsafeStr
import Derived.DeepKeys
import Derived.OpenShut
import Derived.Laws.StructEq
set_option linter.unusedVariables false
set_option linter.unusedSimpArgs false
namespace Go.Ev
section
variable{P:Program}{ρ:Ho}{nt:Nat}{E:Env}{a:Act}{C:Nat→Option dP}{w:World}{H H':az}{v:an}{o:Oper}{call:eC}
theorem Qi(hA:AR P ρ nt E a)(hR:R ρ C w)(hF:ia ρ H.next H'.next){src dst e:TypeId}{x:Operand}{x':aF}(ho:o.op= .convert src dst x)(hx:dc P x=some x')
  (hs:P.underlying src=some .string) (hd:P.underlying dst=some (.slice e)) (he:P.underlying e=some (.int .u8)) (h:zo e x' E H= .ok v H'):fb P o a w (dT ρ C w H v H'):=by
 replace h:=fe h;obtain⟨u,hu,h⟩:=h
 replace h:=wR h;obtain⟨l,s,rfl,h⟩:=h
 replace h:=fD h;obtain⟨_,h⟩:=h
 rw[vm] at h
 have h:=wS h
 cases h
 have U:=hA.b9 hx hu
 simp only[VR] at U
 obtain⟨b,U,rfl,rfl⟩:=U
 have G:=run_bytes_of_string (P:=P) w src dst e b hs hd he
 have Y:=grownCap_ge w b.size 0 e
 generalize grownCap w b.size 0 e=A at*
 have Z:b.data.toList.length=b.size:=nh
 have I:(bytesRow b A).size=A:=by
  unfold bytesRow
  simp only[En,Array.size_map,Array.size_replicate]
  have:b.data.size=b.size:=rfl
  omega
 obtain⟨ρ',g1,g2,g3⟩:=hR.Mk 3 ((bytesRow b A).size,(bytesRow b A).size+1) (f:=H.next) (elem:=e) (es:=1) (aQ:=1) (n:=b.size) (cs:=ju (ox b.size (pack b.data.toList)) .emp 0) (cells:=bytesRow b A)
  (w':=w.drew.alloc (.cells (bytesRow b A) e ((bytesRow b A).size,(bytesRow b A).size+1)))
  (Wr ⟨H.next+1,H.bc,H.ws,H.t.set H.next (.row e 1 1 b.size b.size 3 (ju (ox b.size (pack b.data.toList)) .emp 0))⟩) (fun g=>hF _ g (bY _) (fS _)) (by omega) (by rw[I];omega)
  (fun k hk=>by
   rw[s8,aq (by rw[yW];omega),Eo]
   have J:k<(ox b.size (pack b.data.toList)).length:=by rw[yW];exact hk
   refine⟨_,eY J,?_⟩
   have K:=eY J
   obtain⟨y,O,hy2⟩:=FF b.data.toList k _ (by rw[Z];exact K)
   rw[hy2]
   refine⟨rfl,fun j z hz=>?_⟩
   cases j with
   |succ j=>simp at hz
   |zero=>
    simp at hz
    subst hz
    refine⟨rfl,.int .u8 y.toNat,?_,by simp only[VR]⟩
    unfold bytesRow
    rw[Ep (by rw[Array.size_map];show k*1+0<b.size;omega)]
    simp only[HH,ye,Array.getElem?_map]
    rw[Ok] at O
    rw[O];rfl) rfl (fun i hi h=>by simp at h;omega) (fun h=>by omega) rfl rfl rfl
 refine .inl ⟨.slice (some ⟨w.heap.size,0,none⟩) b.size A,w.drew.alloc (.cells (bytesRow b A) e ((bytesRow b A).size,(bytesRow b A).size+1)),?_,ρ',?_,g2,?_⟩
 ·simp only[execOp,ho,U,Sem.run_bind]
  rw[G]
  rfl
 ·simp only[VR]
  exact⟨_,_,_,g1,rfl,Y,.inl ⟨rfl,by simp only;rw[I];omega⟩⟩
 rw[BM];exact g3
theorem FH:∀{L:List (List an)}{s:Nat},nD L=some s→∃z:List UInt8,z.length=L.length∧s=pack z∧∀(i:Nat)(b:UInt8),z[i]?=some b→L[i]?=some [an.int .u8 (Int.ofNat b.toNat)]
 |[],s,h=>by cases h;exact⟨[],rfl,rfl,fun i b h=>by simp at h⟩
 |c::r,s,h=>by
  cases c with
  |nil=>cases h
  |cons x t=>cases t with
   |cons y t=>cases h
   |nil=>
    have h:Mf x none (fun k i=>aH (Nat.beq (dk k) 4) (jd i none fun b=>aH (Nat.ble b 255) (ob (nD r) none fun v=>some (Nat.add b (Nat.mul 256 v))) none) none)=some s:=h
    cases x with
    |int k i=>
     have h:aH (Nat.beq (dk k) 4) (jd i none fun b=>aH (Nat.ble b 255) (ob (nD r) none fun v=>some (Nat.add b (Nat.mul 256 v))) none) none=some s:=h
     cases A:Nat.beq (dk k) 4
     ·rw[A] at h;cases h
     rw[A,fV] at h
     cases i with
     |negSucc m=>cases h
     |ofNat b=>
      have h:aH (Nat.ble b 255) (ob (nD r) none fun v=>some (Nat.add b (Nat.mul 256 v))) none=some s:=h
      cases h2:Nat.ble b 255
      ·rw[h2] at h;cases h
      rw[h2,fV] at h
      cases G:nD r with
      |none=>rw[G] at h;cases h
      |some v=>
       rw[G] at h
       cases h
       obtain⟨z,K,O,U⟩:=FH G
       have A:=d8 A
       have h2:=bS h2
       have hk:k= .u8:=by cases k<;>simp[dk] at A<;>rfl
       subst hk
       have J:(UInt8.ofNat b).toNat=b:=by rw[UInt8.toNat_ofNat'];omega
       refine⟨UInt8.ofNat b::z,by simp[K],?_,fun i y I=>?_⟩
       ·show b+256*v=(UInt8.ofNat b).toNat+256*pack z
        rw[J,O]
       cases i with
       |zero=>simp at I;subst I;rw[J];rfl
       |succ i=>exact U i y (by simpa using I)
    |_=>cases h
theorem Qj(hA:AR P ρ nt E a)(U:R ρ C w){src dst e:TypeId}{x:Operand}{Y:aF}(ho:o.op= .convert src dst x)(hx:dc P x=some Y)
  (hs:P.underlying src=some (.slice e)) (hd:P.underlying dst=some .string) (he:P.underlying e=some (.int .u8))
  (hC:∀f o,f∈iV (Y.ev E)→(∃g h,ρ f g=some h)→H.t.get f=some o→C f=some o) (h:zp Y E H= .ok v H'):fb P o a w (dT ρ C w H v H'):=by
 replace h:=fe h;obtain⟨u,hu,h⟩:=h
 have z:=hA.b9 hx hu
 cases u<;>try(cases h;done)
 case cb=>
  cases h
  simp only[VR] at z
  refine gJ (cv:=.string ByteArray.empty) ?_ U (by simp only[VR];exact⟨_,rfl,rfl,rfl⟩)
  have:=run_convert_bytes_nil (P:=P) (w:=w) src e hs he 0 0 dst hd
  simp only[execOp,ho,z,Sem.run_bind,this]
  rfl
 case slice f g off n es=>
  have h:ob (elems H f g 1 n off) (.err 39) (fun l=>ob (nD l) (.err 39) fun s=>dp s fun s=>aD.ok (.str n s) H)= .ok v H':=h
  replace h:=jm h;obtain⟨L,hL,h⟩:=h
  replace h:=jm h;obtain⟨s,Z,h⟩:=h
  rw[iq] at h
  cases h
  simp only[VR] at z
  obtain⟨hm,ad,cap,hh,z,Oz,qA⟩:=z
  obtain⟨hlen,E5⟩:=B0 hL
  obtain⟨K,g1,g2,g3⟩:=FH Z
  have A8:K.length=n:=g1.trans hlen
  subst A8
  have A:=run_convert_bytes_back (P:=P) w src dst e ad cap K hs he hd (fun j hj=>by
   have O:=g3 j K[j] (eY hj)
   have G:=E5 j _ O
   have sK:C f=H.t.get f:=by
    obtain⟨_,_,_,_,_,_,_,_,O,_⟩:=G
    exact(hC f _ (by rw[hu];simp[iV]) ⟨_,_,hh⟩ O).trans O.symm
   obtain⟨_,_,hc⟩:=U.rd G sK hh (by omega)
   obtain⟨cv,I,J⟩:=hc 0 _ rfl
   simp only[VR] at J
   subst J
   rcases qA with⟨rfl,_⟩|⟨h0,_,_⟩
   ·rw[Addr.add_lit]
    rw[←nf] at I
    simpa using I
   omega)
  refine gJ (cv:=.string ⟨K.toArray⟩) ?_ U (by simp only[VR];exact⟨_,rfl,rfl,by rw[g2]⟩)
  simp only[execOp,ho,z,Sem.run_bind,A]
  rfl
theorem Qw{e:TypeId}(A:P.cellsOf e≠0)(count:Nat)(G:1≤count):liesAt P P.depth e count 0 e 1=true:=by
 have z:P.depth=(2*(P.types.size+Made.depth)+1)+1:=rfl
 rw[z]
 simp only[liesAt,uI]
 left
 rw[z]
 simp[rowAt,A,G,sameLayout]
theorem Jn(hA:AR P ρ nt E a)(hR:R ρ C w){src dst t:TypeId}{x:Operand}{x':aF}{io:bE}(ho:o.op= .convert src dst x)(hx:dc P x=some x')
  (I:(P.underlying src=some (.pointer t)∧P.underlying dst=some .unsafePointer)∨(P.underlying src=some .unsafePointer∧P.underlying dst=some (.pointer t))) (G:Cc P t x'=some io)
  (hC:∀f o,(∀l,io.reads E=some l→f∈l)→(∃g h,ρ f g=some h)→H.t.get f=some o→C f=some o) (h:io.ev call E H= .ok v H'):fb P o a w (dT ρ C w H v H'):=by
 unfold Cc at G
 split at G
 ·rename_i j hj
  split at G
  ·rename_i nu
   cases G
   have h:zM t (P.cellsOf t) x' E H= .ok v H':=h
   replace h:=fe h;obtain⟨u,hu,h⟩:=h
   have K:=hA.b9 hx hu
   cases hn:xl u with
   |true=>
    rw[hn,fV] at h
    cases u<;>try(cases hn;done)
    cases h
    simp only[VR] at K
    refine gJ (cv:=.pointer none) ?_ hR (by simp only[VR])
    have:(convert src dst (.pointer none)).run P w= .ok (.pointer none) w:=by
     rcases I with⟨O,J⟩|⟨O,J⟩<;>simp[convert,run_underlying O,run_underlying J,Conv.unsafePointer]
    simp only[execOp,ho,K,Sem.run_bind,this]
    rfl
   |false=>
    rw[hn] at h
    have h:iv u (.err 44) (fun f g off=>iU (H.t.get f) (.err 44) fun elem es _ m lo fl _=>
     aH (Nat.beq elem t) (aH (Nat.beq es (P.cellsOf t)) (aH (Nat.beq off 0) (aH (Nat.ble lo g) (aH (Nat.ble g m) (aH (Nat.ble 1 g) (aH (Nat.beq fl 0) (aD.ok u H) (.err 44)) (.err 44)) (.err 44)) (.err 44)) (.err 44)) (.err 44)) (.err 44))= .ok v H':=h
    replace h:=vn h;obtain⟨f,g,off,rfl,h⟩:=h
    cases hg:H.t.get f with
    |none=>rw[hg] at h;cases h
    |some ob=>cases ob with
     |map=>rw[hg] at h;cases h
     |row elem es aQ m lo fl cs=>
      rw[hg] at h
      have h:aH (Nat.beq elem t) (aH (Nat.beq es (P.cellsOf t)) (aH (Nat.beq off 0) (aH (Nat.ble lo g) (aH (Nat.ble g m) (aH (Nat.ble 1 g) (aH (Nat.beq fl 0) (aD.ok (.ptr f g off) H) (.err 44)) (.err 44)) (.err 44)) (.err 44)) (.err 44)) (.err 44)) (.err 44)= .ok v H':=h
      replace h:=fD h;obtain⟨b1,h⟩:=h
      replace h:=fD h;obtain⟨b2,h⟩:=h
      replace h:=fD h;obtain⟨b3,h⟩:=h
      replace h:=fD h;obtain⟨b4,h⟩:=h
      replace h:=fD h;obtain⟨b5,h⟩:=h
      replace h:=fD h;obtain⟨b6,h⟩:=h
      replace h:=fD h;obtain⟨b7,h⟩:=h
      cases h
      have b1:=d8 b1
      have b2:=d8 b2
      have b3:=d8 b3
      have b4:=bS b4
      have b5:=bS b5
      have b6:=bS b6
      have b7:=d8 b7
      subst b1;subst b3;subst b7
      simp only[VR] at K
      obtain⟨A,hh,K⟩:=K
      have sK:=hC f _ (fun l e=>by have e:some (iV (x'.ev E))=some l:=e;rw[hu] at e;cases e;simp[iV]) ⟨_,_,hh⟩ hg
      obtain⟨he,_,_,z⟩:=hR.obj f _ sK g A hh
      have z:=z b4 b5
      obtain⟨c,fz,U,Hf⟩:=z.row
      have Y:=z.sq (.inl rfl)
      have HP:=z.fits
      have sM:es≤g*es:=Nat.le_mul_of_pos_left _ b6
      have Z:w.shape? A.b8=some (elem,c.size):=by simp[World.shape?,U]
      refine gJ (cv:=.pointer (some ⟨A.b8,A.off+0,none⟩)) ?_ hR (by simp only[VR];exact⟨A,hh,rfl⟩)
      have:(convert src dst (.pointer (some ⟨A.b8,A.off+0,none⟩))).run P w= .ok (.pointer (some ⟨A.b8,A.off+0,none⟩)) w:=by
       rcases I with⟨O,J⟩|⟨O,J⟩
       ·exact Lib.run_to_unsafe w ⟨A.b8,A.off+0,none⟩ O J hj nu Z (by show A.off+0<c.size;omega)
       refine Lib.run_from_unsafe w ⟨A.b8,A.off+0,none⟩ O J hj Z ?_
       show liesAt P P.depth elem (c.size/P.cellsOf elem) (A.off+0) elem 1=true
       rw[Y,←b2]
       have J:=Nat.div_pos (show es≤c.size by omega) he
       have:=Qw (P:=P) (e:=elem) (by rw[←b2];omega) (c.size/es) J
       rw[ye]
       exact this
      simp only[execOp,ho,K,Sem.run_bind,this]
      rfl
  cases G
 cases G
theorem RE(Z:AR P ρ nt E a)(J:R ρ C w){c:Call}{x:Operand}{K:aF}(ho:o.op= .call c)(O:c.callee= .builtin .unsafeSliceData)(z:c.args=#[x])(hx:dc P x=some K)
  (h:AL K E H= .ok v H'):fb P o a w (dT ρ C w H v H'):=by
 replace h:=fe h;obtain⟨u,hu,h⟩:=h
 have A:=Z.b9 hx hu
 cases u<;>try(cases h;done)
 case cb=>
  cases h
  simp only[VR] at A
  refine gJ (cv:=.pointer none) ?_ J (by simp only[VR])
  simp[execOp,ho,resolve,O,z,invoke,builtin,A,Lib.run_unsafeSliceData_nil]
 case slice f g off l es=>
  have h:aH (Nat.beq l 0) (.err 45) (aD.ok (.ptr f g off) H)= .ok v H':=h
  replace h:=Mm h;obtain⟨U,h⟩:=h
  cases h
  simp only[VR] at A
  obtain⟨G,ad,cap,hh,A,Y,I⟩:=A
  have hl:l≠0:=fun e=>by rw[e] at U;cases U
  rcases I with⟨rfl,_⟩|⟨e,_,_⟩
  ·refine gJ (cv:=.pointer (some ⟨G.b8,G.off+off,none⟩)) ?_ J (by simp only[VR];exact⟨G,hh,rfl⟩)
   simp[execOp,ho,resolve,O,z,invoke,builtin,A,Lib.run_unsafeSliceData_row w _ _ _ l cap (by omega)]
  exact absurd e hl
theorem Qx(I:AR P ρ nt E a)(J:R ρ C w)(U:ia ρ H.next H'.next){src dst:TypeId}{x:Operand}{O:aF}{io:bE}(ho:o.op= .convert src dst x)(K:dc P x=some O)(z:Gi P src dst O=some io)
  (hC:∀f o,(∀l,io.reads E=some l→f∈l)→(∃g h,ρ f g=some h)→H.t.get f=some o→C f=some o) (h:io.ev call E H= .ok v H'):fb P o a w (dT ρ C w H v H'):=by
 unfold Gi at z
 split at z
 ·rename_i e A G
  split at z
  ·rename_i he;cases z;exact Qi I J U ho K A G he h
  cases z
 ·rename_i e A G
  split at z
  ·rename_i he;cases z;exact Qj I J ho K A G he (fun f o Y=>hC f o (fun l e=>by cases e;exact Y)) h
  cases z
 ·rename_i t A G;exact Jn I J ho K (.inl ⟨A,G⟩) z hC h
 ·rename_i t A G;exact Jn I J ho K (.inr ⟨A,G⟩) z hC h
 cases z
end
section
variable{P:Program}{ρ:Ho}{nt:Nat}{E:Env}{a:Act}{C:Nat→Option dP}{w:World}{H H':az}{v:an}{o:Oper}{call:eC}
def jo:Value→Lit
 |.bool b=>.bool b
 |.int k n=>.int k n
 |.string s=>.string s.data.toList
 |_=>.bool false
inductive uv:Nat→Value→Prop
 |int {q:IntKind} {n:Int}:uv (dk q) (.int q n)
 |bool {b:Bool}:uv 100 (.bool b)
 |str {s:ByteArray}:uv 101 (.string s)
def kK:List Nat→List Value→Prop
 |[],[]=>True
 |k::r,c::s=>uv k c∧kK r s
 |_,_=>False
theorem kK.split:∀{k l:List Nat}{cs:List Value},kK (k++l) cs→kK k (cs.take k.length)∧kK l (cs.drop k.length)
 |[],l,cs,h=>by simpa[kK] using h
 |x::k,l,[],h=>by simp[kK] at h
 |x::k,l,c::cs,h=>by
  have h:uv x c∧kK (k++l) cs:=h
  obtain⟨z,h2⟩:=kK.split h.2
  exact⟨by simpa[kK] using⟨h.1,z⟩,by simpa using h2⟩
theorem kK.length:∀{k:List Nat}{cs:List Value},kK k cs→cs.length=k.length
 |[],[],_=>rfl
 |[],_::_,h=>h.elim
 |_::_,[],h=>h.elim
 |_::k,_::cs,h=>by have:=kK.length h.2;simp[this]
def A9(P:Program)(t:TypeId)(x:Value)(l:List Value):Prop:=(P.plainKey t=true∧l=[x])∨∃z xs,P.underlying t=some (.struct z)∧x= .agg xs∧xs.toList=l
def Pc(P:Program)(d:Nat)(t:TypeId)(ks:List Nat):Prop:=∀(w:World)x y z A,A9 P t x z→A9 P t y A→kK ks z→kK ks A→∃r:Bool,(Op.equalIn d t x y).run P w= .ok r w∧(r=true↔z.map jo=A.map jo)
theorem J3(w:World){D:Nat}{e:TypeId}{k:List Nat}{xs:Array Value}{off:Nat}(hk:tp P D e=some k)(G:k.length=P.cellsOf e)(I:kK k ((xs.toList.drop off).take k.length)):
  ∃a,(part e xs off).run P w= .ok a w∧A9 P e a ((xs.toList.drop off).take k.length):=by
 cases D with
 |zero=>cases hk
 |succ D=>
  unfold tp at hk
  have plain:P.plainKey e=true→k.length=1→∃a,(part e xs off).run P w= .ok a w∧A9 P e a ((xs.toList.drop off).take k.length):=fun hp J=>by
   have h2:=I.length
   rw[J] at h2⊢
   obtain⟨a,A⟩:∃a,(xs.toList.drop off).take 1=[a]:=by
    match U:(xs.toList.drop off).take 1,h2 with
    |[a],_=>exact⟨a,rfl⟩
   exact⟨a,run_part_plain w hp (getElem?_of_chunk A),.inl ⟨hp,A⟩⟩
  split at hk
  ·rename_i z;cases hk;exact plain (by simp[Program.plainKey,z]) rfl
  ·rename_i z;cases hk;exact plain (by simp[Program.plainKey,z]) rfl
  ·rename_i z;cases hk;exact plain (by simp[Program.plainKey,z]) rfl
  ·rename_i K z
   obtain⟨i,hi⟩:=info_of_underlying z
   have O:(xs.extract off (off+P.cellsOf e)).toList=(xs.toList.drop off).take (P.cellsOf e):=by
    rw[Hx];simp[List.extract]
   exact⟨.agg (xs.extract off (off+P.cellsOf e)),by simp[part,isAgg,run_underlying z,run_sizeOf w hi],.inr ⟨K,_,z,rfl,by rw[O,G]⟩⟩
  cases hk
theorem Jo{D dd:Nat}(U:∀t ks,tp P D t=some ks→P.keyTypeAt D t=true→Pc P dd t ks)(w:World)(xs ys:Array Value):∀(A:List Field)(off:Nat)(ks:List Nat),Cb P (tp P D) off A=some ks→
  (∀f,f∈A→f.name≠ "_"∧P.keyTypeAt D f.type=true)→kK ks (xs.toList.drop off)→kK ks (ys.toList.drop off)→
  ∃r:Bool,(Op.eqFields dd xs ys A).run P w= .ok r w∧(r=true↔(xs.toList.drop off).map jo=(ys.toList.drop off).map jo)
 |[],off,ks,h,_,G,I=>by
  cases h
  refine⟨true,by simp[Op.eqFields],?_⟩
  rw[sG G.length,sG I.length];simp
 |f::r,off,ks,h,Y,G,I=>by
  unfold Cb at h
  split at h
  ·rename_i k hk
   split at h
   ·rename_i J
    split at h
    ·rename_i l K
     cases h
     obtain⟨x1,x2⟩:=G.split
     obtain⟨O,y2⟩:=I.split
     have lx:=x1.length;have ly:=O.length
     rw[Er] at x2 y2
     obtain⟨h1,h2⟩:=Y f (by simp)
     obtain⟨a,Z,i1⟩:=J3 w hk J.2 x1
     obtain⟨b,p2,i2⟩:=J3 w hk J.2 O
     obtain⟨q,p3,e1⟩:=U _ _ hk h2 w a b _ _ i1 i2 x1 O
     obtain⟨q',p4,e2⟩:=Jo U w xs ys r (off+k.length) l K (fun f hf=>Y f (by simp[hf])) x2 y2
     have sx:(xs.toList.drop off).map jo=((xs.toList.drop off).take k.length).map jo++(xs.toList.drop (off+k.length)).map jo:=by rw[←dX,←Er,Eg]
     have sy:(ys.toList.drop off).map jo=((ys.toList.drop off).take k.length).map jo++(ys.toList.drop (off+k.length)).map jo:=by rw[←dX,←Er,Eg]
     have z:(xs.toList.drop off).map jo=(ys.toList.drop off).map jo↔((xs.toList.drop off).take k.length).map jo=((ys.toList.drop off).take k.length).map jo∧(xs.toList.drop (off+k.length)).map jo=(ys.toList.drop (off+k.length)).map jo:=by
      rw[sx,sy]
      exact⟨fun e=>List.append_inj e (by rw[cF,cF,lx,ly]),fun e=>by rw[e.1,e.2]⟩
     rw[←J.1] at Z p2
     simp only[Op.eqFields,h1,ne_eq,not_false_eq_true,if_true,Sem.run_bind,Z,p2,p3,Result.andThen_ok]
     cases q
     ·exact⟨false,by simp,by rw[z];exact⟨fun h=>(by cases h),fun e=>absurd (e1.2 e.1) (by simp)⟩⟩
     exact⟨q',by simpa using p4,by rw[z,e2];simp[e1.1 rfl]⟩
    cases h
   cases h
  cases h
theorem Lw(dd:Nat):∀(D:Nat)(t:TypeId)(ks:List Nat),tp P D t=some ks→P.keyTypeAt D t=true→Pc P (dd+D) t ks
 |0,_,_,h,_=>by cases h
 |D+1,t,ks,h,hk=>by
  intro w x y lx ly ix iy U Y
  have one:∀{k:Nat},kK [k] lx→kK [k] ly→P.plainKey t=true→lx=[x]∧ly=[y]∧uv k x∧uv k y:=fun{k}h1 h2 hp=>by
   have no:∀K,P.underlying t=some (.struct K)→False:=fun K A=>by simp[Program.plainKey,A] at hp
   rcases ix with⟨_,rfl⟩|⟨K,_,A,_⟩
   ·rcases iy with⟨_,rfl⟩|⟨K,_,A,_⟩
    ·exact⟨rfl,rfl,h1.1,h2.1⟩
    exact(no K A).elim
   exact(no K A).elim
  unfold tp at h
  split at h
  ·rename_i A
   cases h
   obtain⟨rfl,rfl,O,J⟩:=one U Y (by simp[Program.plainKey,A])
   generalize G:(100:Nat)=kk at O J
   cases O with
   |int=>rename_i q _;cases q<;>simp[dk] at G
   |str=>simp at G
   |bool=>
    generalize I:(100:Nat)=k2 at J
    cases J with
    |int=>rename_i q _;cases q<;>simp[dk] at I
    |str=>simp at I
    |bool=>exact⟨_,run_equalIn_bool' w _ t _ _ A,by simp[jo]⟩
  ·rename_i k A
   cases h
   obtain⟨rfl,rfl,O,J⟩:=one U Y (by simp[Program.plainKey,A])
   generalize G:dk k=kk at O J
   cases O with
   |bool=>cases k<;>simp[dk] at G
   |str=>cases k<;>simp[dk] at G
   |int=>
    rename_i q n
    obtain rfl:k=q:=Cg (by rw[G];exact iZ _)
    generalize I:dk k=k2 at J
    cases J with
    |bool=>cases k<;>simp[dk] at I
    |str=>cases k<;>simp[dk] at I
    |int=>
     rename_i q' m
     obtain rfl:k=q':=Cg (by rw[I];exact iZ _)
     exact⟨_,run_equalIn_int w _ t k k n m A,by simp[jo]⟩
  ·rename_i A
   cases h
   obtain⟨rfl,rfl,O,J⟩:=one U Y (by simp[Program.plainKey,A])
   generalize G:(101:Nat)=kk at O J
   cases O with
   |int=>rename_i q _;cases q<;>simp[dk] at G
   |bool=>simp at G
   |str=>
    generalize I:(101:Nat)=k2 at J
    cases J with
    |int=>rename_i q _;cases q<;>simp[dk] at I
    |bool=>simp at I
    |str=>
     refine⟨_,run_equalIn_string w _ t _ _ A,?_⟩
     simp only[jo,ez,fw,yf,and_true,Lit.string.injEq,beq_iff_eq]
     rw[ByteArray.toList_eq,ByteArray.toList_eq]
  ·rename_i K A
   split at h
   ·rename_i ks' Ik
    split at h
    ·cases h
     have hP:P.fieldsOf t=K:=by unfold Program.fieldsOf;rw[A]
     unfold Program.keyTypeAt at hk
     simp only[A,fv,HK,Array.all_eq_true_iff_forall_mem,bne_iff_ne,ne_eq] at hk
     have ag:∀{z l},A9 P t z l→∃Z,z= .agg Z∧Z.toList=l:=fun{z l}iz=>by
      rcases iz with⟨hp,_⟩|⟨_,Z,_,h1,h2⟩
      ·simp[Program.plainKey,A] at hp
      exact⟨Z,h1,h2⟩
     obtain⟨xs,rfl,rfl⟩:=ag ix
     obtain⟨ys,rfl,rfl⟩:=ag iy
     obtain⟨r,hr,hi⟩:=Jo (fun t ks=>Lw dd D t ks) w xs ys K.toList 0 ks Ik (fun f hf=>hk.1.1 f (Array.mem_toList_iff.1 hf)) U Y
     refine⟨r,?_,hi⟩
     rw[show dd+(D+1)=(dd+D)+1 from rfl,run_equalIn_agg w _ t xs ys (by rw[hP];exact A) hk.2,hP]
     exact hr
    cases h
   cases h
  cases h
theorem Tn{c:Nat}{x:an}{cv:Value}(h:r5 c x=true)(z:VR ρ x cv):uv c cv:=by
 unfold r5 at h
 split at h
 ·have A:=d8 h
  simp only[VR] at z
  subst z;subst A
  exact .int
 ·have A:=d8 h
  simp only[VR] at z
  subst z;subst A
  exact .bool
 ·have A:=d8 h
  simp only[VR] at z
  obtain⟨b,rfl,rfl,_⟩:=z
  subst A
  exact .str
 cases h
theorem FR:∀{ks:List Nat}{l:List an}{cs:List Value},kH ks l=true→cw ρ l cs→kK ks cs
 |[],[],_,_,z=>by simp only[cw] at z;subst z;trivial
 |c::r,x::s,_,h,z=>by
  simp only[kH,fv] at h
  simp only[cw] at z
  obtain⟨cv,t,rfl,A,h2⟩:=z
  exact⟨Tn h.1 A,FR h.2 h2⟩
 |[],_::_,_,h,_=>by simp[kH] at h
 |_::_,[],_,h,_=>by simp[kH] at h
theorem Jp{x y:an}{G cy:Value}{r:Bool}(h:wP x y=some r)(z:VR ρ x G)(A:VR ρ y cy):r=true↔jo G=jo cy:=by
 unfold wP at h
 split at h
 ·rename_i k a' J K
  split at h
  ·rename_i hk
   cases h
   have:=Cg hk
   subst this
   simp only[VR] at z A
   subst z;subst A
   simp[jo,tE]
  cases h
 ·cases h
  simp only[VR] at z A
  subst z;subst A
  simp[jo]
 ·cases h
  simp only[VR] at z A
  obtain⟨b1,rfl,rfl,rfl⟩:=z
  obtain⟨b2,rfl,rfl,rfl⟩:=A
  have I:b1.size=b1.data.toList.length:=Array.length_toList.symm
  have h2:b2.size=b2.data.toList.length:=Array.length_toList.symm
  rw[I,h2,BF]
  simp[jo]
 cases h
theorem JI:∀{x y:List an}{J cy:List Value}{r:Bool},qc x y=some r→cw ρ x J→cw ρ y cy→(r=true↔J.map jo=cy.map jo)
 |[],[],_,_,r,h,A,G=>by
  cases h
  simp only[cw] at A G
  subst A;subst G
  simp
 |x::s,y::t,_,_,r,h,A,G=>by
  simp only[cw] at A G
  obtain⟨cv,Z,rfl,K,h2⟩:=A
  obtain⟨dv,dt,rfl,O,Y⟩:=G
  unfold qc at h
  split at h
  ·rename_i e
   have I:=Jp e K O
   have U:=JI h h2 Y
   simp only[ez,yf]
   exact⟨fun z=>⟨I.1 rfl,U.1 z⟩,fun z=>U.2 z.2⟩
  ·rename_i e
   have I:=Jp e K O
   split at h
   ·cases h
    simp only[ez,yf]
    exact⟨fun z=>(by cases z),fun z=>absurd (I.2 z.1) (by simp)⟩
   cases h
  cases h
 |[],_::_,_,_,_,h,_,_=>by cases h
 |_::_,[],_,_,_,h,_,_=>by cases h
theorem Qy(hA:AR P ρ nt E a)(hR:R ρ C w){op:BinOp}{t t':TypeId}{fs:Array Field}{x z:Operand}{x' z':aF}{io:bE}(ho:o.op= .binOp op t x z t')(hx:dc P x=some x')(hz:dc P z=some z')(hu:P.underlying t=some (.struct fs))
  (A:Hd P op t x' z'=some io) (h:io.ev call E H= .ok v H'):fb P o a w (dT ρ C w H v H'):=by
 unfold Hd at A
 split at A
 ·rename_i ks Ik
  split at A
  ·rename_i hc
   have key:∀neg,(op= .eql∧neg=false)∨(op= .neq∧neg=true)→yB (.agg ks) neg x' z' E H= .ok v H'→fb P o a w (dT ρ C w H v H'):=by
    intro neg yK h
    replace h:=fe h;obtain⟨u,hu1,h⟩:=h
    replace h:=fe h;obtain⟨u2,hu2,h⟩:=h
    replace h:=jm h;obtain⟨r,G,h⟩:=h
    rw[FG] at h
    cases h
    have J:=hA.b9 hx hu1
    have K:=hA.b9 hz hu2
    cases u<;>try(cases G;done)
    rename_i la
    cases u2<;>try(cases G;done)
    rename_i lb
    have G:aH (kH ks la) (aH (kH ks lb) (qc la lb) none) none=some r:=G
    cases g1:kH ks la
    ·rw[g1] at G;cases G
    rw[g1,fV] at G
    cases g2:kH ks lb
    ·rw[g2] at G;cases G
    rw[g2,fV] at G
    simp only[VR] at J K
    obtain⟨O,e1,U,_⟩:=J
    obtain⟨Y,e2,Z,_⟩:=K
    have hla:=FR g1 U
    have hlb:=FR g2 Z
    obtain⟨r',I,WC⟩:=Lw 9988 12 t ks Ik hc.1 w (.agg O) (.agg Y) _ _ (.inr ⟨fs,O,hu,rfl,rfl⟩) (.inr ⟨fs,Y,hu,rfl,rfl⟩) hla hlb
    have hrr:r'=r:=by
     have k:=JI G U Z
     exact Bool.eq_iff_iff.2 (WC.trans k.symm)
    subst hrr
    have hg:=run_eqGuard_agg (P:=P) w op t x z O Y hc.2
    refine gJ (cv:=.bool (Bool.xor neg r')) ?_ hR (by simp only[VR])
    simp only[execOp,ho,Sem.run_bind,e1,e2,hg,Result.andThen_ok]
    have I:(Op.equalIn 10000 t (.agg O) (.agg Y)).run P w= .ok r' w:=I
    have he:(Op.equal t (.agg O) (.agg Y)).run P w= .ok r' w:=I
    rcases yK with⟨rfl,rfl⟩|⟨rfl,rfl⟩
    ·simp only[binOp];simp[he]
    simp only[binOp];simp[he]
   cases op<;>simp only[gO,reduceCtorEq] at A
   ·subst A;exact key false (.inl ⟨rfl,rfl⟩) h
   subst A;exact key true (.inr ⟨rfl,rfl⟩) h
  cases A
 cases A
end
section
variable{P:Program}{ρ:Ho}{nt:Nat}{E:Env}{a:Act}{C:Nat→Option dP}{w:World}{H H':az}{v:an}{o:Oper}{call:eC}
theorem Qz(w:World)(b n:Nat)(z:n≠0)(k:Nat):(w.freeze ⟨b,0,none⟩ n).heap[k]?=(w.heap[k]?).map fun ob=>if k=b then(match ob with
   |.cells c elem (lo,hi)=>.cells c elem (if lo==hi then(0,0+n) else(min lo 0,max hi (0+n)))
   |o=>o) else ob:=by
 unfold World.freeze
 rw[aj z]
 show(w.heap.modify b _)[k]?=_
 rw[Hz]
 by_cases h:k=b
 ·subst h
  rw[aq rfl]
  congr 1
  funext ob
  rw[aq rfl]
  cases ob<;>rfl
 rw[aj (fun e=>h e.symm)]
 cases w.heap[k]?<;>simp[h]
theorem R.freeze(hR:R ρ C w){f g n m lo fl elem aQ:Nat}{cs:RT}{z:Hm}(hC:C f=some (.row elem 1 aQ m lo fl cs))(hh:ρ f g=some z)(sL:lo≤g)(hgm:g≤m)(hn:n≠0)(Pd:n≤g)(U:fl=0∨fl=2)
  (W:Nat→Prop) (hW:W f) (n0:Nat):Ext W n0 n0 ρ ρ w (w.freeze ⟨z.b8,0,none⟩ n)∧R ρ (fun x=>if x=f then some (.row elem 1 aQ m lo 2 cs) else C x) (w.freeze ⟨z.b8,0,none⟩ n):=by
 obtain⟨he,nX,_,A⟩:=hR.obj f _ hC g z hh
 have A:=A sL hgm
 have OA:z.ro=false:=by
  cases h:z.ro
  ·rfl
  have:=nX h;omega
 have Ew:=A.sq U
 obtain⟨c,fz,I,nu⟩:=A.row
 have yG:=A.yD U _ _ _ I
 have Y:=Qz w z.b8 n hn
 have J:∀k,k≠z.b8→(w.freeze ⟨z.b8,0,none⟩ n).heap[k]?=w.heap[k]?:=fun k hk=>by
  rw[Y k]
  cases w.heap[k]?<;>simp[hk]
 obtain⟨Z,K,WD⟩:∃Z,(w.freeze ⟨z.b8,0,none⟩ n).heap[z.b8]?=some (.cells c elem Z)∧Z.2≤m:=by
  rw[Y z.b8,I]
  obtain⟨l1,h1⟩:=fz
  simp only[uH,if_true]
  by_cases G:l1=h1
  ·subst G
   exact⟨(0,0+n),by simp,by simp;omega⟩
  refine⟨(min l1 0,max h1 (0+n)),by simp[G],?_⟩
  have:h1≤m:=by
   rcases yG with h|h
   ·exact absurd h G
   simpa using h
  simp only
  omega
 have D3:∀ad:Addr,(w.freeze ⟨z.b8,0,none⟩ n).cell? ad=w.cell? ad:=fun ad=>by
  by_cases G:ad.block=z.b8
  ·simp only[World.cell?,G,K,I]
  exact cell_of_heap (w:=w) (J _ G)
 have Hf:(w.freeze ⟨z.b8,0,none⟩ n).heap.size=w.heap.size:=by
  unfold World.freeze
  rw[aj hn]
  simp
 refine⟨⟨Ho.le_refl _,fun f' g' h' e=>.inl ⟨g',h',e⟩,fun _ _ _ e=>.inl e,fun b _ G=>J b fun e=>G f g z hh OA hW e.symm,by rw[Hf];exact bY _,bY _,?_,?_,?_⟩,⟨?_,hR.nS,fun f' g' h' e=>by rw[Hf];exact hR.jX f' g' h' e,hR.uniq,fun f' g' h' e a b=>(hR.mw f' g' h' e a b).iR (D3 _)⟩⟩
 ·unfold World.freeze;rw[aj hn]
 ·unfold World.freeze;rw[aj hn]
 ·unfold World.freeze;rw[aj hn]
 intro f' o' sN g' h' hx
 have nw:(if f'=f then some (dP.row elem 1 aQ m lo 2 cs) else C f')=some o':=sN
 clear sN
 by_cases e:f'=f
 ·rw[aq e] at nw
  subst e
  cases nw
  obtain⟨_,r1,r2,r3⟩:=hR.obj f' _ hC g' h' hx
  refine⟨he,fun h=>by have:=r1 h;omega,r2,fun a1 a2=>?_⟩
  have r:=r3 a1 a2
  have O:∀i,i<g'→∃l,cs.get i=some l∧l.length=1∧∀j x,l[j]?=some x→gZ x=true∧∃cv,(w.freeze ⟨z.b8,0,none⟩ n).cell? ⟨h'.b8,h'.off+i*1+j,none⟩=some cv∧VR ρ x cv:=fun i hi=>by
   obtain⟨l,l1,l2,l3⟩:=r.cell i hi
   exact⟨l,l1,l2,fun j x hj=>by rw[D3];exact l3 j x hj⟩
  by_cases G:h'.b8=z.b8
  ·obtain⟨c1,sJ,q1,q2⟩:=r.row
   rw[G,I] at q1
   cases q1
   refine⟨⟨c,Z,by rw[G];exact K,q2⟩,r.fits,O,fun h=>by omega,fun _ i hi _=>?_,fun _=>r.sq U,fun _ c1 e1 sJ jb=>?_⟩
   ·simp only[World.frozen?,G,K]
    obtain⟨l1,h1⟩:=Z
    simp only at WD⊢
    simp
    omega
   rw[G,K] at jb
   cases jb
   right;omega
  have hw:=J _ G
  refine⟨by rw[hw];exact r.row,r.fits,O,fun h=>by omega,fun _ i hi p6=>by rw[frozen_of_heap (w:=w) hw];exact r.xQ (by omega) i hi p6,fun _=>r.sq U,fun _ c1 e1 sJ jb=>r.yD U c1 e1 sJ (by rw[←hw];exact jb)⟩
 rw[aj e] at nw
 refine(hR.obj f' o' nw g' h' hx).iR (Ho.le_refl _) (J _ fun G=>?_)
 have:=(hR.nS _ _ _ _ _ _ hx hh e G).2
 rw[OA] at this;cases this
theorem UK{f e:Nat}{k:az→aD}(h:mv f e H k= .ok v H'):∃aQ m lo fl cs,H.t.get f=some (.row e 1 aQ m lo fl cs)∧(fl=0∨fl=2)∧k ⟨H.next,H.bc,wrote f H.bc H.ws,H.t.set f (.row e 1 aQ m lo 2 cs)⟩= .ok v H':=by
 cases H with
 |mk next bc ws t=>
  have h:iU (t.get f) (aD.err 46) (fun elem es aQ m lo fl cs=>
   aH (Nat.beq elem e) (aH (Nat.beq es 1) (aH (aH (Nat.beq fl 0) true (Nat.beq fl 2)) (t.gr f (.row elem es aQ m lo 2 cs) fun t=>k ⟨next,bc,wrote f bc ws,t⟩) (.err 46)) (.err 46)) (.err 46))= .ok v H':=h
  cases z:t.get f with
  |none=>rw[z] at h;cases h
  |some ob=>cases ob with
   |map=>rw[z] at h;cases h
   |row elem es aQ m lo fl cs=>
    rw[z] at h
    have h:aH (Nat.beq elem e) (aH (Nat.beq es 1) (aH (aH (Nat.beq fl 0) true (Nat.beq fl 2)) (t.gr f (.row elem es aQ m lo 2 cs) fun t=>k ⟨next,bc,wrote f bc ws,t⟩) (.err 46)) (.err 46)) (.err 46)= .ok v H':=h
    replace h:=fD h;obtain⟨b1,h⟩:=h
    replace h:=fD h;obtain⟨b2,h⟩:=h
    replace h:=fD h;obtain⟨A,h⟩:=h
    rw[GT.j6] at h
    have b1:=d8 b1
    have b2:=d8 b2
    have I:=h
    subst b1;subst b2
    have J:({next:=next,bc:=bc,ws:=ws,t:=t}:az).t.get f=some (dP.row elem 1 aQ m lo fl cs):=z
    refine⟨aQ,m,lo,fl,cs,rfl,?_,I⟩
    cases G:Nat.beq fl 0
    ·rw[G] at A;exact .inr (d8 A)
    exact .inl (d8 G)
theorem Q0(hA:AR P ρ nt E a)(hR:R ρ C w){c:Call}{x y:Operand}{x' y':aF}{pt it e:TypeId}(ho:o.op= .call c)(hc:c.callee= .builtin .unsafeString)(A:c.args=#[x,y])(hx:dc P x=some x')(hy:dc P y=some y')
  (Pe:c.argTypes=#[pt,it]) (hp:P.underlying pt=some (.pointer e)) (Il:P.cellsOf e=1) (hC:∀f o,f∈iV (x'.ev E)→(∃g h,ρ f g=some h)→H.t.get f=some o→C f=some o)
  (h:vT e x' y' E H= .ok v H'):fb P o a w (dT ρ C w H v H'):=by
 replace h:=fe h;obtain⟨u,hu,h⟩:=h
 cases G:xl u with
 |true=>
  rw[G,fV] at h
  have hun:u= .hY:=by cases u<;>first|rfl|cases G
  subst hun
  replace h:=fe h;obtain⟨u2,Z,h⟩:=h
  replace h:=rM h;obtain⟨k,l0,rfl,h⟩:=h
  replace h:=vo h;obtain⟨l,rfl,h⟩:=h
  replace h:=fD h;obtain⟨b2,h⟩:=h
  replace h:=fD h;obtain⟨K,h⟩:=h
  cases h
  have b2:=d8 b2
  have K:=d8 K
  have hk:k= .i64:=by cases k<;>simp[dk] at b2<;>rfl
  subst hk;subst K
  have O:=hA.b9 hx hu
  have h2:=hA.b9 hy Z
  simp only[VR] at O h2
  have I:(Builtin.unsafeString_ #[pt,it] o.type #[.pointer none,.int .i64 0]).run P w= .ok (.string .empty) w:=rfl
  refine .inl ⟨.string .empty,w,?_,ρ,?_,Ext.refl _ _ _ _,?_⟩
  ·have h2:a.eval y= .int .i64 0:=h2
   simp[execOp,ho,resolve,hc,A,invoke,builtin,O,h2,Pe,I]
  ·simp only[VR]
   exact⟨_,rfl,rfl,rfl⟩
  rw[po];exact hR
 |false=>
 rw[G,show∀a b:aD,aH false a b=b from fun _ _=>rfl] at h
 replace h:=vn h;obtain⟨f,g,off,rfl,h⟩:=h
 replace h:=fe h;obtain⟨u2,Z,h⟩:=h
 replace h:=rM h;obtain⟨k,l0,rfl,h⟩:=h
 replace h:=vo h;obtain⟨l,rfl,h⟩:=h
 replace h:=fD h;obtain⟨b1,h⟩:=h
 replace h:=fD h;obtain⟨b2,h⟩:=h
 replace h:=fD h;obtain⟨K,h⟩:=h
 replace h:=fD h;obtain⟨b4,h⟩:=h
 replace h:=jm h;obtain⟨L,hL,h⟩:=h
 replace h:=jm h;obtain⟨s,hs,h⟩:=h
 rw[iq] at h
 obtain⟨aQ,m,lo,fl,cs,hg,uU,h⟩:=UK h
 cases h
 have b1:=d8 b1
 have b2:=d8 b2
 have K:=bS K
 have b4:=bS b4
 have hk:k= .i64:=by cases k<;>simp[dk] at b2<;>rfl
 subst hk;subst b1
 have O:=hA.b9 hx hu
 have h2:=hA.b9 hy Z
 simp only[VR] at O h2
 obtain⟨hm,hh,O⟩:=O
 obtain⟨hlen,E5⟩:=B0 hL
 obtain⟨U,g1,g2,g3⟩:=FH hs
 have A8:U.length=l:=g1.trans hlen
 subst A8
 have J:=hC f _ (by rw[hu];simp[iV]) ⟨_,_,hh⟩ hg
 have VM:=E5 (U.length-1) _ (eY (by omega))
 obtain⟨elem',gR,mr,m',A',fl',cs',x1,Pf,q1,q2,q3,q4,q5,_⟩:=VM
 rw[hg] at Pf
 cases Pf
 have Pd:U.length≤g:=by simp at q4;omega
 obtain⟨_,_,_,z⟩:=hR.obj f _ J g hm hh
 have z:=z q1 q2
 have Y:=z.sq uU
 obtain⟨cc,fz,yn,nu⟩:=z.row
 have HP:=z.fits
 have hsh:w.shape? hm.b8=some (e,cc.size):=by simp[World.shape?,yn]
 have I:=Lib.run_unsafeString_row (P:=P) w pt it o.type e hp Il hm.b8 cc.size hsh U (by intro e0;rw[e0] at K;simp at K) (by omega) (by omega) (fun j b hj=>by
  have p7:=E5 j _ (g3 j b hj)
  obtain⟨_,_,ry⟩:=hR.rd p7 (J.trans hg.symm) hh (by omega)
  obtain⟨cv,jb,rz⟩:=ry 0 _ rfl
  simp only[VR] at rz
  subst rz
  rw[Addr.add_lit]
  simpa[Y] using jb)
 obtain⟨r1,r2⟩:=hR.freeze (n:=U.length) J hh q1 q2 (by omega) Pd uU (Wr ⟨H.next,H.bc,wrote f H.bc H.ws,H.t.set f (.row e 1 aQ m lo 2 cs)⟩) (F5 _ _ _) H.next
 refine .inl ⟨.string ⟨U.toArray⟩,w.freeze ⟨hm.b8,0,none⟩ U.length,?_,ρ,?_,r1,?_⟩
 ·rw[Y] at O
  have h2:a.eval y= .int .i64 U.length:=h2
  simp[execOp,ho,resolve,hc,A,invoke,builtin,O,h2,Pe,I]
 ·simp only[VR]
  exact⟨_,rfl,rfl,by rw[g2]⟩
 rw[FO (J.trans hg.symm) hg]
 exact r2
end
section
variable{P:Program}{ρ:Ho}{nt:Nat}{E:Env}{a:Act}{C:Nat→Option dP}{w:World}{H H':az}{v:an}{o:Oper}
theorem Mo{mx:Bool}{k:IntKind}:∀{vs:List an}{nx:List Value}{n:Int}{r:an},cw ρ vs nx→EV mx k vs n=some r→
  ∃m,r= .int k m∧(nx.foldlM (if mx=true then Builtin.max2 else Builtin.min2) (.int k n)).run P w= .ok (.int k m) w
 |[],nx,n,r,z,h=>by
  simp only[cw] at z
  subst z
  cases h
  exact⟨n,rfl,rfl⟩
 |x::vs,nx,n,r,z,h=>by
  simp only[cw] at z
  obtain⟨cv,t,rfl,A,h2⟩:=z
  replace h:Mg x none (fun _ b=>kV (aH (aH mx (lj n b) (lj b n)) b n) (EV mx k vs))=some r:=h
  cases x<;>try(cases h;done)
  rename_i G b
  replace h:kV (aH (aH mx (lj n b) (lj b n)) b n) (EV mx k vs)=some r:=h
  rw[rJ] at h
  simp only[VR] at A
  subst A
  obtain⟨m,I,J⟩:=Mo (nx:=t) h2 h
  refine⟨m,I,?_⟩
  rw[List.foldlM_cons]
  have e:((if mx=true then Builtin.max2 else Builtin.min2) (.int k n) (.int G b)).run P w= .ok (.int k (aH (aH mx (lj n b) (lj b n)) b n)) w:=by
   cases mx
   ·simp only[pR,if_false,Rq,pG,qU,eP];rfl
   simp only[if_true,fV,pG,qU,eP];rfl
  simp only[Sem.run_bind,e]
  exact J
theorem Ja(U:AR P ρ nt E a)(hR:R ρ C w){mx:Bool}{c:Call}{x:Operand}{r:List Operand}{Y:aF}{Z:List aF}(ho:o.op= .call c)(J:c.callee= .builtin (if mx=true then .max else .min))(G:c.args.toList=x::r)(hx:dc P x=some Y)(hr:kW P r=some Z)
  (h:zn mx Y Z E H= .ok v H'):fb P o a w (dT ρ C w H v H'):=by
 replace h:=fe h;obtain⟨u,hu,h⟩:=h
 replace h:=rM h;obtain⟨k,n,rfl,h⟩:=h
 replace h:=jm h;obtain⟨vs,K,h⟩:=h
 replace h:=jm h;obtain⟨res,I,h⟩:=h
 cases h
 have O:=U.b9 hx hu
 have h2:=U.dA hr K
 simp only[VR] at O
 obtain⟨m,rfl,z⟩:=Mo (P:=P) (w:=w) h2 I
 have A:c.args=(x::r).toArray:=by rw[←G]
 refine gJ (cv:=.int k m) ?_ hR (by simp only[VR])
 cases mx
 ·simp only[pR,if_false] at J z
  simp[execOp,ho,resolve,J,A,invoke,builtin,Builtin.min_,O,z]
 simp only[if_true] at J z
 simp[execOp,ho,resolve,J,A,invoke,builtin,Builtin.max_,O,z]
end
section
variable{P:Program}{ρ:Ho}{nt:Nat}{E:Env}{a:Act}{C:Nat→Option dP}{w:World}{H H':az}{v:an}{o:Oper}{call:eC}{io:bE}
def Lx(io:bE)(E:Env)(ρ:Ho)(C:Nat→Option dP)(H:az):Prop:=
 ∀f o,(∀l,io.reads E=some l→f∈l)→(∃g h,ρ f g=some h)→H.t.get f=some o→C f=some o
theorem BG{l:List Operand}{G:aF}(h:kW P l=some [G]):∃x,l=[x]∧dc P x=some G:=by
 cases l with
 |nil=>simp[kW] at h
 |cons x r=>
  simp only[kW] at h
  split at h
  ·rename_i y l I A
   cases h
   cases r with
   |nil=>exact⟨x,rfl,I⟩
   |cons z s=>
    simp only[kW] at A
    split at A<;>cases A
  cases h
theorem BA{l:List Operand}{z:aF}{A:List aF}(h:kW P l=some (z::A)):∃x r,l=x::r∧dc P x=some z∧kW P r=some A:=by
 cases l with
 |nil=>simp[kW] at h
 |cons x r=>
  simp only[kW] at h
  split at h
  ·rename_i y l G I
   cases h
   exact⟨x,r,rfl,G,I⟩
  cases h
theorem Bz{c:Array Operand}{l:List Operand}(h:c.toList=l):c=l.toArray:=by rw[←h]
theorem Qk(U:AR P ρ nt E a)(O:R ρ C w)(hF:ia ρ H.next H'.next)(hK:Lx io E ρ C H)(hm:H.bc≤H.next)(ny:∀x,H.next≤x→H.t.get x=none)(hc:kt P call){c:Call}
  (ho:o.op= .call c) (A:GI P c=some io) (h:io.ev call E H= .ok v H'):fb P o a w (dT ρ C w H v H'):=by
 unfold GI at A
 split at A
 ·rename_i f args I G
  split at A
  ·rename_i f
   cases A
   exact QY U O hF (fun f Y=>hK f Y (fun l e=>by cases e)) hm ny hc ho I G h
  split at A
  ·rename_i y hy
   cases A
   exact Qu U O hF (fun f Y=>hK f Y (fun l e=>by cases e)) hm ny hc ho I hy G h
  cases A
 ·rename_i x' I G
  obtain⟨x,J,K⟩:=BG G
  have J:=Bz J
  split at A
  ·rename_i t ht
   split at A
   ·rename_i Z
    cases A
    exact QU U O ho I J K ht Z h
   ·rename_i e Z
    cases A
    exact Rx U O ho I J K ht Z h
   ·rename_i n e Z
    cases A
    exact QT (E:=E) O ho I J ht Z h
   cases A
  cases A
 ·rename_i x' y' I G
  obtain⟨x,r,J,K,hr⟩:=BA G
  obtain⟨y,jY,hy⟩:=BG hr
  subst jY
  have J:=Bz J
  split at A
  ·rename_i t u ht Z
   split at A
   ·rename_i e e2 Im Io
    split at A
    ·rename_i i z hi hz
     split at A
     ·rename_i hb
      cases A
      exact RB U O hF ho I J K hy ht Z Im Io hi hz hb (fun f Y hf=>hK f Y (fun l e=>by cases e;exact hf)) h
     cases A
    cases A
   ·rename_i e Im Io
    split at A
    ·rename_i i z hi hz
     split at A
     ·rename_i hb
      cases A
      exact Qh U O hF ho I J K hy ht Z Im Io hi hz hb.1 hb.2 (fun f Y hf=>hK f Y (fun l e=>by cases e;exact hf)) h
     cases A
    cases A
   cases A
  cases A
 ·rename_i x' I G
  obtain⟨x,J,K⟩:=BG G
  have J:=Bz J
  cases A
  exact RE U O ho I J K h
 ·rename_i x' y' I G
  obtain⟨x,r,J,K,hr⟩:=BA G
  obtain⟨y,jY,hy⟩:=BG hr
  subst jY
  have J:=Bz J
  split at A
  ·rename_i pt it Ip
   have Ip:c.argTypes=#[pt,it]:=Array.ext' Ip
   split at A
   ·rename_i e hp
    split at A
    ·rename_i he
     cases A
     exact Q0 U O ho I J K hy Ip hp he (fun f Y hf=>hK f Y (fun l e=>by cases e;exact hf)) h
    cases A
   cases A
  cases A
 ·rename_i l I G
  cases l with
  |nil=>cases A
  |cons x' r'=>
   obtain⟨x,r,J,K,hr⟩:=BA G
   cases A
   exact Ja (mx:=false) U O ho I J K hr h
 ·rename_i l I G
  cases l with
  |nil=>cases A
  |cons x' r'=>
   obtain⟨x,r,J,K,hr⟩:=BA G
   cases A
   exact Ja (mx:=true) U O ho I J K hr h
 cases A
theorem J4(A:AN P o.op=some io)(K:AR P ρ nt E a)(J:R ρ C w)(hF:ia ρ H.next H'.next)(hK:Lx io E ρ C H)(hm:H.bc≤H.next)(ny:∀x,H.next≤x→H.t.get x=none)(hc:kt P call)
  (h:io.ev call E H= .ok v H'):fb P o a w (dT ρ C w H v H'):=by
 generalize G:o.op=op at A
 unfold AN at A
 split at A
 ·split at A
  ·rename_i y I;cases A;exact JZ K J (.inl G) I h
  cases A
 ·split at A
  ·rename_i y I;cases A;exact JZ K J (.inr G) I h
  cases A
 ·split at A
  ·rename_i c' a' b' h1 h2 h3;cases A;exact QN K J G h1 h2 h3 h
  cases A
 ·split at A
  ·rename_i z i hz hi;cases A;exact QW (E:=E) J hF G hz hi h
  cases A
 ·split at A
  ·rename_i n i y U hi I;cases A;exact Ry K J hF G I U h
  cases A
 ·exact Qv K J G A h
 ·exact P7 K J hF G A h
 ·split at A
  ·rename_i n y U I;cases A;exact QX K J G I U (fun f o' Z=>hK f o' (fun l e=>by cases e;exact Z)) h
  cases A
 ·split at A
  ·rename_i n y z U I hz;cases A;exact Qs K J G I hz U (fun f o' Z=>hK f o' (fun l e=>by cases e;exact Z)) h
  cases A
 ·split at A
  ·rename_i y I;cases A;exact Qp K J G I h
  cases A
 ·split at A
  ·rename_i x' y' O I
   unfold NS at A
   split at A
   ·cases A;exact J0 K J G O I h
   ·cases A;exact J0 K J G O I h
   ·rename_i fs hu;exact Qy K J G O I hu A h
   ·rename_i d _ _ _ hu;exact RD K J G O I hu A h
   cases A
  cases A
 ·split at A
  ·rename_i y I;cases A;exact Sg K J G I h
  cases A
 ·split at A
  ·rename_i y I
   unfold Mh at A
   split at A
   ·rename_i hs hd;cases A;exact QV K J G I hs hd h
   exact Qx K J hF G I A (fun f o' hl=>hK f o' hl) h
  cases A
 ·split at A
  ·cases A
  ·rename_i d y lk hd I;cases A;exact QR K J G hd (fun ms e=>lk ms (e▸rfl)) I h
  cases A
 ·split at A
  ·rename_i fs l hfs hl;cases A;exact QQ K J G hfs hl h
  cases A
 ·split at A
  ·rename_i x' y' O I;exact QZ K J hF G O I A h
  cases A
 ·split at A
  ·rename_i x' A' uW Y O sL Iq;cases A;exact Qr K J G O sL Iq Y h
  ·rename_i e x' A' uW Y O sL Iq
   split at A
   ·rename_i n U;cases A;exact QS K J G O sL Iq Y U h
   cases A
  ·cases A
  cases A
 ·split at A
  ·rename_i fs y hs I
   split at A
   ·rename_i fd Z
    split at A
    ·rename_i n U
     cases A
     obtain⟨i,d,hi,_,e,h0⟩:=th U
     exact QO K J G I hs Z hi (by omega) h
    cases A
   cases A
  cases A
 ·split at A
  ·rename_i fs y hs I
   split at A
   ·rename_i fd Z
    split at A
    ·rename_i n U;cases A;exact Rw K J G I hs Z U h
    cases A
   cases A
  cases A
 ·split at A
  ·rename_i k e x' i' Y O hi
   split at A
   ·rename_i n U
    split at A
    ·cases A;exact Qd K J G O hi Y U h
    cases A
   cases A
  ·rename_i e x' i' Y O hi
   split at A
   ·rename_i n U;cases A;exact Qq K J G O hi Y U h
   cases A
  cases A
 ·split at A
  ·rename_i k e x' i' Y O hi
   split at A
   ·rename_i n U;cases A;exact Qe K J G O hi Y U h
   cases A
  ·rename_i x' i' Y O hi
   cases A
   exact Qf K J G O hi Y h
  cases A
 ·split at A
  ·rename_i y I;cases A;exact QP K J G I h
  cases A
 ·exact Qk K J hF hK hm ny hc G A h
 cases A
end
noncomputable def kh(E:Env)(d:Option Key)(v:an):Env:=match d with|some d=>E.set d v|none=>E
theorem CF{dst:Option Key}{E E':Env}{H':az}{k:Env→az→eA}{r:aD}(h:fin dst E k r= .ok E' H'):∃v H1,r= .ok v H1∧k (kh E dst v) H1= .ok E' H':=by
 cases r with
 |err n=>cases h
 |ok v H1=>
  refine⟨v,H1,rfl,?_⟩
  cases dst with
  |none=>exact h
  |some d=>
   have h:E.yh d v (fun E=>k E H1)= .ok E' H':=h
   rw[T4.zi] at h
   exact h
theorem vt(dst:Option Key)(E:Env)(H:az)(k:Env→az→eA):ku dst E H k=k (kh E dst .undef) H:=by
 cases dst with
 |none=>rfl
 |some d=>show E.yh d .undef (fun E=>k E H)=_;rw[T4.zi];rfl
inductive mH(E:Env):Option (Key×Bool)→Bool→Prop
 |none:mH E none true
 |slot {t:Key} {want b:Bool}:E.get t=some (.bool b)→mH E (some (t,want)) (b==want)
 |off {t:Key} {want:Bool}:E.get t=some .undef→mH E (some (t,want)) false
theorem tq{call:eC}{o:bo}{E E':Env}{H H':az}{k:Env→az→eA}(h:o.step call E H k= .ok E' H'):
  (mH E o.g true∧∃v H1,o.op.ev call E H= .ok v H1∧k (kh E o.dst v) H1= .ok E' H')∨(mH E o.g false∧k (kh E o.dst .undef) H= .ok E' H'):=by
 obtain⟨dst,g,q,op⟩:=o
 cases g with
 |none=>exact .inl ⟨.none,CF h⟩
 |some G=>
  obtain⟨t,want⟩:=G
  have h:ob (E.get t) (eA.err 51) (fun v=>wb v (ku dst E H k) fun b=>aH (Bool.xor b want) (ku dst E H k) (bo.run call ⟨dst,some (t,want),q,op⟩ E H k))= .ok E' H':=h
  cases z:E.get t with
  |none=>rw[z] at h;cases h
  |some v=>
   rw[z] at h
   cases v<;>try(cases h;done)
   case undef=>
    have h:ku dst E H k= .ok E' H':=h
    rw[vt] at h
    exact .inr ⟨.off z,h⟩
   rename_i b
   have h:aH (Bool.xor b want) (ku dst E H k) (bo.run call ⟨dst,some (t,want),q,op⟩ E H k)= .ok E' H':=h
   have A:=mH.slot (E:=E) (want:=want) z
   cases b<;>cases want
   ·exact .inl ⟨A,CF h⟩
   ·rw[show Bool.xor false true=true from rfl,fV,vt] at h;exact .inr ⟨A,h⟩
   ·rw[show Bool.xor true false=true from rfl,fV,vt] at h;exact .inr ⟨A,h⟩
   exact .inl ⟨A,CF h⟩
structure yo(P:Program)(nt:Nat)(ops:Array Oper)(o:Oper)(io:bo):Prop where
 dst:o.dst=io.dst.map Key.n
 lt:∀d,io.dst=some d→d.n<nt
 g:(o.guard=none∧io.g=none)∨∃j want d,o.guard=some (j,want)∧(ops[j]?).bind (·.dst)=some d.n∧io.g=some (d,want)
 op:AN P o.op=some io.op∨io.op=A4
theorem Ly{call:eC}{E:Env}{H H':az}{v:an}(h:A4.ev call E H= .ok v H'):False:=by cases h
section
variable{P:Program}{ρ:Ho}{nt:Nat}{E:Env}{a:Act}{C:Nat→Option dP}{w:World}{H H':az}{v:an}{call:eC}{ops:Array Oper}{Q:Exit→Act→World→Prop}
theorem FU{o:Oper}{io:bo}{b:Bool}(ho:yo P nt ops o io)(A:mH E io.g b)(K:∀t v,E.get t=some v→∃cv,a.tmps[t.n]?=some cv∧VR ρ v cv):Region.wanted o (yielded ops a.tmps)=b:=by
 unfold Region.wanted
 rcases ho.g with⟨G,h2⟩|⟨j,want,d,G,h2,O⟩
 ·rw[h2] at A
  rw[G]
  cases A
  rfl
 rw[O] at A
 rw[G]
 cases A with
 |slot I=>
  obtain⟨cv,J,z⟩:=K _ _ I
  simp only[VR] at z
  subst z
  simp only[yielded,h2,Option.bind_some,J]
  rename_i b
  cases b<;>cases want<;>rfl
 |off I=>
  obtain⟨cv,J,z⟩:=K _ _ I
  simp only[VR] at z
  subst z
  simp only[yielded,h2,Option.bind_some,J,undef]
  cases want<;>rfl
theorem BN(A:j7 ρ C H){ρ':Ho}(G:∀f g h,ρ' f g=some h→(∃g0 h0,ρ f g0=some h0)∨(H.next≤f∧f<H'.next)):j7 ρ' (gy C H H') H':=by
 intro f o z ho
 obtain⟨g,h,z⟩:=z
 unfold gy
 split
 ·exact ho
 rename_i I
 split
 ·rename_i he
  refine A f o ?_ (he▸ho)
  rcases G f g h z with k|k
  ·exact k
  exact absurd k I
 exact ho
theorem ia.sub(h:ia ρ H.next H'.next){ρ':Ho}{n1:Nat}(z:∀f g h,ρ' f g=some h→(∃g0 h0,ρ f g0=some h0)∨(H.next≤f∧f<n1))(I:H.next≤n1):ia ρ' n1 H'.next:=by
 intro f g h2 A
 cases G:ρ' f g with
 |none=>rfl
 |some x=>
  rcases z f g x G with⟨g0,h0,e⟩|e
  ·rw[h f g0 (by omega) A] at e;cases e
  omega
theorem ia.le{n0 n1 z:Nat}(h:ia ρ n0 z)(A:n1≤z):ia ρ n0 n1:=fun f g a b=>h f g a (by omega)
theorem AR.Ey(h:AR P ρ nt E a){d:Option Key}(z:∀x,d=some x→x.n<nt){v:an}{cv:Value}(A:VR ρ v cv):AR P ρ nt (kh E d v) (a.put (d.map Key.n) cv):=by
 cases d with
 |none=>exact h
 |some d=>exact h.put (z d rfl) A
theorem BH(A:kt P call):∀(l:List bo)(E:Env)(H:az)(E':Env)(H':az),H.bc≤H.next→mG call l E H= .ok E' H'→gn H H'
 |[],E,H,E',H',_,h=>by cases h;exact gn.refl _
 |o::r,E,H,E',H',z,h=>by
  rcases tq (show o.step call E H (mG call r)= .ok E' H' from h) with⟨_,v,H1,G,h2⟩|⟨_,h2⟩
  ·have t1:=TM.ins z (fun f a=>A.mu f a H z) E o.op v H1 G
   exact t1.trans (BH A r _ _ _ _ (by rw[t1.bc];exact kb z t1.next) h2)
  exact BH A r _ _ _ _ z h2
def WF(H:az):Prop:=∀x,H.next≤x→H.t.get x=none
theorem Gl{H1 A:az}(h:gn H1 A)(f:Nat)(z:Wr H1 f):Wr A f:=by
 rcases z with z|z
 ·exact .inl (h.ws f z)
 exact .inr (by rw[h.bc];exact z)
def qw(P:Program)(nt:Nat)(E':Env)(H H':az)(C:Nat→Option dP)(ρ:Ho)(w:World)(K:Act→World→Prop):Prop:=
 ∀a' w' ρ',AR P ρ' nt E' a'→Ext (Wr H') H.next H'.next ρ ρ' w w'→R ρ' (gy C H H') w'→j7 ρ' (gy C H H') H'→K a' w'
theorem J5{ρ:Ho}(hK:j7 ρ C H){H1 z:az}(h1:H.next≤H1.next)(h2:H1.next≤z.next)(A:∀f,H1.t.get f≠none→z.t.get f≠none){ρ':Ho}(hd:∀f g h,ρ' f g=some h→(∃g0 h0,ρ f g0=some h0)∨(H.next≤f∧f<z.next))
  (f:Nat) (o:dP) (h:gy C H z f=some o) (I:∃g x,ρ' f g=some x):gy (gy C H H1) H1 z f=some o:=by
 obtain⟨g,x,I⟩:=I
 unfold gy at h⊢
 by_cases J:H1.next≤f∧f<z.next
 ·rw[aq ⟨by omega,J.2⟩] at h
  rw[aq J]
  exact h
 rw[aj J]
 by_cases K:H.next≤f∧f<H1.next
 ·rw[aq ⟨K.1,by omega⟩] at h
  rw[aq K]
  split
  ·rename_i e;rw[←e];exact h
  exact h
 have Z:¬(H.next≤f∧f<z.next):=by omega
 rw[aj K]
 rw[aj Z] at h
 have G:∃g0 h0,ρ f g0=some h0:=(hd f g x I).resolve_right Z
 have O:=fun U=>hK f U G
 split
 ·rename_i e
  split
  ·rename_i e1
   rw[aq (e.trans e1)] at h
   exact h
  rename_i e1
  rw[aj (by rw[e];exact e1),e] at h
  exact h
 rename_i e
 split at h
 ·rename_i e2
  rw[e2]
  cases Y:H.t.get f with
  |none=>
   have h3:H1.t.get f≠none:=fun e3=>e (by rw[e2,Y,e3])
   exact absurd (e2.trans Y) (A f h3)
  |some U=>
   rw[O U Y] at h
   exact h
 exact h
theorem To{o:Oper}{io:bo}{H1:az}{E':Env}{K:Act→World→Prop}(ho:yo P nt ops o io)(hA:AR P ρ nt E a)(U:j7 ρ C H)(Y:gn H H1)(I:gn H1 H')
  (J:qw P nt E' H H' C ρ w K) {cv:Value} {w':World} (hp:dT ρ C w H v H1 cv w') {K':Act→World→Prop}
  (hk:∀ρ' Z,AR P ρ' nt (kh E io.dst v) (a.put o.dst cv)→R ρ' Z w'→j7 ρ' Z H1→(∀f g h,ρ' f g=some h→(∃g0 h0,ρ f g0=some h0)∨(H.next≤f∧f<H1.next))→uu P ρ'→qw P nt E' H1 H' Z ρ' w' K→K' (a.put o.dst cv) w'):
  K' (a.put o.dst cv) w':=by
 obtain⟨ρ',hv,A,Ba⟩:=hp
 have G:AR P ρ' nt (kh E io.dst v) (a.put o.dst cv):=by
  rw[ho.dst]
  exact(hA.mono A.le).Ey ho.lt hv
 refine hk ρ' (gy C H H1) G Ba (BN U A.jj) A.jj G.rk fun a2 w2 O G E6 hR2 hK2=>?_
 have z:Ext (Wr H') H.next H'.next ρ O w w2:=(A.mono (Gl I)).trans E6
 refine J a2 w2 O G z ?_ (BN U z.jj)
 exact hR2.weaken fun f o h hf=>J5 U Y.next I.next I.iR z.jj f o h hf
theorem Jq(hc:kt P call){K:Act→World→Prop}:∀(l:List bo)(os:List Oper)(k:Nat),os.length=l.length→(∀(i:Nat)(o:Oper)(io:bo),os[i]?=some o→l[i]?=some io→yo P nt ops o io)→(∀(i:Nat)(o:Oper),os[i]?=some o→ops[k+i]?=some o)→
  ∀(E:Env)(H:az)(E':Env)(H':az)(ρ:Ho)(C:Nat→Option dP)(a:Act)(w:World),mG call l E H= .ok E' H'→AR P ρ nt E a→R ρ C w→j7 ρ C H→ia ρ H.next H'.next→H.bc≤H.next→WF H→
  qw P nt E' H H' C ρ w K→(∀a w,K a w→Q .normal a w)→wpOps P ops Q ((List.range' k l.length)) a w
 |[],os,k,hl,O,U,E,H,E',H',ρ,C,a,w,h,Y,hR,hK,hF,hm,I,z,hQ=>by
  cases h
  refine hQ _ _ (z a w ρ Y (Ext.refl _ _ _ _) ?_ ?_)
  ·rw[po];exact hR
  rw[po];exact hK
 |io::r,[],k,hl,_,_,_,_,_,_,_,_,_,_,_,_,_,_,_,_,_,_,_=>by simp at hl
 |io::r,o::os,k,hl,O,U,E,H,E',H',ρ,C,a,w,h,Y,hR,hK,hF,hm,I,z,hQ=>by
  have ho:=O 0 o io rfl rfl
  have Bb:ops[k]?=some o:=by simpa using U 0 o rfl
  have A:=Jq hc (K:=K) r os (k+1) (by simpa using hl) (fun i o io J h2=>O (i+1) o io (by simpa using J) (by simpa using h2)) (fun i o J=>by
   have:=U (i+1) o (by simpa using J);rwa [show k+(i+1)=k+1+i by omega] at this)
  rw[dj,List.range'_succ,wpOps_cons]
  unfold wpOp
  simp only[Bb]
  rcases tq (show io.step call E H (mG call r)= .ok E' H' from h) with⟨hw,v,H1,J,h2⟩|⟨hw,h2⟩
  ·rw[FU ho hw Y.tmp,aq rfl]
   left
   have G:=TM.ins hm (fun f a=>hc.mu f a H hm) E io.op v H1 J
   have sO:H1.bc≤H1.next:=by rw[G.bc];exact kb hm G.next
   have Pg:=BH hc r _ _ _ _ sO h2
   rcases ho.op with Bc|HR
   case inr=>rw[HR] at J;exact(Ly J).elim
   have WE:=J4 (o:=o) Bc Y hR (hF.le Pg.next) (fun f o' _ hf sN=>hK f o' hf sN) hm I hc J
   refine JD WE fun cv w' hp=>?_
   refine To ho Y hK G Pg z hp (K':=wpOps P ops Q (List.range' (k+1) r.length)) fun ρ' C' Z Ba hK' hd hg ht=>?_
   exact A _ H1 E' H' ρ' C' _ w' h2 Z Ba hK' (hF.sub hd G.next) sO (G.wf I) ht hQ
  rw[FU ho hw Y.tmp,aj (by simp)]
  have Z:AR P ρ nt (kh E io.dst .undef) (a.put o.dst undef):=by
   rw[ho.dst]
   exact Y.Ey ho.lt (by simp only[VR])
  exact A _ H E' H' ρ C _ w h2 Z hR hK hF hm I z hQ
end
def az.mark(H:az):az:=⟨H.next,H.next,[],H.t⟩
noncomputable def xo(H H1:az):az:=⟨H1.next,H.bc,oo H.bc H.ws H1.ws,H1.t⟩
theorem yX(bc:Nat)(ws:List Nat):∀(new:List Nat)(x:Nat),x∈oo bc ws new↔x∈ws∨(x∈new∧x<bc)
 |[],x=>by show x∈ws↔_;simp
 |f::r,x=>by
  show x∈wrote f bc (oo bc ws r)↔_
  rw[y6,yX bc ws r]
  simp only[pS]
  constructor
  ·rintro((h|⟨h,k⟩)|⟨rfl,k⟩)
   ·exact .inl h
   ·exact .inr ⟨.inr h,k⟩
   exact .inr ⟨.inl rfl,k⟩
  rintro(h|⟨rfl|h,k⟩)
  ·exact .inl (.inl h)
  ·exact .inr ⟨rfl,k⟩
  exact .inl (.inr ⟨h,k⟩)
theorem gn.xo{H H1:az}(G:H.bc≤H.next)(h:gn H.mark H1):gn H (xo H H1):=
 ⟨h.next,rfl,fun f z=>(yX _ _ _ _).2 (.inl z),fun f z A=>h.same f (by show f<H.next;omega) (fun e=>A ((yX _ _ _ _).2 (.inr ⟨e,z⟩))),h.wf,h.iR⟩
theorem J6{l m:List Nat}(h:xP l m=true):∀x,x∈l→x∉m:=by
 induction l with
 |nil=>intro x z;cases z
 |cons y r I=>
  have h:aH (pV y m) false (xP r m)=true:=h
  intro x z G
  cases A:pV y m
  ·rw[A] at h
   cases z with
   |head=>rw[(F4 _ _).2 G] at A;cases A
   |tail _ z=>exact I h x z G
  rw[A] at h;cases h
theorem J7{l:List Nat}{r:Option (List Nat)}(h:Aj l r=true){x:Nat}(z:x∈l):∃m,r=some m∧x∉m:=by
 cases l with
 |nil=>cases z
 |cons y s=>
  cases r with
  |none=>cases h
  |some m=>exact⟨m,rfl,J6 (l:=y::s) h x z⟩
theorem Sj{l:List Nat}{lo hi:Nat}(h:uK l lo hi=true):∀x,x∈l→¬(lo≤x∧x<hi):=by
 induction l with
 |nil=>intro x z;cases z
 |cons y r J=>
  have h:aH (Nat.ble lo y) (aH (Nat.ble hi y) (uK r lo hi) false) (uK r lo hi)=true:=h
  intro x z⟨G,h2⟩
  cases A:Nat.ble lo y
  ·rw[A] at h
   cases z with
   |head=>rw[jA G] at A;cases A
   |tail _ z=>exact J h x z ⟨G,h2⟩
  rw[A] at h
  have h:aH (Nat.ble hi y) (uK r lo hi) false=true:=h
  cases I:Nat.ble hi y
  ·rw[I] at h;cases h
  rw[I] at h
  cases z with
  |head=>have:=bS I;omega
  |tail _ z=>exact J h x z ⟨G,h2⟩
structure w6(a b:FP):Prop where
 ab:∀x,x∈a.ws→∃m,b.rd=some m∧x∉m
 ba:∀x,x∈b.ws→∃m,a.rd=some m∧x∉m
 ww:∀x,x∈a.ws→x∉b.ws
 out:∀x,x∈a.ws→¬(b.lo≤x∧x<b.hi)
theorem Q2{a b:FP}(h:rS a b=true):w6 a b:=by
 unfold rS at h
 have z:∀{p:Bool}{q:Bool},aH p q false=true→p=true∧q=true:=by intro p q h;cases p;cases h;exact⟨rfl,h⟩
 obtain⟨A,h⟩:=z h
 obtain⟨h2,h⟩:=z h
 obtain⟨G,h⟩:=z h
 exact⟨fun x=>J7 A,fun x=>J7 h2,J6 G,Sj h⟩
theorem Jr{a:FP}{bP:List FP}:∀{l:List Nat},pn a bP l=true→∀k,k∈l→∃b,bP[k]?=some b∧w6 a b
 |[],_,k,hk=>by cases hk
 |i::r,h,k,hk=>by
  have h:ob (bP[i]?) false (fun b=>aH (rS a b) (pn a bP r) false)=true:=h
  cases z:bP[i]?with
  |none=>rw[z] at h;cases h
  |some b=>
   rw[z] at h
   have h:aH (rS a b) (pn a bP r) false=true:=h
   cases hp:rS a b
   ·rw[hp] at h;cases h
   rw[hp] at h
   cases hk with
   |head=>exact⟨b,z,Q2 hp⟩
   |tail _ hk=>exact Jr h k hk
inductive pN(call:eC)(o:bo)(E:Env)(H:az)(bP:List FP):Bool→an→FP→az→Prop
 |skip {fp:FP}:mH E o.g false→(o.q.isSome=true→fp=⟨some [],[],0,0⟩)→pN call o E H bP false .undef fp H
 |plain {v:an} {fp:FP} {H1:az}:mH E o.g true→o.q=none→o.op.ev call E H= .ok v H1→pN call o E H bP true v fp H1
 |marked {v:an} {q:List Nat} {H1:az}:mH E o.g true→o.q=some q→o.op.ev call E H.mark= .ok v H1→pn ⟨o.op.reads E,H1.ws,H.next,H1.next⟩ bP q=true→
   pN call o E H bP true v ⟨o.op.reads E,H1.ws,H.next,H1.next⟩ (xo H H1)
def zb(o:bo)(fp:FP)(bP:List FP):List FP:=match o.q with|some _=>fp::bP|none=>bP
theorem Tp{rs:Option (List Nat)}{l:List Nat}{next bc:Nat}{ws:List Nat}{bP:List FP}{dst:Option Key}{E E':Env}{H':az}{k:Env→az→List FP→eA}{v:an}{next' A:Nat}{z:List Nat}{t':HT}
  (h:yj rs l next bc ws bP dst E k (.ok v ⟨next',A,z,t'⟩)= .ok E' H'):
  pn ⟨rs,z,next,next'⟩ bP l=true∧k (kh E dst v) ⟨next',bc,oo bc ws z,t'⟩ (⟨rs,z,next,next'⟩::bP)= .ok E' H':=by
 unfold yj at h
 dsimp only at h
 cases G:pn ⟨rs,z,next,next'⟩ bP l
 ·rw[G] at h;cases h
 rw[G,fV] at h
 refine⟨rfl,?_⟩
 cases dst with
 |none=>exact h
 |some d=>
  dsimp only at h
  rw[T4.zi] at h
  exact h
theorem KL{call:eC}{o:bo}{E E':Env}{H H':az}{bP:List FP}{k:Env→az→List FP→eA}(h:o.na call E H bP k= .ok E' H'):
  ∃b v fp H1,pN call o E H bP b v fp H1∧k (kh E o.dst v) H1 (zb o fp bP)= .ok E' H':=by
 have run:mH E o.g true→o.pW call E H bP k= .ok E' H'→∃b v fp H1,pN call o E H bP b v fp H1∧k (kh E o.dst v) H1 (zb o fp bP)= .ok E' H':=by
  intro z h
  obtain⟨dst,g,q,op⟩:=o
  cases q with
  |none=>
   obtain⟨v,H1,K,h2⟩:=CF (k:=fun E H=>k E H bP) h
   exact⟨true,v,⟨none,[],0,0⟩,H1,.plain z rfl K,h2⟩
  |some q=>
   cases H with
   |mk next bc ws t=>
    have h:dp next (fun next=>yj (op.reads E) q next bc ws bP dst E k (op.ev call E ⟨next,next,[],t⟩))= .ok E' H':=h
    rw[iq] at h
    cases J:op.ev call E ⟨next,next,[],t⟩ with
    |err n=>rw[J] at h;cases h
    |ok v H1=>
     rw[J] at h
     cases H1 with
     |mk next' A G t'=>
      obtain⟨O,h⟩:=Tp h
      exact⟨true,v,⟨op.reads E,G,next,next'⟩,xo ⟨next,bc,ws,t⟩ ⟨next',A,G,t'⟩,.marked (q:=q) (H1:=⟨next',A,G,t'⟩) z rfl J O,h⟩
 have skip:mH E o.g false→ku o.dst E H (fun E H=>k E H (q6 o.q bP))= .ok E' H'→∃b v fp H1,pN call o E H bP b v fp H1∧k (kh E o.dst v) H1 (zb o fp bP)= .ok E' H':=by
  intro z h
  rw[vt] at h
  obtain⟨dst,g,q,op⟩:=o
  refine⟨false,.undef,⟨some [],[],0,0⟩,H,.skip z (fun _=>rfl),?_⟩
  cases q<;>exact h
 obtain⟨dst,g,q,op⟩:=o
 cases g with
 |none=>exact run .none h
 |some U=>
  obtain⟨t,want⟩:=U
  have h:ob (E.get t) (eA.err 51) (fun v=>wb v (ku dst E H fun E H=>k E H (q6 q bP)) fun b=>aH (Bool.xor b want) (ku dst E H fun E H=>k E H (q6 q bP)) (bo.pW call ⟨dst,some (t,want),q,op⟩ E H bP k))= .ok E' H':=h
  cases I:E.get t with
  |none=>rw[I] at h;cases h
  |some v=>
   rw[I] at h
   cases v<;>try(cases h;done)
   case undef=>exact skip (.off I) h
   rename_i b
   have h:aH (Bool.xor b want) (ku dst E H fun E H=>k E H (q6 q bP)) (bo.pW call ⟨dst,some (t,want),q,op⟩ E H bP k)= .ok E' H':=h
   have z:=mH.slot (E:=E) (want:=want) I
   cases b<;>cases want
   ·exact run z h
   ·exact skip z h
   ·exact skip z h
   exact run z h
structure Trace(call:eC)(l:List bo)(E:Env)(H:az)(bP:List FP)(E':Env)(H':az)(Es:Nat→Env)(Hs:Nat→az)(Rs:Nat→List FP)(Wn:Nat→Bool)(Vs:Nat→an)(Fp:Nat→FP):Prop where
 e0:Es 0=E
 h0:Hs 0=H
 r0:Rs 0=bP
 eN:Es l.length=E'
 hN:Hs l.length=H'
 step:∀i o,l[i]?=some o→pN call o (Es i) (Hs i) (Rs i) (Wn i) (Vs i) (Fp i) (Hs (i+1))∧Es (i+1)=kh (Es i) o.dst (Vs i)∧Rs (i+1)=zb o (Fp i) (Rs i)
theorem KM{call:eC}:∀(l:List bo)(E:Env)(H:az)(bP:List FP)(E':Env)(H':az),lR call l E H bP= .ok E' H'→
  ∃Es Hs Rs Wn Vs Fp,Trace call l E H bP E' H' Es Hs Rs Wn Vs Fp
 |[],E,H,bP,E',H',h=>by
  cases h
  exact⟨fun _=>E,fun _=>H,fun _=>bP,fun _=>true,fun _=>.undef,fun _=>⟨none,[],0,0⟩,rfl,rfl,rfl,rfl,rfl,fun i o h=>by simp at h⟩
 |o::r,E,H,bP,E',H',h=>by
  obtain⟨b,v,fp,H1,A,h2⟩:=KL (show o.na call E H bP (lR call r)= .ok E' H' from h)
  obtain⟨Es,Hs,Rs,Wn,Vs,Fp,t⟩:=KM r _ _ _ _ _ h2
  refine⟨fun|0=>E|i+1=>Es i,fun|0=>H|i+1=>Hs i,fun|0=>bP|i+1=>Rs i,fun|0=>b|i+1=>Wn i,fun|0=>v|i+1=>Vs i,fun|0=>fp|i+1=>Fp i,rfl,rfl,rfl,t.eN,t.hN,fun i x z=>?_⟩
  cases i with
  |zero=>
   simp at z
   subst z
   simp only[t.e0,t.h0,t.r0]
   exact⟨A,True.intro,True.intro⟩
  |succ i=>exact t.step i x (by simpa using z)
end Go.Ev
