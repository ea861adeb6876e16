/- Part 5 of rules for walks through the code of a program, and of such walks; what each part proves is said by its theorems. -/
import Derived.Test.YtdgcofocbhbjcaaGreatS4
import Derived.Laws.IdiomStrings
import Derived.Laws.BytesArg
import Derived.Lib.Builder
import Derived.Lib.UnsafeStr
import Derived.DeepKeys
import Derived.OpenShut
import Derived.Laws.StructEq
set_option linter.unusedVariables false
set_option linter.unusedSimpArgs false
noncomputable section
set_option maxRecDepth 100000
set_option maxHeartbeats 4000000
namespace Go.Ev
section
variable{P:Program}{ρ:Ho}{nt:Nat}{E:Env}{a:Act}{C:Nat→Option cZ}{w:World}{H H':aC}{v:aw}{o:Oper}{call:dr}
theorem convSB_sound(Z:AR P ρ nt E a)(hR:R ρ C w)(hF:fE ρ H.next H'.next){src dst e:TypeId}{x:Operand}{Y:aM}(ho:o.op= .convert src dst x)(hx:cB P x=some Y)
  (hs:P.underlying src=some .string) (hd:P.underlying dst=some (.slice e)) (he:P.underlying e=some (.int .u8)) (h:Dj e Y E H= .ok v H'):dI P o a w (c6 ρ C w H v H'):=by
 replace h:=dG h;obtain⟨u,hu,h⟩:=h
 replace h:=Az h;obtain⟨l,s,rfl,h⟩:=h
 replace h:=dR h;obtain⟨_,h⟩:=h
 rw[xl] at h
 have h:=AA h
 cases h
 have K:=Z.bU hx hu
 simp only[VR] at K
 obtain⟨b,K,rfl,rfl⟩:=K
 have A:=run_bytes_of_string (P:=P) w src dst e b hs hd he
 have L:=grownCap_ge w b.size 0 e
 generalize grownCap w b.size 0 e=p at*
 have M:b.data.toList.length=b.size:=ml
 have F:(bytesRow b p).size=p:=by
  unfold bytesRow
  simp only[Ka,Array.size_map,Array.size_replicate]
  have:b.data.size=b.size:=rfl
  omega
 obtain⟨ρ',g1,g2,g3⟩:=hR.WS 3 ((bytesRow b p).size,(bytesRow b p).size+1) (f:=H.next) (elem:=e) (es:=1) (aL:=1) (n:=b.size) (cs:=ia (oe b.size (pack b.data.toList)) .emp 0) (cells:=bytesRow b p)
  (w':=w.drew.alloc (.cells (bytesRow b p) e ((bytesRow b p).size,(bytesRow b p).size+1)))
  (Wr ⟨H.next+1,H.bb,H.ws,H.t.set H.next (.row e 1 1 b.size b.size 3 (ia (oe b.size (pack b.data.toList)) .emp 0))⟩) (fun g=>hF _ g (bM _) (wG _)) ax (by rw[F];omega)
  (fun k hk=>by
   rw[uN,bE (by rw[CV];omega),BU]
   have G:k<(oe b.size (pack b.data.toList)).length:=by rw[CV];exact hk
   refine⟨_,dz G,?_⟩
   have I:=dz G
   obtain⟨y,J,O⟩:=Ls b.data.toList k _ (by rw[M];exact I)
   rw[O]
   refine⟨rfl,fun j z U=>?_⟩
   cases j with
   |succ j=>simp at U
   |zero=>
    simp at U
    subst U
    refine⟨rfl,.int .u8 y.toNat,?_,by simp only[VR]⟩
    unfold bytesRow
    rw[Kb (by rw[Array.size_map];show k*1+0<b.size;omega)]
    simp only[Ke,rP,Array.getElem?_map]
    rw[Kf] at J
    rw[J];rfl) rfl (fun i hi h=>by simp at h;omega) (fun h=>by omega) rfl rfl rfl
 refine .inl ⟨.slice (some ⟨w.heap.size,0,none⟩) b.size p,w.drew.alloc (.cells (bytesRow b p) e ((bytesRow b p).size,(bytesRow b p).size+1)),?_,ρ',?_,g2,?_⟩
 ·simp only[execOp,ho,K,Sem.run_bind]
  rw[A]
  rfl
 ·simp only[VR]
  exact⟨_,_,_,g1,rfl,⟨L,ax⟩,.inl ⟨rfl,by simp only;rw[F];omega⟩⟩
 rw[Hk];exact g3
theorem Lu:∀{L:List (List aw)}{s:Nat},uX L=some s→∃p:List UInt8,p.length=L.length∧s=pack p∧∀(i:Nat)(b:UInt8),p[i]?=some b→L[i]?=some [aw.int .u8 (Int.ofNat b.toNat)]
 |[],s,h=>by cases h;exact⟨[],rfl,rfl,fun i b h=>by simp at h⟩
 |c::r,s,h=>by
  cases c with
  |nil=>cases h
  |cons x t=>cases t with
   |cons y t=>cases h
   |nil=>
    have h:WL x none (fun k i=>aI (Nat.beq (cI k) 4) (fQ i none fun b=>aI (Nat.ble b 255) (ob (uX r) none fun v=>some (Nat.add b (Nat.mul 256 v))) none) none)=some s:=h
    cases x with
    |int k i=>
     have h:aI (Nat.beq (cI k) 4) (fQ i none fun b=>aI (Nat.ble b 255) (ob (uX r) none fun v=>some (Nat.add b (Nat.mul 256 v))) none) none=some s:=h
     cases z:Nat.beq (cI k) 4
     ·rw[z] at h;cases h
     rw[z,dw] at h
     cases i with
     |negSucc m=>cases h
     |ofNat b=>
      have h:aI (Nat.ble b 255) (ob (uX r) none fun v=>some (Nat.add b (Nat.mul 256 v))) none=some s:=h
      cases h2:Nat.ble b 255
      ·rw[h2] at h;cases h
      rw[h2,dw] at h
      cases A:uX r with
      |none=>rw[A] at h;cases h
      |some v=>
       rw[A] at h
       cases h
       obtain⟨p,I,J,K⟩:=Lu A
       have z:=cL z
       have h2:=aX h2
       have M:k= .u8:=by cases k<;>simp[cI] at z<;>rfl
       subst M
       have G:(UInt8.ofNat b).toNat=b:=by rw[UInt8.toNat_ofNat'];omega
       refine⟨UInt8.ofNat b::p,by simp[I],?_,fun i y F=>?_⟩
       ·show b+256*v=(UInt8.ofNat b).toNat+256*pack p
        rw[G,J]
       cases i with
       |zero=>simp at F;subst F;rw[G];rfl
       |succ i=>exact K i y (by simpa using F)
    |_=>cases h
theorem convBS_sound(hA:AR P ρ nt E a)(K:R ρ C w){src dst e:TypeId}{x:Operand}{M:aM}(ho:o.op= .convert src dst x)(hx:cB P x=some M)
  (hs:P.underlying src=some (.slice e)) (hd:P.underlying dst=some .string) (he:P.underlying e=some (.int .u8))
  (hC:∀f o,f∈fX (M.ev E)→(∃g h,ρ f g=some h)→H.t.get f=some o→C f=some o) (h:Dk M E H= .ok v H'):dI P o a w (c6 ρ C w H v H'):=by
 replace h:=dG h;obtain⟨u,hu,h⟩:=h
 have p:=hA.bU hx hu
 cases u<;>try(cases h;done)
 case gh=>
  cases h
  simp only[VR] at p
  refine eK (cv:=.string ByteArray.empty) ?_ K (by simp only[VR];exact⟨_,rfl,rfl,rfl⟩)
  have:=run_convert_bytes_nil (P:=P) (w:=w) src e hs he 0 0 dst hd
  simp only[execOp,ho,p,Sem.run_bind,this]
  rfl
 case slice f g off n es=>
  have h:ob (elems H f g 1 n off) (.err 39) (fun l=>ob (uX l) (.err 39) fun s=>cA s fun s=>aF.ok (.str n s) H)= .ok v H':=h
  replace h:=gV h;obtain⟨L,hL,h⟩:=h
  replace h:=gV h;obtain⟨s,O,h⟩:=h
  rw[eP] at h
  cases h
  simp only[VR] at p
  obtain⟨hm,ad,cap,hh,p,aaK,U⟩:=p
  obtain⟨hlen,Y⟩:=HA hL
  obtain⟨I,g1,g2,g3⟩:=Lu O
  have Z:I.length=n:=g1.trans hlen
  subst Z
  have z:=run_convert_bytes_back (P:=P) w src dst e ad cap I hs he hd (fun j hj=>by
   have J:=g3 j I[j] (dz hj)
   have A:=Y j _ J
   have uo:C f=H.t.get f:=by
    obtain⟨_,_,_,_,_,_,_,_,J,_⟩:=A
    exact(hC f _ (by rw[hu];simp[fX]) ⟨_,_,hh⟩ J).trans J.symm
   obtain⟨_,_,hc⟩:=K.rd A uo hh ax
   obtain⟨cv,F,G⟩:=hc 0 _ rfl
   simp only[VR] at G
   subst G
   rcases U with⟨rfl,_⟩|⟨h0,_,_⟩
   ·rw[Addr.add_lit]
    rw[←kz] at F
    simpa using F
   omega)
  refine eK (cv:=.string ⟨I.toArray⟩) ?_ K (by simp only[VR];exact⟨_,rfl,rfl,by rw[g2]⟩)
  simp only[execOp,ho,p,Sem.run_bind,z]
  rfl
theorem liesAt_self{e:TypeId}(z:P.cellsOf e≠0)(count:Nat)(A:1≤count):liesAt P P.depth e count 0 e 1=true:=by
 have p:P.depth=(2*(P.types.size+Made.depth)+1)+1:=rfl
 rw[p]
 simp only[liesAt,tq]
 left
 rw[p]
 simp[rowAt,z,A,sameLayout]
theorem Tm(hA:AR P ρ nt E a)(Z:R ρ C w){src dst t:TypeId}{x:Operand}{O:aM}{io:bF}(ho:o.op= .convert src dst x)(hx:cB P x=some O)
  (F:(P.underlying src=some (.pointer t)∧P.underlying dst=some .unsafePointer)∨(P.underlying src=some .unsafePointer∧P.underlying dst=some (.pointer t))) (A:HO P t O=some io)
  (hC:∀f o,(∀l,io.reads E=some l→f∈l)→(∃g h,ρ f g=some h)→H.t.get f=some o→C f=some o) (h:io.ev call E H= .ok v H'):dI P o a w (c6 ρ C w H v H'):=by
 unfold HO at A
 split at A
 ·rename_i j hj
  split at A
  ·rename_i nT
   cases A
   have h:DE t (P.cellsOf t) O E H= .ok v H':=h
   replace h:=dG h;obtain⟨u,hu,h⟩:=h
   have I:=hA.bU hx hu
   cases hn:Im u with
   |true=>
    rw[hn,dw] at h
    cases u<;>try(cases hn;done)
    cases h
    simp only[VR] at I
    refine eK (cv:=.pointer none) ?_ Z (by simp only[VR])
    have:(convert src dst (.pointer none)).run P w= .ok (.pointer none) w:=by
     rcases F with⟨J,G⟩|⟨J,G⟩<;>simp[convert,run_underlying J,run_underlying G,Conv.unsafePointer]
    simp only[execOp,ho,I,Sem.run_bind,this]
    rfl
   |false=>
    rw[hn] at h
    have h:gA u (.err 44) (fun f g off=>iN (H.t.get f) (.err 44) fun elem es _ m lo fl _=>
     aI (Nat.beq elem t) (aI (Nat.beq es (P.cellsOf t)) (aI (Nat.beq off 0) (aI (Nat.ble lo g) (aI (Nat.ble g m) (aI (Nat.ble 1 g) (aI (Nat.beq fl 0) (aF.ok u H) (.err 44)) (.err 44)) (.err 44)) (.err 44)) (.err 44)) (.err 44)) (.err 44))= .ok v H':=h
    replace h:=xm h;obtain⟨f,g,off,rfl,h⟩:=h
    cases U:H.t.get f with
    |none=>rw[U] at h;cases h
    |some ob=>cases ob with
     |map=>rw[U] at h;cases h
     |row elem es aL m lo fl cs=>
      rw[U] at h
      have h:aI (Nat.beq elem t) (aI (Nat.beq es (P.cellsOf t)) (aI (Nat.beq off 0) (aI (Nat.ble lo g) (aI (Nat.ble g m) (aI (Nat.ble 1 g) (aI (Nat.beq fl 0) (aF.ok (.ptr f g off) H) (.err 44)) (.err 44)) (.err 44)) (.err 44)) (.err 44)) (.err 44)) (.err 44)= .ok v H':=h
      replace h:=dR h;obtain⟨b1,h⟩:=h
      replace h:=dR h;obtain⟨Y,h⟩:=h
      replace h:=dR h;obtain⟨b3,h⟩:=h
      replace h:=dR h;obtain⟨b4,h⟩:=h
      replace h:=dR h;obtain⟨b5,h⟩:=h
      replace h:=dR h;obtain⟨b6,h⟩:=h
      replace h:=dR h;obtain⟨b7,h⟩:=h
      cases h
      have b1:=cL b1
      have Y:=cL Y
      have b3:=cL b3
      have b4:=aX b4
      have b5:=aX b5
      have b6:=aX b6
      have b7:=cL b7
      subst b1;subst b3;subst b7
      simp only[VR] at I
      obtain⟨z,hh,I⟩:=I
      have uo:=hC f _ (fun l e=>by have e:some (fX (O.ev E))=some l:=e;rw[hu] at e;cases e;simp[fX]) ⟨_,_,hh⟩ U
      obtain⟨he,_,_,p⟩:=Z.obj f _ uo g z hh
      have p:=p b4 b5
      obtain⟨c,fz,K,hsize⟩:=p.row
      have L:=p.tG (.inl rfl)
      have QJ:=p.fits
      have KX:es≤g*es:=Nat.le_mul_of_pos_left _ b6
      have M:w.shape? z.bW=some (elem,c.size):=by simp[World.shape?,K]
      refine eK (cv:=.pointer (some ⟨z.bW,z.off+0,none⟩)) ?_ Z (by simp only[VR];exact⟨z,hh,rfl⟩)
      have:(convert src dst (.pointer (some ⟨z.bW,z.off+0,none⟩))).run P w= .ok (.pointer (some ⟨z.bW,z.off+0,none⟩)) w:=by
       rcases F with⟨J,G⟩|⟨J,G⟩
       ·exact Lib.run_to_unsafe w ⟨z.bW,z.off+0,none⟩ J G hj nT M (by show z.off+0<c.size;omega)
       refine Lib.run_from_unsafe w ⟨z.bW,z.off+0,none⟩ J G hj M ?_
       show liesAt P P.depth elem (c.size/P.cellsOf elem) (z.off+0) elem 1=true
       rw[L,←Y]
       have G:=Nat.div_pos (show es≤c.size by omega) he
       have:=liesAt_self (P:=P) (e:=elem) (by rw[←Y];omega) (c.size/es) G
       rw[rP]
       exact this
      simp only[execOp,ho,I,Sem.run_bind,this]
      rfl
  cases A
 cases A
theorem usd_sound(M:AR P ρ nt E a)(G:R ρ C w){c:Call}{x:Operand}{I:aM}(ho:o.op= .call c)(J:c.callee= .builtin .unsafeSliceData)(p:c.args=#[x])(O:cB P x=some I)
  (h:FM I E H= .ok v H'):dI P o a w (c6 ρ C w H v H'):=by
 replace h:=dG h;obtain⟨u,U,h⟩:=h
 have z:=M.bU O U
 cases u<;>try(cases h;done)
 case gh=>
  cases h
  simp only[VR] at z
  refine eK (cv:=.pointer none) ?_ G (by simp only[VR])
  simp[execOp,ho,resolve,J,p,invoke,builtin,z,Lib.run_unsafeSliceData_nil]
 case slice f g off l es=>
  have h:aI (Nat.beq l 0) (.err 45) (aF.ok (.ptr f g off) H)= .ok v H':=h
  replace h:=WU h;obtain⟨K,h⟩:=h
  cases h
  simp only[VR] at z
  obtain⟨A,ad,cap,Y,z,L,F⟩:=z
  have Z:l≠0:=fun e=>by rw[e] at K;cases K
  rcases F with⟨rfl,_⟩|⟨e,_,_⟩
  ·refine eK (cv:=.pointer (some ⟨A.bW,A.off+off,none⟩)) ?_ G (by simp only[VR];exact⟨A,Y,rfl⟩)
   simp[execOp,ho,resolve,J,p,invoke,builtin,z,Lib.run_unsafeSliceData_row w _ _ _ l cap ax]
  exact absurd e Z
theorem conv2_sound(F:AR P ρ nt E a)(G:R ρ C w)(M:fE ρ H.next H'.next){src dst:TypeId}{x:Operand}{L:aM}{io:bF}(ho:o.op= .convert src dst x)(I:cB P x=some L)(p:L9 P src dst L=some io)
  (J:∀f o,(∀l,io.reads E=some l→f∈l)→(∃g h,ρ f g=some h)→H.t.get f=some o→C f=some o) (h:io.ev call E H= .ok v H'):dI P o a w (c6 ρ C w H v H'):=by
 unfold L9 at p
 split at p
 ·rename_i e z A
  split at p
  ·rename_i K;cases p;exact convSB_sound F G M ho I z A K h
  cases p
 ·rename_i e z A
  split at p
  ·rename_i K;cases p;exact convBS_sound F G ho I z A K (fun f o O=>J f o (fun l e=>by cases e;exact O)) h
  cases p
 ·rename_i t z A;exact Tm F G ho I (.inl ⟨z,A⟩) p J h
 ·rename_i t z A;exact Tm F G ho I (.inr ⟨z,A⟩) p J h
 cases p
end
section
variable{P:Program}{ρ:Ho}{nt:Nat}{E:Env}{a:Act}{C:Nat→Option cZ}{w:World}{H H':aC}{v:aw}{o:Oper}{call:dr}
def gZ:Value→Lit
 |.bool b=>.bool b
 |.int k n=>.int k n
 |.string s=>.string s.data.toList
 |_=>.bool false
inductive vz:Nat→Value→Prop
 |int {q:IntKind} {n:Int}:vz (cI q) (.int q n)
 |bool {b:Bool}:vz 100 (.bool b)
 |str {s:ByteArray}:vz 101 (.string s)
def jt:List Nat→List Value→Prop
 |[],[]=>True
 |k::r,c::s=>vz k c∧jt r s
 |_,_=>False
theorem jt.split:∀{k l:List Nat}{cs:List Value},jt (k++l) cs→jt k (cs.take k.length)∧jt l (cs.drop k.length)
 |[],l,cs,h=>by simpa[jt] using h
 |x::k,l,[],h=>by simp[jt] at h
 |x::k,l,c::cs,h=>by
  have h:vz x c∧jt (k++l) cs:=h
  obtain⟨p,h2⟩:=jt.split h.2
  exact⟨by simpa[jt] using⟨h.1,p⟩,by simpa using h2⟩
theorem jt.length:∀{k:List Nat}{cs:List Value},jt k cs→cs.length=k.length
 |[],[],_=>rfl
 |[],_::_,h=>h.elim
 |_::_,[],h=>h.elim
 |_::k,_::cs,h=>by have:=jt.length h.2;simp[this]
def GF(P:Program)(t:TypeId)(x:Value)(l:List Value):Prop:=(P.plainKey t=true∧l=[x])∨∃fs xs,P.underlying t=some (.struct fs)∧x= .agg xs∧xs.toList=l
def EqV(P:Program)(d:Nat)(t:TypeId)(ks:List Nat):Prop:=∀(w:World)x y p z,GF P t x p→GF P t y z→jt ks p→jt ks z→∃r:Bool,(Op.equalIn d t x y).run P w= .ok r w∧(r=true↔p.map gZ=z.map gZ)
theorem T8(w:World){D:Nat}{e:TypeId}{k:List Nat}{xs:Array Value}{off:Nat}(z:uY P D e=some k)(G:k.length=P.cellsOf e)(I:jt k ((xs.toList.drop off).take k.length)):
  ∃a,(part e xs off).run P w= .ok a w∧GF P e a ((xs.toList.drop off).take k.length):=by
 cases D with
 |zero=>cases z
 |succ D=>
  unfold uY at z
  have plain:P.plainKey e=true→k.length=1→∃a,(part e xs off).run P w= .ok a w∧GF P e a ((xs.toList.drop off).take k.length):=fun A J=>by
   have h2:=I.length
   rw[J] at h2⊢
   obtain⟨a,F⟩:∃a,(xs.toList.drop off).take 1=[a]:=by
    match L:(xs.toList.drop off).take 1,h2 with
    |[a],_=>exact⟨a,rfl⟩
   exact⟨a,run_part_plain w A (getElem?_of_chunk F),.inl ⟨A,F⟩⟩
  split at z
  ·rename_i p;cases z;exact plain (by simp[Program.plainKey,p]) rfl
  ·rename_i p;cases z;exact plain (by simp[Program.plainKey,p]) rfl
  ·rename_i p;cases z;exact plain (by simp[Program.plainKey,p]) rfl
  ·rename_i fs p
   obtain⟨i,hi⟩:=info_of_underlying p
   have K:(xs.extract off (off+P.cellsOf e)).toList=(xs.toList.drop off).take (P.cellsOf e):=by
    rw[Qp];simp[List.extract]
   exact⟨.agg (xs.extract off (off+P.cellsOf e)),by simp[part,isAgg,run_underlying p,run_sizeOf w hi],.inr ⟨fs,_,p,rfl,by rw[K,G]⟩⟩
  cases z
theorem Tn{D dd:Nat}(K:∀t ks,uY P D t=some ks→P.keyTypeAt D t=true→EqV P dd t ks)(w:World)(xs ys:Array Value):∀(fs:List Field)(off:Nat)(ks:List Nat),HN P (uY P D) off fs=some ks→
  (∀f,f∈fs→f.name≠ "_"∧P.keyTypeAt D f.type=true)→jt ks (xs.toList.drop off)→jt ks (ys.toList.drop off)→
  ∃r:Bool,(Op.eqFields dd xs ys fs).run P w= .ok r w∧(r=true↔(xs.toList.drop off).map gZ=(ys.toList.drop off).map gZ)
 |[],off,ks,h,_,z,A=>by
  cases h
  refine⟨true,by simp[Op.eqFields],?_⟩
  rw[tm z.length,tm A.length];simp
 |f::r,off,ks,h,L,z,A=>by
  unfold HN at h
  split at h
  ·rename_i k F
   split at h
   ·rename_i G
    split at h
    ·rename_i l I
     cases h
     obtain⟨x1,x2⟩:=z.split
     obtain⟨J,M⟩:=A.split
     have Z:=x1.length;have ly:=J.length
     rw[Kg] at x2 M
     obtain⟨h1,h2⟩:=L f (by simp)
     obtain⟨a,O,i1⟩:=T8 w F G.2 x1
     obtain⟨b,U,i2⟩:=T8 w F G.2 J
     obtain⟨q,p3,Y⟩:=K _ _ F h2 w a b _ _ i1 i2 x1 J
     obtain⟨q',p4,e2⟩:=Tn K w xs ys r (off+k.length) l I (fun f hf=>L f (by simp[hf])) x2 M
     have sx:(xs.toList.drop off).map gZ=((xs.toList.drop off).take k.length).map gZ++(xs.toList.drop (off+k.length)).map gZ:=by rw[←Ft,←Kg,Fo]
     have sy:(ys.toList.drop off).map gZ=((ys.toList.drop off).take k.length).map gZ++(ys.toList.drop (off+k.length)).map gZ:=by rw[←Ft,←Kg,Fo]
     have p:(xs.toList.drop off).map gZ=(ys.toList.drop off).map gZ↔((xs.toList.drop off).take k.length).map gZ=((ys.toList.drop off).take k.length).map gZ∧(xs.toList.drop (off+k.length)).map gZ=(ys.toList.drop (off+k.length)).map gZ:=by
      rw[sx,sy]
      exact⟨fun e=>List.append_inj e (by rw[Fu,Fu,Z,ly]),fun e=>by rw[e.1,e.2]⟩
     rw[←G.1] at O U
     simp only[Op.eqFields,h1,ne_eq,not_false_eq_true,if_true,Sem.run_bind,O,U,p3,Result.andThen_ok]
     cases q
     ·exact⟨false,by simp,by rw[p];exact⟨fun h=>(by cases h),fun e=>absurd (Y.2 e.1) (by simp)⟩⟩
     exact⟨q',by simpa using p4,by rw[p,e2];simp[Y.1 rfl]⟩
    cases h
   cases h
  cases h
theorem Vj(dd:Nat):∀(D:Nat)(t:TypeId)(ks:List Nat),uY P D t=some ks→P.keyTypeAt D t=true→EqV P (dd+D) t ks
 |0,_,_,h,_=>by cases h
 |D+1,t,ks,h,J=>by
  intro w x y Z ly ix iy K L
  have one:∀{k:Nat},jt [k] Z→jt [k] ly→P.plainKey t=true→Z=[x]∧ly=[y]∧vz k x∧vz k y:=fun{k}O h2 U=>by
   have no:∀fs,P.underlying t=some (.struct fs)→False:=fun fs p=>by simp[Program.plainKey,p] at U
   rcases ix with⟨_,rfl⟩|⟨fs,_,p,_⟩
   ·rcases iy with⟨_,rfl⟩|⟨fs,_,p,_⟩
    ·exact⟨rfl,rfl,O.1,h2.1⟩
    exact(no fs p).elim
   exact(no fs p).elim
  unfold uY at h
  split at h
  ·rename_i p
   cases h
   obtain⟨rfl,rfl,I,G⟩:=one K L (by simp[Program.plainKey,p])
   generalize A:(100:Nat)=kk at I G
   cases I with
   |int=>rename_i q _;cases q<;>simp[cI] at A
   |str=>simp at A
   |bool=>
    generalize F:(100:Nat)=k2 at G
    cases G with
    |int=>rename_i q _;cases q<;>simp[cI] at F
    |str=>simp at F
    |bool=>exact⟨_,run_equalIn_bool' w _ t _ _ p,by simp[gZ]⟩
  ·rename_i k p
   cases h
   obtain⟨rfl,rfl,I,G⟩:=one K L (by simp[Program.plainKey,p])
   generalize A:cI k=kk at I G
   cases I with
   |bool=>cases k<;>simp[cI] at A
   |str=>cases k<;>simp[cI] at A
   |int=>
    rename_i q n
    obtain rfl:k=q:=HS (by rw[A];exact ga _)
    generalize F:cI k=k2 at G
    cases G with
    |bool=>cases k<;>simp[cI] at F
    |str=>cases k<;>simp[cI] at F
    |int=>
     rename_i q' m
     obtain rfl:k=q':=HS (by rw[F];exact ga _)
     exact⟨_,run_equalIn_int w _ t k k n m p,by simp[gZ]⟩
  ·rename_i p
   cases h
   obtain⟨rfl,rfl,I,G⟩:=one K L (by simp[Program.plainKey,p])
   generalize A:(101:Nat)=kk at I G
   cases I with
   |int=>rename_i q _;cases q<;>simp[cI] at A
   |bool=>simp at A
   |str=>
    generalize F:(101:Nat)=k2 at G
    cases G with
    |int=>rename_i q _;cases q<;>simp[cI] at F
    |bool=>simp at F
    |str=>
     refine⟨_,run_equalIn_string w _ t _ _ p,?_⟩
     simp only[gZ,lg,BW,BX,and_true,Lit.string.injEq,beq_iff_eq]
     rw[ByteArray.toList_eq,ByteArray.toList_eq]
  ·rename_i fs p
   split at h
   ·rename_i ks' Y
    split at h
    ·cases h
     have hP:P.fieldsOf t=fs:=by unfold Program.fieldsOf;rw[p]
     unfold Program.keyTypeAt at J
     simp only[p,ep,qK,Array.all_eq_true_iff_forall_mem,bne_iff_ne,ne_eq] at J
     have ag:∀{z l},GF P t z l→∃M,z= .agg M∧M.toList=l:=fun{z l}iz=>by
      rcases iz with⟨U,_⟩|⟨_,M,_,O,h2⟩
      ·simp[Program.plainKey,p] at U
      exact⟨M,O,h2⟩
     obtain⟨xs,rfl,rfl⟩:=ag ix
     obtain⟨ys,rfl,rfl⟩:=ag iy
     obtain⟨r,hr,hi⟩:=Tn (fun t ks=>Vj dd D t ks) w xs ys fs.toList 0 ks Y (fun f hf=>J.1.1 f (Array.mem_toList_iff.1 hf)) K L
     refine⟨r,?_,hi⟩
     rw[show dd+(D+1)=(dd+D)+1 from rfl,run_equalIn_agg w _ t xs ys (by rw[hP];exact p) J.2,hP]
     exact hr
    cases h
   cases h
  cases h
theorem leaf_ok{c:Nat}{x:aw}{cv:Value}(h:qa c x=true)(p:VR ρ x cv):vz c cv:=by
 unfold qa at h
 split at h
 ·have z:=cL h
  simp only[VR] at p
  subst p;subst z
  exact .int
 ·have z:=cL h
  simp only[VR] at p
  subst p;subst z
  exact .bool
 ·have z:=cL h
  simp only[VR] at p
  obtain⟨b,rfl,rfl,_⟩:=p
  subst z
  exact .str
 cases h
theorem Lz:∀{ks:List Nat}{l:List aw}{cs:List Value},gj ks l=true→cm ρ l cs→jt ks cs
 |[],[],_,_,p=>by simp only[cm] at p;subst p;trivial
 |c::r,x::s,_,h,p=>by
  simp only[gj,ep] at h
  simp only[cm] at p
  obtain⟨cv,t,rfl,z,h2⟩:=p
  exact⟨leaf_ok h.1 z,Lz h.2 h2⟩
 |[],_::_,_,h,_=>by simp[gj] at h
 |_::_,[],_,h,_=>by simp[gj] at h
theorem To{x y:aw}{A cy:Value}{r:Bool}(h:uS x y=some r)(p:VR ρ x A)(z:VR ρ y cy):r=true↔gZ A=gZ cy:=by
 unfold uS at h
 split at h
 ·rename_i k K L M
  split at h
  ·rename_i I
   cases h
   have:=HS I
   subst this
   simp only[VR] at p z
   subst p;subst z
   simp[gZ,rj]
  cases h
 ·cases h
  simp only[VR] at p z
  subst p;subst z
  simp[gZ]
 ·cases h
  simp only[VR] at p z
  obtain⟨F,rfl,rfl,rfl⟩:=p
  obtain⟨G,rfl,rfl,rfl⟩:=z
  have J:F.size=F.data.toList.length:=Array.length_toList.symm
  have h2:G.size=G.data.toList.length:=Array.length_toList.symm
  rw[J,h2,He]
  simp[gZ]
 cases h
theorem TG:∀{x y:List aw}{G cy:List Value}{r:Bool},mF x y=some r→cm ρ x G→cm ρ y cy→(r=true↔G.map gZ=cy.map gZ)
 |[],[],_,_,r,h,z,A=>by
  cases h
  simp only[cm] at z A
  subst z;subst A
  simp
 |x::s,y::t,_,_,r,h,z,A=>by
  simp only[cm] at z A
  obtain⟨cv,M,rfl,I,h2⟩:=z
  obtain⟨O,U,rfl,J,L⟩:=A
  unfold mF at h
  split at h
  ·rename_i e
   have F:=To e I J
   have K:=TG h h2 L
   simp only[lg,BX]
   exact⟨fun p=>⟨F.1 rfl,K.1 p⟩,fun p=>K.2 p.2⟩
  ·rename_i e
   have F:=To e I J
   split at h
   ·cases h
    simp only[lg,BX]
    exact⟨fun p=>(by cases p),fun p=>absurd (F.2 p.1) (by simp)⟩
   cases h
  cases h
 |[],_::_,_,_,_,h,_,_=>by cases h
 |_::_,[],_,_,_,h,_,_=>by cases h
theorem eqAgg_sound(hA:AR P ρ nt E a)(hR:R ρ C w){op:BinOp}{t t':TypeId}{fs:Array Field}{x z:Operand}{U Y:aM}{io:bF}(ho:o.op= .binOp op t x z t')(hx:cB P x=some U)(hz:cB P z=some Y)(hu:P.underlying t=some (.struct fs))
  (p:Pa P op t U Y=some io) (h:io.ev call E H= .ok v H'):dI P o a w (c6 ρ C w H v H'):=by
 unfold Pa at p
 split at p
 ·rename_i ks Z
  split at p
  ·rename_i hc
   have key:∀neg,(op= .eql∧neg=false)∨(op= .neq∧neg=true)→Cx (.agg ks) neg U Y E H= .ok v H'→dI P o a w (c6 ρ C w H v H'):=by
    intro neg wL h
    replace h:=dG h;obtain⟨u,hu1,h⟩:=h
    replace h:=dG h;obtain⟨u2,hu2,h⟩:=h
    replace h:=gV h;obtain⟨r,A,h⟩:=h
    rw[Lt] at h
    cases h
    have G:=hA.bU hx hu1
    have I:=hA.bU hz hu2
    cases u<;>try(cases A;done)
    rename_i la
    cases u2<;>try(cases A;done)
    rename_i lb
    have A:aI (gj ks la) (aI (gj ks lb) (mF la lb) none) none=some r:=A
    cases g1:gj ks la
    ·rw[g1] at A;cases A
    rw[g1,dw] at A
    cases g2:gj ks lb
    ·rw[g2] at A;cases A
    rw[g2,dw] at A
    simp only[VR] at G I
    obtain⟨J,e1,K,_⟩:=G
    obtain⟨L,e2,M,_⟩:=I
    have hla:=Lz g1 K
    have hlb:=Lz g2 M
    obtain⟨r',F,O⟩:=Vj 9988 12 t ks Z hc.1 w (.agg J) (.agg L) _ _ (.inr ⟨fs,J,hu,rfl,rfl⟩) (.inr ⟨fs,L,hu,rfl,rfl⟩) hla hlb
    have hrr:r'=r:=by
     have k:=TG A K M
     exact Bool.eq_iff_iff.2 (O.trans k.symm)
    subst hrr
    have hg:=run_eqGuard_agg (P:=P) w op t x z J L hc.2
    refine eK (cv:=.bool (Bool.xor neg r')) ?_ hR (by simp only[VR])
    simp only[execOp,ho,Sem.run_bind,e1,e2,hg,Result.andThen_ok]
    have F:(Op.equalIn 10000 t (.agg J) (.agg L)).run P w= .ok r' w:=F
    have he:(Op.equal t (.agg J) (.agg L)).run P w= .ok r' w:=F
    rcases wL with⟨rfl,rfl⟩|⟨rfl,rfl⟩
    ·simp only[binOp];simp[he]
    simp only[binOp];simp[he]
   cases op<;>simp only[eW,reduceCtorEq] at p
   ·subst p;exact key false (.inl ⟨rfl,rfl⟩) h
   subst p;exact key true (.inr ⟨rfl,rfl⟩) h
  cases p
 cases p
end
section
variable{P:Program}{ρ:Ho}{nt:Nat}{E:Env}{a:Act}{C:Nat→Option cZ}{w:World}{H H':aC}{v:aw}{o:Oper}{call:dr}
theorem freeze_heap(w:World)(b n:Nat)(p:n≠0)(k:Nat):(w.freeze ⟨b,0,none⟩ n).heap[k]?=(w.heap[k]?).map fun ob=>if k=b then(match ob with
   |.cells c elem (lo,hi)=>.cells c elem (if lo==hi then(0,0+n) else(min lo 0,max hi (0+n)))
   |o=>o) else ob:=by
 unfold World.freeze
 rw[bw p]
 show(w.heap.modify b _)[k]?=_
 rw[Qq]
 by_cases h:k=b
 ·subst h
  rw[bE rfl]
  congr 1
  funext ob
  rw[bE rfl]
  cases ob<;>rfl
 rw[bw (fun e=>h e.symm)]
 cases w.heap[k]?<;>simp[h]
theorem R.freeze(hR:R ρ C w){f g n m lo fl elem aL:Nat}{cs:RT}{p:Hm}(hC:C f=some (.row elem 1 aL m lo fl cs))(hh:ρ f g=some p)(GB:lo≤g)(hgm:g≤m)(hn:n≠0)(hng:n≤g)(K:fl=0∨fl=2)
  (W:Nat→Prop) (hW:W f) (n0:Nat):Ext W n0 n0 ρ ρ w (w.freeze ⟨p.bW,0,none⟩ n)∧R ρ (fun x=>if x=f then some (.row elem 1 aL m lo 2 cs) else C x) (w.freeze ⟨p.bW,0,none⟩ n):=by
 obtain⟨he,wJ,_,z⟩:=hR.obj f _ hC g p hh
 have z:=z GB hgm
 have aaL:p.ro=false:=by
  cases h:p.ro
  ·rfl
  have:=wJ h;omega
 have QI:=z.tG K
 obtain⟨c,fz,F,nT⟩:=z.row
 have CE:=z.CA K _ _ _ F
 have L:=freeze_heap w p.bW n hn
 have G:∀k,k≠p.bW→(w.freeze ⟨p.bW,0,none⟩ n).heap[k]?=w.heap[k]?:=fun k hk=>by
  rw[L k]
  cases w.heap[k]?<;>simp[hk]
 obtain⟨M,I,hfz'⟩:∃M,(w.freeze ⟨p.bW,0,none⟩ n).heap[p.bW]?=some (.cells c elem M)∧M.2≤m:=by
  rw[L p.bW,F]
  obtain⟨l1,h1⟩:=fz
  simp only[rO,if_true]
  by_cases A:l1=h1
  ·subst A
   exact⟨(0,0+n),by simp,by simp;omega⟩
  refine⟨(min l1 0,max h1 (0+n)),by simp[A],?_⟩
  have:h1≤m:=by
   rcases CE with h|h
   ·exact absurd h A
   simpa using h
  simp only
  omega
 have O:∀ad:Addr,(w.freeze ⟨p.bW,0,none⟩ n).cell? ad=w.cell? ad:=fun ad=>by
  by_cases A:ad.block=p.bW
  ·simp only[World.cell?,A,I,F]
  exact cell_of_heap (w:=w) (G _ A)
 have U:(w.freeze ⟨p.bW,0,none⟩ n).heap.size=w.heap.size:=by
  unfold World.freeze
  rw[bw hn]
  simp
 refine⟨⟨Ho.le_refl _,fun f' g' h' e=>.inl ⟨g',h',e⟩,fun _ _ _ e=>.inl e,fun b _ A=>G b fun e=>A f g p hh aaL hW e.symm,by rw[U];exact bM _,bM _,?_,?_,?_⟩,⟨?_,hR.nL,fun f' g' h' e=>by rw[U];exact hR.iH f' g' h' e,hR.uniq,fun f' g' h' e a b=>(hR.ct f' g' h' e a b).gl (O _)⟩⟩
 ·unfold World.freeze;rw[bw hn]
 ·unfold World.freeze;rw[bw hn]
 ·unfold World.freeze;rw[bw hn]
 intro f' o' uq g' h' hx
 have Y:(if f'=f then some (cZ.row elem 1 aL m lo 2 cs) else C f')=some o':=uq
 clear uq
 by_cases e:f'=f
 ·rw[bE e] at Y
  subst e
  cases Y
  obtain⟨_,r1,r2,r3⟩:=hR.obj f' _ hC g' h' hx
  refine⟨he,fun h=>by have:=r1 h;omega,r2,fun a1 a2=>?_⟩
  have r:=r3 a1 a2
  have J:∀i,i<g'→∃l,cs.get i=some l∧l.length=1∧∀j x,l[j]?=some x→fb x=true∧∃cv,(w.freeze ⟨p.bW,0,none⟩ n).cell? ⟨h'.bW,h'.off+i*1+j,none⟩=some cv∧VR ρ x cv:=fun i hi=>by
   obtain⟨l,l1,l2,l3⟩:=r.cell i hi
   exact⟨l,l1,l2,fun j x hj=>by rw[O];exact l3 j x hj⟩
  by_cases A:h'.bW=p.bW
  ·obtain⟨c1,uk,q1,q2⟩:=r.row
   rw[A,F] at q1
   cases q1
   refine⟨⟨c,M,by rw[A];exact I,q2⟩,r.fits,J,fun h=>by omega,fun _ i hi _=>?_,fun _=>r.tG K,fun _ c1 e1 uk Z=>?_⟩
   ·simp only[World.frozen?,A,I]
    obtain⟨l1,h1⟩:=M
    simp only at hfz'⊢
    simp
    omega
   rw[A,I] at Z
   cases Z
   right;omega
  have hw:=G _ A
  refine⟨by rw[hw];exact r.row,r.fits,J,fun h=>by omega,fun _ i hi uj=>by rw[frozen_of_heap (w:=w) hw];exact r.Bj ax i hi uj,fun _=>r.tG K,fun _ c1 e1 uk Z=>r.CA K c1 e1 uk (by rw[←hw];exact Z)⟩
 rw[bw e] at Y
 refine(hR.obj f' o' Y g' h' hx).gl (Ho.le_refl _) (G _ fun A=>?_)
 have:=(hR.nL _ _ _ _ _ _ hx hh e A).2
 rw[aaL] at this;cases this
theorem frz_ok{f e:Nat}{k:aC→aF}(h:j' f e H k= .ok v H'):∃aL m lo fl cs,H.t.get f=some (.row e 1 aL m lo fl cs)∧(fl=0∨fl=2)∧k ⟨H.next,H.bb,wrote f H.bb H.ws,H.t.set f (.row e 1 aL m lo 2 cs)⟩= .ok v H':=by
 cases H with
 |mk next bb ws t=>
  have h:iN (t.get f) (aF.err 46) (fun elem es aL m lo fl cs=>
   aI (Nat.beq elem e) (aI (Nat.beq es 1) (aI (aI (Nat.beq fl 0) true (Nat.beq fl 2)) (t.eX f (.row elem es aL m lo 2 cs) fun t=>k ⟨next,bb,wrote f bb ws,t⟩) (.err 46)) (.err 46)) (.err 46))= .ok v H':=h
  cases p:t.get f with
  |none=>rw[p] at h;cases h
  |some ob=>cases ob with
   |map=>rw[p] at h;cases h
   |row elem es aL m lo fl cs=>
    rw[p] at h
    have h:aI (Nat.beq elem e) (aI (Nat.beq es 1) (aI (aI (Nat.beq fl 0) true (Nat.beq fl 2)) (t.eX f (.row elem es aL m lo 2 cs) fun t=>k ⟨next,bb,wrote f bb ws,t⟩) (.err 46)) (.err 46)) (.err 46)= .ok v H':=h
    replace h:=dR h;obtain⟨z,h⟩:=h
    replace h:=dR h;obtain⟨A,h⟩:=h
    replace h:=dR h;obtain⟨F,h⟩:=h
    rw[GT.i9] at h
    have z:=cL z
    have A:=cL A
    have I:=h
    subst z;subst A
    have J:({next:=next,bb:=bb,ws:=ws,t:=t}:aC).t.get f=some (cZ.row elem 1 aL m lo fl cs):=p
    refine⟨aL,m,lo,fl,cs,rfl,?_,I⟩
    cases G:Nat.beq fl 0
    ·rw[G] at F;exact .inr (cL F)
    exact .inl (cL G)
theorem ustr_sound(hA:AR P ρ nt E a)(hR:R ρ C w){c:Call}{x y:Operand}{x' y':aM}{pt it e:TypeId}(ho:o.op= .call c)(hc:c.callee= .builtin .unsafeString)(z:c.args=#[x,y])(hx:cB P x=some x')(hy:cB P y=some y')
  (Z:c.argTypes=#[pt,it]) (hp:P.underlying pt=some (.pointer e)) (R3:P.cellsOf e=1) (hC:∀f o,f∈fX (x'.ev E)→(∃g h,ρ f g=some h)→H.t.get f=some o→C f=some o)
  (h:Ep e x' y' E H= .ok v H'):dI P o a w (c6 ρ C w H v H'):=by
 replace h:=dG h;obtain⟨u,hu,h⟩:=h
 cases A:Im u with
 |true=>
  rw[A,dw] at h
  have hun:u= .kN:=by cases u<;>first|rfl|cases A
  subst hun
  replace h:=dG h;obtain⟨u2,O,h⟩:=h
  replace h:=sL h;obtain⟨k,l0,rfl,h⟩:=h
  replace h:=xn h;obtain⟨l,rfl,h⟩:=h
  replace h:=dR h;obtain⟨U,h⟩:=h
  replace h:=dR h;obtain⟨I,h⟩:=h
  cases h
  have U:=cL U
  have I:=cL I
  have hk:k= .i64:=by cases k<;>simp[cI] at U<;>rfl
  subst hk;subst I
  have J:=hA.bU hx hu
  have h2:=hA.bU hy O
  simp only[VR] at J h2
  have F:(Builtin.unsafeString_ #[pt,it] o.type #[.pointer none,.int .i64 0]).run P w= .ok (.string .empty) w:=rfl
  refine .inl ⟨.string .empty,w,?_,ρ,?_,Ext.refl _ _ _ _,?_⟩
  ·have h2:a.eval y= .int .i64 0:=h2
   simp[execOp,ho,resolve,hc,z,invoke,builtin,J,h2,Z,F]
  ·simp only[VR]
   exact⟨_,rfl,rfl,rfl⟩
  rw[mD];exact hR
 |false=>
 rw[A,show∀a b:aF,aI false a b=b from fun _ _=>rfl] at h
 replace h:=xm h;obtain⟨f,g,off,rfl,h⟩:=h
 replace h:=dG h;obtain⟨u2,O,h⟩:=h
 replace h:=sL h;obtain⟨k,l0,rfl,h⟩:=h
 replace h:=xn h;obtain⟨l,rfl,h⟩:=h
 replace h:=dR h;obtain⟨b1,h⟩:=h
 replace h:=dR h;obtain⟨U,h⟩:=h
 replace h:=dR h;obtain⟨I,h⟩:=h
 replace h:=dR h;obtain⟨b4,h⟩:=h
 replace h:=gV h;obtain⟨L,hL,h⟩:=h
 replace h:=gV h;obtain⟨s,hs,h⟩:=h
 rw[eP] at h
 obtain⟨aL,m,lo,fl,cs,hg,wK,h⟩:=frz_ok h
 cases h
 have b1:=cL b1
 have U:=cL U
 have I:=aX I
 have b4:=aX b4
 have hk:k= .i64:=by cases k<;>simp[cI] at U<;>rfl
 subst hk;subst b1
 have J:=hA.bU hx hu
 have h2:=hA.bU hy O
 simp only[VR] at J h2
 obtain⟨hm,hh,J⟩:=J
 obtain⟨hlen,hel⟩:=HA hL
 obtain⟨K,g1,g2,g3⟩:=Lu hs
 have hbl:K.length=l:=g1.trans hlen
 subst hbl
 have G:=hC f _ (by rw[hu];simp[fX]) ⟨_,_,hh⟩ hg
 have Y:=hel (K.length-1) _ (dz ax)
 obtain⟨elem',dv,lJ,m',Ab,fl',cs',x1,hg',q1,q2,q3,q4,q5,_⟩:=Y
 rw[hg] at hg'
 cases hg'
 have hng:K.length≤g:=by simp at q4;omega
 obtain⟨_,_,_,p⟩:=hR.obj f _ G g hm hh
 have p:=p q1 q2
 have M:=p.tG wK
 obtain⟨cc,fz,QM,nT⟩:=p.row
 have QJ:=p.fits
 have hsh:w.shape? hm.bW=some (e,cc.size):=by simp[World.shape?,QM]
 have F:=Lib.run_unsafeString_row (P:=P) w pt it o.type e hp R3 hm.bW cc.size hsh K (by intro e0;rw[e0] at I;simp at I) ax ax (fun j b hj=>by
  have wM:=hel j _ (g3 j b hj)
  obtain⟨_,_,CH⟩:=hR.rd wM (G.trans hg.symm) hh ax
  obtain⟨cv,pH,hc2⟩:=CH 0 _ rfl
  simp only[VR] at hc2
  subst hc2
  rw[Addr.add_lit]
  simpa[M] using pH)
 obtain⟨r1,r2⟩:=hR.freeze (n:=K.length) G hh q1 q2 ax hng wK (Wr ⟨H.next,H.bb,wrote f H.bb H.ws,H.t.set f (.row e 1 aL m lo 2 cs)⟩) (LQ _ _ _) H.next
 refine .inl ⟨.string ⟨K.toArray⟩,w.freeze ⟨hm.bW,0,none⟩ K.length,?_,ρ,?_,r1,?_⟩
 ·rw[M] at J
  have h2:a.eval y= .int .i64 K.length:=h2
  simp[execOp,ho,resolve,hc,z,invoke,builtin,J,h2,Z,F]
 ·simp only[VR]
  exact⟨_,rfl,rfl,by rw[g2]⟩
 rw[Ly (G.trans hg.symm) hg]
 exact r2
end
section
variable{P:Program}{ρ:Ho}{nt:Nat}{E:Env}{a:Act}{C:Nat→Option cZ}{w:World}{H H':aC}{v:aw}{o:Oper}
theorem WV{mx:Bool}{k:IntKind}:∀{vs:List aw}{mX:List Value}{n:Int}{r:aw},cm ρ vs mX→Cy mx k vs n=some r→
  ∃m,r= .int k m∧(mX.foldlM (if mx=true then Builtin.max2 else Builtin.min2) (.int k n)).run P w= .ok (.int k m) w
 |[],mX,n,r,p,h=>by
  simp only[cm] at p
  subst p
  cases h
  exact⟨n,rfl,rfl⟩
 |x::vs,mX,n,r,p,h=>by
  simp only[cm] at p
  obtain⟨cv,t,rfl,z,h2⟩:=p
  replace h:WM x none (fun _ b=>jM (aI (aI mx (fM n b) (fM b n)) b n) (Cy mx k vs))=some r:=h
  cases x<;>try(cases h;done)
  rename_i A b
  replace h:jM (aI (aI mx (fM n b) (fM b n)) b n) (Cy mx k vs)=some r:=h
  rw[sI] at h
  simp only[VR] at z
  subst z
  obtain⟨m,F,G⟩:=WV (mX:=t) h2 h
  refine⟨m,F,?_⟩
  rw[List.foldlM_cons]
  have e:((if mx=true then Builtin.max2 else Builtin.min2) (.int k n) (.int A b)).run P w= .ok (.int k (aI (aI mx (fM n b) (fM b n)) b n)) w:=by
   cases mx
   ·simp only[ju,if_false,chk_false,nC,ri,jA];rfl
   simp only[if_true,dw,nC,ri,jA];rfl
  simp only[Sem.run_bind,e]
  exact G
theorem Tb(K:AR P ρ nt E a)(M:R ρ C w){mx:Bool}{c:Call}{x:Operand}{r:List Operand}{L:aM}{r':List aM}(ho:o.op= .call c)(G:c.callee= .builtin (if mx=true then .max else .min))(A:c.args.toList=x::r)(O:cB P x=some L)(U:jN P r=some r')
  (h:Di mx L r' E H= .ok v H'):dI P o a w (c6 ρ C w H v H'):=by
 replace h:=dG h;obtain⟨u,Y,h⟩:=h
 replace h:=sL h;obtain⟨k,n,rfl,h⟩:=h
 replace h:=gV h;obtain⟨vs,I,h⟩:=h
 replace h:=gV h;obtain⟨res,F,h⟩:=h
 cases h
 have J:=K.bU O Y
 have h2:=K.cR U I
 simp only[VR] at J
 obtain⟨m,rfl,p⟩:=WV (P:=P) (w:=w) h2 F
 have z:c.args=(x::r).toArray:=by rw[←A]
 refine eK (cv:=.int k m) ?_ M (by simp only[VR])
 cases mx
 ·simp only[ju,if_false] at G p
  simp[execOp,ho,resolve,G,z,invoke,builtin,Builtin.min_,J,p]
 simp only[if_true] at G p
 simp[execOp,ho,resolve,G,z,invoke,builtin,Builtin.max_,J,p]
end
section
variable{P:Program}{ρ:Ho}{nt:Nat}{E:Env}{a:Act}{C:Nat→Option cZ}{w:World}{H H':aC}{v:aw}{o:Oper}
def lV(p:List Value):Nat→List Value
 |0=>[]
 |n+1=>p++lV p n
theorem Lv(p:List Value):∀n,(lV p n).length=n*p.length
 |0=>by simp[lV]
 |n+1=>by rw[lV,fZ,Lv p n,tp,Nat.add_comm]
theorem Vk{p:List Value}{x:Value}:∀{n},x∈lV p n→x∈p
 |0,h=>by cases h
 |n+1,h=>(List.mem_append.1 h).elim id Vk
theorem Vl(p:List Value):∀(n i:Nat),i<n*p.length→(lV p n)[i]?=p[i % p.length]?
 |0,i,h=>by simp at h
 |n+1,i,h=>by
  rw[tp] at h
  by_cases hi:i<p.length
  ·rw[lV,tn hi,BR hi]
  have z:=Nat.mod_eq_sub_mod (show p.length≤i by omega)
  rw[lV,rQ ax,Vl p n _ ax,←z]
theorem zeroCells_eq(z:Array Value)(n:Nat):(Builtin.zeroCells z n).toList=lV z.toList n:=by
 apply List.ext_getElem?
 intro i
 by_cases hi:i<n*z.size
 ·rw[Vl _ _ _ (by simpa using hi)]
  have p:0<z.size:=by
   rcases Nat.eq_zero_or_pos z.size with h|h
   ·rw[h] at hi;omega
   exact h
  have A:i % z.size<z.size:=yE _ p
  simp[Builtin.zeroCells,hi,A]
 rw[yL (by simp[Builtin.zeroCells];omega),yL (by rw[Lv];simpa using hi)]
theorem Tc(b:Nat):∀(x y:List Value)(k:Nat)(w:World),w.setCells b k (x++y)=(w.setCells b k x).setCells b (k+x.length) y
 |[],y,k,w=>by simp[World.setCells]
 |v::r,y,k,w=>by
  simp only[yF,World.setCells,kZ]
  rw[Tc b r y]
  congr 1
  omega
theorem upd_chain{H1:aC}{f:Nat}(F:H1.next=H.next)(h2:H'.next=H.next)(I:C f=H.t.get f)(z:∀x,x≠f→H1.t.get x=H.t.get x)(A:∀x,x≠f→H'.t.get x=H1.t.get x):dZ (dZ C H H1) H1 H'=dZ C H H':=by
 funext x
 unfold dZ
 have G:¬(H.next≤x∧x<H.next):=by omega
 simp only[F,h2,bw G]
 by_cases p:x=f
 ·subst p
  by_cases J:H'.t.get x=H1.t.get x<;>by_cases K:H1.t.get x=H.t.get x<;>by_cases L:H'.t.get x=H.t.get x<;>simp_all
 rw[bE (A x p),bE (z x p),bE ((A x p).trans (z x p))]
theorem T9{f g es:Nat}{z:List aw}{L:List Value}{h:Hm}(Z:ρ f g=some h)(he:0<es)(M:cm ρ z L)(hz:z.length=es)(hk:z.all fb=true):∀{n off:Nat}{H:aC}{C:Nat→Option cZ}{w:World},R ρ C w→C f=H.t.get f→pr f g es z n off H= .ok v H'→
  v= .tuple []∧H'.next=H.next∧H'.bb=H.bb∧(∀x,x∈H.ws→x∈H'.ws)∧(∀x,x≠f→H'.t.get x=H.t.get x)∧
  (∀j,j<n*es→(w.cell? ⟨h.bW,h.off+off+j,none⟩).isSome=true)∧(∀j,j<n*es→w.frozen? ⟨h.bW,h.off+off+j,none⟩=false)∧(0<n→h.ro=false∧(f<H.bb→f∈H'.ws))∧
  R ρ (dZ C H H') (w.setCells h.bW (h.off+off) (lV L n))
 |0,off,H,C,w,O,K,p=>by
  cases p
  exact⟨rfl,rfl,rfl,fun _ h=>h,fun _ _=>rfl,fun j I=>by omega,fun j I=>by omega,fun h=>by omega,by rw[mD];exact O⟩
 |n+1,off,H,C,w,O,K,p=>by
  have p:Go.Ev.wr H f g off es z (aF.err 28) (fun H=>Go.Ev.cA (Nat.add off es) fun off=>pr f g es z n off H)=aF.ok v H':=p
  obtain⟨H1,hw,p⟩:=Ey p
  rw[eP] at p
  obtain⟨k1,k2,k3,k4⟩:=O.write hw K Z he M hk
  have U:L.length=es:=M.length.trans hz
  obtain⟨elem,dv,aL,lo,cs,x,hg,_,_,_,_,_,J⟩:=hw
  have n1:H1.next=H.next:=by rw[J]
  have m1:H1.bb=H.bb:=by rw[J]
  have w1:∀y,y∈H.ws→y∈H1.ws:=fun y A=>by rw[J];exact(uP _ _ _ _).2 (.inl A)
  have w2:f<H.bb→f∈H1.ws:=fun F=>by rw[J];exact(uP _ _ _ _).2 (.inr ⟨rfl,F⟩)
  have s5:∀y,y≠f→H1.t.get y=H.t.get y:=fun y A=>by rw[J];show(H.t.set f _).get y=_;rw[GT.c7,bw A]
  have Y:dZ C H H1 f=H1.t.get f:=by
   unfold dZ
   rw[n1,bw ax]
   by_cases e:H1.t.get f=H.t.get f
   ·rw[bE e,K,e]
   rw[bw e]
  obtain⟨r1,r2,r3,r4,r5,r6,r7,r8,r9⟩:=T9 Z he M hz hk (n:=n) k4 Y p
  refine⟨r1,r2.trans n1,r3.trans m1,fun y A=>r4 y (w1 y A),fun y A=>(r5 y A).trans (s5 y A),fun j I=>?_,fun j I=>?_,fun _=>⟨k3,fun F=>r4 f (w2 F)⟩,?_⟩
  ·by_cases G:j<es
   ·exact k1 j G
   have:=r6 (j-es) (by rw[tp] at I;omega)
   rw[show h.off+Nat.add off es+(j-es)=h.off+off+j by show h.off+(off+es)+(j-es)=_;omega,World.cell?_setCells_out _ _ _ _ _ (fun _ _=>by right;simp only;omega)] at this
   exact this
  ·by_cases G:j<es
   ·exact k2 j G
   have:=r7 (j-es) (by rw[tp] at I;omega)
   rw[World.frozen?_setCells,show h.off+Nat.add off es+(j-es)=h.off+off+j by show h.off+(off+es)+(j-es)=_;omega] at this
   exact this
  rw[upd_chain (C:=C) (H:=H) (H1:=H1) (f:=f) n1 (r2.trans n1) K s5 r5] at r9
  rw[lV,Tc,U,show h.off+off+es=h.off+Nat.add off es by show _=h.off+(off+es);omega]
  exact r9
theorem clear_sound(hA:AR P ρ nt E a)(Z:R ρ C w){c:Call}{x:Operand}{x':aM}{t e:TypeId}{i:TypeInfo}{z:List aw}
  (ho:o.op= .call c) (hc:c.callee= .builtin .clear) (A:c.args=#[x]) (hx:cB P x=some x') (h0:c.argTypes[0]?=some t) (ht:P.underlying t=some (.slice e)) (hi:P.info? e=some i) (hz:zeroOf P e=some z)
  (hC:∀f o,f∈fX (x'.ev E)→(∃g h,ρ f g=some h)→H.t.get f=some o→C f=some o)
  (h:En i.size x' (.c (.agg z)) E H= .ok v H'):dI P o a w (c6 ρ C w H v H'):=by
 replace h:=dG h;obtain⟨xa,K,h⟩:=h
 have F:=hA.bU hx K
 obtain⟨i',J,L,KY,M,O,R1,U,CG⟩:=xg hz
 rw[hi] at L
 cases L
 replace h:=uM h
 rcases h with⟨rfl,h⟩|⟨f,g,off,l,es,rfl,h⟩
 ·cases h
  simp only[VR] at F
  refine .inl ⟨.tuple #[],w,?_,ρ,by simp only[VR];exact⟨#[],rfl,by simp[cm]⟩,Ext.refl _ _ _ _,by rw[mD];exact Z⟩
  have p:(Builtin.clear_ c.argTypes o.type #[.slice none 0 0]).run P w= .ok (.tuple #[]) w:=by
   simp[Builtin.clear_,h0,run_underlying ht]
  simp[execOp,ho,resolve,hc,A,invoke,builtin,F,p]
 replace h:=dG h;obtain⟨zz,I,h⟩:=h
 have I:zz= .agg z:=by
  have:some (aw.agg z)=some zz:=I
  cases this;rfl
 subst I
 have h2:aI (Nat.beq es i.size) (aI (Nat.ble 1 i.size) (pr f g i.size z l off H) (.err 28)) (.err 28)= .ok v H':=h
 clear h
 obtain⟨b1,h3⟩:=dR h2
 obtain⟨b2,h⟩:=dR h3
 clear h2 h3
 have b1:=cL b1
 subst b1
 simp only[VR] at F
 obtain⟨G,ad,cap,hh,F,RW,Aa⟩:=F
 cases l with
 |zero=>
  have h:aF.ok (aw.tuple []) H= .ok v H':=h
  cases h
  refine .inl ⟨.tuple #[],w,?_,ρ,by simp only[VR];exact⟨#[],rfl,by simp[cm]⟩,Ext.refl _ _ _ _,by rw[mD];exact Z⟩
  have p:(Builtin.clear_ c.argTypes o.type #[.slice (some ad) 0 cap]).run P w= .ok (.tuple #[]) w:=by
   simp[Builtin.clear_,h0,run_underlying ht]
  simp[execOp,ho,resolve,hc,A,invoke,builtin,F,p]
 |succ n=>
  rcases Aa with⟨rfl,_⟩|⟨h0,_⟩
  ·obtain⟨H1,hw,_⟩:=Ey (show Go.Ev.wr H f g off i.size z (aF.err 28) (fun H=>Go.Ev.cA (Nat.add off i.size) fun off=>pr f g i.size z n off H)=aF.ok v H' from h)
   obtain⟨_,_,_,_,_,_,hg,_⟩:=hw
   have uo:C f=H.t.get f:=(hC f _ (by rw[K];simp[fX]) ⟨_,_,hh⟩ hg).trans hg.symm
   obtain⟨r1,r2,r3,r4,r5,r6,r7,r8,r9⟩:=T9 hh U (M ρ) R1 O Z uo h
   obtain⟨ro,rw1⟩:=r8 (Kc n)
   subst r1
   obtain⟨s1,s2,s3,s4,s5,s6⟩:=CU G.bW (lV J.cells.toList (n+1)) (G.off+off) w
   have hlen:(lV J.cells.toList (n+1)).length=(n+1)*i.size:=by rw[Lv,ml,CG]
   have h1:∀x∈lV J.cells.toList (n+1),x.oneCell'=true:=fun x hx=>(M ρ).LP O x (Vk hx)
   have Y:=run_storeCells_cells (P:=P) G.bW (G.off+off) (lV J.cells.toList (n+1)) 0 w (by rw[hlen];simpa using r6) (by rw[hlen];simpa using r7) h1
   simp only[rP] at Y
   have p:(Builtin.clear_ c.argTypes o.type #[.slice (some ⟨G.bW,G.off+off,none⟩) (n+1) cap]).run P w= .ok (.tuple #[]) (w.setCells G.bW (G.off+off) (lV J.cells.toList (n+1))):=by
    simp[Builtin.clear_,h0,run_underlying ht,zeroValue,typeInfo,hi,KY,zeroCells_eq,Y]
   refine .inl ⟨.tuple #[],w.setCells G.bW (G.off+off) (lV J.cells.toList (n+1)),?_,ρ,by simp only[VR];exact⟨#[],rfl,by simp[cm]⟩,?_,r9⟩
   ·simp[execOp,ho,resolve,hc,A,invoke,builtin,F,p]
   refine⟨Ho.le_refl _,fun f g h e=>.inl ⟨g,h,e⟩,fun _ _ _ e=>.inl e,fun b hb hf=>?_,by rw[s1];exact bM _,by rw[r2];exact bM _,s4,s5,s6⟩
   refine s2 b fun e=>?_
   refine hf f g G hh ro ?_ e.symm
   unfold Wr
   rw[r3]
   by_cases ss:f<H.bb
   ·exact .inl (rw1 ss)
   exact .inr ax
  omega
end
section
variable{P:Program}{ρ:Ho}{nt:Nat}{E:Env}{a:Act}{C:Nat→Option cZ}{w:World}{H H':aC}{v:aw}{o:Oper}{call:dr}{io:bF}
def Vm(io:bF)(E:Env)(ρ:Ho)(C:Nat→Option cZ)(H:aC):Prop:=
 ∀f o,(∀l,io.reads E=some l→f∈l)→(∃g h,ρ f g=some h)→H.t.get f=some o→C f=some o
theorem CZ{l:List Operand}{A:aM}(h:jN P l=some [A]):∃x,l=[x]∧cB P x=some A:=by
 cases l with
 |nil=>simp[jN] at h
 |cons x r=>
  simp only[jN] at h
  split at h
  ·rename_i y l F p
   cases h
   cases r with
   |nil=>exact⟨x,rfl,F⟩
   |cons z s=>
    simp only[jN] at p
    split at p<;>cases p
  cases h
theorem Hb{l:List Operand}{p:aM}{r':List aM}(h:jN P l=some (p::r')):∃x r,l=x::r∧cB P x=some p∧jN P r=some r':=by
 cases l with
 |nil=>simp[jN] at h
 |cons x r=>
  simp only[jN] at h
  split at h
  ·rename_i y l z A
   cases h
   exact⟨x,r,rfl,z,A⟩
  cases h
theorem CW{c:Array Operand}{l:List Operand}(h:c.toList=l):c=l.toArray:=by rw[←h]
theorem callOf_sound(K:AR P ρ nt E a)(J:R ρ C w)(hF:fE ρ H.next H'.next)(hK:Vm io E ρ C H)(hm:H.bb≤H.next)(mY:∀x,H.next≤x→H.t.get x=none)(hc:jc P call){c:Call}
  (ho:o.op= .call c) (p:M4 P c=some io) (h:io.ev call E H= .ok v H'):dI P o a w (c6 ρ C w H v H'):=by
 unfold M4 at p
 split at p
 ·rename_i f args F A
  split at p
  ·rename_i f
   cases p
   exact call_sound K J hF (fun f L=>hK f L (fun l e=>by cases e)) hm mY hc ho F A h
  split at p
  ·rename_i y hy
   cases p
   exact callv_sound K J hF (fun f L=>hK f L (fun l e=>by cases e)) hm mY hc ho F hy A h
  cases p
 ·rename_i x' F A
  obtain⟨x,G,I⟩:=CZ A
  have G:=CW G
  split at p
  ·rename_i t O
   split at p
   ·rename_i U
    cases p
    exact lenS_sound K J ho F G I O U h
   ·rename_i e U
    cases p
    exact len_sound K J ho F G I O U h
   ·rename_i n e U
    cases p
    exact lenK_sound (E:=E) J ho F G O U h
   cases p
  cases p
 ·rename_i x' y' F A
  obtain⟨x,r,G,I,Y⟩:=Hb A
  obtain⟨y,Z,hy⟩:=CZ Y
  subst Z
  have G:=CW G
  split at p
  ·rename_i t u O U
   split at p
   ·rename_i e e2 M R4
    split at p
    ·rename_i i z hi hz
     split at p
     ·rename_i hb
      cases p
      exact app_sound K J hF ho F G I hy O U M R4 hi hz hb (fun f L hf=>hK f L (fun l e=>by cases e;exact hf)) h
     cases p
    cases p
   ·rename_i e M R4
    split at p
    ·rename_i i z hi hz
     split at p
     ·rename_i hb
      cases p
      exact appStr_sound K J hF ho F G I hy O U M R4 hi hz hb.1 hb.2 (fun f L hf=>hK f L (fun l e=>by cases e;exact hf)) h
     cases p
    cases p
   cases p
  cases p
 ·rename_i x' F A
  obtain⟨x,G,I⟩:=CZ A
  have G:=CW G
  split at p
  ·rename_i t O
   split at p
   ·rename_i e M
    split at p
    ·rename_i i z hi hz
     cases p
     exact clear_sound K J ho F G I O M hi hz (fun f L hf=>hK f L (fun l e=>by cases e)) h
    cases p
   cases p
  cases p
 ·rename_i x' F A
  obtain⟨x,G,I⟩:=CZ A
  have G:=CW G
  cases p
  exact usd_sound K J ho F G I h
 ·rename_i x' y' F A
  obtain⟨x,r,G,I,Y⟩:=Hb A
  obtain⟨y,Z,hy⟩:=CZ Y
  subst Z
  have G:=CW G
  split at p
  ·rename_i pt it R5
   have R5:c.argTypes=#[pt,it]:=Array.ext' R5
   split at p
   ·rename_i e hp
    split at p
    ·rename_i he
     cases p
     exact ustr_sound K J ho F G I hy R5 hp he (fun f L hf=>hK f L (fun l e=>by cases e;exact hf)) h
    cases p
   cases p
  cases p
 ·rename_i l F A
  cases l with
  |nil=>cases p
  |cons x' r'=>
   obtain⟨x,r,G,I,Y⟩:=Hb A
   cases p
   exact Tb (mx:=false) K J ho F G I Y h
 ·rename_i l F A
  cases l with
  |nil=>cases p
  |cons x' r'=>
   obtain⟨x,r,G,I,Y⟩:=Hb A
   cases p
   exact Tb (mx:=true) K J ho F G I Y h
 cases p
theorem T'(p:FN P o.op=some io)(I:AR P ρ nt E a)(F:R ρ C w)(Z:fE ρ H.next H'.next)(hK:Vm io E ρ C H)(hm:H.bb≤H.next)(mY:∀x,H.next≤x→H.t.get x=none)(hc:jc P call)
  (h:io.ev call E H= .ok v H'):dI P o a w (c6 ρ C w H v H'):=by
 generalize A:o.op=op at p
 unfold FN at p
 split at p
 ·split at p
  ·rename_i y G;cases p;exact T3 I F (.inl A) G h
  cases p
 ·split at p
  ·rename_i y G;cases p;exact T3 I F (.inr A) G h
  cases p
 ·split at p
  ·rename_i c' a' b' h1 h2 h3;cases p;exact pick_sound I F A h1 h2 h3 h
  cases p
 ·split at p
  ·rename_i z i hz hi;cases p;exact boxz_sound (E:=E) F Z A hz hi h
  cases p
 ·split at p
  ·rename_i n i y K hi G;cases p;exact box_sound I F Z A G K h
  cases p
 ·exact build_sound I F A p h
 ·exact buildSl_sound I F Z A p h
 ·split at p
  ·rename_i n y K G;cases p;exact load_sound I F A G K (fun f o' Y=>hK f o' (fun l e=>by cases e;exact Y)) h
  cases p
 ·split at p
  ·rename_i n y z K G hz;cases p;exact store_sound I F A G hz K (fun f o' Y=>hK f o' (fun l e=>by cases e;exact Y)) h
  cases p
 ·split at p
  ·rename_i y G;cases p;exact nilck_sound I F A G h
  cases p
 ·split at p
  ·rename_i U y' J G
   unfold Y1 at p
   split at p
   ·cases p;exact T5 I F A J G h
   ·cases p;exact T5 I F A J G h
   ·rename_i fs hu;exact eqAgg_sound I F A J G hu p h
   ·rename_i d _ _ _ hu;exact eqv_sound I F A J G hu p h
   cases p
  cases p
 ·split at p
  ·rename_i y G;cases p;exact un_sound I F A G h
  cases p
 ·split at p
  ·rename_i y G
   unfold WN at p
   split at p
   ·rename_i hs hd;cases p;exact conv_sound I F A G hs hd h
   exact conv2_sound I F Z A G p (fun f o' hl=>hK f o' hl) h
  cases p
 ·split at p
  ·cases p
  ·rename_i d y qN hd G;cases p;exact mkif_sound I F A hd (fun ms e=>qN ms (e▸rfl)) G h
  cases p
 ·split at p
  ·rename_i fs l hfs hl;cases p;exact mkfn_sound I F A hfs hl h
  cases p
 ·split at p
  ·rename_i U y' J G;exact mksl_sound I F Z A J G p h
  cases p
 ·split at p
  ·rename_i U Ab um L J M O;cases p;exact slStr_sound I F A J M O L h
  ·rename_i e U Ab um L J M O
   split at p
   ·rename_i n K;cases p;exact slSl_sound I F A J M O L K h
   cases p
  ·cases p
  cases p
 ·split at p
  ·rename_i e U Ab um mx' L J M O RY
   split at p
   ·rename_i n K;cases p;exact sl3_sound I F A J M O RY L K h
   cases p
  cases p
 ·split at p
  ·rename_i fs y hs G
   split at p
   ·rename_i fd Y
    split at p
    ·rename_i n K
     cases p
     obtain⟨i,d,hi,_,e,h0⟩:=sM K
     exact offs_sound I F A G hs Y hi ax h
    cases p
   cases p
  cases p
 ·split at p
  ·rename_i fs y hs G
   split at p
   ·rename_i fd Y
    split at p
    ·rename_i n K;cases p;exact sub_sound I F A G hs Y K h
    cases p
   cases p
  cases p
 ·split at p
  ·rename_i k e U i' L J hi
   split at p
   ·rename_i n K
    split at p
    ·cases p;exact idxArr_sound I F A J hi L K h
    cases p
   cases p
  ·rename_i e U i' L J hi
   split at p
   ·rename_i n K;cases p;exact idxSl_sound I F A J hi L K h
   cases p
  cases p
 ·split at p
  ·rename_i k e U i' L J hi
   split at p
   ·rename_i n K;cases p;exact idxVal_sound I F A J hi L K h
   cases p
  ·rename_i U i' L J hi
   cases p
   exact idxStr_sound I F A J hi L h
  cases p
 ·split at p
  ·rename_i y G;cases p;exact extr_sound I F A G h
  cases p
 ·exact callOf_sound I F Z hK hm mY hc A p h
 cases p
end
def iD(E:Env)(d:Option Key)(v:aw):Env:=match d with|some d=>E.set d v|none=>E
theorem Iu{dst:Option Key}{E E':Env}{H':aC}{k:Env→aC→dq}{r:aF}(h:fin dst E k r= .ok E' H'):∃v H1,r= .ok v H1∧k (iD E dst v) H1= .ok E' H':=by
 cases r with
 |err n=>cases h
 |ok v H1=>
  refine⟨v,H1,rfl,?_⟩
  cases dst with
  |none=>exact h
  |some d=>
   have h:E.B7 d v (fun E=>k E H1)= .ok E' H':=h
   rw[T4.Dd] at h
   exact h
theorem uU(dst:Option Key)(E:Env)(H:aC)(k:Env→aC→dq):ib dst E H k=k (iD E dst .undef) H:=by
 cases dst with
 |none=>rfl
 |some d=>show E.B7 d .undef (fun E=>k E H)=_;rw[T4.Dd];rfl
inductive mf(E:Env):Option (Key×Bool)→Bool→Prop
 |none:mf E none true
 |slot {t:Key} {want b:Bool}:E.get t=some (.bool b)→mf E (some (t,want)) (b==want)
 |off {t:Key} {want:Bool}:E.get t=some .undef→mf E (some (t,want)) false
theorem Vn{call:dr}{o:bK}{E E':Env}{H H':aC}{k:Env→aC→dq}(h:o.step call E H k= .ok E' H'):
  (mf E o.g true∧∃v H1,o.op.ev call E H= .ok v H1∧k (iD E o.dst v) H1= .ok E' H')∨(mf E o.g false∧k (iD E o.dst .undef) H= .ok E' H'):=by
 obtain⟨dst,g,q,op⟩:=o
 cases g with
 |none=>exact .inl ⟨.none,Iu h⟩
 |some A=>
  obtain⟨t,want⟩:=A
  have h:ob (E.get t) (dq.err 51) (fun v=>we v (ib dst E H k) fun b=>aI (Bool.xor b want) (ib dst E H k) (bK.run call ⟨dst,some (t,want),q,op⟩ E H k))= .ok E' H':=h
  cases p:E.get t with
  |none=>rw[p] at h;cases h
  |some v=>
   rw[p] at h
   cases v<;>try(cases h;done)
   case undef=>
    have h:ib dst E H k= .ok E' H':=h
    rw[uU] at h
    exact .inr ⟨.off p,h⟩
   rename_i b
   have h:aI (Bool.xor b want) (ib dst E H k) (bK.run call ⟨dst,some (t,want),q,op⟩ E H k)= .ok E' H':=h
   have z:=mf.slot (E:=E) (want:=want) p
   cases b<;>cases want
   ·exact .inl ⟨z,Iu h⟩
   ·rw[show Bool.xor false true=true from rfl,dw,uU] at h;exact .inr ⟨z,h⟩
   ·rw[show Bool.xor true false=true from rfl,dw,uU] at h;exact .inr ⟨z,h⟩
   exact .inl ⟨z,Iu h⟩
structure Cd(P:Program)(nt:Nat)(ops:Array Oper)(o:Oper)(io:bK):Prop where
 dst:o.dst=io.dst.map Key.n
 lt:∀d,io.dst=some d→d.n<nt
 g:(o.guard=none∧io.g=none)∨∃j want d,o.guard=some (j,want)∧(ops[j]?).bind (·.dst)=some d.n∧io.g=some (d,want)
 op:FN P o.op=some io.op∨io.op=bad
theorem Vo{call:dr}{E:Env}{H H':aC}{v:aw}(h:bad.ev call E H= .ok v H'):False:=by cases h
section
variable{P:Program}{ρ:Ho}{nt:Nat}{E:Env}{a:Act}{C:Nat→Option cZ}{w:World}{H H':aC}{v:aw}{call:dr}{ops:Array Oper}{Q:Exit→Act→World→Prop}
theorem LA{o:Oper}{io:bK}{b:Bool}(ho:Cd P nt ops o io)(z:mf E io.g b)(I:∀t v,E.get t=some v→∃cv,a.tmps[t.n]?=some cv∧VR ρ v cv):Region.wanted o (yielded ops a.tmps)=b:=by
 unfold Region.wanted
 rcases ho.g with⟨A,h2⟩|⟨j,want,d,A,h2,J⟩
 ·rw[h2] at z
  rw[A]
  cases z
  rfl
 rw[J] at z
 rw[A]
 cases z with
 |slot F=>
  obtain⟨cv,G,p⟩:=I _ _ F
  simp only[VR] at p
  subst p
  simp only[yielded,h2,Option.bind_some,G]
  rename_i b
  cases b<;>cases want<;>rfl
 |off F=>
  obtain⟨cv,G,p⟩:=I _ _ F
  simp only[VR] at p
  subst p
  simp only[yielded,h2,Option.bind_some,G,undef]
  cases want<;>rfl
theorem Hp(z:iO ρ C H){ρ':Ho}(A:∀f g h,ρ' f g=some h→(∃g0 h0,ρ f g0=some h0)∨(H.next≤f∧f<H'.next)):iO ρ' (dZ C H H') H':=by
 intro f o p ho
 obtain⟨g,h,p⟩:=p
 unfold dZ
 split
 ·exact ho
 rename_i F
 split
 ·rename_i G
  refine z f o ?_ (G▸ho)
  rcases A f g h p with k|k
  ·exact k
  exact absurd k F
 exact ho
theorem fE.sub(h:fE ρ H.next H'.next){ρ':Ho}{n1:Nat}(p:∀f g h,ρ' f g=some h→(∃g0 h0,ρ f g0=some h0)∨(H.next≤f∧f<n1))(F:H.next≤n1):fE ρ' n1 H'.next:=by
 intro f g h2 z
 cases A:ρ' f g with
 |none=>rfl
 |some x=>
  rcases p f g x A with⟨g0,h0,e⟩|e
  ·rw[h f g0 ax z] at e;cases e
  omega
theorem fE.le{n0 n1 p:Nat}(h:fE ρ n0 p)(z:n1≤p):fE ρ n0 n1:=fun f g a b=>h f g a ax
theorem AR.Kk(h:AR P ρ nt E a){d:Option Key}(p:∀x,d=some x→x.n<nt){v:aw}{cv:Value}(z:VR ρ v cv):AR P ρ nt (iD E d v) (a.put (d.map Key.n) cv):=by
 cases d with
 |none=>exact h
 |some d=>exact h.put (p d rfl) z
theorem Hf(z:jc P call):∀(l:List bK)(E:Env)(H:aC)(E':Env)(H':aC),H.bb≤H.next→me call l E H= .ok E' H'→ey H H'
 |[],E,H,E',H',_,h=>by cases h;exact ey.refl _
 |o::r,E,H,E',H',p,h=>by
  rcases Vn (show o.step call E H (me call r)= .ok E' H' from h) with⟨_,v,H1,A,h2⟩|⟨_,h2⟩
  ·have t1:=TM.ins p (fun f a=>z.lK f a H p) E o.op v H1 A
   exact t1.trans (Hf z r _ _ _ _ (by rw[t1.bb];exact fY p t1.next) h2)
  exact Hf z r _ _ _ _ p h2
def WF(H:aC):Prop:=∀x,H.next≤x→H.t.get x=none
theorem Mc{H1 z:aC}(h:ey H1 z)(f:Nat)(p:Wr H1 f):Wr z f:=by
 rcases p with p|p
 ·exact .inl (h.ws f p)
 exact .inr (by rw[h.bb];exact p)
def qB(P:Program)(nt:Nat)(E':Env)(H H':aC)(C:Nat→Option cZ)(ρ:Ho)(w:World)(K:Act→World→Prop):Prop:=
 ∀p w' ρ',AR P ρ' nt E' p→Ext (Wr H') H.next H'.next ρ ρ' w w'→R ρ' (dZ C H H') w'→iO ρ' (dZ C H H') H'→K p w'
theorem Ua{ρ:Ho}(Y:iO ρ C H){H1 p:aC}(h1:H.next≤H1.next)(h2:H1.next≤p.next)(z:∀f,H1.t.get f≠none→p.t.get f≠none){ρ':Ho}(Z:∀f g h,ρ' f g=some h→(∃g0 h0,ρ f g0=some h0)∨(H.next≤f∧f<p.next))
  (f:Nat) (o:cZ) (h:dZ C H p f=some o) (F:∃g x,ρ' f g=some x):dZ (dZ C H H1) H1 p f=some o:=by
 obtain⟨g,x,F⟩:=F
 unfold dZ at h⊢
 by_cases G:H1.next≤f∧f<p.next
 ·rw[bE ⟨ax,G.2⟩] at h
  rw[bE G]
  exact h
 rw[bw G]
 by_cases I:H.next≤f∧f<H1.next
 ·rw[bE ⟨I.1,ax⟩] at h
  rw[bE I]
  split
  ·rename_i e;rw[←e];exact h
  exact h
 have U:¬(H.next≤f∧f<p.next):=by omega
 rw[bw I]
 rw[bw U] at h
 have A:∃g0 h0,ρ f g0=some h0:=(Z f g x F).resolve_right U
 have J:=fun K=>Y f K A
 split
 ·rename_i e
  split
  ·rename_i L
   rw[bE (e.trans L)] at h
   exact h
  rename_i L
  rw[bw (by rw[e];exact L),e] at h
  exact h
 rename_i e
 split at h
 ·rename_i M
  rw[M]
  cases O:H.t.get f with
  |none=>
   have h3:H1.t.get f≠none:=fun e3=>e (by rw[M,O,e3])
   exact absurd (M.trans O) (z f h3)
  |some K=>
   rw[J K O] at h
   exact h
 exact h
theorem rest_ok{o:Oper}{io:bK}{H1:aC}{E':Env}{K:Act→World→Prop}(ho:Cd P nt ops o io)(hA:AR P ρ nt E a)(J:iO ρ C H)(L:ey H H1)(F:ey H1 H')
  (G:qB P nt E' H H' C ρ w K) {cv:Value} {w':World} (hp:c6 ρ C w H v H1 cv w') {K':Act→World→Prop}
  (hk:∀ρ' M,AR P ρ' nt (iD E io.dst v) (a.put o.dst cv)→R ρ' M w'→iO ρ' M H1→(∀f g h,ρ' f g=some h→(∃g0 h0,ρ f g0=some h0)∨(H.next≤f∧f<H1.next))→vx P ρ'→qB P nt E' H1 H' M ρ' w' K→K' (a.put o.dst cv) w'):
  K' (a.put o.dst cv) w':=by
 obtain⟨ρ',hv,z,O⟩:=hp
 have A:AR P ρ' nt (iD E io.dst v) (a.put o.dst cv):=by
  rw[ho.dst]
  exact(hA.mono z.le).Kk ho.lt hv
 refine hk ρ' (dZ C H H1) A O (Hp J z.gN) z.gN A.sb fun a2 Z I A U Y hK2=>?_
 have p:Ext (Wr H') H.next H'.next ρ I w Z:=(z.mono (Mc F)).trans U
 refine G a2 Z I A p ?_ (Hp J p.gN)
 exact Y.weaken fun f o h hf=>Ua J L.next F.next F.gl p.gN f o h hf
theorem Tp(hc:jc P call){K:Act→World→Prop}:∀(l:List bK)(os:List Oper)(k:Nat),os.length=l.length→(∀(i:Nat)(o:Oper)(io:bK),os[i]?=some o→l[i]?=some io→Cd P nt ops o io)→(∀(i:Nat)(o:Oper),os[i]?=some o→ops[k+i]?=some o)→
  ∀(E:Env)(H:aC)(E':Env)(H':aC)(ρ:Ho)(C:Nat→Option cZ)(a:Act)(w:World),me call l E H= .ok E' H'→AR P ρ nt E a→R ρ C w→iO ρ C H→fE ρ H.next H'.next→H.bb≤H.next→WF H→
  qB P nt E' H H' C ρ w K→(∀a w,K a w→Q .normal a w)→wpOps P ops Q ((List.range' k l.length)) a w
 |[],os,k,hl,I,J,E,H,E',H',ρ,C,a,w,h,L,hR,U,hF,O,F,p,hQ=>by
  cases h
  refine hQ _ _ (p a w ρ L (Ext.refl _ _ _ _) ?_ ?_)
  ·rw[mD];exact hR
  rw[mD];exact U
 |io::r,[],k,hl,_,_,_,_,_,_,_,_,_,_,_,_,_,_,_,_,_,_,_=>by simp at hl
 |io::r,o::os,k,hl,I,J,E,H,E',H',ρ,C,a,w,h,L,hR,U,hF,O,F,p,hQ=>by
  have ho:=I 0 o io rfl rfl
  have R6:ops[k]?=some o:=by simpa using J 0 o rfl
  have z:=Tp hc (K:=K) r os (k+1) (by simpa using hl) (fun i o io G h2=>I (i+1) o io (by simpa using G) (by simpa using h2)) (fun i o G=>by
   have:=J (i+1) o (by simpa using G);rwa [show k+(i+1)=k+1+i by omega] at this)
  rw[kZ,List.range'_succ,wpOps_cons]
  unfold wpOp
  simp only[R6]
  rcases Vn (show io.step call E H (me call r)= .ok E' H' from h) with⟨hw,v,H1,G,h2⟩|⟨hw,h2⟩
  ·rw[LA ho hw L.tmp,bE rfl]
   left
   have A:=TM.ins O (fun f a=>hc.lK f a H O) E io.op v H1 G
   have Y:H1.bb≤H1.next:=by rw[A.bb];exact fY O A.next
   have Z:=Hf hc r _ _ _ _ Y h2
   rcases ho.op with GG|QN
   case inr=>rw[QN] at G;exact(Vo G).elim
   have hok2:=T' (o:=o) GG L hR (hF.le Z.next) (fun f o' _ hf uq=>U f o' hf uq) O F hc G
   refine TB hok2 fun cv w' hp=>?_
   refine rest_ok ho L U A Z p hp (K':=wpOps P ops Q (List.range' (k+1) r.length)) fun ρ' C' M R7 hK' hd hg ht=>?_
   exact z _ H1 E' H' ρ' C' _ w' h2 M R7 hK' (hF.sub hd A.next) Y (A.wf F) ht hQ
  rw[LA ho hw L.tmp,bw (by simp)]
  have M:AR P ρ nt (iD E io.dst .undef) (a.put o.dst undef):=by
   rw[ho.dst]
   exact L.Kk ho.lt (by simp only[VR])
  exact z _ H E' H' ρ C _ w h2 M hR U hF O F p hQ
end
end Go.Ev
