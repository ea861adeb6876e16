/- Part 18 of rules for walks through the code of a program, and of such walks; what each part proves is said by its theorems. -/
import Derived.Test.YtdaamclhcpjdpaaGreatDoorR17
set_option linter.unusedVariables false
set_option linter.unusedSimpArgs false
noncomputable section
set_option maxRecDepth 100000
set_option maxHeartbeats 4000000
namespace Go.Ev
variable{T:aN}{VE:bo}{B:aT}{Q:bo→aT→Prop}
def aiq(op:BinOp)(a b:Int):Option Bool:=match op with
 |.lss=>some (decide (a<b))
 |.gtr=>some (decide (b<a))
 |.leq=>some (decide (a≤b))
 |.geq=>some (decide (b≤a))
 |.eql=>some (decide (a=b))
 |.neq=>some (!decide (a=b))
 |_=>none
def gd{α:Type}(b:Bool)(x:Option α):Option α:=bif b then x else none
theorem mR{α:Type}{b:Bool}{x:Option α}{y:α}(h:gd b x=some y):b=true∧x=some y:=by
 cases b
 ·cases h
 exact⟨rfl,h⟩
theorem hY{a b:Bool}(h:(a&&b)=true):a=true∧b=true:=by simpa using h
def gO(VE:bo)(B:aT)(d:Nat):bn→Option (VV×aT×List Nat)
 |.ch x=>(x.vv VE).bind fun v=>some (v,B,[])
 |.dM x k=>match x.vv VE with
  |some (.vp b o)=>some (.vp b (o+k),B,[])
  |some (.rp row o)=>some (.rp row (o+k),B,[])
  |some (.bp b g j o es)=>some (.bp b g j (o+k) es,B,[])
  |_=>none
 |.load n w a=>match a.vv VE with
  |some (.vp b o)=>match aL B b with
   |some (.one _ _ row)=>match w with
    |true=>gd (Nat.ble 1 n&&Nat.ble (o+n) row.length) (some (.agg ((row.drop o).take n),B,[]))
    |false=>gd (Nat.beq n 1) ((row[o]?).bind fun v=>some (v,B,[]))
   |_=>none
  |some (.rp row o)=>match w with
   |true=>gd (Nat.ble 1 n&&Nat.ble (o+n) row.length) (some (.agg (((row.drop o).take n).map .d),B,[]))
   |false=>gd (Nat.beq n 1) ((row[o]?).bind fun v=>some (.d v,B,[]))
  |_=>none
 |.store n a x=>match a.vv VE with
  |some (.vp b o)=>match aL B b with
   |some (.one e G row)=>(x.vv VE).bind fun v=>v.cells.bind fun new=>gd (Nat.beq new.length n&&(Nat.ble 1 n&&Nat.ble (o+n) row.length)) (some (.undef,(b,.one e G (U8 row o new))::B,[b]))
   |_=>none
  |_=>none
 |.build zero ps=>(pY zero).bind fun z=>(CS VE ps z).bind fun out=>some (.agg out,B,[])
 |.box elem es aF x=>gd (nw d VE&&lU d B) ((x.vv VE).bind fun v=>v.cells.bind fun c=>gd (Nat.beq c.length es) (some (.vp d 0,(d,.one elem aF c)::B,[])))
 |.pf elem es aF l=>gd (nw d VE&&(lU d B&&Nat.beq l.length es)) ((pY l).bind fun c=>some (.vp d 0,(d,.one elem aF c)::B,[]))
 |.s8 elem es aF A zero ps=>gd (nw d VE&&(lU d B&&Nat.beq zero.length es)) ((pY zero).bind fun z=>(im z).bind fun I=>(zy VE es A ps (List.replicate A I)).bind fun rows=>some (.bs d A es,(d,.arr elem aF es A rows)::B,[]))
 |.rH x=>match x.vv VE with
  |some (.vp b o)=>some (.vp b o,B,[])
  |some (.rp row o)=>some (.rp row o,B,[])
  |some (.bp b g q o es)=>some (.bp b g q o es,B,[])
  |some (.fn f c)=>some (.fn f c,B,[])
  |_=>none
 |.sub x off n w=>match x.vv VE with
  |some (.agg l)=>match w with
   |true=>gd (Nat.ble (off+n) l.length) (some (.agg ((l.drop off).take n),B,[]))
   |false=>gd (Nat.beq n 1) ((l[off]?).bind fun v=>some (v,B,[]))
  |_=>none
 |.vA x i=>match x.vv VE with
  |some (.tuple l)=>(l[i]?).bind fun v=>some (v,B,[])
  |_=>none
 |.un op x=>match op with
  |.not=>match x.vv VE with|some (.d (.b b))=>some (.d (.b (!b)),B,[])|_=>none
  |_=>none
 |.ym f first l=>match first with
  |[]=>(qn VE l).bind fun c=>some (.fn f c,B,[])
  |_=>none
 |.yn _ x=>(x.vv VE).bind fun _=>some (.il,B,[])
 |.len x=>match x.vv VE with
  |some (.d (.sl rows))=>some (.d (.i .i64 rows.length),B,[])
  |some (.d .nil)=>some (.d (.i .i64 0),B,[])
  |some (.bs _ n _)=>some (.d (.i .i64 n),B,[])
  |some (.ac _ n _)=>some (.d (.i .i64 n),B,[])
  |_=>none
 |.tW x=>match x.vv VE with|some (.d (.s l _))=>some (.d (.i .i64 l),B,[])|_=>none
 |.conv k x=>match x.vv VE with|some (.d (.i _ n))=>some (.d (.i k (k.wrap n)),B,[])|_=>none
 |.bin op x y=>match x.vv VE with
  |some (.d (.i k a))=>match y.vv VE with
   |some (.d (.i L b))=>if L=k then(aiq op a b).bind fun r=>some (.d (.b r),B,[]) else none
   |_=>none
  |_=>none
 |.pick c x y=>match c.vv VE with
  |some (.d (.b true))=>(x.vv VE).bind fun v=>some (v,B,[])
  |some (.d (.b false))=>(y.vv VE).bind fun v=>some (v,B,[])
  |_=>none
 |.eqv c neg x y=>match c with
  |.iface=>match y.vv VE with
   |some (.k .jS)=>(x.vv VE).bind fun v=>(TB v).bind fun t=>some (.d (.b (Bool.xor neg t)),B,[])
   |_=>none
  |_=>none
 |_=>none
theorem lX{d:Nat}{op:bn}{v:VV}{B':aT}{W:List Nat}{R:VV→aT→Prop}(h:gO VE B d op=some (v,B',W))(G:R v B'):VI T op VE B W R:=by
 cases op with
 |ch x=>
  obtain⟨u,A,h⟩:=Option.bind_eq_some_iff.1 h
  cases h;exact RI A G
 |dM x k=>
  simp only[gO] at h
  split at h
  ·rename_i A;cases h;exact Z9 A G
  ·rename_i A;cases h;exact vi_offsR A G
  ·rename_i A;cases h;exact vi_offsB A G
  cases h
 |load n w a=>
  simp only[gO] at h
  split at h
  ·rename_i A
   split at h
   ·rename_i Y
    cases w with
    |true=>
     obtain⟨I,h2⟩:=mR h;obtain⟨I,L⟩:=hY I
     cases h2
     exact vi_loadAV A Y (aS I) (aS L) G
    |false=>
     obtain⟨I,h2⟩:=mR h;obtain⟨u,L,M⟩:=Option.bind_eq_some_iff.1 h2;obtain rfl:=cq I
     cases M
     exact oJ A Y L G
   cases h
  ·rename_i A
   cases w with
   |true=>
    obtain⟨I,h2⟩:=mR h;obtain⟨I,L⟩:=hY I
    cases h2
    exact gm A (aS I) (aS L) G
   |false=>
    obtain⟨I,h2⟩:=mR h;obtain⟨u,L,M⟩:=Option.bind_eq_some_iff.1 h2;obtain rfl:=cq I
    cases M
    exact dx A L G
  cases h
 |store n a x=>
  simp only[gO] at h
  split at h
  ·rename_i ha
   split at h
   ·rename_i Y;obtain⟨u,A,h⟩:=Option.bind_eq_some_iff.1 h;obtain⟨new,hv,h⟩:=Option.bind_eq_some_iff.1 h;obtain⟨I,h2⟩:=mR h;obtain⟨I,L⟩:=hY I;obtain⟨L,M⟩:=hY L
    cases h2
    exact vi_storeV ha Y A hv (cq I) (aS L) (aS M) G
   cases h
  cases h
 |build zero ps=>
  obtain⟨z,Z,h⟩:=Option.bind_eq_some_iff.1 h;obtain⟨out,Y,h⟩:=Option.bind_eq_some_iff.1 h
  cases h;exact vi_build Z Y G
 |box elem es aF x=>
  obtain⟨I,h⟩:=mR h;obtain⟨I,h2⟩:=hY I;obtain⟨u,A,h⟩:=Option.bind_eq_some_iff.1 h;obtain⟨c,U,h⟩:=Option.bind_eq_some_iff.1 h;obtain⟨L,h⟩:=mR h
  cases h;exact vi_box d I h2 A U (cq L) G
 |pf elem es aF l=>
  obtain⟨I,h⟩:=mR h;obtain⟨I,h2⟩:=hY I;obtain⟨h2,L⟩:=hY h2;obtain⟨c,U,h⟩:=Option.bind_eq_some_iff.1 h
  cases h;exact vi_boxz d I h2 U (cq L) G
 |s8 elem es aF ln zero ps=>
  obtain⟨I,h⟩:=mR h;obtain⟨I,h2⟩:=hY I;obtain⟨h2,L⟩:=hY h2;obtain⟨z,Z,h⟩:=Option.bind_eq_some_iff.1 h;obtain⟨zd,hd,h⟩:=Option.bind_eq_some_iff.1 h;obtain⟨rows,hr,h⟩:=Option.bind_eq_some_iff.1 h
  cases h;exact YQ d I h2 Z hd (cq L) hr G
 |rH x=>
  simp only[gO] at h
  split at h
  ·rename_i A;cases h;exact vi_nilckV A G
  ·rename_i A;cases h;exact vi_nilckR A G
  ·rename_i A;cases h;exact vi_nilckB A G
  ·rename_i A;cases h;exact vi_nilckF A G
  cases h
 |sub x off n w=>
  simp only[gO] at h
  split at h
  ·rename_i A
   cases w with
   |true=>
    obtain⟨I,h2⟩:=mR h
    cases h2;exact vi_subA A I G
   |false=>
    obtain⟨I,h2⟩:=mR h;obtain⟨u,L,M⟩:=Option.bind_eq_some_iff.1 h2;obtain rfl:=cq I
    cases M;exact vi_sub1 A L G
  cases h
 |vA x i=>
  simp only[gO] at h
  split at h
  ·rename_i A;obtain⟨u,L,M⟩:=Option.bind_eq_some_iff.1 h
   cases M;exact vi_extr A L G
  cases h
 |un op x=>
  simp only[gO] at h
  split at h
  ·split at h
   ·rename_i A;cases h;exact vi_not A G
   cases h
  cases h
 |ym f first l=>
  simp only[gO] at h
  split at h
  ·obtain⟨u,L,M⟩:=Option.bind_eq_some_iff.1 h
   cases M;exact vi_mkfn L G
  cases h
 |yn t x=>
  obtain⟨u,A,h⟩:=Option.bind_eq_some_iff.1 h
  cases h;exact vi_mkif A G
 |len x=>
  simp only[gO] at h
  split at h
  ·rename_i A;cases h;exact ade A G
  ·rename_i A;cases h;exact K3 A G
  ·rename_i A;cases h;exact vi_lenB A G
  ·rename_i A;cases h;exact aa2 A G
  cases h
 |tW x=>
  simp only[gO] at h
  split at h
  ·rename_i A;cases h;exact vi_lenS A G
  cases h
 |conv k x=>
  simp only[gO] at h
  split at h
  ·rename_i A;cases h;exact aa1 A G
  cases h
 |bin op x y=>
  simp only[gO] at h
  split at h
  ·rename_i A
   split at h
   ·rename_i O
    split at h
    ·rename_i hk;subst hk;obtain⟨r,L,M⟩:=Option.bind_eq_some_iff.1 h
     cases M
     cases op<;>simp only[aiq] at L<;>(first|cases L)<;>first|exact adg A O G|exact vi_gtK A O G|exact vi_leK A O G|exact vi_geK A O G|exact vi_eqK A O G|exact vi_neK A O G
    cases h
   cases h
  cases h
 |pick c x y=>
  simp only[gO] at h
  split at h
  ·rename_i U;obtain⟨u,L,M⟩:=Option.bind_eq_some_iff.1 h
   cases M;exact Z7 U L G
  ·rename_i U;obtain⟨u,L,M⟩:=Option.bind_eq_some_iff.1 h
   cases M;exact Z8 U L G
  cases h
 |eqv c neg x y=>
  simp only[gO] at h
  split at h
  ·split at h
   ·rename_i O;obtain⟨u,A,h⟩:=Option.bind_eq_some_iff.1 h;obtain⟨t,ht,h⟩:=Option.bind_eq_some_iff.1 h
    cases h;exact vi_ifNil A O ht G
   cases h
  cases h
 |_=>cases h
def Va(VE:bo)(v:VV):Option Key→bo
 |some k=>(k.n,v)::VE
 |none=>VE
def AJ:Nat→List bl→bo→aT→Option (bo×aT×List bl)
 |0,ops,VE,B=>some (VE,B,ops)
 |_+1,[],_,_=>none
 |n+1,⟨d,g,_,op⟩::r,VE,B=>match g with
  |some _=>none
  |none=>match d with
   |some d=>match gO VE B d.n op with
    |some (v,B',_)=>AJ n r ((d.n,v)::VE) B'
    |none=>none
   |none=>match gO VE B 0 op with
    |some (_,B',_)=>AJ n r VE B'
    |none=>none
theorem lI(n:Nat){ops:List bl}{bF:bo}{B':aT}{r:List bl}(h:AJ n ops VE B=some (bF,B',r))(k:VO T r bF B' Q):VO T ops VE B Q:=by
 induction n generalizing ops VE B with
 |zero=>cases h;exact k
 |succ n A=>
  cases ops with
  |nil=>cases h
  |cons o rest=>
   obtain⟨d,g,q,op⟩:=o
   cases g with
   |some _=>cases h
   |none=>
    cases d with
    |some d=>
     simp only[AJ] at h
     split at h
     ·rename_i v G W z;exact ax (lX z (A h))
     cases h
    |none=>
     simp only[AJ] at h
     split at h
     ·rename_i v G W z;exact jV (lX z (A h))
     cases h
def TC(VE:bo)(B:aT)(W:List Nat):bn→FL
 |.load _ _ a=>match a.vv VE with
  |some (.vp b _)=>match aL B b with
   |some (.one _ _ _)=>.rd [b]
   |_=>tZ W
  |_=>tZ W
 |_=>tZ W
def vl:Nat→List bl→bo→aT→List FL→Option (bo×aT×List FL×List bl)
 |0,ops,VE,B,fl=>some (VE,B,fl,ops)
 |_+1,[],_,_,_=>none
 |n+1,⟨d,g,q,op⟩::r,VE,B,fl=>match g with
  |some _=>none
  |none=>match d with
   |some d=>match gO VE B d.n op with
    |some (v,B',W)=>match q with
     |none=>vl n r ((d.n,v)::VE) B' fl
     |some l=>gd (l8 W l fl) (vl n r ((d.n,v)::VE) B' (TC VE B W op::fl))
    |none=>none
   |none=>match gO VE B 0 op with
    |some (_,B',W)=>match q with
     |none=>none
     |some l=>gd (l8 W l fl) (vl n r VE B' (tZ W::fl))
    |none=>none
theorem vq_markF{fl:List FL}{d:Key}{l:List Nat}{op:bn}{W:List Nat}{r:List bl}{v:VV}{B':aT}(z:gO VE B d.n op=some (v,B',W))(A:l8 W l fl=true)(h:VQ T r ((d.n,v)::VE) B' (TC VE B W op::fl) Q):VQ T (⟨some d,none,some l,op⟩::r) VE B fl Q:=by
 cases op with
 |load n w a=>
  simp only[TC] at h
  split at h
  ·rename_i G
   split at h
   ·rename_i I;have L:W=[]:=by
     simp only[gO,G,I] at z
     cases w
     ·obtain⟨_,z⟩:=mR z;obtain⟨u,_,M⟩:=Option.bind_eq_some_iff.1 z
      cases M;rfl
     obtain⟨_,z⟩:=mR z
     cases z;rfl
    subst L;exact vq_markL G I trivial A (lX z h)
   exact aP A (lX z h)
  exact aP A (lX z h)
 |_=>exact aP A (lX z h)
theorem ua(n:Nat){ops:List bl}{fl kH:List FL}{bF:bo}{B':aT}{r:List bl}(h:vl n ops VE B fl=some (bF,B',kH,r))(k:VQ T r bF B' kH Q):VQ T ops VE B fl Q:=by
 induction n generalizing ops VE B fl with
 |zero=>cases h;exact k
 |succ n A=>
  cases ops with
  |nil=>cases h
  |cons o rest=>
   obtain⟨d,g,q,op⟩:=o
   cases g with
   |some _=>cases h
   |none=>
    cases d with
    |some d=>
     simp only[vl] at h
     split at h
     ·rename_i v L W z
      cases q with
      |none=>exact aR (lX z (A h))
      |some l=>
       obtain⟨G,I⟩:=mR h;exact vq_markF z G (A I)
     cases h
    |none=>
     simp only[vl] at h
     split at h
     ·rename_i v L W z
      cases q with
      |none=>cases h
      |some l=>
       obtain⟨G,I⟩:=mR h;exact gK G (lX z (A I))
     cases h
theorem iF{a:List bl}{c:IC}{R:Ex→bo→aT→Prop}(h:VO T a VE B fun bF B'=>VC T c bF B' R):VC T (.seq (.region false a) c) VE B R:=jW (uF h)
theorem afC{a:List bl}{c:IC}{R:Ex→bo→aT→Prop}(h:VQ T a VE B [] fun bF B'=>VC T c bF B' R):VC T (.seq (.region true a) c) VE B R:=jW (F6 h)
theorem gP(n:Nat){ops:List bl}{bF:bo}{B':aT}(h:AJ n ops VE B=some (bF,B',[]))(k:Q bF B'):VO T ops VE B Q:=lI n h (Ab k)
theorem afD(n:Nat){ops:List bl}{fl kH:List FL}{bF:bo}{B':aT}(h:vl n ops VE B fl=some (bF,B',kH,[]))(k:Q bF B'):VQ T ops VE B fl Q:=ua n h (RH k)
open Go
section
variable{T:aN}{VE:bo}{B:aT}{Q:bo→aT→Prop}
theorem zK{d g:Key}{want t:Bool}{qq:Option (List Nat)}{op:bn}{r:List bl}(A:aL VE g.n=some (.d (.b t)))(G:t=!want)(h:VO T r ((d.n,.k .undef)::VE) B Q):VO T (⟨some d,some (g,want),qq,op⟩::r) VE B Q:=by
 intro H0 X0 E H β z;refine wpO_skip (z.bool A) (by rw[G];cases want<;>decide) ?_;exact h H0 X0 _ H β (z.set (by simp only[aG]))
theorem iZ{d g:Key}{want:Bool}{qq:Option (List Nat)}{op:bn}{r:List bl}(A:aL VE g.n=some (.k .undef))(h:VO T r ((d.n,.k .undef)::VE) B Q):VO T (⟨some d,some (g,want),qq,op⟩::r) VE B Q:=by
 intro H0 X0 E H β z;obtain⟨a,G,h2⟩:=z.env g _ A;simp only[aG] at h2;subst h2;obtain⟨I,L,M,b,c⟩:=h H0 X0 (E.set d .undef) H β (z.set (by simp only[aG]));refine⟨I,L,M,fun lf n O U=>?_,c⟩;show ob (E.get g) (.err 51) (fun v=>yp v (hU (some d) E H fun E H=>me (T.call lf n) r E H) fun b=>aD (Bool.xor b want) (hU (some d) E H fun E H=>me (T.call lf n) r E H) (fin (some d) E (fun E H=>me (T.call lf n) r E H) (op.ev (T.call lf n) E H)))=_;rw[G,cI];show hU (some d) E H (fun E H=>me (T.call lf n) r E H)=_;rw[wR];exact b lf n O U
end
variable{T:aN}
theorem wpI_idxArr{E:Env}{H:aw}{x i:aH}{z es f g o:Nat}{k:IntKind}{j:Nat}{Q:al→aw→Prop}(G:x.ev E=some (.ptr f g o))(hi:i.ev E=some (.int k (j:Int)))(I:j<z)(L:Q (.ptr f g (o+j*es)) H):gg T (.zX z es x i) E H Q:=
 eO (fun _=>by
  show bk x E (.err 11) (fun v=>gq v (.err 11) fun f g off=>bk i E (.err 11) fun A=>idx A z (.err 11) fun j=>ct (Nat.add off (Nat.mul j es)) fun off=>.ok (.ptr f g off) H)=_;rw[cL,G,cI];show bk i E (.err 11) (fun A=>idx A z (.err 11) fun j=>ct (Nat.add o (Nat.mul j es)) fun off=>.ok (.ptr f g off) H)=_;rw[cL,hi,cI];show aD (Nat.ble (Nat.succ j) z) (ct (o+j*es) fun off=>aC.ok (.ptr f g off) H) (aC.err 11)=_
  rw[gF I,fK];rfl) L
variable{VE:bo}{B:aT}{Q:VV→aT→Prop}
theorem bG{x i:aH}{G es b o j:Nat}{k:IntKind}(I:x.vv VE=some (.vp b o))(hi:i.vv VE=some (.d (.i k (j:Int))))(L:j<G)(M:Q (.vp b (o+j*es)) B):VI T (.zX G es x i) VE B [] Q:=fun _ _ _ _ _ z=>by
 obtain⟨_,O,h2⟩:=z.bD I;obtain⟨_,U,A⟩:=z.bD hi;simp only[aG] at h2 A;simp only[bH] at A;subst A;subst h2;exact wpI_idxArr O U L (dy z (v:=.vp b (o+j*es)) (by simp only[aG]) M)
variable{T:aN}{VE:bo}{B:aT}{Q:VV→aT→Prop}
def N1:List VV→Bool
 |[]=>true
 |.d _::r=>N1 r
 |_=>false
theorem abb:∀{l:List VV},N1 l=true→lT l
 |[],_=>trivial
 |.d _::r,h=>⟨trivial,abb (l:=r) h⟩
def yz:List VV→Bool
 |[]=>true
 |.d _::r=>yz r
 |.agg l::r=>N1 l&&yz r
 |.fn _ []::r=>yz r
 |_=>false
theorem xh:∀{l:List VV},yz l=true→lT l
 |[],_=>trivial
 |.fn _ []::r,h=>⟨trivial,xh (l:=r) h⟩
 |.d _::r,h=>⟨trivial,xh (l:=r) h⟩
 |.agg l::r,h=>by
  obtain⟨z,h2⟩:=hY (show(N1 l&&yz r)=true from h);exact⟨by simp only[VV.nb];exact abb z,xh h2⟩
theorem bI{rs:List jI}{VE:bo}{B:aT}{P:VV→Prop}{vs:List VV}(h:vk VE B rs=some vs)(z:yz vs=true)(A:P (rY vs)):ain rs P .ret VE B:=⟨vs,h,xh z,A⟩
structure FX(T:aN):Prop where
 a154:T.ft.get 154=none
 x154:T.xt.get 154=some 3
 a210:T.ft.get 210=none
 x210:∃t,T.xt.get 210=some (4+t)
 a178:T.ft.get 178=none
 x178:T.xt.get 178=some 0
 a162:T.ft.get 162=none
 x162:T.xt.get 162=some 1
variable{T:aN}{VE:bo}{B:aT}{Q:VV→aT→Prop}
variable{T:aN}{VE:bo}{B:aT}{Q:VV→aT→Prop}
def TD(n:Nat)(d:DC):Prop:=∃a:List UInt8,d=aq a∧a.length≤n
theorem TD.mono{n m:Nat}{d:DC}(h:TD n d)(z:n≤m):TD m d:=let⟨a,A,h2⟩:=h;⟨a,A,eZ h2 z⟩
variable{T:aN}
section
variable{H:aw}{X:Nat→Prop}
theorem dF.drop{f g es:Nat}:∀(n:Nat){q:Nat}{rows:ak},dF H X f g es q rows→dF H X f g es (q+n) (rows.drop n)
 |0,_,_,h=>h
 |n+1,_,[],_=>trivial
 |n+1,q,r::rs,h=>by
  simp only[dF] at h;have:=dF.drop n h.2;rw[show q+1+n=q+(n+1) by omega] at this;exact this
theorem dF.take{f g es:Nat}:∀(n:Nat){q:Nat}{rows:ak},dF H X f g es q rows→dF H X f g es q (rows.take n)
 |0,_,_,_=>trivial
 |n+1,_,[],_=>trivial
 |n+1,q,r::rs,h=>by
  simp only[dF,xD] at h⊢;exact⟨h.1,dF.take n h.2⟩
end
variable{VE:bo}{B:aT}{Q:VV→aT→Prop}
def aA(rows:ak)(d:DC):Prop:=d= .sl rows∨rows=[]∧d= .nil
theorem aA.acc(rows:ak):aA rows (.cE rows):=by
 cases rows with
 |nil=>exact .inr ⟨rfl,rfl⟩
 |cons r s=>exact .inl rfl
theorem aO{x:aH}{rows:ak}{d:DC}(z:x.vv VE=some (.d d))(G:aA rows d)(A:Q (.d (.i .i64 (rows.length:Nat))) B):VI T (.len x) VE B [] Q:=by
 rcases G with rfl|⟨rfl,rfl⟩
 ·exact ade z A
 exact K3 z A
theorem vi_idxD{x i:aH}{es j:Nat}{k:IntKind}{rows:ak}{row:List DC}{d:DC}(A:x.vv VE=some (.d d))(G:aA rows d)(hi:i.vv VE=some (.d (.i k (j:Int))))(z:rows[j]?=some row)(I:row.length=es)(L:Q (.rp row 0) B):VI T (.iE es x i) VE B [] Q:=by
 rcases G with rfl|⟨rfl,rfl⟩
 ·exact vi_idx A hi z I L
 simp at z
theorem YR.sD{B:aT}{es:Nat}{rows:ak}{d:DC}(z:aA rows d)(h:∀row,row∈rows→row.length=es):YR B es (.d d) rows:=by
 rcases z with rfl|⟨rfl,rfl⟩
 ·exact .sl h
 exact .nil
theorem vi_slD{es:Nat}{x:aH}{lo hi:Option aH}{rows:ak}{d:DC}{l h:Nat}(U:x.vv VE=some (.d d))(Y:aA rows d)(Z:∀row,row∈rows→row.length=es)(z:0<rows.length)(hh:yy VE hi rows.length h)(hl:yy VE lo 0 l)(I:l≤h)(L:h≤rows.length)
  (hq:Q (.d (.sl ((rows.drop l).take (h-l)))) B):VI T (.yl es x lo hi) VE B [] Q:=fun _ X0 _ H β G=>by
 obtain rfl:d= .sl rows:=Y.resolve_right fun k=>by rw[k.1] at z;cases z
 obtain⟨a,h1,h2⟩:=G.bD U;simp only[aG,bH] at h2;obtain⟨f,g,off,cV,rfl,h2⟩:=h2;rcases h2 with rfl|⟨k1,k2,q,k3,M⟩
 ·cases z
 have he:cV=es:=by
  cases rows with
  |nil=>cases z
  |cons r0 rs=>
   simp only[dF] at M;obtain⟨⟨l',_,j2,j3⟩,_⟩:=M;rw[←j2,j3.length,Z r0 (gu ..)]
 subst he;have hlen:((rows.drop l).take (h-l)).length=h-l:=by rw[lF,rG];omega
 refine eO (v:=.slice f g (off+l*cV) (h-l) cV) (fun call=>?_) (dy G (v:=.d (.sl ((rows.drop l).take (h-l)))) ?_ hq)
 ·show bk x _ (.err 16) (fun v=>eR v (.err 16) (eb _ hi 0 0 (.err 16) fun h=>eb _ lo 0 h (.err 16) fun _=>.ok .fE H)
   fun f g off O A=>aD (Nat.beq cV A) (eb _ hi O (yq g off cV O) (.err 16) fun h=>eb _ lo 0 h (.err 16) fun lo=>
    ct (Nat.add off (Nat.mul lo cV)) fun off=>ct (Nat.sub h lo) fun n=>.ok (.slice f g off n A) H) (.err 16))=_
  rw[cL,h1,cI]
  show aD (Nat.beq cV cV) (eb _ hi rows.length (yq g off cV rows.length) (.err 16) fun h=>eb _ lo 0 h (.err 16) fun lo=>
    ct (Nat.add off (Nat.mul lo cV)) fun off=>ct (Nat.sub h lo) fun n=>.ok (.slice f g off n cV) H) (.err 16)=_
  rw[show Nat.beq cV cV=true from ia cV,dV,K6 G hh (eZ L QA) QA,K6 G hl I (gT _),fK,fK];rfl
 simp only[aG,bH,hlen];refine⟨f,g,_,cV,aa,.inr ⟨k1,k2,q+l,?_,?_⟩⟩
 ·rw[k3,ku]
 exact(M.drop l).take _
theorem VI.fresh{op:bn}{b:Nat}(A:aL B b=none)(h:VI T op VE B [b] Q):VI T op VE B [] Q:=fun H0 X0 E H β G=>
 (h H0 X0 E H β G).mono fun a H'⟨v,B',β',z,I⟩=>⟨v,B',β',⟨z.aQ,z.next,fun f L=>(z.ws f L).imp id fun⟨_,c,s,M,k,_⟩=>by
  (rw[List.mem_singleton.1 M,A] at k;cases k),z.since,z.nx⟩,I⟩
variable{T:aN}{VE:bo}{B:aT}{Q:VV→aT→Prop}
variable{T:aN}{VE:bo}{B:aT}{Q:VV→aT→Prop}
def gQ:List Nat→List DC→Bool
 |[],[]=>true
 |c::r,.i k _::s=>Nat.beq (cu k) c&&gQ r s
 |c::r,.b _::s=>Nat.beq c 100&&gQ r s
 |c::r,.s _ _::s=>Nat.beq c 101&&gQ r s
 |_,_=>false
theorem K7{H:aw}{X:Nat→Prop}{β:Nat→Nat}:∀{ks:List Nat}{r:List DC}{l M:List al},gQ ks r=true→bb H X β (r.map .d) l→bb H X β (r.map .d) M→ga ks l=true∧ga ks M=true∧mP l M=some true
 |[],[],l,M,_,h,h'=>by simp only[AB,bb] at h h';subst h;subst h';exact⟨rfl,rfl,rfl⟩
 |c::ks,d::r,l,M,I,h,h'=>by
  simp only[jo,bb] at h h';obtain⟨a,s,rfl,L,h2⟩:=h;obtain⟨a',s',rfl,z,G⟩:=h'
  cases d with
  |i k n=>
   obtain⟨A,O⟩:=hY (show(Nat.beq (cu k) c&&gQ ks r)=true from I);obtain⟨U,Y,Z⟩:=K7 O h2 G;simp only[aG,bH] at L z;subst L;subst z;refine⟨by simp only[ga,rA,A,U];rfl,by simp only[ga,rA,A,Y];rfl,?_⟩;simp only[mP,wO];rw[show Nat.beq (cu k) (cu k)=true from ia _,show kW n n=true by rw[td];simp];exact Z
  |b t=>
   obtain⟨A,O⟩:=hY (show(Nat.beq c 100&&gQ ks r)=true from I);obtain⟨U,Y,Z⟩:=K7 O h2 G;simp only[aG,bH] at L z;subst L;subst z;refine⟨by simp only[ga,rA,A,U];rfl,by simp only[ga,rA,A,Y];rfl,?_⟩;simp only[mP,wO,beq_self_eq_true];exact Z
  |s m v=>
   obtain⟨A,O⟩:=hY (show(Nat.beq c 101&&gQ ks r)=true from I);obtain⟨U,Y,Z⟩:=K7 O h2 G;simp only[aG,bH] at L z;subst L;subst z;refine⟨by simp only[ga,rA,A,U];rfl,by simp only[ga,rA,A,Y];rfl,?_⟩;simp only[mP,wO];rw[show tn m v m v=true from by rw[strEq_eq];simp];exact Z
  |nil=>cases I
  |sl _=>cases I
  |raw _ _ _=>cases I
theorem vi_eqvA{neg:Bool}{ks:List Nat}{x y:aH}{r:List DC}(I:x.vv VE=some (.agg (r.map .d)))(L:y.vv VE=some (.agg (r.map .d)))(M:gQ ks r=true)(O:Q (dB (Bool.xor neg true)) B):VI T (.eqv (.agg ks) neg x y) VE B [] Q:=fun _ _ _ _ _ A=>by
 obtain⟨a,U,h2⟩:=A.bD I;obtain⟨b,Y,z⟩:=A.bD L;simp only[aG] at h2 z;obtain⟨l,rfl,h2⟩:=h2;obtain⟨G,rfl,z⟩:=z;obtain⟨Z,k2,k3⟩:=K7 M h2 z;refine eO (v:=.bool (Bool.xor neg true)) (fun call=>?_) (dy A (v:=dB (Bool.xor neg true)) (by simp only[aG,bH]) O);show bk x _ (.err 7) (fun a=>bk y _ (.err 7) fun b=>ob (nq (.agg ks) a b) (.err 7) fun r=>nH (Bool.xor neg r) fun r=>.ok (.bool r) _)=_;rw[cL,U,cI,cL,Y,cI];show ob (aD (ga ks l) (aD (ga ks G) (mP l G) none) none) _ _=_;rw[Z,k2,k3]
 cases neg<;>rfl
end Go.Ev
