/- Part 18 of rules for walks through the code of a program, and of such walks; what each part proves is said by its theorems. -/
import Derived.Test.YtdaamclhcpjdpaaGreatDoorT17
set_option linter.unusedVariables false
set_option linter.unusedSimpArgs false
noncomputable section
set_option maxRecDepth 100000
set_option maxHeartbeats 4000000
namespace Go.Ev
variable{T:aO}{VE:bq}{B:aU}{Q:bq→aU→Prop}
def aiI(op:BinOp)(a b:Int):Option Bool:=match op with
 |.lss=>some (decide (a<b))
 |.gtr=>some (decide (b<a))
 |.leq=>some (decide (a≤b))
 |.geq=>some (decide (b≤a))
 |.eql=>some (decide (a=b))
 |.neq=>some (!decide (a=b))
 |_=>none
def gd{α:Type}(b:Bool)(x:Option α):Option α:=bif b then x else none
theorem mR{α:Type}{b:Bool}{x:Option α}{y:α}(h:gd b x=some y):b=true∧x=some y:=by
 cases b
 ·cases h
 exact⟨rfl,h⟩
theorem ic{a b:Bool}(h:(a&&b)=true):a=true∧b=true:=by simpa using h
def gT(VE:bq)(B:aU)(d:Nat):bm→Option (VV×aU×List Nat)
 |.cj x=>(x.vv VE).bind fun v=>some (v,B,[])
 |.dM x k=>match x.vv VE with
  |some (.vp b o)=>some (.vp b (o+k),B,[])
  |some (.rp row o)=>some (.rp row (o+k),B,[])
  |some (.bp b g j o es)=>some (.bp b g j (o+k) es,B,[])
  |_=>none
 |.load n w a=>match a.vv VE with
  |some (.vp b o)=>match aN B b with
   |some (.one _ _ row)=>match w with
    |true=>gd (Nat.ble 1 n&&Nat.ble (o+n) row.length) (some (.agg ((row.drop o).take n),B,[]))
    |false=>gd (Nat.beq n 1) ((row[o]?).bind fun v=>some (v,B,[]))
   |_=>none
  |some (.rp row o)=>match w with
   |true=>gd (Nat.ble 1 n&&Nat.ble (o+n) row.length) (some (.agg (((row.drop o).take n).map .d),B,[]))
   |false=>gd (Nat.beq n 1) ((row[o]?).bind fun v=>some (.d v,B,[]))
  |_=>none
 |.store n a x=>match a.vv VE with
  |some (.vp b o)=>match aN B b with
   |some (.one e G row)=>(x.vv VE).bind fun v=>v.cells.bind fun new=>gd (Nat.beq new.length n&&(Nat.ble 1 n&&Nat.ble (o+n) row.length)) (some (.undef,(b,.one e G (VJ row o new))::B,[b]))
   |_=>none
  |_=>none
 |.build zero ps=>(pR zero).bind fun z=>(Dr VE ps z).bind fun out=>some (.agg out,B,[])
 |.box elem es aE x=>gd (nr d VE&&lW d B) ((x.vv VE).bind fun v=>v.cells.bind fun c=>gd (Nat.beq c.length es) (some (.vp d 0,(d,.one elem aE c)::B,[])))
 |.pb elem es aE l=>gd (nr d VE&&(lW d B&&Nat.beq l.length es)) ((pR l).bind fun c=>some (.vp d 0,(d,.one elem aE c)::B,[]))
 |.sM elem es aE A zero ps=>gd (nr d VE&&(lW d B&&Nat.beq zero.length es)) ((pR zero).bind fun z=>(iu z).bind fun I=>(Aj VE es A ps (List.replicate A I)).bind fun rows=>some (.bs d A es,(d,.arr elem aE es A rows)::B,[]))
 |.rB x=>match x.vv VE with
  |some (.vp b o)=>some (.vp b o,B,[])
  |some (.rp row o)=>some (.rp row o,B,[])
  |some (.bp b g q o es)=>some (.bp b g q o es,B,[])
  |some (.fn f c)=>some (.fn f c,B,[])
  |_=>none
 |.sub x off n w=>match x.vv VE with
  |some (.agg l)=>match w with
   |true=>gd (Nat.ble (off+n) l.length) (some (.agg ((l.drop off).take n),B,[]))
   |false=>gd (Nat.beq n 1) ((l[off]?).bind fun v=>some (v,B,[]))
  |_=>none
 |.vI x i=>match x.vv VE with
  |some (.tuple l)=>(l[i]?).bind fun v=>some (v,B,[])
  |_=>none
 |.un op x=>match op with
  |.not=>match x.vv VE with|some (.d (.b b))=>some (.d (.b (!b)),B,[])|_=>none
  |_=>none
 |.yO f first l=>match first with
  |[]=>(s9 VE l).bind fun c=>some (.fn f c,B,[])
  |_=>none
 |.yP _ x=>(x.vv VE).bind fun _=>some (.iq,B,[])
 |.len x=>match x.vv VE with
  |some (.d (.sl rows))=>some (.d (.i .i64 rows.length),B,[])
  |some (.d .nil)=>some (.d (.i .i64 0),B,[])
  |some (.bs _ n _)=>some (.d (.i .i64 n),B,[])
  |some (.ac _ n _)=>some (.d (.i .i64 n),B,[])
  |_=>none
 |.tQ x=>match x.vv VE with|some (.d (.s l _))=>some (.d (.i .i64 l),B,[])|_=>none
 |.conv k x=>match x.vv VE with|some (.d (.i _ n))=>some (.d (.i k (k.wrap n)),B,[])|_=>none
 |.bin op x y=>match x.vv VE with
  |some (.d (.i k a))=>match y.vv VE with
   |some (.d (.i L b))=>if L=k then(aiI op a b).bind fun r=>some (.d (.b r),B,[]) else none
   |_=>none
  |_=>none
 |.pick c x y=>match c.vv VE with
  |some (.d (.b true))=>(x.vv VE).bind fun v=>some (v,B,[])
  |some (.d (.b false))=>(y.vv VE).bind fun v=>some (v,B,[])
  |_=>none
 |.eqv c neg x y=>match c with
  |.iface=>match y.vv VE with
   |some (.k .ke)=>(x.vv VE).bind fun v=>(T9 v).bind fun t=>some (.d (.b (Bool.xor neg t)),B,[])
   |_=>none
  |_=>none
 |_=>none
theorem l8{d:Nat}{op:bm}{v:VV}{B':aU}{W:List Nat}{R:VV→aU→Prop}(h:gT VE B d op=some (v,B',W))(G:R v B'):VI T op VE B W R:=by
 cases op with
 |cj x=>
  obtain⟨u,A,h⟩:=Option.bind_eq_some_iff.1 h
  cases h;exact sU A G
 |dM x k=>
  simp only[gT] at h
  split at h
  ·rename_i A;cases h;exact pQ A G
  ·rename_i A;cases h;exact F1 A G
  ·rename_i A;cases h;exact vi_offsB A G
  cases h
 |load n w a=>
  simp only[gT] at h
  split at h
  ·rename_i A
   split at h
   ·rename_i Y
    cases w with
    |true=>
     obtain⟨I,h2⟩:=mR h;obtain⟨I,L⟩:=ic I
     cases h2
     exact vi_loadAV A Y (aV I) (aV L) G
    |false=>
     obtain⟨I,h2⟩:=mR h;obtain⟨u,L,M⟩:=Option.bind_eq_some_iff.1 h2;obtain rfl:=cD I
     cases M
     exact iP A Y L G
   cases h
  ·rename_i A
   cases w with
   |true=>
    obtain⟨I,h2⟩:=mR h;obtain⟨I,L⟩:=ic I
    cases h2
    exact gr A (aV I) (aV L) G
   |false=>
    obtain⟨I,h2⟩:=mR h;obtain⟨u,L,M⟩:=Option.bind_eq_some_iff.1 h2;obtain rfl:=cD I
    cases M
    exact c4 A L G
  cases h
 |store n a x=>
  simp only[gT] at h
  split at h
  ·rename_i ha
   split at h
   ·rename_i Y;obtain⟨u,A,h⟩:=Option.bind_eq_some_iff.1 h;obtain⟨new,hv,h⟩:=Option.bind_eq_some_iff.1 h;obtain⟨I,h2⟩:=mR h;obtain⟨I,L⟩:=ic I;obtain⟨L,M⟩:=ic L
    cases h2
    exact vi_storeV ha Y A hv (cD I) (aV L) (aV M) G
   cases h
  cases h
 |build zero ps=>
  obtain⟨z,Z,h⟩:=Option.bind_eq_some_iff.1 h;obtain⟨out,Y,h⟩:=Option.bind_eq_some_iff.1 h
  cases h;exact vi_build Z Y G
 |box elem es aE x=>
  obtain⟨I,h⟩:=mR h;obtain⟨I,h2⟩:=ic I;obtain⟨u,A,h⟩:=Option.bind_eq_some_iff.1 h;obtain⟨c,U,h⟩:=Option.bind_eq_some_iff.1 h;obtain⟨L,h⟩:=mR h
  cases h;exact vi_box d I h2 A U (cD L) G
 |pb elem es aE l=>
  obtain⟨I,h⟩:=mR h;obtain⟨I,h2⟩:=ic I;obtain⟨h2,L⟩:=ic h2;obtain⟨c,U,h⟩:=Option.bind_eq_some_iff.1 h
  cases h;exact vi_boxz d I h2 U (cD L) G
 |sM elem es aE ln zero ps=>
  obtain⟨I,h⟩:=mR h;obtain⟨I,h2⟩:=ic I;obtain⟨h2,L⟩:=ic h2;obtain⟨z,Z,h⟩:=Option.bind_eq_some_iff.1 h;obtain⟨zd,hd,h⟩:=Option.bind_eq_some_iff.1 h;obtain⟨rows,hr,h⟩:=Option.bind_eq_some_iff.1 h
  cases h;exact Zg d I h2 Z hd (cD L) hr G
 |rB x=>
  simp only[gT] at h
  split at h
  ·rename_i A;cases h;exact vi_nilckV A G
  ·rename_i A;cases h;exact vi_nilckR A G
  ·rename_i A;cases h;exact vi_nilckB A G
  ·rename_i A;cases h;exact vi_nilckF A G
  cases h
 |sub x off n w=>
  simp only[gT] at h
  split at h
  ·rename_i A
   cases w with
   |true=>
    obtain⟨I,h2⟩:=mR h
    cases h2;exact vi_subA A I G
   |false=>
    obtain⟨I,h2⟩:=mR h;obtain⟨u,L,M⟩:=Option.bind_eq_some_iff.1 h2;obtain rfl:=cD I
    cases M;exact vi_sub1 A L G
  cases h
 |vI x i=>
  simp only[gT] at h
  split at h
  ·rename_i A;obtain⟨u,L,M⟩:=Option.bind_eq_some_iff.1 h
   cases M;exact vi_extr A L G
  cases h
 |un op x=>
  simp only[gT] at h
  split at h
  ·split at h
   ·rename_i A;cases h;exact adB A G
   cases h
  cases h
 |yO f first l=>
  simp only[gT] at h
  split at h
  ·obtain⟨u,L,M⟩:=Option.bind_eq_some_iff.1 h
   cases M;exact vi_mkfn L G
  cases h
 |yP t x=>
  obtain⟨u,A,h⟩:=Option.bind_eq_some_iff.1 h
  cases h;exact vi_mkif A G
 |len x=>
  simp only[gT] at h
  split at h
  ·rename_i A;cases h;exact adC A G
  ·rename_i A;cases h;exact La A G
  ·rename_i A;cases h;exact vi_lenB A G
  ·rename_i A;cases h;exact abn A G
  cases h
 |tQ x=>
  simp only[gT] at h
  split at h
  ·rename_i A;cases h;exact vi_lenS A G
  cases h
 |conv k x=>
  simp only[gT] at h
  split at h
  ·rename_i A;cases h;exact abm A G
  cases h
 |bin op x y=>
  simp only[gT] at h
  split at h
  ·rename_i A
   split at h
   ·rename_i O
    split at h
    ·rename_i hk;subst hk;obtain⟨r,L,M⟩:=Option.bind_eq_some_iff.1 h
     cases M
     cases op<;>simp only[aiI] at L<;>(first|cases L)<;>first|exact R3 A O G|exact vi_gtK A O G|exact vi_leK A O G|exact vi_geK A O G|exact LV A O G|exact vi_neK A O G
    cases h
   cases h
  cases h
 |pick c x y=>
  simp only[gT] at h
  split at h
  ·rename_i U;obtain⟨u,L,M⟩:=Option.bind_eq_some_iff.1 h
   cases M;exact aau U L G
  ·rename_i U;obtain⟨u,L,M⟩:=Option.bind_eq_some_iff.1 h
   cases M;exact aav U L G
  cases h
 |eqv c neg x y=>
  simp only[gT] at h
  split at h
  ·split at h
   ·rename_i O;obtain⟨u,A,h⟩:=Option.bind_eq_some_iff.1 h;obtain⟨t,ht,h⟩:=Option.bind_eq_some_iff.1 h
    cases h;exact vi_ifNil A O ht G
   cases h
  cases h
 |_=>cases h
def VM(VE:bq)(v:VV):Option Key→bq
 |some k=>(k.n,v)::VE
 |none=>VE
def Bk:Nat→List bl→bq→aU→Option (bq×aU×List bl)
 |0,ops,VE,B=>some (VE,B,ops)
 |_+1,[],_,_=>none
 |n+1,⟨d,g,_,op⟩::r,VE,B=>match g with
  |some _=>none
  |none=>match d with
   |some d=>match gT VE B d.n op with
    |some (v,B',_)=>Bk n r ((d.n,v)::VE) B'
    |none=>none
   |none=>match gT VE B 0 op with
    |some (_,B',_)=>Bk n r VE B'
    |none=>none
theorem nd(n:Nat){ops:List bl}{bH:bq}{B':aU}{r:List bl}(h:Bk n ops VE B=some (bH,B',r))(k:VO T r bH B' Q):VO T ops VE B Q:=by
 induction n generalizing ops VE B with
 |zero=>cases h;exact k
 |succ n A=>
  cases ops with
  |nil=>cases h
  |cons o rest=>
   obtain⟨d,g,q,op⟩:=o
   cases g with
   |some _=>cases h
   |none=>
    cases d with
    |some d=>
     simp only[Bk] at h
     split at h
     ·rename_i v G W z;exact aw (l8 z (A h))
     cases h
    |none=>
     simp only[Bk] at h
     split at h
     ·rename_i v G W z;exact jv (l8 z (A h))
     cases h
def T'(VE:bq)(B:aU)(W:List Nat):bm→FL
 |.load _ _ a=>match a.vv VE with
  |some (.vp b _)=>match aN B b with
   |some (.one _ _ _)=>.rd [b]
   |_=>tU W
  |_=>tU W
 |_=>tU W
def vw:Nat→List bl→bq→aU→List FL→Option (bq×aU×List FL×List bl)
 |0,ops,VE,B,fl=>some (VE,B,fl,ops)
 |_+1,[],_,_,_=>none
 |n+1,⟨d,g,q,op⟩::r,VE,B,fl=>match g with
  |some _=>none
  |none=>match d with
   |some d=>match gT VE B d.n op with
    |some (v,B',W)=>match q with
     |none=>vw n r ((d.n,v)::VE) B' fl
     |some l=>gd (mg W l fl) (vw n r ((d.n,v)::VE) B' (T' VE B W op::fl))
    |none=>none
   |none=>match gT VE B 0 op with
    |some (_,B',W)=>match q with
     |none=>none
     |some l=>gd (mg W l fl) (vw n r VE B' (tU W::fl))
    |none=>none
theorem vq_markF{fl:List FL}{d:Key}{l:List Nat}{op:bm}{W:List Nat}{r:List bl}{v:VV}{B':aU}(z:gT VE B d.n op=some (v,B',W))(A:mg W l fl=true)(h:VQ T r ((d.n,v)::VE) B' (T' VE B W op::fl) Q):VQ T (⟨some d,none,some l,op⟩::r) VE B fl Q:=by
 cases op with
 |load n w a=>
  simp only[T'] at h
  split at h
  ·rename_i G
   split at h
   ·rename_i I;have L:W=[]:=by
     simp only[gT,G,I] at z
     cases w
     ·obtain⟨_,z⟩:=mR z;obtain⟨u,_,M⟩:=Option.bind_eq_some_iff.1 z
      cases M;rfl
     obtain⟨_,z⟩:=mR z
     cases z;rfl
    subst L;exact vq_markL G I trivial A (l8 z h)
   exact aP A (l8 z h)
  exact aP A (l8 z h)
 |_=>exact aP A (l8 z h)
theorem tW(n:Nat){ops:List bl}{fl kP:List FL}{bH:bq}{B':aU}{r:List bl}(h:vw n ops VE B fl=some (bH,B',kP,r))(k:VQ T r bH B' kP Q):VQ T ops VE B fl Q:=by
 induction n generalizing ops VE B fl with
 |zero=>cases h;exact k
 |succ n A=>
  cases ops with
  |nil=>cases h
  |cons o rest=>
   obtain⟨d,g,q,op⟩:=o
   cases g with
   |some _=>cases h
   |none=>
    cases d with
    |some d=>
     simp only[vw] at h
     split at h
     ·rename_i v L W z
      cases q with
      |none=>exact aT (l8 z (A h))
      |some l=>
       obtain⟨G,I⟩:=mR h;exact vq_markF z G (A I)
     cases h
    |none=>
     simp only[vw] at h
     split at h
     ·rename_i v L W z
      cases q with
      |none=>cases h
      |some l=>
       obtain⟨G,I⟩:=mR h;exact iR G (l8 z (A I))
     cases h
theorem iU{a:List bl}{c:IC}{R:Ex→bq→aU→Prop}(h:VO T a VE B fun bH B'=>VC T c bH B' R):VC T (.seq (.region false a) c) VE B R:=ko (wY h)
theorem afU{a:List bl}{c:IC}{R:Ex→bq→aU→Prop}(h:VQ T a VE B [] fun bH B'=>VC T c bH B' R):VC T (.seq (.region true a) c) VE B R:=ko (Gk h)
theorem ig(n:Nat){ops:List bl}{bH:bq}{B':aU}(h:Bk n ops VE B=some (bH,B',[]))(k:Q bH B'):VO T ops VE B Q:=nd n h (Dq k)
theorem afV(n:Nat){ops:List bl}{fl kP:List FL}{bH:bq}{B':aU}(h:vw n ops VE B fl=some (bH,B',kP,[]))(k:Q bH B'):VQ T ops VE B fl Q:=tW n h (R1 k)
open Go
section
variable{T:aO}{VE:bq}{B:aU}{Q:bq→aU→Prop}
theorem At{d g:Key}{want t:Bool}{qq:Option (List Nat)}{op:bm}{r:List bl}(A:aN VE g.n=some (.d (.b t)))(G:t=!want)(h:VO T r ((d.n,.k .undef)::VE) B Q):VO T (⟨some d,some (g,want),qq,op⟩::r) VE B Q:=by
 intro H0 X0 E H β z;refine wpO_skip (z.bool A) (by rw[G];cases want<;>decide) ?_;exact h H0 X0 _ H β (z.set (by simp only[aG]))
theorem jb{d g:Key}{want:Bool}{qq:Option (List Nat)}{op:bm}{r:List bl}(A:aN VE g.n=some (.k .undef))(h:VO T r ((d.n,.k .undef)::VE) B Q):VO T (⟨some d,some (g,want),qq,op⟩::r) VE B Q:=by
 intro H0 X0 E H β z;obtain⟨a,G,h2⟩:=z.env g _ A;simp only[aG] at h2;subst h2;obtain⟨I,L,M,b,c⟩:=h H0 X0 (E.set d .undef) H β (z.set (by simp only[aG]));refine⟨I,L,M,fun lf n O U=>?_,c⟩;show ob (E.get g) (.err 51) (fun v=>yR v (ib (some d) E H fun E H=>mi (T.call lf n) r E H) fun b=>aD (Bool.xor b want) (ib (some d) E H fun E H=>mi (T.call lf n) r E H) (fin (some d) E (fun E H=>mi (T.call lf n) r E H) (op.ev (T.call lf n) E H)))=_;rw[G,cS];show ib (some d) E H (fun E H=>mi (T.call lf n) r E H)=_;rw[xe];exact b lf n O U
end
variable{T:aO}
theorem wpI_idxArr{E:Env}{H:ay}{x i:aI}{z es f g o:Nat}{k:IntKind}{j:Nat}{Q:ak→ay→Prop}(G:x.ev E=some (.ptr f g o))(hi:i.ev E=some (.int k (j:Int)))(I:j<z)(L:Q (.ptr f g (o+j*es)) H):gF T (.AF z es x i) E H Q:=
 eU (fun _=>by
  show bo x E (.err 11) (fun v=>gw v (.err 11) fun f g off=>bo i E (.err 11) fun A=>idx A z (.err 11) fun j=>cL (Nat.add off (Nat.mul j es)) fun off=>.ok (.ptr f g off) H)=_;rw[cR,G,cS];show bo i E (.err 11) (fun A=>idx A z (.err 11) fun j=>cL (Nat.add o (Nat.mul j es)) fun off=>.ok (.ptr f g off) H)=_;rw[cR,hi,cS];show aD (Nat.ble (Nat.succ j) z) (cL (o+j*es) fun off=>aC.ok (.ptr f g off) H) (aC.err 11)=_
  rw[gW I,fQ];rfl) L
variable{VE:bq}{B:aU}{Q:VV→aU→Prop}
theorem bI{x i:aI}{G es b o j:Nat}{k:IntKind}(I:x.vv VE=some (.vp b o))(hi:i.vv VE=some (.d (.i k (j:Int))))(L:j<G)(M:Q (.vp b (o+j*es)) B):VI T (.AF G es x i) VE B [] Q:=fun _ _ _ _ _ z=>by
 obtain⟨_,O,h2⟩:=z.bG I;obtain⟨_,U,A⟩:=z.bG hi;simp only[aG] at h2 A;simp only[bK] at A;subst A;subst h2;exact wpI_idxArr O U L (dC z (v:=.vp b (o+j*es)) (by simp only[aG]) M)
variable{T:aO}{VE:bq}{B:aU}{Q:VV→aU→Prop}
def Ob:List VV→Bool
 |[]=>true
 |.d _::r=>Ob r
 |_=>false
theorem abw:∀{l:List VV},Ob l=true→mH l
 |[],_=>trivial
 |.d _::r,h=>⟨trivial,abw (l:=r) h⟩
def yY:List VV→Bool
 |[]=>true
 |.d _::r=>yY r
 |.agg l::r=>Ob l&&yY r
 |.fn _ []::r=>yY r
 |_=>false
theorem AK:∀{l:List VV},yY l=true→mH l
 |[],_=>trivial
 |.fn _ []::r,h=>⟨trivial,AK (l:=r) h⟩
 |.d _::r,h=>⟨trivial,AK (l:=r) h⟩
 |.agg l::r,h=>by
  obtain⟨z,h2⟩:=ic (show(Ob l&&yY r)=true from h);exact⟨by simp only[VV.nb];exact abw z,AK h2⟩
theorem bD{rs:List jT}{VE:bq}{B:aU}{P:VV→Prop}{vs:List VV}(h:vu VE B rs=some vs)(z:yY vs=true)(A:P (rO vs)):aiG rs P .ret VE B:=⟨vs,h,AK z,A⟩
structure FX(T:aO):Prop where
 a154:T.ft.get 154=none
 x154:T.xt.get 154=some 3
 a210:T.ft.get 210=none
 x210:∃t,T.xt.get 210=some (4+t)
 a178:T.ft.get 178=none
 x178:T.xt.get 178=some 0
 a162:T.ft.get 162=none
 x162:T.xt.get 162=some 1
variable{T:aO}{VE:bq}{B:aU}{Q:VV→aU→Prop}
variable{T:aO}{VE:bq}{B:aU}{Q:VV→aU→Prop}
def Ua(n:Nat)(d:DC):Prop:=∃a:List UInt8,d=al a∧a.length≤n
theorem Ua.mono{n m:Nat}{d:DC}(h:Ua n d)(z:n≤m):Ua m d:=let⟨a,A,h2⟩:=h;⟨a,A,eZ h2 z⟩
variable{T:aO}
section
variable{H:ay}{X:Nat→Prop}
theorem dF.drop{f g es:Nat}:∀(n:Nat){q:Nat}{rows:aj},dF H X f g es q rows→dF H X f g es (q+n) (rows.drop n)
 |0,_,_,h=>h
 |n+1,_,[],_=>trivial
 |n+1,q,r::rs,h=>by
  simp only[dF] at h;have:=dF.drop n h.2;rw[show q+1+n=q+(n+1) by omega] at this;exact this
theorem dF.take{f g es:Nat}:∀(n:Nat){q:Nat}{rows:aj},dF H X f g es q rows→dF H X f g es q (rows.take n)
 |0,_,_,_=>trivial
 |n+1,_,[],_=>trivial
 |n+1,q,r::rs,h=>by
  simp only[dF,vh] at h⊢;exact⟨h.1,dF.take n h.2⟩
end
variable{VE:bq}{B:aU}{Q:VV→aU→Prop}
def ao(rows:aj)(d:DC):Prop:=d= .sl rows∨rows=[]∧d= .nil
theorem ao.acc(rows:aj):ao rows (.cm rows):=by
 cases rows with
 |nil=>exact .inr ⟨rfl,rfl⟩
 |cons r s=>exact .inl rfl
theorem aM{x:aI}{rows:aj}{d:DC}(z:x.vv VE=some (.d d))(G:ao rows d)(A:Q (.d (.i .i64 (rows.length:Nat))) B):VI T (.len x) VE B [] Q:=by
 rcases G with rfl|⟨rfl,rfl⟩
 ·exact adC z A
 exact La z A
theorem vi_idxD{x i:aI}{es j:Nat}{k:IntKind}{rows:aj}{row:List DC}{d:DC}(A:x.vv VE=some (.d d))(G:ao rows d)(hi:i.vv VE=some (.d (.i k (j:Int))))(z:rows[j]?=some row)(I:row.length=es)(L:Q (.rp row 0) B):VI T (.gQ es x i) VE B [] Q:=by
 rcases G with rfl|⟨rfl,rfl⟩
 ·exact vi_idx A hi z I L
 simp at z
theorem YR.sD{B:aU}{es:Nat}{rows:aj}{d:DC}(z:ao rows d)(h:∀row,row∈rows→row.length=es):YR B es (.d d) rows:=by
 rcases z with rfl|⟨rfl,rfl⟩
 ·exact .sl h
 exact .nil
theorem vi_slD{es:Nat}{x:aI}{lo hi:Option aI}{rows:aj}{d:DC}{l h:Nat}(U:x.vv VE=some (.d d))(Y:ao rows d)(Z:∀row,row∈rows→row.length=es)(z:0<rows.length)(hh:yX VE hi rows.length h)(hl:yX VE lo 0 l)(I:l≤h)(L:h≤rows.length)
  (hq:Q (.d (.sl ((rows.drop l).take (h-l)))) B):VI T (.yN es x lo hi) VE B [] Q:=fun _ X0 _ H β G=>by
 obtain rfl:d= .sl rows:=Y.resolve_right fun k=>by rw[k.1] at z;cases z
 obtain⟨a,h1,h2⟩:=G.bG U;simp only[aG,bK] at h2;obtain⟨f,g,off,cY,rfl,h2⟩:=h2;rcases h2 with rfl|⟨k1,k2,q,k3,M⟩
 ·cases z
 have he:cY=es:=by
  cases rows with
  |nil=>cases z
  |cons r0 rs=>
   simp only[dF] at M;obtain⟨⟨l',_,j2,j3⟩,_⟩:=M;rw[←j2,j3.length,Z r0 (iI ..)]
 subst he;have hlen:((rows.drop l).take (h-l)).length=h-l:=by rw[m6,rA];omega
 refine eU (v:=.slice f g (off+l*cY) (h-l) cY) (fun call=>?_) (dC G (v:=.d (.sl ((rows.drop l).take (h-l)))) ?_ hq)
 ·show bo x _ (.err 16) (fun v=>eT v (.err 16) (er _ hi 0 0 (.err 16) fun h=>er _ lo 0 h (.err 16) fun _=>.ok .fL H)
   fun f g off O A=>aD (Nat.beq cY A) (er _ hi O (yS g off cY O) (.err 16) fun h=>er _ lo 0 h (.err 16) fun lo=>
    cL (Nat.add off (Nat.mul lo cY)) fun off=>cL (Nat.sub h lo) fun n=>.ok (.slice f g off n A) H) (.err 16))=_
  rw[cR,h1,cS]
  show aD (Nat.beq cY cY) (er _ hi rows.length (yS g off cY rows.length) (.err 16) fun h=>er _ lo 0 h (.err 16) fun lo=>
    cL (Nat.add off (Nat.mul lo cY)) fun off=>cL (Nat.sub h lo) fun n=>.ok (.slice f g off n cY) H) (.err 16)=_
  rw[show Nat.beq cY cY=true from ij cY,et,Ld G hh (eZ L QQ) QQ,Ld G hl I (gX _),fQ,fQ];rfl
 simp only[aG,bK,hlen];refine⟨f,g,_,cY,aa,.inr ⟨k1,k2,q+l,?_,?_⟩⟩
 ·rw[k3,kI]
 exact(M.drop l).take _
theorem VI.fresh{op:bm}{b:Nat}(A:aN B b=none)(h:VI T op VE B [b] Q):VI T op VE B [] Q:=fun H0 X0 E H β G=>
 (h H0 X0 E H β G).mono fun a H'⟨v,B',β',z,I⟩=>⟨v,B',β',⟨z.aQ,z.next,fun f L=>(z.ws f L).imp id fun⟨_,c,s,M,k,_⟩=>by
  (rw[List.mem_singleton.1 M,A] at k;cases k),z.since,z.ns⟩,I⟩
variable{T:aO}{VE:bq}{B:aU}{Q:VV→aU→Prop}
variable{T:aO}{VE:bq}{B:aU}{Q:VV→aU→Prop}
def gU:List Nat→List DC→Bool
 |[],[]=>true
 |c::r,.i k _::s=>Nat.beq (cG k) c&&gU r s
 |c::r,.b _::s=>Nat.beq c 100&&gU r s
 |c::r,.s _ _::s=>Nat.beq c 101&&gU r s
 |_,_=>false
theorem Le{H:ay}{X:Nat→Prop}{β:Nat→Nat}:∀{ks:List Nat}{r:List DC}{l M:List ak},gU ks r=true→aY H X β (r.map .d) l→aY H X β (r.map .d) M→gj ks l=true∧gj ks M=true∧mP l M=some true
 |[],[],l,M,_,h,h'=>by simp only[BH,aY] at h h';subst h;subst h';exact⟨rfl,rfl,rfl⟩
 |c::ks,d::r,l,M,I,h,h'=>by
  simp only[jz,aY] at h h';obtain⟨a,s,rfl,L,h2⟩:=h;obtain⟨a',s',rfl,z,G⟩:=h'
  cases d with
  |i k n=>
   obtain⟨A,O⟩:=ic (show(Nat.beq (cG k) c&&gU ks r)=true from I);obtain⟨U,Y,Z⟩:=Le O h2 G;simp only[aG,bK] at L z;subst L;subst z;refine⟨by simp only[gj,rk,A,U];rfl,by simp only[gj,rk,A,Y];rfl,?_⟩;simp only[mP,wZ];rw[show Nat.beq (cG k) (cG k)=true from ij _,show kX n n=true by rw[rl];simp];exact Z
  |b t=>
   obtain⟨A,O⟩:=ic (show(Nat.beq c 100&&gU ks r)=true from I);obtain⟨U,Y,Z⟩:=Le O h2 G;simp only[aG,bK] at L z;subst L;subst z;refine⟨by simp only[gj,rk,A,U];rfl,by simp only[gj,rk,A,Y];rfl,?_⟩;simp only[mP,wZ,beq_self_eq_true];exact Z
  |s m v=>
   obtain⟨A,O⟩:=ic (show(Nat.beq c 101&&gU ks r)=true from I);obtain⟨U,Y,Z⟩:=Le O h2 G;simp only[aG,bK] at L z;subst L;subst z;refine⟨by simp only[gj,rk,A,U];rfl,by simp only[gj,rk,A,Y];rfl,?_⟩;simp only[mP,wZ];rw[show s7 m v m v=true from by rw[strEq_eq];simp];exact Z
  |nil=>cases I
  |sl _=>cases I
  |raw _ _ _=>cases I
theorem abx{neg:Bool}{ks:List Nat}{x y:aI}{r:List DC}(I:x.vv VE=some (.agg (r.map .d)))(L:y.vv VE=some (.agg (r.map .d)))(M:gU ks r=true)(O:Q (dB (Bool.xor neg true)) B):VI T (.eqv (.agg ks) neg x y) VE B [] Q:=fun _ _ _ _ _ A=>by
 obtain⟨a,U,h2⟩:=A.bG I;obtain⟨b,Y,z⟩:=A.bG L;simp only[aG] at h2 z;obtain⟨l,rfl,h2⟩:=h2;obtain⟨G,rfl,z⟩:=z;obtain⟨Z,k2,k3⟩:=Le M h2 z;refine eU (v:=.bool (Bool.xor neg true)) (fun call=>?_) (dC A (v:=dB (Bool.xor neg true)) (by simp only[aG,bK]) O);show bo x _ (.err 7) (fun a=>bo y _ (.err 7) fun b=>ob (ox (.agg ks) a b) (.err 7) fun r=>nG (Bool.xor neg r) fun r=>.ok (.bool r) _)=_;rw[cR,U,cS,cR,Y,cS];show ob (aD (gj ks l) (aD (gj ks G) (mP l G) none) none) _ _=_;rw[Z,k2,k3]
 cases neg<;>rfl
end Go.Ev
