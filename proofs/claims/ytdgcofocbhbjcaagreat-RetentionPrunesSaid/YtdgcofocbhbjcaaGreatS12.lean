/- Part 12 of rules for walks through the code of a program, and of such walks; what each part proves is said by its theorems. -/
import Derived.Test.YtdgcofocbhbjcaaGreatS11
import Derived.Test.YtdgcofocbhbjcaaGreatProg
set_option linter.unusedVariables false
set_option linter.unusedSimpArgs false
noncomputable section
set_option maxRecDepth 100000
set_option maxHeartbeats 4000000
namespace Go.Ev
variable{T:bC}{VE:bO}{B:bq}{Q:bO→bq→Prop}
def aaT(op:BinOp)(a b:Int):Option Bool:=match op with
 |.lss=>some (decide (a<b))
 |.gtr=>some (decide (b<a))
 |.leq=>some (decide (a≤b))
 |.geq=>some (decide (b≤a))
 |.eql=>some (decide (a=b))
 |.neq=>some (!decide (a=b))
 |_=>none
def gd{α:Type}(b:Bool)(x:Option α):Option α:=bif b then x else none
theorem nz{α:Type}{b:Bool}{x:Option α}{y:α}(h:gd b x=some y):b=true∧x=some y:=by
 cases b
 ·cases h
 exact⟨rfl,h⟩
theorem ic{a b:Bool}(h:(a&&b)=true):a=true∧b=true:=by simpa using h
def kq(VE:bO)(B:bq)(d:Nat):bF→Option (VV×bq×List Nat)
 |.cG x=>(x.vv VE).bind fun v=>some (v,B,[])
 |.dt x k=>match x.vv VE with
  |some (.vp b o)=>some (.vp b (o+k),B,[])
  |some (.rp row o)=>some (.rp row (o+k),B,[])
  |some (.bp b g j o es)=>some (.bp b g j (o+k) es,B,[])
  |_=>none
 |.load n w a=>match a.vv VE with
  |some (.vp b o)=>match aZ B b with
   |some (.one _ _ row)=>match w with
    |true=>gd (Nat.ble 1 n&&Nat.ble (o+n) row.length) (some (.agg ((row.drop o).take n),B,[]))
    |false=>gd (Nat.beq n 1) ((row[o]?).bind fun v=>some (v,B,[]))
   |_=>none
  |some (.rp row o)=>match w with
   |true=>gd (Nat.ble 1 n&&Nat.ble (o+n) row.length) (some (.agg (((row.drop o).take n).map .d),B,[]))
   |false=>gd (Nat.beq n 1) ((row[o]?).bind fun v=>some (.d v,B,[]))
  |_=>none
 |.store n a x=>match a.vv VE with
  |some (.vp b o)=>match aZ B b with
   |some (.one e A row)=>(x.vv VE).bind fun v=>v.cells.bind fun new=>gd (Nat.beq new.length n&&(Nat.ble 1 n&&Nat.ble (o+n) row.length)) (some (.undef,(b,.one e A (QQ row o new))::B,[b]))
   |_=>none
  |_=>none
 |.build zero ps=>(od zero).bind fun z=>(AW VE ps z).bind fun out=>some (.agg out,B,[])
 |.box elem es aL x=>gd (mz d VE&&lC d B) ((x.vv VE).bind fun v=>v.cells.bind fun c=>gd (Nat.beq c.length es) (some (.vp d 0,(d,.one elem aL c)::B,[])))
 |.oz elem es aL l=>gd (mz d VE&&(lC d B&&Nat.beq l.length es)) ((od l).bind fun c=>some (.vp d 0,(d,.one elem aL c)::B,[]))
 |.rf elem es aL p zero ps=>gd (mz d VE&&(lC d B&&Nat.beq zero.length es)) ((od zero).bind fun z=>(gq z).bind fun F=>(xj VE es p ps (List.replicate p F)).bind fun rows=>some (.bs d p es,(d,.arr elem aL es p rows)::B,[]))
 |.ql x=>match x.vv VE with
  |some (.vp b o)=>some (.vp b o,B,[])
  |some (.rp row o)=>some (.rp row o,B,[])
  |some (.bp b g q o es)=>some (.bp b g q o es,B,[])
  |some (.fn f c)=>some (.fn f c,B,[])
  |_=>none
 |.sub x off n w=>match x.vv VE with
  |some (.agg l)=>match w with
   |true=>gd (Nat.ble (off+n) l.length) (some (.agg ((l.drop off).take n),B,[]))
   |false=>gd (Nat.beq n 1) ((l[off]?).bind fun v=>some (v,B,[]))
  |_=>none
 |.tD x i=>match x.vv VE with
  |some (.tuple l)=>(l[i]?).bind fun v=>some (v,B,[])
  |_=>none
 |.un op x=>match op with
  |.not=>match x.vv VE with|some (.d (.b b))=>some (.d (.b (!b)),B,[])|_=>none
  |_=>none
 |.wa f first l=>match first with
  |[]=>(pb VE l).bind fun c=>some (.fn f c,B,[])
  |_=>none
 |.wb _ x=>(x.vv VE).bind fun _=>some (.iU,B,[])
 |.len x=>match x.vv VE with
  |some (.d (.sl rows))=>some (.d (.i .i64 rows.length),B,[])
  |some (.d .nil)=>some (.d (.i .i64 0),B,[])
  |some (.bs _ n _)=>some (.d (.i .i64 n),B,[])
  |some (.ac _ n _)=>some (.d (.i .i64 n),B,[])
  |_=>none
 |.rY x=>match x.vv VE with|some (.d (.s l _))=>some (.d (.i .i64 l),B,[])|_=>none
 |.conv k x=>match x.vv VE with|some (.d (.i _ n))=>some (.d (.i k (k.wrap n)),B,[])|_=>none
 |.bin op x y=>match x.vv VE with
  |some (.d (.i k a))=>match y.vv VE with
   |some (.d (.i G b))=>if G=k then(aaT op a b).bind fun r=>some (.d (.b r),B,[]) else none
   |_=>none
  |_=>none
 |.pick c x y=>match c.vv VE with
  |some (.d (.b true))=>(x.vv VE).bind fun v=>some (v,B,[])
  |some (.d (.b false))=>(y.vv VE).bind fun v=>some (v,B,[])
  |_=>none
 |.eqv c neg x y=>match c with
  |.iface=>match y.vv VE with
   |some (.k .i7)=>(x.vv VE).bind fun v=>(Pg v).bind fun t=>some (.d (.b (Bool.xor neg t)),B,[])
   |_=>none
  |_=>none
 |_=>none
theorem q7{d:Nat}{op:bF}{v:VV}{B':bq}{W:List Nat}{R:VV→bq→Prop}(h:kq VE B d op=some (v,B',W))(A:R v B'):VI T op VE B W R:=by
 cases op with
 |cG x=>
  obtain⟨u,p,h⟩:=Option.bind_eq_some_iff.1 h
  cases h;exact bf p A
 |dt x k=>
  simp only[kq] at h
  split at h
  ·rename_i p;cases h;exact bL p A
  ·rename_i p;cases h;exact eL p A
  ·rename_i p;cases h;exact sN p A
  cases h
 |load n w a=>
  simp only[kq] at h
  split at h
  ·rename_i p
   split at h
   ·rename_i L
    cases w with
    |true=>
     obtain⟨F,h2⟩:=nz h
     obtain⟨F,G⟩:=ic F
     cases h2
     exact iw p L (aX F) (aX G) A
    |false=>
     obtain⟨F,h2⟩:=nz h
     obtain⟨u,G,I⟩:=Option.bind_eq_some_iff.1 h2
     obtain rfl:=cL F
     cases I
     exact bJ p L G A
   cases h
  ·rename_i p
   cases w with
   |true=>
    obtain⟨F,h2⟩:=nz h
    obtain⟨F,G⟩:=ic F
    cases h2
    exact eF p (aX F) (aX G) A
   |false=>
    obtain⟨F,h2⟩:=nz h
    obtain⟨u,G,I⟩:=Option.bind_eq_some_iff.1 h2
    obtain rfl:=cL F
    cases I
    exact cF p G A
  cases h
 |store n a x=>
  simp only[kq] at h
  split at h
  ·rename_i O
   split at h
   ·rename_i L
    obtain⟨u,p,h⟩:=Option.bind_eq_some_iff.1 h
    obtain⟨new,U,h⟩:=Option.bind_eq_some_iff.1 h
    obtain⟨F,h2⟩:=nz h
    obtain⟨F,G⟩:=ic F
    obtain⟨G,I⟩:=ic G
    cases h2
    exact vi_storeV O L p U (cL F) (aX G) (aX I) A
   cases h
  cases h
 |build zero ps=>
  obtain⟨z,M,h⟩:=Option.bind_eq_some_iff.1 h
  obtain⟨out,L,h⟩:=Option.bind_eq_some_iff.1 h
  cases h;exact vi_build M L A
 |box elem es aL x=>
  obtain⟨F,h⟩:=nz h
  obtain⟨F,h2⟩:=ic F
  obtain⟨u,p,h⟩:=Option.bind_eq_some_iff.1 h
  obtain⟨c,K,h⟩:=Option.bind_eq_some_iff.1 h
  obtain⟨G,h⟩:=nz h
  cases h;exact vi_box d F h2 p K (cL G) A
 |oz elem es aL l=>
  obtain⟨F,h⟩:=nz h
  obtain⟨F,h2⟩:=ic F
  obtain⟨h2,G⟩:=ic h2
  obtain⟨c,K,h⟩:=Option.bind_eq_some_iff.1 h
  cases h;exact vi_boxz d F h2 K (cL G) A
 |rf elem es aL ln zero ps=>
  obtain⟨F,h⟩:=nz h
  obtain⟨F,h2⟩:=ic F
  obtain⟨h2,G⟩:=ic h2
  obtain⟨z,M,h⟩:=Option.bind_eq_some_iff.1 h
  obtain⟨zd,Y,h⟩:=Option.bind_eq_some_iff.1 h
  obtain⟨rows,Z,h⟩:=Option.bind_eq_some_iff.1 h
  cases h;exact vi_buildSl d F h2 M Y (cL G) Z A
 |ql x=>
  simp only[kq] at h
  split at h
  ·rename_i p;cases h;exact vi_nilckV p A
  ·rename_i p;cases h;exact vi_nilckR p A
  ·rename_i p;cases h;exact vi_nilckB p A
  ·rename_i p;cases h;exact vi_nilckF p A
  cases h
 |sub x off n w=>
  simp only[kq] at h
  split at h
  ·rename_i p
   cases w with
   |true=>
    obtain⟨F,h2⟩:=nz h
    cases h2;exact vi_subA p F A
   |false=>
    obtain⟨F,h2⟩:=nz h
    obtain⟨u,G,I⟩:=Option.bind_eq_some_iff.1 h2
    obtain rfl:=cL F
    cases I;exact vi_sub1 p G A
  cases h
 |tD x i=>
  simp only[kq] at h
  split at h
  ·rename_i p
   obtain⟨u,G,I⟩:=Option.bind_eq_some_iff.1 h
   cases I;exact vi_extr p G A
  cases h
 |un op x=>
  simp only[kq] at h
  split at h
  ·split at h
   ·rename_i p;cases h;exact eQ p A
   cases h
  cases h
 |wa f first l=>
  simp only[kq] at h
  split at h
  ·obtain⟨u,G,I⟩:=Option.bind_eq_some_iff.1 h
   cases I;exact vi_mkfn G A
  cases h
 |wb t x=>
  obtain⟨u,p,h⟩:=Option.bind_eq_some_iff.1 h
  cases h;exact vi_mkif p A
 |len x=>
  simp only[kq] at h
  split at h
  ·rename_i p;cases h;exact W8 p A
  ·rename_i p;cases h;exact Dq p A
  ·rename_i p;cases h;exact Mi p A
  ·rename_i p;cases h;exact Vz p A
  cases h
 |rY x=>
  simp only[kq] at h
  split at h
  ·rename_i p;cases h;exact vi_lenS p A
  cases h
 |conv k x=>
  simp only[kq] at h
  split at h
  ·rename_i p;cases h;exact Vy p A
  cases h
 |bin op x y=>
  simp only[kq] at h
  split at h
  ·rename_i p
   split at h
   ·rename_i J
    split at h
    ·rename_i hk
     subst hk
     obtain⟨r,G,I⟩:=Option.bind_eq_some_iff.1 h
     cases I
     cases op<;>simp only[aaT] at G<;>(first|cases G)<;>first|exact eH p J A|exact je p J A|exact qc p J A|exact jr p J A|exact en p J A|exact eR p J A
    cases h
   cases h
  cases h
 |pick c x y=>
  simp only[kq] at h
  split at h
  ·rename_i K
   obtain⟨u,G,I⟩:=Option.bind_eq_some_iff.1 h
   cases I;exact L0 K G A
  ·rename_i K
   obtain⟨u,G,I⟩:=Option.bind_eq_some_iff.1 h
   cases I;exact UX K G A
  cases h
 |eqv c neg x y=>
  simp only[kq] at h
  split at h
  ·split at h
   ·rename_i J
    obtain⟨u,p,h⟩:=Option.bind_eq_some_iff.1 h
    obtain⟨t,ht,h⟩:=Option.bind_eq_some_iff.1 h
    cases h;exact vi_ifNil p J ht A
   cases h
  cases h
 |_=>cases h
def FW(VE:bO)(v:VV):Option Key→bO
 |some k=>(k.n,v)::VE
 |none=>VE
def aaU:Option Key→Nat
 |some k=>k.n
 |none=>0
def Jr:Nat→List bK→bO→bq→Option (bO×bq×List bK)
 |0,ops,VE,B=>some (VE,B,ops)
 |_+1,[],_,_=>none
 |n+1,o::r,VE,B=>match o.g with
  |none=>(kq VE B (aaU o.dst) o.op).bind fun x=>Jr n r (FW VE x.1 o.dst) x.2.1
  |some _=>none
theorem ak(n:Nat){ops:List bK}{bY:bO}{B':bq}{r:List bK}(h:Jr n ops VE B=some (bY,B',r))(k:VO T r bY B' Q):VO T ops VE B Q:=by
 induction n generalizing ops VE B with
 |zero=>cases h;exact k
 |succ n p=>
  cases ops with
  |nil=>cases h
  |cons o rest=>
   obtain⟨d,g,q,op⟩:=o
   cases g with
   |some _=>cases h
   |none=>
    obtain⟨x,z,h2⟩:=Option.bind_eq_some_iff.1 h
    obtain⟨v,A,W⟩:=x
    cases d with
    |some d=>exact ai (q7 z (p h2))
    |none=>exact jd (q7 z (p h2))
def Ph(VE:bO)(B:bq)(W:List Nat):bF→FL
 |.load _ _ a=>match a.vv VE with
  |some (.vp b _)=>match aZ B b with
   |some (.one _ _ _)=>.rd [b]
   |_=>tL W
  |_=>tL W
 |_=>tL W
def Js:Nat→List bK→bO→bq→List FL→Option (bO×bq×List FL×List bK)
 |0,ops,VE,B,fl=>some (VE,B,fl,ops)
 |_+1,[],_,_,_=>none
 |n+1,o::r,VE,B,fl=>match o.g with
  |none=>(kq VE B (aaU o.dst) o.op).bind fun x=>match o.q with
   |none=>match o.dst with
    |some k=>Js n r ((k.n,x.1)::VE) x.2.1 fl
    |none=>none
   |some l=>gd (o4 x.2.2 l fl) (Js n r (FW VE x.1 o.dst) x.2.1 ((match o.dst with|none=>tL x.2.2|some _=>Ph VE B x.2.2 o.op)::fl))
  |some _=>none
theorem vq_markF{fl:List FL}{d:Key}{l:List Nat}{op:bF}{W:List Nat}{r:List bK}{v:VV}{B':bq}(p:kq VE B d.n op=some (v,B',W))(z:o4 W l fl=true)(h:VQ T r ((d.n,v)::VE) B' (Ph VE B W op::fl) Q):VQ T (⟨some d,none,some l,op⟩::r) VE B fl Q:=by
 cases op with
 |load n w a=>
  simp only[Ph] at h
  split at h
  ·rename_i A
   split at h
   ·rename_i F
    have G:W=[]:=by
     simp only[kq,A,F] at p
     cases w
     ·obtain⟨_,p⟩:=nz p
      obtain⟨u,_,I⟩:=Option.bind_eq_some_iff.1 p
      cases I;rfl
     obtain⟨_,p⟩:=nz p
     cases p;rfl
    subst G
    exact vq_markL A F trivial z (q7 p h)
   exact bP z (q7 p h)
  exact bP z (q7 p h)
 |_=>exact bP z (q7 p h)
theorem aP(n:Nat){ops:List bK}{fl p:List FL}{bY:bO}{B':bq}{r:List bK}(h:Js n ops VE B fl=some (bY,B',p,r))(k:VQ T r bY B' p Q):VQ T ops VE B fl Q:=by
 induction n generalizing ops VE B fl with
 |zero=>cases h;exact k
 |succ n z=>
  cases ops with
  |nil=>cases h
  |cons o rest=>
   obtain⟨d,g,q,op⟩:=o
   cases g with
   |some _=>cases h
   |none=>
    obtain⟨x,A,h2⟩:=Option.bind_eq_some_iff.1 h
    obtain⟨v,I,W⟩:=x
    cases q with
    |none=>
     cases d with
     |some d=>exact aU (q7 A (z h2))
     |none=>cases h2
    |some l=>
     obtain⟨F,G⟩:=nz h2
     cases d with
     |some d=>exact vq_markF A F (z G)
     |none=>exact oa F (q7 A (z G))
theorem aj{a:List bK}{c:IC}{R:Ex→bO→bq→Prop}(h:VO T a VE B fun bY B'=>VC T c bY B' R):VC T (.seq (.region false a) c) VE B R:=aA (aS h)
theorem cN{a:List bK}{c:IC}{R:Ex→bO→bq→Prop}(h:VQ T a VE B [] fun bY B'=>VC T c bY B' R):VC T (.seq (.region true a) c) VE B R:=aA (fB h)
theorem af(n:Nat){ops:List bK}{bY:bO}{B':bq}(h:Jr n ops VE B=some (bY,B',[]))(k:Q bY B'):VO T ops VE B Q:=ak n h (bn k)
theorem cP(n:Nat){ops:List bK}{fl p:List FL}{bY:bO}{B':bq}(h:Js n ops VE B fl=some (bY,B',p,[]))(k:Q bY B'):VQ T ops VE B fl Q:=aP n h (cU k)
open Go
section
variable{T:bC}{VE:bO}{B:bq}{Q:bO→bq→Prop}
theorem an{d g:Key}{want t:Bool}{z:Option (List Nat)}{op:bF}{r:List bK}(A:aZ VE g.n=some (.d (.b t)))(F:t=!want)(h:VO T r ((d.n,.k .undef)::VE) B Q):VO T (⟨some d,some (g,want),z,op⟩::r) VE B Q:=by
 intro H0 X0 E H β p
 refine wpO_skip (p.bool A) (by rw[F];cases want<;>decide) ?_
 exact h H0 X0 _ H β (p.set (by simp only[aK]))
theorem bG{d g:Key}{want:Bool}{z:Option (List Nat)}{op:bF}{r:List bK}(A:aZ VE g.n=some (.k .undef))(h:VO T r ((d.n,.k .undef)::VE) B Q):VO T (⟨some d,some (g,want),z,op⟩::r) VE B Q:=by
 intro H0 X0 E H β p
 obtain⟨a,F,h2⟩:=p.env g _ A
 simp only[aK] at h2
 subst h2
 obtain⟨G,I,J,b,c⟩:=h H0 X0 (E.set d .undef) H β (p.set (by simp only[aK]))
 refine⟨G,I,J,fun lf n K L=>?_,c⟩
 show ob (E.get g) (.err 51) (fun v=>we v (ib (some d) E H fun E H=>me (T.call lf n) r E H) fun b=>aI (Bool.xor b want) (ib (some d) E H fun E H=>me (T.call lf n) r E H) (fin (some d) E (fun E H=>me (T.call lf n) r E H) (op.ev (T.call lf n) E H)))=_
 rw[F,cJ]
 show ib (some d) E H (fun E H=>me (T.call lf n) r E H)=_
 rw[uU]
 exact b lf n K L
end
variable{T:bC}
theorem wpI_idxArr{E:Env}{H:aC}{x i:aM}{p es f g o:Nat}{k:IntKind}{j:Nat}{Q:aw→aC→Prop}(A:x.ev E=some (.ptr f g o))(hi:i.ev E=some (.int k (j:Int)))(F:j<p)(G:Q (.ptr f g (o+j*es)) H):gp T (.xF p es x i) E H Q:=
 eu (fun _=>by
  show bD x E (.err 11) (fun v=>gA v (.err 11) fun f g off=>bD i E (.err 11) fun z=>idx z p (.err 11) fun j=>cA (Nat.add off (Nat.mul j es)) fun off=>.ok (.ptr f g off) H)=_
  rw[cM,A,cJ]
  show bD i E (.err 11) (fun z=>idx z p (.err 11) fun j=>cA (Nat.add o (Nat.mul j es)) fun off=>.ok (.ptr f g off) H)=_
  rw[cM,hi,cJ]
  show aI (Nat.ble (Nat.succ j) p) (cA (o+j*es) fun off=>aF.ok (.ptr f g off) H) (aF.err 11)=_
  rw[gD F,eP];rfl) G
variable{VE:bO}{B:bq}{Q:VV→bq→Prop}
theorem cx{x i:aM}{A es b o j:Nat}{k:IntKind}(F:x.vv VE=some (.vp b o))(hi:i.vv VE=some (.d (.i k (j:Int))))(G:j<A)(I:Q (.vp b (o+j*es)) B):VI T (.xF A es x i) VE B [] Q:=fun _ _ _ _ _ p=>by
 obtain⟨_,J,h2⟩:=p.bU F
 obtain⟨_,K,z⟩:=p.bU hi
 simp only[aK] at h2 z
 simp only[cq] at z
 subst z;subst h2
 exact wpI_idxArr J K G (dp p (v:=.vp b (o+j*es)) (by simp only[aK]) I)
end Go.Ev
namespace Go.Ev.Pp
open Go Go.Proofs
@[reducible] def cj(f:Func)(x:bT)(_h:tH Tryz.prog f=some x:=by conv=>lhs;reduce):bT:=x
@[reducible] def Sh(f:Func)(x:bT)(_h:tH Tryz.prog f=some x:=by conv=>lhs;cbv):bT:=x
def i5:bT:=cj Tryz.f5 _
def i13:bT:=cj Tryz.f13 _
def i14:bT:=cj Tryz.f14 _
def i16:bT:=cj Tryz.f16 _
def i17:bT:=cj Tryz.f17 _
def i19:bT:=cj Tryz.f19 _
def i20:bT:=cj Tryz.f20 _
def i21:bT:=cj Tryz.f21 _
def i22:bT:=cj Tryz.f22 _
def i23:bT:=cj Tryz.f23 _
def i30:bT:=cj Tryz.f30 _
def i31:bT:=cj Tryz.f31 _
def i32:bT:=cj Tryz.f32 _
def i33:bT:=cj Tryz.f33 _
def i36:bT:=cj Tryz.f36 _
def i37:bT:=cj Tryz.f37 _
def i38:bT:=cj Tryz.f38 _
def i39:bT:=cj Tryz.f39 _
def i40:bT:=cj Tryz.f40 _
def i42:bT:=cj Tryz.f42 _
def i43:bT:=cj Tryz.f43 _
def i44:bT:=cj Tryz.f44 _
def i45:bT:=cj Tryz.f45 _
def i46:bT:=cj Tryz.f46 _
def i51:bT:=cj Tryz.f51 _
def i55:bT:=cj Tryz.f55 _
def i62:bT:=cj Tryz.f62 _
def i64:bT:=cj Tryz.f64 _
def i65:bT:=cj Tryz.f65 _
def i66:bT:=Sh Tryz.f66 _
open Go Go.Proofs
def i67:bT:=cj Tryz.f67 _
def i69:bT:=cj Tryz.f69 _
def i70:bT:=cj Tryz.f70 _
def i71:bT:=cj Tryz.f71 _
def i72:bT:=cj Tryz.f72 _
def i73:bT:=cj Tryz.f73 _
def i74:bT:=cj Tryz.f74 _
def i75:bT:=cj Tryz.f75 _
def i76:bT:=cj Tryz.f76 _
def i77:bT:=cj Tryz.f77 _
def i78:bT:=cj Tryz.f78 _
def i79:bT:=cj Tryz.f79 _
def i80:bT:=cj Tryz.f80 _
def i81:bT:=cj Tryz.f81 _
def i82:bT:=cj Tryz.f82 _
def i83:bT:=cj Tryz.f83 _
def i84:bT:=cj Tryz.f84 _
def i85:bT:=cj Tryz.f85 _
def i86:bT:=cj Tryz.f86 _
def i91:bT:=cj Tryz.f91 _
def i96:bT:=cj Tryz.f96 _
def i97:bT:=cj Tryz.f97 _
def i99:bT:=cj Tryz.f99 _
def i100:bT:=cj Tryz.f100 _
def i101:bT:=cj Tryz.f101 _
def i102:bT:=cj Tryz.f102 _
def i103:bT:=cj Tryz.f103 _
def i104:bT:=Sh Tryz.f104 _
def i105:bT:=Sh Tryz.f105 _
def i107:bT:=cj Tryz.f107 _
open Go Go.Proofs
def i108:bT:=cj Tryz.f108 _
def i109:bT:=cj Tryz.f109 _
def i110:bT:=cj Tryz.f110 _
def i111:bT:=cj Tryz.f111 _
def i112:bT:=cj Tryz.f112 _
def i113:bT:=cj Tryz.f113 _
def i114:bT:=cj Tryz.f114 _
def i115:bT:=cj Tryz.f115 _
def i116:bT:=cj Tryz.f116 _
def i117:bT:=cj Tryz.f117 _
def i118:bT:=cj Tryz.f118 _
def i119:bT:=cj Tryz.f119 _
def i120:bT:=cj Tryz.f120 _
def i121:bT:=cj Tryz.f121 _
def i122:bT:=cj Tryz.f122 _
def i123:bT:=cj Tryz.f123 _
def i124:bT:=cj Tryz.f124 _
def i125:bT:=cj Tryz.f125 _
def i126:bT:=cj Tryz.f126 _
def i127:bT:=cj Tryz.f127 _
def i128:bT:=cj Tryz.f128 _
def i129:bT:=cj Tryz.f129 _
def i130:bT:=cj Tryz.f130 _
def i150:bT:=cj Tryz.f150 _
def i151:bT:=cj Tryz.f151 _
def i152:bT:=cj Tryz.f152 _
def i153:bT:=cj Tryz.f153 _
def i154:bT:=cj Tryz.f154 _
def i155:bT:=cj Tryz.f155 _
def i156:bT:=cj Tryz.f156 _
open Go Go.Proofs
def i157:bT:=cj Tryz.f157 _
def i158:bT:=cj Tryz.f158 _
def i159:bT:=cj Tryz.f159 _
def i160:bT:=cj Tryz.f160 _
def i161:bT:=cj Tryz.f161 _
def i162:bT:=cj Tryz.f162 _
def i163:bT:=cj Tryz.f163 _
def i164:bT:=cj Tryz.f164 _
def i165:bT:=cj Tryz.f165 _
def i166:bT:=cj Tryz.f166 _
def i195:bT:=cj Tryz.f195 _
def i208:bT:=cj Tryz.f208 _
def i209:bT:=cj Tryz.f209 _
def i211:bT:=cj Tryz.f211 _
def i212:bT:=cj Tryz.f212 _
def i213:bT:=cj Tryz.f213 _
def i214:bT:=cj Tryz.f214 _
def i215:bT:=cj Tryz.f215 _
def i216:bT:=cj Tryz.f216 _
def i217:bT:=cj Tryz.f217 _
def i240:bT:=cj Tryz.f240 _
def i241:bT:=cj Tryz.f241 _
def i246:bT:=cj Tryz.f246 _
def i252:bT:=cj Tryz.f252 _
def i253:bT:=cj Tryz.f253 _
def i275:bT:=cj Tryz.f275 _
def i280:bT:=cj Tryz.f280 _
def i281:bT:=cj Tryz.f281 _
def i294:bT:=cj Tryz.f294 _
def i295:bT:=cj Tryz.f295 _
def i15:bT:={nt:=128,ps:=[pG,qL],res:=[.tmp lz],body:=
 (.seq (.region false [⟨some lx,none,none,.box 29 6 96 (.t pG)⟩,
 ⟨some mw,none,none,.box 29 6 96 (.t qL)⟩,
 ⟨some lz,none,none,.cG (.c (.bool false))⟩])
 (.seq (.seq (.region false [⟨some qM,none,none,.dt (.t lx) 0⟩,
 ⟨some wI,none,none,.load 1 false (.t qM)⟩,
 ⟨some ts,none,none,.dt (.t mw) 0⟩,
 ⟨some po,none,none,.load 1 false (.t ts)⟩,
 ⟨some BY,none,none,.bin .neq (.t wI) (.t po)⟩,
 ⟨some lj,none,none,.cG (.t BY)⟩,
 ⟨some tt,some (lj,false),none,.dt (.t lx) 1⟩,
 ⟨some rT,some (lj,false),none,.load 1 false (.t tt)⟩,
 ⟨some rU,some (lj,false),none,.dt (.t mw) 1⟩,
 ⟨some tu,some (lj,false),none,.load 1 false (.t rU)⟩,
 ⟨some rV,some (lj,false),none,.bin .neq (.t rT) (.t tu)⟩,
 ⟨some yQ,none,none,.pick (.t lj) (.c (.bool true)) (.t rV)⟩,
 ⟨some qy,none,none,.cG (.t yQ)⟩,
 ⟨some ow,some (qy,false),none,.dt (.t lx) 3⟩,
 ⟨some tv,some (qy,false),none,.load 1 false (.t ow)⟩,
 ⟨some BZ,some (qy,false),none,.dt (.t mw) 3⟩,
 ⟨some yS,some (qy,false),none,.load 1 false (.t BZ)⟩,
 ⟨some tw,some (qy,false),none,.bin .neq (.t tv) (.t yS)⟩,
 ⟨some qz,none,none,.pick (.t qy) (.c (.bool true)) (.t tw)⟩,
 ⟨some lI,none,none,.cG (.t qz)⟩,
 ⟨some lk,some (lI,false),none,.dt (.t lx) 2⟩,
 ⟨some yT,some (lI,false),none,.load 1 false (.t lk)⟩,
 ⟨some vY,some (lI,false),none,.len (.t yT)⟩,
 ⟨some tz,some (lI,false),none,.dt (.t mw) 2⟩,
 ⟨some vZ,some (lI,false),none,.load 1 false (.t tz)⟩,
 ⟨some mS,some (lI,false),none,.len (.t vZ)⟩,
 ⟨some ox,some (lI,false),none,.bin .neq (.t vY) (.t mS)⟩,
 ⟨some yU,none,none,.pick (.t lI) (.c (.bool true)) (.t ox)⟩,
 ⟨some ll,none,none,.cG (.t yU)⟩,
 ⟨some yV,some (ll,false),none,.dt (.t lx) 4⟩,
 ⟨some rW,some (ll,false),none,.load 1 false (.t yV)⟩,
 ⟨some tA,some (ll,false),none,.len (.t rW)⟩,
 ⟨some B0,some (ll,false),none,.dt (.t mw) 4⟩,
 ⟨some gE,some (ll,false),none,.load 1 false (.t B0)⟩,
 ⟨some v3,some (ll,false),none,.len (.t gE)⟩,
 ⟨some qA,some (ll,false),none,.bin .neq (.t tA) (.t v3)⟩,
 ⟨some tB,none,none,.pick (.t ll) (.c (.bool true)) (.t qA)⟩,
 ⟨some oy,none,none,.cG (.t tB)⟩,
 ⟨some jh,some (oy,false),none,.dt (.t lx) 5⟩,
 ⟨some B2,some (oy,false),none,.load 1 false (.t jh)⟩,
 ⟨some yW,some (oy,false),none,.len (.t B2)⟩,
 ⟨some yX,some (oy,false),none,.dt (.t mw) 5⟩,
 ⟨some B3,some (oy,false),none,.load 1 false (.t yX)⟩,
 ⟨some v7,some (oy,false),none,.len (.t B3)⟩,
 ⟨some yY,some (oy,false),none,.bin .neq (.t yW) (.t v7)⟩,
 ⟨some yZ,none,none,.pick (.t oy) (.c (.bool true)) (.t yY)⟩])
 (.cond (.t yZ)
 (.seq (.region false [⟨some lz,none,none,.cG (.c (.bool false))⟩])
 .ret)
 .skip))
 (.seq (.seq (.region false [⟨some jl,none,none,.cG (.c (.int .i64 (.ofNat 0)))⟩])
 (.block 0 (.loop (.seq (.seq (.region false [⟨some jV,none,none,.cG (.t jl)⟩,
  ⟨some tC,none,none,.dt (.t lx) 2⟩,
  ⟨some za,none,none,.load 1 false (.t tC)⟩,
  ⟨some zb,none,none,.len (.t za)⟩,
  ⟨some B4,none,none,.bin .lss (.t jV) (.t zb)⟩])
  (.cond (.t B4)
  .skip
  (.exit 0)))
  (.seq (.block 1 (.seq (.region true [⟨some Fw,none,none,.dt (.t lx) 2⟩,
   ⟨some Fx,none,some [],.load 1 false (.t Fw)⟩,
   ⟨some B6,none,none,.cG (.t jl)⟩,
   ⟨some Fy,none,none,.fP 6 (.t Fx) (.t B6)⟩,
   ⟨some Kh,none,none,.dt (.t Fy) 0⟩,
   ⟨some Fz,none,some [],.load 5 true (.t Kh)⟩,
   ⟨some FA,none,none,.dt (.t mw) 2⟩,
   ⟨some FB,none,some [0,1],.load 1 false (.t FA)⟩,
   ⟨some Qw,none,none,.cG (.t jl)⟩,
   ⟨some Qx,none,none,.fP 6 (.t FB) (.t Qw)⟩,
   ⟨some aah,none,none,.dt (.t Qx) 0⟩,
   ⟨some Qy,none,some [1,2],.load 5 true (.t aah)⟩,
   ⟨some FC,none,some [],.call 33 [(.t Fz),(.t Qy)]⟩,
   ⟨some aai,none,none,.un .not (.t FC)⟩,
   ⟨some lp,none,none,.cG (.t aai)⟩,
   ⟨some aaj,some (lp,false),none,.dt (.t lx) 2⟩,
   ⟨some Qz,some (lp,false),some [],.load 1 false (.t aaj)⟩,
   ⟨some aak,some (lp,false),none,.cG (.t jl)⟩,
   ⟨some QA,some (lp,false),none,.fP 6 (.t Qz) (.t aak)⟩,
   ⟨some QB,some (lp,false),none,.dt (.t QA) 5⟩,
   ⟨some aal,some (lp,false),some [],.load 1 false (.t QB)⟩,
   ⟨some Ki,some (lp,false),none,.dt (.t mw) 2⟩,
   ⟨some aam,some (lp,false),some [0,1],.load 1 false (.t Ki)⟩,
   ⟨some QC,some (lp,false),none,.cG (.t jl)⟩,
   ⟨some aan,some (lp,false),none,.fP 6 (.t aam) (.t QC)⟩,
   ⟨some aao,some (lp,false),none,.dt (.t aan) 5⟩,
   ⟨some aap,some (lp,false),some [1,2],.load 1 false (.t aao)⟩,
   ⟨some aaq,some (lp,false),some [],.call 34 [(.t aal),(.t aap)]⟩,
   ⟨some QD,some (lp,false),none,.un .not (.t aaq)⟩,
   ⟨some aar,none,none,.pick (.t lp) (.c (.bool true)) (.t QD)⟩])
  (.cond (.t aar)
   (.seq (.region false [⟨some lz,none,none,.cG (.c (.bool false))⟩])
   .ret)
   .skip)))
  (.region false [⟨some B5,none,none,.cG (.t jl)⟩,
  ⟨some v8,none,none,.bin .add (.t B5) (.c (.int .i64 (.ofNat 1)))⟩,
  ⟨some jl,none,none,.cG (.t v8)⟩]))))))
 (.seq (.seq (.region false [⟨some lT,none,none,.cG (.c (.int .i64 (.ofNat 0)))⟩])
 (.block 2 (.loop (.seq (.seq (.region false [⟨some aas,none,none,.cG (.t lT)⟩,
  ⟨some aat,none,none,.dt (.t lx) 4⟩,
  ⟨some aau,none,none,.load 1 false (.t aat)⟩,
  ⟨some aav,none,none,.len (.t aau)⟩,
  ⟨some QE,none,none,.bin .lss (.t aas) (.t aav)⟩])
  (.cond (.t QE)
  .skip
  (.exit 2)))
  (.seq (.block 3 (.seq (.region true [⟨some aax,none,none,.dt (.t lx) 4⟩,
   ⟨some aay,none,some [],.load 1 false (.t aax)⟩,
   ⟨some YC,none,none,.cG (.t lT)⟩,
   ⟨some YD,none,none,.fP 3 (.t aay) (.t YC)⟩,
   ⟨some OY,none,some [],.load 3 true (.t YD)⟩,
   ⟨some YE,none,none,.dt (.t mw) 4⟩,
   ⟨some YF,none,some [0,1],.load 1 false (.t YE)⟩,
   ⟨some YG,none,none,.cG (.t lT)⟩,
   ⟨some OZ,none,none,.fP 3 (.t YF) (.t YG)⟩,
   ⟨some O0,none,some [1,2],.load 3 true (.t OZ)⟩,
   ⟨some O1,none,none,.eqv (.agg [3,3,3]) true (.t OY) (.t O0)⟩])
  (.cond (.t O1)
   (.seq (.region false [⟨some lz,none,none,.cG (.c (.bool false))⟩])
   .ret)
   .skip)))
  (.region false [⟨some FD,none,none,.cG (.t lT)⟩,
  ⟨some aaw,none,none,.bin .add (.t FD) (.c (.int .i64 (.ofNat 1)))⟩,
  ⟨some lT,none,none,.cG (.t aaw)⟩]))))))
 (.seq (.seq (.region false [⟨some lU,none,none,.cG (.c (.int .i64 (.ofNat 0)))⟩])
 (.block 4 (.loop (.seq (.seq (.region false [⟨some YH,none,none,.cG (.t lU)⟩,
  ⟨some YI,none,none,.dt (.t lx) 5⟩,
  ⟨some YJ,none,none,.load 1 false (.t YI)⟩,
  ⟨some YK,none,none,.len (.t YJ)⟩,
  ⟨some YL,none,none,.bin .lss (.t YH) (.t YK)⟩])
  (.cond (.t YL)
  .skip
  (.exit 4)))
  (.seq (.block 5 (.seq (.region true [⟨some O3,none,none,.dt (.t lx) 5⟩,
   ⟨some YN,none,some [],.load 1 false (.t O3)⟩,
   ⟨some Be,none,none,.cG (.t lU)⟩,
   ⟨some YO,none,none,.fP 6 (.t YN) (.t Be)⟩,
   ⟨some YP,none,some [],.load 6 true (.t YO)⟩,
   ⟨some YQ,none,none,.dt (.t mw) 5⟩,
   ⟨some O4,none,some [0,1],.load 1 false (.t YQ)⟩,
   ⟨some Bf,none,none,.cG (.t lU)⟩,
   ⟨some YS,none,none,.fP 6 (.t O4) (.t Bf)⟩,
   ⟨some YT,none,some [1,2],.load 6 true (.t YS)⟩,
   ⟨some YU,none,some [],.call 35 [(.t YP),(.t YT)]⟩,
   ⟨some YV,none,none,.un .not (.t YU)⟩])
  (.cond (.t YV)
   (.seq (.region false [⟨some lz,none,none,.cG (.c (.bool false))⟩])
   .ret)
   .skip)))
  (.region false [⟨some YM,none,none,.cG (.t lU)⟩,
  ⟨some O2,none,none,.bin .add (.t YM) (.c (.int .i64 (.ofNat 1)))⟩,
  ⟨some lU,none,none,.cG (.t O2)⟩]))))))
 (.seq (.region false [⟨some lz,none,none,.cG (.c (.bool true))⟩])
 .ret))))))}
def i34:bT:={nt:=68,ps:=[pG,qL],res:=[.tmp lz],body:=
 (.seq (.region false [⟨some lz,none,none,.cG (.c (.bool false))⟩])
 (.seq (.seq (.region false [⟨some lT,none,none,.cG (.t pG)⟩,
 ⟨some lU,none,none,.len (.t lT)⟩,
 ⟨some qM,none,none,.cG (.t qL)⟩,
 ⟨some wI,none,none,.len (.t qM)⟩,
 ⟨some ts,none,none,.bin .neq (.t lU) (.t wI)⟩])
 (.cond (.t ts)
 (.seq (.region false [⟨some lz,none,none,.cG (.c (.bool false))⟩])
 .ret)
 .skip))
 (.seq (.seq (.region false [⟨some jl,none,none,.cG (.c (.int .i64 (.ofNat 0)))⟩])
 (.block 0 (.loop (.seq (.seq (.region false [⟨some po,none,none,.cG (.t jl)⟩,
  ⟨some BY,none,none,.cG (.t pG)⟩,
  ⟨some lj,none,none,.len (.t BY)⟩,
  ⟨some tt,none,none,.bin .lss (.t po) (.t lj)⟩])
  (.cond (.t tt)
  .skip
  (.exit 0)))
  (.seq (.block 1 (.seq (.region true [⟨some tu,none,none,.cG (.t pG)⟩,
   ⟨some rV,none,none,.cG (.t jl)⟩,
   ⟨some yQ,none,none,.fP 6 (.t tu) (.t rV)⟩,
   ⟨some qy,none,none,.dt (.t yQ) 0⟩,
   ⟨some ow,none,some [],.load 1 false (.t qy)⟩,
   ⟨some tv,none,none,.cG (.t qL)⟩,
   ⟨some BZ,none,none,.cG (.t jl)⟩,
   ⟨some yS,none,none,.fP 6 (.t tv) (.t BZ)⟩,
   ⟨some tw,none,none,.dt (.t yS) 0⟩,
   ⟨some qz,none,some [0],.load 1 false (.t tw)⟩,
   ⟨some lI,none,none,.bin .neq (.t ow) (.t qz)⟩,
   ⟨some lk,none,none,.cG (.t lI)⟩,
   ⟨some yT,some (lk,false),none,.cG (.t pG)⟩,
   ⟨some vY,some (lk,false),none,.cG (.t jl)⟩,
   ⟨some tz,some (lk,false),none,.fP 6 (.t yT) (.t vY)⟩,
   ⟨some vZ,some (lk,false),none,.dt (.t tz) 2⟩,
   ⟨some mS,some (lk,false),some [],.load 2 true (.t vZ)⟩,
   ⟨some ox,some (lk,false),none,.cG (.t qL)⟩,
   ⟨some yU,some (lk,false),none,.cG (.t jl)⟩,
   ⟨some ll,some (lk,false),none,.fP 6 (.t ox) (.t yU)⟩,
   ⟨some yV,some (lk,false),none,.dt (.t ll) 2⟩,
   ⟨some rW,some (lk,false),some [0],.load 2 true (.t yV)⟩,
   ⟨some tA,some (lk,false),none,.eqv (.agg [3,3]) true (.t mS) (.t rW)⟩,
   ⟨some B0,none,none,.pick (.t lk) (.c (.bool true)) (.t tA)⟩,
   ⟨some gE,none,none,.cG (.t B0)⟩,
   ⟨some v3,some (gE,false),none,.cG (.t pG)⟩,
   ⟨some qA,some (gE,false),none,.cG (.t jl)⟩,
   ⟨some tB,some (gE,false),none,.fP 6 (.t v3) (.t qA)⟩,
   ⟨some oy,some (gE,false),none,.dt (.t tB) 4⟩,
   ⟨some jh,some (gE,false),some [],.load 2 true (.t oy)⟩,
   ⟨some B2,some (gE,false),none,.cG (.t qL)⟩,
   ⟨some yW,some (gE,false),none,.cG (.t jl)⟩,
   ⟨some yX,some (gE,false),none,.fP 6 (.t B2) (.t yW)⟩,
   ⟨some B3,some (gE,false),none,.dt (.t yX) 4⟩,
   ⟨some v7,some (gE,false),some [0],.load 2 true (.t B3)⟩,
   ⟨some yY,some (gE,false),none,.eqv (.agg [3,3]) true (.t jh) (.t v7)⟩,
   ⟨some yZ,none,none,.pick (.t gE) (.c (.bool true)) (.t yY)⟩,
   ⟨some jV,none,none,.cG (.t yZ)⟩,
   ⟨some tC,some (jV,false),none,.cG (.t pG)⟩,
   ⟨some za,some (jV,false),none,.cG (.t jl)⟩,
   ⟨some zb,some (jV,false),none,.fP 6 (.t tC) (.t za)⟩,
   ⟨some B4,some (jV,false),none,.dt (.t zb) 1⟩,
   ⟨some B5,some (jV,false),some [],.load 1 false (.t B4)⟩,
   ⟨some v8,some (jV,false),none,.cG (.t qL)⟩,
   ⟨some Fw,some (jV,false),none,.cG (.t jl)⟩,
   ⟨some Fx,some (jV,false),none,.fP 6 (.t v8) (.t Fw)⟩,
   ⟨some B6,some (jV,false),none,.dt (.t Fx) 1⟩,
   ⟨some Fy,some (jV,false),some [0],.load 1 false (.t B6)⟩,
   ⟨some Kh,some (jV,false),some [],.call 67 [(.t B5),(.t Fy)]⟩,
   ⟨some Fz,some (jV,false),none,.bin .neq (.t Kh) (.c (.int .i64 (.ofNat 0)))⟩,
   ⟨some FA,none,none,.pick (.t jV) (.c (.bool true)) (.t Fz)⟩])
  (.cond (.t FA)
   (.seq (.region false [⟨some lz,none,none,.cG (.c (.bool false))⟩])
   .ret)
   .skip)))
  (.region false [⟨some rT,none,none,.cG (.t jl)⟩,
  ⟨some rU,none,none,.bin .add (.t rT) (.c (.int .i64 (.ofNat 1)))⟩,
  ⟨some jl,none,none,.cG (.t rU)⟩]))))))
 (.seq (.region false [⟨some lz,none,none,.cG (.c (.bool true))⟩])
 .ret))))}
def i210:bT:={nt:=60,ps:=[pG,qL,lx],res:=[.tmp lT],body:=
 (.seq (.region false [⟨some mw,none,none,.box 135 3 40 (.t pG)⟩,
 ⟨some lz,none,none,.box 135 3 40 (.t qL)⟩,
 ⟨some lT,none,none,.cG (.c (.bool false))⟩])
 (.seq (.seq (.region false [⟨some wI,none,none,.dt (.t mw) 0⟩,
 ⟨some ts,none,none,.dt (.t wI) 1⟩,
 ⟨some po,none,none,.load 1 false (.t ts)⟩,
 ⟨some BY,none,none,.dt (.t lz) 0⟩,
 ⟨some lj,none,none,.dt (.t BY) 0⟩,
 ⟨some tt,none,none,.load 1 false (.t lj)⟩,
 ⟨some rT,none,none,.bin .neq (.t po) (.t tt)⟩])
 (.cond (.t rT)
 (.seq (.region false [⟨some lT,none,none,.cG (.c (.bool false))⟩])
 .ret)
 .skip))
 (.seq (.seq (.region false [⟨some lU,none,none,.cG (.c (.int .i64 (.ofNat 0)))⟩])
 (.block 0 (.loop (.seq (.seq (.region false [⟨some rU,none,none,.cG (.t lU)⟩,
  ⟨some tu,none,none,.dt (.t lz) 2⟩,
  ⟨some rV,none,none,.load 1 false (.t tu)⟩,
  ⟨some yQ,none,none,.len (.t rV)⟩,
  ⟨some qy,none,none,.bin .lss (.t rU) (.t yQ)⟩])
  (.cond (.t qy)
  .skip
  (.exit 0)))
  (.seq (.block 1 (.seq (.region true [⟨some BZ,none,some [],.load 3 true (.t mw)⟩,
   ⟨some yS,none,none,.dt (.t lz) 2⟩,
   ⟨some tw,none,some [0],.load 1 false (.t yS)⟩,
   ⟨some qz,none,none,.cG (.t lU)⟩,
   ⟨some lI,none,none,.fP 3 (.t tw) (.t qz)⟩,
   ⟨some lk,none,none,.dt (.t lI) 0⟩,
   ⟨some yT,none,some [1],.load 1 false (.t lk)⟩,
   ⟨some vY,none,some [],.call 114 [(.t BZ),(.t yT)]⟩,
   ⟨some qM,none,none,.cG (.t vY)⟩])
  (.seq (.region true [⟨some tz,none,none,.cG (.t qM)⟩,
   ⟨some vZ,none,none,.bin .lss (.t tz) (.c (.int .i64 (.ofNat 0)))⟩,
   ⟨some mS,none,none,.cG (.t vZ)⟩,
   ⟨some ox,some (mS,true),none,.dt (.t lz) 2⟩,
   ⟨some yU,some (mS,true),some [],.load 1 false (.t ox)⟩,
   ⟨some ll,some (mS,true),none,.cG (.t lU)⟩,
   ⟨some yV,some (mS,true),none,.fP 3 (.t yU) (.t ll)⟩,
   ⟨some rW,some (mS,true),none,.dt (.t yV) 0⟩,
   ⟨some tA,some (mS,true),some [],.load 1 false (.t rW)⟩,
   ⟨some B0,some (mS,true),none,.cG (.t lx)⟩,
   ⟨some gE,some (mS,true),none,.bin .leq (.t tA) (.t B0)⟩,
   ⟨some v3,none,none,.pick (.t mS) (.t gE) (.c (.bool false))⟩,
   ⟨some qA,none,none,.cG (.t v3)⟩,
   ⟨some tB,some (qA,false),none,.cG (.t qM)⟩,
   ⟨some oy,some (qA,false),none,.bin .geq (.t tB) (.c (.int .i64 (.ofNat 0)))⟩,
   ⟨some jh,some (qA,false),none,.cG (.t oy)⟩,
   ⟨some B2,some (jh,true),none,.dt (.t mw) 2⟩,
   ⟨some yW,some (jh,true),some [],.load 1 false (.t B2)⟩,
   ⟨some yX,some (jh,true),none,.cG (.t qM)⟩,
   ⟨some B3,some (jh,true),none,.fP 3 (.t yW) (.t yX)⟩,
   ⟨some v7,some (jh,true),some [],.load 3 true (.t B3)⟩,
   ⟨some yY,some (jh,true),none,.dt (.t lz) 2⟩,
   ⟨some yZ,some (jh,true),some [0,1],.load 1 false (.t yY)⟩,
   ⟨some jV,some (jh,true),none,.cG (.t lU)⟩,
   ⟨some tC,some (jh,true),none,.fP 3 (.t yZ) (.t jV)⟩,
   ⟨some za,some (jh,true),some [1,2],.load 3 true (.t tC)⟩,
   ⟨some zb,some (jh,true),none,.eqv (.agg [3,101,3]) true (.t v7) (.t za)⟩,
   ⟨some B4,some (qA,false),none,.pick (.t jh) (.t zb) (.c (.bool false))⟩,
   ⟨some B5,none,none,.pick (.t qA) (.c (.bool true)) (.t B4)⟩])
  (.cond (.t B5)
   (.seq (.region false [⟨some lT,none,none,.cG (.c (.bool false))⟩])
   .ret)
   .skip))))
  (.region false [⟨some ow,none,none,.cG (.t lU)⟩,
  ⟨some tv,none,none,.bin .add (.t ow) (.c (.int .i64 (.ofNat 1)))⟩,
  ⟨some lU,none,none,.cG (.t tv)⟩]))))))
 (.seq (.region false [⟨some lT,none,none,.cG (.c (.bool true))⟩])
 .ret))))}
end Go.Ev.Pp
namespace Go.Ev
open Go
variable{T:bC}{VE:bO}{B:bq}{Q:VV→bq→Prop}
def Kr:List VV→Bool
 |[]=>true
 |.d _::r=>Kr r
 |_=>false
theorem VL:∀{l:List VV},Kr l=true→lB l
 |[],_=>trivial
 |.d _::r,h=>⟨trivial,VL (l:=r) h⟩
def zi:List VV→Bool
 |[]=>true
 |.d _::r=>zi r
 |.agg l::r=>Kr l&&zi r
 |.fn _ []::r=>zi r
 |_=>false
theorem aV:∀{l:List VV},zi l=true→lB l
 |[],_=>trivial
 |.fn _ []::r,h=>⟨trivial,aV (l:=r) h⟩
 |.d _::r,h=>⟨trivial,aV (l:=r) h⟩
 |.agg l::r,h=>by
  obtain⟨p,h2⟩:=ic (show(Kr l&&zi r)=true from h)
  exact⟨by simp only[VV.nb];exact VL p,aV h2⟩
theorem aE{rs:List jW}{VE:bO}{B:bq}{P:VV→Prop}{vs:List VV}(h:rF VE B rs=some vs)(p:zi vs=true)(z:P (mm vs)):aaR rs P .ret VE B:=⟨vs,h,aV p,z⟩
theorem Y5{f:Nat}{l:List aM}{args:List VV}{R:VV}(h:Sound T f args fun r=>r=R)(p:pb VE l=some args)(z:zi args=true)(A:Q R B):VI T (.call f l) VE B [] Q:=
 aY p (aV z) h fun r _ F=>by rw[F];exact A
structure FX(T:bC):Prop where
 a154:T.ft.get 154=none
 x154:T.xt.get 154=some 3
 a210:T.ft.get 210=none
 x210:∃t,T.xt.get 210=some (4+t)
 a178:T.ft.get 178=none
 x178:T.xt.get 178=some 0
 a162:T.ft.get 162=none
 x162:T.xt.get 162=some 1
variable{T:bC}{VE:bO}{B:bq}{Q:VV→bq→Prop}
variable{T:bC}{VE:bO}{B:bq}{Q:VV→bq→Prop}
def Pj(n:Nat)(d:DC):Prop:=∃a:List UInt8,d=al a∧a.length≤n
theorem Pj.mono{n m:Nat}{d:DC}(h:Pj n d)(p:n≤m):Pj m d:=let⟨a,z,h2⟩:=h;⟨a,z,fY h2 p⟩
variable{T:bC}
section
variable{H:aC}{X:Nat→Prop}
theorem dQ.drop{f g es:Nat}:∀(n:Nat){q:Nat}{rows:List (List DC)},dQ H X f g es q rows→dQ H X f g es (q+n) (rows.drop n)
 |0,_,_,h=>h
 |n+1,_,[],_=>trivial
 |n+1,q,r::rs,h=>by
  simp only[dQ] at h
  have:=dQ.drop n h.2
  rw[show q+1+n=q+(n+1) by omega] at this
  exact this
theorem dQ.take{f g es:Nat}:∀(n:Nat){q:Nat}{rows:List (List DC)},dQ H X f g es q rows→dQ H X f g es q (rows.take n)
 |0,_,_,_=>trivial
 |n+1,_,[],_=>trivial
 |n+1,q,r::rs,h=>by
  simp only[dQ,Bd] at h⊢
  exact⟨h.1,dQ.take n h.2⟩
end
variable{VE:bO}{B:bq}{Q:VV→bq→Prop}
def aR(rows:List (List DC))(d:DC):Prop:=d= .sl rows∨rows=[]∧d= .nil
theorem aR.acc(rows:List (List DC)):aR rows (.cS rows):=by
 cases rows with
 |nil=>exact .inr ⟨rfl,rfl⟩
 |cons r s=>exact .inl rfl
theorem bu{x:aM}{rows:List (List DC)}{d:DC}(p:x.vv VE=some (.d d))(A:aR rows d)(z:Q (.d (.i .i64 (rows.length:Nat))) B):VI T (.len x) VE B [] Q:=by
 rcases A with rfl|⟨rfl,rfl⟩
 ·exact W8 p z
 exact Dq p z
theorem vi_idxD{x i:aM}{es j:Nat}{k:IntKind}{rows:List (List DC)}{row:List DC}{d:DC}(z:x.vv VE=some (.d d))(A:aR rows d)(hi:i.vv VE=some (.d (.i k (j:Int))))(p:rows[j]?=some row)(F:row.length=es)(G:Q (.rp row 0) B):VI T (.fP es x i) VE B [] Q:=by
 rcases A with rfl|⟨rfl,rfl⟩
 ·exact vi_idx z hi p F G
 simp at p
theorem YR.sD{B:bq}{es:Nat}{rows:List (List DC)}{d:DC}(p:aR rows d)(h:∀row,row∈rows→row.length=es):YR B es (.d d) rows:=by
 rcases p with rfl|⟨rfl,rfl⟩
 ·exact .sl h
 exact .nil
theorem vi_slD{es:Nat}{x:aM}{lo hi:Option aM}{rows:List (List DC)}{d:DC}{l h:Nat}(K:x.vv VE=some (.d d))(L:aR rows d)(M:∀row,row∈rows→row.length=es)(p:0<rows.length)(O:wi VE hi rows.length h)(U:wi VE lo 0 l)(F:l≤h)(G:h≤rows.length)
  (Y:Q (.d (.sl ((rows.drop l).take (h-l)))) B):VI T (.rX es x lo hi) VE B [] Q:=fun _ X0 _ H β A=>by
 obtain rfl:d= .sl rows:=L.resolve_right fun k=>by rw[k.1] at p;cases p
 obtain⟨a,Z,h2⟩:=A.bU K
 simp only[aK,cq] at h2
 obtain⟨f,g,off,dv,rfl,h2⟩:=h2
 rcases h2 with rfl|⟨k1,k2,q,k3,I⟩
 ·cases p
 have he:dv=es:=by
  cases rows with
  |nil=>cases p
  |cons r0 rs=>
   simp only[dQ] at I
   obtain⟨⟨l',_,j2,j3⟩,_⟩:=I
   rw[←j2,j3.length,M r0 (jU ..)]
 subst he
 have hlen:((rows.drop l).take (h-l)).length=h-l:=by rw[jf,qf];omega
 refine eu (v:=.slice f g (off+l*dv) (h-l) dv) (fun call=>?_) (dp A (v:=.d (.sl ((rows.drop l).take (h-l)))) ?_ Y)
 ·show bD x _ (.err 16) (fun v=>eG v (.err 16) (dK _ hi 0 0 (.err 16) fun h=>dK _ lo 0 h (.err 16) fun _=>.ok .gh H)
   fun f g off J z=>aI (Nat.beq dv z) (dK _ hi J (rZ g off dv J) (.err 16) fun h=>dK _ lo 0 h (.err 16) fun lo=>
    cA (Nat.add off (Nat.mul lo dv)) fun off=>cA (Nat.sub h lo) fun n=>.ok (.slice f g off n z) H) (.err 16))=_
  rw[cM,Z,cJ]
  show aI (Nat.beq dv dv) (dK _ hi rows.length (rZ g off dv rows.length) (.err 16) fun h=>dK _ lo 0 h (.err 16) fun lo=>
    cA (Nat.add off (Nat.mul lo dv)) fun off=>cA (Nat.sub h lo) fun n=>.ok (.slice f g off n dv) H) (.err 16)=_
  rw[show Nat.beq dv dv=true from ga dv,dw,H3 A O (fY G HM) HM,H3 A U F (mR _),eP,eP]
  rfl
 simp only[aK,cq,hlen]
 refine⟨f,g,_,dv,aa,.inr ⟨k1,k2,q+l,?_,?_⟩⟩
 ·rw[k3,ld]
 exact(I.drop l).take _
theorem VI.fresh{op:bF}{b:Nat}(z:aZ B b=none)(h:VI T op VE B [b] Q):VI T op VE B [] Q:=fun H0 X0 E H β A=>
 (h H0 X0 E H β A).mono fun a H'⟨v,B',β',p,F⟩=>⟨v,B',β',⟨p.bb,p.next,fun f G=>(p.ws f G).imp id fun⟨_,c,s,I,k,_⟩=>by
  (rw[List.mem_singleton.1 I,z] at k;cases k),p.since,p.jm⟩,F⟩
variable{T:bC}{VE:bO}{B:bq}{Q:VV→bq→Prop}
variable{T:bC}{VE:bO}{B:bq}{Q:VV→bq→Prop}
def gW:List Nat→List DC→Bool
 |[],[]=>true
 |c::r,.i k _::s=>Nat.beq (cI k) c&&gW r s
 |c::r,.b _::s=>Nat.beq c 100&&gW r s
 |c::r,.s _ _::s=>Nat.beq c 101&&gW r s
 |_,_=>false
theorem H4{H:aC}{X:Nat→Prop}{β:Nat→Nat}:∀{ks:List Nat}{r:List DC}{l I:List aw},gW ks r=true→bt H X β (r.map .d) l→bt H X β (r.map .d) I→gj ks l=true∧gj ks I=true∧mF l I=some true
 |[],[],l,I,_,h,h'=>by simp only[BW,bt] at h h';subst h;subst h';exact⟨rfl,rfl,rfl⟩
 |c::ks,d::r,l,I,F,h,h'=>by
  simp only[lg,bt] at h h'
  obtain⟨a,s,rfl,G,h2⟩:=h
  obtain⟨O,s',rfl,p,A⟩:=h'
  cases d with
  |i k n=>
   obtain⟨z,J⟩:=ic (show(Nat.beq (cI k) c&&gW ks r)=true from F)
   obtain⟨K,L,M⟩:=H4 J h2 A
   simp only[aK,cq] at G p
   subst G;subst p
   refine⟨by simp only[gj,qa,z,K];rfl,by simp only[gj,qa,z,L];rfl,?_⟩
   simp only[mF,uS]
   rw[show Nat.beq (cI k) (cI k)=true from ga _,show lA n n=true by rw[rj];simp]
   exact M
  |b t=>
   obtain⟨z,J⟩:=ic (show(Nat.beq c 100&&gW ks r)=true from F)
   obtain⟨K,L,M⟩:=H4 J h2 A
   simp only[aK,cq] at G p
   subst G;subst p
   refine⟨by simp only[gj,qa,z,K];rfl,by simp only[gj,qa,z,L];rfl,?_⟩
   simp only[mF,uS,beq_self_eq_true]
   exact M
  |s m v=>
   obtain⟨z,J⟩:=ic (show(Nat.beq c 101&&gW ks r)=true from F)
   obtain⟨K,L,M⟩:=H4 J h2 A
   simp only[aK,cq] at G p
   subst G;subst p
   refine⟨by simp only[gj,qa,z,K];rfl,by simp only[gj,qa,z,L];rfl,?_⟩
   simp only[mF,uS]
   rw[show rB m v m v=true from by rw[strEq_eq];simp]
   exact M
  |nil=>cases F
  |sl _=>cases F
  |raw _ _ _=>cases F
theorem AL{neg:Bool}{ks:List Nat}{x y:aM}{r:List DC}(F:x.vv VE=some (.agg (r.map .d)))(G:y.vv VE=some (.agg (r.map .d)))(I:gW ks r=true)(J:Q (dB (Bool.xor neg true)) B):VI T (.eqv (.agg ks) neg x y) VE B [] Q:=fun _ _ _ _ _ z=>by
 obtain⟨a,K,h2⟩:=z.bU F
 obtain⟨b,L,p⟩:=z.bU G
 simp only[aK] at h2 p
 obtain⟨l,rfl,h2⟩:=h2
 obtain⟨A,rfl,p⟩:=p
 obtain⟨M,O,U⟩:=H4 I h2 p
 refine eu (v:=.bool (Bool.xor neg true)) (fun call=>?_) (dp z (v:=dB (Bool.xor neg true)) (by simp only[aK,cq]) J)
 show bD x _ (.err 7) (fun a=>bD y _ (.err 7) fun b=>ob (nS (.agg ks) a b) (.err 7) fun r=>nx (Bool.xor neg r) fun r=>.ok (.bool r) _)=_
 rw[cM,K,cJ,cM,L,cJ]
 show ob (aI (gj ks l) (aI (gj ks A) (mF l A) none) none) _ _=_
 rw[M,O,U]
 cases neg<;>rfl
end Go.Ev
