/- Part 8 of rules for walks through the code of a program, and of such walks; what each part proves is said by its theorems. -/
import Derived.Test.YtdaamclhcpjdpaaGreatDoorT6
import Derived.Test.YtdaamclhcpjdpaaGreatDoorT7
set_option linter.unusedVariables false
set_option linter.unusedSimpArgs false
noncomputable section
set_option maxRecDepth 100000
set_option maxHeartbeats 4000000
namespace Go.Ev
section
variable{P:Program}{ρ:Ho}{nt:Nat}{E:Env}{a:Act}{C:Nat→Option cV}{w:World}{H H':ay}{v:ak}{o:Oper}
def lV(z:List Value):Nat→List Value
 |0=>[]
 |n+1=>z++lV z n
theorem PU(z:List Value):∀n,(lV z n).length=n*z.length
 |0=>by simp[lV]
 |n+1=>by rw[lV,fv,PU z n,yC,Nat.add_comm]
theorem aa9{z:List Value}{x:Value}:∀{n},x∈lV z n→x∈z
 |0,h=>by cases h
 |n+1,h=>(List.mem_append.1 h).elim id aa9
theorem aba(z:List Value):∀(n i:Nat),i<n*z.length→(lV z n)[i]?=z[i % z.length]?
 |0,i,h=>by simp at h
 |n+1,i,h=>by
  rw[yC] at h
  by_cases hi:i<z.length
  ·rw[lV,tB hi,Em hi]
  have A:=Nat.mod_eq_sub_mod (show z.length≤i by omega);rw[lV,vH aq,aba z n _ aq,←A]
theorem zeroCells_eq(z:Array Value)(n:Nat):(Builtin.zeroCells z n).toList=lV z.toList n:=by
 apply List.ext_getElem?;intro i
 by_cases hi:i<n*z.size
 ·rw[aba _ _ _ (by simpa using hi)];have A:0<z.size:=by
   rcases Nat.eq_zero_or_pos z.size with h|h
   ·rw[h] at hi;omega
   exact h
  have G:i % z.size<z.size:=BD _ A;simp[Builtin.zeroCells,hi,G]
 rw[yz (by simp[Builtin.zeroCells];omega),yz (by rw[PU];simpa using hi)]
theorem YB(b:Nat):∀(x y:List Value)(k:Nat)(w:World),w.setCells b k (x++y)=(w.setCells b k x).setCells b (k+x.length) y
 |[],y,k,w=>by simp[World.setCells]
 |v::r,y,k,w=>by
  simp only[El,World.setCells,gy];rw[YB b r y];congr 1;omega
theorem upd_chain{H1:ay}{f:Nat}(I:H1.next=H.next)(h2:H'.next=H.next)(M:C f=H.t.get f)(A:∀x,x≠f→H1.t.get x=H.t.get x)(G:∀x,x≠f→H'.t.get x=H1.t.get x):ep (ep C H H1) H1 H'=ep C H H':=by
 funext x
 unfold ep;have L:¬(H.next≤x∧x<H.next):=by omega
 simp only[I,h2,aZ L]
 by_cases z:x=f
 ·subst z
  by_cases O:H'.t.get x=H1.t.get x<;>by_cases U:H1.t.get x=H.t.get x<;>by_cases Y:H'.t.get x=H.t.get x<;>simp_all
 rw[bj (G x z),bj (A x z),bj ((G x z).trans (A x z))]
theorem Zy{f g es:Nat}{z:List ak}{Y:List Value}{h:Hm}(hh:ρ f g=some h)(he:0<es)(Z:bQ ρ z Y)(hz:z.length=es)(hk:z.all eI=true):∀{n off:Nat}{H:ay}{C:Nat→Option cV}{w:World},R ρ C w→C f=H.t.get f→BM f g es z n off H= .ok v H'→
  v= .tuple []∧H'.next=H.next∧H'.aQ=H.aQ∧(∀x,x∈H.ws→x∈H'.ws)∧(∀x,x≠f→H'.t.get x=H.t.get x)∧
  (∀j,j<n*es→(w.cell? ⟨h.bz,h.off+off+j,none⟩).isSome=true)∧(∀j,j<n*es→w.frozen? ⟨h.bz,h.off+off+j,none⟩=false)∧(0<n→h.ro=false∧(f<H.aQ→f∈H'.ws))∧
  R ρ (ep C H H') (w.setCells h.bz (h.off+off) (lV Y n))
 |0,off,H,C,w,hR,U,A=>by
  cases A
  exact⟨rfl,rfl,rfl,fun _ h=>h,fun _ _=>rfl,fun j M=>by omega,fun j M=>by omega,fun h=>by omega,by rw[oJ];exact hR⟩
 |n+1,off,H,C,w,hR,U,A=>by
  have A:Go.Ev.wr H f g off es z (aC.err 28) (fun H=>Go.Ev.cL (Nat.add off es) fun off=>BM f g es z n off H)=aC.ok v H':=A;obtain⟨H1,hw,A⟩:=Bj A;rw[fQ] at A;obtain⟨k1,k2,k3,k4⟩:=hR.write hw U hh he Z hk;have qP:Y.length=es:=Z.length.trans hz;obtain⟨elem,cY,aE,lo,cs,x,hg,_,_,_,_,_,O⟩:=hw;have n1:H1.next=H.next:=by rw[O]
  have m1:H1.aQ=H.aQ:=by rw[O]
  have w1:∀y,y∈H.ws→y∈H1.ws:=fun y G=>by rw[O];exact(Ah _ _ _ _).2 (.inl G)
  have w2:f<H.aQ→f∈H1.ws:=fun I=>by rw[O];exact(Ah _ _ _ _).2 (.inr ⟨rfl,I⟩)
  have s5:∀y,y≠f→H1.t.get y=H.t.get y:=fun y G=>by rw[O];show(H.t.set f _).get y=_;rw[GT.dn,aZ G]
  have hC1:ep C H H1 f=H1.t.get f:=by
   unfold ep;rw[n1,aZ aq]
   by_cases e:H1.t.get f=H.t.get f
   ·rw[bj e,U,e]
   rw[aZ e]
  obtain⟨r1,r2,r3,r4,r5,r6,r7,r8,r9⟩:=Zy hh he Z hz hk (n:=n) k4 hC1 A;refine⟨r1,r2.trans n1,r3.trans m1,fun y G=>r4 y (w1 y G),fun y G=>(r5 y G).trans (s5 y G),fun j M=>?_,fun j M=>?_,fun _=>⟨k3,fun I=>r4 f (w2 I)⟩,?_⟩
  ·by_cases L:j<es
   ·exact k1 j L
   have:=r6 (j-es) (by rw[yC] at M;omega);rw[show h.off+Nat.add off es+(j-es)=h.off+off+j by show h.off+(off+es)+(j-es)=_;omega,World.cell?_setCells_out _ _ _ _ _ (fun _ _=>by right;simp only;omega)] at this;exact this
  ·by_cases L:j<es
   ·exact k2 j L
   have:=r7 (j-es) (by rw[yC] at M;omega);rw[World.frozen?_setCells,show h.off+Nat.add off es+(j-es)=h.off+off+j by show h.off+(off+es)+(j-es)=_;omega] at this;exact this
  rw[upd_chain (C:=C) (H:=H) (H1:=H1) (f:=f) n1 (r2.trans n1) U s5 r5] at r9;rw[lV,YB,qP,show h.off+off+es=h.off+Nat.add off es by show _=h.off+(off+es);omega];exact r9
theorem clear_sound(hA:AR P ρ nt E a)(hR:R ρ C w){c:Call}{x:Operand}{x':aI}{t e:TypeId}{i:TypeInfo}{z:List ak}
  (ho:o.op= .call c) (hc:c.callee= .builtin .clear) (G:c.args=#[x]) (hx:ct P x=some x') (h0:c.argTypes[0]?=some t) (ht:P.underlying t=some (.slice e)) (hi:P.info? e=some i) (hz:zeroOf P e=some z)
  (hC:∀f o,f∈fS (x'.ev E)→(∃g h,ρ f g=some h)→H.t.get f=some o→C f=some o)
  (h:HQ i.size x' (.c (.agg z)) E H= .ok v H'):en P o a w (cQ ρ C w H v H'):=by
 replace h:=eg h;obtain⟨xa,U,h⟩:=h;have I:=hA.bG hx U;obtain⟨i',O,Y,qP,Z,hzk,Cr,yU,zE⟩:=wX hz;rw[hi] at Y
 cases Y
 replace h:=wS h;rcases h with⟨rfl,h⟩|⟨f,g,off,l,es,rfl,h⟩
 ·cases h
  simp only[VR] at I;refine .inl ⟨.tuple #[],w,?_,ρ,by simp only[VR];exact⟨#[],rfl,by simp[bQ]⟩,Ext.refl _ _ _ _,by rw[oJ];exact hR⟩;have A:(Builtin.clear_ c.argTypes o.type #[.slice none 0 0]).run P w= .ok (.tuple #[]) w:=by
   simp[Builtin.clear_,h0,run_underlying ht]
  simp[execOp,ho,resolve,hc,G,invoke,builtin,I,A]
 replace h:=eg h;obtain⟨zz,M,h⟩:=h;have M:zz= .agg z:=by
  have:some (ak.agg z)=some zz:=M
  cases this;rfl
 subst M;have h2:aD (Nat.beq es i.size) (aD (Nat.ble 1 i.size) (BM f g i.size z l off H) (.err 28)) (.err 28)= .ok v H':=h;clear h;obtain⟨b1,h3⟩:=eu h2;obtain⟨b2,h⟩:=eu h3;clear h2 h3;have b1:=cD b1;subst b1;simp only[VR] at I;obtain⟨L,ad,cap,hh,I,JO,qQ⟩:=I
 cases l with
 |zero=>
  have h:aC.ok (ak.tuple []) H= .ok v H':=h
  cases h
  refine .inl ⟨.tuple #[],w,?_,ρ,by simp only[VR];exact⟨#[],rfl,by simp[bQ]⟩,Ext.refl _ _ _ _,by rw[oJ];exact hR⟩;have A:(Builtin.clear_ c.argTypes o.type #[.slice (some ad) 0 cap]).run P w= .ok (.tuple #[]) w:=by
   simp[Builtin.clear_,h0,run_underlying ht]
  simp[execOp,ho,resolve,hc,G,invoke,builtin,I,A]
 |succ n=>
  rcases qQ with⟨rfl,_⟩|⟨h0,_⟩
  ·obtain⟨H1,hw,_⟩:=Bj (show Go.Ev.wr H f g off i.size z (aC.err 28) (fun H=>Go.Ev.cL (Nat.add off i.size) fun off=>BM f g i.size z n off H)=aC.ok v H' from h);obtain⟨_,_,_,_,_,_,hg,_⟩:=hw;have pC:C f=H.t.get f:=(hC f _ (by rw[U];simp[fS]) ⟨_,_,hh⟩ hg).trans hg.symm;obtain⟨r1,r2,r3,r4,r5,r6,r7,r8,r9⟩:=Zy hh yU (Z ρ) Cr hzk hR pC h;obtain⟨ro,rw1⟩:=r8 (Vr n);subst r1;obtain⟨s1,s2,s3,s4,s5,s6⟩:=CM L.bz (lV O.cells.toList (n+1)) (L.off+off) w;have hlen:(lV O.cells.toList (n+1)).length=(n+1)*i.size:=by rw[PU,o6,zE]
   have h1:∀x∈lV O.cells.toList (n+1),x.oneCell'=true:=fun x hx=>(Z ρ).Qn hzk x (aa9 hx)
   have O1:=run_storeCells_cells (P:=P) L.bz (L.off+off) (lV O.cells.toList (n+1)) 0 w (by rw[hlen];simpa using r6) (by rw[hlen];simpa using r7) h1;simp only[qv] at O1;have A:(Builtin.clear_ c.argTypes o.type #[.slice (some ⟨L.bz,L.off+off,none⟩) (n+1) cap]).run P w= .ok (.tuple #[]) (w.setCells L.bz (L.off+off) (lV O.cells.toList (n+1))):=by
    simp[Builtin.clear_,h0,run_underlying ht,zeroValue,typeInfo,hi,qP,zeroCells_eq,O1]
   refine .inl ⟨.tuple #[],w.setCells L.bz (L.off+off) (lV O.cells.toList (n+1)),?_,ρ,by simp only[VR];exact⟨#[],rfl,by simp[bQ]⟩,?_,r9⟩
   ·simp[execOp,ho,resolve,hc,G,invoke,builtin,I,A]
   refine⟨Ho.le_refl _,fun f g h e=>.inl ⟨g,h,e⟩,fun _ _ _ e=>.inl e,fun b hb hf=>?_,by rw[s1];exact bt _,by rw[r2];exact bt _,s4,s5,s6⟩;refine s2 b fun e=>?_
   refine hf f g L hh ro ?_ e.symm;unfold Wr;rw[r3]
   by_cases pA:f<H.aQ
   ·exact .inl (rw1 pA)
   exact .inr aq
  omega
end
section
variable{P:Program}{ρ:Ho}{nt:Nat}{E:Env}{a:Act}{C:Nat→Option cV}{w:World}{H H':ay}{v:ak}{o:Oper}{call:dG}{io:bm}
def abb(io:bm)(E:Env)(ρ:Ho)(C:Nat→Option cV)(H:ay):Prop:=
 ∀f o,(∀l,io.reads E=some l→f∈l)→(∃g h,ρ f g=some h)→H.t.get f=some o→C f=some o
theorem FH{l:List Operand}{G:aI}(h:jM P l=some [G]):∃x,l=[x]∧ct P x=some G:=by
 cases l with
 |nil=>simp[jM] at h
 |cons x r=>
  simp only[jM] at h
  split at h
  ·rename_i y l I A
   cases h
   cases r with
   |nil=>exact⟨x,rfl,I⟩
   |cons z s=>
    simp only[jM] at A
    split at A<;>cases A
  cases h
theorem Ku{l:List Operand}{z:aI}{r':List aI}(h:jM P l=some (z::r')):∃x r,l=x::r∧ct P x=some z∧jM P r=some r':=by
 cases l with
 |nil=>simp[jM] at h
 |cons x r=>
  simp only[jM] at h
  split at h
  ·rename_i y l A G
   cases h
   exact⟨x,r,rfl,A,G⟩
  cases h
theorem FC{c:Array Operand}{l:List Operand}(h:c.toList=l):c=l.toArray:=by rw[←h]
theorem callOf_sound(U:AR P ρ nt E a)(O:R ρ C w)(hF:fw ρ H.next H'.next)(hK:abb io E ρ C H)(hm:H.aQ≤H.next)(nq:∀x,H.next≤x→H.t.get x=none)(hc:je P call){c:Call}
  (ho:o.op= .call c) (A:RV P c=some io) (h:io.ev call E H= .ok v H'):en P o a w (cQ ρ C w H v H'):=by
 unfold RV at A
 split at A
 ·rename_i f args I G
  split at A
  ·rename_i f
   cases A
   exact call_sound U O hF (fun f Y=>hK f Y (fun l e=>by cases e)) hm nq hc ho I G h
  split at A
  ·rename_i y hy
   cases A
   exact callv_sound U O hF (fun f Y=>hK f Y (fun l e=>by cases e)) hm nq hc ho I hy G h
  cases A
 ·rename_i x' I G;obtain⟨x,L,M⟩:=FH G;have L:=FC L
  split at A
  ·rename_i t ht
   split at A
   ·rename_i hu
    cases A
    exact lenS_sound U O ho I L M ht hu h
   ·rename_i e hu
    cases A
    exact len_sound U O ho I L M ht hu h
   ·rename_i n e hu
    cases A
    exact lenK_sound (E:=E) O ho I L ht hu h
   cases A
  cases A
 ·rename_i x' y' I G;obtain⟨x,r,L,M,hr⟩:=Ku G;obtain⟨y,zJ,hy⟩:=FH hr;subst zJ;have L:=FC L
  split at A
  ·rename_i t u ht hu
   split at A
   ·rename_i e e2 Z Xl
    split at A
    ·rename_i i z hi hz
     split at A
     ·rename_i hb
      cases A
      exact app_sound U O hF ho I L M hy ht hu Z Xl hi hz hb (fun f Y hf=>hK f Y (fun l e=>by cases e;exact hf)) h
     cases A
    cases A
   ·rename_i e Z Xl
    split at A
    ·rename_i i z hi hz
     split at A
     ·rename_i hb
      cases A
      exact appStr_sound U O hF ho I L M hy ht hu Z Xl hi hz hb.1 hb.2 (fun f Y hf=>hK f Y (fun l e=>by cases e;exact hf)) h
     cases A
    cases A
   cases A
  cases A
 ·rename_i x' I G;obtain⟨x,L,M⟩:=FH G;have L:=FC L
  split at A
  ·rename_i t ht
   split at A
   ·rename_i e Z
    split at A
    ·rename_i i z hi hz
     cases A
     exact clear_sound U O ho I L M ht Z hi hz (fun f Y hf=>hK f Y (fun l e=>by cases e)) h
    cases A
   cases A
  cases A
 ·rename_i x' I G;obtain⟨x,L,M⟩:=FH G;have L:=FC L
  cases A
  exact usd_sound U O ho I L M h
 ·rename_i x' y' I G;obtain⟨x,r,L,M,hr⟩:=Ku G;obtain⟨y,zJ,hy⟩:=FH hr;subst zJ;have L:=FC L
  split at A
  ·rename_i pt it Xm;have Xm:c.argTypes=#[pt,it]:=Array.ext' Xm
   split at A
   ·rename_i e hp
    split at A
    ·rename_i he
     cases A
     exact ustr_sound U O ho I L M hy Xm hp he (fun f Y hf=>hK f Y (fun l e=>by cases e;exact hf)) h
    cases A
   cases A
  cases A
 ·rename_i l I G
  cases l with
  |nil=>cases A
  |cons x' r'=>
   obtain⟨x,r,L,M,hr⟩:=Ku G
   cases A
   exact YA (mx:=false) U O ho I L M hr h
 ·rename_i l I G
  cases l with
  |nil=>cases A
  |cons x' r'=>
   obtain⟨x,r,L,M,hr⟩:=Ku G
   cases A
   exact YA (mx:=true) U O ho I L M hr h
 cases A
theorem Zz(A:IZ P o.op=some io)(M:AR P ρ nt E a)(I:R ρ C w)(hF:fw ρ H.next H'.next)(hK:abb io E ρ C H)(hm:H.aQ≤H.next)(nq:∀x,H.next≤x→H.t.get x=none)(hc:je P call)
  (h:io.ev call E H= .ok v H'):en P o a w (cQ ρ C w H v H'):=by
 generalize G:o.op=op at A;unfold IZ at A
 split at A
 ·split at A
  ·rename_i y L;cases A;exact Zt M I (.inl G) L h
  cases A
 ·split at A
  ·rename_i y L;cases A;exact Zt M I (.inr G) L h
  cases A
 ·split at A
  ·rename_i c' a' b' h1 h2 h3;cases A;exact pick_sound M I G h1 h2 h3 h
  cases A
 ·split at A
  ·rename_i z i hz hi;cases A;exact boxz_sound (E:=E) I hF G hz hi h
  cases A
 ·split at A
  ·rename_i n i y U hi L;cases A;exact box_sound M I hF G L U h
  cases A
 ·exact build_sound M I G A h
 ·exact buildSl_sound M I hF G A h
 ·split at A
  ·rename_i n y U L;cases A;exact load_sound M I G L U (fun f o' hf=>hK f o' (fun l e=>by cases e;exact hf)) h
  cases A
 ·split at A
  ·rename_i n y z U L hz;cases A;exact store_sound M I G L hz U (fun f o' hf=>hK f o' (fun l e=>by cases e;exact hf)) h
  cases A
 ·split at A
  ·rename_i y L;cases A;exact nilck_sound M I G L h
  cases A
 ·split at A
  ·rename_i x' y' O L;unfold afQ at A
   split at A
   ·cases A;exact Zu M I G O L h
   ·cases A;exact Zu M I G O L h
   ·rename_i fs hu;exact eqAgg_sound M I G O L hu A h
   ·rename_i d _ _ _ hu;exact eqv_sound M I G O L hu A h
   cases A
  cases A
 ·split at A
  ·rename_i y L;cases A;exact un_sound M I G L h
  cases A
 ·split at A
  ·rename_i y L;unfold adi at A
   split at A
   ·rename_i hs hd;cases A;exact conv_sound M I G L hs hd h
   exact conv2_sound M I hF G L A (fun f o' hl=>hK f o' hl) h
  cases A
 ·split at A
  ·cases A
  ·rename_i d y fO hd L;cases A;exact mkif_sound M I G hd (fun ms e=>fO ms (e▸rfl)) L h
  cases A
 ·split at A
  ·rename_i fs l hfs hl;cases A;exact mkfn_sound M I G hfs hl h
  cases A
 ·split at A
  ·rename_i x' y' O L;exact mksl_sound M I hF G O L A h
  cases A
 ·split at A
  ·rename_i x' zH wH Y O Z Cq;cases A;exact slStr_sound M I G O Z Cq Y h
  ·rename_i e x' zH wH Y O Z Cq
   split at A
   ·rename_i n U;cases A;exact slSl_sound M I G O Z Cq Y U h
   cases A
  ·cases A
  cases A
 ·split at A
  ·rename_i e x' zH wH mx' Y O Z Cq W7
   split at A
   ·rename_i n U;cases A;exact sl3_sound M I G O Z Cq W7 Y U h
   cases A
  cases A
 ·split at A
  ·rename_i fs y hs L
   split at A
   ·rename_i fd hf
    split at A
    ·rename_i n U
     cases A
     obtain⟨i,d,hi,_,e,h0⟩:=uG U;exact offs_sound M I G L hs hf hi aq h
    cases A
   cases A
  cases A
 ·split at A
  ·rename_i fs y hs L
   split at A
   ·rename_i fd hf
    split at A
    ·rename_i n U;cases A;exact sub_sound M I G L hs hf U h
    cases A
   cases A
  cases A
 ·split at A
  ·rename_i k e x' i' Y O hi
   split at A
   ·rename_i n U
    split at A
    ·cases A;exact idxArr_sound M I G O hi Y U h
    cases A
   cases A
  ·rename_i e x' i' Y O hi
   split at A
   ·rename_i n U;cases A;exact idxSl_sound M I G O hi Y U h
   cases A
  cases A
 ·split at A
  ·rename_i k e x' i' Y O hi
   split at A
   ·rename_i n U;cases A;exact idxVal_sound M I G O hi Y U h
   cases A
  ·rename_i x' i' Y O hi
   cases A
   exact idxStr_sound M I G O hi Y h
  cases A
 ·split at A
  ·rename_i y L;cases A;exact extr_sound M I G L h
  cases A
 ·exact callOf_sound M I hF hK hm nq hc G A h
 cases A
end
def iK(E:Env)(d:Option Key)(v:ak):Env:=match d with|some d=>E.set d v|none=>E
theorem LN{dst:Option Key}{E E':Env}{H':ay}{k:Env→ay→dD}{r:aC}(h:fin dst E k r= .ok E' H'):∃v H1,r= .ok v H1∧k (iK E dst v) H1= .ok E' H':=by
 cases r with
 |err n=>cases h
 |ok v H1=>
  refine⟨v,H1,rfl,?_⟩
  cases dst with
  |none=>exact h
  |some d=>
   have h:E.Ey d v (fun E=>k E H1)= .ok E' H':=h;rw[T4.F8] at h;exact h
theorem xe(dst:Option Key)(E:Env)(H:ay)(k:Env→ay→dD):ib dst E H k=k (iK E dst .undef) H:=by
 cases dst with
 |none=>rfl
 |some d=>show E.Ey d .undef (fun E=>k E H)=_;rw[T4.F8];rfl
inductive mj(E:Env):Option (Key×Bool)→Bool→Prop
 |none:mj E none true
 |slot {t:Key} {want b:Bool}:E.get t=some (.bool b)→mj E (some (t,want)) (b==want)
 |off {t:Key} {want:Bool}:E.get t=some .undef→mj E (some (t,want)) false
theorem abc{call:dG}{o:bl}{E E':Env}{H H':ay}{k:Env→ay→dD}(h:o.step call E H k= .ok E' H'):
  (mj E o.g true∧∃v H1,o.op.ev call E H= .ok v H1∧k (iK E o.dst v) H1= .ok E' H')∨(mj E o.g false∧k (iK E o.dst .undef) H= .ok E' H'):=by
 obtain⟨dst,g,q,op⟩:=o
 cases g with
 |none=>exact .inl ⟨.none,LN h⟩
 |some G=>
  obtain⟨t,want⟩:=G;have h:ob (E.get t) (dD.err 51) (fun v=>yR v (ib dst E H k) fun b=>aD (Bool.xor b want) (ib dst E H k) (bl.run call ⟨dst,some (t,want),q,op⟩ E H k))= .ok E' H':=h
  cases z:E.get t with
  |none=>rw[z] at h;cases h
  |some v=>
   rw[z] at h
   cases v<;>try(cases h;done)
   case undef=>
    have h:ib dst E H k= .ok E' H':=h;rw[xe] at h;exact .inr ⟨.off z,h⟩
   rename_i b;have h:aD (Bool.xor b want) (ib dst E H k) (bl.run call ⟨dst,some (t,want),q,op⟩ E H k)= .ok E' H':=h;have A:=mj.slot (E:=E) (want:=want) z
   cases b<;>cases want
   ·exact .inl ⟨A,LN h⟩
   ·rw[show Bool.xor false true=true from rfl,et,xe] at h;exact .inr ⟨A,h⟩
   ·rw[show Bool.xor true false=true from rfl,et,xe] at h;exact .inr ⟨A,h⟩
   exact .inl ⟨A,LN h⟩
structure EC(P:Program)(nt:Nat)(ops:Array Oper)(o:Oper)(io:bl):Prop where
 dst:o.dst=io.dst.map Key.n
 lt:∀d,io.dst=some d→d.n<nt
 g:(o.guard=none∧io.g=none)∨∃j want d,o.guard=some (j,want)∧(ops[j]?).bind (·.dst)=some d.n∧io.g=some (d,want)
 op:IZ P o.op=some io.op∨io.op=bad
theorem abd{call:dG}{E:Env}{H H':ay}{v:ak}(h:bad.ev call E H= .ok v H'):False:=by cases h
section
variable{P:Program}{ρ:Ho}{nt:Nat}{E:Env}{a:Act}{C:Nat→Option cV}{w:World}{H H':ay}{v:ak}{call:dG}{ops:Array Oper}{Q:Exit→Act→World→Prop}
theorem P7{o:Oper}{io:bl}{b:Bool}(ho:EC P nt ops o io)(A:mj E io.g b)(M:∀t v,E.get t=some v→∃cv,a.tmps[t.n]?=some cv∧VR ρ v cv):Region.wanted o (yielded ops a.tmps)=b:=by
 unfold Region.wanted;rcases ho.g with⟨G,h2⟩|⟨j,want,d,G,h2,O⟩
 ·rw[h2] at A;rw[G]
  cases A
  rfl
 rw[O] at A;rw[G]
 cases A with
 |slot I=>
  obtain⟨cv,L,z⟩:=M _ _ I;simp only[VR] at z;subst z;simp only[yielded,h2,Option.bind_some,L];rename_i b
  cases b<;>cases want<;>rfl
 |off I=>
  obtain⟨cv,L,z⟩:=M _ _ I;simp only[VR] at z;subst z;simp only[yielded,h2,Option.bind_some,L,undef]
  cases want<;>rfl
theorem KC(A:gJ ρ C H){ρ':Ho}(G:∀f g h,ρ' f g=some h→(∃g0 h0,ρ f g0=some h0)∨(H.next≤f∧f<H'.next)):gJ ρ' (ep C H H') H':=by
 intro f o z ho;obtain⟨g,h,z⟩:=z;unfold ep
 split
 ·exact ho
 rename_i I
 split
 ·rename_i L;refine A f o ?_ (L▸ho);rcases G f g h z with k|k
  ·exact k
  exact absurd k I
 exact ho
theorem fw.sub(h:fw ρ H.next H'.next){ρ':Ho}{n1:Nat}(z:∀f g h,ρ' f g=some h→(∃g0 h0,ρ f g0=some h0)∨(H.next≤f∧f<n1))(I:H.next≤n1):fw ρ' n1 H'.next:=by
 intro f g h2 A
 cases G:ρ' f g with
 |none=>rfl
 |some x=>
  rcases z f g x G with⟨g0,h0,e⟩|e
  ·rw[h f g0 aq A] at e;cases e
  omega
theorem fw.le{n0 n1 z:Nat}(h:fw ρ n0 z)(A:n1≤z):fw ρ n0 n1:=fun f g a b=>h f g a aq
theorem AR.N1(h:AR P ρ nt E a){d:Option Key}(z:∀x,d=some x→x.n<nt){v:ak}{cv:Value}(A:VR ρ v cv):AR P ρ nt (iK E d v) (a.put (d.map Key.n) cv):=by
 cases d with
 |none=>exact h
 |some d=>exact h.put (z d rfl) A
theorem Ky(A:je P call):∀(l:List bl)(E:Env)(H:ay)(E':Env)(H':ay),H.aQ≤H.next→mi call l E H= .ok E' H'→eH H H'
 |[],E,H,E',H',_,h=>by cases h;exact eH.refl _
 |o::r,E,H,E',H',z,h=>by
  rcases abc (show o.step call E H (mi call r)= .ok E' H' from h) with⟨_,v,H1,G,h2⟩|⟨_,h2⟩
  ·have t1:=TM.ins z (fun f a=>A.kK f a H z) E o.op v H1 G;exact t1.trans (Ky A r _ _ _ _ (by rw[t1.aQ];exact eZ z t1.next) h2)
  exact Ky A r _ _ _ _ z h2
def WF(H:ay):Prop:=∀x,H.next≤x→H.t.get x=none
theorem QW{H1 A:ay}(h:eH H1 A)(f:Nat)(z:Wr H1 f):Wr A f:=by
 rcases z with z|z
 ·exact .inl (h.ws f z)
 exact .inr (by rw[h.aQ];exact z)
def rM(P:Program)(nt:Nat)(E':Env)(H H':ay)(C:Nat→Option cV)(ρ:Ho)(w:World)(K:Act→World→Prop):Prop:=
 ∀z w' ρ',AR P ρ' nt E' z→Ext (Wr H') H.next H'.next ρ ρ' w w'→R ρ' (ep C H H') w'→gJ ρ' (ep C H H') H'→K z w'
theorem ZA{ρ:Ho}(hK:gJ ρ C H){H1 z:ay}(h1:H.next≤H1.next)(h2:H1.next≤z.next)(A:∀f,H1.t.get f≠none→z.t.get f≠none){ρ':Ho}(hd:∀f g h,ρ' f g=some h→(∃g0 h0,ρ f g0=some h0)∨(H.next≤f∧f<z.next))
  (f:Nat) (o:cV) (h:ep C H z f=some o) (I:∃g x,ρ' f g=some x):ep (ep C H H1) H1 z f=some o:=by
 obtain⟨g,x,I⟩:=I;unfold ep at h⊢
 by_cases L:H1.next≤f∧f<z.next
 ·rw[bj ⟨aq,L.2⟩] at h;rw[bj L];exact h
 rw[aZ L]
 by_cases M:H.next≤f∧f<H1.next
 ·rw[bj ⟨M.1,aq⟩] at h;rw[bj M]
  split
  ·rename_i e;rw[←e];exact h
  exact h
 have c3:¬(H.next≤f∧f<z.next):=by omega
 rw[aZ M];rw[aZ c3] at h;have G:∃g0 h0,ρ f g0=some h0:=(hd f g x I).resolve_right c3;have O:=fun U=>hK f U G
 split
 ·rename_i e
  split
  ·rename_i Y;rw[bj (e.trans Y)] at h;exact h
  rename_i Y;rw[aZ (by rw[e];exact Y),e] at h;exact h
 rename_i e
 split at h
 ·rename_i Z;rw[Z]
  cases hg:H.t.get f with
  |none=>
   have h3:H1.t.get f≠none:=fun e3=>e (by rw[Z,hg,e3])
   exact absurd (Z.trans hg) (A f h3)
  |some U=>
   rw[O U hg] at h;exact h
 exact h
theorem rest_ok{o:Oper}{io:bl}{H1:ay}{E':Env}{K:Act→World→Prop}(ho:EC P nt ops o io)(hA:AR P ρ nt E a)(O:gJ ρ C H)(U:eH H H1)(I:eH H1 H')
  (L:rM P nt E' H H' C ρ w K) {cv:Value} {w':World} (hp:cQ ρ C w H v H1 cv w') {K':Act→World→Prop}
  (hk:∀ρ' Y,AR P ρ' nt (iK E io.dst v) (a.put o.dst cv)→R ρ' Y w'→gJ ρ' Y H1→(∀f g h,ρ' f g=some h→(∃g0 h0,ρ f g0=some h0)∨(H.next≤f∧f<H1.next))→vn P ρ'→rM P nt E' H1 H' Y ρ' w' K→K' (a.put o.dst cv) w'):
  K' (a.put o.dst cv) w':=by
 obtain⟨ρ',hv,A,Z⟩:=hp;have G:AR P ρ' nt (iK E io.dst v) (a.put o.dst cv):=by
  rw[ho.dst];exact(hA.mono A.le).N1 ho.lt hv
 refine hk ρ' (ep C H H1) G Z (KC O A.gp) A.gp G.qz fun a2 w2 M G he2 hR2 hK2=>?_
 have z:Ext (Wr H') H.next H'.next ρ M w w2:=(A.mono (QW I)).trans he2;refine L a2 w2 M G z ?_ (KC O z.gp);exact hR2.weaken fun f o h hf=>ZA O U.next I.next I.gg z.gp f o h hf
theorem YS(hc:je P call){K:Act→World→Prop}:∀(l:List bl)(os:List Oper)(k:Nat),os.length=l.length→(∀(i:Nat)(o:Oper)(io:bl),os[i]?=some o→l[i]?=some io→EC P nt ops o io)→(∀(i:Nat)(o:Oper),os[i]?=some o→ops[k+i]?=some o)→
  ∀(E:Env)(H:ay)(E':Env)(H':ay)(ρ:Ho)(C:Nat→Option cV)(a:Act)(w:World),mi call l E H= .ok E' H'→AR P ρ nt E a→R ρ C w→gJ ρ C H→fw ρ H.next H'.next→H.aQ≤H.next→WF H→
  rM P nt E' H H' C ρ w K→(∀a w,K a w→Q .normal a w)→wpOps P ops Q ((List.range' k l.length)) a w
 |[],os,k,hl,M,O,E,H,E',H',ρ,C,a,w,h,U,hR,hK,hF,Z,I,z,hQ=>by
  cases h
  refine hQ _ _ (z a w ρ U (Ext.refl _ _ _ _) ?_ ?_)
  ·rw[oJ];exact hR
  rw[oJ];exact hK
 |io::r,[],k,hl,_,_,_,_,_,_,_,_,_,_,_,_,_,_,_,_,_,_,_=>by simp at hl
 |io::r,o::os,k,hl,M,O,E,H,E',H',ρ,C,a,w,h,U,hR,hK,hF,Z,I,z,hQ=>by
  have ho:=M 0 o io rfl rfl;have Xn:ops[k]?=some o:=by simpa using O 0 o rfl
  have A:=YS hc (K:=K) r os (k+1) (by simpa using hl) (fun i o io L h2=>M (i+1) o io (by simpa using L) (by simpa using h2)) (fun i o L=>by
   have:=O (i+1) o (by simpa using L);rwa [show k+(i+1)=k+1+i by omega] at this)
  rw[gy,List.range'_succ,wpOps_cons];unfold wpOp;simp only[Xn];rcases abc (show io.step call E H (mi call r)= .ok E' H' from h) with⟨hw,v,H1,L,h2⟩|⟨hw,h2⟩
  ·rw[P7 ho hw U.tmp,bj rfl];left;have G:=TM.ins Z (fun f a=>hc.kK f a H Z) E io.op v H1 L;have qM:H1.aQ≤H1.next:=by rw[G.aQ];exact eZ Z G.next
   have ht2:=Ky hc r _ _ _ _ qM h2;rcases ho.op with JV|VD
   case inr=>rw[VD] at L;exact(abd L).elim
   have hok2:=Zz (o:=o) JV U hR (hF.le ht2.next) (fun f o' _ hf pD=>hK f o' hf pD) Z I hc L;refine Y3 hok2 fun cv w' hp=>?_
   refine rest_ok ho U hK G ht2 z hp (K':=wpOps P ops Q (List.range' (k+1) r.length)) fun ρ' C' Y Xo hK' hd hg ht=>?_
   exact A _ H1 E' H' ρ' C' _ w' h2 Y Xo hK' (hF.sub hd G.next) qM (G.wf I) ht hQ
  rw[P7 ho hw U.tmp,aZ (by simp)];have Y:AR P ρ nt (iK E io.dst .undef) (a.put o.dst undef):=by
   rw[ho.dst];exact U.N1 ho.lt (by simp only[VR])
  exact A _ H E' H' ρ C _ w h2 Y hR hK hF Z I z hQ
end
def ay.mark(H:ay):ay:=⟨H.next,H.next,[],H.t⟩
def Dn(H H1:ay):ay:=⟨H1.next,H.aQ,oK H.aQ H.ws H1.ws,H1.t⟩
theorem FD(aQ:Nat)(ws:List Nat):∀(new:List Nat)(x:Nat),x∈oK aQ ws new↔x∈ws∨(x∈new∧x<aQ)
 |[],x=>by show x∈ws↔_;simp
 |f::r,x=>by
  show x∈wrote f aQ (oK aQ ws r)↔_;rw[Ah,FD aQ ws r];simp only[rJ];constructor
  ·rintro((h|⟨h,k⟩)|⟨rfl,k⟩)
   ·exact .inl h
   ·exact .inr ⟨.inr h,k⟩
   exact .inr ⟨.inl rfl,k⟩
  rintro(h|⟨rfl|h,k⟩)
  ·exact .inl (.inl h)
  ·exact .inr ⟨rfl,k⟩
  exact .inl (.inr ⟨h,k⟩)
theorem eH.Dn{H H1:ay}(G:H.aQ≤H.next)(h:eH H.mark H1):eH H (Dn H H1):=
 ⟨h.next,rfl,fun f z=>(FD _ _ _ _).2 (.inl z),fun f z A=>h.same f (by show f<H.next;omega) (fun e=>A ((FD _ _ _ _).2 (.inr ⟨e,z⟩))),h.wf,h.gg⟩
theorem ZB{l m:List Nat}(h:DP l m=true):∀x,x∈l→x∉m:=by
 induction l with
 |nil=>intro x z;cases z
 |cons y r I=>
  have h:aD (qy y m) false (DP r m)=true:=h;intro x z G
  cases A:qy y m
  ·rw[A] at h
   cases z with
   |head=>rw[(Qm _ _).2 G] at A;cases A
   |tail _ z=>exact I h x z G
  rw[A] at h;cases h
theorem ZC{l:List Nat}{r:Option (List Nat)}(h:HV l r=true){x:Nat}(z:x∈l):∃m,r=some m∧x∉m:=by
 cases l with
 |nil=>cases z
 |cons y s=>
  cases r with
  |none=>cases h
  |some m=>exact⟨m,rfl,ZB (l:=y::s) h x z⟩
theorem outN_mem{l:List Nat}{lo hi:Nat}(h:yT l lo hi=true):∀x,x∈l→¬(lo≤x∧x<hi):=by
 induction l with
 |nil=>intro x z;cases z
 |cons y r L=>
  have h:aD (Nat.ble lo y) (aD (Nat.ble hi y) (yT r lo hi) false) (yT r lo hi)=true:=h;intro x z⟨G,h2⟩
  cases A:Nat.ble lo y
  ·rw[A] at h
   cases z with
   |head=>rw[gW G] at A;cases A
   |tail _ z=>exact L h x z ⟨G,h2⟩
  rw[A] at h;have h:aD (Nat.ble hi y) (yT r lo hi) false=true:=h
  cases I:Nat.ble hi y
  ·rw[I] at h;cases h
  rw[I] at h
  cases z with
  |head=>have:=aV I;omega
  |tail _ z=>exact L h x z ⟨G,h2⟩
structure C4(a b:FP):Prop where
 ab:∀x,x∈a.ws→∃m,b.rd=some m∧x∉m
 ba:∀x,x∈b.ws→∃m,a.rd=some m∧x∉m
 ww:∀x,x∈a.ws→x∉b.ws
 out:∀x,x∈a.ws→¬(b.lo≤x∧x<b.hi)
theorem apartFP_ok{a b:FP}(h:mQ a b=true):C4 a b:=by
 unfold mQ at h;have z:∀{p:Bool}{q:Bool},aD p q false=true→p=true∧q=true:=by intro p q h;cases p;cases h;exact⟨rfl,h⟩
 obtain⟨A,h⟩:=z h;obtain⟨h2,h⟩:=z h;obtain⟨G,h⟩:=z h;exact⟨fun x=>ZC A,fun x=>ZC h2,ZB G,outN_mem h⟩
theorem YT{a:FP}{bb:List FP}:∀{l:List Nat},ma a bb l=true→∀k,k∈l→∃b,bb[k]?=some b∧C4 a b
 |[],_,k,z=>by cases z
 |i::r,h,k,z=>by
  have h:ob (bb[i]?) false (fun b=>aD (mQ a b) (ma a bb r) false)=true:=h
  cases A:bb[i]?with
  |none=>rw[A] at h;cases h
  |some b=>
   rw[A] at h;have h:aD (mQ a b) (ma a bb r) false=true:=h
   cases G:mQ a b
   ·rw[G] at h;cases h
   rw[G] at h
   cases z with
   |head=>exact⟨b,A,apartFP_ok G⟩
   |tail _ z=>exact YT h k z
inductive qb(call:dG)(o:bl)(E:Env)(H:ay)(bb:List FP):Bool→ak→FP→ay→Prop
 |skip {fp:FP}:mj E o.g false→(o.q.isSome=true→fp=⟨some [],[],0,0⟩)→qb call o E H bb false .undef fp H
 |plain {v:ak} {fp:FP} {H1:ay}:mj E o.g true→o.q=none→o.op.ev call E H= .ok v H1→qb call o E H bb true v fp H1
 |marked {v:ak} {q:List Nat} {H1:ay}:mj E o.g true→o.q=some q→o.op.ev call E H.mark= .ok v H1→ma ⟨o.op.reads E,H1.ws,H.next,H1.next⟩ bb q=true→
   qb call o E H bb true v ⟨o.op.reads E,H1.ws,H.next,H1.next⟩ (Dn H H1)
def FY(o:bl)(fp:FP)(bb:List FP):List FP:=match o.q with|some _=>fp::bb|none=>bb
theorem finQ_ok{rs:Option (List Nat)}{l:List Nat}{next aQ:Nat}{ws:List Nat}{bb:List FP}{dst:Option Key}{E E':Env}{H':ay}{k:Env→ay→List FP→dD}{v:ak}{next' A:Nat}{z:List Nat}{t':HT}
  (h:EA rs l next aQ ws bb dst E k (.ok v ⟨next',A,z,t'⟩)= .ok E' H'):
  ma ⟨rs,z,next,next'⟩ bb l=true∧k (iK E dst v) ⟨next',aQ,oK aQ ws z,t'⟩ (⟨rs,z,next,next'⟩::bb)= .ok E' H':=by
 unfold EA at h;dsimp only at h
 cases G:ma ⟨rs,z,next,next'⟩ bb l
 ·rw[G] at h;cases h
 rw[G,et] at h;refine⟨rfl,?_⟩
 cases dst with
 |none=>exact h
 |some d=>
  dsimp only at h;rw[T4.F8] at h;exact h
theorem aag{call:dG}{o:bl}{E E':Env}{H H':ay}{bb:List FP}{k:Env→ay→List FP→dD}(h:o.ji call E H bb k= .ok E' H'):
  ∃b v fp H1,qb call o E H bb b v fp H1∧k (iK E o.dst v) H1 (FY o fp bb)= .ok E' H':=by
 have run:mj E o.g true→o.pc call E H bb k= .ok E' H'→∃b v fp H1,qb call o E H bb b v fp H1∧k (iK E o.dst v) H1 (FY o fp bb)= .ok E' H':=by
  intro z h;obtain⟨dst,g,q,op⟩:=o
  cases q with
  |none=>
   obtain⟨v,H1,M,h2⟩:=LN (k:=fun E H=>k E H bb) h;exact⟨true,v,⟨none,[],0,0⟩,H1,.plain z rfl M,h2⟩
  |some q=>
   cases H with
   |mk next aQ ws t=>
    have h:cL next (fun next=>EA (op.reads E) q next aQ ws bb dst E k (op.ev call E ⟨next,next,[],t⟩))= .ok E' H':=h;rw[fQ] at h
    cases L:op.ev call E ⟨next,next,[],t⟩ with
    |err n=>rw[L] at h;cases h
    |ok v H1=>
     rw[L] at h
     cases H1 with
     |mk next' A G t'=>
      obtain⟨O,h⟩:=finQ_ok h;exact⟨true,v,⟨op.reads E,G,next,next'⟩,Dn ⟨next,aQ,ws,t⟩ ⟨next',A,G,t'⟩,.marked (q:=q) (H1:=⟨next',A,G,t'⟩) z rfl L O,h⟩
 have skip:mj E o.g false→ib o.dst E H (fun E H=>k E H (nT o.q bb))= .ok E' H'→∃b v fp H1,qb call o E H bb b v fp H1∧k (iK E o.dst v) H1 (FY o fp bb)= .ok E' H':=by
  intro z h;rw[xe] at h;obtain⟨dst,g,q,op⟩:=o;refine⟨false,.undef,⟨some [],[],0,0⟩,H,.skip z (fun _=>rfl),?_⟩
  cases q<;>exact h
 obtain⟨dst,g,q,op⟩:=o
 cases g with
 |none=>exact run .none h
 |some U=>
  obtain⟨t,want⟩:=U;have h:ob (E.get t) (dD.err 51) (fun v=>yR v (ib dst E H fun E H=>k E H (nT q bb)) fun b=>aD (Bool.xor b want) (ib dst E H fun E H=>k E H (nT q bb)) (bl.pc call ⟨dst,some (t,want),q,op⟩ E H bb k))= .ok E' H':=h
  cases I:E.get t with
  |none=>rw[I] at h;cases h
  |some v=>
   rw[I] at h
   cases v<;>try(cases h;done)
   case undef=>exact skip (.off I) h
   rename_i b;have h:aD (Bool.xor b want) (ib dst E H fun E H=>k E H (nT q bb)) (bl.pc call ⟨dst,some (t,want),q,op⟩ E H bb k)= .ok E' H':=h;have z:=mj.slot (E:=E) (want:=want) I
   cases b<;>cases want
   ·exact run z h
   ·exact skip z h
   ·exact skip z h
   exact run z h
structure Trace(call:dG)(l:List bl)(E:Env)(H:ay)(bb:List FP)(E':Env)(H':ay)(Es:Nat→Env)(Hs:Nat→ay)(Rs:Nat→List FP)(Wn:Nat→Bool)(Vs:Nat→ak)(Fp:Nat→FP):Prop where
 e0:Es 0=E
 h0:Hs 0=H
 r0:Rs 0=bb
 eN:Es l.length=E'
 hN:Hs l.length=H'
 step:∀i o,l[i]?=some o→qb call o (Es i) (Hs i) (Rs i) (Wn i) (Vs i) (Fp i) (Hs (i+1))∧Es (i+1)=iK (Es i) o.dst (Vs i)∧Rs (i+1)=FY o (Fp i) (Rs i)
theorem aah{call:dG}:∀(l:List bl)(E:Env)(H:ay)(bb:List FP)(E':Env)(H':ay),iE call l E H bb= .ok E' H'→
  ∃Es Hs Rs Wn Vs Fp,Trace call l E H bb E' H' Es Hs Rs Wn Vs Fp
 |[],E,H,bb,E',H',h=>by
  cases h
  exact⟨fun _=>E,fun _=>H,fun _=>bb,fun _=>true,fun _=>.undef,fun _=>⟨none,[],0,0⟩,rfl,rfl,rfl,rfl,rfl,fun i o h=>by simp at h⟩
 |o::r,E,H,bb,E',H',h=>by
  obtain⟨b,v,fp,H1,A,h2⟩:=aag (show o.ji call E H bb (iE call r)= .ok E' H' from h);obtain⟨Es,Hs,Rs,Wn,Vs,Fp,t⟩:=aah r _ _ _ _ _ h2;refine⟨fun|0=>E|i+1=>Es i,fun|0=>H|i+1=>Hs i,fun|0=>bb|i+1=>Rs i,fun|0=>b|i+1=>Wn i,fun|0=>v|i+1=>Vs i,fun|0=>fp|i+1=>Fp i,rfl,rfl,rfl,t.eN,t.hN,fun i x z=>?_⟩
  cases i with
  |zero=>
   simp at z;subst z;simp only[t.e0,t.h0,t.r0];exact⟨A,True.intro,True.intro⟩
  |succ i=>exact t.step i x (by simpa using z)
end Go.Ev
