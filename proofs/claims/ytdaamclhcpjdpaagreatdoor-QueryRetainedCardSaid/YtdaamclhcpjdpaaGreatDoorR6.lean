/- Part 6 of rules for walks through the code of a program, and of such walks; what each part proves is said by its theorems. -/
import Derived.Test.YtdaamclhcpjdpaaGreatDoorR5
import Derived.Laws.Tables
import Derived.Laws.MakeOwn
import Derived.Great.FillDense
import Derived.LaidEql
set_option linter.unusedVariables false
set_option linter.unusedSimpArgs false
noncomputable section
set_option maxRecDepth 100000
set_option maxHeartbeats 4000000
namespace Go.Ev
section
variable{P:Program}{ρ:Ho}{nt:Nat}{E:Env}{a:Act}{C:Nat→Option cT}{w:World}{H H':aw}{v:al}{o:Oper}
theorem X8{at_:Array TypeId}{t z ty:TypeId}{args:Array Value}(h0:at_[0]?=some t)(A:at_[1]?=some z):Builtin.append_ at_ ty args=Builtin.append_ #[t,z] ty args:=by
 unfold Builtin.append_;simp[h0,A]
theorem YF(Y:R ρ C w)(hF:fk ρ H.next H'.next){t tx ty e:TypeId}{i:TypeInfo}{z:List al}{G:al}{O yc:Value}{n:Nat}{new:List (List al)}{news:List Value}
  (ht:P.underlying t=some (.slice e)) (hi:P.info? e=some i) (hz:zeroOf P e=some z) (hb:i.bytes≠0) (hl:new.length=n) (I:Flat ρ i.size new news) (U:Src P i.size tx yc n news w)
  (A:VR ρ G O) (hC:∀f o,f∈fM (some G)→(∃g h,ρ f g=some h)→H.t.get f=some o→C f=some o)
  (h:iI e i.size i.bytes n new H G= .ok v H'):∃cv w',(Builtin.append_ #[t,tx] ty #[O,yc]).run P w= .ok cv w'∧cP ρ C w H v H' cv w':=by
 cases n with
 |zero=>
  have um:news=[]:=by
   have:=I.len;rw[hl,tG] at this;exact o8 this
  subst um;have h:eR G (aC.err 31) (aC.ok G H) (fun _ _ _ _ _=>aC.ok G H)=aC.ok v H':=h;replace h:=wI h;have Z:=U.kind;have fin:∀base l c,O= .slice base l c→l≤c→(Builtin.append_ #[t,tx] ty #[O,yc]).run P w= .ok O w:=by
   intro base l c e L;subst e;have h2:=U.cells;rcases Z with⟨e',Z⟩|Z<;>cases base<;>simp[Builtin.append_,run_underlying ht,run_underlying Z,sizeOf,typeInfo,hi,U.len,L,h2,storeCells]
  rcases h with⟨rfl,h⟩|⟨f,g,o1,l,es,rfl,h⟩
  ·cases h
   have M:=A;simp only[VR] at A;exact⟨O,w,fin _ _ _ A (bq _),cP.pure Y M⟩
  cases h
  have M:=A;simp only[VR] at A;obtain⟨hm,ad,cap,hh,rfl,L,qZ⟩:=A;exact⟨_,w,fin _ _ _ rfl L.1,cP.pure Y M⟩
 |succ n=>
  have h:eR G (aC.err 34) (zZ e i.size i.bytes (n+1) new H) (Aa e i.size i.bytes (n+1) new H)=aC.ok v H':=h;replace h:=wI h;rcases h with⟨rfl,h⟩|⟨f,g,o1,l,es,rfl,h⟩
  ·simp only[VR] at A;subst A;exact nil_sound Y hF ht hi hz hb (UT _) hl I U h
  exact row_sound Y ht hi hz hb (UT _) hl I U A (fun o=>hC f o (by simp[fM])) h
theorem app_sound(hA:AR P ρ nt E a)(hR:R ρ C w)(hF:fk ρ H.next H'.next){c:Call}{x y:Operand}{x' y':aH}{t u e e2:TypeId}{i:TypeInfo}{z:List al}
  (ho:o.op= .call c) (hc:c.callee= .builtin .append) (M:c.args=#[x,y]) (hx:cg P x=some x') (hy:cg P y=some y') (h0:c.argTypes[0]?=some t) (h1:c.argTypes[1]?=some u)
  (ht:P.underlying t=some (.slice e)) (I:P.underlying u=some (.slice e2)) (hi:P.info? e=some i) (hz:zeroOf P e=some z) (hb:i.bytes≠0)
  (hC:∀f o,f∈fM (x'.ev E)++fM (y'.ev E)→(∃g h,ρ f g=some h)→H.t.get f=some o→C f=some o)
  (h:IM e i.size i.bytes x' y' E H= .ok v H'):dX P o a w (cP ρ C w H v H'):=by
 replace h:=dW h;obtain⟨xa,U,h⟩:=h;replace h:=dW h;obtain⟨ya,Y,h⟩:=h;have WN:=hA.bD hx U;have A:=hA.bD hy Y;obtain⟨i',zv,Z,qY,_,_,_,yu,yU⟩:=wM hz;rw[hi] at Z
 cases Z
 have hCx:∀f o,f∈fM (some xa)→(∃g h,ρ f g=some h)→H.t.get f=some o→C f=some o:=fun f o hf=>hC f o (by rw[U];exact ahs _ hf)
 have done:∀{n:Nat}{new:List (List al)}{news:List Value},new.length=n→Flat ρ i.size new news→Src P i.size u (a.eval y) n news w→iI e i.size i.bytes n new H xa= .ok v H'→dX P o a w (cP ρ C w H v H'):=by
  intro n new news hl G hs h;obtain⟨cv,w',vE,hp⟩:=YF hR hF (ty:=o.type) ht hi hz hb hl G hs WN hCx h;refine .inl ⟨cv,w',?_,hp⟩;simp[execOp,ho,resolve,hc,M,invoke,builtin,X8 h0 h1,vE]
 replace h:=wI h;rcases h with⟨rfl,h⟩|⟨f,g,o1,l,es,rfl,h⟩
 ·simp only[VR] at A;refine done (new:=[]) (news:=[]) rfl ⟨by simp,(fun _ I=>by cases I),(fun i x hx=>by simp at hx)⟩ ?_ h;rw[A];exact Src.ofNil w I 0
 replace h:=gN h;obtain⟨new,Bf,h⟩:=h;simp only[VR] at A;obtain⟨hm,ad,cap,hh,A,JL,O⟩:=A;obtain⟨hlen,news,G,L⟩:=Flat.of_elems hR Bf (fun o=>hC f o (by rw[Y];exact UU _ (by simp[fM])) ⟨_,_,hh⟩) hh yu;rcases O with⟨rfl,O⟩|⟨kX,hc0,O⟩
 ·refine done hlen G ?_ h;rw[A];refine Src.ofSlice w I _ l cap news (by rw[G.len,hlen]) (fun j u I=>?_) G.one;rw[Addr.add_lit];exact L j u I
 subst kX;have um:news=[]:=by
  have:=G.len;rw[hlen,tG] at this;exact o8 this
 subst um;refine done hlen G ?_ h;rw[A];exact Src.ofSlice w I _ 0 cap [] (by simp) (fun j u I=>by simp at I) (fun _ I=>by cases I)
theorem PB:∀(l:List UInt8)(i:Nat)(x:List al),(oR l.length (pack l))[i]?=some x→∃b,l[i]?=some b∧x=[.int .u8 b.toNat]
 |[],i,x,h=>by
  have h:([]:List (List al))[i]?=some x:=h;simp at h
 |b::r,i,x,h=>by
  have step:oR (b::r).length (pack (b::r))=[al.int .u8 (Int.ofNat (Nat.mod (pack (b::r)) 256))]::oR r.length (Nat.div (pack (b::r)) 256):=rfl;have L:b.toNat<256:=b.toNat_lt;have z:Nat.mod (pack (b::r)) 256=b.toNat:=by show(b.toNat+256*pack r) % 256=_;omega
  have A:Nat.div (pack (b::r)) 256=pack r:=by show(b.toNat+256*pack r)/256=_;omega
  rw[step,z,A] at h
  cases i with
  |zero=>simp at h;exact⟨b,rfl,h.symm⟩
  |succ i=>obtain⟨G,I,h2⟩:=PB r i x (by simpa using h);exact⟨G,by simpa using I,h2⟩
theorem Fi:∀(l v:Nat),(oR l v).length=l
 |0,_=>rfl
 |l+1,v=>by
  have step:oR (l+1) v=[al.int .u8 (Int.ofNat (Nat.mod v 256))]::oR l (Nat.div v 256):=rfl;rw[step,gr,Fi]
theorem Flat.bytes(s:ByteArray):Flat ρ 1 (oR s.size (pack s.data.toList)) (byteCells s):=by
 have z:s.size=s.data.toList.length:=by rw[o9];rfl
 refine⟨by rw[byteCells_length,Fi,ND],fun u L=>?_,fun i x G=>?_⟩
 ·obtain⟨_,_,rfl⟩:=List.mem_map.1 L;rfl
 rw[z] at G;obtain⟨b,M,rfl⟩:=PB _ _ _ G;refine⟨rfl,fun j y A=>?_⟩;have I:=sY A;simp at I;subst I;simp at A;subst A;refine⟨rfl,.int .u8 b.toNat,?_,by simp only[VR]⟩;rw[ND,qD];simp only[byteCells,yi,M,rS]
theorem appStr_sound(hA:AR P ρ nt E a)(hR:R ρ C w)(hF:fk ρ H.next H'.next){c:Call}{x y:Operand}{Y y':aH}{t u e:TypeId}{i:TypeInfo}{z:List al}
  (ho:o.op= .call c) (hc:c.callee= .builtin .append) (I:c.args=#[x,y]) (hx:cg P x=some Y) (hy:cg P y=some y') (h0:c.argTypes[0]?=some t) (h1:c.argTypes[1]?=some u)
  (ht:P.underlying t=some (.slice e)) (hu:P.underlying u=some .string) (hi:P.info? e=some i) (hz:zeroOf P e=some z) (L:i.size=1) (Z:i.bytes=1)
  (hC:∀f o,f∈fM (Y.ev E)→(∃g h,ρ f g=some h)→H.t.get f=some o→C f=some o)
  (h:FU e Y y' E H= .ok v H'):dX P o a w (cP ρ C w H v H'):=by
 replace h:=dW h;obtain⟨xa,M,h⟩:=h;replace h:=dW h;obtain⟨ya,hya,h⟩:=h;replace h:=FB h;obtain⟨l,s,rfl,h⟩:=h;have WN:=hA.bD hx M;have A:=hA.bD hy hya;simp only[VR] at A;obtain⟨b,A,rfl,rfl⟩:=A;have O:=Flat.bytes (ρ:=ρ) b;have G:=Src.ofString (P:=P) w hu b;rw[←L] at O G;have h:iI e i.size i.bytes b.size (oR b.size (pack b.data.toList)) H xa= .ok v H':=by rw[L,Z];exact h
 obtain⟨cv,w',U,hp⟩:=YF hR hF (ty:=o.type) ht hi hz ah (Fi _ _) O G WN (fun f o hf=>hC f o (by rw[M];exact hf)) h;refine .inl ⟨cv,w',?_,hp⟩;simp[execOp,ho,resolve,hc,I,invoke,builtin,X8 h0 h1,A,U]
end
def bn.cR:bn→List aH
 |.ch x=>[x]
 |.pick c a b=>[c,a,b]
 |.pf _ _ _ _=>[]
 |.box _ _ _ x=>[x]
 |.load _ _ a=>[a]
 |.store _ a x=>[a,x]
 |.bin _ x y=>[x,y]
 |.eqv _ _ x y=>[x,y]
 |.un _ x=>[x]
 |.dM x _=>[x]
 |.sub x _ _ _=>[x]
 |.zX _ _ x i=>[x,i]
 |.iE _ x i=>[x,i]
 |.CM _ _ _ x i=>[x,i]
 |.zY x i=>[x,i]
 |.Hy x lo hi=>x::(lo.toList++hi.toList)
 |.yl _ x lo hi=>x::(lo.toList++hi.toList)
 |.JH _ x lo hi mx=>x::hi::mx::lo.toList
 |.vA x _=>[x]
 |.rH x=>[x]
 |.ym _ fs l=>fs++l
 |.yn _ x=>[x]
 |.vB _ _ _ _ x y=>[x,y]
 |.build _ ps=>ps.map (·.2.2)
 |.s8 _ _ _ _ _ ps=>ps.map (·.2)
 |.len x=>[x]
 |.IG _=>[]
 |.tW x=>[x]
 |.app _ _ _ x y=>[x,y]
 |.wZ _ x y=>[x,y]
 |.copy _ x y=>[x,y]
 |.xb _ x ys=>x::ys
 |.conv _ x=>[x]
 |.Ly x=>[x]
 |.CN _ x=>[x]
 |.xd x=>[x]
 |.call _ l=>l
 |.rI x l=>x::l
 |.xE _ _ x=>[x]
 |.JI x=>[x]
 |.yo _ x n=>[x,n]
theorem cL(x:aH)(E:Env)(e:aC)(k:al→aC):bk x E e k=ob (x.ev E) e k:=by cases x<;>rfl
section
variable{E E':Env}
theorem Cj:∀(l:List aH),(∀x∈l,x.ev E=x.ev E')→ik E l=ik E' l
 |[],_=>rfl
 |x::r,h=>by
  have z:=h x (by simp);have h2:=Cj r (fun y A=>h y (by simp[A]));show ob (x.ev E) none (fun v=>ob (ik E r) none fun vs=>some (v::vs))=ob (x.ev E') none (fun v=>ob (ik E' r) none fun vs=>some (v::vs));rw[z,h2]
theorem zx{x:Option aH}{d y:Nat}{e:aC}{k:Nat→aC}(h:∀z∈x.toList,z.ev E=z.ev E'):eb E x d y e k=eb E' x d y e k:=by
 cases x with
 |none=>rfl
 |some z=>
  have A:=h z (by simp);show ob (z.ev E) e _=ob (z.ev E') e _;rw[A]
theorem X9:∀(ps:List (Nat×Nat×aH))(cells:List al),(∀x∈ps.map (·.2.2),x.ev E=x.ev E')→p9 E ps cells=p9 E' ps cells
 |[],_,_=>rfl
 |p::r,cells,h=>by
  have z:=h p.2.2 (by simp);have h2:=fun cells=>X9 r cells (fun y A=>h y (by simp only[jo,rR];exact .inr A))
  show ob (p.2.2.ev E) none _=ob (p.2.2.ev E') none _;rw[z];congr 1
  funext v
  congr 1
  funext new
  congr 1;exact h2 _
theorem X5(es z:Nat):∀(ps:List (Nat×aH))(t:RT),(∀x∈ps.map (·.2),x.ev E=x.ev E')→ru E es z ps t=ru E' es z ps t
 |[],_,_=>rfl
 |p::r,t,h=>by
  have A:=h p.2 (by simp);have h2:=fun t=>X5 es z r t (fun y G=>h y (by simp only[jo,rR];exact .inr G))
  show ob (p.2.ev E) none _=ob (p.2.ev E') none _;rw[A];congr 1
  funext v
  congr 1
  funext new
  congr 1;congr 1;exact h2 _
theorem bn.ev_congr{call:dG}{H:aw}(io:bn)(h:∀x∈io.cR,x.ev E=x.ev E'):io.ev call E H=io.ev call E' H:=by
 cases io with
 |ch x=>have A:=h x (by simp[bn.cR]);show kS x E H=kS x E' H;simp only[kS,cL,A]
 |pick c x y=>
  have A:=h c (by simp[bn.cR]);have h2:=h x (by simp[bn.cR]);have I:=h y (by simp[bn.cR]);show Hz c x y E H=Hz c x y E' H;simp only[Hz,kS,cL,A,h2,I]
 |pf a b c d=>rfl
 |box a b c x=>have A:=h x (by simp[bn.cR]);show IH a b c x E H=IH a b c x E' H;simp only[IH,AF,cL,A]
 |load a b x=>have A:=h x (by simp[bn.cR]);show HA a b x E H=HA a b x E' H;simp only[HA,cL,A]
 |store a x y=>have A:=h x (by simp[bn.cR]);have h2:=h y (by simp[bn.cR]);show Gr a x y E H=Gr a x y E' H;simp only[Gr,cL,A,h2]
 |bin a x y=>have A:=h x (by simp[bn.cR]);have h2:=h y (by simp[bn.cR]);show II a x y E H=II a x y E' H;simp only[II,cL,A,h2]
 |eqv a b x y=>have A:=h x (by simp[bn.cR]);have h2:=h y (by simp[bn.cR]);show EN a b x y E H=EN a b x y E' H;simp only[EN,cL,A,h2]
 |un a x=>have A:=h x (by simp[bn.cR]);show JK a x E H=JK a x E' H;simp only[JK,cL,A]
 |dM x a=>have A:=h x (by simp[bn.cR]);show HB x a E H=HB x a E' H;simp only[HB,cL,A]
 |sub x a b c=>have A:=h x (by simp[bn.cR]);show IJ x a b c E H=IJ x a b c E' H;simp only[IJ,cL,A]
 |zX a b x y=>have A:=h x (by simp[bn.cR]);have h2:=h y (by simp[bn.cR]);show FO a b x y E H=FO a b x y E' H;simp only[FO,cL,A,h2]
 |iE a x y=>have A:=h x (by simp[bn.cR]);have h2:=h y (by simp[bn.cR]);show Gs a x y E H=Gs a x y E' H;simp only[Gs,cL,A,h2]
 |CM a b c x y=>have A:=h x (by simp[bn.cR]);have h2:=h y (by simp[bn.cR]);show FQ a b c x y E H=FQ a b c x y E' H;simp only[FQ,cL,A,h2]
 |zY x y=>have A:=h x (by simp[bn.cR]);have h2:=h y (by simp[bn.cR]);show FR x y E H=FR x y E' H;simp only[FR,cL,A,h2]
 |Hy x lo hi=>
  have A:=h x (by simp[bn.cR]);have h2:∀z∈lo.toList,z.ev E=z.ev E':=fun z G=>h z (by simp only[bn.cR,rR,yj];exact .inr (.inl G))
  have I:∀z∈hi.toList,z.ev E=z.ev E':=fun z G=>h z (by simp only[bn.cR,rR,yj];exact .inr (.inr G))
  show Gt x lo hi E H=Gt x lo hi E' H;simp only[Gt,cL,A,zx h2,zx I]
 |yl n x lo hi=>
  have A:=h x (by simp[bn.cR]);have h2:∀z∈lo.toList,z.ev E=z.ev E':=fun z G=>h z (by simp only[bn.cR,rR,yj];exact .inr (.inl G))
  have I:∀z∈hi.toList,z.ev E=z.ev E':=fun z G=>h z (by simp only[bn.cR,rR,yj];exact .inr (.inr G))
  show HC n x lo hi E H=HC n x lo hi E' H;simp only[HC,cL,A,zx h2,zx I]
 |JH n x lo hi mx=>
  have A:=h x (by simp[bn.cR]);have h2:∀z∈lo.toList,z.ev E=z.ev E':=fun z G=>h z (by simp only[bn.cR,rR];exact .inr (.inr (.inr G)))
  have I:∀z∈(some hi).toList,z.ev E=z.ev E':=fun z G=>h z (by simp only[UW,aht] at G;subst G;simp[bn.cR])
  have L:∀z∈(some mx).toList,z.ev E=z.ev E':=fun z G=>h z (by simp only[UW,aht] at G;subst G;simp[bn.cR])
  show IK n x lo hi mx E H=IK n x lo hi mx E' H;simp only[IK,cL,A,zx h2,zx I,zx L]
 |vA x a=>have A:=h x (by simp[bn.cR]);show HD x a E H=HD x a E' H;simp only[HD,cL,A]
 |rH x=>have A:=h x (by simp[bn.cR]);show Gu x E H=Gu x E' H;simp only[Gu,cL,A]
 |ym f fs l=>
  have A:=Cj fs (fun z G=>h z (by simp only[bn.cR,yj];exact .inl G));have h2:=Cj l (fun z G=>h z (by simp only[bn.cR,yj];exact .inr G));show HE f fs l E H=HE f fs l E' H;simp only[HE,A,h2]
 |yn t x=>have A:=h x (by simp[bn.cR]);show HF t x E H=HF t x E' H;simp only[HF,cL,A]
 |vB a b c d x y=>have A:=h x (by simp[bn.cR]);have h2:=h y (by simp[bn.cR]);show HG a b c d x y E H=HG a b c d x y E' H;simp only[HG,cL,A,h2]
 |build z ps=>have A:=X9 ps z h;show Lz z ps E H=Lz z ps E' H;simp only[Lz,A]
 |s8 a b c d z ps=>have A:=X5 b d ps (nW z d) h;show KF a b c d z ps E H=KF a b c d z ps E' H;simp only[KF,A]
 |len x=>have A:=h x (by simp[bn.cR]);show IL x E H=IL x E' H;simp only[IL,cL,A]
 |IG n=>rfl
 |tW x=>have A:=h x (by simp[bn.cR]);show HH x E H=HH x E' H;simp only[HH,cL,A]
 |app a b c x y=>have A:=h x (by simp[bn.cR]);have h2:=h y (by simp[bn.cR]);show IM a b c x y E H=IM a b c x y E' H;simp only[IM,cL,A,h2]
 |wZ a x y=>have A:=h x (by simp[bn.cR]);have h2:=h y (by simp[bn.cR]);show FU a x y E H=FU a x y E' H;simp only[FU,cL,A,h2]
 |copy a x y=>have A:=h x (by simp[bn.cR]);have h2:=h y (by simp[bn.cR]);show HI a x y E H=HI a x y E' H;simp only[HI,cL,A,h2]
 |xb m x ys=>
  have A:=h x (by simp[bn.cR]);have h2:=Cj ys (fun z G=>h z (by simp only[bn.cR,rR];exact .inr G));show FV m x ys E H=FV m x ys E' H;simp only[FV,cL,A,h2]
 |conv k x=>have A:=h x (by simp[bn.cR]);show HJ k x E H=HJ k x E' H;simp only[HJ,cL,A]
 |Ly x=>have A:=h x (by simp[bn.cR]);show kS x E H=kS x E' H;simp only[kS,cL,A]
 |CN e x=>have A:=h x (by simp[bn.cR]);show FW e x E H=FW e x E' H;simp only[FW,cL,A]
 |xd x=>have A:=h x (by simp[bn.cR]);show FY x E H=FY x E' H;simp only[FY,cL,A]
 |call f l=>have A:=Cj l h;show HL f l call E H=HL f l call E' H;simp only[HL,A]
 |rI x l=>
  have A:=h x (by simp[bn.cR]);have h2:=Cj l (fun z G=>h z (by simp only[bn.cR,rR];exact .inr G));show Gw x l call E H=Gw x l call E' H;simp only[Gw,cL,A,h2]
 |xE t n x=>have A:=h x (by simp[bn.cR]);show Gv t n x E H=Gv t n x E' H;simp only[Gv,cL,A]
 |JI x=>have A:=h x (by simp[bn.cR]);show IN x E H=IN x E' H;simp only[IN,cL,A]
 |yo e x n=>have A:=h x (by simp[bn.cR]);have h2:=h n (by simp[bn.cR]);show HK e x n E H=HK e x n E' H;simp only[HK,cL,A,h2]
theorem bn.reads_congr(io:bn)(h:∀x∈io.cR,x.ev E=x.ev E'):io.reads E=io.reads E':=by
 cases io with
 |load a b x=>have z:=h x (by simp[bn.cR]);simp only[bn.reads,z]
 |app a b c x y=>have z:=h x (by simp[bn.cR]);have h2:=h y (by simp[bn.cR]);simp only[bn.reads,z,h2]
 |wZ a x y=>have z:=h x (by simp[bn.cR]);simp only[bn.reads,z]
 |xd x=>have z:=h x (by simp[bn.cR]);simp only[bn.reads,z]
 |store a x y=>have z:=h x (by simp[bn.cR]);simp only[bn.reads,z]
 |xE t n x=>have z:=h x (by simp[bn.cR]);simp only[bn.reads,z]
 |yo t x n=>have z:=h x (by simp[bn.cR]);simp only[bn.reads,z]
 |_=>rfl
end
def gE(ρ:Ho)(C:Nat→Option cT)(H:aw):Prop:=∀f o,(∃g h,ρ f g=some h)→H.t.get f=some o→C f=some o
structure jb(P:Program)(call:dG):Prop where
 ky:∀f args H,H.aQ≤H.next→TM H (call f args H)
 sound:∀f args H v H' ρ C w(dj:Array Value),call f args H= .ok v H'→H.aQ≤H.next→(∀x,H.next≤x→H.t.get x=none)→R ρ C w→gE ρ C H→fk ρ H.next H'.next→vf P ρ→bO ρ args dj.toList→
  ((callFunc f dj).run P w= .ok (.enter f dj) w∧Calls P f dj w fun e w'=>∃cv,e= .returned cv∧cP ρ C w H v H' cv w')∨
  ∃cv w',(callFunc f dj).run P w= .ok (.value cv) w'∧cP ρ C w H v H' cv w'
structure RC(P:Program)(f:Nat)(F:List al→aw→aC):Prop where
 ky:∀args H,H.aQ≤H.next→TM H (F args H)
 sound:∀args H v H' ρ C w(dj:Array Value),F args H= .ok v H'→H.aQ≤H.next→(∀x,H.next≤x→H.t.get x=none)→R ρ C w→gE ρ C H→fk ρ H.next H'.next→vf P ρ→bO ρ args dj.toList→
  ((callFunc f dj).run P w= .ok (.enter f dj) w∧Calls P f dj w fun e w'=>∃cv,e= .returned cv∧cP ρ C w H v H' cv w')∨
  ∃cv w',(callFunc f dj).run P w= .ok (.value cv) w'∧cP ρ C w H v H' cv w'
def QF(P:Program)(zt:ZT):Prop:=∀f F,zt.get f=some F→RC P f F
theorem YG{P:Program}:QF P .leaf:=fun f F h=>by rw[Tr.uH] at h;cases h
section
variable{P:Program}{ρ:Ho}{nt:Nat}{E:Env}{a:Act}{C:Nat→Option cT}{w:World}{H H':aw}{v:al}{o:Oper}{call:dG}
theorem call_sound(M:AR P ρ nt E a)(O:R ρ C w)(U:fk ρ H.next H'.next)(Y:gE ρ C H)(Z:H.aQ≤H.next)(G:∀x,H.next≤x→H.t.get x=none)(hc:jb P call){c:Call}{f:Nat}{args:List aH}
  (ho:o.op= .call c) (A:c.callee= .value (.func f)) (hx:jB P c.args.toList=some args) (h:HL f args call E H= .ok v H'):dX P o a w (cP ρ C w H v H'):=by
 replace h:=gN h;obtain⟨vs,hv,h⟩:=h;have h1:=M.cR hx hv;rcases hc.sound f vs H v H' ρ C w (c.args.map a.eval) h Z G O Y U M.qH (by simpa using h1) with⟨I,L⟩|⟨cv,w',I,z⟩
 ·refine .inr (.inr ⟨f,c.args.map a.eval,?_,L⟩);simp[execOp,ho,resolve,A,Deferred.ofValue,Act.eval,invoke,I]
 refine .inl ⟨cv,w',?_,z⟩;simp[execOp,ho,resolve,A,Deferred.ofValue,Act.eval,invoke,I]
theorem callv_sound(I:AR P ρ nt E a)(hR:R ρ C w)(hF:fk ρ H.next H'.next)(hK:gE ρ C H)(hm:H.aQ≤H.next)(L:∀x,H.next≤x→H.t.get x=none)(hc:jb P call){c:Call}{x:Operand}{U:aH}{args:List aH}
  (ho:o.op= .call c) (A:c.callee= .value x) (M:cg P x=some U) (hx:jB P c.args.toList=some args) (h:Gw U args call E H= .ok v H'):dX P o a w (cP ρ C w H v H'):=by
 replace h:=dW h;obtain⟨u,hu,h⟩:=h;replace h:=onFunc_ok h;obtain⟨f,fs,dL,rfl,h⟩:=h;replace h:=gN h;obtain⟨vs,hv,h⟩:=h;have h1:=I.cR hx hv;have h2:=I.bD M hu;simp only[VR] at h2;obtain⟨Y,Z,h2,h4,h3⟩:=h2;rcases hc.sound f (fs++(vs++dL)) H v H' ρ C w (Y++c.args.map a.eval++Z) h hm L hR hK hF I.qH (by simpa using bO.append h4 (bO.append h1 h3)) with⟨G,O⟩|⟨cv,w',G,z⟩
 ·refine .inr (.inr ⟨f,Y++c.args.map a.eval++Z,?_,O⟩);rw[Array.append_assoc] at G⊢;simp[execOp,ho,resolve,A,Deferred.ofValue,h2,invoke,G]
 refine .inl ⟨cv,w',?_,z⟩;rw[Array.append_assoc] at G;simp[execOp,ho,resolve,A,Deferred.ofValue,h2,invoke,G]
end
section
variable{P:Program}{ρ:Ho}{nt:Nat}{E:Env}{a:Act}{C:Nat→Option cT}{w:World}{H H':aw}{v:al}{o:Oper}{call:dG}
def zH(cells:Array Value)(off:Nat)(v:Array Value):Array Value:=v.zipIdx.foldl (fun cs(c,j)=>cs.setIfInBounds (off+j) c) cells
theorem X6(cells:Array Value)(off:Nat)(v:Array Value):(zH cells off v).size=cells.size:=by
 unfold zH;rw[←Array.foldl_toList,ahu];exact(Great.foldl_set off v.toList 0 cells).1
theorem Pr(cells:Array Value)(off:Nat)(v:Array Value)(k:Nat):(zH cells off v)[k]?=if off≤k∧k<off+v.size∧k<cells.size then v[k-off]?else cells[k]?:=by
 unfold zH;rw[←Array.foldl_toList,ahu];rw[(Great.foldl_set off v.toList 0 cells).2 k];simp
theorem Y5{place:Nat→Option (Nat×Nat)}{cells:Array Value}{i off size:Nat}{v:Value}{rest:List (Nat×Value)}(z:place i=some (off,size))(A:v.cells.size=size)(G:off+size≤cells.size):
  Instr.fill place cells ((i,v)::rest)=Instr.fill place (zH cells off v.cells) rest:=by
 rw[Instr.fill];simp only[z,A];rw[aZ (by simp;omega)];rfl
theorem splice_ok{z new:List al}{off:Nat}(G:z.all eH=true)(I:new.all eH=true):(eE z off new).all eH=true:=by
 unfold eE;simp only[tF,yj] at*;rintro x(A|A|A)
 ·exact G x (yh A)
 ·exact I x A
 exact G x (DV A)
theorem aaL(hA:AR P ρ nt E a){place:Nat→Option (Nat×Nat)}:∀{ps:List (Nat×Operand)}{L:List (Nat×Nat×aH)}(_:CO P place ps=some L)(z:List al)(cells:Array Value)(G:List al),
  (∀p∈L,p.1+p.2.1≤z.length)→bO ρ z cells.toList→z.all eH=true→p9 E L z=some G→∃A,Instr.fill place cells (ps.map fun p=>(p.1,a.eval p.2))=some A∧bO ρ G A.toList∧G.all eH=true
 |[],L,M,z,cells,G,_,hv,O,h=>by
  cases M
  cases h
  exact⟨cells,rfl,hv,O⟩
 |(i,x)::r,L,M,z,cells,G,hle,hv,O,h=>by
  unfold CO at M
  split at M
  ·rename_i q y l hq hy hl
   cases M
   have h:ob (y.ev E) none (fun v=>ob (iB v) none fun new=>aD (Nat.beq (gv new) q.2) (p9 E l (eE z q.1 new)) none)=some G:=h
   cases hu:y.ev E with
   |none=>rw[hu] at h;cases h
   |some u=>
    rw[hu] at h
    cases hc:iB u with
    |none=>simp only[ob] at h;rw[hc] at h;cases h
    |some new=>
     have h:ob (iB u) none (fun new=>aD (Nat.beq (gv new) q.2) (p9 E l (eE z q.1 new)) none)=some G:=h;rw[hc] at h;have h:aD (Nat.beq (gv new) q.2) (p9 E l (eE z q.1 new)) none=some G:=h
     cases U:Nat.beq (gv new) q.2
     ·rw[U] at h;cases h
     rw[U,dV] at h;have U:=cq U;rw[oO] at U;have h1:=(hA.bD hy hu).cells hc;have Y:(a.eval x).cells.size=new.length:=by have:=h1.1.length;simpa using this
     have Z:cells.size=z.length:=by have:=hv.length;simpa using this
     have I:=hle (q.1,q.2,y) (gu ..);have I:q.1+q.2≤z.length:=I;have qZ:=X4 (l:=z) (new:=new) (r:=q.1) (n:=q.2) I U
     obtain⟨A,k1,k2,k3⟩:=aaL hA hl (eE z q.1 new) (zH cells q.1 (a.eval x).cells) G (fun p M=>by rw[qZ];exact hle p (m5 _ M)) (bO.oS (by simp[X6,qZ,Z]) fun k av O=>by
       rw[YE I U] at O;simp only[NF,Pr,Y]
       split at O
       ·rename_i mE;rw[bh ah];obtain⟨cv,g1,g2⟩:=h1.1.get _ av O;exact⟨cv,by simpa using g1,g2⟩
       rename_i mE;rw[aZ ah];obtain⟨cv,g1,g2⟩:=hv.get _ av O
       exact⟨cv,by simpa using g1,g2⟩) (splice_ok O h1.2) h
     refine⟨A,?_,k2,k3⟩;rw[jo,Y5 (off:=q.1) (size:=q.2) hq (Y.trans U) (by rw[Z];exact I)];exact k1
  cases M
theorem Ym(O:AR P ρ nt E a)(U:R ρ C w){t:TypeId}{parts:Array (Nat×Operand)}{place:Nat→Option (Nat×Nat)}{z:List al}{cells:Array Value}{io:bn}(ho:o.op= .build t parts)
  (Y:bO ρ z cells.toList) (Z:z.all eH=true) (hb:∀vs,Instr.fill place cells vs=P.built t vs) (G:KW z (CO P place parts.toList)=some io) (h:io.ev call E H= .ok v H'):dX P o a w (cP ρ C w H v H'):=by
 unfold KW at G
 split at G
 ·rename_i l hl
  split at G
  ·rename_i I
   cases G
   have h:ob (p9 E l z) (.err 23) (fun cs=>aC.ok (.agg cs) H)= .ok v H':=h;replace h:=gN h;obtain⟨M,L,h⟩:=h
   cases h
   obtain⟨A,k1,k2,k3⟩:=aaL O hl z cells M (fun p hp=>by
    have:=List.all_eq_true.1 I p hp
    simpa using this) Y Z L
   refine eY (cv:=.agg A) ?_ U (by simp only[VR];exact⟨A,rfl,k2,k3⟩);have:=run_build (P:=P) w t (parts.map fun(i,x)=>(i,a.eval x)) A (by rw[←hb,←k1];simp);simp[execOp,ho,this]
  cases G
 cases G
theorem build_sound(M:AR P ρ nt E a)(O:R ρ C w){t:TypeId}{parts:Array (Nat×Operand)}{io:bn}(ho:o.op= .build t parts)(A:QC P t parts.toList=some io)(h:io.ev call E H= .ok v H'):dX P o a w (cP ρ C w H v H'):=by
 unfold QC at A
 split at A
 ·rename_i z Z;obtain⟨i,zv,hi,G,U,Y,_,_,_⟩:=wM Z
  split at A
  ·rename_i fs I
   split at A
   ·rename_i places hp;exact Ym M O ho (U ρ) Y (fun vs=>by simp[Program.built,hi,I,G,hp]) A h
   cases A
  ·rename_i n e I
   split at A
   ·rename_i ie L;exact Ym M O ho (U ρ) Y (fun vs=>by simp[Program.built,hi,I,G,L]) A h
   cases A
  cases A
 cases A
def Fl(ρ:Ho)(n es:Nat)(t:RT)(cells:Array Value):Prop:=
 ∀i,i<n→∃l,t.get i=some l∧l.length=es∧∀j x,l[j]?=some x→eH x=true∧∃cv,cells[i*es+j]?=some cv∧VR ρ x cv
theorem Kv(x:List al)(i:Nat):∀n,(nW x n).get i=if i<n then some x else none
 |0=>rfl
 |n+1=>by
  show((nW x n).set n x).get i=_;rw[RT.di,Kv x i n]
  by_cases h:i=n
  ·rw[bh h,bh ah]
  rw[aZ h]
  by_cases h2:i<n
  ·rw[bh h2,bh ah]
  rw[aZ h2,aZ ah]
theorem madeCells_get{z:Array Value}{es i j N:Nat}(A:z.size=es)(G:j<es)(hN:i*es+j<N):(madeCells z N)[i*es+j]?=z[j]?:=by
 unfold madeCells;rw[Array.getElem?_map,Array.getElem?_range,bh hN];have e:(i*es+j) % z.size=j:=by rw[A,Nat.add_comm,Nat.add_mul_mod_self_right,DU G]
 simp only[rS,e];rw[getElem!_pos z j ah,A9 ah]
theorem aaM{z:List al}{A:Array Value}{es n N:Nat}(M:bO ρ z A.toList)(O:z.all eH=true)(G:z.length=es)(hN:n*es≤N):Fl ρ n es (nW z n) (madeCells A N):=by
 intro i hi;refine⟨z,by rw[Kv,bh hi],G,fun j x I=>⟨List.all_eq_true.1 O x (hZ I),?_⟩⟩;obtain⟨cv,U,h2⟩:=M.get j x I;have Y:j<es:=by rw[←G];exact(List.getElem?_eq_some_iff.1 I).1
 have L:A.size=es:=by have:=M.length;rw[←G];simpa using this
 have Z:i*es+es≤n*es:=by have:=iH es (show i+1≤n by omega);rwa [yk] at this
 exact⟨cv,by rw[madeCells_get L Y ah];simpa using U,h2⟩
theorem Y6(hA:AR P ρ nt E a){es A:Nat}:∀{ps:List (Nat×Operand)}{I:List (Nat×aH)}(_:KV P ps=some I)(t t':RT)(cells:Array Value),cells.size=A*es→Fl ρ A es t cells→ru E es A I t=some t'→
  ∃z,Instr.fill (fun i=>some (i*es,es)) cells (ps.map fun p=>(p.1,a.eval p.2))=some z∧z.size=A*es∧Fl ρ A es t' z
 |[],I,O,t,t',cells,Y,hf,h=>by
  cases O
  cases h
  exact⟨cells,rfl,Y,hf⟩
 |(i,x)::r,I,O,t,t',cells,Y,hf,h=>by
  unfold KV at O
  split at O
  ·rename_i y l hy hl
   cases O
   have h:ob (y.ev E) none (fun v=>ob (iB v) none fun new=>aD (Nat.beq (gv new) es) (aD (Nat.ble (Nat.succ i) A) (ru E es A l (t.set i new)) none) none)=some t':=h
   cases hu:y.ev E with
   |none=>rw[hu] at h;cases h
   |some u=>
    rw[hu] at h;have h:ob (iB u) none (fun new=>aD (Nat.beq (gv new) es) (aD (Nat.ble (Nat.succ i) A) (ru E es A l (t.set i new)) none) none)=some t':=h
    cases hc:iB u with
    |none=>rw[hc] at h;cases h
    |some new=>
     rw[hc] at h;have h:aD (Nat.beq (gv new) es) (aD (Nat.ble (Nat.succ i) A) (ru E es A l (t.set i new)) none) none=some t':=h
     cases L:Nat.beq (gv new) es
     ·rw[L] at h;cases h
     rw[L,dV] at h
     cases G:Nat.ble (Nat.succ i) A
     ·rw[G] at h;cases h
     rw[G,dV] at h;have L:=cq L;rw[oO] at L;have G:i+1≤A:=aS G;have h1:=(hA.bD hy hu).cells hc;have kG:(a.eval x).cells.size=new.length:=by have:=h1.1.length;simpa using this
     have mono:∀{p q:Nat},p+1≤q→p*es+es≤q*es:=fun{p q}h=>by have:=iH es h;rwa [yk] at this
     have mE:=mono G
     obtain⟨z,k1,k2,k3⟩:=Y6 hA hl (t.set i new) t' (zH cells (i*es) (a.eval x).cells) (by rw[X6,Y]) (fun k hk=>by
      rw[RT.di]
      by_cases M:k=i
      ·subst M;rw[bh rfl];refine⟨new,rfl,L,fun j Z U=>⟨List.all_eq_true.1 h1.2 Z (hZ U),?_⟩⟩;obtain⟨cv,g1,g2⟩:=h1.1.get j Z U;have JO:j<es:=by rw[←L];exact(List.getElem?_eq_some_iff.1 U).1
       refine⟨cv,?_,g2⟩;rw[Pr,bh ah,Nat.add_sub_cancel_left];simpa using g1
      rw[aZ M];obtain⟨l0,g1,g2,g3⟩:=hf k hk;refine⟨l0,g1,g2,fun j Z U=>?_⟩;obtain⟨m1,cv,m2,m3⟩:=g3 j Z U;have JO:j<es:=by rw[←g2];exact(List.getElem?_eq_some_iff.1 U).1
      refine⟨m1,cv,?_,m3⟩;rw[Pr,aZ ?_]
      ·exact m2
      rcases Nat.lt_or_gt_of_ne M with pI|OK
      ·have:=mono (show k+1≤i from pI);omega
      have:=mono (show i+1≤k from OK);omega) h
     refine⟨z,?_,k2,k3⟩;rw[jo,Y5 (off:=i*es) (size:=es) rfl (kG.trans L) (by rw[Y];exact mE)];exact k1
  cases O
theorem ZR(I:R ρ C w)(L:fk ρ H.next (H.next+1)){e es aF n cap:Nat}{t:RT}{cells:Array Value}(M:0<es)(z:n≤cap)(G:cells.size=cap*es)(A:Fl ρ n es t cells){w':World}(O:w'.heap=w.heap.push (.cells cells e))
  (U:w'.os=w.os) (h2:w'.tape=w.tape) (Y:w'.output=w.output):cP ρ C w H (.slice H.next n 0 n es) ⟨H.next+1,H.aQ,H.ws,H.t.set H.next (.row e es aF n n 0 t)⟩ (.slice (some ⟨w.heap.size,0,none⟩) n cap) w':=by
 obtain⟨ρ',Z,g2,g3⟩:=I.alloc (f:=H.next) (elem:=e) (es:=es) (aF:=aF) (n:=n) (cs:=t) (cells:=cells) (w':=w')
  (Wr ⟨H.next+1,H.aQ,H.ws,H.t.set H.next (.row e es aF n n 0 t)⟩) (fun g=>L _ g (bq _) (wb _)) M (by rw[G];exact iH _ z) A O U h2 Y
 refine⟨ρ',?_,g2,?_⟩
 ·simp only[VR];refine⟨_,_,_,Z,rfl,⟨z,by rw[fG];exact iH _ z⟩,.inl ⟨rfl,?_⟩⟩;simp only;rw[G,fG];exact bq _
 rw[Ku];exact g3
theorem buildSl_sound(hA:AR P ρ nt E a)(hR:R ρ C w)(hF:fk ρ H.next H'.next){t:TypeId}{I:Nat}{parts:Array (Nat×Operand)}{io:bn}(ho:o.op= .buildSlice t I parts)(A:PK P t I parts.toList=some io)
  (h:io.ev call E H= .ok v H'):dX P o a w (cP ρ C w H v H'):=by
 unfold PK at A
 split at A
 ·rename_i e hu
  split at A
  ·rename_i i z hi hz
   split at A
   ·rename_i l hl
    split at A
    ·rename_i hle
     cases A
     have h:ob (ru E i.size I l (nW z I)) (.err 24) (fun t=>H.alloc (.row e i.size i.bytes I I 0 t) fun f H=>.ok (.slice f I 0 I i.size) H)= .ok v H':=h;replace h:=gN h;obtain⟨tr,Z,h⟩:=h;have h:=Cs h
     cases h
     obtain⟨i',M,O,qY,hv,hk,BY,U,yU⟩:=wM hz;rw[hi] at O
     cases O
     obtain⟨G,k1,k2,k3⟩:=Y6 hA hl (nW z I) tr (madeCells M.cells (I*i.size)) (size_madeCells _ _) (aaM (hv ρ) hk BY (bq _)) Z;refine .inl ⟨_,w.alloc (.cells G e),?_,ZR hR hF U (bq _) k2 k3 rfl rfl rfl rfl⟩;have Y:Instr.fill (fun j=>some (j*i.size,i.size)) ((Array.range (I*i.size)).map (M.cells[· % M.cells.size]!)) (parts.map fun(i,x)=>(i,a.eval x)).toList=some G:=by
      rw[←k1];simp[madeCells]
     by_cases h0:I*i.size=0
     ·have e0:(Array.range 0).map (M.cells[· % M.cells.size]!)=#[]:=by rw[show Array.range 0=#[] from rfl];exact Array.map_empty ..
      rw[h0,e0] at Y;have OL:Instr.fill (fun j=>some (j*i.size,i.size)) #[] (parts.toList.map fun x=>(x.1,a.eval x.2))=some G:=by rw[←Y];simp
      simp[execOp,ho,Instr.buildSlice,run_underlying hu,sizeOf,typeInfo,hi,h0,newRow,OL,show Array.range 0=#[] from rfl]
     have L:¬(2^24<I*i.size):=by omega
     simp at Y L;simp[execOp,ho,Instr.buildSlice,run_underlying hu,sizeOf,typeInfo,hi,L,h0,zeroValue,qY,Y,newRow]
    cases A
   cases A
  cases A
 cases A
theorem mksl_sound(hA:AR P ρ nt E a)(hR:R ρ C w)(hF:fk ρ H.next H'.next){t:TypeId}{x y:Operand}{O U:aH}{io:bn}(ho:o.op= .makeSlice t x y)(hx:cg P x=some O)(hy:cg P y=some U)(A:RA P t O U=some io)
  (h:io.ev call E H= .ok v H'):dX P o a w (cP ρ C w H v H'):=by
 unfold RA at A
 split at A
 ·rename_i e hu
  split at A
  ·rename_i i z hi hz
   split at A
   ·rename_i hb
    cases A
    have h:HG e i.size i.bytes z O U E H= .ok v H':=h;replace h:=dW h;obtain⟨u,Y,h⟩:=h;replace h:=wQ h;obtain⟨kl,l0,rfl,h⟩:=h;replace h:=Cr h;obtain⟨l,rfl,h⟩:=h;replace h:=dW h;obtain⟨u2,Z,h⟩:=h;replace h:=wQ h;obtain⟨kc,c0,rfl,h⟩:=h;replace h:=Cr h;obtain⟨c,rfl,h⟩:=h;replace h:=ed h;obtain⟨I,h⟩:=h;replace h:=ed h;obtain⟨g2,h⟩:=h;replace h:=ed h;obtain⟨g3,h⟩:=h;rw[KS] at h;have h:=Cs h
    cases h
    have I:=aS I;have g2:c*i.bytes≤70368744177664:=aS g2;have g3:=aS g3;obtain⟨i',zv,L,qY,hv,hk,BY,M,yU⟩:=wM hz;rw[hi] at L
    cases L
    have e1:=hA.bD hx Y;have e2:=hA.bD hy Z;simp only[VR] at e1 e2
    have G:=run_make (P:=P) w t e i zv hu hi qY kl kc (l:Int) (c:Int) (Int.natCast_nonneg l) (Int.ofNat_le.2 I) (by
     have:((i.bytes*c:Nat):Int)≤((281474976710656:Nat):Int):=Int.ofNat_le.2 (by rw[qC];omega);rw[Int.natCast_mul] at this
     exact this) ah
    simp only[UM] at G;refine .inl ⟨_,w.alloc (.cells (madeCells zv.cells (c*i.size)) e),?_,ZR hR hF M I (size_madeCells _ _) (aaM (hv ρ) hk BY (iH _ I)) rfl rfl rfl rfl⟩;rw[show(execOp a.eval o)=_ from rfl];simp only[execOp,ho,e1,e2];simp only[Sem.run_bind,G,Result.andThen_ok];rfl
   cases A
  cases A
 cases A
end
section
variable{P:Program}{ρ:Ho}{nt:Nat}{E:Env}{a:Act}{C:Nat→Option cT}{w:World}{H H':aw}{v:al}{o:Oper}{call:dG}
theorem PC(b:Bool)(k:Bool→aC):nH b k=k b:=by cases b<;>rfl
theorem eqA_ok(dp:Nat){c:EM}{t:TypeId}{d:TypeDesc}(G:P.underlying t=some d)(A:Tq P d=some c){x y:al}{L cy:Value}(z:VR ρ x L)(h2:VR ρ y cy){r:Bool}(h:nq c x y=some r):
  (Op.equalIn (dp+1) t L cy).run P w= .ok r w∧(∀k n,L≠.int k n)∧(∀b,L≠.string b)∧(∀k n,L≠.float k n)∧(∀k n m,L≠.complex k n m)∧(∀cs,L≠.agg cs)∧(L= .nilIface→∃ms,d= .interface ms):=by
 unfold Tq at A
 split at A
 ·cases A
  unfold nq at h;simp only at h
  split at h
  ·simp only[VR] at z h2;subst z;subst h2
   cases h
   exact⟨by simp[Op.equalIn,run_underlying G],by simp,by simp,by simp,by simp,by simp,by simp⟩
  cases h
 ·rename_i e
  split at A
  ·rename_i ie U
   cases A
   unfold nq at h;simp only at h
   split at h
   ·simp only[VR] at z h2;subst z;subst h2;cases h;exact⟨by simp[Op.equalIn,run_underlying G],by simp,by simp,by simp,by simp,by simp,by simp⟩
   ·simp only[VR] at z h2;obtain⟨_,_,rfl⟩:=h2;subst z;cases h;exact⟨by simp[Op.equalIn,run_underlying G],by simp,by simp,by simp,by simp,by simp,by simp⟩
   ·simp only[VR] at z h2;obtain⟨_,_,rfl⟩:=z;subst h2;cases h;exact⟨by simp[Op.equalIn,run_underlying G],by simp,by simp,by simp,by simp,by simp,by simp⟩
   ·rename_i f g o f' g' o'
    cases I:Nat.beq f f'
    ·rw[I] at h;cases h
    rw[I,dV] at h
    cases M:Nat.beq g g'
    ·rw[M] at h;cases h
    rw[M,dV] at h
    cases O:Nat.beq o o'
    ·rw[O] at h;cases h
    rw[O,dV] at h
    cases h
    have I:=cq I;have M:=cq M;have O:=cq O;subst I;subst M;subst O;simp only[VR] at z h2;obtain⟨hm,k1,rfl⟩:=z;obtain⟨sC,Z,rfl⟩:=h2;rw[k1] at Z
    cases Z
    exact⟨by simp[Op.equalIn,run_underlying G,sizeOf,typeInfo,U,run_sameAddr_same],by simp,by simp,by simp,by simp,by simp,by simp⟩
   cases h
  cases A
 ·cases A
  unfold nq at h;simp only at h
  split at h
  ·simp only[VR] at z h2;subst z;subst h2;cases h;exact⟨by simp[Op.equalIn,run_underlying G],by simp,by simp,by simp,by simp,by simp,by simp⟩
  ·simp only[VR] at z h2;obtain⟨_,_,_,_,rfl,_⟩:=h2;subst z;cases h;exact⟨by simp[Op.equalIn,run_underlying G],by simp,by simp,by simp,by simp,by simp,by simp⟩
  ·simp only[VR] at z h2;obtain⟨_,_,_,_,rfl,_⟩:=z;subst h2;cases h;exact⟨by simp[Op.equalIn,run_underlying G],by simp,by simp,by simp,by simp,by simp,by simp⟩
  cases h
 ·rename_i ms
  cases A
  unfold nq at h;simp only at h
  split at h
  ·simp only[VR] at z h2;subst z;subst h2;cases h;exact⟨by simp[Op.equalIn,run_underlying G],by simp,by simp,by simp,by simp,by simp,fun _=>⟨ms,rfl⟩⟩
  ·simp only[VR] at z h2;obtain⟨_,rfl,_⟩:=h2;subst z;cases h;exact⟨by simp[Op.equalIn,run_underlying G],by simp,by simp,by simp,by simp,by simp,fun _=>⟨ms,rfl⟩⟩
  ·simp only[VR] at z h2;obtain⟨_,rfl,_⟩:=z;subst h2;cases h;exact⟨by simp[Op.equalIn,run_underlying G],by simp,by simp,by simp,by simp,by simp,by simp⟩
  ·rename_i t1 _ t2 _
   cases I:Nat.beq t1 t2
   ·rw[I] at h
    cases h
    have Y:t1≠t2:=fun e=>by rw[e,ia] at I;cases I
    simp only[VR] at z h2;obtain⟨_,rfl,_⟩:=z;obtain⟨_,rfl,_⟩:=h2;exact⟨by simp[Op.equalIn,run_underlying G,Y],by simp,by simp,by simp,by simp,by simp,by simp⟩
   rw[I] at h;cases h
  cases h
 ·cases A
  unfold nq at h;simp only at h
  split at h
  ·simp only[VR] at z h2;subst z;subst h2;cases h;exact⟨by simp[Op.equalIn,run_underlying G],by simp,by simp,by simp,by simp,by simp,by simp⟩
  ·simp only[VR] at z h2;obtain⟨_,_,rfl,_⟩:=h2;subst z;cases h;exact⟨by simp[Op.equalIn,run_underlying G],by simp,by simp,by simp,by simp,by simp,by simp⟩
  ·simp only[VR] at z h2;obtain⟨_,_,rfl,_⟩:=z;subst h2;cases h;exact⟨by simp[Op.equalIn,run_underlying G],by simp,by simp,by simp,by simp,by simp,by simp⟩
  cases h
 ·cases A
  unfold nq at h;simp only at h
  split at h
  ·simp only[VR] at z h2;subst z;subst h2;cases h;exact⟨by simp[Op.equalIn,run_underlying G],by simp,by simp,by simp,by simp,by simp,by simp⟩
  cases h
 cases A
theorem run_eqGuard_free{op:BinOp}(G:op= .eql∨op= .neq){t:TypeId}{d:TypeDesc}{x y:Operand}{I cy:Value}(L:P.underlying t=some d)(z:LB x y d=true)(M:∀cs,I≠.agg cs)(O:I= .nilIface→∃ms,d= .interface ms):
  (eqGuard op t x y I cy).run P w= .ok () w:=by
 unfold eqGuard;rcases G with rfl|rfl
 ·rw[aZ ao]
  split
  ·obtain⟨ms,rfl⟩:=O rfl;simp only[LB,m6] at z;have e:∀A,(Op.eqGuardIn (A+1) t .nilIface .nilIface).run P w= .ok (!ms.isEmpty) w:=fun A=>by simp[Op.eqGuardIn,run_underlying L]
   rcases z with(z|z)|z
   ·cases x<;>cases y<;>simp[Op.maxDepth,e 9999,z]
   ·cases x<;>simp[Cq] at z<;>simp
   cases y<;>simp[Cq] at z<;>simp
  ·exact absurd rfl (M _)
  rfl
 rw[aZ ao]
 split
 ·obtain⟨ms,rfl⟩:=O rfl;simp only[LB,m6] at z;have e:∀A,(Op.eqGuardIn (A+1) t .nilIface .nilIface).run P w= .ok (!ms.isEmpty) w:=fun A=>by simp[Op.eqGuardIn,run_underlying L]
  rcases z with(z|z)|z
  ·cases x<;>cases y<;>simp[Op.maxDepth,e 9999,z]
  ·cases x<;>simp[Cq] at z<;>simp
  cases y<;>simp[Cq] at z<;>simp
 ·exact absurd rfl (M _)
 rfl
theorem eqv_sound(Z:AR P ρ nt E a)(hR:R ρ C w){op:BinOp}{t t':TypeId}{d:TypeDesc}{x z:Operand}{M O:aH}{io:bn}(ho:o.op= .binOp op t x z t')(hx:cg P x=some M)(hz:cg P z=some O)(hu:P.underlying t=some d)
  (A:UY P op d x z M O=some io) (h:io.ev call E H= .ok v H'):dX P o a w (cP ρ C w H v H'):=by
 unfold UY at A
 split at A
 ·rename_i c hc
  split at A
  ·rename_i G;have key:∀neg,(op= .eql∧neg=false)∨(op= .neq∧neg=true)→EN c neg M O E H= .ok v H'→dX P o a w (cP ρ C w H v H'):=by
    intro neg I h;replace h:=dW h;obtain⟨u,U,h⟩:=h;replace h:=dW h;obtain⟨u2,Y,h⟩:=h;replace h:=gN h;obtain⟨r,hr,h⟩:=h;rw[PC] at h
    cases h
    obtain⟨g0,g1,g2,g3,g4,g5,g6⟩:=eqA_ok (w:=w) 9999 hu hc (Z.bD hx U) (Z.bD hz Y) hr;have hg:=run_eqGuard_free (w:=w) (op:=op) (by rcases I with⟨h,_⟩|⟨h,_⟩<;>simp[h]) (x:=x) (y:=z) (cy:=a.eval z) hu G g5 g6;refine eY (cv:=.bool (Bool.xor neg r)) ?_ hR (by simp only[VR]);simp only[execOp,ho,Sem.run_bind,hg,Result.andThen_ok];generalize a.eval x=L at*;generalize a.eval z=cz at*;rcases I with⟨rfl,rfl⟩|⟨rfl,rfl⟩
    ·have:(binOp .eql t L cz).run P w= .ok (.bool r) w:=by
      cases L<;>simp only[binOp]<;>first|exact absurd rfl (g1 _ _)|exact absurd rfl (g2 _)|exact absurd rfl (g3 _ _)|exact absurd rfl (g4 _ _ _)|simp[Op.equal,Op.maxDepth,g0]
     simp[this]
    have:(binOp .neq t L cz).run P w= .ok (.bool (!r)) w:=by
     cases L<;>simp only[binOp]<;>first|exact absurd rfl (g1 _ _)|exact absurd rfl (g2 _)|exact absurd rfl (g3 _ _)|exact absurd rfl (g4 _ _ _)|simp[Op.equal,Op.maxDepth,g0]
    simp[this]
   cases op<;>simp only[eB,reduceCtorEq] at A
   ·subst A;exact key false (.inl ⟨rfl,rfl⟩) h
   subst A;exact key true (.inr ⟨rfl,rfl⟩) h
  cases A
 cases A
end
end Go.Ev
