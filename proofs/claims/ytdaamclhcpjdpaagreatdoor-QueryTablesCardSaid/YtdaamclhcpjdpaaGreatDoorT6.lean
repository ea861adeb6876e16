/- Part 6 of rules for walks through the code of a program, and of such walks; what each part proves is said by its theorems. -/
import Derived.Test.YtdaamclhcpjdpaaGreatDoorT5
import Derived.Laws.Tables
import Derived.Laws.MakeOwn
import Derived.Great.FillDense
import Derived.LaidEql
set_option linter.unusedVariables false
set_option linter.unusedSimpArgs false
noncomputable section
set_option maxRecDepth 100000
set_option maxHeartbeats 4000000
namespace Go.Ev
section
variable{P:Program}{ρ:Ho}{nt:Nat}{E:Env}{a:Act}{C:Nat→Option cV}{w:World}{H H':ay}{v:ak}{o:Oper}
theorem Yy{at_:Array TypeId}{t z ty:TypeId}{args:Array Value}(h0:at_[0]?=some t)(A:at_[1]?=some z):Builtin.append_ at_ ty args=Builtin.append_ #[t,z] ty args:=by
 unfold Builtin.append_;simp[h0,A]
theorem Y6(Y:R ρ C w)(hF:fw ρ H.next H'.next){t tx ty e:TypeId}{i:TypeInfo}{z:List ak}{G:ak}{O yc:Value}{n:Nat}{new:List (List ak)}{news:List Value}
  (ht:P.underlying t=some (.slice e)) (hi:P.info? e=some i) (hz:zeroOf P e=some z) (hb:i.bytes≠0) (hl:new.length=n) (I:Flat ρ i.size new news) (U:Src P i.size tx yc n news w)
  (A:VR ρ G O) (hC:∀f o,f∈fS (some G)→(∃g h,ρ f g=some h)→H.t.get f=some o→C f=some o)
  (h:iJ e i.size i.bytes n new H G= .ok v H'):∃cv w',(Builtin.append_ #[t,tx] ty #[O,yc]).run P w= .ok cv w'∧cQ ρ C w H v H' cv w':=by
 cases n with
 |zero=>
  have ui:news=[]:=by
   have:=I.len;rw[hl,tA] at this;exact o0 this
  subst ui;have h:eT G (aC.err 31) (aC.ok G H) (fun _ _ _ _ _=>aC.ok G H)=aC.ok v H':=h;replace h:=wS h;have Z:=U.kind;have fin:∀base l c,O= .slice base l c→l≤c→(Builtin.append_ #[t,tx] ty #[O,yc]).run P w= .ok O w:=by
   intro base l c e L;subst e;have h2:=U.cells;rcases Z with⟨e',Z⟩|Z<;>cases base<;>simp[Builtin.append_,run_underlying ht,run_underlying Z,sizeOf,typeInfo,hi,U.len,L,h2,storeCells]
  rcases h with⟨rfl,h⟩|⟨f,g,o1,l,es,rfl,h⟩
  ·cases h
   have M:=A;simp only[VR] at A;exact⟨O,w,fin _ _ _ A (bt _),cQ.pure Y M⟩
  cases h
  have M:=A;simp only[VR] at A;obtain⟨hm,ad,cap,hh,rfl,L,qQ⟩:=A;exact⟨_,w,fin _ _ _ rfl L.1,cQ.pure Y M⟩
 |succ n=>
  have h:eT G (aC.err 34) (AI e i.size i.bytes (n+1) new H) (AJ e i.size i.bytes (n+1) new H)=aC.ok v H':=h;replace h:=wS h;rcases h with⟨rfl,h⟩|⟨f,g,o1,l,es,rfl,h⟩
  ·simp only[VR] at A;subst A;exact nil_sound Y hF ht hi hz hb (Vr _) hl I U h
  exact row_sound Y ht hi hz hb (Vr _) hl I U A (fun o=>hC f o (by simp[fS])) h
theorem app_sound(hA:AR P ρ nt E a)(hR:R ρ C w)(hF:fw ρ H.next H'.next){c:Call}{x y:Operand}{x' y':aI}{t u e e2:TypeId}{i:TypeInfo}{z:List ak}
  (ho:o.op= .call c) (hc:c.callee= .builtin .append) (M:c.args=#[x,y]) (hx:ct P x=some x') (hy:ct P y=some y') (h0:c.argTypes[0]?=some t) (h1:c.argTypes[1]?=some u)
  (ht:P.underlying t=some (.slice e)) (I:P.underlying u=some (.slice e2)) (hi:P.info? e=some i) (hz:zeroOf P e=some z) (hb:i.bytes≠0)
  (hC:∀f o,f∈fS (x'.ev E)++fS (y'.ev E)→(∃g h,ρ f g=some h)→H.t.get f=some o→C f=some o)
  (h:IX e i.size i.bytes x' y' E H= .ok v H'):en P o a w (cQ ρ C w H v H'):=by
 replace h:=eg h;obtain⟨xa,U,h⟩:=h;replace h:=eg h;obtain⟨ya,Y,h⟩:=h;have Xg:=hA.bG hx U;have A:=hA.bG hy Y;obtain⟨i',zv,Z,qP,_,_,_,yU,zE⟩:=wX hz;rw[hi] at Z
 cases Z
 have hCx:∀f o,f∈fS (some xa)→(∃g h,ρ f g=some h)→H.t.get f=some o→C f=some o:=fun f o hf=>hC f o (by rw[U];exact ahL _ hf)
 have done:∀{n:Nat}{new:List (List ak)}{news:List Value},new.length=n→Flat ρ i.size new news→Src P i.size u (a.eval y) n news w→iJ e i.size i.bytes n new H xa= .ok v H'→en P o a w (cQ ρ C w H v H'):=by
  intro n new news hl G hs h;obtain⟨cv,w',vM,hp⟩:=Y6 hR hF (ty:=o.type) ht hi hz hb hl G hs Xg hCx h;refine .inl ⟨cv,w',?_,hp⟩;simp[execOp,ho,resolve,hc,M,invoke,builtin,Yy h0 h1,vM]
 replace h:=wS h;rcases h with⟨rfl,h⟩|⟨f,g,o1,l,es,rfl,h⟩
 ·simp only[VR] at A;refine done (new:=[]) (news:=[]) rfl ⟨by simp,(fun _ I=>by cases I),(fun i x hx=>by simp at hx)⟩ ?_ h;rw[A];exact Src.ofNil w I 0
 replace h:=gS h;obtain⟨new,BO,h⟩:=h;simp only[VR] at A;obtain⟨hm,ad,cap,hh,A,JO,O⟩:=A;obtain⟨hlen,news,G,L⟩:=Flat.of_elems hR BO (fun o=>hC f o (by rw[Y];exact Vt _ (by simp[fS])) ⟨_,_,hh⟩) hh yU;rcases O with⟨rfl,O⟩|⟨mF,hc0,O⟩
 ·refine done hlen G ?_ h;rw[A];refine Src.ofSlice w I _ l cap news (by rw[G.len,hlen]) (fun j u I=>?_) G.one;rw[Addr.add_lit];exact L j u I
 subst mF;have ui:news=[]:=by
  have:=G.len;rw[hlen,tA] at this;exact o0 this
 subst ui;refine done hlen G ?_ h;rw[A];exact Src.ofSlice w I _ 0 cap [] (by simp) (fun j u I=>by simp at I) (fun _ I=>by cases I)
theorem PQ:∀(l:List UInt8)(i:Nat)(x:List ak),(oM l.length (pack l))[i]?=some x→∃b,l[i]?=some b∧x=[.int .u8 b.toNat]
 |[],i,x,h=>by
  have h:([]:List (List ak))[i]?=some x:=h;simp at h
 |b::r,i,x,h=>by
  have step:oM (b::r).length (pack (b::r))=[ak.int .u8 (Int.ofNat (Nat.mod (pack (b::r)) 256))]::oM r.length (Nat.div (pack (b::r)) 256):=rfl;have L:b.toNat<256:=b.toNat_lt;have z:Nat.mod (pack (b::r)) 256=b.toNat:=by show(b.toNat+256*pack r) % 256=_;omega
  have A:Nat.div (pack (b::r)) 256=pack r:=by show(b.toNat+256*pack r)/256=_;omega
  rw[step,z,A] at h
  cases i with
  |zero=>simp at h;exact⟨b,rfl,h.symm⟩
  |succ i=>obtain⟨G,I,h2⟩:=PQ r i x (by simpa using h);exact⟨G,by simpa using I,h2⟩
theorem FB:∀(l v:Nat),(oM l v).length=l
 |0,_=>rfl
 |l+1,v=>by
  have step:oM (l+1) v=[ak.int .u8 (Int.ofNat (Nat.mod v 256))]::oM l (Nat.div v 256):=rfl;rw[step,gy,FB]
theorem Flat.bytes(s:ByteArray):Flat ρ 1 (oM s.size (pack s.data.toList)) (byteCells s):=by
 have z:s.size=s.data.toList.length:=by rw[o6];rfl
 refine⟨by rw[byteCells_length,FB,NN],fun u L=>?_,fun i x G=>?_⟩
 ·obtain⟨_,_,rfl⟩:=List.mem_map.1 L;rfl
 rw[z] at G;obtain⟨b,M,rfl⟩:=PQ _ _ _ G;refine⟨rfl,fun j y A=>?_⟩;have I:=sH A;simp at I;subst I;simp at A;subst A;refine⟨rfl,.int .u8 b.toNat,?_,by simp only[VR]⟩;rw[NN,qv];simp only[byteCells,yA,M,rK]
theorem appStr_sound(hA:AR P ρ nt E a)(hR:R ρ C w)(hF:fw ρ H.next H'.next){c:Call}{x y:Operand}{Y y':aI}{t u e:TypeId}{i:TypeInfo}{z:List ak}
  (ho:o.op= .call c) (hc:c.callee= .builtin .append) (I:c.args=#[x,y]) (hx:ct P x=some Y) (hy:ct P y=some y') (h0:c.argTypes[0]?=some t) (h1:c.argTypes[1]?=some u)
  (ht:P.underlying t=some (.slice e)) (hu:P.underlying u=some .string) (hi:P.info? e=some i) (hz:zeroOf P e=some z) (L:i.size=1) (Z:i.bytes=1)
  (hC:∀f o,f∈fS (Y.ev E)→(∃g h,ρ f g=some h)→H.t.get f=some o→C f=some o)
  (h:Gb e Y y' E H= .ok v H'):en P o a w (cQ ρ C w H v H'):=by
 replace h:=eg h;obtain⟨xa,M,h⟩:=h;replace h:=eg h;obtain⟨ya,hya,h⟩:=h;replace h:=FW h;obtain⟨l,s,rfl,h⟩:=h;have Xg:=hA.bG hx M;have A:=hA.bG hy hya;simp only[VR] at A;obtain⟨b,A,rfl,rfl⟩:=A;have O:=Flat.bytes (ρ:=ρ) b;have G:=Src.ofString (P:=P) w hu b;rw[←L] at O G;have h:iJ e i.size i.bytes b.size (oM b.size (pack b.data.toList)) H xa= .ok v H':=by rw[L,Z];exact h
 obtain⟨cv,w',U,hp⟩:=Y6 hR hF (ty:=o.type) ht hi hz aq (FB _ _) O G Xg (fun f o hf=>hC f o (by rw[M];exact hf)) h;refine .inl ⟨cv,w',?_,hp⟩;simp[execOp,ho,resolve,hc,I,invoke,builtin,Yy h0 h1,A,U]
end
def bm.cT:bm→List aI
 |.cj x=>[x]
 |.pick c a b=>[c,a,b]
 |.pb _ _ _ _=>[]
 |.box _ _ _ x=>[x]
 |.load _ _ a=>[a]
 |.store _ a x=>[a,x]
 |.bin _ x y=>[x,y]
 |.eqv _ _ x y=>[x,y]
 |.un _ x=>[x]
 |.dM x _=>[x]
 |.sub x _ _ _=>[x]
 |.AF _ _ x i=>[x,i]
 |.gQ _ x i=>[x,i]
 |.Di _ _ _ x i=>[x,i]
 |.Dj x i=>[x,i]
 |.HG x lo hi=>x::(lo.toList++hi.toList)
 |.yN _ x lo hi=>x::(lo.toList++hi.toList)
 |.JK _ x lo hi mx=>x::hi::mx::lo.toList
 |.vI x _=>[x]
 |.rB x=>[x]
 |.yO _ fs l=>fs++l
 |.yP _ x=>[x]
 |.vJ _ _ _ _ x y=>[x,y]
 |.build _ ps=>ps.map (·.2.2)
 |.sM _ _ _ _ _ ps=>ps.map (·.2)
 |.len x=>[x]
 |.IQ _=>[]
 |.tQ x=>[x]
 |.app _ _ _ x y=>[x,y]
 |.xn _ x y=>[x,y]
 |.copy _ x y=>[x,y]
 |.xo _ x ys=>x::ys
 |.conv _ x=>[x]
 |.LF x=>[x]
 |.Dk _ x=>[x]
 |.xp x=>[x]
 |.call _ l=>l
 |.xR x l=>x::l
 |.xS _ _ x=>[x]
 |.JL x=>[x]
 |.yQ _ x n=>[x,n]
theorem cR(x:aI)(E:Env)(e:aC)(k:ak→aC):bo x E e k=ob (x.ev E) e k:=by cases x<;>rfl
section
variable{E E':Env}
theorem CN:∀(l:List aI),(∀x∈l,x.ev E=x.ev E')→jq E l=jq E' l
 |[],_=>rfl
 |x::r,h=>by
  have z:=h x (by simp);have h2:=CN r (fun y A=>h y (by simp[A]));show ob (x.ev E) none (fun v=>ob (jq E r) none fun vs=>some (v::vs))=ob (x.ev E') none (fun v=>ob (jq E' r) none fun vs=>some (v::vs));rw[z,h2]
theorem Ai{x:Option aI}{d y:Nat}{e:aC}{k:Nat→aC}(h:∀z∈x.toList,z.ev E=z.ev E'):er E x d y e k=er E' x d y e k:=by
 cases x with
 |none=>rfl
 |some z=>
  have A:=h z (by simp);show ob (z.ev E) e _=ob (z.ev E') e _;rw[A]
theorem Yz:∀(ps:List (Nat×Nat×aI))(cells:List ak),(∀x∈ps.map (·.2.2),x.ev E=x.ev E')→pV E ps cells=pV E' ps cells
 |[],_,_=>rfl
 |p::r,cells,h=>by
  have z:=h p.2.2 (by simp);have h2:=fun cells=>Yz r cells (fun y A=>h y (by simp only[jz,rJ];exact .inr A))
  show ob (p.2.2.ev E) none _=ob (p.2.2.ev E') none _;rw[z];congr 1
  funext v
  congr 1
  funext new
  congr 1;exact h2 _
theorem Yv(es z:Nat):∀(ps:List (Nat×aI))(t:RT),(∀x∈ps.map (·.2),x.ev E=x.ev E')→rh E es z ps t=rh E' es z ps t
 |[],_,_=>rfl
 |p::r,t,h=>by
  have A:=h p.2 (by simp);have h2:=fun t=>Yv es z r t (fun y G=>h y (by simp only[jz,rJ];exact .inr G))
  show ob (p.2.ev E) none _=ob (p.2.ev E') none _;rw[A];congr 1
  funext v
  congr 1
  funext new
  congr 1;congr 1;exact h2 _
theorem bm.ev_congr{call:dG}{H:ay}(io:bm)(h:∀x∈io.cT,x.ev E=x.ev E'):io.ev call E H=io.ev call E' H:=by
 cases io with
 |cj x=>have A:=h x (by simp[bm.cT]);show kU x E H=kU x E' H;simp only[kU,cR,A]
 |pick c x y=>
  have A:=h c (by simp[bm.cT]);have h2:=h x (by simp[bm.cT]);have I:=h y (by simp[bm.cT]);show HH c x y E H=HH c x y E' H;simp only[HH,kU,cR,A,h2,I]
 |pb a b c d=>rfl
 |box a b c x=>have A:=h x (by simp[bm.cT]);show IS a b c x E H=IS a b c x E' H;simp only[IS,Bf,cR,A]
 |load a b x=>have A:=h x (by simp[bm.cT]);show HI a b x E H=HI a b x E' H;simp only[HI,cR,A]
 |store a x y=>have A:=h x (by simp[bm.cT]);have h2:=h y (by simp[bm.cT]);show GD a x y E H=GD a x y E' H;simp only[GD,cR,A,h2]
 |bin a x y=>have A:=h x (by simp[bm.cT]);have h2:=h y (by simp[bm.cT]);show IT a x y E H=IT a x y E' H;simp only[IT,cR,A,h2]
 |eqv a b x y=>have A:=h x (by simp[bm.cT]);have h2:=h y (by simp[bm.cT]);show E5 a b x y E H=E5 a b x y E' H;simp only[E5,cR,A,h2]
 |un a x=>have A:=h x (by simp[bm.cT]);show JN a x E H=JN a x E' H;simp only[JN,cR,A]
 |dM x a=>have A:=h x (by simp[bm.cT]);show HJ x a E H=HJ x a E' H;simp only[HJ,cR,A]
 |sub x a b c=>have A:=h x (by simp[bm.cT]);show IU x a b c E H=IU x a b c E' H;simp only[IU,cR,A]
 |AF a b x y=>have A:=h x (by simp[bm.cT]);have h2:=h y (by simp[bm.cT]);show F9 a b x y E H=F9 a b x y E' H;simp only[F9,cR,A,h2]
 |gQ a x y=>have A:=h x (by simp[bm.cT]);have h2:=h y (by simp[bm.cT]);show GF a x y E H=GF a x y E' H;simp only[GF,cR,A,h2]
 |Di a b c x y=>have A:=h x (by simp[bm.cT]);have h2:=h y (by simp[bm.cT]);show F' a b c x y E H=F' a b c x y E' H;simp only[F',cR,A,h2]
 |Dj x y=>have A:=h x (by simp[bm.cT]);have h2:=h y (by simp[bm.cT]);show Ga x y E H=Ga x y E' H;simp only[Ga,cR,A,h2]
 |HG x lo hi=>
  have A:=h x (by simp[bm.cT]);have h2:∀z∈lo.toList,z.ev E=z.ev E':=fun z G=>h z (by simp only[bm.cT,rJ,yB];exact .inr (.inl G))
  have I:∀z∈hi.toList,z.ev E=z.ev E':=fun z G=>h z (by simp only[bm.cT,rJ,yB];exact .inr (.inr G))
  show GG x lo hi E H=GG x lo hi E' H;simp only[GG,cR,A,Ai h2,Ai I]
 |yN n x lo hi=>
  have A:=h x (by simp[bm.cT]);have h2:∀z∈lo.toList,z.ev E=z.ev E':=fun z G=>h z (by simp only[bm.cT,rJ,yB];exact .inr (.inl G))
  have I:∀z∈hi.toList,z.ev E=z.ev E':=fun z G=>h z (by simp only[bm.cT,rJ,yB];exact .inr (.inr G))
  show HK n x lo hi E H=HK n x lo hi E' H;simp only[HK,cR,A,Ai h2,Ai I]
 |JK n x lo hi mx=>
  have A:=h x (by simp[bm.cT]);have h2:∀z∈lo.toList,z.ev E=z.ev E':=fun z G=>h z (by simp only[bm.cT,rJ];exact .inr (.inr (.inr G)))
  have I:∀z∈(some hi).toList,z.ev E=z.ev E':=fun z G=>h z (by simp only[Vu,ahM] at G;subst G;simp[bm.cT])
  have L:∀z∈(some mx).toList,z.ev E=z.ev E':=fun z G=>h z (by simp only[Vu,ahM] at G;subst G;simp[bm.cT])
  show IV n x lo hi mx E H=IV n x lo hi mx E' H;simp only[IV,cR,A,Ai h2,Ai I,Ai L]
 |vI x a=>have A:=h x (by simp[bm.cT]);show HL x a E H=HL x a E' H;simp only[HL,cR,A]
 |rB x=>have A:=h x (by simp[bm.cT]);show GH x E H=GH x E' H;simp only[GH,cR,A]
 |yO f fs l=>
  have A:=CN fs (fun z G=>h z (by simp only[bm.cT,yB];exact .inl G));have h2:=CN l (fun z G=>h z (by simp only[bm.cT,yB];exact .inr G));show HM f fs l E H=HM f fs l E' H;simp only[HM,A,h2]
 |yP t x=>have A:=h x (by simp[bm.cT]);show HN t x E H=HN t x E' H;simp only[HN,cR,A]
 |vJ a b c d x y=>have A:=h x (by simp[bm.cT]);have h2:=h y (by simp[bm.cT]);show HO a b c d x y E H=HO a b c d x y E' H;simp only[HO,cR,A,h2]
 |build z ps=>have A:=Yz ps z h;show LG z ps E H=LG z ps E' H;simp only[LG,A]
 |sM a b c d z ps=>have A:=Yv b d ps (nR z d) h;show KM a b c d z ps E H=KM a b c d z ps E' H;simp only[KM,A]
 |len x=>have A:=h x (by simp[bm.cT]);show IW x E H=IW x E' H;simp only[IW,cR,A]
 |IQ n=>rfl
 |tQ x=>have A:=h x (by simp[bm.cT]);show HP x E H=HP x E' H;simp only[HP,cR,A]
 |app a b c x y=>have A:=h x (by simp[bm.cT]);have h2:=h y (by simp[bm.cT]);show IX a b c x y E H=IX a b c x y E' H;simp only[IX,cR,A,h2]
 |xn a x y=>have A:=h x (by simp[bm.cT]);have h2:=h y (by simp[bm.cT]);show Gb a x y E H=Gb a x y E' H;simp only[Gb,cR,A,h2]
 |copy a x y=>have A:=h x (by simp[bm.cT]);have h2:=h y (by simp[bm.cT]);show HQ a x y E H=HQ a x y E' H;simp only[HQ,cR,A,h2]
 |xo m x ys=>
  have A:=h x (by simp[bm.cT]);have h2:=CN ys (fun z G=>h z (by simp only[bm.cT,rJ];exact .inr G));show Gc m x ys E H=Gc m x ys E' H;simp only[Gc,cR,A,h2]
 |conv k x=>have A:=h x (by simp[bm.cT]);show HR k x E H=HR k x E' H;simp only[HR,cR,A]
 |LF x=>have A:=h x (by simp[bm.cT]);show kU x E H=kU x E' H;simp only[kU,cR,A]
 |Dk e x=>have A:=h x (by simp[bm.cT]);show Gd e x E H=Gd e x E' H;simp only[Gd,cR,A]
 |xp x=>have A:=h x (by simp[bm.cT]);show Ge x E H=Ge x E' H;simp only[Ge,cR,A]
 |call f l=>have A:=CN l h;show HU f l call E H=HU f l call E' H;simp only[HU,A]
 |xR x l=>
  have A:=h x (by simp[bm.cT]);have h2:=CN l (fun z G=>h z (by simp only[bm.cT,rJ];exact .inr G));show GJ x l call E H=GJ x l call E' H;simp only[GJ,cR,A,h2]
 |xS t n x=>have A:=h x (by simp[bm.cT]);show GI t n x E H=GI t n x E' H;simp only[GI,cR,A]
 |JL x=>have A:=h x (by simp[bm.cT]);show IY x E H=IY x E' H;simp only[IY,cR,A]
 |yQ e x n=>have A:=h x (by simp[bm.cT]);have h2:=h n (by simp[bm.cT]);show HS e x n E H=HS e x n E' H;simp only[HS,cR,A,h2]
theorem bm.reads_congr(io:bm)(h:∀x∈io.cT,x.ev E=x.ev E'):io.reads E=io.reads E':=by
 cases io with
 |load a b x=>have z:=h x (by simp[bm.cT]);simp only[bm.reads,z]
 |app a b c x y=>have z:=h x (by simp[bm.cT]);have h2:=h y (by simp[bm.cT]);simp only[bm.reads,z,h2]
 |xn a x y=>have z:=h x (by simp[bm.cT]);simp only[bm.reads,z]
 |xp x=>have z:=h x (by simp[bm.cT]);simp only[bm.reads,z]
 |store a x y=>have z:=h x (by simp[bm.cT]);simp only[bm.reads,z]
 |xS t n x=>have z:=h x (by simp[bm.cT]);simp only[bm.reads,z]
 |yQ t x n=>have z:=h x (by simp[bm.cT]);simp only[bm.reads,z]
 |_=>rfl
end
def gJ(ρ:Ho)(C:Nat→Option cV)(H:ay):Prop:=∀f o,(∃g h,ρ f g=some h)→H.t.get f=some o→C f=some o
structure je(P:Program)(call:dG):Prop where
 kK:∀f args H,H.aQ≤H.next→TM H (call f args H)
 sound:∀f args H v H' ρ C w(dV:Array Value),call f args H= .ok v H'→H.aQ≤H.next→(∀x,H.next≤x→H.t.get x=none)→R ρ C w→gJ ρ C H→fw ρ H.next H'.next→vn P ρ→bQ ρ args dV.toList→
  ((callFunc f dV).run P w= .ok (.enter f dV) w∧Calls P f dV w fun e w'=>∃cv,e= .returned cv∧cQ ρ C w H v H' cv w')∨
  ∃cv w',(callFunc f dV).run P w= .ok (.value cv) w'∧cQ ρ C w H v H' cv w'
structure RW(P:Program)(f:Nat)(F:List ak→ay→aC):Prop where
 kK:∀args H,H.aQ≤H.next→TM H (F args H)
 sound:∀args H v H' ρ C w(dV:Array Value),F args H= .ok v H'→H.aQ≤H.next→(∀x,H.next≤x→H.t.get x=none)→R ρ C w→gJ ρ C H→fw ρ H.next H'.next→vn P ρ→bQ ρ args dV.toList→
  ((callFunc f dV).run P w= .ok (.enter f dV) w∧Calls P f dV w fun e w'=>∃cv,e= .returned cv∧cQ ρ C w H v H' cv w')∨
  ∃cv w',(callFunc f dV).run P w= .ok (.value cv) w'∧cQ ρ C w H v H' cv w'
def QV(P:Program)(zt:ZT):Prop:=∀f F,zt.get f=some F→RW P f F
theorem Y7{P:Program}:QV P .leaf:=fun f F h=>by rw[Tr.uE] at h;cases h
section
variable{P:Program}{ρ:Ho}{nt:Nat}{E:Env}{a:Act}{C:Nat→Option cV}{w:World}{H H':ay}{v:ak}{o:Oper}{call:dG}
theorem call_sound(M:AR P ρ nt E a)(O:R ρ C w)(U:fw ρ H.next H'.next)(Y:gJ ρ C H)(Z:H.aQ≤H.next)(G:∀x,H.next≤x→H.t.get x=none)(hc:je P call){c:Call}{f:Nat}{args:List aI}
  (ho:o.op= .call c) (A:c.callee= .value (.func f)) (hx:jM P c.args.toList=some args) (h:HU f args call E H= .ok v H'):en P o a w (cQ ρ C w H v H'):=by
 replace h:=gS h;obtain⟨vs,hv,h⟩:=h;have h1:=M.cT hx hv;rcases hc.sound f vs H v H' ρ C w (c.args.map a.eval) h Z G O Y U M.qz (by simpa using h1) with⟨I,L⟩|⟨cv,w',I,z⟩
 ·refine .inr (.inr ⟨f,c.args.map a.eval,?_,L⟩);simp[execOp,ho,resolve,A,Deferred.ofValue,Act.eval,invoke,I]
 refine .inl ⟨cv,w',?_,z⟩;simp[execOp,ho,resolve,A,Deferred.ofValue,Act.eval,invoke,I]
theorem callv_sound(I:AR P ρ nt E a)(hR:R ρ C w)(hF:fw ρ H.next H'.next)(hK:gJ ρ C H)(hm:H.aQ≤H.next)(L:∀x,H.next≤x→H.t.get x=none)(hc:je P call){c:Call}{x:Operand}{U:aI}{args:List aI}
  (ho:o.op= .call c) (A:c.callee= .value x) (M:ct P x=some U) (hx:jM P c.args.toList=some args) (h:GJ U args call E H= .ok v H'):en P o a w (cQ ρ C w H v H'):=by
 replace h:=eg h;obtain⟨u,hu,h⟩:=h;replace h:=onFunc_ok h;obtain⟨f,fs,eG,rfl,h⟩:=h;replace h:=gS h;obtain⟨vs,hv,h⟩:=h;have h1:=I.cT hx hv;have h2:=I.bG M hu;simp only[VR] at h2;obtain⟨Y,Z,h2,h4,h3⟩:=h2;rcases hc.sound f (fs++(vs++eG)) H v H' ρ C w (Y++c.args.map a.eval++Z) h hm L hR hK hF I.qz (by simpa using bQ.append h4 (bQ.append h1 h3)) with⟨G,O⟩|⟨cv,w',G,z⟩
 ·refine .inr (.inr ⟨f,Y++c.args.map a.eval++Z,?_,O⟩);rw[Array.append_assoc] at G⊢;simp[execOp,ho,resolve,A,Deferred.ofValue,h2,invoke,G]
 refine .inl ⟨cv,w',?_,z⟩;rw[Array.append_assoc] at G;simp[execOp,ho,resolve,A,Deferred.ofValue,h2,invoke,G]
end
section
variable{P:Program}{ρ:Ho}{nt:Nat}{E:Env}{a:Act}{C:Nat→Option cV}{w:World}{H H':ay}{v:ak}{o:Oper}{call:dG}
def Aq(cells:Array Value)(off:Nat)(v:Array Value):Array Value:=v.zipIdx.foldl (fun cs(c,j)=>cs.setIfInBounds (off+j) c) cells
theorem Yw(cells:Array Value)(off:Nat)(v:Array Value):(Aq cells off v).size=cells.size:=by
 unfold Aq;rw[←Array.foldl_toList,ahN];exact(Great.foldl_set off v.toList 0 cells).1
theorem PE(cells:Array Value)(off:Nat)(v:Array Value)(k:Nat):(Aq cells off v)[k]?=if off≤k∧k<off+v.size∧k<cells.size then v[k-off]?else cells[k]?:=by
 unfold Aq;rw[←Array.foldl_toList,ahN];rw[(Great.foldl_set off v.toList 0 cells).2 k];simp
theorem Zv{place:Nat→Option (Nat×Nat)}{cells:Array Value}{i off size:Nat}{v:Value}{rest:List (Nat×Value)}(z:place i=some (off,size))(A:v.cells.size=size)(G:off+size≤cells.size):
  Instr.fill place cells ((i,v)::rest)=Instr.fill place (Aq cells off v.cells) rest:=by
 rw[Instr.fill];simp only[z,A];rw[aZ (by simp;omega)];rfl
theorem splice_ok{z new:List ak}{off:Nat}(G:z.all eI=true)(I:new.all eI=true):(eE z off new).all eI=true:=by
 unfold eE;simp only[tz,yB] at*;rintro x(A|A|A)
 ·exact G x (Eo A)
 ·exact I x A
 exact G x (En A)
theorem aa6(hA:AR P ρ nt E a){place:Nat→Option (Nat×Nat)}:∀{ps:List (Nat×Operand)}{L:List (Nat×Nat×aI)}(_:Dl P place ps=some L)(z:List ak)(cells:Array Value)(G:List ak),
  (∀p∈L,p.1+p.2.1≤z.length)→bQ ρ z cells.toList→z.all eI=true→pV E L z=some G→∃A,Instr.fill place cells (ps.map fun p=>(p.1,a.eval p.2))=some A∧bQ ρ G A.toList∧G.all eI=true
 |[],L,M,z,cells,G,_,hv,O,h=>by
  cases M
  cases h
  exact⟨cells,rfl,hv,O⟩
 |(i,x)::r,L,M,z,cells,G,hle,hv,O,h=>by
  unfold Dl at M
  split at M
  ·rename_i q y l hq hy hl
   cases M
   have h:ob (y.ev E) none (fun v=>ob (iD v) none fun new=>aD (Nat.beq (gz new) q.2) (pV E l (eE z q.1 new)) none)=some G:=h
   cases hu:y.ev E with
   |none=>rw[hu] at h;cases h
   |some u=>
    rw[hu] at h
    cases hc:iD u with
    |none=>simp only[ob] at h;rw[hc] at h;cases h
    |some new=>
     have h:ob (iD u) none (fun new=>aD (Nat.beq (gz new) q.2) (pV E l (eE z q.1 new)) none)=some G:=h;rw[hc] at h;have h:aD (Nat.beq (gz new) q.2) (pV E l (eE z q.1 new)) none=some G:=h
     cases U:Nat.beq (gz new) q.2
     ·rw[U] at h;cases h
     rw[U,et] at h;have U:=cD U;rw[oL] at U;have h1:=(hA.bG hy hu).cells hc;have Y:(a.eval x).cells.size=new.length:=by have:=h1.1.length;simpa using this
     have Z:cells.size=z.length:=by have:=hv.length;simpa using this
     have I:=hle (q.1,q.2,y) (iI ..);have I:q.1+q.2≤z.length:=I;have qQ:=Yu (l:=z) (new:=new) (r:=q.1) (n:=q.2) I U
     obtain⟨A,k1,k2,k3⟩:=aa6 hA hl (eE z q.1 new) (Aq cells q.1 (a.eval x).cells) G (fun p M=>by rw[qQ];exact hle p (mu _ M)) (bQ.oN (by simp[Yw,qQ,Z]) fun k av O=>by
       rw[Y5 I U] at O;simp only[NO,PE,Y]
       split at O
       ·rename_i oA;rw[bj aq];obtain⟨cv,g1,g2⟩:=h1.1.get _ av O;exact⟨cv,by simpa using g1,g2⟩
       rename_i oA;rw[aZ aq];obtain⟨cv,g1,g2⟩:=hv.get _ av O
       exact⟨cv,by simpa using g1,g2⟩) (splice_ok O h1.2) h
     refine⟨A,?_,k2,k3⟩;rw[jz,Zv (off:=q.1) (size:=q.2) hq (Y.trans U) (by rw[Z];exact I)];exact k1
  cases M
theorem YN(O:AR P ρ nt E a)(U:R ρ C w){t:TypeId}{parts:Array (Nat×Operand)}{place:Nat→Option (Nat×Nat)}{z:List ak}{cells:Array Value}{io:bm}(ho:o.op= .build t parts)
  (Y:bQ ρ z cells.toList) (Z:z.all eI=true) (hb:∀vs,Instr.fill place cells vs=P.built t vs) (G:K2 z (Dl P place parts.toList)=some io) (h:io.ev call E H= .ok v H'):en P o a w (cQ ρ C w H v H'):=by
 unfold K2 at G
 split at G
 ·rename_i l hl
  split at G
  ·rename_i I
   cases G
   have h:ob (pV E l z) (.err 23) (fun cs=>aC.ok (.agg cs) H)= .ok v H':=h;replace h:=gS h;obtain⟨M,L,h⟩:=h
   cases h
   obtain⟨A,k1,k2,k3⟩:=aa6 O hl z cells M (fun p hp=>by
    have:=List.all_eq_true.1 I p hp
    simpa using this) Y Z L
   refine eX (cv:=.agg A) ?_ U (by simp only[VR];exact⟨A,rfl,k2,k3⟩);have:=run_build (P:=P) w t (parts.map fun(i,x)=>(i,a.eval x)) A (by rw[←hb,←k1];simp);simp[execOp,ho,this]
  cases G
 cases G
theorem build_sound(M:AR P ρ nt E a)(O:R ρ C w){t:TypeId}{parts:Array (Nat×Operand)}{io:bm}(ho:o.op= .build t parts)(A:QS P t parts.toList=some io)(h:io.ev call E H= .ok v H'):en P o a w (cQ ρ C w H v H'):=by
 unfold QS at A
 split at A
 ·rename_i z Z;obtain⟨i,zv,hi,G,U,Y,_,_,_⟩:=wX Z
  split at A
  ·rename_i fs I
   split at A
   ·rename_i places hp;exact YN M O ho (U ρ) Y (fun vs=>by simp[Program.built,hi,I,G,hp]) A h
   cases A
  ·rename_i n e I
   split at A
   ·rename_i ie L;exact YN M O ho (U ρ) Y (fun vs=>by simp[Program.built,hi,I,G,L]) A h
   cases A
  cases A
 cases A
def Fl(ρ:Ho)(n es:Nat)(t:RT)(cells:Array Value):Prop:=
 ∀i,i<n→∃l,t.get i=some l∧l.length=es∧∀j x,l[j]?=some x→eI x=true∧∃cv,cells[i*es+j]?=some cv∧VR ρ x cv
theorem KB(x:List ak)(i:Nat):∀n,(nR x n).get i=if i<n then some x else none
 |0=>rfl
 |n+1=>by
  show((nR x n).set n x).get i=_;rw[RT.dn,KB x i n]
  by_cases h:i=n
  ·rw[bj h,bj aq]
  rw[aZ h]
  by_cases h2:i<n
  ·rw[bj h2,bj aq]
  rw[aZ h2,aZ aq]
theorem madeCells_get{z:Array Value}{es i j N:Nat}(A:z.size=es)(G:j<es)(hN:i*es+j<N):(madeCells z N)[i*es+j]?=z[j]?:=by
 unfold madeCells;rw[Array.getElem?_map,Array.getElem?_range,bj hN];have e:(i*es+j) % z.size=j:=by rw[A,Nat.add_comm,Nat.add_mul_mod_self_right,Em G]
 simp only[rK,e];rw[getElem!_pos z j aq,BG aq]
theorem aa7{z:List ak}{A:Array Value}{es n N:Nat}(M:bQ ρ z A.toList)(O:z.all eI=true)(G:z.length=es)(hN:n*es≤N):Fl ρ n es (nR z n) (madeCells A N):=by
 intro i hi;refine⟨z,by rw[KB,bj hi],G,fun j x I=>⟨List.all_eq_true.1 O x (qw I),?_⟩⟩;obtain⟨cv,U,h2⟩:=M.get j x I;have Y:j<es:=by rw[←G];exact(List.getElem?_eq_some_iff.1 I).1
 have L:A.size=es:=by have:=M.length;rw[←G];simpa using this
 have Z:i*es+es≤n*es:=by have:=iH es (show i+1≤n by omega);rwa [yC] at this
 exact⟨cv,by rw[madeCells_get L Y aq];simpa using U,h2⟩
theorem Zw(hA:AR P ρ nt E a){es A:Nat}:∀{ps:List (Nat×Operand)}{I:List (Nat×aI)}(_:K1 P ps=some I)(t t':RT)(cells:Array Value),cells.size=A*es→Fl ρ A es t cells→rh E es A I t=some t'→
  ∃z,Instr.fill (fun i=>some (i*es,es)) cells (ps.map fun p=>(p.1,a.eval p.2))=some z∧z.size=A*es∧Fl ρ A es t' z
 |[],I,O,t,t',cells,Y,hf,h=>by
  cases O
  cases h
  exact⟨cells,rfl,Y,hf⟩
 |(i,x)::r,I,O,t,t',cells,Y,hf,h=>by
  unfold K1 at O
  split at O
  ·rename_i y l hy hl
   cases O
   have h:ob (y.ev E) none (fun v=>ob (iD v) none fun new=>aD (Nat.beq (gz new) es) (aD (Nat.ble (Nat.succ i) A) (rh E es A l (t.set i new)) none) none)=some t':=h
   cases hu:y.ev E with
   |none=>rw[hu] at h;cases h
   |some u=>
    rw[hu] at h;have h:ob (iD u) none (fun new=>aD (Nat.beq (gz new) es) (aD (Nat.ble (Nat.succ i) A) (rh E es A l (t.set i new)) none) none)=some t':=h
    cases hc:iD u with
    |none=>rw[hc] at h;cases h
    |some new=>
     rw[hc] at h;have h:aD (Nat.beq (gz new) es) (aD (Nat.ble (Nat.succ i) A) (rh E es A l (t.set i new)) none) none=some t':=h
     cases L:Nat.beq (gz new) es
     ·rw[L] at h;cases h
     rw[L,et] at h
     cases G:Nat.ble (Nat.succ i) A
     ·rw[G] at h;cases h
     rw[G,et] at h;have L:=cD L;rw[oL] at L;have G:i+1≤A:=aV G;have h1:=(hA.bG hy hu).cells hc;have kO:(a.eval x).cells.size=new.length:=by have:=h1.1.length;simpa using this
     have mono:∀{p q:Nat},p+1≤q→p*es+es≤q*es:=fun{p q}h=>by have:=iH es h;rwa [yC] at this
     have oA:=mono G
     obtain⟨z,k1,k2,k3⟩:=Zw hA hl (t.set i new) t' (Aq cells (i*es) (a.eval x).cells) (by rw[Yw,Y]) (fun k hk=>by
      rw[RT.dn]
      by_cases M:k=i
      ·subst M;rw[bj rfl];refine⟨new,rfl,L,fun j Z U=>⟨List.all_eq_true.1 h1.2 Z (qw U),?_⟩⟩;obtain⟨cv,g1,g2⟩:=h1.1.get j Z U;have JR:j<es:=by rw[←L];exact(List.getElem?_eq_some_iff.1 U).1
       refine⟨cv,?_,g2⟩;rw[PE,bj aq,Nat.add_sub_cancel_left];simpa using g1
      rw[aZ M];obtain⟨l0,g1,g2,g3⟩:=hf k hk;refine⟨l0,g1,g2,fun j Z U=>?_⟩;obtain⟨m1,cv,m2,m3⟩:=g3 j Z U;have JR:j<es:=by rw[←g2];exact(List.getElem?_eq_some_iff.1 U).1
      refine⟨m1,cv,?_,m3⟩;rw[PE,aZ ?_]
      ·exact m2
      rcases Nat.lt_or_gt_of_ne M with pA|OX
      ·have:=mono (show k+1≤i from pA);omega
      have:=mono (show i+1≤k from OX);omega) h
     refine⟨z,?_,k2,k3⟩;rw[jz,Zv (off:=i*es) (size:=es) rfl (kO.trans L) (by rw[Y];exact oA)];exact k1
  cases O
theorem aaf(I:R ρ C w)(L:fw ρ H.next (H.next+1)){e es aE n cap:Nat}{t:RT}{cells:Array Value}(M:0<es)(z:n≤cap)(G:cells.size=cap*es)(A:Fl ρ n es t cells){w':World}(O:w'.heap=w.heap.push (.cells cells e))
  (U:w'.os=w.os) (h2:w'.tape=w.tape) (Y:w'.output=w.output):cQ ρ C w H (.slice H.next n 0 n es) ⟨H.next+1,H.aQ,H.ws,H.t.set H.next (.row e es aE n n 0 t)⟩ (.slice (some ⟨w.heap.size,0,none⟩) n cap) w':=by
 obtain⟨ρ',Z,g2,g3⟩:=I.alloc (f:=H.next) (elem:=e) (es:=es) (aE:=aE) (n:=n) (cs:=t) (cells:=cells) (w':=w')
  (Wr ⟨H.next+1,H.aQ,H.ws,H.t.set H.next (.row e es aE n n 0 t)⟩) (fun g=>L _ g (bt _) (wB _)) M (by rw[G];exact iH _ z) A O U h2 Y
 refine⟨ρ',?_,g2,?_⟩
 ·simp only[VR];refine⟨_,_,_,Z,rfl,⟨z,by rw[fM];exact iH _ z⟩,.inl ⟨rfl,?_⟩⟩;simp only;rw[G,fM];exact bt _
 rw[KA];exact g3
theorem buildSl_sound(hA:AR P ρ nt E a)(hR:R ρ C w)(hF:fw ρ H.next H'.next){t:TypeId}{I:Nat}{parts:Array (Nat×Operand)}{io:bm}(ho:o.op= .buildSlice t I parts)(A:P0 P t I parts.toList=some io)
  (h:io.ev call E H= .ok v H'):en P o a w (cQ ρ C w H v H'):=by
 unfold P0 at A
 split at A
 ·rename_i e hu
  split at A
  ·rename_i i z hi hz
   split at A
   ·rename_i l hl
    split at A
    ·rename_i hle
     cases A
     have h:ob (rh E i.size I l (nR z I)) (.err 24) (fun t=>H.alloc (.row e i.size i.bytes I I 0 t) fun f H=>.ok (.slice f I 0 I i.size) H)= .ok v H':=h;replace h:=gS h;obtain⟨tr,Z,h⟩:=h;have h:=CV h
     cases h
     obtain⟨i',M,O,qP,hv,hk,Cr,U,zE⟩:=wX hz;rw[hi] at O
     cases O
     obtain⟨G,k1,k2,k3⟩:=Zw hA hl (nR z I) tr (madeCells M.cells (I*i.size)) (size_madeCells _ _) (aa7 (hv ρ) hk Cr (bt _)) Z;refine .inl ⟨_,w.alloc (.cells G e),?_,aaf hR hF U (bt _) k2 k3 rfl rfl rfl rfl⟩;have Y:Instr.fill (fun j=>some (j*i.size,i.size)) ((Array.range (I*i.size)).map (M.cells[· % M.cells.size]!)) (parts.map fun(i,x)=>(i,a.eval x)).toList=some G:=by
      rw[←k1];simp[madeCells]
     by_cases h0:I*i.size=0
     ·have e0:(Array.range 0).map (M.cells[· % M.cells.size]!)=#[]:=by rw[show Array.range 0=#[] from rfl];exact Array.map_empty ..
      rw[h0,e0] at Y;have OY:Instr.fill (fun j=>some (j*i.size,i.size)) #[] (parts.toList.map fun x=>(x.1,a.eval x.2))=some G:=by rw[←Y];simp
      simp[execOp,ho,Instr.buildSlice,run_underlying hu,sizeOf,typeInfo,hi,h0,newRow,OY,show Array.range 0=#[] from rfl]
     have L:¬(2^24<I*i.size):=by omega
     simp at Y L;simp[execOp,ho,Instr.buildSlice,run_underlying hu,sizeOf,typeInfo,hi,L,h0,zeroValue,qP,Y,newRow]
    cases A
   cases A
  cases A
 cases A
theorem mksl_sound(hA:AR P ρ nt E a)(hR:R ρ C w)(hF:fw ρ H.next H'.next){t:TypeId}{x y:Operand}{O U:aI}{io:bm}(ho:o.op= .makeSlice t x y)(hx:ct P x=some O)(hy:ct P y=some U)(A:RU P t O U=some io)
  (h:io.ev call E H= .ok v H'):en P o a w (cQ ρ C w H v H'):=by
 unfold RU at A
 split at A
 ·rename_i e hu
  split at A
  ·rename_i i z hi hz
   split at A
   ·rename_i hb
    cases A
    have h:HO e i.size i.bytes z O U E H= .ok v H':=h;replace h:=eg h;obtain⟨u,Y,h⟩:=h;replace h:=xd h;obtain⟨kl,l0,rfl,h⟩:=h;replace h:=CU h;obtain⟨l,rfl,h⟩:=h;replace h:=eg h;obtain⟨u2,Z,h⟩:=h;replace h:=xd h;obtain⟨kc,c0,rfl,h⟩:=h;replace h:=CU h;obtain⟨c,rfl,h⟩:=h;replace h:=eu h;obtain⟨I,h⟩:=h;replace h:=eu h;obtain⟨g2,h⟩:=h;replace h:=eu h;obtain⟨g3,h⟩:=h;rw[KY] at h;have h:=CV h
    cases h
    have I:=aV I;have g2:c*i.bytes≤70368744177664:=aV g2;have g3:=aV g3;obtain⟨i',zv,L,qP,hv,hk,Cr,M,zE⟩:=wX hz;rw[hi] at L
    cases L
    have e1:=hA.bG hx Y;have e2:=hA.bG hy Z;simp only[VR] at e1 e2
    have G:=run_make (P:=P) w t e i zv hu hi qP kl kc (l:Int) (c:Int) (Int.natCast_nonneg l) (Int.ofNat_le.2 I) (by
     have:((i.bytes*c:Nat):Int)≤((281474976710656:Nat):Int):=Int.ofNat_le.2 (by rw[qu];omega);rw[Int.natCast_mul] at this
     exact this) aq
    simp only[Vm] at G;refine .inl ⟨_,w.alloc (.cells (madeCells zv.cells (c*i.size)) e),?_,aaf hR hF M I (size_madeCells _ _) (aa7 (hv ρ) hk Cr (iH _ I)) rfl rfl rfl rfl⟩;rw[show(execOp a.eval o)=_ from rfl];simp only[execOp,ho,e1,e2];simp only[Sem.run_bind,G,Result.andThen_ok];rfl
   cases A
  cases A
 cases A
end
section
variable{P:Program}{ρ:Ho}{nt:Nat}{E:Env}{a:Act}{C:Nat→Option cV}{w:World}{H H':ay}{v:ak}{o:Oper}{call:dG}
theorem PR(b:Bool)(k:Bool→aC):nG b k=k b:=by cases b<;>rfl
theorem eqA_ok(dp:Nat){c:E4}{t:TypeId}{d:TypeDesc}(G:P.underlying t=some d)(A:TY P d=some c){x y:ak}{L cy:Value}(z:VR ρ x L)(h2:VR ρ y cy){r:Bool}(h:ox c x y=some r):
  (Op.equalIn (dp+1) t L cy).run P w= .ok r w∧(∀k n,L≠.int k n)∧(∀b,L≠.string b)∧(∀k n,L≠.float k n)∧(∀k n m,L≠.complex k n m)∧(∀cs,L≠.agg cs)∧(L= .nilIface→∃ms,d= .interface ms):=by
 unfold TY at A
 split at A
 ·cases A
  unfold ox at h;simp only at h
  split at h
  ·simp only[VR] at z h2;subst z;subst h2
   cases h
   exact⟨by simp[Op.equalIn,run_underlying G],by simp,by simp,by simp,by simp,by simp,by simp⟩
  cases h
 ·rename_i e
  split at A
  ·rename_i ie U
   cases A
   unfold ox at h;simp only at h
   split at h
   ·simp only[VR] at z h2;subst z;subst h2;cases h;exact⟨by simp[Op.equalIn,run_underlying G],by simp,by simp,by simp,by simp,by simp,by simp⟩
   ·simp only[VR] at z h2;obtain⟨_,_,rfl⟩:=h2;subst z;cases h;exact⟨by simp[Op.equalIn,run_underlying G],by simp,by simp,by simp,by simp,by simp,by simp⟩
   ·simp only[VR] at z h2;obtain⟨_,_,rfl⟩:=z;subst h2;cases h;exact⟨by simp[Op.equalIn,run_underlying G],by simp,by simp,by simp,by simp,by simp,by simp⟩
   ·rename_i f g o f' g' o'
    cases I:Nat.beq f f'
    ·rw[I] at h;cases h
    rw[I,et] at h
    cases M:Nat.beq g g'
    ·rw[M] at h;cases h
    rw[M,et] at h
    cases O:Nat.beq o o'
    ·rw[O] at h;cases h
    rw[O,et] at h
    cases h
    have I:=cD I;have M:=cD M;have O:=cD O;subst I;subst M;subst O;simp only[VR] at z h2;obtain⟨hm,k1,rfl⟩:=z;obtain⟨sf,Z,rfl⟩:=h2;rw[k1] at Z
    cases Z
    exact⟨by simp[Op.equalIn,run_underlying G,sizeOf,typeInfo,U,run_sameAddr_same],by simp,by simp,by simp,by simp,by simp,by simp⟩
   cases h
  cases A
 ·cases A
  unfold ox at h;simp only at h
  split at h
  ·simp only[VR] at z h2;subst z;subst h2;cases h;exact⟨by simp[Op.equalIn,run_underlying G],by simp,by simp,by simp,by simp,by simp,by simp⟩
  ·simp only[VR] at z h2;obtain⟨_,_,_,_,rfl,_⟩:=h2;subst z;cases h;exact⟨by simp[Op.equalIn,run_underlying G],by simp,by simp,by simp,by simp,by simp,by simp⟩
  ·simp only[VR] at z h2;obtain⟨_,_,_,_,rfl,_⟩:=z;subst h2;cases h;exact⟨by simp[Op.equalIn,run_underlying G],by simp,by simp,by simp,by simp,by simp,by simp⟩
  cases h
 ·rename_i ms
  cases A
  unfold ox at h;simp only at h
  split at h
  ·simp only[VR] at z h2;subst z;subst h2;cases h;exact⟨by simp[Op.equalIn,run_underlying G],by simp,by simp,by simp,by simp,by simp,fun _=>⟨ms,rfl⟩⟩
  ·simp only[VR] at z h2;obtain⟨_,rfl,_⟩:=h2;subst z;cases h;exact⟨by simp[Op.equalIn,run_underlying G],by simp,by simp,by simp,by simp,by simp,fun _=>⟨ms,rfl⟩⟩
  ·simp only[VR] at z h2;obtain⟨_,rfl,_⟩:=z;subst h2;cases h;exact⟨by simp[Op.equalIn,run_underlying G],by simp,by simp,by simp,by simp,by simp,by simp⟩
  ·rename_i t1 _ t2 _
   cases I:Nat.beq t1 t2
   ·rw[I] at h
    cases h
    have Y:t1≠t2:=fun e=>by rw[e,ij] at I;cases I
    simp only[VR] at z h2;obtain⟨_,rfl,_⟩:=z;obtain⟨_,rfl,_⟩:=h2;exact⟨by simp[Op.equalIn,run_underlying G,Y],by simp,by simp,by simp,by simp,by simp,by simp⟩
   rw[I] at h;cases h
  cases h
 ·cases A
  unfold ox at h;simp only at h
  split at h
  ·simp only[VR] at z h2;subst z;subst h2;cases h;exact⟨by simp[Op.equalIn,run_underlying G],by simp,by simp,by simp,by simp,by simp,by simp⟩
  ·simp only[VR] at z h2;obtain⟨_,_,rfl,_⟩:=h2;subst z;cases h;exact⟨by simp[Op.equalIn,run_underlying G],by simp,by simp,by simp,by simp,by simp,by simp⟩
  ·simp only[VR] at z h2;obtain⟨_,_,rfl,_⟩:=z;subst h2;cases h;exact⟨by simp[Op.equalIn,run_underlying G],by simp,by simp,by simp,by simp,by simp,by simp⟩
  cases h
 ·cases A
  unfold ox at h;simp only at h
  split at h
  ·simp only[VR] at z h2;subst z;subst h2;cases h;exact⟨by simp[Op.equalIn,run_underlying G],by simp,by simp,by simp,by simp,by simp,by simp⟩
  cases h
 cases A
theorem run_eqGuard_free{op:BinOp}(G:op= .eql∨op= .neq){t:TypeId}{d:TypeDesc}{x y:Operand}{I cy:Value}(L:P.underlying t=some d)(z:LI x y d=true)(M:∀cs,I≠.agg cs)(O:I= .nilIface→∃ms,d= .interface ms):
  (eqGuard op t x y I cy).run P w= .ok () w:=by
 unfold eqGuard;rcases G with rfl|rfl
 ·rw[aZ au]
  split
  ·obtain⟨ms,rfl⟩:=O rfl;simp only[LI,m8] at z;have e:∀A,(Op.eqGuardIn (A+1) t .nilIface .nilIface).run P w= .ok (!ms.isEmpty) w:=fun A=>by simp[Op.eqGuardIn,run_underlying L]
   rcases z with(z|z)|z
   ·cases x<;>cases y<;>simp[Op.maxDepth,e 9999,z]
   ·cases x<;>simp[CT] at z<;>simp
   cases y<;>simp[CT] at z<;>simp
  ·exact absurd rfl (M _)
  rfl
 rw[aZ au]
 split
 ·obtain⟨ms,rfl⟩:=O rfl;simp only[LI,m8] at z;have e:∀A,(Op.eqGuardIn (A+1) t .nilIface .nilIface).run P w= .ok (!ms.isEmpty) w:=fun A=>by simp[Op.eqGuardIn,run_underlying L]
  rcases z with(z|z)|z
  ·cases x<;>cases y<;>simp[Op.maxDepth,e 9999,z]
  ·cases x<;>simp[CT] at z<;>simp
  cases y<;>simp[CT] at z<;>simp
 ·exact absurd rfl (M _)
 rfl
theorem eqv_sound(Z:AR P ρ nt E a)(hR:R ρ C w){op:BinOp}{t t':TypeId}{d:TypeDesc}{x z:Operand}{M O:aI}{io:bm}(ho:o.op= .binOp op t x z t')(hx:ct P x=some M)(hz:ct P z=some O)(hu:P.underlying t=some d)
  (A:Vw P op d x z M O=some io) (h:io.ev call E H= .ok v H'):en P o a w (cQ ρ C w H v H'):=by
 unfold Vw at A
 split at A
 ·rename_i c hc
  split at A
  ·rename_i G;have key:∀neg,(op= .eql∧neg=false)∨(op= .neq∧neg=true)→E5 c neg M O E H= .ok v H'→en P o a w (cQ ρ C w H v H'):=by
    intro neg I h;replace h:=eg h;obtain⟨u,U,h⟩:=h;replace h:=eg h;obtain⟨u2,Y,h⟩:=h;replace h:=gS h;obtain⟨r,hr,h⟩:=h;rw[PR] at h
    cases h
    obtain⟨g0,g1,g2,g3,g4,g5,g6⟩:=eqA_ok (w:=w) 9999 hu hc (Z.bG hx U) (Z.bG hz Y) hr;have hg:=run_eqGuard_free (w:=w) (op:=op) (by rcases I with⟨h,_⟩|⟨h,_⟩<;>simp[h]) (x:=x) (y:=z) (cy:=a.eval z) hu G g5 g6;refine eX (cv:=.bool (Bool.xor neg r)) ?_ hR (by simp only[VR]);simp only[execOp,ho,Sem.run_bind,hg,Result.andThen_ok];generalize a.eval x=L at*;generalize a.eval z=cz at*;rcases I with⟨rfl,rfl⟩|⟨rfl,rfl⟩
    ·have:(binOp .eql t L cz).run P w= .ok (.bool r) w:=by
      cases L<;>simp only[binOp]<;>first|exact absurd rfl (g1 _ _)|exact absurd rfl (g2 _)|exact absurd rfl (g3 _ _)|exact absurd rfl (g4 _ _ _)|simp[Op.equal,Op.maxDepth,g0]
     simp[this]
    have:(binOp .neq t L cz).run P w= .ok (.bool (!r)) w:=by
     cases L<;>simp only[binOp]<;>first|exact absurd rfl (g1 _ _)|exact absurd rfl (g2 _)|exact absurd rfl (g3 _ _)|exact absurd rfl (g4 _ _ _)|simp[Op.equal,Op.maxDepth,g0]
    simp[this]
   cases op<;>simp only[eA,reduceCtorEq] at A
   ·subst A;exact key false (.inl ⟨rfl,rfl⟩) h
   subst A;exact key true (.inr ⟨rfl,rfl⟩) h
  cases A
 cases A
end
end Go.Ev
