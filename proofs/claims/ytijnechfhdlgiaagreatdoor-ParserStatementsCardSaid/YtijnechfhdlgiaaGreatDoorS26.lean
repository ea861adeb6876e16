/- Part 26 of rules for walks through the code of a program, and of such walks; what each part proves is said by its theorems. -/
import Derived.Test.YtijnechfhdlgiaaGreatDoorS25
set_option linter.unusedVariables false
set_option linter.unusedSimpArgs false
noncomputable section
set_option maxRecDepth 100000
set_option maxHeartbeats 4000000
namespace Go.Ev.Pp
open Go
theorem adq{T:bd}(F:FT T):Sound T 55 [.d (.i .i64 1000000)] fun r=>∃d,r= .d d∧gK 40 d:=by
 exact dG F.Rv aa (an 1 aa (aL (an 2 aa (eW aa aa (an 1 aa (ay (bt aa aa ⟨_,aa,eh (n:=40) aa⟩)))))))
theorem P8{T:bd}(F:FT T){n:Nat}(U:n≤59):Sound T 55 [.d (.i .i64 (n:Nat))] fun r=>∃d,r= .d d∧gK 40 d:=by
 refine dG F.Rv aa (an 1 aa (aL (an 2 aa (aK aa (fun O=>?_) (fun O=>?_)))))
 ·exact absurd O (by simp;omega)
 refine aQ (ai (ae 1 aa (aj (fG aa (gu aa) (toDate F U) (fun r _ z=>?_)))))
 obtain⟨y,m,e,rfl,Y,Z,he⟩:=z
 refine ak 9 aa (aL (an 2 aa (ef aa aa (aQ (ai (ae 1 aa (aj (fG aa (gu aa) (Ig F (w:=4) Y aq) (fun r _ z=>?_)))))))))
 obtain⟨d19,rfl,eC⟩:=z
 refine aj (dE rfl eC rfl (eh (n:=1) (by decide+kernel)) aq (fun d20 A=>?_))
 refine ae 1 aa (aj (fG aa (gu aa) (Ig F (w:=2) Z aq) (fun r _ z=>?_)))
 obtain⟨d22,rfl,G⟩:=z
 refine aj (dE aa A aa G aq (fun d23 I=>?_))
 refine aj (dE rfl I rfl (eh (n:=1) (by decide+kernel)) aq (fun RZ J=>?_))
 refine ae 1 aa (aj (fG aa (gu aa) (Ig F (w:=2) he aq) (fun r _ z=>?_)))
 obtain⟨KC,rfl,K⟩:=z
 refine aj (dE aa J aa K aq (fun d27 dr=>?_))
 exact ak 1 aa (ay (bt aa aa ⟨_,aa,dr.mono aq⟩))
theorem QX{T:bd}(F:FT T){n:Nat}(z:n≤59∨n=1000000):Sound T 55 [.d (.i .i64 (n:Nat))] fun r=>∃d,r= .d d∧gK 40 d:=by
 rcases z with z|rfl
 ·exact P8 F z
 exact adq F
theorem adr{T:bd}(F:FT T){f t:Nat}(h0:f≤59)(h1:f<t)(h2:t≤59∨t=1000000):Sound T 53 [.agg [.d (.i .i64 (f:Nat)),.d (.i .i64 (t:Nat))]] fun r=>∃d,r= .d d∧gK 100 d:=by
 refine dG F.f53 aa (an 2 aa (aL (ai (ae 1 aa (aj (cJ (YL F (f:=(f:Nat)) (t:=(t:Nat)) ah ah ah) aa aa ?_))))))
 refine ak 1 aa (ef aa aa (aQ (eO (bD 2 aa (dy aa (fG aa (gu aa) (QX F (.inl h0)) (fun r _ z=>?_)))))))
 obtain⟨d8,rfl,J⟩:=z
 refine bG (dE rfl (eh (n:=1) (by decide+kernel)) rfl J aq (fun d9 K=>?_))
 refine bG (dE rfl K rfl (eh (n:=2) (by decide+kernel)) aq (fun O A=>?_))
 refine bD 2 aa (dy aa (fG aa (gu aa) (QX F h2) (fun r _ z=>?_)))
 obtain⟨U,rfl,bQ⟩:=z
 refine bG (dE aa A aa bQ aq (fun Y G=>?_))
 refine bG (dE rfl G rfl (eh (n:=1) (by decide+kernel)) aq (fun Z I=>?_))
 exact du 1 aa (ay (bt aa aa ⟨_,aa,I.mono aq⟩))
theorem YM{T:bd}(F:FT T)(x y:Nat):Sound T 54 [u16 x,u16 y] fun r=>∃f t:Nat,r= .agg [.d (.i .i64 (f:Nat)),.d (.i .i64 (t:Nat))]∧f≤59∧f<t∧(t≤59∨t=1000000):=by
 refine dG F.f54 aa (an 1 aa (ai (ae 1 aa (aj (gQ (b:=40) aa aa aq ?_)))))
 obtain⟨f,A,G⟩:∃f,f=x % 40∧f<40:=⟨_,rfl,eI _ aq⟩
 rw[←A]
 refine aj (rV aa ah ?_)
 refine ak 3 aa (aL (ai (ae 1 aa (aj (gQ (b:=11) aa aa aq ?_)))))
 refine ak 1 aa (aK aa (fun z=>?_) (fun z=>?_))
 ·exact bC (ak 2 aa (an 2 aa (ay (bt aa aa ⟨f,1000000,aa,ah,ah,.inr aa⟩))))
 refine bC (ae 2 aa (aj (cM aa aa ah ?_)))
 obtain⟨g,I,J⟩:∃g,g=y % 15∧g<15:=⟨_,rfl,eI _ aq⟩
 refine ae 1 aa (aj (gQ (b:=15) aa aa aq ?_))
 rw[←I]
 refine aj (rV aa ah ?_)
 refine aj (jj aa aa ah ah ?_)
 rw[show((f+1:Nat):Int)+((g:Nat):Int)=((f+1+g:Nat):Int) by omega]
 exact ak 2 aa (an 2 aa (ay (bt aa aa ⟨f,f+1+g,aa,ah,ah,.inl ah⟩)))
theorem XT{T:bd}(F:FT T)(x:Nat):Sound T 23 [u16 x] fun r=>∃d,r= .d d∧gK 1 d:=by
 refine dG F.f23 aa (an 1 aa (ai (ae 2 aa (aj (gQ (b:=3) aa aa aq ?_)))))
 obtain⟨G,z,A⟩:=(pF (n:=1) (k:=3) (rows:=[[.s 1 116],[.s 1 117],[.s 1 119]]) (by decide+kernel) rfl).2 (x % 3) (eI _ aq)
 refine aj (mU aa aa (eI _ aq) ?_)
 refine aj (nh aa aa (bR _) (bR _) (eI _ aq) z aa ?_)
 exact ak 1 aa (ay (bt aa aa ⟨_,aa,A⟩))
theorem Ja{T:bd}(F:FT T)(x y:Nat):Sound T 25 [u16 x,u16 y] fun r=>∃d,r= .d d∧gK 102 d:=by
 refine dG F.f25 aa (an 1 aa (ai (ae 2 aa (aj (fG aa (gu aa) (YM F x y) (fun r _ z=>?_))))))
 obtain⟨f,t,rfl,G,I,J⟩:=z
 refine aj (fG aa (gu aa) (adr F G I J) (fun r _ z=>?_))
 obtain⟨Y,rfl,K⟩:=z
 refine aj (dE rfl (eh (n:=1) (by decide+kernel)) rfl K aq (fun Z O=>?_))
 refine aj (dE rfl O rfl (eh (n:=1) (by decide+kernel)) aq (fun U A=>?_))
 exact ak 1 aa (ay (bt aa aa ⟨_,aa,A⟩))
theorem OB{T:bd}(F:FT T)(x:Nat):Sound T 26 [u16 x] fun r=>∃d,r= .d d∧gK 42 d:=by
 refine dG F.f26 aa (an 1 aa (ai (ae 1 aa (aj (gQ (b:=50) aa aa aq ?_)))))
 obtain⟨f,z,A⟩:∃f,f=x % 50∧f<50:=⟨_,rfl,eI _ aq⟩
 rw[←z]
 refine aj (rV aa ah ?_)
 refine aj (fG aa (gu aa) (P8 F (n:=f) ah) (fun r _ G=>?_))
 obtain⟨O,rfl,I⟩:=G
 refine aj (dE rfl (eh (n:=1) (by decide+kernel)) rfl I aq (fun U J=>?_))
 refine aj (dE rfl J rfl (eh (n:=1) (by decide+kernel)) aq (fun Y K=>?_))
 exact ak 1 aa (ay (bt aa aa ⟨_,aa,K⟩))
theorem Cn{T:bd}(F:FT T){x:Nat}(z:x<65536):Sound T 27 [u16 x] fun r=>∃d,r= .d d∧gK 65537 d:=by
 refine dG F.f27 aa (an 1 aa (ai (ae 1 aa (aj (rV aa ah ?_)))))
 refine aj (cJ (rG F (x:Nat)) aa aa ?_)
 refine aj (fG aa (gu aa) (JO F z) (fun r _ A=>?_))
 obtain⟨I,rfl,G⟩:=A
 exact ak 1 aa (ay (bt aa aa ⟨_,aa,G⟩))
theorem XU{T:bd}(F:FT T)(c:Nat){x:Nat}(O:x<65536):Sound T 50 [.d (.i .i64 (c:Nat)),u16 x] fun r=>∃(k n:Int)(s:List UInt8),r= .agg [.d (.i .i64 k),.d (.i .i64 n),.d (cl s)]∧(k=0∨k=1∧ -1≤n∧n≤1∧s=[]∨k=2∧n=0∧s.length≤200):=by
 refine dG F.f50 aa (an 1 aa (aL (ai (ae 1 aa (aj (gQ (b:=7) aa aa aq ?_))))))
 refine ak 1 aa (aK aa (fun I=>?_) (fun I=>?_))
 ·exact an 2 aa (ay (bt aa aa ⟨0,0,[],aa,.inl aa⟩))
 refine aQ (aL (ai (ae 1 aa (aj (gQ (b:=2) aa aa aq ?_)))))
 refine ak 1 aa (aK aa (fun z=>?_) (fun z=>?_))
 ·refine ai (ae 1 aa (aj (gQ (b:=3) aa aa aq ?_)))
  refine aj (rV aa ah ?_)
  have J:=eI x (y:=3) aq
  refine aj (f3 aa aa cQ cQ ?_)
  refine aj (cJ (rG F _) aa aa ?_)
  refine ak 1 aa (ay ?_)
  exact bt rfl rfl ⟨1,_,[],rfl,.inr (.inl ⟨rfl,by(try simp only[bN] at*);omega,by(try simp only[bN] at*);omega,rfl⟩)⟩
 refine aQ (ai (ae 2 aa (aj (gQ (b:=3) aa aa aq ?_))))
 obtain⟨K,A,G⟩:=(pF (n:=2) (k:=3) (rows:=[[.s 0 0],[.s 1 97],[.s 2 10082]]) (by decide+kernel) rfl).2 (x % 3) (eI _ aq)
 refine aj (mU aa aa (eI _ aq) ?_)
 refine aj (nh aa aa (bR _) (bR _) (eI _ aq) A aa ?_)
 refine ak 2 aa (ay ?_)
 obtain⟨s,rfl,U⟩:=G
 exact bt aa aa ⟨2,0,s,aa,.inr (.inr ⟨aa,aa,ah⟩)⟩
theorem QY{T:bd}(F:FT T){k n:Int}{s:List UInt8}(hk:k=0∨k=1∧ -1≤n∧n≤1∧s=[]∨k=2∧n=0∧s.length≤200)(h0:¬k=0)(z:k=1→0≤n):Sound T 51 [.agg [.d (.i .i64 k),.d (.i .i64 n),.d (cl s)]] fun r=>∃d,r= .d d∧gK 65537 d:=by
 rcases hk with h|⟨rfl,a,b,rfl⟩|⟨rfl,rfl,A⟩
 ·exact absurd h h0
 ·obtain⟨m,rfl⟩:=Int.eq_ofNat_of_zero_le (z rfl)
  exact JO F ah
 intro H0 X H β l G I
 exact(ado F A).mono (fun r⟨d,e,h⟩=>⟨d,e,h.mono aq⟩) H0 X H β l G I
theorem Bb{T:bd}(F:FT T)(c:Nat){x:Nat}(Z:x<65536):Sound T 24 [.d (.i .i64 (c:Nat)),u16 x] fun r=>∃d,r= .d d∧gK 65539 d:=by
 refine dG F.f24 aa (an 1 aa (ai (ae 2 aa (aj (fG aa (gu aa) (XU F c Z) (fun r _ A=>?_))))))
 obtain⟨k,n,s,rfl,hk⟩:=A
 refine ak 2 aa (aL (an 3 aa (aK aa (fun G=>?_) (fun G=>?_))))
 ·exact an 1 aa (ay (bt aa aa ⟨_,aa,eh (n:=65539) aa⟩))
 have I:¬k=0:=by simpa using G
 refine aQ (aL (ai (ae 4 aa (dc (g:=bb) aa (fun z=>?_) (fun z=>?_)))))
 ·have J:k=1:=by simpa using z
  first|refine aw rfl (z) (oj rfl ?_)|refine aw rfl (z) (dD rfl ?_)|refine aw rfl (z) (wM rfl ?_)
  first|refine aw rfl (z) (df rfl rfl rfl ?_)|refine aw rfl (z) (km rfl rfl ?_)
  refine aw aa (z) (w4 aa aa ?_)
  refine aj (c8 aa (z) aa ?_)
  refine aX (aK aa (fun eC=>?_) (fun eC=>?_))
  ·have K:n<0:=by simpa using eC
   refine ai (ae 2 aa (aj (H4 aa ?_)))
   obtain⟨h1,h2,hs⟩: -1≤n∧n≤1∧s=[]:=by rcases hk with h|⟨_,a,b,c⟩|⟨h,_⟩<;>first|exact⟨a,b,c⟩|omega
   obtain rfl:n= -1:=by omega
   rw[show IntKind.i64.wrap (0-(-1))=((1:Nat):Int) by decide]
   refine aj (cJ (rG F _) aa aa ?_)
   refine aj (fG aa (gu aa) (JO F (n:=1) aq) (fun r _ A=>?_))
   obtain⟨RZ,rfl,O⟩:=A
   refine aj (dE rfl (eh (n:=2) (by decide+kernel)) rfl O aq (fun d25 U=>?_))
   exact ak 1 aa (ay (bt aa aa ⟨_,aa,U⟩))
  have K:¬n<0:=by simpa using eC
  refine aQ (ai (ae 1 aa ?_))
  refine aj (fG rfl (gu rfl) (QY F hk I (fun _=>by omega)) (fun r _ A=>?_))
  obtain⟨Y,rfl,dr⟩:=A
  exact ak 1 aa (ay (bt aa aa ⟨_,aa,dr.mono aq⟩))
 have J:¬k=1:=by simpa using z
 refine aY aa (z) (aY aa (z) (aY aa (z) (aj (cS aa (z) aa ?_))))
 refine aX (ef aa aa (aQ (ai (ae 1 aa (aj (fG aa (gu aa) (QY F hk I (fun e=>absurd e J)) (fun r _ A=>?_)))))))
 obtain⟨Y,rfl,dr⟩:=A
 exact ak 1 aa (ay (bt aa aa ⟨_,aa,dr.mono aq⟩))
theorem YN{T:bd}(F:FT T){U Z Y I K a5 a6 a7:Nat}(h0:U<65536)(h1:Z<65536)(h2:Y<65536)(h3:I<65536)(h4:K<65536)(h5:a5<65536)(h6:a6<65536)(h7:a7<65536):Sound T 10 [.agg [u16 U,u16 Z,u16 Y,u16 I,u16 K,u16 a5,u16 a6,u16 a7]] fun r=>∃d,r= .d d∧gK 1000000 d:=by
 refine dG F.f10 aa (an 2 aa (ai (aj (eg aa (k:=.i64) (j:=1) aa aq ?_))))
 refine ae 1 aa (aj (gQ (b:=2) aa aa aq ?_))
 refine aj (fG aa (gu aa) (XT F _) (fun r _ z=>?_))
 obtain⟨R6,rfl,A⟩:=z
 refine ak 1 aa (eO (bG (eg aa (k:=.i64) (j:=2) aa aq ?_)))
 refine bD 1 aa (dy aa (fG aa (gu aa) (Bb F 0 ah) (fun r _ z=>?_)))
 obtain⟨d13,rfl,bQ⟩:=z
 refine bG (dE rfl (eh (n:=11) (by decide+kernel)) rfl bQ aq (fun d14 h14=>?_))
 refine bG (eg aa (k:=.i64) (j:=3) aa aq ?_)
 refine bD 1 aa (dy aa (fG aa (gu aa) (Bb F 1 ah) (fun r _ z=>?_)))
 obtain⟨d17,rfl,qZ⟩:=z
 refine bG (dE rfl (eh (n:=11) (by decide+kernel)) rfl qZ aq (fun RY wx=>?_))
 refine bD 1 aa ?_
 refine bG (dE rfl (eh (n:=16) (by decide+kernel)) rfl A aq (fun d20 rL=>?_))
 refine bG (dE rfl rL rfl (eh (n:=10) (by decide+kernel)) aq (fun d21 xN=>?_))
 refine bD 1 aa (bG (eg aa (k:=.i64) (j:=4) aa aq ?_))
 refine bD 1 aa (bG (gQ (b:=5) aa aa aq ?_))
 obtain⟨KC,e26,q7⟩:=AO.get (n:=65550) (rows:=[[.s 0 0],[d14],[RY],[.s 30 526590661986861801510644282598166674239586235064189487907518737403107104],[d21]]) ⟨(eh (n:=0) (by decide+kernel)).mono aq,h14,wx,(eh (n:=30) (by decide+kernel)).mono aq,xN.mono aq,trivial⟩ (K % 5) (eI _ aq)
 refine bG (mU aa aa (eI _ aq) ?_)
 refine dy aa (nh aa aa (bR _) (bR _) (eI _ aq) e26 aa ?_)
 refine du 1 aa (aL (ai (aj (eg aa (k:=.i64) (j:=0) aa aq ?_))))
 refine ae 1 aa (aj (gQ (b:=14) aa aa aq ?_))
 refine aX (bM (ri (fun VE B=>∃tt:Bool,bn [(1,.vp 1 0),(3,.d R6),(4,.d KC),(30,.d (.i .u16 ((U % 14:Nat):Int))),(31,.d (.b tt))] VE∧bn [(1,.one 28 16 [u16 U,u16 Z,u16 Y,u16 I,u16 K,u16 a5,u16 a6,u16 a7])] B) ?_ ?_))
 ·rintro VE B⟨tt,hV,hB⟩
  refine db _ _ hV hB (aK aa (fun G=>?_) (fun G=>?_))
  ·refine eO (bD 1 aa ?_)
   refine bG (dE rfl (eh (n:=12) (by decide+kernel)) rfl A aq (fun d36 uF=>?_))
   refine bG (dE rfl uF rfl (eh (n:=10) (by decide+kernel)) aq (fun d37 uD=>?_))
   refine bG (eg aa (k:=.i64) (j:=2) aa aq ?_)
   refine bD 1 aa (dy aa (fG aa (gu aa) (Bb F 0 ah) (fun r _ z=>?_)))
   obtain⟨d40,rfl,GS⟩:=z
   refine bG (dE aa uD aa GS aq (fun R0 q8=>?_))
   refine bG (dE rfl q8 rfl (eh (n:=3) (by decide+kernel)) aq (fun d42 p8=>?_))
   refine bG (eg aa (k:=.i64) (j:=3) aa aq ?_)
   refine bD 1 aa (dy aa (fG aa (gu aa) (Bb F 1 ah) (fun r _ z=>?_)))
   obtain⟨d45,rfl,h45⟩:=z
   refine bG (dE aa p8 aa h45 aq (fun R1 Kt=>?_))
   refine bG (dE rfl Kt rfl (eh (n:=7) (by decide+kernel)) aq (fun d47 h47=>?_))
   refine bG (eg aa (k:=.i64) (j:=5) aa aq ?_)
   refine bD 1 aa (bG (eg aa (k:=.i64) (j:=6) aa aq ?_))
   refine bD 1 aa (dy aa (fG aa (gu aa) (Ja F _ _) (fun r _ z=>?_)))
   obtain⟨d52,rfl,h52⟩:=z
   refine bG (dE aa h47 aa h52 aq (fun d53 AN=>?_))
   exact du 1 aa (ay (bt aa aa ⟨_,aa,AN.mono aq⟩))
  refine an 2 aa (aK aa (fun Ku=>?_) (fun Ku=>?_))
  ·refine ai (ae 1 aa ?_)
   refine aj (dE rfl (eh (n:=12) (by decide+kernel)) rfl A aq (fun d57 h57=>?_))
   refine aj (dE rfl h57 rfl (eh (n:=16) (by decide+kernel)) aq (fun d58 xP=>?_))
   refine aj (eg aa (k:=.i64) (j:=5) aa aq ?_)
   refine ae 1 aa (aj (eg aa (k:=.i64) (j:=6) aa aq ?_))
   refine ae 1 aa (aj (fG aa (gu aa) (Ja F _ _) (fun r _ z=>?_)))
   obtain⟨d63,rfl,Ks⟩:=z
   refine aj (dE aa xP aa Ks aq (fun d64 Kv=>?_))
   refine ae 1 aa (aj (dE aa Kv aa q7 aq (fun d66 wv=>?_)))
   exact ak 1 aa (ay (bt aa aa ⟨_,aa,wv.mono aq⟩))
  refine ri (fun VE B=>∃tt:Bool,bn [(1,.vp 1 0),(3,.d R6),(4,.d KC),(30,.d (.i .u16 ((U % 14:Nat):Int))),(67,.d (.b tt))] VE∧bn [(1,.one 28 16 [u16 U,u16 Z,u16 Y,u16 I,u16 K,u16 a5,u16 a6,u16 a7])] B) ?_ ?_
  ·rintro VE B⟨tt,hV,hB⟩
   refine db _ _ hV hB (aK aa (fun O=>?_) (fun O=>?_))
   ·refine eO (bD 1 aa ?_)
    refine bG (dE rfl (eh (n:=7) (by decide+kernel)) rfl A aq (fun d71 h71=>?_))
    refine bG (dE rfl h71 rfl (eh (n:=16) (by decide+kernel)) aq (fun R2 xR=>?_))
    refine bG (eg aa (k:=.i64) (j:=5) aa aq ?_)
    refine bD 1 aa (bG (eg aa (k:=.i64) (j:=6) aa aq ?_))
    refine bD 1 aa (dy aa (fG aa (gu aa) (Ja F _ _) (fun r _ z=>?_)))
    obtain⟨R3,rfl,Kw⟩:=z
    refine bG (dE aa xR aa Kw aq (fun d78 rM=>?_))
    refine bG (dE rfl rM rfl (eh (n:=13) (by decide+kernel)) aq (fun R4 Kx=>?_))
    refine bG (eg aa (k:=.i64) (j:=7) aa aq ?_)
    refine bD 1 aa (bG (gQ (b:=6) aa aa aq ?_))
    refine dy aa (fG aa (gu aa) (Bb F 0 ah) (fun r _ z=>?_))
    obtain⟨d83,rfl,Ky⟩:=z
    refine bG (dE aa Kx aa Ky aq (fun R5 xS=>?_))
    refine bD 1 aa (bG (dE aa xS aa q7 aq (fun d86 Kz=>?_)))
    exact du 1 aa (ay (bt aa aa ⟨_,aa,Kz.mono aq⟩))
   refine an 2 aa (aK aa (fun KA=>?_) (fun KA=>?_))
   ·refine ai (ae 1 aa ?_)
    refine aj (dE rfl (eh (n:=12) (by decide+kernel)) rfl A aq (fun d90 KB=>?_))
    refine ae 1 aa (aj (eg aa (k:=.i64) (j:=2) aa aq ?_))
    refine ae 1 aa (aj (gQ (b:=6) aa aa aq ?_))
    obtain⟨d95,e95,h95⟩:=(pF (n:=11) (k:=6) (rows:=[[.s 10 398122899919353801883936],[.s 11 92252891300558837809168672],[.s 11 101966615985418753112555808],[.s 7 27901551994618912],[.s 7 28183026971329568],[.s 7 27620077017908256]]) (by decide+kernel) rfl).2 (Y % 6) (eI _ aq)
    refine aj (mU aa aa (eI _ aq) ?_)
    refine aj (nh aa aa (bR _) (bR _) (eI _ aq) e95 aa ?_)
    refine aj (dE aa KB aa h95 aq (fun d97 p'=>?_))
    exact ak 1 aa (ay (bt aa aa ⟨_,aa,p'.mono aq⟩))
   refine an 2 aa (aK aa (fun Dn=>?_) (fun Dn=>?_))
   ·refine eO (bG (eg aa (k:=.i64) (j:=2) aa aq ?_))
    refine bD 1 aa (bG (eg aa (k:=.i64) (j:=3) aa aq ?_))
    refine bD 1 aa (bG (eg aa (k:=.i64) (j:=4) aa aq ?_))
    refine bD 1 aa (bG (eg aa (k:=.i64) (j:=5) aa aq ?_))
    refine bD 2 aa (dy aa (fG aa (gu aa) (P7 F _ _ _ ah) (fun r _ z=>?_)))
    obtain⟨d109,rfl,ads⟩:=z
    refine bG (dE rfl (eh (n:=5) (by decide+kernel)) rfl ads aq (fun d110 adt=>?_))
    refine bG (dE rfl adt rfl (eh (n:=8) (by decide+kernel)) aq (fun d111 adu=>?_))
    refine bG (eg aa (k:=.i64) (j:=6) aa aq ?_)
    refine bD 1 aa (dy aa (fG aa (gu aa) (OB F _) (fun r _ z=>?_)))
    obtain⟨d114,rfl,adw⟩:=z
    refine bG (dE aa adu aa adw aq (fun d115 adx=>?_))
    exact du 1 aa (ay (bt aa aa ⟨_,aa,adx.mono aq⟩))
   refine an 2 aa (aK aa (fun ady=>?_) (fun ady=>?_))
   ·refine an 1 aa (ay ?_)
    exact bt rfl rfl ⟨_,rfl,(eh (n:=6) (by decide+kernel)).mono aq⟩
   refine an 2 aa (aK aa (fun adz=>?_) (fun adz=>?_))
   ·refine eO (bG (eg aa (k:=.i64) (j:=2) aa aq ?_))
    refine bD 1 aa (bG (gQ (b:=4) aa aa aq ?_))
    refine dy aa (fG aa (gu aa) (Cn F ah) (fun r _ z=>?_))
    obtain⟨d123,rfl,adA⟩:=z
    refine bG (dE rfl (eh (n:=5) (by decide+kernel)) rfl adA aq (fun d124 adB=>?_))
    refine bG (dE rfl adB rfl (eh (n:=6) (by decide+kernel)) aq (fun d125 adC=>?_))
    refine bG (eg aa (k:=.i64) (j:=3) aa aq ?_)
    refine bD 1 aa (bG (gQ (b:=8) aa aa aq ?_))
    refine dy aa (fG aa (gu aa) (Cn F ah) (fun r _ z=>?_))
    obtain⟨d129,rfl,adD⟩:=z
    refine bG (dE aa adC aa adD aq (fun d130 adE=>?_))
    refine bG (dE rfl adE rfl (eh (n:=4) (by decide+kernel)) aq (fun d131 adF=>?_))
    refine bG (eg aa (k:=.i64) (j:=3) aa aq ?_)
    refine bD 1 aa (bG (gQ (b:=8) aa aa aq ?_))
    refine bG (uX aa aa ?_)
    rw[EY (by simp only[bN];omega) (by simp only[bN];omega),show((I % 8:Nat):Int)+Int.ofNat 1=((I % 8+1:Nat):Int) from rfl]
    refine bG (eg aa (k:=.i64) (j:=4) aa aq ?_)
    refine bD 1 aa (bG (gQ (b:=4) aa aa aq ?_))
    refine bG (uX aa aa ?_)
    rw[EY ah ah,show((I % 8+1:Nat):Int)+((K % 4:Nat):Int)=((I % 8+1+K % 4:Nat):Int) from rfl]
    refine dy aa (fG aa (gu aa) (Cn F ah) (fun r _ z=>?_))
    obtain⟨adG,rfl,adH⟩:=z
    refine bD 1 aa (bG (eg aa (k:=.i64) (j:=5) aa aq ?_))
    refine bD 1 aa (bG (gQ (b:=2) aa aa aq ?_))
    obtain⟨d145,adI,adJ⟩:=AO.get (n:=65537) (rows:=[[.s 5 327647776341],[adG]]) ⟨(eh (n:=5) (by decide+kernel)).mono aq,adH,trivial⟩ (a5 % 2) (eI _ aq)
    refine bG (mU aa aa (eI _ aq) ?_)
    refine dy aa (nh aa aa (bR _) (bR _) (eI _ aq) adI aa ?_)
    refine bG (dE aa adF aa adJ aq (fun d147 adK=>?_))
    exact du 1 aa (ay (bt aa aa ⟨_,aa,adK.mono aq⟩))
   refine an 2 aa (aK aa (fun adL=>?_) (fun adL=>?_))
   ·refine eO (bD 1 aa (bG (eg aa (k:=.i64) (j:=2) aa aq ?_)))
    refine bD 1 aa (bG (gQ (b:=2) aa aa aq ?_))
    obtain⟨d154,adM,adN⟩:=(pF (n:=13) (k:=2) (rows:=[[.s 8 2325356322407335250],[.s 13 2562322261628108319918543490886]]) (by decide+kernel) rfl).2 (Y % 2) (eI _ aq)
    refine bG (mU aa aa (eI _ aq) ?_)
    refine dy aa (nh aa aa (bR _) (bR _) (eI _ aq) adM aa ?_)
    refine bG (eg aa (k:=.i64) (j:=3) aa aq ?_)
    refine bD 1 aa (bG (gQ (b:=6) aa aa aq ?_))
    refine dy aa (fG aa (gu aa) (Cn F ah) (fun r _ z=>?_))
    obtain⟨d159,rfl,adO⟩:=z
    refine bG (dE aa adN aa adO aq (fun d160 adP=>?_))
    exact du 1 aa (ay (bt aa aa ⟨_,aa,adP.mono aq⟩))
   refine aQ (ai (ae 1 aa (aj (eg aa (k:=.i64) (j:=1) aa aq ?_))))
   refine ae 1 aa (aj (gQ (b:=5) aa aa aq ?_))
   obtain⟨d165,adQ,adR⟩:=(pF (n:=13) (k:=5) (rows:=[[.s 0 0],[.s 10 152394121867981090472278],[.s 11 39012895198203197866067282],[.s 9 595289538546868965186],[.s 13 2556429914848260055815150260046]]) (by decide+kernel) rfl).2 (Z % 5) (eI _ aq)
   refine aj (mU aa aa (eI _ aq) ?_)
   refine aj (nh aa aa (bR _) (bR _) (eI _ aq) adQ aa ?_)
   refine ak 1 aa (eO (bD 1 aa (bG (eg aa (k:=.i64) (j:=2) aa aq ?_))))
   refine bD 1 aa (bG (eg aa (k:=.i64) (j:=3) aa aq ?_))
   refine bD 1 aa (bG (eg aa (k:=.i64) (j:=4) aa aq ?_))
   refine bD 1 aa (bG (eg aa (k:=.i64) (j:=5) aa aq ?_))
   refine bD 2 aa (dy aa (fG aa (gu aa) (P7 F _ _ _ ah) (fun r _ z=>?_)))
   obtain⟨d177,rfl,adS⟩:=z
   refine bG (dE aa adR aa adS aq (fun d178 adT=>?_))
   refine bG (dE rfl adT rfl (eh (n:=8) (by decide+kernel)) aq (fun d179 adU=>?_))
   refine bG (eg aa (k:=.i64) (j:=6) aa aq ?_)
   refine bD 1 aa (dy aa (fG aa (gu aa) (OB F _) (fun r _ z=>?_)))
   obtain⟨d182,rfl,adW⟩:=z
   refine bG (dE aa adU aa adW aq (fun d183 J=>?_))
   refine du 1 aa (aL (ai (aj (eg aa (k:=.i64) (j:=7) aa aq ?_))))
   refine ae 1 aa (aj (gQ (b:=3) aa aa aq ?_))
   refine ak 1 aa (aK aa (fun adX=>?_) (fun adX=>?_))
   ·refine bC (ae 1 aa ?_)
    refine aj (dE rfl J rfl (eh (n:=7) (by decide+kernel)) aq (fun d189 adY=>?_))
    refine aj (eg aa (k:=.i64) (j:=7) aa aq ?_)
    refine ae 1 aa (aj (Ba (b:=3) aa aa aq (EY ah ah) ?_))
    refine aj (gQ (b:=8) aa aa aq ?_)
    refine aj (fG aa (gu aa) (Cn F ah) (fun r _ z=>?_))
    obtain⟨d194,rfl,adZ⟩:=z
    refine aj (dE aa adY aa adZ aq (fun d195 ad0=>?_))
    exact ak 1 aa (an 2 aa (ay (bt aa aa ⟨_,aa,ad0.mono aq⟩)))
   exact aQ (an 2 aa (ay (bt aa aa ⟨_,aa,J.mono aq⟩)))
  refine an 2 aa (aK aa (fun O=>?_) (fun O=>?_))
  ·exact aQ (⟨_,⟨aa,aa,aa,aa,aa,trivial⟩,aa,trivial⟩)
  exact bC (ak 2 aa (⟨_,⟨aa,aa,aa,aa,aa,trivial⟩,aa,trivial⟩))
 refine an 2 aa (aK aa (fun G=>?_) (fun G=>?_))
 ·exact aQ (⟨_,⟨aa,aa,aa,aa,aa,trivial⟩,aa,trivial⟩)
 refine an 2 aa (aK aa (fun G=>?_) (fun G=>?_))
 ·exact aQ (⟨_,⟨aa,aa,aa,aa,aa,trivial⟩,aa,trivial⟩)
 exact bC (ak 2 aa (⟨_,⟨aa,aa,aa,aa,aa,trivial⟩,aa,trivial⟩))
def ry:DC→DC→DC
 |.s l v,.s m u=>.s (l+m) (vd l v u)
 |_,_=>.nil
theorem uT{n m:Nat}{a b:DC}(z:gK n a)(h2:gK m b):gK (n+m) (ry a b):=by
 obtain⟨s,rfl,z⟩:=z
 obtain⟨t,rfl,h2⟩:=h2
 refine⟨s++t,?_,by rw[bE];omega⟩
 show DC.s (s.length+t.length) (vd s.length (pack s) (pack t))=DC.s (s++t).length (pack (s++t))
 rw[Dx,bE]
theorem wY{T:bd}{VE:cj}{B:bw}{Q:VV→bw→Prop}{x y:aI}{n m:Nat}{a b:DC}(A:x.vv VE=some (.d a))(z:gK n a)(G:y.vv VE=some (.d b))(h2:gK m b)(I:n+m≤4611686018427387904)(J:Q (.d (ry a b)) B):VI T (.bin .add x y) VE B [] Q:=by
 obtain⟨s,rfl,z⟩:=z
 obtain⟨t,rfl,h2⟩:=h2
 refine yq A G ah ?_
 rwa [show cl (s++t)=ry (cl s) (cl t) by
  show DC.s (s++t).length (pack (s++t))=DC.s (s.length+t.length) (vd s.length (pack s) (pack t))
  rw[Dx,bE]]
def l0:DC:=.s 33 4762098694260844312899544135201672811458069421984930500452468593127149153899075
def l1:DC:=.s 33 4762098694260844312899544135201672811458069422005212910056120263551096405185091
theorem Vx{T:bd}(F:FT T){I J K Y O Z U a7:Nat}(h0:I<65536)(h1:J<65536)(h2:K<65536)(h3:Y<65536)(h4:O<65536)(h5:Z<65536)(h6:U<65536)(h7:a7<65536):∃d,gK 1000 d∧Sound T 11 [.agg [u16 I,u16 J,u16 K,u16 Y,u16 O,u16 Z,u16 U,u16 a7]] fun r=>r= .d d:=by
 have R7:=(eh (n:=33) (by decide+kernel):gK 33 l0)
 have R8:=(eh (n:=33) (by decide+kernel):gK 33 l1)
 have hR:=(eh (n:=28) (by decide+kernel):gK 28 (.s 28 4331124069710868542585898157818694994448056468602567586838510653984))
 obtain⟨p0,ep0,R9⟩:=(pF (n:=14) (k:=3) (rows:=[[.s 0 0],[.s 10 194214320245954494941984],[.s 14 834144153890135336076788072008480]]) (by decide+kernel) rfl).2 (I % 3) (eI _ aq)
 obtain⟨p1,ep1,R'⟩:=(pF (n:=14) (k:=3) (rows:=[[.s 0 0],[.s 10 194214320245954494941984],[.s 14 834144153890135336076788072008480]]) (by decide+kernel) rfl).2 (O % 3) (eI _ aq)
 obtain⟨q0,eq0,q6⟩:=(pF (n:=20) (k:=4) (rows:=[[.s 0 0],[.s 0 0],[.s 12 12728034414005346737314549280],[.s 20 234790793401841609663750874517889047941377642016]]) (by decide+kernel) rfl).2 (K % 4) (eI _ aq)
 obtain⟨q1,eq1,Sa⟩:=(pF (n:=20) (k:=4) (rows:=[[.s 0 0],[.s 0 0],[.s 12 12728034414005346737314549280],[.s 20 234790793401841609663750874517889047941377642016]]) (by decide+kernel) rfl).2 (U % 4) (eI _ aq)
 obtain⟨m0,km0,mP⟩:∃m,ry l0 p0=m∧gK 47 m:=⟨_,rfl,uT R7 R9⟩
 obtain⟨m1,km1,z⟩:∃m,ry l1 p1=m∧gK 47 m:=⟨_,rfl,uT R8 R'⟩
 obtain⟨f1,kf,hf⟩:∃m,(if J % 4=0 then ry m1 (.s 28 4331124069710868542585898157818694994448056468602567586838510653984) else m1)=m∧gK 75 m:=⟨_,rfl,by split;exact uT z hR;exact z.mono aq⟩
 obtain⟨n0,kn0,A⟩:∃m,ry m0 q0=m∧gK 67 m:=⟨_,rfl,uT mP q6⟩
 obtain⟨n1,kn1,Sb⟩:∃m,ry f1 q1=m∧gK 95 m:=⟨_,rfl,uT hf Sa⟩
 have hS:=(eh (n:=3) (by decide+kernel):gK 3 (.s 3 2112288))
 refine⟨ry (ry n0 (.s 3 2112288)) n1,(uT (uT A hS) Sb).mono aq,?_⟩
 refine dG F.f11 aa (an 2 aa (an 3 aa (aL (an 1 aa (bM (d7 (fun k VE B=>∃(j:Nat)(e0 e1:DC),(j=0∧l0=e0∧l1=e1∨j=1∧m0=e0∧l1=e1∨j=2∧m0=e0∧m1=e1)∧k=2-j∧bn [(1,.vp 1 0),(3,.vp 3 0),(4,.d (.i .i64 (j:Nat)))] VE∧bn [(1,.one 28 16 [u16 I,u16 J,u16 K,u16 Y,u16 O,u16 Z,u16 U,u16 a7]),(3,.one 74 32 [.d e0,.d e1])] B) ?_ (k:=2) ⟨0,_,_,.inl ⟨aa,aa,aa⟩,aa,⟨aa,aa,aa,trivial⟩,aa,aa,trivial⟩))))))
 rintro _ VE B⟨j,e0,e1,hj,rfl,hV,hB⟩
 refine db _ _ hV hB (aL (ai ?_))
 rcases hj with⟨rfl,rfl,rfl⟩|⟨rfl,rfl,rfl⟩|⟨rfl,rfl,rfl⟩
 ·refine ak 2 aa (eW aa aa (aQ (aL (bM (im (bD 2 aa (bG (eg aa (k:=.i64) (j:=0) aa aq ?_))))))))
  refine bD 3 aa (bG (qp aa aa aq aq ?_))
  refine bG (eg aa (k:=.i64) (j:=0) aa aq ?_)
  refine bD 1 aa (bG (gQ (b:=3) aa aa aq ?_))
  refine bG (mU aa aa (eI _ aq) ?_)
  refine dy aa (nh aa aa (bR _) (bR _) (eI _ aq) ep0 aa ?_)
  refine bG (wY aa R7 aa R9 aq ?_)
  rw[km0]
  refine bG (eg aa (k:=.i64) (j:=0) aa aq ?_)
  refine du 1 aa (bC (ae 1 aa (aj (cM aa aa aq ?_))))
  exact ak 1 aa (⟨1,aq,1,_,_,.inr (.inl ⟨aa,aa,aa⟩),aa,⟨aa,aa,aa,trivial⟩,aa,aa,trivial⟩)
 ·refine ak 2 aa (eW aa aa (aQ (aL (bM (im (bD 2 aa (bG (eg aa (k:=.i64) (j:=1) aa aq ?_))))))))
  refine bD 3 aa (bG (qp aa aa aq aq ?_))
  refine bG (eg aa (k:=.i64) (j:=4) aa aq ?_)
  refine bD 1 aa (bG (gQ (b:=3) aa aa aq ?_))
  refine bG (mU aa aa (eI _ aq) ?_)
  refine dy aa (nh aa aa (bR _) (bR _) (eI _ aq) ep1 aa ?_)
  refine bG (wY aa R8 aa R' aq ?_)
  rw[km1]
  refine bG (eg aa (k:=.i64) (j:=1) aa aq ?_)
  refine du 1 aa (bC (ae 1 aa (aj (cM aa aa aq ?_))))
  exact ak 1 aa (⟨0,aq,2,_,_,.inr (.inr ⟨aa,aa,aa⟩),aa,⟨aa,aa,aa,trivial⟩,aa,aa,trivial⟩)
 refine ak 2 aa (ef aa aa (dJ (ri (fun VE B=>bn [(1,.vp 1 0),(3,.vp 3 0)] VE∧bn [(1,.one 28 16 [u16 I,u16 J,u16 K,u16 Y,u16 O,u16 Z,u16 U,u16 a7]),(3,.one 74 32 [.d m0,.d f1])] B) ?_ ?_)))
 ·rintro VE B⟨hV,hB⟩
  refine db _ _ hV hB (aL (an 1 aa (bM (d7 (fun k VE B=>∃(j:Nat)(e0 e1:DC),(j=0∧m0=e0∧f1=e1∨j=1∧n0=e0∧f1=e1∨j=2∧n0=e0∧n1=e1)∧k=2-j∧bn [(1,.vp 1 0),(3,.vp 3 0),(5,.d (.i .i64 (j:Nat)))] VE∧bn [(1,.one 28 16 [u16 I,u16 J,u16 K,u16 Y,u16 O,u16 Z,u16 U,u16 a7]),(3,.one 74 32 [.d e0,.d e1])] B) ?_ (k:=2) ⟨0,_,_,.inl ⟨aa,aa,aa⟩,aa,⟨aa,aa,aa,trivial⟩,aa,aa,trivial⟩))))
  rintro _ VE B⟨j,e0,e1,hj,rfl,hV,hB⟩
  refine db _ _ hV hB (aL (ai ?_))
  rcases hj with⟨rfl,rfl,rfl⟩|⟨rfl,rfl,rfl⟩|⟨rfl,rfl,rfl⟩
  ·refine ak 2 aa (eW aa aa (aQ (aL (bM (im (bD 2 aa (bG (eg aa (k:=.i64) (j:=0) aa aq ?_))))))))
   refine bD 3 aa (bG (qp aa aa aq aq ?_))
   refine bG (jj aa aa aq aq ?_)
   refine bG (eg aa (k:=.i64) (j:=2) aa aq ?_)
   refine bD 1 aa (bG (gQ (b:=4) aa aa aq ?_))
   refine bG (mU aa aa (eI _ aq) ?_)
   refine dy aa (nh aa aa (bR _) (bR _) (eI _ aq) eq0 aa ?_)
   refine bG (wY aa mP aa q6 aq ?_)
   rw[kn0]
   refine bG (eg aa (k:=.i64) (j:=0) aa aq ?_)
   refine du 1 aa (bC (ae 1 aa (aj (cM aa aa aq ?_))))
   exact ak 1 aa (⟨1,aq,1,_,_,.inr (.inl ⟨aa,aa,aa⟩),aa,⟨aa,aa,aa,trivial⟩,aa,aa,trivial⟩)
  ·refine ak 2 aa (eW aa aa (aQ (aL (bM (im (bD 2 aa (bG (eg aa (k:=.i64) (j:=1) aa aq ?_))))))))
   refine bD 3 aa (bG (qp aa aa aq aq ?_))
   refine bG (jj aa aa aq aq ?_)
   refine bG (eg aa (k:=.i64) (j:=6) aa aq ?_)
   refine bD 1 aa (bG (gQ (b:=4) aa aa aq ?_))
   refine bG (mU aa aa (eI _ aq) ?_)
   refine dy aa (nh aa aa (bR _) (bR _) (eI _ aq) eq1 aa ?_)
   refine bG (wY aa hf aa Sa aq ?_)
   rw[kn1]
   refine bG (eg aa (k:=.i64) (j:=1) aa aq ?_)
   refine du 1 aa (bC (ae 1 aa (aj (cM aa aa aq ?_))))
   exact ak 1 aa (⟨0,aq,2,_,_,.inr (.inr ⟨aa,aa,aa⟩),aa,⟨aa,aa,aa,trivial⟩,aa,aa,trivial⟩)
  refine ak 2 aa (ef aa aa (dJ (ai (aj (eg aa (k:=.i64) (j:=0) aa aq ?_)))))
  refine ae 1 aa (aj (wY aa A aa hS aq ?_))
  refine aj (eg aa (k:=.i64) (j:=1) aa aq ?_)
  refine ae 1 aa (aj (wY aa (uT A hS) aa Sb aq ?_))
  exact ak 1 aa (ay (bt aa aa aa))
 refine ai (aj (eg aa (k:=.i64) (j:=1) aa aq ?_))
 refine ae 1 aa (aj (gQ (b:=4) aa aa aq ?_))
 refine ak 1 aa (aK aa (fun G=>?_) (fun G=>?_))
 ·refine bC (aj (eg aa (k:=.i64) (j:=1) aa aq ?_))
  refine ae 1 aa (aj (wY aa z aa hR aq ?_))
  rw[show ry m1 (.s 28 4331124069710868542585898157818694994448056468602567586838510653984)=f1 by rw[←kf,az (by(simp at G;omega))]]
  refine aj (eg aa (k:=.i64) (j:=1) aa aq ?_)
  exact ak 1 aa (⟨⟨aa,aa,trivial⟩,aa,aa,trivial⟩)
 refine aQ ?_
 exact⟨⟨rfl,rfl,trivial⟩,rfl,by rw[←kf,al (by(simp at G;omega))];rfl,trivial⟩
theorem lawT{T:bd}(F:FT T)(X:FX T)(hA:Sound T 6 [] fun r=>r= .d (.b true)){I J K O U Y Z a7:Nat}(h0:I<65536)(h1:J<65536)(h2:K<65536)(h3:O<65536)(h4:U<65536)(h5:Y<65536)(h6:Z<65536)(h7:a7<65536)(o:Option (List (Nat×Nat)))(ho:∀p∈mM o,p.1<65536∧p.2<65536):Sound T 4 [.agg [u16 I,u16 J,u16 K,u16 O,u16 U,u16 Y,u16 Z,u16 a7],.d (rn Dt o)] fun r=>r= .d (.b true):=by
 refine dG F.f4 aa ?_
 obtain⟨_,⟨s,rfl,hs⟩,hC⟩:=Vx F h0 h1 h2 h3 h4 h5 h6 h7
 refine an 2 aa (eO (dy aa (cJ hA aa aa ?_)))
 refine bD 1 aa (iR aa aa aa (oi aa aa (b0 aa) (b0 aa) ?_))
 refine iR aa aa aa (fG aa (gu aa) (YN F h0 h1 h2 h3 h4 h5 h6 h7) (fun r _ z=>?_))
 obtain⟨_,rfl,s8,rfl,_⟩:=z
 refine ey aa aa (bY aa ?_)
 refine iR aa aa aa (fG aa (gu aa) (NZ F s8 o ho) (fun r _ z=>?_))
 obtain⟨A,rfl⟩:=z
 refine iR aa aa aa (cJ (NY F X A) aa aa ?_)
 refine bD 2 aa (iR aa aa aa (oi aa aa (b0 aa) (b0 aa) ?_))
 refine iR aa aa aa (cJ (hC) aa aa ?_)
 refine iR aa aa aa (oi aa aa (b0 aa) (b0 aa) ?_)
 refine iR aa aa aa (cJ (hC) aa aa ?_)
 refine ey aa aa (uM aa ?_)
 refine ey aa aa (Ba (b:=2) aa aa aq (wrap_i64 ah ah) ?_)
 refine ey aa aa (ko (l:=0) (h:=s.length/2) aa ⟨_,aa⟩ aa ah ah ?_)
 refine ey aa aa (bY aa ?_)
 refine iR aa aa aa (fG aa (gu aa) (NZ F _ o ho) (fun r _ z=>?_))
 obtain⟨G,rfl⟩:=z
 refine iR aa aa aa (cJ (NY F X G) aa aa ?_)
 exact du 2 aa (ay (bt aa aa aa))
theorem fits_oct{r:List DC}(h:jF [.i .u16,.i .u16,.i .u16,.i .u16,.i .u16,.i .u16,.i .u16,.i .u16] r):∃a b c d e f g k:Nat,r=[.i .u16 a,.i .u16 b,.i .u16 c,.i .u16 d,.i .u16 e,.i .u16 f,.i .u16 g,.i .u16 k]∧a<65536∧b<65536∧c<65536∧d<65536∧e<65536∧f<65536∧g<65536∧k<65536:=by
 obtain⟨a,_,rfl,z,h⟩:=r8 h
 obtain⟨b,_,rfl,A,h⟩:=r8 h
 obtain⟨c,_,rfl,G,h⟩:=r8 h
 obtain⟨d,_,rfl,I,h⟩:=r8 h
 obtain⟨e,_,rfl,he,h⟩:=r8 h
 obtain⟨f,_,rfl,J,h⟩:=r8 h
 obtain⟨g,_,rfl,K,h⟩:=r8 h
 obtain⟨k,_,rfl,hk,h⟩:=r8 h
 obtain rfl:=IB h
 obtain⟨a,rfl,O⟩:=sJ z
 obtain⟨b,rfl,U⟩:=sJ A
 obtain⟨c,rfl,Y⟩:=sJ G
 obtain⟨d,rfl,Z⟩:=sJ I
 obtain⟨e,rfl,ke⟩:=sJ he
 obtain⟨f,rfl,kf⟩:=sJ J
 obtain⟨g,rfl,kg⟩:=sJ K
 obtain⟨k,rfl,kk⟩:=sJ hk
 exact⟨a,b,c,d,e,f,g,k,aa,O,U,Y,Z,ke,kf,kg,kk⟩
end Go.Ev.Pp
