/- Part 44 of rules for walks through the code of a program, and of such walks; what each part proves is said by its theorems. -/
import Derived.Test.YtdaamclhcpjdpaaGreatDoorT17
import Derived.Test.YtdaamclhcpjdpaaGreatDoorT18
import Derived.Test.YtdaamclhcpjdpaaGreatDoorT20
set_option linter.unusedVariables false
set_option linter.unusedSimpArgs false
noncomputable section
set_option maxRecDepth 100000
set_option maxHeartbeats 4000000
namespace Go.Ev
open Go
mutual
def kN(δ:Nat):ak→ak
 |.slice f g o l es=>.slice (f+δ) g o l es
 |.agg cs=>.agg (qs δ cs)
 |.tuple cs=>.tuple (qs δ cs)
 |x=>x
def qs(δ:Nat):List ak→List ak
 |[]=>[]
 |x::r=>kN δ x::qs δ r
end
mutual
def hU(S:Nat→Bool):ak→Bool
 |.bool _=>true
 |.int _ _=>true
 |.str _ _=>true
 |.fL=>true
 |.slice f _ _ _ _=>S f
 |.agg cs=>qJ S cs
 |.tuple cs=>qJ S cs
 |_=>false
def qJ(S:Nat→Bool):List ak→Bool
 |[]=>true
 |x::r=>hU S x&&qJ S r
end
theorem Z'{S:Nat→Bool}{δ:Nat}{a:ak}(z:hU S a=true)(h:eI a=true):eI (kN δ a)=true:=by
 cases a<;>first|exact h|(simp[hU] at z)|(simp only[kN];exact h)
theorem CS{δ:Nat}:∀l:List ak,qs δ l=l.map (kN δ)
 |[]=>rfl
 |x::r=>by simp only[qs,jz,CS r]
theorem QM{S:Nat→Bool}:∀{l:List ak},qJ S l=true→∀{i:Nat}{x:ak},l[i]?=some x→hU S x=true
 |y::r,h,i,x,z=>by
  simp only[qJ,cU] at h
  cases i with
  |zero=>simp at z;subst z;exact h.1
  |succ i=>exact QM h.2 (by simpa using z)
mutual
theorem TG{S:Nat→Bool}{δ:Nat}{ρ0 ρ':Ho}(A:∀f g h,S f=true→ρ0 f g=some h→ρ' (f+δ) g=some h):∀{a:ak}{v:Value},hU S a=true→VR ρ0 a v→VR ρ' (kN δ a) v
 |.bool _,_,_,h=>by simpa[VR,kN] using h
 |.int _ _,_,_,h=>by simpa[VR,kN] using h
 |.str _ _,_,_,h=>by simpa[VR,kN] using h
 |.fL,_,_,h=>by simpa[VR,kN] using h
 |.slice f g o l es,_,z,h=>by
  simp only[VR,kN,hU] at h z⊢;obtain⟨x,a,c,G,e⟩:=h;exact⟨x,a,c,A _ _ _ z G,e⟩
 |.agg cs,_,z,h=>by
  simp only[VR,kN,hU] at h z⊢;obtain⟨vs,e,I,h2⟩:=h;refine⟨vs,e,RL A z I,?_⟩;rw[CS,List.all_map,tz];intro x G;obtain⟨i,hi⟩:=List.mem_iff_getElem?.1 G;exact Z' (QM z hi) ((List.all_eq_true.1 h2) x G)
 |.tuple cs,_,z,h=>by
  simp only[VR,kN,hU] at h z⊢;obtain⟨vs,e,I⟩:=h;exact⟨vs,e,RL A z I⟩
 |.ptr _ _ _,_,z,_=>by simp[hU] at z
 |.kj,_,z,_=>by simp[hU] at z
 |.func _ _ _,_,z,_=>by simp[hU] at z
 |.mO,_,z,_=>by simp[hU] at z
 |.iface _ _,_,z,_=>by simp[hU] at z
 |.ke,_,z,_=>by simp[hU] at z
 |.map _,_,z,_=>by simp[hU] at z
 |.uR,_,z,_=>by simp[hU] at z
 |.undef,_,z,_=>by simp[hU] at z
theorem RL{S:Nat→Bool}{δ:Nat}{ρ0 ρ':Ho}(z:∀f g h,S f=true→ρ0 f g=some h→ρ' (f+δ) g=some h):∀{l:List ak}{vs:List Value},qJ S l=true→bQ ρ0 l vs→bQ ρ' (qs δ l) vs
 |[],_,_,h=>by simpa[bQ,qs] using h
 |x::r,_,A,h=>by
  simp only[bQ,qs,qJ,cU] at h A⊢;obtain⟨v,t,e,G,h2⟩:=h;exact⟨v,t,e,TG z A.1 G,RL z A.2 h2⟩
end
def Cl(δ:Nat):cV→cV
 |.row elem es aE n lo fl cs=>.row elem es aE n lo fl (gb ((List.range n).map fun i=>qs δ ((cs.get i).getD [])) .emp 0)
 |o=>o
def E0(S:Nat→Bool):cV→Bool
 |.row _ _ _ n _ _ cs=>(List.range n).all fun i=>match cs.get i with
  |some l=>qJ S l
  |none=>false
 |_=>false
theorem aaX{S:Nat→Bool}{δ elem es aE n lo fl:Nat}{cs:RT}(G:E0 S (.row elem es aE n lo fl cs)=true):∃z,Cl δ (.row elem es aE n lo fl cs)= .row elem es aE n lo fl z∧∀i,i<n→∃l,cs.get i=some l∧qJ S l=true∧z.get i=some (qs δ l):=by
 refine⟨_,rfl,fun i hi=>?_⟩;simp only[E0,tz] at G;have h:=G i (List.mem_range.2 hi)
 cases A:cs.get i with
 |none=>rw[A] at h;cases h
 |some l=>
  rw[A] at h;refine⟨l,rfl,h,?_⟩;rw[sG,bj ⟨gX _,by simp;exact hi⟩];simp[hi,A]
theorem ObjAt_rel{S:Nat→Bool}{δ:Nat}{ρ0 ρ':Ho}{w:World}{h:Hm}{g:Nat}{o:cV}(G:∀f g h,S f=true→ρ0 f g=some h→ρ' (f+δ) g=some h)(I:E0 S o=true)(k:Bh ρ0 w h g o):Bh ρ' w h g (Cl δ o):=by
 cases o with
 |map es=>simp[E0] at I
 |row elem es aE n lo fl cs=>
  obtain⟨O,e,U⟩:=aaX (δ:=δ) I;rw[e];obtain⟨Y,Z,k3,k4⟩:=k;refine⟨Y,Z,k3,fun a b=>?_⟩;have r:=k4 a b;refine⟨r.row,r.fits,fun i hi=>?_,r.DQ,r.Bg,r.tT,r.Cp⟩;obtain⟨l,h1,h2,h3⟩:=r.cell i hi;obtain⟨l',L,j2,j3⟩:=U i aq;rw[h1] at L;cases L;refine⟨_,j3,by rw[CS,n6];exact h2,fun j x z=>?_⟩;rw[CS,yA] at z
  cases A:l[j]?with
  |none=>rw[A] at z;cases z
  |some y=>
   rw[A] at z;simp only[rK,eA] at z;subst z;obtain⟨o1,cv,o2,o3⟩:=h3 j y A;have M:=QM j2 A;exact⟨Z' M o1,cv,o2,TG G M o3⟩
def qK(S:Nat→Bool)(δ:Nat)(t0:HT):Nat→HT→HT
 |0,t=>t
 |k+1,t=>match S k,t0.get k with
  |true,some o=>(qK S δ t0 k t).set (k+δ) (Cl δ o)
  |_,_=>qK S δ t0 k t
theorem aaY{S:Nat→Bool}{δ:Nat}{t0:HT}:∀(k:Nat)(t:HT)(f:Nat),(qK S δ t0 k t).get f=if δ≤f∧f<k+δ∧S (f-δ)=true∧(t0.get (f-δ)).isSome=true then(t0.get (f-δ)).map (Cl δ) else t.get f
 |0,t,f=>by rw[aZ aq];rfl
 |k+1,t,f=>by
  have z:=aaY (S:=S) (δ:=δ) (t0:=t0) k t f
  by_cases e:f=k+δ
  ·subst e;rw[show k+δ-δ=k by omega] at z⊢;have A:¬(δ≤k+δ∧k+δ<k+δ∧S k=true∧(t0.get k).isSome=true):=by omega
   rw[aZ A] at z;unfold qK
   cases I:S k
   ·rw[aZ (by simp)];exact z
   cases ho:t0.get k with
   |none=>rw[aZ (by simp)];exact z
   |some o=>
    rw[bj ⟨aq,aq,rfl,rfl⟩];show((qK S δ t0 k t).set (k+δ) (Cl δ o)).get (k+δ)=_;rw[GT.dn,bj rfl];rfl
  have G:(qK S δ t0 (k+1) t).get f=(qK S δ t0 k t).get f:=by
   rw[show qK S δ t0 (k+1) t=(match S k,t0.get k with
    |true,some o=>(qK S δ t0 k t).set (k+δ) (Cl δ o)
    |_,_=>qK S δ t0 k t) from rfl]
   split
   ·rw[GT.dn,aZ e]
   rfl
  rw[G,z]
  by_cases c:δ≤f∧f<k+δ∧S (f-δ)=true∧(t0.get (f-δ)).isSome=true
  ·rw[bj c,bj ⟨c.1,aq,c.2.2⟩]
  rw[aZ c,aZ (fun d=>c ⟨d.1,aq,d.2.2⟩)]
def Cm(S:Nat→Bool)(H1:ay):Prop:=∀f,S f=true→f<H1.next∧∃o,H1.t.get f=some o∧E0 S o=true
def nZ(S:Nat→Bool)(H1 H:ay):ay:=⟨H.next+H1.next,H.aQ,H.ws,qK S H.next H1.t H1.next H.t⟩
theorem An{S:Nat→Bool}{H1 H:ay}(z:Cm S H1)(f:Nat):(nZ S H1 H).t.get f=if H.next≤f∧S (f-H.next)=true then(H1.t.get (f-H.next)).map (Cl H.next) else H.t.get f:=by
 show(qK S H.next H1.t H1.next H.t).get f=_;rw[aaY]
 by_cases c:H.next≤f∧S (f-H.next)=true
 ·obtain⟨A,o,h2,_⟩:=z _ c.2;rw[bj c,bj ⟨c.1,aq,c.2,by rw[h2];rfl⟩]
 rw[aZ c,aZ (fun d=>c ⟨d.1,d.2.2.1⟩)]
theorem overH_tame{S:Nat→Bool}{H1 H:ay}(z:Cm S H1)(I:H.aQ≤H.next):eH H (nZ S H1 H):=by
 refine⟨MH _ _,rfl,fun _ h=>h,fun f A _=>?_,fun G f A=>?_,fun f A=>?_⟩
 ·rw[An z,aZ (fun c=>by omega)]
 ·rw[An z];have A:H.next+H1.next≤f:=A;rw[aZ (fun c=>by have:=(z _ c.2).1;omega)];exact G f aq
 rw[An z]
 split
 ·rename_i c;obtain⟨_,o,h2,_⟩:=z _ c.2;rw[h2];simp
 exact A
theorem post_over{P:Program}{S:Nat→Bool}{ρ:Ho}{C:Nat→Option cV}{w w':World}{H H1:ay}{n:Nat}{v0:ak}{cv:Value}(hn:P.globals.size≤n)(Z:∀f,S f=true→n≤f)(hS:Cm S H1)(hd:hU S v0=true)(nq:∀x,H.next≤x→H.t.get x=none)(hR:R ρ C w)(hF:fw ρ H.next (nZ S H1 H).next)
  (hp:cQ (Ev.base P) (fun _=>none) w (H0 n) v0 H1 cv w'):cQ ρ C w H (kN H.next v0) (nZ S H1 H) cv w':=by
 have Y:=hp.kept;obtain⟨ρ0,hv,hx,I⟩:=hp
 let ρ':Ho:=fun f g=>if H.next≤f∧f<H.next+H1.next then(if S (f-H.next)=true then ρ0 (f-H.next) g else none) else ρ f g
 have L:∀f g h,S f=true→ρ0 f g=some h→ρ' (f+H.next) g=some h:=fun f g h hs e=>by
  show(if H.next≤f+H.next∧f+H.next<H.next+H1.next then(if S (f+H.next-H.next)=true then ρ0 (f+H.next-H.next) g else none) else ρ (f+H.next) g)=_;have:=(hS f hs).1;rw[bj ⟨aq,aq⟩,show f+H.next-H.next=f by omega,bj hs];exact e
 have z:∀f g h,ρ' f g=some h→(H.next≤f∧f<H.next+H1.next∧S (f-H.next)=true∧ρ0 (f-H.next) g=some h)∨(¬(H.next≤f∧f<H.next+H1.next)∧ρ f g=some h):=fun f g h e=>by
  have e:(if H.next≤f∧f<H.next+H1.next then(if S (f-H.next)=true then ρ0 (f-H.next) g else none) else ρ f g)=some h:=e
  split at e
  ·rename_i c
   split at e
   ·rename_i c2;exact .inl ⟨c.1,c.2,c2,e⟩
   cases e
  rename_i c;exact .inr ⟨c,e⟩
 have hle:ρ.le ρ':=fun f g h e=>by
  show(if H.next≤f∧f<H.next+H1.next then _ else ρ f g)=_;rw[aZ (fun c=>by rw[hF f g c.1 c.2] at e;cases e)];exact e
 have A:∀f g h,S f=true→ρ0 f g=some h→w.heap.size≤h.bz∧h.ro=false:=fun f g h hs e=>by
  rcases hx.bz f g h e with e|e|⟨g0,h0,e,_⟩
  ·obtain⟨k,_⟩:=pO e;have:=Z f hs;omega
  ·exact e
  obtain⟨k,_⟩:=pO e;have:=Z f hs;omega
 have M:=hR.kept Y;refine⟨ρ',TG L hd hv,⟨hle,fun f g h e=>?_,fun f g h e=>?_,fun b O _=>Y.uk b O,Y.size,MH _ _,Y.os,Y.tape,Y.output⟩,⟨fun f o ho g h e=>?_,fun f g h f' g' h' e G fO O=>?_,fun f g h e=>?_,fun f g h g' h' e G O=>?_,fun f g h e hr hpn=>?_⟩⟩
 ·rcases z f g h e with⟨a,b,_,_⟩|⟨_,e⟩
  ·exact .inr ⟨a,b⟩
  exact .inl ⟨g,h,e⟩
 ·rcases z f g h e with⟨a,b,c,e⟩|⟨_,e⟩
  ·exact .inr (.inl (A _ g h c e))
  exact .inl e
 ·rcases z f g h e with⟨a,b,c,e⟩|⟨c,e⟩
  ·unfold ep at ho;rw[bj ⟨a,b⟩,An hS,bj ⟨a,c⟩] at ho;obtain⟨h1,o1,h2,h3⟩:=hS _ c;rw[h2] at ho
   cases ho
   have hup:ep (fun _=>none) (H0 n) H1 (f-H.next)=some o1:=by
    unfold ep
    split
    ·exact h2
    split
    ·rename_i k;rw[h2,show(H0 n).t.get (f-H.next)=none from GT.sL _] at k;cases k
    exact h2
   exact ObjAt_rel L h3 (I.obj _ _ hup g h e)
  have pB:C f=some o:=by
   unfold ep at ho;rw[aZ (show¬(H.next≤f∧f<(nZ S H1 H).next) from c)] at ho;have U:(nZ S H1 H).t.get f=H.t.get f:=by
    rw[An hS,aZ (fun d=>c ⟨d.1,by have:=(hS _ d.2).1;omega⟩)]
   rw[bj U] at ho;exact ho
  exact(M.obj f o pB g h e).gg hle rfl
 ·rcases z f g h e with⟨a,b,c,e⟩|⟨c,e⟩<;>rcases z f' g' h' G with⟨a',b',c',G⟩|⟨c',G⟩
  ·exact I.my _ g h _ g' h' e G aq O
  ·have h1:=(A _ _ _ c e).1;have h2:=hR.gE _ _ _ G;omega
  ·have h1:=(A _ _ _ c' G).1;have h2:=hR.gE _ _ _ e;omega
  exact hR.my f g h f' g' h' e G fO O
 ·rcases z f g h e with⟨a,b,c,e⟩|⟨c,e⟩
  ·exact I.gE _ _ _ e
  exact M.gE _ _ _ e
 ·rcases z f g h e with⟨a,b,c,e⟩|⟨c,e⟩<;>rcases z f g' h' G with⟨a',b',c',G⟩|⟨c',G⟩
  ·exact I.uniq _ _ _ _ _ e G O
  ·exact absurd ⟨a,b⟩ c'
  ·exact absurd ⟨a',b'⟩ c
  exact hR.uniq f g h g' h' e G O
 rcases z f g h e with⟨a,b,c,e⟩|⟨c,e⟩
 ·rw[(A _ _ _ c e).2] at hr;cases hr
 have k:=M.db f g h e hr hpn;refine⟨fun g2 h2 e2=>?_,k.2⟩;rcases z f g2 h2 e2 with⟨a',b',_,_⟩|⟨_,e3⟩
 ·exact absurd ⟨a',b'⟩ c
 exact k.1 g2 h2 e3
def Cn:ak→List Nat
 |.slice f _ _ _ _=>[f]
 |.agg cs=>cs.flatMap fun x=>match x with
  |.slice f _ _ _ _=>[f]
  |_=>[]
 |.tuple cs=>cs.flatMap fun x=>match x with
  |.slice f _ _ _ _=>[f]
  |.agg z=>z.flatMap fun y=>match y with
   |.slice f _ _ _ _=>[f]
   |_=>[]
  |_=>[]
 |_=>[]
def rowsOf(t:HT)(f:Nat):List (List ak):=match t.get f with
 |some (.row _ _ _ n _ _ cs)=>(List.range n).map fun i=>(cs.get i).getD []
 |_=>[]
def reach(t:HT):Nat→List Nat→List Nat
 |0,l=>l
 |m+1,l=>l++reach t m (l.flatMap fun f=>(rowsOf t f).flatMap fun r=>r.flatMap Cn)
def tb(H1:ay)(v:ak)(n:Nat)(L:List Nat):Bool:=hU (fun f=>L.contains f) v&&L.all fun f=>Nat.ble n f&&Nat.blt f H1.next&&(match H1.t.get f with
 |some o=>E0 (fun f=>L.contains f) o
 |none=>false)
theorem QN{H1:ay}{v:ak}{n:Nat}{L:List Nat}(h:tb H1 v n L=true):hU (fun f=>L.contains f) v=true∧(∀f,L.contains f=true→n≤f)∧Cm (fun f=>L.contains f) H1:=by
 simp only[tb,cU,tz] at h;refine⟨h.1,fun f A=>aV (h.2 f (by simpa using A)).1.1,fun f A=>?_⟩;obtain⟨⟨_,h2⟩,z⟩:=h.2 f (by simpa using A);refine⟨by simpa[Nat.blt_eq] using h2,?_⟩
 cases ho:H1.t.get f with
 |none=>rw[ho] at z;cases z
 |some o=>rw[ho] at z;exact⟨o,rfl,z⟩
def told(iB:Tr aR)(iC:Tr Nat)(N n f:Nat)(args:List ak)(H:ay):aC:=
 match args with
 |[.str l s]=>match sa iB iC .leaf N N f [.str l s] (H0 n) with
  |.ok v H1=>bif tb H1 v n (reach H1.t 6 (Cn v)) then .ok (kN H.next v) (nZ (fun f=>(reach H1.t 6 (Cn v)).contains f) H1 H) else .err 95
  |.err e=>.err e
 |_=>.err 95
theorem ac8{iB:Tr aR}{iC:Tr Nat}{N n f:Nat}{args:List ak}{H H':ay}{v:ak}(h:told iB iC N n f args H= .ok v H'):∃l s z H1 L,args=[.str l s]∧sa iB iC .leaf N N f [.str l s] (H0 n)= .ok z H1∧tb H1 z n L=true∧v=kN H.next z∧H'=nZ (fun f=>L.contains f) H1 H:=by
 unfold told at h
 split at h
 ·rename_i l s
  split at h
  ·rename_i z H1 G
   cases A:tb H1 z n (reach H1.t 6 (Cn z)) with
   |false=>rw[A] at h;cases h
   |true=>rw[A] at h;cases h;exact⟨l,s,z,H1,_,rfl,G,A,rfl,rfl⟩
  cases h
 cases h
theorem toldOk{P:Program}(z:P.follows .mixedOrders=true){iB:Tr aR}{iC:Tr Nat}{N n f:Nat}(hT:Gi P iB)(hx:MM P iC)(hn:P.globals.size≤n):RW P f (told iB iC N n f):=by
 refine⟨fun args H hm v H' h=>?_,fun args H v H' ρ C w dV h hm I hR hK hF hG hv=>?_⟩
 ·obtain⟨l,s,A,H1,L,rfl,G,M,rfl,rfl⟩:=ac8 h;exact overH_tame (QN M).2.2 hm
 obtain⟨l,s,A,H1,L,rfl,G,M,rfl,rfl⟩:=ac8 h;obtain⟨k1,k2,k3⟩:=QN M;have O:xV P w:=RZ hR hG;have U:bQ (Ev.base P) [.str l s] dV.toList:=by
  simp only[bQ,VR] at hv⊢;exact hv
 have post:∀{cv w'},cQ (Ev.base P) (fun _=>none) w (H0 n) A H1 cv w'→cQ ρ C w H (kN H.next A) (nZ (fun f=>L.contains f) H1 H) cv w':=fun Y=>post_over hn k2 k3 k1 I hR hF Y
 rcases(LS z hT hx Y7 N).sound f [.str l s] (H0 n) A H1 (Ev.base P) (fun _=>none) w dV G (gX _) afR (Dp O) aal (ZH hn _) PV U with⟨Z,h2⟩|⟨cv,w',Z,h2⟩
 ·exact .inl ⟨Z,Calls.mono h2 fun e w'⟨cv,G,Y⟩=>⟨cv,G,post Y⟩⟩
 exact .inr ⟨cv,w',Z,post h2⟩
mutual
def n5:DC→Bool
 |.sl rows=>!rows.isEmpty&&xQ rows
 |.raw _ _ _=>false
 |_=>true
def xQ:aj→Bool
 |[]=>true
 |r::rs=>kA r&&xQ rs
def kA:List DC→Bool
 |[]=>true
 |d::r=>n5 d&&kA r
end
mutual
def DW(w:World):DC→Value→Prop
 |.i k z,v=>v= .int k z
 |.b x,v=>v= .bool x
 |.s l s,v=>∃b:ByteArray,v= .string b∧l=b.size∧s=pack b.data.toList
 |.nil,v=>v= .slice none 0 0
 |.raw _ _ _,_=>False
 |.sl rows,v=>∃(bz off cap es:Nat),v= .slice (some ⟨bz,off,none⟩) rows.length cap∧rows.length≤cap∧0<es∧(∃c e fz,w.heap[bz]?=some (.cells c e fz)∧off+cap*es≤c.size)∧Co w bz off es 0 rows
def Co(w:World)(bz off es:Nat):Nat→aj→Prop
 |_,[]=>True
 |i,r::rs=>r.length=es∧E3 w bz (off+i*es) r∧Co w bz off es (i+1) rs
def E3(w:World)(bz:Nat):Nat→List DC→Prop
 |_,[]=>True
 |o,d::r=>(∃cv,w.cell? ⟨bz,o,none⟩=some cv∧DW w d cv)∧E3 w bz (o+1) r
end
section
variable{ρ:Ho}{C:Nat→Option cV}{w:World}{H:ay}{X:Nat→Prop}
mutual
theorem ahF(hR:R ρ C w)(hK:gJ ρ C H):∀{d:DC}{a:ak}{v:Value},n5 d=true→bK H X d a→VR ρ a v→DW w d v
 |.i _ _,_,_,_,z,G=>by simp only[bK] at z;subst z;simpa only[VR,DW] using G
 |.b _,_,_,_,z,G=>by simp only[bK] at z;subst z;simpa only[VR,DW] using G
 |.s _ _,_,_,_,z,G=>by simp only[bK] at z;subst z;simpa only[VR,DW] using G
 |.nil,_,_,_,z,G=>by simp only[bK] at z;subst z;simpa only[VR,DW] using G
 |.raw _ _ _,_,_,L,_,_=>by simp[n5] at L
 |.sl rows,a,v,L,z,G=>by
  simp only[n5,cU,hO] at L;have I:rows≠[]:=fun e=>by rw[e] at L;simp at L
  simp only[bK] at z;obtain⟨f,g,off,es,rfl,z⟩:=z;obtain⟨_,_,q,rfl,A⟩:=z.resolve_left I;simp only[VR] at G;obtain⟨h,a',cap,hh,rfl,⟨hl,_⟩,hs⟩:=G;rcases hs with⟨rfl,Y⟩|⟨h0,_⟩
  ·have M:∃elem m aE lo fl cs,H.t.get f=some (.row elem es aE m lo fl cs)∧lo≤g∧g≤m:=by
    cases rows with
    |nil=>exact absurd rfl I
    |cons r rs=>
     simp only[dF] at A;obtain⟨⟨l,⟨elem,aE,m,lo,fl,cs,h1,h2,h3,_,_⟩,h4,_⟩,_⟩:=A;exact⟨elem,m,aE,lo,fl,cs,h4▸h1,h2,h3⟩
   obtain⟨elem,m,aE,lo,fl,cs,ho,Z,Xj⟩:=M;obtain⟨Fm,_,_,O⟩:=hR.obj f _ (hK f _ ⟨g,h,hh⟩ ho) g h hh;have k:=O Z Xj;obtain⟨c,fz,U,kO⟩:=k.row;simp only[DW];refine⟨h.bz,h.off+q*es,cap,es,rfl,hl,Fm,⟨c,elem,fz,U,aq⟩,?_⟩;have:=ac9 hR hK (f:=f) (g:=g) (es:=es) (h:=h) (elem:=elem) (n:=m) (fl:=fl) (cs:=cs) (aE:=aE) (lo:=lo) k ho (q:=q) (i:=0) L.2 (by simpa using A);exact this
  exact absurd (o0 h0) I
theorem ac9(I:R ρ C w)(L:gJ ρ C H){f g es:Nat}{h:Hm}{elem n fl aE lo:Nat}{cs:RT}(k:HW ρ w h g elem es n fl cs)(ho:H.t.get f=some (.row elem es aE n lo fl cs)){q:Nat}:∀{i:Nat}{rows:aj},xQ rows=true→dF H X f g es (q+i) rows→Co w h.bz (h.off+q*es) es i rows
 |_,[],_,_=>trivial
 |i,r::rs,z,M=>by
  simp only[xQ,cU] at z;simp only[dF] at M;obtain⟨⟨l,⟨A,kT,m',Y,kP,Z,G,_,_,h4,h5⟩,h6,O⟩,h8⟩:=M;rw[ho] at G;simp only[eA,cV.row.injEq] at G;obtain⟨rfl,_,rfl,rfl,rfl,rfl,rfl⟩:=G;obtain⟨l',U,j2,j3⟩:=k.cell (q+i) h4;rw[h5] at U;cases U;simp only[Co];refine⟨by rw[←O.length];exact h6,?_,ac9 I L k ho z.2 (by rw[show q+(i+1)=q+i+1 by omega];exact h8)⟩;refine ada I L (l:=l) (o:=h.off+q*es+i*es) z.1 O fun j x hx=>?_
  obtain⟨_,cv,o1,o2⟩:=j3 j x hx;exact⟨cv,by rw[show h.off+q*es+i*es+j=h.off+(q+i)*es+j by rw[kI];omega];exact o1,o2⟩
theorem ada(I:R ρ C w)(L:gJ ρ C H){bz:Nat}:∀{row:List DC}{l:List ak}{o:Nat},kA row=true→bZ H X row l→(∀j x,l[j]?=some x→∃cv,w.cell? ⟨bz,o+j,none⟩=some cv∧VR ρ x cv)→E3 w bz o row
 |[],_,_,_,_,_=>trivial
 |d::r,l,o,z,M,O=>by
  simp only[kA,cU] at z;simp only[bZ] at M;obtain⟨a,s,rfl,U,h2⟩:=M;obtain⟨cv,A,G⟩:=O 0 a rfl;simp only[E3]
  exact⟨⟨cv,by simpa using A,ahF I L z.1 U G⟩,ada I L z.2 h2 fun j x Y=>by
   obtain⟨cv,A,G⟩:=O (j+1) x (by simpa using Y)
   exact⟨cv,by rw[show o+1+j=o+(j+1) by omega];exact A,G⟩⟩
end
end
mutual
def eR(el:Nat→Nat):DC→Nat→HT→Nat×HT×ak
 |.i k z,n,t=>(n,t,.int k z)
 |.b x,n,t=>(n,t,.bool x)
 |.s l s,n,t=>(n,t,.str l s)
 |.nil,n,t=>(n,t,.fL)
 |.raw f m es,n,t=>(n,t,.slice f m 0 m es)
 |.sl rows,n,t=>match kF el rows n t with
  |(n1,t1,ls)=>(n1+1,t1.set n1 (.row (el n1) (rows.headD []).length 0 rows.length rows.length 1 (gb ls .emp 0)),.slice n1 rows.length 0 rows.length (rows.headD []).length)
def kF(el:Nat→Nat):aj→Nat→HT→Nat×HT×List (List ak)
 |[],n,t=>(n,t,[])
 |r::rs,n,t=>match dX el r n t with
  |(n1,t1,l)=>match kF el rs n1 t1 with
   |(z,t2,ls)=>(z,t2,l::ls)
def dX(el:Nat→Nat):List DC→Nat→HT→Nat×HT×List ak
 |[],n,t=>(n,t,[])
 |d::r,n,t=>match eR el d n t with
  |(n1,t1,a)=>match dX el r n1 t1 with
   |(z,t2,l)=>(z,t2,a::l)
end
mutual
theorem LB{el:Nat→Nat}:∀(d:DC)(n:Nat)(t:HT),n≤(eR el d n t).1
 |.i _ _,n,t=>bt _
 |.b _,n,t=>bt _
 |.s _ _,n,t=>bt _
 |.nil,n,t=>bt _
 |.raw _ _ _,n,t=>bt _
 |.sl rows,n,t=>by
  have:=F5 (el:=el) rows n t;simp only[eR];omega
theorem F5{el:Nat→Nat}:∀(rs:aj)(n:Nat)(t:HT),n≤(kF el rs n t).1
 |[],n,t=>bt _
 |r::rs,n,t=>by
  have z:=F6 (el:=el) r n t;have h2:=F5 (el:=el) rs (dX el r n t).1 (dX el r n t).2.1;exact eZ z h2
theorem F6{el:Nat→Nat}:∀(r:List DC)(n:Nat)(t:HT),n≤(dX el r n t).1
 |[],n,t=>bt _
 |d::r,n,t=>by
  have z:=LB (el:=el) d n t;have h2:=F6 (el:=el) r (eR el d n t).1 (eR el d n t).2.1;exact eZ z h2
end
mutual
theorem PZ{el lh:Nat→Nat}:∀(d:DC)(n:Nat)(t:HT),(∀m,n≤m→m<(eR el d n t).1→lh m=el m)→eR lh d n t=eR el d n t
 |.i _ _,n,t,_=>rfl
 |.b _,n,t,_=>rfl
 |.s _ _,n,t,_=>rfl
 |.nil,n,t,_=>rfl
 |.raw _ _ _,n,t,_=>rfl
 |.sl rows,n,t,h=>by
  simp only[eR] at h⊢;have e:=PJ (el:=el) (lh:=lh) rows n t fun m z h2=>h m z aq
  rw[e,h (kF el rows n t).1 (F5 rows n t) aq]
theorem PJ{el lh:Nat→Nat}:∀(rs:aj)(n:Nat)(t:HT),(∀m,n≤m→m<(kF el rs n t).1→lh m=el m)→kF lh rs n t=kF el rs n t
 |[],n,t,_=>rfl
 |r::rs,n,t,h=>by
  simp only[kF] at h⊢;have hle:=F5 (el:=el) rs (dX el r n t).1 (dX el r n t).2.1;have z:=F6 (el:=el) r n t;have e:=PK (el:=el) (lh:=lh) r n t fun m A h2=>h m A (jj h2 hle)
  rw[e];have G:=PJ (el:=el) (lh:=lh) rs (dX el r n t).1 (dX el r n t).2.1 fun m A h2=>h m (eZ z A) h2
  rw[G]
theorem PK{el lh:Nat→Nat}:∀(r:List DC)(n:Nat)(t:HT),(∀m,n≤m→m<(dX el r n t).1→lh m=el m)→dX lh r n t=dX el r n t
 |[],n,t,_=>rfl
 |d::r,n,t,h=>by
  simp only[dX] at h⊢;have hle:=F6 (el:=el) r (eR el d n t).1 (eR el d n t).2.1;have z:=LB (el:=el) d n t;have e:=PZ (el:=el) (lh:=lh) d n t fun m A h2=>h m A (jj h2 hle)
  rw[e];have G:=PK (el:=el) (lh:=lh) r (eR el d n t).1 (eR el d n t).2.1 fun m A h2=>h m (eZ z A) h2
  rw[G]
end
section
variable{P:Program}{w:World}
theorem RS.congr{n:Nat}{ρ:Ho}{t t2:HT}(h:RS P w n ρ t)(e:∀f,t2.get f=t.get f):RS P w n ρ t2:=by
 have:(fun f=>t2.get f)=fun f=>t.get f:=funext e
 exact⟨by rw[this];exact h.r,h.ro,h.gp,fun f z=>by rw[e];exact h.wf f z,h.qz⟩
theorem gf.congr{n n':Nat}{ρ ρ':Ho}{t t' t2:HT}(h:gf n ρ t n' ρ' t')(e:∀f,t2.get f=t'.get f):gf n ρ t n' ρ' t2:=⟨h.le,h.ho,fun f z=>by rw[e];exact h.same f z⟩
def Laid(P:Program)(w:World)(n:Nat)(ρ:Ho)(t:HT)(r:Nat×HT)(K:Ho→Prop):Prop:=∃ρ',gf n ρ t r.1 ρ' r.2∧RS P w r.1 ρ' r.2∧K ρ'
mutual
theorem adb:∀{d:DC}{v:Value}{n:Nat}{ρ:Ho}{t:HT}(z:Nat→Nat),n5 d=true→DW w d v→RS P w n ρ t→∃el,(∀m,m<n→el m=z m)∧Laid P w n ρ t ((eR el d n t).1,(eR el d n t).2.1) fun ρ'=>VR ρ' (eR el d n t).2.2 v∧eI (eR el d n t).2.2=true
 |.i _ _,v,n,ρ,t,z,_,h,M=>⟨z,fun _ _=>rfl,ρ,gf.refl ..,M,by simpa only[DW,VR,eR] using h,rfl⟩
 |.b _,v,n,ρ,t,z,_,h,M=>⟨z,fun _ _=>rfl,ρ,gf.refl ..,M,by simpa only[DW,VR,eR] using h,rfl⟩
 |.s _ _,v,n,ρ,t,z,_,h,M=>⟨z,fun _ _=>rfl,ρ,gf.refl ..,M,by simpa only[DW,VR,eR] using h,rfl⟩
 |.nil,v,n,ρ,t,z,_,h,M=>⟨z,fun _ _=>rfl,ρ,gf.refl ..,M,by simpa only[DW,VR,eR] using h,rfl⟩
 |.raw _ _ _,v,n,ρ,t,z,Z,_,_=>by simp[n5] at Z
 |.sl rows,v,n,ρ,t,z,Z,h,M=>by
  simp only[n5,cU,hO] at Z;have fO:rows≠[]:=fun e=>by rw[e] at Z;simp at Z
  simp only[DW] at h;obtain⟨bz,off,cap,es,rfl,hl,Fm,⟨c,e,fz,O,kO⟩,Y⟩:=h;obtain⟨G,ha,ρ1,k1,k2,k3⟩:=aaZ (i:=0) z Z.2 Y M;have I:(rows.headD []).length=es:=by
   cases rows with
   |nil=>exact absurd rfl fO
   |cons r rs=>simp only[Co] at Y;exact Y.1
  have oA:bz<w.heap.size:=(Array.getElem?_eq_some_iff.1 O).1;generalize hr:kF G rows n t=r at k1 k2 k3;obtain⟨n1,t1,ls⟩:=r
  let el:Nat→Nat:=fun m=>if m=n1 then e else G m
  have CA:n≤n1:=by have:=F5 (el:=G) rows n t;rw[hr] at this;exact this
  have hlr:kF el rows n t=(n1,t1,ls):=by
   rw[←hr];exact PJ rows n t fun m h1 h2=>by rw[hr] at h2;show(if m=n1 then e else G m)=_;rw[aZ (by have h2:m<n1:=h2;omega)]
  obtain⟨L,krow⟩:=k3;have L:ls.length=rows.length:=L
  obtain⟨ρ',t',h1,h2,h3,h4⟩:=RS.push k2 rows.length ⟨bz,off,cap*es,true,false⟩ rfl rfl oA (some (.row e es 0 rows.length rows.length 1 (gb ls .emp 0))) (fun x hx ρ' hle=>by
   cases hx
   refine⟨Fm,fun _=>rfl,bt _,fun _ _=>⟨⟨c,fz,O,kO⟩,iH _ hl,fun i hi=>?_,fun h=>(by cases h),fun h=>absurd rfl h,(fun h=>by rcases h with h|h<;>cases h),(fun h=>by rcases h with h|h<;>cases h)⟩⟩;have hi:i<ls.length:=by rw[L];exact hi
   obtain⟨q1,q2⟩:=krow i ls[i] (dm hi);refine⟨ls[i],?_,q1,fun j x hx=>?_⟩
   ·rw[sG,bj ⟨gX _,aq⟩];exact dm hi
   obtain⟨q3,cv,q4,q5⟩:=q2 j x hx
   exact⟨q3,cv,by simpa using q4,q5.mono hle⟩)
  have A:eR el (.sl rows) n t=(n1+1,t1.set n1 (.row (el n1) (rows.headD []).length 0 rows.length rows.length 1 (gb ls .emp 0)),.slice n1 rows.length 0 rows.length (rows.headD []).length):=by
   simp only[eR,hlr]
  have Fc:el n1=e:=bj rfl;have U:∀f,(t1.set n1 (.row (el n1) (rows.headD []).length 0 rows.length rows.length 1 (gb ls .emp 0))).get f=t'.get f:=fun f=>by
   rw[GT.dn]
   by_cases ef:f=n1
   ·subst ef;rw[bj rfl,Fc,I];exact h4.symm
   rw[aZ ef]
   by_cases lt:f<n1
   ·exact(h1.same f lt).symm
   have a1:t'.get f=none:=h2.wf f (by show n1+1≤f;omega);have a2:t1.get f=none:=k2.wf f (by show n1≤f;omega);rw[a1,a2]
  refine⟨el,fun m hm=>?_,ρ',?_,?_,?_,?_⟩
  ·show(if m=n1 then e else G m)=_;rw[aZ aq];exact ha m hm
  ·rw[A];exact k1.trans (h1.congr U)
  ·rw[A];exact h2.congr U
  ·rw[A];simp only[VR];refine⟨_,_,cap,h3,rfl,⟨hl,by rw[fM,I];exact iH _ hl⟩,.inl ⟨rfl,by rw[I];show 0+cap*es≤cap*es;omega⟩⟩
  rw[A];rfl
theorem aaZ:∀{rows:aj}{bz off es i n:Nat}{ρ:Ho}{t:HT}(G:Nat→Nat),xQ rows=true→Co w bz off es i rows→RS P w n ρ t→∃el,(∀m,m<n→el m=G m)∧Laid P w n ρ t ((kF el rows n t).1,(kF el rows n t).2.1) fun ρ'=>(kF el rows n t).2.2.length=rows.length∧∀k l,(kF el rows n t).2.2[k]?=some l→l.length=es∧∀(j:Nat)x,l[j]?=some x→eI x=true∧∃cv,w.cell? ⟨bz,off+(i+k)*es+j,none⟩=some cv∧VR ρ' x cv
 |[],bz,off,es,i,n,ρ,t,G,_,_,M=>⟨G,fun _ _=>rfl,ρ,gf.refl ..,M,rfl,fun k l h=>by simp[kF] at h⟩
 |r::rs,bz,off,es,i,n,ρ,t,G,O,h,M=>by
  simp only[xQ,cU] at O;simp only[Co] at h;obtain⟨z,a1,ρ1,b1,c1,d1,e1⟩:=aa0 G O.1 h.2.1 M;obtain⟨A,a2,U,b2,c2,d2,e2⟩:=aaZ z O.2 h.2.2 c1;have hc:dX A r n t=dX z r n t:=PK r n t fun m _ h2=>a2 m h2
  have I:kF A (r::rs) n t=((kF A rs (dX z r n t).1 (dX z r n t).2.1).1,(kF A rs (dX z r n t).1 (dX z r n t).2.1).2.1,(dX z r n t).2.2::(kF A rs (dX z r n t).1 (dX z r n t).2.1).2.2):=by
   rw[←hc];rfl
  have hle:=F6 (el:=z) r n t;refine⟨A,fun m hm=>by rw[a2 m (jj hm hle)];exact a1 m hm,U,?_,?_,?_,?_⟩
  ·rw[I];exact b1.trans b2
  ·rw[I];exact c2
  ·rw[I];exact congrArg Nat.succ d2
  rw[I];intro k l L
  cases k with
  |zero=>
   simp only[MC,eA] at L;subst L;refine⟨by rw[d1];exact h.1,fun j x Y=>?_⟩;obtain⟨Z,cv,o2,o3⟩:=e1 j x Y;exact⟨Z,cv,by simpa using o2,o3.mono b2.ho⟩
  |succ k=>
   simp only[NK] at L;obtain⟨Z,o2⟩:=e2 k l L;refine⟨Z,fun j x Y=>?_⟩;obtain⟨p1,cv,p2,p3⟩:=o2 j x Y;exact⟨p1,cv,by rw[show i+(k+1)=i+1+k by omega];exact p2,p3⟩
theorem aa0:∀{r:List DC}{bz o n:Nat}{ρ:Ho}{t:HT}(G:Nat→Nat),kA r=true→E3 w bz o r→RS P w n ρ t→∃el,(∀m,m<n→el m=G m)∧Laid P w n ρ t ((dX el r n t).1,(dX el r n t).2.1) fun ρ'=>(dX el r n t).2.2.length=r.length∧∀(j:Nat)x,(dX el r n t).2.2[j]?=some x→eI x=true∧∃cv,w.cell? ⟨bz,o+j,none⟩=some cv∧VR ρ' x cv
 |[],bz,o,n,ρ,t,G,_,_,M=>⟨G,fun _ _=>rfl,ρ,gf.refl ..,M,rfl,fun k l h=>by simp[dX] at h⟩
 |d::r,bz,o,n,ρ,t,G,O,h,M=>by
  simp only[kA,cU] at O;simp only[E3] at h;obtain⟨⟨U,g1,g2⟩,g3⟩:=h;obtain⟨z,a1,ρ1,b1,c1,d1,e1⟩:=adb G O.1 g2 M;obtain⟨A,Z,Y,b2,c2,d2,e2⟩:=aa0 z O.2 g3 c1;have hc:eR A d n t=eR z d n t:=PZ d n t fun m _ h2=>Z m h2
  have I:dX A (d::r) n t=((dX A r (eR z d n t).1 (eR z d n t).2.1).1,(dX A r (eR z d n t).1 (eR z d n t).2.1).2.1,(eR z d n t).2.2::(dX A r (eR z d n t).1 (eR z d n t).2.1).2.2):=by
   rw[←hc];rfl
  have hle:=LB (el:=z) d n t;refine⟨A,fun m hm=>by rw[Z m (jj hm hle)];exact a1 m hm,Y,?_,?_,?_,?_⟩
  ·rw[I];exact b1.trans b2
  ·rw[I];exact c2
  ·rw[I];exact congrArg Nat.succ d2
  rw[I];intro j x L
  cases j with
  |zero=>
   simp only[MC,eA] at L;subst L;exact⟨e1,U,by simpa using g1,d1.mono b2.ho⟩
  |succ j=>
   simp only[NK] at L;obtain⟨p1,cv,p2,p3⟩:=e2 j x L;exact⟨p1,cv,by rw[show o+(j+1)=o+1+j by omega];exact p2,p3⟩
end
def W3(el:Nat→Nat)(z:List DC)(n:Nat):Nat×HT×List ak:=dX el z n .emp
def OR(iB:Tr aR)(iC:Tr Nat)(N n f:Nat)(z:List DC)(l s:Nat):Prop:=∀el:Nat→Nat,match W3 el z n with
 |(n1,t1,A)=>∃H',sa iB iC .leaf N N f [.agg A] (iv n1 t1)= .ok (.str l s) H'
open Classical in
def yv(iB:Tr aR)(iC:Tr Nat)(N n f:Nat)(args:List ak)(H:ay):aC:=
 if h:∃(ls:Nat×Nat)(A:List ak)(z:List DC),args=[.agg A]∧bZ H iO z A∧kA z=true∧OR iB iC N n f z ls.1 ls.2∧al (vL ls.1 ls.2)= .s ls.1 ls.2 then .ok (.str h.choose.1 h.choose.2) H else .err 96
theorem aa1{iB:Tr aR}{iC:Tr Nat}{N n f:Nat}{args:List ak}{H H':ay}{v:ak}(h:yv iB iC N n f args H= .ok v H'):∃l s A z,args=[.agg A]∧bZ H iO z A∧kA z=true∧OR iB iC N n f z l s∧v= .str l s∧H'=H:=by
 unfold yv at h
 split at h
 ·rename_i k
  cases h
  obtain⟨A,z,G,h2,I,L,_⟩:=k.choose_spec;exact⟨_,_,A,z,G,h2,I,L,rfl,rfl⟩
 cases h
theorem ade:∀{I:List DC}{vs:List Value}{n:Nat}{ρ:Ho}{t:HT}(G:Nat→Nat),kA I=true→(vs.length=I.length∧∀(i:Nat)d,I[i]?=some d→∃v,vs[i]?=some v∧DW w d v)→RS P w n ρ t→∃el,(∀m,m<n→el m=G m)∧Laid P w n ρ t ((dX el I n t).1,(dX el I n t).2.1) fun ρ'=>bQ ρ' (dX el I n t).2.2 vs∧(dX el I n t).2.2.all eI=true
 |[],vs,n,ρ,t,G,_,h,O=>by
  have:vs=[]:=o0 h.1;subst this;exact⟨G,fun _ _=>rfl,ρ,gf.refl ..,O,by simp only[dX,bQ],rfl⟩
 |d::r,vs,n,ρ,t,G,U,h,O=>by
  simp only[kA,cU] at U;obtain⟨L,Z⟩:=h
  cases vs with
  |nil=>simp at L
  |cons v vs=>
   obtain⟨v',e0,g2⟩:=Z 0 d rfl;simp only[MC,eA] at e0;subst e0;obtain⟨z,a1,ρ1,b1,c1,d1,e1⟩:=adb G U.1 g2 O;obtain⟨A,a2,Y,b2,c2,d2,e2⟩:=ade (vs:=vs) z U.2 ⟨by simpa using L,fun i d hd=>by simpa using Z (i+1) d (by simpa using hd)⟩ c1;have hc:eR A d n t=eR z d n t:=PZ d n t fun m _ h2=>a2 m h2
   have M:dX A (d::r) n t=((dX A r (eR z d n t).1 (eR z d n t).2.1).1,(dX A r (eR z d n t).1 (eR z d n t).2.1).2.1,(eR z d n t).2.2::(dX A r (eR z d n t).1 (eR z d n t).2.1).2.2):=by
    rw[←hc];rfl
   have hle:=LB (el:=z) d n t;refine⟨A,fun m hm=>by rw[a2 m (jj hm hle)];exact a1 m hm,Y,?_,?_,?_,?_⟩
   ·rw[M];exact b1.trans b2
   ·rw[M];exact c2
   ·rw[M];simp only[bQ];exact⟨v,vs,rfl,d1.mono b2.ho,d2⟩
   rw[M];simp only[IN,e1,Bool.true_and];exact e2
theorem toldOkD{iB:Tr aR}{iC:Tr Nat}{N n f:Nat}(M:P.follows .mixedOrders=true)(hT:Gi P iB)(hx:MM P iC)(hn:P.globals.size≤n):RW P f (yv iB iC N n f):=by
 refine⟨fun args H hm v H' h=>?_,fun args H v H' ρ C w dV h hm nq hR hK hF hG O=>?_⟩
 ·obtain⟨l,s,az,z,_,_,_,_,rfl,rfl⟩:=aa1 h;exact eH.refl _
 obtain⟨l,s,az,z,rfl,hr,hf,U,rfl,rfl⟩:=aa1 h;have oA:xV P w:=RZ hR hG;simp only[bQ] at O;obtain⟨v,tl,e1,O,rfl⟩:=O;simp only[VR] at O;obtain⟨vs,rfl,Y,_⟩:=O;have G:vs.toList.length=z.length∧∀(i:Nat)d,z[i]?=some d→∃v,vs.toList[i]?=some v∧DW w d v:=by
  refine⟨by rw[Y.length,hr.length],fun i d hd=>?_⟩;obtain⟨a,I,h2⟩:=hr.get hd;obtain⟨cv,h3,h4⟩:=Y.get i a I;have hfd:n5 d=true:=by
   have:∀(l:List DC)(i:Nat),kA l=true→l[i]?=some d→n5 d=true:=fun l=>by
    induction l with
    |nil=>intro i _ h;simp at h
    |cons x r ih=>
     intro i h hi;simp only[kA,cU] at h
     cases i with
     |zero=>simp at hi;subst hi;exact h.1
     |succ i=>exact ih i h.2 (by simpa using hi)
   exact this z i hf hd
  exact⟨cv,h3,ahF hR hK hfd h2 h4⟩
 obtain⟨el,_,A,_,Z,k3,k4⟩:=ade (P:=P) (n:=n) (t:=.emp) (fun _=>0) hf G (RS.start hn oA);obtain⟨H1,O8⟩:=U el;have post:∀{cv w'},cQ A (fun f=>(dX el z n .emp).2.1.get f) w (iv (dX el z n .emp).1 (dX el z n .emp).2.1) (.str l s) H1 cv w'→cQ ρ C w H' (.str l s) H' cv w':=fun hp=>by
  have hk:=hp.T8 (fun f g h e=>Z.ro f g h e);obtain⟨_,Xb,_,_⟩:=hp;exact⟨ρ,by simpa only[VR] using Xb,hk.ext _ _ _,by rw[oJ];exact hR.kept hk⟩
 have L:fw A (iv (dX el z n .emp).1 (dX el z n .emp).2.1).next H1.next:=fun f g I _=>by
  cases e:A f g with
  |none=>rfl
  |some h=>have:=Z.gp f g h e;have I:(dX el z n .emp).1≤f:=I;have this:f<(dX el z n .emp).1:=this;omega
 have hv2:bQ A [.agg (dX el z n .emp).2.2] dV.toList:=by
  rw[e1];simp only[bQ,VR];exact⟨_,_,rfl,⟨vs,rfl,k3,k4⟩,rfl⟩
 rcases(LS M hT hx Y7 N).sound f [.agg (dX el z n .emp).2.2] (iv (dX el z n .emp).1 (dX el z n .emp).2.1) (.str l s) H1 A (fun f=>(dX el z n .emp).2.1.get f) w dV O8 (gX _) (fun x hx=>Z.wf x hx) Z.r (fun f o _ h=>h) L Z.qz hv2 with⟨I,h2⟩|⟨cv,w',I,h2⟩
 ·exact .inl ⟨I,Calls.mono h2 fun e w'⟨cv,he,hp⟩=>⟨cv,he,post hp⟩⟩
 exact .inr ⟨cv,w',I,post h2⟩
end
def CL(t:HT)(z:Nat):Nat→ak→Option DC
 |_,.int k n=>some (.i k n)
 |_,.bool b=>some (.b b)
 |_,.str l s=>some (.s l s)
 |_,.fL=>some .nil
 |m+1,.slice f g off l es=>match t.get f with
  |some (.row _ cY _ n lo _ cs)=>bif Nat.beq cY es&&Nat.ble lo g&&Nat.ble g n&&Nat.beq (off/es*es) off&&Nat.ble 1 l&&Nat.blt f z then
    ((List.range l).mapM fun i=>match cs.get (off/es+i) with
     |some row=>bif Nat.beq row.length es&&Nat.blt (off/es+i) g then row.mapM (CL t z m) else none
     |none=>none).map .sl else none
  |_=>none
 |_,_=>none
section
variable{H:ay}
theorem rep_mapM{X:Nat→Prop}{f:ak→Option DC}(z:∀a d,f a=some d→bK H X d a):∀{l:List ak}{r:List DC},l.mapM f=some r→bZ H X r l:=by
 intro l
 induction l with
 |nil=>intro r h;simp at h;subst h;simp only[bZ]
 |cons x s A=>
  intro r h;simp only[List.mapM_cons,Option.bind_eq_bind,DO,Option.pure_def,eA] at h;obtain⟨d,G,I,h2,rfl⟩:=h;simp only[bZ];exact⟨x,s,rfl,z _ _ G,A h2⟩
theorem afH:∀(m:Nat)(a:ak)(d:DC),CL H.t H.next m a=some d→bK H iO d a:=by
 intro m
 induction m with
 |zero=>
  intro a d h
  cases a<;>simp only[CL,eA,reduceCtorEq] at h
  all_goals(subst h;simp only[bK])
 |succ m Z=>
  intro a d h
  cases a with
  |slice f g off l es=>
   simp only[CL] at h
   split at h
   ·rename_i elem cY aE n lo fl cs ho
    cases A:(Nat.beq cY es&&Nat.ble lo g&&Nat.ble g n&&Nat.beq (off/es*es) off&&Nat.ble 1 l&&Nat.blt f H.next) with
    |false=>rw[A] at h;simp at h
    |true=>
     rw[A] at h;simp only[cU] at A;obtain⟨⟨⟨⟨⟨I,L⟩,M⟩,O⟩,b5⟩,b6⟩:=A;have I:=cD I;subst I;have L:=aV L;have M:=aV M;have O:=cD O;simp only[cond_true,HF] at h;obtain⟨rows,h1,rfl⟩:=h;obtain⟨k1,k2⟩:=Qv h1;have hlen:rows.length=l:=by rw[k1,MF]
     simp only[bK];refine⟨f,g,off,cY,by rw[hlen],.inr ⟨fun h=>h,?_,off/cY,O.symm,dF.oN fun i row hi=>?_⟩⟩
     ·simpa[Nat.blt_eq] using b6
     have U:i<l:=by rw[←hlen];exact(List.getElem?_eq_some_iff.1 hi).1
     obtain⟨r',Y,z⟩:=k2 i i (by rw[TO U]);rw[hi] at Y;cases Y
     split at z
     ·rename_i cells hc
      cases G:(Nat.beq cells.length cY&&Nat.blt (off/cY+i) g) with
      |false=>rw[G] at z;simp at z
      |true=>
       rw[G] at z;simp only[cU] at G;obtain⟨q1,q2⟩:=G;have q1:=cD q1;have q2:off/cY+i<g:=by simpa[Nat.blt_eq] using q2
       refine⟨cells,⟨elem,aE,n,lo,fl,cs,by rw[q1];exact ho,L,M,q2,hc⟩,q1,rep_mapM (fun a d h=>Z a d h) z⟩
     cases z
   cases h
  |_=>simp only[CL,eA,reduceCtorEq] at h;try(subst h;simp only[bK])
end
section
variable{S:Nat→Bool}{H H1:ay}{X':Nat→Prop}
mutual
theorem RM(I:Cm S H1)(A:∀f,H.next≤f→¬X' f):∀{d:DC}{a:ak},hU S a=true→n5 d=true→bK H1 iO d a→bK (nZ S H1 H) X' d (kN H.next a)
 |.i _ _,a,_,_,h=>by simp only[bK] at h⊢;subst h;rfl
 |.b _,a,_,_,h=>by simp only[bK] at h⊢;subst h;rfl
 |.s _ _,a,_,_,h=>by simp only[bK] at h⊢;subst h;rfl
 |.nil,a,_,_,h=>by simp only[bK] at h⊢;subst h;rfl
 |.raw f n es,a,_,z,_=>by simp[n5] at z
 |.sl rows,a,G,z,h=>by
  simp only[n5,cU] at z;simp only[bK] at h⊢;obtain⟨f,g,off,es,rfl,h⟩:=h;simp only[hU] at G;refine⟨f+H.next,g,off,es,rfl,h.imp id fun⟨_,L,q,ho,M⟩=>⟨A _ aq,?_,q,ho,Y2 I A G z.2 M⟩⟩;show f+H.next<H.next+H1.next;omega
theorem Y2(z:Cm S H1)(M:∀f,H.next≤f→¬X' f){f g es:Nat}(A:S f=true):∀{q:Nat}{rows:aj},xQ rows=true→dF H1 iO f g es q rows→dF (nZ S H1 H) X' (f+H.next) g es q rows
 |_,[],_,_=>trivial
 |q,row::r,G,h=>by
  simp only[xQ,cU] at G;simp only[dF] at h⊢;obtain⟨⟨l,⟨elem,aE,m,lo,fl,cs,O,h2,Y,Z,h5⟩,h6,h7⟩,h8⟩:=h;obtain⟨_,o,ho,I⟩:=z f A;rw[O] at ho;cases ho;obtain⟨L,e,hc⟩:=aaX (δ:=H.next) I;obtain⟨l',U,j2,j3⟩:=hc q aq;rw[h5] at U;cases U;refine⟨⟨qs H.next l,⟨elem,aE,m,lo,fl,L,?_,h2,Y,Z,j3⟩,by rw[CS,n6];exact h6,YI z M j2 G.1 h7⟩,Y2 z M A G.2 h8⟩;rw[An z,bj ⟨aq,by rw[show f+H.next-H.next=f by omega];exact A⟩,show f+H.next-H.next=f by omega,O,rK,e,CS,n6]
theorem YI(G:Cm S H1)(I:∀f,H.next≤f→¬X' f):∀{r:List DC}{l:List ak},qJ S l=true→kA r=true→bZ H1 iO r l→bZ (nZ S H1 H) X' r (qs H.next l)
 |[],_,_,_,h=>by simp only[bZ] at h⊢;subst h;rfl
 |d::r,l,z,A,h=>by
  simp only[bZ] at h⊢;obtain⟨a,s,rfl,L,h2⟩:=h;simp only[qJ,cU] at z;simp only[kA,cU] at A;exact⟨_,_,rfl,RM G I z.1 A.1 L,YI G I z.2 A.2 h2⟩
end
end
section
variable{T:aO}{iB:Tr aR}{iC:Tr Nat}{N n f l s:Nat}
theorem sound_told(h1:T.ft.get f=none)(h2:T.xt.get f=none)(h3:T.zt.get f=some (told iB iC N n f)){H1:ay}{a b:ak}{z e:Int}(he:sa iB iC .leaf N N f [.str l s] (H0 n)= .ok (.tuple [.agg [a,b],.int .i64 z,.int .i64 e]) H1)
  (U:tb H1 (.tuple [.agg [a,b],.int .i64 z,.int .i64 e]) n (reach H1.t 6 (Cn (.tuple [.agg [a,b],.int .i64 z,.int .i64 e])))=true) {c o:DC} (Y:n5 c=true) (Z:n5 o=true) (hc:bK H1 iO c a) (ho:bK H1 iO o b):
  Sound T f [.d (.s l s)] fun r=>r= .tuple [.agg [.d c,.d o],.d (.i .i64 z),.d (.i .i64 e)]:=by
 intro G X H β ll hr hv;simp only[aY,aG,bK] at hv;obtain⟨_,_,rfl,rfl,rfl⟩:=hv;obtain⟨M,k2,O⟩:=QN U;generalize hL:reach H1.t 6 (Cn (.tuple [.agg [a,b],.int .i64 z,.int .i64 e]))=L at U M k2 O;have A:∀f,f<H.next→(nZ (fun f=>L.contains f) H1 H).t.get f=H.t.get f:=fun f I=>by rw[An O,aZ (fun c=>by omega)]
 have hX:∀f,H.next≤f→¬XB X [] β f:=fun f I hx=>by have:=hr.x0 f (R2 f hx);omega
 simp only[hU,qJ,cU] at M;refine⟨1,.tuple [.agg [kN H.next a,kN H.next b],.int .i64 z,.int .i64 e],nZ (fun f=>L.contains f) H1 H,fun lf m _ h=>?_,.tuple [.agg [.d c,.d o],.d (.i .i64 z),.d (.i .i64 e)],[],β,?_,hr.grow (MH _ _) A ?_,?_,by simp only[VV.nb,mH];exact⟨⟨trivial,trivial,trivial⟩,trivial,trivial,trivial⟩,rfl⟩
 ·obtain⟨m,rfl⟩:∃n',m=n'+1:=⟨m-1,aq⟩;show ob (T.ft.get f) (ob (T.xt.get f) (ob (T.zt.get f) (.err (Nat.add 10000 f)) fun F=>F _ H) fun c=>tR c _ H) _=_;rw[h1,h2,h3];show told iB iC N n f [.str l s] H=_;simp only[told,he,hL];rw[U];rfl
 ·refine⟨rfl,MH _ _,fun f I=>.inl I,fun b s h=>(by cases h),fun f I _=>A f I⟩
 ·have:=hr.aQ;show H.aQ≤H.next+H1.next;omega
 simp only[aG,aY,bK];exact⟨_,rfl,_,_,rfl,⟨_,rfl,_,_,rfl,RM O hX M.1.1 Y hc,_,_,rfl,RM O hX M.1.2.1 Z ho,rfl⟩,_,_,rfl,rfl,_,_,rfl,rfl,rfl⟩
theorem sound_toldD(Y:T.ft.get f=none)(h2:T.xt.get f=none)(Z:T.zt.get f=some (yv iB iC N n f)){c o:DC}(hf:kA [c,o]=true)(A:OR iB iC N n f [c,o] l s)(I:al (vL l s)= .s l s):
  Sound T f [.agg [.d c,.d o]] fun r=>∃st:List UInt8,r= .d (al st):=by
 intro G X H β ll hr M;simp only[aY,aG] at M;obtain⟨_,_,rfl,⟨cs,rfl,x,t1,rfl,hx,y,t2,rfl,hy,rfl⟩,rfl⟩:=M;have O:fc H (XB X [] β) H iO:=⟨bt _,fun f _ _=>⟨fun k=>k,rfl⟩⟩;have z:∃(ls:Nat×Nat)(U:List ak)(L:List DC),([ak.agg [x,y]]:List ak)=[.agg U]∧bZ H iO L U∧kA L=true∧OR iB iC N n f L ls.1 ls.2∧al (vL ls.1 ls.2)= .s ls.1 ls.2:=
  ⟨(l,s),[x,y],[c,o],rfl,by simp only[bZ];exact⟨_,_,rfl,hx.lift O,_,_,rfl,hy.lift O,rfl⟩,hf,A,I⟩
 obtain⟨_,_,_,_,_,_,hs⟩:=z.choose_spec;refine⟨1,.str z.choose.1 z.choose.2,H,fun lf m _ h=>?_,.d (.s z.choose.1 z.choose.2),[],β,.refl,hr,by simp only[aG,bK],by simp only[VV.nb],vL z.choose.1 z.choose.2,by rw[hs]⟩;obtain⟨m,rfl⟩:∃n',m=n'+1:=⟨m-1,aq⟩;show ob (T.ft.get f) (ob (T.xt.get f) (ob (T.zt.get f) (.err (Nat.add 10000 f)) fun F=>F _ H) fun c=>tR c _ H) _=_;rw[Y,h2,Z];show yv iB iC N n f [.agg [x,y]] H=_;unfold yv;rw[dif_pos z]
end
end Go.Ev
namespace Go.Ev.Pp
def FA:Tr aR:=H3 [(27,i27),(213,i213),(318,i318),(319,i319),(320,i320),(407,i407),(408,i408),(409,i409),(410,i410),(411,i411),(412,i412),(413,i413),(414,i414),(415,i415),(500,i500),(501,i501),(502,i502),(503,i503),(504,i504),(505,i505),(506,i506),(507,i507),(508,i508),(509,i509),(510,i510),(511,i511),(512,i512),(513,i513),(565,i565),(566,i566),(567,i567),(568,i568),(569,i569),(570,i570),(571,i571),(572,i572),(573,i573),(574,i574),(575,i575),(576,i576),(610,i610),(611,i611),(612,i612),(613,i613),(614,i614),(615,i615),(616,i616),(630,i630),(631,i631),(635,i635),(636,i636),(638,i638),(640,i640),(642,i642),(645,i645),(648,i648)]
end Go.Ev.Pp
