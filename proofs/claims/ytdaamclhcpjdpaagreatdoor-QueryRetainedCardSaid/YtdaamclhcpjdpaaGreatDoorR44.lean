/- Part 44 of rules for walks through the code of a program, and of such walks; what each part proves is said by its theorems. -/
import Derived.Test.YtdaamclhcpjdpaaGreatDoorR17
import Derived.Test.YtdaamclhcpjdpaaGreatDoorR18
import Derived.Test.YtdaamclhcpjdpaaGreatDoorR20
set_option linter.unusedVariables false
set_option linter.unusedSimpArgs false
noncomputable section
set_option maxRecDepth 100000
set_option maxHeartbeats 4000000
namespace Go.Ev
open Go
mutual
def kF(δ:Nat):al→al
 |.slice f g o l es=>.slice (f+δ) g o l es
 |.agg cs=>.agg (qB δ cs)
 |.tuple cs=>.tuple (qB δ cs)
 |x=>x
def qB(δ:Nat):List al→List al
 |[]=>[]
 |x::r=>kF δ x::qB δ r
end
mutual
def hD(S:Nat→Bool):al→Bool
 |.bool _=>true
 |.int _ _=>true
 |.str _ _=>true
 |.fE=>true
 |.slice f _ _ _ _=>S f
 |.agg cs=>qU S cs
 |.tuple cs=>qU S cs
 |_=>false
def qU(S:Nat→Bool):List al→Bool
 |[]=>true
 |x::r=>hD S x&&qU S r
end
theorem ZL{S:Nat→Bool}{δ:Nat}{a:al}(z:hD S a=true)(h:eH a=true):eH (kF δ a)=true:=by
 cases a<;>first|exact h|(simp[hD] at z)|(simp only[kF];exact h)
theorem Cp{δ:Nat}:∀l:List al,qB δ l=l.map (kF δ)
 |[]=>rfl
 |x::r=>by simp only[qB,jo,Cp r]
theorem Qw{S:Nat→Bool}:∀{l:List al},qU S l=true→∀{i:Nat}{x:al},l[i]?=some x→hD S x=true
 |y::r,h,i,x,z=>by
  simp only[qU,cS] at h
  cases i with
  |zero=>simp at z;subst z;exact h.1
  |succ i=>exact Qw h.2 (by simpa using z)
mutual
theorem Tc{S:Nat→Bool}{δ:Nat}{ρ0 ρ':Ho}(A:∀f g h,S f=true→ρ0 f g=some h→ρ' (f+δ) g=some h):∀{a:al}{v:Value},hD S a=true→VR ρ0 a v→VR ρ' (kF δ a) v
 |.bool _,_,_,h=>by simpa[VR,kF] using h
 |.int _ _,_,_,h=>by simpa[VR,kF] using h
 |.str _ _,_,_,h=>by simpa[VR,kF] using h
 |.fE,_,_,h=>by simpa[VR,kF] using h
 |.slice f g o l es,_,z,h=>by
  simp only[VR,kF,hD] at h z⊢;obtain⟨x,a,c,G,e⟩:=h;exact⟨x,a,c,A _ _ _ z G,e⟩
 |.agg cs,_,z,h=>by
  simp only[VR,kF,hD] at h z⊢;obtain⟨vs,e,I,h2⟩:=h;refine⟨vs,e,Rt A z I,?_⟩;rw[Cp,List.all_map,tF];intro x G;obtain⟨i,hi⟩:=List.mem_iff_getElem?.1 G;exact ZL (Qw z hi) ((List.all_eq_true.1 h2) x G)
 |.tuple cs,_,z,h=>by
  simp only[VR,kF,hD] at h z⊢;obtain⟨vs,e,I⟩:=h;exact⟨vs,e,Rt A z I⟩
 |.ptr _ _ _,_,z,_=>by simp[hD] at z
 |.jU,_,z,_=>by simp[hD] at z
 |.func _ _ _,_,z,_=>by simp[hD] at z
 |.mO,_,z,_=>by simp[hD] at z
 |.iface _ _,_,z,_=>by simp[hD] at z
 |.jS,_,z,_=>by simp[hD] at z
 |.map _,_,z,_=>by simp[hD] at z
 |.uU,_,z,_=>by simp[hD] at z
 |.undef,_,z,_=>by simp[hD] at z
theorem Rt{S:Nat→Bool}{δ:Nat}{ρ0 ρ':Ho}(z:∀f g h,S f=true→ρ0 f g=some h→ρ' (f+δ) g=some h):∀{l:List al}{vs:List Value},qU S l=true→bO ρ0 l vs→bO ρ' (qB δ l) vs
 |[],_,_,h=>by simpa[bO,qB] using h
 |x::r,_,A,h=>by
  simp only[bO,qB,qU,cS] at h A⊢;obtain⟨v,t,e,G,h2⟩:=h;exact⟨v,t,e,Tc z A.1 G,Rt z A.2 h2⟩
end
def BR(δ:Nat):cT→cT
 |.row elem es aF n lo fl cs=>.row elem es aF n lo fl (fU ((List.range n).map fun i=>qB δ ((cs.get i).getD [])) .emp 0)
 |o=>o
def EK(S:Nat→Bool):cT→Bool
 |.row _ _ _ n _ _ cs=>(List.range n).all fun i=>match cs.get i with
  |some l=>qU S l
  |none=>false
 |_=>false
theorem aaC{S:Nat→Bool}{δ elem es aF n lo fl:Nat}{cs:RT}(G:EK S (.row elem es aF n lo fl cs)=true):∃z,BR δ (.row elem es aF n lo fl cs)= .row elem es aF n lo fl z∧∀i,i<n→∃l,cs.get i=some l∧qU S l=true∧z.get i=some (qB δ l):=by
 refine⟨_,rfl,fun i hi=>?_⟩;simp only[EK,tF] at G;have h:=G i (List.mem_range.2 hi)
 cases A:cs.get i with
 |none=>rw[A] at h;cases h
 |some l=>
  rw[A] at h;refine⟨l,rfl,h,?_⟩;rw[sX,bh ⟨gT _,by simp;exact hi⟩];simp[hi,A]
theorem ObjAt_rel{S:Nat→Bool}{δ:Nat}{ρ0 ρ':Ho}{w:World}{h:Hm}{g:Nat}{o:cT}(G:∀f g h,S f=true→ρ0 f g=some h→ρ' (f+δ) g=some h)(I:EK S o=true)(k:AH ρ0 w h g o):AH ρ' w h g (BR δ o):=by
 cases o with
 |map es=>simp[EK] at I
 |row elem es aF n lo fl cs=>
  obtain⟨O,e,U⟩:=aaC (δ:=δ) I;rw[e];obtain⟨Y,Z,k3,k4⟩:=k;refine⟨Y,Z,k3,fun a b=>?_⟩;have r:=k4 a b;refine⟨r.row,r.fits,fun i hi=>?_,r.Dn,r.AG,r.tY,r.BW⟩;obtain⟨l,h1,h2,h3⟩:=r.cell i hi;obtain⟨l',L,j2,j3⟩:=U i ah;rw[h1] at L;cases L;refine⟨_,j3,by rw[Cp,pc];exact h2,fun j x z=>?_⟩;rw[Cp,yi] at z
  cases A:l[j]?with
  |none=>rw[A] at z;cases z
  |some y=>
   rw[A] at z;simp only[rS,eB] at z;subst z;obtain⟨o1,cv,o2,o3⟩:=h3 j y A;have M:=Qw j2 A;exact⟨ZL M o1,cv,o2,Tc G M o3⟩
def qV(S:Nat→Bool)(δ:Nat)(t0:HT):Nat→HT→HT
 |0,t=>t
 |k+1,t=>match S k,t0.get k with
  |true,some o=>(qV S δ t0 k t).set (k+δ) (BR δ o)
  |_,_=>qV S δ t0 k t
theorem aaD{S:Nat→Bool}{δ:Nat}{t0:HT}:∀(k:Nat)(t:HT)(f:Nat),(qV S δ t0 k t).get f=if δ≤f∧f<k+δ∧S (f-δ)=true∧(t0.get (f-δ)).isSome=true then(t0.get (f-δ)).map (BR δ) else t.get f
 |0,t,f=>by rw[aZ ah];rfl
 |k+1,t,f=>by
  have z:=aaD (S:=S) (δ:=δ) (t0:=t0) k t f
  by_cases e:f=k+δ
  ·subst e;rw[show k+δ-δ=k by omega] at z⊢;have A:¬(δ≤k+δ∧k+δ<k+δ∧S k=true∧(t0.get k).isSome=true):=by omega
   rw[aZ A] at z;unfold qV
   cases I:S k
   ·rw[aZ (by simp)];exact z
   cases ho:t0.get k with
   |none=>rw[aZ (by simp)];exact z
   |some o=>
    rw[bh ⟨ah,ah,rfl,rfl⟩];show((qV S δ t0 k t).set (k+δ) (BR δ o)).get (k+δ)=_;rw[GT.di,bh rfl];rfl
  have G:(qV S δ t0 (k+1) t).get f=(qV S δ t0 k t).get f:=by
   rw[show qV S δ t0 (k+1) t=(match S k,t0.get k with
    |true,some o=>(qV S δ t0 k t).set (k+δ) (BR δ o)
    |_,_=>qV S δ t0 k t) from rfl]
   split
   ·rw[GT.di,aZ e]
   rfl
  rw[G,z]
  by_cases c:δ≤f∧f<k+δ∧S (f-δ)=true∧(t0.get (f-δ)).isSome=true
  ·rw[bh c,bh ⟨c.1,ah,c.2.2⟩]
  rw[aZ c,aZ (fun d=>c ⟨d.1,ah,d.2.2⟩)]
def BT(S:Nat→Bool)(H1:aw):Prop:=∀f,S f=true→f<H1.next∧∃o,H1.t.get f=some o∧EK S o=true
def n9(S:Nat→Bool)(H1 H:aw):aw:=⟨H.next+H1.next,H.aQ,H.ws,qV S H.next H1.t H1.next H.t⟩
theorem zE{S:Nat→Bool}{H1 H:aw}(z:BT S H1)(f:Nat):(n9 S H1 H).t.get f=if H.next≤f∧S (f-H.next)=true then(H1.t.get (f-H.next)).map (BR H.next) else H.t.get f:=by
 show(qV S H.next H1.t H1.next H.t).get f=_;rw[aaD]
 by_cases c:H.next≤f∧S (f-H.next)=true
 ·obtain⟨A,o,h2,_⟩:=z _ c.2;rw[bh c,bh ⟨c.1,ah,c.2,by rw[h2];rfl⟩]
 rw[aZ c,aZ (fun d=>c ⟨d.1,d.2.2.1⟩)]
theorem overH_tame{S:Nat→Bool}{H1 H:aw}(z:BT S H1)(I:H.aQ≤H.next):eF H (n9 S H1 H):=by
 refine⟨Ms _ _,rfl,fun _ h=>h,fun f A _=>?_,fun G f A=>?_,fun f A=>?_⟩
 ·rw[zE z,aZ (fun c=>by omega)]
 ·rw[zE z];have A:H.next+H1.next≤f:=A;rw[aZ (fun c=>by have:=(z _ c.2).1;omega)];exact G f ah
 rw[zE z]
 split
 ·rename_i c;obtain⟨_,o,h2,_⟩:=z _ c.2;rw[h2];simp
 exact A
theorem post_over{P:Program}{S:Nat→Bool}{ρ:Ho}{C:Nat→Option cT}{w w':World}{H H1:aw}{n:Nat}{v0:al}{cv:Value}(hn:P.globals.size≤n)(Z:∀f,S f=true→n≤f)(hS:BT S H1)(hd:hD S v0=true)(nu:∀x,H.next≤x→H.t.get x=none)(hR:R ρ C w)(hF:fk ρ H.next (n9 S H1 H).next)
  (hp:cP (Ev.base P) (fun _=>none) w (H0 n) v0 H1 cv w'):cP ρ C w H (kF H.next v0) (n9 S H1 H) cv w':=by
 have Y:=hp.kept;obtain⟨ρ0,hv,hx,I⟩:=hp
 let ρ':Ho:=fun f g=>if H.next≤f∧f<H.next+H1.next then(if S (f-H.next)=true then ρ0 (f-H.next) g else none) else ρ f g
 have L:∀f g h,S f=true→ρ0 f g=some h→ρ' (f+H.next) g=some h:=fun f g h hs e=>by
  show(if H.next≤f+H.next∧f+H.next<H.next+H1.next then(if S (f+H.next-H.next)=true then ρ0 (f+H.next-H.next) g else none) else ρ (f+H.next) g)=_;have:=(hS f hs).1;rw[bh ⟨ah,ah⟩,show f+H.next-H.next=f by omega,bh hs];exact e
 have z:∀f g h,ρ' f g=some h→(H.next≤f∧f<H.next+H1.next∧S (f-H.next)=true∧ρ0 (f-H.next) g=some h)∨(¬(H.next≤f∧f<H.next+H1.next)∧ρ f g=some h):=fun f g h e=>by
  have e:(if H.next≤f∧f<H.next+H1.next then(if S (f-H.next)=true then ρ0 (f-H.next) g else none) else ρ f g)=some h:=e
  split at e
  ·rename_i c
   split at e
   ·rename_i c2;exact .inl ⟨c.1,c.2,c2,e⟩
   cases e
  rename_i c;exact .inr ⟨c,e⟩
 have hle:ρ.le ρ':=fun f g h e=>by
  show(if H.next≤f∧f<H.next+H1.next then _ else ρ f g)=_;rw[aZ (fun c=>by rw[hF f g c.1 c.2] at e;cases e)];exact e
 have A:∀f g h,S f=true→ρ0 f g=some h→w.heap.size≤h.bw∧h.ro=false:=fun f g h hs e=>by
  rcases hx.bw f g h e with e|e|⟨g0,h0,e,_⟩
  ·obtain⟨k,_⟩:=pX e;have:=Z f hs;omega
  ·exact e
  obtain⟨k,_⟩:=pX e;have:=Z f hs;omega
 have M:=hR.kept Y;refine⟨ρ',Tc L hd hv,⟨hle,fun f g h e=>?_,fun f g h e=>?_,fun b O _=>Y.uo b O,Y.size,Ms _ _,Y.os,Y.tape,Y.output⟩,⟨fun f o ho g h e=>?_,fun f g h f' g' h' e G fL O=>?_,fun f g h e=>?_,fun f g h g' h' e G O=>?_,fun f g h e hr hpn=>?_⟩⟩
 ·rcases z f g h e with⟨a,b,_,_⟩|⟨_,e⟩
  ·exact .inr ⟨a,b⟩
  exact .inl ⟨g,h,e⟩
 ·rcases z f g h e with⟨a,b,c,e⟩|⟨_,e⟩
  ·exact .inr (.inl (A _ g h c e))
  exact .inl e
 ·rcases z f g h e with⟨a,b,c,e⟩|⟨c,e⟩
  ·unfold dZ at ho;rw[bh ⟨a,b⟩,zE hS,bh ⟨a,c⟩] at ho;obtain⟨h1,o1,h2,h3⟩:=hS _ c;rw[h2] at ho
   cases ho
   have hup:dZ (fun _=>none) (H0 n) H1 (f-H.next)=some o1:=by
    unfold dZ
    split
    ·exact h2
    split
    ·rename_i k;rw[h2,show(H0 n).t.get (f-H.next)=none from GT.s7 _] at k;cases k
    exact h2
   exact ObjAt_rel L h3 (I.obj _ _ hup g h e)
  have pJ:C f=some o:=by
   unfold dZ at ho;rw[aZ (show¬(H.next≤f∧f<(n9 S H1 H).next) from c)] at ho;have U:(n9 S H1 H).t.get f=H.t.get f:=by
    rw[zE hS,aZ (fun d=>c ⟨d.1,by have:=(hS _ d.2).1;omega⟩)]
   rw[bh U] at ho;exact ho
  exact(M.obj f o pJ g h e).fX hle rfl
 ·rcases z f g h e with⟨a,b,c,e⟩|⟨c,e⟩<;>rcases z f' g' h' G with⟨a',b',c',G⟩|⟨c',G⟩
  ·exact I.mr _ g h _ g' h' e G ah O
  ·have h1:=(A _ _ _ c e).1;have h2:=hR.gx _ _ _ G;omega
  ·have h1:=(A _ _ _ c' G).1;have h2:=hR.gx _ _ _ e;omega
  exact hR.mr f g h f' g' h' e G fL O
 ·rcases z f g h e with⟨a,b,c,e⟩|⟨c,e⟩
  ·exact I.gx _ _ _ e
  exact M.gx _ _ _ e
 ·rcases z f g h e with⟨a,b,c,e⟩|⟨c,e⟩<;>rcases z f g' h' G with⟨a',b',c',G⟩|⟨c',G⟩
  ·exact I.uniq _ _ _ _ _ e G O
  ·exact absurd ⟨a,b⟩ c'
  ·exact absurd ⟨a',b'⟩ c
  exact hR.uniq f g h g' h' e G O
 rcases z f g h e with⟨a,b,c,e⟩|⟨c,e⟩
 ·rw[(A _ _ _ c e).2] at hr;cases hr
 have k:=M.c9 f g h e hr hpn;refine⟨fun g2 h2 e2=>?_,k.2⟩;rcases z f g2 h2 e2 with⟨a',b',_,_⟩|⟨_,e3⟩
 ·exact absurd ⟨a',b'⟩ c
 exact k.1 g2 h2 e3
def BU:al→List Nat
 |.slice f _ _ _ _=>[f]
 |.agg cs=>cs.flatMap fun x=>match x with
  |.slice f _ _ _ _=>[f]
  |_=>[]
 |.tuple cs=>cs.flatMap fun x=>match x with
  |.slice f _ _ _ _=>[f]
  |.agg z=>z.flatMap fun y=>match y with
   |.slice f _ _ _ _=>[f]
   |_=>[]
  |_=>[]
 |_=>[]
def rowsOf(t:HT)(f:Nat):List (List al):=match t.get f with
 |some (.row _ _ _ n _ _ cs)=>(List.range n).map fun i=>(cs.get i).getD []
 |_=>[]
def reach(t:HT):Nat→List Nat→List Nat
 |0,l=>l
 |m+1,l=>l++reach t m (l.flatMap fun f=>(rowsOf t f).flatMap fun r=>r.flatMap BU)
def A3(H1:aw)(v:al)(n:Nat)(L:List Nat):Bool:=hD (fun f=>L.contains f) v&&L.all fun f=>Nat.ble n f&&Nat.blt f H1.next&&(match H1.t.get f with
 |some o=>EK (fun f=>L.contains f) o
 |none=>false)
theorem Qx{H1:aw}{v:al}{n:Nat}{L:List Nat}(h:A3 H1 v n L=true):hD (fun f=>L.contains f) v=true∧(∀f,L.contains f=true→n≤f)∧BT (fun f=>L.contains f) H1:=by
 simp only[A3,cS,tF] at h;refine⟨h.1,fun f A=>aS (h.2 f (by simpa using A)).1.1,fun f A=>?_⟩;obtain⟨⟨_,h2⟩,z⟩:=h.2 f (by simpa using A);refine⟨by simpa[Nat.blt_eq] using h2,?_⟩
 cases ho:H1.t.get f with
 |none=>rw[ho] at z;cases z
 |some o=>rw[ho] at z;exact⟨o,rfl,z⟩
def told(iw:Tr aV)(iA:Tr Nat)(N n f:Nat)(args:List al)(H:aw):aC:=
 match args with
 |[.str l s]=>match sv iw iA .leaf N N f [.str l s] (H0 n) with
  |.ok v H1=>bif A3 H1 v n (reach H1.t 6 (BU v)) then .ok (kF H.next v) (n9 (fun f=>(reach H1.t 6 (BU v)).contains f) H1 H) else .err 95
  |.err e=>.err e
 |_=>.err 95
theorem acL{iw:Tr aV}{iA:Tr Nat}{N n f:Nat}{args:List al}{H H':aw}{v:al}(h:told iw iA N n f args H= .ok v H'):∃l s z H1 L,args=[.str l s]∧sv iw iA .leaf N N f [.str l s] (H0 n)= .ok z H1∧A3 H1 z n L=true∧v=kF H.next z∧H'=n9 (fun f=>L.contains f) H1 H:=by
 unfold told at h
 split at h
 ·rename_i l s
  split at h
  ·rename_i z H1 G
   cases A:A3 H1 z n (reach H1.t 6 (BU z)) with
   |false=>rw[A] at h;cases h
   |true=>rw[A] at h;cases h;exact⟨l,s,z,H1,_,rfl,G,A,rfl,rfl⟩
  cases h
 cases h
theorem toldOk{P:Program}(z:P.follows .mixedOrders=true){iw:Tr aV}{iA:Tr Nat}{N n f:Nat}(hT:F3 P iw)(hx:Mx P iA)(hn:P.globals.size≤n):RC P f (told iw iA N n f):=by
 refine⟨fun args H hm v H' h=>?_,fun args H v H' ρ C w dj h hm I hR hK hF hG hv=>?_⟩
 ·obtain⟨l,s,A,H1,L,rfl,G,M,rfl,rfl⟩:=acL h;exact overH_tame (Qx M).2.2 hm
 obtain⟨l,s,A,H1,L,rfl,G,M,rfl,rfl⟩:=acL h;obtain⟨k1,k2,k3⟩:=Qx M;have O:xH P w:=RF hR hG;have U:bO (Ev.base P) [.str l s] dj.toList:=by
  simp only[bO,VR] at hv⊢;exact hv
 have post:∀{cv w'},cP (Ev.base P) (fun _=>none) w (H0 n) A H1 cv w'→cP ρ C w H (kF H.next A) (n9 (fun f=>L.contains f) H1 H) cv w':=fun Y=>post_over hn k2 k3 k1 I hR hF Y
 rcases(LM z hT hx YG N).sound f [.str l s] (H0 n) A H1 (Ev.base P) (fun _=>none) w dj G (gT _) afz (CR O) ZY (Zg hn _) PF U with⟨Z,h2⟩|⟨cv,w',Z,h2⟩
 ·exact .inl ⟨Z,Calls.mono h2 fun e w'⟨cv,G,Y⟩=>⟨cv,G,post Y⟩⟩
 exact .inr ⟨cv,w',Z,post h2⟩
mutual
def oa:DC→Bool
 |.sl rows=>!rows.isEmpty&&xB rows
 |.raw _ _ _=>false
 |_=>true
def xB:ak→Bool
 |[]=>true
 |r::rs=>j' r&&xB rs
def j':List DC→Bool
 |[]=>true
 |d::r=>oa d&&j' r
end
mutual
def DW(w:World):DC→Value→Prop
 |.i k z,v=>v= .int k z
 |.b x,v=>v= .bool x
 |.s l s,v=>∃b:ByteArray,v= .string b∧l=b.size∧s=pack b.data.toList
 |.nil,v=>v= .slice none 0 0
 |.raw _ _ _,_=>False
 |.sl rows,v=>∃(bw off cap es:Nat),v= .slice (some ⟨bw,off,none⟩) rows.length cap∧rows.length≤cap∧0<es∧(∃c e fz,w.heap[bw]?=some (.cells c e fz)∧off+cap*es≤c.size)∧BV w bw off es 0 rows
def BV(w:World)(bw off es:Nat):Nat→ak→Prop
 |_,[]=>True
 |i,r::rs=>r.length=es∧EL w bw (off+i*es) r∧BV w bw off es (i+1) rs
def EL(w:World)(bw:Nat):Nat→List DC→Prop
 |_,[]=>True
 |o,d::r=>(∃cv,w.cell? ⟨bw,o,none⟩=some cv∧DW w d cv)∧EL w bw (o+1) r
end
section
variable{ρ:Ho}{C:Nat→Option cT}{w:World}{H:aw}{X:Nat→Prop}
mutual
theorem ahn(hR:R ρ C w)(hK:gE ρ C H):∀{d:DC}{a:al}{v:Value},oa d=true→bH H X d a→VR ρ a v→DW w d v
 |.i _ _,_,_,_,z,G=>by simp only[bH] at z;subst z;simpa only[VR,DW] using G
 |.b _,_,_,_,z,G=>by simp only[bH] at z;subst z;simpa only[VR,DW] using G
 |.s _ _,_,_,_,z,G=>by simp only[bH] at z;subst z;simpa only[VR,DW] using G
 |.nil,_,_,_,z,G=>by simp only[bH] at z;subst z;simpa only[VR,DW] using G
 |.raw _ _ _,_,_,L,_,_=>by simp[oa] at L
 |.sl rows,a,v,L,z,G=>by
  simp only[oa,cS,gZ] at L;have I:rows≠[]:=fun e=>by rw[e] at L;simp at L
  simp only[bH] at z;obtain⟨f,g,off,es,rfl,z⟩:=z;obtain⟨_,_,q,rfl,A⟩:=z.resolve_left I;simp only[VR] at G;obtain⟨h,a',cap,hh,rfl,⟨hl,_⟩,hs⟩:=G;rcases hs with⟨rfl,Y⟩|⟨h0,_⟩
  ·have M:∃elem m aF lo fl cs,H.t.get f=some (.row elem es aF m lo fl cs)∧lo≤g∧g≤m:=by
    cases rows with
    |nil=>exact absurd rfl I
    |cons r rs=>
     simp only[dF] at A;obtain⟨⟨l,⟨elem,aF,m,lo,fl,cs,h1,h2,h3,_,_⟩,h4,_⟩,_⟩:=A;exact⟨elem,m,aF,lo,fl,cs,h4▸h1,h2,h3⟩
   obtain⟨elem,m,aF,lo,fl,cs,ho,Z,WR⟩:=M;obtain⟨E4,_,_,O⟩:=hR.obj f _ (hK f _ ⟨g,h,hh⟩ ho) g h hh;have k:=O Z WR;obtain⟨c,fz,U,kG⟩:=k.row;simp only[DW];refine⟨h.bw,h.off+q*es,cap,es,rfl,hl,E4,⟨c,elem,fz,U,ah⟩,?_⟩;have:=acM hR hK (f:=f) (g:=g) (es:=es) (h:=h) (elem:=elem) (n:=m) (fl:=fl) (cs:=cs) (aF:=aF) (lo:=lo) k ho (q:=q) (i:=0) L.2 (by simpa using A);exact this
  exact absurd (o8 h0) I
theorem acM(I:R ρ C w)(L:gE ρ C H){f g es:Nat}{h:Hm}{elem n fl aF lo:Nat}{cs:RT}(k:HN ρ w h g elem es n fl cs)(ho:H.t.get f=some (.row elem es aF n lo fl cs)){q:Nat}:∀{i:Nat}{rows:ak},xB rows=true→dF H X f g es (q+i) rows→BV w h.bw (h.off+q*es) es i rows
 |_,[],_,_=>trivial
 |i,r::rs,z,M=>by
  simp only[xB,cS] at z;simp only[dF] at M;obtain⟨⟨l,⟨A,kR,m',Y,kH,Z,G,_,_,h4,h5⟩,h6,O⟩,h8⟩:=M;rw[ho] at G;simp only[eB,cT.row.injEq] at G;obtain⟨rfl,_,rfl,rfl,rfl,rfl,rfl⟩:=G;obtain⟨l',U,j2,j3⟩:=k.cell (q+i) h4;rw[h5] at U;cases U;simp only[BV];refine⟨by rw[←O.length];exact h6,?_,acM I L k ho z.2 (by rw[show q+(i+1)=q+i+1 by omega];exact h8)⟩;refine acN I L (l:=l) (o:=h.off+q*es+i*es) z.1 O fun j x hx=>?_
  obtain⟨_,cv,o1,o2⟩:=j3 j x hx;exact⟨cv,by rw[show h.off+q*es+i*es+j=h.off+(q+i)*es+j by rw[ku];omega];exact o1,o2⟩
theorem acN(I:R ρ C w)(L:gE ρ C H){bw:Nat}:∀{row:List DC}{l:List al}{o:Nat},j' row=true→bU H X row l→(∀j x,l[j]?=some x→∃cv,w.cell? ⟨bw,o+j,none⟩=some cv∧VR ρ x cv)→EL w bw o row
 |[],_,_,_,_,_=>trivial
 |d::r,l,o,z,M,O=>by
  simp only[j',cS] at z;simp only[bU] at M;obtain⟨a,s,rfl,U,h2⟩:=M;obtain⟨cv,A,G⟩:=O 0 a rfl;simp only[EL]
  exact⟨⟨cv,by simpa using A,ahn I L z.1 U G⟩,acN I L z.2 h2 fun j x Y=>by
   obtain⟨cv,A,G⟩:=O (j+1) x (by simpa using Y)
   exact⟨cv,by rw[show o+1+j=o+(j+1) by omega];exact A,G⟩⟩
end
end
mutual
def eP(el:Nat→Nat):DC→Nat→HT→Nat×HT×al
 |.i k z,n,t=>(n,t,.int k z)
 |.b x,n,t=>(n,t,.bool x)
 |.s l s,n,t=>(n,t,.str l s)
 |.nil,n,t=>(n,t,.fE)
 |.raw f m es,n,t=>(n,t,.slice f m 0 m es)
 |.sl rows,n,t=>match ko el rows n t with
  |(n1,t1,ls)=>(n1+1,t1.set n1 (.row (el n1) (rows.headD []).length 0 rows.length rows.length 1 (fU ls .emp 0)),.slice n1 rows.length 0 rows.length (rows.headD []).length)
def ko(el:Nat→Nat):ak→Nat→HT→Nat×HT×List (List al)
 |[],n,t=>(n,t,[])
 |r::rs,n,t=>match dR el r n t with
  |(n1,t1,l)=>match ko el rs n1 t1 with
   |(z,t2,ls)=>(z,t2,l::ls)
def dR(el:Nat→Nat):List DC→Nat→HT→Nat×HT×List al
 |[],n,t=>(n,t,[])
 |d::r,n,t=>match eP el d n t with
  |(n1,t1,a)=>match dR el r n1 t1 with
   |(z,t2,l)=>(z,t2,a::l)
end
mutual
theorem Lv{el:Nat→Nat}:∀(d:DC)(n:Nat)(t:HT),n≤(eP el d n t).1
 |.i _ _,n,t=>bq _
 |.b _,n,t=>bq _
 |.s _ _,n,t=>bq _
 |.nil,n,t=>bq _
 |.raw _ _ _,n,t=>bq _
 |.sl rows,n,t=>by
  have:=FJ (el:=el) rows n t;simp only[eP];omega
theorem FJ{el:Nat→Nat}:∀(rs:ak)(n:Nat)(t:HT),n≤(ko el rs n t).1
 |[],n,t=>bq _
 |r::rs,n,t=>by
  have z:=FK (el:=el) r n t;have h2:=FJ (el:=el) rs (dR el r n t).1 (dR el r n t).2.1;exact eZ z h2
theorem FK{el:Nat→Nat}:∀(r:List DC)(n:Nat)(t:HT),n≤(dR el r n t).1
 |[],n,t=>bq _
 |d::r,n,t=>by
  have z:=Lv (el:=el) d n t;have h2:=FK (el:=el) r (eP el d n t).1 (eP el d n t).2.1;exact eZ z h2
end
mutual
theorem PJ{el lh:Nat→Nat}:∀(d:DC)(n:Nat)(t:HT),(∀m,n≤m→m<(eP el d n t).1→lh m=el m)→eP lh d n t=eP el d n t
 |.i _ _,n,t,_=>rfl
 |.b _,n,t,_=>rfl
 |.s _ _,n,t,_=>rfl
 |.nil,n,t,_=>rfl
 |.raw _ _ _,n,t,_=>rfl
 |.sl rows,n,t,h=>by
  simp only[eP] at h⊢;have e:=Pw (el:=el) (lh:=lh) rows n t fun m z h2=>h m z ah
  rw[e,h (ko el rows n t).1 (FJ rows n t) ah]
theorem Pw{el lh:Nat→Nat}:∀(rs:ak)(n:Nat)(t:HT),(∀m,n≤m→m<(ko el rs n t).1→lh m=el m)→ko lh rs n t=ko el rs n t
 |[],n,t,_=>rfl
 |r::rs,n,t,h=>by
  simp only[ko] at h⊢;have hle:=FJ (el:=el) rs (dR el r n t).1 (dR el r n t).2.1;have z:=FK (el:=el) r n t;have e:=Px (el:=el) (lh:=lh) r n t fun m A h2=>h m A (jg h2 hle)
  rw[e];have G:=Pw (el:=el) (lh:=lh) rs (dR el r n t).1 (dR el r n t).2.1 fun m A h2=>h m (eZ z A) h2
  rw[G]
theorem Px{el lh:Nat→Nat}:∀(r:List DC)(n:Nat)(t:HT),(∀m,n≤m→m<(dR el r n t).1→lh m=el m)→dR lh r n t=dR el r n t
 |[],n,t,_=>rfl
 |d::r,n,t,h=>by
  simp only[dR] at h⊢;have hle:=FK (el:=el) r (eP el d n t).1 (eP el d n t).2.1;have z:=Lv (el:=el) d n t;have e:=PJ (el:=el) (lh:=lh) d n t fun m A h2=>h m A (jg h2 hle)
  rw[e];have G:=Px (el:=el) (lh:=lh) r (eP el d n t).1 (eP el d n t).2.1 fun m A h2=>h m (eZ z A) h2
  rw[G]
end
section
variable{P:Program}{w:World}
theorem RS.congr{n:Nat}{ρ:Ho}{t t2:HT}(h:RS P w n ρ t)(e:∀f,t2.get f=t.get f):RS P w n ρ t2:=by
 have:(fun f=>t2.get f)=fun f=>t.get f:=funext e
 exact⟨by rw[this];exact h.r,h.ro,h.gf,fun f z=>by rw[e];exact h.wf f z,h.qH⟩
theorem fV.congr{n n':Nat}{ρ ρ':Ho}{t t' t2:HT}(h:fV n ρ t n' ρ' t')(e:∀f,t2.get f=t'.get f):fV n ρ t n' ρ' t2:=⟨h.le,h.ho,fun f z=>by rw[e];exact h.same f z⟩
def Laid(P:Program)(w:World)(n:Nat)(ρ:Ho)(t:HT)(r:Nat×HT)(K:Ho→Prop):Prop:=∃ρ',fV n ρ t r.1 ρ' r.2∧RS P w r.1 ρ' r.2∧K ρ'
mutual
theorem acO:∀{d:DC}{v:Value}{n:Nat}{ρ:Ho}{t:HT}(z:Nat→Nat),oa d=true→DW w d v→RS P w n ρ t→∃el,(∀m,m<n→el m=z m)∧Laid P w n ρ t ((eP el d n t).1,(eP el d n t).2.1) fun ρ'=>VR ρ' (eP el d n t).2.2 v∧eH (eP el d n t).2.2=true
 |.i _ _,v,n,ρ,t,z,_,h,M=>⟨z,fun _ _=>rfl,ρ,fV.refl ..,M,by simpa only[DW,VR,eP] using h,rfl⟩
 |.b _,v,n,ρ,t,z,_,h,M=>⟨z,fun _ _=>rfl,ρ,fV.refl ..,M,by simpa only[DW,VR,eP] using h,rfl⟩
 |.s _ _,v,n,ρ,t,z,_,h,M=>⟨z,fun _ _=>rfl,ρ,fV.refl ..,M,by simpa only[DW,VR,eP] using h,rfl⟩
 |.nil,v,n,ρ,t,z,_,h,M=>⟨z,fun _ _=>rfl,ρ,fV.refl ..,M,by simpa only[DW,VR,eP] using h,rfl⟩
 |.raw _ _ _,v,n,ρ,t,z,Z,_,_=>by simp[oa] at Z
 |.sl rows,v,n,ρ,t,z,Z,h,M=>by
  simp only[oa,cS,gZ] at Z;have fL:rows≠[]:=fun e=>by rw[e] at Z;simp at Z
  simp only[DW] at h;obtain⟨bw,off,cap,es,rfl,hl,E4,⟨c,e,fz,O,kG⟩,Y⟩:=h;obtain⟨G,ha,ρ1,k1,k2,k3⟩:=aaE (i:=0) z Z.2 Y M;have I:(rows.headD []).length=es:=by
   cases rows with
   |nil=>exact absurd rfl fL
   |cons r rs=>simp only[BV] at Y;exact Y.1
  have mE:bw<w.heap.size:=(Array.getElem?_eq_some_iff.1 O).1;generalize hr:ko G rows n t=r at k1 k2 k3;obtain⟨n1,t1,ls⟩:=r
  let el:Nat→Nat:=fun m=>if m=n1 then e else G m
  have Pk:n≤n1:=by have:=FJ (el:=G) rows n t;rw[hr] at this;exact this
  have hlr:ko el rows n t=(n1,t1,ls):=by
   rw[←hr];exact Pw rows n t fun m h1 h2=>by rw[hr] at h2;show(if m=n1 then e else G m)=_;rw[aZ (by have h2:m<n1:=h2;omega)]
  obtain⟨L,krow⟩:=k3;have L:ls.length=rows.length:=L
  obtain⟨ρ',t',h1,h2,h3,h4⟩:=RS.push k2 rows.length ⟨bw,off,cap*es,true,false⟩ rfl rfl mE (some (.row e es 0 rows.length rows.length 1 (fU ls .emp 0))) (fun x hx ρ' hle=>by
   cases hx
   refine⟨E4,fun _=>rfl,bq _,fun _ _=>⟨⟨c,fz,O,kG⟩,iH _ hl,fun i hi=>?_,fun h=>(by cases h),fun h=>absurd rfl h,(fun h=>by rcases h with h|h<;>cases h),(fun h=>by rcases h with h|h<;>cases h)⟩⟩;have hi:i<ls.length:=by rw[L];exact hi
   obtain⟨q1,q2⟩:=krow i ls[i] (c7 hi);refine⟨ls[i],?_,q1,fun j x hx=>?_⟩
   ·rw[sX,bh ⟨gT _,ah⟩];exact c7 hi
   obtain⟨q3,cv,q4,q5⟩:=q2 j x hx
   exact⟨q3,cv,by simpa using q4,q5.mono hle⟩)
  have A:eP el (.sl rows) n t=(n1+1,t1.set n1 (.row (el n1) (rows.headD []).length 0 rows.length rows.length 1 (fU ls .emp 0)),.slice n1 rows.length 0 rows.length (rows.headD []).length):=by
   simp only[eP,hlr]
  have EW:el n1=e:=bh rfl;have U:∀f,(t1.set n1 (.row (el n1) (rows.headD []).length 0 rows.length rows.length 1 (fU ls .emp 0))).get f=t'.get f:=fun f=>by
   rw[GT.di]
   by_cases ef:f=n1
   ·subst ef;rw[bh rfl,EW,I];exact h4.symm
   rw[aZ ef]
   by_cases lt:f<n1
   ·exact(h1.same f lt).symm
   have a1:t'.get f=none:=h2.wf f (by show n1+1≤f;omega);have a2:t1.get f=none:=k2.wf f (by show n1≤f;omega);rw[a1,a2]
  refine⟨el,fun m hm=>?_,ρ',?_,?_,?_,?_⟩
  ·show(if m=n1 then e else G m)=_;rw[aZ ah];exact ha m hm
  ·rw[A];exact k1.trans (h1.congr U)
  ·rw[A];exact h2.congr U
  ·rw[A];simp only[VR];refine⟨_,_,cap,h3,rfl,⟨hl,by rw[fG,I];exact iH _ hl⟩,.inl ⟨rfl,by rw[I];show 0+cap*es≤cap*es;omega⟩⟩
  rw[A];rfl
theorem aaE:∀{rows:ak}{bw off es i n:Nat}{ρ:Ho}{t:HT}(G:Nat→Nat),xB rows=true→BV w bw off es i rows→RS P w n ρ t→∃el,(∀m,m<n→el m=G m)∧Laid P w n ρ t ((ko el rows n t).1,(ko el rows n t).2.1) fun ρ'=>(ko el rows n t).2.2.length=rows.length∧∀k l,(ko el rows n t).2.2[k]?=some l→l.length=es∧∀(j:Nat)x,l[j]?=some x→eH x=true∧∃cv,w.cell? ⟨bw,off+(i+k)*es+j,none⟩=some cv∧VR ρ' x cv
 |[],bw,off,es,i,n,ρ,t,G,_,_,M=>⟨G,fun _ _=>rfl,ρ,fV.refl ..,M,rfl,fun k l h=>by simp[ko] at h⟩
 |r::rs,bw,off,es,i,n,ρ,t,G,O,h,M=>by
  simp only[xB,cS] at O;simp only[BV] at h;obtain⟨z,a1,ρ1,b1,c1,d1,e1⟩:=aaF G O.1 h.2.1 M;obtain⟨A,a2,U,b2,c2,d2,e2⟩:=aaE z O.2 h.2.2 c1;have hc:dR A r n t=dR z r n t:=Px r n t fun m _ h2=>a2 m h2
  have I:ko A (r::rs) n t=((ko A rs (dR z r n t).1 (dR z r n t).2.1).1,(ko A rs (dR z r n t).1 (dR z r n t).2.1).2.1,(dR z r n t).2.2::(ko A rs (dR z r n t).1 (dR z r n t).2.1).2.2):=by
   rw[←hc];rfl
  have hle:=FK (el:=z) r n t;refine⟨A,fun m hm=>by rw[a2 m (jg hm hle)];exact a1 m hm,U,?_,?_,?_,?_⟩
  ·rw[I];exact b1.trans b2
  ·rw[I];exact c2
  ·rw[I];exact congrArg Nat.succ d2
  rw[I];intro k l L
  cases k with
  |zero=>
   simp only[Mj,eB] at L;subst L;refine⟨by rw[d1];exact h.1,fun j x Y=>?_⟩;obtain⟨Z,cv,o2,o3⟩:=e1 j x Y;exact⟨Z,cv,by simpa using o2,o3.mono b2.ho⟩
  |succ k=>
   simp only[Nz] at L;obtain⟨Z,o2⟩:=e2 k l L;refine⟨Z,fun j x Y=>?_⟩;obtain⟨p1,cv,p2,p3⟩:=o2 j x Y;exact⟨p1,cv,by rw[show i+(k+1)=i+1+k by omega];exact p2,p3⟩
theorem aaF:∀{r:List DC}{bw o n:Nat}{ρ:Ho}{t:HT}(G:Nat→Nat),j' r=true→EL w bw o r→RS P w n ρ t→∃el,(∀m,m<n→el m=G m)∧Laid P w n ρ t ((dR el r n t).1,(dR el r n t).2.1) fun ρ'=>(dR el r n t).2.2.length=r.length∧∀(j:Nat)x,(dR el r n t).2.2[j]?=some x→eH x=true∧∃cv,w.cell? ⟨bw,o+j,none⟩=some cv∧VR ρ' x cv
 |[],bw,o,n,ρ,t,G,_,_,M=>⟨G,fun _ _=>rfl,ρ,fV.refl ..,M,rfl,fun k l h=>by simp[dR] at h⟩
 |d::r,bw,o,n,ρ,t,G,O,h,M=>by
  simp only[j',cS] at O;simp only[EL] at h;obtain⟨⟨U,g1,g2⟩,g3⟩:=h;obtain⟨z,a1,ρ1,b1,c1,d1,e1⟩:=acO G O.1 g2 M;obtain⟨A,Z,Y,b2,c2,d2,e2⟩:=aaF z O.2 g3 c1;have hc:eP A d n t=eP z d n t:=PJ d n t fun m _ h2=>Z m h2
  have I:dR A (d::r) n t=((dR A r (eP z d n t).1 (eP z d n t).2.1).1,(dR A r (eP z d n t).1 (eP z d n t).2.1).2.1,(eP z d n t).2.2::(dR A r (eP z d n t).1 (eP z d n t).2.1).2.2):=by
   rw[←hc];rfl
  have hle:=Lv (el:=z) d n t;refine⟨A,fun m hm=>by rw[Z m (jg hm hle)];exact a1 m hm,Y,?_,?_,?_,?_⟩
  ·rw[I];exact b1.trans b2
  ·rw[I];exact c2
  ·rw[I];exact congrArg Nat.succ d2
  rw[I];intro j x L
  cases j with
  |zero=>
   simp only[Mj,eB] at L;subst L;exact⟨e1,U,by simpa using g1,d1.mono b2.ho⟩
  |succ j=>
   simp only[Nz] at L;obtain⟨p1,cv,p2,p3⟩:=e2 j x L;exact⟨p1,cv,by rw[show o+(j+1)=o+1+j by omega];exact p2,p3⟩
end
def Wz(el:Nat→Nat)(z:List DC)(n:Nat):Nat×HT×List al:=dR el z n .emp
def OE(iw:Tr aV)(iA:Tr Nat)(N n f:Nat)(z:List DC)(l s:Nat):Prop:=∀el:Nat→Nat,match Wz el z n with
 |(n1,t1,A)=>∃H',sv iw iA .leaf N N f [.agg A] (iq n1 t1)= .ok (.str l s) H'
open Classical in
def yd(iw:Tr aV)(iA:Tr Nat)(N n f:Nat)(args:List al)(H:aw):aC:=
 if h:∃(ls:Nat×Nat)(A:List al)(z:List DC),args=[.agg A]∧bU H iN z A∧j' z=true∧OE iw iA N n f z ls.1 ls.2∧aq (vD ls.1 ls.2)= .s ls.1 ls.2 then .ok (.str h.choose.1 h.choose.2) H else .err 96
theorem aaG{iw:Tr aV}{iA:Tr Nat}{N n f:Nat}{args:List al}{H H':aw}{v:al}(h:yd iw iA N n f args H= .ok v H'):∃l s A z,args=[.agg A]∧bU H iN z A∧j' z=true∧OE iw iA N n f z l s∧v= .str l s∧H'=H:=by
 unfold yd at h
 split at h
 ·rename_i k
  cases h
  obtain⟨A,z,G,h2,I,L,_⟩:=k.choose_spec;exact⟨_,_,A,z,G,h2,I,L,rfl,rfl⟩
 cases h
theorem acP:∀{I:List DC}{vs:List Value}{n:Nat}{ρ:Ho}{t:HT}(G:Nat→Nat),j' I=true→(vs.length=I.length∧∀(i:Nat)d,I[i]?=some d→∃v,vs[i]?=some v∧DW w d v)→RS P w n ρ t→∃el,(∀m,m<n→el m=G m)∧Laid P w n ρ t ((dR el I n t).1,(dR el I n t).2.1) fun ρ'=>bO ρ' (dR el I n t).2.2 vs∧(dR el I n t).2.2.all eH=true
 |[],vs,n,ρ,t,G,_,h,O=>by
  have:vs=[]:=o8 h.1;subst this;exact⟨G,fun _ _=>rfl,ρ,fV.refl ..,O,by simp only[dR,bO],rfl⟩
 |d::r,vs,n,ρ,t,G,U,h,O=>by
  simp only[j',cS] at U;obtain⟨L,Z⟩:=h
  cases vs with
  |nil=>simp at L
  |cons v vs=>
   obtain⟨v',e0,g2⟩:=Z 0 d rfl;simp only[Mj,eB] at e0;subst e0;obtain⟨z,a1,ρ1,b1,c1,d1,e1⟩:=acO G U.1 g2 O;obtain⟨A,a2,Y,b2,c2,d2,e2⟩:=acP (vs:=vs) z U.2 ⟨by simpa using L,fun i d hd=>by simpa using Z (i+1) d (by simpa using hd)⟩ c1;have hc:eP A d n t=eP z d n t:=PJ d n t fun m _ h2=>a2 m h2
   have M:dR A (d::r) n t=((dR A r (eP z d n t).1 (eP z d n t).2.1).1,(dR A r (eP z d n t).1 (eP z d n t).2.1).2.1,(eP z d n t).2.2::(dR A r (eP z d n t).1 (eP z d n t).2.1).2.2):=by
    rw[←hc];rfl
   have hle:=Lv (el:=z) d n t;refine⟨A,fun m hm=>by rw[a2 m (jg hm hle)];exact a1 m hm,Y,?_,?_,?_,?_⟩
   ·rw[M];exact b1.trans b2
   ·rw[M];exact c2
   ·rw[M];simp only[bO];exact⟨v,vs,rfl,d1.mono b2.ho,d2⟩
   rw[M];simp only[IE,e1,Bool.true_and];exact e2
theorem toldOkD{iw:Tr aV}{iA:Tr Nat}{N n f:Nat}(M:P.follows .mixedOrders=true)(hT:F3 P iw)(hx:Mx P iA)(hn:P.globals.size≤n):RC P f (yd iw iA N n f):=by
 refine⟨fun args H hm v H' h=>?_,fun args H v H' ρ C w dj h hm nu hR hK hF hG O=>?_⟩
 ·obtain⟨l,s,az,z,_,_,_,_,rfl,rfl⟩:=aaG h;exact eF.refl _
 obtain⟨l,s,az,z,rfl,hr,hf,U,rfl,rfl⟩:=aaG h;have mE:xH P w:=RF hR hG;simp only[bO] at O;obtain⟨v,tl,e1,O,rfl⟩:=O;simp only[VR] at O;obtain⟨vs,rfl,Y,_⟩:=O;have G:vs.toList.length=z.length∧∀(i:Nat)d,z[i]?=some d→∃v,vs.toList[i]?=some v∧DW w d v:=by
  refine⟨by rw[Y.length,hr.length],fun i d hd=>?_⟩;obtain⟨a,I,h2⟩:=hr.get hd;obtain⟨cv,h3,h4⟩:=Y.get i a I;have hfd:oa d=true:=by
   have:∀(l:List DC)(i:Nat),j' l=true→l[i]?=some d→oa d=true:=fun l=>by
    induction l with
    |nil=>intro i _ h;simp at h
    |cons x r ih=>
     intro i h hi;simp only[j',cS] at h
     cases i with
     |zero=>simp at hi;subst hi;exact h.1
     |succ i=>exact ih i h.2 (by simpa using hi)
   exact this z i hf hd
  exact⟨cv,h3,ahn hR hK hfd h2 h4⟩
 obtain⟨el,_,A,_,Z,k3,k4⟩:=acP (P:=P) (n:=n) (t:=.emp) (fun _=>0) hf G (RS.start hn mE);obtain⟨H1,OU⟩:=U el;have post:∀{cv w'},cP A (fun f=>(dR el z n .emp).2.1.get f) w (iq (dR el z n .emp).1 (dR el z n .emp).2.1) (.str l s) H1 cv w'→cP ρ C w H' (.str l s) H' cv w':=fun hp=>by
  have hk:=hp.TA (fun f g h e=>Z.ro f g h e);obtain⟨_,WI,_,_⟩:=hp;exact⟨ρ,by simpa only[VR] using WI,hk.ext _ _ _,by rw[oL];exact hR.kept hk⟩
 have L:fk A (iq (dR el z n .emp).1 (dR el z n .emp).2.1).next H1.next:=fun f g I _=>by
  cases e:A f g with
  |none=>rfl
  |some h=>have:=Z.gf f g h e;have I:(dR el z n .emp).1≤f:=I;have this:f<(dR el z n .emp).1:=this;omega
 have hv2:bO A [.agg (dR el z n .emp).2.2] dj.toList:=by
  rw[e1];simp only[bO,VR];exact⟨_,_,rfl,⟨vs,rfl,k3,k4⟩,rfl⟩
 rcases(LM M hT hx YG N).sound f [.agg (dR el z n .emp).2.2] (iq (dR el z n .emp).1 (dR el z n .emp).2.1) (.str l s) H1 A (fun f=>(dR el z n .emp).2.1.get f) w dj OU (gT _) (fun x hx=>Z.wf x hx) Z.r (fun f o _ h=>h) L Z.qH hv2 with⟨I,h2⟩|⟨cv,w',I,h2⟩
 ·exact .inl ⟨I,Calls.mono h2 fun e w'⟨cv,he,hp⟩=>⟨cv,he,post hp⟩⟩
 exact .inr ⟨cv,w',I,post h2⟩
end
def Ch(t:HT)(z:Nat):Nat→al→Option DC
 |_,.int k n=>some (.i k n)
 |_,.bool b=>some (.b b)
 |_,.str l s=>some (.s l s)
 |_,.fE=>some .nil
 |m+1,.slice f g off l es=>match t.get f with
  |some (.row _ cV _ n lo _ cs)=>bif Nat.beq cV es&&Nat.ble lo g&&Nat.ble g n&&Nat.beq (off/es*es) off&&Nat.ble 1 l&&Nat.blt f z then
    ((List.range l).mapM fun i=>match cs.get (off/es+i) with
     |some row=>bif Nat.beq row.length es&&Nat.blt (off/es+i) g then row.mapM (Ch t z m) else none
     |none=>none).map .sl else none
  |_=>none
 |_,_=>none
section
variable{H:aw}
theorem rep_mapM{X:Nat→Prop}{f:al→Option DC}(z:∀a d,f a=some d→bH H X d a):∀{l:List al}{r:List DC},l.mapM f=some r→bU H X r l:=by
 intro l
 induction l with
 |nil=>intro r h;simp at h;subst h;simp only[bU]
 |cons x s A=>
  intro r h;simp only[List.mapM_cons,Option.bind_eq_bind,Dk,Option.pure_def,eB] at h;obtain⟨d,G,I,h2,rfl⟩:=h;simp only[bU];exact⟨x,s,rfl,z _ _ G,A h2⟩
theorem afp:∀(m:Nat)(a:al)(d:DC),Ch H.t H.next m a=some d→bH H iN d a:=by
 intro m
 induction m with
 |zero=>
  intro a d h
  cases a<;>simp only[Ch,eB,reduceCtorEq] at h
  all_goals(subst h;simp only[bH])
 |succ m Z=>
  intro a d h
  cases a with
  |slice f g off l es=>
   simp only[Ch] at h
   split at h
   ·rename_i elem cV aF n lo fl cs ho
    cases A:(Nat.beq cV es&&Nat.ble lo g&&Nat.ble g n&&Nat.beq (off/es*es) off&&Nat.ble 1 l&&Nat.blt f H.next) with
    |false=>rw[A] at h;simp at h
    |true=>
     rw[A] at h;simp only[cS] at A;obtain⟨⟨⟨⟨⟨I,L⟩,M⟩,O⟩,b5⟩,b6⟩:=A;have I:=cq I;subst I;have L:=aS L;have M:=aS M;have O:=cq O;simp only[cond_true,Hv] at h;obtain⟨rows,h1,rfl⟩:=h;obtain⟨k1,k2⟩:=Qf h1;have hlen:rows.length=l:=by rw[k1,Mm]
     simp only[bH];refine⟨f,g,off,cV,by rw[hlen],.inr ⟨fun h=>h,?_,off/cV,O.symm,dF.oS fun i row hi=>?_⟩⟩
     ·simpa[Nat.blt_eq] using b6
     have U:i<l:=by rw[←hlen];exact(List.getElem?_eq_some_iff.1 hi).1
     obtain⟨r',Y,z⟩:=k2 i i (by rw[Tj U]);rw[hi] at Y;cases Y
     split at z
     ·rename_i cells hc
      cases G:(Nat.beq cells.length cV&&Nat.blt (off/cV+i) g) with
      |false=>rw[G] at z;simp at z
      |true=>
       rw[G] at z;simp only[cS] at G;obtain⟨q1,q2⟩:=G;have q1:=cq q1;have q2:off/cV+i<g:=by simpa[Nat.blt_eq] using q2
       refine⟨cells,⟨elem,aF,n,lo,fl,cs,by rw[q1];exact ho,L,M,q2,hc⟩,q1,rep_mapM (fun a d h=>Z a d h) z⟩
     cases z
   cases h
  |_=>simp only[Ch,eB,reduceCtorEq] at h;try(subst h;simp only[bH])
end
section
variable{S:Nat→Bool}{H H1:aw}{X':Nat→Prop}
mutual
theorem Ru(I:BT S H1)(A:∀f,H.next≤f→¬X' f):∀{d:DC}{a:al},hD S a=true→oa d=true→bH H1 iN d a→bH (n9 S H1 H) X' d (kF H.next a)
 |.i _ _,a,_,_,h=>by simp only[bH] at h⊢;subst h;rfl
 |.b _,a,_,_,h=>by simp only[bH] at h⊢;subst h;rfl
 |.s _ _,a,_,_,h=>by simp only[bH] at h⊢;subst h;rfl
 |.nil,a,_,_,h=>by simp only[bH] at h⊢;subst h;rfl
 |.raw f n es,a,_,z,_=>by simp[oa] at z
 |.sl rows,a,G,z,h=>by
  simp only[oa,cS] at z;simp only[bH] at h⊢;obtain⟨f,g,off,es,rfl,h⟩:=h;simp only[hD] at G;refine⟨f+H.next,g,off,es,rfl,h.imp id fun⟨_,L,q,ho,M⟩=>⟨A _ ah,?_,q,ho,YA I A G z.2 M⟩⟩;show f+H.next<H.next+H1.next;omega
theorem YA(z:BT S H1)(M:∀f,H.next≤f→¬X' f){f g es:Nat}(A:S f=true):∀{q:Nat}{rows:ak},xB rows=true→dF H1 iN f g es q rows→dF (n9 S H1 H) X' (f+H.next) g es q rows
 |_,[],_,_=>trivial
 |q,row::r,G,h=>by
  simp only[xB,cS] at G;simp only[dF] at h⊢;obtain⟨⟨l,⟨elem,aF,m,lo,fl,cs,O,h2,Y,Z,h5⟩,h6,h7⟩,h8⟩:=h;obtain⟨_,o,ho,I⟩:=z f A;rw[O] at ho;cases ho;obtain⟨L,e,hc⟩:=aaC (δ:=H.next) I;obtain⟨l',U,j2,j3⟩:=hc q ah;rw[h5] at U;cases U;refine⟨⟨qB H.next l,⟨elem,aF,m,lo,fl,L,?_,h2,Y,Z,j3⟩,by rw[Cp,pc];exact h6,Yh z M j2 G.1 h7⟩,YA z M A G.2 h8⟩;rw[zE z,bh ⟨ah,by rw[show f+H.next-H.next=f by omega];exact A⟩,show f+H.next-H.next=f by omega,O,rS,e,Cp,pc]
theorem Yh(G:BT S H1)(I:∀f,H.next≤f→¬X' f):∀{r:List DC}{l:List al},qU S l=true→j' r=true→bU H1 iN r l→bU (n9 S H1 H) X' r (qB H.next l)
 |[],_,_,_,h=>by simp only[bU] at h⊢;subst h;rfl
 |d::r,l,z,A,h=>by
  simp only[bU] at h⊢;obtain⟨a,s,rfl,L,h2⟩:=h;simp only[qU,cS] at z;simp only[j',cS] at A;exact⟨_,_,rfl,Ru G I z.1 A.1 L,Yh G I z.2 A.2 h2⟩
end
end
section
variable{T:aN}{iw:Tr aV}{iA:Tr Nat}{N n f l s:Nat}
theorem sound_told(h1:T.ft.get f=none)(h2:T.xt.get f=none)(h3:T.zt.get f=some (told iw iA N n f)){H1:aw}{a b:al}{z e:Int}(he:sv iw iA .leaf N N f [.str l s] (H0 n)= .ok (.tuple [.agg [a,b],.int .i64 z,.int .i64 e]) H1)
  (U:A3 H1 (.tuple [.agg [a,b],.int .i64 z,.int .i64 e]) n (reach H1.t 6 (BU (.tuple [.agg [a,b],.int .i64 z,.int .i64 e])))=true) {c o:DC} (Y:oa c=true) (Z:oa o=true) (hc:bH H1 iN c a) (ho:bH H1 iN o b):
  Sound T f [.d (.s l s)] fun r=>r= .tuple [.agg [.d c,.d o],.d (.i .i64 z),.d (.i .i64 e)]:=by
 intro G X H β ll hr hv;simp only[bb,aG,bH] at hv;obtain⟨_,_,rfl,rfl,rfl⟩:=hv;obtain⟨M,k2,O⟩:=Qx U;generalize hL:reach H1.t 6 (BU (.tuple [.agg [a,b],.int .i64 z,.int .i64 e]))=L at U M k2 O;have A:∀f,f<H.next→(n9 (fun f=>L.contains f) H1 H).t.get f=H.t.get f:=fun f I=>by rw[zE O,aZ (fun c=>by omega)]
 have hX:∀f,H.next≤f→¬XB X [] β f:=fun f I hx=>by have:=hr.x0 f (RJ f hx);omega
 simp only[hD,qU,cS] at M;refine⟨1,.tuple [.agg [kF H.next a,kF H.next b],.int .i64 z,.int .i64 e],n9 (fun f=>L.contains f) H1 H,fun lf m _ h=>?_,.tuple [.agg [.d c,.d o],.d (.i .i64 z),.d (.i .i64 e)],[],β,?_,hr.grow (Ms _ _) A ?_,?_,by simp only[VV.nb,lT];exact⟨⟨trivial,trivial,trivial⟩,trivial,trivial,trivial⟩,rfl⟩
 ·obtain⟨m,rfl⟩:∃n',m=n'+1:=⟨m-1,ah⟩;show ob (T.ft.get f) (ob (T.xt.get f) (ob (T.zt.get f) (.err (Nat.add 10000 f)) fun F=>F _ H) fun c=>tX c _ H) _=_;rw[h1,h2,h3];show told iw iA N n f [.str l s] H=_;simp only[told,he,hL];rw[U];rfl
 ·refine⟨rfl,Ms _ _,fun f I=>.inl I,fun b s h=>(by cases h),fun f I _=>A f I⟩
 ·have:=hr.aQ;show H.aQ≤H.next+H1.next;omega
 simp only[aG,bb,bH];exact⟨_,rfl,_,_,rfl,⟨_,rfl,_,_,rfl,Ru O hX M.1.1 Y hc,_,_,rfl,Ru O hX M.1.2.1 Z ho,rfl⟩,_,_,rfl,rfl,_,_,rfl,rfl,rfl⟩
theorem sound_toldD(Y:T.ft.get f=none)(h2:T.xt.get f=none)(Z:T.zt.get f=some (yd iw iA N n f)){c o:DC}(hf:j' [c,o]=true)(A:OE iw iA N n f [c,o] l s)(I:aq (vD l s)= .s l s):
  Sound T f [.agg [.d c,.d o]] fun r=>∃st:List UInt8,r= .d (aq st):=by
 intro G X H β ll hr M;simp only[bb,aG] at M;obtain⟨_,_,rfl,⟨cs,rfl,x,t1,rfl,hx,y,t2,rfl,hy,rfl⟩,rfl⟩:=M;have O:e9 H (XB X [] β) H iN:=⟨bq _,fun f _ _=>⟨fun k=>k,rfl⟩⟩;have z:∃(ls:Nat×Nat)(U:List al)(L:List DC),([al.agg [x,y]]:List al)=[.agg U]∧bU H iN L U∧j' L=true∧OE iw iA N n f L ls.1 ls.2∧aq (vD ls.1 ls.2)= .s ls.1 ls.2:=
  ⟨(l,s),[x,y],[c,o],rfl,by simp only[bU];exact⟨_,_,rfl,hx.lift O,_,_,rfl,hy.lift O,rfl⟩,hf,A,I⟩
 obtain⟨_,_,_,_,_,_,hs⟩:=z.choose_spec;refine⟨1,.str z.choose.1 z.choose.2,H,fun lf m _ h=>?_,.d (.s z.choose.1 z.choose.2),[],β,.refl,hr,by simp only[aG,bH],by simp only[VV.nb],vD z.choose.1 z.choose.2,by rw[hs]⟩;obtain⟨m,rfl⟩:∃n',m=n'+1:=⟨m-1,ah⟩;show ob (T.ft.get f) (ob (T.xt.get f) (ob (T.zt.get f) (.err (Nat.add 10000 f)) fun F=>F _ H) fun c=>tX c _ H) _=_;rw[Y,h2,Z];show yd iw iA N n f [.agg [x,y]] H=_;unfold yd;rw[dif_pos z]
end
end Go.Ev
namespace Go.Ev.Pp
def Fh:Tr aV:=HR [(27,i27),(213,i213),(318,i318),(319,i319),(320,i320),(407,i407),(408,i408),(409,i409),(410,i410),(411,i411),(412,i412),(413,i413),(414,i414),(415,i415),(500,i500),(501,i501),(502,i502),(503,i503),(504,i504),(505,i505),(506,i506),(507,i507),(508,i508),(509,i509),(510,i510),(511,i511),(512,i512),(513,i513),(565,i565),(566,i566),(567,i567),(568,i568),(569,i569),(570,i570),(571,i571),(572,i572),(573,i573),(574,i574),(575,i575),(576,i576),(610,i610),(611,i611),(612,i612),(613,i613),(614,i614),(615,i615),(616,i616),(630,i630),(631,i631),(635,i635),(636,i636),(638,i638),(640,i640),(642,i642),(645,i645),(648,i648)]
end Go.Ev.Pp
