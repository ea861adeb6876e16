/- Part 28 of rules for walks through the code of a program, and of such walks; what each part proves is said by its theorems. -/
import Derived.Test.YtmpoloiempjdpaaGreatR18
import Derived.Test.YtmpoloiempjdpaaGreatR19
set_option linter.unusedVariables false
set_option linter.unusedSimpArgs false
noncomputable section
set_option maxRecDepth 100000
set_option maxHeartbeats 4000000
namespace Go.Ev
open Go
mutual
def lp(δ:Nat):aj→aj
 |.slice f g o l es=>.slice (f+δ) g o l es
 |.agg cs=>.agg (qH δ cs)
 |.tuple cs=>.tuple (qH δ cs)
 |x=>x
def qH(δ:Nat):List aj→List aj
 |[]=>[]
 |x::r=>lp δ x::qH δ r
end
mutual
def gB(S:Nat→Bool):aj→Bool
 |.bool _=>true
 |.int _ _=>true
 |.str _ _=>true
 |.fR=>true
 |.slice f _ _ _ _=>S f
 |.agg cs=>qX S cs
 |.tuple cs=>qX S cs
 |_=>false
def qX(S:Nat→Bool):List aj→Bool
 |[]=>true
 |x::r=>gB S x&&qX S r
end
theorem aaw{S:Nat→Bool}{δ:Nat}{a:aj}(z:gB S a=true)(h:eM a=true):eM (lp δ a)=true:=by
 cases a<;>first|exact h|(simp[gB] at z)|(simp only[lp];exact h)
theorem Cq{δ:Nat}:∀l:List aj,qH δ l=l.map (lp δ)
 |[]=>rfl
 |x::r=>by simp only[qH,jv,Cq r]
theorem QQ{S:Nat→Bool}:∀{l:List aj},qX S l=true→∀{i:Nat}{x:aj},l[i]?=some x→gB S x=true
 |y::r,h,i,x,z=>by
  simp only[qX,cN] at h
  cases i with
  |zero=>simp at z;subst z;exact h.1
  |succ i=>exact QQ h.2 (by simpa using z)
mutual
theorem Su{S:Nat→Bool}{δ:Nat}{ρ0 ρ':Ho}(A:∀f g h,S f=true→ρ0 f g=some h→ρ' (f+δ) g=some h):∀{a:aj}{v:Value},gB S a=true→VR ρ0 a v→VR ρ' (lp δ a) v
 |.bool _,_,_,h=>by simpa[VR,lp] using h
 |.int _ _,_,_,h=>by simpa[VR,lp] using h
 |.str _ _,_,_,h=>by simpa[VR,lp] using h
 |.fR,_,_,h=>by simpa[VR,lp] using h
 |.slice f g o l es,_,z,h=>by
  simp only[VR,lp,gB] at h z⊢;obtain⟨x,a,c,G,e⟩:=h;exact⟨x,a,c,A _ _ _ z G,e⟩
 |.agg cs,_,z,h=>by
  simp only[VR,lp,gB] at h z⊢;obtain⟨vs,e,I,h2⟩:=h;refine⟨vs,e,Rq A z I,?_⟩;rw[Cq,List.all_map,tQ];intro x G;obtain⟨i,hi⟩:=List.mem_iff_getElem?.1 G;exact aaw (QQ z hi) ((List.all_eq_true.1 h2) x G)
 |.tuple cs,_,z,h=>by
  simp only[VR,lp,gB] at h z⊢;obtain⟨vs,e,I⟩:=h;exact⟨vs,e,Rq A z I⟩
 |.ptr _ _ _,_,z,_=>by simp[gB] at z
 |.mI,_,z,_=>by simp[gB] at z
 |.func _ _ _,_,z,_=>by simp[gB] at z
 |.ns,_,z,_=>by simp[gB] at z
 |.iface _ _,_,z,_=>by simp[gB] at z
 |.kA,_,z,_=>by simp[gB] at z
 |.map _,_,z,_=>by simp[gB] at z
 |.uX,_,z,_=>by simp[gB] at z
 |.undef,_,z,_=>by simp[gB] at z
theorem Rq{S:Nat→Bool}{δ:Nat}{ρ0 ρ':Ho}(z:∀f g h,S f=true→ρ0 f g=some h→ρ' (f+δ) g=some h):∀{l:List aj}{vs:List Value},qX S l=true→bO ρ0 l vs→bO ρ' (qH δ l) vs
 |[],_,_,h=>by simpa[bO,qH] using h
 |x::r,_,A,h=>by
  simp only[bO,qH,qX,cN] at h A⊢;obtain⟨v,t,e,G,h2⟩:=h;exact⟨v,t,e,Su z A.1 G,Rq z A.2 h2⟩
end
def Bs(δ:Nat):cV→cV
 |.row elem es aD n lo fl cs=>.row elem es aD n lo fl (gE ((List.range n).map fun i=>qH δ ((cs.get i).getD [])) .emp 0)
 |o=>o
def El(S:Nat→Bool):cV→Bool
 |.row _ _ _ n _ _ cs=>(List.range n).all fun i=>match cs.get i with
  |some l=>qX S l
  |none=>false
 |_=>false
theorem abk{S:Nat→Bool}{δ elem es aD n lo fl:Nat}{cs:RT}(G:El S (.row elem es aD n lo fl cs)=true):∃z,Bs δ (.row elem es aD n lo fl cs)= .row elem es aD n lo fl z∧∀i,i<n→∃l,cs.get i=some l∧qX S l=true∧z.get i=some (qH δ l):=by
 refine⟨_,rfl,fun i hi=>?_⟩;simp only[El,tQ] at G;have h:=G i (List.mem_range.2 hi)
 cases A:cs.get i with
 |none=>rw[A] at h;cases h
 |some l=>
  rw[A] at h;refine⟨l,rfl,h,?_⟩;rw[uF,bg ⟨hZ _,by simp;exact hi⟩];simp[hi,A]
theorem ObjAt_rel{S:Nat→Bool}{δ:Nat}{ρ0 ρ':Ho}{w:World}{h:Hm}{g:Nat}{o:cV}(G:∀f g h,S f=true→ρ0 f g=some h→ρ' (f+δ) g=some h)(I:El S o=true)(k:AL ρ0 w h g o):AL ρ' w h g (Bs δ o):=by
 cases o with
 |map es=>simp[El] at I
 |row elem es aD n lo fl cs=>
  obtain⟨O,e,U⟩:=abk (δ:=δ) I;rw[e];obtain⟨Y,Z,k3,k4⟩:=k;refine⟨Y,Z,k3,fun a b=>?_⟩;have r:=k4 a b;refine⟨r.row,r.fits,fun i hi=>?_,r.Dm,r.Dn,r.IF,r.JA⟩;obtain⟨l,h1,h2,h3⟩:=r.cell i hi;obtain⟨l',L,j2,j3⟩:=U i al;rw[h1] at L;cases L;refine⟨_,j3,by rw[Cq,pH];exact h2,fun j x z=>?_⟩;rw[Cq,yq] at z
  cases A:l[j]?with
  |none=>rw[A] at z;cases z
  |some y=>
   rw[A] at z;simp only[sf,eC] at z;subst z;obtain⟨o1,cv,o2,o3⟩:=h3 j y A;have M:=QQ j2 A;exact⟨aaw M o1,cv,o2,Su G M o3⟩
def qY(S:Nat→Bool)(δ:Nat)(t0:HT):Nat→HT→HT
 |0,t=>t
 |k+1,t=>match S k,t0.get k with
  |true,some o=>(qY S δ t0 k t).set (k+δ) (Bs δ o)
  |_,_=>qY S δ t0 k t
theorem abl{S:Nat→Bool}{δ:Nat}{t0:HT}:∀(k:Nat)(t:HT)(f:Nat),(qY S δ t0 k t).get f=if δ≤f∧f<k+δ∧S (f-δ)=true∧(t0.get (f-δ)).isSome=true then(t0.get (f-δ)).map (Bs δ) else t.get f
 |0,t,f=>by rw[aZ al];rfl
 |k+1,t,f=>by
  have z:=abl (S:=S) (δ:=δ) (t0:=t0) k t f
  by_cases e:f=k+δ
  ·subst e;rw[show k+δ-δ=k by omega] at z⊢;have A:¬(δ≤k+δ∧k+δ<k+δ∧S k=true∧(t0.get k).isSome=true):=by omega
   rw[aZ A] at z;unfold qY
   cases I:S k
   ·rw[aZ (by simp)];exact z
   cases ho:t0.get k with
   |none=>rw[aZ (by simp)];exact z
   |some o=>
    rw[bg ⟨al,al,rfl,rfl⟩];show((qY S δ t0 k t).set (k+δ) (Bs δ o)).get (k+δ)=_;rw[GT.da,bg rfl];rfl
  have G:(qY S δ t0 (k+1) t).get f=(qY S δ t0 k t).get f:=by
   rw[show qY S δ t0 (k+1) t=(match S k,t0.get k with
    |true,some o=>(qY S δ t0 k t).set (k+δ) (Bs δ o)
    |_,_=>qY S δ t0 k t) from rfl]
   split
   ·rw[GT.da,aZ e]
   rfl
  rw[G,z]
  by_cases c:δ≤f∧f<k+δ∧S (f-δ)=true∧(t0.get (f-δ)).isSome=true
  ·rw[bg c,bg ⟨c.1,al,c.2.2⟩]
  rw[aZ c,aZ (fun d=>c ⟨d.1,al,d.2.2⟩)]
def Bt(S:Nat→Bool)(H1:ax):Prop:=∀f,S f=true→f<H1.next∧∃o,H1.t.get f=some o∧El S o=true
def oJ(S:Nat→Bool)(H1 H:ax):ax:=⟨H.next+H1.next,H.aR,H.ws,qY S H.next H1.t H1.next H.t⟩
theorem zI{S:Nat→Bool}{H1 H:ax}(z:Bt S H1)(f:Nat):(oJ S H1 H).t.get f=if H.next≤f∧S (f-H.next)=true then(H1.t.get (f-H.next)).map (Bs H.next) else H.t.get f:=by
 show(qY S H.next H1.t H1.next H.t).get f=_;rw[abl]
 by_cases c:H.next≤f∧S (f-H.next)=true
 ·obtain⟨A,o,h2,_⟩:=z _ c.2;rw[bg c,bg ⟨c.1,al,c.2,by rw[h2];rfl⟩]
 rw[aZ c,aZ (fun d=>c ⟨d.1,d.2.2.1⟩)]
theorem overH_tame{S:Nat→Bool}{H1 H:ax}(z:Bt S H1)(I:H.aR≤H.next):eE H (oJ S H1 H):=by
 refine⟨Mm _ _,rfl,fun _ h=>h,fun f A _=>?_,fun G f A=>?_,fun f A=>?_⟩
 ·rw[zI z,aZ (fun c=>by omega)]
 ·rw[zI z];have A:H.next+H1.next≤f:=A;rw[aZ (fun c=>by have:=(z _ c.2).1;omega)];exact G f al
 rw[zI z]
 split
 ·rename_i c;obtain⟨_,o,h2,_⟩:=z _ c.2;rw[h2];simp
 exact A
theorem post_over{P:Program}{S:Nat→Bool}{ρ:Ho}{C:Nat→Option cV}{w w':World}{H H1:ax}{n:Nat}{v0:aj}{cv:Value}(hn:P.globals.size≤n)(Z:∀f,S f=true→n≤f)(hS:Bt S H1)(hd:gB S v0=true)(n5:∀x,H.next≤x→H.t.get x=none)(hR:R ρ C w)(hF:fC ρ H.next (oJ S H1 H).next)
  (hp:cZ (Ev.base P) (fun _=>none) w (H0 n) v0 H1 cv w'):cZ ρ C w H (lp H.next v0) (oJ S H1 H) cv w':=by
 have Y:=hp.kept;obtain⟨ρ0,hv,hx,I⟩:=hp
 let ρ':Ho:=fun f g=>if H.next≤f∧f<H.next+H1.next then(if S (f-H.next)=true then ρ0 (f-H.next) g else none) else ρ f g
 have L:∀f g h,S f=true→ρ0 f g=some h→ρ' (f+H.next) g=some h:=fun f g h hs e=>by
  show(if H.next≤f+H.next∧f+H.next<H.next+H1.next then(if S (f+H.next-H.next)=true then ρ0 (f+H.next-H.next) g else none) else ρ (f+H.next) g)=_;have:=(hS f hs).1;rw[bg ⟨al,al⟩,show f+H.next-H.next=f by omega,bg hs];exact e
 have z:∀f g h,ρ' f g=some h→(H.next≤f∧f<H.next+H1.next∧S (f-H.next)=true∧ρ0 (f-H.next) g=some h)∨(¬(H.next≤f∧f<H.next+H1.next)∧ρ f g=some h):=fun f g h e=>by
  have e:(if H.next≤f∧f<H.next+H1.next then(if S (f-H.next)=true then ρ0 (f-H.next) g else none) else ρ f g)=some h:=e
  split at e
  ·rename_i c
   split at e
   ·rename_i c2;exact .inl ⟨c.1,c.2,c2,e⟩
   cases e
  rename_i c;exact .inr ⟨c,e⟩
 have hle:ρ.le ρ':=fun f g h e=>by
  show(if H.next≤f∧f<H.next+H1.next then _ else ρ f g)=_;rw[aZ (fun c=>by rw[hF f g c.1 c.2] at e;cases e)];exact e
 have A:∀f g h,S f=true→ρ0 f g=some h→w.heap.size≤h.bE∧h.ro=false:=fun f g h hs e=>by
  rcases hx.bE f g h e with e|e|⟨g0,h0,e,_⟩
  ·obtain⟨k,_⟩:=qf e;have:=Z f hs;omega
  ·exact e
  obtain⟨k,_⟩:=qf e;have:=Z f hs;omega
 have M:=hR.kept Y;refine⟨ρ',Su L hd hv,⟨hle,fun f g h e=>?_,fun f g h e=>?_,fun b O _=>Y.um b O,Y.size,Mm _ _,Y.os,Y.tape,Y.output⟩,⟨fun f o ho g h e=>?_,fun f g h f' g' h' e G fP O=>?_,fun f g h e=>?_,fun f g h g' h' e G O=>?_,fun f g h e hr hpn=>?_⟩⟩
 ·rcases z f g h e with⟨a,b,_,_⟩|⟨_,e⟩
  ·exact .inr ⟨a,b⟩
  exact .inl ⟨g,h,e⟩
 ·rcases z f g h e with⟨a,b,c,e⟩|⟨_,e⟩
  ·exact .inr (.inl (A _ g h c e))
  exact .inl e
 ·rcases z f g h e with⟨a,b,c,e⟩|⟨c,e⟩
  ·unfold eg at ho;rw[bg ⟨a,b⟩,zI hS,bg ⟨a,c⟩] at ho;obtain⟨h1,o1,h2,h3⟩:=hS _ c;rw[h2] at ho
   cases ho
   have hup:eg (fun _=>none) (H0 n) H1 (f-H.next)=some o1:=by
    unfold eg
    split
    ·exact h2
    split
    ·rename_i k;rw[h2,show(H0 n).t.get (f-H.next)=none from GT.ta _] at k;cases k
    exact h2
   exact ObjAt_rel L h3 (I.obj _ _ hup g h e)
  have za:C f=some o:=by
   unfold eg at ho;rw[aZ (show¬(H.next≤f∧f<(oJ S H1 H).next) from c)] at ho;have U:(oJ S H1 H).t.get f=H.t.get f:=by
    rw[zI hS,aZ (fun d=>c ⟨d.1,by have:=(hS _ d.2).1;omega⟩)]
   rw[bg U] at ho;exact ho
  exact(M.obj f o za g h e).gJ hle rfl
 ·rcases z f g h e with⟨a,b,c,e⟩|⟨c,e⟩<;>rcases z f' g' h' G with⟨a',b',c',G⟩|⟨c',G⟩
  ·exact I.oQ _ g h _ g' h' e G al O
  ·have h1:=(A _ _ _ c e).1;have h2:=hR.gY _ _ _ G;omega
  ·have h1:=(A _ _ _ c' G).1;have h2:=hR.gY _ _ _ e;omega
  exact hR.oQ f g h f' g' h' e G fP O
 ·rcases z f g h e with⟨a,b,c,e⟩|⟨c,e⟩
  ·exact I.gY _ _ _ e
  exact M.gY _ _ _ e
 ·rcases z f g h e with⟨a,b,c,e⟩|⟨c,e⟩<;>rcases z f g' h' G with⟨a',b',c',G⟩|⟨c',G⟩
  ·exact I.uniq _ _ _ _ _ e G O
  ·exact absurd ⟨a,b⟩ c'
  ·exact absurd ⟨a',b'⟩ c
  exact hR.uniq f g h g' h' e G O
 rcases z f g h e with⟨a,b,c,e⟩|⟨c,e⟩
 ·rw[(A _ _ _ c e).2] at hr;cases hr
 have k:=M.bP f g h e hr hpn;refine⟨fun g2 h2 e2=>?_,k.2⟩;rcases z f g2 h2 e2 with⟨a',b',_,_⟩|⟨_,e3⟩
 ·exact absurd ⟨a',b'⟩ c
 exact k.1 g2 h2 e3
def Bu:aj→List Nat
 |.slice f _ _ _ _=>[f]
 |.agg cs=>cs.flatMap fun x=>match x with
  |.slice f _ _ _ _=>[f]
  |_=>[]
 |.tuple cs=>cs.flatMap fun x=>match x with
  |.slice f _ _ _ _=>[f]
  |.agg z=>z.flatMap fun y=>match y with
   |.slice f _ _ _ _=>[f]
   |_=>[]
  |_=>[]
 |_=>[]
def rowsOf(t:HT)(f:Nat):List (List aj):=match t.get f with
 |some (.row _ _ _ n _ _ cs)=>(List.range n).map fun i=>(cs.get i).getD []
 |_=>[]
def reach(t:HT):Nat→List Nat→List Nat
 |0,l=>l
 |m+1,l=>l++reach t m (l.flatMap fun f=>(rowsOf t f).flatMap fun r=>r.flatMap Bu)
def hY(H1:ax)(v:aj)(n:Nat)(L:List Nat):Bool:=gB (fun f=>L.contains f) v&&L.all fun f=>Nat.ble n f&&Nat.blt f H1.next&&(match H1.t.get f with
 |some o=>El (fun f=>L.contains f) o
 |none=>false)
theorem QR{H1:ax}{v:aj}{n:Nat}{L:List Nat}(h:hY H1 v n L=true):gB (fun f=>L.contains f) v=true∧(∀f,L.contains f=true→n≤f)∧Bt (fun f=>L.contains f) H1:=by
 simp only[hY,cN,tQ] at h;refine⟨h.1,fun f A=>aX (h.2 f (by simpa using A)).1.1,fun f A=>?_⟩;obtain⟨⟨_,h2⟩,z⟩:=h.2 f (by simpa using A);refine⟨by simpa[Nat.blt_eq] using h2,?_⟩
 cases ho:H1.t.get f with
 |none=>rw[ho] at z;cases z
 |some o=>rw[ho] at z;exact⟨o,rfl,z⟩
def told(iE:Tr aO)(iF:Tr Nat)(N n f:Nat)(args:List aj)(H:ax):aC:=
 match args with
 |[.str l s]=>match sG iE iF .leaf N N f [.str l s] (H0 n) with
  |.ok v H1=>bif hY H1 v n (reach H1.t 6 (Bu v)) then .ok (lp H.next v) (oJ (fun f=>(reach H1.t 6 (Bu v)).contains f) H1 H) else .err 95
  |.err e=>.err e
 |_=>.err 95
theorem ach{iE:Tr aO}{iF:Tr Nat}{N n f:Nat}{args:List aj}{H H':ax}{v:aj}(h:told iE iF N n f args H= .ok v H'):∃l s z H1 L,args=[.str l s]∧sG iE iF .leaf N N f [.str l s] (H0 n)= .ok z H1∧hY H1 z n L=true∧v=lp H.next z∧H'=oJ (fun f=>L.contains f) H1 H:=by
 unfold told at h
 split at h
 ·rename_i l s
  split at h
  ·rename_i z H1 G
   cases A:hY H1 z n (reach H1.t 6 (Bu z)) with
   |false=>rw[A] at h;cases h
   |true=>rw[A] at h;cases h;exact⟨l,s,z,H1,_,rfl,G,A,rfl,rfl⟩
  cases h
 cases h
theorem toldOk{P:Program}(z:P.follows .mixedOrders=true){iE:Tr aO}{iF:Tr Nat}{N n f:Nat}(hT:F1 P iE)(hx:Mr P iF)(hn:P.globals.size≤n):Sb P f (told iE iF N n f):=by
 refine⟨fun args H hm v H' h=>?_,fun args H v H' ρ C w di h hm I hR hK hF hG hv=>?_⟩
 ·obtain⟨l,s,A,H1,L,rfl,G,M,rfl,rfl⟩:=ach h;exact overH_tame (QR M).2.2 hm
 obtain⟨l,s,A,H1,L,rfl,G,M,rfl,rfl⟩:=ach h;obtain⟨k1,k2,k3⟩:=QR M;have O:xO P w:=Se hR hG;have U:bO (Ev.base P) [.str l s] di.toList:=by
  simp only[bO,VR] at hv⊢;exact hv
 have post:∀{cv w'},cZ (Ev.base P) (fun _=>none) w (H0 n) A H1 cv w'→cZ ρ C w H (lp H.next A) (oJ (fun f=>L.contains f) H1 H) cv w':=fun Y=>post_over hn k2 k3 k1 I hR hF Y
 rcases(LA z hT hx Zw N).sound f [.str l s] (H0 n) A H1 (Ev.base P) (fun _=>none) w di G (hZ _) agH (CT O) aaR (Z' hn _) Qa U with⟨Z,h2⟩|⟨cv,w',Z,h2⟩
 ·exact .inl ⟨Z,Calls.mono h2 fun e w'⟨cv,G,Y⟩=>⟨cv,G,post Y⟩⟩
 exact .inr ⟨cv,w',Z,post h2⟩
mutual
def oK:DC→Bool
 |.sl rows=>!rows.isEmpty&&xz rows
 |.raw _ _ _=>false
 |_=>true
def xz:ai→Bool
 |[]=>true
 |r::rs=>kJ r&&xz rs
def kJ:List DC→Bool
 |[]=>true
 |d::r=>oK d&&kJ r
end
mutual
def DW(w:World):DC→Value→Prop
 |.i k z,v=>v= .int k z
 |.b x,v=>v= .bool x
 |.s l s,v=>∃b:ByteArray,v= .string b∧l=b.size∧s=pack b.data.toList
 |.nil,v=>v= .slice none 0 0
 |.raw _ _ _,_=>False
 |.sl rows,v=>∃(bE off cap es:Nat),v= .slice (some ⟨bE,off,none⟩) rows.length cap∧rows.length≤cap∧0<es∧(∃c e fz,w.heap[bE]?=some (.cells c e fz)∧off+cap*es≤c.size)∧Bv w bE off es 0 rows
def Bv(w:World)(bE off es:Nat):Nat→ai→Prop
 |_,[]=>True
 |i,r::rs=>r.length=es∧Em w bE (off+i*es) r∧Bv w bE off es (i+1) rs
def Em(w:World)(bE:Nat):Nat→List DC→Prop
 |_,[]=>True
 |o,d::r=>(∃cv,w.cell? ⟨bE,o,none⟩=some cv∧DW w d cv)∧Em w bE (o+1) r
end
section
variable{ρ:Ho}{C:Nat→Option cV}{w:World}{H:ax}{X:Nat→Prop}
mutual
theorem agZ(hR:R ρ C w)(hK:gS ρ C H):∀{d:DC}{a:aj}{v:Value},oK d=true→bF H X d a→VR ρ a v→DW w d v
 |.i _ _,_,_,_,z,G=>by simp only[bF] at z;subst z;simpa only[VR,DW] using G
 |.b _,_,_,_,z,G=>by simp only[bF] at z;subst z;simpa only[VR,DW] using G
 |.s _ _,_,_,_,z,G=>by simp only[bF] at z;subst z;simpa only[VR,DW] using G
 |.nil,_,_,_,z,G=>by simp only[bF] at z;subst z;simpa only[VR,DW] using G
 |.raw _ _ _,_,_,L,_,_=>by simp[oK] at L
 |.sl rows,a,v,L,z,G=>by
  simp only[oK,cN,gx] at L;have I:rows≠[]:=fun e=>by rw[e] at L;simp at L
  simp only[bF] at z;obtain⟨f,g,off,es,rfl,z⟩:=z;obtain⟨_,_,q,rfl,A⟩:=z.resolve_left I;simp only[VR] at G;obtain⟨h,a',cap,hh,rfl,⟨hl,_⟩,hs⟩:=G;rcases hs with⟨rfl,Y⟩|⟨h0,_⟩
  ·have M:∃elem m aD lo fl cs,H.t.get f=some (.row elem es aD m lo fl cs)∧lo≤g∧g≤m:=by
    cases rows with
    |nil=>exact absurd rfl I
    |cons r rs=>
     simp only[dz] at A;obtain⟨⟨l,⟨elem,aD,m,lo,fl,cs,h1,h2,h3,_,_⟩,h4,_⟩,_⟩:=A;exact⟨elem,m,aD,lo,fl,cs,h4▸h1,h2,h3⟩
   obtain⟨elem,m,aD,lo,fl,cs,ho,Z,hgm⟩:=M;obtain⟨EZ,_,_,O⟩:=hR.obj f _ (hK f _ ⟨g,h,hh⟩ ho) g h hh;have k:=O Z hgm;obtain⟨c,fz,U,nY⟩:=k.row;simp only[DW];refine⟨h.bE,h.off+q*es,cap,es,rfl,hl,EZ,⟨c,elem,fz,U,al⟩,?_⟩;have:=aci hR hK (f:=f) (g:=g) (es:=es) (h:=h) (elem:=elem) (n:=m) (fl:=fl) (cs:=cs) (aD:=aD) (lo:=lo) k ho (q:=q) (i:=0) L.2 (by simpa using A);exact this
  exact absurd (sb h0) I
theorem aci(I:R ρ C w)(L:gS ρ C H){f g es:Nat}{h:Hm}{elem n fl aD lo:Nat}{cs:RT}(k:Hz ρ w h g elem es n fl cs)(ho:H.t.get f=some (.row elem es aD n lo fl cs)){q:Nat}:∀{i:Nat}{rows:ai},xz rows=true→dz H X f g es (q+i) rows→Bv w h.bE (h.off+q*es) es i rows
 |_,[],_,_=>trivial
 |i,r::rs,z,M=>by
  simp only[xz,cN] at z;simp only[dz] at M;obtain⟨⟨l,⟨A,mc,m',Y,lK,Z,G,_,_,h4,h5⟩,h6,O⟩,h8⟩:=M;rw[ho] at G;simp only[eC,cV.row.injEq] at G;obtain⟨rfl,_,rfl,rfl,rfl,rfl,rfl⟩:=G;obtain⟨l',U,j2,j3⟩:=k.cell (q+i) h4;rw[h5] at U;cases U;simp only[Bv];refine⟨by rw[←O.length];exact h6,?_,aci I L k ho z.2 (by rw[show q+(i+1)=q+i+1 by omega];exact h8)⟩;refine acj I L (l:=l) (o:=h.off+q*es+i*es) z.1 O fun j x hx=>?_
  obtain⟨_,cv,o1,o2⟩:=j3 j x hx;exact⟨cv,by rw[show h.off+q*es+i*es+j=h.off+(q+i)*es+j by rw[kW];omega];exact o1,o2⟩
theorem acj(I:R ρ C w)(L:gS ρ C H){bE:Nat}:∀{row:List DC}{l:List aj}{o:Nat},kJ row=true→bX H X row l→(∀j x,l[j]?=some x→∃cv,w.cell? ⟨bE,o+j,none⟩=some cv∧VR ρ x cv)→Em w bE o row
 |[],_,_,_,_,_=>trivial
 |d::r,l,o,z,M,O=>by
  simp only[kJ,cN] at z;simp only[bX] at M;obtain⟨a,s,rfl,U,h2⟩:=M;obtain⟨cv,A,G⟩:=O 0 a rfl;simp only[Em]
  exact⟨⟨cv,by simpa using A,agZ I L z.1 U G⟩,acj I L z.2 h2 fun j x Y=>by
   obtain⟨cv,A,G⟩:=O (j+1) x (by simpa using Y)
   exact⟨cv,by rw[show o+1+j=o+(j+1) by omega];exact A,G⟩⟩
end
end
mutual
def eV(el:Nat→Nat):DC→Nat→HT→Nat×HT×aj
 |.i k z,n,t=>(n,t,.int k z)
 |.b x,n,t=>(n,t,.bool x)
 |.s l s,n,t=>(n,t,.str l s)
 |.nil,n,t=>(n,t,.fR)
 |.raw f m es,n,t=>(n,t,.slice f m 0 m es)
 |.sl rows,n,t=>match kP el rows n t with
  |(n1,t1,ls)=>(n1+1,t1.set n1 (.row (el n1) (rows.headD []).length 0 rows.length rows.length 1 (gE ls .emp 0)),.slice n1 rows.length 0 rows.length (rows.headD []).length)
def kP(el:Nat→Nat):ai→Nat→HT→Nat×HT×List (List aj)
 |[],n,t=>(n,t,[])
 |r::rs,n,t=>match dZ el r n t with
  |(n1,t1,l)=>match kP el rs n1 t1 with
   |(z,t2,ls)=>(z,t2,l::ls)
def dZ(el:Nat→Nat):List DC→Nat→HT→Nat×HT×List aj
 |[],n,t=>(n,t,[])
 |d::r,n,t=>match eV el d n t with
  |(n1,t1,a)=>match dZ el r n1 t1 with
   |(z,t2,l)=>(z,t2,a::l)
end
mutual
theorem K6{el:Nat→Nat}:∀(d:DC)(n:Nat)(t:HT),n≤(eV el d n t).1
 |.i _ _,n,t=>bf _
 |.b _,n,t=>bf _
 |.s _ _,n,t=>bf _
 |.nil,n,t=>bf _
 |.raw _ _ _,n,t=>bf _
 |.sl rows,n,t=>by
  have:=FD (el:=el) rows n t;simp only[eV];omega
theorem FD{el:Nat→Nat}:∀(rs:ai)(n:Nat)(t:HT),n≤(kP el rs n t).1
 |[],n,t=>bf _
 |r::rs,n,t=>by
  have z:=FE (el:=el) r n t;have h2:=FD (el:=el) rs (dZ el r n t).1 (dZ el r n t).2.1;exact eO z h2
theorem FE{el:Nat→Nat}:∀(r:List DC)(n:Nat)(t:HT),n≤(dZ el r n t).1
 |[],n,t=>bf _
 |d::r,n,t=>by
  have z:=K6 (el:=el) d n t;have h2:=FE (el:=el) r (eV el d n t).1 (eV el d n t).2.1;exact eO z h2
end
mutual
theorem Qd{el lM:Nat→Nat}:∀(d:DC)(n:Nat)(t:HT),(∀m,n≤m→m<(eV el d n t).1→lM m=el m)→eV lM d n t=eV el d n t
 |.i _ _,n,t,_=>rfl
 |.b _,n,t,_=>rfl
 |.s _ _,n,t,_=>rfl
 |.nil,n,t,_=>rfl
 |.raw _ _ _,n,t,_=>rfl
 |.sl rows,n,t,h=>by
  simp only[eV] at h⊢;have e:=PZ (el:=el) (lM:=lM) rows n t fun m z h2=>h m z al
  rw[e,h (kP el rows n t).1 (FD rows n t) al]
theorem PZ{el lM:Nat→Nat}:∀(rs:ai)(n:Nat)(t:HT),(∀m,n≤m→m<(kP el rs n t).1→lM m=el m)→kP lM rs n t=kP el rs n t
 |[],n,t,_=>rfl
 |r::rs,n,t,h=>by
  simp only[kP] at h⊢;have hle:=FD (el:=el) rs (dZ el r n t).1 (dZ el r n t).2.1;have z:=FE (el:=el) r n t;have e:=P0 (el:=el) (lM:=lM) r n t fun m A h2=>h m A (jh h2 hle)
  rw[e];have G:=PZ (el:=el) (lM:=lM) rs (dZ el r n t).1 (dZ el r n t).2.1 fun m A h2=>h m (eO z A) h2
  rw[G]
theorem P0{el lM:Nat→Nat}:∀(r:List DC)(n:Nat)(t:HT),(∀m,n≤m→m<(dZ el r n t).1→lM m=el m)→dZ lM r n t=dZ el r n t
 |[],n,t,_=>rfl
 |d::r,n,t,h=>by
  simp only[dZ] at h⊢;have hle:=FE (el:=el) r (eV el d n t).1 (eV el d n t).2.1;have z:=K6 (el:=el) d n t;have e:=Qd (el:=el) (lM:=lM) d n t fun m A h2=>h m A (jh h2 hle)
  rw[e];have G:=P0 (el:=el) (lM:=lM) r (eV el d n t).1 (eV el d n t).2.1 fun m A h2=>h m (eO z A) h2
  rw[G]
end
section
variable{P:Program}{w:World}
theorem RS.congr{n:Nat}{ρ:Ho}{t t2:HT}(h:RS P w n ρ t)(e:∀f,t2.get f=t.get f):RS P w n ρ t2:=by
 have:(fun f=>t2.get f)=fun f=>t.get f:=funext e
 exact⟨by rw[this];exact h.r,h.ro,h.gy,fun f z=>by rw[e];exact h.wf f z,h.qU⟩
theorem gm.congr{n n':Nat}{ρ ρ':Ho}{t t' t2:HT}(h:gm n ρ t n' ρ' t')(e:∀f,t2.get f=t'.get f):gm n ρ t n' ρ' t2:=⟨h.le,h.ho,fun f z=>by rw[e];exact h.same f z⟩
def Laid(P:Program)(w:World)(n:Nat)(ρ:Ho)(t:HT)(r:Nat×HT)(K:Ho→Prop):Prop:=∃ρ',gm n ρ t r.1 ρ' r.2∧RS P w r.1 ρ' r.2∧K ρ'
mutual
theorem ack:∀{d:DC}{v:Value}{n:Nat}{ρ:Ho}{t:HT}(z:Nat→Nat),oK d=true→DW w d v→RS P w n ρ t→∃el,(∀m,m<n→el m=z m)∧Laid P w n ρ t ((eV el d n t).1,(eV el d n t).2.1) fun ρ'=>VR ρ' (eV el d n t).2.2 v∧eM (eV el d n t).2.2=true
 |.i _ _,v,n,ρ,t,z,_,h,M=>⟨z,fun _ _=>rfl,ρ,gm.refl ..,M,by simpa only[DW,VR,eV] using h,rfl⟩
 |.b _,v,n,ρ,t,z,_,h,M=>⟨z,fun _ _=>rfl,ρ,gm.refl ..,M,by simpa only[DW,VR,eV] using h,rfl⟩
 |.s _ _,v,n,ρ,t,z,_,h,M=>⟨z,fun _ _=>rfl,ρ,gm.refl ..,M,by simpa only[DW,VR,eV] using h,rfl⟩
 |.nil,v,n,ρ,t,z,_,h,M=>⟨z,fun _ _=>rfl,ρ,gm.refl ..,M,by simpa only[DW,VR,eV] using h,rfl⟩
 |.raw _ _ _,v,n,ρ,t,z,Z,_,_=>by simp[oK] at Z
 |.sl rows,v,n,ρ,t,z,Z,h,M=>by
  simp only[oK,cN,gx] at Z;have fP:rows≠[]:=fun e=>by rw[e] at Z;simp at Z
  simp only[DW] at h;obtain⟨bE,off,cap,es,rfl,hl,EZ,⟨c,e,fz,O,nY⟩,Y⟩:=h;obtain⟨G,ha,ρ1,k1,k2,k3⟩:=abm (i:=0) z Z.2 Y M;have I:(rows.headD []).length=es:=by
   cases rows with
   |nil=>exact absurd rfl fP
   |cons r rs=>simp only[Bv] at Y;exact Y.1
  have oW:bE<w.heap.size:=(Array.getElem?_eq_some_iff.1 O).1;generalize hr:kP G rows n t=r at k1 k2 k3;obtain⟨n1,t1,ls⟩:=r
  let el:Nat→Nat:=fun m=>if m=n1 then e else G m
  have Pj:n≤n1:=by have:=FD (el:=G) rows n t;rw[hr] at this;exact this
  have hlr:kP el rows n t=(n1,t1,ls):=by
   rw[←hr];exact PZ rows n t fun m h1 h2=>by rw[hr] at h2;show(if m=n1 then e else G m)=_;rw[aZ (by have h2:m<n1:=h2;omega)]
  obtain⟨L,krow⟩:=k3;have L:ls.length=rows.length:=L
  obtain⟨ρ',t',h1,h2,h3,h4⟩:=RS.push k2 rows.length ⟨bE,off,cap*es,true,false⟩ rfl rfl oW (some (.row e es 0 rows.length rows.length 1 (gE ls .emp 0))) (fun x hx ρ' hle=>by
   cases hx
   refine⟨EZ,fun _=>rfl,bf _,fun _ _=>⟨⟨c,fz,O,nY⟩,iS _ hl,fun i hi=>?_,fun h=>(by cases h),fun h=>absurd rfl h,(fun h=>by rcases h with h|h<;>cases h),(fun h=>by rcases h with h|h<;>cases h)⟩⟩;have hi:i<ls.length:=by rw[L];exact hi
   obtain⟨q1,q2⟩:=krow i ls[i] (dm hi);refine⟨ls[i],?_,q1,fun j x hx=>?_⟩
   ·rw[uF,bg ⟨hZ _,al⟩];exact dm hi
   obtain⟨q3,cv,q4,q5⟩:=q2 j x hx
   exact⟨q3,cv,by simpa using q4,q5.mono hle⟩)
  have A:eV el (.sl rows) n t=(n1+1,t1.set n1 (.row (el n1) (rows.headD []).length 0 rows.length rows.length 1 (gE ls .emp 0)),.slice n1 rows.length 0 rows.length (rows.headD []).length):=by
   simp only[eV,hlr]
  have XC:el n1=e:=bg rfl;have U:∀f,(t1.set n1 (.row (el n1) (rows.headD []).length 0 rows.length rows.length 1 (gE ls .emp 0))).get f=t'.get f:=fun f=>by
   rw[GT.da]
   by_cases ef:f=n1
   ·subst ef;rw[bg rfl,XC,I];exact h4.symm
   rw[aZ ef]
   by_cases lt:f<n1
   ·exact(h1.same f lt).symm
   have a1:t'.get f=none:=h2.wf f (by show n1+1≤f;omega);have a2:t1.get f=none:=k2.wf f (by show n1≤f;omega);rw[a1,a2]
  refine⟨el,fun m hm=>?_,ρ',?_,?_,?_,?_⟩
  ·show(if m=n1 then e else G m)=_;rw[aZ al];exact ha m hm
  ·rw[A];exact k1.trans (h1.congr U)
  ·rw[A];exact h2.congr U
  ·rw[A];simp only[VR];refine⟨_,_,cap,h3,rfl,⟨hl,by rw[fh,I];exact iS _ hl⟩,.inl ⟨rfl,by rw[I];show 0+cap*es≤cap*es;omega⟩⟩
  rw[A];rfl
theorem abm:∀{rows:ai}{bE off es i n:Nat}{ρ:Ho}{t:HT}(G:Nat→Nat),xz rows=true→Bv w bE off es i rows→RS P w n ρ t→∃el,(∀m,m<n→el m=G m)∧Laid P w n ρ t ((kP el rows n t).1,(kP el rows n t).2.1) fun ρ'=>(kP el rows n t).2.2.length=rows.length∧∀k l,(kP el rows n t).2.2[k]?=some l→l.length=es∧∀(j:Nat)x,l[j]?=some x→eM x=true∧∃cv,w.cell? ⟨bE,off+(i+k)*es+j,none⟩=some cv∧VR ρ' x cv
 |[],bE,off,es,i,n,ρ,t,G,_,_,M=>⟨G,fun _ _=>rfl,ρ,gm.refl ..,M,rfl,fun k l h=>by simp[kP] at h⟩
 |r::rs,bE,off,es,i,n,ρ,t,G,O,h,M=>by
  simp only[xz,cN] at O;simp only[Bv] at h;obtain⟨z,a1,ρ1,b1,c1,d1,e1⟩:=abn G O.1 h.2.1 M;obtain⟨A,a2,U,b2,c2,d2,e2⟩:=abm z O.2 h.2.2 c1;have hc:dZ A r n t=dZ z r n t:=P0 r n t fun m _ h2=>a2 m h2
  have I:kP A (r::rs) n t=((kP A rs (dZ z r n t).1 (dZ z r n t).2.1).1,(kP A rs (dZ z r n t).1 (dZ z r n t).2.1).2.1,(dZ z r n t).2.2::(kP A rs (dZ z r n t).1 (dZ z r n t).2.1).2.2):=by
   rw[←hc];rfl
  have hle:=FE (el:=z) r n t;refine⟨A,fun m hm=>by rw[a2 m (jh hm hle)];exact a1 m hm,U,?_,?_,?_,?_⟩
  ·rw[I];exact b1.trans b2
  ·rw[I];exact c2
  ·rw[I];exact congrArg Nat.succ d2
  rw[I];intro k l L
  cases k with
  |zero=>
   simp only[Mg,eC] at L;subst L;refine⟨by rw[d1];exact h.1,fun j x Y=>?_⟩;obtain⟨Z,cv,o2,o3⟩:=e1 j x Y;exact⟨Z,cv,by simpa using o2,o3.mono b2.ho⟩
  |succ k=>
   simp only[Nq] at L;obtain⟨Z,o2⟩:=e2 k l L;refine⟨Z,fun j x Y=>?_⟩;obtain⟨p1,cv,p2,p3⟩:=o2 j x Y;exact⟨p1,cv,by rw[show i+(k+1)=i+1+k by omega];exact p2,p3⟩
theorem abn:∀{r:List DC}{bE o n:Nat}{ρ:Ho}{t:HT}(G:Nat→Nat),kJ r=true→Em w bE o r→RS P w n ρ t→∃el,(∀m,m<n→el m=G m)∧Laid P w n ρ t ((dZ el r n t).1,(dZ el r n t).2.1) fun ρ'=>(dZ el r n t).2.2.length=r.length∧∀(j:Nat)x,(dZ el r n t).2.2[j]?=some x→eM x=true∧∃cv,w.cell? ⟨bE,o+j,none⟩=some cv∧VR ρ' x cv
 |[],bE,o,n,ρ,t,G,_,_,M=>⟨G,fun _ _=>rfl,ρ,gm.refl ..,M,rfl,fun k l h=>by simp[dZ] at h⟩
 |d::r,bE,o,n,ρ,t,G,O,h,M=>by
  simp only[kJ,cN] at O;simp only[Em] at h;obtain⟨⟨U,g1,g2⟩,g3⟩:=h;obtain⟨z,a1,ρ1,b1,c1,d1,e1⟩:=ack G O.1 g2 M;obtain⟨A,Z,Y,b2,c2,d2,e2⟩:=abn z O.2 g3 c1;have hc:eV A d n t=eV z d n t:=Qd d n t fun m _ h2=>Z m h2
  have I:dZ A (d::r) n t=((dZ A r (eV z d n t).1 (eV z d n t).2.1).1,(dZ A r (eV z d n t).1 (eV z d n t).2.1).2.1,(eV z d n t).2.2::(dZ A r (eV z d n t).1 (eV z d n t).2.1).2.2):=by
   rw[←hc];rfl
  have hle:=K6 (el:=z) d n t;refine⟨A,fun m hm=>by rw[Z m (jh hm hle)];exact a1 m hm,Y,?_,?_,?_,?_⟩
  ·rw[I];exact b1.trans b2
  ·rw[I];exact c2
  ·rw[I];exact congrArg Nat.succ d2
  rw[I];intro j x L
  cases j with
  |zero=>
   simp only[Mg,eC] at L;subst L;exact⟨e1,U,by simpa using g1,d1.mono b2.ho⟩
  |succ j=>
   simp only[Nq] at L;obtain⟨p1,cv,p2,p3⟩:=e2 j x L;exact⟨p1,cv,by rw[show o+(j+1)=o+1+j by omega];exact p2,p3⟩
end
def V6(el:Nat→Nat)(z:List DC)(n:Nat):Nat×HT×List aj:=dZ el z n .emp
def Ot(iE:Tr aO)(iF:Tr Nat)(N n f:Nat)(z:List DC)(l s:Nat):Prop:=∀el:Nat→Nat,match V6 el z n with
 |(n1,t1,A)=>∃H',sG iE iF .leaf N N f [.agg A] (iC n1 t1)= .ok (.str l s) H'
open Classical in
def xY(iE:Tr aO)(iF:Tr Nat)(N n f:Nat)(args:List aj)(H:ax):aC:=
 if h:∃(ls:Nat×Nat)(A:List aj)(z:List DC),args=[.agg A]∧bX H iX z A∧kJ z=true∧Ot iE iF N n f z ls.1 ls.2∧aq (vK ls.1 ls.2)= .s ls.1 ls.2 then .ok (.str h.choose.1 h.choose.2) H else .err 96
theorem abo{iE:Tr aO}{iF:Tr Nat}{N n f:Nat}{args:List aj}{H H':ax}{v:aj}(h:xY iE iF N n f args H= .ok v H'):∃l s A z,args=[.agg A]∧bX H iX z A∧kJ z=true∧Ot iE iF N n f z l s∧v= .str l s∧H'=H:=by
 unfold xY at h
 split at h
 ·rename_i k
  cases h
  obtain⟨A,z,G,h2,I,L,_⟩:=k.choose_spec;exact⟨_,_,A,z,G,h2,I,L,rfl,rfl⟩
 cases h
theorem acm:∀{I:List DC}{vs:List Value}{n:Nat}{ρ:Ho}{t:HT}(G:Nat→Nat),kJ I=true→(vs.length=I.length∧∀(i:Nat)d,I[i]?=some d→∃v,vs[i]?=some v∧DW w d v)→RS P w n ρ t→∃el,(∀m,m<n→el m=G m)∧Laid P w n ρ t ((dZ el I n t).1,(dZ el I n t).2.1) fun ρ'=>bO ρ' (dZ el I n t).2.2 vs∧(dZ el I n t).2.2.all eM=true
 |[],vs,n,ρ,t,G,_,h,O=>by
  have:vs=[]:=sb h.1;subst this;exact⟨G,fun _ _=>rfl,ρ,gm.refl ..,O,by simp only[dZ,bO],rfl⟩
 |d::r,vs,n,ρ,t,G,U,h,O=>by
  simp only[kJ,cN] at U;obtain⟨L,Z⟩:=h
  cases vs with
  |nil=>simp at L
  |cons v vs=>
   obtain⟨v',e0,g2⟩:=Z 0 d rfl;simp only[Mg,eC] at e0;subst e0;obtain⟨z,a1,ρ1,b1,c1,d1,e1⟩:=ack G U.1 g2 O;obtain⟨A,a2,Y,b2,c2,d2,e2⟩:=acm (vs:=vs) z U.2 ⟨by simpa using L,fun i d hd=>by simpa using Z (i+1) d (by simpa using hd)⟩ c1;have hc:eV A d n t=eV z d n t:=Qd d n t fun m _ h2=>a2 m h2
   have M:dZ A (d::r) n t=((dZ A r (eV z d n t).1 (eV z d n t).2.1).1,(dZ A r (eV z d n t).1 (eV z d n t).2.1).2.1,(eV z d n t).2.2::(dZ A r (eV z d n t).1 (eV z d n t).2.1).2.2):=by
    rw[←hc];rfl
   have hle:=K6 (el:=z) d n t;refine⟨A,fun m hm=>by rw[a2 m (jh hm hle)];exact a1 m hm,Y,?_,?_,?_,?_⟩
   ·rw[M];exact b1.trans b2
   ·rw[M];exact c2
   ·rw[M];simp only[bO];exact⟨v,vs,rfl,d1.mono b2.ho,d2⟩
   rw[M];simp only[Is,e1,Bool.true_and];exact e2
theorem toldOkD{iE:Tr aO}{iF:Tr Nat}{N n f:Nat}(M:P.follows .mixedOrders=true)(hT:F1 P iE)(hx:Mr P iF)(hn:P.globals.size≤n):Sb P f (xY iE iF N n f):=by
 refine⟨fun args H hm v H' h=>?_,fun args H v H' ρ C w di h hm n5 hR hK hF hG O=>?_⟩
 ·obtain⟨l,s,az,z,_,_,_,_,rfl,rfl⟩:=abo h;exact eE.refl _
 obtain⟨l,s,az,z,rfl,hr,hf,U,rfl,rfl⟩:=abo h;have oW:xO P w:=Se hR hG;simp only[bO] at O;obtain⟨v,tl,e1,O,rfl⟩:=O;simp only[VR] at O;obtain⟨vs,rfl,Y,_⟩:=O;have G:vs.toList.length=z.length∧∀(i:Nat)d,z[i]?=some d→∃v,vs.toList[i]?=some v∧DW w d v:=by
  refine⟨by rw[Y.length,hr.length],fun i d hd=>?_⟩;obtain⟨a,I,h2⟩:=hr.get hd;obtain⟨cv,h3,h4⟩:=Y.get i a I;have hfd:oK d=true:=by
   have:∀(l:List DC)(i:Nat),kJ l=true→l[i]?=some d→oK d=true:=fun l=>by
    induction l with
    |nil=>intro i _ h;simp at h
    |cons x r ih=>
     intro i h hi;simp only[kJ,cN] at h
     cases i with
     |zero=>simp at hi;subst hi;exact h.1
     |succ i=>exact ih i h.2 (by simpa using hi)
   exact this z i hf hd
  exact⟨cv,h3,agZ hR hK hfd h2 h4⟩
 obtain⟨el,_,A,_,Z,k3,k4⟩:=acm (P:=P) (n:=n) (t:=.emp) (fun _=>0) hf G (RS.start hn oW);obtain⟨H1,Pc⟩:=U el;have post:∀{cv w'},cZ A (fun f=>(dZ el z n .emp).2.1.get f) w (iC (dZ el z n .emp).1 (dZ el z n .emp).2.1) (.str l s) H1 cv w'→cZ ρ C w H' (.str l s) H' cv w':=fun hp=>by
  have hk:=hp.Uj (fun f g h e=>Z.ro f g h e);obtain⟨_,Xu,_,_⟩:=hp;exact⟨ρ,by simpa only[VR] using Xu,hk.ext _ _ _,by rw[rH];exact hR.kept hk⟩
 have L:fC A (iC (dZ el z n .emp).1 (dZ el z n .emp).2.1).next H1.next:=fun f g I _=>by
  cases e:A f g with
  |none=>rfl
  |some h=>have:=Z.gy f g h e;have I:(dZ el z n .emp).1≤f:=I;have this:f<(dZ el z n .emp).1:=this;omega
 have hv2:bO A [.agg (dZ el z n .emp).2.2] di.toList:=by
  rw[e1];simp only[bO,VR];exact⟨_,_,rfl,⟨vs,rfl,k3,k4⟩,rfl⟩
 rcases(LA M hT hx Zw N).sound f [.agg (dZ el z n .emp).2.2] (iC (dZ el z n .emp).1 (dZ el z n .emp).2.1) (.str l s) H1 A (fun f=>(dZ el z n .emp).2.1.get f) w di Pc (hZ _) (fun x hx=>Z.wf x hx) Z.r (fun f o _ h=>h) L Z.qU hv2 with⟨I,h2⟩|⟨cv,w',I,h2⟩
 ·exact .inl ⟨I,Calls.mono h2 fun e w'⟨cv,he,hp⟩=>⟨cv,he,post hp⟩⟩
 exact .inr ⟨cv,w',I,post h2⟩
end
end Go.Ev
