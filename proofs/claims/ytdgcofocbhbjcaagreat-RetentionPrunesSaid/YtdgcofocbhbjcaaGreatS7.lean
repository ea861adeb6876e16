/- Part 7 of rules for walks through the code of a program, and of such walks; what each part proves is said by its theorems. -/
import Derived.Test.YtdgcofocbhbjcaaGreatS6
import Derived.LoopN
import Derived.Lib.Bytealg
import Derived.Laws.StandIn
set_option linter.unusedVariables false
set_option linter.unusedSimpArgs false
noncomputable section
set_option maxRecDepth 100000
set_option maxHeartbeats 4000000
namespace Go.Ev
def guardOf(ops:Array Oper):Option (Nat×Bool)→Option (Option (Key×Bool))
 |none=>some none
 |some (j,want)=>match(ops[j]?).bind (·.dst) with|some d=>if d<1296 then some (some (pk d,want)) else none|none=>none
def Pd(nt:Nat):Option Nat→Bool
 |some d=>decide (d<nt)&&decide (d<1296)
 |none=>true
def Jl(P:Program)(o:Op):bF:=match FN P o with|some io=>io|none=>bad
def Pe(P:Program)(nt:Nat)(ops:Array Oper)(o:Oper):Option bK:=
 match guardOf ops o.guard with
 |none=>none
 |some g=>if Pd nt o.dst=true then some {dst:=o.dst.map pk,g:=g,q:=none,op:=Jl P o.op} else none
def Ix(P:Program)(nt:Nat)(ops:Array Oper):List Oper→Option (List bK)
 |[]=>some []
 |o::r=>match Pe P nt ops o,Ix P nt ops r with
  |some a,some l=>some (a::l)
  |_,_=>none
def EA:IC:=.region false [{dst:=none,g:=none,q:=none,op:=bad}]
def UN(P:Program)(nt:Nat)(ops:Array Oper)(draw:Bool):IC:=
 match Ix P nt ops ops.toList with
 |none=>EA
 |some l=>
  if draw then
   let ms:=At ops.toList []
   if HB 0 ops.toList&&WX ms l then .region true (om ms 0 [] l) else EA
  else .region false l
def jX(P:Program)(nt:Nat):Code→IC
 |.skip=>.skip
 |.region _ ops draw=>UN P nt ops draw
 |.seq a b=>.seq (jX P nt a) (jX P nt b)
 |.cond c a b=>match cB P c with
  |some y=>.cond y (jX P nt a) (jX P nt b)
  |none=>EA
 |.block id b=>.block id (jX P nt b)
 |.loop b=>.loop (jX P nt b)
 |.exit id=>.exit id
 |.ret=>.ret
 |_=>EA
def mL(P:Program):List ResultVar→Option (List jW)
 |[]=>some []
 |.tmp t::r=>match mL P r with|some l=>if t<1296 then some (.tmp (pk t)::l) else none|none=>none
 |.cell a t::r=>match mL P r,gK P t with|some l,some n=>if a<1296 then some (.cell (pk a) n (o0 P t)::l) else none|_,_=>none
def tH(P:Program)(fn:Func):Option bT:=
 match fn.body,mL P fn.results.toList with
 |some c,some rs=>if fn.params.size+fn.nfree≤fn.ntmps∧fn.params.size+fn.nfree≤1296∧(fn.name== "runtime.NumGoroutine")=false then some {nt:=fn.ntmps,ps:=(List.range (fn.params.size+fn.nfree)).map pk,res:=rs,body:=jX P fn.ntmps c} else none
 |_,_=>none
section
variable{P:Program}{nt:Nat}{ops:Array Oper}
theorem iopOf_ok{o:Oper}{io:bK}(h:Pe P nt ops o=some io):Cd P nt ops o io:=by
 unfold Pe at h
 cases p:guardOf ops o.guard with
 |none=>rw[p] at h;cases h
 |some g=>
  rw[p] at h
  dsimp only at h
  split at h
  ·rename_i z
   cases h
   refine⟨?_,fun d e=>?_,?_,?_⟩
   ·show o.dst=(o.dst.map pk).map Key.n
    cases ho:o.dst with
    |none=>rfl
    |some d=>
     rw[ho] at z
     simp only[Pd,ep,jA] at z
     simp only[rO,yO z.2]
   ·have e:o.dst.map pk=some d:=e
    cases ho:o.dst with
    |none=>rw[ho] at e;cases e
    |some x=>
     rw[ho] at z e
     simp only[Pd,ep,jA] at z
     cases e
     rw[yO z.2]
     exact z.1
   ·cases h0:o.guard with
    |none=>rw[h0] at p;cases p;exact .inl ⟨rfl,rfl⟩
    |some I=>
     obtain⟨j,want⟩:=I
     rw[h0] at p
     unfold guardOf at p
     split at p
     ·rename_i A;cases A
     rename_i J F A
     cases A
     split at p
     ·rename_i d z
      split at p
      ·rename_i G
       cases p
       exact .inr ⟨j,want,pk d,rfl,by rw[yO G];exact z,rfl⟩
      cases p
     cases p
   show FN P o.op=some (Jl P o.op)∨Jl P o.op=bad
   unfold Jl
   split
   ·rename_i io h;exact .inl h
   exact .inr rfl
  cases h
theorem Ue:∀{os:List Oper}{l:List bK},Ix P nt ops os=some l→l.length=os.length∧∀(i:Nat)(o:Oper)(io:bK),os[i]?=some o→l[i]?=some io→Cd P nt ops o io
 |[],l,h=>by cases h;exact⟨rfl,fun i o io h=>by simp at h⟩
 |o::r,l,h=>by
  unfold Ix at h
  split at h
  ·rename_i a F A h2
   cases h
   obtain⟨e,k⟩:=Ue h2
   refine⟨by simp[e],fun i x io z p=>?_⟩
   cases i with
   |zero=>simp at z p;subst z;subst p;exact iopOf_ok A
   |succ i=>exact k i x io (by simpa using z) (by simpa using p)
  cases h
def aaP:Ex→Exit
 |.normal=>.normal
 |.exit id=>.exit id
 |.ret=>.ret
theorem Lk{r:Out}{k:Env→aC→Out}{x:Ex}{E':Env}{H':aC}(h:uT r k= .ok x E' H'):
  ∃y E1 H1,r= .ok y E1 H1∧((y= .normal∧k E1 H1= .ok x E' H')∨(y≠.normal∧y=x∧E1=E'∧H1=H')):=by
 cases r with
 |err n=>cases h
 |ok y E1 H1=>
  refine⟨y,E1,H1,rfl,?_⟩
  cases y with
  |normal=>exact .inl ⟨rfl,h⟩
  |exit id=>cases h;exact .inr ⟨by simp,rfl,rfl,rfl⟩
  |ret=>cases h;exact .inr ⟨by simp,rfl,rfl,rfl⟩
theorem Iy{r:dq}{x:Ex}{E':Env}{H':aC}(h:Cz r= .ok x E' H'):x= .normal∧r= .ok E' H':=by
 cases r with
 |err n=>cases h
 |ok E H=>cases h;exact⟨rfl,rfl⟩
theorem pa.lK{call:dr}(A:jc P call){o:bK}{E:Env}{H:aC}{bB:List FP}{b:Bool}{v:aw}{fp:FP}{H1:aC}(p:H.bb≤H.next)(h:pa call o E H bB b v fp H1):ey H H1:=by
 cases h with
 |skip=>exact ey.refl _
 |plain _ _ z=>exact TM.ins p (fun f a=>A.lK f a H p) E o.op v _ z
 |marked _ _ z _=>exact(TM.ins (H:=H.mark) (bM _) (fun f a=>A.lK f a _ (bM _)) E o.op v _ z).AV p
theorem Tu{call:dr}(p:jc P call):∀(l:List bK)(E:Env)(H:aC)(bB:List FP)(E':Env)(H':aC),H.bb≤H.next→jb call l E H bB= .ok E' H'→ey H H'
 |[],E,H,bB,E',H',_,h=>by cases h;exact ey.refl _
 |o::r,E,H,bB,E',H',z,h=>by
  obtain⟨b,v,fp,H1,A,h2⟩:=UL (show o.jQ call E H bB (jb call r)= .ok E' H' from h)
  have t1:=A.lK p z
  exact t1.trans (Tu p r _ _ _ _ _ (by rw[t1.bb];exact fY z t1.next) h2)
def TF(f:Env→aC→Out):Prop:=∀E H x E' H',H.bb≤H.next→f E H= .ok x E' H'→ey H H'
theorem TF.seq{f g:Env→aC→Out}(z:TF f)(A:TF g):TF fun E H=>uT (f E H) g:=by
 intro E H x E' H' p h
 obtain⟨y,E1,H1,F,h2⟩:=Lk h
 have t1:=z _ _ _ _ _ p F
 rcases h2 with⟨_,h2⟩|⟨_,_,_,e⟩
 ·exact t1.trans (A _ _ _ _ _ (by rw[t1.bb];exact fY p t1.next) h2)
 exact e▸t1
theorem TF.loop{f:Env→aC→Out}(p:TF f):∀n,TF (vu f n)
 |0=>fun _ _ _ _ _ _ h=>by cases h
 |n+1=>TF.seq p (TF.loop p n)
theorem UO{c:aM}{i j:IC}{f g:Env→aC→Out}{E E':Env}{H H':aC}{x:Ex}(h:O7 c i j f g E H= .ok x E' H'):∃t,c.ev E=some (.bool t)∧(if t then f E H else g E H)= .ok x E' H':=by
 unfold O7 at h
 cases p:c.ev E with
 |none=>rw[p] at h;cases h
 |some v=>
  rw[p] at h
  cases v<;>try(cases h;done)
  rename_i t
  refine⟨t,rfl,?_⟩
  cases t<;>exact h
theorem Uf{id:Nat}{i:IC}{f:Env→aC→Out}{E E':Env}{H H':aC}{x:Ex}(h:DG id i f E H= .ok x E' H'):
  ∃y,f E H= .ok y E' H'∧((y= .normal∧x= .normal)∨(y= .exit id∧x= .normal)∨(∃p,p≠id∧y= .exit p∧x= .exit p)∨(y= .ret∧x= .ret)):=by
 unfold DG at h
 cases A:f E H with
 |err n=>rw[A] at h;cases h
 |ok y E1 H1=>
  rw[A] at h
  cases y with
  |normal=>cases h;exact⟨_,rfl,.inl ⟨rfl,rfl⟩⟩
  |ret=>cases h;exact⟨_,rfl,.inr (.inr (.inr ⟨rfl,rfl⟩))⟩
  |exit p=>
   have h:aI (Nat.beq p id) (Out.ok .normal E1 H1) (.ok (.exit p) E1 H1)= .ok x E' H':=h
   by_cases z:p=id
   ·subst z
    rw[show Nat.beq p p=true from ga p] at h
    cases h;exact⟨_,rfl,.inr (.inl ⟨rfl,rfl⟩)⟩
   have e:Nat.beq p id=false:=by
    cases F:Nat.beq p id
    ·rfl
    exact absurd (cL F) z
   rw[e] at h
   cases h;exact⟨_,rfl,.inr (.inr (.inl ⟨p,z,rfl,rfl⟩))⟩
theorem rh{call:dr}{lf:Nat}(p:jc P call):∀c:IC,TF (c.ev call lf)
 |.skip=>fun _ _ _ _ _ _ h=>by cases h;exact ey.refl _
 |.region d ops=>fun E H x E' H' z h=>by
  cases d with
  |false=>exact Hf p ops E H E' H' z (Iy h).2
  |true=>exact Tu p ops E H [] E' H' z (Iy h).2
 |.seq a b=>TF.seq (rh p a) (rh p b)
 |.cond c a b=>fun E H x E' H' z h=>by
  obtain⟨t,_,h⟩:=UO (i:=a) (j:=b) (f:=a.ev call lf) (g:=b.ev call lf) h
  cases t
  ·exact rh p b _ _ _ _ _ z h
  exact rh p a _ _ _ _ _ z h
 |.block id b=>fun E H x E' H' z h=>by
  obtain⟨y,h,_⟩:=Uf (i:=b) (f:=b.ev call lf) h
  exact rh p b _ _ _ _ _ z h
 |.loop b=>TF.loop (rh p b) lf
 |.exit id=>fun _ _ _ _ _ _ h=>by cases h;exact ey.refl _
 |.ret=>fun _ _ _ _ _ _ h=>by cases h;exact ey.refl _
variable{ρ:Ho}{E E':Env}{H H' H1:aC}{C:Nat→Option cZ}{w:World}{a:Act}{call:dr}{lf:Nat}
theorem qB.step(L:iO ρ C H)(t1:ey H H1)(t2:ey H1 H'){K:Act→World→Prop}(p:qB P nt E' H H' C ρ w K){z:Ho}{M:World}(A:Ext (Wr H1) H.next H1.next ρ z w M):qB P nt E' H1 H' (dZ C H H1) z M K:=
 fun O U F G I J _=>by
  have h2:=(A.mono (Mc t2)).trans I
  exact p O U F G h2 (J.weaken fun f o h Y=>Ua L t1.next t2.next t2.gl h2.gN f o h Y) (Hp L h2.gN)
theorem qB.refl{K:Act→World→Prop}(z:AR P ρ nt E a)(A:R ρ C w)(F:iO ρ C H)(p:qB P nt E H H C ρ w K):K a w:=by
 refine p a w ρ z (Ext.refl _ _ _ _) ?_ ?_
 ·rw[mD];exact A
 rw[mD];exact F
theorem uQ{x:Ex}(h:EA.ev call lf E H= .ok x E' H'):False:=by cases h
def DI(P:Program)(nt:Nat)(c:Code)(f:Env→aC→Out):Prop:=
 ∀E H x E' H' ρ C a w Q,f E H= .ok x E' H'→AR P ρ nt E a→R ρ C w→iO ρ C H→fE ρ H.next H'.next→H.bb≤H.next→WF H→qB P nt E' H H' C ρ w (Q (aaP x))→c.wp P Q a w
theorem DI.rounds{c:Code}{f:Env→aC→Out}(G:DI P nt c f)(I:TF f):∀n E H x E' H' ρ C a w(Q:Exit→Act→World→Prop),vu f n E H= .ok x E' H'→AR P ρ nt E a→R ρ C w→iO ρ C H→fE ρ H.next H'.next→H.bb≤H.next→WF H→
  qB P nt E' H H' C ρ w (Q (aaP x))→Code.rounds P c Q n a w
 |0,_,_,_,_,_,_,_,_,_,_,h,_,_,_,_,_,_,_=>by cases h
 |n+1,E,H,x,E',H',ρ,C,a,w,Q,h,hA,hR,J,K,F,p,L=>by
  rw[rounds_succ]
  obtain⟨y,E1,H1,M,h2⟩:=Lk (k:=vu f n) h
  have t1:=I _ _ _ _ _ F M
  have z:H1.bb≤H1.next:=by rw[t1.bb];exact fY F t1.next
  rcases h2 with⟨rfl,h2⟩|⟨hy,rfl,rfl,rfl⟩
  ·have t2:=TF.loop I n _ _ _ _ _ z h2
   exact G E H _ E1 H1 ρ C a w _ M hA hR J (K.le t2.next) F p fun a1 w1 O U A Y Z=>(DI.rounds G I n E1 H1 x E' H' O _ a1 w1 Q h2 U Y Z (K.sub A.gN t1.next) z (t1.wf p) (L.step J t1 t2 A))
  refine G E H _ E1 H1 ρ C a w _ M hA hR J K F p ?_
  cases y with
  |normal=>exact absurd rfl hy
  |exit id=>exact L
  |ret=>exact L
theorem xd(Y:jc P call)(A:P.follows .mixedOrders=true):∀c:Code,DI P nt c ((jX P nt c).ev call lf)
 |.skip=>fun E H x E' H' ρ C a w Q h F J G O M p z=>by
  cases h
  exact wp_skip (z.refl F J G)
 |.exit id=>fun E H x E' H' ρ C a w Q h F J G O M p z=>by
  cases h
  exact wp_exit (z.refl F J G)
 |.ret=>fun E H x E' H' ρ C a w Q h F J G O M p z=>by
  cases h
  exact wp_ret (z.refl F J G)
 |.seq c d=>fun E H x E' H' ρ C a w Q h F J G O M p z=>by
  have hcc:=xd Y A c
  have hd:=xd Y A d
  obtain⟨y,E1,H1,U,h2⟩:=Lk (k:=(jX P nt d).ev call lf) h
  have t1:=rh Y (jX P nt c) _ _ _ _ _ M U
  have zZ:H1.bb≤H1.next:=by rw[t1.bb];exact fY M t1.next
  refine wp_seq ?_
  rcases h2 with⟨rfl,h2⟩|⟨hy,rfl,rfl,rfl⟩
  ·have t2:=rh Y (jX P nt d) _ _ _ _ _ zZ h2
   exact hcc E H _ E1 H1 ρ C a w _ U F J G (O.le t2.next) M p fun a1 w1 Z hA1 he1 hR1 hK1=>(hd E1 H1 x E' H' Z _ a1 w1 Q h2 hA1 hR1 hK1 (O.sub he1.gN t1.next) zZ (t1.wf p) (z.step G t1 t2 he1))
  refine hcc E H _ E1 H1 ρ C a w _ U F J G O M p ?_
  cases y with
  |normal=>exact absurd rfl hy
  |exit id=>exact z
  |ret=>exact z
 |.cond c d e=>fun E H x E' H' ρ C a w Q h F J G O M p z=>by
  unfold jX at h
  split at h
  ·rename_i y hy
   obtain⟨t,U,h2⟩:=UO (i:=jX P nt d) (j:=jX P nt e) (f:=(jX P nt d).ev call lf) (g:=(jX P nt e).ev call lf) h
   have k:=F.bU hy U
   simp only[VR] at k
   refine wp_cond (t:=t) k ?_
   cases t
   ·exact xd Y A e E H x E' H' ρ C a w Q h2 F J G O M p z
   exact xd Y A d E H x E' H' ρ C a w Q h2 F J G O M p z
  exact(uQ h).elim
 |.block id c=>fun E H x E' H' ρ C a w Q h F J G O M p z=>by
  obtain⟨y,U,h2⟩:=Uf (i:=jX P nt c) (f:=(jX P nt c).ev call lf) h
  refine wp_block (xd Y A c E H y E' H' ρ C a w _ U F J G O M p ?_)
  rcases h2 with⟨rfl,rfl⟩|⟨rfl,rfl⟩|⟨id',qN,rfl,rfl⟩|⟨rfl,rfl⟩
  ·exact z
  ·intro a1 w1 Z b1 b2 b3 b4
   show Exit.inBlock id Q (.exit id) a1 w1
   simp only[Exit.inBlock,if_true]
   exact z a1 w1 Z b1 b2 b3 b4
  ·intro a1 w1 Z b1 b2 b3 b4
   show Exit.inBlock id Q (.exit id') a1 w1
   simp only[Exit.inBlock,bw qN]
   exact z a1 w1 Z b1 b2 b3 b4
  exact z
 |.loop c=>fun E H x E' H' ρ C a w Q h F J G O M p z=>
  wp_loop_rounds lf (DI.rounds (xd Y A c) (rh Y _) lf E H x E' H' ρ C a w Q h F J G O M p z)
 |.region id ops draw=>fun E H x E' H' ρ C a w Q h F J G O M p z=>by
  unfold jX UN at h
  split at h
  ·exact(uQ h).elim
  rename_i l hl
  obtain⟨hlen,wL⟩:=Ue hl
  cases draw with
  |false=>
   simp only[ju,if_false] at h
   obtain⟨rfl,hz⟩:=Iy (r:=me call l E H) h
   refine wp_region ?_
   rw[show ops.size=l.length by rw[hlen];simp,List.range_eq_range']
   exact Tp Y (K:=Q .normal) l ops.toList 0 hlen.symm wL (fun i o h=>by simpa using h) E H E' H' ρ C a w hz F J G O M p z (fun _ _ h=>h)
  |true=>
   simp only[if_true] at h
   split at h
   ·rename_i Sb
    simp only[ep] at Sb
    obtain⟨rfl,hz⟩:=Iy (r:=jb call (om (At ops.toList []) 0 [] l) E H []) h
    have hms:=Td (ops:=ops) ops.toList [] (fun n=>by simp) (fun j i h=>by simp at h)
    have get:∀{i:Nat}{io:bK},(om (At ops.toList []) 0 [] l)[i]?=some io→∃I,l[i]?=some I∧io.dst=I.dst∧io.g=I.g∧io.op=I.op∧(io.q=none→l9 io.op=true):=by
     intro i io GG
     obtain⟨I,h0,U,h2,h3,h4⟩:=C6 (ms:=At ops.toList []) (L:=l) l 0 (fun n=>by simp) i io GG
     rw[fC] at h0
     refine⟨I,h0,U,h2,h3,fun hq=>?_⟩
     rw[hq] at h4
     rw[h3]
     cases hp:l9 I.op
     ·rw[hp] at h4;simp at h4
     rfl
    refine regionQ_sound Y ⟨?_,?_,?_,?_,?_⟩ rfl hms A hz F J G O M p z (fun _ _ h=>h)
    ·rw[Tf,hlen];simp
    ·intro i o io ho GG
     obtain⟨I,h0,U,h2,h3,_⟩:=get GG
     have k:=wL i o I (by simpa using ho) h0
     exact⟨by rw[U];exact k.dst,fun d hd=>k.lt d (by rw[←U];exact hd),by rw[h2];exact k.g,by rw[h3];exact k.op⟩
    ·intro j o e ho he hb
     have:=Ts ops.toList 0 Sb.1 j o e (by simpa using ho) he hb
     omega
    ·intro i j x y hij hx hy
     obtain⟨x0,Sc,a1,a2,a3,_⟩:=get hx
     obtain⟨y0,hy0,b1,b2,b3,_⟩:=get hy
     rcases tmpsOk_ok Sb.2 hij Sc hy0 with k|k
     ·exact .inl (hms _ _ k)
     refine .inr ⟨fun t z=>?_,fun t z=>?_,fun t z=>?_⟩
     ·rw[a1];exact k.xy t (by unfold sW at z⊢;rw[←b2,←b3];exact z)
     ·rw[a1];exact k.dd t (by rw[←b1];exact z)
     rw[b1];exact k.yx t (by unfold sW at z⊢;rw[←a2,←a3];exact z)
    intro i x hx hq
    obtain⟨_,_,_,_,_,k⟩:=get hx
    exact k hq
   exact(uQ h).elim
 |.rangeFunc ..=>fun E H x E' H' ρ C a w Q h _ _ _ _ _ _ _=>(uQ h).elim
 |.scope _=>fun E H x E' H' ρ C a w Q h _ _ _ _ _ _ _=>(uQ h).elim
 |.label _=>fun E H x E' H' ρ C a w Q h _ _ _ _ _ _ _=>(uQ h).elim
 |.goto _=>fun E H x E' H' ρ C a w Q h _ _ _ _ _ _ _=>(uQ h).elim
 |.refuse _=>fun E H x E' H' ρ C a w Q h _ _ _ _ _ _ _=>(uQ h).elim
end
structure Kept(w w':World):Prop where
 os:w'.os=w.os
 tape:w'.tape=w.tape
 output:w'.output=w.output
 size:w.heap.size≤w'.heap.size
 ur:∀b,b<w.heap.size→w'.heap[b]?=w.heap[b]?
section
variable{ρ:Ho}{C:Nat→Option cZ}{w w':World}
theorem R.kept(p:R ρ C w)(A:Kept w w'):R ρ C w':=
 ⟨fun f o ho g h z=>(p.obj f o ho g h z).gl (Ho.le_refl _) (A.ur _ (p.iH f g h z)),p.nL,fun f g h z=>lH (p.iH f g h z) A.size,p.uniq,fun f g h z a b=>(p.ct f g h z a b).gl (cell_of_heap (w:=w) (A.ur _ (p.iH f g h z)))⟩
theorem Kept.ext(p:Kept w w')(W:Nat→Prop)(n:Nat)(ρ:Ho):Ext W n n ρ ρ w w':=
 ⟨Ho.le_refl _,fun _ g h e=>.inl ⟨g,h,e⟩,fun _ _ _ e=>.inl e,fun b z _=>p.ur b z,p.size,bM _,p.os,p.tape,p.output⟩
end
section
variable{P:Program}{nt:Nat}{ρ:Ho}{E E':Env}{H H' H1:aC}{C:Nat→Option cZ}{w:World}{a:Act}{call:dr}{lf:Nat}
theorem Ug:∀(ks:List Key)(l:List aw)(E:Env)(c:Env→aF)(v:aw)(H':aC),params ks l E c= .ok v H'→
  ks.length=l.length∧∃E',c E'= .ok v H'∧∀t x,E'.get t=some x→E.get t=some x∨∃i:Nat,ks[i]?=some t∧l[i]?=some x
 |[],[],E,c,v,H',h=>⟨rfl,E,h,fun t x z=>.inl z⟩
 |[],_::_,E,c,v,H',h=>by cases h
 |_::_,[],E,c,v,H',h=>by cases h
 |k::ks,y::l,E,c,v,H',h=>by
  have h:E.eX k y (fun E=>params ks l E c)= .ok v H':=h
  rw[T4.i9] at h
  obtain⟨A,E',h2,F⟩:=Ug ks l _ _ _ _ h
  refine⟨by simp[A],E',h2,fun t x z=>?_⟩
  rcases F t x z with p|⟨i,p,G⟩
  ·rw[T4.c7] at p
   split at p
   ·rename_i e
    subst e
    cases p
    exact .inr ⟨0,rfl,rfl⟩
   exact .inl p
  exact .inr ⟨i+1,by simpa using p,by simpa using G⟩
theorem AR.init{args:List aw}{dx:Array Value}(z:cm ρ args dx.toList)(M:args.length≤nt)(F:vx P ρ){E':Env}{n:Nat}(G:n≤1296)
  (I:∀t x,E'.get t=some x→T4.emp.get t=some x∨∃i:Nat,((List.range n).map pk)[i]?=some t∧args[i]?=some x):
  AR P ρ nt E' {tmps:=dx++Array.replicate (nt-dx.size) undef,defers:=[]}:=by
 have O:dx.size=args.length:=by have:=z.length;simpa using this
 refine⟨by simp;omega,rfl,fun t v h=>?_,F⟩
 rcases I t v h with h|⟨i,A,h2⟩
 ·rw[T4.sP] at h;cases h
 obtain⟨y,J,p⟩:=z.get _ v h2
 refine⟨y,?_,p⟩
 have hi:i<n:=by
  have:=(List.getElem?_eq_some_iff.1 A).1
  simpa using this
 have K:pk i=t:=by simpa[hi] using A
 have L:t.n=i:=by rw[←K];exact yO ax
 have:i<dx.size:=by
  have:=(List.getElem?_eq_some_iff.1 h2).1
  omega
 rw[L,Kb this]
 simpa using J
def Ce(tmps:Array Value):ResultVar→Sem Value
 |.tmp t=>pure (tmps.getD t undef)
 |.cell a t=>do loadVar t (←asAddr (tmps.getD a undef))
theorem results_eq(fn:Func)(tmps:Array Value):Go.results fn tmps=(do
  let vs←fn.results.mapM (Ce tmps)
  pure (if h:vs.size=1 then vs[0] else .tuple vs)):=by
 unfold Go.results
 congr 2
theorem Vq{tmps:Array Value}{t:Nat}{cv:Value}(h:tmps[t]?=some cv):tmps.getD t undef=cv:=by
 simp[vW,h]
theorem resA_ok(Y:AR P ρ nt E a)(hR:R ρ C w)(hK:iO ρ C H){r:ResultVar}{rs:List jW}{Z:jW}(p:mL P (r::[])=some [Z]){k:aw→aF}{e:Nat}{v:aw}(h:Ca E H Z (.err e) k= .ok v H'):
  ∃x G,(Ce a.tmps r).run P w= .ok G w∧VR ρ x G∧k x= .ok v H':=by
 cases r with
 |tmp t=>
  simp only[mL] at p
  split at p
  case isFalse=>cases p
  rename_i ht
  simp only[eW,BX,and_true] at p
  subst p
  replace h:=gV (o:=E.get (pk t)) h
  obtain⟨x,F,h⟩:=h
  obtain⟨cv,I,h2⟩:=Y.tmp (pk t) x F
  rw[yO ht] at I
  exact⟨x,cv,by simp[Ce,Vq I],h2,h⟩
 |cell s t=>
  simp only[mL] at p
  split at p
  ·rename_i l n K hn
   cases K
   split at p
   case isFalse=>cases p
   rename_i A
   simp only[eW,BX,and_true] at p
   subst p
   replace h:=gV (o:=E.get (pk s)) h
   obtain⟨x,F,h⟩:=h
   replace h:=xm h;obtain⟨f,g,off,rfl,h⟩:=h
   obtain⟨l,K,h⟩:=Pb h (by simp)
   obtain⟨cv,I,h2⟩:=Y.tmp (pk s) _ F
   rw[yO A] at I
   simp only[VR] at h2
   obtain⟨hm,hh,rfl⟩:=h2
   obtain⟨_,_,_,_,_,CD⟩:=sM hn
   have L:C f=H.t.get f:=by
    obtain⟨_,_,_,_,_,_,_,_,hg,_⟩:=K
    exact(hK f _ ⟨_,_,hh⟩ hg).trans hg.symm
   obtain⟨hlen,hk,hc⟩:=hR.rd K L hh ax
   have key:∀x,fD (o0 P t) l (.err 0) (fun v=>.ok v H)= .ok x H→k x= .ok v H'→∃x G,(Ce a.tmps (.cell s t)).run P w= .ok G w∧VR ρ x G∧k x= .ok v H':=by
    intro x F M
    obtain⟨_,cv,J,O⟩:=Tk (P:=P) (ρ:=ρ) (w:=w) (ad:=⟨hm.bW,hm.off+off,none⟩) hn hlen hk (fun j x F=>by rw[Addr.add_lit];exact hc j x F) F
    exact⟨x,cv,by simp[Ce,Vq I,asAddr,J],O,M⟩
   rcases Ma h with⟨z,h⟩|⟨x,z,U,h⟩
   ·exact key _ (by rw[z];rfl) h
   exact key x (by rw[z,U];rfl) h
  cases p
theorem UP(M:AR P ρ nt E a)(O:R ρ C w)(U:iO ρ C H){e:Nat}{v:aw}:∀{l:List ResultVar}{rs:List jW}(p:mL P l=some rs){k:List aw→aF},vw E H rs (.err e) k= .ok v H'→
  ∃vs mX,(l.mapM (Ce a.tmps)).run P w= .ok mX w∧cm ρ vs mX∧k vs= .ok v H'
 |[],rs,p,k,h=>by
  cases p
  exact⟨[],[],by simp,by simp only[cm],h⟩
 |r::l,rs,p,k,h=>by
  have z:∃F A,rs=F::A∧mL P [r]=some [F]∧mL P l=some A:=by
   cases r with
   |tmp t=>
    unfold mL at p
    split at p
    ·rename_i G I
     split at p
     ·rename_i J;cases p;exact⟨_,G,rfl,by simp[mL,J],I⟩
     cases p
    cases p
   |cell s t=>
    unfold mL at p
    split at p
    ·rename_i G n I Z
     split at p
     ·rename_i J;cases p;exact⟨_,G,rfl,by simp[mL,Z,J],I⟩
     cases p
    cases p
  obtain⟨F,A,rfl,h1,h2⟩:=z
  have h:Ca E H F (.err e) (fun v=>vw E H A (.err e) fun vs=>k (v::vs))= .ok v H':=h
  obtain⟨x,Y,hx,K,h⟩:=resA_ok M O U (rs:=[]) h1 h
  obtain⟨vs,mX,hm,L,h⟩:=UP M O U h2 h
  exact⟨x::vs,Y::mX,by simp[hx,hm],⟨Y,mX,rfl,K,L⟩,h⟩
theorem resultsA_ok(A:AR P ρ nt E a)(F:R ρ C w)(G:iO ρ C H){fn:Func}{rs:List jW}(I:mL P fn.results.toList=some rs){v:aw}(h:results E H rs= .ok v H'):
  H'=H∧∃cv,(Go.results fn a.tmps).run P w= .ok cv w∧VR ρ v cv:=by
 obtain⟨vs,mX,z,p,h⟩:=UP (P:=P) (e:=70) A F G I h
 rw[results_eq]
 cases vs with
 |nil=>
  cases h
  simp only[cm] at p
  subst p
  refine⟨rfl,.tuple #[],by simp[OS,z],?_⟩
  simp only[VR]
  exact⟨#[],rfl,by simp only[cm]⟩
 |cons x r=>
  cases r with
  |nil=>
   cases h
   simp only[cm] at p
   obtain⟨c,t,rfl,J,rfl⟩:=p
   exact⟨rfl,c,by simp[OS,z],J⟩
  |cons y s=>
   cases h
   refine⟨rfl,.tuple mX.toArray,?_,?_⟩
   ·have K:=p.length
    have:¬mX.length=1:=by simp at K;omega
    simp[OS,z,this]
   simp only[VR]
   exact⟨mX.toArray,rfl,by simpa using p⟩
theorem Vr{g:Func}{fn:bT}(h:tH P g=some fn):∃c,g.body=some c∧mL P g.results.toList=some fn.res∧(∃n,n≤g.ntmps∧n≤1296∧fn.ps=(List.range n).map pk)∧fn.nt=g.ntmps∧fn.body=jX P g.ntmps c∧(g.name== "runtime.NumGoroutine")=false:=by
 unfold tH at h
 split at h
 ·rename_i c rs z A
  split at h
  ·rename_i p
   cases h
   exact⟨c,z,A,⟨_,p.1,p.2.1,rfl⟩,rfl,rfl,p.2.2⟩
  cases h
 cases h
theorem Vt{fn:bT}{args:List aw}{v:aw}(h:tF call lf fn args H= .ok v H'):
  fn.ps.length=args.length∧∃E' x E1 H1,(∀t y,E'.get t=some y→T4.emp.get t=some y∨∃i:Nat,fn.ps[i]?=some t∧args[i]?=some y)∧fn.body.ev call lf E' H= .ok x E1 H1∧(x= .normal∨x= .ret)∧results E1 H1 fn.res= .ok v H':=by
 obtain⟨z,E',h2,A⟩:=Ug fn.ps args .emp _ _ _ h
 refine⟨z,E',?_⟩
 cases p:fn.body.ev call lf E' H with
 |err n=>rw[p] at h2;cases h2
 |ok x E1 H1=>
  rw[p] at h2
  refine⟨x,E1,H1,A,rfl,?_⟩
  cases x with
  |normal=>exact⟨.inl rfl,h2⟩
  |exit id=>cases h2
  |ret=>exact⟨.inr rfl,h2⟩
theorem PS.rd{H:aC}{f g off n:Nat}{e:aF}{k:List aw→aF}(h:∀x,PS H (k x))(h':PS H e):PS H (rd H f g off n e k):=
 PS.iN (fun _ _ _ _ _ _ _=>PS.aI (PS.aI (PS.aI (PS.aI (PS.ob (fun _=>PS.aI (h _) (h _)) h') h') h') h') h') h'
theorem Tg{rs:List jW}{v:aw}(h:results E H rs= .ok v H'):H'=H:=by
 have key:∀(rs:List jW)(k:List aw→aF),(∀vs,PS H (k vs))→PS H (vw E H rs (.err 70) k):=by
  intro rs
  induction rs with
  |nil=>intro k z;exact z []
  |cons r rs A=>
   intro k z
   show PS H (Ca E H r (.err 70) fun v=>vw E H rs (.err 70) fun vs=>k (v::vs))
   have p:∀v,PS H (vw E H rs (.err 70) fun vs=>k (v::vs)):=fun v=>A _ fun vs=>z _
   cases r with
   |tmp t=>exact PS.ob (fun x=>p x) PS.err
   |cell s n g=>exact PS.ob (fun x=>PS.gA (fun _ _ _=>PS.rd (fun _=>PS.fD (fun x=>p x) PS.err) PS.err) PS.err) PS.err
 exact key rs _ (fun vs=>by
  cases vs with
  |nil=>exact PS.ok
  |cons x r=>cases r<;>exact PS.ok) v H' h
def Md(P:Program)(ft:Tr bT):Prop:=∀f fn,ft.get f=some fn→∃g,P.funcs[f]?=some g∧tH P g=some fn
theorem TI(hc:jc P call)(z:P.follows .mixedOrders=true){f:Nat}{g:Func}{fn:bT}(hf:P.funcs[f]?=some g)(hg:tH P g=some fn){args:List aw}{v:aw}{dx:Array Value}
  (h:tF call lf fn args H= .ok v H') (hm:H.bb≤H.next) (J:WF H) (hR:R ρ C w) (hK:iO ρ C H) (hF:fE ρ H.next H'.next) (hG:vx P ρ) (hv:cm ρ args dx.toList):
  Calls P f dx w fun e w'=>∃cv,e= .returned cv∧c6 ρ C w H v H' cv w':=by
 obtain⟨c,hb,hr,⟨np,K,A,L⟩,hnt,p,_⟩:=Vr hg
 obtain⟨hlen,E',x,E1,H1,hE,h1,hx,h2⟩:=Vt h
 have he:=Tg h2
 subst he
 rw[L] at hE hlen
 have hA:AR P ρ g.ntmps E' {tmps:=dx++Array.replicate (g.ntmps-dx.size) undef,defers:=[]}:=AR.init hv (by rw[←hlen];simpa using K) hG A hE
 rw[p] at h1
 refine calls_of_wp hf hb (xd hc z c _ H x E1 H' ρ C _ w _ h1 hA hR hK hF hm J fun a1 M O F U G Y=>?_)
 obtain⟨_,cv,I,Z⟩:=resultsA_ok F G Y hr h2
 have fin:a1.defers=[]∧∃v,(Go.results g a1.tmps).run P M= .ok v M∧∃cv,Ending.returned v= .returned cv∧c6 ρ C w H ‹aw› H' cv M:=⟨F.defers,cv,I,cv,rfl,O,Z,U,G⟩
 rcases hx with rfl|rfl
 ·exact fin
 exact fin
def Me:Nat→Option (Array Value→Sem Value)
 |0=>some Extern.BytealgIndexByte.indexByte
 |1=>some Extern.AbiNoEscape.same
 |_=>none
def W2(P:Program)(f:Nat):Prop:=∀w:World,Bk P w→
 ((callFunc f #[]).run P w= .ok (.enter f #[]) w∧Calls P f #[] w fun e w'=>e= .returned (.bool true)∧Kept w w')∨∃w',(callFunc f #[]).run P w= .ok (.value (.bool true)) w'∧Kept w w'
def M7(P:Program)(f:Nat)(args:Array Value)(w:World)(Q:Value→Prop):Prop:=
 (callFunc f args).run P w= .ok (.enter f args) w∧Calls P f args w fun e w'=>∃v,e= .returned v∧Q v∧Kept w w'
def UintOk(P:Program)(f:Nat):Prop:=∀(s:ByteArray)(u:Nat)(w:World),s.size≤1000→Lib.parseUintB 64 s.data.toList= .ok u→
 M7 P f #[.string s,.int .i64 10,.int .i64 64] w fun v=>v= .tuple #[.int .u64 u,.nilIface]
def IntOk(P:Program)(f g t:Nat):Prop:=∀(s:ByteArray)(w:World),s.size≤1000→
 (∀v,Lib.parseIntB 64 s.data.toList= .ok v→M7 P f #[.string s,.int .i64 10,.int .i64 64] w fun x=>x= .tuple #[.int .i64 v,.nilIface])∧
 (Lib.parseIntB 64 s.data.toList= .range→(∃p z,w.cell? ⟨g,0,none⟩=some (.iface p z))→M7 P f #[.string s,.int .i64 10,.int .i64 64] w fun x=>∃a:Addr,x= .tuple #[.int .i64 (Lib.intSat 64 s.data.toList),.iface t (.pointer (some a))])
def LibOk(P:Program)(f c:Nat):Prop:=∃fn,P.funcs[f]?=some fn∧(fn.name== "runtime.NumGoroutine")=false∧fn.body.isNone=true∧Extern.findNext fn=none∧∃e,Me c=some e∧Extern.find fn=some e
def Y2(P:Program)(xt:Tr Nat):Prop:=∀f c,xt.get f=some c→LibOk P f c∨(c=2∧W2 P f)∨(c=3∧UintOk P f)∨∃g t,c=4+t∧g<P.globals.size∧Cc P g=true∧IntOk P f g t
theorem Vu(c:UInt8):∀(l:List UInt8)(i:Nat),Kj c.toNat l.length (pack l) i=if Lib.indexByte l c= -1 then-1 else Lib.indexByte l c+i
 |[],i=>rfl
 |b::l,i=>by
  show aI (Nat.beq (Nat.mod (pack (b::l)) 256) c.toNat) (Int.ofNat i) (cA (Nat.div (pack (b::l)) 256) fun s=>cA (Nat.succ i) fun i=>Kj c.toNat l.length s i)=_
  have F:Nat.mod (pack (b::l)) 256=b.toNat:=by
   have:=Hj (b::l) 1
   simp only[Fq] at this
   rw[show Nat.mod (pack (b::l)) 256=pack (b::l) % 256 from rfl,this]
   simp[pack]
  have G:Nat.div (pack (b::l)) 256=pack l:=by
   have:=Hi (b::l) 1
   simp only[Fq] at this
   exact this
  rw[F,G,eP,eP,Vu c l (i+1)]
  have I:=Lib.indexByte_ge l c
  by_cases p:b=c
  ·subst p
   rw[show Nat.beq b.toNat b.toNat=true from ga _,dw]
   simp[Lib.indexByte]
  have:Nat.beq b.toNat c.toNat=false:=by
   cases h:Nat.beq b.toNat c.toNat
   ·rfl
   exact absurd (UInt8.toNat_inj.1 (cL h)) p
  rw[this]
  show(if Lib.indexByte l c= -1 then(-1:Int) else Lib.indexByte l c+((i+1:Nat):Int))=_
  have z:(b==c)=false:=by simpa using p
  rw[show Lib.indexByte (b::l) c=if(b==c)=true then 0 else if(Lib.indexByte l c== -1)=true then-1 else Lib.indexByte l c+1 from rfl,z]
  by_cases A:Lib.indexByte l c= -1
  ·simp[A]
  have h2:(Lib.indexByte l c== -1)=false:=by simpa using A
  have J:¬(Lib.indexByte l c+1= -1):=by omega
  rw[bw A,h2]
  simp only[ju,if_false,bw J]
  omega
theorem ext_ok(hR:R ρ C w){c:Nat}{e:Array Value→Sem Value}(p:Me c=some e){args:List aw}{dx:Array Value}(z:cm ρ args dx.toList){v:aw}(h:zg c args H= .ok v H'):
  H'=H∧∃cv,(e dx).run P w= .ok cv w∧VR ρ v cv:=by
 unfold Me at p
 split at p
 ·cases p
  have h:Ln args H= .ok v H':=h
  cases args with
  |nil=>cases h
  |cons x r=>cases r with
   |nil=>cases h
   |cons y r=>
    have h:iM x (.err 90) (fun l s=>ew y (.err 90) fun k c=>fQ c (.err 90) fun c=>aI (Nat.beq (cI k) 4) (aI (Nat.ble c 255) (aI (Nat.beq (gb (y::r)) 1) (jM (Kj c l s 0) fun i=>aF.ok (.int .i64 i) H) (.err 90)) (.err 90)) (.err 90))= .ok v H':=h
    replace h:=Az h;obtain⟨l,s,rfl,h⟩:=h
    replace h:=sL h;obtain⟨k,c0,rfl,h⟩:=h
    replace h:=xn h;obtain⟨c,rfl,h⟩:=h
    replace h:=dR h;obtain⟨F,h⟩:=h
    replace h:=dR h;obtain⟨K,h⟩:=h
    replace h:=dR h;obtain⟨A,h⟩:=h
    rw[sI] at h
    cases h
    rw[ny] at A
    have A:=cL A
    have M:r=[]:=by simpa using A
    subst M
    have K:=aX K
    have F:=cL F
    simp only[cm,VR] at z
    obtain⟨_,_,G,⟨b,rfl,rfl,rfl⟩,_,_,rfl,rfl,rfl⟩:=z
    have O:k= .u8:=by cases k<;>simp[cI] at F<;>rfl
    subst O
    have I:dx=#[.string b,.int .u8 (Int.ofNat c)]:=by have:=congrArg List.toArray G;simpa using this
    subst I
    refine⟨rfl,_,Lib.run_indexByteString (P:=P) b (Int.ofNat c) w,?_⟩
    simp only[VR]
    have J:(c.toUInt8).toNat=c:=by show(UInt8.ofNat c).toNat=c;rw[UInt8.toNat_ofNat'];omega
    have:=Vu c.toUInt8 b.data.toList 0
    rw[J] at this
    have U:b.data.toList.length=b.size:=ml
    rw[U] at this
    rw[this]
    congr 1
    have e:(Int.ofNat c).toNat.toUInt8=c.toUInt8:=rfl
    rw[e]
    split
    ·rename_i Y;exact Y
    simp
 ·cases p
  have h:O8 args H= .ok v H':=h
  cases args with
  |nil=>cases h
  |cons x r=>cases r with
   |cons y r=>cases h
   |nil=>
    cases h
    simp only[cm] at z
    obtain⟨L,_,G,Z,rfl⟩:=z
    have I:dx=#[L]:=by have:=congrArg List.toArray G;simpa using this
    subst I
    exact⟨rfl,L,rfl,Z⟩
 cases p
theorem LB:∀l:List UInt8,sa l.length (pack l)=l
 |[]=>rfl
 |b::l=>by
  have p:pack (b::l) % 256=b.toNat:=by
   have:=Hj (b::l) 1
   simp only[Fq] at this
   rw[this]
   simp[pack]
  have z:pack (b::l)/256=pack l:=by
   have:=Hi (b::l) 1
   simp only[Fq] at this
   exact this
  show UInt8.ofNat (pack (b::l) % 256)::sa l.length (pack (b::l)/256)=_
  rw[p,z,LB l]
  simp
theorem xLib_same{c:Nat}{args:List aw}:PS H (aaB c args H):=by
 intro v H1 h
 cases c with
 |zero=>
  have h:Bh args H= .ok v H1:=h
  unfold Bh at h
  split at h
  ·split at h
   ·split at h
    ·cases h;rfl
    cases h
   cases h
  cases h
 |succ c=>
  have h:Cb c args H= .ok v H1:=h
  unfold Cb at h
  split at h
  ·split at h
   ·split at h
    ·cases h;rfl
    ·cases h;rfl
    cases h
   cases h
  cases h
theorem ext_same{c:Nat}{args:List aw}:PS H (zg c args H):=by
 cases c with
 |zero=>
  show PS H (Ln args H)
  cases args with
  |nil=>exact PS.err
  |cons x r=>cases r with
   |nil=>exact PS.err
   |cons y r=>exact PS.iM (fun _ _=>PS.ew (fun _ _=>PS.fQ (fun _=>PS.aI (PS.aI (PS.aI (PS.jM fun _=>PS.ok) PS.err) PS.err) PS.err) PS.err) PS.err) PS.err
 |succ c=>cases c with
  |zero=>
   show PS H (O8 args H)
   cases args with
   |nil=>exact PS.err
   |cons x r=>cases r with
    |nil=>exact PS.ok
    |cons y r=>exact PS.err
  |succ c=>cases c with
   |zero=>
    show PS H (O9 args H)
    cases args with
    |nil=>exact PS.ok
    |cons x r=>exact PS.err
   |succ c=>exact xLib_same
theorem low_of(p:R ρ C w)(G:vx P ρ):Bk P w:=fun g I=>by
 obtain⟨x,z,J,ho,A⟩:=G g I
 refine⟨by have:=p.iH g 1 x z;omega,fun h=>?_⟩
 obtain⟨K,L,F⟩:=(p.ct _ _ _ z (A h).1 (A h).2).2
 rw[J,ho] at F
 exact⟨K,L,F⟩
theorem xUint_ok{args:List aw}{v:aw}(h:Bh args H= .ok v H'):∃l s u,args=[.str l s,.int .i64 10,.int .i64 64]∧l≤1000∧Lib.parseUintB 64 (sa l s)= .ok u∧v= .tuple [.int .u64 u,.i7]∧H'=H:=by
 unfold Bh at h
 split at h
 ·split at h
  ·rename_i p
   obtain⟨rfl,rfl,rfl,rfl,z⟩:=p
   split at h
   ·rename_i A;cases h;exact⟨_,_,_,rfl,z,A,rfl,rfl⟩
   cases h
  cases h
 cases h
theorem xInt_ok{t:Nat}{args:List aw}{v:aw}(h:Cb t args H= .ok v H'):∃l s,args=[.str l s,.int .i64 10,.int .i64 64]∧l≤1000∧H'=H∧
  ((∃u,Lib.parseIntB 64 (sa l s)= .ok u∧v= .tuple [.int .i64 u,.i7])∨(Lib.parseIntB 64 (sa l s)= .range∧v= .tuple [.int .i64 (Lib.intSat 64 (sa l s)),.iface t (.map 0)])):=by
 unfold Cb at h
 split at h
 ·split at h
  ·rename_i p
   obtain⟨rfl,rfl,rfl,rfl,A⟩:=p
   split at h
   ·rename_i z;cases h;exact⟨_,_,rfl,A,rfl,.inl ⟨_,z,rfl⟩⟩
   ·rename_i z
    cases h;exact⟨_,_,rfl,A,rfl,.inr ⟨z,rfl⟩⟩
   cases h
  cases h
 cases h
theorem aaQ{l s:Nat}{a b:Int}{dx:Array Value}(p:cm ρ [.str l s,.int .i64 a,.int .i64 b] dx.toList):∃x:ByteArray,dx=#[.string x,.int .i64 a,.int .i64 b]∧l=x.size∧s=pack x.data.toList:=by
 simp only[cm,VR] at p
 obtain⟨v,t,e,⟨x,rfl,z,h2⟩,A,t2,rfl,rfl,F,t3,rfl,rfl,rfl⟩:=p
 exact⟨x,by have:=congrArg List.toArray e;simpa using this,z,h2⟩
theorem W3(J:P.follows .mixedOrders=true){ft:Tr bT}{xt:Tr Nat}(ht:Md P ft)(K:Y2 P xt):∀n,jc P (GA ft xt lf n)
 |0=>⟨fun _ _ _ _=>TM.err,fun _ _ _ _ _ _ _ _ _ h=>(by cases h)⟩
 |n+1=>by
  have ih:=W3 J ht K n
  have key:∀f args H v H',GA ft xt lf (n+1) f args H= .ok v H'→(∃fn,ft.get f=some fn∧tF (GA ft xt lf n) lf fn args H= .ok v H')∨∃c,xt.get f=some c∧zg c args H= .ok v H':=by
   intro f args H v H' h
   have h:ob (ft.get f) (ob (xt.get f) (.err (Nat.add 10000 f)) fun c=>zg c args H) (fun fn=>tF (GA ft xt lf n) lf fn args H)= .ok v H':=h
   cases hf:ft.get f with
   |some fn=>rw[hf] at h;exact .inl ⟨fn,rfl,h⟩
   |none=>
    rw[hf] at h
    exact .inr (gV (o:=xt.get f) h)
  refine⟨fun f args H hm v H' h=>?_,fun f args H v H' ρ C w dx h hm mY G hK hF hG Z=>?_⟩
  ·rcases key _ _ _ _ _ h with⟨fn,_,h⟩|⟨c,_,h⟩
   ·obtain⟨_,_,x,E1,H1,_,z,_,h2⟩:=Vt h
    rw[Tg h2]
    exact rh ih fn.body _ _ _ _ _ hm z
   rw[ext_same v H' h];exact ey.refl _
  rcases key _ _ _ _ _ h with⟨fn,Sd,h⟩|⟨c,hc,h⟩
  ·obtain⟨g,hg,hfg⟩:=ht f fn Sd
   obtain⟨cd,M,_,_,_,_,p⟩:=Vr hfg
   have z:g.name≠ "runtime.NumGoroutine":=by simpa using p
   exact .inl ⟨by simp[callFunc,hg,z,M],TI ih J hg hfg h hm mY G hK hF hG Z⟩
  rcases K f c hc with⟨fn,hf,p,M,hn,e,I,O⟩|⟨rfl,U⟩|⟨rfl,Y⟩|⟨g0,t0,rfl,pJ,dj,hint⟩
  rotate_left
  rotate_left
  ·obtain⟨l,s,u,rfl,hl,hu,rfl,rfl⟩:=xUint_ok (show Bh args H= .ok v H' from h)
   obtain⟨b,rfl,M,rfl⟩:=aaQ Z
   subst M
   rw[show b.size=b.data.toList.length from(ml (xs:=b.data)).symm,LB] at hu
   obtain⟨z,h2⟩:=Y b u w hl hu
   exact .inl ⟨z,Calls.mono h2 fun e w'⟨x,I,K,A⟩=>⟨x,I,ρ,by subst K;simp only[VR,cm];exact⟨_,rfl,_,_,rfl,rfl,_,_,rfl,rfl,rfl⟩,A.ext _ _ _,by rw[mD];exact G.kept A⟩⟩
  ·have h5:Cb t0 args H= .ok v H':=by
    rw[show 4+t0=t0+4 by omega] at h
    exact h
   obtain⟨l,s,rfl,hl,rfl,F⟩:=xInt_ok h5
   obtain⟨b,rfl,M,rfl⟩:=aaQ Z
   subst M
   rw[show b.size=b.data.toList.length from(ml (xs:=b.data)).symm,LB] at F
   rcases F with⟨u,hu,rfl⟩|⟨hu,rfl⟩
   ·obtain⟨z,h2⟩:=(hint b w hl).1 u hu
    exact .inl ⟨z,Calls.mono h2 fun e w'⟨x,I,K,A⟩=>⟨x,I,ρ,by subst K;simp only[VR,cm];exact⟨_,rfl,_,_,rfl,rfl,_,_,rfl,rfl,rfl⟩,A.ext _ _ _,by rw[mD];exact G.kept A⟩⟩
   obtain⟨hm,hh,QM,QI,L⟩:=hG g0 pJ
   obtain⟨te,pe,pH⟩:=(G.ct _ _ _ hh (L dj).1 (L dj).2).2
   rw[QM,QI] at pH
   obtain⟨z,h2⟩:=(hint b w hl).2 hu ⟨_,_,pH⟩
   exact .inl ⟨z,Calls.mono h2 fun e w'⟨x,I,⟨a,K⟩,A⟩=>⟨x,I,ρ,by subst K;simp only[VR,cm];exact⟨_,rfl,_,_,rfl,rfl,_,_,rfl,⟨_,rfl,a,rfl⟩,rfl⟩,A.ext _ _ _,by rw[mD];exact G.kept A⟩⟩
  rotate_left
  ·have h:O9 args H= .ok v H':=h
   cases args with
   |cons x r=>cases h
   |nil=>
    cases h
    simp only[cm] at Z
    have K1:dx=#[]:=by have:=congrArg List.toArray Z;simpa using this
    subst K1
    have sr:Bk P w:=low_of G hG
    have post:∀{w':World},Kept w w'→c6 ρ C w H (.bool true) H (.bool true) w':=fun A=>⟨ρ,by simp only[VR],A.ext _ _ _,by rw[mD];exact G.kept A⟩
    rcases U w sr with⟨z,h2⟩|⟨w',z,h2⟩
    ·exact .inl ⟨z,Calls.mono h2 fun e w'⟨I,A⟩=>⟨_,I,post A⟩⟩
    exact .inr ⟨_,w',z,post h2⟩
  obtain⟨rfl,cv,hrun,hcv⟩:=ext_ok (P:=P) G I Z h
  refine .inr ⟨cv,w,?_,ρ,hcv,Ext.refl _ _ _ _,?_⟩
  ·rw[run_callFunc_standIn hf p M hn O,hrun]
   rfl
  rw[mD];exact G
end
def base(P:Program):Ho:=fun f g=>if f<P.globals.size∧g=1 then some ⟨f,0,0,true,Cc P f⟩ else none
def H0(n:Nat):aC:=⟨n,0,[],.emp⟩
section
variable{P:Program}{ρ:Ho}{C:Nat→Option cZ}{w w':World}{H H':aC}{call:dr}{f n:Nat}{args:List aw}{dx:Array Value}{v:aw}
theorem q9{f g:Nat}{h:Hm}(e:base P f g=some h):f<P.globals.size∧g=1∧h=⟨f,0,0,true,Cc P f⟩:=by
 unfold base at e
 split at e
 ·rename_i k;cases e;exact⟨k.1,k.2,rfl⟩
 cases e
theorem DJ(p:Bk P w):R (base P) (fun _=>none) w:=by
 refine⟨fun f o h=>(by cases h),fun f g h f' g' h' e z _ _=>?_,fun f g h e=>?_,fun f g h g' h' e z _=>?_,fun f g h e _ A=>?_⟩
 rotate_right
 ·obtain⟨k,_,rfl⟩:=q9 e
  exact⟨fun g' h' z=>by obtain⟨_,_,rfl⟩:=q9 z;rfl,(p f k).2 A⟩
 ·obtain⟨_,_,rfl⟩:=q9 e
  obtain⟨_,_,rfl⟩:=q9 z
  exact⟨rfl,rfl⟩
 ·obtain⟨k,_,rfl⟩:=q9 e
  exact(p f k).1
 obtain⟨_,_,rfl⟩:=q9 e
 obtain⟨_,_,rfl⟩:=q9 z
 rfl
theorem TJ:vx P (base P):=fun g p=>⟨⟨g,0,0,true,Cc P g⟩,by simp[base,p],rfl,rfl,fun h=>⟨rfl,h⟩⟩
theorem base_free(p:P.globals.size≤n)(m:Nat):fE (base P) n m:=fun f g z _=>by
 unfold base
 rw[bw ax]
theorem H0_wf:WF (H0 n):=fun x _=>GT.sP x
theorem H0_known:iO (base P) (fun _=>none) (H0 n):=fun f o _ h=>by
 rw[show(H0 n).t.get f=none from GT.sP f] at h;cases h
theorem c6.kept{cv:Value}(h:c6 (base P) C w H v H' cv w'):Kept w w':=by
 obtain⟨ρ',_,p,_⟩:=h
 exact⟨p.os,p.tape,p.output,p.size,fun b z=>p.frame b z fun f g x A F _=>by obtain⟨_,_,rfl⟩:=q9 A;cases F⟩
theorem trueOk_of(J:jc P call){F:Nat}(K:P.globals.size≤n)(L:call F [] (H0 n)= .ok (.bool true) H'):W2 P F:=fun w G=>by
 have post:∀{cv:Value}{w':World},c6 (base P) (fun _=>none) w (H0 n) (.bool true) H' cv w'→cv= .bool true∧Kept w w':=by
  intro cv w' A
  have p:=A.kept
  obtain⟨_,z,_,_⟩:=A
  simp only[VR] at z
  exact⟨z,p⟩
 rcases J.sound F [] (H0 n) (.bool true) H' (base P) (fun _=>none) w #[] L (mR _) H0_wf (DJ G) H0_known (base_free K _) TJ (by simp only[cm]) with⟨I,h2⟩|⟨cv,w',I,h2⟩
 ·exact .inl ⟨I,Calls.mono h2 fun e w'⟨cv,M,A⟩=>by
   obtain⟨rfl,p⟩:=post A
   exact⟨M,p⟩⟩
 obtain⟨rfl,p⟩:=post h2
 exact .inr ⟨w',I,p⟩
def Jm{α:Type}(l:List (Nat×α)):Tr α:=List.rec (motive:=fun _=>Tr α) .leaf (fun p _ z=>z.set p.1 p.2) l
theorem Uh{α:Type}{f:Nat}{x:α}:∀{l:List (Nat×α)},(Jm l).get f=some x→(f,x)∈l
 |[],h=>by rw[show Jm ([]:List (Nat×α))= .leaf from rfl,Tr.uR] at h;cases h
 |p::r,h=>by
  have h:((Jm r).set p.1 p.2).get f=some x:=h
  rw[Tr.c7] at h
  split at h
  ·rename_i e;cases h;subst e;exact jU ..
  exact qw _ (Uh h)
def RowOk(P:Program)(p:Nat×bT):Prop:=∃g,P.funcs[p.1]?=some g∧tH P g=some p.2
theorem tabOf_ok{l:List (Nat×bT)}(h:∀p,p∈l→RowOk P p):Md P (Jm l):=fun f fn z=>h (f,fn) (Uh z)
end
def okT(r:aF):Bool:=aF.rec (motive:=fun _=>Bool) (fun v _=>aw.rec (motive_1:=fun _=>Bool) (motive_2:=fun _=>Unit) (fun b=>b) (fun _ _=>false) (fun _ _=>false) (fun _ _ _=>false) false (fun _ _ _ _ _=>false) false (fun _ _=>false) (fun _ _=>false) (fun _ _ _ _ _=>false) false (fun _ _ _=>false) false (fun _=>false) false false () (fun _ _ _ _=>()) v) (fun _=>false) r
theorem okT_ok{r:aF}(h:okT r=true):∃H,r= .ok (.bool true) H:=by
 cases r with
 |err n=>cases h
 |ok v H=>
  cases v with
  |bool b=>cases b with
   |true=>exact⟨H,rfl⟩
   |false=>cases h
  |_=>cases h
section
variable{call:dr}{lf:Nat}{E:Env}{H:aC}
theorem params_cons(k:Key)(ks:List Key)(v:aw)(l:List aw)(E:Env)(c:Env→aF):params (k::ks) (v::l) E c=params ks l (E.set k v) c:=
 T4.i9 E k v fun E=>params ks l E c
theorem region_ev(ops:List bK):(IC.region false ops).ev call lf E H=Cz (me call ops E H):=rfl
theorem regionQ_ev(ops:List bK):(IC.region true ops).ev call lf E H=Cz (jb call ops E H []):=rfl
theorem M8(a b:IC):(IC.seq a b).ev call lf E H=uT (a.ev call lf E H) (b.ev call lf):=rfl
theorem W4(E:Env)(H:aC):Cz (.ok E H)= .ok .normal E H:=rfl
theorem Tv(E:Env)(H:aC)(k:Env→aC→Out):uT (.ok .normal E H) k=k E H:=rfl
theorem Tw(d:Option Key)(q:Option (List Nat))(op:bF)(r:List bK):me call (⟨d,none,q,op⟩::r) E H=fin d E (me call r) (op.ev call E H):=rfl
theorem HC(d:Key)(v:aw)(k:Env→aC→dq):fin (some d) E k (.ok v H)=k (E.set d v) H:=T4.Dd E d v fun E=>k E H
theorem fin_none(v:aw)(k:Env→aC→dq):fin none E k (.ok v H)=k E H:=rfl
theorem cJ{α β:Type}(x:α)(e:β)(k:α→β):ob (some x) e k=k x:=rfl
theorem mov_ev(x:aM):(bF.cG x).ev call E H=ob (x.ev E) (.err 1) fun v=>.ok v H:=cM x E _ _
theorem bin_ev(op:BinOp)(x y:aM):(bF.bin op x y).ev call E H=ob (x.ev E) (.err 6) fun a=>ob (y.ev E) (.err 6) fun b=>ob (zc op a b) (.err 6) fun v=>.ok v H:=by
 show bD x E (.err 6) (fun a=>bD y E (.err 6) fun b=>B8 op a b fun v=>.ok v H)=_
 simp only[cM,HR,uO]
theorem conv_ev(k:IntKind)(x:aM):(bF.conv k x).ev call E H=ob (x.ev E) (.err 36) fun v=>ew v (.err 36) fun _ n=>.ok (.int k (mJ k n)) H:=by
 show bD x E (.err 36) (fun v=>ew v (.err 36) fun _ n=>jM (mJ k n) fun n=>.ok (.int k n) H)=_
 simp only[cM,sI]
theorem onInt_mk(k:IntKind)(n:Int)(e:aF)(f:IntKind→Int→aF):ew (.int k n) e f=f k n:=rfl
def fnEnd(fn:bT)(o:Out):aF:=
 Out.rec (motive:=fun _=>aF) (fun x E H=>Ex.rec (motive:=fun _=>aF) (results E H fn.res) (fun _=>.err 72) (results E H fn.res) x) .err o
theorem evFn_eq(fn:bT)(args:List aw)(H:aC):tF call lf fn args H=params fn.ps args .emp fun E=>fnEnd fn (fn.body.ev call lf E H):=rfl
end
theorem Kept.keptBut{w w':World}(h:Kept w w')(may:MemPlace→Prop):w.keptBut w' may:=by
 refine⟨h.os,h.output,fun i hi=>?_⟩
 rw[h.ur i hi]
 cases w.heap[i]?with
 |none=>rfl
 |some o=>cases o with
  |cells c t p=>exact⟨rfl,rfl,rfl,fun _ _=>rfl⟩
  |map es clock=>exact .inr ⟨rfl,rfl⟩
  |_=>rfl
mutual
def flatD{H:Type}:DataW H→List Value
 |.lit (.int k n)=>[.int k n]
 |.lit (.bool b)=>[.bool b]
 |.lit (.string bs)=>[.string ⟨bs.toArray⟩]
 |.agg parts=>W5 parts
 |_=>[]
def W5{H:Type}:List (DataW H)→List Value
 |[]=>[]
 |d::r=>flatD d++W5 r
end
structure bC where
 ft:Tr bT
 xt:Tr Nat
def bC.call(T:bC)(lf n:Nat):dr:=GA T.ft T.xt lf n
def gp(T:bC)(op:bF)(E:Env)(H:aC)(Q:aw→aC→Prop):Prop:=∃N v H',(∀lf n,N≤lf→N≤n→op.ev (T.call lf n) E H= .ok v H')∧Q v H'
def mZ(T:bC)(ops:List bK)(E:Env)(H:aC)(Q:Env→aC→Prop):Prop:=∃N E' H',(∀lf n,N≤lf→N≤n→me (T.call lf n) ops E H= .ok E' H')∧Q E' H'
def GI(T:bC)(ops:List bK)(E:Env)(H:aC)(bB:List FP)(Q:Env→aC→Prop):Prop:=∃N E' H',(∀lf n,N≤lf→N≤n→jb (T.call lf n) ops E H bB= .ok E' H')∧Q E' H'
def jB(T:bC)(c:IC)(E:Env)(H:aC)(Q:Ex→Env→aC→Prop):Prop:=∃N x E' H',(∀lf n,N≤lf→N≤n→c.ev (T.call lf n) lf E H= .ok x E' H')∧Q x E' H'
def su(T:bC)(f:Nat)(args:List aw)(H:aC)(Q:aw→aC→Prop):Prop:=∃N v H',(∀lf n,N≤lf→N≤n→T.call lf n f args H= .ok v H')∧Q v H'
section
variable{T:bC}{E:Env}{H:aC}
theorem su.mono{f:Nat}{args:List aw}{Q p:aw→aC→Prop}(h:su T f args H Q)(k:∀v H',Q v H'→p v H'):su T f args H p:=
 let⟨N,v,H',a,b⟩:=h;⟨N,v,H',a,k _ _ b⟩
theorem jB.mono{c:IC}{Q p:Ex→Env→aC→Prop}(h:jB T c E H Q)(k:∀x E' H',Q x E' H'→p x E' H'):jB T c E H p:=
 let⟨N,x,E',H',a,b⟩:=h;⟨N,x,E',H',a,k _ _ _ b⟩
theorem eu{op:bF}{v:aw}{H':aC}{Q:aw→aC→Prop}(h:∀call,op.ev call E H= .ok v H')(p:Q v H'):gp T op E H Q:=⟨0,v,H',fun _ _ _ _=>h _,p⟩
theorem wpI_mov{x:aM}{v:aw}{Q:aw→aC→Prop}(h:x.ev E=some v)(p:Q v H):gp T (.cG x) E H Q:=
 eu (fun _=>by rw[mov_ev,h,cJ]) p
theorem AK{op:BinOp}{x y:aM}{a b v:aw}{Q:aw→aC→Prop}(p:x.ev E=some a)(z:y.ev E=some b)(h:zc op a b=some v)(A:Q v H):gp T (.bin op x y) E H Q:=
 eu (fun _=>by rw[bin_ev,p,z,cJ,cJ,h,cJ]) A
theorem wpI_un{op:UnOp}{x:aM}{a v:aw}{Q:aw→aC→Prop}(p:x.ev E=some a)(h:KS op a=some v)(z:Q v H):gp T (.un op x) E H Q:=
 eu (fun _=>by show bD x E (.err 8) (fun a=>ob (KS op a) (.err 8) fun v=>l8 v fun v=>.ok v H)=_;rw[cM,p,cJ,h,cJ,uO]) z
theorem HV{c:Cw}{neg:Bool}{x y:aM}{a b:aw}{r:Bool}{Q:aw→aC→Prop}(p:x.ev E=some a)(z:y.ev E=some b)(h:nS c a b=some r)(A:Q (.bool (Bool.xor neg r)) H):gp T (.eqv c neg x y) E H Q:=
 eu (fun _=>by show bD x E (.err 7) (fun a=>bD y E (.err 7) fun b=>ob (nS c a b) (.err 7) fun r=>nx (Bool.xor neg r) fun r=>.ok (.bool r) H)=_;rw[cM,p,cJ,cM,z,cJ,h,cJ,Lt]) A
theorem UQ{c x y:aM}{t:Bool}{v:aw}{Q:aw→aC→Prop}(z:c.ev E=some (.bool t))(p:(if t then x.ev E else y.ev E)=some v)(A:Q v H):gp T (.pick c x y) E H Q:=
 eu (fun _=>by
  show bD c E (.err 2) (fun v=>sV v (.err 2) fun t=>aI t (lq x E H) (lq y E H))=_
  rw[cM,z,cJ]
  cases t
  ·show lq y E H=_
   have p:y.ev E=some v:=p
   unfold lq;rw[cM,p,cJ]
  show lq x E H=_
  have p:x.ev E=some v:=p
  unfold lq;rw[cM,p,cJ]) A
theorem wpI_conv{k p:IntKind}{x:aM}{n:Int}{Q:aw→aC→Prop}(z:x.ev E=some (.int p n))(A:Q (.int k (mJ k n)) H):gp T (.conv k x) E H Q:=
 eu (fun _=>by rw[conv_ev,z,cJ,onInt_mk]) A
theorem LU{x:aM}{k f g o:Nat}{Q:aw→aC→Prop}(p:x.ev E=some (.ptr f g o))(z:Q (.ptr f g (o+k)) H):gp T (.dt x k) E H Q:=
 eu (fun _=>by show bD x E (.err 9) (fun v=>gA v (.err 9) fun f g off=>cA (Nat.add off k) fun off=>.ok (.ptr f g off) H)=_;rw[cM,p,cJ];show cA (o+k) (fun off=>aF.ok (.ptr f g off) H)=_;rw[eP]) z
theorem Mf{x:aM}{f g o l es:Nat}{Q:aw→aC→Prop}(p:x.ev E=some (.slice f g o l es))(z:Q (.int .i64 l) H):gp T (.len x) E H Q:=
 eu (fun _=>by show bD x E (.err 25) (fun v=>eG v (.err 25) (.ok (.int .i64 (.ofNat 0)) H) fun _ _ _ l _=>.ok (.int .i64 (.ofNat l)) H)=_;rw[cM,p,cJ];rfl) z
theorem Tx{x:aM}{Q:aw→aC→Prop}(p:x.ev E=some .gh)(z:Q (.int .i64 0) H):gp T (.len x) E H Q:=
 eu (fun _=>by show bD x E (.err 25) (fun v=>eG v (.err 25) (.ok (.int .i64 (.ofNat 0)) H) fun _ _ _ l _=>.ok (.int .i64 (.ofNat l)) H)=_;rw[cM,p,cJ];rfl) z
theorem UR{x:aM}{l s:Nat}{Q:aw→aC→Prop}(p:x.ev E=some (.str l s))(z:Q (.int .i64 l) H):gp T (.rY x) E H Q:=
 eu (fun _=>by show bD x E (.err 25) (fun v=>iM v (.err 25) fun l _=>.ok (.int .i64 (.ofNat l)) H)=_;rw[cM,p,cJ];rfl) z
theorem LC{x i:aM}{es f g o l dv:Nat}{k:IntKind}{j:Nat}{Q:aw→aC→Prop}(z:x.ev E=some (.slice f g o l dv))(hi:i.ev E=some (.int k (j:Int)))(A:j<l)(F:Q (.ptr f g (o+j*es)) H):gp T (.fP es x i) E H Q:=
 eu (fun _=>by
  show bD x E (.err 12) (fun v=>eG v (.err 12) (.err 12) fun f g off G _=>bD i E (.err 12) fun p=>idx p G (.err 12) fun j=>cA (Nat.add off (Nat.mul j es)) fun off=>.ok (.ptr f g off) H)=_
  rw[cM,z,cJ]
  show bD i E (.err 12) (fun p=>idx p l (.err 12) fun j=>cA (Nat.add o (Nat.mul j es)) fun off=>.ok (.ptr f g off) H)=_
  rw[cM,hi,cJ]
  show aI (Nat.ble (Nat.succ j) l) (cA (o+j*es) fun off=>aF.ok (.ptr f g off) H) (aF.err 12)=_
  rw[gD A,dw,eP]) F
theorem wpI_extr{x:aM}{vs:List aw}{i:Nat}{v:aw}{Q:aw→aC→Prop}(p:x.ev E=some (.tuple vs))(hi:vs[i]?=some v)(z:Q v H):gp T (.tD x i) E H Q:=
 eu (fun _=>by show bD x E (.err 18) (fun v=>sQ v (.err 18) fun vs=>ob (vs[i]?) (.err 18) fun v=>.ok v H)=_;rw[cM,p,cJ];show ob (vs[i]?) (aF.err 18) (fun v=>aF.ok v H)=_;rw[hi,cJ]) z
theorem wpI_build{z cs:List aw}{ps:List (Nat×Nat×aM)}{Q:aw→aC→Prop}(h:oZ E ps z=some cs)(p:Q (.agg cs) H):gp T (.build z ps) E H Q:=
 eu (fun _=>by show ob (oZ E ps z) (aF.err 23) (fun cs=>aF.ok (.agg cs) H)=_;rw[h,cJ]) p
theorem LV{f:Nat}{l:List aM}{vs:List aw}{Q:aw→aC→Prop}(p:im E l=some vs)(h:su T f vs H Q):gp T (.call f l) E H Q:=by
 obtain⟨N,v,H',a,b⟩:=h
 exact⟨N,v,H',fun lf n z h2=>by show ob (im E l) (aF.err 42) (fun vs=>T.call lf n f vs H)=_;rw[p,cJ];exact a lf n z h2,b⟩
theorem evs_nil:im E []=some []:=rfl
theorem US{x:aM}{r:List aM}{v:aw}{vs:List aw}(h:x.ev E=some v)(k:im E r=some vs):im E (x::r)=some (v::vs):=by
 show ob (x.ev E) none (fun v=>ob (im E r) none fun vs=>some (v::vs))=_
 rw[h,cJ,k,cJ]
theorem wpO_nil{Q:Env→aC→Prop}(h:Q E H):mZ T [] E H Q:=⟨0,E,H,fun _ _ _ _=>rfl,h⟩
theorem LW{d:Key}{q:Option (List Nat)}{op:bF}{r:List bK}{Q:Env→aC→Prop}(h:gp T op E H fun v H'=>mZ T r (E.set d v) H' Q):mZ T (⟨some d,none,q,op⟩::r) E H Q:=by
 obtain⟨N,v,H',a,p,z,A,b,c⟩:=h
 refine⟨max N p,z,A,fun lf n F h2=>?_,c⟩
 rw[Tw,a lf n ax ax,HC]
 exact b lf n ax ax
theorem Ui{q:Option (List Nat)}{op:bF}{r:List bK}{Q:Env→aC→Prop}(h:gp T op E H fun _ H'=>mZ T r E H' Q):mZ T (⟨none,none,q,op⟩::r) E H Q:=by
 obtain⟨N,v,H',a,p,z,A,b,c⟩:=h
 refine⟨max N p,z,A,fun lf n F h2=>?_,c⟩
 rw[Tw,a lf n ax ax,fin_none]
 exact b lf n ax ax
theorem TK{call:dr}{d:Option Key}{g:Key}{want:Bool}{q:Option (List Nat)}{op:bF}{t:Bool}{k:Env→aC→dq}(p:E.get g=some (.bool t)):
  bK.step call ⟨d,some (g,want),q,op⟩ E H k=if t=want then fin d E k (op.ev call E H) else k (iD E d .undef) H:=by
 show ob (E.get g) (.err 51) (fun v=>we v (ib d E H k) fun b=>aI (Bool.xor b want) (ib d E H k) (bK.run call ⟨d,some (g,want),q,op⟩ E H k))=_
 rw[p,cJ]
 show aI (Bool.xor t want) (ib d E H k) (bK.run call ⟨d,some (g,want),q,op⟩ E H k)=_
 rw[uU]
 cases t<;>cases want<;>rfl
theorem wpO_skip{d:Key}{g:Key}{want t:Bool}{q:Option (List Nat)}{op:bF}{r:List bK}{Q:Env→aC→Prop}(p:E.get g=some (.bool t))(z:t≠want)(h:mZ T r (E.set d .undef) H Q):mZ T (⟨some d,some (g,want),q,op⟩::r) E H Q:=by
 obtain⟨A,F,G,b,c⟩:=h
 exact⟨A,F,G,fun lf n I h2=>by show bK.step (T.call lf n) ⟨some d,some (g,want),q,op⟩ E H (me (T.call lf n) r)=_;rw[TK p,bw z];exact b lf n I h2,c⟩
theorem wpO_want{d:Key}{g:Key}{want:Bool}{q:Option (List Nat)}{op:bF}{r:List bK}{Q:Env→aC→Prop}(p:E.get g=some (.bool want))(h:gp T op E H fun v H'=>mZ T r (E.set d v) H' Q):mZ T (⟨some d,some (g,want),q,op⟩::r) E H Q:=by
 obtain⟨N,v,H',a,z,A,F,b,c⟩:=h
 refine⟨max N z,A,F,fun lf n G h2=>?_,c⟩
 show bK.step (T.call lf n) ⟨some d,some (g,want),q,op⟩ E H (me (T.call lf n) r)=_
 rw[TK p,bE rfl,a lf n ax ax,HC]
 exact b lf n ax ax
theorem Vv{a b:IC}{Q:Ex→Env→aC→Prop}(h:jB T a E H fun x E' H'=>(x= .normal→jB T b E' H' Q)∧(x≠.normal→Q x E' H')):jB T (.seq a b) E H Q:=by
 obtain⟨N,x,E1,H1,A,h2,F⟩:=h
 cases x with
 |normal=>
  obtain⟨G,x2,I,J,K,L⟩:=h2 rfl
  refine⟨max N G,x2,I,J,fun lf n p z=>?_,L⟩
  rw[M8,A lf n ax ax,Tv]
  exact K lf n ax ax
 |exit id=>exact⟨N,_,E1,H1,fun lf n p z=>by rw[M8,A lf n p z];rfl,F (by simp)⟩
 |ret=>exact⟨N,_,E1,H1,fun lf n p z=>by rw[M8,A lf n p z];rfl,F (by simp)⟩
theorem TL{ops:List bK}{Q:Ex→Env→aC→Prop}(h:mZ T ops E H fun E' H'=>Q .normal E' H'):jB T (.region false ops) E H Q:=by
 obtain⟨N,E1,H1,p,h2⟩:=h
 exact⟨N,_,E1,H1,fun lf n z A=>by rw[region_ev,p lf n z A,W4],h2⟩
theorem wpC_regionQ{ops:List bK}{Q:Ex→Env→aC→Prop}(h:GI T ops E H [] fun E' H'=>Q .normal E' H'):jB T (.region true ops) E H Q:=by
 obtain⟨N,E1,H1,p,h2⟩:=h
 exact⟨N,_,E1,H1,fun lf n z A=>by rw[regionQ_ev,p lf n z A,W4],h2⟩
theorem wpC_skip{Q:Ex→Env→aC→Prop}(h:Q .normal E H):jB T .skip E H Q:=⟨0,_,E,H,fun _ _ _ _=>rfl,h⟩
theorem wpC_exit{id:Nat}{Q:Ex→Env→aC→Prop}(h:Q (.exit id) E H):jB T (.exit id) E H Q:=⟨0,_,E,H,fun _ _ _ _=>rfl,h⟩
theorem wpC_ret{Q:Ex→Env→aC→Prop}(h:Q .ret E H):jB T .ret E H Q:=⟨0,_,E,H,fun _ _ _ _=>rfl,h⟩
theorem LX{c:aM}{a b:IC}{t:Bool}{Q:Ex→Env→aC→Prop}(G:c.ev E=some (.bool t))(I:t=true→jB T a E H Q)(h2:t=false→jB T b E H Q):jB T (.cond c a b) E H Q:=by
 have key:∀lf n,(IC.cond c a b).ev (T.call lf n) lf E H=if t=true then a.ev (T.call lf n) lf E H else b.ev (T.call lf n) lf E H:=fun lf n=>by
  show ob (c.ev E) (.err 61) (fun v=>Vd v (.err 61) fun t=>aI t (a.ev (T.call lf n) lf E H) (b.ev (T.call lf n) lf E H))=_
  rw[G,cJ]
  cases t<;>rfl
 cases t with
 |true=>obtain⟨N,x,E1,H1,p,z⟩:=I rfl;exact⟨N,x,E1,H1,fun lf n A F=>by rw[key,bE rfl];exact p lf n A F,z⟩
 |false=>obtain⟨N,x,E1,H1,p,z⟩:=h2 rfl;exact⟨N,x,E1,H1,fun lf n A F=>by rw[key,bw (by simp)];exact p lf n A F,z⟩
def GJ(id:Nat):Ex→Ex
 |.exit j=>if j=id then .normal else .exit j
 |x=>x
theorem Uj{id:Nat}{c:IC}{Q:Ex→Env→aC→Prop}(h:jB T c E H fun x E' H'=>Q (GJ id x) E' H'):jB T (.block id c) E H Q:=by
 obtain⟨N,x,E1,H1,p,h2⟩:=h
 refine⟨N,GJ id x,E1,H1,fun lf n z A=>?_,h2⟩
 show DG id c (c.ev (T.call lf n) lf) E H=_
 unfold DG
 rw[p lf n z A]
 cases x with
 |normal=>rfl
 |ret=>rfl
 |exit j=>
  show aI (Nat.beq j id) (Out.ok .normal E1 H1) (.ok (.exit j) E1 H1)=Out.ok (if j=id then .normal else .exit j) E1 H1
  by_cases h:j=id
  ·rw[bE h,h,show Nat.beq id id=true from ga id];rfl
  rw[bw h]
  cases F:Nat.beq j id
  ·rfl
  exact absurd (cL F) h
theorem UT{c:IC}{Q:Ex→Env→aC→Prop}(I:Nat→Env→aC→Prop)(L:∀k E H,I k E H→jB T c E H fun x E' H'=>(x= .normal→∃j,j<k∧I j E' H')∧(x≠.normal→Q x E' H')):
  ∀k E H,I k E H→jB T (.loop c) E H Q:=by
 have main:∀k E H,I k E H→∃N x E' H',(∀lf n m,N≤lf→N≤n→N≤m→vu (c.ev (T.call lf n) lf) m E H= .ok x E' H')∧Q x E' H':=by
  intro k
  induction k using Nat.strongRecOn with
  |_ k M=>
   intro E H h
   obtain⟨N,x,E1,H1,z,h2,J⟩:=L k E H h
   have key:∀lf n m,N≤lf→N≤n→vu (c.ev (T.call lf n) lf) (m+1) E H=uT (.ok x E1 H1) (vu (c.ev (T.call lf n) lf) m):=fun lf n m A F=>by
    show uT (c.ev (T.call lf n) lf E H) (vu (c.ev (T.call lf n) lf) m)=_
    rw[z lf n A F]
   cases x with
   |normal=>
    obtain⟨j,O,G⟩:=h2 rfl
    obtain⟨U,x2,Y,Z,k1,k2⟩:=M j O E1 H1 G
    refine⟨max N U+1,x2,Y,Z,fun lf n m A F K=>?_,k2⟩
    obtain⟨m,rfl⟩:∃p,m=p+1:=⟨m-1,ax⟩
    rw[key lf n m ax ax,Tv]
    exact k1 lf n m ax ax ax
   |exit id=>
    refine⟨N+1,_,E1,H1,fun lf n m A F K=>?_,J (by simp)⟩
    obtain⟨m,rfl⟩:∃p,m=p+1:=⟨m-1,ax⟩
    rw[key lf n m ax ax];rfl
   |ret=>
    refine⟨N+1,_,E1,H1,fun lf n m A F K=>?_,J (by simp)⟩
    obtain⟨m,rfl⟩:∃p,m=p+1:=⟨m-1,ax⟩
    rw[key lf n m ax ax];rfl
 intro k E H h
 obtain⟨N,x,E',H',a,b⟩:=main k E H h
 exact⟨N,x,E',H',fun lf n z h2=>a lf n lf z h2 z,b⟩
def Km(ks:List Key):List aw→Env→Env:=
 List.rec (motive:=fun _=>List aw→Env→Env) (fun _ E=>E) (fun k _ p l E=>List.rec (motive:=fun _=>Env) E (fun v r _=>p r (E.set k v)) l) ks
theorem Uk:∀(ks:List Key)(l:List aw)(E:Env)(c:Env→aF),ks.length=l.length→params ks l E c=c (Km ks l E)
 |[],[],E,c,_=>rfl
 |k::ks,v::l,E,c,h=>by rw[params_cons,Uk ks l _ c (by simpa using h)];rfl
 |[],_::_,_,_,h=>by simp at h
 |_::_,[],_,_,h=>by simp at h
theorem W6{f:Nat}{fn:bT}{args:List aw}{Q:aw→aC→Prop}(z:T.ft.get f=some fn)(A:fn.ps.length=args.length)
  (h:jB T fn.body (Km fn.ps args .emp) H fun x E' H'=>(∀id,x≠.exit id)∧∃v,results E' H' fn.res= .ok v H'∧Q v H'):su T f args H Q:=by
 obtain⟨N,x,E1,H1,F,h2,v,p,G⟩:=h
 refine⟨N+1,v,H1,fun lf n I J=>?_,G⟩
 obtain⟨n,rfl⟩:∃n',n=n'+1:=⟨n-1,ax⟩
 show ob (T.ft.get f) _ (fun fn=>tF (T.call lf n) lf fn args H)=_
 rw[z,cJ,evFn_eq,Uk _ _ _ _ A,F lf n ax ax]
 cases x with
 |normal=>exact p
 |ret=>exact p
 |exit id=>exact absurd rfl (h2 id)
end
end Go.Ev
