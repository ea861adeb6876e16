/- Part 10 of rules for walks through the code of a program, and of such walks; what each part proves is said by its theorems. -/
import Derived.Test.YtdaamclhcpjdpaaGreatDoorT9
import Derived.LoopN
import Derived.Scope
import Derived.Lib.Bytealg
import Derived.Laws.StandIn
set_option linter.unusedVariables false
set_option linter.unusedSimpArgs false
noncomputable section
set_option maxRecDepth 100000
set_option maxHeartbeats 4000000
namespace Go.Ev
theorem YV{p q:Nat→Bool}:∀(l:List Nat){j:Nat},j∈l→p j=true→q j=false→(∀i,q i=true→p i=true)→(l.filter q).length+1≤(l.filter p).length
 |[],_,A,_,_,_=>by cases A
 |x::r,j,A,L,M,h=>by
  have le:(r.filter q).length≤(r.filter p).length:=by
   clear A
   induction r with
   |nil=>simp
   |cons y s I=>
    cases z:q y
    ·rw[HE (by simp[z])]
     cases G:p y
     ·rw[HE (by simp[G])];exact I
     rw[Bd G];simp;omega
    rw[Bd z,Bd (h y z)];simp;exact I
  rcases List.mem_cons.1 A with rfl|A
  ·rw[HE (by simp[M]),Bd L];simp;exact le
  have I:=YV r A L M h
  cases z:q x
  ·rw[HE (by simp[z])]
   cases G:p x
   ·rw[HE (by simp[G])];exact I
   rw[Bd G];simp;omega
  rw[Bd z,Bd (h x z)];simp;omega
def jd(listed:Array Bool):Nat→Bool:=fun i=>listed.getD i false
def O4(listed:Array Bool)(n:Nat):Nat:=((List.range n).filter fun i=>!jd listed i).length
section
variable{P:Program}{call:dG}{nt:Nat}{ops:Array Oper}{l:List bl}{E E':Env}{H H':ay}{Es:Nat→Env}{Hs:Nat→ay}{Rs:Nat→List FP}{Wn:Nat→Bool}{Vs:Nat→ak}{Fp:Nat→FP}
theorem listedS_set{listed:Array Bool}{j:Nat}(z:j<listed.size):jd (listed.setIfInBounds j true)=ins (jd listed) j:=by
 funext i
 unfold jd ins
 by_cases h:i=j
 ·subst h;simp[z]
 rw[getD_set_ne false (Ne.symm h)];simp[h]
theorem none_ready(A:xX P nt ops l){listed:Array Bool}(L:listed.size=l.length)(h:Region.ready .any ops listed=[]):∀i,i<l.length→jd listed i=true:=by
 intro i
 induction i using Nat.strongRecOn with
 |_ i M=>
  intro hi
  cases z:jd listed i with
  |true=>rfl
  |false=>
   obtain⟨o,ho⟩:∃o,ops[i]?=some o:=⟨_,BG (by rw[←A.len];exact hi)⟩;have:i∈Region.ready .any ops listed:=by
    rw[mem_ready];refine⟨?_,o,ho,fun e G I=>M e.on (A.back i o e ho G I) (Nat.lt_trans (A.back i o e ho G I) hi)⟩;unfold jd at z;simp only[yw] at z⊢;rw[BG (by rw[L];exact hi)] at z⊢;simpa using z
   rw[h] at this;cases this
theorem any_ok(hc:je P call)(Z:xX P nt ops l)(T:Trace call l E H [] E' H' Es Hs Rs Wn Vs Fp)
  (G:∀(i j:Nat)(x y:bl),i<j→l[i]?=some x→l[j]?=some y→x.q.isSome=true→y.q.isSome=true→jN ops i j∨C4 (Fp j) (Fp i))
  (hm:H.aQ≤H.next) (nq:WF H) {ρ0:Ho} {C0:Nat→Option cV} {w0:World} (Xp:gJ ρ0 C0 H) (Fg:fw ρ0 H.next H'.next) {Q:Exit→Act→World→Prop}
  (I:∀S a w ρ,(∀i,i<l.length→S i=true)→Inv P nt l E H H' Hs Vs ρ0 C0 w0 S a w ρ→Q .normal a w):
  ∀(fuel:Nat)(listed:Array Bool)(a:Act)(w:World)(ρ:Ho),listed.size=l.length→LO ops (jd listed)→Inv P nt l E H H' Hs Vs ρ0 C0 w0 (jd listed) a w ρ→O4 listed l.length≤fuel→
   wpAny P .any ops Q fuel listed a w:=by
 intro fuel
 induction fuel with
 |zero=>
  intro listed a w ρ M hC hI hu;have all:∀i,i<l.length→jd listed i=true:=by
   intro i hi
   cases hl:jd listed i with
   |true=>rfl
   |false=>
    have:i∈(List.range l.length).filter fun i=>!jd listed i:=List.mem_filter.2 ⟨List.mem_range.2 hi,by simp[hl]⟩
    rw[o0 (Nat.le_zero.1 hu)] at this;cases this
  refine⟨?_,I _ a w ρ all hI⟩
  cases L:Region.ready .any ops listed with
  |nil=>rfl
  |cons j r=>
   have hj:j∈Region.ready .any ops listed:=by rw[L];exact iI ..
   obtain⟨h0,o,ho,_⟩:=mem_ready.1 hj;have z:j<l.length:=by rw[Z.len];exact(Array.getElem?_eq_some_iff.1 ho).1
   have:=all j z;unfold jd at this;simp only[yw] at h0 this;rw[BG (by rw[M];exact z)] at h0 this;simp at h0 this;rw[h0] at this;cases this
 |succ fuel ih=>
  intro listed a w ρ M hC hI hu;refine⟨fun h=>I _ a w ρ (none_ready Z M h) hI,fun j hj=>?_⟩;obtain⟨h0,o,ho,L⟩:=mem_ready.1 hj;have z:j<l.length:=by rw[Z.len];exact(Array.getElem?_eq_some_iff.1 ho).1
  have O:jd listed j=false:=by
   unfold jd;simp only[yw] at h0⊢;rw[BG (by rw[M];exact z)] at h0⊢;simpa using h0
  have U:T2 ops (jd listed) j:=fun o' e A he hb=>by
   rw[ho] at A;cases A;exact L e he hb
  have BN:=listedS_set (listed:=listed) (j:=j) (by rw[M];exact z);refine step_any hc Z T G hm nq Xp Fg hC z O U hI fun a' w' ρ' hI'=>?_
  refine ih _ a' w' ρ' (by simp[M]) ?_ (by rw[BN];exact hI') ?_
  ·rw[BN];intro k o' e A he hb hk;unfold ins at hk⊢
   by_cases Y:k=j
   ·subst Y;simp[U o' e A he hb]
   simp[Y] at hk;simp[hC k o' e A he hb hk]
  have:=YV (p:=fun i=>!jd listed i) (q:=fun i=>!jd (listed.setIfInBounds j true) i) (List.range l.length) (List.mem_range.2 z) (by simp[O]) (by rw[BN];simp[ins]) (by
   intro i hi;rw[BN] at hi;simp[ins] at hi;simp[hi])
  have h2:O4 (listed.setIfInBounds j true) l.length+1≤O4 listed l.length:=this;omega
theorem Inv.fin(hc:je P call)(hr:xX P nt ops l)(T:Trace call l E H [] E' H' Es Hs Rs Wn Vs Fp)(hm:H.aQ≤H.next)(L:WF H){ρ0 ρ:Ho}{C0:Nat→Option cV}{w0 w:World}(U:gJ ρ0 C0 H)(Fg:fw ρ0 H.next H'.next)
  {S:Nat→Bool} {a:Act} (G:∀i,i<l.length→S i=true) (hI:Inv P nt l E H H' Hs Vs ρ0 C0 w0 S a w ρ):AR P ρ nt E' a∧R ρ (ep C0 H H') w:=by
 have h0:Hs 0=H:=T.h0;have hN:Hs l.length=H':=T.hN;have z:∀i k,i≤k→k≤l.length→(Hs i).next≤(Hs k).next:=fun i k h1 h2=>(T.kK hc hr hm L k h1 h2).next
 refine⟨AR.congr hI.ar fun t=>?_,hI.r.weaken fun f o M hd=>?_⟩
 ·rw[←T.eN,T.env l.length (bt _)];exact LP t _ fun i hi Z=>absurd (G i hi).symm Z
 obtain⟨g,x,hx⟩:=hd;have I:=hI.gp f g x hx;have known:∀O,H'.t.get f=some O→rC C0 Hs S l.length f=some O:=by
  rw[←hN];refine Qp f (fun O A=>?_) _ (fun i hi Z=>by rw[G i hi] at Z;cases Z);rw[h0] at A;rcases I with e|⟨k,hk,_,e1,e2⟩
  ·exact U f O e A
  have n1:=z 0 k aq aq;rw[h0] at n1;rw[L f aq] at A;cases A
 unfold ep at M
 split at M
 ·exact known o M
 rename_i hn
 split at M
 ·rename_i he;have hd0:∃g0 x0,ρ0 f g0=some x0:=by
   rcases I with e|⟨k,hk,_,e1,e2⟩
   ·exact e
   have n1:=z 0 k aq aq;have n2:=z (k+1) l.length aq aq;rw[h0] at n1;rw[hN] at n2;omega
  cases hg:H.t.get f with
  |some O=>
   have:=U f O hd0 hg;rw[M] at this;cases this;exact known o (he.trans hg)
  |none=>
   have nn:∀i,i≤l.length→(Hs i).t.get f=none:=by
    intro i hi
    cases sd:(Hs i).t.get f with
    |none=>rfl
    |some o2=>
     have:=(T.kK hc hr hm L (i:=i) l.length hi (bt _)).gg f (by rw[sd];simp);rw[hN,he,hg] at this;exact absurd rfl this
   rw[Gh (j:=0) f l.length (gX _) fun k _ hk _ Y=>?_]
   ·exact M
   rcases Y with Y|Y
   ·have n1:=z 0 k aq aq;have n2:=z (k+1) l.length aq aq;rw[h0] at n1;rw[hN] at n2;omega
   rw[nn k aq,nn (k+1) aq] at Y;exact Y rfl
 exact known o M
theorem abe{ms:List Nat}{z:List bl}(G:l=oR ms 0 [] z)(T:Trace call l E H [] E' H' Es Hs Rs Wn Vs Fp):∀n,n≤l.length→Rs n=(seenAt z n).map Fp
 |0,_=>T.r0
 |n+1,M=>by
  obtain⟨o,ho⟩:∃o,l[n]?=some o:=⟨_,dm aq⟩;rw[(T.step n o ho).2.2,abe G T n aq];obtain⟨A,h0,_,_,_,I⟩:=FZ (ms:=ms) (L:=z) z 0 (fun n=>by simp) n o (by rw[←ho,G];rfl);rw[fM] at h0 I;unfold FY;simp only[seenAt,h0];rw[I]
  cases mf A.op<;>rfl
theorem pairs_ok{ms:List Nat}{G:List bl}(Y:l=oR ms 0 [] G)(Z:∀j i,(ms.getD j 0).testBit i=true→jN ops i j)(T:Trace call l E H [] E' H' Es Hs Rs Wn Vs Fp)
  (i j:Nat) (x y:bl) (Xs:i<j) (hx:l[i]?=some x) (hy:l[j]?=some y) (qx:x.q.isSome=true) (I:y.q.isSome=true):jN ops i j∨C4 (Fp j) (Fp i):=by
 have JR:j<l.length:=(List.getElem?_eq_some_iff.1 hy).1;obtain⟨x0,M,_,_,_,A⟩:=FZ (ms:=ms) (L:=G) G 0 (fun n=>by simp) i x (by rw[←hx,Y];rfl);obtain⟨y0,Xt,_,_,_,z⟩:=FZ (ms:=ms) (L:=G) G 0 (fun n=>by simp) j y (by rw[←hy,Y];rfl);rw[fM] at M Xt A z;have px:mf x0.op=false:=by
  cases h:mf x0.op
  ·rfl
  rw[h] at A;rw[A] at qx;cases qx
 have py:mf y0.op=false:=by
  cases h:mf y0.op
  ·rfl
  rw[h] at z;rw[z] at I;cases I
 rw[py] at z
 cases hb:(ms.getD j 0).testBit i
 case true=>exact .inl (Z _ _ hb)
 right;obtain⟨n,hn⟩:=Vp (Y9 M px j Xs);have hp:=YD hb (seenAt G j) 0 n hn;rw[fM] at hp;have hr:=abe Y T j aq;generalize hWj:Wn j=wj at*;generalize hVj:Vs j=vj at*;have st:=(T.step j y hy).1;have key:∀{b:Bool}{v:ak}{fp:FP}{H1:ay},qb call y (Es j) (Hs j) (Rs j) b v fp H1→C4 fp (Fp i):=by
  intro b v fp H1 st
  cases st with
  |skip hw O=>
   rw[O I];exact⟨fun _ h=>(by cases h),fun _ _=>⟨[],rfl,by simp⟩,fun _ h=>(by cases h),fun _ h=>(by cases h)⟩
  |plain hw O _=>rw[O] at I;cases I
  |marked hw O he ha=>
   rename_i q H2;rw[O] at z;simp at z;subst z;obtain⟨b,U,uj⟩:=YT ha n hp;rw[hr,yA,hn] at U
   cases U
   exact uj
 exact key st
theorem regionQ_sound(Y:je P call)(L:xX P nt ops l){ms:List Nat}{l0:List bl}(hl:l=oR ms 0 [] l0)(Z:∀j i,(ms.getD j 0).testBit i=true→jN ops i j)(M:P.follows .mixedOrders=true)
  {ρ:Ho} {C:Nat→Option cV} {w:World} {a:Act} {id:Nat} {K:Act→World→Prop} {Q:Exit→Act→World→Prop} (h:iE call l E H []= .ok E' H') (hA:AR P ρ nt E a) (O:R ρ C w) (hK:gJ ρ C H) (hF:fw ρ H.next H'.next) (hm:H.aQ≤H.next) (G:WF H)
  (I:rM P nt E' H H' C ρ w K) (hQ:∀a w,K a w→Q .normal a w):(Code.region id ops true).wp P Q a w:=by
 obtain⟨Es,Hs,Rs,Wn,Vs,Fp,T⟩:=aah l E H [] E' H' h;have hnn:H.next≤H'.next:=by
  have:=(T.kK Y L hm G (i:=0) l.length (gX _) (bt _)).next;rw[T.h0,T.hN] at this;exact this
 refine wp_region_any M (any_ok Y L T (pairs_ok hl Z T) hm G (ρ0:=ρ) (C0:=C) (w0:={w with drawn:=w.drawn+1}) hK hF (fun S a' w' ρ' U hI=>?_) ops.size _ a _ ρ (by simp[L.len]) ?_ ⟨?_,?_,?_,fun f g h e=>.inl ⟨g,h,e⟩⟩ ?_)
 ·obtain⟨k1,k2⟩:=hI.fin Y L T hm G hK hF U;have z:=hI.ext;exact hQ _ _ (I a' w' ρ' k1 ⟨z.le,z.gp,z.bz,z.frame,z.size,z.nn,z.os,z.tape,z.output⟩ k2 (KC hK z.gp))
 ·intro j o e ho z hb hj;exact absurd hj (by unfold jd;by_cases A:j<ops.size<;>simp[yw,TI,A])
 ·refine AR.congr hA fun t=>?_
  rw[K5 (j:=0) t l.length (gX _) fun k _ _ hk=>?_]
  ·rfl
  exact absurd hk (by unfold jd;by_cases A:k<ops.size<;>simp[yw,TI,A])
 ·have e:rC C Hs (jd (Array.replicate ops.size false)) l.length=C:=funext fun f=>by
   rw[Gh (j:=0) f l.length (gX _) fun k _ _ hk=>?_]
   ·rfl
   exact absurd hk (by unfold jd;by_cases A:k<ops.size<;>simp[yw,TI,A])
  rw[e];exact⟨fun f o ho g x hx=>(O.obj f o ho g x hx).gg (Ho.le_refl _) rfl,O.my,O.gE,O.uniq,O.db⟩
 ·exact(Ext.refl _ H.next ρ _).wide (bt _) hnn
 unfold O4;refine eZ (List.length_filter_le _ _) ?_;simp[L.len]
end
def guardOf(ops:Array Oper):Option (Nat×Bool)→Option (Option (Key×Bool))
 |none=>some none
 |some (j,want)=>match(ops[j]?).bind (·.dst) with|some d=>if d<1296 then some (some (pk d,want)) else none|none=>none
def T3(nt:Nat):Option Nat→Bool
 |some d=>decide (d<nt)&&decide (d<1296)
 |none=>true
def ML(P:Program)(o:Op):bm:=match IZ P o with|some io=>io|none=>bad
def T5(P:Program)(nt:Nat)(ops:Array Oper)(o:Oper):Option bl:=
 match guardOf ops o.guard with
 |none=>none
 |some g=>if T3 nt o.dst=true then some {dst:=o.dst.map pk,g:=g,q:=none,op:=ML P o.op} else none
def LQ(P:Program)(nt:Nat)(ops:Array Oper):List Oper→Option (List bl)
 |[]=>some []
 |o::r=>match T5 P nt ops o,LQ P nt ops r with
  |some a,some l=>some (a::l)
  |_,_=>none
def HZ:IC:=.region false [{dst:=none,g:=none,q:=none,op:=bad}]
def aai(P:Program)(nt:Nat)(ops:Array Oper)(draw:Bool):IC:=
 match LQ P nt ops ops.toList with
 |none=>HZ
 |some l=>
  if draw then
   let ms:=CO ops.toList []
   if KQ 0 ops.toList&&ads ms l then .region true (oR ms 0 [] l) else HZ
  else .region false l
def jA(P:Program)(nt:Nat):Code→IC
 |.skip=>.skip
 |.region _ ops draw=>aai P nt ops draw
 |.seq a b=>.seq (jA P nt a) (jA P nt b)
 |.cond c a b=>match ct P c with
  |some y=>.cond y (jA P nt a) (jA P nt b)
  |none=>HZ
 |.block id b=>.block id (jA P nt b)
 |.loop b=>.loop (jA P nt b)
 |.exit id=>.exit id
 |.ret=>.ret
 |.scope c=>jA P nt c
 |.label _=>.skip
 |_=>HZ
def mW(P:Program):List ResultVar→Option (List jT)
 |[]=>some []
 |.tmp t::r=>match mW P r with|some l=>if t<1296 then some (.tmp (pk t)::l) else none|none=>none
 |.cell a t::r=>match mW P r,gI P t with|some l,some n=>if a<1296 then some (.cell (pk a) n (pX P t)::l) else none|_,_=>none
def yV(P:Program)(fn:Func):Option aR:=
 match fn.body,mW P fn.results.toList with
 |some c,some rs=>if fn.params.size+fn.nfree≤fn.ntmps∧fn.params.size+fn.nfree≤1296∧(fn.name== "runtime.NumGoroutine")=false then some {nt:=fn.ntmps,ps:=(List.range (fn.params.size+fn.nfree)).map pk,res:=rs,body:=jA P fn.ntmps c} else none
 |_,_=>none
section
variable{P:Program}{nt:Nat}{ops:Array Oper}
theorem iopOf_ok{o:Oper}{io:bl}(h:T5 P nt ops o=some io):EC P nt ops o io:=by
 unfold T5 at h
 cases z:guardOf ops o.guard with
 |none=>rw[z] at h;cases h
 |some g=>
  rw[z] at h;dsimp only at h
  split at h
  ·rename_i A
   cases h
   refine⟨?_,fun d e=>?_,?_,?_⟩
   ·show o.dst=(o.dst.map pk).map Key.n
    cases ho:o.dst with
    |none=>rfl
    |some d=>
     rw[ho] at A;simp only[T3,cU,fy] at A;simp only[rK,BI A.2]
   ·have e:o.dst.map pk=some d:=e
    cases ho:o.dst with
    |none=>rw[ho] at e;cases e
    |some x=>
     rw[ho] at A e;simp only[T3,cU,fy] at A
     cases e
     rw[BI A.2];exact A.1
   ·cases h0:o.guard with
    |none=>rw[h0] at z;cases z;exact .inl ⟨rfl,rfl⟩
    |some M=>
     obtain⟨j,want⟩:=M;rw[h0] at z;unfold guardOf at z
     split at z
     ·rename_i G;cases G
     rename_i O I G
     cases G
     split at z
     ·rename_i d A
      split at z
      ·rename_i L
       cases z
       exact .inr ⟨j,want,pk d,rfl,by rw[BI L];exact A,rfl⟩
      cases z
     cases z
   show IZ P o.op=some (ML P o.op)∨ML P o.op=bad;unfold ML
   split
   ·rename_i io h;exact .inl h
   exact .inr rfl
  cases h
theorem ZE:∀{os:List Oper}{l:List bl},LQ P nt ops os=some l→l.length=os.length∧∀(i:Nat)(o:Oper)(io:bl),os[i]?=some o→l[i]?=some io→EC P nt ops o io
 |[],l,h=>by cases h;exact⟨rfl,fun i o io h=>by simp at h⟩
 |o::r,l,h=>by
  unfold LQ at h
  split at h
  ·rename_i a I G h2
   cases h
   obtain⟨e,k⟩:=ZE h2;refine⟨by simp[e],fun i x io A z=>?_⟩
   cases i with
   |zero=>simp at A z;subst A;subst z;exact iopOf_ok G
   |succ i=>exact k i x io (by simpa using A) (by simpa using z)
  cases h
def aiE:Ex→Exit
 |.normal=>.normal
 |.exit id=>.exit id
 |.ret=>.ret
theorem PG{r:Out}{k:Env→ay→Out}{x:Ex}{E':Env}{H':ay}(h:xb r k= .ok x E' H'):
  ∃y E1 H1,r= .ok y E1 H1∧((y= .normal∧k E1 H1= .ok x E' H')∨(y≠.normal∧y=x∧E1=E'∧H1=H')):=by
 cases r with
 |err n=>cases h
 |ok y E1 H1=>
  refine⟨y,E1,H1,rfl,?_⟩
  cases y with
  |normal=>exact .inl ⟨rfl,h⟩
  |exit id=>cases h;exact .inr ⟨by simp,rfl,rfl,rfl⟩
  |ret=>cases h;exact .inr ⟨by simp,rfl,rfl,rfl⟩
theorem LR{r:dD}{x:Ex}{E':Env}{H':ay}(h:E7 r= .ok x E' H'):x= .normal∧r= .ok E' H':=by
 cases r with
 |err n=>cases h
 |ok E H=>cases h;exact⟨rfl,rfl⟩
theorem qb.kK{call:dG}(G:je P call){o:bl}{E:Env}{H:ay}{bb:List FP}{b:Bool}{v:ak}{fp:FP}{H1:ay}(z:H.aQ≤H.next)(h:qb call o E H bb b v fp H1):eH H H1:=by
 cases h with
 |skip=>exact eH.refl _
 |plain _ _ A=>exact TM.ins z (fun f a=>G.kK f a H z) E o.op v _ A
 |marked _ _ A _=>exact(TM.ins (H:=H.mark) (bt _) (fun f a=>G.kK f a _ (bt _)) E o.op v _ A).Dn z
theorem YW{call:dG}(z:je P call):∀(l:List bl)(E:Env)(H:ay)(bb:List FP)(E':Env)(H':ay),H.aQ≤H.next→iE call l E H bb= .ok E' H'→eH H H'
 |[],E,H,bb,E',H',_,h=>by cases h;exact eH.refl _
 |o::r,E,H,bb,E',H',A,h=>by
  obtain⟨b,v,fp,H1,G,h2⟩:=aag (show o.ji call E H bb (iE call r)= .ok E' H' from h);have t1:=G.kK z A;exact t1.trans (YW z r _ _ _ _ _ (by rw[t1.aQ];exact eZ A t1.next) h2)
def TF(f:Env→ay→Out):Prop:=∀E H x E' H',H.aQ≤H.next→f E H= .ok x E' H'→eH H H'
theorem TF.seq{f g:Env→ay→Out}(A:TF f)(G:TF g):TF fun E H=>xb (f E H) g:=by
 intro E H x E' H' z h;obtain⟨y,E1,H1,I,h2⟩:=PG h;have t1:=A _ _ _ _ _ z I;rcases h2 with⟨_,h2⟩|⟨_,_,_,e⟩
 ·exact t1.trans (G _ _ _ _ _ (by rw[t1.aQ];exact eZ z t1.next) h2)
 exact e▸t1
theorem TF.loop{f:Env→ay→Out}(z:TF f):∀n,TF (xT f n)
 |0=>fun _ _ _ _ _ _ h=>by cases h
 |n+1=>TF.seq z (TF.loop z n)
theorem aaj{c:aI}{i j:IC}{f g:Env→ay→Out}{E E':Env}{H H':ay}{x:Ex}(h:TV c i j f g E H= .ok x E' H'):∃t,c.ev E=some (.bool t)∧(if t then f E H else g E H)= .ok x E' H':=by
 unfold TV at h
 cases z:c.ev E with
 |none=>rw[z] at h;cases h
 |some v=>
  rw[z] at h
  cases v<;>try(cases h;done)
  rename_i t;refine⟨t,rfl,?_⟩
  cases t<;>exact h
theorem ZF{id:Nat}{i:IC}{f:Env→ay→Out}{E E':Env}{H H':ay}{x:Ex}(h:GK id i f E H= .ok x E' H'):
  ∃y,f E H= .ok y E' H'∧((y= .normal∧x= .normal)∨(y= .exit id∧x= .normal)∨(∃z,z≠id∧y= .exit z∧x= .exit z)∨(y= .ret∧x= .ret)):=by
 unfold GK at h
 cases G:f E H with
 |err n=>rw[G] at h;cases h
 |ok y E1 H1=>
  rw[G] at h
  cases y with
  |normal=>cases h;exact⟨_,rfl,.inl ⟨rfl,rfl⟩⟩
  |ret=>cases h;exact⟨_,rfl,.inr (.inr (.inr ⟨rfl,rfl⟩))⟩
  |exit z=>
   have h:aD (Nat.beq z id) (Out.ok .normal E1 H1) (.ok (.exit z) E1 H1)= .ok x E' H':=h
   by_cases A:z=id
   ·subst A;rw[show Nat.beq z z=true from ij z] at h
    cases h;exact⟨_,rfl,.inr (.inl ⟨rfl,rfl⟩)⟩
   have e:Nat.beq z id=false:=by
    cases I:Nat.beq z id
    ·rfl
    exact absurd (cD I) A
   rw[e] at h
   cases h;exact⟨_,rfl,.inr (.inr (.inl ⟨z,A,rfl,rfl⟩))⟩
theorem sN{call:dG}{lf:Nat}(z:je P call):∀c:IC,TF (c.ev call lf)
 |.skip=>fun _ _ _ _ _ _ h=>by cases h;exact eH.refl _
 |.region d ops=>fun E H x E' H' A h=>by
  cases d with
  |false=>exact Ky z ops E H E' H' A (LR h).2
  |true=>exact YW z ops E H [] E' H' A (LR h).2
 |.seq a b=>TF.seq (sN z a) (sN z b)
 |.cond c a b=>fun E H x E' H' A h=>by
  obtain⟨t,_,h⟩:=aaj (i:=a) (j:=b) (f:=a.ev call lf) (g:=b.ev call lf) h
  cases t
  ·exact sN z b _ _ _ _ _ A h
  exact sN z a _ _ _ _ _ A h
 |.block id b=>fun E H x E' H' A h=>by
  obtain⟨y,h,_⟩:=ZF (i:=b) (f:=b.ev call lf) h;exact sN z b _ _ _ _ _ A h
 |.loop b=>TF.loop (sN z b) lf
 |.exit id=>fun _ _ _ _ _ _ h=>by cases h;exact eH.refl _
 |.ret=>fun _ _ _ _ _ _ h=>by cases h;exact eH.refl _
variable{ρ:Ho}{E E':Env}{H H' H1:ay}{C:Nat→Option cV}{w:World}{a:Act}{call:dG}{lf:Nat}
theorem rM.step(U:gJ ρ C H)(t1:eH H H1)(t2:eH H1 H'){K:Act→World→Prop}(z:rM P nt E' H H' C ρ w K){A:Ho}{Y:World}(G:Ext (Wr H1) H.next H1.next ρ A w Y):rM P nt E' H1 H' (ep C H H1) A Y K:=
 fun Z w2 I L M O _=>by
  have h2:=(G.mono (QW t2)).trans M;exact z Z w2 I L h2 (O.weaken fun f o h hf=>ZA U t1.next t2.next t2.gg h2.gp f o h hf) (KC U h2.gp)
theorem rM.refl{K:Act→World→Prop}(A:AR P ρ nt E a)(G:R ρ C w)(I:gJ ρ C H)(z:rM P nt E H H C ρ w K):K a w:=by
 refine z a w ρ A (Ext.refl _ _ _ _) ?_ ?_
 ·rw[oJ];exact G
 rw[oJ];exact I
theorem CQ{x:Ex}(h:HZ.ev call lf E H= .ok x E' H'):False:=by cases h
def GM(P:Program)(nt:Nat)(c:Code)(f:Env→ay→Out):Prop:=
 ∀E H x E' H' ρ C a w Q,f E H= .ok x E' H'→AR P ρ nt E a→R ρ C w→gJ ρ C H→fw ρ H.next H'.next→H.aQ≤H.next→WF H→rM P nt E' H H' C ρ w (Q (aiE x))→c.wp P Q a w
theorem GM.rounds{c:Code}{f:Env→ay→Out}(L:GM P nt c f)(M:TF f):∀n E H x E' H' ρ C a w(Q:Exit→Act→World→Prop),xT f n E H= .ok x E' H'→AR P ρ nt E a→R ρ C w→gJ ρ C H→fw ρ H.next H'.next→H.aQ≤H.next→WF H→
  rM P nt E' H H' C ρ w (Q (aiE x))→Code.rounds P c Q n a w
 |0,_,_,_,_,_,_,_,_,_,_,h,_,_,_,_,_,_,_=>by cases h
 |n+1,E,H,x,E',H',ρ,C,a,w,Q,h,hA,hR,O,U,I,z,Y=>by
  rw[rounds_succ];obtain⟨y,E1,H1,Z,h2⟩:=PG (k:=xT f n) h;have t1:=M _ _ _ _ _ I Z;have A:H1.aQ≤H1.next:=by rw[t1.aQ];exact eZ I t1.next
  rcases h2 with⟨rfl,h2⟩|⟨hy,rfl,rfl,rfl⟩
  ·have t2:=TF.loop M n _ _ _ _ _ A h2;exact L E H _ E1 H1 ρ C a w _ Z hA hR O (U.le t2.next) I z fun a1 w1 ρ1 Xu G Xv JW=>(GM.rounds L M n E1 H1 x E' H' ρ1 _ a1 w1 Q h2 Xu Xv JW (U.sub G.gp t1.next) A (t1.wf z) (Y.step O t1 t2 G))
  refine L E H _ E1 H1 ρ C a w _ Z hA hR O U I z ?_
  cases y with
  |normal=>exact absurd rfl hy
  |exit id=>exact Y
  |ret=>exact Y
theorem wT(hc:je P call)(G:P.follows .mixedOrders=true):∀c:Code,GM P nt c ((jA P nt c).ev call lf)
 |.skip=>fun E H x E' H' ρ C a w Q h I O M Y U z A=>by
  cases h
  exact wp_skip (A.refl I O M)
 |.exit id=>fun E H x E' H' ρ C a w Q h I O M Y U z A=>by
  cases h
  exact wp_exit (A.refl I O M)
 |.ret=>fun E H x E' H' ρ C a w Q h I O M Y U z A=>by
  cases h
  exact wp_ret (A.refl I O M)
 |.seq c d=>fun E H x E' H' ρ C a w Q h I O M Y U z A=>by
  have hcc:=wT hc G c;have hd:=wT hc G d;obtain⟨y,E1,H1,h1,h2⟩:=PG (k:=(jA P nt d).ev call lf) h;have t1:=sN hc (jA P nt c) _ _ _ _ _ U h1;have qM:H1.aQ≤H1.next:=by rw[t1.aQ];exact eZ U t1.next
  refine wp_seq ?_;rcases h2 with⟨rfl,h2⟩|⟨hy,rfl,rfl,rfl⟩
  ·have t2:=sN hc (jA P nt d) _ _ _ _ _ qM h2;exact hcc E H _ E1 H1 ρ C a w _ h1 I O M (Y.le t2.next) U z fun a1 w1 ρ1 Xu O5 Xv JW=>(hd E1 H1 x E' H' ρ1 _ a1 w1 Q h2 Xu Xv JW (Y.sub O5.gp t1.next) qM (t1.wf z) (A.step M t1 t2 O5))
  refine hcc E H _ E1 H1 ρ C a w _ h1 I O M Y U z ?_
  cases y with
  |normal=>exact absurd rfl hy
  |exit id=>exact A
  |ret=>exact A
 |.cond c d e=>fun E H x E' H' ρ C a w Q h I O M Y U z A=>by
  unfold jA at h
  split at h
  ·rename_i y hy;obtain⟨t,h1,h2⟩:=aaj (i:=jA P nt d) (j:=jA P nt e) (f:=(jA P nt d).ev call lf) (g:=(jA P nt e).ev call lf) h;have k:=I.bG hy h1;simp only[VR] at k;refine wp_cond (t:=t) k ?_
   cases t
   ·exact wT hc G e E H x E' H' ρ C a w Q h2 I O M Y U z A
   exact wT hc G d E H x E' H' ρ C a w Q h2 I O M Y U z A
  exact(CQ h).elim
 |.block id c=>fun E H x E' H' ρ C a w Q h I O M Y U z A=>by
  obtain⟨y,h1,h2⟩:=ZF (i:=jA P nt c) (f:=(jA P nt c).ev call lf) h;refine wp_block (wT hc G c E H y E' H' ρ C a w _ h1 I O M Y U z ?_);rcases h2 with⟨rfl,rfl⟩|⟨rfl,rfl⟩|⟨id',fO,rfl,rfl⟩|⟨rfl,rfl⟩
  ·exact A
  ·intro a1 w1 ρ1 b1 b2 b3 b4;show Exit.inBlock id Q (.exit id) a1 w1;simp only[Exit.inBlock,if_true];exact A a1 w1 ρ1 b1 b2 b3 b4
  ·intro a1 w1 ρ1 b1 b2 b3 b4;show Exit.inBlock id Q (.exit id') a1 w1;simp only[Exit.inBlock,aZ fO];exact A a1 w1 ρ1 b1 b2 b3 b4
  exact A
 |.loop c=>fun E H x E' H' ρ C a w Q h I O M Y U z A=>
  wp_loop_rounds lf (GM.rounds (wT hc G c) (sN hc _) lf E H x E' H' ρ C a w Q h I O M Y U z A)
 |.region id ops draw=>fun E H x E' H' ρ C a w Q h I O M Y U z A=>by
  unfold jA aai at h
  split at h
  ·exact(CQ h).elim
  rename_i l hl;obtain⟨hlen,zG⟩:=ZE hl
  cases draw with
  |false=>
   simp only[gK,if_false] at h;obtain⟨rfl,hz⟩:=LR (r:=mi call l E H) h;refine wp_region ?_;rw[show ops.size=l.length by rw[hlen];simp,List.range_eq_range'];exact YS hc (K:=Q .normal) l ops.toList 0 hlen.symm zG (fun i o h=>by simpa using h) E H E' H' ρ C a w hz I O M Y U z A (fun _ _ h=>h)
  |true=>
   simp only[if_true] at h
   split at h
   ·rename_i Xw;simp only[cU] at Xw;obtain⟨rfl,hz⟩:=LR (r:=iE call (oR (CO ops.toList []) 0 [] l) E H []) h;have Xx:=YC (ops:=ops) ops.toList [] (fun n=>by simp) (fun j i h=>by simp at h);have get:∀{i:Nat}{io:bl},(oR (CO ops.toList []) 0 [] l)[i]?=some io→∃Z,l[i]?=some Z∧io.dst=Z.dst∧io.g=Z.g∧io.op=Z.op∧(io.q=none→mf io.op=true):=by
     intro i io JV;obtain⟨Z,h0,h1,h2,h3,h4⟩:=FZ (ms:=CO ops.toList []) (L:=l) l 0 (fun n=>by simp) i io JV;rw[fM] at h0;refine⟨Z,h0,h1,h2,h3,fun hq=>?_⟩;rw[hq] at h4;rw[h3]
     cases hp:mf Z.op
     ·rw[hp] at h4;simp at h4
     rfl
    refine regionQ_sound hc ⟨?_,?_,?_,?_,?_⟩ rfl Xx G hz I O M Y U z A (fun _ _ h=>h)
    ·rw[YE,hlen];simp
    ·intro i o io ho JV;obtain⟨Z,h0,h1,h2,h3,_⟩:=get JV;have k:=zG i o Z (by simpa using ho) h0;exact⟨by rw[h1];exact k.dst,fun d hd=>k.lt d (by rw[←h1];exact hd),by rw[h2];exact k.g,by rw[h3];exact k.op⟩
    ·intro j o e ho he hb;have:=YU ops.toList 0 Xw.1 j o e (by simpa using ho) he hb;omega
    ·intro i j x y Xs hx hy;obtain⟨x0,hx0,a1,a2,a3,_⟩:=get hx;obtain⟨y0,Xt,b1,b2,b3,_⟩:=get hy;rcases tmpsOk_ok Xw.2 Xs hx0 Xt with k|k
     ·exact .inl (Xx _ _ k)
     refine .inr ⟨fun t A=>?_,fun t A=>?_,fun t A=>?_⟩
     ·rw[a1];exact k.xy t (by unfold uU at A⊢;rw[←b2,←b3];exact A)
     ·rw[a1];exact k.dd t (by rw[←b1];exact A)
     rw[b1];exact k.yx t (by unfold uU at A⊢;rw[←a2,←a3];exact A)
    intro i x hx hq;obtain⟨_,_,_,_,_,k⟩:=get hx;exact k hq
   exact(CQ h).elim
 |.rangeFunc ..=>fun E H x E' H' ρ C a w Q h _ _ _ _ _ _ _=>(CQ h).elim
 |.scope c=>fun E H x E' H' ρ C a w Q h I O M Y U z A=>
  wp_scope_straight (wT hc G c E H x E' H' ρ C a w _ h I O M Y U z (by cases x<;>exact A))
 |.label _=>fun E H x E' H' ρ C a w Q h I O M Y U z A=>by
  cases h
  exact wp_label (A.refl I O M)
 |.goto _=>fun E H x E' H' ρ C a w Q h _ _ _ _ _ _ _=>(CQ h).elim
 |.refuse _=>fun E H x E' H' ρ C a w Q h _ _ _ _ _ _ _=>(CQ h).elim
end
structure Kept(w w':World):Prop where
 os:w'.os=w.os
 tape:w'.tape=w.tape
 output:w'.output=w.output
 size:w.heap.size≤w'.heap.size
 uk:∀b,b<w.heap.size→w'.heap[b]?=w.heap[b]?
section
variable{ρ:Ho}{C:Nat→Option cV}{w w':World}
theorem R.kept(z:R ρ C w)(G:Kept w w'):R ρ C w':=
 ⟨fun f o ho g h A=>(z.obj f o ho g h A).gg (Ho.le_refl _) (G.uk _ (z.gE f g h A)),z.my,fun f g h A=>jj (z.gE f g h A) G.size,z.uniq,fun f g h A a b=>(z.db f g h A a b).gg (cell_of_heap (w:=w) (G.uk _ (z.gE f g h A)))⟩
theorem Kept.ext(z:Kept w w')(W:Nat→Prop)(n:Nat)(ρ:Ho):Ext W n n ρ ρ w w':=
 ⟨Ho.le_refl _,fun _ g h e=>.inl ⟨g,h,e⟩,fun _ _ _ e=>.inl e,fun b A _=>z.uk b A,z.size,bt _,z.os,z.tape,z.output⟩
end
section
variable{P:Program}{nt:Nat}{ρ:Ho}{E E':Env}{H H' H1:ay}{C:Nat→Option cV}{w:World}{a:Act}{call:dG}{lf:Nat}
theorem ZG:∀(ks:List Key)(l:List ak)(E:Env)(c:Env→aC)(v:ak)(H':ay),params ks l E c= .ok v H'→
  ks.length=l.length∧∃E',c E'= .ok v H'∧∀t x,E'.get t=some x→E.get t=some x∨∃i:Nat,ks[i]?=some t∧l[i]?=some x
 |[],[],E,c,v,H',h=>⟨rfl,E,h,fun t x A=>.inl A⟩
 |[],_::_,E,c,v,H',h=>by cases h
 |_::_,[],E,c,v,H',h=>by cases h
 |k::ks,y::l,E,c,v,H',h=>by
  have h:E.fr k y (fun E=>params ks l E c)= .ok v H':=h;rw[T4.jc] at h;obtain⟨G,E',h2,I⟩:=ZG ks l _ _ _ _ h;refine⟨by simp[G],E',h2,fun t x A=>?_⟩;rcases I t x A with z|⟨i,z,L⟩
  ·rw[T4.dn] at z
   split at z
   ·rename_i e;subst e
    cases z
    exact .inr ⟨0,rfl,rfl⟩
   exact .inl z
  exact .inr ⟨i+1,by simpa using z,by simpa using L⟩
theorem AR.init{args:List ak}{dV:Array Value}(A:bQ ρ args dV.toList)(Z:args.length≤nt)(I:vn P ρ){E':Env}{n:Nat}(L:n≤1296)
  (M:∀t x,E'.get t=some x→T4.emp.get t=some x∨∃i:Nat,((List.range n).map pk)[i]?=some t∧args[i]?=some x):
  AR P ρ nt E' {tmps:=dV++Array.replicate (nt-dV.size) undef,defers:=[]}:=by
 have hl:dV.size=args.length:=by have:=A.length;simpa using this
 refine⟨by simp;omega,rfl,fun t v h=>?_,I⟩;rcases M t v h with h|⟨i,G,h2⟩
 ·rw[T4.sL] at h;cases h
 obtain⟨y,O,z⟩:=A.get _ v h2;refine⟨y,?_,z⟩;have hi:i<n:=by
  have:=(List.getElem?_eq_some_iff.1 G).1;simpa using this
 have U:pk i=t:=by simpa[hi] using G
 have Y:t.n=i:=by rw[←U];exact BI aq
 have:i<dV.size:=by
  have:=(List.getElem?_eq_some_iff.1 h2).1;omega
 rw[Y,NM this];simpa using O
def ED(tmps:Array Value):ResultVar→Sem Value
 |.tmp t=>pure (tmps.getD t undef)
 |.cell a t=>do loadVar t (←asAddr (tmps.getD a undef))
theorem results_eq(fn:Func)(tmps:Array Value):Go.results fn tmps=(do
  let vs←fn.results.mapM (ED tmps)
  pure (if h:vs.size=1 then vs[0] else .tuple vs)):=by
 unfold Go.results;congr 2
theorem abf{tmps:Array Value}{t:Nat}{cv:Value}(h:tmps[t]?=some cv):tmps.getD t undef=cv:=by
 simp[yw,h]
theorem resA_ok(hA:AR P ρ nt E a)(hR:R ρ C w)(hK:gJ ρ C H){r:ResultVar}{rs:List jT}{ir:jT}(z:mW P (r::[])=some [ir]){k:ak→aC}{e:Nat}{v:ak}(h:EB E H ir (.err e) k= .ok v H'):
  ∃x L,(ED a.tmps r).run P w= .ok L w∧VR ρ x L∧k x= .ok v H':=by
 cases r with
 |tmp t=>
  simp only[mW] at z
  split at z
  case isFalse=>cases z
  rename_i ht;simp only[eA,vg,and_true] at z;subst z;replace h:=gS (o:=E.get (pk t)) h;obtain⟨x,I,h⟩:=h;obtain⟨cv,M,h2⟩:=hA.tmp (pk t) x I;rw[BI ht] at M;exact⟨x,cv,by simp[ED,abf M],h2,h⟩
 |cell s t=>
  simp only[mW] at z
  split at z
  ·rename_i l n U hn
   cases U
   split at z
   case isFalse=>cases z
   rename_i G;simp only[eA,vg,and_true] at z;subst z;replace h:=gS (o:=E.get (pk s)) h;obtain⟨x,I,h⟩:=h;replace h:=Ap h;obtain⟨f,g,off,rfl,h⟩:=h;obtain⟨l,U,h⟩:=T0 h (by simp);obtain⟨cv,M,h2⟩:=hA.tmp (pk s) _ I;rw[BI G] at M;simp only[VR] at h2;obtain⟨hm,hh,rfl⟩:=h2;obtain⟨_,_,_,_,_,ui⟩:=uG hn;have Y:C f=H.t.get f:=by
    obtain⟨_,_,_,_,_,_,_,_,hg,_⟩:=U;exact(hK f _ ⟨_,_,hh⟩ hg).trans hg.symm
   obtain⟨hlen,hk,hc⟩:=hR.rd U Y hh aq;have key:∀x,fN (pX P t) l (.err 0) (fun v=>.ok v H)= .ok x H→k x= .ok v H'→∃x L,(ED a.tmps (.cell s t)).run P w= .ok L w∧VR ρ x L∧k x= .ok v H':=by
    intro x I Z;obtain⟨_,cv,O,sb⟩:=YM (P:=P) (ρ:=ρ) (w:=w) (ad:=⟨hm.bz,hm.off+off,none⟩) hn hlen hk (fun j x I=>by rw[Addr.add_lit];exact hc j x I) I;exact⟨x,cv,by simp[ED,abf M,asAddr,O],sb,Z⟩
   rcases QT h with⟨A,h⟩|⟨x,A,wD,h⟩
   ·exact key _ (by rw[A];rfl) h
   exact key x (by rw[A,wD];rfl) h
  cases z
theorem aak(Z:AR P ρ nt E a)(hR:R ρ C w)(hK:gJ ρ C H){e:Nat}{v:ak}:∀{l:List ResultVar}{rs:List jT}(z:mW P l=some rs){k:List ak→aC},xU E H rs (.err e) k= .ok v H'→
  ∃vs nm,(l.mapM (ED a.tmps)).run P w= .ok nm w∧bQ ρ vs nm∧k vs= .ok v H'
 |[],rs,z,k,h=>by
  cases z
  exact⟨[],[],by simp,by simp only[bQ],h⟩
 |r::l,rs,z,k,h=>by
  have A:∃I G,rs=I::G∧mW P [r]=some [I]∧mW P l=some G:=by
   cases r with
   |tmp t=>
    unfold mW at z
    split at z
    ·rename_i L M
     split at z
     ·rename_i O;cases z;exact⟨_,L,rfl,by simp[mW,O],M⟩
     cases z
    cases z
   |cell s t=>
    unfold mW at z
    split at z
    ·rename_i L n M hn
     split at z
     ·rename_i O;cases z;exact⟨_,L,rfl,by simp[mW,hn,O],M⟩
     cases z
    cases z
  obtain⟨I,G,rfl,h1,h2⟩:=A;have h:EB E H I (.err e) (fun v=>xU E H G (.err e) fun vs=>k (v::vs))= .ok v H':=h;obtain⟨x,cx,hx,U,h⟩:=resA_ok Z hR hK (rs:=[]) h1 h;obtain⟨vs,nm,hm,Y,h⟩:=aak Z hR hK h2 h;exact⟨x::vs,cx::nm,by simp[hx,hm],⟨cx,nm,rfl,U,Y⟩,h⟩
theorem resultsA_ok(G:AR P ρ nt E a)(I:R ρ C w)(L:gJ ρ C H){fn:Func}{rs:List jT}(M:mW P fn.results.toList=some rs){v:ak}(h:results E H rs= .ok v H'):
  H'=H∧∃cv,(Go.results fn a.tmps).run P w= .ok cv w∧VR ρ v cv:=by
 obtain⟨vs,nm,A,z,h⟩:=aak (P:=P) (e:=70) G I L M h;rw[results_eq]
 cases vs with
 |nil=>
  cases h
  simp only[bQ] at z;subst z;refine⟨rfl,.tuple #[],by simp[TJ,A],?_⟩;simp only[VR];exact⟨#[],rfl,by simp only[bQ]⟩
 |cons x r=>
  cases r with
  |nil=>
   cases h
   simp only[bQ] at z;obtain⟨c,t,rfl,O,rfl⟩:=z;exact⟨rfl,c,by simp[TJ,A],O⟩
  |cons y s=>
   cases h
   refine⟨rfl,.tuple nm.toArray,?_,?_⟩
   ·have U:=z.length;have:¬nm.length=1:=by simp at U;omega
    simp[TJ,A,this]
   simp only[VR];exact⟨nm.toArray,rfl,by simpa using z⟩
theorem abg{g:Func}{fn:aR}(h:yV P g=some fn):∃c,g.body=some c∧mW P g.results.toList=some fn.res∧(∃n,n≤g.ntmps∧n≤1296∧fn.ps=(List.range n).map pk)∧fn.nt=g.ntmps∧fn.body=jA P g.ntmps c∧(g.name== "runtime.NumGoroutine")=false:=by
 unfold yV at h
 split at h
 ·rename_i c rs A G
  split at h
  ·rename_i z
   cases h
   exact⟨c,A,G,⟨_,z.1,z.2.1,rfl⟩,rfl,rfl,z.2.2⟩
  cases h
 cases h
theorem abh{fn:aR}{args:List ak}{v:ak}(h:vK call lf fn args H= .ok v H'):
  fn.ps.length=args.length∧∃E' x E1 H1,(∀t y,E'.get t=some y→T4.emp.get t=some y∨∃i:Nat,fn.ps[i]?=some t∧args[i]?=some y)∧fn.body.ev call lf E' H= .ok x E1 H1∧(x= .normal∨x= .ret)∧results E1 H1 fn.res= .ok v H':=by
 obtain⟨A,E',h2,G⟩:=ZG fn.ps args .emp _ _ _ h;refine⟨A,E',?_⟩
 cases z:fn.body.ev call lf E' H with
 |err n=>rw[z] at h2;cases h2
 |ok x E1 H1=>
  rw[z] at h2;refine⟨x,E1,H1,G,rfl,?_⟩
  cases x with
  |normal=>exact⟨.inl rfl,h2⟩
  |exit id=>cases h2
  |ret=>exact⟨.inr rfl,h2⟩
theorem PS.rd{H:ay}{f g off n:Nat}{e:aC}{k:List ak→aC}(h:∀x,PS H (k x))(h':PS H e):PS H (rd H f g off n e k):=
 PS.iT (fun _ _ _ _ _ _ _=>PS.aD (PS.aD (PS.aD (PS.aD (PS.ob (fun _=>PS.aD (h _) (h _)) h') h') h') h') h') h'
theorem YF{rs:List jT}{v:ak}(h:results E H rs= .ok v H'):H'=H:=by
 have key:∀(rs:List jT)(k:List ak→aC),(∀vs,PS H (k vs))→PS H (xU E H rs (.err 70) k):=by
  intro rs
  induction rs with
  |nil=>intro k A;exact A []
  |cons r rs G=>
   intro k A;show PS H (EB E H r (.err 70) fun v=>xU E H rs (.err 70) fun vs=>k (v::vs));have z:∀v,PS H (xU E H rs (.err 70) fun vs=>k (v::vs)):=fun v=>G _ fun vs=>A _
   cases r with
   |tmp t=>exact PS.ob (fun x=>z x) PS.err
   |cell s n g=>exact PS.ob (fun x=>PS.gw (fun _ _ _=>PS.rd (fun _=>PS.fN (fun x=>z x) PS.err) PS.err) PS.err) PS.err
 exact key rs _ (fun vs=>by
  cases vs with
  |nil=>exact PS.ok
  |cons x r=>cases r<;>exact PS.ok) v H' h
def Gi(P:Program)(ft:Tr aR):Prop:=∀f fn,ft.get f=some fn→∃g,P.funcs[f]?=some g∧yV P g=some fn
theorem Y'(hc:je P call)(A:P.follows .mixedOrders=true){f:Nat}{g:Func}{fn:aR}(hf:P.funcs[f]?=some g)(hg:yV P g=some fn){args:List ak}{v:ak}{dV:Array Value}
  (h:vK call lf fn args H= .ok v H') (hm:H.aQ≤H.next) (O:WF H) (hR:R ρ C w) (hK:gJ ρ C H) (hF:fw ρ H.next H'.next) (hG:vn P ρ) (hv:bQ ρ args dV.toList):
  Calls P f dV w fun e w'=>∃cv,e= .returned cv∧cQ ρ C w H v H' cv w':=by
 obtain⟨c,hb,hr,⟨np,U,G,Y⟩,hnt,z,_⟩:=abg hg;obtain⟨hlen,E',x,E1,H1,hE,h1,hx,h2⟩:=abh h;have he:=YF h2;subst he;rw[Y] at hE hlen;have hA:AR P ρ g.ntmps E' {tmps:=dV++Array.replicate (g.ntmps-dV.size) undef,defers:=[]}:=AR.init hv (by rw[←hlen];simpa using U) hG G hE;rw[z] at h1;refine calls_of_wp hf hb (wT hc A c _ H x E1 H' ρ C _ w _ h1 hA hR hK hF hm O fun a1 Z ρ1 I O5 L JW=>?_);obtain⟨_,cv,M,sb⟩:=resultsA_ok I L JW hr h2;have fin:a1.defers=[]∧∃v,(Go.results g a1.tmps).run P Z= .ok v Z∧∃cv,Ending.returned v= .returned cv∧cQ ρ C w H ‹ak› H' cv Z:=⟨I.defers,cv,M,cv,rfl,ρ1,sb,O5,L⟩;rcases hx with rfl|rfl
 ·exact fin
 exact fin
def QX:Nat→Option (Array Value→Sem Value)
 |1=>some Extern.AbiNoEscape.same
 |_=>none
def adx(P:Program)(f:Nat):Prop:=∀w:World,xV P w→
 ((callFunc f #[]).run P w= .ok (.enter f #[]) w∧Calls P f #[] w fun e w'=>e= .returned (.bool true)∧Kept w w')∨∃w',(callFunc f #[]).run P w= .ok (.value (.bool true)) w'∧Kept w w'
def LibOk(P:Program)(f c:Nat):Prop:=∃fn,P.funcs[f]?=some fn∧(fn.name== "runtime.NumGoroutine")=false∧fn.body.isNone=true∧Extern.findNext fn=none∧∃e,QX c=some e∧Extern.find fn=some e
def MM(P:Program)(xt:Tr Nat):Prop:=∀f c,xt.get f=some c→LibOk P f c∨(c=2∧adx P f)
theorem ext_ok(O:R ρ C w){c:Nat}{e:Array Value→Sem Value}(z:QX c=some e){args:List ak}{dV:Array Value}(A:bQ ρ args dV.toList){v:ak}(h:tR c args H= .ok v H'):
  H'=H∧∃cv,(e dV).run P w= .ok cv w∧VR ρ v cv:=by
 unfold QX at z
 split at z
 ·cases z
  have h:TW args H= .ok v H':=h
  cases args with
  |nil=>cases h
  |cons x r=>cases r with
   |cons y r=>cases h
   |nil=>
    cases h
    simp only[bQ] at A;obtain⟨G,_,I,L,rfl⟩:=A;have M:dV=#[G]:=by have:=congrArg List.toArray I;simpa using this
    subst M;exact⟨rfl,G,rfl,L⟩
 cases z
theorem ext_same{c:Nat}{args:List ak}:PS H (tR c args H):=by
 cases c with
 |zero=>exact PS.err
 |succ c=>cases c with
  |zero=>
   show PS H (TW args H)
   cases args with
   |nil=>exact PS.err
   |cons x r=>cases r with
    |nil=>exact PS.ok
    |cons y r=>exact PS.err
  |succ c=>
   show PS H (TX args H)
   cases args with
   |nil=>exact PS.ok
   |cons x r=>exact PS.err
theorem RZ(z:R ρ C w)(L:vn P ρ):xV P w:=fun g M=>by
 obtain⟨x,A,O,ho,G⟩:=L g M;refine⟨by have:=z.gE g 1 x A;omega,fun h=>?_⟩;obtain⟨U,Y,I⟩:=(z.db _ _ _ A (G h).1 (G h).2).2;rw[O,ho] at I;exact⟨U,Y,I⟩
theorem LS(A:P.follows .mixedOrders=true){ft:Tr aR}{xt:Tr Nat}{zt:ZT}(ht:Gi P ft)(hx:MM P xt)(hz:QV P zt):∀n,je P (sa ft xt zt lf n)
 |0=>⟨fun _ _ _ _=>TM.err,fun _ _ _ _ _ _ _ _ _ h=>(by cases h)⟩
 |n+1=>by
  have ih:=LS A ht hx hz n;have key:∀f args H v H',sa ft xt zt lf (n+1) f args H= .ok v H'→(∃fn,ft.get f=some fn∧vK (sa ft xt zt lf n) lf fn args H= .ok v H')∨(∃c,xt.get f=some c∧tR c args H= .ok v H')∨∃F,zt.get f=some F∧F args H= .ok v H':=by
   intro f args H v H' h;have h:ob (ft.get f) (ob (xt.get f) (ob (zt.get f) (.err (Nat.add 10000 f)) fun F=>F args H) fun c=>tR c args H) (fun fn=>vK (sa ft xt zt lf n) lf fn args H)= .ok v H':=h
   cases hf:ft.get f with
   |some fn=>rw[hf] at h;exact .inl ⟨fn,rfl,h⟩
   |none=>
    rw[hf] at h;have h:ob (xt.get f) (ob (zt.get f) (.err (Nat.add 10000 f)) fun F=>F args H) (fun c=>tR c args H)= .ok v H':=h
    cases hc:xt.get f with
    |some c=>rw[hc] at h;exact .inr (.inl ⟨c,rfl,h⟩)
    |none=>rw[hc] at h;exact .inr (.inr (gS (o:=zt.get f) h))
  refine⟨fun f args H O v H' h=>?_,fun f args H v H' ρ C w dV h O U M hK hF hG Y=>?_⟩
  ·rcases key _ _ _ _ _ h with⟨fn,_,h⟩|⟨c,_,h⟩|⟨F,hF,h⟩
   ·obtain⟨_,_,x,E1,H1,_,G,_,h2⟩:=abh h;rw[YF h2];exact sN ih fn.body _ _ _ _ _ O G
   ·rw[ext_same v H' h];exact eH.refl _
   exact(hz f F hF).kK args H O v H' h
  rcases key _ _ _ _ _ h with⟨fn,JX,h⟩|⟨c,hc,h⟩|⟨F0,Fg,h⟩
  rotate_left 2
  ·exact(hz f F0 Fg).sound args H v H' ρ C w dV h O U M hK hF hG Y
  ·obtain⟨g,hg,Z⟩:=ht f fn JX;obtain⟨cd,hb,_,_,_,_,z⟩:=abg Z;have G:g.name≠ "runtime.NumGoroutine":=by simpa using z
   exact .inl ⟨by simp[callFunc,hg,G,hb],Y' ih A hg Z h O U M hK hF hG Y⟩
  rcases hx f c hc with⟨fn,hf,z,hb,hn,e,he,I⟩|⟨rfl,L⟩
  rotate_left
  ·have h:TX args H= .ok v H':=h
   cases args with
   |cons x r=>cases h
   |nil=>
    cases h
    simp only[bQ] at Y;have O0:dV=#[]:=by have:=congrArg List.toArray Y;simpa using this
    subst O0;have oA:xV P w:=RZ M hG;have post:∀{w':World},Kept w w'→cQ ρ C w H (.bool true) H (.bool true) w':=fun hk=>⟨ρ,by simp only[VR],hk.ext _ _ _,by rw[oJ];exact M.kept hk⟩
    rcases L w oA with⟨G,h2⟩|⟨w',G,h2⟩
    ·exact .inl ⟨G,Calls.mono h2 fun e w'⟨he,hk⟩=>⟨_,he,post hk⟩⟩
    exact .inr ⟨_,w',G,post h2⟩
  obtain⟨rfl,cv,vM,sb⟩:=ext_ok (P:=P) M he Y h;refine .inr ⟨cv,w,?_,ρ,sb,Ext.refl _ _ _ _,?_⟩
  ·rw[run_callFunc_standIn hf z hb hn I,vM];rfl
  rw[oJ];exact M
end
end Go.Ev
