/- Part 13 of rules for walks through the code of a program, and of such walks; what each part proves is said by its theorems. -/
import Derived.Test.YtdgcofocbhbjcaaGreatS12
set_option linter.unusedVariables false
set_option linter.unusedSimpArgs false
noncomputable section
set_option maxRecDepth 100000
set_option maxHeartbeats 4000000
namespace Go.Ev
open Go
inductive Ty where
 |i (k:IntKind) (lo hi:Int)
 |b
 |s (n:Nat)
 |l (n:Nat) (row:List Ty)
 |e (d:DC)
 |x
mutual
def Ty.ok:Ty→DC→Prop
 |.i k lo hi,d=>∃z,d= .i k z∧lo≤z∧z≤hi
 |.b,d=>∃b,d= .b b
 |.s n,d=>∃s:List UInt8,d=al s∧s.length≤n
 |.l n row,d=>∃rows,aR rows d∧rows.length≤n∧∀r,r∈rows→fF row r
 |.e x,d=>d=x
 |.x,_=>True
def fF:List Ty→List DC→Prop
 |[],l=>l=[]
 |p::ps,l=>∃d r,l=d::r∧p.ok d∧fF ps r
end
def aH(row:List Ty)(rows:List (List DC)):Prop:=∀r,r∈rows→fF row r
theorem Ty.az{k:IntKind}{lo hi:Int}{d:DC}(h:(Ty.i k lo hi).ok d):∃z,d= .i k z∧lo≤z∧z≤hi:=by simpa only[Ty.ok] using h
theorem Ty.bQ{d:DC}(h:Ty.b.ok d):∃b,d= .b b:=by simpa only[Ty.ok] using h
theorem Ty.aJ{n:Nat}{d:DC}(h:(Ty.s n).ok d):∃s:List UInt8,d=al s∧s.length≤n:=by simpa only[Ty.ok] using h
theorem Ty.au{n:Nat}{row:List Ty}{d:DC}(h:(Ty.l n row).ok d):∃rows,aR rows d∧rows.length≤n∧aH row rows:=by unfold Ty.ok at h;exact h
theorem Ty.gm{x d:DC}(h:(Ty.e x).ok d):d=x:=by simpa only[Ty.ok] using h
theorem gm{x:DC}:(Ty.e x).ok x:=by simp only[Ty.ok]
theorem jZ{x:DC}:Ty.x.ok x:=by simp only[Ty.ok]
theorem az{k:IntKind}{lo hi z:Int}(p:lo≤z)(h2:z≤hi):(Ty.i k lo hi).ok (.i k z):=by simp only[Ty.ok];exact⟨z,rfl,p,h2⟩
theorem bQ{b:Bool}:Ty.b.ok (.b b):=by simp only[Ty.ok];exact⟨b,rfl⟩
theorem aJ{n:Nat}{s:List UInt8}(h:s.length≤n):(Ty.s n).ok (al s):=by simp only[Ty.ok];exact⟨s,rfl,h⟩
theorem au{n:Nat}{row:List Ty}{d:DC}{rows:List (List DC)}(p:aR rows d)(h2:rows.length≤n)(z:aH row rows):(Ty.l n row).ok d:=by simp only[Ty.ok];exact⟨rows,p,h2,z⟩
theorem bl{n:Nat}{row:List Ty}:(Ty.l n row).ok .nil:=au (rows:=[]) (.inr ⟨rfl,rfl⟩) (mR _) fun _ h=>by cases h
theorem ok_sl{n:Nat}{row:List Ty}{rows:List (List DC)}(h2:rows.length≤n)(p:aH row rows):(Ty.l n row).ok (.sl rows):=au (.inl rfl) h2 p
theorem bm:fF [] []:=by simp only[fF]
theorem ao{p:Ty}{ps:List Ty}{d:DC}{r:List DC}(h:p.ok d)(k:fF ps r):fF (p::ps) (d::r):=by rw[fF];exact⟨d,r,rfl,h,k⟩
theorem b0{p:Ty}{ps:List Ty}{l:List DC}(h:fF (p::ps) l):∃d r,l=d::r∧p.ok d∧fF ps r:=by rwa [fF] at h
theorem dy{l:List DC}(h:fF [] l):l=[]:=by rwa [fF] at h
theorem VM:∀{ps:List Ty}{l:List DC},fF ps l→l.length=ps.length
 |[],l,h=>by rw[dy h];rfl
 |p::ps,l,h=>by obtain⟨d,r,rfl,_,h⟩:=b0 h;rw[kZ,kZ,VM h]
theorem bN{row:List Ty}:aH row []:=fun _ h=>by cases h
theorem bS{row:List Ty}{a b:List (List DC)}(h:aH row a)(k:aH row b):aH row (a++b):=fun r p=>(List.mem_append.1 p).elim (h r) (k r)
theorem bX{row:List Ty}{r:List DC}(h:fF row r):aH row [r]:=fun _ p=>by rcases List.mem_singleton.1 p with rfl;exact h
theorem okRs_cut{row:List Ty}{a:List (List DC)}{l n:Nat}(h:aH row a):aH row ((a.drop l).take n):=fun r p=>h r (J5 (J6 p))
theorem hZ{row:List Ty}{a:List (List DC)}{j:Nat}{r:List DC}(h:aH row a)(k:fF row r):aH row (a.set j r):=fun q p=>(List.mem_or_eq_of_mem_set p).elim (h q) fun e=>e▸k
theorem Db{row:List Ty}{r:List DC}{n:Nat}(k:fF row r):aH row (List.replicate n r):=fun q p=>(List.eq_of_mem_replicate p)▸k
theorem el{row:List Ty}{rows:List (List DC)}{es:Nat}(h:aH row rows)(p:row.length=es):∀r,r∈rows→r.length=es:=fun r z=>(VM (h r z)).trans p
theorem nu{row:List Ty}{rows:List (List DC)}(h:aH row rows){j:Nat}{r:List DC}(p:rows[j]?=some r):fF row r:=h r (yK p)
variable{T:bC}{VE:bO}{B:bq}{Q:VV→bq→Prop}
theorem cE{z:Int}{n:Nat}(h0:0≤z)(p:z<n):∃j:Nat,z=j∧j<n:=⟨z.toNat,(yb h0).symm,ax⟩
theorem bo{x i:aM}{es:Nat}{k:IntKind}{rows:List (List DC)}{r:List DC}{d:DC}{z:Int}(p:x.vv VE=some (.d d))(hi:i.vv VE=some (.d (.i k z)))(A:aR rows d)(h0:0≤z)(F:rows[z.toNat]?=some r)(G:r.length=es)(I:Q (.rp r 0) B):VI T (.fP es x i) VE B [] Q:=by
 obtain⟨j,rfl⟩:∃j:Nat,z=j:=⟨z.toNat,(yb h0).symm⟩
 exact vi_idxD p A hi F G I
theorem vi_slT{es:Nat}{x:aM}{lo hi:Option aM}{rows:List (List DC)}{row:List Ty}{d:DC}{l h:Nat}(I:x.vv VE=some (.d d))(U:aR rows d)(p:aH row rows)(Y:row.length=es)(F:rows=[]→d= .nil)(J:wi VE hi rows.length h)(K:wi VE lo 0 l)(G:l≤h)(z:h≤rows.length)
  (L:∀M,aR ((rows.drop l).take (h-l)) M→Q (.d M) B):VI T (.rX es x lo hi) VE B [] Q:=by
 cases rows with
 |cons r0 rs=>exact vi_slD I U (el p Y) (Nat.zero_lt_succ _) J K G z (L _ (.inl rfl))
 |nil=>
  obtain rfl:=F rfl
  obtain rfl:h=0:=by simpa using z
  obtain rfl:l=0:=by omega
  intro H0 X0 E H β p
  obtain⟨a,Z,h2⟩:=p.bU I
  simp only[aK,cq] at h2
  subst h2
  refine eu (v:=.gh) (fun call=>?_) (dp p (v:=.d .nil) (by simp only[aK,cq]) (L .nil (.inr ⟨rfl,rfl⟩)))
  show bD x _ (.err 16) (fun v=>eG v (.err 16) (dK _ hi 0 0 (.err 16) fun h=>dK _ lo 0 h (.err 16) fun _=>.ok .gh H)
   fun f g off O A=>aI (Nat.beq es A) (dK _ hi O (rZ g off es O) (.err 16) fun h=>dK _ lo 0 h (.err 16) fun lo=>
    cA (Nat.add off (Nat.mul lo es)) fun off=>cA (Nat.sub h lo) fun n=>.ok (.slice f g off n A) H) (.err 16))=_
  rw[cM,Z,cJ]
  show dK _ hi 0 0 (aF.err 16) (fun h=>dK _ lo 0 h (.err 16) fun _=>.ok .gh H)=_
  rw[H3 (d:=0) p J (bM _) (bM _),H3 p K (bM _) (bM _)]
def wN:IntKind→Int
 |.i64=> -9223372036854775808
 |_=>0
def wO:IntKind→Int
 |.i64=>9223372036854775807
 |.u8=>255
 |.u16=>65535
 |.u64=>18446744073709551615
 |_=>0
def Si:IntKind→Bool
 |.i64=>true
 |.u8=>true
 |.u16=>true
 |.u64=>true
 |_=>false
theorem Y6{k:IntKind}(h:Si k=true){n:Int}(p:wN k≤n)(h2:n≤wO k):k.wrap n=n:=by
 cases k<;>first|cases h|skip
 all_goals(simp only[wN,wO] at p h2;simp[IntKind.wrap,IntKind.bits,IntKind.signed])
 all_goals(first|omega|(split<;>omega))
theorem kn{k:IntKind}{x:aM}{p:IntKind}{n:Int}(z:x.vv VE=some (.d (.i p n)))(h:Si k=true)(A:wN k≤n)(h2:n≤wO k)(F:Q (.d (.i k n)) B):VI T (.conv k x) VE B [] Q:=
 Vy z (by rw[Y6 h A h2];exact F)
theorem dC{x y:aM}{k:IntKind}{a b:Int}(p:x.vv VE=some (.d (.i k a)))(z:y.vv VE=some (.d (.i k b)))(h0:lA b 0=false)(A:0≤a)(_hb:0<b)(F:Q (.d (.i k (a % b))) B):VI T (.bin .rem x y) VE B [] Q:=
 VK p z h0 (by rw[YA A];exact F)
theorem Ux{mx:Bool}{x y:aM}{k:IntKind}{a b:Int}(A:x.vv VE=some (.d (.i k a)))(F:y.vv VE=some (.d (.i k b)))(G:∀z,((mx=true→a≤z∧b≤z)∧(mx=false→z≤a∧z≤b)∧(z=a∨z=b))→Q (.d (.i k z)) B):VI T (.vb mx x [y]) VE B [] Q:=fun _ _ E H _ p=>by
 have I:=p.wh A
 have h2:=p.wh F
 refine eu (v:=.int k (aI (aI mx (fM a b) (fM b a)) b a)) (fun call=>?_) (dp p (v:=.d (.i k (aI (aI mx (fM a b) (fM b a)) b a))) (by simp only[aK,cq]) (G _ ?_))
 ·show bD x E (.err 29) (fun a=>ew a (.err 29) fun k a=>ob (im E [y]) (.err 29) fun vs=>ob (Cy mx k vs a) (.err 29) fun v=>.ok v H)=_
  rw[cM,I,cJ]
  show ob (im E [y]) (aF.err 29) (fun vs=>ob (Cy mx k vs a) (.err 29) fun v=>.ok v H)=_
  rw[US h2 evs_nil,cJ]
  show ob (jM (aI (aI mx (fM a b) (fM b a)) b a) fun a=>some (aw.int k a)) (aF.err 29) (fun v=>aF.ok v H)=_
  rw[sI];rfl
 cases mx
 ·have e:aI (aI false (fM a b) (fM b a)) b a=if b<a then b else a:=by
   show aI (fM b a) b a=_
   rw[nC]
   by_cases h:b<a
   ·rw[decide_eq_true h,bE h];rfl
   rw[decide_eq_false h,bw h];rfl
  rw[e]
  refine⟨fun e=>(by cases e),fun _=>?_,?_⟩<;>split<;>omega
 have e:aI (aI true (fM a b) (fM b a)) b a=if a<b then b else a:=by
  show aI (fM a b) b a=_
  rw[nC]
  by_cases h:a<b
  ·rw[decide_eq_true h,bE h];rfl
  rw[decide_eq_false h,bw h];rfl
 rw[e]
 refine⟨fun _=>?_,fun e=>(by cases e),?_⟩<;>split<;>omega
theorem sS{x y:aM}{k:IntKind}{a b:Int}(p:x.vv VE=some (.d (.i k a)))(A:y.vv VE=some (.d (.i k b)))(F:∀z,a≤z∧b≤z∧(z=a∨z=b)→Q (.d (.i k z)) B):VI T (.vb true x [y]) VE B [] Q:=
 Ux p A fun z h=>F z ⟨(h.1 rfl).1,(h.1 rfl).2,h.2.2⟩
theorem Dt{x y:aM}{k:IntKind}{a b:Int}(p:x.vv VE=some (.d (.i k a)))(A:y.vv VE=some (.d (.i k b)))(F:∀z,z≤a∧z≤b∧(z=a∨z=b)→Q (.d (.i k z)) B):VI T (.vb false x [y]) VE B [] Q:=
 Ux p A fun z h=>F z ⟨(h.2.1 rfl).1,(h.2.1 rfl).2,h.2.2⟩
theorem Th{H:aC}{X:Nat→Prop}{β:Nat→Nat}:∀{ks:List Nat}{r r':List DC}{l K:List aw},gW ks r=true→gW ks r'=true→bt H X β (r.map .d) l→bt H X β (r'.map .d) K→gj ks l=true∧gj ks K=true∧∃b,mF l K=some b
 |[],[],[],l,K,_,_,h,h'=>by
  simp only[BW,bt] at h h'
  subst h;subst h'
  exact⟨aa,aa,true,aa⟩
 |[],_::_,_,_,_,h,_,_,_=>by cases h
 |[],[],_::_,_,_,_,h,_,_=>by cases h
 |_::_,[],_,_,_,h,_,_,_=>by cases h
 |_::_,_::_,[],_,_,_,h,_,_=>by cases h
 |c::ks,d::r,U::r',l,K,L,p,h,h'=>by
  simp only[lg,bt] at h h'
  obtain⟨a,l,rfl,A,h2⟩:=h
  obtain⟨O,K,rfl,F,Y⟩:=h'
  have Z:(gW ks r=true∧gW ks r'=true)→qa c a=true→qa c O=true→(∃b,uS a O=some b)→gj (c::ks) (a::l)=true∧gj (c::ks) (O::K)=true∧∃b,mF (a::l) (O::K)=some b:=fun⟨g,g'⟩k G⟨b,hb⟩=>by
   obtain⟨e1,e2,b2,e3⟩:=Th g g' h2 Y
   refine⟨by simp only[gj,k,e1];rfl,by simp only[gj,G,e2];rfl,?_⟩
   simp only[mF,hb,e3]
   cases b
   ·exact⟨false,aa⟩
   exact⟨b2,aa⟩
  simp only[aK] at A F
  cases d with
  |i k n=>
   obtain⟨I,M⟩:=ic (show(Nat.beq (cI k) c&&gW ks r)=true from L)
   simp only[cq] at A
   subst A
   cases U with
   |i G n'=>
    obtain⟨z,J⟩:=ic (show(Nat.beq (cI G) c&&gW ks r')=true from p)
    simp only[cq] at F
    subst F
    have e:cI k=cI G:=(cL I).trans (cL z).symm
    refine Z ⟨M,J⟩ I z ?_
    simp only[uS,e,show Nat.beq (cI G) (cI G)=true from ga _]
    exact⟨_,aa⟩
   |b t=>obtain⟨z,_⟩:=ic (show(Nat.beq c 100&&gW ks r')=true from p);have A:=cL I;have h2:=cL z;exact absurd (A.trans h2) (by cases k<;>decide)
   |s m v=>obtain⟨z,_⟩:=ic (show(Nat.beq c 101&&gW ks r')=true from p);have A:=cL I;have h2:=cL z;exact absurd (A.trans h2) (by cases k<;>decide)
   |nil=>cases p
   |sl _=>cases p
   |raw _ _ _=>cases p
  |b t=>
   obtain⟨I,M⟩:=ic (show(Nat.beq c 100&&gW ks r)=true from L)
   simp only[cq] at A
   subst A
   cases U with
   |i G n'=>obtain⟨z,_⟩:=ic (show(Nat.beq (cI G) c&&gW ks r')=true from p);have A:=cL I;have h2:=cL z;exact absurd (h2.trans A) (by cases G<;>decide)
   |b t'=>
    obtain⟨z,J⟩:=ic (show(Nat.beq c 100&&gW ks r')=true from p)
    simp only[cq] at F
    subst F
    exact Z ⟨M,J⟩ I z ⟨_,aa⟩
   |s m v=>obtain⟨z,_⟩:=ic (show(Nat.beq c 101&&gW ks r')=true from p);have A:=cL I;have h2:=cL z;exact absurd (A.symm.trans h2) aD
   |nil=>cases p
   |sl _=>cases p
   |raw _ _ _=>cases p
  |s m v=>
   obtain⟨I,M⟩:=ic (show(Nat.beq c 101&&gW ks r)=true from L)
   simp only[cq] at A
   subst A
   cases U with
   |i G n'=>obtain⟨z,_⟩:=ic (show(Nat.beq (cI G) c&&gW ks r')=true from p);have A:=cL I;have h2:=cL z;exact absurd (h2.trans A) (by cases G<;>decide)
   |b t'=>obtain⟨z,_⟩:=ic (show(Nat.beq c 100&&gW ks r')=true from p);have A:=cL I;have h2:=cL z;exact absurd (A.symm.trans h2) aD
   |s m' v'=>
    obtain⟨z,J⟩:=ic (show(Nat.beq c 101&&gW ks r')=true from p)
    simp only[cq] at F
    subst F
    exact Z ⟨M,J⟩ I z ⟨_,aa⟩
   |nil=>cases p
   |sl _=>cases p
   |raw _ _ _=>cases p
  |nil=>cases L
  |sl _=>cases L
  |raw _ _ _=>cases L
theorem uZ{neg:Bool}{ks:List Nat}{x y:aM}{r r':List DC}(G:x.vv VE=some (.agg (r.map .d)))(I:y.vv VE=some (.agg (r'.map .d)))(J:gW ks r=true)(z:gW ks r'=true)(K:∀b,Q (.d (.b b)) B):VI T (.eqv (.agg ks) neg x y) VE B [] Q:=fun _ X0 _ H β A=>by
 obtain⟨a,L,h2⟩:=A.bU G
 obtain⟨b,M,p⟩:=A.bU I
 simp only[aK] at h2 p
 obtain⟨l,rfl,h2⟩:=h2
 obtain⟨F,rfl,p⟩:=p
 obtain⟨O,U,t,Y⟩:=Th J z h2 p
 refine eu (v:=.bool (Bool.xor neg t)) (fun call=>?_) (dp A (v:=.d (.b (Bool.xor neg t))) (by simp only[aK,cq]) (K _))
 show bD x _ (.err 7) (fun a=>bD y _ (.err 7) fun b=>ob (nS (.agg ks) a b) (.err 7) fun r=>nx (Bool.xor neg r) fun r=>.ok (.bool r) _)=_
 rw[cM,L,cJ,cM,M,cJ]
 show ob (aI (gj ks l) (aI (gj ks F) (mF l F) none) none) _ _=_
 rw[O,U,Y]
 cases neg<;>cases t<;>rfl
def isCmp:BinOp→Bool
 |.lss=>true
 |.leq=>true
 |.gtr=>true
 |.geq=>true
 |_=>false
theorem Mj{op:BinOp}{x y:aM}{a b:List UInt8}(z:x.vv VE=some (.d (al a)))(A:y.vv VE=some (.d (al b)))(ho:isCmp op=true)(F:∀b,Q (.d (.b b)) B):VI T (.bin op x y) VE B [] Q:=fun _ _ _ _ _ p=>by
 obtain⟨t,G⟩:∃t,zc op (.str a.length (pack a)) (.str b.length (pack b))=some (.bool t):=by
  cases op<;>first|exact⟨_,rfl⟩|(cases ho;done)
 exact AK (p.str z) (p.str A) (v:=.bool t) G (dp p (v:=.d (.b t)) (by simp only[aK,cq]) (F _))
theorem cY{row:List Ty}{r:List DC}{rs:List (List DC)}(h:fF row r)(k:aH row rs):aH row (r::rs):=fun q p=>by
 rcases List.mem_cons.1 p with rfl|p
 ·exact h
 exact k q p
theorem VN{x y:aM}{k:IntKind}{a b:Int}(p:x.vv VE=some (.d (.i k a)))(A:y.vv VE=some (.d (.i k b)))(F:0≤a)(G:0<b)(I:∀z,0≤z→z<b→Q (.d (.i k z)) B):VI T (.bin .rem x y) VE B [] Q:=
 VK p A (by rw[rj];exact decide_eq_false ax) (by rw[YA F];exact I _ (Int.emod_nonneg _ ax) (Int.emod_lt_of_pos _ G))
theorem Du{x y:aM}{k:IntKind}{a b:Int}(z:x.vv VE=some (.d (.i k a)))(A:y.vv VE=some (.d (.i k b)))(h0:lA b 0=false)(F:Si k=true)(p:0≤a)(J:0<b)(G:a/b≤wO k)(h2:wN k≤0)(I:Q (.d (.i k (a/b))) B):VI T (.bin .quo x y) VE B [] Q:=
 VJ z A h0 (by rw[lm120 p,Y6 F (OW h2 (Int.ediv_nonneg p ax)) G];exact I)
theorem xk{c:IC}{R:Ex→bO→bq→Prop}(b i g elem aL es:Nat){e z:Nat}{row:List VV}(A:aZ B b=some (.one e z row))(hi:row[i]?=some (.d .nil))(G:aZ B g=none)(h:VC T c VE ((g,.acc elem aL es [])::(b,.one e z (row.set i (.ac g 0 es)))::B) R):VC T c VE B R:=
 fun H0 X0 E H β I=>(h H0 X0 E H β (I.Xa A hi G)).mono fun _ _ _ J=>J.more fun c s p ho=>by
  rw[di] at p
  by_cases F:g=c
  ·rw[bE F] at p;cases p;exact absurd rfl ho
  rw[bw F,di] at p
  by_cases k:b=c
  ·subst k;exact⟨_,A,trivial⟩
  rw[bw k] at p;exact⟨s,p,ho⟩
theorem HF(z:Int): -9223372036854775808≤IntKind.i64.wrap z∧IntKind.i64.wrap z≤9223372036854775807:=by
 simp only[IntKind.wrap,IntKind.bits,IntKind.signed]
 simp
 constructor<;>split<;>omega
theorem pZ{x y:aM}{a b:Int}(p:x.vv VE=some (.d (.i .i64 a)))(A:y.vv VE=some (.d (.i .i64 b)))(F:∀z, -9223372036854775808≤z∧z≤9223372036854775807→Q (.d (.i .i64 z)) B):VI T (.bin .add x y) VE B [] Q:=VG p A (F _ (HF _))
theorem VP{x y:aM}{a b:Int}(p:x.vv VE=some (.d (.i .i64 a)))(A:y.vv VE=some (.d (.i .i64 b)))(F:∀z, -9223372036854775808≤z∧z≤9223372036854775807→Q (.d (.i .i64 z)) B):VI T (.bin .sub x y) VE B [] Q:=VH p A (F _ (HF _))
theorem vi_mulW{x y:aM}{a b:Int}(p:x.vv VE=some (.d (.i .i64 a)))(A:y.vv VE=some (.d (.i .i64 b)))(F:∀z, -9223372036854775808≤z∧z≤9223372036854775807→Q (.d (.i .i64 z)) B):VI T (.bin .mul x y) VE B [] Q:=vi_mulK p A (F _ (HF _))
theorem vi_quoW{x y:aM}{a b:Int}(p:x.vv VE=some (.d (.i .i64 a)))(A:y.vv VE=some (.d (.i .i64 b)))(h0:¬b=0)(F:∀z, -9223372036854775808≤z∧z≤9223372036854775807→Q (.d (.i .i64 z)) B):VI T (.bin .quo x y) VE B [] Q:=VJ p A (by rw[rj];exact decide_eq_false h0) (F _ (HF _))
theorem U5{neg:Bool}{x y:aM}{t u:Bool}(A:x.vv VE=some (.d (.b t)))(F:y.vv VE=some (.d (.b u)))(G:∀b,Q (.d (.b b)) B):VI T (.eqv .bool neg x y) VE B [] Q:=fun _ _ _ _ _ p=>by
 obtain⟨_,I,h2⟩:=p.bU A
 obtain⟨_,J,z⟩:=p.bU F
 simp only[aK,cq] at h2 z
 subst h2;subst z
 have e:∃r,nS .bool (.bool t) (.bool u)=some r:=by cases t<;>cases u<;>exact⟨_,rfl⟩
 obtain⟨r,e⟩:=e
 exact HV I J e (dp p (v:=.d (.b (Bool.xor neg r))) (by simp only[aK,cq]) (G _))
theorem Dc{elem es aL:Nat}{zero:List aw}{z:List VV}{p:List DC}{x y:aM}{n:Nat}(b:Nat)(G:mz b VE=true)(I:lC b B=true)(J:od zero=some z)(A:gq z=some p)(F:zero.length=es)(K:x.vv VE=some (.d (.i .i64 (n:Int))))(L:y.vv VE=some (.d (.i .i64 (n:Int))))
  (M:n*aL≤70368744177664) (h2:n≤4611686018427387904) (O:∀rows,rows=List.replicate n p→rows.length=n→Q (.bs b rows.length es) ((b,.arr elem aL es rows.length rows)::B)):VI T (.tE elem es aL zero x y) VE B [] Q:=
 vi_mksl b G I J A F K L M h2 (by
  have:=O (List.replicate n p) rfl qg
  rwa [qg] at this)
theorem kM{a b:IC}{R:Ex→bO→bq→Prop}(J:bO→bq→Prop)(z:VC T a VE B fun x bY B'=>match x with|.normal=>J bY B'|x=>R x bY B')(h2:∀bY B',J bY B'→VC T b bY B' R):VC T (.seq a b) VE B R:=
 aA (z.mono fun x VE B p=>by cases x<;>first|exact h2 _ _ p|exact p)
theorem fI{es:Nat}{x:aM}{lo hi:Option aM}{rows:List (List DC)}{row:List Ty}{d:DC}{l h:Nat}(I:x.vv VE=some (.d d))(J:aR rows d)(G:aH row rows)(K:row.length=es)(z:rows=[]→d= .nil)(L:wi VE hi rows.length h)(M:wi VE lo 0 l)(A:l≤h)(F:h≤rows.length)
  (O:∀p w,aR w p→w.length=h-l→aH row w→Q (.d p) B):VI T (.rX es x lo hi) VE B [] Q:=
 vi_slT I J G K z L M A F fun p U=>O p _ U (by rw[jf,qf];omega) (okRs_cut G)
theorem vC{rows:List (List DC)}{d:DC}(h:0<rows.length):rows=[]→d= .nil:=fun e=>by rw[e] at h;cases h
theorem Uy{x i:aM}{p j:Nat}{l:List VV}{v:VV}{k:IntKind}(I:x.vv VE=some (.agg l))(hi:i.vv VE=some (.d (.i k (j:Int))))(J:j<p)(K:l[j]?=some v)(L:Q v B):VI T (.AO p 1 false x i) VE B [] Q:=fun _ _ _ _ _ z=>by
 obtain⟨_,M,h2⟩:=z.bU I
 obtain⟨_,O,A⟩:=z.bU hi
 simp only[aK] at h2 A
 simp only[cq] at A
 subst A
 obtain⟨cs,rfl,h2⟩:=h2
 obtain⟨a,U,Y⟩:=h2.get K
 obtain⟨G,Z⟩:=List.getElem?_eq_some_iff.1 U
 refine eu (v:=a) (fun call=>?_) (dp z Y L)
 show bD x _ (.err 13) (fun v=>mc v (.err 13) fun cs=>bD i _ (.err 13) fun F=>idx F p (.err 13) fun j=>aI (Nat.ble (Nat.add (Nat.mul j 1) 1) (gb cs)) (fD false ((cs.drop (Nat.mul j 1)).take 1) (.err 13) fun v=>.ok v _) (.err 13))=_
 rw[cM,M,cJ]
 show bD i _ (.err 13) (fun F=>idx F p (.err 13) fun j=>aI (Nat.ble (Nat.add (Nat.mul j 1) 1) (gb cs)) (fD false ((cs.drop (Nat.mul j 1)).take 1) (.err 13) fun v=>.ok v _) (.err 13))=_
 rw[cM,O,cJ]
 show aI (Nat.ble (Nat.succ j) p) (aI (Nat.ble (Nat.add (Nat.mul j 1) 1) (gb cs)) (fD false ((cs.drop (Nat.mul j 1)).take 1) (aF.err 13) fun v=>aF.ok v _) (aF.err 13)) (aF.err 13)=_
 rw[gD J,dw,ny,show Nat.mul j 1=j from Ke _,show Nat.ble (Nat.add j 1) cs.length=true from gD G,dw,yI G,Bd,J8,Z]
 rfl
theorem bh{fl:List FL}{d g:Key}{want t:Bool}{op:bF}{r:List bK}(z:aZ VE g.n=some (.d (.b t)))(A:t=!want){Q:bO→bq→Prop}(h:VQ T r ((d.n,.k .undef)::VE) B fl Q):VQ T (⟨some d,some (g,want),none,op⟩::r) VE B fl Q:=by
 intro H0 X0 E H β p bB F
 obtain⟨G,I,J,K,L⟩:=h H0 X0 _ H β (p.set (d:=d) (v:=.k .undef) (a:=.undef) (by simp only[aK])) bB F
 refine⟨G,I,J,fun lf n M O=>?_,L⟩
 show bK.jQ (T.call lf n) ⟨some d,some (g,want),none,op⟩ E H bB (jb (T.call lf n) r)=_
 rw[Hd (p.bool z),bw (by rw[A];cases want<;>decide)]
 exact K lf n M O
theorem ca{fl:List FL}{d g:Key}{want t:Bool}{l:List Nat}{op:bF}{r:List bK}(z:aZ VE g.n=some (.d (.b t)))(A:t=!want){Q:bO→bq→Prop}(h:VQ T r ((d.n,.k .undef)::VE) B (.rd []::fl) Q):VQ T (⟨some d,some (g,want),some l,op⟩::r) VE B fl Q:=by
 intro H0 X0 E H β p bB F
 obtain⟨G,I,J,K,L⟩:=h H0 X0 _ H β (p.set (d:=d) (v:=.k .undef) (a:=.undef) (by simp only[aK])) (⟨some [],[],0,0⟩::bB) (F.cons ⟨rfl,rfl,[],rfl,fun f h=>by cases h⟩)
 refine⟨G,I,J,fun lf n M O=>?_,L⟩
 show bK.jQ (T.call lf n) ⟨some d,some (g,want),some l,op⟩ E H bB (jb (T.call lf n) r)=_
 rw[Hd (p.bool z),bw (by rw[A];cases want<;>decide)]
 exact K lf n M O
theorem TA{call:dr}{d:Option Key}{g:Key}{want:Bool}{q:Option (List Nat)}{op:bF}{bB:List FP}{E:Env}{H:aC}{K:Env→aC→List FP→dq}(p:E.get g=some .undef):
  bK.jQ call ⟨d,some (g,want),q,op⟩ E H bB K=K (iD E d .undef) H (nF q bB):=by
 show ob (E.get g) (.err 51) (fun v=>we v (ib d E H fun E H=>K E H (nF q bB)) fun b=>aI (Bool.xor b want) (ib d E H fun E H=>K E H (nF q bB)) (bK.oB call ⟨d,some (g,want),q,op⟩ E H bB K))=_
 rw[p,cJ]
 show ib d E H (fun E H=>K E H (nF q bB))=_
 rw[uU]
theorem dD{fl:List FL}{d g:Key}{want:Bool}{op:bF}{r:List bK}(z:aZ VE g.n=some (.k .undef)){Q:bO→bq→Prop}(h:VQ T r ((d.n,.k .undef)::VE) B fl Q):VQ T (⟨some d,some (g,want),none,op⟩::r) VE B fl Q:=by
 intro H0 X0 E H β p bB A
 obtain⟨a,F,h2⟩:=p.env g _ z
 simp only[aK] at h2
 subst h2
 obtain⟨G,I,J,K,L⟩:=h H0 X0 _ H β (p.set (d:=d) (v:=.k .undef) (a:=.undef) (by simp only[aK])) bB A
 refine⟨G,I,J,fun lf n M O=>?_,L⟩
 show bK.jQ (T.call lf n) ⟨some d,some (g,want),none,op⟩ E H bB (jb (T.call lf n) r)=_
 rw[TA F]
 exact K lf n M O
theorem iA{fl:List FL}{d g:Key}{want:Bool}{l:List Nat}{op:bF}{r:List bK}(z:aZ VE g.n=some (.k .undef)){Q:bO→bq→Prop}(h:VQ T r ((d.n,.k .undef)::VE) B (.rd []::fl) Q):VQ T (⟨some d,some (g,want),some l,op⟩::r) VE B fl Q:=by
 intro H0 X0 E H β p bB A
 obtain⟨a,F,h2⟩:=p.env g _ z
 simp only[aK] at h2
 subst h2
 obtain⟨G,I,J,K,L⟩:=h H0 X0 _ H β (p.set (d:=d) (v:=.k .undef) (a:=.undef) (by simp only[aK])) (⟨some [],[],0,0⟩::bB) (A.cons ⟨rfl,rfl,[],rfl,fun f h=>by cases h⟩)
 refine⟨G,I,J,fun lf n M O=>?_,L⟩
 show bK.jQ (T.call lf n) ⟨some d,some (g,want),some l,op⟩ E H bB (jb (T.call lf n) r)=_
 rw[TA F]
 exact K lf n M O
theorem vi_storeA{n:Nat}{a x:aM}{b j o es elem aL:Nat}{rows:List (List DC)}{row p:List DC}{v:VV}{new:List VV}(ha:a.vv VE=some (.bp b rows.length j o es))(Y:aZ B b=some (.acc elem aL es rows))(hx:x.vv VE=some v)(hv:v.cells=some new)(hd:gq new=some p)(J:p.length=n)(h0:0<n)(hk:o+n≤es)
  (z:rows[j]?=some row) (hq:Q .undef ((b,.acc elem aL es (rows.set j (kC row o p)))::B)):VI T (.store n a x) VE B [b] Q:=fun _ X0 _ H β G=>by
 obtain⟨_,h1,h2⟩:=G.bU ha
 simp only[aK] at h2
 subst h2
 obtain⟨y,h3,h4⟩:=G.bU hx
 obtain⟨t,h5,I⟩:=h4.cells hv
 have I:=I.data hd
 obtain⟨Ab,cs,k1,k3,Z⟩:=(G.box b _ Y).resolve_left (fun e=>by rw[e] at z;cases z)
 obtain⟨l,k5,k6,k7⟩:=Z j row z
 have A:=(List.getElem?_eq_some_iff.1 z).1
 have ht:t.length=n:=by rw[I.length,J]
 have L:=k7.length
 have e:=fun K=>EB (e:=aF.err 5) (K:=K) (q:=j) (o:=o) (n:=n) (new:=t) k1 ax A k5 k6 ht h0 hk
 refine⟨0,.undef,_,fun lf m _ _=>by rw[HE h1 h3 h5,e],?_⟩
 refine xi (s':=.acc elem aL es (rows.set j (kC row o p))) G Y (show rows≠[] from fun e=>by rw[e] at z;cases z) rfl (fun f hf=>?_) rfl rfl (fun X j1 M=>?_) (fun X=>by simp only[aK]) hq
 ·show(H.t.set (β b) _).get f=_
  rw[GT.c7,bw hf]
 have hlen:(bif Nat.beq n es then t else dH l o t).length=es:=by
  cases O:Nat.beq n es with
  |true=>have:=cL O;show t.length=_;omega
  |false=>show(dH l o t).length=_;simp only[dH,fZ,jf,qf];omega
 refine .inr ⟨rows.length,cs.set j (bif Nat.beq n es then t else dH l o t),?_,by rw[kW];exact bM _,fun i F hi=>?_⟩
 ·show(H.t.set (β b) _).get (β b)=_
  rw[GT.c7,bE rfl,kW]
 rw[RT.c7]
 rw[Jg] at hi
 by_cases U:i=j
 ·subst U
  rw[bE rfl,bE A] at hi
  cases hi
  rw[bE rfl]
  refine⟨_,aa,hlen,?_⟩
  have h7:=M _ _ I
  have h8:=M _ _ k7
  have h9:=h8.dH o h7
  unfold kC
  rw[J,←L,k6]
  rw[J] at h9
  exact cD.bif h7 h9
 rw[bw (fun k=>U k.symm)] at hi
 rw[bw U]
 obtain⟨l',m1,m2,m3⟩:=Z i F hi
 exact⟨l',m1,m2,M _ _ m3⟩
theorem m0.less{n:Nat}{B B':bq}{β:Nat→Nat}{fl:List FL}{bB:List FP}(h:m0 n B β fl bB)(k:∀b s,aZ B' b=some s→aZ B b=some s):m0 n B' β fl bB:=
 ⟨h.1,fun i x r z A=>by
  have:=h.2 i x r z A
  cases x with
  |rd R=>obtain⟨a,b,l,c,d⟩:=this;exact⟨a,b,l,c,fun f p=>⟨(d f p).1,fun b s F G I=>(d f p).2 b s (k b s F) G I⟩⟩
  |qt=>exact this
  |off _=>exact this
  |un=>trivial⟩
theorem U6{B:bq}{b:Nat}:∀c s,aZ (dT B b) c=some s→aZ B c=some s:=fun c s h=>by
 rw[pW] at h
 by_cases e:b=c
 ·rw[bE e] at h;cases h
 rwa [bw e] at h
theorem vq_frz{ops:List bK}{fl:List FL}{Q:bO→bq→Prop}(k b:Nat){v:VV}{elem aL es lo:Nat}{rows:List (List DC)}(p:aZ VE k=some v)(z:aZ B b=some (.arr elem aL es lo rows))(ho:v.sv b rows.length es)(h:VQ T ops ((k,v.j' b (.sl rows))::VE) (dT B b) fl Q):VQ T ops VE B fl Q:=
 fun H0 X0 E H β A bB F=>by
  obtain⟨G,I,J,K,L⟩:=h H0 X0 E H β (A.j' z p ho) bB (F.less U6)
  exact⟨G,I,J,K,L.more uV⟩
theorem Mk{ops:List bK}{fl:List FL}{Q:bO→bq→Prop}(k b:Nat){v:VV}{elem aL es:Nat}{rows:List (List DC)}(p:aZ VE k=some v)(z:aZ B b=some (.acc elem aL es rows))(ho:v.uu b rows.length es)(h:VQ T ops ((k,v.oC b (.cS rows))::VE) (dT B b) fl Q):VQ T ops VE B fl Q:=
 fun H0 X0 E H β A bB F=>by
  obtain⟨G,I,J,K,L⟩:=h H0 X0 E H β (A.oC z p ho) bB (F.less U6)
  exact⟨G,I,J,K,L.more uV⟩
theorem mC{n:Nat}{a x:aM}{b j o es elem aL:Nat}{rows:List (List DC)}{row p:List DC}{v:VV}{new:List VV}(z:a.vv VE=some (.bp b rows.length j o es))(A:aZ B b=some (.acc elem aL es rows))(F:x.vv VE=some v)(G:v.cells=some new)(I:gq new=some p)(J:p.length=n)(h0:0<n)(K:o+n≤es)
  (L:rows[j]?=some row) (M:∀w,w=rows.set j (kC row o p)→w.length=rows.length→Q .undef ((b,.acc elem aL es w)::B)):VI T (.store n a x) VE B [b] Q:=
 vi_storeA z A F G I J h0 K L (M _ rfl (kW ..))
theorem pU{n:Nat}{a x:aM}{b j o es elem aL lo:Nat}{rows:List (List DC)}{row p:List DC}{v:VV}{new:List VV}(z:a.vv VE=some (.bp b rows.length j o es))(A:aZ B b=some (.arr elem aL es lo rows))(F:x.vv VE=some v)(G:v.cells=some new)(I:gq new=some p)(J:p.length=n)(h0:0<n)(K:o+n≤es)
  (L:rows[j]?=some row) (M:∀w,w=rows.set j (kC row o p)→w.length=rows.length→Q .undef ((b,.arr elem aL es rows.length w)::B)):VI T (.store n a x) VE B [b] Q:=
 C3 z A F G I J h0 K L (M _ rfl (kW ..))
theorem ae{p:Prop}(h:p:=by first|omega|((try simp only[hT,wN,wO,fZ,kZ,nK,kW,jf,qf,qg] at*);omega)):p:=h
theorem de{T:bC}{VE:bO}{B:bq}{Q:bO→bq→Prop}{fl:List FL}{d:Key}{l:List Nat}{n:Nat}{w:Bool}{a:aM}{row:List DC}{o:Nat}{r:List bK}(O:a.vv VE=some (.rp row o))(U:o4 [] l fl=true)(h:VI T (.load n w a) VE B [] fun v B'=>VQ T r ((d.n,v)::VE) B' (.rd []::fl) Q):VQ T (⟨some d,none,some l,.load n w a⟩::r) VE B fl Q:=by
 intro H0 X0 E H β G bB F
 obtain⟨N,v0,H',e,I,v,B',β',L,J,Y,Z⟩:=xv h G
 obtain⟨x,M,z⟩:=G.bU O
 simp only[aK] at z
 obtain⟨f,g,Q1,l1,rfl,_,_,hX,K⟩:=z
 have p:H'=H.mark:=LK M (e N N (bM _) (bM _))
 have A:H.mark.ws=[]∧H.mark.next=H.next:=by cases H;exact⟨rfl,rfl⟩
 have k:tK H.next B β (.rd []) ⟨(bF.load n w a).reads E,H'.ws,H.next,H'.next⟩:=by
  refine⟨by rw[p];exact A.1,by show H.next=H'.next;rw[p];exact A.2.symm,[f],?_,fun f' F=>?_⟩
  ·show some (fX (a.ev E))=_
   rw[M];rfl
  rcases List.mem_singleton.1 F with rfl
  exact⟨K,fun b s I h2 h3=>absurd (.inr ⟨b,s,I,h2,h3⟩) hX⟩
 obtain⟨N2,E2,H2,e2,hp⟩:=Z H0 X0 _ _ β' (J.set Y) (⟨(bF.load n w a).reads E,H'.ws,H.next,H'.next⟩::bB) ((F.cons k).step L)
 refine⟨max N N2,E2,H2,fun lf n a1 a2=>?_,hp.of L G.bb⟩
 show bK.jQ (T.call lf n) ⟨some d,none,some l,_⟩ E H bB (jb (T.call lf n) r)=_
 rw[xe,xf (e lf n ax ax) (xp F I U)]
 exact e2 lf n ax ax
theorem aR.uniq{a b:List (List DC)}{d:DC}(h:aR a d)(k:aR b d):a=b:=by
 rcases h with rfl|⟨rfl,rfl⟩<;>rcases k with h|⟨rfl,h⟩<;>first|(cases h;rfl)|rfl|cases h
def js(k n:Int)(w:List (List DC)):Prop:=∀(p:Nat)row z,(p:Int)<k→w[p]?=some row→row[0]?=some (.i .i64 z)→z≤n
def gz(k n:Int)(w:List (List DC)):Prop:=∀(q:Nat)r d p,(q:Int)<k→w[q]?=some r→r[2]?=some d→aR p d→js p.length n p
theorem L2{n:Int}{w:List (List DC)}:js 0 n w:=fun p _ _ h=>by omega
theorem widthTo_0{n:Int}{w:List (List DC)}:gz 0 n w:=fun p _ _ _ h=>by omega
theorem js.mono{k n m:Int}{w:List (List DC)}(h:js k n w)(A:n≤m):js k m w:=fun p r z a b c=>OW (h p r z a b c) A
theorem gz.mono{k n m:Int}{w:List (List DC)}(h:gz k n w)(p:n≤m):gz k m w:=fun q r d z a b c e=>(h q r d z a b c e).mono p
theorem js.step{k n m z:Int}{w:List (List DC)}{row:List DC}(h:js k n w)(h0:0≤k)(F:w[k.toNat]?=some row)(G:row[0]?=some (.i .i64 z))(I:n≤m)(A:z≤m):js (k+1) m w:=fun p r J a b c=>by
 by_cases K:(p:Int)<k
 ·exact OW (h p r J K b c) I
 have:p=k.toNat:=by omega
 subst this
 rw[F] at b;cases b
 rw[G] at c;cases c
 exact A
theorem gz.step{k n j:Int}{w A:List (List DC)}{r:List DC}{d:DC}(h:gz k n w)(h0:0≤k)(G:w[k.toNat]?=some r)(I:r[2]?=some d)(J:aR A d)(K:js j n A)(U:(A.length:Int)≤j):gz (k+1) n w:=fun q r' L F a b c e=>by
 by_cases M:(q:Int)<k
 ·exact h q r' L F M b c e
 have:q=k.toNat:=by omega
 subst this
 rw[G] at b;cases b
 rw[I] at c;cases c
 have:=aR.uniq J e
 subst this
 intro p row z Y h2 O
 exact K p row z ax h2 O
theorem gz.get{k n:Int}{w p:List (List DC)}{r:List DC}{d:DC}{q:Nat}(h:gz k n w)(G:(w.length:Int)≤k)(z:w[q]?=some r)(A:r[2]?=some d)(F:aR p d):js p.length n p:=by
 have:=(List.getElem?_eq_some_iff.1 z).1
 exact h q r d p ax z A F
theorem js.get{k n z:Int}{w:List (List DC)}{row:List DC}{q:Nat}(h:js k n w)(F:(w.length:Int)≤k)(p:w[q]?=some row)(A:row[0]?=some (.i .i64 z)):z≤n:=by
 have:=(List.getElem?_eq_some_iff.1 p).1
 exact h q row z ax p A
theorem gz.all{k n:Int}{w:List (List DC)}(h:gz k n w)(z:(w.length:Int)≤k):gz w.length n w:=fun q r d p a b c e=>h q r d p ax b c e
theorem gz.at{n:Int}{w A:List (List DC)}(h:gz w.length n w)(F:A=[]∨∃(q:Nat)(r:List DC)(d:DC),w[q]?=some r∧r[2]?=some d∧aR A d):js A.length n A:=by
 rcases F with rfl|⟨q,r,d,a,b,c⟩
 ·exact fun p row z h=>by simp at h;omega
 exact h.get (o9 _) a b c
theorem gz.cast{k n m:Int}{w:List (List DC)}(h:gz k n w)(e:n=m):gz k m w:=e▸h
def jP(k:Int)(w:List (List DC)):Prop:=∀(q:Nat)r d p,(q:Int)<k→w[q]?=some r→r[2]?=some d→aR p d→1≤(p.length:Int)∧(p.length:Int)≤12
theorem U7{w:List (List DC)}:jP 0 w:=fun p _ _ _ h=>by omega
theorem jP.step{k:Int}{w p:List (List DC)}{r:List DC}{d:DC}(h:jP k w)(h0:0≤k)(A:w[k.toNat]?=some r)(F:r[2]?=some d)(G:aR p d)(I:1≤(p.length:Int)∧(p.length:Int)≤12):jP (k+1) w:=fun q r' J z a b c e=>by
 by_cases K:(q:Int)<k
 ·exact h q r' J z K b c e
 have:q=k.toNat:=by omega
 subst this
 rw[A] at b;cases b
 rw[F] at c;cases c
 have:=aR.uniq G e
 subst this
 exact I
theorem jP.all{k:Int}{w:List (List DC)}(h:jP k w)(z:(w.length:Int)≤k):jP w.length w:=fun q r d p a b c e=>h q r d p ax b c e
theorem jP.get{k:Int}{w p:List (List DC)}{r:List DC}{d:DC}{q:Nat}(h:jP k w)(G:(w.length:Int)≤k)(z:w[q]?=some r)(A:r[2]?=some d)(F:aR p d):1≤(p.length:Int)∧(p.length:Int)≤12:=by
 have:=(List.getElem?_eq_some_iff.1 z).1
 exact h q r d p ax z A F
theorem Bq{a b d:DC}{p:List (List DC)}(z:aR p d)(h:1≤(p.length:Int)∧(p.length:Int)≤12):jP ([[a,b,d]]:List (List DC)).length [[a,b,d]]:=fun q r J A F G h2 I=>by
 have:q=0:=by simp at F;omega
 subst this
 cases G
 cases h2
 have:=aR.uniq z I
 subst this
 exact h
def p'(n:Int)(w:List (List DC)):Prop:=0<n→∃(q:Nat)(r:List DC)(d:DC)(z:List (List DC))(p:Nat)(row:List DC),w[q]?=some r∧r[2]?=some d∧aR z d∧z[p]?=some row∧row[0]?=some (.i .i64 n)
theorem widthAt_0{w:List (List DC)}:p' 0 w:=fun h=>absurd h aD
theorem p'.max{a b n:Int}{w z:List (List DC)}{q p:Nat}{r row:List DC}{d:DC}(h:p' a w)(A:w[q]?=some r)(F:r[2]?=some d)(G:aR z d)(I:z[p]?=some row)(J:row[0]?=some (.i .i64 b))(e:n=a∨n=b):p' n w:=by
 rcases e with rfl|rfl
 ·exact h
 exact fun _=>⟨q,r,d,z,p,row,A,F,G,I,J⟩
theorem p'.le{n m:Int}{w:List (List DC)}(h:p' n w)(k:gz w.length m w)(h0:0≤m):n≤m:=by
 by_cases z:0<n
 ·obtain⟨q,r,d,A,p,row,a,b,c,e,f⟩:=h z
  exact(k.get (o9 _) a b c).get (o9 _) e f
 omega
theorem aN{T:bC}{VE:bO}{B:bq}{R:Ex→bO→bq→Prop}{k:Key}{a b:IC}{t:Bool}{p q:Prop}(z:aZ VE k.n=some (.d (.b t)))(A:t=true→p→VC T a VE B R)(h2:t=false→q→VC T b VE B R)(F:(t=true)=p:=by first|(simp only[jA,pF,qK,zY,hT];first|done|rfl)|rfl)(G:(t=false)=q:=by first|(simp only[jA,pF,qK,zY,hT];first|done|rfl)|rfl):VC T (.cond (.t k) a b) VE B R:=db z (fun h=>A h (Eq.mp F h)) (fun h=>h2 h (Eq.mp G h))
theorem bZ{T:bC}{VE:bO}{B:bq}{g:Key}{t:Bool}{p q:Prop}{ops:List bK}{Q:bO→bq→Prop}(z:aZ VE g.n=some (.d (.b t)))(A:t=true→p→VO T ops VE B Q)(h2:t=false→q→VO T ops VE B Q)(F:(t=true)=p:=by first|(simp only[jA,pF,qK,zY,hT];first|done|rfl)|rfl)(G:(t=false)=q:=by first|(simp only[jA,pF,qK,zY,hT];first|done|rfl)|rfl):VO T ops VE B Q:=e6 z (fun h=>A h (Eq.mp F h)) (fun h=>h2 h (Eq.mp G h))
theorem fA{T:bC}{VE:bO}{B:bq}{g:Key}{t:Bool}{p q:Prop}{ops:List bK}{fl:List FL}{Q:bO→bq→Prop}(z:aZ VE g.n=some (.d (.b t)))(A:t=true→p→VQ T ops VE B fl Q)(h2:t=false→q→VQ T ops VE B fl Q)(F:(t=true)=p:=by first|(simp only[jA,pF,qK,zY,hT];first|done|rfl)|rfl)(G:(t=false)=q:=by first|(simp only[jA,pF,qK,zY,hT];first|done|rfl)|rfl):VQ T ops VE B fl Q:=C7 z (fun h=>A h (Eq.mp F h)) (fun h=>h2 h (Eq.mp G h))
@[reducible] def tJ:Ty:=.i .i64 (-9223372036854775808) 9223372036854775807
@[reducible] def dJ(x:Int):DC:=.i .i64 x
@[reducible] def dU(x:Int):VV:=.d (.i .u16 x)
theorem ah{k:IntKind}{lo hi z:Int}(p:lo≤z:=by first|omega|((try simp only[hT,wN,wO,fZ,kZ,nK,kW,jf,qf,qg] at*);omega))(h2:z≤hi:=by first|omega|((try simp only[hT,wN,wO,fZ,kZ,nK,kW,jf,qf,qg] at*);omega)):(Ty.i k lo hi).ok (.i k z):=az p h2
theorem bR{row:List Ty}{rows:List (List DC)}(z:Int)(h:aH row rows)(p:z.toNat<rows.length:=by first|omega|((try simp only[hT,wN,wO,fZ,kZ,nK,kW,jf,qf,qg] at*);omega)):∃r,rows[z.toNat]?=some r∧fF row r:=⟨_,dz p,nu h (dz p)⟩
theorem dX{row:List Ty}{rows:List (List DC)}{j n:Nat}(k:j<n)(h:aH row rows)(p:j<n→j<rows.length:=by intro k;simpa using k):∃r,rows[j]?=some r∧fF row r:=⟨_,dz (p k),nu h (dz (p k))⟩
theorem fc{p z:Ty}{l:List DC}(h:fF [p,z] l):∃d0 d1,l=[d0,d1]∧p.ok d0∧z.ok d1:=by
 obtain⟨d0,_,rfl,A,h⟩:=b0 h
 obtain⟨d1,_,rfl,F,h⟩:=b0 h
 obtain rfl:=dy h
 exact⟨d0,d1,aa,A,F⟩
theorem c4{p z A:Ty}{l:List DC}(h:fF [p,z,A] l):∃d0 d1 d2,l=[d0,d1,d2]∧p.ok d0∧z.ok d1∧A.ok d2:=by
 obtain⟨d0,_,rfl,F,h⟩:=b0 h
 obtain⟨d1,_,rfl,G,h⟩:=b0 h
 obtain⟨d2,_,rfl,I,h⟩:=b0 h
 obtain rfl:=dy h
 exact⟨d0,d1,d2,aa,F,G,I⟩
theorem vg{p z A F:Ty}{l:List DC}(h:fF [p,z,A,F] l):∃d0 d1 d2 d3,l=[d0,d1,d2,d3]∧p.ok d0∧z.ok d1∧A.ok d2∧F.ok d3:=by
 obtain⟨d0,_,rfl,G,h⟩:=b0 h
 obtain⟨d1,_,rfl,I,h⟩:=b0 h
 obtain⟨d2,_,rfl,J,h⟩:=b0 h
 obtain⟨d3,_,rfl,K,h⟩:=b0 h
 obtain rfl:=dy h
 exact⟨d0,d1,d2,d3,aa,G,I,J,K⟩
theorem fe{p z A F G I:Ty}{l:List DC}(h:fF [p,z,A,F,G,I] l):∃d0 d1 d2 d3 d4 d5,l=[d0,d1,d2,d3,d4,d5]∧p.ok d0∧z.ok d1∧A.ok d2∧F.ok d3∧G.ok d4∧I.ok d5:=by
 obtain⟨d0,_,rfl,J,h⟩:=b0 h
 obtain⟨d1,_,rfl,K,h⟩:=b0 h
 obtain⟨d2,_,rfl,L,h⟩:=b0 h
 obtain⟨d3,_,rfl,M,h⟩:=b0 h
 obtain⟨d4,_,rfl,O,h⟩:=b0 h
 obtain⟨d5,_,rfl,U,h⟩:=b0 h
 obtain rfl:=dy h
 exact⟨d0,d1,d2,d3,d4,d5,aa,J,K,L,M,O,U⟩
theorem M'{z A F G I J K:Ty}{l:List DC}(h:fF [z,A,F,G,I,J,K] l):∃d0 d1 d2 d3 d4 d5 p,l=[d0,d1,d2,d3,d4,d5,p]∧z.ok d0∧A.ok d1∧F.ok d2∧G.ok d3∧I.ok d4∧J.ok d5∧K.ok p:=by
 obtain⟨d0,_,rfl,L,h⟩:=b0 h
 obtain⟨d1,_,rfl,M,h⟩:=b0 h
 obtain⟨d2,_,rfl,O,h⟩:=b0 h
 obtain⟨d3,_,rfl,U,h⟩:=b0 h
 obtain⟨d4,_,rfl,Y,h⟩:=b0 h
 obtain⟨d5,_,rfl,Z,h⟩:=b0 h
 obtain⟨p,_,rfl,k6,h⟩:=b0 h
 obtain rfl:=dy h
 exact⟨d0,d1,d2,d3,d4,d5,p,aa,L,M,O,U,Y,Z,k6⟩
theorem okR_n9{F G I J K L M O U:Ty}{l:List DC}(h:fF [F,G,I,J,K,L,M,O,U] l):∃d0 d1 d2 d3 d4 d5 p z A,l=[d0,d1,d2,d3,d4,d5,p,z,A]∧F.ok d0∧G.ok d1∧I.ok d2∧J.ok d3∧K.ok d4∧L.ok d5∧M.ok p∧O.ok z∧U.ok A:=by
 obtain⟨d0,_,rfl,Y,h⟩:=b0 h
 obtain⟨d1,_,rfl,Z,h⟩:=b0 h
 obtain⟨d2,_,rfl,k2,h⟩:=b0 h
 obtain⟨d3,_,rfl,k3,h⟩:=b0 h
 obtain⟨d4,_,rfl,k4,h⟩:=b0 h
 obtain⟨d5,_,rfl,k5,h⟩:=b0 h
 obtain⟨p,_,rfl,k6,h⟩:=b0 h
 obtain⟨z,_,rfl,k7,h⟩:=b0 h
 obtain⟨A,_,rfl,k8,h⟩:=b0 h
 obtain rfl:=dy h
 exact⟨d0,d1,d2,d3,d4,d5,p,z,A,aa,Y,Z,k2,k3,k4,k5,k6,k7,k8⟩
theorem okR_n10{G I J K L M O U Y Z:Ty}{l:List DC}(h:fF [G,I,J,K,L,M,O,U,Y,Z] l):∃d0 d1 d2 d3 d4 d5 p z A F,l=[d0,d1,d2,d3,d4,d5,p,z,A,F]∧G.ok d0∧I.ok d1∧J.ok d2∧K.ok d3∧L.ok d4∧M.ok d5∧O.ok p∧U.ok z∧Y.ok A∧Z.ok F:=by
 obtain⟨d0,_,rfl,k0,h⟩:=b0 h
 obtain⟨d1,_,rfl,k1,h⟩:=b0 h
 obtain⟨d2,_,rfl,k2,h⟩:=b0 h
 obtain⟨d3,_,rfl,k3,h⟩:=b0 h
 obtain⟨d4,_,rfl,k4,h⟩:=b0 h
 obtain⟨d5,_,rfl,k5,h⟩:=b0 h
 obtain⟨p,_,rfl,k6,h⟩:=b0 h
 obtain⟨z,_,rfl,k7,h⟩:=b0 h
 obtain⟨A,_,rfl,k8,h⟩:=b0 h
 obtain⟨F,_,rfl,k9,h⟩:=b0 h
 obtain rfl:=dy h
 exact⟨d0,d1,d2,d3,d4,d5,p,z,A,F,aa,k0,k1,k2,k3,k4,k5,k6,k7,k8,k9⟩
theorem okR_n16{p0 p1 p2 p3 p4 p5 p6 p7 p8 p9 p z A F G I:Ty}{l:List DC}(h:fF [p0,p1,p2,p3,p4,p5,p6,p7,p8,p9,p,z,A,F,G,I] l):∃d0 d1 d2 d3 d4 d5 J K L M d10 d11 d12 d13 d14 d15,l=[d0,d1,d2,d3,d4,d5,J,K,L,M,d10,d11,d12,d13,d14,d15]∧p0.ok d0∧p1.ok d1∧p2.ok d2∧p3.ok d3∧p4.ok d4∧p5.ok d5∧p6.ok J∧p7.ok K∧p8.ok L∧p9.ok M∧p.ok d10∧z.ok d11∧A.ok d12∧F.ok d13∧G.ok d14∧I.ok d15:=by
 obtain⟨d0,_,rfl,k0,h⟩:=b0 h
 obtain⟨d1,_,rfl,k1,h⟩:=b0 h
 obtain⟨d2,_,rfl,k2,h⟩:=b0 h
 obtain⟨d3,_,rfl,k3,h⟩:=b0 h
 obtain⟨d4,_,rfl,k4,h⟩:=b0 h
 obtain⟨d5,_,rfl,k5,h⟩:=b0 h
 obtain⟨J,_,rfl,k6,h⟩:=b0 h
 obtain⟨K,_,rfl,k7,h⟩:=b0 h
 obtain⟨L,_,rfl,k8,h⟩:=b0 h
 obtain⟨M,_,rfl,k9,h⟩:=b0 h
 obtain⟨d10,_,rfl,O,h⟩:=b0 h
 obtain⟨d11,_,rfl,U,h⟩:=b0 h
 obtain⟨d12,_,rfl,Y,h⟩:=b0 h
 obtain⟨d13,_,rfl,Z,h⟩:=b0 h
 obtain⟨d14,_,rfl,k14,h⟩:=b0 h
 obtain⟨d15,_,rfl,k15,h⟩:=b0 h
 obtain rfl:=dy h
 exact⟨d0,d1,d2,d3,d4,d5,J,K,L,M,d10,d11,d12,d13,d14,d15,aa,k0,k1,k2,k3,k4,k5,k6,k7,k8,k9,O,U,Y,Z,k14,k15⟩
theorem bx{p:Prop}(h:p:=by simp):p:=h
theorem cn{p:Prop}(h:p:=by simp only[fZ,kZ,nK];omega):p:=h
theorem dF{p:Prop}(h:p:=by first|(intro h;rw[h];rfl)|(intro h;exact absurd (congrArg List.length h) (by simp only[nK];exact ae))):p:=h
theorem hH{p:Prop}(h:p:=by simp only[fZ,kZ,nK,jf,qf];exact ae):p:=h
theorem gG{p:Prop}(h:p:=by first|rfl|simp only[kW]):p:=h
theorem iE{p:Prop}(h:p:=by first|(intro z;exact⟨ae,by assumption⟩)|(intro z;cases z)):p:=h
theorem iQ{p:Prop}(h:p:=by intro z;(try simp only[jA,pF,qK,zY,hT] at z);first|omega|(simp_all;done)|(simp_all;omega)):p:=h
theorem lr{p:Prop}(h:p:=by assumption):p:=h
theorem wk{p:Prop}(h:p:=by first|omega|(simp only[fZ,kZ,nK];omega)):p:=h
theorem Ch{p:Prop}(h:p:=by first|(simp only[jA,ju,false_iff,true_iff];omega)|(simp;omega)):p:=h
theorem Br{p:Prop}(h:p:=by first|assumption|exact widthTo_0|exact L2|exact gz.mono (by assumption) ae|exact js.step (by assumption) ae (by assumption) rfl ae ae|exact gz.step (by assumption) ae (by assumption) rfl (by assumption) (by assumption) ae):p:=h
theorem Bs{p:Prop}(h:p:=by simp only[fZ,kZ,nK];exact ae):p:=h
theorem Jt{p:Prop}(h:p:=by first|assumption|exact widthAt_0|exact p'.max (by assumption) (by assumption) rfl (by assumption) (by assumption) rfl ae):p:=h
theorem Pk{p:Prop}(h:p:=by simp only[kZ,nK];omega):p:=h
theorem Pl{p:Prop}(h:p:=by first|(intro _;omega)|(intro z;cases z)):p:=h
end Go.Ev
namespace Go.Ev.Pp
end Go.Ev.Pp
namespace Go.Ev.Rp
open Go Go.Ev.Pp
structure FT(T:bC):Prop where
 q5:T.ft.get 5=some i5
 q13:T.ft.get 13=some i13
 q14:T.ft.get 14=some i14
 q15:T.ft.get 15=some i15
 q16:T.ft.get 16=some i16
 q17:T.ft.get 17=some i17
 q19:T.ft.get 19=some i19
 q20:T.ft.get 20=some i20
 q21:T.ft.get 21=some i21
 q22:T.ft.get 22=some i22
 q23:T.ft.get 23=some i23
 q30:T.ft.get 30=some i30
 q31:T.ft.get 31=some i31
 q32:T.ft.get 32=some i32
 q33:T.ft.get 33=some i33
 q34:T.ft.get 34=some i34
 q36:T.ft.get 36=some i36
 q37:T.ft.get 37=some i37
 q38:T.ft.get 38=some i38
 q39:T.ft.get 39=some i39
 q40:T.ft.get 40=some i40
 q42:T.ft.get 42=some i42
 q43:T.ft.get 43=some i43
 q44:T.ft.get 44=some i44
 q45:T.ft.get 45=some i45
 q46:T.ft.get 46=some i46
 q51:T.ft.get 51=some i51
 q55:T.ft.get 55=some i55
 q62:T.ft.get 62=some i62
 q64:T.ft.get 64=some i64
 q65:T.ft.get 65=some i65
 q66:T.ft.get 66=some i66
 q67:T.ft.get 67=some i67
 q69:T.ft.get 69=some i69
 q70:T.ft.get 70=some i70
 q71:T.ft.get 71=some i71
 q72:T.ft.get 72=some i72
 q73:T.ft.get 73=some i73
 q74:T.ft.get 74=some i74
 q75:T.ft.get 75=some i75
 q76:T.ft.get 76=some i76
 q77:T.ft.get 77=some i77
 q78:T.ft.get 78=some i78
 q79:T.ft.get 79=some i79
 q80:T.ft.get 80=some i80
 q81:T.ft.get 81=some i81
 q82:T.ft.get 82=some i82
 q83:T.ft.get 83=some i83
 q84:T.ft.get 84=some i84
 q85:T.ft.get 85=some i85
 q86:T.ft.get 86=some i86
 q91:T.ft.get 91=some i91
 q96:T.ft.get 96=some i96
 q97:T.ft.get 97=some i97
 q99:T.ft.get 99=some i99
 q100:T.ft.get 100=some i100
 q101:T.ft.get 101=some i101
 q102:T.ft.get 102=some i102
 q103:T.ft.get 103=some i103
 q104:T.ft.get 104=some i104
 aaV:T.ft.get 105=some i105
 q107:T.ft.get 107=some i107
 q108:T.ft.get 108=some i108
 q109:T.ft.get 109=some i109
 q110:T.ft.get 110=some i110
 q111:T.ft.get 111=some i111
 aaW:T.ft.get 112=some i112
 q113:T.ft.get 113=some i113
 q114:T.ft.get 114=some i114
 q115:T.ft.get 115=some i115
 q116:T.ft.get 116=some i116
 q117:T.ft.get 117=some i117
 q118:T.ft.get 118=some i118
 q119:T.ft.get 119=some i119
 q120:T.ft.get 120=some i120
 q121:T.ft.get 121=some i121
 q122:T.ft.get 122=some i122
 q123:T.ft.get 123=some i123
 q124:T.ft.get 124=some i124
 q125:T.ft.get 125=some i125
 q126:T.ft.get 126=some i126
 q127:T.ft.get 127=some i127
 q128:T.ft.get 128=some i128
 aaX:T.ft.get 129=some i129
 q130:T.ft.get 130=some i130
 q150:T.ft.get 150=some i150
 q151:T.ft.get 151=some i151
 q152:T.ft.get 152=some i152
 q153:T.ft.get 153=some i153
 q154:T.ft.get 154=some i154
 q155:T.ft.get 155=some i155
 q156:T.ft.get 156=some i156
 q157:T.ft.get 157=some i157
 q158:T.ft.get 158=some i158
 q159:T.ft.get 159=some i159
 q160:T.ft.get 160=some i160
 q161:T.ft.get 161=some i161
 q162:T.ft.get 162=some i162
 q163:T.ft.get 163=some i163
 q164:T.ft.get 164=some i164
 q165:T.ft.get 165=some i165
 q166:T.ft.get 166=some i166
 q195:T.ft.get 195=some i195
 q208:T.ft.get 208=some i208
 q209:T.ft.get 209=some i209
 q210:T.ft.get 210=some i210
 q211:T.ft.get 211=some i211
 q212:T.ft.get 212=some i212
 q213:T.ft.get 213=some i213
 q214:T.ft.get 214=some i214
 q215:T.ft.get 215=some i215
 q216:T.ft.get 216=some i216
 q217:T.ft.get 217=some i217
 q240:T.ft.get 240=some i240
 q241:T.ft.get 241=some i241
 q246:T.ft.get 246=some i246
 q252:T.ft.get 252=some i252
 q253:T.ft.get 253=some i253
 q275:T.ft.get 275=some i275
 q280:T.ft.get 280=some i280
 q281:T.ft.get 281=some i281
 q294:T.ft.get 294=some i294
 q295:T.ft.get 295=some i295
def cl:List Ty:=[tJ]
def ee:List Ty:=[tJ,tJ,.s 1000]
def mo:List Ty:=[.i .i64 1 12,.s 1000,tJ]
def eB:List Ty:=[tJ,tJ,.l 13 mo]
def fu:List Ty:=[.e (DC.sl [[DC.i .i64 1]]),.s 1000,.e (DC.sl [[DC.i .i64 1]])]
def ez:List Ty:=[tJ,.l 200 cl]
def gf:List Ty:=[tJ,.l 1000000000 ee,tJ,tJ,tJ,tJ]
def fy:List Ty:=[tJ,tJ,tJ]
def tRow:List Ty:=[.l 1000000000 ee,.l 200 cl]
def iR:List Ty:=[tJ,tJ,tJ,tJ,.s 1000,.l 4096 tRow]
def ji:List Ty:=[.i .i64 0 100,.i .i64 0 100,.i .i64 0 100,.i .i64 0 100,tJ,tJ,.s 1000]
def QS:List Ty:=[.s 10]
def jv:List Ty:=[.l 1000000000 ee,tJ,tJ,.l 200 cl]
def pc:List Ty:=[.l 1000000000 ee,.l 0 cl]
def fK:List Ty:=[tJ,tJ]
def wm:List Ty:=[.l 1000000000 ee,.x,.l 0 cl]
def mq:List Ty:=[tJ,tJ,.l 1000000000 cl]
def fJ(nv mv:Nat):List Ty:=[.s 1000,.l nv eB,.l 200 cl,.l 4 fu,.l 4 ez,.l mv gf]
def vD:List Ty:=[tJ,.s 1000,.l 1000000000 ee,tJ,tJ,.l 100 ji,tJ,.l 10 fK,.s 1000,.l 100 eB,.l 200 cl,.l 4 fu,.l 4 ez,tJ,.s 1000,tJ]
def Ks:List Ty:=[.i .i64 1 1,tJ,.l 2 vD,tJ,tJ,tJ,.s 1000,tJ,tJ,tJ]
def tU9:List Ty:=[.i .u16 0 65535,.i .u16 0 65535,.i .u16 0 65535,.i .u16 0 65535,.i .u16 0 65535,.i .u16 0 65535,.i .u16 0 65535,.i .u16 0 65535,.i .u16 0 65535]
theorem Bt:aH [.i .i64 1 1] [[.i .i64 1]]:=bX (ao ah bm)
theorem o5:aH cl [[.i .i64 1]]:=bX (ao ah bm)
end Go.Ev.Rp
namespace Go.Ev
open Go
def sc(id:Int)(w:List (List DC)):Prop:=∃(q:Nat)(row:List DC),w[q]?=some row∧row[0]?=some (.i .i64 id)∧row[5]?=some (.i .i64 1099511627776)
def jD(k id:Int)(w:List (List DC)):Prop:=∀(q:Nat)(row:List DC),(q:Int)<k→w[q]?=some row→row[0]?=some (.i .i64 id)→row[5]?=some (.i .i64 1099511627776)→False
theorem sc.mk{id a b:Int}{w:List (List DC)}{q:Nat}{row:List DC}(p:w[q]?=some row)(h0:row[0]?=some (.i .i64 a))(z:row[5]?=some (.i .i64 b))(A:a=id)(F:b=1099511627776):sc id w:=⟨q,row,p,A▸h0,F▸z⟩
theorem Pm{id:Int}{w:List (List DC)}:jD 0 id w:=fun q _ h=>by omega
theorem jD.Pn{k id a:Int}{w:List (List DC)}{row:List DC}(h:jD k id w)(h0:0≤k)(A:w[k.toNat]?=some row)(F:row[0]?=some (.i .i64 a))(G:a≠id):jD (k+1) id w:=fun q r K p z I=>by
 by_cases J:(q:Int)<k
 ·exact h q r J p z I
 have:q=k.toNat:=by omega
 subst this
 rw[A] at p;cases p
 rw[F] at z;cases z
 exact G aa
theorem jD.Po{k id a:Int}{w:List (List DC)}{row:List DC}(h:jD k id w)(h0:0≤k)(A:w[k.toNat]?=some row)(F:row[5]?=some (.i .i64 a))(G:a≠1099511627776):jD (k+1) id w:=fun q r K p I z=>by
 by_cases J:(q:Int)<k
 ·exact h q r J p I z
 have:q=k.toNat:=by omega
 subst this
 rw[A] at p;cases p
 rw[F] at z;cases z
 exact G aa
theorem jD.all{k id:Int}{w:List (List DC)}(h:jD k id w)(F:(w.length:Int)≤k):jD w.length id w:=fun q r G p z A=>h q r ax p z A
theorem find_ge{y id:Int}{w:List (List DC)}(z:(0≤y→sc id w)∧(y<0→jD w.length id w))(A:sc id w):0≤y:=by
 by_cases h:0≤y
 ·exact h
 obtain⟨q,row,p,F,G⟩:=A
 have:=(List.getElem?_eq_some_iff.1 p).1
 exact(z.2 ax q row ax p F G).elim
def sd(k:Int)(w z:List (List DC)):Prop:=∀(p:Nat)(row:List DC)(id:Int),(p:Int)<k→z[p]?=some row→row[0]?=some (.i .i64 id)→sc id w
theorem Xb{w p:List (List DC)}:sd 0 w p:=fun q _ _ h=>by omega
theorem sd.step{k id:Int}{w p:List (List DC)}{row:List DC}(h:sd k w p)(h0:0≤k)(F:p[k.toNat]?=some row)(G:row[0]?=some (.i .i64 id))(I:sc id w):sd (k+1) w p:=fun q r i K z A=>by
 by_cases J:(q:Int)<k
 ·exact h q r i J z A
 have:q=k.toNat:=by omega
 subst this
 rw[F] at z;cases z
 rw[G] at A;cases A
 exact I
theorem sd.get{k id:Int}{w p:List (List DC)}{row:List DC}{q:Nat}(h:sd k w p)(F:(p.length:Int)≤k)(z:p[q]?=some row)(A:row[0]?=some (.i .i64 id)):sc id w:=by
 have:=(List.getElem?_eq_some_iff.1 z).1
 exact h q row id ax z A
section
variable{T:bC}{VE:bO}{B:bq}
theorem n7{b:Nat}{s s':BS}(z:aZ B b=some s)(A:s'.born↔s.born):∀c t,aZ ((b,s')::B) c=some t→t.born→∃u,aZ B c=some u∧u.born:=fun c t p ho=>by
 rw[di] at p
 by_cases k:b=c
 ·subst k;rw[bE rfl] at p;cases p;exact⟨s,z,A.1 ho⟩
 rw[bw k] at p;exact⟨t,p,ho⟩
theorem Rel.pv{H0:Nat→Nat}{X0:Nat→Prop}{E:Env}{H:aC}{β:Nat→Nat}(h:Rel H0 X0 VE B E H β){b:Nat}{s s':BS}(L:aZ B b=some s)(M:s'.born↔s.born)(G:∀X,df H X β (β b) s→df H X β (β b) s'):Rel H0 X0 VE ((b,s')::B) E H β:=by
 have F:=n7 (B:=B) L M
 have I:ff H (XB X0 B β) H (XB X0 ((b,s')::B) β):=⟨bM _,fun f _ O=>⟨fun k=>O (k.imp id fun⟨c,t,J,ho,h2⟩=>by obtain⟨u,z,A⟩:=F c t J ho;exact⟨c,u,z,A,h2⟩),rfl⟩⟩
 refine⟨h.kE,h.bb,h.x0,fun c t p ho=>?_,fun c d t u p K U Y Z=>?_,fun k v hk=>?_,fun c t p=>?_⟩
 ·obtain⟨u,z,A⟩:=F c t p ho;exact h.new c u z A
 ·obtain⟨s1,z,A⟩:=F c t p U
  obtain⟨t1,k3,k4⟩:=F d u K Y
  exact h.inj c d s1 t1 z k3 A k4 Z
 ·obtain⟨a,J,h2⟩:=h.env k v hk
  exact⟨a,J,h2.lift I⟩
 rw[di] at p
 by_cases k:b=c
 ·subst k
  rw[bE rfl] at p
  cases p
  exact G _ ((h.box b s L).lift I aa)
 rw[bw k] at p;exact(h.box c t p).lift I rfl
theorem Rel.slot{H0:Nat→Nat}{X0:Nat→Prop}{E:Env}{H:aC}{β:Nat→Nat}(h:Rel H0 X0 VE B E H β){k:Nat}{v v':VV}(z:aZ VE k=some v)(A:∀a,aK H (XB X0 B β) β v a→aK H (XB X0 B β) β v' a):Rel H0 X0 ((k,v')::VE) B E H β:=by
 refine{h with env:=fun c w p=>?_}
 rw[di] at p
 by_cases e:k=c.n
 ·rw[bE e] at p;cases p
  subst e
  obtain⟨a,F,h2⟩:=h.env c v z
  exact⟨a,F,A a h2⟩
 rw[bw e] at p;exact h.env c w p
theorem m0.pv{n:Nat}{β:Nat→Nat}{fl:List FL}{bB:List FP}{b:Nat}{s s':BS}(z:aZ B b=some s)(A:s'.born↔s.born)(h:m0 n B β fl bB):m0 n ((b,s')::B) β fl bB:=
 ⟨h.1,fun i x r F G=>by
  have:=h.2 i x r F G
  cases x with
  |rd R=>obtain⟨a,e,l,c,d⟩:=this;exact⟨a,e,l,c,fun f p=>⟨(d f p).1,fun c t I J K=>by obtain⟨u,L,M⟩:=n7 (B:=B) z A c t I J;exact(d f p).2 c u L M K⟩⟩
  |qt=>exact this
  |off _=>exact this
  |un=>trivial⟩
variable{ops:List bK}{c:IC}{fl:List FL}{Q:bO→bq→Prop}{R:Ex→bO→bq→Prop}
theorem Na(b:Nat){s:BS}(p:aZ B b=some s)(h:∀f,VO T ops VE ((b,.ct f s)::B) Q):VO T ops VE B Q:=
 fun H0 X0 E H β z=>(h (β b) H0 X0 E H β (z.pv p gY fun _ k=>⟨fun _=>rfl,k⟩)).mono fun _ _ A=>A.more (n7 p gY)
theorem vc_pin(b:Nat){s:BS}(p:aZ B b=some s)(h:∀f,VC T c VE ((b,.ct f s)::B) R):VC T c VE B R:=
 fun H0 X0 E H β z=>(h (β b) H0 X0 E H β (z.pv p gY fun _ k=>⟨fun _=>rfl,k⟩)).mono fun _ _ _ A=>A.more (n7 p gY)
theorem DM(b:Nat){s:BS}(p:aZ B b=some s)(h:∀f,VQ T ops VE ((b,.ct f s)::B) fl Q):VQ T ops VE B fl Q:=
 fun H0 X0 E H β z bB A=>(h (β b) H0 X0 E H β (z.pv p gY fun _ k=>⟨fun _=>rfl,k⟩) bB (A.pv p gY)).mono fun _ _ F=>F.more (n7 p gY)
theorem HG(b:Nat){f:Nat}{s:BS}(p:aZ B b=some (.ct f s))(h:VO T ops VE ((b,s)::B) Q):VO T ops VE B Q:=
 fun H0 X0 E H β z=>(h H0 X0 E H β (z.pv p gY fun _ k=>k.2)).mono fun _ _ A=>A.more (n7 p gY)
theorem vq_unpin(b:Nat){f:Nat}{s:BS}(p:aZ B b=some (.ct f s))(h:VQ T ops VE ((b,s)::B) fl Q):VQ T ops VE B fl Q:=
 fun H0 X0 E H β z bB A=>(h H0 X0 E H β (z.pv p gY fun _ k=>k.2) bB (A.pv p gY)).mono fun _ _ F=>F.more (n7 p gY)
theorem Rel.pinned{H0:Nat→Nat}{X0:Nat→Prop}{E:Env}{H:aC}{β:Nat→Nat}(h:Rel H0 X0 VE B E H β){b f:Nat}{s:BS}(p:aZ B b=some (.ct f s))(ho:s.born):β b=f:=(h.box b _ p).1 ho
theorem Rel.rawA{H0:Nat→Nat}{X0:Nat→Prop}{E:Env}{H:aC}{β:Nat→Nat}(h:Rel H0 X0 VE B E H β){k b f n es elem aL e:Nat}{rows:List (List DC)}(z:aZ VE k=some (.ac b n es))(A:aZ B b=some (.ct f (.acc elem aL e rows)))(h0:0<n)(F:rows≠[]):Rel H0 X0 ((k,.d (.raw f n es))::VE) B E H β:=
 h.slot z fun a p=>by
  have e:=h.pinned A F
  simp only[aK,cq] at p⊢
  rcases p with⟨G,_⟩|⟨_,h2⟩
  ·omega
  rw[h2,e]
theorem Rel.unrawA{H0:Nat→Nat}{X0:Nat→Prop}{E:Env}{H:aC}{β:Nat→Nat}(h:Rel H0 X0 VE B E H β){k b f n es elem aL e:Nat}{rows:List (List DC)}(z:aZ VE k=some (.d (.raw f n es)))(A:aZ B b=some (.ct f (.acc elem aL e rows)))(h0:0<n)(F:rows≠[]):Rel H0 X0 ((k,.ac b n es)::VE) B E H β:=
 h.slot z fun a p=>by
  have e:=h.pinned A F
  simp only[aK,cq] at p⊢
  exact .inr ⟨h0,by rw[p,e]⟩
theorem Ml(k b:Nat){f n es elem aL e:Nat}{rows:List (List DC)}(p:aZ VE k=some (.ac b n es))(z:aZ B b=some (.ct f (.acc elem aL e rows)))(h0:0<n)(A:rows≠[])(h:VQ T ops ((k,.d (.raw f n es))::VE) B fl Q):VQ T ops VE B fl Q:=
 fun H0 X0 E H β F bB G=>h H0 X0 E H β (F.rawA p z h0 A) bB G
theorem vq_unrawA(k b:Nat){f n es elem aL e:Nat}{rows:List (List DC)}(p:aZ VE k=some (.d (.raw f n es)))(z:aZ B b=some (.ct f (.acc elem aL e rows)))(h0:0<n)(A:rows≠[])(h:VQ T ops ((k,.ac b n es)::VE) B fl Q):VQ T ops VE B fl Q:=
 fun H0 X0 E H β F bB G=>h H0 X0 E H β (F.unrawA p z h0 A) bB G
end
section
variable{T:bC}{VE:bO}{B:bq}{W:List Nat}{fl:List FL}{Q:bO→bq→Prop}
theorem VI.Y7{op:bF}{b f:Nat}{s:BS}{Q:VV→bq→Prop}(z:aZ B b=some (.ct f s))(h:VI T op VE ((b,s)::B) W Q):VI T op VE B W Q:=fun H0 X0 E H β A=>
 (h H0 X0 E H β (A.pv z gY fun _ k=>k.2)).mono fun a H' F=>by
  obtain⟨v,B',β',G,p,I,J⟩:=F
  exact⟨v,B',β',G.more (n7 z gY),p,I,J⟩
theorem U8(c:Nat){f:Nat}{s:BS}{d:Key}{l:List Nat}{op:bF}{r:List bK}(A:aZ B c=some (.ct f s))(F:s.born)(G:Cf c W=false)(L:o4 W l fl=true)(h:VI T op VE B W fun v B'=>VQ T r ((d.n,v)::VE) B' (.off f::fl) Q):VQ T (⟨some d,none,some l,op⟩::r) VE B fl Q:=by
 intro H0 X0 E H β p bB I
 obtain⟨N,a,H',e,J,v,B',β',K,z,M,O⟩:=xv h p
 have k:tK H'.next B' β' (.off f) ⟨op.reads E,H'.ws,H.next,H'.next⟩:=by
  intro U
  obtain⟨b,t,Y,Z,k3,k4⟩:=J f U
  have:=p.inj b c t _ Z A k3 F (k4.trans (p.pinned A F).symm)
  subst this
  rw[LZ Y] at G;cases G
 obtain⟨N2,E2,H2,e2,hp⟩:=O H0 X0 _ _ β' (z.set M) (⟨op.reads E,H'.ws,H.next,H'.next⟩::bB) ((I.step K).cons k)
 refine⟨max N N2,E2,H2,fun lf n a1 a2=>?_,hp.of K p.bb⟩
 show bK.jQ (T.call lf n) ⟨some d,none,some l,op⟩ E H bB (jb (T.call lf n) r)=_
 rw[xe,xf (e lf n ax ax) (xp I J L)]
 exact e2 lf n ax ax
def H5(f:Nat)(l:List Nat)(fl:List FL):Prop:=
 match l with
 |[]=>True
 |i::r=>(match fl[i]?with
  |some (.rd _)=>True
  |some .qt=>True
  |some (.off g)=>g=f
  |_=>False)∧H5 f r fl
theorem Uz{n f:Nat}{β:Nat→Nat}{bB:List FP}{fp:FP}(G:m0 n B β fl bB)(J:fp.ws=[])(K:fp.rd=some [f]):∀{l:List Nat},H5 f l fl→nr fp bB l=true
 |[],_=>rfl
 |i::r,h=>by
  simp only[H5] at h
  obtain⟨hi,I⟩:=h
  show ob (bB[i]?) false (fun b=>aI (oY fp b) (nr fp bB r) false)=true
  have A:i<bB.length:=by
   rw[G.1]
   cases p:fl[i]?with
   |none=>rw[p] at hi;exact hi.elim
   |some x=>exact(List.getElem?_eq_some_iff.1 p).1
  rw[dz A,cJ]
  have F:i<fl.length:=by rw[←G.1];exact A
  have z:=G.2 i _ _ (dz F) (dz A)
  rw[dz F] at hi
  have e:oY fp bB[i]=true:=by
   have L:f∉bB[i].ws:=by
    cases p:fl[i] with
    |un=>rw[p] at hi;exact hi.elim
    |qt=>rw[p] at z;have z:bB[i].ws=[]:=z;rw[z];intro h;cases h
    |rd R=>rw[p] at z;rw[z.1];intro h;cases h
    |off g=>rw[p] at z hi;have hi:g=f:=hi;subst hi;exact z
   unfold oY
   rw[J,K,Um,TO (fun x p M=>by rcases List.mem_singleton.1 M with rfl;exact L p)]
   rfl
  rw[e,dw]
  exact Uz G J K I
theorem U9{d:Key}{l:List Nat}{n:Nat}{w:Bool}{a:aM}{c o f:Nat}{s:BS}{r:List bK}(M:a.vv VE=some (.vp c o))(O:aZ B c=some (.ct f s))(U:s.born)(Y:H5 f l fl)(h:VI T (.load n w a) VE B [] fun v B'=>VQ T r ((d.n,v)::VE) B' (.qt::fl) Q):VQ T (⟨some d,none,some l,.load n w a⟩::r) VE B fl Q:=by
 intro H0 X0 E H β F bB J
 obtain⟨N,v0,H',e,h1,v,B',β',K,G,Z,hq⟩:=xv h F
 obtain⟨x,L,z⟩:=F.bU M
 simp only[aK] at z
 subst z
 have p:H'=H.mark:=LK L (e N N (bM _) (bM _))
 have I:H.mark.ws=[]:=by cases H;rfl
 have A:H'.ws=[]:=by rw[p];exact I
 obtain⟨N2,E2,H2,e2,hp⟩:=hq H0 X0 _ _ β' (G.set Z) (⟨(bF.load n w a).reads E,H'.ws,H.next,H'.next⟩::bB) ((J.step K).cons (x:=.qt) A)
 refine⟨max N N2,E2,H2,fun lf n a1 a2=>?_,hp.of K F.bb⟩
 show bK.jQ (T.call lf n) ⟨some d,none,some l,_⟩ E H bB (jb (T.call lf n) r)=_
 rw[xe,xf (e lf n ax ax) (Uz J A (by show some (fX (a.ev E))=_;rw[L,F.pinned O U];rfl) Y)]
 exact e2 lf n ax ax
end
theorem aaY{p q r:Ty}{a b c:DC}(h:fF [p,q,r] [a,b,c]):p.ok a∧q.ok b∧r.ok c:=by
 simp only[fF] at h
 obtain⟨d,l,e,z,d2,I,A,h2,d3,J,F,G,K⟩:=h
 cases e;cases A;cases F
 exact⟨z,h2,G⟩
def sT(w:List (List DC))(f n:Nat):Prop:=∃v l,w[w.length-1]?=some [v,.raw f n 2,l]
theorem sT.step{R w' p:List (List DC)}{i j f n:Nat}{a b c l:DC}{r':List DC}(F:w'=R.set i (kC [a,b,c] 1 [.raw f n 2]))(h2:p=w'.set j (kC r' 2 [l]))(A:w'[j]?=some r')(G:(i:Int)=(R.length:Int) -1)(I:(j:Int)=(R.length:Int) -1):sT p f n:=by
 have hi:i<R.length:=by omega
 have z:j=i:=by omega
 subst z
 subst F
 rw[Jh hi] at A
 cases A
 subst h2
 have e:j=R.length-1:=by omega
 refine⟨a,l,?_⟩
 rw[kW,kW,←e,Jh (by rw[kW];exact hi)]
 rfl
theorem HH{w:List (List DC)}{r:List DC}:(w++[r])[w.length]?=some r:=by simp
theorem VS:∀a:List UInt8,Op.bytesLess a a=false
 |[]=>rfl
 |x::r=>by simp[Op.bytesLess,VS r]
theorem vi_ltSS{T:bC}{VE:bO}{B:bq}{Q:VV→bq→Prop}{op:BinOp}{x y:aM}{a:List UInt8}(A:x.vv VE=some (.d (al a)))(F:y.vv VE=some (.d (al a)))(ho:op= .lss∨op= .gtr)(G:Q (.d (.b false)) B):VI T (.bin op x y) VE B [] Q:=fun _ _ _ _ _ p=>by
 have z:strLt a.length (pack a) a.length (pack a)=false:=by rw[Lo];exact VS a
 have I:zc op (.str a.length (pack a)) (.str a.length (pack a))=some (.bool false):=by
  rcases ho with rfl|rfl
  ·show some (aw.bool (strLt a.length (pack a) a.length (pack a)))=_;rw[z]
  show some (aw.bool (strLt a.length (pack a) a.length (pack a)))=_;rw[z]
 exact AK (p.str A) (p.str F) (v:=.bool false) I (dp p (v:=.d (.b false)) (by simp only[aK,cq]) G)
def fL(R:List DC→List DC→Prop)(w w':List (List DC)):Prop:=w.length=w'.length∧∀(q:Nat)r r',w[q]?=some r→w'[q]?=some r'→R r r'
def nG(r r':List DC):Prop:=∃f t d p w,r=[f,t,d]∧r'=[f,t,p]∧aR w d∧aR w p
def nD(r r':List DC):Prop:=∃k d p w,r=[k,d]∧r'=[k,p]∧aR w d∧aR w p
def aaZ(r r':List DC):Prop:=∃p v v' k z f f' c A x F,r=[p,v,k,f,c,x]∧r'=[p,v',z,f',A,F]∧
 (∃w w',aR w v∧aR w' v'∧fL nG w w')∧(∃w,aR w k∧aR w z)∧(∃w,aR w f∧aR w f')∧(∃w w',aR w c∧aR w' A∧fL nD w w')∧∃w,aR w x∧aR w F
end Go.Ev
