/- Part 23 of rules for walks through the code of a program, and of such walks; what each part proves is said by its theorems. -/
import Derived.Test.YtdaamclhcpjdpaaGreatDoorR21
import Derived.Test.YtdaamclhcpjdpaaGreatDoorR22
set_option linter.unusedVariables false
set_option linter.unusedSimpArgs false
noncomputable section
set_option maxRecDepth 100000
set_option maxHeartbeats 4000000
namespace Go.Ev
open Go
def xP{α:Type}:List Nat→List (Nat×α)→List (Nat×α)→Option (List (Nat×α))
 |[],_,acc=>some acc
 |k::ks,l,acc=>match aL l k with
  |some v=>xP ks l ((k,v)::acc)
  |none=>none
def GD{β:Type}(n:Nat)(k:Nat→Option β):Option β:=bif Nat.beq n 0 then k 0 else bif Nat.beq n 1 then k 1 else bif Nat.beq n 2 then k 2 else bif Nat.beq n 3 then k 3 else bif Nat.beq n 4 then k 4 else bif Nat.beq n 5 then k 5 else k n
theorem forceN_eq{β:Type}(n:Nat)(k:Nat→Option β):GD n k=k n:=by
 unfold GD;have z:∀m,Nat.beq n m=true→n=m:=fun m h=>cq h
 cases h0:Nat.beq n 0 with
 |true=>rw[z 0 h0];rfl
 |false=>cases A:Nat.beq n 1 with
  |true=>rw[z 1 A];rfl
  |false=>cases h2:Nat.beq n 2 with
   |true=>rw[z 2 h2];rfl
   |false=>cases G:Nat.beq n 3 with
    |true=>rw[z 3 G];rfl
    |false=>cases I:Nat.beq n 4 with
     |true=>rw[z 4 I];rfl
     |false=>cases L:Nat.beq n 5 with
      |true=>rw[z 5 L];rfl
      |false=>rfl
def F'{α β:Type}:List α→(List α→Option β)→Option β
 |[],k=>k []
 |v::r,k=>F' r fun r=>k (v::r)
theorem YV{α β:Type}:∀(l:List α)(k:List α→Option β),F' l k=k l
 |[],_=>rfl
 |v::r,k=>by simp only[F'];rw[YV r]
def GF{β:Type}(v:VV)(k:VV→Option β):Option β:=match v with
 |.d x=>k (.d x)
 |.agg l=>F' l fun l=>k (.agg l)
 |.tuple l=>F' l fun l=>k (.tuple l)
 |.vp b o=>GD o fun o=>k (.vp b o)
 |.bp b g q o es=>GD o fun o=>k (.bp b g q o es)
 |.rp r o=>GD o fun o=>k (.rp r o)
 |.bs b n es=>k (.bs b n es)
 |.ac b n es=>k (.ac b n es)
 |.fn f c=>k (.fn f c)
 |.k a=>k (.k a)
 |.il=>k .il
 |.undef=>k .undef
theorem PZ{β:Type}(v:VV)(k:VV→Option β):GF v k=k v:=by
 cases v<;>simp only[GF,forceN_eq,YV]
def LP{β:Type}:List VV→(List VV→Option β)→Option β
 |[],k=>k []
 |v::r,k=>GF v fun v=>LP r fun r=>k (v::r)
theorem ZA{β:Type}:∀(l:List VV)(k:List VV→Option β),LP l k=k l
 |[],_=>rfl
 |v::r,k=>by simp only[LP];rw[PZ,ZA r]
def LQ{β:Type}(s:BS)(k:BS→Option β):Option β:=match s with
 |.one e z row=>LP row fun row=>k (.one e z row)
 |.arr e b s lo rows=>k (.arr e b s lo rows)
 |.acc e b s rows=>k (.acc e b s rows)
 |.c9 f s=>k (.c9 f s)
theorem ZB{β:Type}(s:BS)(k:BS→Option β):LQ s k=k s:=by
 cases s<;>simp only[LQ,ZA]
def B3:List Nat→bo→bo→Option bo
 |[],_,acc=>some acc
 |k::ks,l,acc=>match aL l k with
  |some v=>GF v fun v=>B3 ks l ((k,v)::acc)
  |none=>none
def B4:List Nat→aT→aT→Option aT
 |[],_,acc=>some acc
 |k::ks,l,acc=>match aL l k with
  |some v=>LQ v fun v=>B4 ks l ((k,v)::acc)
  |none=>none
theorem aan:∀(ks:List Nat)(l acc:bo),B3 ks l acc=xP ks l acc
 |[],_,_=>rfl
 |k::ks,l,acc=>by
  simp only[B3,xP]
  cases aL l k with
  |none=>rfl
  |some v=>simp only[PZ,aan ks]
theorem aao:∀(ks:List Nat)(l acc:aT),B4 ks l acc=xP ks l acc
 |[],_,_=>rfl
 |k::ks,l,acc=>by
  simp only[B4,xP]
  cases aL l k with
  |none=>rfl
  |some v=>simp only[ZB,aao ks]
theorem P0{α:Type}:∀{ks:List Nat}{l acc r:List (Nat×α)},xP ks l acc=some r→an acc l→an r l
 |[],_,_,_,h,k=>by simp only[xP] at h;cases h;exact k
 |i::ks,l,acc,r,h,k=>by
  simp only[xP] at h
  split at h
  ·rename_i v e;exact P0 h ⟨e,k⟩
  cases h
variable{T:aN}{VE bF oE:bo}{B B' Bb:aT}{R:Ex→bo→aT→Prop}
theorem cB(ks bs:List Nat){c:IC}(z:B3 ks VE []=some bF)(h2:B4 bs B []=some B')(h:VC T c bF B' R):VC T c VE B R:=by
 rw[aan] at z;rw[aao] at h2;exact aU bF B' (P0 z trivial) (P0 h2 trivial) h
theorem vc_loopK(ks bs:List Nat){c:IC}(A:B3 ks VE []=some oE)(h2:B4 bs B []=some Bb)(I:bo→aT→Nat→bo→aT→Prop)(z:∀k VE B,I oE Bb k VE B→VC T c VE B fun x bF B'=>match x with|.normal=>∃j,j<k∧I oE Bb j bF B'|x=>R x bF B'){k:Nat}(h0:I oE Bb k VE B):VC T (.loop c) VE B R:=QK (I oE Bb) z h0
inductive Fr where
 |c (c:IC)
 |b (id:Nat)
 |l (J:bo→aT→Prop)
def RK(T:aN)(R:Ex→bo→aT→Prop):List Fr→Ex→bo→aT→Prop
 |[]=>R
 |.c c::K=>fun x VE B=>match x with
  |.normal=>VC T c VE B (RK T R K)
  |x=>RK T R K x VE B
 |.b id::K=>fun x=>RK T R K (JZ id x)
 |.l J::K=>fun x VE B=>match x with
  |.normal=>J VE B
  |x=>RK T R K x VE B
inductive k' where
 |c (c:IC) (K:List Fr) (VE:bo) (B:aT)
 |o (l:List bl) (K:List Fr) (VE:bo) (B:aT)
 |q (l:List bl) (fl:List FL) (K:List Fr) (VE:bo) (B:aT)
 |x (x:Ex) (K:List Fr) (VE:bo) (B:aT)
@[reducible] def k'.P(T:aN)(R:Ex→bo→aT→Prop):k'→Prop
 |.c y K VE B=>VC T y VE B (RK T R K)
 |.o y K VE B=>VO T y VE B fun bF B'=>RK T R K .normal bF B'
 |.q y fl K VE B=>VQ T y VE B fl fun bF B'=>RK T R K .normal bF B'
 |.x y K VE B=>RK T R K y VE B
def vK:List Fr→Ex→bo→aT→k'
 |[],x,VE,B=>.x x [] VE B
 |.b id::K,x,VE,B=>vK K (JZ id x) VE B
 |.c c::K,x,VE,B=>match x with
  |.normal=>.c c K VE B
  |x=>vK K x VE B
 |.l J::K,x,VE,B=>match x with
  |.normal=>.x .normal (.l J::K) VE B
  |x=>vK K x VE B
theorem tb:∀{K:List Fr}{x:Ex}{VE:bo}{B:aT},(vK K x VE B).P T R→RK T R K x VE B
 |[],_,_,_,h=>h
 |.b id::K,x,VE,B,h=>tb (K:=K) (x:=JZ id x) h
 |.c c::K,x,VE,B,h=>by
  cases x with
  |normal=>exact h
  |ret=>exact tb (K:=K) (x:=.ret) h
  |exit i=>exact tb (K:=K) (x:=.exit i) h
 |.l J::K,x,VE,B,h=>by
  cases x with
  |normal=>exact h
  |ret=>exact tb (K:=K) (x:=.ret) h
  |exit i=>exact tb (K:=K) (x:=.exit i) h
def LR{β:Type}(B:aT)(k:aT→Option β):Option β:=match B with
 |[]=>k []
 |(b,s)::r=>LQ s fun s=>k ((b,s)::r)
theorem forceH_eq{β:Type}(B:aT)(k:aT→Option β):LR B k=k B:=by
 cases B with
 |nil=>rfl
 |cons p r=>obtain⟨b,s⟩:=p;simp only[LR,ZB]
def TR(op:bl)(VE:bo)(B:aT):Option (bo×aT):=match op with
 |⟨d,g,_,i⟩=>match g with
  |none=>match d with
   |some d=>match gO VE B d.n i with
    |some (v,B',_)=>GF v fun v=>LR B' fun B'=>some ((d.n,v)::VE,B')
    |none=>none
   |none=>match gO VE B 0 i with
    |some (_,B',_)=>LR B' fun B'=>some (VE,B')
    |none=>none
  |some (g,want)=>match d with
   |some d=>match aL VE g.n with
    |some (.d (.b t))=>match t with
     |true=>match want with
      |true=>match gO VE B d.n i with
       |some (v,B',_)=>some ((d.n,v)::VE,B')
       |none=>none
      |false=>some ((d.n,.k .undef)::VE,B)
     |false=>match want with
      |false=>match gO VE B d.n i with
       |some (v,B',_)=>some ((d.n,v)::VE,B')
       |none=>none
      |true=>some ((d.n,.k .undef)::VE,B)
    |_=>none
   |none=>none
def RN(d g:Key)(want:Bool)(q:Option (List Nat))(i:bn)(VE:bo)(B:aT)(fl:List FL):Option (bo×aT×List FL):=match aL VE g.n with
 |some (.d (.b t))=>match(match t with|true=>want|false=>!want) with
  |true=>match gO VE B d.n i with
   |some (v,B',W)=>match q with
    |none=>some ((d.n,v)::VE,B',fl)
    |some l=>gd (l8 W l fl) (some ((d.n,v)::VE,B',tZ W::fl))
   |none=>none
  |false=>match q with
   |none=>some ((d.n,.k .undef)::VE,B,fl)
   |some _=>some ((d.n,.k .undef)::VE,B,.rd []::fl)
 |_=>none
theorem abi{ops:List bl}{fl:List FL}{Q:bo→aT→Prop}(z:∀k v,aL bF k=some v→aL VE k=some v)(h:VQ T ops bF B fl Q):VQ T ops VE B fl Q:=fun H0 X0 E H β A bc G=>h H0 X0 E H β (A.less z) bc G
theorem dw{d:Option Key}{g:Key}{w t:Bool}{qq:Option (List Nat)}{op:bn}{p q:Prop}{ops:List bl}{fl:List FL}{Q:bo→aT→Prop}(z:aL VE g.n=some (.d (.b t)))(A:p→VQ T (⟨d,some (g,w),qq,op⟩::ops) ((g.n,.d (.b true))::VE) B fl Q)(h2:q→VQ T (⟨d,some (g,w),qq,op⟩::ops) ((g.n,.d (.b false))::VE) B fl Q)(G:(t=true)=p:=by first|(simp only[eK,ij,gZ,oz,fQ];first|done|rfl)|rfl)(I:(t=false)=q:=by first|(simp only[eK,ij,gZ,oz,fQ];first|done|rfl)|rfl):VQ T (⟨d,some (g,w),qq,op⟩::ops) VE B fl Q:=by
 cases t with
 |true=>exact abi (Cu z) (A (Eq.mp G rfl))
 |false=>exact abi (Cu z) (h2 (Eq.mp I rfl))
theorem exec1Q_ok{d g:Key}{want:Bool}{q:Option (List Nat)}{i:bn}{fl kH:List FL}{r:List bl}{Q:bo→aT→Prop}(h:RN d g want q i VE B fl=some (bF,B',kH))(k:VQ T r bF B' kH Q):VQ T (⟨some d,some (g,want),q,i⟩::r) VE B fl Q:=by
 simp only[RN] at h
 split at h
 ·rename_i t z
  cases t<;>cases want<;>simp only[Bool.not_true,Bool.not_false] at h
  all_goals first
   |(split at h
     ·rename_i e
      cases q with
      |none=>cases h;exact ca z rfl (lX e k)
      |some l=>
       simp only[gd] at h
       cases A:l8 _ l fl with
       |true=>rw[A] at h;cases h;exact eL z rfl A (lX e k)
       |false=>rw[A] at h;cases h
     cases h)
   |(cases q with
     |none=>cases h;exact nG z rfl k
     |some l=>cases h;exact Fy z rfl k)
 cases h
def HX:k'→Option k'
 |.c c K VE B=>match c with
  |.seq a b=>some (.c a (.c b::K) VE B)
  |.region d l=>match d with
   |true=>some (.q l [] K VE B)
   |false=>some (.o l K VE B)
  |.skip=>some (vK K .normal VE B)
  |.block id c=>some (.c c (.b id::K) VE B)
  |.exit id=>some (vK K (.exit id) VE B)
  |.ret=>some (vK K .ret VE B)
  |_=>none
 |.o l K VE B=>match l with
  |[]=>some (vK K .normal VE B)
  |op::r=>match TR op VE B with
   |some (bF,B')=>some (.o r K bF B')
   |none=>none
 |.q l fl K VE B=>match l with
  |[]=>some (vK K .normal VE B)
  |⟨d,g,q,i⟩::r=>match g with
   |none=>match vl 1 (⟨d,none,q,i⟩::r) VE B fl with
    |some (bF,B',kH,r')=>some (.q r' kH K bF B')
    |none=>none
   |some (g,want)=>match d with
    |some d=>match RN d g want q i VE B fl with
     |some (bF,B',kH)=>some (.q r kH K bF B')
     |none=>none
    |none=>none
 |.x _ _ _ _=>none
theorem exec1_ok{op:bl}{r:List bl}{Q:bo→aT→Prop}(h:TR op VE B=some (bF,B'))(k:VO T r bF B' Q):VO T (op::r) VE B Q:=by
 obtain⟨d,g,q,i⟩:=op;simp only[TR,PZ,forceH_eq] at h
 split at h
 ·split at h
  ·split at h
   ·rename_i e;cases h;exact ax (lX e k)
   cases h
  split at h
  ·rename_i e;cases h;exact jV (lX e k)
  cases h
 split at h
 ·split at h
  ·rename_i z
   split at h
   ·split at h
    ·split at h
     ·rename_i e;cases h;exact bJ z rfl (lX e k)
     cases h
    cases h;exact zK z rfl k
   split at h
   ·split at h
    ·rename_i e;cases h;exact bJ z rfl (lX e k)
    cases h
   cases h;exact zK z rfl k
  cases h
 cases h
theorem aap{S S':k'}(h:HX S=some S')(k:S'.P T R):S.P T R:=by
 cases S with
 |c c K VE B=>
  cases c with
  |seq a b=>
   cases h
   exact jW (R:=RK T R K) (VC.mono (show VC T a VE B (RK T R (.c b::K)) from k) fun x VE B I=>by cases x<;>exact I)
  |region d l=>
   cases d with
   |true=>cases h;exact F6 (R:=RK T R K) (show VQ T l VE B [] _ from k)
   |false=>cases h;exact uF (R:=RK T R K) (show VO T l VE B _ from k)
  |skip=>cases h;exact uO (R:=RK T R K) (tb k)
  |block id c=>cases h;exact zA (R:=RK T R K) (show VC T c VE B (RK T R (.b id::K)) from k)
  |exit id=>cases h;exact F7 (R:=RK T R K) (tb k)
  |ret=>cases h;exact GA (R:=RK T R K) (tb k)
  |cond _ _ _=>cases h
  |loop _=>cases h
 |o l K VE B=>
  cases l with
  |nil=>cases h;exact Ab (Q:=fun VE B=>RK T R K .normal VE B) (tb k)
  |cons op r=>
   simp only[HX] at h
   split at h
   ·rename_i z G e;cases h;exact exec1_ok (Q:=fun VE B=>RK T R K .normal VE B) e (show VO T r z G _ from k)
   cases h
 |q l fl K VE B=>
  cases l with
  |nil=>cases h;exact RH (Q:=fun VE B=>RK T R K .normal VE B) (tb k)
  |cons op r=>
   obtain⟨d,g,q,i⟩:=op;simp only[HX] at h
   cases g with
   |none=>
    simp only at h
    split at h
    ·rename_i z G A L e;cases h;exact ua (Q:=fun VE B=>RK T R K .normal VE B) 1 e (show VQ T L z G A _ from k)
    cases h
   |some p=>
    obtain⟨g,want⟩:=p
    cases d with
    |none=>cases h
    |some d=>
     simp only at h
     split at h
     ·rename_i z G A e;cases h;exact exec1Q_ok (Q:=fun VE B=>RK T R K .normal VE B) e (show VQ T r z G A _ from k)
     cases h
 |x x K VE B=>cases h
def kC:Nat→k'→Option k'
 |0,S=>some S
 |n+1,S=>match HX S with
  |some S'=>kC n S'
  |none=>none
theorem p7:∀{n:Nat}{S S':k'},kC n S=some S'→S'.P T R→S.P T R
 |0,S,S',h,k=>by cases h;exact k
 |n+1,S,S',h,k=>by
  simp only[kC] at h
  split at h
  ·rename_i z e;exact aap e (p7 h k)
  cases h
section
variable(n:Nat){c:IC}{K:List Fr}{l:List bl}{fl:List FL}{S S':k'}
theorem r0(h:kC n (.c c [] VE B)=some S')(k:S'.P T R):VC T c VE B R:=p7 (S:=.c c [] VE B) h k
theorem rc(h:kC n (.c c K VE B)=some S')(k:S'.P T R):VC T c VE B (RK T R K):=p7 (S:=.c c K VE B) h k
theorem ro(h:kC n (.o l K VE B)=some S')(k:S'.P T R):VO T l VE B fun VE B=>RK T R K .normal VE B:=p7 (S:=.o l K VE B) h k
theorem rq(h:kC n (.q l fl K VE B)=some S')(k:S'.P T R):VQ T l VE B fl fun VE B=>RK T R K .normal VE B:=p7 (S:=.q l fl K VE B) h k
theorem rp(h:kC n S=some S')(k:S'.P T R):S.P T R:=p7 h k
variable{x:Ex}{J:bo→aT→Prop}{K':List Fr}
theorem r0x(h:kC n (.c c [] VE B)=some (.x x [] bF B'))(k:R x bF B'):VC T c VE B R:=p7 (S:=.c c [] VE B) h k
theorem dO(h:kC n (.c c K VE B)=some (.x x [] bF B'))(k:R x bF B'):VC T c VE B (RK T R K):=p7 (S:=.c c K VE B) h k
theorem et(h:kC n (.o l K VE B)=some (.x x [] bF B'))(k:R x bF B'):VO T l VE B fun VE B=>RK T R K .normal VE B:=p7 (S:=.o l K VE B) h k
theorem rpx(h:kC n S=some (.x x [] bF B'))(k:R x bF B'):S.P T R:=p7 h k
theorem rcl(h:kC n (.c c K VE B)=some (.x .normal (.l J::K') bF B'))(k:J bF B'):VC T c VE B (RK T R K):=p7 (S:=.c c K VE B) h k
theorem cW(h:kC n (.o l K VE B)=some (.x .normal (.l J::K') bF B'))(k:J bF B'):VO T l VE B fun VE B=>RK T R K .normal VE B:=p7 (S:=.o l K VE B) h k
theorem vc_loopR(I:Nat→bo→aT→Prop)(z:∀k VE B,I k VE B→VC T c VE B (RK T R (.l (fun VE B=>∃j,j<k∧I j VE B)::K))){k:Nat}(h0:I k VE B):VC T (.loop c) VE B (RK T R K):=QK I (fun k VE B h=>(z k VE B h).mono fun x bF B' A=>by cases x<;>exact A) h0
theorem bd(ks bs:List Nat)(A:B3 ks VE []=some oE)(h2:B4 bs B []=some Bb)(I:bo→aT→Nat→bo→aT→Prop)(z:∀k VE B,I oE Bb k VE B→VC T c VE B (RK T R (.l (fun VE B=>∃j,j<k∧I oE Bb j VE B)::K))){k:Nat}(h0:I oE Bb k VE B):VC T (.loop c) VE B (RK T R K):=vc_loopR (I oE Bb) z h0
theorem vc_joinR{a b:IC}(J:bo→aT→Prop)(A:VC T a VE B (RK T R (.l J::K)))(h2:∀bF B',J bF B'→VC T b bF B' (RK T R K)):VC T (.seq a b) VE B (RK T R K):=jW (A.mono fun x VE B z=>by cases x<;>first|exact h2 _ _ z|exact z)
theorem dE(ks bs:List Nat){a b:IC}(G:B3 ks VE []=some oE)(h2:B4 bs B []=some Bb)(J:bo→aT→bo→aT→Prop)(z:VC T a VE B (RK T R (.l (J oE Bb)::K)))(A:∀bF B',J oE Bb bF B'→VC T b bF B' (RK T R K)):VC T (.seq a b) VE B (RK T R K):=vc_joinR (J oE Bb) z A
end
@[reducible] def dP(k:Nat)(lo v n:Int):Prop:=k=(n-v).toNat∧(lo≤v∧(v≤n∨v=lo))
variable{T:aN}{VE bF:bo}{B B':aT}{R:Ex→bo→aT→Prop}
def plainS:k'→Bool
 |.o (op::_) _ _ _=>Lb op
 |.q (op::_) _ _ _ _=>Lb op
 |_=>true
def Bl:Nat→k'→Option k'
 |0,S=>some S
 |n+1,S=>match plainS S with
  |true=>match HX S with
   |some S'=>Bl n S'
   |none=>none
  |false=>none
theorem Ga:∀{n:Nat}{S S':k'},Bl n S=some S'→S'.P T R→S.P T R
 |0,S,S',h,k=>by cases h;exact k
 |n+1,S,S',h,k=>by
  simp only[Bl] at h
  split at h
  ·split at h
   ·rename_i z e;exact aap e (Ga h k)
   cases h
  cases h
section
variable(n:Nat){c:IC}{K:List Fr}{l:List bl}{fl:List FL}{S S':k'}{x:Ex}{J:bo→aT→Prop}{K':List Fr}
theorem wc(h:Bl n (.c c K VE B)=some S')(k:S'.P T R):VC T c VE B (RK T R K):=Ga (S:=.c c K VE B) h k
theorem wo(h:Bl n (.o l K VE B)=some S')(k:S'.P T R):VO T l VE B fun VE B=>RK T R K .normal VE B:=Ga (S:=.o l K VE B) h k
theorem wq(h:Bl n (.q l fl K VE B)=some S')(k:S'.P T R):VQ T l VE B fl fun VE B=>RK T R K .normal VE B:=Ga (S:=.q l fl K VE B) h k
theorem wp(h:Bl n S=some S')(k:S'.P T R):S.P T R:=Ga h k
theorem wpx(k:R x VE B):(k'.x x [] VE B).P T R:=k
theorem wpl(k:J VE B):(k'.x .normal (.l J::K) VE B).P T R:=k
end
variable{T:aN}{VE bF:bo}{B B':aT}{R:Ex→bo→aT→Prop}
def afN(VE:bo)(l:List aH):Option (List VV):=match qn VE l with
 |some a=>bif yz a then some a else none
 |none=>none
theorem ay{Q:VV→aT→Prop}{f:Nat}{l:List aH}{args:List VV}{P:VV→Prop}(h0:afN VE l=some args)(h:Sound T f args P)(A:∀r,r.nb→P r→Q r B):VI T (.call f l) VE B [] Q:=by
 unfold afN at h0
 split at h0
 ·rename_i a e
  cases z:yz a with
  |false=>rw[z] at h0;cases h0
  |true=>rw[z] at h0;cases h0;exact QL e (xh z) h A
 cases h0
section
variable(n:Nat){c:IC}{K K':List Fr}{l r:List bl}{fl kH:List FL}{S:k'}{d:Key}{qq:Option (List Nat)}{op:bn}{W:List Nat}
theorem bY(h:kC n (.c c [] VE B)=some (.o (⟨some d,none,qq,op⟩::r) K' bF B'))(k:VI T op bF B' W fun v z=>VO T r ((d.n,v)::bF) z fun VE B=>RK T R K' .normal VE B):VC T c VE B R:=r0 n h (ax k)
theorem aB(h:kC n (.c c K VE B)=some (.o (⟨some d,none,qq,op⟩::r) K' bF B'))(k:VI T op bF B' W fun v z=>VO T r ((d.n,v)::bF) z fun VE B=>RK T R K' .normal VE B):VC T c VE B (RK T R K):=rc n h (ax k)
theorem aK(h:kC n (.o l K VE B)=some (.o (⟨some d,none,qq,op⟩::r) K' bF B'))(k:VI T op bF B' W fun v z=>VO T r ((d.n,v)::bF) z fun VE B=>RK T R K' .normal VE B):VO T l VE B fun VE B=>RK T R K .normal VE B:=ro n h (ax k)
theorem gz(h:kC n S=some (.o (⟨some d,none,qq,op⟩::r) K' bF B'))(k:VI T op bF B' W fun v z=>VO T r ((d.n,v)::bF) z fun VE B=>RK T R K' .normal VE B):S.P T R:=rp n h (ax k)
theorem cZ(h:kC n (.q l fl K VE B)=some (.q (⟨some d,none,none,op⟩::r) kH K' bF B'))(k:VI T op bF B' W fun v z=>VQ T r ((d.n,v)::bF) z kH fun VE B=>RK T R K' .normal VE B):VQ T l VE B fl fun VE B=>RK T R K .normal VE B:=rq n h (aR k)
end
end Go.Ev
namespace Go.Ev.Rp
theorem fin{p:Prop}(h:p:=by(repeat' (first|rfl|assumption|exact ae|exact trivial|exact dH ae ae|exact dY|exact gp|exact bX|exact Ek|exact bE (s:=[]) (gT _)|exact bT|exact bg|apply aj|apply dC|apply dr|apply cA|exact .inl rfl|exact .inr ⟨rfl,rfl⟩|exact .acc _|apply aM|apply bE|apply And.intro|exact fun _=>rfl|(intro h;rw[h];rfl)|(intro h;simp at h;done)|(intro h;(try simp only[eK,gZ,ij,cS,m6] at h);first|omega|(simp_all;done)|(simp_all;omega))|apply Exists.intro));all_goals(first|rfl|exact ae|assumption)):p:=h
theorem Em{a b:Prop}(h:b)(k:a):a∧b:=⟨k,h⟩
theorem I1{rs:List jI}{VE:bo}{B:aT}{P:VV→aT→Prop}{vs:List VV}{z:aT}(A:vk VE B rs=some vs:=by rfl)(G:P (rY vs) z:=by(repeat' (first|rfl|assumption|exact ae|exact trivial|exact dH ae ae|exact dY|exact gp|exact bX|exact Ek|exact bE (s:=[]) (gT _)|exact bT|exact bg|apply aj|apply dC|apply dr|apply cA|exact .inl rfl|exact .inr ⟨rfl,rfl⟩|exact .acc _|apply aM|apply bE|apply And.intro|exact fun _=>rfl|(intro h;rw[h];rfl)|(intro h;simp at h;done)|(intro h;(try simp only[eK,gZ,ij,cS,m6] at h);first|omega|(simp_all;done)|(simp_all;omega))|apply Exists.intro));all_goals(first|rfl|exact ae|assumption))(h2:an z B:=by(repeat' (first|rfl|assumption|exact ae|exact trivial|exact dH ae ae|exact dY|exact gp|exact bX|exact Ek|exact bE (s:=[]) (gT _)|exact bT|exact bg|apply aj|apply dC|apply dr|apply cA|exact .inl rfl|exact .inr ⟨rfl,rfl⟩|exact .acc _|apply aM|apply bE|apply And.intro|exact fun _=>rfl|(intro h;rw[h];rfl)|(intro h;simp at h;done)|(intro h;(try simp only[eK,gZ,ij,cS,m6] at h);first|omega|(simp_all;done)|(simp_all;omega))|apply Exists.intro));all_goals(first|rfl|exact ae|assumption)):aim rs P .ret VE B:=⟨vs,z,A,h2,G⟩
def J2:List Ty→(List DC→Prop)→Prop
 |[],P=>P []
 |t::z,P=>∃d,t.ok d∧J2 z fun r=>P (d::r)
theorem LS:∀{row:List Ty}{P:List DC→Prop}{r:List DC},fC row r→P r→J2 row P
 |[],P,r,h,k=>by obtain rfl:=oZ h;exact k
 |t::A,P,r,h,k=>by obtain⟨d,r,rfl,z,h2⟩:=eM h;exact⟨d,z,LS h2 k⟩
theorem qI{row:List Ty}{rows:ak}(z:Int)(h:af row rows)(A:z.toNat<rows.length:=by exact ae):J2 row fun r=>rows[z.toNat]?=some r:=LS (mN h (c7 A)) (c7 A)
theorem qN{row:List Ty}{rows:ak}{j n:Nat}(k:j<n)(h:af row rows)(z:j<n→j<rows.length:=by intro k;simpa using k):J2 row fun r=>rows[j]?=some r:=LS (mN h (c7 (z k))) (c7 (z k))
theorem qO{row:List Ty}{l:List DC}(h:fC row l):J2 row fun r=>l=r:=LS h rfl
attribute [local irreducible] VC VO VQ VI Sound cm
theorem W{p:Prop}(h:p:=by repeat' (first|refine wp 6 rfl ?_|refine wp 2 rfl ?_|refine wp 1 rfl ?_|(refine wpx ?_;first|exact bI rfl rfl fin|exact I1|exact fin)|(refine wpl ?_;first|exact⟨_,Em fin ae⟩|exact fin)|refine wo 1 rfl ?_|refine wc 1 rfl ?_|refine wq 1 rfl ?_|refine Ab ?_|refine TP 8 rfl rfl ?_|refine TP 3 rfl rfl ?_|refine TP 1 rfl rfl ?_|refine iF ?_|refine RH ?_|refine TQ 8 rfl rfl ?_|refine TQ 3 rfl rfl ?_|refine TQ 1 rfl rfl ?_|refine afC ?_|refine F6 ?_|(refine GA ?_;exact bI rfl rfl fin)|(refine GA ?_;exact I1)|refine eG rfl (by first|with_reducible rfl|assumption) ?_|refine eo rfl (by first|with_reducible rfl|assumption) ?_|(refine au rfl (fun h=>?_) (fun h=>?_)<;>(try(have h:(_:Bool)=_:=h;subst h)))|refine uO ?_|refine F7 ?_|refine zA ?_|refine uF ?_|refine jW ?_|refine iZ rfl ?_|refine bJ rfl (by first|with_reducible rfl|assumption) (lX (d:=0) rfl ?_)|refine bJ (W:=[]) rfl (by first|with_reducible rfl|assumption) ?_|refine zK rfl (by first|with_reducible exact Bool.not_true.symm|with_reducible exact Bool.not_false.symm|assumption) ?_|(refine bm rfl (fun h=>?_) (fun h=>?_)<;>(try(have h:(_:Bool)=_:=h;subst h)))|refine ax (W:=[]) ?_|refine Zp rfl (by assumption) rfl ?_|refine PU rfl (by assumption) rfl ?_|refine lX (d:=0) rfl ?_|refine bC rfl rfl ae ae ?_|refine dq rfl rfl ae ae ?_|refine aO rfl (by first|assumption|exact .inl rfl) ?_|(refine vi_idxW rfl rfl (by first|assumption|exact .inl rfl) (by assumption) rfl ae ae ?_;repeat intro _)|(refine bG (j:=0) rfl rfl (aS rfl) ?_)|refine c6 rfl rfl rfl ae ae ?_|refine zI rfl rfl ?_|refine zI (b:=[]) rfl rfl ?_|refine oM rfl rfl ?_|refine oM (b:=[]) rfl rfl ?_|refine wY rfl rfl rfl rfl ae ae ae ao ?_|refine fr rfl ao ae ae ?_|refine K8 rfl rfl ao (fun _=>?_)|refine ta rfl rfl (fun _ _=>?_)|refine pZ rfl rfl (fun _ _=>?_)|refine zP rfl rfl (fun _ _=>?_)|refine vi_nilSl rfl rfl ?_|refine vi_nilNil rfl rfl ?_|(exfalso;first|omega|((try simp only[eK,ij,gZ,oz] at*);first|omega|(simp_all;done)))|exact⟨_,Em fin ae⟩|exact fin|refine aR (W:=[]) ?_|(rename (Ty.ok Ty.b _)=>z;obtain⟨_,e⟩:=Ty.dY z;subst e;clear z)|(rename (Ty.ok (Ty.i _ _ _) _)=>z;obtain⟨_,e,_,_⟩:=Ty.dH z;first|(subst e;clear z)|clear z)|(rename (Ty.ok (Ty.s _) _)=>z;obtain⟨_,e,_⟩:=Ty.bE z;first|(subst e;clear z)|clear z)|(rename (Ty.ok (Ty.l _ _) _)=>z;obtain⟨_,_,_,_⟩:=Ty.aM z;clear z))):p:=h
end Go.Ev.Rp
namespace Go.Ev.Rp
open Go Go.Ev.Pp
attribute [local irreducible] VC VO VQ VI Sound cm
theorem aiI{T:aN}(F:FT T){aE:Int}(A:(-9223372036854775808)≤aE)(G:aE≤9223372036854775807):Sound T 208 [.d (dJ aE)] fun r=>∃z,r=dB z∧(z=true↔False):=by
 exact bj F.q208 aa (r0x 12 aa (bI aa aa ⟨(!decide (aE=aE)),aa,bB⟩))
theorem cmpP{T:aN}(F:FT T){aE:Int}(Y:(-9223372036854775808)≤aE)(Z:aE≤9223372036854775807){aJ:Int}(kJ:(-9223372036854775808)≤aJ)(kK:aJ≤9223372036854775807):Sound T 117 [.d (dJ aE),.d (dJ aJ)] fun r=>∃G,r= .d (dJ G)∧((-1)≤G∧G≤1∧((G<0↔aE<aJ)∧(G=0↔aE=aJ))):=by
 refine bj F.q117 aa (bY 7 aa (ay aa (aiI (aE:=aE) F ae ae) ?_));rintro _ _⟨I,rfl,A⟩;refine aK 5 aa (ay aa (aiI (aE:=aJ) F ae ae) ?_);rintro _ _⟨L,rfl,z⟩;refine ro 7 aa ?_;refine cH aa ?_ ?_<;>intro M
 ·have k3:=A.1 (by simpa using M);refine rc 5 aa ?_;refine cH aa ?_ ?_<;>intro O
  ·have k4:=z.1 (by simpa using O);exact W
  have k4:¬_:=fun p=>absurd (z.2 p) (by simpa using O)
  exact W
 have k3:¬_:=fun p=>absurd (A.2 p) (by simpa using M)
 refine rc 6 aa ?_;refine cH aa ?_ ?_<;>intro U
 ·have k5:=z.1 (by simpa using U);exact W
 have k5:¬_:=fun p=>absurd (z.2 p) (by simpa using U)
 exact W
end Go.Ev.Rp
namespace Go.Ev.Rp
open Go Go.Ev.Pp
attribute [local irreducible] VC VO VQ VI Sound cm
theorem len64P{T:aN}(F:FT T){aE:Int}(L:0≤aE)(M:aE≤20):Sound T 317 [.d (.i .u64 aE)] fun r=>∃I,r= .d I∧tJ.ok I:=by
 refine bj F.q317 aa (r0 10 aa ?_);refine au aa ?_ ?_<;>intro Z
 ·exfalso;first|assumption|omega|(simp_all;done)
 refine rc 7 aa ?_;refine au aa ?_ ?_<;>intro g2
 ·exfalso;first|assumption|omega|(simp_all;done)
 refine rc 7 aa ?_;refine au aa ?_ ?_<;>intro g3
 ·exfalso;first|assumption|omega|(simp_all;done)
 refine aB 5 aa (fr aa ao ae ae ?_);obtain⟨j4,A,G⟩:=bz (z:=aE) (n:=256) ae ae;refine ax (vi_idxK rfl (by rw[←A];rfl) G (fun c4 O U=>?_));refine ax (fr aa ao ae ae ?_);refine ax (ta aa aa (fun z5 Y=>?_));exact et 3 aa (bI aa aa fin)
theorem aiJ{T:aN}(F:FT T){aE:Int}(I:0≤aE)(L:aE≤20):Sound T 207 [.d (.i .u64 aE)] fun r=>∃A,r= .d A∧tJ.ok A:=by
 refine bj F.q207 aa (r0 5 aa (vc_condC (aB 4 aa (ay aa (len64P (aE:=aE) F ae ae) ?_))));rintro _ _⟨G,rfl,z⟩;exact W
end Go.Ev.Rp
namespace Go.Ev
open Go
@[reducible] def pW(a b:Int):List DC:=[.i .i64 a,.i .i64 b]
theorem iD{a b c d:Int}(h:pW a b=pW c d):a=c∧b=d:=by
 simp only[pW,xC,DC.i.injEq,true_and,and_true] at h;exact h
def eQ(w:ak)(t:Int):Prop:=∃a b,pW a b∈w∧a≤t∧t<b
def ny(w:ak)(x:Int):Prop:=∀a b,pW a b∈w→b<x
def eJ(w:ak):Prop:=(∀r,r∈w→∃a b,r=pW a b∧a<b)∧w.Pairwise fun r s=>∀a b c d,r=pW a b→s=pW c d→b<c
theorem oP{t:Int}:¬eQ [] t:=fun⟨_,_,h,_⟩=>by cases h
theorem wN:eJ []:=⟨fun _ h=>(by cases h),.nil⟩
theorem Gb{x:Int}:ny [] x:=fun _ _ h=>by cases h
theorem mS{w:ak}{c d t:Int}:eQ (w++[pW c d]) t↔eQ w t∨(c≤t∧t<d):=by
 constructor
 ·rintro⟨a,b,h,z,h2⟩;rcases List.mem_append.1 h with h|h
  ·exact .inl ⟨a,b,h,z,h2⟩
  obtain⟨rfl,rfl⟩:=iD (List.mem_singleton.1 h);exact .inr ⟨z,h2⟩
 rintro(⟨a,b,h,z,h2⟩|⟨z,h2⟩)
 ·exact⟨a,b,List.mem_append.2 (.inl h),z,h2⟩
 exact⟨c,d,List.mem_append.2 (.inr (List.mem_singleton.2 aa)),z,h2⟩
theorem l5{w:ak}{c d t:Int}:eQ (pW c d::w) t↔(c≤t∧t<d)∨eQ w t:=by
 constructor
 ·rintro⟨a,b,h,z,h2⟩;rcases List.mem_cons.1 h with h|h
  ·obtain⟨rfl,rfl⟩:=iD h;exact .inl ⟨z,h2⟩
  exact .inr ⟨a,b,h,z,h2⟩
 rintro(⟨z,h2⟩|⟨a,b,h,z,h2⟩)
 ·exact⟨c,d,gu ..,z,h2⟩
 exact⟨a,b,m5 _ h,z,h2⟩
theorem ny.app{w:ak}{c d x:Int}(h:ny w x)(z:d<x):ny (w++[pW c d]) x:=fun a b k=>by
 rcases List.mem_append.1 k with k|k
 ·exact h a b k
 obtain⟨rfl,rfl⟩:=iD (List.mem_singleton.1 k);exact z
theorem ny.mono{w:ak}{x y:Int}(h:ny w x)(k:x≤y):ny w y:=fun a b m=>Int.lt_of_lt_of_le (h a b m) k
theorem eJ.app{w:ak}{c d:Int}(h:eJ w)(G:ny w c)(A:c<d):eJ (w++[pW c d]):=by
 refine⟨fun r z=>?_,List.pairwise_append.2 ⟨h.2,List.pairwise_singleton ..,fun r z s I a b e f L h2=>?_⟩⟩
 ·rcases List.mem_append.1 z with z|z
  ·exact h.1 r z
  exact⟨c,d,List.mem_singleton.1 z,A⟩
 subst L;obtain rfl:=List.mem_singleton.1 I;obtain⟨rfl, -⟩:=iD h2;exact G a b z
theorem eJ.tail{r:List DC}{w:ak}(h:eJ (r::w)):eJ w:=⟨fun s z=>h.1 s (m5 _ z),(List.pairwise_cons.1 h.2).2⟩
theorem eJ.head{a b:Int}{w:ak}(h:eJ (pW a b::w)):a<b∧∀t,eQ w t→b<t:=by
 refine⟨?_,fun t⟨c,d,m,z,h2⟩=>?_⟩
 ·obtain⟨c,d,e,k⟩:=h.1 _ (gu ..);obtain⟨rfl,rfl⟩:=iD e;exact k
 have:=(List.pairwise_cons.1 h.2).1 _ m a b c d rfl rfl;omega
theorem aaq:∀{w v:ak},eJ w→eJ v→(∀t,eQ w t↔eQ v t)→w=v
 |[],[],_,_,_=>rfl
 |[],s::v,_,A,h=>by
  obtain⟨a,b,rfl,k⟩:=A.1 s (gu ..);exact(oP ((h a).2 (l5.2 (.inl ⟨mb _,k⟩)))).elim
 |r::w,[],G,_,h=>by
  obtain⟨a,b,rfl,k⟩:=G.1 r (gu ..);exact(oP ((h a).1 (l5.2 (.inl ⟨mb _,k⟩)))).elim
 |r::w,s::v,G,A,h=>by
  obtain⟨a,b,rfl,I⟩:=G.1 r (gu ..);obtain⟨c,d,rfl,z⟩:=A.1 s (gu ..);have L:=G.head.2;have M:=A.head.2;have O:a=c:=by
   rcases l5.1 ((h a).1 (l5.2 (.inl ⟨mb _,I⟩))) with p|p
   ·rcases l5.1 ((h c).2 (l5.2 (.inl ⟨mb _,z⟩))) with q|q
    ·omega
    have:=L _ q;omega
   have Y:=M _ p;rcases l5.1 ((h c).2 (l5.2 (.inl ⟨mb _,z⟩))) with q|q
   ·omega
   have:=L _ q;omega
  subst O;have U:b=d:=by
   rcases Int.lt_trichotomy b d with e|e|e
   ·rcases l5.1 ((h b).2 (l5.2 (.inl ⟨aft I,e⟩))) with q|q
    ·omega
    have:=L _ q;omega
   ·exact e
   rcases l5.1 ((h d).1 (l5.2 (.inl ⟨aft z,e⟩))) with q|q
   ·omega
   have:=M _ q;omega
  subst U;rw[aaq G.tail A.tail fun t=>⟨fun p=>?_,fun p=>?_⟩]
  ·have:=L _ p;rcases l5.1 ((h t).1 (l5.2 (.inr p))) with q|q
   ·omega
   exact q
  have:=M _ p;rcases l5.1 ((h t).2 (l5.2 (.inr p))) with q|q
  ·omega
  exact q
def Kq(w:ak)(q:Nat):Int:=match w[q]?with
 |some r=>gh r
 |none=>0
theorem ts{w:ak}{q:Nat}{r:List DC}(h:w[q]?=some r):Kq w q=gh r:=by unfold Kq;rw[h]
def gH(v w:ak):Prop:=∀r,r∈v↔r∈w
theorem gH.refl{w:ak}:gH w w:=fun _=>gS
theorem gH.trans{u v w:ak}(h:gH u v)(k:gH v w):gH u w:=fun r=>(h r).trans (k r)
def og(w:ak)(i:Int):Prop:=∀p q:Nat,p<q→(q:Int)<i→Kq w p≤Kq w q
def po(w:ak)(i j:Int):Prop:=(∀p q:Nat,p<q→(q:Int)≤i→(p:Int)≠j→(q:Int)≠j→Kq w p≤Kq w q)∧∀q:Nat,j<(q:Int)→(q:Int)≤i→Kq w j.toNat≤Kq w q
theorem adm{w:ak}:og w 1:=fun p q h k=>by omega
theorem og.mono{w:ak}{i j:Int}(h:og w i)(k:j≤i):og w j:=fun p q a b=>h p q a ah
theorem adn{w:ak}{i:Int}(h:og w i):po w i i:=⟨fun p q z A _ k=>h p q z ah,fun q G h2=>by omega⟩
theorem po.fin{w:ak}{i j:Int}(h:po w i j)(h0:0≤j)(z:0<j→Kq w (j-1).toNat≤Kq w j.toNat):og w (i+1):=fun p q A L=>by
 by_cases G:(p:Int)=j
 ·have:=h.2 q ah ah;rwa [show j.toNat=p by omega] at this
 by_cases I:(q:Int)=j
 ·have k:=z ah;rw[show j.toNat=q by omega] at k
  by_cases M:p=q-1
  ·rwa [show(j-1).toNat=p by omega] at k
  have:=h.1 p (q-1) ah ah ah ah;rw[show(j-1).toNat=q-1 by omega] at k;omega
 exact h.1 p q A ah G I
theorem ado{w:ak}{j q:Nat}{r:List DC}(z:j<w.length):Kq (w.set j r) q=if q=j then gh r else Kq w q:=by
 unfold Kq
 by_cases e:q=j
 ·subst e;rw[bh rfl,Hw z]
 rw[aZ e,Mn (fun h=>e h.symm)]
theorem swap_mem{w:ak}{a b:Nat}{r s:List DC}(z:w[a]?=some r)(h2:w[b]?=some s)(A:a≠b):gH ((w.set a s).set b r) w:=by
 have M:=(List.getElem?_eq_some_iff.1 z).1;have O:=(List.getElem?_eq_some_iff.1 h2).1;have G:b<(w.set a s).length:=by rw[kN];exact O
 intro x;constructor
 ·intro m;rcases Tk m with m|rfl
  ·rcases Tk m with m|rfl
   ·exact m
   exact hZ h2
  exact hZ z
 intro m;obtain⟨q,U,rfl⟩:=List.mem_iff_getElem.1 m
 by_cases I:q=a
 ·subst I;rw[(List.getElem?_eq_some_iff.1 z).2];exact hZ (Hw G)
 by_cases L:q=b
 ·subst L;rw[(List.getElem?_eq_some_iff.1 h2).2];exact hZ (i:=a) (by rw[Mn (fun h=>A h.symm),Hw M])
 exact hZ (i:=q) (by rw[Mn (fun h=>L h.symm),Mn (fun h=>I h.symm),c7 U])
theorem po.swap{w:ak}{i v:Int}{a b:Nat}{r s:List DC}(h:po w i v)(Z:v=(a:Int))(hb:v-1=(b:Int))(z:w[a]?=some r)(h2:w[b]?=some s)(hi:v≤i)(M:Kq w a<Kq w b):po ((w.set a s).set b r) i (v-1)∧gH ((w.set a s).set b r) w:=by
 have O:=(List.getElem?_eq_some_iff.1 z).1;have A:=(List.getElem?_eq_some_iff.1 h2).1;have G:b<(w.set a s).length:=by rw[kN];exact A
 have e:∀q,Kq ((w.set a s).set b r) q=if q=b then gh r else if q=a then gh s else Kq w q:=fun q=>by rw[ado G,ado O]
 have k1:=ts z;have k2:=ts h2;have hk:gh r<gh s:=by omega
 refine⟨⟨fun p q U L n1 n2=>?_,fun q Y I=>?_⟩,swap_mem z h2 ah⟩
 ·rw[e,e];have p1:p≠b:=by omega
  have q1:q≠b:=by omega
  rw[aZ p1,aZ q1]
  by_cases p2:p=a
  ·rw[bh p2,aZ ah];have:=h.1 b q ah L ah ah;omega
  rw[aZ p2]
  by_cases q2:q=a
  ·rw[bh q2];have:=h.1 p b ah ah ah ah;omega
  rw[aZ q2];exact h.1 p q U L ah ah
 rw[show(v-1).toNat=b by omega,e,e,bh rfl];have q1:q≠b:=by omega
 rw[aZ q1]
 by_cases q2:q=a
 ·rw[bh q2];omega
 rw[aZ q2];have:=h.2 q ah I;rw[show v.toNat=a by omega] at this;omega
theorem aar{T:aN}{VE:bo}{B:aT}{Q:VV→aT→Prop}{neg:Bool}{x y:aH}{t:Bool}(G:x.vv VE=some (.d (.b t)))(I:y.vv VE=some (.d (.b t)))(L:Q (.d (.b (!neg))) B):VI T (.eqv .bool neg x y) VE B [] Q:=fun _ _ _ _ _ z=>by
 obtain⟨_,M,h2⟩:=z.bD G;obtain⟨_,O,A⟩:=z.bD I;simp only[aG,bH] at h2 A;subst h2;subst A;have e:nq .bool (.bool t) (.bool t)=some true:=by cases t<;>rfl
 exact F4 M O e (dy z (v:=.d (.b (Bool.xor neg true))) (by simp only[aG,bH]) (by rw[Bool.xor_true];exact L))
end Go.Ev
