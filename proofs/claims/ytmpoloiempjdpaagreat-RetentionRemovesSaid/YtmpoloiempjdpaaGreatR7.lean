/- Part 7 of rules for walks through the code of a program, and of such walks; what each part proves is said by its theorems. -/
import Derived.Test.YtmpoloiempjdpaaGreatR6
import Derived.Laws.Tables
import Derived.Laws.MakeOwn
import Derived.Great.FillDense
import Derived.LaidEql
import Derived.Laws.IdiomStrings
import Derived.Laws.BytesArg
import Derived.Lib.Builder
import Derived.Lib.UnsafeStr
set_option linter.unusedVariables false
set_option linter.unusedSimpArgs false
noncomputable section
set_option maxRecDepth 100000
set_option maxHeartbeats 4000000
namespace Go.Ev
section
variable{P:Program}{ρ:Ho}{nt:Nat}{E:Env}{a:Act}{C:Nat→Option cV}{w:World}{H H':ax}{v:aj}{o:Oper}{call:dO}
def zL(cells:Array Value)(off:Nat)(v:Array Value):Array Value:=v.zipIdx.foldl (fun cs(c,j)=>cs.setIfInBounds (off+j) c) cells
theorem YX(cells:Array Value)(off:Nat)(v:Array Value):(zL cells off v).size=cells.size:=by
 unfold zL;rw[←Array.foldl_toList,aiA];exact(Great.foldl_set off v.toList 0 cells).1
theorem PT(cells:Array Value)(off:Nat)(v:Array Value)(k:Nat):(zL cells off v)[k]?=if off≤k∧k<off+v.size∧k<cells.size then v[k-off]?else cells[k]?:=by
 unfold zL;rw[←Array.foldl_toList,aiA];rw[(Great.foldl_set off v.toList 0 cells).2 k];simp
theorem ZY{place:Nat→Option (Nat×Nat)}{cells:Array Value}{i off size:Nat}{v:Value}{rest:List (Nat×Value)}(z:place i=some (off,size))(A:v.cells.size=size)(G:off+size≤cells.size):
  Instr.fill place cells ((i,v)::rest)=Instr.fill place (zL cells off v.cells) rest:=by
 rw[Instr.fill];simp only[z,A];rw[aZ (by simp;omega)];rfl
theorem splice_ok{z new:List aj}{off:Nat}(G:z.all eM=true)(I:new.all eM=true):(ed z off new).all eM=true:=by
 unfold ed;simp only[tQ,yt] at*;rintro x(A|A|A)
 ·exact G x (D5 A)
 ·exact I x A
 exact G x (D4 A)
theorem abD(hA:AR P ρ nt E a){place:Nat→Option (Nat×Nat)}:∀{ps:List (Nat×Operand)}{L:List (Nat×Nat×aG)}(_:CQ P place ps=some L)(z:List aj)(cells:Array Value)(G:List aj),
  (∀p∈L,p.1+p.2.1≤z.length)→bO ρ z cells.toList→z.all eM=true→qo E L z=some G→∃A,Instr.fill place cells (ps.map fun p=>(p.1,a.eval p.2))=some A∧bO ρ G A.toList∧G.all eM=true
 |[],L,M,z,cells,G,_,hv,O,h=>by
  cases M
  cases h
  exact⟨cells,rfl,hv,O⟩
 |(i,x)::r,L,M,z,cells,G,hle,hv,O,h=>by
  unfold CQ at M
  split at M
  ·rename_i q y l hq hy hl
   cases M
   have h:ob (y.ev E) none (fun v=>ob (iL v) none fun new=>aI (Nat.beq (gI new) q.2) (qo E l (ed z q.1 new)) none)=some G:=h
   cases hu:y.ev E with
   |none=>rw[hu] at h;cases h
   |some u=>
    rw[hu] at h
    cases hc:iL u with
    |none=>simp only[ob] at h;rw[hc] at h;cases h
    |some new=>
     have h:ob (iL u) none (fun new=>aI (Nat.beq (gI new) q.2) (qo E l (ed z q.1 new)) none)=some G:=h;rw[hc] at h;have h:aI (Nat.beq (gI new) q.2) (qo E l (ed z q.1 new)) none=some G:=h
     cases U:Nat.beq (gI new) q.2
     ·rw[U] at h;cases h
     rw[U,dX] at h;have U:=cU U;rw[pe] at U;have h1:=(hA.bI hy hu).cells hc;have Y:(a.eval x).cells.size=new.length:=by have:=h1.1.length;simpa using this
     have Z:cells.size=z.length:=by have:=hv.length;simpa using this
     have I:=hle (q.1,q.2,y) (jw ..);have I:q.1+q.2≤z.length:=I;have rh:=YV (l:=z) (new:=new) (r:=q.1) (n:=q.2) I U
     obtain⟨A,k1,k2,k3⟩:=abD hA hl (ed z q.1 new) (zL cells q.1 (a.eval x).cells) G (fun p M=>by rw[rh];exact hle p (pG _ M)) (bO.nx (by simp[YX,rh,Z]) fun k av O=>by
       rw[Zt I U] at O;simp only[VF,PT,Y]
       split at O
       ·rename_i oW;rw[bg al];obtain⟨cv,g1,g2⟩:=h1.1.get _ av O;exact⟨cv,by simpa using g1,g2⟩
       rename_i oW;rw[aZ al];obtain⟨cv,g1,g2⟩:=hv.get _ av O
       exact⟨cv,by simpa using g1,g2⟩) (splice_ok O h1.2) h
     refine⟨A,?_,k2,k3⟩;rw[jv,ZY (off:=q.1) (size:=q.2) hq (Y.trans U) (by rw[Z];exact I)];exact k1
  cases M
theorem Zc(O:AR P ρ nt E a)(U:R ρ C w){t:TypeId}{parts:Array (Nat×Operand)}{place:Nat→Option (Nat×Nat)}{z:List aj}{cells:Array Value}{io:bq}(ho:o.op= .build t parts)
  (Y:bO ρ z cells.toList) (Z:z.all eM=true) (hb:∀vs,Instr.fill place cells vs=P.built t vs) (G:KR z (CQ P place parts.toList)=some io) (h:io.ev call E H= .ok v H'):eF P o a w (cZ ρ C w H v H'):=by
 unfold KR at G
 split at G
 ·rename_i l hl
  split at G
  ·rename_i I
   cases G
   have h:ob (qo E l z) (.err 23) (fun cs=>aC.ok (.agg cs) H)= .ok v H':=h;replace h:=iO h;obtain⟨M,L,h⟩:=h
   cases h
   obtain⟨A,k1,k2,k3⟩:=abD O hl z cells M (fun p hp=>by
    have:=List.all_eq_true.1 I p hp
    simpa using this) Y Z L
   refine fM (cv:=.agg A) ?_ U (by simp only[VR];exact⟨A,rfl,k2,k3⟩);have:=run_build (P:=P) w t (parts.map fun(i,x)=>(i,a.eval x)) A (by rw[←hb,←k1];simp);simp[execOp,ho,this]
  cases G
 cases G
theorem build_sound(O:AR P ρ nt E a)(U:R ρ C w){t:TypeId}{parts:Array (Nat×Operand)}{io:bq}(ho:o.op= .build t parts)(A:Q6 P t parts.toList=some io)(h:io.ev call E H= .ok v H'):eF P o a w (cZ ρ C w H v H'):=by
 unfold Q6 at A
 split at A
 ·rename_i z hz;obtain⟨i,zv,hi,G,Y,Z,_,_,_⟩:=wZ hz
  split at A
  ·rename_i fs L
   split at A
   ·rename_i I hp;exact Zc O U ho (Y ρ) Z (fun vs=>by simp[Program.built,hi,L,G,hp]) A h
   cases A
  ·rename_i n e L
   split at A
   ·rename_i ie M;exact Zc O U ho (Y ρ) Z (fun vs=>by simp[Program.built,hi,L,G,M]) A h
   cases A
  cases A
 cases A
def Fl(ρ:Ho)(n es:Nat)(t:RT)(cells:Array Value):Prop:=
 ∀i,i<n→∃l,t.get i=some l∧l.length=es∧∀j x,l[j]?=some x→eM x=true∧∃cv,cells[i*es+j]?=some cv∧VR ρ x cv
theorem Km(x:List aj)(i:Nat):∀n,(oD x n).get i=if i<n then some x else none
 |0=>rfl
 |n+1=>by
  show((oD x n).set n x).get i=_;rw[RT.da,Km x i n]
  by_cases h:i=n
  ·rw[bg h,bg al]
  rw[aZ h]
  by_cases h2:i<n
  ·rw[bg h2,bg al]
  rw[aZ h2,aZ al]
theorem madeCells_get{z:Array Value}{es i j N:Nat}(A:z.size=es)(G:j<es)(hN:i*es+j<N):(madeCells z N)[i*es+j]?=z[j]?:=by
 unfold madeCells;rw[Array.getElem?_map,Array.getElem?_range,bg hN];have e:(i*es+j) % z.size=j:=by rw[A,Nat.add_comm,Nat.add_mul_mod_self_right,D3 G]
 simp only[sf,e];rw[getElem!_pos z j al,Be al]
theorem abE{z:List aj}{A:Array Value}{es n N:Nat}(M:bO ρ z A.toList)(O:z.all eM=true)(G:z.length=es)(hN:n*es≤N):Fl ρ n es (oD z n) (madeCells A N):=by
 intro i hi;refine⟨z,by rw[Km,bg hi],G,fun j x I=>⟨List.all_eq_true.1 O x (nJ I),?_⟩⟩;obtain⟨cv,U,h2⟩:=M.get j x I;have Y:j<es:=by rw[←G];exact(List.getElem?_eq_some_iff.1 I).1
 have L:A.size=es:=by have:=M.length;rw[←G];simpa using this
 have Z:i*es+es≤n*es:=by have:=iS es (show i+1≤n by omega);rwa [vE] at this
 exact⟨cv,by rw[madeCells_get L Y al];simpa using U,h2⟩
theorem ZZ(hA:AR P ρ nt E a){es A:Nat}:∀{ps:List (Nat×Operand)}{I:List (Nat×aG)}(_:KQ P ps=some I)(t t':RT)(cells:Array Value),cells.size=A*es→Fl ρ A es t cells→rK E es A I t=some t'→
  ∃z,Instr.fill (fun i=>some (i*es,es)) cells (ps.map fun p=>(p.1,a.eval p.2))=some z∧z.size=A*es∧Fl ρ A es t' z
 |[],I,O,t,t',cells,Y,hf,h=>by
  cases O
  cases h
  exact⟨cells,rfl,Y,hf⟩
 |(i,x)::r,I,O,t,t',cells,Y,hf,h=>by
  unfold KQ at O
  split at O
  ·rename_i y l hy hl
   cases O
   have h:ob (y.ev E) none (fun v=>ob (iL v) none fun new=>aI (Nat.beq (gI new) es) (aI (Nat.ble (Nat.succ i) A) (rK E es A l (t.set i new)) none) none)=some t':=h
   cases hu:y.ev E with
   |none=>rw[hu] at h;cases h
   |some u=>
    rw[hu] at h;have h:ob (iL u) none (fun new=>aI (Nat.beq (gI new) es) (aI (Nat.ble (Nat.succ i) A) (rK E es A l (t.set i new)) none) none)=some t':=h
    cases hc:iL u with
    |none=>rw[hc] at h;cases h
    |some new=>
     rw[hc] at h;have h:aI (Nat.beq (gI new) es) (aI (Nat.ble (Nat.succ i) A) (rK E es A l (t.set i new)) none) none=some t':=h
     cases L:Nat.beq (gI new) es
     ·rw[L] at h;cases h
     rw[L,dX] at h
     cases G:Nat.ble (Nat.succ i) A
     ·rw[G] at h;cases h
     rw[G,dX] at h;have L:=cU L;rw[pe] at L;have G:i+1≤A:=aX G;have h1:=(hA.bI hy hu).cells hc;have nY:(a.eval x).cells.size=new.length:=by have:=h1.1.length;simpa using this
     have mono:∀{p q:Nat},p+1≤q→p*es+es≤q*es:=fun{p q}h=>by have:=iS es h;rwa [vE] at this
     have oW:=mono G
     obtain⟨z,k1,k2,k3⟩:=ZZ hA hl (t.set i new) t' (zL cells (i*es) (a.eval x).cells) (by rw[YX,Y]) (fun k hk=>by
      rw[RT.da]
      by_cases M:k=i
      ·subst M;rw[bg rfl];refine⟨new,rfl,L,fun j Z U=>⟨List.all_eq_true.1 h1.2 Z (nJ U),?_⟩⟩;obtain⟨cv,g1,g2⟩:=h1.1.get j Z U;have JG:j<es:=by rw[←L];exact(List.getElem?_eq_some_iff.1 U).1
       refine⟨cv,?_,g2⟩;rw[PT,bg al,Nat.add_sub_cancel_left];simpa using g1
      rw[aZ M];obtain⟨l0,g1,g2,g3⟩:=hf k hk;refine⟨l0,g1,g2,fun j Z U=>?_⟩;obtain⟨m1,cv,m2,m3⟩:=g3 j Z U;have JG:j<es:=by rw[←g2];exact(List.getElem?_eq_some_iff.1 U).1
      refine⟨m1,cv,?_,m3⟩;rw[PT,aZ ?_]
      ·exact m2
      rcases Nat.lt_or_gt_of_ne M with lJ|O4
      ·have:=mono (show k+1≤i from lJ);omega
      have:=mono (show i+1≤k from O4);omega) h
     refine⟨z,?_,k2,k3⟩;rw[jv,ZY (off:=i*es) (size:=es) rfl (nY.trans L) (by rw[Y];exact oW)];exact k1
  cases O
theorem aaL(I:R ρ C w)(L:fC ρ H.next (H.next+1)){e es aD n cap:Nat}{t:RT}{cells:Array Value}(M:0<es)(z:n≤cap)(G:cells.size=cap*es)(A:Fl ρ n es t cells){w':World}(O:w'.heap=w.heap.push (.cells cells e))
  (U:w'.os=w.os) (h2:w'.tape=w.tape) (Y:w'.output=w.output):cZ ρ C w H (.slice H.next n 0 n es) ⟨H.next+1,H.aR,H.ws,H.t.set H.next (.row e es aD n n 0 t)⟩ (.slice (some ⟨w.heap.size,0,none⟩) n cap) w':=by
 obtain⟨ρ',Z,g2,g3⟩:=I.alloc (f:=H.next) (elem:=e) (es:=es) (aD:=aD) (n:=n) (cs:=t) (cells:=cells) (w':=w')
  (Wr ⟨H.next+1,H.aR,H.ws,H.t.set H.next (.row e es aD n n 0 t)⟩) (fun g=>L _ g (bf _) (yX _)) M (by rw[G];exact iS _ z) A O U h2 Y
 refine⟨ρ',?_,g2,?_⟩
 ·simp only[VR];refine⟨_,_,_,Z,rfl,⟨z,by rw[fh];exact iS _ z⟩,.inl ⟨rfl,?_⟩⟩;simp only;rw[G,fh];exact bf _
 rw[Qg];exact g3
theorem buildSl_sound(hA:AR P ρ nt E a)(hR:R ρ C w)(hF:fC ρ H.next H'.next){t:TypeId}{I:Nat}{parts:Array (Nat×Operand)}{io:bq}(ho:o.op= .buildSlice t I parts)(A:Qf P t I parts.toList=some io)
  (h:io.ev call E H= .ok v H'):eF P o a w (cZ ρ C w H v H'):=by
 unfold Qf at A
 split at A
 ·rename_i e hu
  split at A
  ·rename_i i z hi hz
   split at A
   ·rename_i l hl
    split at A
    ·rename_i hle
     cases A
     have h:ob (rK E i.size I l (oD z I)) (.err 24) (fun t=>H.alloc (.row e i.size i.bytes I I 0 t) fun f H=>.ok (.slice f I 0 I i.size) H)= .ok v H':=h;replace h:=iO h;obtain⟨tr,Z,h⟩:=h;have h:=Fw h
     cases h
     obtain⟨i',M,O,rf,hv,hk,BX,U,zb⟩:=wZ hz;rw[hi] at O
     cases O
     obtain⟨G,k1,k2,k3⟩:=ZZ hA hl (oD z I) tr (madeCells M.cells (I*i.size)) (size_madeCells _ _) (abE (hv ρ) hk BX (bf _)) Z;refine .inl ⟨_,w.alloc (.cells G e),?_,aaL hR hF U (bf _) k2 k3 rfl rfl rfl rfl⟩;have Y:Instr.fill (fun j=>some (j*i.size,i.size)) ((Array.range (I*i.size)).map (M.cells[· % M.cells.size]!)) (parts.map fun(i,x)=>(i,a.eval x)).toList=some G:=by
      rw[←k1];simp[madeCells]
     by_cases h0:I*i.size=0
     ·have e0:(Array.range 0).map (M.cells[· % M.cells.size]!)=#[]:=by rw[show Array.range 0=#[] from rfl];exact Array.map_empty ..
      rw[h0,e0] at Y;have O5:Instr.fill (fun j=>some (j*i.size,i.size)) #[] (parts.toList.map fun x=>(x.1,a.eval x.2))=some G:=by rw[←Y];simp
      simp[execOp,ho,Instr.buildSlice,run_underlying hu,sizeOf,typeInfo,hi,h0,newRow,O5,show Array.range 0=#[] from rfl]
     have L:¬(2^24<I*i.size):=by omega
     simp at Y L;simp[execOp,ho,Instr.buildSlice,run_underlying hu,sizeOf,typeInfo,hi,L,h0,zeroValue,rf,Y,newRow]
    cases A
   cases A
  cases A
 cases A
theorem mksl_sound(hA:AR P ρ nt E a)(hR:R ρ C w)(hF:fC ρ H.next H'.next){t:TypeId}{x y:Operand}{O U:aG}{io:bq}(ho:o.op= .makeSlice t x y)(hx:cB P x=some O)(hy:cB P y=some U)(A:R' P t O U=some io)
  (h:io.ev call E H= .ok v H'):eF P o a w (cZ ρ C w H v H'):=by
 unfold R' at A
 split at A
 ·rename_i e hu
  split at A
  ·rename_i i z hi hz
   split at A
   ·rename_i hb
    cases A
    have h:Ht e i.size i.bytes z O U E H= .ok v H':=h;replace h:=eG h;obtain⟨u,Y,h⟩:=h;replace h:=Ct h;obtain⟨kl,l0,rfl,h⟩:=h;replace h:=Kz h;obtain⟨l,rfl,h⟩:=h;replace h:=eG h;obtain⟨u2,Z,h⟩:=h;replace h:=Ct h;obtain⟨kc,c0,rfl,h⟩:=h;replace h:=Kz h;obtain⟨c,rfl,h⟩:=h;replace h:=fN h;obtain⟨I,h⟩:=h;replace h:=fN h;obtain⟨g2,h⟩:=h;replace h:=fN h;obtain⟨g3,h⟩:=h;rw[KN] at h;have h:=Fw h
    cases h
    have I:=aX I;have g2:c*i.bytes≤70368744177664:=aX g2;have g3:=aX g3;obtain⟨i',zv,L,rf,hv,hk,BX,M,zb⟩:=wZ hz;rw[hi] at L
    cases L
    have e1:=hA.bI hx Y;have e2:=hA.bI hy Z;simp only[VR] at e1 e2
    have G:=run_make (P:=P) w t e i zv hu hi rf kl kc (l:Int) (c:Int) (Int.natCast_nonneg l) (Int.ofNat_le.2 I) (by
     have:((i.bytes*c:Nat):Int)≤((281474976710656:Nat):Int):=Int.ofNat_le.2 (by rw[qM];omega);rw[Int.natCast_mul] at this
     exact this) al
    simp only[yo] at G;refine .inl ⟨_,w.alloc (.cells (madeCells zv.cells (c*i.size)) e),?_,aaL hR hF M I (size_madeCells _ _) (abE (hv ρ) hk BX (iS _ I)) rfl rfl rfl rfl⟩;rw[show(execOp a.eval o)=_ from rfl];simp only[execOp,ho,e1,e2];simp only[Sem.run_bind,G,Result.andThen_ok];rfl
   cases A
  cases A
 cases A
end
section
variable{P:Program}{ρ:Ho}{nt:Nat}{E:Env}{a:Act}{C:Nat→Option cV}{w:World}{H H':ax}{v:aj}{o:Oper}{call:dO}
theorem P8(b:Bool)(k:Bool→aC):pc b k=k b:=by cases b<;>rfl
theorem eqA_ok(dp:Nat){c:EG}{t:TypeId}{d:TypeDesc}(G:P.underlying t=some d)(A:Ud P d=some c){x y:aj}{L cy:Value}(z:VR ρ x L)(h2:VR ρ y cy){r:Bool}(h:pX c x y=some r):
  (Op.equalIn (dp+1) t L cy).run P w= .ok r w∧(∀k n,L≠.int k n)∧(∀b,L≠.string b)∧(∀k n,L≠.float k n)∧(∀k n m,L≠.complex k n m)∧(∀cs,L≠.agg cs)∧(L= .nilIface→∃ms,d= .interface ms):=by
 unfold Ud at A
 split at A
 ·cases A
  unfold pX at h;simp only at h
  split at h
  ·simp only[VR] at z h2;subst z;subst h2
   cases h
   exact⟨by simp[Op.equalIn,run_underlying G],by simp,by simp,by simp,by simp,by simp,by simp⟩
  cases h
 ·rename_i e
  split at A
  ·rename_i ie U
   cases A
   unfold pX at h;simp only at h
   split at h
   ·simp only[VR] at z h2;subst z;subst h2;cases h;exact⟨by simp[Op.equalIn,run_underlying G],by simp,by simp,by simp,by simp,by simp,by simp⟩
   ·simp only[VR] at z h2;obtain⟨_,_,rfl⟩:=h2;subst z;cases h;exact⟨by simp[Op.equalIn,run_underlying G],by simp,by simp,by simp,by simp,by simp,by simp⟩
   ·simp only[VR] at z h2;obtain⟨_,_,rfl⟩:=z;subst h2;cases h;exact⟨by simp[Op.equalIn,run_underlying G],by simp,by simp,by simp,by simp,by simp,by simp⟩
   ·rename_i f g o f' g' o'
    cases I:Nat.beq f f'
    ·rw[I] at h;cases h
    rw[I,dX] at h
    cases M:Nat.beq g g'
    ·rw[M] at h;cases h
    rw[M,dX] at h
    cases O:Nat.beq o o'
    ·rw[O] at h;cases h
    rw[O,dX] at h
    cases h
    have I:=cU I;have M:=cU M;have O:=cU O;subst I;subst M;subst O;simp only[VR] at z h2;obtain⟨hm,k1,rfl⟩:=z;obtain⟨sJ,Z,rfl⟩:=h2;rw[k1] at Z
    cases Z
    exact⟨by simp[Op.equalIn,run_underlying G,sizeOf,typeInfo,U,run_sameAddr_same],by simp,by simp,by simp,by simp,by simp,by simp⟩
   cases h
  cases A
 ·cases A
  unfold pX at h;simp only at h
  split at h
  ·simp only[VR] at z h2;subst z;subst h2;cases h;exact⟨by simp[Op.equalIn,run_underlying G],by simp,by simp,by simp,by simp,by simp,by simp⟩
  ·simp only[VR] at z h2;obtain⟨_,_,_,_,rfl,_⟩:=h2;subst z;cases h;exact⟨by simp[Op.equalIn,run_underlying G],by simp,by simp,by simp,by simp,by simp,by simp⟩
  ·simp only[VR] at z h2;obtain⟨_,_,_,_,rfl,_⟩:=z;subst h2;cases h;exact⟨by simp[Op.equalIn,run_underlying G],by simp,by simp,by simp,by simp,by simp,by simp⟩
  cases h
 ·rename_i ms
  cases A
  unfold pX at h;simp only at h
  split at h
  ·simp only[VR] at z h2;subst z;subst h2;cases h;exact⟨by simp[Op.equalIn,run_underlying G],by simp,by simp,by simp,by simp,by simp,fun _=>⟨ms,rfl⟩⟩
  ·simp only[VR] at z h2;obtain⟨_,rfl,_⟩:=h2;subst z;cases h;exact⟨by simp[Op.equalIn,run_underlying G],by simp,by simp,by simp,by simp,by simp,fun _=>⟨ms,rfl⟩⟩
  ·simp only[VR] at z h2;obtain⟨_,rfl,_⟩:=z;subst h2;cases h;exact⟨by simp[Op.equalIn,run_underlying G],by simp,by simp,by simp,by simp,by simp,by simp⟩
  ·rename_i t1 _ t2 _
   cases I:Nat.beq t1 t2
   ·rw[I] at h
    cases h
    have Y:t1≠t2:=fun e=>by rw[e,gG] at I;cases I
    simp only[VR] at z h2;obtain⟨_,rfl,_⟩:=z;obtain⟨_,rfl,_⟩:=h2;exact⟨by simp[Op.equalIn,run_underlying G,Y],by simp,by simp,by simp,by simp,by simp,by simp⟩
   rw[I] at h;cases h
  cases h
 ·cases A
  unfold pX at h;simp only at h
  split at h
  ·simp only[VR] at z h2;subst z;subst h2;cases h;exact⟨by simp[Op.equalIn,run_underlying G],by simp,by simp,by simp,by simp,by simp,by simp⟩
  ·simp only[VR] at z h2;obtain⟨_,_,rfl,_⟩:=h2;subst z;cases h;exact⟨by simp[Op.equalIn,run_underlying G],by simp,by simp,by simp,by simp,by simp,by simp⟩
  ·simp only[VR] at z h2;obtain⟨_,_,rfl,_⟩:=z;subst h2;cases h;exact⟨by simp[Op.equalIn,run_underlying G],by simp,by simp,by simp,by simp,by simp,by simp⟩
  cases h
 ·cases A
  unfold pX at h;simp only at h
  split at h
  ·simp only[VR] at z h2;subst z;subst h2;cases h;exact⟨by simp[Op.equalIn,run_underlying G],by simp,by simp,by simp,by simp,by simp,by simp⟩
  cases h
 cases A
theorem run_eqGuard_free{op:BinOp}(G:op= .eql∨op= .neq){t:TypeId}{d:TypeDesc}{x y:Operand}{I cy:Value}(L:P.underlying t=some d)(z:Lq x y d=true)(M:∀cs,I≠.agg cs)(O:I= .nilIface→∃ms,d= .interface ms):
  (eqGuard op t x y I cy).run P w= .ok () w:=by
 unfold eqGuard;rcases G with rfl|rfl
 ·rw[aZ ao]
  split
  ·obtain⟨ms,rfl⟩:=O rfl;simp only[Lq,oN] at z;have e:∀A,(Op.eqGuardIn (A+1) t .nilIface .nilIface).run P w= .ok (!ms.isEmpty) w:=fun A=>by simp[Op.eqGuardIn,run_underlying L]
   rcases z with(z|z)|z
   ·cases x<;>cases y<;>simp[Op.maxDepth,e 9999,z]
   ·cases x<;>simp[Cs] at z<;>simp
   cases y<;>simp[Cs] at z<;>simp
  ·exact absurd rfl (M _)
  rfl
 rw[aZ ao]
 split
 ·obtain⟨ms,rfl⟩:=O rfl;simp only[Lq,oN] at z;have e:∀A,(Op.eqGuardIn (A+1) t .nilIface .nilIface).run P w= .ok (!ms.isEmpty) w:=fun A=>by simp[Op.eqGuardIn,run_underlying L]
  rcases z with(z|z)|z
  ·cases x<;>cases y<;>simp[Op.maxDepth,e 9999,z]
  ·cases x<;>simp[Cs] at z<;>simp
  cases y<;>simp[Cs] at z<;>simp
 ·exact absurd rfl (M _)
 rfl
theorem eqv_sound(Z:AR P ρ nt E a)(hR:R ρ C w){op:BinOp}{t t':TypeId}{d:TypeDesc}{x z:Operand}{M O:aG}{io:bq}(ho:o.op= .binOp op t x z t')(hx:cB P x=some M)(hz:cB P z=some O)(hu:P.underlying t=some d)
  (A:VH P op d x z M O=some io) (h:io.ev call E H= .ok v H'):eF P o a w (cZ ρ C w H v H'):=by
 unfold VH at A
 split at A
 ·rename_i c hc
  split at A
  ·rename_i G;have key:∀neg,(op= .eql∧neg=false)∨(op= .neq∧neg=true)→EH c neg M O E H= .ok v H'→eF P o a w (cZ ρ C w H v H'):=by
    intro neg I h;replace h:=eG h;obtain⟨u,U,h⟩:=h;replace h:=eG h;obtain⟨u2,Y,h⟩:=h;replace h:=iO h;obtain⟨r,hr,h⟩:=h;rw[P8] at h
    cases h
    obtain⟨g0,g1,g2,g3,g4,g5,g6⟩:=eqA_ok (w:=w) 9999 hu hc (Z.bI hx U) (Z.bI hz Y) hr;have hg:=run_eqGuard_free (w:=w) (op:=op) (by rcases I with⟨h,_⟩|⟨h,_⟩<;>simp[h]) (x:=x) (y:=z) (cy:=a.eval z) hu G g5 g6;refine fM (cv:=.bool (Bool.xor neg r)) ?_ hR (by simp only[VR]);simp only[execOp,ho,Sem.run_bind,hg,Result.andThen_ok];generalize a.eval x=L at*;generalize a.eval z=cz at*;rcases I with⟨rfl,rfl⟩|⟨rfl,rfl⟩
    ·have:(binOp .eql t L cz).run P w= .ok (.bool r) w:=by
      cases L<;>simp only[binOp]<;>first|exact absurd rfl (g1 _ _)|exact absurd rfl (g2 _)|exact absurd rfl (g3 _ _)|exact absurd rfl (g4 _ _ _)|simp[Op.equal,Op.maxDepth,g0]
     simp[this]
    have:(binOp .neq t L cz).run P w= .ok (.bool (!r)) w:=by
     cases L<;>simp only[binOp]<;>first|exact absurd rfl (g1 _ _)|exact absurd rfl (g2 _)|exact absurd rfl (g3 _ _)|exact absurd rfl (g4 _ _ _)|simp[Op.equal,Op.maxDepth,g0]
    simp[this]
   cases op<;>simp only[eC,reduceCtorEq] at A
   ·subst A;exact key false (.inl ⟨rfl,rfl⟩) h
   subst A;exact key true (.inr ⟨rfl,rfl⟩) h
  cases A
 cases A
end
section
variable{P:Program}{ρ:Ho}{nt:Nat}{E:Env}{a:Act}{C:Nat→Option cV}{w:World}{H H':ax}{v:aj}{o:Oper}{call:dO}
theorem Zx:∀{L:List (List aj)}{s:Nat},zQ L=some s→∃z:List UInt8,z.length=L.length∧s=pack z∧∀(i:Nat)(b:UInt8),z[i]?=some b→L[i]?=some [aj.int .u8 (Int.ofNat b.toNat)]
 |[],s,h=>by cases h;exact⟨[],rfl,rfl,fun i b h=>by simp at h⟩
 |c::r,s,h=>by
  cases c with
  |nil=>cases h
  |cons x t=>cases t with
   |cons y t=>cases h
   |nil=>
    have h:adT x none (fun k i=>aI (Nat.beq (cK k) 4) (iN i none fun b=>aI (Nat.ble b 255) (ob (zQ r) none fun v=>some (Nat.add b (Nat.mul 256 v))) none) none)=some s:=h
    cases x with
    |int k i=>
     have h:aI (Nat.beq (cK k) 4) (iN i none fun b=>aI (Nat.ble b 255) (ob (zQ r) none fun v=>some (Nat.add b (Nat.mul 256 v))) none) none=some s:=h
     cases A:Nat.beq (cK k) 4
     ·rw[A] at h;cases h
     rw[A,dX] at h
     cases i with
     |negSucc m=>cases h
     |ofNat b=>
      have h:aI (Nat.ble b 255) (ob (zQ r) none fun v=>some (Nat.add b (Nat.mul 256 v))) none=some s:=h
      cases h2:Nat.ble b 255
      ·rw[h2] at h;cases h
      rw[h2,dX] at h
      cases G:zQ r with
      |none=>rw[G] at h;cases h
      |some v=>
       rw[G] at h
       cases h
       obtain⟨z,O,U,Y⟩:=Zx G;have A:=cU A;have h2:=aX h2;have Z:k= .u8:=by cases k<;>simp[cK] at A<;>rfl
       subst Z;have M:(UInt8.ofNat b).toNat=b:=by rw[UInt8.toNat_ofNat'];omega
       refine⟨UInt8.ofNat b::z,by simp[O],?_,fun i y I=>?_⟩
       ·show b+256*v=(UInt8.ofNat b).toNat+256*pack z;rw[M,U]
       cases i with
       |zero=>simp at I;subst I;rw[M];rfl
       |succ i=>exact Y i y (by simpa using I)
    |_=>cases h
theorem convBS_sound(hA:AR P ρ nt E a)(Y:R ρ C w){src dst e:TypeId}{x:Operand}{Z:aG}(ho:o.op= .convert src dst x)(hx:cB P x=some Z)
  (hs:P.underlying src=some (.slice e)) (hd:P.underlying dst=some .string) (he:P.underlying e=some (.int .u8))
  (hC:∀f o,f∈im (Z.ev E)→(∃g h,ρ f g=some h)→H.t.get f=some o→C f=some o) (h:FV Z E H= .ok v H'):eF P o a w (cZ ρ C w H v H'):=by
 replace h:=eG h;obtain⟨u,hu,h⟩:=h;have z:=hA.bI hx hu
 cases u<;>try(cases h;done)
 case fR=>
  cases h
  simp only[VR] at z;refine fM (cv:=.string ByteArray.empty) ?_ Y (by simp only[VR];exact⟨_,rfl,rfl,rfl⟩);have:=run_convert_bytes_nil (P:=P) (w:=w) src e hs he 0 0 dst hd;simp only[execOp,ho,z,Sem.run_bind,this];rfl
 case slice f g off n es=>
  have h:ob (elems H f g 1 n off) (.err 39) (fun l=>ob (zQ l) (.err 39) fun s=>cm s fun s=>aC.ok (.str n s) H)= .ok v H':=h;replace h:=iO h;obtain⟨L,hL,h⟩:=h;replace h:=iO h;obtain⟨s,hs2,h⟩:=h;rw[fy] at h
  cases h
  simp only[VR] at z;obtain⟨hm,ad,cap,hh,z,ajk,rh⟩:=z;obtain⟨hlen,XC⟩:=QC hL;obtain⟨O,g1,g2,g3⟩:=Zx hs2;have hbl:O.length=n:=g1.trans hlen;subst hbl
  have A:=run_convert_bytes_back (P:=P) w src dst e ad cap O hs he hd (fun j hj=>by
   have U:=g3 j O[j] (dm hj);have G:=XC j _ U;have sI:C f=H.t.get f:=by
    obtain⟨_,_,_,_,_,_,_,_,U,_⟩:=G;exact(hC f _ (by rw[hu];simp[im]) ⟨_,_,hh⟩ U).trans U.symm
   obtain⟨_,_,hc⟩:=Y.rd G sI hh al;obtain⟨cv,I,M⟩:=hc 0 _ rfl;simp only[VR] at M;subst M;rcases rh with⟨rfl,_⟩|⟨h0,_,_⟩
   ·rw[Addr.add_lit];rw[←kU] at I;simpa using I
   omega)
  refine fM (cv:=.string ⟨O.toArray⟩) ?_ Y (by simp only[VR];exact⟨_,rfl,rfl,by rw[g2]⟩);simp only[execOp,ho,z,Sem.run_bind,A];rfl
theorem conv2_sound(G:AR P ρ nt E a)(I:R ρ C w)(hF:fC ρ H.next H'.next){src dst:TypeId}{x:Operand}{A:aG}{io:bq}(ho:o.op= .convert src dst x)(L:cB P x=some A)(z:Q5 P src dst A=some io)
  (M:∀f o,(∀l,io.reads E=some l→f∈l)→(∃g h,ρ f g=some h)→H.t.get f=some o→C f=some o) (h:io.ev call E H= .ok v H'):eF P o a w (cZ ρ C w H v H'):=by
 unfold Q5 at z
 split at z
 ·rename_i e O U
  split at z
  ·rename_i Y;cases z;exact convBS_sound G I ho L O U Y (fun f o Z=>M f o (fun l e=>by cases e;exact Z)) h
  cases z
 cases z
end
end Go.Ev
