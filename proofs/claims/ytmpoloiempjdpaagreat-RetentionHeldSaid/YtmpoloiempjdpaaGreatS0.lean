/- Part 0 of rules for walks through the code of a program, and of such walks; what each part proves is said by its theorems. -/
import Derived.Orders
set_option linter.unusedVariables false
set_option linter.unusedSimpArgs false
noncomputable section
set_option maxRecDepth 100000
set_option maxHeartbeats 4000000
namespace Go.Ev
abbrev eM:= @decide_eq_true_eq
abbrev gQ:= @decide_eq_false_iff_not
abbrev gD:= @Bool.not_eq_true'
abbrev mE:= @Bool.not_eq_false'
abbrev gm:= @Int.ofNat_eq_natCast
abbrev Pr:= @Bool.not_eq_true
abbrev uD:= @Nat.beq_eq
abbrev ze:= @Nat.lt_succ_self
abbrev bg:= @if_pos
abbrev aX:= @if_neg
abbrev yy:= @Nat.mod_lt
abbrev bd:= @Nat.le_refl
abbrev aV:= @Nat.le_of_ble_eq_true
abbrev su:= @List.eq_nil_of_length_eq_zero
abbrev Bo:= @List.cons_append
abbrev Bp:= @List.getElem?_take
abbrev IP:= @List.getElem?_drop
abbrev eE:= @Option.some.injEq
abbrev gA:= @Bool.false_eq_true
abbrev eT:= @Nat.le_trans
abbrev jn:= @Nat.lt_of_lt_of_le
abbrev fR:= @Nat.ble_eq_true_of_le
abbrev lk:= @Int.negSucc_eq
abbrev cW:= @Nat.eq_of_beq_eq_true
abbrev sv:= @List.mem_cons
abbrev Bq:= @Nat.le_succ
abbrev yz:= @Array.getD_eq_getD_getElem?
abbrev yA:= @Bool.eq_iff_iff
abbrev gB:= @List.length_cons
abbrev NF:= @Nat.pow_succ
abbrev lp:= @Nat.add_assoc
abbrev re:= @Nat.mul_comm
abbrev Ea:= @List.take_append_drop
abbrev iD:= @List.length_take
abbrev Eb:= @Nat.mod_eq_of_lt
abbrev rf:= @List.take_of_length_le
abbrev lm36:= @Nat.pow_one
abbrev Br:= @List.drop_eq_getElem_cons
abbrev Bs:= @Nat.one_mul
abbrev IQ:= @UInt8.lt_iff_toNat_lt
abbrev fS:= @Iff.rfl
abbrev Vm:= @Nat.lt_trichotomy
abbrev rh:= @Array.length_toList
abbrev Vn:= @Array.toList_extract
abbrev aib:= @List.extract_eq_take_drop
abbrev uf:= @List.all_eq_true
abbrev Ec:= @List.mem_of_mem_drop
abbrev Bt:= @List.mem_of_mem_take
abbrev Ed:= @Int.toNat_natCast
abbrev gL:= @Nat.zero_le
abbrev lq:= @Nat.add_mul
abbrev sw:= @Option.map_some
abbrev iZ:= @Nat.mul_le_mul_right
abbrev ri:= @Nat.zero_mul
abbrev ug:= @Nat.add_zero
abbrev Ee:= @Nat.sub_zero
abbrev aic:= @Array.getElem?_modify
abbrev Vo:= @Array.getElem?_push
abbrev NG:= @Nat.div_add_mod
abbrev e6:= @Nat.zero_add
abbrev Vp:= @List.getElem?_of_mem
abbrev rj:= @List.mem_of_getElem?
abbrev sA:= @List.getElem?_append_left
abbrev rl:= @List.getElem?_append_right
abbrev dx:= @List.getElem?_eq_getElem
abbrev NH:= @List.take_zero
abbrev Bu:= @List.nil_append
abbrev NI:= @List.drop_of_length_le
abbrev Ef:= @List.append_nil
abbrev yB:= @List.getElem?_eq_none
abbrev IS:= @List.all_cons
abbrev cU:= @Bool.and_eq_true
abbrev NJ:= @List.getElem?_cons_succ
abbrev aid:= @Nat.div_lt_iff_lt_mul
abbrev NK:= @Classical.em
abbrev aie:= @Nat.le_mul_of_pos_right
abbrev Vq:= @Array.size_append
abbrev Vr:= @Array.getElem?_append_left
abbrev Bv:= @Array.getElem?_eq_getElem
abbrev e7:= @List.length_append
abbrev NL:= @Nat.succ_pos
abbrev Vt:= @List.mem_append_left
abbrev NM:= @List.mem_append_right
abbrev Vu:= @Nat.mul_one
abbrev yC:= @List.getElem?_map
abbrev lM:= @List.map_cons
abbrev yD:= @List.mem_append
abbrev Vv:= @List.mem_singleton
abbrev aif:= @Array.toList_zipIdx
abbrev jo:= @List.mem_cons_self
abbrev oV:= @List.mem_cons_of_mem
abbrev Vw:= @Array.getElem?_toList
abbrev vO:= @Nat.succ_mul
abbrev gu:= @Nat.beq_refl
abbrev oW:= @Bool.or_eq_true
abbrev NN:= @List.drop_drop
abbrev vP:= @List.map_append
abbrev pM:= @List.length_map
abbrev IT:= @List.map_nil
abbrev Eg:= @List.cons.injEq
abbrev jQ:= @List.length_nil
abbrev Mu:= @List.getD_eq_getElem?_getD
abbrev Mv:= @List.getElem?_cons_zero
abbrev TY:= @Option.getD_some
abbrev Mw:= @Nat.lt_or_eq_of_le
abbrev Dx:= @Classical.byContradiction
abbrev Hz:= @List.filter_cons_of_neg
abbrev AW:= @List.filter_cons_of_pos
abbrev TZ:= @Array.getElem?_replicate
abbrev agl:= @List.length_filter_le
abbrev T0:= @Array.mapM_eq_mapM_toList
abbrev agm:= @Nat.div_eq_of_lt
abbrev xV:= @List.take_succ_cons
abbrev qP:= @List.length_drop
abbrev HA:= @Option.map_eq_some_iff
abbrev Mx:= @List.map_drop
abbrev T1:= @List.map_take
abbrev Dy:= @Option.bind_eq_some_iff
abbrev qQ:= @List.length_replicate
abbrev T2:= @List.getElem?_replicate
abbrev jA:= @List.length_set
abbrev My:= @List.getElem?_set
abbrev T3:= @List.set_cons_zero
abbrev T5:= @List.set_cons_succ
abbrev Mz:= @List.length_range
abbrev T6:= @Nat.min_self
abbrev T7:= @List.map_map
abbrev T8:= @List.getElem?_range
abbrev agn:= @Function.comp_apply
abbrev lm129:= @Int.tdiv_eq_ediv_of_nonneg
abbrev ago:= @Int.tmod_eq_emod_of_nonneg
abbrev qR:= @Int.le_refl
abbrev AX:= @Int.toNat_of_nonneg
abbrev T9:= @Int.le_trans
abbrev HB:= @List.getElem?_set_self
abbrev t3:= @List.take_add_one
abbrev MA:= @List.getElem?_set_ne
abbrev agp:= @List.take_append_of_le_length
abbrev MB:= @List.append_assoc
abbrev agq:= @Int.fdiv_eq_ediv_of_nonneg
abbrev lm140:= @List.set_getElem_self
abbrev MC:= @Nat.le_add_right
abbrev T':= @List.perm_append_singleton
abbrev MD:= @Or.resolve_left
abbrev agr:= @Int.mul_le_mul_of_nonneg_left
theorem rG{p q:Prop}(h:p)(e:p=q:=by first|(simp only[eM,gQ,gD,mE,gm];first|done|rfl)|rfl):q:=Eq.mp e h
theorem ao{p:Prop}(h:p:=by decide):p:=h
theorem an{p:Prop}(h:p:=by omega):p:=h
theorem dA{p:Prop}(h:p:=by repeat(first|exact trivial|exact fun _=>⟨rfl,rfl⟩|exact fun h=>absurd h (by decide)|apply And.intro)):p:=h
inductive Tr(α:Type) where
 |leaf
 |node (l:Tr α) (v:Option α) (r:Tr α)
def Tr.get{α:Type}(t:Tr α):Nat→Option α:=
 Tr.rec (motive:=fun _=>Nat→Option α) (fun _=>none)
  (fun _ v _ z A n=>Nat.rec (motive:=fun _=>Option α) v
   (fun m _=>Bool.rec (motive:=fun _=>Option α) (A (Nat.div m 2)) (z (Nat.div m 2)) (Nat.beq (Nat.mod m 2) 0)) n) t
def Tr.seq{α β:Type}(t:Tr α)(k:Tr α→β):β:=
 Tr.rec (motive:=fun _=>β) (k .leaf) (fun l v r _ _=>k (.node l v r)) t
def Tr.ui{α:Type}(f:Nat):Tr α→Nat→α→Tr α:=
 Nat.rec (motive:=fun _=>Tr α→Nat→α→Tr α) (fun t _ _=>t)
  (fun _ z t n a=>
   Tr.rec (motive:=fun _=>Tr α)
    (Nat.rec (motive:=fun _=>Tr α) (.node .leaf (some a) .leaf)
     (fun m _=>Bool.rec (motive:=fun _=>Tr α)
      ((z .leaf (Nat.div m 2) a).seq fun r=>.node .leaf none r)
      ((z .leaf (Nat.div m 2) a).seq fun l=>.node l none .leaf) (Nat.beq (Nat.mod m 2) 0)) n)
    (fun l v r _ _=>Nat.rec (motive:=fun _=>Tr α) (.node l (some a) r)
     (fun m _=>Bool.rec (motive:=fun _=>Tr α)
      ((z r (Nat.div m 2) a).seq fun r=>.node l v r)
      ((z l (Nat.div m 2) a).seq fun l=>.node l v r) (Nat.beq (Nat.mod m 2) 0)) n) t) f
def Tr.set{α:Type}(t:Tr α)(n:Nat)(a:α):Tr α:=Tr.ui (Nat.succ n) t n a
theorem Tr.seq_eq{α β:Type}(t:Tr α)(k:Tr α→β):t.seq k=k t:=by cases t<;>rfl
theorem Tr.uY{α:Type}(n:Nat):(Tr.leaf:Tr α).get n=none:=rfl
theorem Tr.uZ{α:Type}(l r:Tr α)(v:Option α)(n:Nat):(Tr.node l v r).get n=
  match n with
  |0=>v
  |m+1=>if m % 2=0 then l.get (m/2) else r.get (m/2):=by
 cases n with
 |zero=>rfl
 |succ m=>
  show Bool.rec (motive:=fun _=>Option α) (r.get (m/2)) (l.get (m/2)) (Nat.beq (m % 2) 0)=_
  by_cases h:m % 2=0
  ·simp[h]
  have:Nat.beq (m % 2) 0=false:=by rw[←Pr,uD];exact h
  simp[h,this]
theorem Tr.get_setF{α:Type}(a:α):∀(f:Nat)(t:Tr α)(n k:Nat),n<f→
  (Tr.ui f t n a).get k=if k=n then some a else t.get k:=by
 intro f
 induction f with
 |zero=>intro t n k h;omega
 |succ f L=>
  intro t n k h
  cases t with
  |leaf=>
   cases n with
   |zero=>
    show(Tr.node .leaf (some a) .leaf).get k=_;rw[Tr.uZ]
    cases k with
    |zero=>simp
    |succ k=>simp[Tr.uY]
   |succ m=>
    show(Bool.rec (motive:=fun _=>Tr α)
      ((Tr.ui f .leaf (Nat.div m 2) a).seq fun r=>.node .leaf none r)
      ((Tr.ui f .leaf (Nat.div m 2) a).seq fun l=>.node l none .leaf) (Nat.beq (Nat.mod m 2) 0):Tr α).get k=_
    have I:m/2<f:=by omega
    rw[Tr.seq_eq,Tr.seq_eq]
    by_cases G:m % 2=0
    ·have e:Nat.beq (Nat.mod m 2) 0=true:=by rw[uD];exact G
     rw[e];show(Tr.node (Tr.ui f .leaf (m/2) a) none .leaf).get k=_;rw[Tr.uZ]
     cases k with
     |zero=>simp[Tr.uY]
     |succ k=>
      simp only[Tr.uY];rw[L _ _ _ I,Tr.uY]
      by_cases A:k % 2=0
      ·by_cases z:k/2=m/2
       ·have:k=m:=by omega
        simp[A,z,this,G]
       have:k≠m:=by omega
       simp[A,z,this]
      have:k≠m:=by omega
      simp[A,this]
    have e:Nat.beq (Nat.mod m 2) 0=false:=by rw[←Pr,uD];exact G
    rw[e];show(Tr.node .leaf none (Tr.ui f .leaf (m/2) a)).get k=_;rw[Tr.uZ]
    cases k with
    |zero=>simp[Tr.uY]
    |succ k=>
     simp only[Tr.uY];rw[L _ _ _ I,Tr.uY]
     by_cases A:k % 2=0
     ·have:k≠m:=by omega
      simp[A,this]
     by_cases z:k/2=m/2
     ·have:k=m:=by omega
      simp[A,z,this,G]
     have:k≠m:=by omega
     simp[A,z,this]
  |node l v r=>
   cases n with
   |zero=>
    show(Tr.node l (some a) r).get k=_;rw[Tr.uZ,Tr.uZ]
    cases k with
    |zero=>simp
    |succ k=>simp
   |succ m=>
    show(Bool.rec (motive:=fun _=>Tr α)
      ((Tr.ui f r (Nat.div m 2) a).seq fun r=>.node l v r)
      ((Tr.ui f l (Nat.div m 2) a).seq fun l=>.node l v r) (Nat.beq (Nat.mod m 2) 0):Tr α).get k=_
    have I:m/2<f:=by omega
    rw[Tr.seq_eq,Tr.seq_eq]
    by_cases G:m % 2=0
    ·have e:Nat.beq (Nat.mod m 2) 0=true:=by rw[uD];exact G
     rw[e];show(Tr.node (Tr.ui f l (m/2) a) v r).get k=_;rw[Tr.uZ,Tr.uZ]
     cases k with
     |zero=>simp
     |succ k=>
      simp only;rw[L _ _ _ I]
      by_cases A:k % 2=0
      ·by_cases z:k/2=m/2
       ·have:k=m:=by omega
        simp[A,z,this,G]
       have:k≠m:=by omega
       simp[A,z,this]
      have:k≠m:=by omega
      simp[A,this]
    have e:Nat.beq (Nat.mod m 2) 0=false:=by rw[←Pr,uD];exact G
    rw[e];show(Tr.node l v (Tr.ui f r (m/2) a)).get k=_;rw[Tr.uZ,Tr.uZ]
    cases k with
    |zero=>simp
    |succ k=>
     simp only;rw[L _ _ _ I]
     by_cases A:k % 2=0
     ·have:k≠m:=by omega
      simp[A,this]
     by_cases z:k/2=m/2
     ·have:k=m:=by omega
      simp[A,z,this,G]
     have:k≠m:=by omega
     simp[A,z,this]
theorem Tr.df{α:Type}(t:Tr α)(n k:Nat)(a:α):(t.set n a).get k=if k=n then some a else t.get k:=
 Tr.get_setF a _ t n k (ze n)
def ch{β:Type}(n:Nat)(k:Nat→β):β:=Nat.rec (motive:=fun _=>β) (k 0) (fun m _=>k (Nat.succ m)) n
theorem fc{β:Type}(n:Nat)(k:Nat→β):ch n k=k n:=by cases n<;>rfl
def mb{β:Type}(i:Int)(k:Int→β):β:=
 Int.rec (motive:=fun _=>β) (fun m=>ch m fun m=>k (.ofNat m)) (fun m=>ch m fun m=>k (.negSucc m)) i
theorem xj{β:Type}(n:Int)(k:Int→β):mb n k=k n:=by cases n<;>simp[mb,fc]
end Go.Ev
