/- Part 0 of rules for walks through the code of a program, and of such walks; what each part proves is said by its theorems. -/
import Derived.Orders
set_option linter.unusedVariables false
set_option linter.unusedSimpArgs false
namespace Go.Ev
abbrev ET:= @Bool.not_eq_true
abbrev rn:= @Nat.beq_eq
abbrev fS:= @Nat.lt_succ_self
abbrev aq:= @if_pos
abbrev aj:= @if_neg
abbrev yy:= @Nat.mod_lt
abbrev sG:= @List.eq_nil_of_length_eq_zero
abbrev yz:= @List.cons_append
abbrev A0:= @List.getElem?_take
abbrev sH:= @List.getElem?_drop
abbrev gO:= @Option.some.injEq
abbrev pR:= @Bool.false_eq_true
abbrev bY:= @Nat.le_refl
abbrev kb:= @Nat.le_trans
abbrev mn:= @Nat.lt_of_lt_of_le
abbrev bS:= @Nat.le_of_ble_eq_true
abbrev jA:= @Nat.ble_eq_true_of_le
abbrev lE:= @Int.negSucc_eq
abbrev aZ:= @Int.ofNat_eq_natCast
abbrev d8:= @Nat.eq_of_beq_eq_true
abbrev pS:= @List.mem_cons
abbrev si:= @Nat.le_succ
abbrev uG:= @Array.getD_eq_getD_getElem?
abbrev fQ:= @Bool.eq_iff_iff
abbrev dj:= @List.length_cons
abbrev yb:= @Nat.pow_succ
abbrev nf:= @Nat.add_assoc
abbrev Av:= @Nat.mul_assoc
abbrev mI:= @Nat.mul_comm
abbrev Eg:= @List.take_append_drop
abbrev ng:= @List.length_take
abbrev Aw:= @Nat.mod_eq_of_lt
abbrev qq:= @List.take_of_length_le
abbrev Ax:= @Nat.pow_le_pow_right
abbrev Ay:= @Nat.pow_one
abbrev Az:= @List.drop_eq_getElem_cons
abbrev sj:= @Nat.one_mul
abbrev AA:= @UInt8.lt_iff_toNat_lt
abbrev fq:= @decide_eq_false_iff_not
abbrev Hw:= @Nat.lt_trichotomy
abbrev nh:= @Array.length_toList
abbrev Hx:= @Array.toList_extract
abbrev Of:= @List.extract_eq_take_drop
abbrev Eh:= @List.all_eq_true
abbrev Og:= @List.mem_of_mem_drop
abbrev Hy:= @List.mem_of_mem_take
abbrev Ei:= @Int.toNat_natCast
abbrev dh:= @Nat.zero_le
abbrev uH:= @Option.map_some
abbrev nM:= @Nat.add_mul
abbrev Hz:= @Array.getElem?_modify
abbrev HA:= @Array.getElem?_push
abbrev Ej:= @Nat.div_add_mod
abbrev jS:= @Nat.zero_add
abbrev HB:= @List.getElem?_of_mem
abbrev lW:= @List.mem_of_getElem?
abbrev qs:= @List.getElem?_append_left
abbrev v7:= @List.getElem?_append_right
abbrev kN:= @Nat.mul_le_mul_right
abbrev eY:= @List.getElem?_eq_getElem
abbrev HC:= @List.take_zero
abbrev Ek:= @List.nil_append
abbrev yd:= @List.append_nil
abbrev El:= @List.getElem?_eq_none
abbrev ye:= @Nat.add_zero
abbrev Em:= @List.all_cons
abbrev fv:= @Bool.and_eq_true
abbrev HD:= @List.getElem?_cons_succ
abbrev Oh:= @Nat.div_lt_iff_lt_mul
abbrev HE:= @Nat.le_mul_of_pos_right
abbrev En:= @Array.size_append
abbrev Eo:= @Nat.sub_zero
abbrev Ep:= @Array.getElem?_append_left
abbrev v8:= @Array.getElem?_eq_getElem
abbrev bJ:= @List.length_append
abbrev re:= @Nat.zero_mul
abbrev HF:= @Nat.succ_pos
abbrev Oi:= @List.mem_append_left
abbrev HG:= @List.mem_append_right
abbrev HH:= @Nat.mul_one
abbrev iO:= @List.getElem?_map
abbrev ez:= @List.map_cons
abbrev sk:= @List.mem_append
abbrev Oj:= @Array.toList_zipIdx
abbrev lF:= @List.mem_cons_self
abbrev o0:= @List.mem_cons_of_mem
abbrev Ok:= @Array.getElem?_toList
abbrev HI:= @Nat.succ_mul
abbrev HJ:= @Nat.add_sub_cancel_left
abbrev iZ:= @Nat.beq_refl
abbrev uI:= @Bool.or_eq_true
abbrev Er:= @List.drop_drop
abbrev dX:= @List.map_append
abbrev cF:= @List.length_map
abbrev fw:= @List.map_nil
abbrev yf:= @List.cons.injEq
abbrev HK:= @Bool.not_eq_true'
abbrev eP:= @decide_eq_true_eq
abbrev dJ:= @List.length_nil
abbrev Et:= @List.getD_eq_getElem?_getD
abbrev zZ:= @Nat.lt_or_eq_of_le
abbrev vM:= @Nat.le_of_lt_succ
abbrev tM:= @Classical.byContradiction
abbrev z1:= @List.filter_cons_of_neg
abbrev vN:= @List.filter_cons_of_pos
abbrev GW:= @Array.getElem?_replicate
abbrev GX:= @Array.mapM_eq_mapM_toList
abbrev MP:= @Nat.div_eq_of_lt
abbrev xB:= @List.take_succ_cons
abbrev iL:= @List.length_drop
abbrev CS:= @Option.map_eq_some_iff
abbrev z6:= @Option.bind_eq_some_iff
abbrev Vx:= @List.length_replicate
abbrev Vy:= @List.getElem?_replicate
abbrev Vz:= @List.length_set
abbrev GY:= @Nat.add_sub_cancel
abbrev GZ:= @List.drop_length
abbrev MQ:= @List.getElem?_range
abbrev xC:= @List.take_add_one
abbrev xD:= @List.foldl_append
abbrev pK:= @List.cons_ne_nil
abbrev mD:= @Nat.succ_le_succ
abbrev jP:= @Nat.le_add_right
abbrev mh:= @List.append_ne_nil_of_left_ne_nil
abbrev eG:= @List.length_singleton
abbrev G0:= @List.take_length
abbrev vO:= @Option.some.inj
abbrev G1:= @Nat.not_lt_zero
abbrev G2:= @List.getElem_of_mem
abbrev G3:= @List.takeWhile_cons
abbrev G4:= @List.drop_eq_nil_of_le
abbrev MR:= @List.singleton_append
abbrev xE:= @Nat.le_of_lt
inductive Tr(α:Type) where
 |leaf
 |node (l:Tr α) (v:Option α) (r:Tr α)
noncomputable def Tr.get{α:Type}(t:Tr α):Nat→Option α:=
 Tr.rec (motive:=fun _=>Nat→Option α) (fun _=>none)
  (fun _ v _ z A n=>Nat.rec (motive:=fun _=>Option α) v
   (fun m _=>Bool.rec (motive:=fun _=>Option α) (A (Nat.div m 2)) (z (Nat.div m 2)) (Nat.beq (Nat.mod m 2) 0)) n) t
noncomputable def Tr.seq{α β:Type}(t:Tr α)(k:Tr α→β):β:=
 Tr.rec (motive:=fun _=>β) (k .leaf) (fun l v r _ _=>k (.node l v r)) t
noncomputable def Tr.rf{α:Type}(f:Nat):Tr α→Nat→α→Tr α:=
 Nat.rec (motive:=fun _=>Tr α→Nat→α→Tr α) (fun t _ _=>t)
  (fun _ z t n a=>
   Tr.rec (motive:=fun _=>Tr α)
    (Nat.rec (motive:=fun _=>Tr α) (.node .leaf (some a) .leaf)
     (fun m _=>Bool.rec (motive:=fun _=>Tr α)
      ((z .leaf (Nat.div m 2) a).seq fun r=>.node .leaf none r)
      ((z .leaf (Nat.div m 2) a).seq fun l=>.node l none .leaf) (Nat.beq (Nat.mod m 2) 0)) n)
    (fun l v r _ _=>Nat.rec (motive:=fun _=>Tr α) (.node l (some a) r)
     (fun m _=>Bool.rec (motive:=fun _=>Tr α)
      ((z r (Nat.div m 2) a).seq fun r=>.node l v r)
      ((z l (Nat.div m 2) a).seq fun l=>.node l v r) (Nat.beq (Nat.mod m 2) 0)) n) t) f
noncomputable def Tr.set{α:Type}(t:Tr α)(n:Nat)(a:α):Tr α:=Tr.rf (Nat.succ n) t n a
theorem Tr.seq_eq{α β:Type}(t:Tr α)(k:Tr α→β):t.seq k=k t:=by cases t<;>rfl
theorem Tr.tf{α:Type}(n:Nat):(Tr.leaf:Tr α).get n=none:=rfl
theorem Tr.rL{α:Type}(l r:Tr α)(v:Option α)(n:Nat):(Tr.node l v r).get n=
  match n with
  |0=>v
  |m+1=>if m % 2=0 then l.get (m/2) else r.get (m/2):=by
 cases n with
 |zero=>rfl
 |succ m=>
  show Bool.rec (motive:=fun _=>Option α) (r.get (m/2)) (l.get (m/2)) (Nat.beq (m % 2) 0)=_
  by_cases h:m % 2=0
  ·simp[h]
  have:Nat.beq (m % 2) 0=false:=by rw[←ET,rn];exact h
  simp[h,this]
theorem Tr.Se{α:Type}(a:α):∀(f:Nat)(t:Tr α)(n k:Nat),n<f→
  (Tr.rf f t n a).get k=if k=n then some a else t.get k:=by
 intro f
 induction f with
 |zero=>intro t n k h;omega
 |succ f G=>
  intro t n k h
  cases t with
  |leaf=>
   cases n with
   |zero=>
    show(Tr.node .leaf (some a) .leaf).get k=_
    rw[Tr.rL]
    cases k with
    |zero=>simp
    |succ k=>simp[Tr.tf]
   |succ m=>
    show(Bool.rec (motive:=fun _=>Tr α)
      ((Tr.rf f .leaf (Nat.div m 2) a).seq fun r=>.node .leaf none r)
      ((Tr.rf f .leaf (Nat.div m 2) a).seq fun l=>.node l none .leaf) (Nat.beq (Nat.mod m 2) 0):Tr α).get k=_
    have A:m/2<f:=by omega
    rw[Tr.seq_eq,Tr.seq_eq]
    by_cases hp:m % 2=0
    ·have e:Nat.beq (Nat.mod m 2) 0=true:=by rw[rn];exact hp
     rw[e]
     show(Tr.node (Tr.rf f .leaf (m/2) a) none .leaf).get k=_
     rw[Tr.rL]
     cases k with
     |zero=>simp[Tr.tf]
     |succ k=>
      simp only[Tr.tf]
      rw[G _ _ _ A,Tr.tf]
      by_cases hk:k % 2=0
      ·by_cases z:k/2=m/2
       ·have:k=m:=by omega
        simp[hk,z,this,hp]
       have:k≠m:=by omega
       simp[hk,z,this]
      have:k≠m:=by omega
      simp[hk,this]
    have e:Nat.beq (Nat.mod m 2) 0=false:=by rw[←ET,rn];exact hp
    rw[e]
    show(Tr.node .leaf none (Tr.rf f .leaf (m/2) a)).get k=_
    rw[Tr.rL]
    cases k with
    |zero=>simp[Tr.tf]
    |succ k=>
     simp only[Tr.tf]
     rw[G _ _ _ A,Tr.tf]
     by_cases hk:k % 2=0
     ·have:k≠m:=by omega
      simp[hk,this]
     by_cases z:k/2=m/2
     ·have:k=m:=by omega
      simp[hk,z,this,hp]
     have:k≠m:=by omega
     simp[hk,z,this]
  |node l v r=>
   cases n with
   |zero=>
    show(Tr.node l (some a) r).get k=_
    rw[Tr.rL,Tr.rL]
    cases k with
    |zero=>simp
    |succ k=>simp
   |succ m=>
    show(Bool.rec (motive:=fun _=>Tr α)
      ((Tr.rf f r (Nat.div m 2) a).seq fun r=>.node l v r)
      ((Tr.rf f l (Nat.div m 2) a).seq fun l=>.node l v r) (Nat.beq (Nat.mod m 2) 0):Tr α).get k=_
    have A:m/2<f:=by omega
    rw[Tr.seq_eq,Tr.seq_eq]
    by_cases hp:m % 2=0
    ·have e:Nat.beq (Nat.mod m 2) 0=true:=by rw[rn];exact hp
     rw[e]
     show(Tr.node (Tr.rf f l (m/2) a) v r).get k=_
     rw[Tr.rL,Tr.rL]
     cases k with
     |zero=>simp
     |succ k=>
      simp only
      rw[G _ _ _ A]
      by_cases hk:k % 2=0
      ·by_cases z:k/2=m/2
       ·have:k=m:=by omega
        simp[hk,z,this,hp]
       have:k≠m:=by omega
       simp[hk,z,this]
      have:k≠m:=by omega
      simp[hk,this]
    have e:Nat.beq (Nat.mod m 2) 0=false:=by rw[←ET,rn];exact hp
    rw[e]
    show(Tr.node l v (Tr.rf f r (m/2) a)).get k=_
    rw[Tr.rL,Tr.rL]
    cases k with
    |zero=>simp
    |succ k=>
     simp only
     rw[G _ _ _ A]
     by_cases hk:k % 2=0
     ·have:k≠m:=by omega
      simp[hk,this]
     by_cases z:k/2=m/2
     ·have:k=m:=by omega
      simp[hk,z,this,hp]
     have:k≠m:=by omega
     simp[hk,z,this]
theorem Tr.eO{α:Type}(t:Tr α)(n k:Nat)(a:α):(t.set n a).get k=if k=n then some a else t.get k:=
 Tr.Se a _ t n k (fS n)
noncomputable def dp{β:Type}(n:Nat)(k:Nat→β):β:=Nat.rec (motive:=fun _=>β) (k 0) (fun m _=>k (Nat.succ m)) n
theorem iq{β:Type}(n:Nat)(k:Nat→β):dp n k=k n:=by cases n<;>rfl
noncomputable def kV{β:Type}(i:Int)(k:Int→β):β:=
 Int.rec (motive:=fun _=>β) (fun m=>dp m fun m=>k (.ofNat m)) (fun m=>dp m fun m=>k (.negSucc m)) i
theorem rJ{β:Type}(n:Int)(k:Int→β):kV n k=k n:=by cases n<;>simp[kV,iq]
end Go.Ev
