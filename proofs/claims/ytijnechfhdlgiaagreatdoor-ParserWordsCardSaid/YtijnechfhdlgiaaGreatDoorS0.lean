/- Part 0 of rules for walks through the code of a program, and of such walks; what each part proves is said by its theorems. -/
import Derived.Orders
set_option linter.unusedVariables false
set_option linter.unusedSimpArgs false
namespace Go.Ev
abbrev EW:= @Bool.not_eq_true
abbrev rD:= @Nat.beq_eq
abbrev fZ:= @Nat.lt_succ_self
abbrev aw:= @if_pos
abbrev aj:= @if_neg
abbrev wz:= @Nat.mod_lt
abbrev sS:= @List.eq_nil_of_length_eq_zero
abbrev yA:= @List.cons_append
abbrev A0:= @List.getElem?_take
abbrev sT:= @List.getElem?_drop
abbrev gJ:= @Option.some.injEq
abbrev pU:= @Bool.false_eq_true
abbrev bY:= @Nat.le_refl
abbrev jT:= @Nat.le_trans
abbrev mw:= @Nat.lt_of_lt_of_le
abbrev bW:= @Nat.le_of_ble_eq_true
abbrev jz:= @Nat.ble_eq_true_of_le
abbrev lF:= @Int.negSucc_eq
abbrev bb:= @Int.ofNat_eq_natCast
abbrev dZ:= @Nat.eq_of_beq_eq_true
abbrev pV:= @List.mem_cons
abbrev sw:= @Nat.le_succ
abbrev uK:= @Array.getD_eq_getD_getElem?
abbrev fS:= @Bool.eq_iff_iff
abbrev dk:= @List.length_cons
abbrev ye:= @Nat.pow_succ
abbrev nd:= @Nat.add_assoc
abbrev Aw:= @Nat.mul_assoc
abbrev mL:= @Nat.mul_comm
abbrev Ei:= @List.take_append_drop
abbrev nf:= @List.length_take
abbrev Ax:= @Nat.mod_eq_of_lt
abbrev qu:= @List.take_of_length_le
abbrev Ay:= @Nat.pow_le_pow_right
abbrev Az:= @Nat.pow_one
abbrev AA:= @List.drop_eq_getElem_cons
abbrev sz:= @Nat.one_mul
abbrev AB:= @UInt8.lt_iff_toNat_lt
abbrev fw:= @decide_eq_false_iff_not
abbrev HG:= @Nat.lt_trichotomy
abbrev ng:= @Array.length_toList
abbrev HH:= @Array.toList_extract
abbrev Ov:= @List.extract_eq_take_drop
abbrev Ej:= @List.all_eq_true
abbrev Ow:= @List.mem_of_mem_drop
abbrev HI:= @List.mem_of_mem_take
abbrev Ek:= @Int.toNat_natCast
abbrev df:= @Nat.zero_le
abbrev sA:= @Option.map_some
abbrev nN:= @Nat.add_mul
abbrev HJ:= @Array.getElem?_modify
abbrev HK:= @Array.getElem?_push
abbrev El:= @Nat.div_add_mod
abbrev jA:= @Nat.zero_add
abbrev HL:= @List.getElem?_of_mem
abbrev lG:= @List.mem_of_getElem?
abbrev qv:= @List.getElem?_append_left
abbrev v8:= @List.getElem?_append_right
abbrev kN:= @Nat.mul_le_mul_right
abbrev eY:= @List.getElem?_eq_getElem
abbrev HM:= @List.take_zero
abbrev Em:= @List.nil_append
abbrev yf:= @List.append_nil
abbrev En:= @List.getElem?_eq_none
abbrev yg:= @Nat.add_zero
abbrev Eo:= @List.all_cons
abbrev eZ:= @Bool.and_eq_true
abbrev HN:= @List.getElem?_cons_succ
abbrev Ox:= @Nat.div_lt_iff_lt_mul
abbrev HO:= @Nat.le_mul_of_pos_right
abbrev Ep:= @Array.size_append
abbrev Er:= @Nat.sub_zero
abbrev Et:= @Array.getElem?_append_left
abbrev wa:= @Array.getElem?_eq_getElem
abbrev bK:= @List.length_append
abbrev rq:= @Nat.zero_mul
abbrev HP:= @Nat.succ_pos
abbrev Oy:= @List.mem_append_left
abbrev HQ:= @List.mem_append_right
abbrev HR:= @Nat.mul_one
abbrev iw:= @List.getElem?_map
abbrev eB:= @List.map_cons
abbrev sB:= @List.mem_append
abbrev Oz:= @Array.toList_zipIdx
abbrev lh:= @List.mem_cons_self
abbrev nO:= @List.mem_cons_of_mem
abbrev OA:= @Array.getElem?_toList
abbrev Eu:= @Nat.succ_mul
abbrev HS:= @Nat.add_sub_cancel_left
abbrev iX:= @Nat.beq_refl
abbrev uL:= @Bool.or_eq_true
abbrev Ew:= @List.drop_drop
abbrev dT:= @List.map_append
abbrev cC:= @List.length_map
abbrev fy:= @List.map_nil
abbrev yh:= @List.cons.injEq
abbrev HU:= @Bool.not_eq_true'
abbrev eV:= @decide_eq_true_eq
abbrev dO:= @List.length_nil
abbrev Ey:= @List.getD_eq_getElem?_getD
abbrev z1:= @Nat.lt_or_eq_of_le
abbrev vN:= @Nat.le_of_lt_succ
abbrev t7:= @Classical.byContradiction
abbrev z6:= @List.filter_cons_of_neg
abbrev vO:= @List.filter_cons_of_pos
abbrev G5:= @Array.getElem?_replicate
abbrev G6:= @Array.mapM_eq_mapM_toList
abbrev M1:= @Nat.div_eq_of_lt
abbrev xD:= @List.take_succ_cons
abbrev iL:= @List.length_drop
abbrev CU:= @Option.map_eq_some_iff
abbrev z7:= @Option.bind_eq_some_iff
abbrev VW:= @List.length_replicate
abbrev VX:= @List.getElem?_replicate
abbrev VY:= @List.length_set
abbrev G7:= @Nat.add_sub_cancel
abbrev G8:= @List.length_range
abbrev G9:= @List.drop_length
abbrev CV:= @List.map_map
abbrev M3:= @List.getElem?_range
abbrev xE:= @List.take_add_one
abbrev xF:= @List.foldl_append
abbrev pO:= @List.cons_ne_nil
abbrev mG:= @Nat.succ_le_succ
abbrev jQ:= @Nat.le_add_right
abbrev mo:= @List.append_ne_nil_of_left_ne_nil
abbrev eK:= @List.length_singleton
abbrev G':= @List.take_length
abbrev vP:= @Option.some.inj
abbrev Ha:= @Nat.not_lt_zero
abbrev Hb:= @List.getElem_of_mem
abbrev Hc:= @List.takeWhile_cons
abbrev Hd:= @List.drop_eq_nil_of_le
abbrev M4:= @List.singleton_append
abbrev xG:= @Nat.le_of_lt
inductive Tr(α:Type) where
 |leaf
 |node (l:Tr α) (v:Option α) (r:Tr α)
noncomputable def Tr.get{α:Type}(t:Tr α):Nat→Option α:=
 Tr.rec (motive:=fun _=>Nat→Option α) (fun _=>none)
  (fun _ v _ z A n=>Nat.rec (motive:=fun _=>Option α) v
   (fun m _=>Bool.rec (motive:=fun _=>Option α) (A (Nat.div m 2)) (z (Nat.div m 2)) (Nat.beq (Nat.mod m 2) 0)) n) t
noncomputable def Tr.seq{α β:Type}(t:Tr α)(k:Tr α→β):β:=
 Tr.rec (motive:=fun _=>β) (k .leaf) (fun l v r _ _=>k (.node l v r)) t
noncomputable def Tr.ru{α:Type}(f:Nat):Tr α→Nat→α→Tr α:=
 Nat.rec (motive:=fun _=>Tr α→Nat→α→Tr α) (fun t _ _=>t)
  (fun _ z t n a=>
   Tr.rec (motive:=fun _=>Tr α)
    (Nat.rec (motive:=fun _=>Tr α) (.node .leaf (some a) .leaf)
     (fun m _=>Bool.rec (motive:=fun _=>Tr α)
      ((z .leaf (Nat.div m 2) a).seq fun r=>.node .leaf none r)
      ((z .leaf (Nat.div m 2) a).seq fun l=>.node l none .leaf) (Nat.beq (Nat.mod m 2) 0)) n)
    (fun l v r _ _=>Nat.rec (motive:=fun _=>Tr α) (.node l (some a) r)
     (fun m _=>Bool.rec (motive:=fun _=>Tr α)
      ((z r (Nat.div m 2) a).seq fun r=>.node l v r)
      ((z l (Nat.div m 2) a).seq fun l=>.node l v r) (Nat.beq (Nat.mod m 2) 0)) n) t) f
noncomputable def Tr.set{α:Type}(t:Tr α)(n:Nat)(a:α):Tr α:=Tr.ru (Nat.succ n) t n a
theorem Tr.seq_eq{α β:Type}(t:Tr α)(k:Tr α→β):t.seq k=k t:=by cases t<;>rfl
theorem Tr.tw{α:Type}(n:Nat):(Tr.leaf:Tr α).get n=none:=rfl
theorem Tr.rS{α:Type}(l r:Tr α)(v:Option α)(n:Nat):(Tr.node l v r).get n=
  match n with
  |0=>v
  |m+1=>if m % 2=0 then l.get (m/2) else r.get (m/2):=by
 cases n with
 |zero=>rfl
 |succ m=>
  show Bool.rec (motive:=fun _=>Option α) (r.get (m/2)) (l.get (m/2)) (Nat.beq (m % 2) 0)=_
  by_cases h:m % 2=0
  ·simp[h]
  have:Nat.beq (m % 2) 0=false:=by rw[←EW,rD];exact h
  simp[h,this]
theorem Tr.Ss{α:Type}(a:α):∀(f:Nat)(t:Tr α)(n k:Nat),n<f→
  (Tr.ru f t n a).get k=if k=n then some a else t.get k:=by
 intro f
 induction f with
 |zero=>intro t n k h;omega
 |succ f G=>
  intro t n k h
  cases t with
  |leaf=>
   cases n with
   |zero=>
    show(Tr.node .leaf (some a) .leaf).get k=_
    rw[Tr.rS]
    cases k with
    |zero=>simp
    |succ k=>simp[Tr.tw]
   |succ m=>
    show(Bool.rec (motive:=fun _=>Tr α)
      ((Tr.ru f .leaf (Nat.div m 2) a).seq fun r=>.node .leaf none r)
      ((Tr.ru f .leaf (Nat.div m 2) a).seq fun l=>.node l none .leaf) (Nat.beq (Nat.mod m 2) 0):Tr α).get k=_
    have A:m/2<f:=by omega
    rw[Tr.seq_eq,Tr.seq_eq]
    by_cases hp:m % 2=0
    ·have e:Nat.beq (Nat.mod m 2) 0=true:=by rw[rD];exact hp
     rw[e]
     show(Tr.node (Tr.ru f .leaf (m/2) a) none .leaf).get k=_
     rw[Tr.rS]
     cases k with
     |zero=>simp[Tr.tw]
     |succ k=>
      simp only[Tr.tw]
      rw[G _ _ _ A,Tr.tw]
      by_cases hk:k % 2=0
      ·by_cases z:k/2=m/2
       ·have:k=m:=by omega
        simp[hk,z,this,hp]
       have:k≠m:=by omega
       simp[hk,z,this]
      have:k≠m:=by omega
      simp[hk,this]
    have e:Nat.beq (Nat.mod m 2) 0=false:=by rw[←EW,rD];exact hp
    rw[e]
    show(Tr.node .leaf none (Tr.ru f .leaf (m/2) a)).get k=_
    rw[Tr.rS]
    cases k with
    |zero=>simp[Tr.tw]
    |succ k=>
     simp only[Tr.tw]
     rw[G _ _ _ A,Tr.tw]
     by_cases hk:k % 2=0
     ·have:k≠m:=by omega
      simp[hk,this]
     by_cases z:k/2=m/2
     ·have:k=m:=by omega
      simp[hk,z,this,hp]
     have:k≠m:=by omega
     simp[hk,z,this]
  |node l v r=>
   cases n with
   |zero=>
    show(Tr.node l (some a) r).get k=_
    rw[Tr.rS,Tr.rS]
    cases k with
    |zero=>simp
    |succ k=>simp
   |succ m=>
    show(Bool.rec (motive:=fun _=>Tr α)
      ((Tr.ru f r (Nat.div m 2) a).seq fun r=>.node l v r)
      ((Tr.ru f l (Nat.div m 2) a).seq fun l=>.node l v r) (Nat.beq (Nat.mod m 2) 0):Tr α).get k=_
    have A:m/2<f:=by omega
    rw[Tr.seq_eq,Tr.seq_eq]
    by_cases hp:m % 2=0
    ·have e:Nat.beq (Nat.mod m 2) 0=true:=by rw[rD];exact hp
     rw[e]
     show(Tr.node (Tr.ru f l (m/2) a) v r).get k=_
     rw[Tr.rS,Tr.rS]
     cases k with
     |zero=>simp
     |succ k=>
      simp only
      rw[G _ _ _ A]
      by_cases hk:k % 2=0
      ·by_cases z:k/2=m/2
       ·have:k=m:=by omega
        simp[hk,z,this,hp]
       have:k≠m:=by omega
       simp[hk,z,this]
      have:k≠m:=by omega
      simp[hk,this]
    have e:Nat.beq (Nat.mod m 2) 0=false:=by rw[←EW,rD];exact hp
    rw[e]
    show(Tr.node l v (Tr.ru f r (m/2) a)).get k=_
    rw[Tr.rS,Tr.rS]
    cases k with
    |zero=>simp
    |succ k=>
     simp only
     rw[G _ _ _ A]
     by_cases hk:k % 2=0
     ·have:k≠m:=by omega
      simp[hk,this]
     by_cases z:k/2=m/2
     ·have:k=m:=by omega
      simp[hk,z,this,hp]
     have:k≠m:=by omega
     simp[hk,z,this]
theorem Tr.eU{α:Type}(t:Tr α)(n k:Nat)(a:α):(t.set n a).get k=if k=n then some a else t.get k:=
 Tr.Ss a _ t n k (fZ n)
noncomputable def dr{β:Type}(n:Nat)(k:Nat→β):β:=Nat.rec (motive:=fun _=>β) (k 0) (fun m _=>k (Nat.succ m)) n
theorem im{β:Type}(n:Nat)(k:Nat→β):dr n k=k n:=by cases n<;>rfl
noncomputable def kW{β:Type}(i:Int)(k:Int→β):β:=
 Int.rec (motive:=fun _=>β) (fun m=>dr m fun m=>k (.ofNat m)) (fun m=>dr m fun m=>k (.negSucc m)) i
theorem rQ{β:Type}(n:Int)(k:Int→β):kW n k=k n:=by cases n<;>simp[kW,im]
end Go.Ev
