/- Part 0 of rules for walks through the code of a program, and of such walks; what each part proves is said by its theorems. -/
import Derived.Orders
set_option linter.unusedVariables false
set_option linter.unusedSimpArgs false
namespace Go.Ev
abbrev FI:= @Bool.not_eq_true
abbrev rP:= @Nat.beq_eq
abbrev gh:= @Nat.lt_succ_self
abbrev aw:= @if_pos
abbrev aj:= @if_neg
abbrev jR:= @Nat.mod_lt
abbrev tc:= @List.eq_nil_of_length_eq_zero
abbrev yV:= @List.cons_append
abbrev Bm:= @List.getElem?_take
abbrev td:= @List.getElem?_drop
abbrev gP:= @Option.some.injEq
abbrev p9:= @Bool.false_eq_true
abbrev bV:= @Nat.le_refl
abbrev j7:= @Nat.le_trans
abbrev mI:= @Nat.lt_of_lt_of_le
abbrev bO:= @Nat.le_of_ble_eq_true
abbrev jN:= @Nat.ble_eq_true_of_le
abbrev lV:= @Int.negSucc_eq
abbrev bb:= @Int.ofNat_eq_natCast
abbrev eb:= @Nat.eq_of_beq_eq_true
abbrev p':= @List.mem_cons
abbrev sM:= @Nat.le_succ
abbrev uW:= @Array.getD_eq_getD_getElem?
abbrev gg:= @Bool.eq_iff_iff
abbrev cP:= @List.length_cons
abbrev yz:= @Nat.pow_succ
abbrev mX:= @Nat.add_assoc
abbrev AT:= @Nat.mul_assoc
abbrev mY:= @Nat.mul_comm
abbrev E3:= @List.take_append_drop
abbrev jw:= @List.length_take
abbrev AU:= @Nat.mod_eq_of_lt
abbrev pf:= @List.take_of_length_le
abbrev AV:= @Nat.pow_le_pow_right
abbrev AW:= @Nat.pow_one
abbrev AX:= @List.drop_eq_getElem_cons
abbrev sN:= @Nat.one_mul
abbrev AY:= @UInt8.lt_iff_toNat_lt
abbrev fC:= @decide_eq_false_iff_not
abbrev Iu:= @Nat.lt_trichotomy
abbrev nx:= @Array.length_toList
abbrev Iv:= @Array.toList_extract
abbrev Pa:= @List.extract_eq_take_drop
abbrev E4:= @List.all_eq_true
abbrev E5:= @List.mem_of_mem_drop
abbrev AZ:= @List.mem_of_mem_take
abbrev E6:= @Int.toNat_natCast
abbrev da:= @Nat.zero_le
abbrev sO:= @Option.map_some
abbrev ny:= @Nat.add_mul
abbrev Iw:= @Array.getElem?_modify
abbrev Ix:= @Array.getElem?_push
abbrev E7:= @Nat.div_add_mod
abbrev jx:= @Nat.zero_add
abbrev Iy:= @List.getElem?_of_mem
abbrev kY:= @List.mem_of_getElem?
abbrev qI:= @List.getElem?_append_left
abbrev wv:= @List.getElem?_append_right
abbrev kZ:= @Nat.mul_le_mul_right
abbrev eP:= @List.getElem?_eq_getElem
abbrev Iz:= @List.take_zero
abbrev E8:= @List.nil_append
abbrev yA:= @List.append_nil
abbrev E9:= @List.getElem?_eq_none
abbrev wx:= @Nat.add_zero
abbrev Fa:= @List.all_cons
abbrev fc:= @Bool.and_eq_true
abbrev IA:= @List.getElem?_cons_succ
abbrev Pb:= @Nat.div_lt_iff_lt_mul
abbrev IB:= @Nat.le_mul_of_pos_right
abbrev Fb:= @Array.size_append
abbrev Fc:= @Nat.sub_zero
abbrev Fe:= @Array.getElem?_append_left
abbrev wy:= @Array.getElem?_eq_getElem
abbrev bC:= @List.length_append
abbrev rJ:= @Nat.zero_mul
abbrev ID:= @Nat.succ_pos
abbrev Pc:= @List.mem_append_left
abbrev IE:= @List.mem_append_right
abbrev IF:= @Nat.mul_one
abbrev im:= @List.getElem?_map
abbrev eF:= @List.map_cons
abbrev sP:= @List.mem_append
abbrev Pd:= @Array.toList_zipIdx
abbrev kG:= @List.mem_cons_self
abbrev nZ:= @List.mem_cons_of_mem
abbrev Pe:= @Array.getElem?_toList
abbrev Ff:= @Nat.succ_mul
abbrev IG:= @Nat.add_sub_cancel_left
abbrev iR:= @Nat.beq_refl
abbrev uX:= @Bool.or_eq_true
abbrev Fg:= @List.drop_drop
abbrev dr:= @List.map_append
abbrev bZ:= @List.length_map
abbrev fH:= @List.map_nil
abbrev yB:= @List.cons.injEq
abbrev IH:= @Bool.not_eq_true'
abbrev e6:= @decide_eq_true_eq
abbrev dx:= @List.length_nil
abbrev Fh:= @List.getD_eq_getElem?_getD
abbrev Ar:= @Nat.lt_or_eq_of_le
abbrev v7:= @Nat.le_of_lt_succ
abbrev uj:= @Classical.byContradiction
abbrev As:= @List.filter_cons_of_neg
abbrev v8:= @List.filter_cons_of_pos
abbrev HO:= @Array.getElem?_replicate
abbrev HP:= @Array.mapM_eq_mapM_toList
abbrev NJ:= @Nat.div_eq_of_lt
abbrev wa:= @List.take_succ_cons
abbrev gy:= @List.length_drop
abbrev Dx:= @Option.map_eq_some_iff
abbrev HQ:= @List.map_drop
abbrev At:= @Option.bind_eq_some_iff
abbrev WA:= @List.length_replicate
abbrev WB:= @List.getElem?_replicate
abbrev WC:= @List.length_set
abbrev HR:= @Nat.add_sub_cancel
abbrev HS:= @List.length_range
abbrev HU:= @List.drop_length
abbrev Dy:= @List.map_map
abbrev NK:= @List.getElem?_range
abbrev xW:= @List.take_add_one
abbrev xX:= @List.foldl_append
abbrev pX:= @List.cons_ne_nil
abbrev mR:= @Nat.succ_le_succ
abbrev j0:= @Nat.le_add_right
abbrev mE:= @List.append_ne_nil_of_left_ne_nil
abbrev dU:= @List.length_singleton
abbrev HV:= @List.take_length
abbrev wb:= @Option.some.inj
abbrev HW:= @Nat.not_lt_zero
abbrev HX:= @List.getElem_of_mem
abbrev HY:= @List.takeWhile_cons
abbrev HZ:= @List.drop_eq_nil_of_le
abbrev NL:= @List.singleton_append
abbrev xY:= @Nat.le_of_lt
abbrev NM:= @Nat.lt_of_succ_lt_succ
inductive Tr(α:Type) where
 |leaf
 |node (l:Tr α) (v:Option α) (r:Tr α)
noncomputable def Tr.get{α:Type}(t:Tr α):Nat→Option α:=
 Tr.rec (motive:=fun _=>Nat→Option α) (fun _=>none)
  (fun _ v _ z A n=>Nat.rec (motive:=fun _=>Option α) v
   (fun m _=>Bool.rec (motive:=fun _=>Option α) (A (Nat.div m 2)) (z (Nat.div m 2)) (Nat.beq (Nat.mod m 2) 0)) n) t
noncomputable def Tr.seq{α β:Type}(t:Tr α)(k:Tr α→β):β:=
 Tr.rec (motive:=fun _=>β) (k .leaf) (fun l v r _ _=>k (.node l v r)) t
noncomputable def Tr.rK{α:Type}(f:Nat):Tr α→Nat→α→Tr α:=
 Nat.rec (motive:=fun _=>Tr α→Nat→α→Tr α) (fun t _ _=>t)
  (fun _ z t n a=>
   Tr.rec (motive:=fun _=>Tr α)
    (Nat.rec (motive:=fun _=>Tr α) (.node .leaf (some a) .leaf)
     (fun m _=>Bool.rec (motive:=fun _=>Tr α)
      ((z .leaf (Nat.div m 2) a).seq fun r=>.node .leaf none r)
      ((z .leaf (Nat.div m 2) a).seq fun l=>.node l none .leaf) (Nat.beq (Nat.mod m 2) 0)) n)
    (fun l v r _ _=>Nat.rec (motive:=fun _=>Tr α) (.node l (some a) r)
     (fun m _=>Bool.rec (motive:=fun _=>Tr α)
      ((z r (Nat.div m 2) a).seq fun r=>.node l v r)
      ((z l (Nat.div m 2) a).seq fun l=>.node l v r) (Nat.beq (Nat.mod m 2) 0)) n) t) f
noncomputable def Tr.set{α:Type}(t:Tr α)(n:Nat)(a:α):Tr α:=Tr.rK (Nat.succ n) t n a
theorem Tr.seq_eq{α β:Type}(t:Tr α)(k:Tr α→β):t.seq k=k t:=by cases t<;>rfl
theorem Tr.tO{α:Type}(n:Nat):(Tr.leaf:Tr α).get n=none:=rfl
theorem Tr.sb{α:Type}(l r:Tr α)(v:Option α)(n:Nat):(Tr.node l v r).get n=
  match n with
  |0=>v
  |m+1=>if m % 2=0 then l.get (m/2) else r.get (m/2):=by
 cases n with
 |zero=>rfl
 |succ m=>
  show Bool.rec (motive:=fun _=>Option α) (r.get (m/2)) (l.get (m/2)) (Nat.beq (m % 2) 0)=_
  by_cases h:m % 2=0
  ·simp[h]
  have:Nat.beq (m % 2) 0=false:=by rw[←FI,rP];exact h
  simp[h,this]
theorem Tr.Tb{α:Type}(a:α):∀(f:Nat)(t:Tr α)(n k:Nat),n<f→
  (Tr.rK f t n a).get k=if k=n then some a else t.get k:=by
 intro f
 induction f with
 |zero=>intro t n k h;omega
 |succ f G=>
  intro t n k h
  cases t with
  |leaf=>
   cases n with
   |zero=>
    show(Tr.node .leaf (some a) .leaf).get k=_
    rw[Tr.sb]
    cases k with
    |zero=>simp
    |succ k=>simp[Tr.tO]
   |succ m=>
    show(Bool.rec (motive:=fun _=>Tr α)
      ((Tr.rK f .leaf (Nat.div m 2) a).seq fun r=>.node .leaf none r)
      ((Tr.rK f .leaf (Nat.div m 2) a).seq fun l=>.node l none .leaf) (Nat.beq (Nat.mod m 2) 0):Tr α).get k=_
    have A:m/2<f:=by omega
    rw[Tr.seq_eq,Tr.seq_eq]
    by_cases hp:m % 2=0
    ·have e:Nat.beq (Nat.mod m 2) 0=true:=by rw[rP];exact hp
     rw[e]
     show(Tr.node (Tr.rK f .leaf (m/2) a) none .leaf).get k=_
     rw[Tr.sb]
     cases k with
     |zero=>simp[Tr.tO]
     |succ k=>
      simp only[Tr.tO]
      rw[G _ _ _ A,Tr.tO]
      by_cases hk:k % 2=0
      ·by_cases z:k/2=m/2
       ·have:k=m:=by omega
        simp[hk,z,this,hp]
       have:k≠m:=by omega
       simp[hk,z,this]
      have:k≠m:=by omega
      simp[hk,this]
    have e:Nat.beq (Nat.mod m 2) 0=false:=by rw[←FI,rP];exact hp
    rw[e]
    show(Tr.node .leaf none (Tr.rK f .leaf (m/2) a)).get k=_
    rw[Tr.sb]
    cases k with
    |zero=>simp[Tr.tO]
    |succ k=>
     simp only[Tr.tO]
     rw[G _ _ _ A,Tr.tO]
     by_cases hk:k % 2=0
     ·have:k≠m:=by omega
      simp[hk,this]
     by_cases z:k/2=m/2
     ·have:k=m:=by omega
      simp[hk,z,this,hp]
     have:k≠m:=by omega
     simp[hk,z,this]
  |node l v r=>
   cases n with
   |zero=>
    show(Tr.node l (some a) r).get k=_
    rw[Tr.sb,Tr.sb]
    cases k with
    |zero=>simp
    |succ k=>simp
   |succ m=>
    show(Bool.rec (motive:=fun _=>Tr α)
      ((Tr.rK f r (Nat.div m 2) a).seq fun r=>.node l v r)
      ((Tr.rK f l (Nat.div m 2) a).seq fun l=>.node l v r) (Nat.beq (Nat.mod m 2) 0):Tr α).get k=_
    have A:m/2<f:=by omega
    rw[Tr.seq_eq,Tr.seq_eq]
    by_cases hp:m % 2=0
    ·have e:Nat.beq (Nat.mod m 2) 0=true:=by rw[rP];exact hp
     rw[e]
     show(Tr.node (Tr.rK f l (m/2) a) v r).get k=_
     rw[Tr.sb,Tr.sb]
     cases k with
     |zero=>simp
     |succ k=>
      simp only
      rw[G _ _ _ A]
      by_cases hk:k % 2=0
      ·by_cases z:k/2=m/2
       ·have:k=m:=by omega
        simp[hk,z,this,hp]
       have:k≠m:=by omega
       simp[hk,z,this]
      have:k≠m:=by omega
      simp[hk,this]
    have e:Nat.beq (Nat.mod m 2) 0=false:=by rw[←FI,rP];exact hp
    rw[e]
    show(Tr.node l v (Tr.rK f r (m/2) a)).get k=_
    rw[Tr.sb,Tr.sb]
    cases k with
    |zero=>simp
    |succ k=>
     simp only
     rw[G _ _ _ A]
     by_cases hk:k % 2=0
     ·have:k≠m:=by omega
      simp[hk,this]
     by_cases z:k/2=m/2
     ·have:k=m:=by omega
      simp[hk,z,this,hp]
     have:k≠m:=by omega
     simp[hk,z,this]
theorem Tr.eY{α:Type}(t:Tr α)(n k:Nat)(a:α):(t.set n a).get k=if k=n then some a else t.get k:=
 Tr.Tb a _ t n k (gh n)
noncomputable def dk{β:Type}(n:Nat)(k:Nat→β):β:=Nat.rec (motive:=fun _=>β) (k 0) (fun m _=>k (Nat.succ m)) n
theorem ij{β:Type}(n:Nat)(k:Nat→β):dk n k=k n:=by cases n<;>rfl
noncomputable def ll{β:Type}(i:Int)(k:Int→β):β:=
 Int.rec (motive:=fun _=>β) (fun m=>dk m fun m=>k (.ofNat m)) (fun m=>dk m fun m=>k (.negSucc m)) i
theorem r9{β:Type}(n:Int)(k:Int→β):ll n k=k n:=by cases n<;>simp[ll,ij]
end Go.Ev
