/- Part 0 of rules for walks through the code of a program, and of such walks; what each part proves is said by its theorems. -/
import Derived.Orders
set_option linter.unusedVariables false
set_option linter.unusedSimpArgs false
noncomputable section
set_option maxRecDepth 100000
set_option maxHeartbeats 4000000
namespace Go.Ev
abbrev eW:= @decide_eq_true_eq
abbrev gM:= @decide_eq_false_iff_not
abbrev gx:= @Bool.not_eq_true'
abbrev mq:= @Bool.not_eq_false'
abbrev gj:= @Int.ofNat_eq_natCast
abbrev O0:= @Bool.not_eq_true
abbrev uh:= @Nat.beq_eq
abbrev yX:= @Nat.lt_succ_self
abbrev bg:= @if_pos
abbrev aZ:= @if_neg
abbrev A8:= @Nat.mod_lt
abbrev bf:= @Nat.le_refl
abbrev aX:= @Nat.le_of_ble_eq_true
abbrev sb:= @List.eq_nil_of_length_eq_zero
abbrev A9:= @List.cons_append
abbrev A':= @List.getElem?_take
abbrev Ip:= @List.getElem?_drop
abbrev eC:= @Option.some.injEq
abbrev gU:= @Bool.false_eq_true
abbrev eO:= @Nat.le_trans
abbrev jh:= @Nat.lt_of_lt_of_le
abbrev gn:= @Nat.ble_eq_true_of_le
abbrev kT:= @Int.negSucc_eq
abbrev cU:= @Nat.eq_of_beq_eq_true
abbrev sd:= @List.mem_cons
abbrev Ba:= @Nat.le_succ
abbrev yl:= @Array.getD_eq_getD_getElem?
abbrev ym:= @Bool.eq_iff_iff
abbrev gF:= @List.length_cons
abbrev Nl:= @Nat.pow_succ
abbrev kU:= @Nat.add_assoc
abbrev qM:= @Nat.mul_comm
abbrev yn:= @List.take_append_drop
abbrev ju:= @List.length_take
abbrev D3:= @Nat.mod_eq_of_lt
abbrev pF:= @List.take_of_length_le
abbrev lm36:= @Nat.pow_one
abbrev vD:= @List.drop_eq_getElem_cons
abbrev Bc:= @Nat.one_mul
abbrev Iq:= @UInt8.lt_iff_toNat_lt
abbrev ga:= @Iff.rfl
abbrev Vr:= @Nat.lt_trichotomy
abbrev qP:= @Array.length_toList
abbrev Vt:= @Array.toList_extract
abbrev aiw:= @List.extract_eq_take_drop
abbrev tQ:= @List.all_eq_true
abbrev D4:= @List.mem_of_mem_drop
abbrev D5:= @List.mem_of_mem_take
abbrev yo:= @Int.toNat_natCast
abbrev hZ:= @Nat.zero_le
abbrev kW:= @Nat.add_mul
abbrev sf:= @Option.map_some
abbrev iS:= @Nat.mul_le_mul_right
abbrev qQ:= @Nat.zero_mul
abbrev tR:= @Nat.add_zero
abbrev Ir:= @Nat.sub_zero
abbrev aix:= @Array.getElem?_modify
abbrev Vu:= @Array.getElem?_push
abbrev Nm:= @Nat.div_add_mod
abbrev fh:= @Nat.zero_add
abbrev Vv:= @List.getElem?_of_mem
abbrev nJ:= @List.mem_of_getElem?
abbrev sg:= @List.getElem?_append_left
abbrev qR:= @List.getElem?_append_right
abbrev dm:= @List.getElem?_eq_getElem
abbrev Nn:= @List.take_zero
abbrev Bd:= @List.nil_append
abbrev No:= @List.drop_of_length_le
abbrev Np:= @List.append_nil
abbrev yp:= @List.getElem?_eq_none
abbrev Is:= @List.all_cons
abbrev cN:= @Bool.and_eq_true
abbrev Nq:= @List.getElem?_cons_succ
abbrev aiy:= @Nat.div_lt_iff_lt_mul
abbrev Vw:= @Classical.em
abbrev aiz:= @Nat.le_mul_of_pos_right
abbrev Vx:= @Array.size_append
abbrev Vy:= @Array.getElem?_append_left
abbrev Be:= @Array.getElem?_eq_getElem
abbrev eT:= @List.length_append
abbrev Nr:= @Nat.succ_pos
abbrev Vz:= @List.mem_append_left
abbrev Ns:= @List.mem_append_right
abbrev VA:= @Nat.mul_one
abbrev yq:= @List.getElem?_map
abbrev jv:= @List.map_cons
abbrev yt:= @List.mem_append
abbrev Iu:= @Option.toList_some
abbrev VB:= @List.mem_singleton
abbrev aiA:= @Array.toList_zipIdx
abbrev jw:= @List.mem_cons_self
abbrev pG:= @List.mem_cons_of_mem
abbrev VF:= @Array.getElem?_toList
abbrev vE:= @Nat.succ_mul
abbrev gG:= @Nat.beq_refl
abbrev oN:= @Bool.or_eq_true
abbrev Nt:= @List.drop_drop
abbrev oO:= @List.map_append
abbrev pH:= @List.length_map
abbrev D7:= @List.map_nil
abbrev Di:= @List.cons.injEq
abbrev jK:= @List.length_nil
abbrev Mf:= @List.getD_eq_getElem?_getD
abbrev TY:= @Nat.sub_self
abbrev Mg:= @List.getElem?_cons_zero
abbrev TZ:= @Option.getD_some
abbrev Mh:= @Nat.lt_or_eq_of_le
abbrev AG:= @Classical.byContradiction
abbrev AH:= @List.filter_cons_of_neg
abbrev vk:= @List.filter_cons_of_pos
abbrev T0:= @Array.getElem?_replicate
abbrev agv:= @List.length_filter_le
abbrev T1:= @Array.mapM_eq_mapM_toList
abbrev agw:= @Nat.div_eq_of_lt
abbrev xK:= @List.take_succ_cons
abbrev qz:= @List.length_drop
abbrev Hh:= @Option.map_eq_some_iff
abbrev Mi:= @List.map_drop
abbrev T2:= @List.map_take
abbrev Dj:= @Option.bind_eq_some_iff
abbrev rS:= @List.length_replicate
abbrev T3:= @List.getElem?_replicate
abbrev lA:= @List.length_set
abbrev Mj:= @List.getElem?_set
abbrev agx:= @List.set_cons_zero
abbrev agy:= @List.set_cons_succ
abbrev Mk:= @List.length_range
abbrev agz:= @Nat.min_self
abbrev T5:= @List.map_map
abbrev T6:= @List.getElem?_range
abbrev agA:= @Function.comp_apply
abbrev lm131:= @Int.tdiv_eq_ediv_of_nonneg
abbrev T7:= @Int.tmod_eq_emod_of_nonneg
abbrev qA:= @Int.le_refl
abbrev AI:= @Int.toNat_of_nonneg
abbrev T8:= @Int.le_trans
abbrev Ml:= @List.getElem?_set_self
abbrev oC:= @List.take_add_one
abbrev T9:= @List.getElem?_set_ne
abbrev Dk:= @List.filter_append
abbrev lm140:= @List.take_append_of_le_length
abbrev agB:= @List.append_assoc
abbrev T':= @List.take_sublist
abbrev agC:= @List.mem_map_of_mem
abbrev lm144:= @Int.fdiv_eq_ediv_of_nonneg
abbrev agD:= @List.length_singleton
abbrev lm146:= @List.set_getElem_self
abbrev Mm:= @Nat.le_add_right
abbrev agE:= @List.perm_append_singleton
abbrev Mn:= @Or.resolve_left
abbrev agF:= @Int.mul_le_mul_of_nonneg_left
theorem yY{p q:Prop}(h:p)(e:p=q:=by first|(simp only[eW,gM,gx,mq,gj];first|done|rfl)|rfl):q:=Eq.mp e h
theorem ao{p:Prop}(h:p:=by decide):p:=h
theorem al{p:Prop}(h:p:=by omega):p:=h
theorem dr{p:Prop}(h:p:=by repeat(first|exact trivial|exact fun _=>⟨rfl,rfl⟩|exact fun h=>absurd h (by decide)|apply And.intro)):p:=h
inductive Tr(α:Type) where
 |leaf
 |node (l:Tr α) (v:Option α) (r:Tr α)
def Tr.get{α:Type}(t:Tr α):Nat→Option α:=
 Tr.rec (motive:=fun _=>Nat→Option α) (fun _=>none)
  (fun _ v _ z A n=>Nat.rec (motive:=fun _=>Option α) v
   (fun m _=>Bool.rec (motive:=fun _=>Option α) (A (Nat.div m 2)) (z (Nat.div m 2)) (Nat.beq (Nat.mod m 2) 0)) n) t
def Tr.seq{α β:Type}(t:Tr α)(k:Tr α→β):β:=
 Tr.rec (motive:=fun _=>β) (k .leaf) (fun l v r _ _=>k (.node l v r)) t
def Tr.tT{α:Type}(f:Nat):Tr α→Nat→α→Tr α:=
 Nat.rec (motive:=fun _=>Tr α→Nat→α→Tr α) (fun t _ _=>t)
  (fun _ z t n a=>
   Tr.rec (motive:=fun _=>Tr α)
    (Nat.rec (motive:=fun _=>Tr α) (.node .leaf (some a) .leaf)
     (fun m _=>Bool.rec (motive:=fun _=>Tr α)
      ((z .leaf (Nat.div m 2) a).seq fun r=>.node .leaf none r)
      ((z .leaf (Nat.div m 2) a).seq fun l=>.node l none .leaf) (Nat.beq (Nat.mod m 2) 0)) n)
    (fun l v r _ _=>Nat.rec (motive:=fun _=>Tr α) (.node l (some a) r)
     (fun m _=>Bool.rec (motive:=fun _=>Tr α)
      ((z r (Nat.div m 2) a).seq fun r=>.node l v r)
      ((z l (Nat.div m 2) a).seq fun l=>.node l v r) (Nat.beq (Nat.mod m 2) 0)) n) t) f
def Tr.set{α:Type}(t:Tr α)(n:Nat)(a:α):Tr α:=Tr.tT (Nat.succ n) t n a
theorem Tr.seq_eq{α β:Type}(t:Tr α)(k:Tr α→β):t.seq k=k t:=by cases t<;>rfl
theorem Tr.uK{α:Type}(n:Nat):(Tr.leaf:Tr α).get n=none:=rfl
theorem Tr.uL{α:Type}(l r:Tr α)(v:Option α)(n:Nat):(Tr.node l v r).get n=
  match n with
  |0=>v
  |m+1=>if m % 2=0 then l.get (m/2) else r.get (m/2):=by
 cases n with
 |zero=>rfl
 |succ m=>
  show Bool.rec (motive:=fun _=>Option α) (r.get (m/2)) (l.get (m/2)) (Nat.beq (m % 2) 0)=_
  by_cases h:m % 2=0
  ·simp[h]
  have:Nat.beq (m % 2) 0=false:=by rw[←O0,uh];exact h
  simp[h,this]
theorem Tr.get_setF{α:Type}(a:α):∀(f:Nat)(t:Tr α)(n k:Nat),n<f→
  (Tr.tT f t n a).get k=if k=n then some a else t.get k:=by
 intro f
 induction f with
 |zero=>intro t n k h;omega
 |succ f L=>
  intro t n k h
  cases t with
  |leaf=>
   cases n with
   |zero=>
    show(Tr.node .leaf (some a) .leaf).get k=_;rw[Tr.uL]
    cases k with
    |zero=>simp
    |succ k=>simp[Tr.uK]
   |succ m=>
    show(Bool.rec (motive:=fun _=>Tr α)
      ((Tr.tT f .leaf (Nat.div m 2) a).seq fun r=>.node .leaf none r)
      ((Tr.tT f .leaf (Nat.div m 2) a).seq fun l=>.node l none .leaf) (Nat.beq (Nat.mod m 2) 0):Tr α).get k=_
    have I:m/2<f:=by omega
    rw[Tr.seq_eq,Tr.seq_eq]
    by_cases G:m % 2=0
    ·have e:Nat.beq (Nat.mod m 2) 0=true:=by rw[uh];exact G
     rw[e];show(Tr.node (Tr.tT f .leaf (m/2) a) none .leaf).get k=_;rw[Tr.uL]
     cases k with
     |zero=>simp[Tr.uK]
     |succ k=>
      simp only[Tr.uK];rw[L _ _ _ I,Tr.uK]
      by_cases A:k % 2=0
      ·by_cases z:k/2=m/2
       ·have:k=m:=by omega
        simp[A,z,this,G]
       have:k≠m:=by omega
       simp[A,z,this]
      have:k≠m:=by omega
      simp[A,this]
    have e:Nat.beq (Nat.mod m 2) 0=false:=by rw[←O0,uh];exact G
    rw[e];show(Tr.node .leaf none (Tr.tT f .leaf (m/2) a)).get k=_;rw[Tr.uL]
    cases k with
    |zero=>simp[Tr.uK]
    |succ k=>
     simp only[Tr.uK];rw[L _ _ _ I,Tr.uK]
     by_cases A:k % 2=0
     ·have:k≠m:=by omega
      simp[A,this]
     by_cases z:k/2=m/2
     ·have:k=m:=by omega
      simp[A,z,this,G]
     have:k≠m:=by omega
     simp[A,z,this]
  |node l v r=>
   cases n with
   |zero=>
    show(Tr.node l (some a) r).get k=_;rw[Tr.uL,Tr.uL]
    cases k with
    |zero=>simp
    |succ k=>simp
   |succ m=>
    show(Bool.rec (motive:=fun _=>Tr α)
      ((Tr.tT f r (Nat.div m 2) a).seq fun r=>.node l v r)
      ((Tr.tT f l (Nat.div m 2) a).seq fun l=>.node l v r) (Nat.beq (Nat.mod m 2) 0):Tr α).get k=_
    have I:m/2<f:=by omega
    rw[Tr.seq_eq,Tr.seq_eq]
    by_cases G:m % 2=0
    ·have e:Nat.beq (Nat.mod m 2) 0=true:=by rw[uh];exact G
     rw[e];show(Tr.node (Tr.tT f l (m/2) a) v r).get k=_;rw[Tr.uL,Tr.uL]
     cases k with
     |zero=>simp
     |succ k=>
      simp only;rw[L _ _ _ I]
      by_cases A:k % 2=0
      ·by_cases z:k/2=m/2
       ·have:k=m:=by omega
        simp[A,z,this,G]
       have:k≠m:=by omega
       simp[A,z,this]
      have:k≠m:=by omega
      simp[A,this]
    have e:Nat.beq (Nat.mod m 2) 0=false:=by rw[←O0,uh];exact G
    rw[e];show(Tr.node l v (Tr.tT f r (m/2) a)).get k=_;rw[Tr.uL,Tr.uL]
    cases k with
    |zero=>simp
    |succ k=>
     simp only;rw[L _ _ _ I]
     by_cases A:k % 2=0
     ·have:k≠m:=by omega
      simp[A,this]
     by_cases z:k/2=m/2
     ·have:k=m:=by omega
      simp[A,z,this,G]
     have:k≠m:=by omega
     simp[A,z,this]
theorem Tr.da{α:Type}(t:Tr α)(n k:Nat)(a:α):(t.set n a).get k=if k=n then some a else t.get k:=
 Tr.get_setF a _ t n k (yX n)
def cm{β:Type}(n:Nat)(k:Nat→β):β:=Nat.rec (motive:=fun _=>β) (k 0) (fun m _=>k (Nat.succ m)) n
theorem fy{β:Type}(n:Nat)(k:Nat→β):cm n k=k n:=by cases n<;>rfl
def lS{β:Type}(i:Int)(k:Int→β):β:=
 Int.rec (motive:=fun _=>β) (fun m=>cm m fun m=>k (.ofNat m)) (fun m=>cm m fun m=>k (.negSucc m)) i
theorem wW{β:Type}(n:Int)(k:Int→β):lS n k=k n:=by cases n<;>simp[lS,fy]
end Go.Ev
