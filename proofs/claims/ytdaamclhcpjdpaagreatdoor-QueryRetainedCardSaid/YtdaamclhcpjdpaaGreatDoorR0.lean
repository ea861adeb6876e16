/- Part 0 of rules for walks through the code of a program, and of such walks; what each part proves is said by its theorems. -/
import Derived.Orders
set_option linter.unusedVariables false
set_option linter.unusedSimpArgs false
noncomputable section
set_option maxRecDepth 100000
set_option maxHeartbeats 4000000
namespace Go.Ev
abbrev eK:= @decide_eq_true_eq
abbrev ij:= @decide_eq_false_iff_not
abbrev gZ:= @Bool.not_eq_true'
abbrev oz:= @Bool.not_eq_false'
abbrev fQ:= @Int.ofNat_eq_natCast
abbrev OF:= @Bool.not_eq_true
abbrev ui:= @Nat.beq_eq
abbrev wb:= @Nat.lt_succ_self
abbrev bh:= @if_pos
abbrev aZ:= @if_neg
abbrev ye:= @Nat.mod_lt
abbrev bq:= @Nat.le_refl
abbrev aS:= @Nat.le_of_ble_eq_true
abbrev o8:= @List.eq_nil_of_length_eq_zero
abbrev DS:= @List.cons_append
abbrev Iy:= @List.getElem?_take
abbrev Iz:= @List.getElem?_drop
abbrev eB:= @Option.some.injEq
abbrev fW:= @Bool.false_eq_true
abbrev eZ:= @Nat.le_trans
abbrev jg:= @Nat.lt_of_lt_of_le
abbrev gF:= @Nat.ble_eq_true_of_le
abbrev kp:= @Int.negSucc_eq
abbrev cq:= @Nat.eq_of_beq_eq_true
abbrev rR:= @List.mem_cons
abbrev A5:= @Nat.le_succ
abbrev yf:= @Array.getD_eq_getD_getElem?
abbrev yg:= @Bool.eq_iff_iff
abbrev gr:= @List.length_cons
abbrev Nv:= @Nat.pow_succ
abbrev kr:= @Nat.add_assoc
abbrev qC:= @Nat.mul_comm
abbrev DT:= @List.take_append_drop
abbrev lF:= @List.length_take
abbrev DU:= @Nat.mod_eq_of_lt
abbrev mq:= @List.take_of_length_le
abbrev lm36:= @Nat.pow_one
abbrev IA:= @List.drop_eq_getElem_cons
abbrev A6:= @Nat.one_mul
abbrev IB:= @UInt8.lt_iff_toNat_lt
abbrev gS:= @Iff.rfl
abbrev UK:= @Nat.lt_trichotomy
abbrev o9:= @Array.length_toList
abbrev UL:= @Array.toList_extract
abbrev ahp:= @List.extract_eq_take_drop
abbrev tF:= @List.all_eq_true
abbrev DV:= @List.mem_of_mem_drop
abbrev yh:= @List.mem_of_mem_take
abbrev UM:= @Int.toNat_natCast
abbrev gT:= @Nat.zero_le
abbrev ku:= @Nat.add_mul
abbrev rS:= @Option.map_some
abbrev iH:= @Nat.mul_le_mul_right
abbrev tG:= @Nat.zero_mul
abbrev qD:= @Nat.add_zero
abbrev ID:= @Nat.sub_zero
abbrev UN:= @Array.getElem?_modify
abbrev UO:= @Array.getElem?_push
abbrev Nw:= @Nat.div_add_mod
abbrev fG:= @Nat.zero_add
abbrev UP:= @List.getElem?_of_mem
abbrev hZ:= @List.mem_of_getElem?
abbrev vz:= @List.getElem?_append_left
abbrev A7:= @List.getElem?_append_right
abbrev c7:= @List.getElem?_eq_getElem
abbrev Nx:= @List.take_zero
abbrev UQ:= @List.nil_append
abbrev UR:= @List.drop_of_length_le
abbrev Ny:= @List.append_nil
abbrev US:= @Nat.lt_or_ge
abbrev A8:= @List.getElem?_eq_none
abbrev IE:= @List.all_cons
abbrev cS:= @Bool.and_eq_true
abbrev Nz:= @List.getElem?_cons_succ
abbrev ahq:= @Nat.div_lt_iff_lt_mul
abbrev NA:= @Classical.em
abbrev ahr:= @Nat.le_mul_of_pos_right
abbrev NB:= @Array.size_append
abbrev NC:= @Array.getElem?_append_left
abbrev A9:= @Array.getElem?_eq_getElem
abbrev fA:= @List.length_append
abbrev UT:= @Nat.succ_pos
abbrev ahs:= @List.mem_append_left
abbrev UU:= @List.mem_append_right
abbrev ND:= @Nat.mul_one
abbrev yi:= @List.getElem?_map
abbrev jo:= @List.map_cons
abbrev yj:= @List.mem_append
abbrev UW:= @Option.toList_some
abbrev aht:= @List.mem_singleton
abbrev ahu:= @Array.toList_zipIdx
abbrev gu:= @List.mem_cons_self
abbrev m5:= @List.mem_cons_of_mem
abbrev NF:= @Array.getElem?_toList
abbrev yk:= @Nat.succ_mul
abbrev ia:= @Nat.beq_refl
abbrev m6:= @Bool.or_eq_true
abbrev NG:= @List.drop_drop
abbrev pb:= @List.map_append
abbrev pc:= @List.length_map
abbrev AB:= @List.map_nil
abbrev xC:= @List.cons.injEq
abbrev jF:= @List.length_nil
abbrev Mi:= @List.getD_eq_getElem?_getD
abbrev Mj:= @List.getElem?_cons_zero
abbrev Td:= @Option.getD_some
abbrev Mk:= @Nat.lt_or_eq_of_le
abbrev Dj:= @Classical.byContradiction
abbrev Hu:= @List.filter_cons_of_neg
abbrev AD:= @List.filter_cons_of_pos
abbrev Te:= @Array.getElem?_replicate
abbrev Tf:= @Array.mapM_eq_mapM_toList
abbrev afq:= @Nat.div_eq_of_lt
abbrev xD:= @List.take_succ_cons
abbrev rG:= @List.length_drop
abbrev Hv:= @Option.map_eq_some_iff
abbrev Ml:= @List.map_drop
abbrev Tg:= @List.map_take
abbrev Dk:= @Option.bind_eq_some_iff
abbrev vd:= @List.length_replicate
abbrev afr:= @List.getElem?_replicate
abbrev kN:= @List.length_set
abbrev Th:= @List.getElem?_set
abbrev Mm:= @List.length_range
abbrev Ti:= @List.map_map
abbrev Tj:= @List.getElem?_range
abbrev afs:= @Function.comp_apply
abbrev aft:= @Int.le_of_lt
abbrev lm128:= @Int.tdiv_eq_ediv_of_nonneg
abbrev afu:= @Int.tmod_eq_emod_of_nonneg
abbrev mb:= @Int.le_refl
abbrev Tk:= @List.mem_or_eq_of_mem_set
abbrev AE:= @Int.toNat_of_nonneg
abbrev Tl:= @Int.le_trans
abbrev Hw:= @List.getElem?_set_self
abbrev Dl:= @List.take_add_one
abbrev Mn:= @List.getElem?_set_ne
abbrev Mo:= @Option.some.inj
abbrev Mp:= @List.take_sublist
abbrev afv:= @List.set_append_right
abbrev lm140:= @Int.fdiv_eq_ediv_of_nonneg
abbrev Mq:= @List.getElem_take
abbrev Hx:= @And.left
abbrev Mr:= @Or.resolve_left
abbrev afw:= @Int.mul_le_mul_of_nonneg_left
abbrev Ms:= @Nat.le_add_right
theorem OG{p q:Prop}(h:p)(e:p=q:=by first|(simp only[eK,ij,gZ,oz,fQ];first|done|rfl)|rfl):q:=Eq.mp e h
theorem ao{p:Prop}(h:p:=by decide):p:=h
theorem ah{p:Prop}(h:p:=by omega):p:=h
theorem dz{p:Prop}(h:p:=by repeat(first|exact trivial|exact fun _=>⟨rfl,rfl⟩|exact fun h=>absurd h (by decide)|apply And.intro)):p:=h
inductive Tr(α:Type) where
 |leaf
 |node (l:Tr α) (v:Option α) (r:Tr α)
def Tr.get{α:Type}(t:Tr α):Nat→Option α:=
 Tr.rec (motive:=fun _=>Nat→Option α) (fun _=>none)
  (fun _ v _ z A n=>Nat.rec (motive:=fun _=>Option α) v
   (fun m _=>Bool.rec (motive:=fun _=>Option α) (A (Nat.div m 2)) (z (Nat.div m 2)) (Nat.beq (Nat.mod m 2) 0)) n) t
def Tr.seq{α β:Type}(t:Tr α)(k:Tr α→β):β:=
 Tr.rec (motive:=fun _=>β) (k .leaf) (fun l v r _ _=>k (.node l v r)) t
def Tr.tH{α:Type}(f:Nat):Tr α→Nat→α→Tr α:=
 Nat.rec (motive:=fun _=>Tr α→Nat→α→Tr α) (fun t _ _=>t)
  (fun _ z t n a=>
   Tr.rec (motive:=fun _=>Tr α)
    (Nat.rec (motive:=fun _=>Tr α) (.node .leaf (some a) .leaf)
     (fun m _=>Bool.rec (motive:=fun _=>Tr α)
      ((z .leaf (Nat.div m 2) a).seq fun r=>.node .leaf none r)
      ((z .leaf (Nat.div m 2) a).seq fun l=>.node l none .leaf) (Nat.beq (Nat.mod m 2) 0)) n)
    (fun l v r _ _=>Nat.rec (motive:=fun _=>Tr α) (.node l (some a) r)
     (fun m _=>Bool.rec (motive:=fun _=>Tr α)
      ((z r (Nat.div m 2) a).seq fun r=>.node l v r)
      ((z l (Nat.div m 2) a).seq fun l=>.node l v r) (Nat.beq (Nat.mod m 2) 0)) n) t) f
def Tr.set{α:Type}(t:Tr α)(n:Nat)(a:α):Tr α:=Tr.tH (Nat.succ n) t n a
theorem Tr.seq_eq{α β:Type}(t:Tr α)(k:Tr α→β):t.seq k=k t:=by cases t<;>rfl
theorem Tr.uH{α:Type}(n:Nat):(Tr.leaf:Tr α).get n=none:=rfl
theorem Tr.uI{α:Type}(l r:Tr α)(v:Option α)(n:Nat):(Tr.node l v r).get n=
  match n with
  |0=>v
  |m+1=>if m % 2=0 then l.get (m/2) else r.get (m/2):=by
 cases n with
 |zero=>rfl
 |succ m=>
  show Bool.rec (motive:=fun _=>Option α) (r.get (m/2)) (l.get (m/2)) (Nat.beq (m % 2) 0)=_
  by_cases h:m % 2=0
  ·simp[h]
  have:Nat.beq (m % 2) 0=false:=by rw[←OF,ui];exact h
  simp[h,this]
theorem Tr.get_setF{α:Type}(a:α):∀(f:Nat)(t:Tr α)(n k:Nat),n<f→
  (Tr.tH f t n a).get k=if k=n then some a else t.get k:=by
 intro f
 induction f with
 |zero=>intro t n k h;omega
 |succ f L=>
  intro t n k h
  cases t with
  |leaf=>
   cases n with
   |zero=>
    show(Tr.node .leaf (some a) .leaf).get k=_;rw[Tr.uI]
    cases k with
    |zero=>simp
    |succ k=>simp[Tr.uH]
   |succ m=>
    show(Bool.rec (motive:=fun _=>Tr α)
      ((Tr.tH f .leaf (Nat.div m 2) a).seq fun r=>.node .leaf none r)
      ((Tr.tH f .leaf (Nat.div m 2) a).seq fun l=>.node l none .leaf) (Nat.beq (Nat.mod m 2) 0):Tr α).get k=_
    have I:m/2<f:=by omega
    rw[Tr.seq_eq,Tr.seq_eq]
    by_cases G:m % 2=0
    ·have e:Nat.beq (Nat.mod m 2) 0=true:=by rw[ui];exact G
     rw[e];show(Tr.node (Tr.tH f .leaf (m/2) a) none .leaf).get k=_;rw[Tr.uI]
     cases k with
     |zero=>simp[Tr.uH]
     |succ k=>
      simp only[Tr.uH];rw[L _ _ _ I,Tr.uH]
      by_cases A:k % 2=0
      ·by_cases z:k/2=m/2
       ·have:k=m:=by omega
        simp[A,z,this,G]
       have:k≠m:=by omega
       simp[A,z,this]
      have:k≠m:=by omega
      simp[A,this]
    have e:Nat.beq (Nat.mod m 2) 0=false:=by rw[←OF,ui];exact G
    rw[e];show(Tr.node .leaf none (Tr.tH f .leaf (m/2) a)).get k=_;rw[Tr.uI]
    cases k with
    |zero=>simp[Tr.uH]
    |succ k=>
     simp only[Tr.uH];rw[L _ _ _ I,Tr.uH]
     by_cases A:k % 2=0
     ·have:k≠m:=by omega
      simp[A,this]
     by_cases z:k/2=m/2
     ·have:k=m:=by omega
      simp[A,z,this,G]
     have:k≠m:=by omega
     simp[A,z,this]
  |node l v r=>
   cases n with
   |zero=>
    show(Tr.node l (some a) r).get k=_;rw[Tr.uI,Tr.uI]
    cases k with
    |zero=>simp
    |succ k=>simp
   |succ m=>
    show(Bool.rec (motive:=fun _=>Tr α)
      ((Tr.tH f r (Nat.div m 2) a).seq fun r=>.node l v r)
      ((Tr.tH f l (Nat.div m 2) a).seq fun l=>.node l v r) (Nat.beq (Nat.mod m 2) 0):Tr α).get k=_
    have I:m/2<f:=by omega
    rw[Tr.seq_eq,Tr.seq_eq]
    by_cases G:m % 2=0
    ·have e:Nat.beq (Nat.mod m 2) 0=true:=by rw[ui];exact G
     rw[e];show(Tr.node (Tr.tH f l (m/2) a) v r).get k=_;rw[Tr.uI,Tr.uI]
     cases k with
     |zero=>simp
     |succ k=>
      simp only;rw[L _ _ _ I]
      by_cases A:k % 2=0
      ·by_cases z:k/2=m/2
       ·have:k=m:=by omega
        simp[A,z,this,G]
       have:k≠m:=by omega
       simp[A,z,this]
      have:k≠m:=by omega
      simp[A,this]
    have e:Nat.beq (Nat.mod m 2) 0=false:=by rw[←OF,ui];exact G
    rw[e];show(Tr.node l v (Tr.tH f r (m/2) a)).get k=_;rw[Tr.uI,Tr.uI]
    cases k with
    |zero=>simp
    |succ k=>
     simp only;rw[L _ _ _ I]
     by_cases A:k % 2=0
     ·have:k≠m:=by omega
      simp[A,this]
     by_cases z:k/2=m/2
     ·have:k=m:=by omega
      simp[A,z,this,G]
     have:k≠m:=by omega
     simp[A,z,this]
theorem Tr.di{α:Type}(t:Tr α)(n k:Nat)(a:α):(t.set n a).get k=if k=n then some a else t.get k:=
 Tr.get_setF a _ t n k (wb n)
def ct{β:Type}(n:Nat)(k:Nat→β):β:=Nat.rec (motive:=fun _=>β) (k 0) (fun m _=>k (Nat.succ m)) n
theorem fK{β:Type}(n:Nat)(k:Nat→β):ct n k=k n:=by cases n<;>rfl
def lq{β:Type}(i:Int)(k:Int→β):β:=
 Int.rec (motive:=fun _=>β) (fun m=>ct m fun m=>k (.ofNat m)) (fun m=>ct m fun m=>k (.negSucc m)) i
theorem wK{β:Type}(n:Int)(k:Int→β):lq n k=k n:=by cases n<;>simp[lq,fK]
end Go.Ev
