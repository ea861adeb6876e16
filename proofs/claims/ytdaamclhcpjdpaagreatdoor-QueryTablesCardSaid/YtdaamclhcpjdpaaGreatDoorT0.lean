/- Part 0 of rules for walks through the code of a program, and of such walks; what each part proves is said by its theorems. -/
import Derived.Orders
set_option linter.unusedVariables false
set_option linter.unusedSimpArgs false
noncomputable section
set_option maxRecDepth 100000
set_option maxHeartbeats 4000000
namespace Go.Ev
abbrev fy:= @decide_eq_true_eq
abbrev im:= @decide_eq_false_iff_not
abbrev hO:= @Bool.not_eq_true'
abbrev ov:= @Bool.not_eq_false'
abbrev fW:= @Int.ofNat_eq_natCast
abbrev OS:= @Bool.not_eq_true
abbrev uf:= @Nat.beq_eq
abbrev wB:= @Nat.lt_succ_self
abbrev bj:= @if_pos
abbrev aZ:= @if_neg
abbrev BD:= @Nat.mod_lt
abbrev bt:= @Nat.le_refl
abbrev aV:= @Nat.le_of_ble_eq_true
abbrev o0:= @List.eq_nil_of_length_eq_zero
abbrev El:= @List.cons_append
abbrev IH:= @List.getElem?_take
abbrev II:= @List.getElem?_drop
abbrev eA:= @Option.some.injEq
abbrev gK:= @Bool.false_eq_true
abbrev eZ:= @Nat.le_trans
abbrev jj:= @Nat.lt_of_lt_of_le
abbrev gW:= @Nat.ble_eq_true_of_le
abbrev kG:= @Int.negSucc_eq
abbrev cD:= @Nat.eq_of_beq_eq_true
abbrev rJ:= @List.mem_cons
abbrev BE:= @Nat.le_succ
abbrev yw:= @Array.getD_eq_getD_getElem?
abbrev yy:= @Bool.eq_iff_iff
abbrev gy:= @List.length_cons
abbrev NF:= @Nat.pow_succ
abbrev kH:= @Nat.add_assoc
abbrev qu:= @Nat.mul_comm
abbrev IJ:= @List.take_append_drop
abbrev m6:= @List.length_take
abbrev Em:= @Nat.mod_eq_of_lt
abbrev o5:= @List.take_of_length_le
abbrev lm36:= @Nat.pow_one
abbrev NG:= @List.drop_eq_getElem_cons
abbrev BF:= @Nat.one_mul
abbrev IK:= @UInt8.lt_iff_toNat_lt
abbrev iG:= @Iff.rfl
abbrev Vk:= @Nat.lt_trichotomy
abbrev o6:= @Array.length_toList
abbrev Vl:= @Array.toList_extract
abbrev ahH:= @List.extract_eq_take_drop
abbrev tz:= @List.all_eq_true
abbrev En:= @List.mem_of_mem_drop
abbrev Eo:= @List.mem_of_mem_take
abbrev Vm:= @Int.toNat_natCast
abbrev gX:= @Nat.zero_le
abbrev kI:= @Nat.add_mul
abbrev rK:= @Option.map_some
abbrev iH:= @Nat.mul_le_mul_right
abbrev tA:= @Nat.zero_mul
abbrev qv:= @Nat.add_zero
abbrev IL:= @Nat.sub_zero
abbrev Vn:= @Array.getElem?_modify
abbrev Vo:= @Array.getElem?_push
abbrev NH:= @Nat.div_add_mod
abbrev fM:= @Nat.zero_add
abbrev Vp:= @List.getElem?_of_mem
abbrev qw:= @List.mem_of_getElem?
abbrev tB:= @List.getElem?_append_left
abbrev vH:= @List.getElem?_append_right
abbrev dm:= @List.getElem?_eq_getElem
abbrev NI:= @List.take_zero
abbrev IM:= @List.nil_append
abbrev ahI:= @List.drop_of_length_le
abbrev NJ:= @List.append_nil
abbrev yz:= @List.getElem?_eq_none
abbrev IN:= @List.all_cons
abbrev cU:= @Bool.and_eq_true
abbrev NK:= @List.getElem?_cons_succ
abbrev ahJ:= @Nat.div_lt_iff_lt_mul
abbrev Vq:= @Classical.em
abbrev ahK:= @Nat.le_mul_of_pos_right
abbrev NL:= @Array.size_append
abbrev NM:= @Array.getElem?_append_left
abbrev BG:= @Array.getElem?_eq_getElem
abbrev fv:= @List.length_append
abbrev Vr:= @Nat.succ_pos
abbrev ahL:= @List.mem_append_left
abbrev Vt:= @List.mem_append_right
abbrev NN:= @Nat.mul_one
abbrev yA:= @List.getElem?_map
abbrev jz:= @List.map_cons
abbrev yB:= @List.mem_append
abbrev Vu:= @Option.toList_some
abbrev ahM:= @List.mem_singleton
abbrev ahN:= @Array.toList_zipIdx
abbrev iI:= @List.mem_cons_self
abbrev mu:= @List.mem_cons_of_mem
abbrev NO:= @Array.getElem?_toList
abbrev yC:= @Nat.succ_mul
abbrev ij:= @Nat.beq_refl
abbrev m8:= @Bool.or_eq_true
abbrev NP:= @List.drop_drop
abbrev lK:= @List.map_append
abbrev n6:= @List.length_map
abbrev BH:= @List.map_nil
abbrev vg:= @List.cons.injEq
abbrev jP:= @List.length_nil
abbrev MB:= @List.getD_eq_getElem?_getD
abbrev MC:= @List.getElem?_cons_zero
abbrev TH:= @Option.getD_some
abbrev MD:= @Nat.lt_or_eq_of_le
abbrev HD:= @Classical.byContradiction
abbrev HE:= @List.filter_cons_of_neg
abbrev Bd:= @List.filter_cons_of_pos
abbrev TI:= @Array.getElem?_replicate
abbrev TJ:= @Array.mapM_eq_mapM_toList
abbrev afI:= @Nat.div_eq_of_lt
abbrev vh:= @List.take_succ_cons
abbrev rA:= @List.length_drop
abbrev HF:= @Option.map_eq_some_iff
abbrev ME:= @List.map_drop
abbrev TK:= @List.map_take
abbrev DO:= @Option.bind_eq_some_iff
abbrev vi:= @List.length_replicate
abbrev afJ:= @List.getElem?_replicate
abbrev mU:= @List.length_set
abbrev TL:= @List.getElem?_set
abbrev MF:= @List.length_range
abbrev TN:= @List.map_map
abbrev TO:= @List.getElem?_range
abbrev afK:= @Function.comp_apply
abbrev lm127:= @Int.tdiv_eq_ediv_of_nonneg
abbrev afL:= @Int.tmod_eq_emod_of_nonneg
abbrev vk:= @Int.le_refl
abbrev vl:= @Int.toNat_of_nonneg
abbrev TP:= @Int.le_trans
abbrev afM:= @List.getElem?_set_self
abbrev Be:= @List.take_add_one
abbrev TQ:= @List.map_singleton
abbrev TR:= @List.append_assoc
abbrev TS:= @List.take_sublist
abbrev afN:= @List.set_append_right
abbrev lm138:= @Int.fdiv_eq_ediv_of_nonneg
abbrev MG:= @Or.resolve_left
abbrev afO:= @Int.mul_le_mul_of_nonneg_left
abbrev MH:= @Nat.le_add_right
theorem OT{p q:Prop}(h:p)(e:p=q:=by first|(simp only[fy,im,hO,ov,fW];first|done|rfl)|rfl):q:=Eq.mp e h
theorem au{p:Prop}(h:p:=by decide):p:=h
theorem aq{p:Prop}(h:p:=by omega):p:=h
theorem dx{p:Prop}(h:p:=by repeat(first|exact trivial|exact fun _=>⟨rfl,rfl⟩|exact fun h=>absurd h (by decide)|apply And.intro)):p:=h
inductive Tr(α:Type) where
 |leaf
 |node (l:Tr α) (v:Option α) (r:Tr α)
def Tr.get{α:Type}(t:Tr α):Nat→Option α:=
 Tr.rec (motive:=fun _=>Nat→Option α) (fun _=>none)
  (fun _ v _ z A n=>Nat.rec (motive:=fun _=>Option α) v
   (fun m _=>Bool.rec (motive:=fun _=>Option α) (A (Nat.div m 2)) (z (Nat.div m 2)) (Nat.beq (Nat.mod m 2) 0)) n) t
def Tr.seq{α β:Type}(t:Tr α)(k:Tr α→β):β:=
 Tr.rec (motive:=fun _=>β) (k .leaf) (fun l v r _ _=>k (.node l v r)) t
def Tr.tC{α:Type}(f:Nat):Tr α→Nat→α→Tr α:=
 Nat.rec (motive:=fun _=>Tr α→Nat→α→Tr α) (fun t _ _=>t)
  (fun _ z t n a=>
   Tr.rec (motive:=fun _=>Tr α)
    (Nat.rec (motive:=fun _=>Tr α) (.node .leaf (some a) .leaf)
     (fun m _=>Bool.rec (motive:=fun _=>Tr α)
      ((z .leaf (Nat.div m 2) a).seq fun r=>.node .leaf none r)
      ((z .leaf (Nat.div m 2) a).seq fun l=>.node l none .leaf) (Nat.beq (Nat.mod m 2) 0)) n)
    (fun l v r _ _=>Nat.rec (motive:=fun _=>Tr α) (.node l (some a) r)
     (fun m _=>Bool.rec (motive:=fun _=>Tr α)
      ((z r (Nat.div m 2) a).seq fun r=>.node l v r)
      ((z l (Nat.div m 2) a).seq fun l=>.node l v r) (Nat.beq (Nat.mod m 2) 0)) n) t) f
def Tr.set{α:Type}(t:Tr α)(n:Nat)(a:α):Tr α:=Tr.tC (Nat.succ n) t n a
theorem Tr.seq_eq{α β:Type}(t:Tr α)(k:Tr α→β):t.seq k=k t:=by cases t<;>rfl
theorem Tr.uE{α:Type}(n:Nat):(Tr.leaf:Tr α).get n=none:=rfl
theorem Tr.uF{α:Type}(l r:Tr α)(v:Option α)(n:Nat):(Tr.node l v r).get n=
  match n with
  |0=>v
  |m+1=>if m % 2=0 then l.get (m/2) else r.get (m/2):=by
 cases n with
 |zero=>rfl
 |succ m=>
  show Bool.rec (motive:=fun _=>Option α) (r.get (m/2)) (l.get (m/2)) (Nat.beq (m % 2) 0)=_
  by_cases h:m % 2=0
  ·simp[h]
  have:Nat.beq (m % 2) 0=false:=by rw[←OS,uf];exact h
  simp[h,this]
theorem Tr.get_setF{α:Type}(a:α):∀(f:Nat)(t:Tr α)(n k:Nat),n<f→
  (Tr.tC f t n a).get k=if k=n then some a else t.get k:=by
 intro f
 induction f with
 |zero=>intro t n k h;omega
 |succ f L=>
  intro t n k h
  cases t with
  |leaf=>
   cases n with
   |zero=>
    show(Tr.node .leaf (some a) .leaf).get k=_;rw[Tr.uF]
    cases k with
    |zero=>simp
    |succ k=>simp[Tr.uE]
   |succ m=>
    show(Bool.rec (motive:=fun _=>Tr α)
      ((Tr.tC f .leaf (Nat.div m 2) a).seq fun r=>.node .leaf none r)
      ((Tr.tC f .leaf (Nat.div m 2) a).seq fun l=>.node l none .leaf) (Nat.beq (Nat.mod m 2) 0):Tr α).get k=_
    have I:m/2<f:=by omega
    rw[Tr.seq_eq,Tr.seq_eq]
    by_cases G:m % 2=0
    ·have e:Nat.beq (Nat.mod m 2) 0=true:=by rw[uf];exact G
     rw[e];show(Tr.node (Tr.tC f .leaf (m/2) a) none .leaf).get k=_;rw[Tr.uF]
     cases k with
     |zero=>simp[Tr.uE]
     |succ k=>
      simp only[Tr.uE];rw[L _ _ _ I,Tr.uE]
      by_cases A:k % 2=0
      ·by_cases z:k/2=m/2
       ·have:k=m:=by omega
        simp[A,z,this,G]
       have:k≠m:=by omega
       simp[A,z,this]
      have:k≠m:=by omega
      simp[A,this]
    have e:Nat.beq (Nat.mod m 2) 0=false:=by rw[←OS,uf];exact G
    rw[e];show(Tr.node .leaf none (Tr.tC f .leaf (m/2) a)).get k=_;rw[Tr.uF]
    cases k with
    |zero=>simp[Tr.uE]
    |succ k=>
     simp only[Tr.uE];rw[L _ _ _ I,Tr.uE]
     by_cases A:k % 2=0
     ·have:k≠m:=by omega
      simp[A,this]
     by_cases z:k/2=m/2
     ·have:k=m:=by omega
      simp[A,z,this,G]
     have:k≠m:=by omega
     simp[A,z,this]
  |node l v r=>
   cases n with
   |zero=>
    show(Tr.node l (some a) r).get k=_;rw[Tr.uF,Tr.uF]
    cases k with
    |zero=>simp
    |succ k=>simp
   |succ m=>
    show(Bool.rec (motive:=fun _=>Tr α)
      ((Tr.tC f r (Nat.div m 2) a).seq fun r=>.node l v r)
      ((Tr.tC f l (Nat.div m 2) a).seq fun l=>.node l v r) (Nat.beq (Nat.mod m 2) 0):Tr α).get k=_
    have I:m/2<f:=by omega
    rw[Tr.seq_eq,Tr.seq_eq]
    by_cases G:m % 2=0
    ·have e:Nat.beq (Nat.mod m 2) 0=true:=by rw[uf];exact G
     rw[e];show(Tr.node (Tr.tC f l (m/2) a) v r).get k=_;rw[Tr.uF,Tr.uF]
     cases k with
     |zero=>simp
     |succ k=>
      simp only;rw[L _ _ _ I]
      by_cases A:k % 2=0
      ·by_cases z:k/2=m/2
       ·have:k=m:=by omega
        simp[A,z,this,G]
       have:k≠m:=by omega
       simp[A,z,this]
      have:k≠m:=by omega
      simp[A,this]
    have e:Nat.beq (Nat.mod m 2) 0=false:=by rw[←OS,uf];exact G
    rw[e];show(Tr.node l v (Tr.tC f r (m/2) a)).get k=_;rw[Tr.uF,Tr.uF]
    cases k with
    |zero=>simp
    |succ k=>
     simp only;rw[L _ _ _ I]
     by_cases A:k % 2=0
     ·have:k≠m:=by omega
      simp[A,this]
     by_cases z:k/2=m/2
     ·have:k=m:=by omega
      simp[A,z,this,G]
     have:k≠m:=by omega
     simp[A,z,this]
theorem Tr.dn{α:Type}(t:Tr α)(n k:Nat)(a:α):(t.set n a).get k=if k=n then some a else t.get k:=
 Tr.get_setF a _ t n k (wB n)
def cL{β:Type}(n:Nat)(k:Nat→β):β:=Nat.rec (motive:=fun _=>β) (k 0) (fun m _=>k (Nat.succ m)) n
theorem fQ{β:Type}(n:Nat)(k:Nat→β):cL n k=k n:=by cases n<;>rfl
def lq{β:Type}(i:Int)(k:Int→β):β:=
 Int.rec (motive:=fun _=>β) (fun m=>cL m fun m=>k (.ofNat m)) (fun m=>cL m fun m=>k (.negSucc m)) i
theorem wV{β:Type}(n:Int)(k:Int→β):lq n k=k n:=by cases n<;>simp[lq,fQ]
end Go.Ev
