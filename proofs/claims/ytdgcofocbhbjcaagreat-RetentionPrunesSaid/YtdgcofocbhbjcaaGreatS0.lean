/- Part 0 of rules for walks through the code of a program, and of such walks; what each part proves is said by its theorems. -/
import Derived.Orders
set_option linter.unusedVariables false
set_option linter.unusedSimpArgs false
noncomputable section
set_option maxRecDepth 100000
set_option maxHeartbeats 4000000
namespace Go.Ev
abbrev jA:= @decide_eq_true_eq
abbrev pF:= @decide_eq_false_iff_not
abbrev qK:= @Bool.not_eq_true'
abbrev zY:= @Bool.not_eq_false'
abbrev hT:= @Int.ofNat_eq_natCast
abbrev KR:= @Bool.not_eq_true
abbrev sn:= @Nat.beq_eq
abbrev wG:= @Nat.lt_succ_self
abbrev bE:= @if_pos
abbrev bw:= @if_neg
abbrev yE:= @Nat.mod_lt
abbrev bM:= @Nat.le_refl
abbrev aX:= @Nat.le_of_ble_eq_true
abbrev tm:= @List.eq_nil_of_length_eq_zero
abbrev yF:= @List.cons_append
abbrev yG:= @List.getElem?_take
abbrev Fm:= @List.getElem?_drop
abbrev eW:= @Option.some.injEq
abbrev ju:= @Bool.false_eq_true
abbrev fY:= @Nat.le_trans
abbrev lH:= @Nat.lt_of_lt_of_le
abbrev gD:= @Nat.ble_eq_true_of_le
abbrev ky:= @Int.negSucc_eq
abbrev cL:= @Nat.eq_of_beq_eq_true
abbrev qv:= @List.mem_cons
abbrev yH:= @Nat.le_succ
abbrev vW:= @Array.getD_eq_getD_getElem?
abbrev vX:= @Bool.eq_iff_iff
abbrev kZ:= @List.length_cons
abbrev Qn:= @Nat.pow_succ
abbrev kz:= @Nat.add_assoc
abbrev pj:= @Nat.mul_comm
abbrev Fo:= @List.take_append_drop
abbrev jf:= @List.length_take
abbrev BR:= @Nat.mod_eq_of_lt
abbrev rN:= @List.take_of_length_le
abbrev Fq:= @Nat.pow_one
abbrev yI:= @List.drop_eq_getElem_cons
abbrev yJ:= @Nat.one_mul
abbrev Fs:= @UInt8.lt_iff_toNat_lt
abbrev gY:= @Iff.rfl
abbrev Qo:= @Nat.lt_trichotomy
abbrev ml:= @Array.length_toList
abbrev Qp:= @Array.toList_extract
abbrev aab:= @List.extract_eq_take_drop
abbrev J4:= @List.all_eq_true
abbrev J5:= @List.mem_of_mem_drop
abbrev J6:= @List.mem_of_mem_take
abbrev BT:= @Int.toNat_natCast
abbrev mR:= @Nat.zero_le
abbrev ld:= @Nat.add_mul
abbrev rO:= @Option.map_some
abbrev jg:= @Nat.mul_le_mul_right
abbrev pn:= @Nat.zero_mul
abbrev rP:= @Nat.add_zero
abbrev BU:= @Nat.sub_zero
abbrev Qq:= @Array.getElem?_modify
abbrev Qr:= @Array.getElem?_push
abbrev J7:= @Nat.div_add_mod
abbrev fC:= @Nat.zero_add
abbrev Qs:= @List.getElem?_of_mem
abbrev yK:= @List.mem_of_getElem?
abbrev tn:= @List.getElem?_append_left
abbrev rQ:= @List.getElem?_append_right
abbrev dz:= @List.getElem?_eq_getElem
abbrev J8:= @List.take_zero
abbrev rR:= @List.nil_append
abbrev Qt:= @List.drop_of_length_le
abbrev J9:= @List.append_nil
abbrev yL:= @List.getElem?_eq_none
abbrev J':= @List.all_cons
abbrev ep:= @Bool.and_eq_true
abbrev aac:= @List.getElem?_cons_succ
abbrev aad:= @Nat.div_lt_iff_lt_mul
abbrev aae:= @Nat.le_mul_of_pos_right
abbrev Ka:= @Array.size_append
abbrev Kb:= @Array.getElem?_append_left
abbrev yM:= @Array.getElem?_eq_getElem
abbrev fZ:= @List.length_append
abbrev Kc:= @Nat.succ_pos
abbrev Qu:= @List.mem_append_left
abbrev Kd:= @List.mem_append_right
abbrev Ke:= @Nat.mul_one
abbrev BV:= @List.getElem?_map
abbrev lg:= @List.map_cons
abbrev yN:= @List.mem_append
abbrev Qv:= @List.mem_singleton
abbrev aaf:= @Array.toList_zipIdx
abbrev jU:= @List.mem_cons_self
abbrev qw:= @List.mem_cons_of_mem
abbrev Kf:= @Array.getElem?_toList
abbrev tp:= @Nat.succ_mul
abbrev ga:= @Nat.beq_refl
abbrev tq:= @Bool.or_eq_true
abbrev Kg:= @List.drop_drop
abbrev Ft:= @List.map_append
abbrev Fu:= @List.length_map
abbrev BW:= @List.map_nil
abbrev BX:= @List.cons.injEq
abbrev nK:= @List.length_nil
abbrev Jd:= @List.getD_eq_getElem?_getD
abbrev Je:= @Nat.lt_or_eq_of_le
abbrev Ea:= @Classical.byContradiction
abbrev Eb:= @List.filter_cons_of_neg
abbrev x9:= @List.filter_cons_of_pos
abbrev OR:= @Array.getElem?_replicate
abbrev Yx:= @List.length_filter_le
abbrev OS:= @Array.mapM_eq_mapM_toList
abbrev Yy:= @Nat.div_eq_of_lt
abbrev Bd:= @List.take_succ_cons
abbrev qf:= @List.length_drop
abbrev Jf:= @Option.map_eq_some_iff
abbrev Ec:= @Option.bind_eq_some_iff
abbrev qg:= @List.length_replicate
abbrev OT:= @List.getElem?_replicate
abbrev kW:= @List.length_set
abbrev Jg:= @List.getElem?_set
abbrev OU:= @List.length_range
abbrev OV:= @List.map_map
abbrev Yz:= @List.getElem?_range
abbrev lm120:= @Int.tdiv_eq_ediv_of_nonneg
abbrev YA:= @Int.tmod_eq_emod_of_nonneg
abbrev o9:= @Int.le_refl
abbrev yb:= @Int.toNat_of_nonneg
abbrev OW:= @Int.le_trans
abbrev Jh:= @List.getElem?_set_self
abbrev qh:= @List.take_add_one
abbrev OX:= @List.getElem?_set_ne
abbrev YB:= @List.perm_append_singleton
theorem aD{p:Prop}(h:p:=by decide):p:=h
theorem ax{p:Prop}(h:p:=by omega):p:=h
theorem eA{p:Prop}(h:p:=by repeat(first|exact trivial|exact fun _=>⟨rfl,rfl⟩|exact fun h=>absurd h (by decide)|apply And.intro)):p:=h
inductive Tr(α:Type) where
 |leaf
 |node (l:Tr α) (v:Option α) (r:Tr α)
def Tr.get{α:Type}(t:Tr α):Nat→Option α:=
 Tr.rec (motive:=fun _=>Nat→Option α) (fun _=>none)
  (fun _ v _ p z n=>Nat.rec (motive:=fun _=>Option α) v
   (fun m _=>Bool.rec (motive:=fun _=>Option α) (z (Nat.div m 2)) (p (Nat.div m 2)) (Nat.beq (Nat.mod m 2) 0)) n) t
def Tr.seq{α β:Type}(t:Tr α)(k:Tr α→β):β:=
 Tr.rec (motive:=fun _=>β) (k .leaf) (fun l v r _ _=>k (.node l v r)) t
def Tr.rS{α:Type}(f:Nat):Tr α→Nat→α→Tr α:=
 Nat.rec (motive:=fun _=>Tr α→Nat→α→Tr α) (fun t _ _=>t)
  (fun _ p t n a=>
   Tr.rec (motive:=fun _=>Tr α)
    (Nat.rec (motive:=fun _=>Tr α) (.node .leaf (some a) .leaf)
     (fun m _=>Bool.rec (motive:=fun _=>Tr α)
      ((p .leaf (Nat.div m 2) a).seq fun r=>.node .leaf none r)
      ((p .leaf (Nat.div m 2) a).seq fun l=>.node l none .leaf) (Nat.beq (Nat.mod m 2) 0)) n)
    (fun l v r _ _=>Nat.rec (motive:=fun _=>Tr α) (.node l (some a) r)
     (fun m _=>Bool.rec (motive:=fun _=>Tr α)
      ((p r (Nat.div m 2) a).seq fun r=>.node l v r)
      ((p l (Nat.div m 2) a).seq fun l=>.node l v r) (Nat.beq (Nat.mod m 2) 0)) n) t) f
def Tr.set{α:Type}(t:Tr α)(n:Nat)(a:α):Tr α:=Tr.rS (Nat.succ n) t n a
theorem Tr.seq_eq{α β:Type}(t:Tr α)(k:Tr α→β):t.seq k=k t:=by cases t<;>rfl
theorem Tr.uR{α:Type}(n:Nat):(Tr.leaf:Tr α).get n=none:=rfl
theorem Tr.sK{α:Type}(l r:Tr α)(v:Option α)(n:Nat):(Tr.node l v r).get n=
  match n with
  |0=>v
  |m+1=>if m % 2=0 then l.get (m/2) else r.get (m/2):=by
 cases n with
 |zero=>rfl
 |succ m=>
  show Bool.rec (motive:=fun _=>Option α) (r.get (m/2)) (l.get (m/2)) (Nat.beq (m % 2) 0)=_
  by_cases h:m % 2=0
  ·simp[h]
  have:Nat.beq (m % 2) 0=false:=by rw[←KR,sn];exact h
  simp[h,this]
theorem Tr.get_setF{α:Type}(a:α):∀(f:Nat)(t:Tr α)(n k:Nat),n<f→
  (Tr.rS f t n a).get k=if k=n then some a else t.get k:=by
 intro f
 induction f with
 |zero=>intro t n k h;omega
 |succ f G=>
  intro t n k h
  cases t with
  |leaf=>
   cases n with
   |zero=>
    show(Tr.node .leaf (some a) .leaf).get k=_
    rw[Tr.sK]
    cases k with
    |zero=>simp
    |succ k=>simp[Tr.uR]
   |succ m=>
    show(Bool.rec (motive:=fun _=>Tr α)
      ((Tr.rS f .leaf (Nat.div m 2) a).seq fun r=>.node .leaf none r)
      ((Tr.rS f .leaf (Nat.div m 2) a).seq fun l=>.node l none .leaf) (Nat.beq (Nat.mod m 2) 0):Tr α).get k=_
    have F:m/2<f:=by omega
    rw[Tr.seq_eq,Tr.seq_eq]
    by_cases A:m % 2=0
    ·have e:Nat.beq (Nat.mod m 2) 0=true:=by rw[sn];exact A
     rw[e]
     show(Tr.node (Tr.rS f .leaf (m/2) a) none .leaf).get k=_
     rw[Tr.sK]
     cases k with
     |zero=>simp[Tr.uR]
     |succ k=>
      simp only[Tr.uR]
      rw[G _ _ _ F,Tr.uR]
      by_cases z:k % 2=0
      ·by_cases p:k/2=m/2
       ·have:k=m:=by omega
        simp[z,p,this,A]
       have:k≠m:=by omega
       simp[z,p,this]
      have:k≠m:=by omega
      simp[z,this]
    have e:Nat.beq (Nat.mod m 2) 0=false:=by rw[←KR,sn];exact A
    rw[e]
    show(Tr.node .leaf none (Tr.rS f .leaf (m/2) a)).get k=_
    rw[Tr.sK]
    cases k with
    |zero=>simp[Tr.uR]
    |succ k=>
     simp only[Tr.uR]
     rw[G _ _ _ F,Tr.uR]
     by_cases z:k % 2=0
     ·have:k≠m:=by omega
      simp[z,this]
     by_cases p:k/2=m/2
     ·have:k=m:=by omega
      simp[z,p,this,A]
     have:k≠m:=by omega
     simp[z,p,this]
  |node l v r=>
   cases n with
   |zero=>
    show(Tr.node l (some a) r).get k=_
    rw[Tr.sK,Tr.sK]
    cases k with
    |zero=>simp
    |succ k=>simp
   |succ m=>
    show(Bool.rec (motive:=fun _=>Tr α)
      ((Tr.rS f r (Nat.div m 2) a).seq fun r=>.node l v r)
      ((Tr.rS f l (Nat.div m 2) a).seq fun l=>.node l v r) (Nat.beq (Nat.mod m 2) 0):Tr α).get k=_
    have F:m/2<f:=by omega
    rw[Tr.seq_eq,Tr.seq_eq]
    by_cases A:m % 2=0
    ·have e:Nat.beq (Nat.mod m 2) 0=true:=by rw[sn];exact A
     rw[e]
     show(Tr.node (Tr.rS f l (m/2) a) v r).get k=_
     rw[Tr.sK,Tr.sK]
     cases k with
     |zero=>simp
     |succ k=>
      simp only
      rw[G _ _ _ F]
      by_cases z:k % 2=0
      ·by_cases p:k/2=m/2
       ·have:k=m:=by omega
        simp[z,p,this,A]
       have:k≠m:=by omega
       simp[z,p,this]
      have:k≠m:=by omega
      simp[z,this]
    have e:Nat.beq (Nat.mod m 2) 0=false:=by rw[←KR,sn];exact A
    rw[e]
    show(Tr.node l v (Tr.rS f r (m/2) a)).get k=_
    rw[Tr.sK,Tr.sK]
    cases k with
    |zero=>simp
    |succ k=>
     simp only
     rw[G _ _ _ F]
     by_cases z:k % 2=0
     ·have:k≠m:=by omega
      simp[z,this]
     by_cases p:k/2=m/2
     ·have:k=m:=by omega
      simp[z,p,this,A]
     have:k≠m:=by omega
     simp[z,p,this]
theorem Tr.c7{α:Type}(t:Tr α)(n k:Nat)(a:α):(t.set n a).get k=if k=n then some a else t.get k:=
 Tr.get_setF a _ t n k (wG n)
def cA{β:Type}(n:Nat)(k:Nat→β):β:=Nat.rec (motive:=fun _=>β) (k 0) (fun m _=>k (Nat.succ m)) n
theorem eP{β:Type}(n:Nat)(k:Nat→β):cA n k=k n:=by cases n<;>rfl
def jM{β:Type}(i:Int)(k:Int→β):β:=
 Int.rec (motive:=fun _=>β) (fun m=>cA m fun m=>k (.ofNat m)) (fun m=>cA m fun m=>k (.negSucc m)) i
theorem sI{β:Type}(n:Int)(k:Int→β):jM n k=k n:=by cases n<;>simp[jM,eP]
end Go.Ev
