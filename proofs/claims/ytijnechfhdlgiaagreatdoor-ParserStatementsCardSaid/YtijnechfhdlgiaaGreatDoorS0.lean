/- Part 0 of rules for walks through the code of a program, and of such walks; what each part proves is said by its theorems. -/
import Derived.Orders
set_option linter.unusedVariables false
set_option linter.unusedSimpArgs false
noncomputable section
set_option maxRecDepth 100000
set_option maxHeartbeats 4000000
namespace Go.Ev
abbrev bN:= @Int.ofNat_eq_natCast
abbrev Gs:= @Bool.not_eq_true
abbrev sK:= @Nat.beq_eq
abbrev gG:= @Nat.lt_succ_self
abbrev az:= @if_pos
abbrev al:= @if_neg
abbrev eI:= @Nat.mod_lt
abbrev um:= @List.eq_nil_of_length_eq_zero
abbrev As:= @List.cons_append
abbrev CS:= @List.getElem?_take
abbrev tR:= @List.getElem?_drop
abbrev ia:= @Option.some.injEq
abbrev qN:= @Bool.false_eq_true
abbrev bR:= @Nat.le_refl
abbrev kx:= @Nat.le_trans
abbrev m9:= @Nat.lt_of_lt_of_le
abbrev b0:= @Nat.le_of_ble_eq_true
abbrev jy:= @Nat.ble_eq_true_of_le
abbrev mj:= @Int.negSucc_eq
abbrev eH:= @Nat.eq_of_beq_eq_true
abbrev qO:= @List.mem_cons
abbrev tS:= @Nat.le_succ
abbrev vR:= @Array.getD_eq_getD_getElem?
abbrev gE:= @Bool.eq_iff_iff
abbrev cV:= @List.length_cons
abbrev z7:= @Nat.pow_succ
abbrev nx:= @Nat.add_assoc
abbrev Co:= @Nat.mul_assoc
abbrev ny:= @Nat.mul_comm
abbrev FQ:= @List.take_append_drop
abbrev jH:= @List.length_take
abbrev Cp:= @Nat.mod_eq_of_lt
abbrev pR:= @List.take_of_length_le
abbrev Cq:= @Nat.pow_le_pow_right
abbrev Cr:= @Nat.pow_one
abbrev Cs:= @List.drop_eq_getElem_cons
abbrev tT:= @Nat.one_mul
abbrev Ct:= @UInt8.lt_iff_toNat_lt
abbrev f6:= @decide_eq_false_iff_not
abbrev Jb:= @Nat.lt_trichotomy
abbrev nW:= @Array.length_toList
abbrev Jc:= @Array.toList_extract
abbrev P9:= @List.extract_eq_take_drop
abbrev FR:= @List.all_eq_true
abbrev FU:= @List.mem_of_mem_drop
abbrev Cu:= @List.mem_of_mem_take
abbrev FV:= @Int.toNat_natCast
abbrev dp:= @Nat.zero_le
abbrev tU:= @Option.map_some
abbrev nX:= @Nat.add_mul
abbrev Jd:= @Array.getElem?_modify
abbrev Je:= @Array.getElem?_push
abbrev FW:= @Nat.div_add_mod
abbrev jR:= @Nat.zero_add
abbrev Jf:= @List.getElem?_of_mem
abbrev lJ:= @List.mem_of_getElem?
abbrev rz:= @List.getElem?_append_left
abbrev xm:= @List.getElem?_append_right
abbrev lK:= @Nat.mul_le_mul_right
abbrev fe:= @List.getElem?_eq_getElem
abbrev Jg:= @List.take_zero
abbrev Cv:= @List.nil_append
abbrev z8:= @List.append_nil
abbrev FY:= @List.getElem?_eq_none
abbrev xn:= @Nat.add_zero
abbrev FZ:= @List.all_cons
abbrev fE:= @Bool.and_eq_true
abbrev Jh:= @List.getElem?_cons_succ
abbrev P':= @Nat.div_lt_iff_lt_mul
abbrev Ji:= @Nat.le_mul_of_pos_right
abbrev F0:= @Array.size_append
abbrev F1:= @Nat.sub_zero
abbrev F2:= @Array.getElem?_append_left
abbrev xo:= @Array.getElem?_eq_getElem
abbrev bE:= @List.length_append
abbrev sC:= @Nat.zero_mul
abbrev Jj:= @Nat.succ_pos
abbrev Qa:= @List.mem_append_left
abbrev Jk:= @List.mem_append_right
abbrev Jl:= @Nat.mul_one
abbrev iJ:= @List.getElem?_map
abbrev e7:= @List.map_cons
abbrev tV:= @List.mem_append
abbrev Qb:= @Array.toList_zipIdx
abbrev lh:= @List.mem_cons_self
abbrev oR:= @List.mem_cons_of_mem
abbrev Qc:= @Array.getElem?_toList
abbrev F3:= @Nat.succ_mul
abbrev Jm:= @Nat.add_sub_cancel_left
abbrev jl:= @Nat.beq_refl
abbrev vS:= @Bool.or_eq_true
abbrev F4:= @UInt8.toNat_ofNat'
abbrev F5:= @List.drop_drop
abbrev dx:= @List.map_append
abbrev ca:= @List.length_map
abbrev gj:= @List.map_nil
abbrev Aa:= @List.cons.injEq
abbrev Jn:= @Bool.not_eq_true'
abbrev fx:= @decide_eq_true_eq
abbrev dL:= @List.length_nil
abbrev E3:= @List.getD_eq_getElem?_getD
abbrev BU:= @Nat.lt_or_eq_of_le
abbrev w8:= @Nat.le_of_lt_succ
abbrev vi:= @Classical.byContradiction
abbrev BV:= @List.filter_cons_of_neg
abbrev w9:= @List.filter_cons_of_pos
abbrev IE:= @Array.getElem?_replicate
abbrev IF:= @Array.mapM_eq_mapM_toList
abbrev OC:= @Nat.div_eq_of_lt
abbrev xb:= @List.take_succ_cons
abbrev gN:= @List.length_drop
abbrev E4:= @Option.map_eq_some_iff
abbrev IG:= @List.map_drop
abbrev BW:= @Option.bind_eq_some_iff
abbrev E5:= @List.length_replicate
abbrev OD:= @List.getElem?_replicate
abbrev E6:= @List.length_set
abbrev IH:= @Nat.add_sub_cancel
abbrev II:= @List.length_range
abbrev IJ:= @List.drop_length
abbrev E7:= @List.map_map
abbrev OE:= @List.getElem?_range
abbrev yR:= @List.take_add_one
abbrev yS:= @List.foldl_append
abbrev qz:= @List.cons_ne_nil
abbrev nm:= @Nat.succ_le_succ
abbrev ku:= @Nat.le_add_right
abbrev mX:= @List.append_ne_nil_of_left_ne_nil
abbrev dY:= @List.length_singleton
abbrev IK:= @List.take_length
abbrev xd:= @Option.some.inj
abbrev IL:= @Nat.not_lt_zero
abbrev IM:= @List.getElem_of_mem
abbrev IN:= @List.takeWhile_cons
abbrev IP:= @List.drop_eq_nil_of_le
abbrev OF:= @List.singleton_append
abbrev yT:= @Nat.le_of_lt
abbrev OG:= @Nat.lt_of_succ_lt_succ
theorem aq{p:Prop}(h:p:=by decide):p:=h
theorem ah{p:Prop}(h:p:=by omega):p:=h
theorem cQ{p:Prop}(h:p:=by(try simp only[bN] at*);omega):p:=h
theorem fJ{p:Prop}(h:p:=by repeat(first|exact trivial|exact fun _=>⟨rfl,rfl⟩|exact fun h=>absurd h (by decide)|apply And.intro)):p:=h
inductive Tr(α:Type) where
 |leaf
 |node (l:Tr α) (v:Option α) (r:Tr α)
def Tr.get{α:Type}(t:Tr α):Nat→Option α:=
 Tr.rec (motive:=fun _=>Nat→Option α) (fun _=>none)
  (fun _ v _ z A n=>Nat.rec (motive:=fun _=>Option α) v
   (fun m _=>Bool.rec (motive:=fun _=>Option α) (A (Nat.div m 2)) (z (Nat.div m 2)) (Nat.beq (Nat.mod m 2) 0)) n) t
def Tr.seq{α β:Type}(t:Tr α)(k:Tr α→β):β:=
 Tr.rec (motive:=fun _=>β) (k .leaf) (fun l v r _ _=>k (.node l v r)) t
def Tr.sE{α:Type}(f:Nat):Tr α→Nat→α→Tr α:=
 Nat.rec (motive:=fun _=>Tr α→Nat→α→Tr α) (fun t _ _=>t)
  (fun _ z t n a=>
   Tr.rec (motive:=fun _=>Tr α)
    (Nat.rec (motive:=fun _=>Tr α) (.node .leaf (some a) .leaf)
     (fun m _=>Bool.rec (motive:=fun _=>Tr α)
      ((z .leaf (Nat.div m 2) a).seq fun r=>.node .leaf none r)
      ((z .leaf (Nat.div m 2) a).seq fun l=>.node l none .leaf) (Nat.beq (Nat.mod m 2) 0)) n)
    (fun l v r _ _=>Nat.rec (motive:=fun _=>Tr α) (.node l (some a) r)
     (fun m _=>Bool.rec (motive:=fun _=>Tr α)
      ((z r (Nat.div m 2) a).seq fun r=>.node l v r)
      ((z l (Nat.div m 2) a).seq fun l=>.node l v r) (Nat.beq (Nat.mod m 2) 0)) n) t) f
def Tr.set{α:Type}(t:Tr α)(n:Nat)(a:α):Tr α:=Tr.sE (Nat.succ n) t n a
theorem Tr.seq_eq{α β:Type}(t:Tr α)(k:Tr α→β):t.seq k=k t:=by cases t<;>rfl
theorem Tr.uO{α:Type}(n:Nat):(Tr.leaf:Tr α).get n=none:=rfl
theorem Tr.s9{α:Type}(l r:Tr α)(v:Option α)(n:Nat):(Tr.node l v r).get n=
  match n with
  |0=>v
  |m+1=>if m % 2=0 then l.get (m/2) else r.get (m/2):=by
 cases n with
 |zero=>rfl
 |succ m=>
  show Bool.rec (motive:=fun _=>Option α) (r.get (m/2)) (l.get (m/2)) (Nat.beq (m % 2) 0)=_
  by_cases h:m % 2=0
  ·simp[h]
  have:Nat.beq (m % 2) 0=false:=by rw[←Gs,sK];exact h
  simp[h,this]
theorem Tr.Uv{α:Type}(a:α):∀(f:Nat)(t:Tr α)(n k:Nat),n<f→
  (Tr.sE f t n a).get k=if k=n then some a else t.get k:=by
 intro f
 induction f with
 |zero=>intro t n k h;omega
 |succ f G=>
  intro t n k h
  cases t with
  |leaf=>
   cases n with
   |zero=>
    show(Tr.node .leaf (some a) .leaf).get k=_
    rw[Tr.s9]
    cases k with
    |zero=>simp
    |succ k=>simp[Tr.uO]
   |succ m=>
    show(Bool.rec (motive:=fun _=>Tr α)
      ((Tr.sE f .leaf (Nat.div m 2) a).seq fun r=>.node .leaf none r)
      ((Tr.sE f .leaf (Nat.div m 2) a).seq fun l=>.node l none .leaf) (Nat.beq (Nat.mod m 2) 0):Tr α).get k=_
    have A:m/2<f:=by omega
    rw[Tr.seq_eq,Tr.seq_eq]
    by_cases hp:m % 2=0
    ·have e:Nat.beq (Nat.mod m 2) 0=true:=by rw[sK];exact hp
     rw[e]
     show(Tr.node (Tr.sE f .leaf (m/2) a) none .leaf).get k=_
     rw[Tr.s9]
     cases k with
     |zero=>simp[Tr.uO]
     |succ k=>
      simp only[Tr.uO]
      rw[G _ _ _ A,Tr.uO]
      by_cases hk:k % 2=0
      ·by_cases z:k/2=m/2
       ·have:k=m:=by omega
        simp[hk,z,this,hp]
       have:k≠m:=by omega
       simp[hk,z,this]
      have:k≠m:=by omega
      simp[hk,this]
    have e:Nat.beq (Nat.mod m 2) 0=false:=by rw[←Gs,sK];exact hp
    rw[e]
    show(Tr.node .leaf none (Tr.sE f .leaf (m/2) a)).get k=_
    rw[Tr.s9]
    cases k with
    |zero=>simp[Tr.uO]
    |succ k=>
     simp only[Tr.uO]
     rw[G _ _ _ A,Tr.uO]
     by_cases hk:k % 2=0
     ·have:k≠m:=by omega
      simp[hk,this]
     by_cases z:k/2=m/2
     ·have:k=m:=by omega
      simp[hk,z,this,hp]
     have:k≠m:=by omega
     simp[hk,z,this]
  |node l v r=>
   cases n with
   |zero=>
    show(Tr.node l (some a) r).get k=_
    rw[Tr.s9,Tr.s9]
    cases k with
    |zero=>simp
    |succ k=>simp
   |succ m=>
    show(Bool.rec (motive:=fun _=>Tr α)
      ((Tr.sE f r (Nat.div m 2) a).seq fun r=>.node l v r)
      ((Tr.sE f l (Nat.div m 2) a).seq fun l=>.node l v r) (Nat.beq (Nat.mod m 2) 0):Tr α).get k=_
    have A:m/2<f:=by omega
    rw[Tr.seq_eq,Tr.seq_eq]
    by_cases hp:m % 2=0
    ·have e:Nat.beq (Nat.mod m 2) 0=true:=by rw[sK];exact hp
     rw[e]
     show(Tr.node (Tr.sE f l (m/2) a) v r).get k=_
     rw[Tr.s9,Tr.s9]
     cases k with
     |zero=>simp
     |succ k=>
      simp only
      rw[G _ _ _ A]
      by_cases hk:k % 2=0
      ·by_cases z:k/2=m/2
       ·have:k=m:=by omega
        simp[hk,z,this,hp]
       have:k≠m:=by omega
       simp[hk,z,this]
      have:k≠m:=by omega
      simp[hk,this]
    have e:Nat.beq (Nat.mod m 2) 0=false:=by rw[←Gs,sK];exact hp
    rw[e]
    show(Tr.node l v (Tr.sE f r (m/2) a)).get k=_
    rw[Tr.s9,Tr.s9]
    cases k with
    |zero=>simp
    |succ k=>
     simp only
     rw[G _ _ _ A]
     by_cases hk:k % 2=0
     ·have:k≠m:=by omega
      simp[hk,this]
     by_cases z:k/2=m/2
     ·have:k=m:=by omega
      simp[hk,z,this,hp]
     have:k≠m:=by omega
     simp[hk,z,this]
theorem Tr.eY{α:Type}(t:Tr α)(n k:Nat)(a:α):(t.set n a).get k=if k=n then some a else t.get k:=
 Tr.Uv a _ t n k (gG n)
def dz{β:Type}(n:Nat)(k:Nat→β):β:=Nat.rec (motive:=fun _=>β) (k 0) (fun m _=>k (Nat.succ m)) n
theorem iG{β:Type}(n:Nat)(k:Nat→β):dz n k=k n:=by cases n<;>rfl
def lR{β:Type}(i:Int)(k:Int→β):β:=
 Int.rec (motive:=fun _=>β) (fun m=>dz m fun m=>k (.ofNat m)) (fun m=>dz m fun m=>k (.negSucc m)) i
theorem sZ{β:Type}(n:Int)(k:Int→β):lR n k=k n:=by cases n<;>simp[lR,iG]
end Go.Ev
