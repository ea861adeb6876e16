/- A part of an evaluator for the program's code, and of rules for walks through it. It holds for every program. -/
import Derived.Test.YtffkihiledcilaaGreatDoorEv0
set_option linter.unusedVariables false
set_option linter.unusedSimpArgs false
namespace Go.Ev
inductive AVal where
  | bool (b : Bool)
  | int (k : IntKind) (n : Int)
  | str (l v : Nat)
  | ptr (f g off : Nat)
  | nilptr
  | slice (f g off len es : Nat)
  | nilslice
  | agg (cs : List AVal)
  | tuple (vs : List AVal)
  | func (f : Nat) (first caps : List AVal)
  | nilfunc
  | iface (t : Nat) (v : AVal)
  | niliface
  | map (f : Nat)
  | nilmap
  | undef
inductive D6 where
  | d0 | d1 | d2 | d3 | d4 | d5
def D6.n : D6 → Nat
  | .d0 => 0 | .d1 => 1 | .d2 => 2 | .d3 => 3 | .d4 => 4 | .d5 => 5
def digN : Nat → D6
  | 0 => .d0 | 1 => .d1 | 2 => .d2 | 3 => .d3 | 4 => .d4 | _ => .d5
noncomputable def dig (n : Nat) : D6 :=
  Nat.rec (motive := fun _ => D6) .d0 (fun n _ => Nat.rec (motive := fun _ => D6) .d1 (fun n _ => Nat.rec (motive := fun _ => D6) .d2 (fun n _ => Nat.rec (motive := fun _ => D6) .d3 (fun n _ => Nat.rec (motive := fun _ => D6) .d4 (fun _ _ => .d5) n) n) n) n) n
inductive Key where
  | mk (i j k : D6)
def Key.n : Key → Nat
  | .mk i j k => i.n + 6 * j.n + 36 * k.n
def pk (n : Nat) : Key := .mk (digN (n % 6)) (digN (n / 6 % 6)) (digN (n / 36 % 6))
theorem D6.lt (d : D6) : d.n < 6 := by cases d <;> decide
theorem D6.inj {a b : D6} (h : a.n = b.n) : a = b := by cases a <;> cases b <;> first | rfl | (simp [D6.n] at h)
instance : DecidableEq D6 := fun a b => if h : a.n = b.n then .isTrue (D6.inj h) else .isFalse fun e => h (by rw [e])
theorem digN_n {m : Nat} (h : m < 6) : (digN m).n = m := by
  match m, h with
  | 0, _ => rfl
  | 1, _ => rfl
  | 2, _ => rfl
  | 3, _ => rfl
  | 4, _ => rfl
  | 5, _ => rfl
theorem dig_n {m : Nat} (h : m < 6) : (dig m).n = m := by
  match m, h with
  | 0, _ => rfl
  | 1, _ => rfl
  | 2, _ => rfl
  | 3, _ => rfl
  | 4, _ => rfl
  | 5, _ => rfl
theorem Key.inj {a b : Key} (h : a.n = b.n) : a = b := by
  cases a with
  | mk i j k => cases b with
    | mk i' j' k' =>
      simp only [Key.n] at h
      have h1 := i.lt; have h2 := j.lt; have h3 := k.lt
      have h4 := i'.lt; have h5 := j'.lt; have h6 := k'.lt
      have e1 : i = i' := D6.inj (by omega)
      have e2 : j = j' := D6.inj (by omega)
      have e3 : k = k' := D6.inj (by omega)
      rw [e1, e2, e3]
instance : DecidableEq Key := fun a b => if h : a.n = b.n then .isTrue (Key.inj h) else .isFalse fun e => h (by rw [e])
theorem pk_n {n : Nat} (h : n < 216) : (pk n).n = n := by
  simp only [pk, Key.n]
  rw [digN_n (by omega), digN_n (by omega), digN_n (by omega)]
  omega
inductive NA where
  | mk (x0 x1 x2 x3 x4 x5 : Option AVal)
noncomputable def NA.get (d : D6) (t : NA) : Option AVal :=
  D6.rec (motive := fun _ => NA → Option AVal) (NA.rec (motive := fun _ => Option AVal) fun x0 x1 x2 x3 x4 x5 => x0) (NA.rec (motive := fun _ => Option AVal) fun x0 x1 x2 x3 x4 x5 => x1) (NA.rec (motive := fun _ => Option AVal) fun x0 x1 x2 x3 x4 x5 => x2) (NA.rec (motive := fun _ => Option AVal) fun x0 x1 x2 x3 x4 x5 => x3) (NA.rec (motive := fun _ => Option AVal) fun x0 x1 x2 x3 x4 x5 => x4) (NA.rec (motive := fun _ => Option AVal) fun x0 x1 x2 x3 x4 x5 => x5) d t
noncomputable def NA.upd0 {β : Type} (f : Option AVal → (Option AVal → β) → β) (t : NA) (c : NA → β) : β := NA.rec (motive := fun _ => β) (fun x0 x1 x2 x3 x4 x5 => f x0 fun y => c (.mk y x1 x2 x3 x4 x5)) t
noncomputable def NA.upd1 {β : Type} (f : Option AVal → (Option AVal → β) → β) (t : NA) (c : NA → β) : β := NA.rec (motive := fun _ => β) (fun x0 x1 x2 x3 x4 x5 => f x1 fun y => c (.mk x0 y x2 x3 x4 x5)) t
noncomputable def NA.upd2 {β : Type} (f : Option AVal → (Option AVal → β) → β) (t : NA) (c : NA → β) : β := NA.rec (motive := fun _ => β) (fun x0 x1 x2 x3 x4 x5 => f x2 fun y => c (.mk x0 x1 y x3 x4 x5)) t
noncomputable def NA.upd3 {β : Type} (f : Option AVal → (Option AVal → β) → β) (t : NA) (c : NA → β) : β := NA.rec (motive := fun _ => β) (fun x0 x1 x2 x3 x4 x5 => f x3 fun y => c (.mk x0 x1 x2 y x4 x5)) t
noncomputable def NA.upd4 {β : Type} (f : Option AVal → (Option AVal → β) → β) (t : NA) (c : NA → β) : β := NA.rec (motive := fun _ => β) (fun x0 x1 x2 x3 x4 x5 => f x4 fun y => c (.mk x0 x1 x2 x3 y x5)) t
noncomputable def NA.upd5 {β : Type} (f : Option AVal → (Option AVal → β) → β) (t : NA) (c : NA → β) : β := NA.rec (motive := fun _ => β) (fun x0 x1 x2 x3 x4 x5 => f x5 fun y => c (.mk x0 x1 x2 x3 x4 y)) t
noncomputable def NA.upd {β : Type} (d : D6) : (Option AVal → (Option AVal → β) → β) → NA → (NA → β) → β :=
  D6.rec (motive := fun _ => (Option AVal → (Option AVal → β) → β) → NA → (NA → β) → β) NA.upd0 NA.upd1 NA.upd2 NA.upd3 NA.upd4 NA.upd5 d
noncomputable def NA.mod (d : D6) (g : Option AVal → Option AVal) (t : NA) : NA := NA.upd d (fun x c => c (g x)) t fun y => y
theorem NA.get_mod (d d' : D6) (g : Option AVal → Option AVal) (t : NA) : NA.get d' (NA.mod d g t) = if d' = d then g (NA.get d t) else NA.get d' t := by
  cases t; cases d <;> cases d' <;> rfl
theorem NA.upd_eq {β : Type} (d : D6) (g : Option AVal → Option AVal) (f : Option AVal → (Option AVal → β) → β) (hf : ∀ x c, f x c = c (g x)) (t : NA) (c : NA → β) : NA.upd d f t c = c (NA.mod d g t) := by
  cases t; cases d <;> exact hf _ _
inductive NB where
  | mk (x0 x1 x2 x3 x4 x5 : NA)
noncomputable def NB.get (d : D6) (t : NB) : NA :=
  D6.rec (motive := fun _ => NB → NA) (NB.rec (motive := fun _ => NA) fun x0 x1 x2 x3 x4 x5 => x0) (NB.rec (motive := fun _ => NA) fun x0 x1 x2 x3 x4 x5 => x1) (NB.rec (motive := fun _ => NA) fun x0 x1 x2 x3 x4 x5 => x2) (NB.rec (motive := fun _ => NA) fun x0 x1 x2 x3 x4 x5 => x3) (NB.rec (motive := fun _ => NA) fun x0 x1 x2 x3 x4 x5 => x4) (NB.rec (motive := fun _ => NA) fun x0 x1 x2 x3 x4 x5 => x5) d t
noncomputable def NB.upd0 {β : Type} (f : NA → (NA → β) → β) (t : NB) (c : NB → β) : β := NB.rec (motive := fun _ => β) (fun x0 x1 x2 x3 x4 x5 => f x0 fun y => c (.mk y x1 x2 x3 x4 x5)) t
noncomputable def NB.upd1 {β : Type} (f : NA → (NA → β) → β) (t : NB) (c : NB → β) : β := NB.rec (motive := fun _ => β) (fun x0 x1 x2 x3 x4 x5 => f x1 fun y => c (.mk x0 y x2 x3 x4 x5)) t
noncomputable def NB.upd2 {β : Type} (f : NA → (NA → β) → β) (t : NB) (c : NB → β) : β := NB.rec (motive := fun _ => β) (fun x0 x1 x2 x3 x4 x5 => f x2 fun y => c (.mk x0 x1 y x3 x4 x5)) t
noncomputable def NB.upd3 {β : Type} (f : NA → (NA → β) → β) (t : NB) (c : NB → β) : β := NB.rec (motive := fun _ => β) (fun x0 x1 x2 x3 x4 x5 => f x3 fun y => c (.mk x0 x1 x2 y x4 x5)) t
noncomputable def NB.upd4 {β : Type} (f : NA → (NA → β) → β) (t : NB) (c : NB → β) : β := NB.rec (motive := fun _ => β) (fun x0 x1 x2 x3 x4 x5 => f x4 fun y => c (.mk x0 x1 x2 x3 y x5)) t
noncomputable def NB.upd5 {β : Type} (f : NA → (NA → β) → β) (t : NB) (c : NB → β) : β := NB.rec (motive := fun _ => β) (fun x0 x1 x2 x3 x4 x5 => f x5 fun y => c (.mk x0 x1 x2 x3 x4 y)) t
noncomputable def NB.upd {β : Type} (d : D6) : (NA → (NA → β) → β) → NB → (NB → β) → β :=
  D6.rec (motive := fun _ => (NA → (NA → β) → β) → NB → (NB → β) → β) NB.upd0 NB.upd1 NB.upd2 NB.upd3 NB.upd4 NB.upd5 d
noncomputable def NB.mod (d : D6) (g : NA → NA) (t : NB) : NB := NB.upd d (fun x c => c (g x)) t fun y => y
theorem NB.get_mod (d d' : D6) (g : NA → NA) (t : NB) : NB.get d' (NB.mod d g t) = if d' = d then g (NB.get d t) else NB.get d' t := by
  cases t; cases d <;> cases d' <;> rfl
theorem NB.upd_eq {β : Type} (d : D6) (g : NA → NA) (f : NA → (NA → β) → β) (hf : ∀ x c, f x c = c (g x)) (t : NB) (c : NB → β) : NB.upd d f t c = c (NB.mod d g t) := by
  cases t; cases d <;> exact hf _ _
inductive Env where
  | mk (x0 x1 x2 x3 x4 x5 : NB)
noncomputable def Env.get0 (d : D6) (t : Env) : NB :=
  D6.rec (motive := fun _ => Env → NB) (Env.rec (motive := fun _ => NB) fun x0 x1 x2 x3 x4 x5 => x0) (Env.rec (motive := fun _ => NB) fun x0 x1 x2 x3 x4 x5 => x1) (Env.rec (motive := fun _ => NB) fun x0 x1 x2 x3 x4 x5 => x2) (Env.rec (motive := fun _ => NB) fun x0 x1 x2 x3 x4 x5 => x3) (Env.rec (motive := fun _ => NB) fun x0 x1 x2 x3 x4 x5 => x4) (Env.rec (motive := fun _ => NB) fun x0 x1 x2 x3 x4 x5 => x5) d t
noncomputable def Env.upd00 {β : Type} (f : NB → (NB → β) → β) (t : Env) (c : Env → β) : β := Env.rec (motive := fun _ => β) (fun x0 x1 x2 x3 x4 x5 => f x0 fun y => c (.mk y x1 x2 x3 x4 x5)) t
noncomputable def Env.upd01 {β : Type} (f : NB → (NB → β) → β) (t : Env) (c : Env → β) : β := Env.rec (motive := fun _ => β) (fun x0 x1 x2 x3 x4 x5 => f x1 fun y => c (.mk x0 y x2 x3 x4 x5)) t
noncomputable def Env.upd02 {β : Type} (f : NB → (NB → β) → β) (t : Env) (c : Env → β) : β := Env.rec (motive := fun _ => β) (fun x0 x1 x2 x3 x4 x5 => f x2 fun y => c (.mk x0 x1 y x3 x4 x5)) t
noncomputable def Env.upd03 {β : Type} (f : NB → (NB → β) → β) (t : Env) (c : Env → β) : β := Env.rec (motive := fun _ => β) (fun x0 x1 x2 x3 x4 x5 => f x3 fun y => c (.mk x0 x1 x2 y x4 x5)) t
noncomputable def Env.upd04 {β : Type} (f : NB → (NB → β) → β) (t : Env) (c : Env → β) : β := Env.rec (motive := fun _ => β) (fun x0 x1 x2 x3 x4 x5 => f x4 fun y => c (.mk x0 x1 x2 x3 y x5)) t
noncomputable def Env.upd05 {β : Type} (f : NB → (NB → β) → β) (t : Env) (c : Env → β) : β := Env.rec (motive := fun _ => β) (fun x0 x1 x2 x3 x4 x5 => f x5 fun y => c (.mk x0 x1 x2 x3 x4 y)) t
noncomputable def Env.upd0 {β : Type} (d : D6) : (NB → (NB → β) → β) → Env → (Env → β) → β :=
  D6.rec (motive := fun _ => (NB → (NB → β) → β) → Env → (Env → β) → β) Env.upd00 Env.upd01 Env.upd02 Env.upd03 Env.upd04 Env.upd05 d
noncomputable def Env.mod0 (d : D6) (g : NB → NB) (t : Env) : Env := Env.upd0 d (fun x c => c (g x)) t fun y => y
theorem Env.get_mod0 (d d' : D6) (g : NB → NB) (t : Env) : Env.get0 d' (Env.mod0 d g t) = if d' = d then g (Env.get0 d t) else Env.get0 d' t := by
  cases t; cases d <;> cases d' <;> rfl
theorem Env.upd0_eq {β : Type} (d : D6) (g : NB → NB) (f : NB → (NB → β) → β) (hf : ∀ x c, f x c = c (g x)) (t : Env) (c : Env → β) : Env.upd0 d f t c = c (Env.mod0 d g t) := by
  cases t; cases d <;> exact hf _ _
noncomputable def Env.get (E : Env) (key : Key) : Option AVal := Key.rec (motive := fun _ => Env → Option AVal) (fun i j k E => NA.get k (NB.get j (Env.get0 i E))) key E
noncomputable def Env.setC {β : Type} (E : Env) (key : Key) (v : AVal) (c : Env → β) : β := Key.rec (motive := fun _ => β) (fun i j k => Env.upd0 i (NB.upd j (NA.upd k fun _ c => c (some v))) E c) key
noncomputable def Env.set (E : Env) (key : Key) (v : AVal) : Env := E.setC key v fun E => E
theorem Env.setC_eq {β : Type} (E : Env) (key : Key) (v : AVal) (c : Env → β) : E.setC key v c = c (E.set key v) := by
  cases key with
  | mk i j k =>
    have h1 : ∀ {β : Type} (x : NB) (c : NB → β), NB.upd j (NA.upd k fun _ c => c (some v)) x c = c (NB.mod j (NA.mod k fun _ => some v) x) :=
      fun x c => NB.upd_eq j _ _ (fun x c => NA.upd_eq k (fun _ => some v) _ (fun _ _ => rfl) x c) x c
    show Env.upd0 i _ E c = c (Env.upd0 i _ E fun E => E)
    rw [Env.upd0_eq i (NB.mod j (NA.mod k fun _ => some v)) _ h1, Env.upd0_eq i (NB.mod j (NA.mod k fun _ => some v)) _ h1]
theorem Env.get_set (E : Env) (key key' : Key) (v : AVal) : (E.set key v).get key' = if key' = key then some v else E.get key' := by
  cases key with
  | mk i j k => cases key' with
    | mk i' j' k' =>
      have h1 : ∀ {β : Type} (x : NB) (c : NB → β), NB.upd j (NA.upd k fun _ c => c (some v)) x c = c (NB.mod j (NA.mod k fun _ => some v) x) :=
        fun x c => NB.upd_eq j _ _ (fun x c => NA.upd_eq k (fun _ => some v) _ (fun _ _ => rfl) x c) x c
      have h2 : E.set (.mk i j k) v = Env.mod0 i (NB.mod j (NA.mod k fun _ => some v)) E := Env.upd0_eq i (NB.mod j (NA.mod k fun _ => some v)) _ h1 E fun E => E
      rw [h2]
      show NA.get k' (NB.get j' (Env.get0 i' _)) = if _ then _ else NA.get k' (NB.get j' (Env.get0 i' E))
      rw [Env.get_mod0]
      by_cases hi : i' = i
      · subst hi
        rw [if_pos rfl, NB.get_mod]
        by_cases hj : j' = j
        · subst hj
          rw [if_pos rfl, NA.get_mod]
          by_cases hk : k' = k
          · subst hk
            rw [if_pos rfl, if_pos rfl]
          · rw [if_neg hk, if_neg (by intro e; cases e; exact hk rfl)]
        · rw [if_neg hj, if_neg (by intro e; cases e; exact hj rfl)]
      · rw [if_neg hi, if_neg (by intro e; cases e; exact hi rfl)]
def NA.emp : NA := .mk none none none none none none
def NB.emp : NB := .mk NA.emp NA.emp NA.emp NA.emp NA.emp NA.emp
def Env.emp : Env := .mk NB.emp NB.emp NB.emp NB.emp NB.emp NB.emp
theorem Env.get_emp (key : Key) : Env.emp.get key = none := by
  cases key with
  | mk i j k => cases i <;> cases j <;> cases k <;> rfl
def kk0 : Key := .mk .d0 .d0 .d0
def kk1 : Key := .mk .d1 .d0 .d0
def kk2 : Key := .mk .d2 .d0 .d0
def kk3 : Key := .mk .d3 .d0 .d0
def kk4 : Key := .mk .d4 .d0 .d0
def kk5 : Key := .mk .d5 .d0 .d0
def kk6 : Key := .mk .d0 .d1 .d0
def kk7 : Key := .mk .d1 .d1 .d0
def kk8 : Key := .mk .d2 .d1 .d0
def kk9 : Key := .mk .d3 .d1 .d0
def kk10 : Key := .mk .d4 .d1 .d0
def kk11 : Key := .mk .d5 .d1 .d0
def kk12 : Key := .mk .d0 .d2 .d0
def kk13 : Key := .mk .d1 .d2 .d0
def kk14 : Key := .mk .d2 .d2 .d0
def kk15 : Key := .mk .d3 .d2 .d0
def kk16 : Key := .mk .d4 .d2 .d0
def kk17 : Key := .mk .d5 .d2 .d0
def kk18 : Key := .mk .d0 .d3 .d0
def kk19 : Key := .mk .d1 .d3 .d0
def kk20 : Key := .mk .d2 .d3 .d0
def kk21 : Key := .mk .d3 .d3 .d0
def kk22 : Key := .mk .d4 .d3 .d0
def kk23 : Key := .mk .d5 .d3 .d0
def kk24 : Key := .mk .d0 .d4 .d0
def kk25 : Key := .mk .d1 .d4 .d0
def kk26 : Key := .mk .d2 .d4 .d0
def kk27 : Key := .mk .d3 .d4 .d0
def kk28 : Key := .mk .d4 .d4 .d0
def kk29 : Key := .mk .d5 .d4 .d0
def kk30 : Key := .mk .d0 .d5 .d0
def kk31 : Key := .mk .d1 .d5 .d0
def kk32 : Key := .mk .d2 .d5 .d0
def kk33 : Key := .mk .d3 .d5 .d0
def kk34 : Key := .mk .d4 .d5 .d0
def kk35 : Key := .mk .d5 .d5 .d0
def kk36 : Key := .mk .d0 .d0 .d1
def kk37 : Key := .mk .d1 .d0 .d1
def kk38 : Key := .mk .d2 .d0 .d1
def kk39 : Key := .mk .d3 .d0 .d1
def kk40 : Key := .mk .d4 .d0 .d1
def kk41 : Key := .mk .d5 .d0 .d1
def kk42 : Key := .mk .d0 .d1 .d1
def kk43 : Key := .mk .d1 .d1 .d1
def kk44 : Key := .mk .d2 .d1 .d1
def kk45 : Key := .mk .d3 .d1 .d1
def kk46 : Key := .mk .d4 .d1 .d1
def kk47 : Key := .mk .d5 .d1 .d1
def kk48 : Key := .mk .d0 .d2 .d1
def kk49 : Key := .mk .d1 .d2 .d1
def kk50 : Key := .mk .d2 .d2 .d1
def kk51 : Key := .mk .d3 .d2 .d1
def kk52 : Key := .mk .d4 .d2 .d1
def kk53 : Key := .mk .d5 .d2 .d1
def kk54 : Key := .mk .d0 .d3 .d1
def kk55 : Key := .mk .d1 .d3 .d1
def kk56 : Key := .mk .d2 .d3 .d1
def kk57 : Key := .mk .d3 .d3 .d1
def kk58 : Key := .mk .d4 .d3 .d1
def kk59 : Key := .mk .d5 .d3 .d1
def kk60 : Key := .mk .d0 .d4 .d1
def kk61 : Key := .mk .d1 .d4 .d1
def kk62 : Key := .mk .d2 .d4 .d1
def kk63 : Key := .mk .d3 .d4 .d1
def kk64 : Key := .mk .d4 .d4 .d1
def kk65 : Key := .mk .d5 .d4 .d1
def kk66 : Key := .mk .d0 .d5 .d1
def kk67 : Key := .mk .d1 .d5 .d1
def kk68 : Key := .mk .d2 .d5 .d1
def kk69 : Key := .mk .d3 .d5 .d1
def kk70 : Key := .mk .d4 .d5 .d1
def kk71 : Key := .mk .d5 .d5 .d1
def kk72 : Key := .mk .d0 .d0 .d2
def kk73 : Key := .mk .d1 .d0 .d2
def kk74 : Key := .mk .d2 .d0 .d2
def kk75 : Key := .mk .d3 .d0 .d2
def kk76 : Key := .mk .d4 .d0 .d2
def kk77 : Key := .mk .d5 .d0 .d2
def kk78 : Key := .mk .d0 .d1 .d2
def kk79 : Key := .mk .d1 .d1 .d2
def kk80 : Key := .mk .d2 .d1 .d2
def kk81 : Key := .mk .d3 .d1 .d2
def kk82 : Key := .mk .d4 .d1 .d2
def kk83 : Key := .mk .d5 .d1 .d2
def kk84 : Key := .mk .d0 .d2 .d2
def kk85 : Key := .mk .d1 .d2 .d2
def kk86 : Key := .mk .d2 .d2 .d2
def kk87 : Key := .mk .d3 .d2 .d2
def kk88 : Key := .mk .d4 .d2 .d2
def kk89 : Key := .mk .d5 .d2 .d2
def kk90 : Key := .mk .d0 .d3 .d2
def kk91 : Key := .mk .d1 .d3 .d2
def kk92 : Key := .mk .d2 .d3 .d2
def kk93 : Key := .mk .d3 .d3 .d2
def kk94 : Key := .mk .d4 .d3 .d2
def kk95 : Key := .mk .d5 .d3 .d2
def kk96 : Key := .mk .d0 .d4 .d2
def kk97 : Key := .mk .d1 .d4 .d2
def kk98 : Key := .mk .d2 .d4 .d2
def kk99 : Key := .mk .d3 .d4 .d2
def kk100 : Key := .mk .d4 .d4 .d2
def kk101 : Key := .mk .d5 .d4 .d2
def kk102 : Key := .mk .d0 .d5 .d2
def kk103 : Key := .mk .d1 .d5 .d2
def kk104 : Key := .mk .d2 .d5 .d2
def kk105 : Key := .mk .d3 .d5 .d2
def kk106 : Key := .mk .d4 .d5 .d2
def kk107 : Key := .mk .d5 .d5 .d2
def kk108 : Key := .mk .d0 .d0 .d3
def kk109 : Key := .mk .d1 .d0 .d3
def kk110 : Key := .mk .d2 .d0 .d3
def kk111 : Key := .mk .d3 .d0 .d3
def kk112 : Key := .mk .d4 .d0 .d3
def kk113 : Key := .mk .d5 .d0 .d3
def kk114 : Key := .mk .d0 .d1 .d3
def kk115 : Key := .mk .d1 .d1 .d3
def kk116 : Key := .mk .d2 .d1 .d3
def kk117 : Key := .mk .d3 .d1 .d3
def kk118 : Key := .mk .d4 .d1 .d3
def kk119 : Key := .mk .d5 .d1 .d3
def kk120 : Key := .mk .d0 .d2 .d3
def kk121 : Key := .mk .d1 .d2 .d3
def kk122 : Key := .mk .d2 .d2 .d3
def kk123 : Key := .mk .d3 .d2 .d3
def kk124 : Key := .mk .d4 .d2 .d3
def kk125 : Key := .mk .d5 .d2 .d3
def kk126 : Key := .mk .d0 .d3 .d3
def kk127 : Key := .mk .d1 .d3 .d3
def kk128 : Key := .mk .d2 .d3 .d3
def kk129 : Key := .mk .d3 .d3 .d3
def kk130 : Key := .mk .d4 .d3 .d3
def kk131 : Key := .mk .d5 .d3 .d3
def kk132 : Key := .mk .d0 .d4 .d3
def kk133 : Key := .mk .d1 .d4 .d3
def kk134 : Key := .mk .d2 .d4 .d3
def kk135 : Key := .mk .d3 .d4 .d3
def kk136 : Key := .mk .d4 .d4 .d3
def kk137 : Key := .mk .d5 .d4 .d3
def kk138 : Key := .mk .d0 .d5 .d3
def kk139 : Key := .mk .d1 .d5 .d3
def kk140 : Key := .mk .d2 .d5 .d3
def kk141 : Key := .mk .d3 .d5 .d3
def kk142 : Key := .mk .d4 .d5 .d3
def kk143 : Key := .mk .d5 .d5 .d3
def kk144 : Key := .mk .d0 .d0 .d4
def kk145 : Key := .mk .d1 .d0 .d4
def kk146 : Key := .mk .d2 .d0 .d4
def kk147 : Key := .mk .d3 .d0 .d4
def kk148 : Key := .mk .d4 .d0 .d4
def kk149 : Key := .mk .d5 .d0 .d4
def kk150 : Key := .mk .d0 .d1 .d4
def kk151 : Key := .mk .d1 .d1 .d4
def kk152 : Key := .mk .d2 .d1 .d4
def kk153 : Key := .mk .d3 .d1 .d4
def kk154 : Key := .mk .d4 .d1 .d4
def kk155 : Key := .mk .d5 .d1 .d4
def kk156 : Key := .mk .d0 .d2 .d4
def kk157 : Key := .mk .d1 .d2 .d4
def kk158 : Key := .mk .d2 .d2 .d4
def kk159 : Key := .mk .d3 .d2 .d4
def kk160 : Key := .mk .d4 .d2 .d4
def kk161 : Key := .mk .d5 .d2 .d4
def kk162 : Key := .mk .d0 .d3 .d4
def kk163 : Key := .mk .d1 .d3 .d4
def kk164 : Key := .mk .d2 .d3 .d4
def kk165 : Key := .mk .d3 .d3 .d4
def kk166 : Key := .mk .d4 .d3 .d4
def kk167 : Key := .mk .d5 .d3 .d4
def kk168 : Key := .mk .d0 .d4 .d4
def kk169 : Key := .mk .d1 .d4 .d4
def kk170 : Key := .mk .d2 .d4 .d4
def kk171 : Key := .mk .d3 .d4 .d4
def kk172 : Key := .mk .d4 .d4 .d4
def kk173 : Key := .mk .d5 .d4 .d4
def kk174 : Key := .mk .d0 .d5 .d4
def kk175 : Key := .mk .d1 .d5 .d4
def kk176 : Key := .mk .d2 .d5 .d4
def kk177 : Key := .mk .d3 .d5 .d4
def kk178 : Key := .mk .d4 .d5 .d4
def kk179 : Key := .mk .d5 .d5 .d4
def kk180 : Key := .mk .d0 .d0 .d5
def kk181 : Key := .mk .d1 .d0 .d5
def kk182 : Key := .mk .d2 .d0 .d5
def kk183 : Key := .mk .d3 .d0 .d5
def kk184 : Key := .mk .d4 .d0 .d5
def kk185 : Key := .mk .d5 .d0 .d5
def kk186 : Key := .mk .d0 .d1 .d5
def kk187 : Key := .mk .d1 .d1 .d5
def kk188 : Key := .mk .d2 .d1 .d5
def kk189 : Key := .mk .d3 .d1 .d5
def kk190 : Key := .mk .d4 .d1 .d5
def kk191 : Key := .mk .d5 .d1 .d5
def kk192 : Key := .mk .d0 .d2 .d5
def kk193 : Key := .mk .d1 .d2 .d5
def kk194 : Key := .mk .d2 .d2 .d5
def kk195 : Key := .mk .d3 .d2 .d5
def kk196 : Key := .mk .d4 .d2 .d5
def kk197 : Key := .mk .d5 .d2 .d5
def kk198 : Key := .mk .d0 .d3 .d5
def kk199 : Key := .mk .d1 .d3 .d5
def kk200 : Key := .mk .d2 .d3 .d5
def kk201 : Key := .mk .d3 .d3 .d5
def kk202 : Key := .mk .d4 .d3 .d5
def kk203 : Key := .mk .d5 .d3 .d5
def kk204 : Key := .mk .d0 .d4 .d5
def kk205 : Key := .mk .d1 .d4 .d5
def kk206 : Key := .mk .d2 .d4 .d5
def kk207 : Key := .mk .d3 .d4 .d5
def kk208 : Key := .mk .d4 .d4 .d5
def kk209 : Key := .mk .d5 .d4 .d5
def kk210 : Key := .mk .d0 .d5 .d5
def kk211 : Key := .mk .d1 .d5 .d5
def kk212 : Key := .mk .d2 .d5 .d5
def kk213 : Key := .mk .d3 .d5 .d5
def kk214 : Key := .mk .d4 .d5 .d5
def kk215 : Key := .mk .d5 .d5 .d5
inductive RKey where
  | mk (b0 b1 b2 : D6)
noncomputable def RKey.of (n : Nat) : RKey := .mk (dig (Nat.mod n 6)) (dig (Nat.mod (Nat.div n 6) 6)) (dig (Nat.mod (Nat.div n 36) 6))
inductive RA where
  | mk (x0 x1 x2 x3 x4 x5 : Option (List AVal))
noncomputable def RA.get (d : D6) (t : RA) : Option (List AVal) :=
  D6.rec (motive := fun _ => RA → Option (List AVal)) (RA.rec (motive := fun _ => Option (List AVal)) fun x0 x1 x2 x3 x4 x5 => x0) (RA.rec (motive := fun _ => Option (List AVal)) fun x0 x1 x2 x3 x4 x5 => x1) (RA.rec (motive := fun _ => Option (List AVal)) fun x0 x1 x2 x3 x4 x5 => x2) (RA.rec (motive := fun _ => Option (List AVal)) fun x0 x1 x2 x3 x4 x5 => x3) (RA.rec (motive := fun _ => Option (List AVal)) fun x0 x1 x2 x3 x4 x5 => x4) (RA.rec (motive := fun _ => Option (List AVal)) fun x0 x1 x2 x3 x4 x5 => x5) d t
noncomputable def RA.upd0 {β : Type} (f : Option (List AVal) → (Option (List AVal) → β) → β) (t : RA) (c : RA → β) : β := RA.rec (motive := fun _ => β) (fun x0 x1 x2 x3 x4 x5 => f x0 fun y => c (.mk y x1 x2 x3 x4 x5)) t
noncomputable def RA.upd1 {β : Type} (f : Option (List AVal) → (Option (List AVal) → β) → β) (t : RA) (c : RA → β) : β := RA.rec (motive := fun _ => β) (fun x0 x1 x2 x3 x4 x5 => f x1 fun y => c (.mk x0 y x2 x3 x4 x5)) t
noncomputable def RA.upd2 {β : Type} (f : Option (List AVal) → (Option (List AVal) → β) → β) (t : RA) (c : RA → β) : β := RA.rec (motive := fun _ => β) (fun x0 x1 x2 x3 x4 x5 => f x2 fun y => c (.mk x0 x1 y x3 x4 x5)) t
noncomputable def RA.upd3 {β : Type} (f : Option (List AVal) → (Option (List AVal) → β) → β) (t : RA) (c : RA → β) : β := RA.rec (motive := fun _ => β) (fun x0 x1 x2 x3 x4 x5 => f x3 fun y => c (.mk x0 x1 x2 y x4 x5)) t
noncomputable def RA.upd4 {β : Type} (f : Option (List AVal) → (Option (List AVal) → β) → β) (t : RA) (c : RA → β) : β := RA.rec (motive := fun _ => β) (fun x0 x1 x2 x3 x4 x5 => f x4 fun y => c (.mk x0 x1 x2 x3 y x5)) t
noncomputable def RA.upd5 {β : Type} (f : Option (List AVal) → (Option (List AVal) → β) → β) (t : RA) (c : RA → β) : β := RA.rec (motive := fun _ => β) (fun x0 x1 x2 x3 x4 x5 => f x5 fun y => c (.mk x0 x1 x2 x3 x4 y)) t
noncomputable def RA.upd {β : Type} (d : D6) : (Option (List AVal) → (Option (List AVal) → β) → β) → RA → (RA → β) → β :=
  D6.rec (motive := fun _ => (Option (List AVal) → (Option (List AVal) → β) → β) → RA → (RA → β) → β) RA.upd0 RA.upd1 RA.upd2 RA.upd3 RA.upd4 RA.upd5 d
noncomputable def RA.mod (d : D6) (g : Option (List AVal) → Option (List AVal)) (t : RA) : RA := RA.upd d (fun x c => c (g x)) t fun y => y
theorem RA.get_mod (d d' : D6) (g : Option (List AVal) → Option (List AVal)) (t : RA) : RA.get d' (RA.mod d g t) = if d' = d then g (RA.get d t) else RA.get d' t := by
  cases t; cases d <;> cases d' <;> rfl
theorem RA.upd_eq {β : Type} (d : D6) (g : Option (List AVal) → Option (List AVal)) (f : Option (List AVal) → (Option (List AVal) → β) → β) (hf : ∀ x c, f x c = c (g x)) (t : RA) (c : RA → β) : RA.upd d f t c = c (RA.mod d g t) := by
  cases t; cases d <;> exact hf _ _
inductive RB where
  | mk (x0 x1 x2 x3 x4 x5 : RA)
noncomputable def RB.get (d : D6) (t : RB) : RA :=
  D6.rec (motive := fun _ => RB → RA) (RB.rec (motive := fun _ => RA) fun x0 x1 x2 x3 x4 x5 => x0) (RB.rec (motive := fun _ => RA) fun x0 x1 x2 x3 x4 x5 => x1) (RB.rec (motive := fun _ => RA) fun x0 x1 x2 x3 x4 x5 => x2) (RB.rec (motive := fun _ => RA) fun x0 x1 x2 x3 x4 x5 => x3) (RB.rec (motive := fun _ => RA) fun x0 x1 x2 x3 x4 x5 => x4) (RB.rec (motive := fun _ => RA) fun x0 x1 x2 x3 x4 x5 => x5) d t
noncomputable def RB.upd0 {β : Type} (f : RA → (RA → β) → β) (t : RB) (c : RB → β) : β := RB.rec (motive := fun _ => β) (fun x0 x1 x2 x3 x4 x5 => f x0 fun y => c (.mk y x1 x2 x3 x4 x5)) t
noncomputable def RB.upd1 {β : Type} (f : RA → (RA → β) → β) (t : RB) (c : RB → β) : β := RB.rec (motive := fun _ => β) (fun x0 x1 x2 x3 x4 x5 => f x1 fun y => c (.mk x0 y x2 x3 x4 x5)) t
noncomputable def RB.upd2 {β : Type} (f : RA → (RA → β) → β) (t : RB) (c : RB → β) : β := RB.rec (motive := fun _ => β) (fun x0 x1 x2 x3 x4 x5 => f x2 fun y => c (.mk x0 x1 y x3 x4 x5)) t
noncomputable def RB.upd3 {β : Type} (f : RA → (RA → β) → β) (t : RB) (c : RB → β) : β := RB.rec (motive := fun _ => β) (fun x0 x1 x2 x3 x4 x5 => f x3 fun y => c (.mk x0 x1 x2 y x4 x5)) t
noncomputable def RB.upd4 {β : Type} (f : RA → (RA → β) → β) (t : RB) (c : RB → β) : β := RB.rec (motive := fun _ => β) (fun x0 x1 x2 x3 x4 x5 => f x4 fun y => c (.mk x0 x1 x2 x3 y x5)) t
noncomputable def RB.upd5 {β : Type} (f : RA → (RA → β) → β) (t : RB) (c : RB → β) : β := RB.rec (motive := fun _ => β) (fun x0 x1 x2 x3 x4 x5 => f x5 fun y => c (.mk x0 x1 x2 x3 x4 y)) t
noncomputable def RB.upd {β : Type} (d : D6) : (RA → (RA → β) → β) → RB → (RB → β) → β :=
  D6.rec (motive := fun _ => (RA → (RA → β) → β) → RB → (RB → β) → β) RB.upd0 RB.upd1 RB.upd2 RB.upd3 RB.upd4 RB.upd5 d
noncomputable def RB.mod (d : D6) (g : RA → RA) (t : RB) : RB := RB.upd d (fun x c => c (g x)) t fun y => y
theorem RB.get_mod (d d' : D6) (g : RA → RA) (t : RB) : RB.get d' (RB.mod d g t) = if d' = d then g (RB.get d t) else RB.get d' t := by
  cases t; cases d <;> cases d' <;> rfl
theorem RB.upd_eq {β : Type} (d : D6) (g : RA → RA) (f : RA → (RA → β) → β) (hf : ∀ x c, f x c = c (g x)) (t : RB) (c : RB → β) : RB.upd d f t c = c (RB.mod d g t) := by
  cases t; cases d <;> exact hf _ _
inductive RC where
  | mk (x0 x1 x2 x3 x4 x5 : RB)
noncomputable def RC.get (d : D6) (t : RC) : RB :=
  D6.rec (motive := fun _ => RC → RB) (RC.rec (motive := fun _ => RB) fun x0 x1 x2 x3 x4 x5 => x0) (RC.rec (motive := fun _ => RB) fun x0 x1 x2 x3 x4 x5 => x1) (RC.rec (motive := fun _ => RB) fun x0 x1 x2 x3 x4 x5 => x2) (RC.rec (motive := fun _ => RB) fun x0 x1 x2 x3 x4 x5 => x3) (RC.rec (motive := fun _ => RB) fun x0 x1 x2 x3 x4 x5 => x4) (RC.rec (motive := fun _ => RB) fun x0 x1 x2 x3 x4 x5 => x5) d t
noncomputable def RC.upd0 {β : Type} (f : RB → (RB → β) → β) (t : RC) (c : RC → β) : β := RC.rec (motive := fun _ => β) (fun x0 x1 x2 x3 x4 x5 => f x0 fun y => c (.mk y x1 x2 x3 x4 x5)) t
noncomputable def RC.upd1 {β : Type} (f : RB → (RB → β) → β) (t : RC) (c : RC → β) : β := RC.rec (motive := fun _ => β) (fun x0 x1 x2 x3 x4 x5 => f x1 fun y => c (.mk x0 y x2 x3 x4 x5)) t
noncomputable def RC.upd2 {β : Type} (f : RB → (RB → β) → β) (t : RC) (c : RC → β) : β := RC.rec (motive := fun _ => β) (fun x0 x1 x2 x3 x4 x5 => f x2 fun y => c (.mk x0 x1 y x3 x4 x5)) t
noncomputable def RC.upd3 {β : Type} (f : RB → (RB → β) → β) (t : RC) (c : RC → β) : β := RC.rec (motive := fun _ => β) (fun x0 x1 x2 x3 x4 x5 => f x3 fun y => c (.mk x0 x1 x2 y x4 x5)) t
noncomputable def RC.upd4 {β : Type} (f : RB → (RB → β) → β) (t : RC) (c : RC → β) : β := RC.rec (motive := fun _ => β) (fun x0 x1 x2 x3 x4 x5 => f x4 fun y => c (.mk x0 x1 x2 x3 y x5)) t
noncomputable def RC.upd5 {β : Type} (f : RB → (RB → β) → β) (t : RC) (c : RC → β) : β := RC.rec (motive := fun _ => β) (fun x0 x1 x2 x3 x4 x5 => f x5 fun y => c (.mk x0 x1 x2 x3 x4 y)) t
noncomputable def RC.upd {β : Type} (d : D6) : (RB → (RB → β) → β) → RC → (RC → β) → β :=
  D6.rec (motive := fun _ => (RB → (RB → β) → β) → RC → (RC → β) → β) RC.upd0 RC.upd1 RC.upd2 RC.upd3 RC.upd4 RC.upd5 d
noncomputable def RC.mod (d : D6) (g : RB → RB) (t : RC) : RC := RC.upd d (fun x c => c (g x)) t fun y => y
theorem RC.get_mod (d d' : D6) (g : RB → RB) (t : RC) : RC.get d' (RC.mod d g t) = if d' = d then g (RC.get d t) else RC.get d' t := by
  cases t; cases d <;> cases d' <;> rfl
theorem RC.upd_eq {β : Type} (d : D6) (g : RB → RB) (f : RB → (RB → β) → β) (hf : ∀ x c, f x c = c (g x)) (t : RC) (c : RC → β) : RC.upd d f t c = c (RC.mod d g t) := by
  cases t; cases d <;> exact hf _ _
noncomputable def RC.getK (t : RC) (k : RKey) : Option (List AVal) := RKey.rec (motive := fun _ => RC → Option (List AVal)) (fun b0 b1 b2 t => RA.get b2 (RB.get b1 (RC.get b0 (t)))) k t
noncomputable def RC.set (t : RC) (k : RKey) (v : List AVal) : RC := RKey.rec (motive := fun _ => List AVal → RC → RC) (fun b0 b1 b2 v t => (RC.upd b0 (RB.upd b1 (RA.upd b2 (fun _ c => c (some v))))) t fun t => t) k v t
theorem RC.set_eq (t : RC) (b0 b1 b2 : D6) (v : List AVal) : t.set (.mk b0 b1 b2) v = RC.mod b0 (RB.mod b1 (RA.mod b2 (fun _ => some v))) t := by
  exact RC.upd_eq b0 _ _ (fun x c => RB.upd_eq b1 _ _ (fun x c => RA.upd_eq b2 _ _ (fun _ _ => rfl) x c) x c) t _
instance : DecidableEq RKey := fun a b => by
  cases a with
  | mk b0 b1 b2 => cases b with
    | mk p0 p1 p2 =>
      exact if h : b0 = p0 ∧ b1 = p1 ∧ b2 = p2 then .isTrue (by obtain ⟨rfl, rfl, rfl⟩ := h; rfl) else .isFalse (fun e => h (by cases e; exact ⟨rfl, rfl, rfl⟩))
theorem RC.get_set (t : RC) (k k' : RKey) (v : List AVal) : (t.set k v).getK k' = if k' = k then some v else t.getK k' := by
  cases k with
  | mk b0 b1 b2 => cases k' with
    | mk p0 p1 p2 =>
      rw [RC.set_eq]
      show RA.get p2 (RB.get p1 (RC.get p0 (_))) = if _ then _ else RA.get p2 (RB.get p1 (RC.get p0 (t)))
      rw [RC.get_mod]
      by_cases h0 : p0 = b0
      case neg => rw [if_neg h0, if_neg (by intro e; cases e; exact h0 rfl)]
      subst h0
      rw [if_pos rfl]
      rw [RB.get_mod]
      by_cases h1 : p1 = b1
      case neg => rw [if_neg h1, if_neg (by intro e; cases e; exact h1 rfl)]
      subst h1
      rw [if_pos rfl]
      rw [RA.get_mod]
      by_cases h2 : p2 = b2
      case neg => rw [if_neg h2, if_neg (by intro e; cases e; exact h2 rfl)]
      subst h2
      rw [if_pos rfl]
      rw [if_pos rfl]
def RA.emp : RA := .mk none none none none none none
def RB.emp : RB := .mk RA.emp RA.emp RA.emp RA.emp RA.emp RA.emp
def RC.emp : RC := .mk RB.emp RB.emp RB.emp RB.emp RB.emp RB.emp
theorem RA.get1_emp (d : D6) : RA.get d RA.emp = none := by cases d <;> rfl
theorem RB.get1_emp (d : D6) : RB.get d RB.emp = RA.emp := by cases d <;> rfl
theorem RC.get1_emp (d : D6) : RC.get d RC.emp = RB.emp := by cases d <;> rfl
theorem RC.get_emp (k : RKey) : RC.emp.getK k = none := by
  cases k with
  | mk b0 b1 b2 =>
    show RA.get b2 (RB.get b1 (RC.get b0 (RC.emp))) = none
    rw [RC.get1_emp, RB.get1_emp, RA.get1_emp]
def RKey.n : RKey → Nat
  | .mk b0 b1 b2 => b0.n + 6 * b1.n + 36 * b2.n
theorem RKey.of_n {n : Nat} (h : n < 216) : (RKey.of n).n = n := by
  show (dig (n % 6)).n + 6 * (dig (n / 6 % 6)).n + 36 * (dig (n / 36 % 6)).n = n
  rw [dig_n (Nat.mod_lt _ (by omega)), dig_n (Nat.mod_lt _ (by omega)), dig_n (Nat.mod_lt _ (by omega))]
  omega
theorem RKey.of_inj {n m : Nat} (hn : n < 216) (hm : m < 216) (h : RKey.of n = RKey.of m) : n = m := by rw [← RKey.of_n hn, ← RKey.of_n hm, h]
inductive RT where
  | emp
  | one (x : List AVal)
  | many (s : RC) (b : Tr (List AVal))
noncomputable def RT.get (t : RT) (n : Nat) : Option (List AVal) :=
  RT.rec (motive := fun _ => Nat → Option (List AVal)) (fun _ => none) (fun x n => Nat.rec (motive := fun _ => Option (List AVal)) (some x) (fun _ _ => none) n)
    (fun s b n => Bool.rec (motive := fun _ => Option (List AVal)) (b.get n) (s.getK (RKey.of n)) (Nat.ble n 215)) t n
noncomputable def RT.setM (s : RC) (b : Tr (List AVal)) (n : Nat) (v : List AVal) : RT := Bool.rec (motive := fun _ => RT) (.many s (b.set n v)) (.many (s.set (RKey.of n) v) b) (Nat.ble n 215)
noncomputable def RT.set (t : RT) (n : Nat) (v : List AVal) : RT :=
  RT.rec (motive := fun _ => Nat → List AVal → RT) (fun n v => Nat.rec (motive := fun _ => RT) (.one v) (fun m _ => RT.setM .emp .leaf (Nat.succ m) v) n)
    (fun x n v => Nat.rec (motive := fun _ => RT) (.one v) (fun m _ => RT.setM (RC.emp.set (RKey.of 0) x) .leaf (Nat.succ m) v) n) RT.setM t n v
theorem RT.get_many (s : RC) (b : Tr (List AVal)) (n : Nat) : (RT.many s b).get n = if n ≤ 215 then s.getK (RKey.of n) else b.get n := by
  show Bool.rec (motive := fun _ => Option (List AVal)) (b.get n) (s.getK (RKey.of n)) (Nat.ble n 215) = _
  by_cases h : n ≤ 215
  · rw [Nat.ble_eq_true_of_le h, if_pos h]
  · rw [if_neg h]
    cases hb : Nat.ble n 215
    · rfl
    · exact absurd (Nat.le_of_ble_eq_true hb) h
theorem RT.get_setM (s : RC) (b : Tr (List AVal)) (n k : Nat) (v : List AVal) : (RT.setM s b n v).get k = if k = n then some v else (RT.many s b).get k := by
  unfold RT.setM
  cases hb : Nat.ble n 215
  · have hn : ¬ n ≤ 215 := fun h => by rw [Nat.ble_eq_true_of_le h] at hb; cases hb
    show (RT.many s (b.set n v)).get k = _
    rw [RT.get_many, RT.get_many, Tr.get_set]
    by_cases hk : k ≤ 215
    · rw [if_pos hk, if_neg (by omega), if_pos hk]
    · rw [if_neg hk, if_neg hk]
  · have hn := Nat.le_of_ble_eq_true hb
    show (RT.many (s.set (RKey.of n) v) b).get k = _
    rw [RT.get_many, RT.get_many, RC.get_set]
    by_cases hk : k ≤ 215
    · rw [if_pos hk, if_pos hk]
      by_cases he : k = n
      · rw [he, if_pos rfl, if_pos rfl]
      · rw [if_neg he, if_neg fun e => he (RKey.of_inj (by omega) (by omega) e)]
    · rw [if_neg hk, if_neg hk, if_neg (by omega)]
theorem RT.get_emp (n : Nat) : RT.emp.get n = none := rfl
theorem RT.get_set (t : RT) (n k : Nat) (v : List AVal) : (t.set n v).get k = if k = n then some v else t.get k := by
  cases t with
  | emp => cases n with
    | zero =>
      show (RT.one v).get k = _
      cases k with
      | zero => rfl
      | succ k => rfl
    | succ n =>
      show (RT.setM .emp .leaf (n + 1) v).get k = _
      rw [RT.get_setM, RT.get_many, RC.get_emp, Tr.get_leaf, RT.get_emp]
      split <;> simp
  | one x => cases n with
    | zero =>
      show (RT.one v).get k = _
      cases k with
      | zero => rfl
      | succ k => rfl
    | succ n =>
      show (RT.setM (RC.emp.set (RKey.of 0) x) .leaf (n + 1) v).get k = _
      rw [RT.get_setM]
      split
      · rfl
      · rw [RT.get_many, RC.get_set, RC.get_emp, Tr.get_leaf]
        cases k with
        | zero => rfl
        | succ k =>
          show _ = none
          split
          · rw [if_neg fun e => by have := RKey.of_inj (by omega) (by omega) e; omega]
          · rfl
  | many s b => exact RT.get_setM _ _ _ _ _
inductive AObj where
  | row (elem es bts n lo fl : Nat) (cs : RT)
  | map (es : List (AVal × AVal))
inductive HKey where
  | mk (b0 b1 b2 b3 b4 b5 : D6)
noncomputable def HKey.of (n : Nat) : HKey := .mk (dig (Nat.mod n 6)) (dig (Nat.mod (Nat.div n 6) 6)) (dig (Nat.mod (Nat.div n 36) 6)) (dig (Nat.mod (Nat.div n 216) 6)) (dig (Nat.mod (Nat.div n 1296) 6)) (dig (Nat.mod (Nat.div n 7776) 6))
inductive HA where
  | mk (x0 x1 x2 x3 x4 x5 : Option (AObj))
noncomputable def HA.get (d : D6) (t : HA) : Option (AObj) :=
  D6.rec (motive := fun _ => HA → Option (AObj)) (HA.rec (motive := fun _ => Option (AObj)) fun x0 x1 x2 x3 x4 x5 => x0) (HA.rec (motive := fun _ => Option (AObj)) fun x0 x1 x2 x3 x4 x5 => x1) (HA.rec (motive := fun _ => Option (AObj)) fun x0 x1 x2 x3 x4 x5 => x2) (HA.rec (motive := fun _ => Option (AObj)) fun x0 x1 x2 x3 x4 x5 => x3) (HA.rec (motive := fun _ => Option (AObj)) fun x0 x1 x2 x3 x4 x5 => x4) (HA.rec (motive := fun _ => Option (AObj)) fun x0 x1 x2 x3 x4 x5 => x5) d t
noncomputable def HA.upd0 {β : Type} (f : Option (AObj) → (Option (AObj) → β) → β) (t : HA) (c : HA → β) : β := HA.rec (motive := fun _ => β) (fun x0 x1 x2 x3 x4 x5 => f x0 fun y => c (.mk y x1 x2 x3 x4 x5)) t
noncomputable def HA.upd1 {β : Type} (f : Option (AObj) → (Option (AObj) → β) → β) (t : HA) (c : HA → β) : β := HA.rec (motive := fun _ => β) (fun x0 x1 x2 x3 x4 x5 => f x1 fun y => c (.mk x0 y x2 x3 x4 x5)) t
noncomputable def HA.upd2 {β : Type} (f : Option (AObj) → (Option (AObj) → β) → β) (t : HA) (c : HA → β) : β := HA.rec (motive := fun _ => β) (fun x0 x1 x2 x3 x4 x5 => f x2 fun y => c (.mk x0 x1 y x3 x4 x5)) t
noncomputable def HA.upd3 {β : Type} (f : Option (AObj) → (Option (AObj) → β) → β) (t : HA) (c : HA → β) : β := HA.rec (motive := fun _ => β) (fun x0 x1 x2 x3 x4 x5 => f x3 fun y => c (.mk x0 x1 x2 y x4 x5)) t
noncomputable def HA.upd4 {β : Type} (f : Option (AObj) → (Option (AObj) → β) → β) (t : HA) (c : HA → β) : β := HA.rec (motive := fun _ => β) (fun x0 x1 x2 x3 x4 x5 => f x4 fun y => c (.mk x0 x1 x2 x3 y x5)) t
noncomputable def HA.upd5 {β : Type} (f : Option (AObj) → (Option (AObj) → β) → β) (t : HA) (c : HA → β) : β := HA.rec (motive := fun _ => β) (fun x0 x1 x2 x3 x4 x5 => f x5 fun y => c (.mk x0 x1 x2 x3 x4 y)) t
noncomputable def HA.upd {β : Type} (d : D6) : (Option (AObj) → (Option (AObj) → β) → β) → HA → (HA → β) → β :=
  D6.rec (motive := fun _ => (Option (AObj) → (Option (AObj) → β) → β) → HA → (HA → β) → β) HA.upd0 HA.upd1 HA.upd2 HA.upd3 HA.upd4 HA.upd5 d
noncomputable def HA.mod (d : D6) (g : Option (AObj) → Option (AObj)) (t : HA) : HA := HA.upd d (fun x c => c (g x)) t fun y => y
theorem HA.get_mod (d d' : D6) (g : Option (AObj) → Option (AObj)) (t : HA) : HA.get d' (HA.mod d g t) = if d' = d then g (HA.get d t) else HA.get d' t := by
  cases t; cases d <;> cases d' <;> rfl
theorem HA.upd_eq {β : Type} (d : D6) (g : Option (AObj) → Option (AObj)) (f : Option (AObj) → (Option (AObj) → β) → β) (hf : ∀ x c, f x c = c (g x)) (t : HA) (c : HA → β) : HA.upd d f t c = c (HA.mod d g t) := by
  cases t; cases d <;> exact hf _ _
inductive HB where
  | mk (x0 x1 x2 x3 x4 x5 : HA)
noncomputable def HB.get (d : D6) (t : HB) : HA :=
  D6.rec (motive := fun _ => HB → HA) (HB.rec (motive := fun _ => HA) fun x0 x1 x2 x3 x4 x5 => x0) (HB.rec (motive := fun _ => HA) fun x0 x1 x2 x3 x4 x5 => x1) (HB.rec (motive := fun _ => HA) fun x0 x1 x2 x3 x4 x5 => x2) (HB.rec (motive := fun _ => HA) fun x0 x1 x2 x3 x4 x5 => x3) (HB.rec (motive := fun _ => HA) fun x0 x1 x2 x3 x4 x5 => x4) (HB.rec (motive := fun _ => HA) fun x0 x1 x2 x3 x4 x5 => x5) d t
noncomputable def HB.upd0 {β : Type} (f : HA → (HA → β) → β) (t : HB) (c : HB → β) : β := HB.rec (motive := fun _ => β) (fun x0 x1 x2 x3 x4 x5 => f x0 fun y => c (.mk y x1 x2 x3 x4 x5)) t
noncomputable def HB.upd1 {β : Type} (f : HA → (HA → β) → β) (t : HB) (c : HB → β) : β := HB.rec (motive := fun _ => β) (fun x0 x1 x2 x3 x4 x5 => f x1 fun y => c (.mk x0 y x2 x3 x4 x5)) t
noncomputable def HB.upd2 {β : Type} (f : HA → (HA → β) → β) (t : HB) (c : HB → β) : β := HB.rec (motive := fun _ => β) (fun x0 x1 x2 x3 x4 x5 => f x2 fun y => c (.mk x0 x1 y x3 x4 x5)) t
noncomputable def HB.upd3 {β : Type} (f : HA → (HA → β) → β) (t : HB) (c : HB → β) : β := HB.rec (motive := fun _ => β) (fun x0 x1 x2 x3 x4 x5 => f x3 fun y => c (.mk x0 x1 x2 y x4 x5)) t
noncomputable def HB.upd4 {β : Type} (f : HA → (HA → β) → β) (t : HB) (c : HB → β) : β := HB.rec (motive := fun _ => β) (fun x0 x1 x2 x3 x4 x5 => f x4 fun y => c (.mk x0 x1 x2 x3 y x5)) t
noncomputable def HB.upd5 {β : Type} (f : HA → (HA → β) → β) (t : HB) (c : HB → β) : β := HB.rec (motive := fun _ => β) (fun x0 x1 x2 x3 x4 x5 => f x5 fun y => c (.mk x0 x1 x2 x3 x4 y)) t
noncomputable def HB.upd {β : Type} (d : D6) : (HA → (HA → β) → β) → HB → (HB → β) → β :=
  D6.rec (motive := fun _ => (HA → (HA → β) → β) → HB → (HB → β) → β) HB.upd0 HB.upd1 HB.upd2 HB.upd3 HB.upd4 HB.upd5 d
noncomputable def HB.mod (d : D6) (g : HA → HA) (t : HB) : HB := HB.upd d (fun x c => c (g x)) t fun y => y
theorem HB.get_mod (d d' : D6) (g : HA → HA) (t : HB) : HB.get d' (HB.mod d g t) = if d' = d then g (HB.get d t) else HB.get d' t := by
  cases t; cases d <;> cases d' <;> rfl
theorem HB.upd_eq {β : Type} (d : D6) (g : HA → HA) (f : HA → (HA → β) → β) (hf : ∀ x c, f x c = c (g x)) (t : HB) (c : HB → β) : HB.upd d f t c = c (HB.mod d g t) := by
  cases t; cases d <;> exact hf _ _
inductive HC where
  | mk (x0 x1 x2 x3 x4 x5 : HB)
noncomputable def HC.get (d : D6) (t : HC) : HB :=
  D6.rec (motive := fun _ => HC → HB) (HC.rec (motive := fun _ => HB) fun x0 x1 x2 x3 x4 x5 => x0) (HC.rec (motive := fun _ => HB) fun x0 x1 x2 x3 x4 x5 => x1) (HC.rec (motive := fun _ => HB) fun x0 x1 x2 x3 x4 x5 => x2) (HC.rec (motive := fun _ => HB) fun x0 x1 x2 x3 x4 x5 => x3) (HC.rec (motive := fun _ => HB) fun x0 x1 x2 x3 x4 x5 => x4) (HC.rec (motive := fun _ => HB) fun x0 x1 x2 x3 x4 x5 => x5) d t
noncomputable def HC.upd0 {β : Type} (f : HB → (HB → β) → β) (t : HC) (c : HC → β) : β := HC.rec (motive := fun _ => β) (fun x0 x1 x2 x3 x4 x5 => f x0 fun y => c (.mk y x1 x2 x3 x4 x5)) t
noncomputable def HC.upd1 {β : Type} (f : HB → (HB → β) → β) (t : HC) (c : HC → β) : β := HC.rec (motive := fun _ => β) (fun x0 x1 x2 x3 x4 x5 => f x1 fun y => c (.mk x0 y x2 x3 x4 x5)) t
noncomputable def HC.upd2 {β : Type} (f : HB → (HB → β) → β) (t : HC) (c : HC → β) : β := HC.rec (motive := fun _ => β) (fun x0 x1 x2 x3 x4 x5 => f x2 fun y => c (.mk x0 x1 y x3 x4 x5)) t
noncomputable def HC.upd3 {β : Type} (f : HB → (HB → β) → β) (t : HC) (c : HC → β) : β := HC.rec (motive := fun _ => β) (fun x0 x1 x2 x3 x4 x5 => f x3 fun y => c (.mk x0 x1 x2 y x4 x5)) t
noncomputable def HC.upd4 {β : Type} (f : HB → (HB → β) → β) (t : HC) (c : HC → β) : β := HC.rec (motive := fun _ => β) (fun x0 x1 x2 x3 x4 x5 => f x4 fun y => c (.mk x0 x1 x2 x3 y x5)) t
noncomputable def HC.upd5 {β : Type} (f : HB → (HB → β) → β) (t : HC) (c : HC → β) : β := HC.rec (motive := fun _ => β) (fun x0 x1 x2 x3 x4 x5 => f x5 fun y => c (.mk x0 x1 x2 x3 x4 y)) t
noncomputable def HC.upd {β : Type} (d : D6) : (HB → (HB → β) → β) → HC → (HC → β) → β :=
  D6.rec (motive := fun _ => (HB → (HB → β) → β) → HC → (HC → β) → β) HC.upd0 HC.upd1 HC.upd2 HC.upd3 HC.upd4 HC.upd5 d
noncomputable def HC.mod (d : D6) (g : HB → HB) (t : HC) : HC := HC.upd d (fun x c => c (g x)) t fun y => y
theorem HC.get_mod (d d' : D6) (g : HB → HB) (t : HC) : HC.get d' (HC.mod d g t) = if d' = d then g (HC.get d t) else HC.get d' t := by
  cases t; cases d <;> cases d' <;> rfl
theorem HC.upd_eq {β : Type} (d : D6) (g : HB → HB) (f : HB → (HB → β) → β) (hf : ∀ x c, f x c = c (g x)) (t : HC) (c : HC → β) : HC.upd d f t c = c (HC.mod d g t) := by
  cases t; cases d <;> exact hf _ _
inductive HD where
  | mk (x0 x1 x2 x3 x4 x5 : HC)
noncomputable def HD.get (d : D6) (t : HD) : HC :=
  D6.rec (motive := fun _ => HD → HC) (HD.rec (motive := fun _ => HC) fun x0 x1 x2 x3 x4 x5 => x0) (HD.rec (motive := fun _ => HC) fun x0 x1 x2 x3 x4 x5 => x1) (HD.rec (motive := fun _ => HC) fun x0 x1 x2 x3 x4 x5 => x2) (HD.rec (motive := fun _ => HC) fun x0 x1 x2 x3 x4 x5 => x3) (HD.rec (motive := fun _ => HC) fun x0 x1 x2 x3 x4 x5 => x4) (HD.rec (motive := fun _ => HC) fun x0 x1 x2 x3 x4 x5 => x5) d t
noncomputable def HD.upd0 {β : Type} (f : HC → (HC → β) → β) (t : HD) (c : HD → β) : β := HD.rec (motive := fun _ => β) (fun x0 x1 x2 x3 x4 x5 => f x0 fun y => c (.mk y x1 x2 x3 x4 x5)) t
noncomputable def HD.upd1 {β : Type} (f : HC → (HC → β) → β) (t : HD) (c : HD → β) : β := HD.rec (motive := fun _ => β) (fun x0 x1 x2 x3 x4 x5 => f x1 fun y => c (.mk x0 y x2 x3 x4 x5)) t
noncomputable def HD.upd2 {β : Type} (f : HC → (HC → β) → β) (t : HD) (c : HD → β) : β := HD.rec (motive := fun _ => β) (fun x0 x1 x2 x3 x4 x5 => f x2 fun y => c (.mk x0 x1 y x3 x4 x5)) t
noncomputable def HD.upd3 {β : Type} (f : HC → (HC → β) → β) (t : HD) (c : HD → β) : β := HD.rec (motive := fun _ => β) (fun x0 x1 x2 x3 x4 x5 => f x3 fun y => c (.mk x0 x1 x2 y x4 x5)) t
noncomputable def HD.upd4 {β : Type} (f : HC → (HC → β) → β) (t : HD) (c : HD → β) : β := HD.rec (motive := fun _ => β) (fun x0 x1 x2 x3 x4 x5 => f x4 fun y => c (.mk x0 x1 x2 x3 y x5)) t
noncomputable def HD.upd5 {β : Type} (f : HC → (HC → β) → β) (t : HD) (c : HD → β) : β := HD.rec (motive := fun _ => β) (fun x0 x1 x2 x3 x4 x5 => f x5 fun y => c (.mk x0 x1 x2 x3 x4 y)) t
noncomputable def HD.upd {β : Type} (d : D6) : (HC → (HC → β) → β) → HD → (HD → β) → β :=
  D6.rec (motive := fun _ => (HC → (HC → β) → β) → HD → (HD → β) → β) HD.upd0 HD.upd1 HD.upd2 HD.upd3 HD.upd4 HD.upd5 d
noncomputable def HD.mod (d : D6) (g : HC → HC) (t : HD) : HD := HD.upd d (fun x c => c (g x)) t fun y => y
theorem HD.get_mod (d d' : D6) (g : HC → HC) (t : HD) : HD.get d' (HD.mod d g t) = if d' = d then g (HD.get d t) else HD.get d' t := by
  cases t; cases d <;> cases d' <;> rfl
theorem HD.upd_eq {β : Type} (d : D6) (g : HC → HC) (f : HC → (HC → β) → β) (hf : ∀ x c, f x c = c (g x)) (t : HD) (c : HD → β) : HD.upd d f t c = c (HD.mod d g t) := by
  cases t; cases d <;> exact hf _ _
inductive HE where
  | mk (x0 x1 x2 x3 x4 x5 : HD)
noncomputable def HE.get (d : D6) (t : HE) : HD :=
  D6.rec (motive := fun _ => HE → HD) (HE.rec (motive := fun _ => HD) fun x0 x1 x2 x3 x4 x5 => x0) (HE.rec (motive := fun _ => HD) fun x0 x1 x2 x3 x4 x5 => x1) (HE.rec (motive := fun _ => HD) fun x0 x1 x2 x3 x4 x5 => x2) (HE.rec (motive := fun _ => HD) fun x0 x1 x2 x3 x4 x5 => x3) (HE.rec (motive := fun _ => HD) fun x0 x1 x2 x3 x4 x5 => x4) (HE.rec (motive := fun _ => HD) fun x0 x1 x2 x3 x4 x5 => x5) d t
noncomputable def HE.upd0 {β : Type} (f : HD → (HD → β) → β) (t : HE) (c : HE → β) : β := HE.rec (motive := fun _ => β) (fun x0 x1 x2 x3 x4 x5 => f x0 fun y => c (.mk y x1 x2 x3 x4 x5)) t
noncomputable def HE.upd1 {β : Type} (f : HD → (HD → β) → β) (t : HE) (c : HE → β) : β := HE.rec (motive := fun _ => β) (fun x0 x1 x2 x3 x4 x5 => f x1 fun y => c (.mk x0 y x2 x3 x4 x5)) t
noncomputable def HE.upd2 {β : Type} (f : HD → (HD → β) → β) (t : HE) (c : HE → β) : β := HE.rec (motive := fun _ => β) (fun x0 x1 x2 x3 x4 x5 => f x2 fun y => c (.mk x0 x1 y x3 x4 x5)) t
noncomputable def HE.upd3 {β : Type} (f : HD → (HD → β) → β) (t : HE) (c : HE → β) : β := HE.rec (motive := fun _ => β) (fun x0 x1 x2 x3 x4 x5 => f x3 fun y => c (.mk x0 x1 x2 y x4 x5)) t
noncomputable def HE.upd4 {β : Type} (f : HD → (HD → β) → β) (t : HE) (c : HE → β) : β := HE.rec (motive := fun _ => β) (fun x0 x1 x2 x3 x4 x5 => f x4 fun y => c (.mk x0 x1 x2 x3 y x5)) t
noncomputable def HE.upd5 {β : Type} (f : HD → (HD → β) → β) (t : HE) (c : HE → β) : β := HE.rec (motive := fun _ => β) (fun x0 x1 x2 x3 x4 x5 => f x5 fun y => c (.mk x0 x1 x2 x3 x4 y)) t
noncomputable def HE.upd {β : Type} (d : D6) : (HD → (HD → β) → β) → HE → (HE → β) → β :=
  D6.rec (motive := fun _ => (HD → (HD → β) → β) → HE → (HE → β) → β) HE.upd0 HE.upd1 HE.upd2 HE.upd3 HE.upd4 HE.upd5 d
noncomputable def HE.mod (d : D6) (g : HD → HD) (t : HE) : HE := HE.upd d (fun x c => c (g x)) t fun y => y
theorem HE.get_mod (d d' : D6) (g : HD → HD) (t : HE) : HE.get d' (HE.mod d g t) = if d' = d then g (HE.get d t) else HE.get d' t := by
  cases t; cases d <;> cases d' <;> rfl
theorem HE.upd_eq {β : Type} (d : D6) (g : HD → HD) (f : HD → (HD → β) → β) (hf : ∀ x c, f x c = c (g x)) (t : HE) (c : HE → β) : HE.upd d f t c = c (HE.mod d g t) := by
  cases t; cases d <;> exact hf _ _
inductive HF where
  | mk (x0 x1 x2 x3 x4 x5 : HE)
noncomputable def HF.get (d : D6) (t : HF) : HE :=
  D6.rec (motive := fun _ => HF → HE) (HF.rec (motive := fun _ => HE) fun x0 x1 x2 x3 x4 x5 => x0) (HF.rec (motive := fun _ => HE) fun x0 x1 x2 x3 x4 x5 => x1) (HF.rec (motive := fun _ => HE) fun x0 x1 x2 x3 x4 x5 => x2) (HF.rec (motive := fun _ => HE) fun x0 x1 x2 x3 x4 x5 => x3) (HF.rec (motive := fun _ => HE) fun x0 x1 x2 x3 x4 x5 => x4) (HF.rec (motive := fun _ => HE) fun x0 x1 x2 x3 x4 x5 => x5) d t
noncomputable def HF.upd0 {β : Type} (f : HE → (HE → β) → β) (t : HF) (c : HF → β) : β := HF.rec (motive := fun _ => β) (fun x0 x1 x2 x3 x4 x5 => f x0 fun y => c (.mk y x1 x2 x3 x4 x5)) t
noncomputable def HF.upd1 {β : Type} (f : HE → (HE → β) → β) (t : HF) (c : HF → β) : β := HF.rec (motive := fun _ => β) (fun x0 x1 x2 x3 x4 x5 => f x1 fun y => c (.mk x0 y x2 x3 x4 x5)) t
noncomputable def HF.upd2 {β : Type} (f : HE → (HE → β) → β) (t : HF) (c : HF → β) : β := HF.rec (motive := fun _ => β) (fun x0 x1 x2 x3 x4 x5 => f x2 fun y => c (.mk x0 x1 y x3 x4 x5)) t
noncomputable def HF.upd3 {β : Type} (f : HE → (HE → β) → β) (t : HF) (c : HF → β) : β := HF.rec (motive := fun _ => β) (fun x0 x1 x2 x3 x4 x5 => f x3 fun y => c (.mk x0 x1 x2 y x4 x5)) t
noncomputable def HF.upd4 {β : Type} (f : HE → (HE → β) → β) (t : HF) (c : HF → β) : β := HF.rec (motive := fun _ => β) (fun x0 x1 x2 x3 x4 x5 => f x4 fun y => c (.mk x0 x1 x2 x3 y x5)) t
noncomputable def HF.upd5 {β : Type} (f : HE → (HE → β) → β) (t : HF) (c : HF → β) : β := HF.rec (motive := fun _ => β) (fun x0 x1 x2 x3 x4 x5 => f x5 fun y => c (.mk x0 x1 x2 x3 x4 y)) t
noncomputable def HF.upd {β : Type} (d : D6) : (HE → (HE → β) → β) → HF → (HF → β) → β :=
  D6.rec (motive := fun _ => (HE → (HE → β) → β) → HF → (HF → β) → β) HF.upd0 HF.upd1 HF.upd2 HF.upd3 HF.upd4 HF.upd5 d
noncomputable def HF.mod (d : D6) (g : HE → HE) (t : HF) : HF := HF.upd d (fun x c => c (g x)) t fun y => y
theorem HF.get_mod (d d' : D6) (g : HE → HE) (t : HF) : HF.get d' (HF.mod d g t) = if d' = d then g (HF.get d t) else HF.get d' t := by
  cases t; cases d <;> cases d' <;> rfl
theorem HF.upd_eq {β : Type} (d : D6) (g : HE → HE) (f : HE → (HE → β) → β) (hf : ∀ x c, f x c = c (g x)) (t : HF) (c : HF → β) : HF.upd d f t c = c (HF.mod d g t) := by
  cases t; cases d <;> exact hf _ _
noncomputable def HF.getK (t : HF) (k : HKey) : Option (AObj) := HKey.rec (motive := fun _ => HF → Option (AObj)) (fun b0 b1 b2 b3 b4 b5 t => HA.get b5 (HB.get b4 (HC.get b3 (HD.get b2 (HE.get b1 (HF.get b0 (t))))))) k t
noncomputable def HF.set (t : HF) (k : HKey) (v : AObj) : HF := HKey.rec (motive := fun _ => AObj → HF → HF) (fun b0 b1 b2 b3 b4 b5 v t => (HF.upd b0 (HE.upd b1 (HD.upd b2 (HC.upd b3 (HB.upd b4 (HA.upd b5 (fun _ c => c (some v)))))))) t fun t => t) k v t
theorem HF.set_eq (t : HF) (b0 b1 b2 b3 b4 b5 : D6) (v : AObj) : t.set (.mk b0 b1 b2 b3 b4 b5) v = HF.mod b0 (HE.mod b1 (HD.mod b2 (HC.mod b3 (HB.mod b4 (HA.mod b5 (fun _ => some v)))))) t := by
  exact HF.upd_eq b0 _ _ (fun x c => HE.upd_eq b1 _ _ (fun x c => HD.upd_eq b2 _ _ (fun x c => HC.upd_eq b3 _ _ (fun x c => HB.upd_eq b4 _ _ (fun x c => HA.upd_eq b5 _ _ (fun _ _ => rfl) x c) x c) x c) x c) x c) t _
instance : DecidableEq HKey := fun a b => by
  cases a with
  | mk b0 b1 b2 b3 b4 b5 => cases b with
    | mk p0 p1 p2 p3 p4 p5 =>
      exact if h : b0 = p0 ∧ b1 = p1 ∧ b2 = p2 ∧ b3 = p3 ∧ b4 = p4 ∧ b5 = p5 then .isTrue (by obtain ⟨rfl, rfl, rfl, rfl, rfl, rfl⟩ := h; rfl) else .isFalse (fun e => h (by cases e; exact ⟨rfl, rfl, rfl, rfl, rfl, rfl⟩))
theorem HF.get_set (t : HF) (k k' : HKey) (v : AObj) : (t.set k v).getK k' = if k' = k then some v else t.getK k' := by
  cases k with
  | mk b0 b1 b2 b3 b4 b5 => cases k' with
    | mk p0 p1 p2 p3 p4 p5 =>
      rw [HF.set_eq]
      show HA.get p5 (HB.get p4 (HC.get p3 (HD.get p2 (HE.get p1 (HF.get p0 (_)))))) = if _ then _ else HA.get p5 (HB.get p4 (HC.get p3 (HD.get p2 (HE.get p1 (HF.get p0 (t))))))
      rw [HF.get_mod]
      by_cases h0 : p0 = b0
      case neg => rw [if_neg h0, if_neg (by intro e; cases e; exact h0 rfl)]
      subst h0
      rw [if_pos rfl]
      rw [HE.get_mod]
      by_cases h1 : p1 = b1
      case neg => rw [if_neg h1, if_neg (by intro e; cases e; exact h1 rfl)]
      subst h1
      rw [if_pos rfl]
      rw [HD.get_mod]
      by_cases h2 : p2 = b2
      case neg => rw [if_neg h2, if_neg (by intro e; cases e; exact h2 rfl)]
      subst h2
      rw [if_pos rfl]
      rw [HC.get_mod]
      by_cases h3 : p3 = b3
      case neg => rw [if_neg h3, if_neg (by intro e; cases e; exact h3 rfl)]
      subst h3
      rw [if_pos rfl]
      rw [HB.get_mod]
      by_cases h4 : p4 = b4
      case neg => rw [if_neg h4, if_neg (by intro e; cases e; exact h4 rfl)]
      subst h4
      rw [if_pos rfl]
      rw [HA.get_mod]
      by_cases h5 : p5 = b5
      case neg => rw [if_neg h5, if_neg (by intro e; cases e; exact h5 rfl)]
      subst h5
      rw [if_pos rfl]
      rw [if_pos rfl]
def HA.emp : HA := .mk none none none none none none
def HB.emp : HB := .mk HA.emp HA.emp HA.emp HA.emp HA.emp HA.emp
def HC.emp : HC := .mk HB.emp HB.emp HB.emp HB.emp HB.emp HB.emp
def HD.emp : HD := .mk HC.emp HC.emp HC.emp HC.emp HC.emp HC.emp
def HE.emp : HE := .mk HD.emp HD.emp HD.emp HD.emp HD.emp HD.emp
def HF.emp : HF := .mk HE.emp HE.emp HE.emp HE.emp HE.emp HE.emp
theorem HA.get1_emp (d : D6) : HA.get d HA.emp = none := by cases d <;> rfl
theorem HB.get1_emp (d : D6) : HB.get d HB.emp = HA.emp := by cases d <;> rfl
theorem HC.get1_emp (d : D6) : HC.get d HC.emp = HB.emp := by cases d <;> rfl
theorem HD.get1_emp (d : D6) : HD.get d HD.emp = HC.emp := by cases d <;> rfl
theorem HE.get1_emp (d : D6) : HE.get d HE.emp = HD.emp := by cases d <;> rfl
theorem HF.get1_emp (d : D6) : HF.get d HF.emp = HE.emp := by cases d <;> rfl
theorem HF.get_emp (k : HKey) : HF.emp.getK k = none := by
  cases k with
  | mk b0 b1 b2 b3 b4 b5 =>
    show HA.get b5 (HB.get b4 (HC.get b3 (HD.get b2 (HE.get b1 (HF.get b0 (HF.emp)))))) = none
    rw [HF.get1_emp, HE.get1_emp, HD.get1_emp, HC.get1_emp, HB.get1_emp, HA.get1_emp]
def HKey.n : HKey → Nat
  | .mk b0 b1 b2 b3 b4 b5 => b0.n + 6 * b1.n + 36 * b2.n + 216 * b3.n + 1296 * b4.n + 7776 * b5.n
theorem HKey.of_n {n : Nat} (h : n < 46656) : (HKey.of n).n = n := by
  show (dig (n % 6)).n + 6 * (dig (n / 6 % 6)).n + 36 * (dig (n / 36 % 6)).n + 216 * (dig (n / 216 % 6)).n + 1296 * (dig (n / 1296 % 6)).n + 7776 * (dig (n / 7776 % 6)).n = n
  rw [dig_n (Nat.mod_lt _ (by omega)), dig_n (Nat.mod_lt _ (by omega)), dig_n (Nat.mod_lt _ (by omega)), dig_n (Nat.mod_lt _ (by omega)), dig_n (Nat.mod_lt _ (by omega)), dig_n (Nat.mod_lt _ (by omega))]
  omega
theorem HKey.of_inj {n m : Nat} (hn : n < 46656) (hm : m < 46656) (h : HKey.of n = HKey.of m) : n = m := by rw [← HKey.of_n hn, ← HKey.of_n hm, h]
inductive HT where
  | mk (s : HF) (b : Tr AObj)
def HT.emp : HT := .mk .emp .leaf
noncomputable def HT.get (t : HT) (n : Nat) : Option AObj := HT.rec (motive := fun _ => Nat → Option AObj) (fun s b n => Bool.rec (motive := fun _ => Option AObj) (b.get n) (s.getK (HKey.of n)) (Nat.ble n 46655)) t n
noncomputable def HT.set (t : HT) (n : Nat) (v : AObj) : HT := HT.rec (motive := fun _ => HT) (fun s b => Bool.rec (motive := fun _ => HT) (.mk s (b.set n v)) (.mk (s.set (HKey.of n) v) b) (Nat.ble n 46655)) t
theorem HT.get_mk (s : HF) (b : Tr AObj) (n : Nat) : (HT.mk s b).get n = if n ≤ 46655 then s.getK (HKey.of n) else b.get n := by
  show Bool.rec (motive := fun _ => Option AObj) (b.get n) (s.getK (HKey.of n)) (Nat.ble n 46655) = _
  by_cases h : n ≤ 46655
  · rw [Nat.ble_eq_true_of_le h, if_pos h]
  · rw [if_neg h]
    cases hb : Nat.ble n 46655
    · rfl
    · exact absurd (Nat.le_of_ble_eq_true hb) h
theorem HT.get_set (t : HT) (n k : Nat) (v : AObj) : (t.set n v).get k = if k = n then some v else t.get k := by
  cases t with
  | mk s b =>
    show HT.get (Bool.rec (motive := fun _ => HT) (.mk s (b.set n v)) (.mk (s.set (HKey.of n) v) b) (Nat.ble n 46655)) k = _
    cases hb : Nat.ble n 46655
    · have hn : ¬ n ≤ 46655 := fun h => by rw [Nat.ble_eq_true_of_le h] at hb; cases hb
      show (HT.mk s (b.set n v)).get k = _
      rw [HT.get_mk, HT.get_mk, Tr.get_set]
      by_cases hk : k ≤ 46655
      · rw [if_pos hk, if_neg (by omega), if_pos hk]
      · rw [if_neg hk, if_neg hk]
    · have hn := Nat.le_of_ble_eq_true hb
      show (HT.mk (s.set (HKey.of n) v) b).get k = _
      rw [HT.get_mk, HT.get_mk, HF.get_set]
      by_cases hk : k ≤ 46655
      · rw [if_pos hk, if_pos hk]
        by_cases he : k = n
        · rw [he, if_pos rfl, if_pos rfl]
        · rw [if_neg he, if_neg fun e => he (HKey.of_inj (by omega) (by omega) e)]
      · rw [if_neg hk, if_neg hk, if_neg (by omega)]
theorem HT.get_emp (n : Nat) : HT.emp.get n = none := by
  show (HT.mk .emp .leaf).get n = none
  rw [HT.get_mk, HF.get_emp, Tr.get_leaf]
  split <;> rfl
structure AHeap where
  next : Nat
  mrk : Nat
  ws : List Nat
  t : HT
inductive Opd where
  | t (n : Key)
  | c (v : AVal)
inductive EqC where
  | bool | ptr | agg (ks : List Nat) | slice | iface | func | map
inductive Ins where
  | mov (x : Opd)
  | pick (c a b : Opd)
  | boxz (elem es bts : Nat) (cells : List AVal)
  | box (elem es bts : Nat) (x : Opd)
  | load (n : Nat) (agg : Bool) (a : Opd)
  | store (n : Nat) (a x : Opd)
  | bin (op : BinOp) (x y : Opd)
  | eqv (c : EqC) (neg : Bool) (x y : Opd)
  | un (op : UnOp) (x : Opd)
  | offs (x : Opd) (k : Nat)
  | sub (x : Opd) (off n : Nat) (agg : Bool)
  | idxArr (len es : Nat) (x i : Opd)
  | idxSl (es : Nat) (x i : Opd)
  | idxVal (len es : Nat) (agg : Bool) (x i : Opd)
  | idxStr (x i : Opd)
  | slStr (x : Opd) (lo hi : Option Opd)
  | slSl (es : Nat) (x : Opd) (lo hi : Option Opd)
  | slArr (len es : Nat) (x : Opd) (lo hi : Option Opd)
  | extr (x : Opd) (i : Nat)
  | nilck (x : Opd)
  | mkfn (f : Nat) (first caps : List Opd)
  | mkif (t : Nat) (x : Opd)
  | mksl (elem es bts : Nat) (zero : List AVal) (len cap : Opd)
  | build (zero : List AVal) (parts : List (Nat × Nat × Opd))
  | buildSl (elem es bts len : Nat) (zero : List AVal) (parts : List (Nat × Opd))
  | len (x : Opd)
  | lenK (n : Nat)
  | lenS (x : Opd)
  | app (elem es bts : Nat) (x y : Opd)
  | appStr (elem : Nat) (x y : Opd)
  | copy (es : Nat) (x y : Opd)
  | minmax (mx : Bool) (x : Opd) (ys : List Opd)
  | conv (k : IntKind) (x : Opd)
  | convId (x : Opd)
  | convSB (elem : Nat) (x : Opd)
  | convBS (x : Opd)
  | call (f : Nat) (args : List Opd)
  | callv (x : Opd) (args : List Opd)
  | uconv (t n : Nat) (x : Opd)
  | usd (x : Opd)
  | ustr (e : Nat) (x n : Opd)
structure IOp where
  dst : Option Key
  g : Option (Key × Bool)
  q : Option (List Nat)
  op : Ins
inductive IRes where
  | tmp (t : Key)
  | cell (a : Key) (n : Nat) (agg : Bool)
inductive IC where
  | skip
  | region (draw : Bool) (ops : List IOp)
  | seq (a b : IC)
  | cond (c : Opd) (a b : IC)
  | block (id : Nat) (b : IC)
  | loop (b : IC)
  | exit (id : Nat)
  | ret
structure IFn where
  nt : Nat
  ps : List Key
  res : List IRes
  body : IC
inductive Res where
  | ok (v : AVal) (H : AHeap)
  | err (n : Nat)
inductive ORes where
  | ok (E : Env) (H : AHeap)
  | err (n : Nat)
inductive Ex where
  | normal | exit (id : Nat) | ret
inductive Out where
  | ok (x : Ex) (E : Env) (H : AHeap)
  | err (n : Nat)
noncomputable def NA.updO0 (f : Option AVal → (Option AVal → ORes) → ORes) (t : NA) (c : NA → ORes) : ORes := NA.rec (motive := fun _ => ORes) (fun x0 x1 x2 x3 x4 x5 => f x0 fun y => c (.mk y x1 x2 x3 x4 x5)) t
noncomputable def NA.updO1 (f : Option AVal → (Option AVal → ORes) → ORes) (t : NA) (c : NA → ORes) : ORes := NA.rec (motive := fun _ => ORes) (fun x0 x1 x2 x3 x4 x5 => f x1 fun y => c (.mk x0 y x2 x3 x4 x5)) t
noncomputable def NA.updO2 (f : Option AVal → (Option AVal → ORes) → ORes) (t : NA) (c : NA → ORes) : ORes := NA.rec (motive := fun _ => ORes) (fun x0 x1 x2 x3 x4 x5 => f x2 fun y => c (.mk x0 x1 y x3 x4 x5)) t
noncomputable def NA.updO3 (f : Option AVal → (Option AVal → ORes) → ORes) (t : NA) (c : NA → ORes) : ORes := NA.rec (motive := fun _ => ORes) (fun x0 x1 x2 x3 x4 x5 => f x3 fun y => c (.mk x0 x1 x2 y x4 x5)) t
noncomputable def NA.updO4 (f : Option AVal → (Option AVal → ORes) → ORes) (t : NA) (c : NA → ORes) : ORes := NA.rec (motive := fun _ => ORes) (fun x0 x1 x2 x3 x4 x5 => f x4 fun y => c (.mk x0 x1 x2 x3 y x5)) t
noncomputable def NA.updO5 (f : Option AVal → (Option AVal → ORes) → ORes) (t : NA) (c : NA → ORes) : ORes := NA.rec (motive := fun _ => ORes) (fun x0 x1 x2 x3 x4 x5 => f x5 fun y => c (.mk x0 x1 x2 x3 x4 y)) t
noncomputable def NA.updO (d : D6) : (Option AVal → (Option AVal → ORes) → ORes) → NA → (NA → ORes) → ORes :=
  D6.rec (motive := fun _ => (Option AVal → (Option AVal → ORes) → ORes) → NA → (NA → ORes) → ORes) NA.updO0 NA.updO1 NA.updO2 NA.updO3 NA.updO4 NA.updO5 d
theorem NA.updO_eq (d : D6) (g : Option AVal → Option AVal) (f : Option AVal → (Option AVal → ORes) → ORes) (hf : ∀ x c, f x c = c (g x)) (t : NA) (c : NA → ORes) : NA.updO d f t c = c (NA.mod d g t) := by
  cases t; cases d <;> exact hf _ _
noncomputable def NB.updO0 (f : NA → (NA → ORes) → ORes) (t : NB) (c : NB → ORes) : ORes := NB.rec (motive := fun _ => ORes) (fun x0 x1 x2 x3 x4 x5 => f x0 fun y => c (.mk y x1 x2 x3 x4 x5)) t
noncomputable def NB.updO1 (f : NA → (NA → ORes) → ORes) (t : NB) (c : NB → ORes) : ORes := NB.rec (motive := fun _ => ORes) (fun x0 x1 x2 x3 x4 x5 => f x1 fun y => c (.mk x0 y x2 x3 x4 x5)) t
noncomputable def NB.updO2 (f : NA → (NA → ORes) → ORes) (t : NB) (c : NB → ORes) : ORes := NB.rec (motive := fun _ => ORes) (fun x0 x1 x2 x3 x4 x5 => f x2 fun y => c (.mk x0 x1 y x3 x4 x5)) t
noncomputable def NB.updO3 (f : NA → (NA → ORes) → ORes) (t : NB) (c : NB → ORes) : ORes := NB.rec (motive := fun _ => ORes) (fun x0 x1 x2 x3 x4 x5 => f x3 fun y => c (.mk x0 x1 x2 y x4 x5)) t
noncomputable def NB.updO4 (f : NA → (NA → ORes) → ORes) (t : NB) (c : NB → ORes) : ORes := NB.rec (motive := fun _ => ORes) (fun x0 x1 x2 x3 x4 x5 => f x4 fun y => c (.mk x0 x1 x2 x3 y x5)) t
noncomputable def NB.updO5 (f : NA → (NA → ORes) → ORes) (t : NB) (c : NB → ORes) : ORes := NB.rec (motive := fun _ => ORes) (fun x0 x1 x2 x3 x4 x5 => f x5 fun y => c (.mk x0 x1 x2 x3 x4 y)) t
noncomputable def NB.updO (d : D6) : (NA → (NA → ORes) → ORes) → NB → (NB → ORes) → ORes :=
  D6.rec (motive := fun _ => (NA → (NA → ORes) → ORes) → NB → (NB → ORes) → ORes) NB.updO0 NB.updO1 NB.updO2 NB.updO3 NB.updO4 NB.updO5 d
theorem NB.updO_eq (d : D6) (g : NA → NA) (f : NA → (NA → ORes) → ORes) (hf : ∀ x c, f x c = c (g x)) (t : NB) (c : NB → ORes) : NB.updO d f t c = c (NB.mod d g t) := by
  cases t; cases d <;> exact hf _ _
noncomputable def Env.updO0 (f : NB → (NB → ORes) → ORes) (t : Env) (c : Env → ORes) : ORes := Env.rec (motive := fun _ => ORes) (fun x0 x1 x2 x3 x4 x5 => f x0 fun y => c (.mk y x1 x2 x3 x4 x5)) t
noncomputable def Env.updO1 (f : NB → (NB → ORes) → ORes) (t : Env) (c : Env → ORes) : ORes := Env.rec (motive := fun _ => ORes) (fun x0 x1 x2 x3 x4 x5 => f x1 fun y => c (.mk x0 y x2 x3 x4 x5)) t
noncomputable def Env.updO2 (f : NB → (NB → ORes) → ORes) (t : Env) (c : Env → ORes) : ORes := Env.rec (motive := fun _ => ORes) (fun x0 x1 x2 x3 x4 x5 => f x2 fun y => c (.mk x0 x1 y x3 x4 x5)) t
noncomputable def Env.updO3 (f : NB → (NB → ORes) → ORes) (t : Env) (c : Env → ORes) : ORes := Env.rec (motive := fun _ => ORes) (fun x0 x1 x2 x3 x4 x5 => f x3 fun y => c (.mk x0 x1 x2 y x4 x5)) t
noncomputable def Env.updO4 (f : NB → (NB → ORes) → ORes) (t : Env) (c : Env → ORes) : ORes := Env.rec (motive := fun _ => ORes) (fun x0 x1 x2 x3 x4 x5 => f x4 fun y => c (.mk x0 x1 x2 x3 y x5)) t
noncomputable def Env.updO5 (f : NB → (NB → ORes) → ORes) (t : Env) (c : Env → ORes) : ORes := Env.rec (motive := fun _ => ORes) (fun x0 x1 x2 x3 x4 x5 => f x5 fun y => c (.mk x0 x1 x2 x3 x4 y)) t
noncomputable def Env.updO (d : D6) : (NB → (NB → ORes) → ORes) → Env → (Env → ORes) → ORes :=
  D6.rec (motive := fun _ => (NB → (NB → ORes) → ORes) → Env → (Env → ORes) → ORes) Env.updO0 Env.updO1 Env.updO2 Env.updO3 Env.updO4 Env.updO5 d
theorem Env.updO_eq (d : D6) (g : NB → NB) (f : NB → (NB → ORes) → ORes) (hf : ∀ x c, f x c = c (g x)) (t : Env) (c : Env → ORes) : Env.updO d f t c = c (Env.mod0 d g t) := by
  cases t; cases d <;> exact hf _ _
noncomputable def Env.setO (E : Env) (key : Key) (v : AVal) (c : Env → ORes) : ORes := Key.rec (motive := fun _ => AVal → Env → (Env → ORes) → ORes) (fun i j k v => Env.updO i (NB.updO j (NA.updO k fun _ c => c (some v)))) key v E c
theorem Env.setO_eq (E : Env) (key : Key) (v : AVal) (c : Env → ORes) : E.setO key v c = c (E.set key v) := by
  cases key with
  | mk i j k =>
    have h1 : ∀ {β : Type} (x : NB) (c : NB → β), NB.upd j (NA.upd k fun _ c => c (some v)) x c = c (NB.mod j (NA.mod k fun _ => some v) x) :=
      fun x c => NB.upd_eq j _ _ (fun x c => NA.upd_eq k (fun _ => some v) _ (fun _ _ => rfl) x c) x c
    have h2 : E.set (.mk i j k) v = Env.mod0 i (NB.mod j (NA.mod k fun _ => some v)) E := Env.upd0_eq i (NB.mod j (NA.mod k fun _ => some v)) _ h1 E fun E => E
    rw [h2]
    exact Env.updO_eq i (NB.mod j (NA.mod k fun _ => some v)) _ (fun x c => NB.updO_eq j _ _ (fun x c => NA.updO_eq k (fun _ => some v) _ (fun _ _ => rfl) x c) x c) E c
noncomputable def HA.updR0 (f : Option (AObj) → (Option (AObj) → Res) → Res) (t : HA) (c : HA → Res) : Res := HA.rec (motive := fun _ => Res) (fun x0 x1 x2 x3 x4 x5 => f x0 fun y => c (.mk y x1 x2 x3 x4 x5)) t
noncomputable def HA.updR1 (f : Option (AObj) → (Option (AObj) → Res) → Res) (t : HA) (c : HA → Res) : Res := HA.rec (motive := fun _ => Res) (fun x0 x1 x2 x3 x4 x5 => f x1 fun y => c (.mk x0 y x2 x3 x4 x5)) t
noncomputable def HA.updR2 (f : Option (AObj) → (Option (AObj) → Res) → Res) (t : HA) (c : HA → Res) : Res := HA.rec (motive := fun _ => Res) (fun x0 x1 x2 x3 x4 x5 => f x2 fun y => c (.mk x0 x1 y x3 x4 x5)) t
noncomputable def HA.updR3 (f : Option (AObj) → (Option (AObj) → Res) → Res) (t : HA) (c : HA → Res) : Res := HA.rec (motive := fun _ => Res) (fun x0 x1 x2 x3 x4 x5 => f x3 fun y => c (.mk x0 x1 x2 y x4 x5)) t
noncomputable def HA.updR4 (f : Option (AObj) → (Option (AObj) → Res) → Res) (t : HA) (c : HA → Res) : Res := HA.rec (motive := fun _ => Res) (fun x0 x1 x2 x3 x4 x5 => f x4 fun y => c (.mk x0 x1 x2 x3 y x5)) t
noncomputable def HA.updR5 (f : Option (AObj) → (Option (AObj) → Res) → Res) (t : HA) (c : HA → Res) : Res := HA.rec (motive := fun _ => Res) (fun x0 x1 x2 x3 x4 x5 => f x5 fun y => c (.mk x0 x1 x2 x3 x4 y)) t
noncomputable def HA.updR (d : D6) : (Option (AObj) → (Option (AObj) → Res) → Res) → HA → (HA → Res) → Res :=
  D6.rec (motive := fun _ => (Option (AObj) → (Option (AObj) → Res) → Res) → HA → (HA → Res) → Res) HA.updR0 HA.updR1 HA.updR2 HA.updR3 HA.updR4 HA.updR5 d
theorem HA.updR_eq (d : D6) (g : Option (AObj) → Option (AObj)) (f : Option (AObj) → (Option (AObj) → Res) → Res) (hf : ∀ x c, f x c = c (g x)) (t : HA) (c : HA → Res) : HA.updR d f t c = c (HA.mod d g t) := by
  cases t; cases d <;> exact hf _ _
noncomputable def HB.updR0 (f : HA → (HA → Res) → Res) (t : HB) (c : HB → Res) : Res := HB.rec (motive := fun _ => Res) (fun x0 x1 x2 x3 x4 x5 => f x0 fun y => c (.mk y x1 x2 x3 x4 x5)) t
noncomputable def HB.updR1 (f : HA → (HA → Res) → Res) (t : HB) (c : HB → Res) : Res := HB.rec (motive := fun _ => Res) (fun x0 x1 x2 x3 x4 x5 => f x1 fun y => c (.mk x0 y x2 x3 x4 x5)) t
noncomputable def HB.updR2 (f : HA → (HA → Res) → Res) (t : HB) (c : HB → Res) : Res := HB.rec (motive := fun _ => Res) (fun x0 x1 x2 x3 x4 x5 => f x2 fun y => c (.mk x0 x1 y x3 x4 x5)) t
noncomputable def HB.updR3 (f : HA → (HA → Res) → Res) (t : HB) (c : HB → Res) : Res := HB.rec (motive := fun _ => Res) (fun x0 x1 x2 x3 x4 x5 => f x3 fun y => c (.mk x0 x1 x2 y x4 x5)) t
noncomputable def HB.updR4 (f : HA → (HA → Res) → Res) (t : HB) (c : HB → Res) : Res := HB.rec (motive := fun _ => Res) (fun x0 x1 x2 x3 x4 x5 => f x4 fun y => c (.mk x0 x1 x2 x3 y x5)) t
noncomputable def HB.updR5 (f : HA → (HA → Res) → Res) (t : HB) (c : HB → Res) : Res := HB.rec (motive := fun _ => Res) (fun x0 x1 x2 x3 x4 x5 => f x5 fun y => c (.mk x0 x1 x2 x3 x4 y)) t
noncomputable def HB.updR (d : D6) : (HA → (HA → Res) → Res) → HB → (HB → Res) → Res :=
  D6.rec (motive := fun _ => (HA → (HA → Res) → Res) → HB → (HB → Res) → Res) HB.updR0 HB.updR1 HB.updR2 HB.updR3 HB.updR4 HB.updR5 d
theorem HB.updR_eq (d : D6) (g : HA → HA) (f : HA → (HA → Res) → Res) (hf : ∀ x c, f x c = c (g x)) (t : HB) (c : HB → Res) : HB.updR d f t c = c (HB.mod d g t) := by
  cases t; cases d <;> exact hf _ _
noncomputable def HC.updR0 (f : HB → (HB → Res) → Res) (t : HC) (c : HC → Res) : Res := HC.rec (motive := fun _ => Res) (fun x0 x1 x2 x3 x4 x5 => f x0 fun y => c (.mk y x1 x2 x3 x4 x5)) t
noncomputable def HC.updR1 (f : HB → (HB → Res) → Res) (t : HC) (c : HC → Res) : Res := HC.rec (motive := fun _ => Res) (fun x0 x1 x2 x3 x4 x5 => f x1 fun y => c (.mk x0 y x2 x3 x4 x5)) t
noncomputable def HC.updR2 (f : HB → (HB → Res) → Res) (t : HC) (c : HC → Res) : Res := HC.rec (motive := fun _ => Res) (fun x0 x1 x2 x3 x4 x5 => f x2 fun y => c (.mk x0 x1 y x3 x4 x5)) t
noncomputable def HC.updR3 (f : HB → (HB → Res) → Res) (t : HC) (c : HC → Res) : Res := HC.rec (motive := fun _ => Res) (fun x0 x1 x2 x3 x4 x5 => f x3 fun y => c (.mk x0 x1 x2 y x4 x5)) t
noncomputable def HC.updR4 (f : HB → (HB → Res) → Res) (t : HC) (c : HC → Res) : Res := HC.rec (motive := fun _ => Res) (fun x0 x1 x2 x3 x4 x5 => f x4 fun y => c (.mk x0 x1 x2 x3 y x5)) t
noncomputable def HC.updR5 (f : HB → (HB → Res) → Res) (t : HC) (c : HC → Res) : Res := HC.rec (motive := fun _ => Res) (fun x0 x1 x2 x3 x4 x5 => f x5 fun y => c (.mk x0 x1 x2 x3 x4 y)) t
noncomputable def HC.updR (d : D6) : (HB → (HB → Res) → Res) → HC → (HC → Res) → Res :=
  D6.rec (motive := fun _ => (HB → (HB → Res) → Res) → HC → (HC → Res) → Res) HC.updR0 HC.updR1 HC.updR2 HC.updR3 HC.updR4 HC.updR5 d
theorem HC.updR_eq (d : D6) (g : HB → HB) (f : HB → (HB → Res) → Res) (hf : ∀ x c, f x c = c (g x)) (t : HC) (c : HC → Res) : HC.updR d f t c = c (HC.mod d g t) := by
  cases t; cases d <;> exact hf _ _
noncomputable def HD.updR0 (f : HC → (HC → Res) → Res) (t : HD) (c : HD → Res) : Res := HD.rec (motive := fun _ => Res) (fun x0 x1 x2 x3 x4 x5 => f x0 fun y => c (.mk y x1 x2 x3 x4 x5)) t
noncomputable def HD.updR1 (f : HC → (HC → Res) → Res) (t : HD) (c : HD → Res) : Res := HD.rec (motive := fun _ => Res) (fun x0 x1 x2 x3 x4 x5 => f x1 fun y => c (.mk x0 y x2 x3 x4 x5)) t
noncomputable def HD.updR2 (f : HC → (HC → Res) → Res) (t : HD) (c : HD → Res) : Res := HD.rec (motive := fun _ => Res) (fun x0 x1 x2 x3 x4 x5 => f x2 fun y => c (.mk x0 x1 y x3 x4 x5)) t
noncomputable def HD.updR3 (f : HC → (HC → Res) → Res) (t : HD) (c : HD → Res) : Res := HD.rec (motive := fun _ => Res) (fun x0 x1 x2 x3 x4 x5 => f x3 fun y => c (.mk x0 x1 x2 y x4 x5)) t
noncomputable def HD.updR4 (f : HC → (HC → Res) → Res) (t : HD) (c : HD → Res) : Res := HD.rec (motive := fun _ => Res) (fun x0 x1 x2 x3 x4 x5 => f x4 fun y => c (.mk x0 x1 x2 x3 y x5)) t
noncomputable def HD.updR5 (f : HC → (HC → Res) → Res) (t : HD) (c : HD → Res) : Res := HD.rec (motive := fun _ => Res) (fun x0 x1 x2 x3 x4 x5 => f x5 fun y => c (.mk x0 x1 x2 x3 x4 y)) t
noncomputable def HD.updR (d : D6) : (HC → (HC → Res) → Res) → HD → (HD → Res) → Res :=
  D6.rec (motive := fun _ => (HC → (HC → Res) → Res) → HD → (HD → Res) → Res) HD.updR0 HD.updR1 HD.updR2 HD.updR3 HD.updR4 HD.updR5 d
theorem HD.updR_eq (d : D6) (g : HC → HC) (f : HC → (HC → Res) → Res) (hf : ∀ x c, f x c = c (g x)) (t : HD) (c : HD → Res) : HD.updR d f t c = c (HD.mod d g t) := by
  cases t; cases d <;> exact hf _ _
noncomputable def HE.updR0 (f : HD → (HD → Res) → Res) (t : HE) (c : HE → Res) : Res := HE.rec (motive := fun _ => Res) (fun x0 x1 x2 x3 x4 x5 => f x0 fun y => c (.mk y x1 x2 x3 x4 x5)) t
noncomputable def HE.updR1 (f : HD → (HD → Res) → Res) (t : HE) (c : HE → Res) : Res := HE.rec (motive := fun _ => Res) (fun x0 x1 x2 x3 x4 x5 => f x1 fun y => c (.mk x0 y x2 x3 x4 x5)) t
noncomputable def HE.updR2 (f : HD → (HD → Res) → Res) (t : HE) (c : HE → Res) : Res := HE.rec (motive := fun _ => Res) (fun x0 x1 x2 x3 x4 x5 => f x2 fun y => c (.mk x0 x1 y x3 x4 x5)) t
noncomputable def HE.updR3 (f : HD → (HD → Res) → Res) (t : HE) (c : HE → Res) : Res := HE.rec (motive := fun _ => Res) (fun x0 x1 x2 x3 x4 x5 => f x3 fun y => c (.mk x0 x1 x2 y x4 x5)) t
noncomputable def HE.updR4 (f : HD → (HD → Res) → Res) (t : HE) (c : HE → Res) : Res := HE.rec (motive := fun _ => Res) (fun x0 x1 x2 x3 x4 x5 => f x4 fun y => c (.mk x0 x1 x2 x3 y x5)) t
noncomputable def HE.updR5 (f : HD → (HD → Res) → Res) (t : HE) (c : HE → Res) : Res := HE.rec (motive := fun _ => Res) (fun x0 x1 x2 x3 x4 x5 => f x5 fun y => c (.mk x0 x1 x2 x3 x4 y)) t
noncomputable def HE.updR (d : D6) : (HD → (HD → Res) → Res) → HE → (HE → Res) → Res :=
  D6.rec (motive := fun _ => (HD → (HD → Res) → Res) → HE → (HE → Res) → Res) HE.updR0 HE.updR1 HE.updR2 HE.updR3 HE.updR4 HE.updR5 d
theorem HE.updR_eq (d : D6) (g : HD → HD) (f : HD → (HD → Res) → Res) (hf : ∀ x c, f x c = c (g x)) (t : HE) (c : HE → Res) : HE.updR d f t c = c (HE.mod d g t) := by
  cases t; cases d <;> exact hf _ _
noncomputable def HF.updR0 (f : HE → (HE → Res) → Res) (t : HF) (c : HF → Res) : Res := HF.rec (motive := fun _ => Res) (fun x0 x1 x2 x3 x4 x5 => f x0 fun y => c (.mk y x1 x2 x3 x4 x5)) t
noncomputable def HF.updR1 (f : HE → (HE → Res) → Res) (t : HF) (c : HF → Res) : Res := HF.rec (motive := fun _ => Res) (fun x0 x1 x2 x3 x4 x5 => f x1 fun y => c (.mk x0 y x2 x3 x4 x5)) t
noncomputable def HF.updR2 (f : HE → (HE → Res) → Res) (t : HF) (c : HF → Res) : Res := HF.rec (motive := fun _ => Res) (fun x0 x1 x2 x3 x4 x5 => f x2 fun y => c (.mk x0 x1 y x3 x4 x5)) t
noncomputable def HF.updR3 (f : HE → (HE → Res) → Res) (t : HF) (c : HF → Res) : Res := HF.rec (motive := fun _ => Res) (fun x0 x1 x2 x3 x4 x5 => f x3 fun y => c (.mk x0 x1 x2 y x4 x5)) t
noncomputable def HF.updR4 (f : HE → (HE → Res) → Res) (t : HF) (c : HF → Res) : Res := HF.rec (motive := fun _ => Res) (fun x0 x1 x2 x3 x4 x5 => f x4 fun y => c (.mk x0 x1 x2 x3 y x5)) t
noncomputable def HF.updR5 (f : HE → (HE → Res) → Res) (t : HF) (c : HF → Res) : Res := HF.rec (motive := fun _ => Res) (fun x0 x1 x2 x3 x4 x5 => f x5 fun y => c (.mk x0 x1 x2 x3 x4 y)) t
noncomputable def HF.updR (d : D6) : (HE → (HE → Res) → Res) → HF → (HF → Res) → Res :=
  D6.rec (motive := fun _ => (HE → (HE → Res) → Res) → HF → (HF → Res) → Res) HF.updR0 HF.updR1 HF.updR2 HF.updR3 HF.updR4 HF.updR5 d
theorem HF.updR_eq (d : D6) (g : HE → HE) (f : HE → (HE → Res) → Res) (hf : ∀ x c, f x c = c (g x)) (t : HF) (c : HF → Res) : HF.updR d f t c = c (HF.mod d g t) := by
  cases t; cases d <;> exact hf _ _
noncomputable def HF.setR (t : HF) (k : HKey) (v : AObj) (c : HF → Res) : Res := HKey.rec (motive := fun _ => AObj → HF → (HF → Res) → Res) (fun b0 b1 b2 b3 b4 b5 v => (HF.updR b0 (HE.updR b1 (HD.updR b2 (HC.updR b3 (HB.updR b4 (HA.updR b5 (fun _ c => c (some v))))))))) k v t c
theorem HF.setR_eq (t : HF) (k : HKey) (v : AObj) (c : HF → Res) : t.setR k v c = c (t.set k v) := by
  cases k with
  | mk b0 b1 b2 b3 b4 b5 =>
    rw [HF.set_eq]
    exact HF.updR_eq b0 _ _ (fun x c => HE.updR_eq b1 _ _ (fun x c => HD.updR_eq b2 _ _ (fun x c => HC.updR_eq b3 _ _ (fun x c => HB.updR_eq b4 _ _ (fun x c => HA.updR_eq b5 _ _ (fun _ _ => rfl) x c) x c) x c) x c) x c) t c
noncomputable def RA.updR0 (f : Option (List AVal) → (Option (List AVal) → Res) → Res) (t : RA) (c : RA → Res) : Res := RA.rec (motive := fun _ => Res) (fun x0 x1 x2 x3 x4 x5 => f x0 fun y => c (.mk y x1 x2 x3 x4 x5)) t
noncomputable def RA.updR1 (f : Option (List AVal) → (Option (List AVal) → Res) → Res) (t : RA) (c : RA → Res) : Res := RA.rec (motive := fun _ => Res) (fun x0 x1 x2 x3 x4 x5 => f x1 fun y => c (.mk x0 y x2 x3 x4 x5)) t
noncomputable def RA.updR2 (f : Option (List AVal) → (Option (List AVal) → Res) → Res) (t : RA) (c : RA → Res) : Res := RA.rec (motive := fun _ => Res) (fun x0 x1 x2 x3 x4 x5 => f x2 fun y => c (.mk x0 x1 y x3 x4 x5)) t
noncomputable def RA.updR3 (f : Option (List AVal) → (Option (List AVal) → Res) → Res) (t : RA) (c : RA → Res) : Res := RA.rec (motive := fun _ => Res) (fun x0 x1 x2 x3 x4 x5 => f x3 fun y => c (.mk x0 x1 x2 y x4 x5)) t
noncomputable def RA.updR4 (f : Option (List AVal) → (Option (List AVal) → Res) → Res) (t : RA) (c : RA → Res) : Res := RA.rec (motive := fun _ => Res) (fun x0 x1 x2 x3 x4 x5 => f x4 fun y => c (.mk x0 x1 x2 x3 y x5)) t
noncomputable def RA.updR5 (f : Option (List AVal) → (Option (List AVal) → Res) → Res) (t : RA) (c : RA → Res) : Res := RA.rec (motive := fun _ => Res) (fun x0 x1 x2 x3 x4 x5 => f x5 fun y => c (.mk x0 x1 x2 x3 x4 y)) t
noncomputable def RA.updR (d : D6) : (Option (List AVal) → (Option (List AVal) → Res) → Res) → RA → (RA → Res) → Res :=
  D6.rec (motive := fun _ => (Option (List AVal) → (Option (List AVal) → Res) → Res) → RA → (RA → Res) → Res) RA.updR0 RA.updR1 RA.updR2 RA.updR3 RA.updR4 RA.updR5 d
theorem RA.updR_eq (d : D6) (g : Option (List AVal) → Option (List AVal)) (f : Option (List AVal) → (Option (List AVal) → Res) → Res) (hf : ∀ x c, f x c = c (g x)) (t : RA) (c : RA → Res) : RA.updR d f t c = c (RA.mod d g t) := by
  cases t; cases d <;> exact hf _ _
noncomputable def RB.updR0 (f : RA → (RA → Res) → Res) (t : RB) (c : RB → Res) : Res := RB.rec (motive := fun _ => Res) (fun x0 x1 x2 x3 x4 x5 => f x0 fun y => c (.mk y x1 x2 x3 x4 x5)) t
noncomputable def RB.updR1 (f : RA → (RA → Res) → Res) (t : RB) (c : RB → Res) : Res := RB.rec (motive := fun _ => Res) (fun x0 x1 x2 x3 x4 x5 => f x1 fun y => c (.mk x0 y x2 x3 x4 x5)) t
noncomputable def RB.updR2 (f : RA → (RA → Res) → Res) (t : RB) (c : RB → Res) : Res := RB.rec (motive := fun _ => Res) (fun x0 x1 x2 x3 x4 x5 => f x2 fun y => c (.mk x0 x1 y x3 x4 x5)) t
noncomputable def RB.updR3 (f : RA → (RA → Res) → Res) (t : RB) (c : RB → Res) : Res := RB.rec (motive := fun _ => Res) (fun x0 x1 x2 x3 x4 x5 => f x3 fun y => c (.mk x0 x1 x2 y x4 x5)) t
noncomputable def RB.updR4 (f : RA → (RA → Res) → Res) (t : RB) (c : RB → Res) : Res := RB.rec (motive := fun _ => Res) (fun x0 x1 x2 x3 x4 x5 => f x4 fun y => c (.mk x0 x1 x2 x3 y x5)) t
noncomputable def RB.updR5 (f : RA → (RA → Res) → Res) (t : RB) (c : RB → Res) : Res := RB.rec (motive := fun _ => Res) (fun x0 x1 x2 x3 x4 x5 => f x5 fun y => c (.mk x0 x1 x2 x3 x4 y)) t
noncomputable def RB.updR (d : D6) : (RA → (RA → Res) → Res) → RB → (RB → Res) → Res :=
  D6.rec (motive := fun _ => (RA → (RA → Res) → Res) → RB → (RB → Res) → Res) RB.updR0 RB.updR1 RB.updR2 RB.updR3 RB.updR4 RB.updR5 d
theorem RB.updR_eq (d : D6) (g : RA → RA) (f : RA → (RA → Res) → Res) (hf : ∀ x c, f x c = c (g x)) (t : RB) (c : RB → Res) : RB.updR d f t c = c (RB.mod d g t) := by
  cases t; cases d <;> exact hf _ _
noncomputable def RC.updR0 (f : RB → (RB → Res) → Res) (t : RC) (c : RC → Res) : Res := RC.rec (motive := fun _ => Res) (fun x0 x1 x2 x3 x4 x5 => f x0 fun y => c (.mk y x1 x2 x3 x4 x5)) t
noncomputable def RC.updR1 (f : RB → (RB → Res) → Res) (t : RC) (c : RC → Res) : Res := RC.rec (motive := fun _ => Res) (fun x0 x1 x2 x3 x4 x5 => f x1 fun y => c (.mk x0 y x2 x3 x4 x5)) t
noncomputable def RC.updR2 (f : RB → (RB → Res) → Res) (t : RC) (c : RC → Res) : Res := RC.rec (motive := fun _ => Res) (fun x0 x1 x2 x3 x4 x5 => f x2 fun y => c (.mk x0 x1 y x3 x4 x5)) t
noncomputable def RC.updR3 (f : RB → (RB → Res) → Res) (t : RC) (c : RC → Res) : Res := RC.rec (motive := fun _ => Res) (fun x0 x1 x2 x3 x4 x5 => f x3 fun y => c (.mk x0 x1 x2 y x4 x5)) t
noncomputable def RC.updR4 (f : RB → (RB → Res) → Res) (t : RC) (c : RC → Res) : Res := RC.rec (motive := fun _ => Res) (fun x0 x1 x2 x3 x4 x5 => f x4 fun y => c (.mk x0 x1 x2 x3 y x5)) t
noncomputable def RC.updR5 (f : RB → (RB → Res) → Res) (t : RC) (c : RC → Res) : Res := RC.rec (motive := fun _ => Res) (fun x0 x1 x2 x3 x4 x5 => f x5 fun y => c (.mk x0 x1 x2 x3 x4 y)) t
noncomputable def RC.updR (d : D6) : (RB → (RB → Res) → Res) → RC → (RC → Res) → Res :=
  D6.rec (motive := fun _ => (RB → (RB → Res) → Res) → RC → (RC → Res) → Res) RC.updR0 RC.updR1 RC.updR2 RC.updR3 RC.updR4 RC.updR5 d
theorem RC.updR_eq (d : D6) (g : RB → RB) (f : RB → (RB → Res) → Res) (hf : ∀ x c, f x c = c (g x)) (t : RC) (c : RC → Res) : RC.updR d f t c = c (RC.mod d g t) := by
  cases t; cases d <;> exact hf _ _
noncomputable def RC.setR (t : RC) (k : RKey) (v : List AVal) (c : RC → Res) : Res := RKey.rec (motive := fun _ => List AVal → RC → (RC → Res) → Res) (fun b0 b1 b2 v => (RC.updR b0 (RB.updR b1 (RA.updR b2 (fun _ c => c (some v)))))) k v t c
theorem RC.setR_eq (t : RC) (k : RKey) (v : List AVal) (c : RC → Res) : t.setR k v c = c (t.set k v) := by
  cases k with
  | mk b0 b1 b2 =>
    rw [RC.set_eq]
    exact RC.updR_eq b0 _ _ (fun x c => RB.updR_eq b1 _ _ (fun x c => RA.updR_eq b2 _ _ (fun _ _ => rfl) x c) x c) t c
noncomputable def RT.setMC (s : RC) (b : Tr (List AVal)) (n : Nat) (v : List AVal) (c : RT → Res) : Res := Bool.rec (motive := fun _ => Res) ((b.set n v).seq fun b => c (.many s b)) (s.setR (RKey.of n) v fun s => c (.many s b)) (Nat.ble n 215)
noncomputable def RT.setC (t : RT) (n : Nat) (v : List AVal) (c : RT → Res) : Res :=
  RT.rec (motive := fun _ => Nat → List AVal → (RT → Res) → Res) (fun n v c => Nat.rec (motive := fun _ => Res) (c (.one v)) (fun m _ => RT.setMC .emp .leaf (Nat.succ m) v c) n)
    (fun x n v c => Nat.rec (motive := fun _ => Res) (c (.one v)) (fun m _ => RC.emp.setR (RKey.of 0) x fun s => RT.setMC s .leaf (Nat.succ m) v c) n) RT.setMC t n v c
theorem RT.setMC_eq (s : RC) (b : Tr (List AVal)) (n : Nat) (v : List AVal) (c : RT → Res) : RT.setMC s b n v c = c (RT.setM s b n v) := by
  unfold RT.setMC RT.setM
  cases Nat.ble n 215
  · exact Tr.seq_eq _ _
  · exact RC.setR_eq _ _ _ _
theorem RT.setC_eq (t : RT) (n : Nat) (v : List AVal) (c : RT → Res) : t.setC n v c = c (t.set n v) := by
  cases t with
  | emp => cases n with
    | zero => rfl
    | succ n => exact RT.setMC_eq _ _ _ _ _
  | one x => cases n with
    | zero => rfl
    | succ n =>
      show (RC.emp.setR (RKey.of 0) x fun s => RT.setMC s .leaf (n + 1) v c) = c (RT.setM (RC.emp.set (RKey.of 0) x) .leaf (n + 1) v)
      rw [RC.setR_eq, RT.setMC_eq]
  | many s b => exact RT.setMC_eq _ _ _ _ _
noncomputable def HT.setC (t : HT) (n : Nat) (v : AObj) (c : HT → Res) : Res :=
  HT.rec (motive := fun _ => Res) (fun s b => Bool.rec (motive := fun _ => Res) ((b.set n v).seq fun b => c (.mk s b)) (s.setR (HKey.of n) v fun s => c (.mk s b)) (Nat.ble n 46655)) t
theorem HT.setC_eq (t : HT) (n : Nat) (v : AObj) (c : HT → Res) : t.setC n v c = c (t.set n v) := by
  cases t with
  | mk s b =>
    show Bool.rec (motive := fun _ => Res) ((b.set n v).seq fun b => c (.mk s b)) (s.setR (HKey.of n) v fun s => c (.mk s b)) (Nat.ble n 46655) = c (Bool.rec (motive := fun _ => HT) (.mk s (b.set n v)) (.mk (s.set (HKey.of n) v) b) (Nat.ble n 46655))
    cases Nat.ble n 46655
    · exact Tr.seq_eq _ _
    · exact HF.setR_eq _ _ _ _
noncomputable def seqVal (v : AVal) (k : AVal → Res) : Res :=
  AVal.rec (motive_1 := fun _ => (AVal → Res) → Res) (motive_2 := fun _ => Unit) (fun b k' => Bool.rec (motive := fun _ => Res) (k' (.bool false)) (k' (.bool true)) b) (fun k n k' => seqInt n fun n => k' (.int k n)) (fun l v k' => seqNat l fun l => seqNat v fun v => k' (.str l v)) (fun f g o k' => seqNat f fun f => seqNat g fun g => seqNat o fun o => k' (.ptr f g o)) (fun k' => k' (.nilptr)) (fun f g o l es k' => seqNat f fun f => seqNat g fun g => seqNat o fun o => seqNat l fun l => k' (.slice f g o l es)) (fun k' => k' (.nilslice)) (fun cs _ k' => k' (.agg cs)) (fun vs _ k' => k' (.tuple vs)) (fun f fs caps _ _ k' => k' (.func f fs caps)) (fun k' => k' (.nilfunc)) (fun t v _ k' => k' (.iface t v)) (fun k' => k' (.niliface)) (fun f k' => k' (.map f)) (fun k' => k' (.nilmap)) (fun k' => k' (.undef)) () (fun _ _ _ _ => ()) v k
theorem seqVal_eq (v : AVal) (k : AVal → Res) : seqVal v k = k v := by
  cases v <;> simp [seqVal, seqInt_eq, seqNat_eq]
  rename_i b; cases b <;> rfl
noncomputable def chk {β : Type} (b : Bool) (k e : β) : β := Bool.rec (motive := fun _ => β) e k b
noncomputable def ob {α β : Type} (o : Option α) (e : β) (k : α → β) : β := Option.rec (motive := fun _ => β) e k o
noncomputable def seqBool {β : Type} (b : Bool) (k : Bool → β) : β := Bool.rec (motive := fun _ => β) (k false) (k true) b
noncomputable def onBool (v : AVal) (e : Res) (k : Bool → Res) : Res :=
  AVal.rec (motive_1 := fun _ => Res → (Bool → Res) → Res) (motive_2 := fun _ => Unit) (fun b e k' => k' b) (fun _ _ e _ => e) (fun _ _ e _ => e) (fun _ _ _ e _ => e) (fun e _ => e) (fun _ _ _ _ _ e _ => e) (fun e _ => e) (fun _ _ e _ => e) (fun _ _ e _ => e) (fun _ _ _ _ _ e _ => e) (fun e _ => e) (fun _ _ _ e _ => e) (fun e _ => e) (fun _ e _ => e) (fun e _ => e) (fun e _ => e) () (fun _ _ _ _ => ()) v e k
noncomputable def onGd (v : AVal) (s : ORes) (k : Bool → ORes) : ORes :=
  AVal.rec (motive_1 := fun _ => ORes → (Bool → ORes) → ORes) (motive_2 := fun _ => Unit) (fun b e k' => k' b) (fun _ _ _ _ => .err 51) (fun _ _ _ _ => .err 51) (fun _ _ _ _ _ => .err 51) (fun _ _ => .err 51) (fun _ _ _ _ _ _ _ => .err 51) (fun _ _ => .err 51) (fun _ _ _ _ => .err 51) (fun _ _ _ _ => .err 51) (fun _ _ _ _ _ _ _ => .err 51) (fun _ _ => .err 51) (fun _ _ _ _ _ => .err 51) (fun _ _ => .err 51) (fun _ _ _ => .err 51) (fun _ _ => .err 51) (fun s _ => s) () (fun _ _ _ _ => ()) v s k
noncomputable def onBoolC (v : AVal) (e : Out) (k : Bool → Out) : Out :=
  AVal.rec (motive_1 := fun _ => Out → (Bool → Out) → Out) (motive_2 := fun _ => Unit) (fun b e k' => k' b) (fun _ _ e _ => e) (fun _ _ e _ => e) (fun _ _ _ e _ => e) (fun e _ => e) (fun _ _ _ _ _ e _ => e) (fun e _ => e) (fun _ _ e _ => e) (fun _ _ e _ => e) (fun _ _ _ _ _ e _ => e) (fun e _ => e) (fun _ _ _ e _ => e) (fun e _ => e) (fun _ e _ => e) (fun e _ => e) (fun e _ => e) () (fun _ _ _ _ => ()) v e k
noncomputable def onInt (v : AVal) (e : Res) (k : IntKind → Int → Res) : Res :=
  AVal.rec (motive_1 := fun _ => Res → (IntKind → Int → Res) → Res) (motive_2 := fun _ => Unit) (fun _ e _ => e) (fun k n e k' => k' k n) (fun _ _ e _ => e) (fun _ _ _ e _ => e) (fun e _ => e) (fun _ _ _ _ _ e _ => e) (fun e _ => e) (fun _ _ e _ => e) (fun _ _ e _ => e) (fun _ _ _ _ _ e _ => e) (fun e _ => e) (fun _ _ _ e _ => e) (fun e _ => e) (fun _ e _ => e) (fun e _ => e) (fun e _ => e) () (fun _ _ _ _ => ()) v e k
noncomputable def onStr (v : AVal) (e : Res) (k : Nat → Nat → Res) : Res :=
  AVal.rec (motive_1 := fun _ => Res → (Nat → Nat → Res) → Res) (motive_2 := fun _ => Unit) (fun _ e _ => e) (fun _ _ e _ => e) (fun l v e k' => k' l v) (fun _ _ _ e _ => e) (fun e _ => e) (fun _ _ _ _ _ e _ => e) (fun e _ => e) (fun _ _ e _ => e) (fun _ _ e _ => e) (fun _ _ _ _ _ e _ => e) (fun e _ => e) (fun _ _ _ e _ => e) (fun e _ => e) (fun _ e _ => e) (fun e _ => e) (fun e _ => e) () (fun _ _ _ _ => ()) v e k
noncomputable def onPtr (v : AVal) (e : Res) (k : Nat → Nat → Nat → Res) : Res :=
  AVal.rec (motive_1 := fun _ => Res → (Nat → Nat → Nat → Res) → Res) (motive_2 := fun _ => Unit) (fun _ e _ => e) (fun _ _ e _ => e) (fun _ _ e _ => e) (fun f g o e k' => k' f g o) (fun e _ => e) (fun _ _ _ _ _ e _ => e) (fun e _ => e) (fun _ _ e _ => e) (fun _ _ e _ => e) (fun _ _ _ _ _ e _ => e) (fun e _ => e) (fun _ _ _ e _ => e) (fun e _ => e) (fun _ e _ => e) (fun e _ => e) (fun e _ => e) () (fun _ _ _ _ => ()) v e k
noncomputable def onSlice (v : AVal) (e n : Res) (k : Nat → Nat → Nat → Nat → Nat → Res) : Res :=
  AVal.rec (motive_1 := fun _ => Res → Res → (Nat → Nat → Nat → Nat → Nat → Res) → Res) (motive_2 := fun _ => Unit) (fun _ e _ _ => e) (fun _ _ e _ _ => e) (fun _ _ e _ _ => e) (fun _ _ _ e _ _ => e) (fun e _ _ => e) (fun f g o l es e _ k' => k' f g o l es) (fun _ n _ => n) (fun _ _ e _ _ => e) (fun _ _ e _ _ => e) (fun _ _ _ _ _ e _ _ => e) (fun e _ _ => e) (fun _ _ _ e _ _ => e) (fun e _ _ => e) (fun _ e _ _ => e) (fun e _ _ => e) (fun e _ _ => e) () (fun _ _ _ _ => ()) v e n k
noncomputable def onAgg (v : AVal) (e : Res) (k : List AVal → Res) : Res :=
  AVal.rec (motive_1 := fun _ => Res → (List AVal → Res) → Res) (motive_2 := fun _ => Unit) (fun _ e _ => e) (fun _ _ e _ => e) (fun _ _ e _ => e) (fun _ _ _ e _ => e) (fun e _ => e) (fun _ _ _ _ _ e _ => e) (fun e _ => e) (fun cs _ e k' => k' cs) (fun _ _ e _ => e) (fun _ _ _ _ _ e _ => e) (fun e _ => e) (fun _ _ _ e _ => e) (fun e _ => e) (fun _ e _ => e) (fun e _ => e) (fun e _ => e) () (fun _ _ _ _ => ()) v e k
noncomputable def onTuple (v : AVal) (e : Res) (k : List AVal → Res) : Res :=
  AVal.rec (motive_1 := fun _ => Res → (List AVal → Res) → Res) (motive_2 := fun _ => Unit) (fun _ e _ => e) (fun _ _ e _ => e) (fun _ _ e _ => e) (fun _ _ _ e _ => e) (fun e _ => e) (fun _ _ _ _ _ e _ => e) (fun e _ => e) (fun _ _ e _ => e) (fun vs _ e k' => k' vs) (fun _ _ _ _ _ e _ => e) (fun e _ => e) (fun _ _ _ e _ => e) (fun e _ => e) (fun _ e _ => e) (fun e _ => e) (fun e _ => e) () (fun _ _ _ _ => ()) v e k
noncomputable def onFunc (v : AVal) (e : Res) (k : Nat → List AVal → List AVal → Res) : Res :=
  AVal.rec (motive_1 := fun _ => Res → (Nat → List AVal → List AVal → Res) → Res) (motive_2 := fun _ => Unit) (fun _ e _ => e) (fun _ _ e _ => e) (fun _ _ e _ => e) (fun _ _ _ e _ => e) (fun e _ => e) (fun _ _ _ _ _ e _ => e) (fun e _ => e) (fun _ _ e _ => e) (fun _ _ e _ => e) (fun f fs caps _ _ e k' => k' f fs caps) (fun e _ => e) (fun _ _ _ e _ => e) (fun e _ => e) (fun _ e _ => e) (fun e _ => e) (fun e _ => e) () (fun _ _ _ _ => ()) v e k
noncomputable def onIntN (v : AVal) (e : Option Nat) (k : IntKind → Int → Option Nat) : Option Nat :=
  AVal.rec (motive_1 := fun _ => Option Nat → (IntKind → Int → Option Nat) → Option Nat) (motive_2 := fun _ => Unit) (fun _ e _ => e) (fun k n e k' => k' k n) (fun _ _ e _ => e) (fun _ _ _ e _ => e) (fun e _ => e) (fun _ _ _ _ _ e _ => e) (fun e _ => e) (fun _ _ e _ => e) (fun _ _ e _ => e) (fun _ _ _ _ _ e _ => e) (fun e _ => e) (fun _ _ _ e _ => e) (fun e _ => e) (fun _ e _ => e) (fun e _ => e) (fun e _ => e) () (fun _ _ _ _ => ()) v e k
noncomputable def onIntA (v : AVal) (e : Option AVal) (k : IntKind → Int → Option AVal) : Option AVal :=
  AVal.rec (motive_1 := fun _ => Option AVal → (IntKind → Int → Option AVal) → Option AVal) (motive_2 := fun _ => Unit) (fun _ e _ => e) (fun k n e k' => k' k n) (fun _ _ e _ => e) (fun _ _ _ e _ => e) (fun e _ => e) (fun _ _ _ _ _ e _ => e) (fun e _ => e) (fun _ _ e _ => e) (fun _ _ e _ => e) (fun _ _ _ _ _ e _ => e) (fun e _ => e) (fun _ _ _ e _ => e) (fun e _ => e) (fun _ e _ => e) (fun e _ => e) (fun e _ => e) () (fun _ _ _ _ => ()) v e k
noncomputable def cellsOk (v : AVal) : Option (List AVal) :=
  AVal.rec (motive_1 := fun _ => Option (List AVal)) (motive_2 := fun _ => Unit) (fun b => some [.bool b]) (fun k n => some [.int k n]) (fun l v => some [.str l v]) (fun f g o => some [.ptr f g o]) (some [.nilptr]) (fun f g o l es => some [.slice f g o l es]) (some [.nilslice]) (fun cs _ => some cs) (fun _ _ => none) (fun f fs caps _ _ => some [.func f fs caps]) (some [.nilfunc]) (fun t v _ => some [.iface t v]) (some [.niliface]) (fun f => some [.map f]) (some [.nilmap]) (none) () (fun _ _ _ _ => ()) v
noncomputable def onRow {β : Type} (o : Option AObj) (e : β) (k : Nat → Nat → Nat → Nat → Nat → Nat → RT → β) : β :=
  Option.rec (motive := fun _ => β) e (fun o => AObj.casesOn (motive := fun _ => β) o k (fun _ => e)) o
noncomputable def onNat {β : Type} (i : Int) (e : β) (k : Nat → β) : β := Int.rec (motive := fun _ => β) k (fun _ => e) i
noncomputable def lenL (l : List AVal) : Nat := List.rec (motive := fun _ => Nat) 0 (fun _ _ ih => Nat.succ ih) l
noncomputable def AHeap.alloc (H : AHeap) (o : AObj) (k : Nat → AHeap → Res) : Res :=
  AHeap.casesOn (motive := fun _ => Res) H fun next mrk ws t => seqNat next fun f => t.setC f o fun t => k f ⟨Nat.succ f, mrk, ws, t⟩
noncomputable def memN (f : Nat) (l : List Nat) : Bool :=
  List.rec (motive := fun _ => Bool) false (fun x _ ih => chk (Nat.beq f x) true ih) l
noncomputable def wrote (f mrk : Nat) (ws : List Nat) : List Nat :=
  chk (Nat.ble mrk f) ws (chk (memN f ws) ws (f :: ws))
noncomputable def rd {β : Type} (H : AHeap) (f g off n : Nat) (e : β) (k : List AVal → β) : β :=
  onRow (H.t.get f) e fun _ es _ m lo _ cs =>
    chk (Nat.ble lo g) (chk (Nat.ble g m) (chk (Nat.ble (Nat.add (Nat.mod off es) n) es) (chk (Nat.ble (Nat.succ (Nat.div off es)) g)
      (ob (cs.get (Nat.div off es)) e fun l => chk (Nat.beq n es) (k l) (k ((l.drop (Nat.mod off es)).take n))) e) e) e) e
noncomputable def splice (l : List AVal) (r : Nat) (new : List AVal) : List AVal := l.take r ++ (new ++ l.drop (r + new.length))
noncomputable def wr (H : AHeap) (f g off n : Nat) (new : List AVal) (e : Res) (k : AHeap → Res) : Res :=
  AHeap.casesOn (motive := fun _ => Res) H fun next mrk ws t => onRow (t.get f) e fun elem es bts m lo fl cs =>
    chk (Nat.beq fl 0) (chk (Nat.beq g m) (chk (Nat.ble lo g) (chk (Nat.ble (Nat.add (Nat.mod off es) n) es) (chk (Nat.ble (Nat.succ (Nat.div off es)) g) (chk (Nat.beq (lenL new) n)
      (ob (cs.get (Nat.div off es)) e fun l =>
        cs.setC (Nat.div off es) (chk (Nat.beq n es) new (splice l (Nat.mod off es) new)) fun cs => t.setC f (.row elem es bts m m 0 cs) fun t =>
          k ⟨next, mrk, wrote f mrk ws, t⟩) e) e) e) e) e) e
def byteAt (v i : Nat) : Nat := Nat.mod (Nat.shiftRight v (Nat.mul 8 i)) 256
def strSub (v lo hi : Nat) : Nat := Nat.mod (Nat.shiftRight v (Nat.mul 8 lo)) (Nat.shiftLeft 1 (Nat.mul 8 (Nat.sub hi lo)))
def strCat (l1 v1 v2 : Nat) : Nat := Nat.add v1 (Nat.shiftLeft v2 (Nat.mul 8 l1))
noncomputable def strLt (l1 : Nat) : Nat → Nat → Nat → Bool :=
  Nat.rec (motive := fun _ => Nat → Nat → Nat → Bool) (fun _ l2 _ => Bool.not (Nat.beq l2 0))
    (fun _ ih v1 l2 v2 => Nat.rec (motive := fun _ => Bool) false (fun l2' _ =>
      match Nat.beq (Nat.mod v1 256) (Nat.mod v2 256) with
      | true => ih (Nat.div v1 256) l2' (Nat.div v2 256)
      | false => Nat.ble (Nat.succ (Nat.mod v1 256)) (Nat.mod v2 256)) l2) l1
def pack : List UInt8 → Nat
  | [] => 0
  | b :: r => b.toNat + 256 * pack r
def ikN : IntKind → Nat
  | .i8 => 0 | .i16 => 1 | .i32 => 2 | .i64 => 3 | .u8 => 4 | .u16 => 5 | .u32 => 6 | .u64 => 7
def wrapF (k : IntKind) (n : Int) : Int :=
  match k, n with
  | .i64, .ofNat m => match Nat.ble m 9223372036854775807 with | true => .ofNat m | false => IntKind.wrap .i64 (.ofNat m)
  | .i64, .negSucc m => match Nat.ble m 9223372036854775807 with | true => .negSucc m | false => IntKind.wrap .i64 (.negSucc m)
  | k, n => k.wrap n
def iLt : Int → Int → Bool
  | .ofNat a, .ofNat b => Nat.ble (Nat.succ a) b
  | .ofNat _, .negSucc _ => false
  | .negSucc _, .ofNat _ => true
  | .negSucc a, .negSucc b => Nat.ble (Nat.succ b) a
def iEq : Int → Int → Bool
  | .ofNat a, .ofNat b => Nat.beq a b
  | .negSucc a, .negSucc b => Nat.beq a b
  | _, _ => false
def intBits (op : BinOp) (k : IntKind) (x y : Int) : Option Int :=
  let a := BitVec.ofInt k.bits x
  let b := BitVec.ofInt k.bits y
  match op with
  | .and => some (k.wrap ((a &&& b).toNat))
  | .or => some (k.wrap ((a ||| b).toNat))
  | .xor => some (k.wrap ((a ^^^ b).toNat))
  | .andNot => some (k.wrap ((a &&& ~~~b).toNat))
  | _ => none
noncomputable def intBin (op : BinOp) (k : IntKind) (a : Int) (k' : IntKind) (b : Int) : Option AVal :=
  match op with
  | .shl => chk (iLt b 0) none (some (.int k (wrapF k (a * 2 ^ (Nat.min b.toNat k.bits)))))
  | .shr => chk (iLt b 0) none (some (.int k (a.fdiv (2 ^ (Nat.min b.toNat k.bits)))))
  | .add => chk (Nat.beq (ikN k) (ikN k')) (some (.int k (wrapF k (a + b)))) none
  | .sub => chk (Nat.beq (ikN k) (ikN k')) (some (.int k (wrapF k (a - b)))) none
  | .mul => chk (Nat.beq (ikN k) (ikN k')) (some (.int k (wrapF k (a * b)))) none
  | .quo => chk (Nat.beq (ikN k) (ikN k')) (chk (iEq b 0) none (some (.int k (wrapF k (a.tdiv b))))) none
  | .rem => chk (Nat.beq (ikN k) (ikN k')) (chk (iEq b 0) none (some (.int k (a.tmod b)))) none
  | .eql => chk (Nat.beq (ikN k) (ikN k')) (some (.bool (iEq a b))) none
  | .neq => chk (Nat.beq (ikN k) (ikN k')) (some (.bool (Bool.not (iEq a b)))) none
  | .lss => chk (Nat.beq (ikN k) (ikN k')) (some (.bool (iLt a b))) none
  | .leq => chk (Nat.beq (ikN k) (ikN k')) (some (.bool (Bool.not (iLt b a)))) none
  | .gtr => chk (Nat.beq (ikN k) (ikN k')) (some (.bool (iLt b a))) none
  | .geq => chk (Nat.beq (ikN k) (ikN k')) (some (.bool (Bool.not (iLt a b)))) none
  | op => chk (Nat.beq (ikN k) (ikN k')) (ob (intBits op k a b) none fun r => some (.int k r)) none
def strEq (l1 v1 l2 v2 : Nat) : Bool := match Nat.beq l1 l2 with | true => Nat.beq v1 v2 | false => false
noncomputable def strBin (op : BinOp) (l1 v1 l2 v2 : Nat) : Option AVal :=
  match op with
  | .add => chk (Nat.ble (Nat.add l1 l2) 4611686018427387904) (some (.str (Nat.add l1 l2) (strCat l1 v1 v2))) none
  | .eql => some (.bool (strEq l1 v1 l2 v2))
  | .neq => some (.bool (Bool.not (strEq l1 v1 l2 v2)))
  | .lss => some (.bool (strLt l1 v1 l2 v2))
  | .leq => some (.bool (Bool.not (strLt l2 v2 l1 v1)))
  | .gtr => some (.bool (strLt l2 v2 l1 v1))
  | .geq => some (.bool (Bool.not (strLt l1 v1 l2 v2)))
  | _ => none
noncomputable def binA (op : BinOp) (x y : AVal) : Option AVal :=
  match x, y with
  | .int k a, .int k' b => intBin op k a k' b
  | .str l1 v1, .str l2 v2 => strBin op l1 v1 l2 v2
  | _, _ => none
noncomputable def unA (op : UnOp) (x : AVal) : Option AVal :=
  match op, x with
  | .neg, .int k n => some (.int k (wrapF k (0 - n)))
  | .xor, .int k n => ob (intBits .xor k (if k.signed then -1 else k.max) n) none fun r => some (.int k r)
  | .not, .bool b => some (.bool (Bool.not b))
  | _, _ => none
def leafOk (c : Nat) : AVal → Bool
  | .int k n => Nat.beq (ikN k) c && iEq (wrapF k n) n
  | .bool _ => Nat.beq c 100
  | .str l _ => Nat.beq c 101 && Nat.ble l 9223372036854775807
  | _ => false
def leavesOk : List Nat → List AVal → Bool
  | [], [] => true
  | c :: r, a :: s => leafOk c a && leavesOk r s
  | _, _ => false
def eqPlain1 : AVal → AVal → Option Bool
  | .int k a, .int k' b => match Nat.beq (ikN k) (ikN k') with | true => some (iEq a b) | false => none
  | .bool a, .bool b => some (a == b)
  | .str l1 v1, .str l2 v2 => some (strEq l1 v1 l2 v2)
  | _, _ => none
def eqPlain : List AVal → List AVal → Option Bool
  | [], [] => some true
  | a :: r, b :: s => match eqPlain1 a b with
    | some true => eqPlain r s
    | some false => match eqPlain r s with | some _ => some false | none => none
    | none => none
  | _, _ => none
noncomputable def eqA (c : EqC) (x y : AVal) : Option Bool :=
  match c with
  | .bool => match x, y with | .bool a, .bool b => some (a == b) | _, _ => none
  | .ptr => match x, y with
    | .nilptr, .nilptr => some true
    | .nilptr, .ptr _ _ _ => some false
    | .ptr _ _ _, .nilptr => some false
    | .ptr f g o, .ptr f' g' o' => chk (Nat.beq f f') (chk (Nat.beq g g') (chk (Nat.beq o o') (some true) none) none) none
    | _, _ => none
  | .agg ks => match x, y with | .agg a, .agg b => chk (leavesOk ks a) (chk (leavesOk ks b) (eqPlain a b) none) none | _, _ => none
  | .slice => match x, y with
    | .nilslice, .nilslice => some true
    | .nilslice, .slice _ _ _ _ _ => some false
    | .slice _ _ _ _ _, .nilslice => some false
    | _, _ => none
  | .iface => match x, y with
    | .niliface, .niliface => some true
    | .niliface, .iface _ _ => some false
    | .iface _ _, .niliface => some false
    | .iface t _, .iface t' _ => chk (Nat.beq t t') none (some false)
    | _, _ => none
  | .func => match x, y with
    | .nilfunc, .nilfunc => some true
    | .nilfunc, .func _ _ _ => some false
    | .func _ _ _, .nilfunc => some false
    | _, _ => none
  | .map => match x, y with
    | .nilmap, .nilmap => some true
    | .nilmap, .map _ => some false
    | .map _, .nilmap => some false
    | _, _ => none
noncomputable def sbN (m n : Nat) : Int := Bool.rec (motive := fun _ => Int) (.negSucc (Nat.pred (Nat.sub n m))) (.ofNat (Nat.sub m n)) (Nat.ble n m)
noncomputable def addI (x y : Int) : Int :=
  Int.rec (motive := fun _ => Int → Int) (fun m y => Int.rec (motive := fun _ => Int) (fun n => .ofNat (Nat.add m n)) (fun n => sbN m (Nat.succ n)) y)
    (fun m y => Int.rec (motive := fun _ => Int) (fun n => sbN n (Nat.succ m)) (fun n => .negSucc (Nat.succ (Nat.add m n))) y) x y
noncomputable def subI (x y : Int) : Int :=
  Int.rec (motive := fun _ => Int → Int) (fun m y => Int.rec (motive := fun _ => Int) (fun n => sbN m n) (fun n => .ofNat (Nat.add m (Nat.succ n))) y)
    (fun m y => Int.rec (motive := fun _ => Int) (fun n => .negSucc (Nat.add m n)) (fun n => sbN n m) y) x y
noncomputable def ltI (x y : Int) : Bool :=
  Int.rec (motive := fun _ => Int → Bool) (fun m y => Int.rec (motive := fun _ => Bool) (fun n => Nat.ble (Nat.succ m) n) (fun _ => false) y)
    (fun m y => Int.rec (motive := fun _ => Bool) (fun _ => true) (fun n => Nat.ble (Nat.succ n) m) y) x y
noncomputable def eqI (x y : Int) : Bool :=
  Int.rec (motive := fun _ => Int → Bool) (fun m y => Int.rec (motive := fun _ => Bool) (fun n => Nat.beq m n) (fun _ => false) y)
    (fun m y => Int.rec (motive := fun _ => Bool) (fun _ => false) (fun n => Nat.beq m n) y) x y
noncomputable def w64 (n : Int) : Int :=
  Int.rec (motive := fun _ => Int) (fun m => Bool.rec (motive := fun _ => Int) (IntKind.wrap .i64 (.ofNat m)) (.ofNat m) (Nat.ble m 9223372036854775807))
    (fun m => Bool.rec (motive := fun _ => Int) (IntKind.wrap .i64 (.negSucc m)) (.negSucc m) (Nat.ble m 9223372036854775807)) n
noncomputable def wU (mx : Nat) (k : IntKind) (n : Int) : Int :=
  Int.rec (motive := fun _ => Int) (fun m => Bool.rec (motive := fun _ => Int) (IntKind.wrap k (.ofNat m)) (.ofNat m) (Nat.ble m mx)) (fun m => IntKind.wrap k (.negSucc m)) n
noncomputable def wrapQ (k : IntKind) : Int → Int :=
  IntKind.rec (motive := fun _ => Int → Int) (IntKind.wrap .i8) (IntKind.wrap .i16) (IntKind.wrap .i32) w64 (wU 255 .u8) (wU 65535 .u16) (wU 4294967295 .u32) (wU 18446744073709551615 .u64) k
noncomputable def slowB (op : BinOp) (a b : AVal) (k : AVal → Res) : Res := ob (binA op a b) (.err 6) fun v => seqVal v k
noncomputable def rArith (f : Int → Int → Int) (op : BinOp) (a b : AVal) (k : AVal → Res) : Res :=
  onInt a (slowB op a b k) fun kd x => onInt b (slowB op a b k) fun kd' y => chk (Nat.beq (ikN kd) (ikN kd')) (seqInt (wrapQ kd (f x y)) fun r => k (.int kd r)) (.err 6)
noncomputable def rCmp (f : Int → Int → Bool) (op : BinOp) (a b : AVal) (k : AVal → Res) : Res :=
  onInt a (slowB op a b k) fun kd x => onInt b (slowB op a b k) fun kd' y => chk (Nat.beq (ikN kd) (ikN kd')) (seqBool (f x y) fun r => k (.bool r)) (.err 6)
noncomputable def neI (x y : Int) : Bool := Bool.not (eqI x y)
noncomputable def leI (x y : Int) : Bool := Bool.not (ltI y x)
noncomputable def gtI (x y : Int) : Bool := ltI y x
noncomputable def geI (x y : Int) : Bool := Bool.not (ltI x y)
noncomputable def binR (op : BinOp) : AVal → AVal → (AVal → Res) → Res :=
  BinOp.rec (motive := fun _ => AVal → AVal → (AVal → Res) → Res) (rArith addI .add) (rArith subI .sub) (slowB .mul) (slowB .quo) (slowB .rem) (slowB .and) (slowB .or) (slowB .xor) (slowB .shl) (slowB .shr) (slowB .andNot)
    (rCmp eqI .eql) (rCmp neI .neq) (rCmp ltI .lss) (rCmp leI .leq) (rCmp gtI .gtr) (rCmp geI .geq) op
def okCell : AVal → Bool
  | .agg _ => false | .tuple _ => false | .undef => false | _ => true
noncomputable def outA (agg : Bool) (l : List AVal) (e : Res) (k : AVal → Res) : Res :=
  chk agg (k (.agg l)) (List.rec (motive := fun _ => Res) e (fun v r _ => List.rec (motive := fun _ => Res) (k v) (fun _ _ _ => e) r) l)
noncomputable def Opd.ev (x : Opd) (E : Env) : Option AVal :=
  Opd.casesOn (motive := fun _ => Option AVal) x (fun n => E.get n) some
noncomputable def withO (x : Opd) (E : Env) (e : Res) (k : AVal → Res) : Res :=
  Opd.casesOn (motive := fun _ => Res) x (fun n => ob (E.get n) e k) k
noncomputable def evs (E : Env) (l : List Opd) : Option (List AVal) :=
  List.rec (motive := fun _ => Option (List AVal)) (some []) (fun x _ ih => ob (x.ev E) none fun v => ob ih none fun vs => some (v :: vs)) l
noncomputable def bnd (E : Env) (x : Option Opd) (dflt y : Nat) (e : Res) (k : Nat → Res) : Res :=
  Option.rec (motive := fun _ => Res) (k dflt) (fun x => ob (x.ev E) e fun v => onInt v e fun _ i => onNat i e fun n => chk (Nat.ble n y) (k n) e) x
noncomputable def idx (v : AVal) (n : Nat) (e : Res) (k : Nat → Res) : Res :=
  onInt v e fun _ i => onNat i e fun i => chk (Nat.ble (Nat.succ i) n) (k i) e
noncomputable def elems (H : AHeap) (f g es : Nat) (n : Nat) : Nat → Option (List (List AVal)) :=
  Nat.rec (motive := fun _ => Nat → Option (List (List AVal))) (fun _ => some [])
    (fun _ ih off => rd H f g off es none fun l => ob (ih (Nat.add off es)) none fun r => some (l :: r)) n
noncomputable def fillTr (l : List (List AVal)) : RT → Nat → RT :=
  List.rec (motive := fun _ => RT → Nat → RT) (fun t _ => t) (fun x _ ih t i => ih (t.set i x) (Nat.succ i)) l
noncomputable def fillC (l : List (List AVal)) : RT → Nat → (RT → Res) → Res :=
  List.rec (motive := fun _ => RT → Nat → (RT → Res) → Res) (fun t _ c => c t) (fun x _ ih t i c => t.setC i x fun t => seqNat (Nat.succ i) fun i => ih t i c) l
theorem fillC_eq : ∀ (l : List (List AVal)) (t : RT) (i : Nat) (c : RT → Res), fillC l t i c = c (fillTr l t i)
  | [], _, _, _ => rfl
  | x :: l, t, i, c => by
    show (t.setC i x fun t => seqNat (Nat.succ i) fun i => fillC l t i c) = c (fillTr l (t.set i x) (i + 1))
    rw [RT.setC_eq, seqNat_eq, fillC_eq l]
noncomputable def repTr (x : List AVal) (n : Nat) : RT :=
  Nat.rec (motive := fun _ => RT) .emp (fun m t => t.set m x) n
noncomputable def repC (x : List AVal) (n : Nat) : (RT → Res) → Res :=
  Nat.rec (motive := fun _ => (RT → Res) → Res) (fun c => c .emp) (fun m ih c => ih fun t => t.setC m x c) n
theorem repC_eq (x : List AVal) : ∀ (n : Nat) (c : RT → Res), repC x n c = c (repTr x n)
  | 0, _ => rfl
  | n + 1, c => by
    show (repC x n fun t => t.setC n x c) = c ((repTr x n).set n x)
    rw [repC_eq x n, RT.setC_eq]
noncomputable def bytesL (l : Nat) : Nat → List (List AVal) :=
  Nat.rec (motive := fun _ => Nat → List (List AVal)) (fun _ => []) (fun _ ih v => [AVal.int .u8 (Int.ofNat (Nat.mod v 256))] :: ih (Nat.div v 256)) l
noncomputable def buildA (E : Env) (parts : List (Nat × Nat × Opd)) : List AVal → Option (List AVal) :=
  List.rec (motive := fun _ => List AVal → Option (List AVal)) some
    (fun p _ ih cells => ob (p.2.2.ev E) none fun v => ob (cellsOk v) none fun new => chk (Nat.beq (lenL new) p.2.1) (ih (splice cells p.1 new)) none) parts
noncomputable def buildTr (E : Env) (es ln : Nat) (parts : List (Nat × Opd)) : RT → Option RT :=
  List.rec (motive := fun _ => RT → Option RT) some
    (fun p _ ih t => ob (p.2.ev E) none fun v => ob (cellsOk v) none fun new => chk (Nat.beq (lenL new) es) (chk (Nat.ble (Nat.succ p.1) ln) (ih (t.set p.1 new)) none) none) parts
noncomputable def appNil (elem es bts n : Nat) (new : List (List AVal)) (H : AHeap) : Res :=
  chk (Nat.ble (Nat.mul n bts) 70368744177664)
    (fillC new .emp 0 fun cs => H.alloc (.row elem es bts n n 0 cs) fun f H => .ok (.slice f n 0 n es) H) (.err 35)
noncomputable def appRow (elem es bts n : Nat) (new : List (List AVal)) (H : AHeap) (f g off ln es' : Nat) : Res :=
  AHeap.casesOn (motive := fun _ => Res) H fun next mrk ws t => onRow (t.get f) (.err 33) fun elem' es'' bts' m lo fl cs =>
    chk (Nat.beq off 0) (chk (Nat.beq g m) (chk (Nat.ble lo g) (chk (Nat.beq ln m) (chk (Nat.beq es' es) (chk (Nat.beq es'' es) (chk (Nat.beq fl 1) (.err 32)
      (chk (Nat.ble (Nat.mul (Nat.add m n) bts) 70368744177664) (chk (Nat.beq elem elem')
        (seqNat (Nat.add m n) fun m' => fillC new cs m fun cs => t.setC f (.row elem' es'' bts' m' lo fl cs) fun t =>
          .ok (.slice f m' 0 m' es) ⟨next, mrk, wrote f mrk ws, t⟩) (.err 32)) (.err 32))) (.err 32)) (.err 32)) (.err 32)) (.err 32)) (.err 32)) (.err 32)
noncomputable def appA (elem es bts n : Nat) (new : List (List AVal)) (H : AHeap) (x : AVal) : Res :=
  Nat.rec (motive := fun _ => Res) (onSlice x (.err 31) (.ok x H) fun _ _ _ _ _ => .ok x H)
    (fun n _ => onSlice x (.err 34) (appNil elem es bts (Nat.succ n) new H) (appRow elem es bts (Nat.succ n) new H)) n
noncomputable def eMov (x : Opd) (E : Env) (H : AHeap) : Res := withO x E (.err 1) fun v => .ok v H
noncomputable def ePick (c a b : Opd) (E : Env) (H : AHeap) : Res := withO c E (.err 2) fun v => onBool v (.err 2) fun t => chk t (eMov a E H) (eMov b E H)
noncomputable def eBoxz (elem es bts : Nat) (cells : List AVal) (_ : Env) (H : AHeap) : Res :=
  H.alloc (.row elem es bts 1 1 0 (.one cells)) fun f H => .ok (.ptr f 1 0) H
noncomputable def eBox (elem es bts : Nat) (x : Opd) (E : Env) (H : AHeap) : Res :=
  withO x E (.err 3) fun v => ob (cellsOk v) (.err 3) fun l => chk (Nat.beq (lenL l) es) (eBoxz elem es bts l E H) (.err 3)
noncomputable def eLoad (n : Nat) (agg : Bool) (a : Opd) (E : Env) (H : AHeap) : Res :=
  withO a E (.err 4) fun v => onPtr v (.err 4) fun f g off => rd H f g off n (.err 4) fun l => outA agg l (.err 4) fun v => .ok v H
noncomputable def eStore (n : Nat) (a x : Opd) (E : Env) (H : AHeap) : Res :=
  withO a E (.err 5) fun p => onPtr p (.err 5) fun f g off => withO x E (.err 5) fun v => ob (cellsOk v) (.err 5) fun l => wr H f g off n l (.err 5) fun H => .ok .undef H
noncomputable def eBin (op : BinOp) (x y : Opd) (E : Env) (H : AHeap) : Res :=
  withO x E (.err 6) fun a => withO y E (.err 6) fun b => binR op a b fun v => .ok v H
noncomputable def eEq (c : EqC) (neg : Bool) (x y : Opd) (E : Env) (H : AHeap) : Res :=
  withO x E (.err 7) fun a => withO y E (.err 7) fun b => ob (eqA c a b) (.err 7) fun r => seqBool (Bool.xor neg r) fun r => .ok (.bool r) H
noncomputable def eUn (op : UnOp) (x : Opd) (E : Env) (H : AHeap) : Res := withO x E (.err 8) fun a => ob (unA op a) (.err 8) fun v => seqVal v fun v => .ok v H
noncomputable def eOffs (x : Opd) (k : Nat) (E : Env) (H : AHeap) : Res :=
  withO x E (.err 9) fun v => onPtr v (.err 9) fun f g off => seqNat (Nat.add off k) fun off => .ok (.ptr f g off) H
noncomputable def eSub (x : Opd) (off n : Nat) (agg : Bool) (E : Env) (H : AHeap) : Res :=
  withO x E (.err 10) fun v => onAgg v (.err 10) fun cs => chk (Nat.ble (Nat.add off n) (lenL cs)) (outA agg ((cs.drop off).take n) (.err 10) fun v => .ok v H) (.err 10)
noncomputable def eIdxArr (ln es : Nat) (x i : Opd) (E : Env) (H : AHeap) : Res :=
  withO x E (.err 11) fun v => onPtr v (.err 11) fun f g off => withO i E (.err 11) fun iv => idx iv ln (.err 11) fun j => seqNat (Nat.add off (Nat.mul j es)) fun off => .ok (.ptr f g off) H
noncomputable def eIdxSl (es : Nat) (x i : Opd) (E : Env) (H : AHeap) : Res :=
  withO x E (.err 12) fun v => onSlice v (.err 12) (.err 12) fun f g off ln _ => withO i E (.err 12) fun iv => idx iv ln (.err 12) fun j => seqNat (Nat.add off (Nat.mul j es)) fun off => .ok (.ptr f g off) H
noncomputable def eIdxVal (ln es : Nat) (agg : Bool) (x i : Opd) (E : Env) (H : AHeap) : Res :=
  withO x E (.err 13) fun v => onAgg v (.err 13) fun cs => withO i E (.err 13) fun iv => idx iv ln (.err 13) fun j =>
    chk (Nat.ble (Nat.add (Nat.mul j es) es) (lenL cs)) (outA agg ((cs.drop (Nat.mul j es)).take es) (.err 13) fun v => .ok v H) (.err 13)
noncomputable def eIdxStr (x i : Opd) (E : Env) (H : AHeap) : Res :=
  withO x E (.err 14) fun v => onStr v (.err 14) fun l s => withO i E (.err 14) fun iv => idx iv l (.err 14) fun j => seqNat (byteAt s j) fun b => .ok (.int .u8 (.ofNat b)) H
noncomputable def eSlStr (x : Opd) (lo hi : Option Opd) (E : Env) (H : AHeap) : Res :=
  withO x E (.err 15) fun v => onStr v (.err 15) fun l s => bnd E hi l l (.err 15) fun h => bnd E lo 0 h (.err 15) fun lo =>
    seqNat (Nat.sub h lo) fun n => seqNat (strSub s lo h) fun s => .ok (.str n s) H
noncomputable def eSlSl (es : Nat) (x : Opd) (lo hi : Option Opd) (E : Env) (H : AHeap) : Res :=
  withO x E (.err 16) fun v => onSlice v (.err 16) (bnd E hi 0 0 (.err 16) fun h => bnd E lo 0 h (.err 16) fun _ => .ok .nilslice H)
    fun f g off ln es' => chk (Nat.beq es es') (bnd E hi ln ln (.err 16) fun h => bnd E lo 0 h (.err 16) fun lo =>
      seqNat (Nat.add off (Nat.mul lo es)) fun off => seqNat (Nat.sub h lo) fun n => .ok (.slice f g off n es') H) (.err 16)
noncomputable def eSlArr (ln es : Nat) (x : Opd) (lo hi : Option Opd) (E : Env) (H : AHeap) : Res :=
  withO x E (.err 17) fun v => onPtr v (.err 17) fun f g off => onRow (H.t.get f) (.err 17) fun _ es' _ m l0 _ _ =>
    chk (Nat.ble l0 g) (chk (Nat.ble g m) (chk (Nat.ble (Nat.add off (Nat.mul ln es)) (Nat.mul g es')) (bnd E hi ln ln (.err 17) fun h => bnd E lo 0 h (.err 17) fun lo =>
      seqNat (Nat.add off (Nat.mul lo es)) fun off => seqNat (Nat.sub h lo) fun n => .ok (.slice f g off n es) H) (.err 17)) (.err 17)) (.err 17)
noncomputable def eExtr (x : Opd) (i : Nat) (E : Env) (H : AHeap) : Res := withO x E (.err 18) fun v => onTuple v (.err 18) fun vs => ob (vs[i]?) (.err 18) fun v => .ok v H
def nilckOk : AVal → Bool
  | .ptr _ _ _ => true | .func _ _ _ => true | _ => false
noncomputable def eNilck (x : Opd) (E : Env) (H : AHeap) : Res := withO x E (.err 19) fun v => chk (nilckOk v) (.ok v H) (.err 19)
noncomputable def eMkfn (f : Nat) (first caps : List Opd) (E : Env) (H : AHeap) : Res := ob (evs E first) (.err 20) fun fs => ob (evs E caps) (.err 20) fun vs => .ok (.func f fs vs) H
noncomputable def eMkif (t : Nat) (x : Opd) (E : Env) (H : AHeap) : Res := withO x E (.err 21) fun v => .ok (.iface t v) H
noncomputable def eMksl (elem es bts : Nat) (zero : List AVal) (ln cp : Opd) (E : Env) (H : AHeap) : Res :=
  withO ln E (.err 22) fun a => onInt a (.err 22) fun _ a => onNat a (.err 22) fun l => withO cp E (.err 22) fun b => onInt b (.err 22) fun _ b => onNat b (.err 22) fun c =>
    chk (Nat.ble l c) (chk (Nat.ble (Nat.mul c bts) 70368744177664) (chk (Nat.ble c 4611686018427387904)
      (repC zero l fun cs => H.alloc (.row elem es bts l l 0 cs) fun f H => .ok (.slice f l 0 l es) H) (.err 22)) (.err 22)) (.err 22)
noncomputable def eBuild (zero : List AVal) (parts : List (Nat × Nat × Opd)) (E : Env) (H : AHeap) : Res := ob (buildA E parts zero) (.err 23) fun cs => .ok (.agg cs) H
noncomputable def eBuildSl (elem es bts ln : Nat) (zero : List AVal) (parts : List (Nat × Opd)) (E : Env) (H : AHeap) : Res :=
  ob (buildTr E es ln parts (repTr zero ln)) (.err 24) fun t => H.alloc (.row elem es bts ln ln 0 t) fun f H => .ok (.slice f ln 0 ln es) H
noncomputable def eLen (x : Opd) (E : Env) (H : AHeap) : Res := withO x E (.err 25) fun v => onSlice v (.err 25) (.ok (.int .i64 (.ofNat 0)) H) fun _ _ _ l _ => .ok (.int .i64 (.ofNat l)) H
noncomputable def eLenS (x : Opd) (E : Env) (H : AHeap) : Res := withO x E (.err 25) fun v => onStr v (.err 25) fun l _ => .ok (.int .i64 (.ofNat l)) H
noncomputable def eLenK (n : Nat) (_ : Env) (H : AHeap) : Res := .ok (.int .i64 (.ofNat n)) H
noncomputable def eApp (elem es bts : Nat) (x y : Opd) (E : Env) (H : AHeap) : Res :=
  withO x E (.err 26) fun a => withO y E (.err 26) fun b => onSlice b (.err 26) (appA elem es bts 0 [] H a) fun f g off n _ =>
    ob (elems H f g es n off) (.err 26) fun l => appA elem es bts n l H a
noncomputable def eAppStr (elem : Nat) (x y : Opd) (E : Env) (H : AHeap) : Res :=
  withO x E (.err 27) fun a => withO y E (.err 27) fun b => onStr b (.err 27) fun l v => appA elem 1 1 l (bytesL l v) H a
noncomputable def eCopy (_ : Nat) (_ _ : Opd) (_ : Env) (_ : AHeap) : Res := .err 28
noncomputable def mm1 (mx : Bool) (k : IntKind) (l : List AVal) : Int → Option AVal :=
  List.rec (motive := fun _ => Int → Option AVal) (fun a => some (.int k a))
    (fun v _ ih a => onIntA v none fun _ b => seqInt (chk (chk mx (iLt a b) (iLt b a)) b a) ih) l
noncomputable def eMinmax (mx : Bool) (x : Opd) (ys : List Opd) (E : Env) (H : AHeap) : Res :=
  withO x E (.err 29) fun a => onInt a (.err 29) fun k a => ob (evs E ys) (.err 29) fun vs => ob (mm1 mx k vs a) (.err 29) fun v => .ok v H
noncomputable def eConv (k : IntKind) (x : Opd) (E : Env) (H : AHeap) : Res := withO x E (.err 36) fun v => onInt v (.err 36) fun _ n => seqInt (wrapF k n) fun n => .ok (.int k n) H
noncomputable def eConvSB (elem : Nat) (x : Opd) (E : Env) (H : AHeap) : Res :=
  withO x E (.err 38) fun v => onStr v (.err 38) fun l s => chk (Nat.ble l 70368744177664)
    (fillC (bytesL l s) .emp 0 fun cs => H.alloc (.row elem 1 1 l l 3 cs) fun f H => .ok (.slice f l 0 l 1) H) (.err 38)
noncomputable def unbytes (l : List (List AVal)) : Option Nat :=
  List.rec (motive := fun _ => Option Nat) (some 0) (fun c _ ih => List.rec (motive := fun _ => Option Nat) none (fun v r _ => List.rec (motive := fun _ => Option Nat)
    (onIntN v none fun k i => chk (Nat.beq (ikN k) 4) (onNat i none fun b => chk (Nat.ble b 255) (ob ih none fun v => some (Nat.add b (Nat.mul 256 v))) none) none) (fun _ _ _ => none) r) c) l
noncomputable def eConvBS (x : Opd) (E : Env) (H : AHeap) : Res :=
  withO x E (.err 39) fun v => onSlice v (.err 39) (.ok (.str 0 0) H) fun f g off n _ =>
    ob (elems H f g 1 n off) (.err 39) fun l => ob (unbytes l) (.err 39) fun s => seqNat s fun s => .ok (.str n s) H
def isNilP : AVal → Bool
  | .nilptr => true | _ => false
noncomputable def eUconv (t n : Nat) (x : Opd) (E : Env) (H : AHeap) : Res :=
  withO x E (.err 44) fun v => chk (isNilP v) (.ok v H) (onPtr v (.err 44) fun f g off => onRow (H.t.get f) (.err 44) fun elem es _ m lo fl _ =>
    chk (Nat.beq elem t) (chk (Nat.beq es n) (chk (Nat.beq off 0) (chk (Nat.ble lo g) (chk (Nat.ble g m) (chk (Nat.ble 1 g) (chk (Nat.beq fl 0) (.ok v H) (.err 44)) (.err 44)) (.err 44)) (.err 44)) (.err 44)) (.err 44)) (.err 44))
noncomputable def eUsd (x : Opd) (E : Env) (H : AHeap) : Res :=
  withO x E (.err 45) fun v => onSlice v (.err 45) (.ok .nilptr H) fun f g off l _ => chk (Nat.beq l 0) (.err 45) (.ok (.ptr f g off) H)
noncomputable def frz (f e : Nat) (H : AHeap) (k : AHeap → Res) : Res :=
  AHeap.casesOn (motive := fun _ => Res) H fun next mrk ws t => onRow (t.get f) (.err 46) fun elem es bts m lo fl cs =>
    chk (Nat.beq elem e) (chk (Nat.beq es 1) (chk (chk (Nat.beq fl 0) true (Nat.beq fl 2)) (t.setC f (.row elem es bts m lo 2 cs) fun t => k ⟨next, mrk, wrote f mrk ws, t⟩) (.err 46)) (.err 46)) (.err 46)
noncomputable def eUstr (e : Nat) (x n : Opd) (E : Env) (H : AHeap) : Res :=
  withO x E (.err 46) fun p => onPtr p (.err 46) fun f g off => withO n E (.err 46) fun nv => onInt nv (.err 46) fun k i => onNat i (.err 46) fun l =>
    chk (Nat.beq off 0) (chk (Nat.beq (ikN k) 3) (chk (Nat.ble 1 l) (chk (Nat.ble l 70368744177664) (ob (elems H f g 1 l 0) (.err 46) fun L => ob (unbytes L) (.err 46) fun s => seqNat s fun s => frz f e H fun H => .ok (.str l s) H) (.err 46)) (.err 46)) (.err 46)) (.err 46)
abbrev CallF := Nat → List AVal → AHeap → Res
noncomputable def eCall (f : Nat) (args : List Opd) (call : CallF) (E : Env) (H : AHeap) : Res := ob (evs E args) (.err 42) fun vs => call f vs H
noncomputable def eCallv (x : Opd) (args : List Opd) (call : CallF) (E : Env) (H : AHeap) : Res :=
  withO x E (.err 43) fun v => onFunc v (.err 43) fun f fs caps => ob (evs E args) (.err 43) fun vs => call f (fs ++ (vs ++ caps)) H
noncomputable def Ins.ev (o : Ins) : CallF → Env → AHeap → Res :=
  Ins.rec (motive := fun _ => CallF → Env → AHeap → Res)
    (fun x _ => eMov x) (fun c a b _ => ePick c a b) (fun a b c d _ => eBoxz a b c d) (fun a b c d _ => eBox a b c d) (fun a b c _ => eLoad a b c) (fun a b c _ => eStore a b c)
    (fun a b c _ => eBin a b c) (fun a b c d _ => eEq a b c d) (fun a b _ => eUn a b) (fun a b _ => eOffs a b) (fun a b c d _ => eSub a b c d) (fun a b c d _ => eIdxArr a b c d)
    (fun a b c _ => eIdxSl a b c) (fun a b c d e _ => eIdxVal a b c d e) (fun a b _ => eIdxStr a b) (fun a b c _ => eSlStr a b c) (fun a b c d _ => eSlSl a b c d) (fun a b c d e _ => eSlArr a b c d e)
    (fun a b _ => eExtr a b) (fun a _ => eNilck a) (fun a b c _ => eMkfn a b c) (fun a b _ => eMkif a b) (fun a b c d e f _ => eMksl a b c d e f) (fun a b _ => eBuild a b)
    (fun a b c d e f _ => eBuildSl a b c d e f) (fun a _ => eLen a) (fun a _ => eLenK a) (fun a _ => eLenS a) (fun a b c d e _ => eApp a b c d e) (fun a b c _ => eAppStr a b c) (fun a b c _ => eCopy a b c)
    (fun a b c _ => eMinmax a b c) (fun a b _ => eConv a b) (fun a _ => eMov a) (fun a b _ => eConvSB a b) (fun a _ => eConvBS a) (fun f args => eCall f args) (fun x args => eCallv x args) (fun a b c _ => eUconv a b c) (fun a _ => eUsd a) (fun a b c _ => eUstr a b c) o
noncomputable def fin (dst : Option Key) (E : Env) (k : Env → AHeap → ORes) (r : Res) : ORes :=
  Res.rec (motive := fun _ => ORes) (fun v H => Option.rec (motive := fun _ => ORes) (k E H) (fun d => E.setO d v fun E => k E H) dst) .err r
noncomputable def IOp.run (call : CallF) (o : IOp) (E : Env) (H : AHeap) (k : Env → AHeap → ORes) : ORes := fin o.dst E k (o.op.ev call E H)
noncomputable def skipD (dst : Option Key) (E : Env) (H : AHeap) (k : Env → AHeap → ORes) : ORes :=
  Option.rec (motive := fun _ => ORes) (k E H) (fun d => E.setO d .undef fun E => k E H) dst
noncomputable def IOp.step (call : CallF) (o : IOp) (E : Env) (H : AHeap) (k : Env → AHeap → ORes) : ORes :=
  Option.rec (motive := fun _ => ORes) (o.run call E H k)
    (fun g => ob (E.get g.1) (.err 51) fun v => onGd v (skipD o.dst E H k) fun b => chk (Bool.xor b g.2) (skipD o.dst E H k) (o.run call E H k)) o.g
noncomputable def evOps (call : CallF) (l : List IOp) : Env → AHeap → ORes :=
  List.rec (motive := fun _ => Env → AHeap → ORes) ORes.ok (fun o _ ih E H => o.step call E H ih) l
structure FP where
  rd : Option (List Nat)
  ws : List Nat
  lo : Nat
  hi : Nat
def famOf : Option AVal → List Nat
  | some (.ptr f _ _) => [f]
  | some (.slice f _ _ _ _) => [f]
  | _ => []
noncomputable def Ins.reads (E : Env) : Ins → Option (List Nat)
  | .load _ _ a => some (famOf (a.ev E))
  | .app _ _ _ x y => some (famOf (x.ev E) ++ famOf (y.ev E))
  | .appStr _ x _ => some (famOf (x.ev E))
  | .convBS x => some (famOf (x.ev E))
  | .slArr _ _ x _ _ => some (famOf (x.ev E))
  | .store _ a _ => some (famOf (a.ev E))
  | .uconv _ _ x => some (famOf (x.ev E))
  | .ustr _ x _ => some (famOf (x.ev E))
  | .call _ _ => none
  | .callv _ _ => none
  | .copy _ _ _ => none
  | _ => some []
noncomputable def disjN (l m : List Nat) : Bool :=
  List.rec (motive := fun _ => Bool) true (fun x _ ih => chk (memN x m) false ih) l
noncomputable def outN (l : List Nat) (lo hi : Nat) : Bool :=
  List.rec (motive := fun _ => Bool) true (fun x _ ih => chk (Nat.ble lo x) (chk (Nat.ble hi x) ih false) ih) l
noncomputable def disjR (l : List Nat) (r : Option (List Nat)) : Bool :=
  List.rec (motive := fun _ => Bool) true (fun _ _ _ => Option.rec (motive := fun _ => Bool) false (fun r => disjN l r) r) l
noncomputable def apartFP (a b : FP) : Bool :=
  chk (disjR a.ws b.rd) (chk (disjR b.ws a.rd) (chk (disjN a.ws b.ws) (outN a.ws b.lo b.hi) false) false) false
noncomputable def apartAll (a : FP) (recs : List FP) (l : List Nat) : Bool :=
  List.rec (motive := fun _ => Bool) true (fun i _ ih => ob (recs[i]?) false fun b => chk (apartFP a b) ih false) l
noncomputable def mergeWs (mrk : Nat) (ws new : List Nat) : List Nat :=
  List.rec (motive := fun _ => List Nat) ws (fun f _ ih => wrote f mrk ih) new
noncomputable def finQ (rs : Option (List Nat)) (l : List Nat) (next mrk : Nat) (ws : List Nat) (recs : List FP) (dst : Option Key) (E : Env) (k : Env → AHeap → List FP → ORes) (r : Res) : ORes :=
  Res.rec (motive := fun _ => ORes) (fun v H' => AHeap.casesOn (motive := fun _ => ORes) H' fun next' _ ws' t' =>
    chk (apartAll ⟨rs, ws', next, next'⟩ recs l)
      (Option.rec (motive := fun _ => ORes) (k E ⟨next', mrk, mergeWs mrk ws ws', t'⟩ (⟨rs, ws', next, next'⟩ :: recs))
        (fun d => E.setO d v fun E => k E ⟨next', mrk, mergeWs mrk ws ws', t'⟩ (⟨rs, ws', next, next'⟩ :: recs)) dst) (.err 50)) .err r
noncomputable def IOp.runQ (call : CallF) (o : IOp) (l : List Nat) (E : Env) (H : AHeap) (recs : List FP) (k : Env → AHeap → List FP → ORes) : ORes :=
  AHeap.casesOn (motive := fun _ => ORes) H fun next mrk ws t => seqNat next fun next => finQ (o.op.reads E) l next mrk ws recs o.dst E k (o.op.ev call E ⟨next, next, [], t⟩)
noncomputable def IOp.runP (call : CallF) (o : IOp) (E : Env) (H : AHeap) (recs : List FP) (k : Env → AHeap → List FP → ORes) : ORes :=
  Option.rec (motive := fun _ => ORes) (o.run call E H fun E H => k E H recs) (fun l => o.runQ call l E H recs k) o.q
noncomputable def skipQ (q : Option (List Nat)) (recs : List FP) : List FP := Option.rec (motive := fun _ => List FP) recs (fun _ => ⟨some [], [], 0, 0⟩ :: recs) q
noncomputable def IOp.stepQ (call : CallF) (o : IOp) (E : Env) (H : AHeap) (recs : List FP) (k : Env → AHeap → List FP → ORes) : ORes :=
  Option.rec (motive := fun _ => ORes) (o.runP call E H recs k)
    (fun g => ob (E.get g.1) (.err 51) fun v => onGd v (skipD o.dst E H fun E H => k E H (skipQ o.q recs)) fun b => chk (Bool.xor b g.2) (skipD o.dst E H fun E H => k E H (skipQ o.q recs)) (o.runP call E H recs k)) o.g
noncomputable def evOpsQ (call : CallF) (l : List IOp) : Env → AHeap → List FP → ORes :=
  List.rec (motive := fun _ => Env → AHeap → List FP → ORes) (fun E H _ => .ok E H) (fun o _ ih E H recs => o.stepQ call E H recs ih) l
noncomputable def onNormal (r : Out) (k : Env → AHeap → Out) : Out :=
  Out.rec (motive := fun _ => Out) (fun x E H => Ex.rec (motive := fun _ => Out) (k E H) (fun id => .ok (.exit id) E H) (.ok .ret E H) x) .err r
noncomputable def loopN (f : Env → AHeap → Out) (n : Nat) : Env → AHeap → Out :=
  Nat.rec (motive := fun _ => Env → AHeap → Out) (fun _ _ => .err 60) (fun _ ih E H => onNormal (f E H) ih) n
noncomputable def ofO (r : ORes) : Out := ORes.rec (motive := fun _ => Out) (fun E H => .ok .normal E H) .err r
noncomputable def cSkip (E : Env) (H : AHeap) : Out := .ok .normal E H
noncomputable def cRegion (call : CallF) (draw : Bool) (ops : List IOp) : Env → AHeap → Out :=
  chk draw (fun E H => ofO (evOpsQ call ops E H [])) (fun E H => ofO (evOps call ops E H))
noncomputable def cSeq (_ _ : IC) (a b : Env → AHeap → Out) (E : Env) (H : AHeap) : Out := onNormal (a E H) b
noncomputable def cCond (c : Opd) (_ _ : IC) (a b : Env → AHeap → Out) (E : Env) (H : AHeap) : Out :=
  ob (c.ev E) (.err 61) fun v => onBoolC v (.err 61) fun t => chk t (a E H) (b E H)
noncomputable def cBlock (id : Nat) (_ : IC) (b : Env → AHeap → Out) (E : Env) (H : AHeap) : Out :=
  Out.rec (motive := fun _ => Out) (fun x E H => Ex.rec (motive := fun _ => Out) (.ok .normal E H) (fun id' => chk (Nat.beq id' id) (.ok .normal E H) (.ok (.exit id') E H)) (.ok .ret E H) x) .err (b E H)
noncomputable def cLoop (lf : Nat) (_ : IC) (b : Env → AHeap → Out) : Env → AHeap → Out := loopN b lf
noncomputable def cExit (id : Nat) (E : Env) (H : AHeap) : Out := .ok (.exit id) E H
noncomputable def cRet (E : Env) (H : AHeap) : Out := .ok .ret E H
noncomputable def IC.ev (call : CallF) (lf : Nat) (c : IC) : Env → AHeap → Out :=
  IC.rec (motive := fun _ => Env → AHeap → Out) cSkip (cRegion call) cSeq cCond cBlock (cLoop lf) cExit cRet c
noncomputable def params (ks : List Key) : List AVal → Env → (Env → Res) → Res :=
  List.rec (motive := fun _ => List AVal → Env → (Env → Res) → Res) (fun l E c => List.rec (motive := fun _ => Res) (c E) (fun _ _ _ => .err 71) l)
    (fun k _ ih l E c => List.rec (motive := fun _ => Res) (.err 71) (fun v r _ => E.setC k v fun E => ih r E c) l) ks
noncomputable def resA (E : Env) (H : AHeap) (r : IRes) (e : Res) (k : AVal → Res) : Res :=
  IRes.casesOn (motive := fun _ => Res) r (fun t => ob (E.get t) e k)
    (fun a n agg => ob (E.get a) e fun v => onPtr v e fun f g off => rd H f g off n e fun l => outA agg l e k)
noncomputable def resAs (E : Env) (H : AHeap) (l : List IRes) (e : Res) : (List AVal → Res) → Res :=
  List.rec (motive := fun _ => (List AVal → Res) → Res) (fun k => k []) (fun r _ ih k => resA E H r e fun v => ih fun vs => k (v :: vs)) l
noncomputable def results (E : Env) (H : AHeap) (rs : List IRes) : Res :=
  resAs E H rs (.err 70) fun vs => List.rec (motive := fun _ => Res) (.ok (.tuple []) H) (fun v r _ => List.rec (motive := fun _ => Res) (.ok v H) (fun _ _ _ => .ok (.tuple (v :: r)) H) r) vs
noncomputable def evFn (call : CallF) (lf : Nat) (fn : IFn) (args : List AVal) (H : AHeap) : Res :=
  params fn.ps args .emp fun E => Out.rec (motive := fun _ => Res) (fun x E H => Ex.rec (motive := fun _ => Res) (results E H fn.res) (fun _ => .err 72) (results E H fn.res) x) .err (fn.body.ev call lf E H)
noncomputable def idxB (c : Nat) (l : Nat) : Nat → Nat → Int :=
  Nat.rec (motive := fun _ => Nat → Nat → Int) (fun _ _ => Int.negSucc 0)
    (fun _ ih s i => chk (Nat.beq (Nat.mod s 256) c) (Int.ofNat i) (seqNat (Nat.div s 256) fun s => seqNat (Nat.succ i) fun i => ih s i)) l
noncomputable def xIndexByte (args : List AVal) (H : AHeap) : Res :=
  List.rec (motive := fun _ => Res) (.err 90) (fun x r _ => List.rec (motive := fun _ => Res) (.err 90) (fun y _ _ =>
    onStr x (.err 90) fun l s => onInt y (.err 90) fun k c => onNat c (.err 90) fun c => chk (Nat.beq (ikN k) 4) (chk (Nat.ble c 255) (chk (Nat.beq (lenL r) 1) (seqInt (idxB c l s 0) fun i => .ok (.int .i64 i) H) (.err 90)) (.err 90)) (.err 90)) r) args
noncomputable def xSame (args : List AVal) (H : AHeap) : Res :=
  List.rec (motive := fun _ => Res) (.err 91) (fun x r _ => List.rec (motive := fun _ => Res) (.ok x H) (fun _ _ _ => .err 91) r) args
noncomputable def xTrue (args : List AVal) (H : AHeap) : Res :=
  List.rec (motive := fun _ => Res) (.ok (.bool true) H) (fun _ _ _ => .err 92) args
noncomputable def extF (c : Nat) (args : List AVal) (H : AHeap) : Res :=
  Nat.rec (motive := fun _ => Res) (xIndexByte args H) (fun c _ => Nat.rec (motive := fun _ => Res) (xSame args H) (fun c _ => Nat.rec (motive := fun _ => Res) (xTrue args H) (fun _ _ => .err 92) c) c) c
noncomputable def evF (ft : Tr IFn) (xt : Tr Nat) (lf : Nat) (n : Nat) : CallF :=
  Nat.rec (motive := fun _ => CallF) (fun _ _ _ => .err 80) (fun _ ih f args H => ob (ft.get f) (ob (xt.get f) (.err (Nat.add 10000 f)) fun c => extF c args H) fun fn => evFn ih lf fn args H) n
end Go.Ev
