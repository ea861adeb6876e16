/- A part of an evaluator for the program's code: From the program's code to the code that is evaluated. It holds for every program. -/
import Derived.Test.YtgjadkcogmpkdaaGreatDoorEvB
import GoSem.Core.Layout
import GoSem.ClaimKeys
/-! From the program's code to the code that is evaluated. -/
set_option linter.unusedVariables false
set_option linter.unusedSimpArgs false
namespace Go.Ev

mutual
def valOf : Value → Option AVal
  | .bool b => some (.bool b)
  | .int k n => some (.int k n)
  | .string s => some (.str s.size (pack s.data.toList))
  | .pointer none => some .nilptr
  | .slice none 0 0 => some .nilslice
  | .nilIface => some .niliface
  | .nilFunc => some .nilfunc
  | .map none => some .nilmap
  | .agg cs => match valsOf cs.toList with
    | some l => if l.all okCell then some (.agg l) else none
    | none => none
  | _ => none
def valsOf : List Value → Option (List AVal)
  | [] => some []
  | v :: r => match valOf v, valsOf r with
    | some a, some l => some (a :: l)
    | _, _ => none
end

/-- the cells of a constant -/
def cellsOf : AVal → Option (List AVal)
  | .agg cs => some cs
  | .tuple _ => none
  | .undef => none
  | v => some [v]
def opdOf (P : Program) : Operand → Option Opd
  | .tmp t => if t < 216 then some (.t (pk t)) else none
  | .const v => match valOf v with | some a => some (.c a) | none => none
  | .global g => if g < P.globals.size then some (.c (.ptr g 1 0)) else none
  | .func f => some (.c (.func f []))
def opdsOf (P : Program) : List Operand → Option (List Opd)
  | [] => some []
  | x :: r => match opdOf P x, opdsOf P r with
    | some a, some l => some (a :: l)
    | _, _ => none

def zeroOf (P : Program) (t : TypeId) : Option (List AVal) :=
  match P.info? t with
  | some i => match i.zero with
    | some z => match valOf z with
      | some v => match cellsOf v with
        | some l => if l.length = i.size ∧ 0 < i.size then some l else none
        | none => none
      | none => none
    | none => none
  | none => none
def isAggT (P : Program) (t : TypeId) : Bool := match P.underlying t with | some (.struct _) => true | some (.array _ _) => true | _ => false
/-- types whose values are numbers, bools, strings alone -/
def plainT (P : Program) : Nat → TypeId → Bool
  | 0, _ => false
  | d + 1, t => match P.underlying t with
    | some .bool => true
    | some (.int _) => true
    | some .string => true
    | some (.struct fs) => fs.all fun f => f.name != "_" && plainT P d f.type
    | some (.array _ e) => plainT P d e
    | _ => false
def bad : Ins := .callv (.c .nilptr) []

def eqCOf (P : Program) : TypeDesc → Option EqC
  | .bool => some .bool
  | .pointer e => match P.info? e with | some _ => some .ptr | none => none
  | .slice _ => some .slice
  | .interface _ => some .iface
  | .func _ _ _ => some .func
  | .map _ _ => some .map
  | _ => none
def constOpd : Operand → Bool
  | .const _ => true
  | _ => false
def eqFree (x y : Operand) : TypeDesc → Bool
  | .interface ms => ms.isEmpty || constOpd x || constOpd y
  | _ => true
def fieldsK (P : Program) (g : TypeId → Option (List Nat)) : Nat → List Field → Option (List Nat)
  | _, [] => some []
  | off, f :: r => match g f.type with
    | some k => if f.offset = off ∧ k.length = P.cellsOf f.type then
        match fieldsK P g (off + k.length) r with
        | some l => some (k ++ l)
        | none => none
      else none
    | none => none
def kindsOf (P : Program) : Nat → TypeId → Option (List Nat)
  | 0, _ => none
  | d + 1, t => match P.underlying t with
    | some .bool => some [100]
    | some (.int k) => some [ikN k]
    | some .string => some [101]
    | some (.struct fs) => match fieldsK P (kindsOf P d) 0 fs.toList with
      | some ks => if ks.length = P.cellsOf t ∧ fs.all (·.name != "_") = true then some ks else none
      | none => none
    | _ => none
def eqAgg (P : Program) (op : BinOp) (t : TypeId) (x y : Opd) : Option Ins :=
  match kindsOf P 12 t with
  | some ks => if P.keyTypeAt 12 t = true ∧ P.eqGuardType P.depth t = false then
      match op with
      | .eql => some (.eqv (.agg ks) false x y)
      | .neq => some (.eqv (.agg ks) true x y)
      | _ => none
    else none
  | none => none
def eqOf (P : Program) (op : BinOp) (d : TypeDesc) (xo yo : Operand) (x y : Opd) : Option Ins :=
  match eqCOf P d with
  | some c => if eqFree xo yo d = true then
      match op with
      | .eql => some (.eqv c false x y)
      | .neq => some (.eqv c true x y)
      | _ => none
    else none
  | none => none
def binOf (P : Program) (op : BinOp) (t : TypeId) (xo yo : Operand) (x y : Opd) : Option Ins :=
  match P.underlying t with
  | some (.int _) => some (.bin op x y)
  | some .string => some (.bin op x y)
  | some (.struct _) => eqAgg P op t x y
  | some d => eqOf P op d xo yo x y
  | none => none

def sizeT (P : Program) (t : TypeId) : Option Nat := match P.info? t, P.underlying t with | some i, some _ => if i.size ≠ 0 then some i.size else none | _, _ => none

def uconvOf (P : Program) (t : TypeId) (x : Opd) : Option Ins :=
  match P.info? t with
  | some j => if j.size ≠ 0 then some (.uconv t (P.cellsOf t) x) else none
  | none => none
def convOf2 (P : Program) (src dst : TypeId) (x : Opd) : Option Ins :=
  match P.underlying src, P.underlying dst with
  | some .string, some (.slice e) => match P.underlying e with
    | some (.int .u8) => some (.convSB e x)
    | _ => none
  | some (.slice e), some .string => match P.underlying e with
    | some (.int .u8) => some (.convBS x)
    | _ => none
  | some (.pointer t), some .unsafePointer => uconvOf P t x
  | some .unsafePointer, some (.pointer t) => uconvOf P t x
  | _, _ => none
def convOf (P : Program) (src dst : TypeId) (x : Opd) : Option Ins :=
  match P.underlying src, P.underlying dst with
  | some (.int _), some (.int k) => some (.conv k x)
  | _, _ => convOf2 P src dst x

def partsP (P : Program) (place : Nat → Option (Nat × Nat)) : List (Nat × Operand) → Option (List (Nat × Nat × Opd))
  | [] => some []
  | (i, x) :: r => match place i, opdOf P x, partsP P place r with
    | some q, some y, some l => some ((q.1, q.2, y) :: l)
    | _, _, _ => none
def partsSl (P : Program) : List (Nat × Operand) → Option (List (Nat × Opd))
  | [] => some []
  | (i, x) :: r => match opdOf P x, partsSl P r with
    | some y, some l => some ((i, y) :: l)
    | _, _ => none
def optOpd (P : Program) : Option Operand → Option (Option Opd)
  | none => some none
  | some x => match opdOf P x with | some y => some (some y) | none => none

def mkBuild (z : List AVal) : Option (List (Nat × Nat × Opd)) → Option Ins
  | some l => if (l.all fun p => decide (p.1 + p.2.1 ≤ z.length)) = true then some (.build z l) else none
  | none => none
def buildOf (P : Program) (t : TypeId) (parts : List (Nat × Operand)) : Option Ins :=
  match zeroOf P t with
  | some z => match P.underlying t with
    | some (.struct fs) => match fs.toList.mapM (fun f => (P.info? f.type).map fun i => (f.offset, i.size)) with
      | some places => mkBuild z (partsP P (fun i => places.toArray[i]?) parts)
      | none => none
    | some (.array _ e) => match P.info? e with
      | some ie => mkBuild z (partsP P (fun i => some (i * ie.size, ie.size)) parts)
      | none => none
    | _ => none
  | none => none
def buildSlOf (P : Program) (t : TypeId) (ln : Nat) (parts : List (Nat × Operand)) : Option Ins :=
  match P.underlying t with
  | some (.slice e) => match P.info? e, zeroOf P e with
    | some i, some z => match partsSl P parts with
      | some l => if ln * i.size ≤ 16777216 then some (.buildSl e i.size i.bytes ln z l) else none
      | none => none
    | _, _ => none
  | _ => none
def mkslOf (P : Program) (t : TypeId) (a b : Opd) : Option Ins :=
  match P.underlying t with
  | some (.slice e) => match P.info? e, zeroOf P e with
    | some i, some z => if i.bytes ≠ 0 then some (.mksl e i.size i.bytes z a b) else none
    | _, _ => none
  | _ => none
def slArrOf (_ : Program) (_ : TypeId) (_ : Opd) (_ _ : Option Opd) : Option Ins := none
def minmaxOf (_ : Bool) (_ : List Opd) : Option Ins := none
def otherOf (_ : Program) (_ : Op) : Option Ins := none

def callOf (P : Program) (c : Call) : Option Ins :=
  match c.callee, opdsOf P c.args.toList with
  | .value f, some args => match f with
    | .func f => some (.call f args)
    | f => match opdOf P f with | some y => some (.callv y args) | none => none
  | .builtin .len, some [x] => match c.argTypes[0]? with
    | some t => match P.underlying t with
      | some .string => some (.lenS x)
      | some (.slice _) => some (.len x)
      | some (.array n _) => some (.lenK n)
      | _ => none
    | none => none
  | .builtin .append, some [x, y] => match c.argTypes[0]?, c.argTypes[1]? with
    | some t, some u => match P.underlying t, P.underlying u with
      | some (.slice e), some (.slice _) => match P.info? e, zeroOf P e with
        | some i, some _ => if i.bytes ≠ 0 then some (.app e i.size i.bytes x y) else none
        | _, _ => none
      | some (.slice e), some .string => match P.info? e, zeroOf P e with
        | some i, some _ => if i.size = 1 ∧ i.bytes = 1 then some (.appStr e x y) else none
        | _, _ => none
      | _, _ => none
    | _, _ => none
  | .builtin .unsafeSliceData, some [x] => some (.usd x)
  | .builtin .unsafeString, some [x, y] => match c.argTypes.toList with
    | [pt, _] => match P.underlying pt with
      | some (.pointer e) => if P.cellsOf e = 1 then some (.ustr e x y) else none
      | _ => none
    | _ => none
  | .builtin .min, some l => minmaxOf false l
  | .builtin .max, some l => minmaxOf true l
  | _, _ => none

def ioOf (P : Program) (o : Op) : Option Ins :=
  match o with
  | .move x => match opdOf P x with | some y => some (.mov y) | none => none
  | .assign x => match opdOf P x with | some y => some (.mov y) | none => none
  | .pick c a b => match opdOf P c, opdOf P a, opdOf P b with | some c, some a, some b => some (.pick c a b) | _, _, _ => none
  | .alloc t => match zeroOf P t, P.info? t with | some z, some i => some (.boxz t i.size i.bytes z) | _, _ => none
  | .box t x => match sizeT P t, P.info? t, opdOf P x with | some n, some i, some y => some (.box t n i.bytes y) | _, _, _ => none
  | .build t parts => buildOf P t parts.toList
  | .buildSlice t ln parts => buildSlOf P t ln parts.toList
  | .load t a => match sizeT P t, opdOf P a with | some n, some y => some (.load n (isAggT P t) y) | _, _ => none
  | .store t a x => match sizeT P t, opdOf P a, opdOf P x with | some n, some y, some z => some (.store n y z) | _, _, _ => none
  | .nilCheck x => match opdOf P x with | some y => some (.nilck y) | none => none
  | .binOp op t x y _ => match opdOf P x, opdOf P y with | some a, some b => binOf P op t x y a b | _, _ => none
  | .unOp op _ x => match opdOf P x with | some y => some (.un op y) | none => none
  | .convert src dst x => match opdOf P x with | some y => convOf P src dst y | none => none
  | .makeInterface t x => match P.underlying t, opdOf P x with
    | some (.interface _), _ => none
    | some _, some y => some (.mkif t y)
    | _, _ => none
  | .makeFunc (.func f) first caps => if first.size = 0 then match opdsOf P caps.toList with | some l => some (.mkfn f l) | none => none else none
  | .makeSlice t ln cp => match opdOf P ln, opdOf P cp with | some a, some b => mkslOf P t a b | _, _ => none
  | .slice t x lo hi none => match P.underlying t, opdOf P x, optOpd P lo, optOpd P hi with
    | some .string, some x, some lo, some hi => some (.slStr x lo hi)
    | some (.slice e), some x, some lo, some hi => match sizeT P e with | some n => some (.slSl n x lo hi) | none => none
    | some _, some x, some lo, some hi => slArrOf P t x lo hi
    | _, _, _, _ => none
  | .fieldAddr s x f => match P.underlying s, opdOf P x with
    | some (.struct fs), some y => match fs[f]? with
      | some fd => match sizeT P fd.type with | some _ => some (.offs y fd.offset) | none => none
      | none => none
    | _, _ => none
  | .field s x f => match P.underlying s, opdOf P x with
    | some (.struct fs), some y => match fs[f]? with
      | some fd => match sizeT P fd.type with | some n => some (.sub y fd.offset n (isAggT P fd.type)) | none => none
      | none => none
    | _, _ => none
  | .indexAddr t x i => match P.underlying t, opdOf P x, opdOf P i with
    | some (.array k e), some x, some i => match sizeT P e with | some n => if 1 < k then some (.idxArr k n x i) else none | none => none
    | some (.slice e), some x, some i => match sizeT P e with | some n => some (.idxSl n x i) | none => none
    | _, _, _ => none
  | .index t x i => match P.underlying t, opdOf P x, opdOf P i with
    | some (.array k e), some x, some i => match sizeT P e with | some n => some (.idxVal k n (isAggT P e) x i) | none => none
    | some .string, some x, some i => some (.idxStr x i)
    | _, _, _ => none
  | .extract x i => match opdOf P x with | some y => some (.extr y i) | none => none
  | .call c => callOf P c
  | o => otherOf P o

def pureIO : Ins → Bool
  | .boxz .. | .box .. | .load .. | .store .. | .mksl .. | .buildSl .. | .app .. | .appStr .. | .copy .. | .convSB .. | .convBS .. | .slArr .. | .call .. | .callv .. | .uconv .. | .ustr .. => false
  | _ => true

end Go.Ev
