/- The tables of the program's functions are the program's; the sanity check of these laws returns true. It holds without any condition. -/
import Derived.Test.YtmpoloiempjdpaaGreatChecked
import Derived.KernelRfl
import Derived.Test.YtmpoloiempjdpaaGreatRows
import Derived.Test.YtmpoloiempjdpaaGreatR50
import Derived.Below
import Derived.Deep.DeepHandedRow
namespace Go.Proofs.YtmpoloiempjdpaaGreat
open Go Go.Ev Go.Ev.Pp Go.Ev.Rp
set_option linter.unusedSimpArgs false
set_option linter.unusedVariables false
set_option maxRecDepth 100000
noncomputable def jfP(P:Program)(k:Nat):aO:=match P.funcs[k]?with
 |some g=>(vM P g).getD ⟨0,[],[],.skip⟩
 |none=>⟨0,[],[],.skip⟩
noncomputable def okP(P:Program)(k:Nat):Bool:=match P.funcs[k]?with
 |some g=>(vM P g).isSome
 |none=>false
theorem okP_row{P:Program}{k:Nat}(h:okP P k=true):RowOk P (k,jfP P k):=by
 unfold okP at h;unfold jfP
 cases e:P.funcs[k]?with
 |none=>rw[e] at h;cases h
 |some g=>
  rw[e] at h;simp only at h⊢
  cases e2:vM P g with
  |none=>rw[e2] at h;cases h
  |some x=>exact⟨g,e,e2⟩
noncomputable def tabP(P:Program)(l:List Nat):Tr aO:=HD (l.map fun k=>(k,jfP P k))
theorem tabP_ok{P:Program}{l:List Nat}(h:∀k,k∈l→okP P k=true):F1 P (tabP P l):=tabOf_ok fun p hp=>by
 obtain⟨k,hk,rfl⟩:=List.mem_map.1 hp;exact okP_row (h k hk)
theorem all2{P:Program}{l m:List Nat}(h:∀k,k∈l→okP P k=true)(h2:∀k,k∈m→okP P k=true):∀k,k∈l++m→okP P k=true:=fun k hk=>(List.mem_append.1 hk).elim (h k) (h2 k)
def kw0:List Nat:=[3,5,6,8,9,10,11,12,13,14,15,16,17,18,19,20,21,22,23,24,25,26,27,28,29,30,31,32,33,34,35,36,37,38,39,40,41,42,43,46,47,48,49,50,51,52,53,54,55,56,57]
theorem kw0_ok:∀k,k∈kw0→okP Tryz.prog k=true:=List.all_eq_true.1 (by kernel_rfl)
def kw1:List Nat:=[58,59,60,61,62,63,64,65,66,67,68,69,70,71,72,73,74,76,77,78,79,80,81,82,83,84,85,86,87,88,89,90,91,92,93,94,95,96,97,98,99,100,101,102,103,104,105,106,107,108,109]
theorem kw1_ok:∀k,k∈kw1→okP Tryz.prog k=true:=List.all_eq_true.1 (by kernel_rfl)
def kw2:List Nat:=[110,111,112,113,114,115,116,118,119,121,122,123,124,125,126,131,134,135,136,137,138,139,140,141,142,143,144,145,146,147,148,149,150,151,152,153,154,163,167,168,169,170,171,172,173,174,175,176,177,178,179]
theorem kw2_ok:∀k,k∈kw2→okP Tryz.prog k=true:=List.all_eq_true.1 (by kernel_rfl)
def kw3:List Nat:=[180,181,182,183,184,186,190,196,197,198,199,200,201,202,203,204,205,206,221,222,223,224,225,226,227,228,229,230,231,232,233,234,235,236,241,242,243,259,260,262,263,264,265,266,267,268,270,271,284,285]
theorem kw3_ok:∀k,k∈kw3→okP Tryz.prog k=true:=List.all_eq_true.1 (by kernel_rfl)
def ko0:List Nat:=[7,45,75,117,155,156,157,158,159]
theorem ko0_ok:∀k,k∈ko0→okP Tryz.prog k=true:=List.all_eq_true.1 (by kernel_rfl)
def ko1:List Nat:=[160,161,162,207,208,209,210,211,244]
theorem ko1_ok:∀k,k∈ko1→okP Tryz.prog k=true:=List.all_eq_true.1 (by kernel_rfl)
noncomputable def iE:Tr aO:=tabP Tryz.prog (kw0++(kw1++(kw2++(kw3++(ko0++(ko1))))))
theorem ft0_ok:F1 Tryz.prog iE:=tabP_ok (all2 kw0_ok (all2 kw1_ok (all2 kw2_ok (all2 kw3_ok (all2 ko0_ok (ko1_ok))))))
noncomputable def iF:Tr Nat:=HD []
theorem mix:Tryz.prog.follows .mixedOrders=true:=by kernel_rfl
theorem low:Tryz.prog.globals.size=0:=by kernel_rfl
theorem xt0_ok:Mr Tryz.prog iF:=fun f c h=>by
 have h:=aaa h
 cases h
noncomputable def call0:dO:=sG iE iF .leaf 1000000000 1000
theorem call0_ok:jn Tryz.prog call0:=LA mix ft0_ok xt0_ok Zw 1000
theorem awake_true:okT (call0 7 [] (H0 1000))=true:=by kernel_rfl
theorem awake_ok:ad8 Tryz.prog 7:=by
 obtain⟨H,h⟩:=okT_ok awake_true;exact trueOk_of call0_ok (by rw[low];decide) h
noncomputable def ft1:Tr aO:=tabP Tryz.prog (kw0++(kw1++(kw2++(kw3))))
theorem ft1_ok:F1 Tryz.prog ft1:=tabP_ok (all2 kw0_ok (all2 kw1_ok (all2 kw2_ok (kw3_ok))))
noncomputable def xt1:Tr Nat:=HD [(7,2)]
theorem xt1_ok:Mr Tryz.prog xt1:=fun f c h=>by
 have h:=aaa h;simp only[List.mem_cons,Prod.mk.injEq,List.not_mem_nil,or_false] at h;rcases h with⟨rfl,rfl⟩
 ·exact awake_ok
def kZ:List Nat:=[120,152,164,165,166,212,213,214,215,216,217,218,219,220,245,246,247,248,249,250,251,252,253,254,255,256,257,258,272,273,274,275,276,277,278,279,280,281,282,283,286,287,288,289,290,291,292,293,294,295,296,297,298,299,300,301]
theorem kZ_ok:∀k,k∈kZ→okP Tryz.prog k=true:=List.all_eq_true.1 (by kernel_rfl)
theorem ftZ_ok:F1 Tryz.prog E3:=(show tabP Tryz.prog kZ=E3 by kernel_rfl)▸tabP_ok kZ_ok
theorem leaf_ok:Mr Tryz.prog .leaf:=fun f c h=>by rw[Tr.uK] at h;cases h
noncomputable def zt1:ZT:=HD [(120,told E3 .leaf 300 100 120),(166,xY E3 .leaf 300 100 166)]
theorem zt1_ok:Q9 Tryz.prog zt1:=fun f c h=>by
 have h:=aaa h;simp only[List.mem_cons,Prod.mk.injEq,List.not_mem_nil,or_false] at h;rcases h with⟨rfl,rfl⟩|⟨rfl,rfl⟩
 ·exact toldOk mix ftZ_ok leaf_ok (by rw[low];decide)
 ·exact toldOkD mix ftZ_ok leaf_ok (by rw[low];decide)
noncomputable def TT:aM:=⟨ft1,xt1,zt1⟩
theorem zTT:YS TT:=by constructor<;>kernel_rfl
theorem ftT:FT TT:=by constructor<;>kernel_rfl
end Go.Proofs.YtmpoloiempjdpaaGreat
