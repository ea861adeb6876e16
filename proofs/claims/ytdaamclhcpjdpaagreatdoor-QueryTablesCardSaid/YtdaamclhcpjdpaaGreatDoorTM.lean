/- The tables of the program's functions are the program's; the sanity check of these laws returns true. It holds without any condition. -/
import Derived.Test.YtdaamclhcpjdpaaGreatDoorRows
import Derived.Test.YtdaamclhcpjdpaaGreatDoorT49
import Derived.Below
import Derived.LaidSub
import Derived.Deep.DeepHandedRow
namespace Go.Proofs.YtdaamclhcpjdpaaGreatDoor
open Go Go.Ev Go.Ev.Pp Go.Ev.Rp
set_option linter.unusedSimpArgs false
set_option linter.unusedVariables false
set_option maxRecDepth 100000
noncomputable def jfP(P:Program)(k:Nat):aR:=match P.funcs[k]?with
 |some g=>(yV P g).getD ⟨0,[],[],.skip⟩
 |none=>⟨0,[],[],.skip⟩
noncomputable def okP(P:Program)(k:Nat):Bool:=match P.funcs[k]?with
 |some g=>(yV P g).isSome
 |none=>false
theorem okP_row{P:Program}{k:Nat}(h:okP P k=true):RowOk P (k,jfP P k):=by
 unfold okP at h;unfold jfP
 cases e:P.funcs[k]?with
 |none=>rw[e] at h;cases h
 |some g=>
  rw[e] at h;simp only at h⊢
  cases e2:yV P g with
  |none=>rw[e2] at h;cases h
  |some x=>exact⟨g,e,e2⟩
noncomputable def tabP(P:Program)(l:List Nat):Tr aR:=H3 (l.map fun k=>(k,jfP P k))
theorem tabP_ok{P:Program}{l:List Nat}(h:∀k,k∈l→okP P k=true):Gi P (tabP P l):=tabOf_ok fun p hp=>by
 obtain⟨k,hk,rfl⟩:=List.mem_map.1 hp;exact okP_row (h k hk)
theorem all2{P:Program}{l m:List Nat}(h:∀k,k∈l→okP P k=true)(h2:∀k,k∈m→okP P k=true):∀k,k∈l++m→okP P k=true:=fun k hk=>(List.mem_append.1 hk).elim (h k) (h2 k)
def kw0:List Nat:=[4,5,6,7,11,12,13,14,15,16,17,18,19,20,21,22,23,26,27,28,29,30,31,32,33,34,35,36,37,38,39,40,41,42,43,44,55,56,57,58,59,60,61,62,63,64,65]
theorem kw0_ok:∀k,k∈kw0→okP Tryz.prog k=true:=List.all_eq_true.1 (by kernel_rfl)
def kw1:List Nat:=[66,67,68,69,70,71,72,73,74,75,76,77,78,79,80,81,82,83,84,85,86,87,88,89,93,102,118,119,120,121,122,123,124,125,126,127,128,129,130,131,132,133,134,135,136,137,138]
theorem kw1_ok:∀k,k∈kw1→okP Tryz.prog k=true:=List.all_eq_true.1 (by kernel_rfl)
def kw2:List Nat:=[139,140,141,142,143,144,145,146,147,148,149,150,151,152,153,154,155,156,209,210,212,214,215,216,223,224,225,226,227,228,229,230,231,232,233,234,235,321,322,323,324,325,326,327,328,329,330]
theorem kw2_ok:∀k,k∈kw2→okP Tryz.prog k=true:=List.all_eq_true.1 (by kernel_rfl)
def kw3:List Nat:=[331,332,333,334,335,342,343,344,345,346,347,348,349,350,382,416,417,418,419,420,421,422,423,424,425,426,427,428,429,434,435,514,515,516,517,518,519,520,521,522,524,525,577,578]
theorem kw3_ok:∀k,k∈kw3→okP Tryz.prog k=true:=List.all_eq_true.1 (by kernel_rfl)
def ko0:List Nat:=[8,10,24,25,45,46,47,48,49,50,51,52,53,54,90,91,92,94,95,96,97,98,99,100,101,103,104,105,106,107,108,109,110,111,112,113,114,115,116,117,157,158,159,160,161,162,163,164,165,166,167,168,169,170,171,172,173,174,175,176,177,178,179,180,181,182,183,184,185,186,187,188,189,190,191,192,193,194,195,196,197,198,199,200,201,202,203,204,205,206,207,208,236,237,238,239,240,241,242,243,244,245,246,247,248,249,250,251,252,253,254,255,256,257,258,259,260,261,262,263,264,265,266,267,268,269,270,271,272,273,274,275,276,277,278,279,280,281,282,283,284,285,286,287,288,289,290,291,292,293,294,295,296,297,298,299,300,301,302,303,304,305,306,307,308,309,310,311,312,313,314,315,316,317,351,352,353,354,355,356,357,358,359,360,361,362,363,364,365,366,367,368,369,370,371]
theorem ko0_ok:∀k,k∈ko0→okP Tryz.prog k=true:=List.all_eq_true.1 (by kernel_rfl)
def ko1:List Nat:=[372,373,374,375,376,377,378,379,380,381,383,384,385,386,387,388,389,390,391,392,393,394,395,396,397,398,399,400,401,402,403,404,405,406,437,438,439,440,441,442,443,444,445,446,448,449,450,451,452,453,454,455,456,457,458,459,460,461,462,463,464,465,466,467,468,469,470,471,472,473,474,475,476,477,478,479,480,481,482,483,484,485,486,487,488,489,490,491,492,493,494,495,496,497,498,499,526,527,528,529,530,532,533,534,535,536,537,538,539,540,541,542,543,544,545,546,547,548,549,550,551,552,553,554,555,556,557,558,559,560,561,562,563,564,579,580,581,584,585,586,587,588,589,591,592,593,594,595,596,597,598,599,600,601,602,603,604,605,606,607,608,609,617,618,619,621,622,623,624,625,626,627,628,629,632,633,634,637,639,641,643,644,646,647,649,650,651,652,653,654,655,656,657,658,659]
theorem ko1_ok:∀k,k∈ko1→okP Tryz.prog k=true:=List.all_eq_true.1 (by kernel_rfl)
noncomputable def iB:Tr aR:=tabP Tryz.prog (kw0++(kw1++(kw2++(kw3++(ko0++(ko1))))))
theorem ft0_ok:Gi Tryz.prog iB:=tabP_ok (all2 kw0_ok (all2 kw1_ok (all2 kw2_ok (all2 kw3_ok (all2 ko0_ok (ko1_ok))))))
noncomputable def iC:Tr Nat:=H3 [(447,1)]
theorem mix:Tryz.prog.follows .mixedOrders=true:=by kernel_rfl
theorem low:Tryz.prog.globals.size=9:=by kernel_rfl
theorem xt0_ok:MM Tryz.prog iC:=fun f c h=>by
 have h:=ZI h;simp only[List.mem_cons,Prod.mk.injEq,List.not_mem_nil,or_false] at h;rcases h with⟨rfl,rfl⟩
 ·exact .inl ⟨Tryz.f447,Tryz.func447,by kernel_rfl,by kernel_rfl,by kernel_rfl,_,rfl,by kernel_rfl⟩
noncomputable def call0:dG:=sa iB iC .leaf 1000000000 1000
theorem call0_ok:je Tryz.prog call0:=LS mix ft0_ok xt0_ok Y7 1000
theorem awake_true:okT (call0 8 [] (H0 1000))=true:=by kernel_rfl
theorem awake_ok:adx Tryz.prog 8:=by
 obtain⟨H,h⟩:=okT_ok awake_true;exact trueOk_of call0_ok (by rw[low];decide) h
noncomputable def ft1:Tr aR:=tabP Tryz.prog (kw0++(kw1++(kw2++(kw3))))
theorem ft1_ok:Gi Tryz.prog ft1:=tabP_ok (all2 kw0_ok (all2 kw1_ok (all2 kw2_ok (kw3_ok))))
noncomputable def xt1:Tr Nat:=H3 [(8,2)]
theorem xt1_ok:MM Tryz.prog xt1:=fun f c h=>by
 have h:=ZI h;simp only[List.mem_cons,Prod.mk.injEq,List.not_mem_nil,or_false] at h;rcases h with⟨rfl,rfl⟩
 ·exact .inr ⟨rfl,awake_ok⟩
def kZ:List Nat:=[27,213,318,319,320,407,408,409,410,411,412,413,414,415,500,501,502,503,504,505,506,507,508,509,510,511,512,513,565,566,567,568,569,570,571,572,573,574,575,576,610,611,612,613,614,615,616,630,631,635,636,638,640,642,645,648]
theorem kZ_ok:∀k,k∈kZ→okP Tryz.prog k=true:=List.all_eq_true.1 (by kernel_rfl)
theorem ftZ_ok:Gi Tryz.prog FA:=(show tabP Tryz.prog kZ=FA by kernel_rfl)▸tabP_ok kZ_ok
theorem leaf_ok:MM Tryz.prog .leaf:=fun f c h=>by rw[Tr.uE] at h;cases h
noncomputable def zt1:ZT:=H3 [(213,told FA .leaf 300 100 213),(320,yv FA .leaf 300 100 320)]
theorem zt1_ok:QV Tryz.prog zt1:=fun f c h=>by
 have h:=ZI h;simp only[List.mem_cons,Prod.mk.injEq,List.not_mem_nil,or_false] at h;rcases h with⟨rfl,rfl⟩|⟨rfl,rfl⟩
 ·exact toldOk mix ftZ_ok leaf_ok (by rw[low];decide)
 ·exact toldOkD mix ftZ_ok leaf_ok (by rw[low];decide)
noncomputable def TT:aO:=⟨ft1,xt1,zt1⟩
theorem zTT:Yr TT:=by constructor<;>kernel_rfl
theorem ftT:FT TT:=by constructor<;>kernel_rfl
theorem pin5:((List.range 9).all fun g=>!(I1 Tryz.prog g)||g==8)=true:=by kernel_rfl
theorem laid5:(Rows.queryTablesRow.laid.filter fun x=>x.1== "strconv.ErrRange")=[("strconv.ErrRange",Rows.laid_strconv_ErrRange)]:=by kernel_rfl
theorem laid6:([("strconv.ErrRange",Rows.laid_strconv_ErrRange (H:=Unit))].filter fun x=>x.2.handleName?.isNone)=[("strconv.ErrRange",Rows.laid_strconv_ErrRange)]:=by kernel_rfl
theorem iface_of{W:World}{f:Nat}{l:List Value}{n:String}{d:DataW Unit}{p:List MemPlace}(h:DataW.trod (fun _=>()) Tryz.prog W 0 (fun _=>true) false f 407 l=some (.iface n d,p)):∃te pe,l=[.iface te pe]:=by
 cases f with
 |zero=>simp[DataW.trod] at h
 |succ f=>
  unfold DataW.trod at h;rw[Tryz.underlying407] at h
  split at h<;>first|exact⟨_,_,rfl⟩|(simp_all;done)
theorem low_ok{W:World}(hl:laidMetH Tryz.prog Rows.queryTablesRow.laid W)(hsh:W.ShapedOpen Tryz.prog):xV Tryz.prog W:=fun g hg=>by
 refine⟨low_of_shaped hsh (by kernel_rfl) g hg,fun hp=>?_⟩;have h5:=List.all_eq_true.1 pin5 g (List.mem_range.2 (by rw[low] at hg;exact hg));have e5:g=8:=by rw[hp] at h5;simpa using h5
 subst e5;have h1:=hl.filter fun x=>x.1== "strconv.ErrRange"
 rw[laid5] at h1;have h2:=(laidMetH_iff.1 h1).1;rw[laid6] at h2;obtain⟨ps,hv,_,_⟩:=h2;obtain⟨g',t,cs,fuel,p,q,k1,k2,k3,k4,_,_⟩:=hv;have kg:Tryz.prog.globalNamed "strconv.ErrRange"=some 8:=by kernel_rfl
 rw[kg] at k1
 cases k1
 rw[show(Tryz.prog.globals[8]?).map (·.type)=some 407 by kernel_rfl] at k2
 cases k2
 obtain⟨te,pe,e⟩:=iface_of k4;unfold World.var? at k3;rw[kg] at k3;simp only[Option.bind_some] at k3;refine⟨te,pe,?_⟩;unfold World.cell?
 split at k3
 ·rename_i hh
  cases k3
  rw[show W.heap[(⟨8,0,none⟩:Addr).block]?=W.heap[8]?from rfl,hh];show cs[0]?=_;rw[←Array.getElem?_toList,e];rfl
 ·cases k3
end Go.Proofs.YtdaamclhcpjdpaaGreatDoor
