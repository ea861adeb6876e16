/- Part 49 of walks through the code of a program. -/
import Derived.Test.YtdaamclhcpjdpaaGreatDoorT46
import Derived.Test.YtdaamclhcpjdpaaGreatDoorT47
import Derived.Test.YtdaamclhcpjdpaaGreatDoorT48
set_option linter.unusedVariables false
set_option linter.unusedSimpArgs false
noncomputable section
set_option maxRecDepth 100000
set_option maxHeartbeats 4000000
namespace Go.Ev.Rp
open Go Go.Ev.Pp
theorem tk_0(el:Nat→Nat){a b c d:Nat}(z:c<2):ck el (tl 0 a b c d)=true:=
 match c,z with
 |0,_=>tx_0 el
 |1,_=>tx_1 el
theorem tk_1(el:Nat→Nat){a b c d:Nat}(z:a<4)(A:b<3)(G:c<2):ck el (tl 1 a b c d)=true:=
 match a,b,c,z,A,G with
 |0,0,0,_,_,_=>tx_2 el
 |0,0,1,_,_,_=>tx_3 el
 |0,1,0,_,_,_=>tx_4 el
 |0,1,1,_,_,_=>tx_5 el
 |0,2,0,_,_,_=>tx_6 el
 |0,2,1,_,_,_=>tx_7 el
 |1,0,0,_,_,_=>tx_8 el
 |1,0,1,_,_,_=>tx_9 el
 |1,1,0,_,_,_=>tx_10 el
 |1,1,1,_,_,_=>tx_11 el
 |1,2,0,_,_,_=>tx_12 el
 |1,2,1,_,_,_=>tx_13 el
 |2,0,0,_,_,_=>tx_14 el
 |2,0,1,_,_,_=>tx_15 el
 |2,1,0,_,_,_=>tx_16 el
 |2,1,1,_,_,_=>tx_17 el
 |2,2,0,_,_,_=>tx_18 el
 |2,2,1,_,_,_=>tx_19 el
 |3,0,0,_,_,_=>tx_20 el
 |3,0,1,_,_,_=>tx_21 el
 |3,1,0,_,_,_=>tx_22 el
 |3,1,1,_,_,_=>tx_23 el
 |3,2,0,_,_,_=>tx_24 el
 |3,2,1,_,_,_=>tx_25 el
theorem tk_2(el:Nat→Nat){a b c d:Nat}(z:a<4)(A:c<2):ck el (tl 2 a b c d)=true:=
 match a,c,z,A with
 |0,0,_,_=>tx_26 el
 |0,1,_,_=>tx_27 el
 |1,0,_,_=>tx_28 el
 |1,1,_,_=>tx_29 el
 |2,0,_,_=>tx_30 el
 |2,1,_,_=>tx_31 el
 |3,0,_,_=>tx_32 el
 |3,1,_,_=>tx_33 el
theorem tk_3(el:Nat→Nat){a b c d:Nat}(z:c<2):ck el (tl 3 a b c d)=true:=
 match c,z with
 |0,_=>tx_34 el
 |1,_=>tx_35 el
theorem tk_4(el:Nat→Nat){a b c d:Nat}(z:c<2):ck el (tl 4 a b c d)=true:=
 match c,z with
 |0,_=>tx_36 el
 |1,_=>tx_37 el
theorem tk_5(el:Nat→Nat){a b c d:Nat}(z:a<4)(A:c<2):ck el (tl 5 a b c d)=true:=
 match a,c,z,A with
 |0,0,_,_=>tx_38 el
 |0,1,_,_=>tx_39 el
 |1,0,_,_=>tx_40 el
 |1,1,_,_=>tx_41 el
 |2,0,_,_=>tx_42 el
 |2,1,_,_=>tx_43 el
 |3,0,_,_=>tx_44 el
 |3,1,_,_=>tx_45 el
theorem tk_6(el:Nat→Nat){a b c d:Nat}:ck el (tl 6 a b c d)=true:=tx_46 el
theorem tk_7(el:Nat→Nat){a b c d:Nat}(z:c<2)(A:d<2):ck el (tl 7 a b c d)=true:=
 match c,d,z,A with
 |0,0,_,_=>tx_47 el
 |0,1,_,_=>tx_48 el
 |1,0,_,_=>tx_49 el
 |1,1,_,_=>tx_50 el
theorem tk_8(el:Nat→Nat){a b c d:Nat}(z:c<2)(A:d<2):ck el (tl 8 a b c d)=true:=
 match c,d,z,A with
 |0,0,_,_=>tx_51 el
 |0,1,_,_=>tx_52 el
 |1,0,_,_=>tx_53 el
 |1,1,_,_=>tx_54 el
theorem tk_9(el:Nat→Nat){a b c d:Nat}(z:c<2)(A:d<2):ck el (tl 9 a b c d)=true:=
 match c,d,z,A with
 |0,0,_,_=>tx_55 el
 |0,1,_,_=>tx_56 el
 |1,0,_,_=>tx_57 el
 |1,1,_,_=>tx_58 el
theorem tk_10(el:Nat→Nat){a b c d:Nat}(z:c<2)(A:d<2):ck el (tl 10 a b c d)=true:=
 match c,d,z,A with
 |0,0,_,_=>tx_59 el
 |0,1,_,_=>tx_60 el
 |1,0,_,_=>tx_61 el
 |1,1,_,_=>tx_62 el
theorem tk_11(el:Nat→Nat){a b c d:Nat}(z:c<2):ck el (tl 11 a b c d)=true:=
 match c,z with
 |0,_=>tx_63 el
 |1,_=>tx_64 el
theorem tk_12(el:Nat→Nat){a b c d:Nat}(z:c<2):ck el (tl 12 a b c d)=true:=
 match c,z with
 |0,_=>tx_65 el
 |1,_=>tx_66 el
theorem tk_13(el:Nat→Nat){a b c d:Nat}(z:c<2):ck el (tl 13 a b c d)=true:=
 match c,z with
 |0,_=>tx_67 el
 |1,_=>tx_68 el
theorem tk_14(el:Nat→Nat){a b c d:Nat}(z:a<4)(A:c<2)(G:d<2):ck el (tl 14 a b c d)=true:=
 match a,c,d,z,A,G with
 |0,0,0,_,_,_=>tx_69 el
 |0,0,1,_,_,_=>tx_70 el
 |0,1,0,_,_,_=>tx_71 el
 |0,1,1,_,_,_=>tx_72 el
 |1,0,0,_,_,_=>tx_73 el
 |1,0,1,_,_,_=>tx_74 el
 |1,1,0,_,_,_=>tx_75 el
 |1,1,1,_,_,_=>tx_76 el
 |2,0,0,_,_,_=>tx_77 el
 |2,0,1,_,_,_=>tx_78 el
 |2,1,0,_,_,_=>tx_79 el
 |2,1,1,_,_,_=>tx_80 el
 |3,0,0,_,_,_=>tx_81 el
 |3,0,1,_,_,_=>tx_82 el
 |3,1,0,_,_,_=>tx_83 el
 |3,1,1,_,_,_=>tx_84 el
structure Yr(T:aO):Prop where
 p1:T.ft.get 213=none
 p2:T.xt.get 213=none
 p3:T.zt.get 213=some (told FA .leaf 300 100 213)
 q1:T.ft.get 320=none
 q2:T.xt.get 320=none
 q3:T.zt.get 320=some (yv FA .leaf 300 100 320)
theorem Yr.ok{T:aO}(Z:Yr T){z:List UInt8}(h:∀el,ck el z=true):xu T z:=by
 have h0:=h fun _=>0
 simp only[ck,cU] at h0 h;exact txB_ok Z.p1 Z.p2 Z.p3 Z.q1 Z.q2 Z.q3 (aV h0.1) fun el=>(h el).2
theorem txA{T:aO}(Z:Yr T):zO T:=by
 refine⟨Z.ok tx_e,fun n s t u L M O U k Y G=>?_⟩;obtain⟨a,I,rfl⟩:∃a,a<4∧n=nS.getD a []:=by
  rcases L with rfl|rfl|rfl|rfl
  ·exact⟨0,au,aa⟩
  ·exact⟨1,au,aa⟩
  ·exact⟨2,au,aa⟩
  exact⟨3,au,aa⟩
 obtain⟨b,hb,rfl⟩:∃b,b<3∧s=sS.getD b []:=by
  rcases M with rfl|rfl|rfl
  ·exact⟨0,au,aa⟩
  ·exact⟨1,au,aa⟩
  exact⟨2,au,aa⟩
 obtain⟨c,z,rfl⟩:∃c,c<2∧t=tS.getD c []:=by
  rcases O with rfl|rfl
  ·exact⟨0,au,aa⟩
  exact⟨1,au,aa⟩
 obtain⟨d,A,rfl⟩:∃d,d<2∧u=uS.getD d []:=by
  rcases U with rfl|rfl
  ·exact⟨0,au,aa⟩
  exact⟨1,au,aa⟩
 have e:Y=tl k a b c d:=by simp only[tl,G,TH]
 subst e;refine Z.ok fun el=>?_
 match k,G with
 |0,_=>exact tk_0 el z
 |1,_=>exact tk_1 el I hb z
 |2,_=>exact tk_2 el I z
 |3,_=>exact tk_3 el z
 |4,_=>exact tk_4 el z
 |5,_=>exact tk_5 el I z
 |6,_=>exact tk_6 el
 |7,_=>exact tk_7 el z A
 |8,_=>exact tk_8 el z A
 |9,_=>exact tk_9 el z A
 |10,_=>exact tk_10 el z A
 |11,_=>exact tk_11 el z
 |12,_=>exact tk_12 el z
 |13,_=>exact tk_13 el z
 |14,_=>exact tk_14 el I z A
 |k+15,G=>exact absurd G (by simp[XG])
end Go.Ev.Rp
