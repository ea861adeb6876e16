/- The program's functions, turned into instructions (printed by program), part 0, and that they are so turned. -/
import Derived.Test.YtgjadkcogmpkdaaGreatDoorEvZ
import Derived.Test.YtgjadkcogmpkdaaGreatDoorChecked
import Derived.KernelRfl
namespace Go.Proofs.YtgjadkcogmpkdaaGreatDoor
open Go Go.Ev
set_option maxRecDepth 100000
set_option maxHeartbeats 4000000
/-- annalist.annalistlaw28.ParserDepth -/
noncomputable def i3 : IFn := { nt := 98, ps := [kk0, kk1], res := [.tmp kk4], body :=
 (.seq (.region false [⟨some kk4, none, none, .mov (.c (.bool false))⟩])
 (.seq (.region false [⟨some kk16, none, none, .mov (.t kk0)⟩,
  ⟨some kk17, none, none, .bin .rem (.t kk16) (.c (.int .u16 (.ofNat 70)))⟩,
  ⟨some kk18, none, none, .conv .i64 (.t kk17)⟩,
  ⟨some kk5, none, none, .mov (.t kk18)⟩])
 (.seq (.region false [⟨some kk6, none, none, .mov (.c (.str 0 0))⟩,
  ⟨some kk7, none, none, .mov (.c (.str 0 0))⟩])
 (.seq (.seq (.region false [⟨some kk8, none, none, .mov (.c (.int .i64 (.ofNat 0)))⟩])
 (.block 0 (.loop (.seq (.seq (.region false [⟨some kk19, none, none, .mov (.t kk8)⟩,
    ⟨some kk20, none, none, .mov (.t kk5)⟩,
    ⟨some kk21, none, none, .bin .lss (.t kk19) (.t kk20)⟩])
   (.cond (.t kk21)
    .skip
    (.exit 0)))
   (.seq (.block 1 (.seq (.region false [⟨some kk24, none, none, .mov (.t kk1)⟩,
     ⟨some kk25, none, none, .mov (.t kk24)⟩,
     ⟨some kk26, some (kk25, true), none, .mov (.t kk8)⟩,
     ⟨some kk27, some (kk25, true), none, .bin .rem (.t kk26) (.c (.int .i64 (.ofNat 2)))⟩,
     ⟨some kk28, some (kk25, true), none, .bin .eql (.t kk27) (.c (.int .i64 (.ofNat 0)))⟩,
     ⟨some kk29, none, none, .pick (.t kk25) (.t kk28) (.c (.bool false))⟩])
    (.cond (.t kk29)
     (.region false [⟨some kk30, none, none, .mov (.t kk6)⟩,
      ⟨some kk31, none, none, .bin .add (.t kk30) (.c (.str 4 542396238))⟩,
      ⟨some kk6, none, none, .mov (.t kk31)⟩])
     (.region false [⟨some kk32, none, none, .mov (.t kk6)⟩,
      ⟨some kk33, none, none, .bin .add (.t kk32) (.c (.str 2 8232))⟩,
      ⟨some kk34, none, none, .mov (.t kk7)⟩,
      ⟨some kk35, none, none, .bin .add (.t kk34) (.c (.str 2 10528))⟩,
      ⟨some kk6, none, none, .mov (.t kk33)⟩,
      ⟨some kk7, none, none, .mov (.t kk35)⟩]))))
   (.region false [⟨some kk22, none, none, .mov (.t kk8)⟩,
    ⟨some kk23, none, none, .bin .add (.t kk22) (.c (.int .i64 (.ofNat 1)))⟩,
    ⟨some kk8, none, none, .mov (.t kk23)⟩]))))))
 (.seq (.region false [⟨some kk9, none, none, .mov (.c (.str 22 12073934708286947552000946623667234309430494075045203))⟩])
 (.seq (.region false [⟨some kk37, none, none, .mov (.t kk9)⟩,
  ⟨some kk38, none, none, .mov (.t kk6)⟩,
  ⟨some kk39, none, none, .bin .add (.t kk37) (.t kk38)⟩,
  ⟨some kk40, none, none, .bin .add (.t kk39) (.c (.str 1 97))⟩,
  ⟨some kk41, none, none, .mov (.t kk7)⟩,
  ⟨some kk42, none, none, .bin .add (.t kk40) (.t kk41)⟩,
  ⟨some kk43, none, none, .call 4 [(.t kk42)]⟩,
  ⟨some kk36, none, none, .mov (.t kk43)⟩,
  ⟨some kk44, none, none, .extr (.t kk36) 0⟩,
  ⟨some kk45, none, none, .extr (.t kk36) 1⟩,
  ⟨some kk46, none, none, .extr (.t kk36) 2⟩,
  ⟨some kk10, none, none, .boxz 26 2 48 [.nilslice, .nilslice]⟩,
  ⟨none, none, none, .store 2 (.t kk10) (.t kk44)⟩,
  ⟨some kk11, none, none, .mov (.t kk45)⟩,
  ⟨some kk12, none, none, .mov (.t kk46)⟩])
 (.seq (.seq (.region false [⟨some kk47, none, none, .mov (.t kk5)⟩,
  ⟨some kk48, none, none, .bin .leq (.t kk47) (.c (.int .i64 (.ofNat 60)))⟩])
 (.cond (.t kk48)
  (.seq (.region false [⟨some kk49, none, none, .call 5 []⟩,
   ⟨some kk50, none, none, .mov (.t kk49)⟩,
   ⟨some kk51, some (kk50, true), none, .mov (.t kk12)⟩,
   ⟨some kk52, some (kk50, true), none, .bin .eql (.t kk51) (.c (.int .i64 (.ofNat 0)))⟩,
   ⟨some kk53, none, none, .pick (.t kk50) (.t kk52) (.c (.bool false))⟩,
   ⟨some kk54, none, none, .mov (.t kk53)⟩,
   ⟨some kk55, some (kk54, true), none, .offs (.t kk10) 0⟩,
   ⟨some kk56, some (kk54, true), none, .load 1 false (.t kk55)⟩,
   ⟨some kk57, some (kk54, true), none, .len (.t kk56)⟩,
   ⟨some kk58, some (kk54, true), none, .bin .eql (.t kk57) (.c (.int .i64 (.ofNat 1)))⟩,
   ⟨some kk59, none, none, .pick (.t kk54) (.t kk58) (.c (.bool false))⟩,
   ⟨some kk60, none, none, .mov (.t kk59)⟩,
   ⟨some kk61, some (kk60, true), none, .mov (.t kk11)⟩,
   ⟨some kk62, some (kk60, true), none, .bin .eql (.t kk61) (.c (.int .i64 (.ofNat 0)))⟩,
   ⟨some kk63, none, none, .pick (.t kk60) (.t kk62) (.c (.bool false))⟩,
   ⟨some kk4, none, none, .mov (.t kk63)⟩])
  .ret)
  .skip))
 (.seq (.region false [⟨some kk65, none, none, .mov (.t kk9)⟩,
  ⟨some kk66, none, none, .mov (.t kk6)⟩,
  ⟨some kk67, none, none, .bin .add (.t kk65) (.t kk66)⟩,
  ⟨some kk68, none, none, .call 6 [(.t kk67)]⟩,
  ⟨some kk64, none, none, .mov (.t kk68)⟩,
  ⟨some kk69, none, none, .extr (.t kk64) 0⟩,
  ⟨some kk70, none, none, .extr (.t kk64) 1⟩,
  ⟨some kk71, none, none, .extr (.t kk64) 2⟩,
  ⟨some kk13, none, none, .mov (.t kk69)⟩,
  ⟨some kk14, none, none, .mov (.t kk70)⟩,
  ⟨some kk15, none, none, .mov (.t kk71)⟩])
 (.seq (.region false [⟨some kk72, none, none, .call 5 []⟩,
  ⟨some kk73, none, none, .mov (.t kk72)⟩,
  ⟨some kk74, some (kk73, true), none, .mov (.t kk12)⟩,
  ⟨some kk75, some (kk73, true), none, .bin .eql (.t kk74) (.c (.int .i64 (.ofNat 19)))⟩,
  ⟨some kk76, none, none, .pick (.t kk73) (.t kk75) (.c (.bool false))⟩,
  ⟨some kk77, none, none, .mov (.t kk76)⟩,
  ⟨some kk78, some (kk77, true), none, .mov (.t kk13)⟩,
  ⟨some kk79, some (kk77, true), none, .len (.t kk78)⟩,
  ⟨some kk80, some (kk77, true), none, .mov (.t kk5)⟩,
  ⟨some kk81, some (kk77, true), none, .bin .add (.c (.int .i64 (.ofNat 6))) (.t kk80)⟩,
  ⟨some kk82, some (kk77, true), none, .bin .eql (.t kk79) (.t kk81)⟩,
  ⟨some kk83, none, none, .pick (.t kk77) (.t kk82) (.c (.bool false))⟩,
  ⟨some kk84, none, none, .mov (.t kk83)⟩,
  ⟨some kk85, some (kk84, true), none, .mov (.t kk11)⟩,
  ⟨some kk86, some (kk84, true), none, .mov (.t kk13)⟩,
  ⟨some kk87, some (kk84, true), none, .idxSl 3 (.t kk86) (.c (.int .i64 (.ofNat 65)))⟩,
  ⟨some kk88, some (kk84, true), none, .offs (.t kk87) 1⟩,
  ⟨some kk89, some (kk84, true), none, .load 1 false (.t kk88)⟩,
  ⟨some kk90, some (kk84, true), none, .bin .eql (.t kk85) (.t kk89)⟩,
  ⟨some kk91, none, none, .pick (.t kk84) (.t kk90) (.c (.bool false))⟩,
  ⟨some kk92, none, none, .mov (.t kk91)⟩,
  ⟨some kk93, some (kk92, true), none, .offs (.t kk10) 0⟩,
  ⟨some kk94, some (kk92, true), none, .load 1 false (.t kk93)⟩,
  ⟨some kk95, some (kk92, true), none, .len (.t kk94)⟩,
  ⟨some kk96, some (kk92, true), none, .bin .eql (.t kk95) (.c (.int .i64 (.ofNat 0)))⟩,
  ⟨some kk97, none, none, .pick (.t kk92) (.t kk96) (.c (.bool false))⟩,
  ⟨some kk4, none, none, .mov (.t kk97)⟩])
 .ret))))))))) }
theorem fn3 : fnOf Tryz.prog Tryz.f3 = some i3 := by kernel_rfl
/-- annalist.parser.ParseSelect -/
noncomputable def i4 : IFn := { nt := 24, ps := [kk0], res := [.cell kk2 2 true, .tmp kk3, .tmp kk4], body :=
 (.seq (.region false [⟨some kk2, none, none, .boxz 26 2 48 [.nilslice, .nilslice]⟩,
  ⟨some kk3, none, none, .mov (.c (.int .i64 (.ofNat 0)))⟩,
  ⟨some kk4, none, none, .mov (.c (.int .i64 (.ofNat 0)))⟩])
 (.seq (.region false [⟨some kk9, none, none, .mov (.t kk0)⟩,
  ⟨some kk10, none, none, .call 6 [(.t kk9)]⟩,
  ⟨some kk8, none, none, .mov (.t kk10)⟩,
  ⟨some kk11, none, none, .extr (.t kk8) 0⟩,
  ⟨some kk12, none, none, .extr (.t kk8) 1⟩,
  ⟨some kk13, none, none, .extr (.t kk8) 2⟩,
  ⟨some kk5, none, none, .mov (.t kk11)⟩,
  ⟨some kk6, none, none, .mov (.t kk12)⟩,
  ⟨some kk7, none, none, .mov (.t kk13)⟩])
 (.seq (.seq (.region false [⟨some kk14, none, none, .mov (.t kk7)⟩,
  ⟨some kk15, none, none, .bin .neq (.t kk14) (.c (.int .i64 (.ofNat 0)))⟩])
 (.cond (.t kk15)
  (.seq (.region false [⟨some kk16, none, none, .build [.nilslice, .nilslice] []⟩,
   ⟨some kk17, none, none, .mov (.t kk6)⟩,
   ⟨some kk18, none, none, .mov (.t kk7)⟩,
   ⟨none, none, none, .store 2 (.t kk2) (.t kk16)⟩,
   ⟨some kk3, none, none, .mov (.t kk17)⟩,
   ⟨some kk4, none, none, .mov (.t kk18)⟩])
  .ret)
  .skip))
 (.seq (.region false [⟨some kk19, none, none, .mov (.t kk5)⟩,
  ⟨some kk20, none, none, .call 7 [(.t kk19)]⟩,
  ⟨some kk21, none, none, .extr (.t kk20) 0⟩,
  ⟨some kk22, none, none, .extr (.t kk20) 1⟩,
  ⟨some kk23, none, none, .extr (.t kk20) 2⟩,
  ⟨none, none, none, .store 2 (.t kk2) (.t kk21)⟩,
  ⟨some kk3, none, none, .mov (.t kk22)⟩,
  ⟨some kk4, none, none, .mov (.t kk23)⟩])
 .ret)))) }
theorem fn4 : fnOf Tryz.prog Tryz.f4 = some i4 := by kernel_rfl
/-- annalist.annalistlaw28.awake -/
noncomputable def i5 : IFn := { nt := 64, ps := [], res := [.tmp kk0], body :=
 (.seq (.region false [⟨some kk0, none, none, .mov (.c (.bool false))⟩])
 (.seq (.region false [⟨some kk11, none, none, .call 8 [(.c (.str 54 2214933011240471369064910152182971745409535170101848369699657602313654890154571580519333620632146314237463139975664539237585011030))]⟩,
  ⟨some kk10, none, none, .mov (.t kk11)⟩,
  ⟨some kk12, none, none, .extr (.t kk10) 0⟩,
  ⟨some kk13, none, none, .extr (.t kk10) 1⟩,
  ⟨some kk14, none, none, .extr (.t kk10) 2⟩,
  ⟨some kk1, none, none, .boxz 48 21 328 [(.int .i64 (.ofNat 0)), (.int .i64 (.ofNat 0)), (.int .i64 (.ofNat 0)), (.int .i64 (.ofNat 0)), .nilslice, .nilslice, (.str 0 0), (.str 0 0), .nilslice, (.int .i64 (.ofNat 0)), (.int .i64 (.ofNat 0)), .nilslice, (.int .i64 (.ofNat 0)), .nilslice, .nilslice, .nilslice, .nilslice, .nilslice, (.int .i64 (.ofNat 0)), (.int .i64 (.ofNat 0)), (.int .i64 (.ofNat 0))]⟩,
  ⟨none, none, none, .store 21 (.t kk1) (.t kk12)⟩,
  ⟨some kk2, none, none, .mov (.t kk13)⟩,
  ⟨some kk3, none, none, .mov (.t kk14)⟩])
 (.seq (.region false [⟨some kk16, none, none, .call 4 [(.c (.str 15 602961597814649308796888641318962515))]⟩,
  ⟨some kk15, none, none, .mov (.t kk16)⟩,
  ⟨some kk17, none, none, .extr (.t kk15) 0⟩,
  ⟨some kk18, none, none, .extr (.t kk15) 1⟩,
  ⟨some kk19, none, none, .extr (.t kk15) 2⟩,
  ⟨some kk4, none, none, .boxz 26 2 48 [.nilslice, .nilslice]⟩,
  ⟨none, none, none, .store 2 (.t kk4) (.t kk17)⟩,
  ⟨some kk5, none, none, .mov (.t kk18)⟩,
  ⟨some kk6, none, none, .mov (.t kk19)⟩])
 (.seq (.region false [⟨some kk21, none, none, .call 8 [(.c (.str 11 93461872748618622419354963))]⟩,
  ⟨some kk20, none, none, .mov (.t kk21)⟩,
  ⟨some kk22, none, none, .extr (.t kk20) 0⟩,
  ⟨some kk23, none, none, .extr (.t kk20) 1⟩,
  ⟨some kk24, none, none, .extr (.t kk20) 2⟩,
  ⟨some kk7, none, none, .boxz 48 21 328 [(.int .i64 (.ofNat 0)), (.int .i64 (.ofNat 0)), (.int .i64 (.ofNat 0)), (.int .i64 (.ofNat 0)), .nilslice, .nilslice, (.str 0 0), (.str 0 0), .nilslice, (.int .i64 (.ofNat 0)), (.int .i64 (.ofNat 0)), .nilslice, (.int .i64 (.ofNat 0)), .nilslice, .nilslice, .nilslice, .nilslice, .nilslice, (.int .i64 (.ofNat 0)), (.int .i64 (.ofNat 0)), (.int .i64 (.ofNat 0))]⟩,
  ⟨none, none, none, .store 21 (.t kk7) (.t kk22)⟩,
  ⟨some kk8, none, none, .mov (.t kk23)⟩,
  ⟨some kk9, none, none, .mov (.t kk24)⟩])
 (.seq (.region false [⟨some kk25, none, none, .mov (.t kk3)⟩,
  ⟨some kk26, none, none, .bin .eql (.t kk25) (.c (.int .i64 (.ofNat 0)))⟩,
  ⟨some kk27, none, none, .mov (.t kk26)⟩,
  ⟨some kk28, some (kk27, true), none, .offs (.t kk1) 1⟩,
  ⟨some kk29, some (kk27, true), none, .load 1 false (.t kk28)⟩,
  ⟨some kk30, some (kk27, true), none, .bin .eql (.t kk29) (.c (.int .i64 (.ofNat 2)))⟩,
  ⟨some kk31, none, none, .pick (.t kk27) (.t kk30) (.c (.bool false))⟩,
  ⟨some kk32, none, none, .mov (.t kk31)⟩,
  ⟨some kk33, some (kk32, true), none, .offs (.t kk1) 3⟩,
  ⟨some kk34, some (kk32, true), none, .load 1 false (.t kk33)⟩,
  ⟨some kk35, some (kk32, true), none, .bin .eql (.t kk34) (.c (.int .i64 (.ofNat 3)))⟩,
  ⟨some kk36, none, none, .pick (.t kk32) (.t kk35) (.c (.bool false))⟩,
  ⟨some kk37, none, none, .mov (.t kk36)⟩,
  ⟨some kk38, some (kk37, true), none, .offs (.t kk1) 2⟩,
  ⟨some kk39, some (kk37, true), none, .load 1 false (.t kk38)⟩,
  ⟨some kk40, some (kk37, true), none, .bin .eql (.t kk39) (.c (.int .i64 (.negSucc 0)))⟩,
  ⟨some kk41, none, none, .pick (.t kk37) (.t kk40) (.c (.bool false))⟩,
  ⟨some kk42, none, none, .mov (.t kk41)⟩,
  ⟨some kk43, some (kk42, true), none, .load 21 true (.t kk1)⟩,
  ⟨some kk44, some (kk42, true), none, .call 9 [(.t kk43)]⟩,
  ⟨some kk45, some (kk42, true), none, .bin .eql (.t kk44) (.c (.str 58 9513064846108624921757026099932599808943227092143811230573946276542190323261132624722602002336342360671244718778610575703269110635098292566))⟩,
  ⟨some kk46, none, none, .pick (.t kk42) (.t kk45) (.c (.bool false))⟩,
  ⟨some kk47, none, none, .mov (.t kk46)⟩,
  ⟨some kk48, some (kk47, true), none, .mov (.t kk6)⟩,
  ⟨some kk49, some (kk47, true), none, .bin .eql (.t kk48) (.c (.int .i64 (.ofNat 0)))⟩,
  ⟨some kk50, none, none, .pick (.t kk47) (.t kk49) (.c (.bool false))⟩,
  ⟨some kk51, none, none, .mov (.t kk50)⟩,
  ⟨some kk52, some (kk51, true), none, .load 2 true (.t kk4)⟩,
  ⟨some kk53, some (kk51, true), none, .call 10 [(.t kk52)]⟩,
  ⟨some kk54, some (kk51, true), none, .bin .eql (.t kk53) (.c (.str 15 602961597814649308796888641318962515))⟩,
  ⟨some kk55, none, none, .pick (.t kk51) (.t kk54) (.c (.bool false))⟩,
  ⟨some kk56, none, none, .mov (.t kk55)⟩,
  ⟨some kk57, some (kk56, true), none, .mov (.t kk8)⟩,
  ⟨some kk58, some (kk56, true), none, .bin .eql (.t kk57) (.c (.int .i64 (.ofNat 7)))⟩,
  ⟨some kk59, none, none, .pick (.t kk56) (.t kk58) (.c (.bool false))⟩,
  ⟨some kk60, none, none, .mov (.t kk59)⟩,
  ⟨some kk61, some (kk60, true), none, .mov (.t kk9)⟩,
  ⟨some kk62, some (kk60, true), none, .bin .eql (.t kk61) (.c (.int .i64 (.ofNat 5)))⟩,
  ⟨some kk63, none, none, .pick (.t kk60) (.t kk62) (.c (.bool false))⟩,
  ⟨some kk0, none, none, .mov (.t kk63)⟩])
 .ret))))) }
theorem fn5 : fnOf Tryz.prog Tryz.f5 = some i5 := by kernel_rfl
/-- annalist.lexer.Scan -/
noncomputable def i6 : IFn := { nt := 52, ps := [kk0], res := [.tmp kk2, .tmp kk3, .tmp kk4], body :=
 (.seq (.region false [⟨some kk2, none, none, .mov (.c .nilslice)⟩,
  ⟨some kk3, none, none, .mov (.c (.int .i64 (.ofNat 0)))⟩,
  ⟨some kk4, none, none, .mov (.c (.int .i64 (.ofNat 0)))⟩])
 (.seq (.seq (.region false [⟨some kk10, none, none, .mov (.t kk0)⟩,
  ⟨some kk11, none, none, .lenS (.t kk10)⟩,
  ⟨some kk12, none, none, .bin .gtr (.t kk11) (.c (.int .i64 (.ofNat 4000)))⟩])
 (.cond (.t kk12)
  (.seq (.region false [⟨some kk2, none, none, .mov (.c .nilslice)⟩,
   ⟨some kk3, none, none, .mov (.c (.int .i64 (.ofNat 0)))⟩,
   ⟨some kk4, none, none, .mov (.c (.int .i64 (.ofNat 4)))⟩])
  .ret)
  .skip))
 (.seq (.region false [⟨some kk5, none, none, .mov (.c .nilslice)⟩])
 (.seq (.region false [⟨some kk13, none, none, .mov (.t kk0)⟩,
  ⟨some kk14, none, none, .call 11 [(.t kk13), (.c (.int .i64 (.ofNat 0))), (.c (.func 12 []))]⟩,
  ⟨some kk6, none, none, .mov (.t kk14)⟩])
 (.seq (.block 0 (.loop (.seq (.seq (.region false [⟨some kk15, none, none, .mov (.t kk6)⟩,
    ⟨some kk16, none, none, .mov (.t kk0)⟩,
    ⟨some kk17, none, none, .lenS (.t kk16)⟩,
    ⟨some kk18, none, none, .bin .lss (.t kk15) (.t kk17)⟩])
   (.cond (.t kk18)
    .skip
    (.exit 0)))
   (.block 1 (.seq (.region false [⟨some kk20, none, none, .mov (.t kk0)⟩,
     ⟨some kk21, none, none, .mov (.t kk6)⟩,
     ⟨some kk22, none, none, .call 13 [(.t kk20), (.t kk21)]⟩,
     ⟨some kk19, none, none, .mov (.t kk22)⟩,
     ⟨some kk23, none, none, .extr (.t kk19) 0⟩,
     ⟨some kk24, none, none, .extr (.t kk19) 1⟩,
     ⟨some kk25, none, none, .extr (.t kk19) 2⟩,
     ⟨some kk7, none, none, .boxz 35 3 32 [(.int .i64 (.ofNat 0)), (.int .i64 (.ofNat 0)), (.str 0 0)]⟩,
     ⟨none, none, none, .store 3 (.t kk7) (.t kk23)⟩,
     ⟨some kk8, none, none, .mov (.t kk24)⟩,
     ⟨some kk9, none, none, .mov (.t kk25)⟩])
    (.seq (.seq (.region false [⟨some kk26, none, none, .mov (.t kk9)⟩,
     ⟨some kk27, none, none, .bin .neq (.t kk26) (.c (.int .i64 (.ofNat 0)))⟩])
    (.cond (.t kk27)
     (.seq (.region false [⟨some kk28, none, none, .mov (.t kk6)⟩,
      ⟨some kk29, none, none, .mov (.t kk9)⟩,
      ⟨some kk2, none, none, .mov (.c .nilslice)⟩,
      ⟨some kk3, none, none, .mov (.t kk28)⟩,
      ⟨some kk4, none, none, .mov (.t kk29)⟩])
     .ret)
     .skip))
    (.seq (.seq (.region false [⟨some kk30, none, none, .load 3 true (.t kk7)⟩,
     ⟨some kk31, none, none, .call 14 [(.t kk30)]⟩,
     ⟨some kk32, none, none, .un .not (.t kk31)⟩,
     ⟨some kk33, none, none, .mov (.t kk32)⟩,
     ⟨some kk34, some (kk33, false), none, .mov (.t kk5)⟩,
     ⟨some kk35, some (kk33, false), none, .len (.t kk34)⟩,
     ⟨some kk36, some (kk33, false), none, .bin .geq (.t kk35) (.c (.int .i64 (.ofNat 1000)))⟩,
     ⟨some kk37, none, none, .pick (.t kk33) (.c (.bool true)) (.t kk36)⟩])
    (.cond (.t kk37)
     (.seq (.region false [⟨some kk38, none, none, .mov (.t kk6)⟩,
      ⟨some kk2, none, none, .mov (.c .nilslice)⟩,
      ⟨some kk3, none, none, .mov (.t kk38)⟩,
      ⟨some kk4, none, none, .mov (.c (.int .i64 (.ofNat 4)))⟩])
     .ret)
     .skip))
    (.seq (.region false [⟨some kk39, none, none, .mov (.t kk5)⟩,
     ⟨some kk40, none, none, .load 3 true (.t kk7)⟩,
     ⟨some kk41, none, none, .buildSl 35 3 32 1 [(.int .i64 (.ofNat 0)), (.int .i64 (.ofNat 0)), (.str 0 0)] [(0, (.t kk40))]⟩,
     ⟨some kk42, none, none, .app 35 3 32 (.t kk39) (.t kk41)⟩,
     ⟨some kk5, none, none, .mov (.t kk42)⟩])
    (.region false [⟨some kk43, none, none, .mov (.t kk0)⟩,
     ⟨some kk44, none, none, .mov (.t kk8)⟩,
     ⟨some kk45, none, none, .call 11 [(.t kk43), (.t kk44), (.c (.func 12 []))]⟩,
     ⟨some kk6, none, none, .mov (.t kk45)⟩])))))))))
 (.seq (.region false [⟨some kk46, none, none, .mov (.t kk5)⟩,
  ⟨some kk47, none, none, .mov (.t kk0)⟩,
  ⟨some kk48, none, none, .lenS (.t kk47)⟩,
  ⟨some kk49, none, none, .build [(.int .i64 (.ofNat 0)), (.int .i64 (.ofNat 0)), (.str 0 0)] [(0, 1, (.c (.int .i64 (.ofNat 6)))), (1, 1, (.t kk48))]⟩,
  ⟨some kk50, none, none, .buildSl 35 3 32 1 [(.int .i64 (.ofNat 0)), (.int .i64 (.ofNat 0)), (.str 0 0)] [(0, (.t kk49))]⟩,
  ⟨some kk51, none, none, .app 35 3 32 (.t kk46) (.t kk50)⟩,
  ⟨some kk2, none, none, .mov (.t kk51)⟩,
  ⟨some kk3, none, none, .mov (.c (.int .i64 (.ofNat 0)))⟩,
  ⟨some kk4, none, none, .mov (.c (.int .i64 (.ofNat 0)))⟩])
 .ret)))))) }
theorem fn6 : fnOf Tryz.prog Tryz.f6 = some i6 := by kernel_rfl
/-- annalist.parser.selectTokens -/
noncomputable def i7 : IFn := { nt := 24, ps := [kk0], res := [.cell kk2 2 true, .tmp kk3, .tmp kk4], body :=
 (.seq (.region false [⟨some kk2, none, none, .boxz 26 2 48 [.nilslice, .nilslice]⟩,
  ⟨some kk3, none, none, .mov (.c (.int .i64 (.ofNat 0)))⟩,
  ⟨some kk4, none, none, .mov (.c (.int .i64 (.ofNat 0)))⟩])
 (.seq (.region false [⟨some kk9, none, none, .mov (.t kk0)⟩,
  ⟨some kk10, none, none, .build [.nilslice, (.int .i64 (.ofNat 0)), (.int .i64 (.ofNat 0)), (.int .i64 (.ofNat 0)), (.int .i64 (.ofNat 0)), .nilslice] [(0, 1, (.t kk9))]⟩,
  ⟨some kk11, none, none, .box 60 6 80 (.t kk10)⟩,
  ⟨some kk5, none, none, .boxz 58 1 8 [.nilptr]⟩,
  ⟨none, none, none, .store 1 (.t kk5) (.t kk11)⟩])
 (.seq (.region false [⟨some kk6, none, none, .boxz 26 2 48 [.nilslice, .nilslice]⟩])
 (.seq (.seq (.region false [⟨some kk13, none, none, .load 1 false (.t kk5)⟩,
  ⟨some kk14, none, none, .mkfn 16 [(.t kk5), (.t kk6)]⟩,
  ⟨some kk15, none, none, .call 15 [(.t kk13), (.t kk14)]⟩,
  ⟨some kk12, none, none, .mov (.t kk15)⟩,
  ⟨some kk16, none, none, .extr (.t kk12) 0⟩,
  ⟨some kk17, none, none, .extr (.t kk12) 1⟩,
  ⟨some kk7, none, none, .mov (.t kk16)⟩,
  ⟨some kk8, none, none, .mov (.t kk17)⟩])
 (.seq (.region false [⟨some kk18, none, none, .mov (.t kk8)⟩,
  ⟨some kk19, none, none, .bin .neq (.t kk18) (.c (.int .i64 (.ofNat 0)))⟩])
 (.cond (.t kk19)
  (.seq (.region false [⟨some kk20, none, none, .build [.nilslice, .nilslice] []⟩,
   ⟨some kk21, none, none, .mov (.t kk7)⟩,
   ⟨some kk22, none, none, .mov (.t kk8)⟩,
   ⟨none, none, none, .store 2 (.t kk2) (.t kk20)⟩,
   ⟨some kk3, none, none, .mov (.t kk21)⟩,
   ⟨some kk4, none, none, .mov (.t kk22)⟩])
  .ret)
  .skip)))
 (.seq (.region false [⟨some kk23, none, none, .load 2 true (.t kk6)⟩,
  ⟨none, none, none, .store 2 (.t kk2) (.t kk23)⟩,
  ⟨some kk3, none, none, .mov (.c (.int .i64 (.ofNat 0)))⟩,
  ⟨some kk4, none, none, .mov (.c (.int .i64 (.ofNat 0)))⟩])
 .ret))))) }
theorem fn7 : fnOf Tryz.prog Tryz.f7 = some i7 := by kernel_rfl
/-- annalist.parser.Parse -/
noncomputable def i8 : IFn := { nt := 24, ps := [kk0], res := [.cell kk2 21 true, .tmp kk3, .tmp kk4], body :=
 (.seq (.region false [⟨some kk2, none, none, .boxz 48 21 328 [(.int .i64 (.ofNat 0)), (.int .i64 (.ofNat 0)), (.int .i64 (.ofNat 0)), (.int .i64 (.ofNat 0)), .nilslice, .nilslice, (.str 0 0), (.str 0 0), .nilslice, (.int .i64 (.ofNat 0)), (.int .i64 (.ofNat 0)), .nilslice, (.int .i64 (.ofNat 0)), .nilslice, .nilslice, .nilslice, .nilslice, .nilslice, (.int .i64 (.ofNat 0)), (.int .i64 (.ofNat 0)), (.int .i64 (.ofNat 0))]⟩,
  ⟨some kk3, none, none, .mov (.c (.int .i64 (.ofNat 0)))⟩,
  ⟨some kk4, none, none, .mov (.c (.int .i64 (.ofNat 0)))⟩])
 (.seq (.region false [⟨some kk9, none, none, .mov (.t kk0)⟩,
  ⟨some kk10, none, none, .call 6 [(.t kk9)]⟩,
  ⟨some kk8, none, none, .mov (.t kk10)⟩,
  ⟨some kk11, none, none, .extr (.t kk8) 0⟩,
  ⟨some kk12, none, none, .extr (.t kk8) 1⟩,
  ⟨some kk13, none, none, .extr (.t kk8) 2⟩,
  ⟨some kk5, none, none, .mov (.t kk11)⟩,
  ⟨some kk6, none, none, .mov (.t kk12)⟩,
  ⟨some kk7, none, none, .mov (.t kk13)⟩])
 (.seq (.seq (.region false [⟨some kk14, none, none, .mov (.t kk7)⟩,
  ⟨some kk15, none, none, .bin .neq (.t kk14) (.c (.int .i64 (.ofNat 0)))⟩])
 (.cond (.t kk15)
  (.seq (.region false [⟨some kk16, none, none, .build [(.int .i64 (.ofNat 0)), (.int .i64 (.ofNat 0)), (.int .i64 (.ofNat 0)), (.int .i64 (.ofNat 0)), .nilslice, .nilslice, (.str 0 0), (.str 0 0), .nilslice, (.int .i64 (.ofNat 0)), (.int .i64 (.ofNat 0)), .nilslice, (.int .i64 (.ofNat 0)), .nilslice, .nilslice, .nilslice, .nilslice, .nilslice, (.int .i64 (.ofNat 0)), (.int .i64 (.ofNat 0)), (.int .i64 (.ofNat 0))] []⟩,
   ⟨some kk17, none, none, .mov (.t kk6)⟩,
   ⟨some kk18, none, none, .mov (.t kk7)⟩,
   ⟨none, none, none, .store 21 (.t kk2) (.t kk16)⟩,
   ⟨some kk3, none, none, .mov (.t kk17)⟩,
   ⟨some kk4, none, none, .mov (.t kk18)⟩])
  .ret)
  .skip))
 (.seq (.region false [⟨some kk19, none, none, .mov (.t kk5)⟩,
  ⟨some kk20, none, none, .call 18 [(.t kk19)]⟩,
  ⟨some kk21, none, none, .extr (.t kk20) 0⟩,
  ⟨some kk22, none, none, .extr (.t kk20) 1⟩,
  ⟨some kk23, none, none, .extr (.t kk20) 2⟩,
  ⟨none, none, none, .store 21 (.t kk2) (.t kk21)⟩,
  ⟨some kk3, none, none, .mov (.t kk22)⟩,
  ⟨some kk4, none, none, .mov (.t kk23)⟩])
 .ret)))) }
theorem fn8 : fnOf Tryz.prog Tryz.f8 = some i8 := by kernel_rfl
/-- annalist.parser.Format -/
noncomputable def i9 : IFn := { nt := 77, ps := [kk0], res := [.tmp kk2], body :=
 (.seq (.region false [⟨some kk1, none, none, .box 48 21 328 (.t kk0)⟩,
  ⟨some kk2, none, none, .mov (.c (.str 0 0))⟩])
 (.seq (.region false [⟨some kk10, none, none, .offs (.t kk1) 11⟩,
  ⟨some kk11, none, none, .load 1 false (.t kk10)⟩,
  ⟨some kk12, none, none, .len (.t kk11)⟩,
  ⟨some kk13, none, none, .offs (.t kk1) 8⟩,
  ⟨some kk14, none, none, .load 1 false (.t kk13)⟩,
  ⟨some kk15, none, none, .len (.t kk14)⟩,
  ⟨some kk16, none, none, .bin .add (.t kk12) (.t kk15)⟩,
  ⟨some kk17, none, none, .offs (.t kk1) 13⟩,
  ⟨some kk18, none, none, .load 1 false (.t kk17)⟩,
  ⟨some kk19, none, none, .len (.t kk18)⟩,
  ⟨some kk20, none, none, .bin .add (.t kk16) (.t kk19)⟩,
  ⟨some kk21, none, none, .offs (.t kk1) 14⟩,
  ⟨some kk22, none, none, .load 1 false (.t kk21)⟩,
  ⟨some kk23, none, none, .len (.t kk22)⟩,
  ⟨some kk24, none, none, .bin .add (.t kk20) (.t kk23)⟩,
  ⟨some kk3, none, none, .mov (.t kk24)⟩])
 (.seq (.seq (.region false [⟨some kk25, none, none, .offs (.t kk1) 4⟩,
  ⟨some kk26, none, none, .load 2 true (.t kk25)⟩,
  ⟨some kk27, none, none, .call 19 [(.t kk26)]⟩,
  ⟨some kk28, none, none, .mov (.t kk27)⟩,
  ⟨some kk29, some (kk28, false), none, .mov (.t kk3)⟩,
  ⟨some kk30, some (kk28, false), none, .bin .gtr (.t kk29) (.c (.int .i64 (.ofNat 1000)))⟩,
  ⟨some kk31, none, none, .pick (.t kk28) (.c (.bool true)) (.t kk30)⟩])
 (.cond (.t kk31)
  (.seq (.region false [⟨some kk2, none, none, .mov (.c (.str 0 0))⟩])
  .ret)
  .skip))
 (.seq (.region false [⟨some kk32, none, none, .build [.nilslice, (.bool false)] []⟩,
  ⟨some kk33, none, none, .box 68 2 32 (.t kk32)⟩,
  ⟨some kk4, none, none, .mov (.t kk33)⟩])
 (.seq (.seq (.region false [⟨some kk34, none, none, .offs (.t kk1) 0⟩,
  ⟨some kk35, none, none, .load 1 false (.t kk34)⟩])
 (.block 0 (.seq (.region false [⟨some kk40, none, none, .bin .eql (.t kk35) (.c (.int .i64 (.ofNat 2)))⟩,
   ⟨some kk39, none, none, .mov (.t kk40)⟩])
  (.cond (.t kk39)
   (.region false [⟨some kk41, none, none, .mov (.t kk4)⟩,
    ⟨some kk42, none, none, .load 21 true (.t kk1)⟩,
    ⟨some kk43, none, none, .call 20 [(.t kk41), (.t kk42)]⟩])
   (.seq (.region false [⟨some kk45, none, none, .bin .eql (.t kk35) (.c (.int .i64 (.ofNat 4)))⟩,
    ⟨some kk44, none, none, .mov (.t kk45)⟩])
   (.cond (.t kk44)
    (.region false [⟨some kk46, none, none, .mov (.t kk4)⟩,
     ⟨some kk47, none, none, .load 21 true (.t kk1)⟩,
     ⟨some kk48, none, none, .call 21 [(.t kk46), (.t kk47)]⟩])
    (.seq (.region false [⟨some kk50, none, none, .bin .eql (.t kk35) (.c (.int .i64 (.ofNat 5)))⟩,
     ⟨some kk49, none, none, .mov (.t kk50)⟩])
    (.cond (.t kk49)
     (.region false [⟨some kk51, none, none, .mov (.t kk4)⟩,
      ⟨some kk52, none, none, .load 21 true (.t kk1)⟩,
      ⟨some kk53, none, none, .call 22 [(.t kk51), (.t kk52)]⟩])
     (.region false [⟨some kk36, none, none, .mov (.t kk4)⟩,
      ⟨some kk37, none, none, .load 21 true (.t kk1)⟩,
      ⟨some kk38, none, none, .call 23 [(.t kk36), (.t kk37)]⟩])))))))))
 (.seq (.region false [⟨some kk55, none, none, .mov (.t kk4)⟩,
  ⟨some kk56, none, none, .call 24 [(.t kk55)]⟩,
  ⟨some kk54, none, none, .mov (.t kk56)⟩,
  ⟨some kk57, none, none, .extr (.t kk54) 0⟩,
  ⟨some kk58, none, none, .extr (.t kk54) 1⟩,
  ⟨some kk5, none, none, .mov (.t kk57)⟩,
  ⟨some kk6, none, none, .mov (.t kk58)⟩])
 (.seq (.seq (.region false [⟨some kk59, none, none, .mov (.t kk6)⟩,
  ⟨some kk60, none, none, .un .not (.t kk59)⟩])
 (.cond (.t kk60)
  (.seq (.region false [⟨some kk2, none, none, .mov (.c (.str 0 0))⟩])
  .ret)
  .skip))
 (.seq (.seq (.region false [⟨some kk62, none, none, .mov (.t kk5)⟩,
  ⟨some kk63, none, none, .call 18 [(.t kk62)]⟩,
  ⟨some kk61, none, none, .mov (.t kk63)⟩,
  ⟨some kk64, none, none, .extr (.t kk61) 0⟩,
  ⟨some kk65, none, none, .extr (.t kk61) 1⟩,
  ⟨some kk66, none, none, .extr (.t kk61) 2⟩,
  ⟨some kk7, none, none, .boxz 48 21 328 [(.int .i64 (.ofNat 0)), (.int .i64 (.ofNat 0)), (.int .i64 (.ofNat 0)), (.int .i64 (.ofNat 0)), .nilslice, .nilslice, (.str 0 0), (.str 0 0), .nilslice, (.int .i64 (.ofNat 0)), (.int .i64 (.ofNat 0)), .nilslice, (.int .i64 (.ofNat 0)), .nilslice, .nilslice, .nilslice, .nilslice, .nilslice, (.int .i64 (.ofNat 0)), (.int .i64 (.ofNat 0)), (.int .i64 (.ofNat 0))]⟩,
  ⟨none, none, none, .store 21 (.t kk7) (.t kk64)⟩,
  ⟨some kk8, none, none, .mov (.t kk65)⟩,
  ⟨some kk9, none, none, .mov (.t kk66)⟩])
 (.seq (.region false [⟨some kk67, none, none, .mov (.t kk9)⟩,
  ⟨some kk68, none, none, .bin .neq (.t kk67) (.c (.int .i64 (.ofNat 0)))⟩,
  ⟨some kk69, none, none, .mov (.t kk68)⟩,
  ⟨some kk70, some (kk69, false), none, .load 21 true (.t kk7)⟩,
  ⟨some kk71, some (kk69, false), none, .load 21 true (.t kk1)⟩,
  ⟨some kk72, some (kk69, false), none, .call 25 [(.t kk70), (.t kk71)]⟩,
  ⟨some kk73, some (kk69, false), none, .un .not (.t kk72)⟩,
  ⟨some kk74, none, none, .pick (.t kk69) (.c (.bool true)) (.t kk73)⟩])
 (.cond (.t kk74)
  (.seq (.region false [⟨some kk2, none, none, .mov (.c (.str 0 0))⟩])
  .ret)
  .skip)))
 (.seq (.region false [⟨some kk75, none, none, .mov (.t kk5)⟩,
  ⟨some kk76, none, none, .call 26 [(.t kk75)]⟩,
  ⟨some kk2, none, none, .mov (.t kk76)⟩])
 .ret))))))))) }
theorem fn9 : fnOf Tryz.prog Tryz.f9 = some i9 := by kernel_rfl
/-- annalist.parser.FormatSelect -/
noncomputable def i10 : IFn := { nt := 39, ps := [kk0], res := [.tmp kk2], body :=
 (.seq (.region false [⟨some kk1, none, none, .box 26 2 48 (.t kk0)⟩,
  ⟨some kk2, none, none, .mov (.c (.str 0 0))⟩])
 (.seq (.seq (.region false [⟨some kk9, none, none, .load 2 true (.t kk1)⟩,
  ⟨some kk10, none, none, .call 19 [(.t kk9)]⟩])
 (.cond (.t kk10)
  (.seq (.region false [⟨some kk2, none, none, .mov (.c (.str 0 0))⟩])
  .ret)
  .skip))
 (.seq (.region false [⟨some kk11, none, none, .build [.nilslice, (.bool false)] []⟩,
  ⟨some kk12, none, none, .box 68 2 32 (.t kk11)⟩,
  ⟨some kk3, none, none, .mov (.t kk12)⟩])
 (.seq (.region false [⟨some kk13, none, none, .mov (.t kk3)⟩,
  ⟨some kk14, none, none, .load 2 true (.t kk1)⟩,
  ⟨some kk15, none, none, .call 27 [(.t kk13), (.t kk14)]⟩])
 (.seq (.region false [⟨some kk17, none, none, .mov (.t kk3)⟩,
  ⟨some kk18, none, none, .call 24 [(.t kk17)]⟩,
  ⟨some kk16, none, none, .mov (.t kk18)⟩,
  ⟨some kk19, none, none, .extr (.t kk16) 0⟩,
  ⟨some kk20, none, none, .extr (.t kk16) 1⟩,
  ⟨some kk4, none, none, .mov (.t kk19)⟩,
  ⟨some kk5, none, none, .mov (.t kk20)⟩])
 (.seq (.seq (.region false [⟨some kk21, none, none, .mov (.t kk5)⟩,
  ⟨some kk22, none, none, .un .not (.t kk21)⟩])
 (.cond (.t kk22)
  (.seq (.region false [⟨some kk2, none, none, .mov (.c (.str 0 0))⟩])
  .ret)
  .skip))
 (.seq (.seq (.region false [⟨some kk24, none, none, .mov (.t kk4)⟩,
  ⟨some kk25, none, none, .call 7 [(.t kk24)]⟩,
  ⟨some kk23, none, none, .mov (.t kk25)⟩,
  ⟨some kk26, none, none, .extr (.t kk23) 0⟩,
  ⟨some kk27, none, none, .extr (.t kk23) 1⟩,
  ⟨some kk28, none, none, .extr (.t kk23) 2⟩,
  ⟨some kk6, none, none, .boxz 26 2 48 [.nilslice, .nilslice]⟩,
  ⟨none, none, none, .store 2 (.t kk6) (.t kk26)⟩,
  ⟨some kk7, none, none, .mov (.t kk27)⟩,
  ⟨some kk8, none, none, .mov (.t kk28)⟩])
 (.seq (.region false [⟨some kk29, none, none, .mov (.t kk8)⟩,
  ⟨some kk30, none, none, .bin .neq (.t kk29) (.c (.int .i64 (.ofNat 0)))⟩,
  ⟨some kk31, none, none, .mov (.t kk30)⟩,
  ⟨some kk32, some (kk31, false), none, .load 2 true (.t kk6)⟩,
  ⟨some kk33, some (kk31, false), none, .load 2 true (.t kk1)⟩,
  ⟨some kk34, some (kk31, false), none, .call 28 [(.t kk32), (.t kk33)]⟩,
  ⟨some kk35, some (kk31, false), none, .un .not (.t kk34)⟩,
  ⟨some kk36, none, none, .pick (.t kk31) (.c (.bool true)) (.t kk35)⟩])
 (.cond (.t kk36)
  (.seq (.region false [⟨some kk2, none, none, .mov (.c (.str 0 0))⟩])
  .ret)
  .skip)))
 (.seq (.region false [⟨some kk37, none, none, .mov (.t kk4)⟩,
  ⟨some kk38, none, none, .call 26 [(.t kk37)]⟩,
  ⟨some kk2, none, none, .mov (.t kk38)⟩])
 .ret)))))))) }
theorem fn10 : fnOf Tryz.prog Tryz.f10 = some i10 := by kernel_rfl
/-- annalist.lexer.run -/
noncomputable def i11 : IFn := { nt := 21, ps := [kk0, kk1, kk2], res := [.tmp kk6], body :=
 (.seq (.region false [⟨some kk6, none, none, .mov (.c (.int .i64 (.ofNat 0)))⟩])
 (.seq (.block 0 (.loop (.seq (.seq (.region false [⟨some kk7, none, none, .mov (.t kk1)⟩,
    ⟨some kk8, none, none, .mov (.t kk0)⟩,
    ⟨some kk9, none, none, .lenS (.t kk8)⟩,
    ⟨some kk10, none, none, .bin .lss (.t kk7) (.t kk9)⟩,
    ⟨some kk11, none, none, .mov (.t kk10)⟩,
    ⟨some kk12, some (kk11, true), none, .mov (.t kk2)⟩,
    ⟨some kk13, some (kk11, true), none, .mov (.t kk0)⟩,
    ⟨some kk14, some (kk11, true), none, .mov (.t kk1)⟩,
    ⟨some kk15, some (kk11, true), none, .idxStr (.t kk13) (.t kk14)⟩,
    ⟨some kk16, some (kk11, true), none, .callv (.t kk12) [(.t kk15)]⟩,
    ⟨some kk17, none, none, .pick (.t kk11) (.t kk16) (.c (.bool false))⟩])
   (.cond (.t kk17)
    .skip
    (.exit 0)))
   (.block 1 (.region false [⟨some kk18, none, none, .mov (.t kk1)⟩,
     ⟨some kk19, none, none, .bin .add (.t kk18) (.c (.int .i64 (.ofNat 1)))⟩,
     ⟨some kk1, none, none, .mov (.t kk19)⟩])))))
 (.seq (.region false [⟨some kk20, none, none, .mov (.t kk1)⟩,
  ⟨some kk6, none, none, .mov (.t kk20)⟩])
 .ret))) }
theorem fn11 : fnOf Tryz.prog Tryz.f11 = some i11 := by kernel_rfl
/-- annalist.lexer.space -/
noncomputable def i12 : IFn := { nt := 17, ps := [kk0], res := [.tmp kk2], body :=
 (.seq (.region false [⟨some kk2, none, none, .mov (.c (.bool false))⟩])
 (.seq (.region false [⟨some kk3, none, none, .mov (.t kk0)⟩,
  ⟨some kk4, none, none, .bin .eql (.t kk3) (.c (.int .u8 (.ofNat 32)))⟩,
  ⟨some kk5, none, none, .mov (.t kk4)⟩,
  ⟨some kk6, some (kk5, false), none, .mov (.t kk0)⟩,
  ⟨some kk7, some (kk5, false), none, .bin .eql (.t kk6) (.c (.int .u8 (.ofNat 9)))⟩,
  ⟨some kk8, none, none, .pick (.t kk5) (.c (.bool true)) (.t kk7)⟩,
  ⟨some kk9, none, none, .mov (.t kk8)⟩,
  ⟨some kk10, some (kk9, false), none, .mov (.t kk0)⟩,
  ⟨some kk11, some (kk9, false), none, .bin .eql (.t kk10) (.c (.int .u8 (.ofNat 10)))⟩,
  ⟨some kk12, none, none, .pick (.t kk9) (.c (.bool true)) (.t kk11)⟩,
  ⟨some kk13, none, none, .mov (.t kk12)⟩,
  ⟨some kk14, some (kk13, false), none, .mov (.t kk0)⟩,
  ⟨some kk15, some (kk13, false), none, .bin .eql (.t kk14) (.c (.int .u8 (.ofNat 13)))⟩,
  ⟨some kk16, none, none, .pick (.t kk13) (.c (.bool true)) (.t kk15)⟩,
  ⟨some kk2, none, none, .mov (.t kk16)⟩])
 .ret)) }
theorem fn12 : fnOf Tryz.prog Tryz.f12 = some i12 := by kernel_rfl
/-- annalist.lexer.next -/
noncomputable def i13 : IFn := { nt := 67, ps := [kk0, kk1], res := [.cell kk4 3 true, .tmp kk5, .tmp kk6], body :=
 (.seq (.region false [⟨some kk4, none, none, .boxz 35 3 32 [(.int .i64 (.ofNat 0)), (.int .i64 (.ofNat 0)), (.str 0 0)]⟩,
  ⟨some kk5, none, none, .mov (.c (.int .i64 (.ofNat 0)))⟩,
  ⟨some kk6, none, none, .mov (.c (.int .i64 (.ofNat 0)))⟩])
 (.seq (.region false [⟨some kk11, none, none, .mov (.t kk0)⟩,
  ⟨some kk12, none, none, .mov (.t kk1)⟩,
  ⟨some kk13, none, none, .idxStr (.t kk11) (.t kk12)⟩,
  ⟨some kk7, none, none, .mov (.t kk13)⟩])
 (.seq (.region false [⟨some kk14, none, none, .mov (.t kk1)⟩,
  ⟨some kk15, none, none, .build [(.int .i64 (.ofNat 0)), (.int .i64 (.ofNat 0)), (.str 0 0)] [(1, 1, (.t kk14))]⟩,
  ⟨some kk8, none, none, .boxz 35 3 32 [(.int .i64 (.ofNat 0)), (.int .i64 (.ofNat 0)), (.str 0 0)]⟩,
  ⟨none, none, none, .store 3 (.t kk8) (.t kk15)⟩])
 (.seq (.region false [⟨some kk16, none, none, .mov (.t kk1)⟩,
  ⟨some kk17, none, none, .bin .add (.t kk16) (.c (.int .i64 (.ofNat 1)))⟩,
  ⟨some kk9, none, none, .mov (.t kk17)⟩,
  ⟨some kk10, none, none, .mov (.c (.int .i64 (.ofNat 0)))⟩])
 (.seq (.block 0 (.seq (.region false [⟨some kk20, none, none, .mov (.t kk7)⟩,
   ⟨some kk21, none, none, .call 29 [(.t kk20)]⟩,
   ⟨some kk19, none, none, .mov (.t kk21)⟩])
  (.cond (.t kk19)
   (.region false [⟨some kk22, none, none, .mov (.t kk0)⟩,
    ⟨some kk23, none, none, .mov (.t kk1)⟩,
    ⟨some kk24, none, none, .call 11 [(.t kk22), (.t kk23), (.c (.func 29 []))]⟩,
    ⟨some kk25, none, none, .offs (.t kk8) 0⟩,
    ⟨none, none, none, .store 1 (.t kk25) (.c (.int .i64 (.ofNat 1)))⟩,
    ⟨some kk9, none, none, .mov (.t kk24)⟩])
   (.seq (.region false [⟨some kk27, none, none, .mov (.t kk7)⟩,
    ⟨some kk28, none, none, .call 30 [(.t kk27)]⟩,
    ⟨some kk26, none, none, .mov (.t kk28)⟩])
   (.cond (.t kk26)
    (.region false [⟨some kk29, none, none, .mov (.t kk0)⟩,
     ⟨some kk30, none, none, .mov (.t kk1)⟩,
     ⟨some kk31, none, none, .call 11 [(.t kk29), (.t kk30), (.c (.func 31 []))]⟩,
     ⟨some kk32, none, none, .offs (.t kk8) 0⟩,
     ⟨none, none, none, .store 1 (.t kk32) (.c (.int .i64 (.ofNat 2)))⟩,
     ⟨some kk9, none, none, .mov (.t kk31)⟩])
    (.seq (.region false [⟨some kk34, none, none, .mov (.t kk7)⟩,
     ⟨some kk35, none, none, .call 32 [(.t kk34)]⟩,
     ⟨some kk33, none, none, .mov (.t kk35)⟩])
    (.cond (.t kk33)
     (.region false [⟨some kk36, none, none, .mov (.t kk0)⟩,
      ⟨some kk37, none, none, .mov (.t kk1)⟩,
      ⟨some kk38, none, none, .call 11 [(.t kk36), (.t kk37), (.c (.func 32 []))]⟩,
      ⟨some kk39, none, none, .offs (.t kk8) 0⟩,
      ⟨none, none, none, .store 1 (.t kk39) (.c (.int .i64 (.ofNat 3)))⟩,
      ⟨some kk9, none, none, .mov (.t kk38)⟩])
     (.seq (.region false [⟨some kk41, none, none, .mov (.t kk7)⟩,
      ⟨some kk42, none, none, .bin .eql (.t kk41) (.c (.int .u8 (.ofNat 39)))⟩,
      ⟨some kk40, none, none, .mov (.t kk42)⟩])
     (.cond (.t kk40)
      (.seq (.region false [⟨some kk43, none, none, .offs (.t kk8) 0⟩,
       ⟨none, none, none, .store 1 (.t kk43) (.c (.int .i64 (.ofNat 4)))⟩])
      (.seq (.region false [⟨some kk45, none, none, .mov (.t kk0)⟩,
       ⟨some kk46, none, none, .mov (.t kk1)⟩,
       ⟨some kk47, none, none, .call 33 [(.t kk45), (.t kk46)]⟩,
       ⟨some kk44, none, none, .mov (.t kk47)⟩,
       ⟨some kk48, none, none, .extr (.t kk44) 0⟩,
       ⟨some kk49, none, none, .extr (.t kk44) 1⟩,
       ⟨some kk50, none, none, .extr (.t kk44) 2⟩,
       ⟨some kk51, none, none, .offs (.t kk8) 2⟩,
       ⟨none, none, none, .store 1 (.t kk51) (.t kk48)⟩,
       ⟨some kk9, none, none, .mov (.t kk49)⟩,
       ⟨some kk10, none, none, .mov (.t kk50)⟩])
      (.seq (.region false [⟨some kk52, none, none, .load 3 true (.t kk8)⟩,
       ⟨some kk53, none, none, .mov (.t kk9)⟩,
       ⟨some kk54, none, none, .mov (.t kk10)⟩,
       ⟨none, none, none, .store 3 (.t kk4) (.t kk52)⟩,
       ⟨some kk5, none, none, .mov (.t kk53)⟩,
       ⟨some kk6, none, none, .mov (.t kk54)⟩])
      .ret)))
      (.seq (.region false [⟨some kk56, none, none, .mov (.t kk7)⟩,
       ⟨some kk57, none, none, .call 34 [(.c (.str 11 71620521292072532312860968)), (.t kk56)]⟩,
       ⟨some kk58, none, none, .bin .geq (.t kk57) (.c (.int .i64 (.ofNat 0)))⟩,
       ⟨some kk55, none, none, .mov (.t kk58)⟩])
      (.cond (.t kk55)
       (.region false [⟨some kk59, none, none, .offs (.t kk8) 0⟩,
        ⟨none, none, none, .store 1 (.t kk59) (.c (.int .i64 (.ofNat 5)))⟩])
       (.seq (.region false [⟨some kk18, none, none, .build [(.int .i64 (.ofNat 0)), (.int .i64 (.ofNat 0)), (.str 0 0)] []⟩,
        ⟨none, none, none, .store 3 (.t kk4) (.t kk18)⟩,
        ⟨some kk5, none, none, .mov (.c (.int .i64 (.ofNat 0)))⟩,
        ⟨some kk6, none, none, .mov (.c (.int .i64 (.ofNat 5)))⟩])
       .ret))))))))))))
 (.seq (.region false [⟨some kk60, none, none, .mov (.t kk0)⟩,
  ⟨some kk61, none, none, .mov (.t kk1)⟩,
  ⟨some kk62, none, none, .mov (.t kk9)⟩,
  ⟨some kk63, none, none, .slStr (.t kk60) (some (.t kk61)) (some (.t kk62))⟩,
  ⟨some kk64, none, none, .offs (.t kk8) 2⟩,
  ⟨none, none, none, .store 1 (.t kk64) (.t kk63)⟩])
 (.seq (.region false [⟨some kk65, none, none, .load 3 true (.t kk8)⟩,
  ⟨some kk66, none, none, .mov (.t kk9)⟩,
  ⟨none, none, none, .store 3 (.t kk4) (.t kk65)⟩,
  ⟨some kk5, none, none, .mov (.t kk66)⟩,
  ⟨some kk6, none, none, .mov (.c (.int .i64 (.ofNat 0)))⟩])
 .ret))))))) }
theorem fn13 : fnOf Tryz.prog Tryz.f13 = some i13 := by kernel_rfl
/-- annalist.lexer.short -/
noncomputable def i14 : IFn := { nt := 21, ps := [kk0], res := [.tmp kk2], body :=
 (.seq (.region false [⟨some kk1, none, none, .box 35 3 32 (.t kk0)⟩,
  ⟨some kk2, none, none, .mov (.c (.bool false))⟩])
 (.seq (.seq (.region false [⟨some kk3, none, none, .offs (.t kk1) 0⟩,
  ⟨some kk4, none, none, .load 1 false (.t kk3)⟩])
 (.block 0 (.seq (.region false [⟨some kk6, none, none, .bin .eql (.t kk4) (.c (.int .i64 (.ofNat 3)))⟩,
   ⟨some kk5, none, none, .mov (.t kk6)⟩])
  (.cond (.t kk5)
   (.seq (.region false [⟨some kk7, none, none, .offs (.t kk1) 2⟩,
    ⟨some kk8, none, none, .load 1 false (.t kk7)⟩,
    ⟨some kk9, none, none, .lenS (.t kk8)⟩,
    ⟨some kk10, none, none, .bin .leq (.t kk9) (.c (.int .i64 (.ofNat 19)))⟩,
    ⟨some kk2, none, none, .mov (.t kk10)⟩])
   .ret)
   (.seq (.region false [⟨some kk12, none, none, .bin .eql (.t kk4) (.c (.int .i64 (.ofNat 4)))⟩,
    ⟨some kk11, none, none, .mov (.t kk12)⟩])
   (.cond (.t kk11)
    (.seq (.region false [⟨some kk13, none, none, .offs (.t kk1) 2⟩,
     ⟨some kk14, none, none, .load 1 false (.t kk13)⟩,
     ⟨some kk15, none, none, .lenS (.t kk14)⟩,
     ⟨some kk16, none, none, .bin .leq (.t kk15) (.c (.int .i64 (.ofNat 200)))⟩,
     ⟨some kk2, none, none, .mov (.t kk16)⟩])
    .ret)
    .skip))))))
 (.seq (.region false [⟨some kk17, none, none, .offs (.t kk1) 2⟩,
  ⟨some kk18, none, none, .load 1 false (.t kk17)⟩,
  ⟨some kk19, none, none, .lenS (.t kk18)⟩,
  ⟨some kk20, none, none, .bin .leq (.t kk19) (.c (.int .i64 (.ofNat 20)))⟩,
  ⟨some kk2, none, none, .mov (.t kk20)⟩])
 .ret))) }
theorem fn14 : fnOf Tryz.prog Tryz.f14 = some i14 := by kernel_rfl
/-- (*annalist.parser.parser).whole -/
noncomputable def i15 : IFn := { nt := 29, ps := [kk0, kk1], res := [.tmp kk4, .tmp kk5], body :=
 (.seq (.region false [⟨some kk4, none, none, .mov (.c (.int .i64 (.ofNat 0)))⟩,
  ⟨some kk5, none, none, .mov (.c (.int .i64 (.ofNat 0)))⟩])
 (.seq (.region false [⟨some kk6, none, none, .mov (.t kk1)⟩,
  ⟨some kk7, none, none, .callv (.t kk6) []⟩])
 (.seq (.seq (.region false [⟨some kk8, none, none, .mov (.t kk0)⟩,
  ⟨some kk9, none, none, .nilck (.t kk8)⟩,
  ⟨some kk10, none, none, .offs (.t kk9) 3⟩,
  ⟨some kk11, none, none, .load 1 false (.t kk10)⟩,
  ⟨some kk12, none, none, .bin .eql (.t kk11) (.c (.int .i64 (.ofNat 0)))⟩,
  ⟨some kk13, none, none, .mov (.t kk12)⟩,
  ⟨some kk14, some (kk13, true), none, .mov (.t kk0)⟩,
  ⟨some kk15, some (kk13, true), none, .call 35 [(.t kk14)]⟩,
  ⟨some kk16, some (kk13, true), none, .sub (.t kk15) 0 1 false⟩,
  ⟨some kk17, some (kk13, true), none, .bin .neq (.t kk16) (.c (.int .i64 (.ofNat 6)))⟩,
  ⟨some kk18, none, none, .pick (.t kk13) (.t kk17) (.c (.bool false))⟩])
 (.cond (.t kk18)
  (.region false [⟨some kk19, none, none, .mov (.t kk0)⟩,
   ⟨some kk20, none, none, .call 36 [(.t kk19), (.c (.int .i64 (.ofNat 5)))]⟩])
  .skip))
 (.seq (.region true [⟨some kk21, none, none, .mov (.t kk0)⟩,
  ⟨some kk22, none, none, .nilck (.t kk21)⟩,
  ⟨some kk23, none, none, .offs (.t kk22) 2⟩,
  ⟨some kk24, none, some [], .load 1 false (.t kk23)⟩,
  ⟨some kk25, none, none, .mov (.t kk0)⟩,
  ⟨some kk26, none, none, .nilck (.t kk25)⟩,
  ⟨some kk27, none, none, .offs (.t kk26) 3⟩,
  ⟨some kk28, none, some [0], .load 1 false (.t kk27)⟩,
  ⟨some kk4, none, none, .mov (.t kk24)⟩,
  ⟨some kk5, none, none, .mov (.t kk28)⟩])
 .ret)))) }
theorem fn15 : fnOf Tryz.prog Tryz.f15 = some i15 := by kernel_rfl
/-- annalist.parser.selectTokens$1 -/
noncomputable def i16 : IFn := { nt := 4, ps := [kk0, kk1], res := [], body :=
 (.region false [⟨some kk2, none, none, .load 1 false (.t kk0)⟩,
  ⟨some kk3, none, none, .call 17 [(.t kk2), (.c (.bool false))]⟩,
  ⟨none, none, none, .store 2 (.t kk1) (.t kk3)⟩]) }
theorem fn16 : fnOf Tryz.prog Tryz.f16 = some i16 := by kernel_rfl
/-- (*annalist.parser.parser).selection -/
noncomputable def i17 : IFn := { nt := 47, ps := [kk0, kk1], res := [.cell kk4 2 true], body :=
 (.seq (.region false [⟨some kk4, none, none, .boxz 26 2 48 [.nilslice, .nilslice]⟩])
 (.seq (.region false [⟨some kk6, none, none, .mov (.t kk0)⟩,
  ⟨some kk7, none, none, .mov (.t kk1)⟩,
  ⟨some kk8, none, none, .call 37 [(.t kk6), (.t kk7)]⟩,
  ⟨some kk9, none, none, .buildSl 84 7 120 1 [(.bool false), .nilslice, .nilslice, .nilslice, (.int .i64 (.ofNat 0)), (.bool false), .nilslice] [(0, (.t kk8))]⟩,
  ⟨some kk10, none, none, .build [.nilslice, .nilslice] [(0, 1, (.t kk9))]⟩,
  ⟨some kk5, none, none, .boxz 26 2 48 [.nilslice, .nilslice]⟩,
  ⟨none, none, none, .store 2 (.t kk5) (.t kk10)⟩])
 (.block 0 (.loop (.block 1 (.seq (.block 2 (.seq (.region false [⟨some kk13, none, none, .mov (.t kk0)⟩,
      ⟨some kk14, none, none, .call 38 [(.t kk13), (.c (.str 5 336337653333))]⟩,
      ⟨some kk12, none, none, .mov (.t kk14)⟩])
     (.cond (.t kk12)
      (.region false [⟨some kk15, none, none, .offs (.t kk5) 1⟩,
       ⟨some kk16, none, none, .load 1 false (.t kk15)⟩,
       ⟨some kk17, none, none, .buildSl 3 1 8 1 [(.int .i64 (.ofNat 0))] [(0, (.c (.int .i64 (.ofNat 6))))]⟩,
       ⟨some kk18, none, none, .app 3 1 8 (.t kk16) (.t kk17)⟩,
       ⟨some kk19, none, none, .offs (.t kk5) 1⟩,
       ⟨none, none, none, .store 1 (.t kk19) (.t kk18)⟩])
      (.seq (.region false [⟨some kk21, none, none, .mov (.t kk0)⟩,
       ⟨some kk22, none, none, .call 38 [(.t kk21), (.c (.str 6 92703736158277))]⟩,
       ⟨some kk20, none, none, .mov (.t kk22)⟩])
      (.cond (.t kk20)
       (.region false [⟨some kk23, none, none, .offs (.t kk5) 1⟩,
        ⟨some kk24, none, none, .load 1 false (.t kk23)⟩,
        ⟨some kk25, none, none, .buildSl 3 1 8 1 [(.int .i64 (.ofNat 0))] [(0, (.c (.int .i64 (.ofNat 7))))]⟩,
        ⟨some kk26, none, none, .app 3 1 8 (.t kk24) (.t kk25)⟩,
        ⟨some kk27, none, none, .offs (.t kk5) 1⟩,
        ⟨none, none, none, .store 1 (.t kk27) (.t kk26)⟩])
       (.seq (.region false [⟨some kk29, none, none, .mov (.t kk0)⟩,
        ⟨some kk30, none, none, .call 38 [(.t kk29), (.c (.str 9 1554373874378352119369))]⟩,
        ⟨some kk28, none, none, .mov (.t kk30)⟩])
       (.cond (.t kk28)
        (.region false [⟨some kk31, none, none, .offs (.t kk5) 1⟩,
         ⟨some kk32, none, none, .load 1 false (.t kk31)⟩,
         ⟨some kk33, none, none, .buildSl 3 1 8 1 [(.int .i64 (.ofNat 0))] [(0, (.c (.int .i64 (.ofNat 8))))]⟩,
         ⟨some kk34, none, none, .app 3 1 8 (.t kk32) (.t kk33)⟩,
         ⟨some kk35, none, none, .offs (.t kk5) 1⟩,
         ⟨none, none, none, .store 1 (.t kk35) (.t kk34)⟩])
        (.seq (.region false [⟨some kk11, none, none, .load 2 true (.t kk5)⟩,
         ⟨none, none, none, .store 2 (.t kk4) (.t kk11)⟩])
        .ret))))))))
    (.seq (.region false [⟨some kk36, none, none, .mov (.t kk0)⟩,
     ⟨some kk37, none, none, .buildSl 9 1 16 1 [(.str 0 0)] [(0, (.c (.str 3 5000257)))]⟩,
     ⟨some kk38, none, none, .call 39 [(.t kk36), (.t kk37)]⟩])
    (.region true [⟨some kk39, none, none, .offs (.t kk5) 0⟩,
     ⟨some kk40, none, some [], .load 1 false (.t kk39)⟩,
     ⟨some kk41, none, none, .mov (.t kk0)⟩,
     ⟨some kk42, none, none, .mov (.t kk1)⟩,
     ⟨some kk43, none, some [0], .call 37 [(.t kk41), (.t kk42)]⟩,
     ⟨some kk44, none, some [1], .buildSl 84 7 120 1 [(.bool false), .nilslice, .nilslice, .nilslice, (.int .i64 (.ofNat 0)), (.bool false), .nilslice] [(0, (.t kk43))]⟩,
     ⟨some kk45, none, some [], .app 84 7 120 (.t kk40) (.t kk44)⟩,
     ⟨some kk46, none, none, .offs (.t kk5) 0⟩,
     ⟨none, none, some [], .store 1 (.t kk46) (.t kk45)⟩])))))))) }
theorem fn17 : fnOf Tryz.prog Tryz.f17 = some i17 := by kernel_rfl
/-- annalist.parser.parseTokens -/
noncomputable def i18 : IFn := { nt := 24, ps := [kk0], res := [.cell kk2 21 true, .tmp kk3, .tmp kk4], body :=
 (.seq (.region false [⟨some kk2, none, none, .boxz 48 21 328 [(.int .i64 (.ofNat 0)), (.int .i64 (.ofNat 0)), (.int .i64 (.ofNat 0)), (.int .i64 (.ofNat 0)), .nilslice, .nilslice, (.str 0 0), (.str 0 0), .nilslice, (.int .i64 (.ofNat 0)), (.int .i64 (.ofNat 0)), .nilslice, (.int .i64 (.ofNat 0)), .nilslice, .nilslice, .nilslice, .nilslice, .nilslice, (.int .i64 (.ofNat 0)), (.int .i64 (.ofNat 0)), (.int .i64 (.ofNat 0))]⟩,
  ⟨some kk3, none, none, .mov (.c (.int .i64 (.ofNat 0)))⟩,
  ⟨some kk4, none, none, .mov (.c (.int .i64 (.ofNat 0)))⟩])
 (.seq (.region false [⟨some kk9, none, none, .mov (.t kk0)⟩,
  ⟨some kk10, none, none, .build [.nilslice, (.int .i64 (.ofNat 0)), (.int .i64 (.ofNat 0)), (.int .i64 (.ofNat 0)), (.int .i64 (.ofNat 0)), .nilslice] [(0, 1, (.t kk9))]⟩,
  ⟨some kk11, none, none, .box 60 6 80 (.t kk10)⟩,
  ⟨some kk5, none, none, .boxz 58 1 8 [.nilptr]⟩,
  ⟨none, none, none, .store 1 (.t kk5) (.t kk11)⟩])
 (.seq (.region false [⟨some kk6, none, none, .boxz 48 21 328 [(.int .i64 (.ofNat 0)), (.int .i64 (.ofNat 0)), (.int .i64 (.ofNat 0)), (.int .i64 (.ofNat 0)), .nilslice, .nilslice, (.str 0 0), (.str 0 0), .nilslice, (.int .i64 (.ofNat 0)), (.int .i64 (.ofNat 0)), .nilslice, (.int .i64 (.ofNat 0)), .nilslice, .nilslice, .nilslice, .nilslice, .nilslice, (.int .i64 (.ofNat 0)), (.int .i64 (.ofNat 0)), (.int .i64 (.ofNat 0))]⟩])
 (.seq (.seq (.region false [⟨some kk13, none, none, .load 1 false (.t kk5)⟩,
  ⟨some kk14, none, none, .mkfn 40 [(.t kk5), (.t kk6)]⟩,
  ⟨some kk15, none, none, .call 15 [(.t kk13), (.t kk14)]⟩,
  ⟨some kk12, none, none, .mov (.t kk15)⟩,
  ⟨some kk16, none, none, .extr (.t kk12) 0⟩,
  ⟨some kk17, none, none, .extr (.t kk12) 1⟩,
  ⟨some kk7, none, none, .mov (.t kk16)⟩,
  ⟨some kk8, none, none, .mov (.t kk17)⟩])
 (.seq (.region false [⟨some kk18, none, none, .mov (.t kk8)⟩,
  ⟨some kk19, none, none, .bin .neq (.t kk18) (.c (.int .i64 (.ofNat 0)))⟩])
 (.cond (.t kk19)
  (.seq (.region false [⟨some kk20, none, none, .build [(.int .i64 (.ofNat 0)), (.int .i64 (.ofNat 0)), (.int .i64 (.ofNat 0)), (.int .i64 (.ofNat 0)), .nilslice, .nilslice, (.str 0 0), (.str 0 0), .nilslice, (.int .i64 (.ofNat 0)), (.int .i64 (.ofNat 0)), .nilslice, (.int .i64 (.ofNat 0)), .nilslice, .nilslice, .nilslice, .nilslice, .nilslice, (.int .i64 (.ofNat 0)), (.int .i64 (.ofNat 0)), (.int .i64 (.ofNat 0))] []⟩,
   ⟨some kk21, none, none, .mov (.t kk7)⟩,
   ⟨some kk22, none, none, .mov (.t kk8)⟩,
   ⟨none, none, none, .store 21 (.t kk2) (.t kk20)⟩,
   ⟨some kk3, none, none, .mov (.t kk21)⟩,
   ⟨some kk4, none, none, .mov (.t kk22)⟩])
  .ret)
  .skip)))
 (.seq (.region false [⟨some kk23, none, none, .load 21 true (.t kk6)⟩,
  ⟨none, none, none, .store 21 (.t kk2) (.t kk23)⟩,
  ⟨some kk3, none, none, .mov (.c (.int .i64 (.ofNat 0)))⟩,
  ⟨some kk4, none, none, .mov (.c (.int .i64 (.ofNat 0)))⟩])
 .ret))))) }
theorem fn18 : fnOf Tryz.prog Tryz.f18 = some i18 := by kernel_rfl
/-- annalist.parser.large -/
noncomputable def i19 : IFn := { nt := 38, ps := [kk0], res := [.tmp kk2], body :=
 (.seq (.region false [⟨some kk1, none, none, .box 26 2 48 (.t kk0)⟩,
  ⟨some kk2, none, none, .mov (.c (.bool false))⟩])
 (.seq (.region false [⟨some kk6, none, none, .offs (.t kk1) 0⟩,
  ⟨some kk7, none, none, .load 1 false (.t kk6)⟩,
  ⟨some kk8, none, none, .len (.t kk7)⟩,
  ⟨some kk3, none, none, .mov (.t kk8)⟩])
 (.seq (.seq (.region false [⟨some kk9, none, none, .offs (.t kk1) 0⟩,
  ⟨some kk10, none, none, .load 1 false (.t kk9)⟩,
  ⟨some kk11, none, none, .len (.t kk10)⟩,
  ⟨some kk12, none, none, .mov (.c (.int .i64 (.ofNat 0)))⟩])
 (.block 0 (.loop (.seq (.region false [⟨some kk13, none, none, .bin .lss (.t kk12) (.t kk11)⟩])
   (.seq (.cond (.t kk13)
    .skip
    (.exit 0))
   (.seq (.block 1 (.seq (.region false [⟨some kk14, none, none, .idxSl 7 (.t kk10) (.t kk12)⟩,
     ⟨some kk15, none, none, .load 7 true (.t kk14)⟩,
     ⟨some kk5, none, none, .boxz 84 7 120 [(.bool false), .nilslice, .nilslice, .nilslice, (.int .i64 (.ofNat 0)), (.bool false), .nilslice]⟩,
     ⟨none, none, none, .store 7 (.t kk5) (.t kk15)⟩])
    (.seq (.region false [⟨some kk16, none, none, .mov (.t kk3)⟩,
     ⟨some kk17, none, none, .offs (.t kk5) 1⟩,
     ⟨some kk18, none, none, .load 1 false (.t kk17)⟩,
     ⟨some kk19, none, none, .len (.t kk18)⟩,
     ⟨some kk20, none, none, .offs (.t kk5) 2⟩,
     ⟨some kk21, none, none, .load 1 false (.t kk20)⟩,
     ⟨some kk22, none, none, .len (.t kk21)⟩,
     ⟨some kk23, none, none, .bin .add (.t kk19) (.t kk22)⟩,
     ⟨some kk24, none, none, .offs (.t kk5) 3⟩,
     ⟨some kk25, none, none, .load 1 false (.t kk24)⟩,
     ⟨some kk26, none, none, .len (.t kk25)⟩,
     ⟨some kk27, none, none, .bin .add (.t kk23) (.t kk26)⟩,
     ⟨some kk28, none, none, .offs (.t kk5) 6⟩,
     ⟨some kk29, none, none, .load 1 false (.t kk28)⟩,
     ⟨some kk30, none, none, .len (.t kk29)⟩,
     ⟨some kk31, none, none, .bin .add (.t kk27) (.t kk30)⟩,
     ⟨some kk32, none, none, .bin .add (.t kk16) (.t kk31)⟩,
     ⟨some kk3, none, none, .mov (.t kk32)⟩])
    (.seq (.region false [⟨some kk33, none, none, .mov (.t kk3)⟩,
     ⟨some kk34, none, none, .bin .gtr (.t kk33) (.c (.int .i64 (.ofNat 1000)))⟩])
    (.cond (.t kk34)
     (.seq (.region false [⟨some kk2, none, none, .mov (.c (.bool true))⟩])
     .ret)
     .skip)))))
   (.region false [⟨some kk35, none, none, .bin .add (.t kk12) (.c (.int .i64 (.ofNat 1)))⟩,
    ⟨some kk12, none, none, .mov (.t kk35)⟩])))))))
 (.seq (.region false [⟨some kk36, none, none, .mov (.t kk3)⟩,
  ⟨some kk37, none, none, .bin .gtr (.t kk36) (.c (.int .i64 (.ofNat 1000)))⟩,
  ⟨some kk2, none, none, .mov (.t kk37)⟩])
 .ret)))) }
theorem fn19 : fnOf Tryz.prog Tryz.f19 = some i19 := by kernel_rfl
/-- (*annalist.parser.printer).insert -/
noncomputable def i20 : IFn := { nt := 40, ps := [kk0, kk1], res := [], body :=
 (.seq (.region false [⟨some kk3, none, none, .box 48 21 328 (.t kk1)⟩])
 (.seq (.region false [⟨some kk6, none, none, .mov (.t kk0)⟩,
  ⟨some kk7, none, none, .buildSl 9 1 16 2 [(.str 0 0)] [(0, (.c (.str 6 92712327138889))), (1, (.c (.str 4 1330925129)))]⟩,
  ⟨some kk8, none, none, .call 42 [(.t kk6), (.t kk7)]⟩])
 (.seq (.region false [⟨some kk9, none, none, .mov (.t kk0)⟩,
  ⟨some kk10, none, none, .offs (.t kk3) 6⟩,
  ⟨some kk11, none, none, .load 1 false (.t kk10)⟩,
  ⟨some kk12, none, none, .call 43 [(.t kk9), (.t kk11)]⟩])
 (.seq (.region false [⟨some kk13, none, none, .mov (.t kk0)⟩,
  ⟨some kk14, none, none, .buildSl 9 1 16 1 [(.str 0 0)] [(0, (.c (.str 6 91557248909654)))]⟩,
  ⟨some kk15, none, none, .call 42 [(.t kk13), (.t kk14)]⟩])
 (.seq (.region false [⟨some kk16, none, none, .mov (.t kk0)⟩,
  ⟨some kk17, none, none, .call 44 [(.t kk16), (.c (.str 1 40))]⟩])
 (.seq (.seq (.region false [⟨some kk18, none, none, .offs (.t kk3) 8⟩,
  ⟨some kk19, none, none, .load 1 false (.t kk18)⟩,
  ⟨some kk20, none, none, .len (.t kk19)⟩,
  ⟨some kk21, none, none, .mov (.c (.int .i64 (.ofNat 0)))⟩])
 (.block 0 (.loop (.seq (.region false [⟨some kk22, none, none, .bin .lss (.t kk21) (.t kk20)⟩])
   (.seq (.cond (.t kk22)
    .skip
    (.exit 0))
   (.seq (.block 1 (.seq (.region false [⟨some kk23, none, none, .mov (.t kk21)⟩,
     ⟨some kk24, none, none, .idxSl 3 (.t kk19) (.t kk21)⟩,
     ⟨some kk25, none, none, .load 3 true (.t kk24)⟩,
     ⟨some kk5, none, none, .boxz 91 3 32 [(.int .i64 (.ofNat 0)), (.int .i64 (.ofNat 0)), (.str 0 0)]⟩,
     ⟨some kk4, none, none, .mov (.t kk23)⟩,
     ⟨none, none, none, .store 3 (.t kk5) (.t kk25)⟩])
    (.seq (.region false [⟨some kk26, none, none, .mov (.t kk0)⟩,
     ⟨some kk27, none, none, .mov (.t kk4)⟩,
     ⟨some kk28, none, none, .call 45 [(.t kk26), (.t kk27)]⟩])
    (.region false [⟨some kk29, none, none, .mov (.t kk0)⟩,
     ⟨some kk30, none, none, .load 3 true (.t kk5)⟩,
     ⟨some kk31, none, none, .call 46 [(.t kk29), (.t kk30)]⟩]))))
   (.region false [⟨some kk32, none, none, .bin .add (.t kk21) (.c (.int .i64 (.ofNat 1)))⟩,
    ⟨some kk21, none, none, .mov (.t kk32)⟩])))))))
 (.seq (.region false [⟨some kk33, none, none, .mov (.t kk0)⟩,
  ⟨some kk34, none, none, .call 44 [(.t kk33), (.c (.str 1 41))]⟩])
 (.region false [⟨some kk35, none, none, .mov (.t kk0)⟩,
  ⟨some kk36, none, none, .offs (.t kk3) 9⟩,
  ⟨some kk37, none, none, .load 2 true (.t kk36)⟩,
  ⟨some kk38, none, none, .buildSl 9 1 16 1 [(.str 0 0)] [(0, (.c (.str 3 5394246)))]⟩,
  ⟨some kk39, none, none, .call 47 [(.t kk35), (.t kk37), (.t kk38)]⟩])))))))) }
theorem fn20 : fnOf Tryz.prog Tryz.f20 = some i20 := by kernel_rfl
/-- (*annalist.parser.printer).update -/
noncomputable def i21 : IFn := { nt := 53, ps := [kk0, kk1], res := [], body :=
 (.seq (.region false [⟨some kk3, none, none, .box 48 21 328 (.t kk1)⟩])
 (.seq (.region false [⟨some kk7, none, none, .offs (.t kk3) 11⟩,
  ⟨some kk8, none, none, .load 1 false (.t kk7)⟩,
  ⟨some kk9, none, none, .call 48 [(.t kk8)]⟩,
  ⟨some kk4, none, none, .boxz 96 2 48 [.nilslice, .nilslice]⟩,
  ⟨none, none, none, .store 2 (.t kk4) (.t kk9)⟩])
 (.seq (.region false [⟨some kk10, none, none, .mov (.t kk0)⟩,
  ⟨some kk11, none, none, .buildSl 9 1 16 1 [(.str 0 0)] [(0, (.c (.str 6 76228174565461)))]⟩,
  ⟨some kk12, none, none, .call 42 [(.t kk10), (.t kk11)]⟩])
 (.seq (.region false [⟨some kk13, none, none, .mov (.t kk0)⟩,
  ⟨some kk14, none, none, .offs (.t kk3) 6⟩,
  ⟨some kk15, none, none, .load 1 false (.t kk14)⟩,
  ⟨some kk16, none, none, .call 43 [(.t kk13), (.t kk15)]⟩])
 (.seq (.region false [⟨some kk17, none, none, .mov (.t kk0)⟩,
  ⟨some kk18, none, none, .offs (.t kk3) 9⟩,
  ⟨some kk19, none, none, .load 2 true (.t kk18)⟩,
  ⟨some kk20, none, none, .buildSl 9 1 16 3 [(.str 0 0)] [(0, (.c (.str 3 5394246))), (1, (.c (.str 7 22042224549318480))), (2, (.c (.str 2 17999)))]⟩,
  ⟨some kk21, none, none, .call 47 [(.t kk17), (.t kk19), (.t kk20)]⟩])
 (.seq (.region false [⟨some kk22, none, none, .mov (.t kk0)⟩,
  ⟨some kk23, none, none, .buildSl 9 1 16 1 [(.str 0 0)] [(0, (.c (.str 3 5522771)))]⟩,
  ⟨some kk24, none, none, .call 42 [(.t kk22), (.t kk23)]⟩])
 (.seq (.seq (.region false [⟨some kk25, none, none, .offs (.t kk3) 13⟩,
  ⟨some kk26, none, none, .load 1 false (.t kk25)⟩,
  ⟨some kk27, none, none, .len (.t kk26)⟩,
  ⟨some kk28, none, none, .mov (.c (.int .i64 (.ofNat 0)))⟩])
 (.block 0 (.loop (.seq (.region false [⟨some kk29, none, none, .bin .lss (.t kk28) (.t kk27)⟩])
   (.seq (.cond (.t kk29)
    .skip
    (.exit 0))
   (.seq (.block 1 (.seq (.region false [⟨some kk30, none, none, .mov (.t kk28)⟩,
     ⟨some kk31, none, none, .idxSl 2 (.t kk26) (.t kk28)⟩,
     ⟨some kk32, none, none, .load 2 true (.t kk31)⟩,
     ⟨some kk6, none, none, .boxz 99 2 24 [(.str 0 0), (.int .i64 (.ofNat 0))]⟩,
     ⟨some kk5, none, none, .mov (.t kk30)⟩,
     ⟨none, none, none, .store 2 (.t kk6) (.t kk32)⟩])
    (.seq (.region false [⟨some kk33, none, none, .mov (.t kk0)⟩,
     ⟨some kk34, none, none, .mov (.t kk5)⟩,
     ⟨some kk35, none, none, .call 45 [(.t kk33), (.t kk34)]⟩])
    (.seq (.region false [⟨some kk36, none, none, .mov (.t kk0)⟩,
     ⟨some kk37, none, none, .offs (.t kk6) 0⟩,
     ⟨some kk38, none, none, .load 1 false (.t kk37)⟩,
     ⟨some kk39, none, none, .call 43 [(.t kk36), (.t kk38)]⟩])
    (.seq (.region false [⟨some kk40, none, none, .mov (.t kk0)⟩,
     ⟨some kk41, none, none, .call 44 [(.t kk40), (.c (.str 1 61))]⟩])
    (.region false [⟨some kk42, none, none, .mov (.t kk0)⟩,
     ⟨some kk43, none, none, .load 2 true (.t kk4)⟩,
     ⟨some kk44, none, none, .offs (.t kk6) 1⟩,
     ⟨some kk45, none, none, .load 1 false (.t kk44)⟩,
     ⟨some kk46, none, none, .call 49 [(.t kk42), (.t kk43), (.t kk45), (.c (.int .i64 (.ofNat 1)))]⟩]))))))
   (.region false [⟨some kk47, none, none, .bin .add (.t kk28) (.c (.int .i64 (.ofNat 1)))⟩,
    ⟨some kk28, none, none, .mov (.t kk47)⟩])))))))
 (.region false [⟨some kk48, none, none, .mov (.t kk0)⟩,
  ⟨some kk49, none, none, .load 2 true (.t kk4)⟩,
  ⟨some kk50, none, none, .offs (.t kk3) 12⟩,
  ⟨some kk51, none, none, .load 1 false (.t kk50)⟩,
  ⟨some kk52, none, none, .call 50 [(.t kk48), (.t kk49), (.t kk51)]⟩])))))))) }
theorem fn21 : fnOf Tryz.prog Tryz.f21 = some i21 := by kernel_rfl
/-- (*annalist.parser.printer).create -/
noncomputable def i22 : IFn := { nt := 81, ps := [kk0, kk1], res := [], body :=
 (.seq (.region false [⟨some kk3, none, none, .box 48 21 328 (.t kk1)⟩])
 (.seq (.region false [⟨some kk8, none, none, .mov (.t kk0)⟩,
  ⟨some kk9, none, none, .buildSl 9 1 16 2 [(.str 0 0)] [(0, (.c (.str 6 76228174631491))), (1, (.c (.str 5 297632153940)))]⟩,
  ⟨some kk10, none, none, .call 42 [(.t kk8), (.t kk9)]⟩])
 (.seq (.region false [⟨some kk11, none, none, .mov (.t kk0)⟩,
  ⟨some kk12, none, none, .offs (.t kk3) 6⟩,
  ⟨some kk13, none, none, .load 1 false (.t kk12)⟩,
  ⟨some kk14, none, none, .call 43 [(.t kk11), (.t kk13)]⟩])
 (.seq (.region false [⟨some kk15, none, none, .mov (.t kk0)⟩,
  ⟨some kk16, none, none, .call 44 [(.t kk15), (.c (.str 1 40))]⟩])
 (.seq (.region false [⟨some kk17, none, none, .mov (.t kk0)⟩,
  ⟨some kk18, none, none, .offs (.t kk3) 14⟩,
  ⟨some kk19, none, none, .load 1 false (.t kk18)⟩,
  ⟨some kk20, none, none, .call 51 [(.t kk17), (.t kk19)]⟩])
 (.seq (.region false [⟨some kk21, none, none, .mov (.t kk0)⟩,
  ⟨some kk22, none, none, .call 44 [(.t kk21), (.c (.str 1 41))]⟩])
 (.seq (.seq (.region false [⟨some kk23, none, none, .offs (.t kk3) 15⟩,
  ⟨some kk24, none, none, .load 1 false (.t kk23)⟩,
  ⟨some kk25, none, none, .len (.t kk24)⟩,
  ⟨some kk26, none, none, .bin .gtr (.t kk25) (.c (.int .i64 (.ofNat 0)))⟩])
 (.cond (.t kk26)
  (.seq (.region false [⟨some kk27, none, none, .mov (.t kk0)⟩,
   ⟨some kk28, none, none, .buildSl 9 1 16 1 [(.str 0 0)] [(0, (.c (.str 3 5850443)))]⟩,
   ⟨some kk29, none, none, .call 42 [(.t kk27), (.t kk28)]⟩])
  (.region false [⟨some kk30, none, none, .mov (.t kk0)⟩,
   ⟨some kk31, none, none, .offs (.t kk3) 15⟩,
   ⟨some kk32, none, none, .load 1 false (.t kk31)⟩,
   ⟨some kk33, none, none, .call 52 [(.t kk30), (.t kk32)]⟩]))
  .skip))
 (.seq (.seq (.region false [⟨some kk34, none, none, .offs (.t kk3) 16⟩,
  ⟨some kk35, none, none, .load 1 false (.t kk34)⟩,
  ⟨some kk36, none, none, .len (.t kk35)⟩,
  ⟨some kk37, none, none, .mov (.c (.int .i64 (.ofNat 0)))⟩])
 (.block 0 (.loop (.seq (.region false [⟨some kk38, none, none, .bin .lss (.t kk37) (.t kk36)⟩])
   (.seq (.cond (.t kk38)
    .skip
    (.exit 0))
   (.seq (.block 1 (.seq (.region false [⟨some kk39, none, none, .idxSl 3 (.t kk35) (.t kk37)⟩,
     ⟨some kk40, none, none, .load 3 true (.t kk39)⟩,
     ⟨some kk5, none, none, .boxz 105 3 64 [.nilslice, (.str 0 0), .nilslice]⟩,
     ⟨none, none, none, .store 3 (.t kk5) (.t kk40)⟩])
    (.seq (.region false [⟨some kk41, none, none, .mov (.t kk0)⟩,
     ⟨some kk42, none, none, .buildSl 9 1 16 1 [(.str 0 0)] [(0, (.c (.str 10 393234093309334888269138)))]⟩,
     ⟨some kk43, none, none, .call 42 [(.t kk41), (.t kk42)]⟩])
    (.seq (.region false [⟨some kk44, none, none, .mov (.t kk0)⟩,
     ⟨some kk45, none, none, .offs (.t kk5) 0⟩,
     ⟨some kk46, none, none, .load 1 false (.t kk45)⟩,
     ⟨some kk47, none, none, .call 52 [(.t kk44), (.t kk46)]⟩])
    (.seq (.region false [⟨some kk48, none, none, .mov (.t kk0)⟩,
     ⟨some kk49, none, none, .buildSl 9 1 16 1 [(.str 0 0)] [(0, (.c (.str 2 20041)))]⟩,
     ⟨some kk50, none, none, .call 42 [(.t kk48), (.t kk49)]⟩])
    (.seq (.region false [⟨some kk51, none, none, .mov (.t kk0)⟩,
     ⟨some kk52, none, none, .offs (.t kk5) 1⟩,
     ⟨some kk53, none, none, .load 1 false (.t kk52)⟩,
     ⟨some kk54, none, none, .call 43 [(.t kk51), (.t kk53)]⟩])
    (.region false [⟨some kk55, none, none, .mov (.t kk0)⟩,
     ⟨some kk56, none, none, .offs (.t kk5) 2⟩,
     ⟨some kk57, none, none, .load 1 false (.t kk56)⟩,
     ⟨some kk58, none, none, .call 52 [(.t kk55), (.t kk57)]⟩])))))))
   (.region false [⟨some kk59, none, none, .bin .add (.t kk37) (.c (.int .i64 (.ofNat 1)))⟩,
    ⟨some kk37, none, none, .mov (.t kk59)⟩])))))))
 (.seq (.region false [⟨some kk60, none, none, .offs (.t kk3) 17⟩,
  ⟨some kk61, none, none, .load 1 false (.t kk60)⟩,
  ⟨some kk62, none, none, .len (.t kk61)⟩,
  ⟨some kk63, none, none, .mov (.c (.int .i64 (.ofNat 0)))⟩])
 (.block 2 (.loop (.seq (.region false [⟨some kk64, none, none, .bin .lss (.t kk63) (.t kk62)⟩])
   (.seq (.cond (.t kk64)
    .skip
    (.exit 2))
   (.seq (.block 3 (.seq (.region false [⟨some kk65, none, none, .idxSl 2 (.t kk61) (.t kk63)⟩,
     ⟨some kk66, none, none, .load 2 true (.t kk65)⟩,
     ⟨some kk7, none, none, .boxz 107 2 32 [(.int .i64 (.ofNat 0)), .nilslice]⟩,
     ⟨none, none, none, .store 2 (.t kk7) (.t kk66)⟩])
    (.seq (.seq (.region false [⟨some kk67, none, none, .offs (.t kk7) 0⟩,
     ⟨some kk68, none, none, .load 1 false (.t kk67)⟩,
     ⟨some kk69, none, none, .bin .eql (.t kk68) (.c (.int .i64 (.ofNat 1)))⟩])
    (.cond (.t kk69)
     (.region false [⟨some kk70, none, none, .mov (.t kk0)⟩,
      ⟨some kk71, none, none, .buildSl 9 1 16 1 [(.str 0 0)] [(0, (.c (.str 5 344692576078)))]⟩,
      ⟨some kk72, none, none, .call 42 [(.t kk70), (.t kk71)]⟩])
     (.region false [⟨some kk73, none, none, .mov (.t kk0)⟩,
      ⟨some kk74, none, none, .buildSl 9 1 16 1 [(.str 0 0)] [(0, (.c (.str 9 1480444752065213714254)))]⟩,
      ⟨some kk75, none, none, .call 42 [(.t kk73), (.t kk74)]⟩])))
    (.region false [⟨some kk76, none, none, .mov (.t kk0)⟩,
     ⟨some kk77, none, none, .offs (.t kk7) 1⟩,
     ⟨some kk78, none, none, .load 1 false (.t kk77)⟩,
     ⟨some kk79, none, none, .call 52 [(.t kk76), (.t kk78)]⟩]))))
   (.region false [⟨some kk80, none, none, .bin .add (.t kk63) (.c (.int .i64 (.ofNat 1)))⟩,
    ⟨some kk63, none, none, .mov (.t kk80)⟩]))))))))))))))) }
theorem fn22 : fnOf Tryz.prog Tryz.f22 = some i22 := by kernel_rfl
/-- (*annalist.parser.printer).other -/
noncomputable def i23 : IFn := { nt := 107, ps := [kk0, kk1], res := [], body :=
 (.seq (.region false [⟨some kk3, none, none, .box 48 21 328 (.t kk1)⟩])
 (.seq (.region false [⟨some kk4, none, none, .offs (.t kk3) 0⟩,
  ⟨some kk5, none, none, .load 1 false (.t kk4)⟩])
 (.block 0 (.seq (.region false [⟨some kk10, none, none, .bin .eql (.t kk5) (.c (.int .i64 (.ofNat 1)))⟩,
   ⟨some kk9, none, none, .mov (.t kk10)⟩])
  (.cond (.t kk9)
   (.region false [⟨some kk11, none, none, .mov (.t kk0)⟩,
    ⟨some kk12, none, none, .load 21 true (.t kk3)⟩,
    ⟨some kk13, none, none, .call 53 [(.t kk11), (.t kk12)]⟩])
   (.seq (.region false [⟨some kk15, none, none, .bin .eql (.t kk5) (.c (.int .i64 (.ofNat 3)))⟩,
    ⟨some kk14, none, none, .mov (.t kk15)⟩])
   (.cond (.t kk14)
    (.seq (.region false [⟨some kk16, none, none, .mov (.t kk0)⟩,
     ⟨some kk17, none, none, .buildSl 9 1 16 2 [(.str 0 0)] [(0, (.c (.str 6 76228242195780))), (1, (.c (.str 4 1297044038)))]⟩,
     ⟨some kk18, none, none, .call 42 [(.t kk16), (.t kk17)]⟩])
    (.seq (.region false [⟨some kk19, none, none, .mov (.t kk0)⟩,
     ⟨some kk20, none, none, .offs (.t kk3) 6⟩,
     ⟨some kk21, none, none, .load 1 false (.t kk20)⟩,
     ⟨some kk22, none, none, .call 43 [(.t kk19), (.t kk21)]⟩])
    (.seq (.region false [⟨some kk23, none, none, .mov (.t kk0)⟩,
     ⟨some kk24, none, none, .offs (.t kk3) 9⟩,
     ⟨some kk25, none, none, .load 2 true (.t kk24)⟩,
     ⟨some kk26, none, none, .buildSl 9 1 16 3 [(.str 0 0)] [(0, (.c (.str 3 5394246))), (1, (.c (.str 7 22042224549318480))), (2, (.c (.str 2 17999)))]⟩,
     ⟨some kk27, none, none, .call 47 [(.t kk23), (.t kk25), (.t kk26)]⟩])
    (.region true [⟨some kk28, none, none, .mov (.t kk0)⟩,
     ⟨some kk29, none, none, .offs (.t kk3) 11⟩,
     ⟨some kk30, none, some [], .load 1 false (.t kk29)⟩,
     ⟨some kk31, none, some [], .call 48 [(.t kk30)]⟩,
     ⟨some kk32, none, none, .offs (.t kk3) 12⟩,
     ⟨some kk33, none, some [0, 1], .load 1 false (.t kk32)⟩,
     ⟨some kk34, none, some [], .call 50 [(.t kk28), (.t kk31), (.t kk33)]⟩]))))
    (.seq (.region false [⟨some kk36, none, none, .bin .eql (.t kk5) (.c (.int .i64 (.ofNat 6)))⟩,
     ⟨some kk35, none, none, .mov (.t kk36)⟩])
    (.cond (.t kk35)
     (.seq (.region false [⟨some kk37, none, none, .mov (.t kk0)⟩,
      ⟨some kk38, none, none, .buildSl 9 1 16 2 [(.str 0 0)] [(0, (.c (.str 5 353350470721))), (1, (.c (.str 5 297632153940)))]⟩,
      ⟨some kk39, none, none, .call 42 [(.t kk37), (.t kk38)]⟩])
     (.seq (.region false [⟨some kk40, none, none, .mov (.t kk0)⟩,
      ⟨some kk41, none, none, .offs (.t kk3) 6⟩,
      ⟨some kk42, none, none, .load 1 false (.t kk41)⟩,
      ⟨some kk43, none, none, .call 43 [(.t kk40), (.t kk42)]⟩])
     (.seq (.region false [⟨some kk44, none, none, .mov (.t kk0)⟩,
      ⟨some kk45, none, none, .buildSl 9 1 16 1 [(.str 0 0)] [(0, (.c (.str 3 4473921)))]⟩,
      ⟨some kk46, none, none, .call 42 [(.t kk44), (.t kk45)]⟩])
     (.region false [⟨some kk47, none, none, .mov (.t kk0)⟩,
      ⟨some kk48, none, none, .offs (.t kk3) 14⟩,
      ⟨some kk49, none, none, .load 1 false (.t kk48)⟩,
      ⟨some kk50, none, none, .call 51 [(.t kk47), (.t kk49)]⟩]))))
     (.seq (.region false [⟨some kk52, none, none, .bin .eql (.t kk5) (.c (.int .i64 (.ofNat 7)))⟩,
      ⟨some kk51, none, none, .mov (.t kk52)⟩])
     (.cond (.t kk51)
      (.seq (.region false [⟨some kk53, none, none, .mov (.t kk0)⟩,
       ⟨some kk54, none, none, .buildSl 9 1 16 2 [(.str 0 0)] [(0, (.c (.str 5 353350470721))), (1, (.c (.str 5 297632153940)))]⟩,
       ⟨some kk55, none, none, .call 42 [(.t kk53), (.t kk54)]⟩])
      (.seq (.region false [⟨some kk56, none, none, .mov (.t kk0)⟩,
       ⟨some kk57, none, none, .offs (.t kk3) 6⟩,
       ⟨some kk58, none, none, .load 1 false (.t kk57)⟩,
       ⟨some kk59, none, none, .call 43 [(.t kk56), (.t kk58)]⟩])
      (.seq (.region false [⟨some kk60, none, none, .mov (.t kk0)⟩,
       ⟨some kk61, none, none, .buildSl 9 1 16 1 [(.str 0 0)] [(0, (.c (.str 4 1347375684)))]⟩,
       ⟨some kk62, none, none, .call 42 [(.t kk60), (.t kk61)]⟩])
      (.region false [⟨some kk63, none, none, .mov (.t kk0)⟩,
       ⟨some kk64, none, none, .offs (.t kk3) 7⟩,
       ⟨some kk65, none, none, .load 1 false (.t kk64)⟩,
       ⟨some kk66, none, none, .call 43 [(.t kk63), (.t kk65)]⟩]))))
      (.seq (.region false [⟨some kk68, none, none, .bin .eql (.t kk5) (.c (.int .i64 (.ofNat 8)))⟩,
       ⟨some kk67, none, none, .mov (.t kk68)⟩])
      (.cond (.t kk67)
       (.seq (.region false [⟨some kk69, none, none, .mov (.t kk0)⟩,
        ⟨some kk70, none, none, .buildSl 9 1 16 1 [(.str 0 0)] [(0, (.c (.str 4 1163151683)))]⟩,
        ⟨some kk71, none, none, .call 42 [(.t kk69), (.t kk70)]⟩])
       (.seq (.region false [⟨some kk72, none, none, .mov (.t kk0)⟩,
        ⟨some kk73, none, none, .offs (.t kk3) 4⟩,
        ⟨some kk74, none, none, .load 2 true (.t kk73)⟩,
        ⟨some kk75, none, none, .call 27 [(.t kk72), (.t kk74)]⟩])
       (.region false [⟨some kk76, none, none, .mov (.t kk0)⟩,
        ⟨some kk77, none, none, .load 21 true (.t kk3)⟩,
        ⟨some kk78, none, none, .call 54 [(.t kk76), (.t kk77)]⟩])))
       (.seq (.region false [⟨some kk80, none, none, .bin .eql (.t kk5) (.c (.int .i64 (.ofNat 9)))⟩,
        ⟨some kk79, none, none, .mov (.t kk80)⟩])
       (.cond (.t kk79)
        (.region false [⟨some kk81, none, none, .mov (.t kk0)⟩,
         ⟨some kk82, none, none, .buildSl 9 1 16 1 [(.str 0 0)] [(0, (.c (.str 6 83890396153170)))]⟩,
         ⟨some kk83, none, none, .call 42 [(.t kk81), (.t kk82)]⟩])
        (.seq (.region false [⟨some kk85, none, none, .bin .eql (.t kk5) (.c (.int .i64 (.ofNat 10)))⟩,
         ⟨some kk84, none, none, .mov (.t kk85)⟩])
        (.cond (.t kk84)
         (.region false [⟨some kk86, none, none, .mov (.t kk0)⟩,
          ⟨some kk87, none, none, .load 21 true (.t kk3)⟩,
          ⟨some kk88, none, none, .call 55 [(.t kk86), (.t kk87)]⟩])
         (.seq (.region false [⟨some kk90, none, none, .bin .eql (.t kk5) (.c (.int .i64 (.ofNat 11)))⟩,
          ⟨some kk89, none, none, .mov (.t kk90)⟩])
         (.cond (.t kk89)
          (.seq (.region false [⟨some kk91, none, none, .mov (.t kk0)⟩,
           ⟨some kk92, none, none, .buildSl 9 1 16 1 [(.str 0 0)] [(0, (.c (.str 7 19513313193641298)))]⟩,
           ⟨some kk93, none, none, .call 42 [(.t kk91), (.t kk92)]⟩])
          (.region false [⟨some kk94, none, none, .mov (.t kk0)⟩,
           ⟨some kk95, none, none, .offs (.t kk3) 18⟩,
           ⟨some kk96, none, none, .load 1 false (.t kk95)⟩,
           ⟨some kk97, none, none, .call 56 [(.t kk94), (.t kk96)]⟩]))
          (.seq (.region false [⟨some kk99, none, none, .bin .eql (.t kk5) (.c (.int .i64 (.ofNat 12)))⟩,
           ⟨some kk98, none, none, .mov (.t kk99)⟩])
          (.cond (.t kk98)
           (.seq (.region false [⟨some kk100, none, none, .mov (.t kk0)⟩,
            ⟨some kk101, none, none, .buildSl 9 1 16 2 [(.str 0 0)] [(0, (.c (.str 6 92656526053190))), (1, (.c (.str 5 374992553282)))]⟩,
            ⟨some kk102, none, none, .call 42 [(.t kk100), (.t kk101)]⟩])
           (.region false [⟨some kk103, none, none, .mov (.t kk0)⟩,
            ⟨some kk104, none, none, .offs (.t kk3) 18⟩,
            ⟨some kk105, none, none, .load 1 false (.t kk104)⟩,
            ⟨some kk106, none, none, .call 56 [(.t kk103), (.t kk105)]⟩]))
           (.region false [⟨some kk6, none, none, .mov (.t kk0)⟩,
            ⟨some kk7, none, none, .nilck (.t kk6)⟩,
            ⟨some kk8, none, none, .offs (.t kk7) 1⟩,
            ⟨none, none, none, .store 1 (.t kk8) (.c (.bool true))⟩])))))))))))))))))))))) }
theorem fn23 : fnOf Tryz.prog Tryz.f23 = some i23 := by kernel_rfl
/-- (*annalist.parser.printer).tokens -/
noncomputable def i24 : IFn := { nt := 38, ps := [kk0], res := [.tmp kk2, .tmp kk3], body :=
 (.seq (.region false [⟨some kk2, none, none, .mov (.c .nilslice)⟩,
  ⟨some kk3, none, none, .mov (.c (.bool false))⟩])
 (.seq (.seq (.region false [⟨some kk6, none, none, .mov (.t kk0)⟩,
  ⟨some kk7, none, none, .nilck (.t kk6)⟩,
  ⟨some kk8, none, none, .offs (.t kk7) 1⟩,
  ⟨some kk9, none, none, .load 1 false (.t kk8)⟩,
  ⟨some kk10, none, none, .mov (.t kk9)⟩,
  ⟨some kk11, some (kk10, false), none, .mov (.t kk0)⟩,
  ⟨some kk12, some (kk10, false), none, .nilck (.t kk11)⟩,
  ⟨some kk13, some (kk10, false), none, .offs (.t kk12) 0⟩,
  ⟨some kk14, some (kk10, false), none, .load 1 false (.t kk13)⟩,
  ⟨some kk15, some (kk10, false), none, .len (.t kk14)⟩,
  ⟨some kk16, some (kk10, false), none, .bin .gtr (.t kk15) (.c (.int .i64 (.ofNat 1000)))⟩,
  ⟨some kk17, none, none, .pick (.t kk10) (.c (.bool true)) (.t kk16)⟩])
 (.cond (.t kk17)
  (.seq (.region false [⟨some kk2, none, none, .mov (.c .nilslice)⟩,
   ⟨some kk3, none, none, .mov (.c (.bool false))⟩])
  .ret)
  .skip))
 (.seq (.seq (.region false [⟨some kk18, none, none, .mov (.t kk0)⟩,
  ⟨some kk19, none, none, .nilck (.t kk18)⟩,
  ⟨some kk20, none, none, .offs (.t kk19) 0⟩,
  ⟨some kk21, none, none, .load 1 false (.t kk20)⟩,
  ⟨some kk22, none, none, .len (.t kk21)⟩,
  ⟨some kk23, none, none, .mov (.c (.int .i64 (.ofNat 0)))⟩])
 (.block 0 (.loop (.seq (.region false [⟨some kk24, none, none, .bin .lss (.t kk23) (.t kk22)⟩])
   (.seq (.cond (.t kk24)
    .skip
    (.exit 0))
   (.seq (.block 1 (.seq (.region false [⟨some kk25, none, none, .idxSl 3 (.t kk21) (.t kk23)⟩,
     ⟨some kk26, none, none, .load 3 true (.t kk25)⟩,
     ⟨some kk5, none, none, .boxz 35 3 32 [(.int .i64 (.ofNat 0)), (.int .i64 (.ofNat 0)), (.str 0 0)]⟩,
     ⟨none, none, none, .store 3 (.t kk5) (.t kk26)⟩])
    (.seq (.region false [⟨some kk27, none, none, .load 3 true (.t kk5)⟩,
     ⟨some kk28, none, none, .call 57 [(.t kk27)]⟩,
     ⟨some kk29, none, none, .un .not (.t kk28)⟩])
    (.cond (.t kk29)
     (.seq (.region false [⟨some kk2, none, none, .mov (.c .nilslice)⟩,
      ⟨some kk3, none, none, .mov (.c (.bool false))⟩])
     .ret)
     .skip))))
   (.region false [⟨some kk30, none, none, .bin .add (.t kk23) (.c (.int .i64 (.ofNat 1)))⟩,
    ⟨some kk23, none, none, .mov (.t kk30)⟩])))))))
 (.seq (.region false [⟨some kk31, none, none, .mov (.t kk0)⟩,
  ⟨some kk32, none, none, .nilck (.t kk31)⟩,
  ⟨some kk33, none, none, .offs (.t kk32) 0⟩,
  ⟨some kk34, none, none, .load 1 false (.t kk33)⟩,
  ⟨some kk35, none, none, .build [(.int .i64 (.ofNat 0)), (.int .i64 (.ofNat 0)), (.str 0 0)] [(0, 1, (.c (.int .i64 (.ofNat 6))))]⟩,
  ⟨some kk36, none, none, .buildSl 35 3 32 1 [(.int .i64 (.ofNat 0)), (.int .i64 (.ofNat 0)), (.str 0 0)] [(0, (.t kk35))]⟩,
  ⟨some kk37, none, none, .app 35 3 32 (.t kk34) (.t kk36)⟩,
  ⟨some kk2, none, none, .mov (.t kk37)⟩,
  ⟨some kk3, none, none, .mov (.c (.bool true))⟩])
 .ret)))) }
theorem fn24 : fnOf Tryz.prog Tryz.f24 = some i24 := by kernel_rfl
/-- annalist.parser.equalStmt -/
noncomputable def i25 : IFn := { nt := 129, ps := [kk0, kk1], res := [.tmp kk4], body :=
 (.seq (.region false [⟨some kk2, none, none, .box 48 21 328 (.t kk0)⟩,
  ⟨some kk3, none, none, .box 48 21 328 (.t kk1)⟩,
  ⟨some kk4, none, none, .mov (.c (.bool false))⟩])
 (.seq (.region false [⟨some kk5, none, none, .offs (.t kk2) 0⟩,
  ⟨some kk6, none, none, .load 1 false (.t kk5)⟩,
  ⟨some kk7, none, none, .offs (.t kk3) 0⟩,
  ⟨some kk8, none, none, .load 1 false (.t kk7)⟩,
  ⟨some kk9, none, none, .bin .eql (.t kk6) (.t kk8)⟩,
  ⟨some kk10, none, none, .mov (.t kk9)⟩,
  ⟨some kk11, some (kk10, true), none, .offs (.t kk2) 1⟩,
  ⟨some kk12, some (kk10, true), none, .load 1 false (.t kk11)⟩,
  ⟨some kk13, some (kk10, true), none, .offs (.t kk3) 1⟩,
  ⟨some kk14, some (kk10, true), none, .load 1 false (.t kk13)⟩,
  ⟨some kk15, some (kk10, true), none, .bin .eql (.t kk12) (.t kk14)⟩,
  ⟨some kk16, none, none, .pick (.t kk10) (.t kk15) (.c (.bool false))⟩,
  ⟨some kk17, none, none, .mov (.t kk16)⟩,
  ⟨some kk18, some (kk17, true), none, .offs (.t kk2) 2⟩,
  ⟨some kk19, some (kk17, true), none, .load 1 false (.t kk18)⟩,
  ⟨some kk20, some (kk17, true), none, .offs (.t kk3) 2⟩,
  ⟨some kk21, some (kk17, true), none, .load 1 false (.t kk20)⟩,
  ⟨some kk22, some (kk17, true), none, .bin .eql (.t kk19) (.t kk21)⟩,
  ⟨some kk23, none, none, .pick (.t kk17) (.t kk22) (.c (.bool false))⟩,
  ⟨some kk24, none, none, .mov (.t kk23)⟩,
  ⟨some kk25, some (kk24, true), none, .offs (.t kk2) 3⟩,
  ⟨some kk26, some (kk24, true), none, .load 1 false (.t kk25)⟩,
  ⟨some kk27, some (kk24, true), none, .offs (.t kk3) 3⟩,
  ⟨some kk28, some (kk24, true), none, .load 1 false (.t kk27)⟩,
  ⟨some kk29, some (kk24, true), none, .bin .eql (.t kk26) (.t kk28)⟩,
  ⟨some kk30, none, none, .pick (.t kk24) (.t kk29) (.c (.bool false))⟩,
  ⟨some kk31, none, none, .mov (.t kk30)⟩,
  ⟨some kk32, some (kk31, true), none, .offs (.t kk2) 4⟩,
  ⟨some kk33, some (kk31, true), none, .load 2 true (.t kk32)⟩,
  ⟨some kk34, some (kk31, true), none, .offs (.t kk3) 4⟩,
  ⟨some kk35, some (kk31, true), none, .load 2 true (.t kk34)⟩,
  ⟨some kk36, some (kk31, true), none, .call 28 [(.t kk33), (.t kk35)]⟩,
  ⟨some kk37, none, none, .pick (.t kk31) (.t kk36) (.c (.bool false))⟩,
  ⟨some kk38, none, none, .mov (.t kk37)⟩,
  ⟨some kk39, some (kk38, true), none, .offs (.t kk2) 6⟩,
  ⟨some kk40, some (kk38, true), none, .load 1 false (.t kk39)⟩,
  ⟨some kk41, some (kk38, true), none, .offs (.t kk3) 6⟩,
  ⟨some kk42, some (kk38, true), none, .load 1 false (.t kk41)⟩,
  ⟨some kk43, some (kk38, true), none, .bin .eql (.t kk40) (.t kk42)⟩,
  ⟨some kk44, none, none, .pick (.t kk38) (.t kk43) (.c (.bool false))⟩,
  ⟨some kk45, none, none, .mov (.t kk44)⟩,
  ⟨some kk46, some (kk45, true), none, .offs (.t kk2) 7⟩,
  ⟨some kk47, some (kk45, true), none, .load 1 false (.t kk46)⟩,
  ⟨some kk48, some (kk45, true), none, .offs (.t kk3) 7⟩,
  ⟨some kk49, some (kk45, true), none, .load 1 false (.t kk48)⟩,
  ⟨some kk50, some (kk45, true), none, .bin .eql (.t kk47) (.t kk49)⟩,
  ⟨some kk51, none, none, .pick (.t kk45) (.t kk50) (.c (.bool false))⟩,
  ⟨some kk52, none, none, .mov (.t kk51)⟩,
  ⟨some kk53, some (kk52, true), none, .offs (.t kk2) 8⟩,
  ⟨some kk54, some (kk52, true), none, .load 1 false (.t kk53)⟩,
  ⟨some kk55, some (kk52, true), none, .offs (.t kk3) 8⟩,
  ⟨some kk56, some (kk52, true), none, .load 1 false (.t kk55)⟩,
  ⟨some kk57, some (kk52, true), none, .call 58 [(.t kk54), (.t kk56)]⟩,
  ⟨some kk58, none, none, .pick (.t kk52) (.t kk57) (.c (.bool false))⟩,
  ⟨some kk59, none, none, .mov (.t kk58)⟩,
  ⟨some kk60, some (kk59, true), none, .offs (.t kk2) 9⟩,
  ⟨some kk61, some (kk59, true), none, .load 2 true (.t kk60)⟩,
  ⟨some kk62, some (kk59, true), none, .offs (.t kk3) 9⟩,
  ⟨some kk63, some (kk59, true), none, .load 2 true (.t kk62)⟩,
  ⟨some kk64, some (kk59, true), none, .eqv (.agg [3, 3]) false (.t kk61) (.t kk63)⟩,
  ⟨some kk65, none, none, .pick (.t kk59) (.t kk64) (.c (.bool false))⟩,
  ⟨some kk66, none, none, .mov (.t kk65)⟩,
  ⟨some kk67, some (kk66, true), none, .offs (.t kk2) 11⟩,
  ⟨some kk68, some (kk66, true), none, .load 1 false (.t kk67)⟩,
  ⟨some kk69, some (kk66, true), none, .offs (.t kk3) 11⟩,
  ⟨some kk70, some (kk66, true), none, .load 1 false (.t kk69)⟩,
  ⟨some kk71, some (kk66, true), none, .call 59 [(.t kk68), (.t kk70)]⟩,
  ⟨some kk72, none, none, .pick (.t kk66) (.t kk71) (.c (.bool false))⟩,
  ⟨some kk73, none, none, .mov (.t kk72)⟩,
  ⟨some kk74, some (kk73, true), none, .offs (.t kk2) 12⟩,
  ⟨some kk75, some (kk73, true), none, .load 1 false (.t kk74)⟩,
  ⟨some kk76, some (kk73, true), none, .offs (.t kk3) 12⟩,
  ⟨some kk77, some (kk73, true), none, .load 1 false (.t kk76)⟩,
  ⟨some kk78, some (kk73, true), none, .bin .eql (.t kk75) (.t kk77)⟩,
  ⟨some kk79, none, none, .pick (.t kk73) (.t kk78) (.c (.bool false))⟩,
  ⟨some kk80, none, none, .mov (.t kk79)⟩,
  ⟨some kk81, some (kk80, true), none, .offs (.t kk2) 13⟩,
  ⟨some kk82, some (kk80, true), none, .load 1 false (.t kk81)⟩,
  ⟨some kk83, some (kk80, true), none, .offs (.t kk3) 13⟩,
  ⟨some kk84, some (kk80, true), none, .load 1 false (.t kk83)⟩,
  ⟨some kk85, some (kk80, true), none, .call 60 [(.t kk82), (.t kk84)]⟩,
  ⟨some kk86, none, none, .pick (.t kk80) (.t kk85) (.c (.bool false))⟩,
  ⟨some kk87, none, none, .mov (.t kk86)⟩,
  ⟨some kk88, some (kk87, true), none, .offs (.t kk2) 14⟩,
  ⟨some kk89, some (kk87, true), none, .load 1 false (.t kk88)⟩,
  ⟨some kk90, some (kk87, true), none, .offs (.t kk3) 14⟩,
  ⟨some kk91, some (kk87, true), none, .load 1 false (.t kk90)⟩,
  ⟨some kk92, some (kk87, true), none, .call 61 [(.t kk89), (.t kk91)]⟩,
  ⟨some kk93, none, none, .pick (.t kk87) (.t kk92) (.c (.bool false))⟩,
  ⟨some kk94, none, none, .mov (.t kk93)⟩,
  ⟨some kk95, some (kk94, true), none, .offs (.t kk2) 15⟩,
  ⟨some kk96, some (kk94, true), none, .load 1 false (.t kk95)⟩,
  ⟨some kk97, some (kk94, true), none, .offs (.t kk3) 15⟩,
  ⟨some kk98, some (kk94, true), none, .load 1 false (.t kk97)⟩,
  ⟨some kk99, some (kk94, true), none, .call 62 [(.t kk96), (.t kk98)]⟩,
  ⟨some kk100, none, none, .pick (.t kk94) (.t kk99) (.c (.bool false))⟩,
  ⟨some kk101, none, none, .mov (.t kk100)⟩,
  ⟨some kk102, some (kk101, true), none, .offs (.t kk2) 16⟩,
  ⟨some kk103, some (kk101, true), none, .load 1 false (.t kk102)⟩,
  ⟨some kk104, some (kk101, true), none, .offs (.t kk3) 16⟩,
  ⟨some kk105, some (kk101, true), none, .load 1 false (.t kk104)⟩,
  ⟨some kk106, some (kk101, true), none, .call 63 [(.t kk103), (.t kk105), (.c (.func 64 []))]⟩,
  ⟨some kk107, none, none, .pick (.t kk101) (.t kk106) (.c (.bool false))⟩,
  ⟨some kk108, none, none, .mov (.t kk107)⟩,
  ⟨some kk109, some (kk108, true), none, .offs (.t kk2) 17⟩,
  ⟨some kk110, some (kk108, true), none, .load 1 false (.t kk109)⟩,
  ⟨some kk111, some (kk108, true), none, .offs (.t kk3) 17⟩,
  ⟨some kk112, some (kk108, true), none, .load 1 false (.t kk111)⟩,
  ⟨some kk113, some (kk108, true), none, .call 65 [(.t kk110), (.t kk112), (.c (.func 66 []))]⟩,
  ⟨some kk114, none, none, .pick (.t kk108) (.t kk113) (.c (.bool false))⟩,
  ⟨some kk115, none, none, .mov (.t kk114)⟩,
  ⟨some kk116, some (kk115, true), none, .offs (.t kk2) 18⟩,
  ⟨some kk117, some (kk115, true), none, .load 1 false (.t kk116)⟩,
  ⟨some kk118, some (kk115, true), none, .offs (.t kk3) 18⟩,
  ⟨some kk119, some (kk115, true), none, .load 1 false (.t kk118)⟩,
  ⟨some kk120, some (kk115, true), none, .bin .eql (.t kk117) (.t kk119)⟩,
  ⟨some kk121, none, none, .pick (.t kk115) (.t kk120) (.c (.bool false))⟩,
  ⟨some kk122, none, none, .mov (.t kk121)⟩,
  ⟨some kk123, some (kk122, true), none, .offs (.t kk2) 19⟩,
  ⟨some kk124, some (kk122, true), none, .load 2 true (.t kk123)⟩,
  ⟨some kk125, some (kk122, true), none, .offs (.t kk3) 19⟩,
  ⟨some kk126, some (kk122, true), none, .load 2 true (.t kk125)⟩,
  ⟨some kk127, some (kk122, true), none, .eqv (.agg [3, 3]) false (.t kk124) (.t kk126)⟩,
  ⟨some kk128, none, none, .pick (.t kk122) (.t kk127) (.c (.bool false))⟩,
  ⟨some kk4, none, none, .mov (.t kk128)⟩])
 .ret)) }
theorem fn25 : fnOf Tryz.prog Tryz.f25 = some i25 := by kernel_rfl
/-- annalist.lexer.Format -/
noncomputable def i26 : IFn := { nt := 35, ps := [kk0], res := [.tmp kk2], body :=
 (.seq (.region false [⟨some kk2, none, none, .mov (.c (.str 0 0))⟩])
 (.seq (.region false [⟨some kk3, none, none, .boxz 124 2 32 [.nilptr, .nilslice]⟩])
 (.seq (.seq (.region false [⟨some kk6, none, none, .mov (.t kk0)⟩,
  ⟨some kk7, none, none, .len (.t kk6)⟩,
  ⟨some kk8, none, none, .mov (.c (.int .i64 (.ofNat 0)))⟩])
 (.block 0 (.loop (.seq (.region false [⟨some kk9, none, none, .bin .lss (.t kk8) (.t kk7)⟩])
   (.seq (.cond (.t kk9)
    .skip
    (.exit 0))
   (.seq (.block 1 (.seq (.region false [⟨some kk10, none, none, .idxSl 3 (.t kk6) (.t kk8)⟩,
     ⟨some kk11, none, none, .load 3 true (.t kk10)⟩,
     ⟨some kk5, none, none, .boxz 35 3 32 [(.int .i64 (.ofNat 0)), (.int .i64 (.ofNat 0)), (.str 0 0)]⟩,
     ⟨none, none, none, .store 3 (.t kk5) (.t kk11)⟩])
    (.seq (.seq (.region false [⟨some kk12, none, none, .load 3 true (.t kk5)⟩,
     ⟨some kk13, none, none, .call 57 [(.t kk12)]⟩,
     ⟨some kk14, none, none, .un .not (.t kk13)⟩])
    (.cond (.t kk14)
     (.seq (.region false [⟨some kk2, none, none, .mov (.c (.str 0 0))⟩])
     .ret)
     .skip))
    (.seq (.seq (.region false [⟨some kk15, none, none, .offs (.t kk5) 0⟩,
     ⟨some kk16, none, none, .load 1 false (.t kk15)⟩,
     ⟨some kk17, none, none, .bin .eql (.t kk16) (.c (.int .i64 (.ofNat 6)))⟩])
    (.cond (.t kk17)
     (.exit 1)
     .skip))
    (.seq (.seq (.region false [⟨some kk18, none, none, .call 67 [(.t kk3)]⟩,
     ⟨some kk19, none, none, .bin .gtr (.t kk18) (.c (.int .i64 (.ofNat 0)))⟩])
    (.cond (.t kk19)
     (.region false [⟨some kk20, none, none, .call 68 [(.t kk3), (.c (.int .u8 (.ofNat 32)))]⟩])
     .skip))
    (.seq (.region false [⟨some kk21, none, none, .offs (.t kk5) 0⟩,
     ⟨some kk22, none, none, .load 1 false (.t kk21)⟩,
     ⟨some kk23, none, none, .bin .eql (.t kk22) (.c (.int .i64 (.ofNat 4)))⟩])
    (.cond (.t kk23)
     (.region false [⟨some kk24, none, none, .offs (.t kk5) 2⟩,
      ⟨some kk25, none, none, .load 1 false (.t kk24)⟩,
      ⟨some kk26, none, none, .call 70 [(.t kk25), (.c (.str 1 39)), (.c (.str 2 10023))]⟩,
      ⟨some kk27, none, none, .bin .add (.c (.str 1 39)) (.t kk26)⟩,
      ⟨some kk28, none, none, .bin .add (.t kk27) (.c (.str 1 39))⟩,
      ⟨some kk29, none, none, .call 69 [(.t kk3), (.t kk28)]⟩])
     (.region false [⟨some kk30, none, none, .offs (.t kk5) 2⟩,
      ⟨some kk31, none, none, .load 1 false (.t kk30)⟩,
      ⟨some kk32, none, none, .call 69 [(.t kk3), (.t kk31)]⟩]))))))))
   (.region false [⟨some kk33, none, none, .bin .add (.t kk8) (.c (.int .i64 (.ofNat 1)))⟩,
    ⟨some kk8, none, none, .mov (.t kk33)⟩])))))))
 (.seq (.region false [⟨some kk34, none, none, .call 71 [(.t kk3)]⟩,
  ⟨some kk2, none, none, .mov (.t kk34)⟩])
 .ret)))) }
theorem fn26 : fnOf Tryz.prog Tryz.f26 = some i26 := by kernel_rfl
/-- (*annalist.parser.printer).selection -/
noncomputable def i27 : IFn := { nt := 51, ps := [kk0, kk1], res := [], body :=
 (.seq (.region false [⟨some kk3, none, none, .box 26 2 48 (.t kk1)⟩])
 (.seq (.region false [⟨some kk7, none, none, .offs (.t kk3) 0⟩,
  ⟨some kk8, none, none, .load 1 false (.t kk7)⟩,
  ⟨some kk9, none, none, .len (.t kk8)⟩,
  ⟨some kk10, none, none, .mov (.c (.int .i64 (.ofNat 0)))⟩])
 (.block 0 (.loop (.seq (.region false [⟨some kk11, none, none, .bin .lss (.t kk10) (.t kk9)⟩])
   (.seq (.cond (.t kk11)
    .skip
    (.exit 0))
   (.seq (.block 1 (.seq (.region false [⟨some kk12, none, none, .mov (.t kk10)⟩,
     ⟨some kk13, none, none, .idxSl 7 (.t kk8) (.t kk10)⟩,
     ⟨some kk14, none, none, .load 7 true (.t kk13)⟩,
     ⟨some kk5, none, none, .boxz 84 7 120 [(.bool false), .nilslice, .nilslice, .nilslice, (.int .i64 (.ofNat 0)), (.bool false), .nilslice]⟩,
     ⟨some kk4, none, none, .mov (.t kk12)⟩,
     ⟨none, none, none, .store 7 (.t kk5) (.t kk14)⟩])
    (.seq (.seq (.region false [⟨some kk15, none, none, .mov (.t kk4)⟩,
     ⟨some kk16, none, none, .bin .gtr (.t kk15) (.c (.int .i64 (.ofNat 0)))⟩])
    (.cond (.t kk16)
     (.seq (.region false [⟨some kk6, none, none, .mov (.c (.int .i64 (.ofNat 0)))⟩])
     (.seq (.seq (.region false [⟨some kk17, none, none, .mov (.t kk4)⟩,
      ⟨some kk18, none, none, .offs (.t kk3) 1⟩,
      ⟨some kk19, none, none, .load 1 false (.t kk18)⟩,
      ⟨some kk20, none, none, .len (.t kk19)⟩,
      ⟨some kk21, none, none, .bin .leq (.t kk17) (.t kk20)⟩])
     (.cond (.t kk21)
      (.region false [⟨some kk22, none, none, .offs (.t kk3) 1⟩,
       ⟨some kk23, none, none, .load 1 false (.t kk22)⟩,
       ⟨some kk24, none, none, .mov (.t kk4)⟩,
       ⟨some kk25, none, none, .bin .sub (.t kk24) (.c (.int .i64 (.ofNat 1)))⟩,
       ⟨some kk26, none, none, .idxSl 1 (.t kk23) (.t kk25)⟩,
       ⟨some kk27, none, none, .load 1 false (.t kk26)⟩,
       ⟨some kk6, none, none, .mov (.t kk27)⟩])
      .skip))
     (.seq (.region false [⟨some kk28, none, none, .mov (.t kk6)⟩])
     (.block 2 (.seq (.region false [⟨some kk33, none, none, .bin .eql (.t kk28) (.c (.int .i64 (.ofNat 6)))⟩,
       ⟨some kk32, none, none, .mov (.t kk33)⟩])
      (.cond (.t kk32)
       (.region false [⟨some kk34, none, none, .mov (.t kk0)⟩,
        ⟨some kk35, none, none, .buildSl 9 1 16 2 [(.str 0 0)] [(0, (.c (.str 5 336337653333))), (1, (.c (.str 3 5000257)))]⟩,
        ⟨some kk36, none, none, .call 42 [(.t kk34), (.t kk35)]⟩])
       (.seq (.region false [⟨some kk38, none, none, .bin .eql (.t kk28) (.c (.int .i64 (.ofNat 7)))⟩,
        ⟨some kk37, none, none, .mov (.t kk38)⟩])
       (.cond (.t kk37)
        (.region false [⟨some kk39, none, none, .mov (.t kk0)⟩,
         ⟨some kk40, none, none, .buildSl 9 1 16 2 [(.str 0 0)] [(0, (.c (.str 6 92703736158277))), (1, (.c (.str 3 5000257)))]⟩,
         ⟨some kk41, none, none, .call 42 [(.t kk39), (.t kk40)]⟩])
        (.seq (.region false [⟨some kk43, none, none, .bin .eql (.t kk28) (.c (.int .i64 (.ofNat 8)))⟩,
         ⟨some kk42, none, none, .mov (.t kk43)⟩])
        (.cond (.t kk42)
         (.region false [⟨some kk44, none, none, .mov (.t kk0)⟩,
          ⟨some kk45, none, none, .buildSl 9 1 16 2 [(.str 0 0)] [(0, (.c (.str 9 1554373874378352119369))), (1, (.c (.str 3 5000257)))]⟩,
          ⟨some kk46, none, none, .call 42 [(.t kk44), (.t kk45)]⟩])
         (.region false [⟨some kk29, none, none, .mov (.t kk0)⟩,
          ⟨some kk30, none, none, .nilck (.t kk29)⟩,
          ⟨some kk31, none, none, .offs (.t kk30) 1⟩,
          ⟨none, none, none, .store 1 (.t kk31) (.c (.bool true))⟩])))))))))))
     .skip))
    (.region false [⟨some kk47, none, none, .mov (.t kk0)⟩,
     ⟨some kk48, none, none, .load 7 true (.t kk5)⟩,
     ⟨some kk49, none, none, .call 72 [(.t kk47), (.t kk48)]⟩]))))
   (.region false [⟨some kk50, none, none, .bin .add (.t kk10) (.c (.int .i64 (.ofNat 1)))⟩,
    ⟨some kk10, none, none, .mov (.t kk50)⟩])))))))) }
theorem fn27 : fnOf Tryz.prog Tryz.f27 = some i27 := by kernel_rfl
/-- annalist.parser.equalSelect -/
noncomputable def i28 : IFn := { nt := 17, ps := [kk0, kk1], res := [.tmp kk4], body :=
 (.seq (.region false [⟨some kk2, none, none, .box 26 2 48 (.t kk0)⟩,
  ⟨some kk3, none, none, .box 26 2 48 (.t kk1)⟩,
  ⟨some kk4, none, none, .mov (.c (.bool false))⟩])
 (.seq (.region false [⟨some kk5, none, none, .offs (.t kk2) 1⟩,
  ⟨some kk6, none, none, .load 1 false (.t kk5)⟩,
  ⟨some kk7, none, none, .offs (.t kk3) 1⟩,
  ⟨some kk8, none, none, .load 1 false (.t kk7)⟩,
  ⟨some kk9, none, none, .call 73 [(.t kk6), (.t kk8)]⟩,
  ⟨some kk10, none, none, .mov (.t kk9)⟩,
  ⟨some kk11, some (kk10, true), none, .offs (.t kk2) 0⟩,
  ⟨some kk12, some (kk10, true), none, .load 1 false (.t kk11)⟩,
  ⟨some kk13, some (kk10, true), none, .offs (.t kk3) 0⟩,
  ⟨some kk14, some (kk10, true), none, .load 1 false (.t kk13)⟩,
  ⟨some kk15, some (kk10, true), none, .call 74 [(.t kk12), (.t kk14), (.c (.func 75 []))]⟩,
  ⟨some kk16, none, none, .pick (.t kk10) (.t kk15) (.c (.bool false))⟩,
  ⟨some kk4, none, none, .mov (.t kk16)⟩])
 .ret)) }
theorem fn28 : fnOf Tryz.prog Tryz.f28 = some i28 := by kernel_rfl
/-- annalist.lexer.upper -/
noncomputable def i29 : IFn := { nt := 9, ps := [kk0], res := [.tmp kk2], body :=
 (.seq (.region false [⟨some kk2, none, none, .mov (.c (.bool false))⟩])
 (.seq (.region false [⟨some kk3, none, none, .mov (.t kk0)⟩,
  ⟨some kk4, none, none, .bin .geq (.t kk3) (.c (.int .u8 (.ofNat 65)))⟩,
  ⟨some kk5, none, none, .mov (.t kk4)⟩,
  ⟨some kk6, some (kk5, true), none, .mov (.t kk0)⟩,
  ⟨some kk7, some (kk5, true), none, .bin .leq (.t kk6) (.c (.int .u8 (.ofNat 90)))⟩,
  ⟨some kk8, none, none, .pick (.t kk5) (.t kk7) (.c (.bool false))⟩,
  ⟨some kk2, none, none, .mov (.t kk8)⟩])
 .ret)) }
theorem fn29 : fnOf Tryz.prog Tryz.f29 = some i29 := by kernel_rfl
/-- annalist.lexer.lower -/
noncomputable def i30 : IFn := { nt := 9, ps := [kk0], res := [.tmp kk2], body :=
 (.seq (.region false [⟨some kk2, none, none, .mov (.c (.bool false))⟩])
 (.seq (.region false [⟨some kk3, none, none, .mov (.t kk0)⟩,
  ⟨some kk4, none, none, .bin .geq (.t kk3) (.c (.int .u8 (.ofNat 97)))⟩,
  ⟨some kk5, none, none, .mov (.t kk4)⟩,
  ⟨some kk6, some (kk5, true), none, .mov (.t kk0)⟩,
  ⟨some kk7, some (kk5, true), none, .bin .leq (.t kk6) (.c (.int .u8 (.ofNat 122)))⟩,
  ⟨some kk8, none, none, .pick (.t kk5) (.t kk7) (.c (.bool false))⟩,
  ⟨some kk2, none, none, .mov (.t kk8)⟩])
 .ret)) }
theorem fn30 : fnOf Tryz.prog Tryz.f30 = some i30 := by kernel_rfl
/-- annalist.lexer.inner -/
noncomputable def i31 : IFn := { nt := 13, ps := [kk0], res := [.tmp kk2], body :=
 (.seq (.region false [⟨some kk2, none, none, .mov (.c (.bool false))⟩])
 (.seq (.region false [⟨some kk3, none, none, .mov (.t kk0)⟩,
  ⟨some kk4, none, none, .call 30 [(.t kk3)]⟩,
  ⟨some kk5, none, none, .mov (.t kk4)⟩,
  ⟨some kk6, some (kk5, false), none, .mov (.t kk0)⟩,
  ⟨some kk7, some (kk5, false), none, .call 32 [(.t kk6)]⟩,
  ⟨some kk8, none, none, .pick (.t kk5) (.c (.bool true)) (.t kk7)⟩,
  ⟨some kk9, none, none, .mov (.t kk8)⟩,
  ⟨some kk10, some (kk9, false), none, .mov (.t kk0)⟩,
  ⟨some kk11, some (kk9, false), none, .bin .eql (.t kk10) (.c (.int .u8 (.ofNat 95)))⟩,
  ⟨some kk12, none, none, .pick (.t kk9) (.c (.bool true)) (.t kk11)⟩,
  ⟨some kk2, none, none, .mov (.t kk12)⟩])
 .ret)) }
theorem fn31 : fnOf Tryz.prog Tryz.f31 = some i31 := by kernel_rfl
/-- annalist.lexer.digit -/
noncomputable def i32 : IFn := { nt := 9, ps := [kk0], res := [.tmp kk2], body :=
 (.seq (.region false [⟨some kk2, none, none, .mov (.c (.bool false))⟩])
 (.seq (.region false [⟨some kk3, none, none, .mov (.t kk0)⟩,
  ⟨some kk4, none, none, .bin .geq (.t kk3) (.c (.int .u8 (.ofNat 48)))⟩,
  ⟨some kk5, none, none, .mov (.t kk4)⟩,
  ⟨some kk6, some (kk5, true), none, .mov (.t kk0)⟩,
  ⟨some kk7, some (kk5, true), none, .bin .leq (.t kk6) (.c (.int .u8 (.ofNat 57)))⟩,
  ⟨some kk8, none, none, .pick (.t kk5) (.t kk7) (.c (.bool false))⟩,
  ⟨some kk2, none, none, .mov (.t kk8)⟩])
 .ret)) }
theorem fn32 : fnOf Tryz.prog Tryz.f32 = some i32 := by kernel_rfl
/-- annalist.lexer.quoted -/
noncomputable def i33 : IFn := { nt := 43, ps := [kk0, kk1], res := [.tmp kk4, .tmp kk5, .tmp kk6], body :=
 (.seq (.region false [⟨some kk4, none, none, .mov (.c (.str 0 0))⟩,
  ⟨some kk5, none, none, .mov (.c (.int .i64 (.ofNat 0)))⟩,
  ⟨some kk6, none, none, .mov (.c (.int .i64 (.ofNat 0)))⟩])
 (.seq (.region false [⟨some kk7, none, none, .boxz 124 2 32 [.nilptr, .nilslice]⟩])
 (.seq (.seq (.region false [⟨some kk9, none, none, .mov (.t kk1)⟩,
  ⟨some kk10, none, none, .bin .add (.t kk9) (.c (.int .i64 (.ofNat 1)))⟩,
  ⟨some kk8, none, none, .mov (.t kk10)⟩])
 (.block 0 (.loop (.seq (.seq (.region false [⟨some kk11, none, none, .mov (.t kk8)⟩,
    ⟨some kk12, none, none, .mov (.t kk0)⟩,
    ⟨some kk13, none, none, .lenS (.t kk12)⟩,
    ⟨some kk14, none, none, .bin .lss (.t kk11) (.t kk13)⟩])
   (.cond (.t kk14)
    .skip
    (.exit 0)))
   (.seq (.block 1 (.seq (.seq (.region false [⟨some kk17, none, none, .mov (.t kk0)⟩,
     ⟨some kk18, none, none, .mov (.t kk8)⟩,
     ⟨some kk19, none, none, .idxStr (.t kk17) (.t kk18)⟩,
     ⟨some kk20, none, none, .bin .neq (.t kk19) (.c (.int .u8 (.ofNat 39)))⟩])
    (.cond (.t kk20)
     (.seq (.region false [⟨some kk21, none, none, .mov (.t kk0)⟩,
      ⟨some kk22, none, none, .mov (.t kk8)⟩,
      ⟨some kk23, none, none, .idxStr (.t kk21) (.t kk22)⟩,
      ⟨some kk24, none, none, .call 68 [(.t kk7), (.t kk23)]⟩])
     (.exit 1))
     .skip))
    (.seq (.seq (.region false [⟨some kk25, none, none, .mov (.t kk8)⟩,
     ⟨some kk26, none, none, .bin .add (.t kk25) (.c (.int .i64 (.ofNat 1)))⟩,
     ⟨some kk27, none, none, .mov (.t kk0)⟩,
     ⟨some kk28, none, none, .lenS (.t kk27)⟩,
     ⟨some kk29, none, none, .bin .eql (.t kk26) (.t kk28)⟩,
     ⟨some kk30, none, none, .mov (.t kk29)⟩,
     ⟨some kk31, some (kk30, false), none, .mov (.t kk0)⟩,
     ⟨some kk32, some (kk30, false), none, .mov (.t kk8)⟩,
     ⟨some kk33, some (kk30, false), none, .bin .add (.t kk32) (.c (.int .i64 (.ofNat 1)))⟩,
     ⟨some kk34, some (kk30, false), none, .idxStr (.t kk31) (.t kk33)⟩,
     ⟨some kk35, some (kk30, false), none, .bin .neq (.t kk34) (.c (.int .u8 (.ofNat 39)))⟩,
     ⟨some kk36, none, none, .pick (.t kk30) (.c (.bool true)) (.t kk35)⟩])
    (.cond (.t kk36)
     (.seq (.region false [⟨some kk37, none, none, .call 71 [(.t kk7)]⟩,
      ⟨some kk38, none, none, .mov (.t kk8)⟩,
      ⟨some kk39, none, none, .bin .add (.t kk38) (.c (.int .i64 (.ofNat 1)))⟩,
      ⟨some kk4, none, none, .mov (.t kk37)⟩,
      ⟨some kk5, none, none, .mov (.t kk39)⟩,
      ⟨some kk6, none, none, .mov (.c (.int .i64 (.ofNat 0)))⟩])
     .ret)
     .skip))
    (.seq (.region false [⟨some kk40, none, none, .call 68 [(.t kk7), (.c (.int .u8 (.ofNat 39)))]⟩])
    (.region false [⟨some kk41, none, none, .mov (.t kk8)⟩,
     ⟨some kk42, none, none, .bin .add (.t kk41) (.c (.int .i64 (.ofNat 1)))⟩,
     ⟨some kk8, none, none, .mov (.t kk42)⟩])))))
   (.region false [⟨some kk15, none, none, .mov (.t kk8)⟩,
    ⟨some kk16, none, none, .bin .add (.t kk15) (.c (.int .i64 (.ofNat 1)))⟩,
    ⟨some kk8, none, none, .mov (.t kk16)⟩]))))))
 (.seq (.region false [⟨some kk4, none, none, .mov (.c (.str 0 0))⟩,
  ⟨some kk5, none, none, .mov (.c (.int .i64 (.ofNat 0)))⟩,
  ⟨some kk6, none, none, .mov (.c (.int .i64 (.ofNat 2)))⟩])
 .ret)))) }
theorem fn33 : fnOf Tryz.prog Tryz.f33 = some i33 := by kernel_rfl
/-- strings.IndexByte -/
noncomputable def i34 : IFn := { nt := 8, ps := [kk0, kk1], res := [.tmp kk4], body :=
 (.seq (.region false [⟨some kk4, none, none, .mov (.c (.int .i64 (.ofNat 0)))⟩])
 (.seq (.region false [⟨some kk5, none, none, .mov (.t kk0)⟩,
  ⟨some kk6, none, none, .mov (.t kk1)⟩,
  ⟨some kk7, none, none, .call 76 [(.t kk5), (.t kk6)]⟩,
  ⟨some kk4, none, none, .mov (.t kk7)⟩])
 .ret)) }
theorem fn34 : fnOf Tryz.prog Tryz.f34 = some i34 := by kernel_rfl
/-- (*annalist.parser.parser).tok -/
noncomputable def i35 : IFn := { nt := 13, ps := [kk0], res := [.cell kk2 3 true], body :=
 (.seq (.region false [⟨some kk2, none, none, .boxz 35 3 32 [(.int .i64 (.ofNat 0)), (.int .i64 (.ofNat 0)), (.str 0 0)]⟩])
 (.seq (.region true [⟨some kk3, none, none, .mov (.t kk0)⟩,
  ⟨some kk4, none, none, .nilck (.t kk3)⟩,
  ⟨some kk5, none, none, .offs (.t kk4) 0⟩,
  ⟨some kk6, none, some [], .load 1 false (.t kk5)⟩,
  ⟨some kk7, none, none, .mov (.t kk0)⟩,
  ⟨some kk8, none, none, .nilck (.t kk7)⟩,
  ⟨some kk9, none, none, .offs (.t kk8) 1⟩,
  ⟨some kk10, none, some [0], .load 1 false (.t kk9)⟩,
  ⟨some kk11, none, none, .idxSl 3 (.t kk6) (.t kk10)⟩,
  ⟨some kk12, none, some [], .load 3 true (.t kk11)⟩,
  ⟨none, none, some [], .store 3 (.t kk2) (.t kk12)⟩])
 .ret)) }
theorem fn35 : fnOf Tryz.prog Tryz.f35 = some i35 := by kernel_rfl
/-- (*annalist.parser.parser).fail -/
noncomputable def i36 : IFn := { nt := 19, ps := [kk0, kk1], res := [], body :=
 (.seq (.region false [⟨some kk4, none, none, .mov (.t kk0)⟩,
  ⟨some kk5, none, none, .nilck (.t kk4)⟩,
  ⟨some kk6, none, none, .offs (.t kk5) 3⟩,
  ⟨some kk7, none, none, .load 1 false (.t kk6)⟩,
  ⟨some kk8, none, none, .bin .eql (.t kk7) (.c (.int .i64 (.ofNat 0)))⟩])
 (.cond (.t kk8)
  (.region false [⟨some kk9, none, none, .mov (.t kk0)⟩,
   ⟨some kk10, none, none, .mov (.t kk0)⟩,
   ⟨some kk11, none, none, .mov (.t kk1)⟩,
   ⟨some kk12, none, none, .mov (.t kk0)⟩,
   ⟨some kk13, none, none, .call 35 [(.t kk12)]⟩,
   ⟨some kk14, none, none, .sub (.t kk13) 1 1 false⟩,
   ⟨some kk15, none, none, .nilck (.t kk9)⟩,
   ⟨some kk16, none, none, .offs (.t kk15) 3⟩,
   ⟨none, none, none, .store 1 (.t kk16) (.t kk11)⟩,
   ⟨some kk17, none, none, .nilck (.t kk10)⟩,
   ⟨some kk18, none, none, .offs (.t kk17) 2⟩,
   ⟨none, none, none, .store 1 (.t kk18) (.t kk14)⟩])
  .skip)) }
theorem fn36 : fnOf Tryz.prog Tryz.f36 = some i36 := by kernel_rfl
/-- (*annalist.parser.parser).core -/
noncomputable def i37 : IFn := { nt := 72, ps := [kk0, kk1], res := [.cell kk4 7 true], body :=
 (.seq (.region false [⟨some kk4, none, none, .boxz 84 7 120 [(.bool false), .nilslice, .nilslice, .nilslice, (.int .i64 (.ofNat 0)), (.bool false), .nilslice]⟩])
 (.seq (.region false [⟨some kk6, none, none, .mov (.t kk0)⟩,
  ⟨some kk7, none, none, .nilck (.t kk6)⟩,
  ⟨some kk8, none, none, .offs (.t kk7) 5⟩,
  ⟨none, none, none, .store 1 (.t kk8) (.c .nilslice)⟩])
 (.seq (.region false [⟨some kk9, none, none, .mov (.t kk0)⟩,
  ⟨some kk10, none, none, .buildSl 9 1 16 1 [(.str 0 0)] [(0, (.c (.str 6 92647902168403)))]⟩,
  ⟨some kk11, none, none, .call 39 [(.t kk9), (.t kk10)]⟩])
 (.seq (.region false [⟨some kk12, none, none, .mov (.t kk0)⟩,
  ⟨some kk13, none, none, .call 38 [(.t kk12), (.c (.str 8 6071782799479884100))]⟩,
  ⟨some kk14, none, none, .build [(.bool false), .nilslice, .nilslice, .nilslice, (.int .i64 (.ofNat 0)), (.bool false), .nilslice] [(0, 1, (.t kk13))]⟩,
  ⟨some kk5, none, none, .boxz 84 7 120 [(.bool false), .nilslice, .nilslice, .nilslice, (.int .i64 (.ofNat 0)), (.bool false), .nilslice]⟩,
  ⟨none, none, none, .store 7 (.t kk5) (.t kk14)⟩])
 (.seq (.seq (.region false [⟨some kk15, none, none, .mov (.t kk0)⟩,
  ⟨some kk16, none, none, .call 77 [(.t kk15), (.c (.str 1 42))]⟩,
  ⟨some kk17, none, none, .un .not (.t kk16)⟩])
 (.cond (.t kk17)
  (.seq (.region true [⟨some kk18, none, none, .offs (.t kk5) 2⟩,
   ⟨some kk19, none, some [], .load 1 false (.t kk18)⟩,
   ⟨some kk20, none, none, .mov (.t kk0)⟩,
   ⟨some kk21, none, some [0], .call 78 [(.t kk20)]⟩,
   ⟨some kk22, none, some [1], .buildSl 138 3 32 1 [(.int .i64 (.ofNat 0)), (.int .i64 (.ofNat 0)), (.str 0 0)] [(0, (.t kk21))]⟩,
   ⟨some kk23, none, some [], .app 138 3 32 (.t kk19) (.t kk22)⟩,
   ⟨some kk24, none, none, .offs (.t kk5) 2⟩,
   ⟨none, none, some [], .store 1 (.t kk24) (.t kk23)⟩])
  (.block 0 (.loop (.seq (.seq (.region false [⟨some kk25, none, none, .mov (.t kk0)⟩,
     ⟨some kk26, none, none, .call 77 [(.t kk25), (.c (.str 1 44))]⟩])
    (.cond (.t kk26)
     .skip
     (.exit 0)))
    (.block 1 (.region true [⟨some kk27, none, none, .offs (.t kk5) 2⟩,
      ⟨some kk28, none, some [], .load 1 false (.t kk27)⟩,
      ⟨some kk29, none, none, .mov (.t kk0)⟩,
      ⟨some kk30, none, some [0], .call 78 [(.t kk29)]⟩,
      ⟨some kk31, none, some [1], .buildSl 138 3 32 1 [(.int .i64 (.ofNat 0)), (.int .i64 (.ofNat 0)), (.str 0 0)] [(0, (.t kk30))]⟩,
      ⟨some kk32, none, some [], .app 138 3 32 (.t kk28) (.t kk31)⟩,
      ⟨some kk33, none, none, .offs (.t kk5) 2⟩,
      ⟨none, none, some [], .store 1 (.t kk33) (.t kk32)⟩]))))))
  .skip))
 (.seq (.region false [⟨some kk34, none, none, .mov (.t kk0)⟩,
  ⟨some kk35, none, none, .buildSl 9 1 16 1 [(.str 0 0)] [(0, (.c (.str 4 1297044038)))]⟩,
  ⟨some kk36, none, none, .call 39 [(.t kk34), (.t kk35)]⟩])
 (.seq (.region false [⟨some kk37, none, none, .mov (.t kk0)⟩,
  ⟨some kk38, none, none, .mov (.t kk1)⟩,
  ⟨some kk39, none, none, .call 79 [(.t kk37), (.t kk38)]⟩,
  ⟨some kk40, none, none, .offs (.t kk5) 3⟩,
  ⟨none, none, none, .store 1 (.t kk40) (.t kk39)⟩])
 (.seq (.region false [⟨some kk41, none, none, .mov (.t kk0)⟩,
  ⟨some kk42, none, none, .call 80 [(.t kk41)]⟩,
  ⟨some kk43, none, none, .offs (.t kk5) 4⟩,
  ⟨none, none, none, .store 1 (.t kk43) (.t kk42)⟩])
 (.seq (.seq (.region false [⟨some kk44, none, none, .mov (.t kk0)⟩,
  ⟨some kk45, none, none, .call 38 [(.t kk44), (.c (.str 5 345028645447))]⟩])
 (.cond (.t kk45)
  (.seq (.region false [⟨some kk46, none, none, .mov (.t kk0)⟩,
   ⟨some kk47, none, none, .buildSl 9 1 16 1 [(.str 0 0)] [(0, (.c (.str 2 22850)))]⟩,
   ⟨some kk48, none, none, .call 39 [(.t kk46), (.t kk47)]⟩])
  (.seq (.region false [⟨some kk49, none, none, .offs (.t kk5) 5⟩,
   ⟨none, none, none, .store 1 (.t kk49) (.c (.bool true))⟩])
  (.seq (.region true [⟨some kk50, none, none, .offs (.t kk5) 6⟩,
   ⟨some kk51, none, some [], .load 1 false (.t kk50)⟩,
   ⟨some kk52, none, none, .mov (.t kk0)⟩,
   ⟨some kk53, none, some [0], .call 81 [(.t kk52)]⟩,
   ⟨some kk54, none, some [1], .buildSl 3 1 8 1 [(.int .i64 (.ofNat 0))] [(0, (.t kk53))]⟩,
   ⟨some kk55, none, some [], .app 3 1 8 (.t kk51) (.t kk54)⟩,
   ⟨some kk56, none, none, .offs (.t kk5) 6⟩,
   ⟨none, none, some [], .store 1 (.t kk56) (.t kk55)⟩])
  (.block 2 (.loop (.seq (.seq (.region false [⟨some kk57, none, none, .mov (.t kk0)⟩,
     ⟨some kk58, none, none, .call 77 [(.t kk57), (.c (.str 1 44))]⟩])
    (.cond (.t kk58)
     .skip
     (.exit 2)))
    (.block 3 (.region true [⟨some kk59, none, none, .offs (.t kk5) 6⟩,
      ⟨some kk60, none, some [], .load 1 false (.t kk59)⟩,
      ⟨some kk61, none, none, .mov (.t kk0)⟩,
      ⟨some kk62, none, some [0], .call 81 [(.t kk61)]⟩,
      ⟨some kk63, none, some [1], .buildSl 3 1 8 1 [(.int .i64 (.ofNat 0))] [(0, (.t kk62))]⟩,
      ⟨some kk64, none, some [], .app 3 1 8 (.t kk60) (.t kk63)⟩,
      ⟨some kk65, none, none, .offs (.t kk5) 6⟩,
      ⟨none, none, some [], .store 1 (.t kk65) (.t kk64)⟩]))))))))
  .skip))
 (.seq (.region false [⟨some kk66, none, none, .mov (.t kk0)⟩,
  ⟨some kk67, none, none, .nilck (.t kk66)⟩,
  ⟨some kk68, none, none, .offs (.t kk67) 5⟩,
  ⟨some kk69, none, none, .load 1 false (.t kk68)⟩,
  ⟨some kk70, none, none, .offs (.t kk5) 1⟩,
  ⟨none, none, none, .store 1 (.t kk70) (.t kk69)⟩])
 (.seq (.region false [⟨some kk71, none, none, .load 7 true (.t kk5)⟩,
  ⟨none, none, none, .store 7 (.t kk4) (.t kk71)⟩])
 .ret))))))))))) }
theorem fn37 : fnOf Tryz.prog Tryz.f37 = some i37 := by kernel_rfl
/-- (*annalist.parser.parser).keyword -/
noncomputable def i38 : IFn := { nt := 8, ps := [kk0, kk1], res := [.tmp kk4], body :=
 (.seq (.region false [⟨some kk4, none, none, .mov (.c (.bool false))⟩])
 (.seq (.region false [⟨some kk5, none, none, .mov (.t kk0)⟩,
  ⟨some kk6, none, none, .mov (.t kk1)⟩,
  ⟨some kk7, none, none, .call 82 [(.t kk5), (.c (.int .i64 (.ofNat 1))), (.t kk6)]⟩,
  ⟨some kk4, none, none, .mov (.t kk7)⟩])
 .ret)) }
theorem fn38 : fnOf Tryz.prog Tryz.f38 = some i38 := by kernel_rfl
/-- (*annalist.parser.parser).keywords -/
noncomputable def i39 : IFn := { nt := 19, ps := [kk0, kk1], res := [], body :=
 (.seq (.region false [⟨some kk6, none, none, .mov (.t kk1)⟩,
  ⟨some kk7, none, none, .len (.t kk6)⟩,
  ⟨some kk8, none, none, .mov (.c (.int .i64 (.ofNat 0)))⟩])
 (.block 0 (.loop (.seq (.region false [⟨some kk9, none, none, .bin .lss (.t kk8) (.t kk7)⟩])
   (.seq (.cond (.t kk9)
    .skip
    (.exit 0))
   (.seq (.block 1 (.seq (.region false [⟨some kk10, none, none, .idxSl 1 (.t kk6) (.t kk8)⟩,
     ⟨some kk11, none, none, .load 1 false (.t kk10)⟩,
     ⟨some kk5, none, none, .mov (.t kk11)⟩])
    (.seq (.region false [⟨some kk12, none, none, .mov (.t kk0)⟩,
     ⟨some kk13, none, none, .mov (.t kk5)⟩,
     ⟨some kk14, none, none, .call 38 [(.t kk12), (.t kk13)]⟩,
     ⟨some kk15, none, none, .un .not (.t kk14)⟩])
    (.cond (.t kk15)
     (.region false [⟨some kk16, none, none, .mov (.t kk0)⟩,
      ⟨some kk17, none, none, .call 36 [(.t kk16), (.c (.int .i64 (.ofNat 5)))]⟩])
     .skip))))
   (.region false [⟨some kk18, none, none, .bin .add (.t kk8) (.c (.int .i64 (.ofNat 1)))⟩,
    ⟨some kk8, none, none, .mov (.t kk18)⟩]))))))) }
theorem fn39 : fnOf Tryz.prog Tryz.f39 = some i39 := by kernel_rfl
/-- annalist.parser.parseTokens$1 -/
noncomputable def i40 : IFn := { nt := 4, ps := [kk0, kk1], res := [], body :=
 (.region false [⟨some kk2, none, none, .load 1 false (.t kk0)⟩,
  ⟨some kk3, none, none, .call 41 [(.t kk2)]⟩,
  ⟨none, none, none, .store 21 (.t kk1) (.t kk3)⟩]) }
theorem fn40 : fnOf Tryz.prog Tryz.f40 = some i40 := by kernel_rfl
/-- (*annalist.parser.parser).statement -/
noncomputable def i41 : IFn := { nt := 59, ps := [kk0], res := [.cell kk2 21 true], body :=
 (.seq (.region false [⟨some kk2, none, none, .boxz 48 21 328 [(.int .i64 (.ofNat 0)), (.int .i64 (.ofNat 0)), (.int .i64 (.ofNat 0)), (.int .i64 (.ofNat 0)), .nilslice, .nilslice, (.str 0 0), (.str 0 0), .nilslice, (.int .i64 (.ofNat 0)), (.int .i64 (.ofNat 0)), .nilslice, (.int .i64 (.ofNat 0)), .nilslice, .nilslice, .nilslice, .nilslice, .nilslice, (.int .i64 (.ofNat 0)), (.int .i64 (.ofNat 0)), (.int .i64 (.ofNat 0))]⟩])
 (.seq (.block 0 (.seq (.region false [⟨some kk4, none, none, .mov (.t kk0)⟩,
   ⟨some kk5, none, none, .call 38 [(.t kk4), (.c (.str 6 92712327138889))]⟩,
   ⟨some kk3, none, none, .mov (.t kk5)⟩])
  (.cond (.t kk3)
   (.seq (.region false [⟨some kk6, none, none, .mov (.t kk0)⟩,
    ⟨some kk7, none, none, .call 83 [(.t kk6)]⟩,
    ⟨none, none, none, .store 21 (.t kk2) (.t kk7)⟩])
   .ret)
   (.seq (.region false [⟨some kk9, none, none, .mov (.t kk0)⟩,
    ⟨some kk10, none, none, .call 38 [(.t kk9), (.c (.str 6 76228242195780))]⟩,
    ⟨some kk8, none, none, .mov (.t kk10)⟩])
   (.cond (.t kk8)
    (.seq (.region false [⟨some kk11, none, none, .mov (.t kk0)⟩,
     ⟨some kk12, none, none, .call 84 [(.t kk11)]⟩,
     ⟨none, none, none, .store 21 (.t kk2) (.t kk12)⟩])
    .ret)
    (.seq (.region false [⟨some kk14, none, none, .mov (.t kk0)⟩,
     ⟨some kk15, none, none, .call 38 [(.t kk14), (.c (.str 6 76228174565461))]⟩,
     ⟨some kk13, none, none, .mov (.t kk15)⟩])
    (.cond (.t kk13)
     (.seq (.region false [⟨some kk16, none, none, .mov (.t kk0)⟩,
      ⟨some kk17, none, none, .call 85 [(.t kk16)]⟩,
      ⟨none, none, none, .store 21 (.t kk2) (.t kk17)⟩])
     .ret)
     (.seq (.region false [⟨some kk19, none, none, .mov (.t kk0)⟩,
      ⟨some kk20, none, none, .call 38 [(.t kk19), (.c (.str 6 76228174631491))]⟩,
      ⟨some kk18, none, none, .mov (.t kk20)⟩])
     (.cond (.t kk18)
      (.seq (.region false [⟨some kk21, none, none, .mov (.t kk0)⟩,
       ⟨some kk22, none, none, .call 86 [(.t kk21)]⟩,
       ⟨none, none, none, .store 21 (.t kk2) (.t kk22)⟩])
      .ret)
      (.seq (.region false [⟨some kk24, none, none, .mov (.t kk0)⟩,
       ⟨some kk25, none, none, .call 38 [(.t kk24), (.c (.str 5 353350470721))]⟩,
       ⟨some kk23, none, none, .mov (.t kk25)⟩])
      (.cond (.t kk23)
       (.seq (.region false [⟨some kk26, none, none, .mov (.t kk0)⟩,
        ⟨some kk27, none, none, .call 87 [(.t kk26)]⟩,
        ⟨none, none, none, .store 21 (.t kk2) (.t kk27)⟩])
       .ret)
       (.seq (.region false [⟨some kk29, none, none, .mov (.t kk0)⟩,
        ⟨some kk30, none, none, .call 38 [(.t kk29), (.c (.str 4 1163151683))]⟩,
        ⟨some kk28, none, none, .mov (.t kk30)⟩])
       (.cond (.t kk28)
        (.seq (.region false [⟨some kk31, none, none, .mov (.t kk0)⟩,
         ⟨some kk32, none, none, .call 88 [(.t kk31)]⟩,
         ⟨none, none, none, .store 21 (.t kk2) (.t kk32)⟩])
        .ret)
        (.seq (.region false [⟨some kk34, none, none, .mov (.t kk0)⟩,
         ⟨some kk35, none, none, .call 38 [(.t kk34), (.c (.str 6 83890396153170))]⟩,
         ⟨some kk33, none, none, .mov (.t kk35)⟩])
        (.cond (.t kk33)
         (.seq (.region false [⟨some kk36, none, none, .build [(.int .i64 (.ofNat 0)), (.int .i64 (.ofNat 0)), (.int .i64 (.ofNat 0)), (.int .i64 (.ofNat 0)), .nilslice, .nilslice, (.str 0 0), (.str 0 0), .nilslice, (.int .i64 (.ofNat 0)), (.int .i64 (.ofNat 0)), .nilslice, (.int .i64 (.ofNat 0)), .nilslice, .nilslice, .nilslice, .nilslice, .nilslice, (.int .i64 (.ofNat 0)), (.int .i64 (.ofNat 0)), (.int .i64 (.ofNat 0))] [(0, 1, (.c (.int .i64 (.ofNat 9))))]⟩,
          ⟨none, none, none, .store 21 (.t kk2) (.t kk36)⟩])
         .ret)
         (.seq (.region false [⟨some kk38, none, none, .mov (.t kk0)⟩,
          ⟨some kk39, none, none, .call 38 [(.t kk38), (.c (.str 4 1145851720))]⟩,
          ⟨some kk37, none, none, .mov (.t kk39)⟩])
         (.cond (.t kk37)
          (.seq (.region false [⟨some kk40, none, none, .mov (.t kk0)⟩,
           ⟨some kk41, none, none, .call 89 [(.t kk40)]⟩,
           ⟨none, none, none, .store 21 (.t kk2) (.t kk41)⟩])
          .ret)
          (.seq (.region false [⟨some kk43, none, none, .mov (.t kk0)⟩,
           ⟨some kk44, none, none, .call 38 [(.t kk43), (.c (.str 7 19513313193641298))]⟩,
           ⟨some kk42, none, none, .mov (.t kk44)⟩])
          (.cond (.t kk42)
           (.seq (.region false [⟨some kk45, none, none, .mov (.t kk0)⟩,
            ⟨some kk46, none, none, .call 90 [(.t kk45), (.c (.int .i64 (.negSucc 0)))]⟩,
            ⟨some kk47, none, none, .build [(.int .i64 (.ofNat 0)), (.int .i64 (.ofNat 0)), (.int .i64 (.ofNat 0)), (.int .i64 (.ofNat 0)), .nilslice, .nilslice, (.str 0 0), (.str 0 0), .nilslice, (.int .i64 (.ofNat 0)), (.int .i64 (.ofNat 0)), .nilslice, (.int .i64 (.ofNat 0)), .nilslice, .nilslice, .nilslice, .nilslice, .nilslice, (.int .i64 (.ofNat 0)), (.int .i64 (.ofNat 0)), (.int .i64 (.ofNat 0))] [(0, 1, (.c (.int .i64 (.ofNat 11)))), (18, 1, (.t kk46))]⟩,
            ⟨none, none, none, .store 21 (.t kk2) (.t kk47)⟩])
           .ret)
           (.seq (.region false [⟨some kk49, none, none, .mov (.t kk0)⟩,
            ⟨some kk50, none, none, .call 38 [(.t kk49), (.c (.str 6 92656526053190))]⟩,
            ⟨some kk48, none, none, .mov (.t kk50)⟩])
           (.cond (.t kk48)
            (.seq (.region false [⟨some kk51, none, none, .mov (.t kk0)⟩,
             ⟨some kk52, none, none, .buildSl 9 1 16 1 [(.str 0 0)] [(0, (.c (.str 5 374992553282)))]⟩,
             ⟨some kk53, none, none, .call 39 [(.t kk51), (.t kk52)]⟩])
            (.seq (.region false [⟨some kk54, none, none, .mov (.t kk0)⟩,
             ⟨some kk55, none, none, .call 90 [(.t kk54), (.c (.int .i64 (.negSucc 0)))]⟩,
             ⟨some kk56, none, none, .build [(.int .i64 (.ofNat 0)), (.int .i64 (.ofNat 0)), (.int .i64 (.ofNat 0)), (.int .i64 (.ofNat 0)), .nilslice, .nilslice, (.str 0 0), (.str 0 0), .nilslice, (.int .i64 (.ofNat 0)), (.int .i64 (.ofNat 0)), .nilslice, (.int .i64 (.ofNat 0)), .nilslice, .nilslice, .nilslice, .nilslice, .nilslice, (.int .i64 (.ofNat 0)), (.int .i64 (.ofNat 0)), (.int .i64 (.ofNat 0))] [(0, 1, (.c (.int .i64 (.ofNat 12)))), (18, 1, (.t kk55))]⟩,
             ⟨none, none, none, .store 21 (.t kk2) (.t kk56)⟩])
            .ret))
            .skip)))))))))))))))))))))
 (.seq (.region false [⟨some kk57, none, none, .mov (.t kk0)⟩,
  ⟨some kk58, none, none, .call 91 [(.t kk57)]⟩,
  ⟨none, none, none, .store 21 (.t kk2) (.t kk58)⟩])
 .ret))) }
theorem fn41 : fnOf Tryz.prog Tryz.f41 = some i41 := by kernel_rfl
/-- (*annalist.parser.printer).keywords -/
noncomputable def i42 : IFn := { nt := 16, ps := [kk0, kk1], res := [], body :=
 (.seq (.region false [⟨some kk6, none, none, .mov (.t kk1)⟩,
  ⟨some kk7, none, none, .len (.t kk6)⟩,
  ⟨some kk8, none, none, .mov (.c (.int .i64 (.ofNat 0)))⟩])
 (.block 0 (.loop (.seq (.region false [⟨some kk9, none, none, .bin .lss (.t kk8) (.t kk7)⟩])
   (.seq (.cond (.t kk9)
    .skip
    (.exit 0))
   (.seq (.block 1 (.seq (.region false [⟨some kk10, none, none, .idxSl 1 (.t kk6) (.t kk8)⟩,
     ⟨some kk11, none, none, .load 1 false (.t kk10)⟩,
     ⟨some kk5, none, none, .mov (.t kk11)⟩])
    (.region false [⟨some kk12, none, none, .mov (.t kk0)⟩,
     ⟨some kk13, none, none, .mov (.t kk5)⟩,
     ⟨some kk14, none, none, .call 92 [(.t kk12), (.c (.int .i64 (.ofNat 1))), (.t kk13)]⟩])))
   (.region false [⟨some kk15, none, none, .bin .add (.t kk8) (.c (.int .i64 (.ofNat 1)))⟩,
    ⟨some kk8, none, none, .mov (.t kk15)⟩]))))))) }
theorem fn42 : fnOf Tryz.prog Tryz.f42 = some i42 := by kernel_rfl
/-- (*annalist.parser.printer).name -/
noncomputable def i43 : IFn := { nt := 7, ps := [kk0, kk1], res := [], body :=
 (.region false [⟨some kk4, none, none, .mov (.t kk0)⟩,
  ⟨some kk5, none, none, .mov (.t kk1)⟩,
  ⟨some kk6, none, none, .call 92 [(.t kk4), (.c (.int .i64 (.ofNat 2))), (.t kk5)]⟩]) }
theorem fn43 : fnOf Tryz.prog Tryz.f43 = some i43 := by kernel_rfl
/-- (*annalist.parser.printer).sign -/
noncomputable def i44 : IFn := { nt := 7, ps := [kk0, kk1], res := [], body :=
 (.region false [⟨some kk4, none, none, .mov (.t kk0)⟩,
  ⟨some kk5, none, none, .mov (.t kk1)⟩,
  ⟨some kk6, none, none, .call 92 [(.t kk4), (.c (.int .i64 (.ofNat 5))), (.t kk5)]⟩]) }
theorem fn44 : fnOf Tryz.prog Tryz.f44 = some i44 := by kernel_rfl
/-- (*annalist.parser.printer).separate -/
noncomputable def i45 : IFn := { nt := 8, ps := [kk0, kk1], res := [], body :=
 (.seq (.region false [⟨some kk4, none, none, .mov (.t kk1)⟩,
  ⟨some kk5, none, none, .bin .gtr (.t kk4) (.c (.int .i64 (.ofNat 0)))⟩])
 (.cond (.t kk5)
  (.region false [⟨some kk6, none, none, .mov (.t kk0)⟩,
   ⟨some kk7, none, none, .call 44 [(.t kk6), (.c (.str 1 44))]⟩])
  .skip)) }
theorem fn45 : fnOf Tryz.prog Tryz.f45 = some i45 := by kernel_rfl
/-- (*annalist.parser.printer).literal -/
noncomputable def i46 : IFn := { nt := 42, ps := [kk0, kk1], res := [], body :=
 (.seq (.region false [⟨some kk3, none, none, .box 91 3 32 (.t kk1)⟩])
 (.seq (.region false [⟨some kk5, none, none, .offs (.t kk3) 0⟩,
  ⟨some kk6, none, none, .load 1 false (.t kk5)⟩])
 (.block 0 (.seq (.region false [⟨some kk11, none, none, .bin .eql (.t kk6) (.c (.int .i64 (.ofNat 1)))⟩,
   ⟨some kk10, none, none, .mov (.t kk11)⟩])
  (.cond (.t kk10)
   (.seq (.region false [⟨some kk12, none, none, .offs (.t kk3) 1⟩,
    ⟨some kk13, none, none, .load 1 false (.t kk12)⟩,
    ⟨some kk14, none, none, .call 93 [(.t kk13), (.c (.int .i64 (.ofNat 10)))]⟩,
    ⟨some kk4, none, none, .mov (.t kk14)⟩])
   (.seq (.seq (.region false [⟨some kk15, none, none, .offs (.t kk3) 1⟩,
    ⟨some kk16, none, none, .load 1 false (.t kk15)⟩,
    ⟨some kk17, none, none, .bin .lss (.t kk16) (.c (.int .i64 (.ofNat 0)))⟩])
   (.cond (.t kk17)
    (.seq (.region false [⟨some kk18, none, none, .mov (.t kk0)⟩,
     ⟨some kk19, none, none, .call 44 [(.t kk18), (.c (.str 1 45))]⟩])
    (.region false [⟨some kk20, none, none, .mov (.t kk4)⟩,
     ⟨some kk21, none, none, .slStr (.t kk20) (some (.c (.int .i64 (.ofNat 1)))) none⟩,
     ⟨some kk4, none, none, .mov (.t kk21)⟩]))
    .skip))
   (.region false [⟨some kk22, none, none, .mov (.t kk0)⟩,
    ⟨some kk23, none, none, .mov (.t kk4)⟩,
    ⟨some kk24, none, none, .call 92 [(.t kk22), (.c (.int .i64 (.ofNat 3))), (.t kk23)]⟩])))
   (.seq (.region false [⟨some kk26, none, none, .bin .eql (.t kk6) (.c (.int .i64 (.ofNat 2)))⟩,
    ⟨some kk25, none, none, .mov (.t kk26)⟩])
   (.cond (.t kk25)
    (.region false [⟨some kk27, none, none, .mov (.t kk0)⟩,
     ⟨some kk28, none, none, .offs (.t kk3) 2⟩,
     ⟨some kk29, none, none, .load 1 false (.t kk28)⟩,
     ⟨some kk30, none, none, .call 94 [(.t kk27), (.t kk29)]⟩])
    (.seq (.region false [⟨some kk32, none, none, .bin .eql (.t kk6) (.c (.int .i64 (.ofNat 3)))⟩,
     ⟨some kk31, none, none, .mov (.t kk32)⟩])
    (.cond (.t kk31)
     (.seq (.region false [⟨some kk33, none, none, .offs (.t kk3) 1⟩,
      ⟨some kk34, none, none, .load 1 false (.t kk33)⟩,
      ⟨some kk35, none, none, .bin .eql (.t kk34) (.c (.int .i64 (.ofNat 0)))⟩])
     (.cond (.t kk35)
      (.region false [⟨some kk36, none, none, .mov (.t kk0)⟩,
       ⟨some kk37, none, none, .buildSl 9 1 16 1 [(.str 0 0)] [(0, (.c (.str 5 297750249798)))]⟩,
       ⟨some kk38, none, none, .call 42 [(.t kk36), (.t kk37)]⟩])
      (.region false [⟨some kk39, none, none, .mov (.t kk0)⟩,
       ⟨some kk40, none, none, .buildSl 9 1 16 1 [(.str 0 0)] [(0, (.c (.str 4 1163219540)))]⟩,
       ⟨some kk41, none, none, .call 42 [(.t kk39), (.t kk40)]⟩])))
     (.region false [⟨some kk7, none, none, .mov (.t kk0)⟩,
      ⟨some kk8, none, none, .buildSl 9 1 16 1 [(.str 0 0)] [(0, (.c (.str 4 1280070990)))]⟩,
      ⟨some kk9, none, none, .call 42 [(.t kk7), (.t kk8)]⟩])))))))))) }
theorem fn46 : fnOf Tryz.prog Tryz.f46 = some i46 := by kernel_rfl
/-- (*annalist.parser.printer).portion -/
noncomputable def i47 : IFn := { nt := 13, ps := [kk0, kk1, kk2], res := [], body :=
 (.seq (.region false [⟨some kk4, none, none, .box 40 2 16 (.t kk1)⟩])
 (.seq (.region false [⟨some kk6, none, none, .mov (.t kk0)⟩,
  ⟨some kk7, none, none, .mov (.t kk2)⟩,
  ⟨some kk8, none, none, .call 42 [(.t kk6), (.t kk7)]⟩])
 (.region false [⟨some kk9, none, none, .mov (.t kk0)⟩,
  ⟨some kk10, none, none, .load 2 true (.t kk4)⟩,
  ⟨some kk11, none, none, .call 95 [(.t kk10)]⟩,
  ⟨some kk12, none, none, .call 94 [(.t kk9), (.t kk11)]⟩]))) }
theorem fn47 : fnOf Tryz.prog Tryz.f47 = some i47 := by kernel_rfl
/-- annalist.parser.measure -/
noncomputable def i48 : IFn := { nt := 141, ps := [kk0], res := [.cell kk2 2 true], body :=
 (.seq (.region false [⟨some kk2, none, none, .boxz 96 2 48 [.nilslice, .nilslice]⟩])
 (.seq (.region false [⟨some kk7, none, none, .mov (.t kk0)⟩,
  ⟨some kk8, none, none, .mov (.t kk0)⟩,
  ⟨some kk9, none, none, .len (.t kk8)⟩,
  ⟨some kk10, none, none, .mksl 3 1 8 [(.int .i64 (.ofNat 0))] (.t kk9) (.t kk9)⟩,
  ⟨some kk11, none, none, .build [.nilslice, .nilslice] [(0, 1, (.t kk7)), (1, 1, (.t kk10))]⟩,
  ⟨some kk3, none, none, .boxz 96 2 48 [.nilslice, .nilslice]⟩,
  ⟨none, none, none, .store 2 (.t kk3) (.t kk11)⟩])
 (.seq (.seq (.region false [⟨some kk12, none, none, .mov (.t kk0)⟩,
  ⟨some kk13, none, none, .len (.t kk12)⟩,
  ⟨some kk14, none, none, .mov (.c (.int .i64 (.ofNat 0)))⟩])
 (.block 0 (.loop (.seq (.region false [⟨some kk15, none, none, .bin .lss (.t kk14) (.t kk13)⟩])
   (.seq (.cond (.t kk15)
    .skip
    (.exit 0))
   (.seq (.block 1 (.seq (.region false [⟨some kk16, none, none, .mov (.t kk14)⟩,
     ⟨some kk17, none, none, .idxSl 8 (.t kk12) (.t kk14)⟩,
     ⟨some kk18, none, none, .load 8 true (.t kk17)⟩,
     ⟨some kk5, none, none, .boxz 111 8 88 [(.int .i64 (.ofNat 0)), (.int .i64 (.ofNat 0)), (.int .i64 (.ofNat 0)), (.str 0 0), (.str 0 0), (.int .i64 (.ofNat 0)), (.int .i64 (.ofNat 0)), (.str 0 0)]⟩,
     ⟨some kk4, none, none, .mov (.t kk16)⟩,
     ⟨none, none, none, .store 8 (.t kk5) (.t kk18)⟩])
    (.block 2 (.seq (.region false [⟨some kk20, none, none, .offs (.t kk5) 0⟩,
      ⟨some kk21, none, none, .load 1 false (.t kk20)⟩,
      ⟨some kk22, none, none, .bin .eql (.t kk21) (.c (.int .i64 (.ofNat 1)))⟩,
      ⟨some kk23, none, none, .mov (.t kk22)⟩,
      ⟨some kk24, some (kk23, false), none, .offs (.t kk5) 0⟩,
      ⟨some kk25, some (kk23, false), none, .load 1 false (.t kk24)⟩,
      ⟨some kk26, some (kk23, false), none, .bin .eql (.t kk25) (.c (.int .i64 (.ofNat 2)))⟩,
      ⟨some kk27, none, none, .pick (.t kk23) (.c (.bool true)) (.t kk26)⟩,
      ⟨some kk19, none, none, .mov (.t kk27)⟩])
     (.cond (.t kk19)
      (.region false [⟨some kk28, none, none, .offs (.t kk3) 1⟩,
       ⟨some kk29, none, none, .load 1 false (.t kk28)⟩,
       ⟨some kk30, none, none, .mov (.t kk4)⟩,
       ⟨some kk31, none, none, .idxSl 1 (.t kk29) (.t kk30)⟩,
       ⟨none, none, none, .store 1 (.t kk31) (.c (.int .i64 (.ofNat 1)))⟩])
      (.seq (.region false [⟨some kk33, none, none, .offs (.t kk5) 0⟩,
       ⟨some kk34, none, none, .load 1 false (.t kk33)⟩,
       ⟨some kk35, none, none, .bin .eql (.t kk34) (.c (.int .i64 (.ofNat 11)))⟩,
       ⟨some kk36, none, none, .mov (.t kk35)⟩,
       ⟨some kk37, some (kk36, false), none, .offs (.t kk5) 0⟩,
       ⟨some kk38, some (kk36, false), none, .load 1 false (.t kk37)⟩,
       ⟨some kk39, some (kk36, false), none, .bin .eql (.t kk38) (.c (.int .i64 (.ofNat 12)))⟩,
       ⟨some kk40, none, none, .pick (.t kk36) (.c (.bool true)) (.t kk39)⟩,
       ⟨some kk32, none, none, .mov (.t kk40)⟩])
      (.cond (.t kk32)
       (.seq (.region false [⟨some kk41, none, none, .mov (.t kk4)⟩,
        ⟨some kk42, none, none, .bin .gtr (.t kk41) (.c (.int .i64 (.ofNat 0)))⟩,
        ⟨some kk43, none, none, .mov (.t kk42)⟩,
        ⟨some kk44, some (kk43, true), none, .offs (.t kk5) 1⟩,
        ⟨some kk45, some (kk43, true), none, .load 1 false (.t kk44)⟩,
        ⟨some kk46, some (kk43, true), none, .mov (.t kk4)⟩,
        ⟨some kk47, some (kk43, true), none, .bin .sub (.t kk46) (.c (.int .i64 (.ofNat 1)))⟩,
        ⟨some kk48, some (kk43, true), none, .bin .eql (.t kk45) (.t kk47)⟩,
        ⟨some kk49, none, none, .pick (.t kk43) (.t kk48) (.c (.bool false))⟩,
        ⟨some kk50, none, none, .mov (.t kk49)⟩,
        ⟨some kk51, some (kk50, true), none, .offs (.t kk3) 1⟩,
        ⟨some kk52, some (kk50, true), none, .load 1 false (.t kk51)⟩,
        ⟨some kk53, some (kk50, true), none, .offs (.t kk5) 1⟩,
        ⟨some kk54, some (kk50, true), none, .load 1 false (.t kk53)⟩,
        ⟨some kk55, some (kk50, true), none, .idxSl 1 (.t kk52) (.t kk54)⟩,
        ⟨some kk56, some (kk50, true), none, .load 1 false (.t kk55)⟩,
        ⟨some kk57, some (kk50, true), none, .bin .gtr (.t kk56) (.c (.int .i64 (.ofNat 0)))⟩,
        ⟨some kk58, none, none, .pick (.t kk50) (.t kk57) (.c (.bool false))⟩])
       (.cond (.t kk58)
        (.region true [⟨some kk59, none, none, .offs (.t kk3) 1⟩,
         ⟨some kk60, none, some [], .load 1 false (.t kk59)⟩,
         ⟨some kk61, none, none, .mov (.t kk4)⟩,
         ⟨some kk62, none, none, .offs (.t kk3) 1⟩,
         ⟨some kk63, none, some [0], .load 1 false (.t kk62)⟩,
         ⟨some kk64, none, none, .offs (.t kk5) 1⟩,
         ⟨some kk65, none, some [0, 1], .load 1 false (.t kk64)⟩,
         ⟨some kk66, none, none, .idxSl 1 (.t kk63) (.t kk65)⟩,
         ⟨some kk67, none, some [2], .load 1 false (.t kk66)⟩,
         ⟨some kk68, none, none, .bin .add (.t kk67) (.c (.int .i64 (.ofNat 1)))⟩,
         ⟨some kk69, none, none, .idxSl 1 (.t kk60) (.t kk61)⟩,
         ⟨none, none, some [], .store 1 (.t kk69) (.t kk68)⟩])
        .skip))
       (.seq (.region false [⟨some kk71, none, none, .offs (.t kk5) 0⟩,
        ⟨some kk72, none, none, .load 1 false (.t kk71)⟩,
        ⟨some kk73, none, none, .bin .gtr (.t kk72) (.c (.int .i64 (.ofNat 2)))⟩,
        ⟨some kk74, none, none, .mov (.t kk73)⟩,
        ⟨some kk75, some (kk74, true), none, .offs (.t kk5) 0⟩,
        ⟨some kk76, some (kk74, true), none, .load 1 false (.t kk75)⟩,
        ⟨some kk77, some (kk74, true), none, .bin .lss (.t kk76) (.c (.int .i64 (.ofNat 11)))⟩,
        ⟨some kk78, none, none, .pick (.t kk74) (.t kk77) (.c (.bool false))⟩,
        ⟨some kk70, none, none, .mov (.t kk78)⟩])
       (.cond (.t kk70)
        (.seq (.seq (.region false [⟨some kk79, none, none, .mov (.t kk4)⟩,
         ⟨some kk80, none, none, .bin .eql (.t kk79) (.c (.int .i64 (.ofNat 0)))⟩,
         ⟨some kk81, none, none, .mov (.t kk80)⟩,
         ⟨some kk82, some (kk81, false), none, .offs (.t kk5) 2⟩,
         ⟨some kk83, some (kk81, false), none, .load 1 false (.t kk82)⟩,
         ⟨some kk84, some (kk81, false), none, .mov (.t kk4)⟩,
         ⟨some kk85, some (kk81, false), none, .bin .sub (.t kk84) (.c (.int .i64 (.ofNat 1)))⟩,
         ⟨some kk86, some (kk81, false), none, .bin .neq (.t kk83) (.t kk85)⟩,
         ⟨some kk87, none, none, .pick (.t kk81) (.c (.bool true)) (.t kk86)⟩,
         ⟨some kk88, none, none, .mov (.t kk87)⟩,
         ⟨some kk89, some (kk88, false), none, .offs (.t kk3) 1⟩,
         ⟨some kk90, some (kk88, false), none, .load 1 false (.t kk89)⟩,
         ⟨some kk91, some (kk88, false), none, .offs (.t kk5) 2⟩,
         ⟨some kk92, some (kk88, false), none, .load 1 false (.t kk91)⟩,
         ⟨some kk93, some (kk88, false), none, .idxSl 1 (.t kk90) (.t kk92)⟩,
         ⟨some kk94, some (kk88, false), none, .load 1 false (.t kk93)⟩,
         ⟨some kk95, some (kk88, false), none, .bin .eql (.t kk94) (.c (.int .i64 (.ofNat 0)))⟩,
         ⟨some kk96, none, none, .pick (.t kk88) (.c (.bool true)) (.t kk95)⟩])
        (.cond (.t kk96)
         (.exit 1)
         .skip))
        (.seq (.region true [⟨some kk97, none, none, .offs (.t kk5) 2⟩,
         ⟨some kk98, none, some [], .load 1 false (.t kk97)⟩,
         ⟨some kk99, none, none, .offs (.t kk3) 1⟩,
         ⟨some kk100, none, some [0], .load 1 false (.t kk99)⟩,
         ⟨some kk101, none, none, .offs (.t kk5) 2⟩,
         ⟨some kk102, none, some [0, 1], .load 1 false (.t kk101)⟩,
         ⟨some kk103, none, none, .idxSl 1 (.t kk100) (.t kk102)⟩,
         ⟨some kk104, none, some [2], .load 1 false (.t kk103)⟩,
         ⟨some kk105, none, none, .bin .sub (.t kk98) (.t kk104)⟩,
         ⟨some kk6, none, none, .mov (.t kk105)⟩])
        (.seq (.region false [⟨some kk106, none, none, .mov (.t kk6)⟩,
         ⟨some kk107, none, none, .bin .geq (.t kk106) (.c (.int .i64 (.ofNat 0)))⟩,
         ⟨some kk108, none, none, .mov (.t kk107)⟩,
         ⟨some kk109, some (kk108, true), none, .offs (.t kk5) 1⟩,
         ⟨some kk110, some (kk108, true), none, .load 1 false (.t kk109)⟩,
         ⟨some kk111, some (kk108, true), none, .mov (.t kk6)⟩,
         ⟨some kk112, some (kk108, true), none, .bin .eql (.t kk110) (.t kk111)⟩,
         ⟨some kk113, none, none, .pick (.t kk108) (.t kk112) (.c (.bool false))⟩,
         ⟨some kk114, none, none, .mov (.t kk113)⟩,
         ⟨some kk115, some (kk114, true), none, .offs (.t kk3) 1⟩,
         ⟨some kk116, some (kk114, true), none, .load 1 false (.t kk115)⟩,
         ⟨some kk117, some (kk114, true), none, .mov (.t kk6)⟩,
         ⟨some kk118, some (kk114, true), none, .idxSl 1 (.t kk116) (.t kk117)⟩,
         ⟨some kk119, some (kk114, true), none, .load 1 false (.t kk118)⟩,
         ⟨some kk120, some (kk114, true), none, .bin .gtr (.t kk119) (.c (.int .i64 (.ofNat 0)))⟩,
         ⟨some kk121, none, none, .pick (.t kk114) (.t kk120) (.c (.bool false))⟩])
        (.cond (.t kk121)
         (.region true [⟨some kk122, none, none, .offs (.t kk3) 1⟩,
          ⟨some kk123, none, some [], .load 1 false (.t kk122)⟩,
          ⟨some kk124, none, none, .mov (.t kk4)⟩,
          ⟨some kk125, none, none, .offs (.t kk3) 1⟩,
          ⟨some kk126, none, some [0], .load 1 false (.t kk125)⟩,
          ⟨some kk127, none, none, .mov (.t kk6)⟩,
          ⟨some kk128, none, none, .idxSl 1 (.t kk126) (.t kk127)⟩,
          ⟨some kk129, none, some [1], .load 1 false (.t kk128)⟩,
          ⟨some kk130, none, none, .offs (.t kk3) 1⟩,
          ⟨some kk131, none, some [0, 1, 2], .load 1 false (.t kk130)⟩,
          ⟨some kk132, none, none, .offs (.t kk5) 2⟩,
          ⟨some kk133, none, some [0, 1, 2, 3], .load 1 false (.t kk132)⟩,
          ⟨some kk134, none, none, .idxSl 1 (.t kk131) (.t kk133)⟩,
          ⟨some kk135, none, some [2, 3, 4], .load 1 false (.t kk134)⟩,
          ⟨some kk136, none, none, .bin .add (.t kk129) (.t kk135)⟩,
          ⟨some kk137, none, none, .bin .add (.t kk136) (.c (.int .i64 (.ofNat 1)))⟩,
          ⟨some kk138, none, none, .idxSl 1 (.t kk123) (.t kk124)⟩,
          ⟨none, none, some [], .store 1 (.t kk138) (.t kk137)⟩])
         .skip))))
        .skip)))))))))
   (.region false [⟨some kk139, none, none, .bin .add (.t kk14) (.c (.int .i64 (.ofNat 1)))⟩,
    ⟨some kk14, none, none, .mov (.t kk139)⟩])))))))
 (.seq (.region false [⟨some kk140, none, none, .load 2 true (.t kk3)⟩,
  ⟨none, none, none, .store 2 (.t kk2) (.t kk140)⟩])
 .ret)))) }
theorem fn48 : fnOf Tryz.prog Tryz.f48 = some i48 := by kernel_rfl
/-- (*annalist.parser.printer).expr -/
noncomputable def i49 : IFn := { nt := 112, ps := [kk0, kk1, kk2, kk3], res := [], body :=
 (.seq (.region false [⟨some kk5, none, none, .box 96 2 48 (.t kk1)⟩])
 (.seq (.seq (.region false [⟨some kk10, none, none, .mov (.t kk2)⟩,
  ⟨some kk11, none, none, .bin .lss (.t kk10) (.c (.int .i64 (.ofNat 0)))⟩,
  ⟨some kk12, none, none, .mov (.t kk11)⟩,
  ⟨some kk13, some (kk12, false), none, .mov (.t kk2)⟩,
  ⟨some kk14, some (kk12, false), none, .offs (.t kk5) 0⟩,
  ⟨some kk15, some (kk12, false), none, .load 1 false (.t kk14)⟩,
  ⟨some kk16, some (kk12, false), none, .len (.t kk15)⟩,
  ⟨some kk17, some (kk12, false), none, .bin .geq (.t kk13) (.t kk16)⟩,
  ⟨some kk18, none, none, .pick (.t kk12) (.c (.bool true)) (.t kk17)⟩,
  ⟨some kk19, none, none, .mov (.t kk18)⟩,
  ⟨some kk20, some (kk19, false), none, .offs (.t kk5) 1⟩,
  ⟨some kk21, some (kk19, false), none, .load 1 false (.t kk20)⟩,
  ⟨some kk22, some (kk19, false), none, .mov (.t kk2)⟩,
  ⟨some kk23, some (kk19, false), none, .idxSl 1 (.t kk21) (.t kk22)⟩,
  ⟨some kk24, some (kk19, false), none, .load 1 false (.t kk23)⟩,
  ⟨some kk25, some (kk19, false), none, .bin .eql (.t kk24) (.c (.int .i64 (.ofNat 0)))⟩,
  ⟨some kk26, none, none, .pick (.t kk19) (.c (.bool true)) (.t kk25)⟩])
 (.cond (.t kk26)
  (.seq (.region false [⟨some kk27, none, none, .mov (.t kk0)⟩,
   ⟨some kk28, none, none, .nilck (.t kk27)⟩,
   ⟨some kk29, none, none, .offs (.t kk28) 1⟩,
   ⟨none, none, none, .store 1 (.t kk29) (.c (.bool true))⟩])
  .ret)
  .skip))
 (.seq (.region false [⟨some kk30, none, none, .offs (.t kk5) 0⟩,
  ⟨some kk31, none, none, .load 1 false (.t kk30)⟩,
  ⟨some kk32, none, none, .mov (.t kk2)⟩,
  ⟨some kk33, none, none, .idxSl 8 (.t kk31) (.t kk32)⟩,
  ⟨some kk34, none, none, .load 8 true (.t kk33)⟩,
  ⟨some kk8, none, none, .boxz 111 8 88 [(.int .i64 (.ofNat 0)), (.int .i64 (.ofNat 0)), (.int .i64 (.ofNat 0)), (.str 0 0), (.str 0 0), (.int .i64 (.ofNat 0)), (.int .i64 (.ofNat 0)), (.str 0 0)]⟩,
  ⟨none, none, none, .store 8 (.t kk8) (.t kk34)⟩])
 (.seq (.region false [⟨some kk35, none, none, .offs (.t kk8) 0⟩,
  ⟨some kk36, none, none, .load 1 false (.t kk35)⟩,
  ⟨some kk37, none, none, .call 96 [(.t kk36)]⟩,
  ⟨some kk9, none, none, .boxz 147 5 48 [(.int .i64 (.ofNat 0)), (.int .i64 (.ofNat 0)), (.int .i64 (.ofNat 0)), (.int .i64 (.ofNat 0)), (.str 0 0)]⟩,
  ⟨none, none, none, .store 5 (.t kk9) (.t kk37)⟩])
 (.seq (.seq (.region false [⟨some kk38, none, none, .offs (.t kk9) 0⟩,
  ⟨some kk39, none, none, .load 1 false (.t kk38)⟩,
  ⟨some kk40, none, none, .mov (.t kk3)⟩,
  ⟨some kk41, none, none, .bin .lss (.t kk39) (.t kk40)⟩])
 (.cond (.t kk41)
  (.seq (.region false [⟨some kk42, none, none, .mov (.t kk0)⟩,
   ⟨some kk43, none, none, .call 44 [(.t kk42), (.c (.str 1 40))]⟩])
  (.region false [⟨some kk44, none, none, .mov (.t kk0)⟩,
   ⟨none, none, none, .callv (.c .nilptr) []⟩]))
  .skip))
 (.seq (.region false [⟨some kk45, none, none, .offs (.t kk8) 0⟩,
  ⟨some kk46, none, none, .load 1 false (.t kk45)⟩])
 (.block 0 (.seq (.region false [⟨some kk68, none, none, .bin .eql (.t kk46) (.c (.int .i64 (.ofNat 1)))⟩,
   ⟨some kk67, none, none, .mov (.t kk68)⟩])
  (.cond (.t kk67)
   (.region false [⟨some kk69, none, none, .mov (.t kk0)⟩,
    ⟨some kk70, none, none, .offs (.t kk8) 5⟩,
    ⟨some kk71, none, none, .load 3 true (.t kk70)⟩,
    ⟨some kk72, none, none, .call 46 [(.t kk69), (.t kk71)]⟩])
   (.seq (.region false [⟨some kk74, none, none, .bin .eql (.t kk46) (.c (.int .i64 (.ofNat 2)))⟩,
    ⟨some kk73, none, none, .mov (.t kk74)⟩])
   (.cond (.t kk73)
    (.seq (.seq (.region false [⟨some kk75, none, none, .offs (.t kk8) 3⟩,
     ⟨some kk76, none, none, .load 1 false (.t kk75)⟩,
     ⟨some kk77, none, none, .bin .neq (.t kk76) (.c (.str 0 0))⟩])
    (.cond (.t kk77)
     (.seq (.region false [⟨some kk78, none, none, .mov (.t kk0)⟩,
      ⟨some kk79, none, none, .offs (.t kk8) 3⟩,
      ⟨some kk80, none, none, .load 1 false (.t kk79)⟩,
      ⟨some kk81, none, none, .call 43 [(.t kk78), (.t kk80)]⟩])
     (.region false [⟨some kk82, none, none, .mov (.t kk0)⟩,
      ⟨some kk83, none, none, .call 44 [(.t kk82), (.c (.str 1 46))]⟩]))
     .skip))
    (.region false [⟨some kk84, none, none, .mov (.t kk0)⟩,
     ⟨some kk85, none, none, .offs (.t kk8) 4⟩,
     ⟨some kk86, none, none, .load 1 false (.t kk85)⟩,
     ⟨some kk87, none, none, .call 43 [(.t kk84), (.t kk86)]⟩]))
    (.seq (.region false [⟨some kk89, none, none, .bin .eql (.t kk46) (.c (.int .i64 (.ofNat 11)))⟩,
     ⟨some kk88, none, none, .mov (.t kk89)⟩])
    (.cond (.t kk88)
     (.seq (.region false [⟨some kk90, none, none, .mov (.t kk0)⟩,
      ⟨some kk91, none, none, .buildSl 9 1 16 1 [(.str 0 0)] [(0, (.c (.str 3 5525326)))]⟩,
      ⟨some kk92, none, none, .call 42 [(.t kk90), (.t kk91)]⟩])
     (.region false [⟨some kk93, none, none, .mov (.t kk0)⟩,
      ⟨some kk94, none, none, .load 2 true (.t kk5)⟩,
      ⟨some kk95, none, none, .offs (.t kk8) 1⟩,
      ⟨some kk96, none, none, .load 1 false (.t kk95)⟩,
      ⟨some kk97, none, none, .offs (.t kk9) 1⟩,
      ⟨some kk98, none, none, .load 1 false (.t kk97)⟩,
      ⟨some kk99, none, none, .call 49 [(.t kk93), (.t kk94), (.t kk96), (.t kk98)]⟩]))
     (.seq (.region false [⟨some kk101, none, none, .bin .eql (.t kk46) (.c (.int .i64 (.ofNat 12)))⟩,
      ⟨some kk100, none, none, .mov (.t kk101)⟩])
     (.cond (.t kk100)
      (.seq (.region false [⟨some kk102, none, none, .mov (.t kk0)⟩,
       ⟨some kk103, none, none, .load 2 true (.t kk5)⟩,
       ⟨some kk104, none, none, .offs (.t kk8) 1⟩,
       ⟨some kk105, none, none, .load 1 false (.t kk104)⟩,
       ⟨some kk106, none, none, .offs (.t kk9) 1⟩,
       ⟨some kk107, none, none, .load 1 false (.t kk106)⟩,
       ⟨some kk108, none, none, .call 49 [(.t kk102), (.t kk103), (.t kk105), (.t kk107)]⟩])
      (.region false [⟨some kk109, none, none, .mov (.t kk0)⟩,
       ⟨some kk110, none, none, .buildSl 9 1 16 2 [(.str 0 0)] [(0, (.c (.str 2 21321))), (1, (.c (.str 4 1280070990)))]⟩,
       ⟨some kk111, none, none, .call 42 [(.t kk109), (.t kk110)]⟩]))
      (.seq (.region false [⟨some kk47, none, none, .mov (.t kk0)⟩,
       ⟨some kk48, none, none, .load 2 true (.t kk5)⟩,
       ⟨some kk49, none, none, .offs (.t kk8) 1⟩,
       ⟨some kk50, none, none, .load 1 false (.t kk49)⟩,
       ⟨some kk51, none, none, .offs (.t kk9) 1⟩,
       ⟨some kk52, none, none, .load 1 false (.t kk51)⟩,
       ⟨some kk53, none, none, .call 49 [(.t kk47), (.t kk48), (.t kk50), (.t kk52)]⟩])
      (.seq (.region false [⟨some kk54, none, none, .mov (.t kk0)⟩,
       ⟨some kk55, none, none, .offs (.t kk9) 3⟩,
       ⟨some kk56, none, none, .load 1 false (.t kk55)⟩,
       ⟨some kk57, none, none, .offs (.t kk9) 4⟩,
       ⟨some kk58, none, none, .load 1 false (.t kk57)⟩,
       ⟨some kk59, none, none, .call 92 [(.t kk54), (.t kk56), (.t kk58)]⟩])
      (.region false [⟨some kk60, none, none, .mov (.t kk0)⟩,
       ⟨some kk61, none, none, .load 2 true (.t kk5)⟩,
       ⟨some kk62, none, none, .offs (.t kk8) 2⟩,
       ⟨some kk63, none, none, .load 1 false (.t kk62)⟩,
       ⟨some kk64, none, none, .offs (.t kk9) 2⟩,
       ⟨some kk65, none, none, .load 1 false (.t kk64)⟩,
       ⟨some kk66, none, none, .call 49 [(.t kk60), (.t kk61), (.t kk63), (.t kk65)]⟩])))))))))))))))))) }
theorem fn49 : fnOf Tryz.prog Tryz.f49 = some i49 := by kernel_rfl
/-- (*annalist.parser.printer).where -/
noncomputable def i50 : IFn := { nt := 15, ps := [kk0, kk1, kk2], res := [], body :=
 (.seq (.region false [⟨some kk4, none, none, .box 96 2 48 (.t kk1)⟩])
 (.seq (.region false [⟨some kk6, none, none, .mov (.t kk2)⟩,
  ⟨some kk7, none, none, .bin .neq (.t kk6) (.c (.int .i64 (.negSucc 0)))⟩])
 (.cond (.t kk7)
  (.seq (.region false [⟨some kk8, none, none, .mov (.t kk0)⟩,
   ⟨some kk9, none, none, .buildSl 9 1 16 1 [(.str 0 0)] [(0, (.c (.str 5 297733015639)))]⟩,
   ⟨some kk10, none, none, .call 42 [(.t kk8), (.t kk9)]⟩])
  (.region false [⟨some kk11, none, none, .mov (.t kk0)⟩,
   ⟨some kk12, none, none, .load 2 true (.t kk4)⟩,
   ⟨some kk13, none, none, .mov (.t kk2)⟩,
   ⟨some kk14, none, none, .call 49 [(.t kk11), (.t kk12), (.t kk13), (.c (.int .i64 (.ofNat 1)))]⟩]))
  .skip))) }
theorem fn50 : fnOf Tryz.prog Tryz.f50 = some i50 := by kernel_rfl
/-- (*annalist.parser.printer).columns -/
noncomputable def i51 : IFn := { nt := 41, ps := [kk0, kk1], res := [], body :=
 (.seq (.region false [⟨some kk6, none, none, .mov (.t kk1)⟩,
  ⟨some kk7, none, none, .len (.t kk6)⟩,
  ⟨some kk8, none, none, .mov (.c (.int .i64 (.ofNat 0)))⟩])
 (.block 0 (.loop (.seq (.region false [⟨some kk9, none, none, .bin .lss (.t kk8) (.t kk7)⟩])
   (.seq (.cond (.t kk9)
    .skip
    (.exit 0))
   (.seq (.block 1 (.seq (.region false [⟨some kk10, none, none, .mov (.t kk8)⟩,
     ⟨some kk11, none, none, .idxSl 3 (.t kk6) (.t kk8)⟩,
     ⟨some kk12, none, none, .load 3 true (.t kk11)⟩,
     ⟨some kk5, none, none, .boxz 115 3 32 [(.int .i64 (.ofNat 0)), (.str 0 0), (.int .i64 (.ofNat 0))]⟩,
     ⟨some kk4, none, none, .mov (.t kk10)⟩,
     ⟨none, none, none, .store 3 (.t kk5) (.t kk12)⟩])
    (.seq (.region false [⟨some kk13, none, none, .mov (.t kk0)⟩,
     ⟨some kk14, none, none, .mov (.t kk4)⟩,
     ⟨some kk15, none, none, .call 45 [(.t kk13), (.t kk14)]⟩])
    (.seq (.region false [⟨some kk16, none, none, .mov (.t kk0)⟩,
     ⟨some kk17, none, none, .offs (.t kk5) 1⟩,
     ⟨some kk18, none, none, .load 1 false (.t kk17)⟩,
     ⟨some kk19, none, none, .call 43 [(.t kk16), (.t kk18)]⟩])
    (.seq (.region false [⟨some kk20, none, none, .offs (.t kk5) 2⟩,
     ⟨some kk21, none, none, .load 1 false (.t kk20)⟩])
    (.block 2 (.seq (.region false [⟨some kk26, none, none, .bin .eql (.t kk21) (.c (.int .i64 (.ofNat 1)))⟩,
      ⟨some kk25, none, none, .mov (.t kk26)⟩])
     (.cond (.t kk25)
      (.region false [⟨some kk27, none, none, .mov (.t kk0)⟩,
       ⟨some kk28, none, none, .buildSl 9 1 16 1 [(.str 0 0)] [(0, (.c (.str 3 5525065)))]⟩,
       ⟨some kk29, none, none, .call 42 [(.t kk27), (.t kk28)]⟩])
      (.seq (.region false [⟨some kk31, none, none, .bin .eql (.t kk21) (.c (.int .i64 (.ofNat 2)))⟩,
       ⟨some kk30, none, none, .mov (.t kk31)⟩])
      (.cond (.t kk30)
       (.region false [⟨some kk32, none, none, .mov (.t kk0)⟩,
        ⟨some kk33, none, none, .buildSl 9 1 16 1 [(.str 0 0)] [(0, (.c (.str 4 1415071060)))]⟩,
        ⟨some kk34, none, none, .call 42 [(.t kk32), (.t kk33)]⟩])
       (.seq (.region false [⟨some kk36, none, none, .bin .eql (.t kk21) (.c (.int .i64 (.ofNat 3)))⟩,
        ⟨some kk35, none, none, .mov (.t kk36)⟩])
       (.cond (.t kk35)
        (.region false [⟨some kk37, none, none, .mov (.t kk0)⟩,
         ⟨some kk38, none, none, .buildSl 9 1 16 1 [(.str 0 0)] [(0, (.c (.str 4 1280266050)))]⟩,
         ⟨some kk39, none, none, .call 42 [(.t kk37), (.t kk38)]⟩])
        (.region false [⟨some kk22, none, none, .mov (.t kk0)⟩,
         ⟨some kk23, none, none, .nilck (.t kk22)⟩,
         ⟨some kk24, none, none, .offs (.t kk23) 1⟩,
         ⟨none, none, none, .store 1 (.t kk24) (.c (.bool true))⟩])))))))))))))
   (.region false [⟨some kk40, none, none, .bin .add (.t kk8) (.c (.int .i64 (.ofNat 1)))⟩,
    ⟨some kk8, none, none, .mov (.t kk40)⟩]))))))) }
theorem fn51 : fnOf Tryz.prog Tryz.f51 = some i51 := by kernel_rfl
/-- (*annalist.parser.printer).names -/
noncomputable def i52 : IFn := { nt := 24, ps := [kk0, kk1], res := [], body :=
 (.seq (.region false [⟨some kk6, none, none, .mov (.t kk0)⟩,
  ⟨some kk7, none, none, .call 44 [(.t kk6), (.c (.str 1 40))]⟩])
 (.seq (.seq (.region false [⟨some kk8, none, none, .mov (.t kk1)⟩,
  ⟨some kk9, none, none, .len (.t kk8)⟩,
  ⟨some kk10, none, none, .mov (.c (.int .i64 (.ofNat 0)))⟩])
 (.block 0 (.loop (.seq (.region false [⟨some kk11, none, none, .bin .lss (.t kk10) (.t kk9)⟩])
   (.seq (.cond (.t kk11)
    .skip
    (.exit 0))
   (.seq (.block 1 (.seq (.region false [⟨some kk12, none, none, .mov (.t kk10)⟩,
     ⟨some kk13, none, none, .idxSl 1 (.t kk8) (.t kk10)⟩,
     ⟨some kk14, none, none, .load 1 false (.t kk13)⟩,
     ⟨some kk4, none, none, .mov (.t kk12)⟩,
     ⟨some kk5, none, none, .mov (.t kk14)⟩])
    (.seq (.region false [⟨some kk15, none, none, .mov (.t kk0)⟩,
     ⟨some kk16, none, none, .mov (.t kk4)⟩,
     ⟨some kk17, none, none, .call 45 [(.t kk15), (.t kk16)]⟩])
    (.region false [⟨some kk18, none, none, .mov (.t kk0)⟩,
     ⟨some kk19, none, none, .mov (.t kk5)⟩,
     ⟨some kk20, none, none, .call 43 [(.t kk18), (.t kk19)]⟩]))))
   (.region false [⟨some kk21, none, none, .bin .add (.t kk10) (.c (.int .i64 (.ofNat 1)))⟩,
    ⟨some kk10, none, none, .mov (.t kk21)⟩])))))))
 (.region false [⟨some kk22, none, none, .mov (.t kk0)⟩,
  ⟨some kk23, none, none, .call 44 [(.t kk22), (.c (.str 1 41))]⟩]))) }
theorem fn52 : fnOf Tryz.prog Tryz.f52 = some i52 := by kernel_rfl
/-- (*annalist.parser.printer).query -/
noncomputable def i53 : IFn := { nt := 33, ps := [kk0, kk1], res := [], body :=
 (.seq (.region false [⟨some kk3, none, none, .box 48 21 328 (.t kk1)⟩])
 (.seq (.seq (.region false [⟨some kk4, none, none, .offs (.t kk3) 1⟩,
  ⟨some kk5, none, none, .load 1 false (.t kk4)⟩])
 (.block 0 (.seq (.region false [⟨some kk7, none, none, .bin .eql (.t kk5) (.c (.int .i64 (.ofNat 2)))⟩,
   ⟨some kk6, none, none, .mov (.t kk7)⟩])
  (.cond (.t kk6)
   (.region false [⟨some kk8, none, none, .mov (.t kk0)⟩,
    ⟨some kk9, none, none, .buildSl 9 1 16 1 [(.str 0 0)] [(0, (.c (.str 9 1278394416152443634006)))]⟩,
    ⟨some kk10, none, none, .call 42 [(.t kk8), (.t kk9)]⟩])
   (.seq (.region false [⟨some kk12, none, none, .bin .eql (.t kk5) (.c (.int .i64 (.ofNat 3)))⟩,
    ⟨some kk11, none, none, .mov (.t kk12)⟩])
   (.cond (.t kk11)
    (.region false [⟨some kk13, none, none, .mov (.t kk0)⟩,
     ⟨some kk14, none, none, .buildSl 9 1 16 1 [(.str 0 0)] [(0, (.c (.str 10 327268970535064275469650)))]⟩,
     ⟨some kk15, none, none, .call 42 [(.t kk13), (.t kk14)]⟩])
    (.seq (.region false [⟨some kk17, none, none, .bin .eql (.t kk5) (.c (.int .i64 (.ofNat 4)))⟩,
     ⟨some kk16, none, none, .mov (.t kk17)⟩])
    (.cond (.t kk16)
     (.region false [⟨some kk18, none, none, .mov (.t kk0)⟩,
      ⟨some kk19, none, none, .buildSl 9 1 16 1 [(.str 0 0)] [(0, (.c (.str 8 4993728188163313474)))]⟩,
      ⟨some kk20, none, none, .call 42 [(.t kk18), (.t kk19)]⟩])
     (.seq (.region false [⟨some kk22, none, none, .bin .eql (.t kk5) (.c (.int .i64 (.ofNat 5)))⟩,
      ⟨some kk21, none, none, .mov (.t kk22)⟩])
     (.cond (.t kk21)
      (.region false [⟨some kk23, none, none, .mov (.t kk0)⟩,
       ⟨some kk24, none, none, .buildSl 9 1 16 1 [(.str 0 0)] [(0, (.c (.str 12 21128714391801252821743849294)))]⟩,
       ⟨some kk25, none, none, .call 42 [(.t kk23), (.t kk24)]⟩])
      .skip))))))))))
 (.seq (.region false [⟨some kk26, none, none, .mov (.t kk0)⟩,
  ⟨some kk27, none, none, .offs (.t kk3) 4⟩,
  ⟨some kk28, none, none, .load 2 true (.t kk27)⟩,
  ⟨some kk29, none, none, .call 27 [(.t kk26), (.t kk28)]⟩])
 (.region false [⟨some kk30, none, none, .mov (.t kk0)⟩,
  ⟨some kk31, none, none, .load 21 true (.t kk3)⟩,
  ⟨some kk32, none, none, .call 54 [(.t kk30), (.t kk31)]⟩])))) }
theorem fn53 : fnOf Tryz.prog Tryz.f53 = some i53 := by kernel_rfl
/-- (*annalist.parser.printer).position -/
noncomputable def i54 : IFn := { nt := 25, ps := [kk0, kk1], res := [], body :=
 (.seq (.region false [⟨some kk3, none, none, .box 48 21 328 (.t kk1)⟩])
 (.seq (.seq (.region false [⟨some kk4, none, none, .offs (.t kk3) 2⟩,
  ⟨some kk5, none, none, .load 1 false (.t kk4)⟩,
  ⟨some kk6, none, none, .bin .neq (.t kk5) (.c (.int .i64 (.negSucc 0)))⟩])
 (.cond (.t kk6)
  (.seq (.region false [⟨some kk7, none, none, .mov (.t kk0)⟩,
   ⟨some kk8, none, none, .buildSl 9 1 16 2 [(.str 0 0)] [(0, (.c (.str 2 21569))), (1, (.c (.str 3 5849412)))]⟩,
   ⟨some kk9, none, none, .call 42 [(.t kk7), (.t kk8)]⟩])
  (.region false [⟨some kk10, none, none, .mov (.t kk0)⟩,
   ⟨some kk11, none, none, .offs (.t kk3) 2⟩,
   ⟨some kk12, none, none, .load 1 false (.t kk11)⟩,
   ⟨some kk13, none, none, .call 97 [(.t kk12)]⟩,
   ⟨some kk14, none, none, .call 94 [(.t kk10), (.t kk13)]⟩]))
  .skip))
 (.seq (.region false [⟨some kk15, none, none, .offs (.t kk3) 3⟩,
  ⟨some kk16, none, none, .load 1 false (.t kk15)⟩,
  ⟨some kk17, none, none, .bin .neq (.t kk16) (.c (.int .i64 (.ofNat 1099511627776)))⟩])
 (.cond (.t kk17)
  (.seq (.region false [⟨some kk18, none, none, .mov (.t kk0)⟩,
   ⟨some kk19, none, none, .buildSl 9 1 16 2 [(.str 0 0)] [(0, (.c (.str 2 21313))), (1, (.c (.str 2 17999)))]⟩,
   ⟨some kk20, none, none, .call 42 [(.t kk18), (.t kk19)]⟩])
  (.region false [⟨some kk21, none, none, .mov (.t kk0)⟩,
   ⟨some kk22, none, none, .offs (.t kk3) 3⟩,
   ⟨some kk23, none, none, .load 1 false (.t kk22)⟩,
   ⟨some kk24, none, none, .call 56 [(.t kk21), (.t kk23)]⟩]))
  .skip)))) }
theorem fn54 : fnOf Tryz.prog Tryz.f54 = some i54 := by kernel_rfl
/-- (*annalist.parser.printer).hold -/
noncomputable def i55 : IFn := { nt := 34, ps := [kk0, kk1], res := [], body :=
 (.seq (.region false [⟨some kk3, none, none, .box 48 21 328 (.t kk1)⟩])
 (.seq (.region false [⟨some kk4, none, none, .mov (.t kk0)⟩,
  ⟨some kk5, none, none, .buildSl 9 1 16 1 [(.str 0 0)] [(0, (.c (.str 4 1145851720)))]⟩,
  ⟨some kk6, none, none, .call 42 [(.t kk4), (.t kk5)]⟩])
 (.seq (.region false [⟨some kk7, none, none, .mov (.t kk0)⟩,
  ⟨some kk8, none, none, .offs (.t kk3) 18⟩,
  ⟨some kk9, none, none, .load 1 false (.t kk8)⟩,
  ⟨some kk10, none, none, .call 56 [(.t kk7), (.t kk9)]⟩])
 (.seq (.region false [⟨some kk11, none, none, .mov (.t kk0)⟩,
  ⟨some kk12, none, none, .buildSl 9 1 16 1 [(.str 0 0)] [(0, (.c (.str 4 1297044038)))]⟩,
  ⟨some kk13, none, none, .call 42 [(.t kk11), (.t kk12)]⟩])
 (.seq (.region false [⟨some kk14, none, none, .mov (.t kk0)⟩,
  ⟨some kk15, none, none, .offs (.t kk3) 19⟩,
  ⟨some kk16, none, none, .offs (.t kk15) 0⟩,
  ⟨some kk17, none, none, .load 1 false (.t kk16)⟩,
  ⟨some kk18, none, none, .call 56 [(.t kk14), (.t kk17)]⟩])
 (.seq (.region false [⟨some kk19, none, none, .mov (.t kk0)⟩,
  ⟨some kk20, none, none, .buildSl 9 1 16 1 [(.str 0 0)] [(0, (.c (.str 2 20308)))]⟩,
  ⟨some kk21, none, none, .call 42 [(.t kk19), (.t kk20)]⟩])
 (.seq (.region false [⟨some kk22, none, none, .offs (.t kk3) 19⟩,
  ⟨some kk23, none, none, .offs (.t kk22) 1⟩,
  ⟨some kk24, none, none, .load 1 false (.t kk23)⟩,
  ⟨some kk25, none, none, .bin .eql (.t kk24) (.c (.int .i64 (.ofNat 1099511627776)))⟩])
 (.cond (.t kk25)
  (.region false [⟨some kk26, none, none, .mov (.t kk0)⟩,
   ⟨some kk27, none, none, .buildSl 9 1 16 1 [(.str 0 0)] [(0, (.c (.str 5 327647776341)))]⟩,
   ⟨some kk28, none, none, .call 42 [(.t kk26), (.t kk27)]⟩])
  (.region false [⟨some kk29, none, none, .mov (.t kk0)⟩,
   ⟨some kk30, none, none, .offs (.t kk3) 19⟩,
   ⟨some kk31, none, none, .offs (.t kk30) 1⟩,
   ⟨some kk32, none, none, .load 1 false (.t kk31)⟩,
   ⟨some kk33, none, none, .call 56 [(.t kk29), (.t kk32)]⟩]))))))))) }
theorem fn55 : fnOf Tryz.prog Tryz.f55 = some i55 := by kernel_rfl
/-- (*annalist.parser.printer).number -/
noncomputable def i56 : IFn := { nt := 19, ps := [kk0, kk1], res := [], body :=
 (.seq (.region false [⟨some kk4, none, none, .mov (.t kk0)⟩,
  ⟨some kk5, none, none, .mov (.t kk0)⟩,
  ⟨some kk6, none, none, .nilck (.t kk5)⟩,
  ⟨some kk7, none, none, .offs (.t kk6) 1⟩,
  ⟨some kk8, none, none, .load 1 false (.t kk7)⟩,
  ⟨some kk9, none, none, .mov (.t kk8)⟩,
  ⟨some kk10, some (kk9, false), none, .mov (.t kk1)⟩,
  ⟨some kk11, some (kk9, false), none, .bin .lss (.t kk10) (.c (.int .i64 (.ofNat 0)))⟩,
  ⟨some kk12, none, none, .pick (.t kk9) (.c (.bool true)) (.t kk11)⟩,
  ⟨some kk13, none, none, .nilck (.t kk4)⟩,
  ⟨some kk14, none, none, .offs (.t kk13) 1⟩,
  ⟨none, none, none, .store 1 (.t kk14) (.t kk12)⟩])
 (.region false [⟨some kk15, none, none, .mov (.t kk0)⟩,
  ⟨some kk16, none, none, .mov (.t kk1)⟩,
  ⟨some kk17, none, none, .call 98 [(.t kk16)]⟩,
  ⟨some kk18, none, none, .call 92 [(.t kk15), (.c (.int .i64 (.ofNat 3))), (.t kk17)]⟩])) }
theorem fn56 : fnOf Tryz.prog Tryz.f56 = some i56 := by kernel_rfl
/-- annalist.lexer.Valid -/
noncomputable def i57 : IFn := { nt := 77, ps := [kk0], res := [.tmp kk2], body :=
 (.seq (.region false [⟨some kk1, none, none, .box 35 3 32 (.t kk0)⟩,
  ⟨some kk2, none, none, .mov (.c (.bool false))⟩])
 (.seq (.region false [⟨some kk4, none, none, .offs (.t kk1) 2⟩,
  ⟨some kk5, none, none, .load 1 false (.t kk4)⟩,
  ⟨some kk3, none, none, .mov (.t kk5)⟩])
 (.seq (.seq (.region false [⟨some kk6, none, none, .offs (.t kk1) 0⟩,
  ⟨some kk7, none, none, .load 1 false (.t kk6)⟩])
 (.block 0 (.seq (.region false [⟨some kk9, none, none, .bin .eql (.t kk7) (.c (.int .i64 (.ofNat 1)))⟩,
   ⟨some kk8, none, none, .mov (.t kk9)⟩])
  (.cond (.t kk8)
   (.seq (.region false [⟨some kk10, none, none, .mov (.t kk3)⟩,
    ⟨some kk11, none, none, .bin .neq (.t kk10) (.c (.str 0 0))⟩,
    ⟨some kk12, none, none, .mov (.t kk11)⟩,
    ⟨some kk13, some (kk12, true), none, .mov (.t kk3)⟩,
    ⟨some kk14, some (kk12, true), none, .call 11 [(.t kk13), (.c (.int .i64 (.ofNat 0))), (.c (.func 29 []))]⟩,
    ⟨some kk15, some (kk12, true), none, .mov (.t kk3)⟩,
    ⟨some kk16, some (kk12, true), none, .lenS (.t kk15)⟩,
    ⟨some kk17, some (kk12, true), none, .bin .eql (.t kk14) (.t kk16)⟩,
    ⟨some kk18, none, none, .pick (.t kk12) (.t kk17) (.c (.bool false))⟩,
    ⟨some kk19, none, none, .mov (.t kk18)⟩,
    ⟨some kk20, some (kk19, true), none, .load 3 true (.t kk1)⟩,
    ⟨some kk21, some (kk19, true), none, .call 14 [(.t kk20)]⟩,
    ⟨some kk22, none, none, .pick (.t kk19) (.t kk21) (.c (.bool false))⟩,
    ⟨some kk2, none, none, .mov (.t kk22)⟩])
   .ret)
   (.seq (.region false [⟨some kk24, none, none, .bin .eql (.t kk7) (.c (.int .i64 (.ofNat 2)))⟩,
    ⟨some kk23, none, none, .mov (.t kk24)⟩])
   (.cond (.t kk23)
    (.seq (.region false [⟨some kk25, none, none, .mov (.t kk3)⟩,
     ⟨some kk26, none, none, .bin .neq (.t kk25) (.c (.str 0 0))⟩,
     ⟨some kk27, none, none, .mov (.t kk26)⟩,
     ⟨some kk28, some (kk27, true), none, .mov (.t kk3)⟩,
     ⟨some kk29, some (kk27, true), none, .idxStr (.t kk28) (.c (.int .i64 (.ofNat 0)))⟩,
     ⟨some kk30, some (kk27, true), none, .call 30 [(.t kk29)]⟩,
     ⟨some kk31, none, none, .pick (.t kk27) (.t kk30) (.c (.bool false))⟩,
     ⟨some kk32, none, none, .mov (.t kk31)⟩,
     ⟨some kk33, some (kk32, true), none, .mov (.t kk3)⟩,
     ⟨some kk34, some (kk32, true), none, .call 11 [(.t kk33), (.c (.int .i64 (.ofNat 0))), (.c (.func 31 []))]⟩,
     ⟨some kk35, some (kk32, true), none, .mov (.t kk3)⟩,
     ⟨some kk36, some (kk32, true), none, .lenS (.t kk35)⟩,
     ⟨some kk37, some (kk32, true), none, .bin .eql (.t kk34) (.t kk36)⟩,
     ⟨some kk38, none, none, .pick (.t kk32) (.t kk37) (.c (.bool false))⟩,
     ⟨some kk39, none, none, .mov (.t kk38)⟩,
     ⟨some kk40, some (kk39, true), none, .load 3 true (.t kk1)⟩,
     ⟨some kk41, some (kk39, true), none, .call 14 [(.t kk40)]⟩,
     ⟨some kk42, none, none, .pick (.t kk39) (.t kk41) (.c (.bool false))⟩,
     ⟨some kk2, none, none, .mov (.t kk42)⟩])
    .ret)
    (.seq (.region false [⟨some kk44, none, none, .bin .eql (.t kk7) (.c (.int .i64 (.ofNat 3)))⟩,
     ⟨some kk43, none, none, .mov (.t kk44)⟩])
    (.cond (.t kk43)
     (.seq (.region false [⟨some kk45, none, none, .mov (.t kk3)⟩,
      ⟨some kk46, none, none, .bin .neq (.t kk45) (.c (.str 0 0))⟩,
      ⟨some kk47, none, none, .mov (.t kk46)⟩,
      ⟨some kk48, some (kk47, true), none, .mov (.t kk3)⟩,
      ⟨some kk49, some (kk47, true), none, .call 11 [(.t kk48), (.c (.int .i64 (.ofNat 0))), (.c (.func 32 []))]⟩,
      ⟨some kk50, some (kk47, true), none, .mov (.t kk3)⟩,
      ⟨some kk51, some (kk47, true), none, .lenS (.t kk50)⟩,
      ⟨some kk52, some (kk47, true), none, .bin .eql (.t kk49) (.t kk51)⟩,
      ⟨some kk53, none, none, .pick (.t kk47) (.t kk52) (.c (.bool false))⟩,
      ⟨some kk54, none, none, .mov (.t kk53)⟩,
      ⟨some kk55, some (kk54, true), none, .load 3 true (.t kk1)⟩,
      ⟨some kk56, some (kk54, true), none, .call 14 [(.t kk55)]⟩,
      ⟨some kk57, none, none, .pick (.t kk54) (.t kk56) (.c (.bool false))⟩,
      ⟨some kk2, none, none, .mov (.t kk57)⟩])
     .ret)
     (.seq (.region false [⟨some kk59, none, none, .bin .eql (.t kk7) (.c (.int .i64 (.ofNat 4)))⟩,
      ⟨some kk58, none, none, .mov (.t kk59)⟩])
     (.cond (.t kk58)
      (.seq (.region false [⟨some kk60, none, none, .load 3 true (.t kk1)⟩,
       ⟨some kk61, none, none, .call 14 [(.t kk60)]⟩,
       ⟨some kk2, none, none, .mov (.t kk61)⟩])
      .ret)
      (.seq (.region false [⟨some kk63, none, none, .bin .eql (.t kk7) (.c (.int .i64 (.ofNat 5)))⟩,
       ⟨some kk62, none, none, .mov (.t kk63)⟩])
      (.cond (.t kk62)
       (.seq (.region false [⟨some kk64, none, none, .mov (.t kk3)⟩,
        ⟨some kk65, none, none, .lenS (.t kk64)⟩,
        ⟨some kk66, none, none, .bin .eql (.t kk65) (.c (.int .i64 (.ofNat 1)))⟩,
        ⟨some kk67, none, none, .mov (.t kk66)⟩,
        ⟨some kk68, some (kk67, true), none, .mov (.t kk3)⟩,
        ⟨some kk69, some (kk67, true), none, .idxStr (.t kk68) (.c (.int .i64 (.ofNat 0)))⟩,
        ⟨some kk70, some (kk67, true), none, .call 34 [(.c (.str 11 71620521292072532312860968)), (.t kk69)]⟩,
        ⟨some kk71, some (kk67, true), none, .bin .geq (.t kk70) (.c (.int .i64 (.ofNat 0)))⟩,
        ⟨some kk72, none, none, .pick (.t kk67) (.t kk71) (.c (.bool false))⟩,
        ⟨some kk2, none, none, .mov (.t kk72)⟩])
       .ret)
       (.seq (.region false [⟨some kk74, none, none, .bin .eql (.t kk7) (.c (.int .i64 (.ofNat 6)))⟩,
        ⟨some kk73, none, none, .mov (.t kk74)⟩])
       (.cond (.t kk73)
        (.seq (.region false [⟨some kk75, none, none, .mov (.t kk3)⟩,
         ⟨some kk76, none, none, .bin .eql (.t kk75) (.c (.str 0 0))⟩,
         ⟨some kk2, none, none, .mov (.t kk76)⟩])
        .ret)
        .skip))))))))))))))
 (.seq (.region false [⟨some kk2, none, none, .mov (.c (.bool false))⟩])
 .ret)))) }
theorem fn57 : fnOf Tryz.prog Tryz.f57 = some i57 := by kernel_rfl
/-- slices.Equal[[]annalist.api.Value,annalist.api.Value] -/
noncomputable def i58 : IFn := { nt := 26, ps := [kk0, kk1], res := [.tmp kk4], body :=
 (.seq (.region false [⟨some kk4, none, none, .mov (.c (.bool false))⟩])
 (.seq (.seq (.region false [⟨some kk6, none, none, .mov (.t kk0)⟩,
  ⟨some kk7, none, none, .len (.t kk6)⟩,
  ⟨some kk8, none, none, .mov (.t kk1)⟩,
  ⟨some kk9, none, none, .len (.t kk8)⟩,
  ⟨some kk10, none, none, .bin .neq (.t kk7) (.t kk9)⟩])
 (.cond (.t kk10)
  (.seq (.region false [⟨some kk4, none, none, .mov (.c (.bool false))⟩])
  .ret)
  .skip))
 (.seq (.seq (.region false [⟨some kk11, none, none, .mov (.t kk0)⟩,
  ⟨some kk12, none, none, .len (.t kk11)⟩,
  ⟨some kk13, none, none, .mov (.c (.int .i64 (.ofNat 0)))⟩])
 (.block 0 (.loop (.seq (.region false [⟨some kk14, none, none, .bin .lss (.t kk13) (.t kk12)⟩])
   (.seq (.cond (.t kk14)
    .skip
    (.exit 0))
   (.seq (.block 1 (.seq (.region false [⟨some kk15, none, none, .mov (.t kk13)⟩,
     ⟨some kk5, none, none, .mov (.t kk15)⟩])
    (.seq (.region true [⟨some kk16, none, none, .mov (.t kk0)⟩,
     ⟨some kk17, none, none, .mov (.t kk5)⟩,
     ⟨some kk18, none, none, .idxSl 3 (.t kk16) (.t kk17)⟩,
     ⟨some kk19, none, some [], .load 3 true (.t kk18)⟩,
     ⟨some kk20, none, none, .mov (.t kk1)⟩,
     ⟨some kk21, none, none, .mov (.t kk5)⟩,
     ⟨some kk22, none, none, .idxSl 3 (.t kk20) (.t kk21)⟩,
     ⟨some kk23, none, some [0], .load 3 true (.t kk22)⟩,
     ⟨some kk24, none, none, .eqv (.agg [3, 3, 101]) true (.t kk19) (.t kk23)⟩])
    (.cond (.t kk24)
     (.seq (.region false [⟨some kk4, none, none, .mov (.c (.bool false))⟩])
     .ret)
     .skip))))
   (.region false [⟨some kk25, none, none, .bin .add (.t kk13) (.c (.int .i64 (.ofNat 1)))⟩,
    ⟨some kk13, none, none, .mov (.t kk25)⟩])))))))
 (.seq (.region false [⟨some kk4, none, none, .mov (.c (.bool true))⟩])
 .ret)))) }
theorem fn58 : fnOf Tryz.prog Tryz.f58 = some i58 := by kernel_rfl
/-- slices.Equal[[]annalist.api.SyntaxExpr,annalist.api.SyntaxExpr] -/
noncomputable def i59 : IFn := { nt := 26, ps := [kk0, kk1], res := [.tmp kk4], body :=
 (.seq (.region false [⟨some kk4, none, none, .mov (.c (.bool false))⟩])
 (.seq (.seq (.region false [⟨some kk6, none, none, .mov (.t kk0)⟩,
  ⟨some kk7, none, none, .len (.t kk6)⟩,
  ⟨some kk8, none, none, .mov (.t kk1)⟩,
  ⟨some kk9, none, none, .len (.t kk8)⟩,
  ⟨some kk10, none, none, .bin .neq (.t kk7) (.t kk9)⟩])
 (.cond (.t kk10)
  (.seq (.region false [⟨some kk4, none, none, .mov (.c (.bool false))⟩])
  .ret)
  .skip))
 (.seq (.seq (.region false [⟨some kk11, none, none, .mov (.t kk0)⟩,
  ⟨some kk12, none, none, .len (.t kk11)⟩,
  ⟨some kk13, none, none, .mov (.c (.int .i64 (.ofNat 0)))⟩])
 (.block 0 (.loop (.seq (.region false [⟨some kk14, none, none, .bin .lss (.t kk13) (.t kk12)⟩])
   (.seq (.cond (.t kk14)
    .skip
    (.exit 0))
   (.seq (.block 1 (.seq (.region false [⟨some kk15, none, none, .mov (.t kk13)⟩,
     ⟨some kk5, none, none, .mov (.t kk15)⟩])
    (.seq (.region true [⟨some kk16, none, none, .mov (.t kk0)⟩,
     ⟨some kk17, none, none, .mov (.t kk5)⟩,
     ⟨some kk18, none, none, .idxSl 8 (.t kk16) (.t kk17)⟩,
     ⟨some kk19, none, some [], .load 8 true (.t kk18)⟩,
     ⟨some kk20, none, none, .mov (.t kk1)⟩,
     ⟨some kk21, none, none, .mov (.t kk5)⟩,
     ⟨some kk22, none, none, .idxSl 8 (.t kk20) (.t kk21)⟩,
     ⟨some kk23, none, some [0], .load 8 true (.t kk22)⟩,
     ⟨some kk24, none, none, .eqv (.agg [3, 3, 3, 101, 101, 3, 3, 101]) true (.t kk19) (.t kk23)⟩])
    (.cond (.t kk24)
     (.seq (.region false [⟨some kk4, none, none, .mov (.c (.bool false))⟩])
     .ret)
     .skip))))
   (.region false [⟨some kk25, none, none, .bin .add (.t kk13) (.c (.int .i64 (.ofNat 1)))⟩,
    ⟨some kk13, none, none, .mov (.t kk25)⟩])))))))
 (.seq (.region false [⟨some kk4, none, none, .mov (.c (.bool true))⟩])
 .ret)))) }
theorem fn59 : fnOf Tryz.prog Tryz.f59 = some i59 := by kernel_rfl
/-- slices.Equal[[]annalist.api.SetClause,annalist.api.SetClause] -/
noncomputable def i60 : IFn := { nt := 26, ps := [kk0, kk1], res := [.tmp kk4], body :=
 (.seq (.region false [⟨some kk4, none, none, .mov (.c (.bool false))⟩])
 (.seq (.seq (.region false [⟨some kk6, none, none, .mov (.t kk0)⟩,
  ⟨some kk7, none, none, .len (.t kk6)⟩,
  ⟨some kk8, none, none, .mov (.t kk1)⟩,
  ⟨some kk9, none, none, .len (.t kk8)⟩,
  ⟨some kk10, none, none, .bin .neq (.t kk7) (.t kk9)⟩])
 (.cond (.t kk10)
  (.seq (.region false [⟨some kk4, none, none, .mov (.c (.bool false))⟩])
  .ret)
  .skip))
 (.seq (.seq (.region false [⟨some kk11, none, none, .mov (.t kk0)⟩,
  ⟨some kk12, none, none, .len (.t kk11)⟩,
  ⟨some kk13, none, none, .mov (.c (.int .i64 (.ofNat 0)))⟩])
 (.block 0 (.loop (.seq (.region false [⟨some kk14, none, none, .bin .lss (.t kk13) (.t kk12)⟩])
   (.seq (.cond (.t kk14)
    .skip
    (.exit 0))
   (.seq (.block 1 (.seq (.region false [⟨some kk15, none, none, .mov (.t kk13)⟩,
     ⟨some kk5, none, none, .mov (.t kk15)⟩])
    (.seq (.region true [⟨some kk16, none, none, .mov (.t kk0)⟩,
     ⟨some kk17, none, none, .mov (.t kk5)⟩,
     ⟨some kk18, none, none, .idxSl 2 (.t kk16) (.t kk17)⟩,
     ⟨some kk19, none, some [], .load 2 true (.t kk18)⟩,
     ⟨some kk20, none, none, .mov (.t kk1)⟩,
     ⟨some kk21, none, none, .mov (.t kk5)⟩,
     ⟨some kk22, none, none, .idxSl 2 (.t kk20) (.t kk21)⟩,
     ⟨some kk23, none, some [0], .load 2 true (.t kk22)⟩,
     ⟨some kk24, none, none, .eqv (.agg [101, 3]) true (.t kk19) (.t kk23)⟩])
    (.cond (.t kk24)
     (.seq (.region false [⟨some kk4, none, none, .mov (.c (.bool false))⟩])
     .ret)
     .skip))))
   (.region false [⟨some kk25, none, none, .bin .add (.t kk13) (.c (.int .i64 (.ofNat 1)))⟩,
    ⟨some kk13, none, none, .mov (.t kk25)⟩])))))))
 (.seq (.region false [⟨some kk4, none, none, .mov (.c (.bool true))⟩])
 .ret)))) }
theorem fn60 : fnOf Tryz.prog Tryz.f60 = some i60 := by kernel_rfl
/-- slices.Equal[[]annalist.api.Column,annalist.api.Column] -/
noncomputable def i61 : IFn := { nt := 26, ps := [kk0, kk1], res := [.tmp kk4], body :=
 (.seq (.region false [⟨some kk4, none, none, .mov (.c (.bool false))⟩])
 (.seq (.seq (.region false [⟨some kk6, none, none, .mov (.t kk0)⟩,
  ⟨some kk7, none, none, .len (.t kk6)⟩,
  ⟨some kk8, none, none, .mov (.t kk1)⟩,
  ⟨some kk9, none, none, .len (.t kk8)⟩,
  ⟨some kk10, none, none, .bin .neq (.t kk7) (.t kk9)⟩])
 (.cond (.t kk10)
  (.seq (.region false [⟨some kk4, none, none, .mov (.c (.bool false))⟩])
  .ret)
  .skip))
 (.seq (.seq (.region false [⟨some kk11, none, none, .mov (.t kk0)⟩,
  ⟨some kk12, none, none, .len (.t kk11)⟩,
  ⟨some kk13, none, none, .mov (.c (.int .i64 (.ofNat 0)))⟩])
 (.block 0 (.loop (.seq (.region false [⟨some kk14, none, none, .bin .lss (.t kk13) (.t kk12)⟩])
   (.seq (.cond (.t kk14)
    .skip
    (.exit 0))
   (.seq (.block 1 (.seq (.region false [⟨some kk15, none, none, .mov (.t kk13)⟩,
     ⟨some kk5, none, none, .mov (.t kk15)⟩])
    (.seq (.region true [⟨some kk16, none, none, .mov (.t kk0)⟩,
     ⟨some kk17, none, none, .mov (.t kk5)⟩,
     ⟨some kk18, none, none, .idxSl 3 (.t kk16) (.t kk17)⟩,
     ⟨some kk19, none, some [], .load 3 true (.t kk18)⟩,
     ⟨some kk20, none, none, .mov (.t kk1)⟩,
     ⟨some kk21, none, none, .mov (.t kk5)⟩,
     ⟨some kk22, none, none, .idxSl 3 (.t kk20) (.t kk21)⟩,
     ⟨some kk23, none, some [0], .load 3 true (.t kk22)⟩,
     ⟨some kk24, none, none, .eqv (.agg [3, 101, 3]) true (.t kk19) (.t kk23)⟩])
    (.cond (.t kk24)
     (.seq (.region false [⟨some kk4, none, none, .mov (.c (.bool false))⟩])
     .ret)
     .skip))))
   (.region false [⟨some kk25, none, none, .bin .add (.t kk13) (.c (.int .i64 (.ofNat 1)))⟩,
    ⟨some kk13, none, none, .mov (.t kk25)⟩])))))))
 (.seq (.region false [⟨some kk4, none, none, .mov (.c (.bool true))⟩])
 .ret)))) }
theorem fn61 : fnOf Tryz.prog Tryz.f61 = some i61 := by kernel_rfl
/-- slices.Equal[[]string,string] -/
noncomputable def i62 : IFn := { nt := 26, ps := [kk0, kk1], res := [.tmp kk4], body :=
 (.seq (.region false [⟨some kk4, none, none, .mov (.c (.bool false))⟩])
 (.seq (.seq (.region false [⟨some kk6, none, none, .mov (.t kk0)⟩,
  ⟨some kk7, none, none, .len (.t kk6)⟩,
  ⟨some kk8, none, none, .mov (.t kk1)⟩,
  ⟨some kk9, none, none, .len (.t kk8)⟩,
  ⟨some kk10, none, none, .bin .neq (.t kk7) (.t kk9)⟩])
 (.cond (.t kk10)
  (.seq (.region false [⟨some kk4, none, none, .mov (.c (.bool false))⟩])
  .ret)
  .skip))
 (.seq (.seq (.region false [⟨some kk11, none, none, .mov (.t kk0)⟩,
  ⟨some kk12, none, none, .len (.t kk11)⟩,
  ⟨some kk13, none, none, .mov (.c (.int .i64 (.ofNat 0)))⟩])
 (.block 0 (.loop (.seq (.region false [⟨some kk14, none, none, .bin .lss (.t kk13) (.t kk12)⟩])
   (.seq (.cond (.t kk14)
    .skip
    (.exit 0))
   (.seq (.block 1 (.seq (.region false [⟨some kk15, none, none, .mov (.t kk13)⟩,
     ⟨some kk5, none, none, .mov (.t kk15)⟩])
    (.seq (.region true [⟨some kk16, none, none, .mov (.t kk0)⟩,
     ⟨some kk17, none, none, .mov (.t kk5)⟩,
     ⟨some kk18, none, none, .idxSl 1 (.t kk16) (.t kk17)⟩,
     ⟨some kk19, none, some [], .load 1 false (.t kk18)⟩,
     ⟨some kk20, none, none, .mov (.t kk1)⟩,
     ⟨some kk21, none, none, .mov (.t kk5)⟩,
     ⟨some kk22, none, none, .idxSl 1 (.t kk20) (.t kk21)⟩,
     ⟨some kk23, none, some [0], .load 1 false (.t kk22)⟩,
     ⟨some kk24, none, none, .bin .neq (.t kk19) (.t kk23)⟩])
    (.cond (.t kk24)
     (.seq (.region false [⟨some kk4, none, none, .mov (.c (.bool false))⟩])
     .ret)
     .skip))))
   (.region false [⟨some kk25, none, none, .bin .add (.t kk13) (.c (.int .i64 (.ofNat 1)))⟩,
    ⟨some kk13, none, none, .mov (.t kk25)⟩])))))))
 (.seq (.region false [⟨some kk4, none, none, .mov (.c (.bool true))⟩])
 .ret)))) }
theorem fn62 : fnOf Tryz.prog Tryz.f62 = some i62 := by kernel_rfl
/-- slices.EqualFunc[[]annalist.api.ForeignKeyDef,[]annalist.api.ForeignKeyDef,annalist.api.ForeignKeyDef,annalist.api.ForeignKeyDef] -/
noncomputable def i63 : IFn := { nt := 32, ps := [kk0, kk1, kk2], res := [.tmp kk6], body :=
 (.seq (.region false [⟨some kk6, none, none, .mov (.c (.bool false))⟩])
 (.seq (.seq (.region false [⟨some kk10, none, none, .mov (.t kk0)⟩,
  ⟨some kk11, none, none, .len (.t kk10)⟩,
  ⟨some kk12, none, none, .mov (.t kk1)⟩,
  ⟨some kk13, none, none, .len (.t kk12)⟩,
  ⟨some kk14, none, none, .bin .neq (.t kk11) (.t kk13)⟩])
 (.cond (.t kk14)
  (.seq (.region false [⟨some kk6, none, none, .mov (.c (.bool false))⟩])
  .ret)
  .skip))
 (.seq (.seq (.region false [⟨some kk15, none, none, .mov (.t kk0)⟩,
  ⟨some kk16, none, none, .len (.t kk15)⟩,
  ⟨some kk17, none, none, .mov (.c (.int .i64 (.ofNat 0)))⟩])
 (.block 0 (.loop (.seq (.region false [⟨some kk18, none, none, .bin .lss (.t kk17) (.t kk16)⟩])
   (.seq (.cond (.t kk18)
    .skip
    (.exit 0))
   (.seq (.block 1 (.seq (.region false [⟨some kk19, none, none, .mov (.t kk17)⟩,
     ⟨some kk20, none, none, .idxSl 3 (.t kk15) (.t kk17)⟩,
     ⟨some kk21, none, none, .load 3 true (.t kk20)⟩,
     ⟨some kk8, none, none, .boxz 105 3 64 [.nilslice, (.str 0 0), .nilslice]⟩,
     ⟨some kk7, none, none, .mov (.t kk19)⟩,
     ⟨none, none, none, .store 3 (.t kk8) (.t kk21)⟩])
    (.seq (.region false [⟨some kk22, none, none, .mov (.t kk1)⟩,
     ⟨some kk23, none, none, .mov (.t kk7)⟩,
     ⟨some kk24, none, none, .idxSl 3 (.t kk22) (.t kk23)⟩,
     ⟨some kk25, none, none, .load 3 true (.t kk24)⟩,
     ⟨some kk9, none, none, .boxz 105 3 64 [.nilslice, (.str 0 0), .nilslice]⟩,
     ⟨none, none, none, .store 3 (.t kk9) (.t kk25)⟩])
    (.seq (.region false [⟨some kk26, none, none, .mov (.t kk2)⟩,
     ⟨some kk27, none, none, .load 3 true (.t kk8)⟩,
     ⟨some kk28, none, none, .load 3 true (.t kk9)⟩,
     ⟨some kk29, none, none, .callv (.t kk26) [(.t kk27), (.t kk28)]⟩,
     ⟨some kk30, none, none, .un .not (.t kk29)⟩])
    (.cond (.t kk30)
     (.seq (.region false [⟨some kk6, none, none, .mov (.c (.bool false))⟩])
     .ret)
     .skip)))))
   (.region false [⟨some kk31, none, none, .bin .add (.t kk17) (.c (.int .i64 (.ofNat 1)))⟩,
    ⟨some kk17, none, none, .mov (.t kk31)⟩])))))))
 (.seq (.region false [⟨some kk6, none, none, .mov (.c (.bool true))⟩])
 .ret)))) }
theorem fn63 : fnOf Tryz.prog Tryz.f63 = some i63 := by kernel_rfl
/-- annalist.parser.equalForeignKey -/
noncomputable def i64 : IFn := { nt := 24, ps := [kk0, kk1], res := [.tmp kk4], body :=
 (.seq (.region false [⟨some kk2, none, none, .box 105 3 64 (.t kk0)⟩,
  ⟨some kk3, none, none, .box 105 3 64 (.t kk1)⟩,
  ⟨some kk4, none, none, .mov (.c (.bool false))⟩])
 (.seq (.region false [⟨some kk5, none, none, .offs (.t kk2) 1⟩,
  ⟨some kk6, none, none, .load 1 false (.t kk5)⟩,
  ⟨some kk7, none, none, .offs (.t kk3) 1⟩,
  ⟨some kk8, none, none, .load 1 false (.t kk7)⟩,
  ⟨some kk9, none, none, .bin .eql (.t kk6) (.t kk8)⟩,
  ⟨some kk10, none, none, .mov (.t kk9)⟩,
  ⟨some kk11, some (kk10, true), none, .offs (.t kk2) 0⟩,
  ⟨some kk12, some (kk10, true), none, .load 1 false (.t kk11)⟩,
  ⟨some kk13, some (kk10, true), none, .offs (.t kk3) 0⟩,
  ⟨some kk14, some (kk10, true), none, .load 1 false (.t kk13)⟩,
  ⟨some kk15, some (kk10, true), none, .call 62 [(.t kk12), (.t kk14)]⟩,
  ⟨some kk16, none, none, .pick (.t kk10) (.t kk15) (.c (.bool false))⟩,
  ⟨some kk17, none, none, .mov (.t kk16)⟩,
  ⟨some kk18, some (kk17, true), none, .offs (.t kk2) 2⟩,
  ⟨some kk19, some (kk17, true), none, .load 1 false (.t kk18)⟩,
  ⟨some kk20, some (kk17, true), none, .offs (.t kk3) 2⟩,
  ⟨some kk21, some (kk17, true), none, .load 1 false (.t kk20)⟩,
  ⟨some kk22, some (kk17, true), none, .call 62 [(.t kk19), (.t kk21)]⟩,
  ⟨some kk23, none, none, .pick (.t kk17) (.t kk22) (.c (.bool false))⟩,
  ⟨some kk4, none, none, .mov (.t kk23)⟩])
 .ret)) }
theorem fn64 : fnOf Tryz.prog Tryz.f64 = some i64 := by kernel_rfl
/-- slices.EqualFunc[[]annalist.api.ConstraintDef,[]annalist.api.ConstraintDef,annalist.api.ConstraintDef,annalist.api.ConstraintDef] -/
noncomputable def i65 : IFn := { nt := 32, ps := [kk0, kk1, kk2], res := [.tmp kk6], body :=
 (.seq (.region false [⟨some kk6, none, none, .mov (.c (.bool false))⟩])
 (.seq (.seq (.region false [⟨some kk10, none, none, .mov (.t kk0)⟩,
  ⟨some kk11, none, none, .len (.t kk10)⟩,
  ⟨some kk12, none, none, .mov (.t kk1)⟩,
  ⟨some kk13, none, none, .len (.t kk12)⟩,
  ⟨some kk14, none, none, .bin .neq (.t kk11) (.t kk13)⟩])
 (.cond (.t kk14)
  (.seq (.region false [⟨some kk6, none, none, .mov (.c (.bool false))⟩])
  .ret)
  .skip))
 (.seq (.seq (.region false [⟨some kk15, none, none, .mov (.t kk0)⟩,
  ⟨some kk16, none, none, .len (.t kk15)⟩,
  ⟨some kk17, none, none, .mov (.c (.int .i64 (.ofNat 0)))⟩])
 (.block 0 (.loop (.seq (.region false [⟨some kk18, none, none, .bin .lss (.t kk17) (.t kk16)⟩])
   (.seq (.cond (.t kk18)
    .skip
    (.exit 0))
   (.seq (.block 1 (.seq (.region false [⟨some kk19, none, none, .mov (.t kk17)⟩,
     ⟨some kk20, none, none, .idxSl 2 (.t kk15) (.t kk17)⟩,
     ⟨some kk21, none, none, .load 2 true (.t kk20)⟩,
     ⟨some kk8, none, none, .boxz 107 2 32 [(.int .i64 (.ofNat 0)), .nilslice]⟩,
     ⟨some kk7, none, none, .mov (.t kk19)⟩,
     ⟨none, none, none, .store 2 (.t kk8) (.t kk21)⟩])
    (.seq (.region false [⟨some kk22, none, none, .mov (.t kk1)⟩,
     ⟨some kk23, none, none, .mov (.t kk7)⟩,
     ⟨some kk24, none, none, .idxSl 2 (.t kk22) (.t kk23)⟩,
     ⟨some kk25, none, none, .load 2 true (.t kk24)⟩,
     ⟨some kk9, none, none, .boxz 107 2 32 [(.int .i64 (.ofNat 0)), .nilslice]⟩,
     ⟨none, none, none, .store 2 (.t kk9) (.t kk25)⟩])
    (.seq (.region false [⟨some kk26, none, none, .mov (.t kk2)⟩,
     ⟨some kk27, none, none, .load 2 true (.t kk8)⟩,
     ⟨some kk28, none, none, .load 2 true (.t kk9)⟩,
     ⟨some kk29, none, none, .callv (.t kk26) [(.t kk27), (.t kk28)]⟩,
     ⟨some kk30, none, none, .un .not (.t kk29)⟩])
    (.cond (.t kk30)
     (.seq (.region false [⟨some kk6, none, none, .mov (.c (.bool false))⟩])
     .ret)
     .skip)))))
   (.region false [⟨some kk31, none, none, .bin .add (.t kk17) (.c (.int .i64 (.ofNat 1)))⟩,
    ⟨some kk17, none, none, .mov (.t kk31)⟩])))))))
 (.seq (.region false [⟨some kk6, none, none, .mov (.c (.bool true))⟩])
 .ret)))) }
theorem fn65 : fnOf Tryz.prog Tryz.f65 = some i65 := by kernel_rfl
/-- annalist.parser.equalConstraint -/
noncomputable def i66 : IFn := { nt := 17, ps := [kk0, kk1], res := [.tmp kk4], body :=
 (.seq (.region false [⟨some kk2, none, none, .box 107 2 32 (.t kk0)⟩,
  ⟨some kk3, none, none, .box 107 2 32 (.t kk1)⟩,
  ⟨some kk4, none, none, .mov (.c (.bool false))⟩])
 (.seq (.region false [⟨some kk5, none, none, .offs (.t kk2) 0⟩,
  ⟨some kk6, none, none, .load 1 false (.t kk5)⟩,
  ⟨some kk7, none, none, .offs (.t kk3) 0⟩,
  ⟨some kk8, none, none, .load 1 false (.t kk7)⟩,
  ⟨some kk9, none, none, .bin .eql (.t kk6) (.t kk8)⟩,
  ⟨some kk10, none, none, .mov (.t kk9)⟩,
  ⟨some kk11, some (kk10, true), none, .offs (.t kk2) 1⟩,
  ⟨some kk12, some (kk10, true), none, .load 1 false (.t kk11)⟩,
  ⟨some kk13, some (kk10, true), none, .offs (.t kk3) 1⟩,
  ⟨some kk14, some (kk10, true), none, .load 1 false (.t kk13)⟩,
  ⟨some kk15, some (kk10, true), none, .call 62 [(.t kk12), (.t kk14)]⟩,
  ⟨some kk16, none, none, .pick (.t kk10) (.t kk15) (.c (.bool false))⟩,
  ⟨some kk4, none, none, .mov (.t kk16)⟩])
 .ret)) }
theorem fn66 : fnOf Tryz.prog Tryz.f66 = some i66 := by kernel_rfl
/-- (*strings.Builder).Len -/
noncomputable def i67 : IFn := { nt := 8, ps := [kk0], res := [.tmp kk2], body :=
 (.seq (.region false [⟨some kk2, none, none, .mov (.c (.int .i64 (.ofNat 0)))⟩])
 (.seq (.region false [⟨some kk3, none, none, .mov (.t kk0)⟩,
  ⟨some kk4, none, none, .nilck (.t kk3)⟩,
  ⟨some kk5, none, none, .offs (.t kk4) 1⟩,
  ⟨some kk6, none, none, .load 1 false (.t kk5)⟩,
  ⟨some kk7, none, none, .len (.t kk6)⟩,
  ⟨some kk2, none, none, .mov (.t kk7)⟩])
 .ret)) }
theorem fn67 : fnOf Tryz.prog Tryz.f67 = some i67 := by kernel_rfl
/-- (*strings.Builder).WriteByte -/
noncomputable def i68 : IFn := { nt := 17, ps := [kk0, kk1], res := [.tmp kk4], body :=
 (.seq (.region false [⟨some kk4, none, none, .mov (.c .niliface)⟩])
 (.seq (.region false [⟨some kk5, none, none, .mov (.t kk0)⟩,
  ⟨some kk6, none, none, .call 99 [(.t kk5)]⟩])
 (.seq (.region false [⟨some kk7, none, none, .mov (.t kk0)⟩,
  ⟨some kk8, none, none, .mov (.t kk0)⟩,
  ⟨some kk9, none, none, .nilck (.t kk8)⟩,
  ⟨some kk10, none, none, .offs (.t kk9) 1⟩,
  ⟨some kk11, none, none, .load 1 false (.t kk10)⟩,
  ⟨some kk12, none, none, .mov (.t kk1)⟩,
  ⟨some kk13, none, none, .buildSl 5 1 1 1 [(.int .u8 (.ofNat 0))] [(0, (.t kk12))]⟩,
  ⟨some kk14, none, none, .app 5 1 1 (.t kk11) (.t kk13)⟩,
  ⟨some kk15, none, none, .nilck (.t kk7)⟩,
  ⟨some kk16, none, none, .offs (.t kk15) 1⟩,
  ⟨none, none, none, .store 1 (.t kk16) (.t kk14)⟩])
 (.seq (.region false [⟨some kk4, none, none, .mov (.c .niliface)⟩])
 .ret)))) }
theorem fn68 : fnOf Tryz.prog Tryz.f68 = some i68 := by kernel_rfl
/-- (*strings.Builder).WriteString -/
noncomputable def i69 : IFn := { nt := 19, ps := [kk0, kk1], res := [.tmp kk4, .tmp kk5], body :=
 (.seq (.region false [⟨some kk4, none, none, .mov (.c (.int .i64 (.ofNat 0)))⟩,
  ⟨some kk5, none, none, .mov (.c .niliface)⟩])
 (.seq (.region false [⟨some kk6, none, none, .mov (.t kk0)⟩,
  ⟨some kk7, none, none, .call 99 [(.t kk6)]⟩])
 (.seq (.region false [⟨some kk8, none, none, .mov (.t kk0)⟩,
  ⟨some kk9, none, none, .mov (.t kk0)⟩,
  ⟨some kk10, none, none, .nilck (.t kk9)⟩,
  ⟨some kk11, none, none, .offs (.t kk10) 1⟩,
  ⟨some kk12, none, none, .load 1 false (.t kk11)⟩,
  ⟨some kk13, none, none, .mov (.t kk1)⟩,
  ⟨some kk14, none, none, .appStr 5 (.t kk12) (.t kk13)⟩,
  ⟨some kk15, none, none, .nilck (.t kk8)⟩,
  ⟨some kk16, none, none, .offs (.t kk15) 1⟩,
  ⟨none, none, none, .store 1 (.t kk16) (.t kk14)⟩])
 (.seq (.region false [⟨some kk17, none, none, .mov (.t kk1)⟩,
  ⟨some kk18, none, none, .lenS (.t kk17)⟩,
  ⟨some kk4, none, none, .mov (.t kk18)⟩,
  ⟨some kk5, none, none, .mov (.c .niliface)⟩])
 .ret)))) }
theorem fn69 : fnOf Tryz.prog Tryz.f69 = some i69 := by kernel_rfl
/-- strings.ReplaceAll -/
noncomputable def i70 : IFn := { nt := 11, ps := [kk0, kk1, kk2], res := [.tmp kk6], body :=
 (.seq (.region false [⟨some kk6, none, none, .mov (.c (.str 0 0))⟩])
 (.seq (.region false [⟨some kk7, none, none, .mov (.t kk0)⟩,
  ⟨some kk8, none, none, .mov (.t kk1)⟩,
  ⟨some kk9, none, none, .mov (.t kk2)⟩,
  ⟨some kk10, none, none, .call 100 [(.t kk7), (.t kk8), (.t kk9), (.c (.int .i64 (.negSucc 0)))]⟩,
  ⟨some kk6, none, none, .mov (.t kk10)⟩])
 .ret)) }
theorem fn70 : fnOf Tryz.prog Tryz.f70 = some i70 := by kernel_rfl
/-- (*strings.Builder).String -/
noncomputable def i71 : IFn := { nt := 14, ps := [kk0], res := [.tmp kk2], body :=
 (.seq (.region false [⟨some kk2, none, none, .mov (.c (.str 0 0))⟩])
 (.seq (.region true [⟨some kk3, none, none, .mov (.t kk0)⟩,
  ⟨some kk4, none, none, .nilck (.t kk3)⟩,
  ⟨some kk5, none, none, .offs (.t kk4) 1⟩,
  ⟨some kk6, none, some [], .load 1 false (.t kk5)⟩,
  ⟨some kk7, none, none, .usd (.t kk6)⟩,
  ⟨some kk8, none, none, .mov (.t kk0)⟩,
  ⟨some kk9, none, none, .nilck (.t kk8)⟩,
  ⟨some kk10, none, none, .offs (.t kk9) 1⟩,
  ⟨some kk11, none, some [0], .load 1 false (.t kk10)⟩,
  ⟨some kk12, none, none, .len (.t kk11)⟩,
  ⟨some kk13, none, some [], .ustr 5 (.t kk7) (.t kk12)⟩,
  ⟨some kk2, none, none, .mov (.t kk13)⟩])
 .ret)) }
theorem fn71 : fnOf Tryz.prog Tryz.f71 = some i71 := by kernel_rfl
/-- (*annalist.parser.printer).core -/
noncomputable def i72 : IFn := { nt := 73, ps := [kk0, kk1], res := [], body :=
 (.seq (.region false [⟨some kk3, none, none, .box 84 7 120 (.t kk1)⟩])
 (.seq (.region false [⟨some kk9, none, none, .offs (.t kk3) 1⟩,
  ⟨some kk10, none, none, .load 1 false (.t kk9)⟩,
  ⟨some kk11, none, none, .call 48 [(.t kk10)]⟩,
  ⟨some kk4, none, none, .boxz 96 2 48 [.nilslice, .nilslice]⟩,
  ⟨none, none, none, .store 2 (.t kk4) (.t kk11)⟩])
 (.seq (.region false [⟨some kk12, none, none, .mov (.t kk0)⟩,
  ⟨some kk13, none, none, .buildSl 9 1 16 1 [(.str 0 0)] [(0, (.c (.str 6 92647902168403)))]⟩,
  ⟨some kk14, none, none, .call 42 [(.t kk12), (.t kk13)]⟩])
 (.seq (.seq (.region false [⟨some kk15, none, none, .offs (.t kk3) 0⟩,
  ⟨some kk16, none, none, .load 1 false (.t kk15)⟩])
 (.cond (.t kk16)
  (.region false [⟨some kk17, none, none, .mov (.t kk0)⟩,
   ⟨some kk18, none, none, .buildSl 9 1 16 1 [(.str 0 0)] [(0, (.c (.str 8 6071782799479884100)))]⟩,
   ⟨some kk19, none, none, .call 42 [(.t kk17), (.t kk18)]⟩])
  .skip))
 (.seq (.seq (.region false [⟨some kk20, none, none, .offs (.t kk3) 2⟩,
  ⟨some kk21, none, none, .load 1 false (.t kk20)⟩,
  ⟨some kk22, none, none, .len (.t kk21)⟩,
  ⟨some kk23, none, none, .bin .eql (.t kk22) (.c (.int .i64 (.ofNat 0)))⟩])
 (.cond (.t kk23)
  (.region false [⟨some kk24, none, none, .mov (.t kk0)⟩,
   ⟨some kk25, none, none, .call 44 [(.t kk24), (.c (.str 1 42))]⟩])
  .skip))
 (.seq (.seq (.region false [⟨some kk26, none, none, .offs (.t kk3) 2⟩,
  ⟨some kk27, none, none, .load 1 false (.t kk26)⟩,
  ⟨some kk28, none, none, .len (.t kk27)⟩,
  ⟨some kk29, none, none, .mov (.c (.int .i64 (.ofNat 0)))⟩])
 (.block 0 (.loop (.seq (.region false [⟨some kk30, none, none, .bin .lss (.t kk29) (.t kk28)⟩])
   (.seq (.cond (.t kk30)
    .skip
    (.exit 0))
   (.seq (.block 1 (.seq (.region false [⟨some kk31, none, none, .mov (.t kk29)⟩,
     ⟨some kk32, none, none, .idxSl 3 (.t kk27) (.t kk29)⟩,
     ⟨some kk33, none, none, .load 3 true (.t kk32)⟩,
     ⟨some kk6, none, none, .boxz 138 3 32 [(.int .i64 (.ofNat 0)), (.int .i64 (.ofNat 0)), (.str 0 0)]⟩,
     ⟨some kk5, none, none, .mov (.t kk31)⟩,
     ⟨none, none, none, .store 3 (.t kk6) (.t kk33)⟩])
    (.seq (.region false [⟨some kk34, none, none, .mov (.t kk0)⟩,
     ⟨some kk35, none, none, .mov (.t kk5)⟩,
     ⟨some kk36, none, none, .call 45 [(.t kk34), (.t kk35)]⟩])
    (.region false [⟨some kk37, none, none, .mov (.t kk0)⟩,
     ⟨some kk38, none, none, .load 2 true (.t kk4)⟩,
     ⟨some kk39, none, none, .load 3 true (.t kk6)⟩,
     ⟨some kk40, none, none, .call 101 [(.t kk37), (.t kk38), (.t kk39)]⟩]))))
   (.region false [⟨some kk41, none, none, .bin .add (.t kk29) (.c (.int .i64 (.ofNat 1)))⟩,
    ⟨some kk29, none, none, .mov (.t kk41)⟩])))))))
 (.seq (.region false [⟨some kk42, none, none, .mov (.t kk0)⟩,
  ⟨some kk43, none, none, .load 2 true (.t kk4)⟩,
  ⟨some kk44, none, none, .offs (.t kk3) 3⟩,
  ⟨some kk45, none, none, .load 1 false (.t kk44)⟩,
  ⟨some kk46, none, none, .call 102 [(.t kk42), (.t kk43), (.t kk45)]⟩])
 (.seq (.region false [⟨some kk47, none, none, .mov (.t kk0)⟩,
  ⟨some kk48, none, none, .load 2 true (.t kk4)⟩,
  ⟨some kk49, none, none, .offs (.t kk3) 4⟩,
  ⟨some kk50, none, none, .load 1 false (.t kk49)⟩,
  ⟨some kk51, none, none, .call 50 [(.t kk47), (.t kk48), (.t kk50)]⟩])
 (.seq (.region false [⟨some kk52, none, none, .offs (.t kk3) 5⟩,
  ⟨some kk53, none, none, .load 1 false (.t kk52)⟩])
 (.cond (.t kk53)
  (.seq (.region false [⟨some kk54, none, none, .mov (.t kk0)⟩,
   ⟨some kk55, none, none, .buildSl 9 1 16 2 [(.str 0 0)] [(0, (.c (.str 5 345028645447))), (1, (.c (.str 2 22850)))]⟩,
   ⟨some kk56, none, none, .call 42 [(.t kk54), (.t kk55)]⟩])
  (.seq (.region false [⟨some kk57, none, none, .offs (.t kk3) 6⟩,
   ⟨some kk58, none, none, .load 1 false (.t kk57)⟩,
   ⟨some kk59, none, none, .len (.t kk58)⟩,
   ⟨some kk60, none, none, .mov (.c (.int .i64 (.ofNat 0)))⟩])
  (.block 2 (.loop (.seq (.region false [⟨some kk61, none, none, .bin .lss (.t kk60) (.t kk59)⟩])
    (.seq (.cond (.t kk61)
     .skip
     (.exit 2))
    (.seq (.block 3 (.seq (.region false [⟨some kk62, none, none, .mov (.t kk60)⟩,
      ⟨some kk63, none, none, .idxSl 1 (.t kk58) (.t kk60)⟩,
      ⟨some kk64, none, none, .load 1 false (.t kk63)⟩,
      ⟨some kk7, none, none, .mov (.t kk62)⟩,
      ⟨some kk8, none, none, .mov (.t kk64)⟩])
     (.seq (.region false [⟨some kk65, none, none, .mov (.t kk0)⟩,
      ⟨some kk66, none, none, .mov (.t kk7)⟩,
      ⟨some kk67, none, none, .call 45 [(.t kk65), (.t kk66)]⟩])
     (.region false [⟨some kk68, none, none, .mov (.t kk0)⟩,
      ⟨some kk69, none, none, .load 2 true (.t kk4)⟩,
      ⟨some kk70, none, none, .mov (.t kk8)⟩,
      ⟨some kk71, none, none, .call 49 [(.t kk68), (.t kk69), (.t kk70), (.c (.int .i64 (.ofNat 7)))]⟩]))))
    (.region false [⟨some kk72, none, none, .bin .add (.t kk60) (.c (.int .i64 (.ofNat 1)))⟩,
     ⟨some kk60, none, none, .mov (.t kk72)⟩]))))))))
  .skip)))))))))) }
theorem fn72 : fnOf Tryz.prog Tryz.f72 = some i72 := by kernel_rfl
/-- slices.Equal[[]int,int] -/
noncomputable def i73 : IFn := { nt := 26, ps := [kk0, kk1], res := [.tmp kk4], body :=
 (.seq (.region false [⟨some kk4, none, none, .mov (.c (.bool false))⟩])
 (.seq (.seq (.region false [⟨some kk6, none, none, .mov (.t kk0)⟩,
  ⟨some kk7, none, none, .len (.t kk6)⟩,
  ⟨some kk8, none, none, .mov (.t kk1)⟩,
  ⟨some kk9, none, none, .len (.t kk8)⟩,
  ⟨some kk10, none, none, .bin .neq (.t kk7) (.t kk9)⟩])
 (.cond (.t kk10)
  (.seq (.region false [⟨some kk4, none, none, .mov (.c (.bool false))⟩])
  .ret)
  .skip))
 (.seq (.seq (.region false [⟨some kk11, none, none, .mov (.t kk0)⟩,
  ⟨some kk12, none, none, .len (.t kk11)⟩,
  ⟨some kk13, none, none, .mov (.c (.int .i64 (.ofNat 0)))⟩])
 (.block 0 (.loop (.seq (.region false [⟨some kk14, none, none, .bin .lss (.t kk13) (.t kk12)⟩])
   (.seq (.cond (.t kk14)
    .skip
    (.exit 0))
   (.seq (.block 1 (.seq (.region false [⟨some kk15, none, none, .mov (.t kk13)⟩,
     ⟨some kk5, none, none, .mov (.t kk15)⟩])
    (.seq (.region true [⟨some kk16, none, none, .mov (.t kk0)⟩,
     ⟨some kk17, none, none, .mov (.t kk5)⟩,
     ⟨some kk18, none, none, .idxSl 1 (.t kk16) (.t kk17)⟩,
     ⟨some kk19, none, some [], .load 1 false (.t kk18)⟩,
     ⟨some kk20, none, none, .mov (.t kk1)⟩,
     ⟨some kk21, none, none, .mov (.t kk5)⟩,
     ⟨some kk22, none, none, .idxSl 1 (.t kk20) (.t kk21)⟩,
     ⟨some kk23, none, some [0], .load 1 false (.t kk22)⟩,
     ⟨some kk24, none, none, .bin .neq (.t kk19) (.t kk23)⟩])
    (.cond (.t kk24)
     (.seq (.region false [⟨some kk4, none, none, .mov (.c (.bool false))⟩])
     .ret)
     .skip))))
   (.region false [⟨some kk25, none, none, .bin .add (.t kk13) (.c (.int .i64 (.ofNat 1)))⟩,
    ⟨some kk13, none, none, .mov (.t kk25)⟩])))))))
 (.seq (.region false [⟨some kk4, none, none, .mov (.c (.bool true))⟩])
 .ret)))) }
theorem fn73 : fnOf Tryz.prog Tryz.f73 = some i73 := by kernel_rfl
/-- slices.EqualFunc[[]annalist.api.SelectCore,[]annalist.api.SelectCore,annalist.api.SelectCore,annalist.api.SelectCore] -/
noncomputable def i74 : IFn := { nt := 32, ps := [kk0, kk1, kk2], res := [.tmp kk6], body :=
 (.seq (.region false [⟨some kk6, none, none, .mov (.c (.bool false))⟩])
 (.seq (.seq (.region false [⟨some kk10, none, none, .mov (.t kk0)⟩,
  ⟨some kk11, none, none, .len (.t kk10)⟩,
  ⟨some kk12, none, none, .mov (.t kk1)⟩,
  ⟨some kk13, none, none, .len (.t kk12)⟩,
  ⟨some kk14, none, none, .bin .neq (.t kk11) (.t kk13)⟩])
 (.cond (.t kk14)
  (.seq (.region false [⟨some kk6, none, none, .mov (.c (.bool false))⟩])
  .ret)
  .skip))
 (.seq (.seq (.region false [⟨some kk15, none, none, .mov (.t kk0)⟩,
  ⟨some kk16, none, none, .len (.t kk15)⟩,
  ⟨some kk17, none, none, .mov (.c (.int .i64 (.ofNat 0)))⟩])
 (.block 0 (.loop (.seq (.region false [⟨some kk18, none, none, .bin .lss (.t kk17) (.t kk16)⟩])
   (.seq (.cond (.t kk18)
    .skip
    (.exit 0))
   (.seq (.block 1 (.seq (.region false [⟨some kk19, none, none, .mov (.t kk17)⟩,
     ⟨some kk20, none, none, .idxSl 7 (.t kk15) (.t kk17)⟩,
     ⟨some kk21, none, none, .load 7 true (.t kk20)⟩,
     ⟨some kk8, none, none, .boxz 84 7 120 [(.bool false), .nilslice, .nilslice, .nilslice, (.int .i64 (.ofNat 0)), (.bool false), .nilslice]⟩,
     ⟨some kk7, none, none, .mov (.t kk19)⟩,
     ⟨none, none, none, .store 7 (.t kk8) (.t kk21)⟩])
    (.seq (.region false [⟨some kk22, none, none, .mov (.t kk1)⟩,
     ⟨some kk23, none, none, .mov (.t kk7)⟩,
     ⟨some kk24, none, none, .idxSl 7 (.t kk22) (.t kk23)⟩,
     ⟨some kk25, none, none, .load 7 true (.t kk24)⟩,
     ⟨some kk9, none, none, .boxz 84 7 120 [(.bool false), .nilslice, .nilslice, .nilslice, (.int .i64 (.ofNat 0)), (.bool false), .nilslice]⟩,
     ⟨none, none, none, .store 7 (.t kk9) (.t kk25)⟩])
    (.seq (.region false [⟨some kk26, none, none, .mov (.t kk2)⟩,
     ⟨some kk27, none, none, .load 7 true (.t kk8)⟩,
     ⟨some kk28, none, none, .load 7 true (.t kk9)⟩,
     ⟨some kk29, none, none, .callv (.t kk26) [(.t kk27), (.t kk28)]⟩,
     ⟨some kk30, none, none, .un .not (.t kk29)⟩])
    (.cond (.t kk30)
     (.seq (.region false [⟨some kk6, none, none, .mov (.c (.bool false))⟩])
     .ret)
     .skip)))))
   (.region false [⟨some kk31, none, none, .bin .add (.t kk17) (.c (.int .i64 (.ofNat 1)))⟩,
    ⟨some kk17, none, none, .mov (.t kk31)⟩])))))))
 (.seq (.region false [⟨some kk6, none, none, .mov (.c (.bool true))⟩])
 .ret)))) }
theorem fn74 : fnOf Tryz.prog Tryz.f74 = some i74 := by kernel_rfl
/-- annalist.parser.equalCore -/
noncomputable def i75 : IFn := { nt := 52, ps := [kk0, kk1], res := [.tmp kk4], body :=
 (.seq (.region false [⟨some kk2, none, none, .box 84 7 120 (.t kk0)⟩,
  ⟨some kk3, none, none, .box 84 7 120 (.t kk1)⟩,
  ⟨some kk4, none, none, .mov (.c (.bool false))⟩])
 (.seq (.region false [⟨some kk5, none, none, .offs (.t kk2) 0⟩,
  ⟨some kk6, none, none, .load 1 false (.t kk5)⟩,
  ⟨some kk7, none, none, .offs (.t kk3) 0⟩,
  ⟨some kk8, none, none, .load 1 false (.t kk7)⟩,
  ⟨some kk9, none, none, .eqv .bool false (.t kk6) (.t kk8)⟩,
  ⟨some kk10, none, none, .mov (.t kk9)⟩,
  ⟨some kk11, some (kk10, true), none, .offs (.t kk2) 4⟩,
  ⟨some kk12, some (kk10, true), none, .load 1 false (.t kk11)⟩,
  ⟨some kk13, some (kk10, true), none, .offs (.t kk3) 4⟩,
  ⟨some kk14, some (kk10, true), none, .load 1 false (.t kk13)⟩,
  ⟨some kk15, some (kk10, true), none, .bin .eql (.t kk12) (.t kk14)⟩,
  ⟨some kk16, none, none, .pick (.t kk10) (.t kk15) (.c (.bool false))⟩,
  ⟨some kk17, none, none, .mov (.t kk16)⟩,
  ⟨some kk18, some (kk17, true), none, .offs (.t kk2) 5⟩,
  ⟨some kk19, some (kk17, true), none, .load 1 false (.t kk18)⟩,
  ⟨some kk20, some (kk17, true), none, .offs (.t kk3) 5⟩,
  ⟨some kk21, some (kk17, true), none, .load 1 false (.t kk20)⟩,
  ⟨some kk22, some (kk17, true), none, .eqv .bool false (.t kk19) (.t kk21)⟩,
  ⟨some kk23, none, none, .pick (.t kk17) (.t kk22) (.c (.bool false))⟩,
  ⟨some kk24, none, none, .mov (.t kk23)⟩,
  ⟨some kk25, some (kk24, true), none, .offs (.t kk2) 1⟩,
  ⟨some kk26, some (kk24, true), none, .load 1 false (.t kk25)⟩,
  ⟨some kk27, some (kk24, true), none, .offs (.t kk3) 1⟩,
  ⟨some kk28, some (kk24, true), none, .load 1 false (.t kk27)⟩,
  ⟨some kk29, some (kk24, true), none, .call 59 [(.t kk26), (.t kk28)]⟩,
  ⟨some kk30, none, none, .pick (.t kk24) (.t kk29) (.c (.bool false))⟩,
  ⟨some kk31, none, none, .mov (.t kk30)⟩,
  ⟨some kk32, some (kk31, true), none, .offs (.t kk2) 2⟩,
  ⟨some kk33, some (kk31, true), none, .load 1 false (.t kk32)⟩,
  ⟨some kk34, some (kk31, true), none, .offs (.t kk3) 2⟩,
  ⟨some kk35, some (kk31, true), none, .load 1 false (.t kk34)⟩,
  ⟨some kk36, some (kk31, true), none, .call 103 [(.t kk33), (.t kk35)]⟩,
  ⟨some kk37, none, none, .pick (.t kk31) (.t kk36) (.c (.bool false))⟩,
  ⟨some kk38, none, none, .mov (.t kk37)⟩,
  ⟨some kk39, some (kk38, true), none, .offs (.t kk2) 3⟩,
  ⟨some kk40, some (kk38, true), none, .load 1 false (.t kk39)⟩,
  ⟨some kk41, some (kk38, true), none, .offs (.t kk3) 3⟩,
  ⟨some kk42, some (kk38, true), none, .load 1 false (.t kk41)⟩,
  ⟨some kk43, some (kk38, true), none, .call 104 [(.t kk40), (.t kk42)]⟩,
  ⟨some kk44, none, none, .pick (.t kk38) (.t kk43) (.c (.bool false))⟩,
  ⟨some kk45, none, none, .mov (.t kk44)⟩,
  ⟨some kk46, some (kk45, true), none, .offs (.t kk2) 6⟩,
  ⟨some kk47, some (kk45, true), none, .load 1 false (.t kk46)⟩,
  ⟨some kk48, some (kk45, true), none, .offs (.t kk3) 6⟩,
  ⟨some kk49, some (kk45, true), none, .load 1 false (.t kk48)⟩,
  ⟨some kk50, some (kk45, true), none, .call 73 [(.t kk47), (.t kk49)]⟩,
  ⟨some kk51, none, none, .pick (.t kk45) (.t kk50) (.c (.bool false))⟩,
  ⟨some kk4, none, none, .mov (.t kk51)⟩])
 .ret)) }
theorem fn75 : fnOf Tryz.prog Tryz.f75 = some i75 := by kernel_rfl
/-- internal.stringslite.IndexByte -/
noncomputable def i76 : IFn := { nt := 8, ps := [kk0, kk1], res := [.tmp kk4], body :=
 (.seq (.region false [⟨some kk4, none, none, .mov (.c (.int .i64 (.ofNat 0)))⟩])
 (.seq (.region false [⟨some kk5, none, none, .mov (.t kk0)⟩,
  ⟨some kk6, none, none, .mov (.t kk1)⟩,
  ⟨some kk7, none, none, .call 105 [(.t kk5), (.t kk6)]⟩,
  ⟨some kk4, none, none, .mov (.t kk7)⟩])
 .ret)) }
theorem fn76 : fnOf Tryz.prog Tryz.f76 = some i76 := by kernel_rfl
/-- (*annalist.parser.parser).sign -/
noncomputable def i77 : IFn := { nt := 8, ps := [kk0, kk1], res := [.tmp kk4], body :=
 (.seq (.region false [⟨some kk4, none, none, .mov (.c (.bool false))⟩])
 (.seq (.region false [⟨some kk5, none, none, .mov (.t kk0)⟩,
  ⟨some kk6, none, none, .mov (.t kk1)⟩,
  ⟨some kk7, none, none, .call 82 [(.t kk5), (.c (.int .i64 (.ofNat 5))), (.t kk6)]⟩,
  ⟨some kk4, none, none, .mov (.t kk7)⟩])
 .ret)) }
theorem fn77 : fnOf Tryz.prog Tryz.f77 = some i77 := by kernel_rfl
/-- (*annalist.parser.parser).item -/
noncomputable def i78 : IFn := { nt := 50, ps := [kk0], res := [.cell kk2 3 true], body :=
 (.seq (.region false [⟨some kk2, none, none, .boxz 138 3 32 [(.int .i64 (.ofNat 0)), (.int .i64 (.ofNat 0)), (.str 0 0)]⟩])
 (.seq (.region false [⟨some kk4, none, none, .build [(.int .i64 (.ofNat 0)), (.int .i64 (.ofNat 0)), (.str 0 0)] []⟩,
  ⟨some kk3, none, none, .boxz 138 3 32 [(.int .i64 (.ofNat 0)), (.int .i64 (.ofNat 0)), (.str 0 0)]⟩,
  ⟨none, none, none, .store 3 (.t kk3) (.t kk4)⟩])
 (.seq (.block 0 (.seq (.region false [⟨some kk9, none, none, .mov (.t kk0)⟩,
   ⟨some kk10, none, none, .call 38 [(.t kk9), (.c (.str 5 362091466563))]⟩,
   ⟨some kk8, none, none, .mov (.t kk10)⟩])
  (.cond (.t kk8)
   (.seq (.region false [⟨some kk11, none, none, .mov (.t kk0)⟩,
    ⟨some kk12, none, none, .call 106 [(.t kk11), (.c (.str 1 40))]⟩])
   (.seq (.region false [⟨some kk13, none, none, .mov (.t kk0)⟩,
    ⟨some kk14, none, none, .call 106 [(.t kk13), (.c (.str 1 42))]⟩])
   (.seq (.region false [⟨some kk15, none, none, .mov (.t kk0)⟩,
    ⟨some kk16, none, none, .call 106 [(.t kk15), (.c (.str 1 41))]⟩])
   (.region false [⟨some kk17, none, none, .offs (.t kk3) 0⟩,
    ⟨none, none, none, .store 1 (.t kk17) (.c (.int .i64 (.ofNat 1)))⟩,
    ⟨some kk18, none, none, .offs (.t kk3) 1⟩,
    ⟨none, none, none, .store 1 (.t kk18) (.c (.int .i64 (.negSucc 0)))⟩]))))
   (.seq (.region false [⟨some kk20, none, none, .mov (.t kk0)⟩,
    ⟨some kk21, none, none, .call 38 [(.t kk20), (.c (.str 3 5068115))]⟩,
    ⟨some kk19, none, none, .mov (.t kk21)⟩])
   (.cond (.t kk19)
    (.region false [⟨some kk22, none, none, .offs (.t kk3) 0⟩,
     ⟨none, none, none, .store 1 (.t kk22) (.c (.int .i64 (.ofNat 2)))⟩])
    (.seq (.region false [⟨some kk24, none, none, .mov (.t kk0)⟩,
     ⟨some kk25, none, none, .call 38 [(.t kk24), (.c (.str 3 5130573))]⟩,
     ⟨some kk23, none, none, .mov (.t kk25)⟩])
    (.cond (.t kk23)
     (.region false [⟨some kk26, none, none, .offs (.t kk3) 0⟩,
      ⟨none, none, none, .store 1 (.t kk26) (.c (.int .i64 (.ofNat 3)))⟩])
     (.seq (.region false [⟨some kk28, none, none, .mov (.t kk0)⟩,
      ⟨some kk29, none, none, .call 38 [(.t kk28), (.c (.str 3 5783885))]⟩,
      ⟨some kk27, none, none, .mov (.t kk29)⟩])
     (.cond (.t kk27)
      (.region false [⟨some kk30, none, none, .offs (.t kk3) 0⟩,
       ⟨none, none, none, .store 1 (.t kk30) (.c (.int .i64 (.ofNat 4)))⟩])
      (.region false [⟨some kk5, none, none, .mov (.t kk0)⟩,
       ⟨some kk6, none, none, .call 107 [(.t kk5)]⟩,
       ⟨some kk7, none, none, .offs (.t kk3) 1⟩,
       ⟨none, none, none, .store 1 (.t kk7) (.t kk6)⟩]))))))))))
 (.seq (.seq (.region false [⟨some kk31, none, none, .offs (.t kk3) 0⟩,
  ⟨some kk32, none, none, .load 1 false (.t kk31)⟩,
  ⟨some kk33, none, none, .bin .neq (.t kk32) (.c (.int .i64 (.ofNat 0)))⟩,
  ⟨some kk34, none, none, .mov (.t kk33)⟩,
  ⟨some kk35, some (kk34, true), none, .offs (.t kk3) 0⟩,
  ⟨some kk36, some (kk34, true), none, .load 1 false (.t kk35)⟩,
  ⟨some kk37, some (kk34, true), none, .bin .neq (.t kk36) (.c (.int .i64 (.ofNat 1)))⟩,
  ⟨some kk38, none, none, .pick (.t kk34) (.t kk37) (.c (.bool false))⟩])
 (.cond (.t kk38)
  (.seq (.region false [⟨some kk39, none, none, .mov (.t kk0)⟩,
   ⟨some kk40, none, none, .call 106 [(.t kk39), (.c (.str 1 40))]⟩])
  (.seq (.region false [⟨some kk41, none, none, .mov (.t kk0)⟩,
   ⟨some kk42, none, none, .call 107 [(.t kk41)]⟩,
   ⟨some kk43, none, none, .offs (.t kk3) 1⟩,
   ⟨none, none, none, .store 1 (.t kk43) (.t kk42)⟩])
  (.region false [⟨some kk44, none, none, .mov (.t kk0)⟩,
   ⟨some kk45, none, none, .call 106 [(.t kk44), (.c (.str 1 41))]⟩])))
  .skip))
 (.seq (.region false [⟨some kk46, none, none, .mov (.t kk0)⟩,
  ⟨some kk47, none, none, .call 108 [(.t kk46), (.c (.bool false))]⟩,
  ⟨some kk48, none, none, .offs (.t kk3) 2⟩,
  ⟨none, none, none, .store 1 (.t kk48) (.t kk47)⟩])
 (.seq (.region false [⟨some kk49, none, none, .load 3 true (.t kk3)⟩,
  ⟨none, none, none, .store 3 (.t kk2) (.t kk49)⟩])
 .ret)))))) }
theorem fn78 : fnOf Tryz.prog Tryz.f78 = some i78 := by kernel_rfl
/-- (*annalist.parser.parser).joins -/
noncomputable def i79 : IFn := { nt := 36, ps := [kk0, kk1], res := [.tmp kk4], body :=
 (.seq (.region false [⟨some kk4, none, none, .mov (.c .nilslice)⟩])
 (.seq (.region false [⟨some kk8, none, none, .mov (.t kk0)⟩,
  ⟨some kk9, none, none, .mov (.t kk1)⟩,
  ⟨some kk10, none, none, .call 109 [(.t kk8), (.t kk9)]⟩,
  ⟨some kk11, none, none, .buildSl 157 4 48 1 [(.bool false), (.str 0 0), (.str 0 0), (.int .i64 (.ofNat 0))] [(0, (.t kk10))]⟩,
  ⟨some kk5, none, none, .mov (.t kk11)⟩])
 (.block 0 (.loop (.block 1 (.seq (.region false [⟨some kk12, none, none, .mov (.t kk0)⟩,
     ⟨some kk13, none, none, .call 38 [(.t kk12), (.c (.str 4 1413891404))]⟩,
     ⟨some kk6, none, none, .mov (.t kk13)⟩])
    (.seq (.seq (.region false [⟨some kk14, none, none, .mov (.t kk6)⟩])
    (.cond (.t kk14)
     (.region false [⟨some kk15, none, none, .mov (.t kk0)⟩,
      ⟨some kk16, none, none, .buildSl 9 1 16 1 [(.str 0 0)] [(0, (.c (.str 4 1313427274)))]⟩,
      ⟨some kk17, none, none, .call 39 [(.t kk15), (.t kk16)]⟩])
     (.seq (.region false [⟨some kk18, none, none, .mov (.t kk0)⟩,
      ⟨some kk19, none, none, .call 38 [(.t kk18), (.c (.str 4 1313427274))]⟩,
      ⟨some kk20, none, none, .un .not (.t kk19)⟩])
     (.cond (.t kk20)
      (.seq (.region false [⟨some kk21, none, none, .mov (.t kk5)⟩,
       ⟨some kk4, none, none, .mov (.t kk21)⟩])
      .ret)
      .skip))))
    (.seq (.region false [⟨some kk22, none, none, .mov (.t kk0)⟩,
     ⟨some kk23, none, none, .call 109 [(.t kk22), (.c (.bool false))]⟩,
     ⟨some kk7, none, none, .boxz 157 4 48 [(.bool false), (.str 0 0), (.str 0 0), (.int .i64 (.ofNat 0))]⟩,
     ⟨none, none, none, .store 4 (.t kk7) (.t kk23)⟩])
    (.seq (.region false [⟨some kk24, none, none, .mov (.t kk6)⟩,
     ⟨some kk25, none, none, .offs (.t kk7) 0⟩,
     ⟨none, none, none, .store 1 (.t kk25) (.t kk24)⟩])
    (.seq (.region false [⟨some kk26, none, none, .mov (.t kk0)⟩,
     ⟨some kk27, none, none, .buildSl 9 1 16 1 [(.str 0 0)] [(0, (.c (.str 2 20047)))]⟩,
     ⟨some kk28, none, none, .call 39 [(.t kk26), (.t kk27)]⟩])
    (.seq (.region false [⟨some kk29, none, none, .mov (.t kk0)⟩,
     ⟨some kk30, none, none, .call 107 [(.t kk29)]⟩,
     ⟨some kk31, none, none, .offs (.t kk7) 3⟩,
     ⟨none, none, none, .store 1 (.t kk31) (.t kk30)⟩])
    (.region false [⟨some kk32, none, none, .mov (.t kk5)⟩,
     ⟨some kk33, none, none, .load 4 true (.t kk7)⟩,
     ⟨some kk34, none, none, .buildSl 157 4 48 1 [(.bool false), (.str 0 0), (.str 0 0), (.int .i64 (.ofNat 0))] [(0, (.t kk33))]⟩,
     ⟨some kk35, none, none, .app 157 4 48 (.t kk32) (.t kk34)⟩,
     ⟨some kk5, none, none, .mov (.t kk35)⟩])))))))))))) }
theorem fn79 : fnOf Tryz.prog Tryz.f79 = some i79 := by kernel_rfl
/-- (*annalist.parser.parser).where -/
noncomputable def i80 : IFn := { nt := 8, ps := [kk0], res := [.tmp kk2], body :=
 (.seq (.region false [⟨some kk2, none, none, .mov (.c (.int .i64 (.ofNat 0)))⟩])
 (.seq (.seq (.region false [⟨some kk3, none, none, .mov (.t kk0)⟩,
  ⟨some kk4, none, none, .call 38 [(.t kk3), (.c (.str 5 297733015639))]⟩,
  ⟨some kk5, none, none, .un .not (.t kk4)⟩])
 (.cond (.t kk5)
  (.seq (.region false [⟨some kk2, none, none, .mov (.c (.int .i64 (.negSucc 0)))⟩])
  .ret)
  .skip))
 (.seq (.region false [⟨some kk6, none, none, .mov (.t kk0)⟩,
  ⟨some kk7, none, none, .call 107 [(.t kk6)]⟩,
  ⟨some kk2, none, none, .mov (.t kk7)⟩])
 .ret))) }
theorem fn80 : fnOf Tryz.prog Tryz.f80 = some i80 := by kernel_rfl
/-- (*annalist.parser.parser).groupColumn -/
noncomputable def i81 : IFn := { nt := 23, ps := [kk0], res := [.tmp kk2], body :=
 (.seq (.region false [⟨some kk2, none, none, .mov (.c (.int .i64 (.ofNat 0)))⟩])
 (.seq (.seq (.region false [⟨some kk3, none, none, .mov (.t kk0)⟩,
  ⟨some kk4, none, none, .nilck (.t kk3)⟩,
  ⟨some kk5, none, none, .offs (.t kk4) 3⟩,
  ⟨some kk6, none, none, .load 1 false (.t kk5)⟩,
  ⟨some kk7, none, none, .bin .eql (.t kk6) (.c (.int .i64 (.ofNat 0)))⟩,
  ⟨some kk8, none, none, .mov (.t kk7)⟩,
  ⟨some kk9, some (kk8, true), none, .mov (.t kk0)⟩,
  ⟨some kk10, some (kk8, true), none, .call 35 [(.t kk9)]⟩,
  ⟨some kk11, some (kk8, true), none, .sub (.t kk10) 0 1 false⟩,
  ⟨some kk12, some (kk8, true), none, .bin .neq (.t kk11) (.c (.int .i64 (.ofNat 2)))⟩,
  ⟨some kk13, none, none, .pick (.t kk8) (.t kk12) (.c (.bool false))⟩])
 (.cond (.t kk13)
  (.region false [⟨some kk14, none, none, .mov (.t kk0)⟩,
   ⟨some kk15, none, none, .call 36 [(.t kk14), (.c (.int .i64 (.ofNat 5)))]⟩])
  .skip))
 (.seq (.seq (.region false [⟨some kk16, none, none, .mov (.t kk0)⟩,
  ⟨some kk17, none, none, .nilck (.t kk16)⟩,
  ⟨some kk18, none, none, .offs (.t kk17) 3⟩,
  ⟨some kk19, none, none, .load 1 false (.t kk18)⟩,
  ⟨some kk20, none, none, .bin .neq (.t kk19) (.c (.int .i64 (.ofNat 0)))⟩])
 (.cond (.t kk20)
  (.seq (.region false [⟨some kk2, none, none, .mov (.c (.int .i64 (.ofNat 0)))⟩])
  .ret)
  .skip))
 (.seq (.region false [⟨some kk21, none, none, .mov (.t kk0)⟩,
  ⟨some kk22, none, none, .call 110 [(.t kk21)]⟩,
  ⟨some kk2, none, none, .mov (.t kk22)⟩])
 .ret)))) }
theorem fn81 : fnOf Tryz.prog Tryz.f81 = some i81 := by kernel_rfl
/-- (*annalist.parser.parser).accept -/
noncomputable def i82 : IFn := { nt := 19, ps := [kk0, kk1, kk2], res := [.tmp kk6], body :=
 (.seq (.region false [⟨some kk6, none, none, .mov (.c (.bool false))⟩])
 (.seq (.seq (.region false [⟨some kk7, none, none, .mov (.t kk0)⟩,
  ⟨some kk8, none, none, .mov (.t kk1)⟩,
  ⟨some kk9, none, none, .mov (.t kk2)⟩,
  ⟨some kk10, none, none, .call 111 [(.t kk7), (.t kk8), (.t kk9)]⟩,
  ⟨some kk11, none, none, .un .not (.t kk10)⟩])
 (.cond (.t kk11)
  (.seq (.region false [⟨some kk6, none, none, .mov (.c (.bool false))⟩])
  .ret)
  .skip))
 (.seq (.region false [⟨some kk12, none, none, .mov (.t kk0)⟩,
  ⟨some kk13, none, none, .nilck (.t kk12)⟩,
  ⟨some kk14, none, none, .offs (.t kk13) 1⟩,
  ⟨some kk15, none, none, .load 1 false (.t kk14)⟩,
  ⟨some kk16, none, none, .bin .add (.t kk15) (.c (.int .i64 (.ofNat 1)))⟩,
  ⟨some kk17, none, none, .nilck (.t kk12)⟩,
  ⟨some kk18, none, none, .offs (.t kk17) 1⟩,
  ⟨none, none, none, .store 1 (.t kk18) (.t kk16)⟩])
 (.seq (.region false [⟨some kk6, none, none, .mov (.c (.bool true))⟩])
 .ret)))) }
theorem fn82 : fnOf Tryz.prog Tryz.f82 = some i82 := by kernel_rfl
/-- (*annalist.parser.parser).insert -/
noncomputable def i83 : IFn := { nt := 40, ps := [kk0], res := [.cell kk2 21 true], body :=
 (.seq (.region false [⟨some kk2, none, none, .boxz 48 21 328 [(.int .i64 (.ofNat 0)), (.int .i64 (.ofNat 0)), (.int .i64 (.ofNat 0)), (.int .i64 (.ofNat 0)), .nilslice, .nilslice, (.str 0 0), (.str 0 0), .nilslice, (.int .i64 (.ofNat 0)), (.int .i64 (.ofNat 0)), .nilslice, (.int .i64 (.ofNat 0)), .nilslice, .nilslice, .nilslice, .nilslice, .nilslice, (.int .i64 (.ofNat 0)), (.int .i64 (.ofNat 0)), (.int .i64 (.ofNat 0))]⟩])
 (.seq (.region false [⟨some kk4, none, none, .mov (.t kk0)⟩,
  ⟨some kk5, none, none, .buildSl 9 1 16 1 [(.str 0 0)] [(0, (.c (.str 4 1330925129)))]⟩,
  ⟨some kk6, none, none, .call 39 [(.t kk4), (.t kk5)]⟩])
 (.seq (.region false [⟨some kk7, none, none, .mov (.t kk0)⟩,
  ⟨some kk8, none, none, .call 112 [(.t kk7)]⟩,
  ⟨some kk9, none, none, .build [(.int .i64 (.ofNat 0)), (.int .i64 (.ofNat 0)), (.int .i64 (.ofNat 0)), (.int .i64 (.ofNat 0)), .nilslice, .nilslice, (.str 0 0), (.str 0 0), .nilslice, (.int .i64 (.ofNat 0)), (.int .i64 (.ofNat 0)), .nilslice, (.int .i64 (.ofNat 0)), .nilslice, .nilslice, .nilslice, .nilslice, .nilslice, (.int .i64 (.ofNat 0)), (.int .i64 (.ofNat 0)), (.int .i64 (.ofNat 0))] [(0, 1, (.c (.int .i64 (.ofNat 2)))), (6, 1, (.t kk8))]⟩,
  ⟨some kk3, none, none, .boxz 48 21 328 [(.int .i64 (.ofNat 0)), (.int .i64 (.ofNat 0)), (.int .i64 (.ofNat 0)), (.int .i64 (.ofNat 0)), .nilslice, .nilslice, (.str 0 0), (.str 0 0), .nilslice, (.int .i64 (.ofNat 0)), (.int .i64 (.ofNat 0)), .nilslice, (.int .i64 (.ofNat 0)), .nilslice, .nilslice, .nilslice, .nilslice, .nilslice, (.int .i64 (.ofNat 0)), (.int .i64 (.ofNat 0)), (.int .i64 (.ofNat 0))]⟩,
  ⟨none, none, none, .store 21 (.t kk3) (.t kk9)⟩])
 (.seq (.region false [⟨some kk10, none, none, .mov (.t kk0)⟩,
  ⟨some kk11, none, none, .buildSl 9 1 16 1 [(.str 0 0)] [(0, (.c (.str 6 91557248909654)))]⟩,
  ⟨some kk12, none, none, .call 39 [(.t kk10), (.t kk11)]⟩])
 (.seq (.region false [⟨some kk13, none, none, .mov (.t kk0)⟩,
  ⟨some kk14, none, none, .call 106 [(.t kk13), (.c (.str 1 40))]⟩])
 (.seq (.region true [⟨some kk15, none, none, .offs (.t kk3) 8⟩,
  ⟨some kk16, none, some [], .load 1 false (.t kk15)⟩,
  ⟨some kk17, none, none, .mov (.t kk0)⟩,
  ⟨some kk18, none, some [0], .call 113 [(.t kk17)]⟩,
  ⟨some kk19, none, some [1], .buildSl 91 3 32 1 [(.int .i64 (.ofNat 0)), (.int .i64 (.ofNat 0)), (.str 0 0)] [(0, (.t kk18))]⟩,
  ⟨some kk20, none, some [], .app 91 3 32 (.t kk16) (.t kk19)⟩,
  ⟨some kk21, none, none, .offs (.t kk3) 8⟩,
  ⟨none, none, some [], .store 1 (.t kk21) (.t kk20)⟩])
 (.seq (.block 0 (.loop (.seq (.seq (.region false [⟨some kk22, none, none, .mov (.t kk0)⟩,
    ⟨some kk23, none, none, .call 77 [(.t kk22), (.c (.str 1 44))]⟩])
   (.cond (.t kk23)
    .skip
    (.exit 0)))
   (.block 1 (.region true [⟨some kk24, none, none, .offs (.t kk3) 8⟩,
     ⟨some kk25, none, some [], .load 1 false (.t kk24)⟩,
     ⟨some kk26, none, none, .mov (.t kk0)⟩,
     ⟨some kk27, none, some [0], .call 113 [(.t kk26)]⟩,
     ⟨some kk28, none, some [1], .buildSl 91 3 32 1 [(.int .i64 (.ofNat 0)), (.int .i64 (.ofNat 0)), (.str 0 0)] [(0, (.t kk27))]⟩,
     ⟨some kk29, none, some [], .app 91 3 32 (.t kk25) (.t kk28)⟩,
     ⟨some kk30, none, none, .offs (.t kk3) 8⟩,
     ⟨none, none, some [], .store 1 (.t kk30) (.t kk29)⟩])))))
 (.seq (.region false [⟨some kk31, none, none, .mov (.t kk0)⟩,
  ⟨some kk32, none, none, .call 106 [(.t kk31), (.c (.str 1 41))]⟩])
 (.seq (.region false [⟨some kk33, none, none, .mov (.t kk0)⟩,
  ⟨some kk34, none, none, .buildSl 9 1 16 1 [(.str 0 0)] [(0, (.c (.str 3 5394246)))]⟩,
  ⟨some kk35, none, none, .call 39 [(.t kk33), (.t kk34)]⟩])
 (.seq (.region false [⟨some kk36, none, none, .mov (.t kk0)⟩,
  ⟨some kk37, none, none, .call 114 [(.t kk36)]⟩,
  ⟨some kk38, none, none, .offs (.t kk3) 9⟩,
  ⟨none, none, none, .store 2 (.t kk38) (.t kk37)⟩])
 (.seq (.region false [⟨some kk39, none, none, .load 21 true (.t kk3)⟩,
  ⟨none, none, none, .store 21 (.t kk2) (.t kk39)⟩])
 .ret))))))))))) }
theorem fn83 : fnOf Tryz.prog Tryz.f83 = some i83 := by kernel_rfl
/-- (*annalist.parser.parser).remove -/
noncomputable def i84 : IFn := { nt := 25, ps := [kk0], res := [.cell kk2 21 true], body :=
 (.seq (.region false [⟨some kk2, none, none, .boxz 48 21 328 [(.int .i64 (.ofNat 0)), (.int .i64 (.ofNat 0)), (.int .i64 (.ofNat 0)), (.int .i64 (.ofNat 0)), .nilslice, .nilslice, (.str 0 0), (.str 0 0), .nilslice, (.int .i64 (.ofNat 0)), (.int .i64 (.ofNat 0)), .nilslice, (.int .i64 (.ofNat 0)), .nilslice, .nilslice, .nilslice, .nilslice, .nilslice, (.int .i64 (.ofNat 0)), (.int .i64 (.ofNat 0)), (.int .i64 (.ofNat 0))]⟩])
 (.seq (.region false [⟨some kk4, none, none, .mov (.t kk0)⟩,
  ⟨some kk5, none, none, .buildSl 9 1 16 1 [(.str 0 0)] [(0, (.c (.str 4 1297044038)))]⟩,
  ⟨some kk6, none, none, .call 39 [(.t kk4), (.t kk5)]⟩])
 (.seq (.region false [⟨some kk7, none, none, .mov (.t kk0)⟩,
  ⟨some kk8, none, none, .call 112 [(.t kk7)]⟩,
  ⟨some kk9, none, none, .build [(.int .i64 (.ofNat 0)), (.int .i64 (.ofNat 0)), (.int .i64 (.ofNat 0)), (.int .i64 (.ofNat 0)), .nilslice, .nilslice, (.str 0 0), (.str 0 0), .nilslice, (.int .i64 (.ofNat 0)), (.int .i64 (.ofNat 0)), .nilslice, (.int .i64 (.ofNat 0)), .nilslice, .nilslice, .nilslice, .nilslice, .nilslice, (.int .i64 (.ofNat 0)), (.int .i64 (.ofNat 0)), (.int .i64 (.ofNat 0))] [(0, 1, (.c (.int .i64 (.ofNat 3)))), (6, 1, (.t kk8))]⟩,
  ⟨some kk3, none, none, .boxz 48 21 328 [(.int .i64 (.ofNat 0)), (.int .i64 (.ofNat 0)), (.int .i64 (.ofNat 0)), (.int .i64 (.ofNat 0)), .nilslice, .nilslice, (.str 0 0), (.str 0 0), .nilslice, (.int .i64 (.ofNat 0)), (.int .i64 (.ofNat 0)), .nilslice, (.int .i64 (.ofNat 0)), .nilslice, .nilslice, .nilslice, .nilslice, .nilslice, (.int .i64 (.ofNat 0)), (.int .i64 (.ofNat 0)), (.int .i64 (.ofNat 0))]⟩,
  ⟨none, none, none, .store 21 (.t kk3) (.t kk9)⟩])
 (.seq (.region false [⟨some kk10, none, none, .mov (.t kk0)⟩,
  ⟨some kk11, none, none, .buildSl 9 1 16 3 [(.str 0 0)] [(0, (.c (.str 3 5394246))), (1, (.c (.str 7 22042224549318480))), (2, (.c (.str 2 17999)))]⟩,
  ⟨some kk12, none, none, .call 39 [(.t kk10), (.t kk11)]⟩])
 (.seq (.region false [⟨some kk13, none, none, .mov (.t kk0)⟩,
  ⟨some kk14, none, none, .call 114 [(.t kk13)]⟩,
  ⟨some kk15, none, none, .offs (.t kk3) 9⟩,
  ⟨none, none, none, .store 2 (.t kk15) (.t kk14)⟩])
 (.seq (.region false [⟨some kk16, none, none, .mov (.t kk0)⟩,
  ⟨some kk17, none, none, .call 80 [(.t kk16)]⟩,
  ⟨some kk18, none, none, .offs (.t kk3) 12⟩,
  ⟨none, none, none, .store 1 (.t kk18) (.t kk17)⟩])
 (.seq (.region false [⟨some kk19, none, none, .mov (.t kk0)⟩,
  ⟨some kk20, none, none, .nilck (.t kk19)⟩,
  ⟨some kk21, none, none, .offs (.t kk20) 5⟩,
  ⟨some kk22, none, none, .load 1 false (.t kk21)⟩,
  ⟨some kk23, none, none, .offs (.t kk3) 11⟩,
  ⟨none, none, none, .store 1 (.t kk23) (.t kk22)⟩])
 (.seq (.region false [⟨some kk24, none, none, .load 21 true (.t kk3)⟩,
  ⟨none, none, none, .store 21 (.t kk2) (.t kk24)⟩])
 .ret)))))))) }
theorem fn84 : fnOf Tryz.prog Tryz.f84 = some i84 := by kernel_rfl
/-- (*annalist.parser.parser).update -/
noncomputable def i85 : IFn := { nt := 41, ps := [kk0], res := [.cell kk2 21 true], body :=
 (.seq (.region false [⟨some kk2, none, none, .boxz 48 21 328 [(.int .i64 (.ofNat 0)), (.int .i64 (.ofNat 0)), (.int .i64 (.ofNat 0)), (.int .i64 (.ofNat 0)), .nilslice, .nilslice, (.str 0 0), (.str 0 0), .nilslice, (.int .i64 (.ofNat 0)), (.int .i64 (.ofNat 0)), .nilslice, (.int .i64 (.ofNat 0)), .nilslice, .nilslice, .nilslice, .nilslice, .nilslice, (.int .i64 (.ofNat 0)), (.int .i64 (.ofNat 0)), (.int .i64 (.ofNat 0))]⟩])
 (.seq (.region false [⟨some kk4, none, none, .mov (.t kk0)⟩,
  ⟨some kk5, none, none, .call 112 [(.t kk4)]⟩,
  ⟨some kk6, none, none, .build [(.int .i64 (.ofNat 0)), (.int .i64 (.ofNat 0)), (.int .i64 (.ofNat 0)), (.int .i64 (.ofNat 0)), .nilslice, .nilslice, (.str 0 0), (.str 0 0), .nilslice, (.int .i64 (.ofNat 0)), (.int .i64 (.ofNat 0)), .nilslice, (.int .i64 (.ofNat 0)), .nilslice, .nilslice, .nilslice, .nilslice, .nilslice, (.int .i64 (.ofNat 0)), (.int .i64 (.ofNat 0)), (.int .i64 (.ofNat 0))] [(0, 1, (.c (.int .i64 (.ofNat 4)))), (6, 1, (.t kk5))]⟩,
  ⟨some kk3, none, none, .boxz 48 21 328 [(.int .i64 (.ofNat 0)), (.int .i64 (.ofNat 0)), (.int .i64 (.ofNat 0)), (.int .i64 (.ofNat 0)), .nilslice, .nilslice, (.str 0 0), (.str 0 0), .nilslice, (.int .i64 (.ofNat 0)), (.int .i64 (.ofNat 0)), .nilslice, (.int .i64 (.ofNat 0)), .nilslice, .nilslice, .nilslice, .nilslice, .nilslice, (.int .i64 (.ofNat 0)), (.int .i64 (.ofNat 0)), (.int .i64 (.ofNat 0))]⟩,
  ⟨none, none, none, .store 21 (.t kk3) (.t kk6)⟩])
 (.seq (.region false [⟨some kk7, none, none, .mov (.t kk0)⟩,
  ⟨some kk8, none, none, .buildSl 9 1 16 3 [(.str 0 0)] [(0, (.c (.str 3 5394246))), (1, (.c (.str 7 22042224549318480))), (2, (.c (.str 2 17999)))]⟩,
  ⟨some kk9, none, none, .call 39 [(.t kk7), (.t kk8)]⟩])
 (.seq (.region false [⟨some kk10, none, none, .mov (.t kk0)⟩,
  ⟨some kk11, none, none, .call 114 [(.t kk10)]⟩,
  ⟨some kk12, none, none, .offs (.t kk3) 9⟩,
  ⟨none, none, none, .store 2 (.t kk12) (.t kk11)⟩])
 (.seq (.region false [⟨some kk13, none, none, .mov (.t kk0)⟩,
  ⟨some kk14, none, none, .buildSl 9 1 16 1 [(.str 0 0)] [(0, (.c (.str 3 5522771)))]⟩,
  ⟨some kk15, none, none, .call 39 [(.t kk13), (.t kk14)]⟩])
 (.seq (.region true [⟨some kk16, none, none, .offs (.t kk3) 13⟩,
  ⟨some kk17, none, some [], .load 1 false (.t kk16)⟩,
  ⟨some kk18, none, none, .mov (.t kk0)⟩,
  ⟨some kk19, none, some [0], .call 115 [(.t kk18)]⟩,
  ⟨some kk20, none, some [1], .buildSl 99 2 24 1 [(.str 0 0), (.int .i64 (.ofNat 0))] [(0, (.t kk19))]⟩,
  ⟨some kk21, none, some [], .app 99 2 24 (.t kk17) (.t kk20)⟩,
  ⟨some kk22, none, none, .offs (.t kk3) 13⟩,
  ⟨none, none, some [], .store 1 (.t kk22) (.t kk21)⟩])
 (.seq (.block 0 (.loop (.seq (.seq (.region false [⟨some kk23, none, none, .mov (.t kk0)⟩,
    ⟨some kk24, none, none, .call 77 [(.t kk23), (.c (.str 1 44))]⟩])
   (.cond (.t kk24)
    .skip
    (.exit 0)))
   (.block 1 (.region true [⟨some kk25, none, none, .offs (.t kk3) 13⟩,
     ⟨some kk26, none, some [], .load 1 false (.t kk25)⟩,
     ⟨some kk27, none, none, .mov (.t kk0)⟩,
     ⟨some kk28, none, some [0], .call 115 [(.t kk27)]⟩,
     ⟨some kk29, none, some [1], .buildSl 99 2 24 1 [(.str 0 0), (.int .i64 (.ofNat 0))] [(0, (.t kk28))]⟩,
     ⟨some kk30, none, some [], .app 99 2 24 (.t kk26) (.t kk29)⟩,
     ⟨some kk31, none, none, .offs (.t kk3) 13⟩,
     ⟨none, none, some [], .store 1 (.t kk31) (.t kk30)⟩])))))
 (.seq (.region false [⟨some kk32, none, none, .mov (.t kk0)⟩,
  ⟨some kk33, none, none, .call 80 [(.t kk32)]⟩,
  ⟨some kk34, none, none, .offs (.t kk3) 12⟩,
  ⟨none, none, none, .store 1 (.t kk34) (.t kk33)⟩])
 (.seq (.region false [⟨some kk35, none, none, .mov (.t kk0)⟩,
  ⟨some kk36, none, none, .nilck (.t kk35)⟩,
  ⟨some kk37, none, none, .offs (.t kk36) 5⟩,
  ⟨some kk38, none, none, .load 1 false (.t kk37)⟩,
  ⟨some kk39, none, none, .offs (.t kk3) 11⟩,
  ⟨none, none, none, .store 1 (.t kk39) (.t kk38)⟩])
 (.seq (.region false [⟨some kk40, none, none, .load 21 true (.t kk3)⟩,
  ⟨none, none, none, .store 21 (.t kk2) (.t kk40)⟩])
 .ret)))))))))) }
theorem fn85 : fnOf Tryz.prog Tryz.f85 = some i85 := by kernel_rfl
/-- (*annalist.parser.parser).create -/
noncomputable def i86 : IFn := { nt := 79, ps := [kk0], res := [.cell kk2 21 true], body :=
 (.seq (.region false [⟨some kk2, none, none, .boxz 48 21 328 [(.int .i64 (.ofNat 0)), (.int .i64 (.ofNat 0)), (.int .i64 (.ofNat 0)), (.int .i64 (.ofNat 0)), .nilslice, .nilslice, (.str 0 0), (.str 0 0), .nilslice, (.int .i64 (.ofNat 0)), (.int .i64 (.ofNat 0)), .nilslice, (.int .i64 (.ofNat 0)), .nilslice, .nilslice, .nilslice, .nilslice, .nilslice, (.int .i64 (.ofNat 0)), (.int .i64 (.ofNat 0)), (.int .i64 (.ofNat 0))]⟩])
 (.seq (.region false [⟨some kk5, none, none, .mov (.t kk0)⟩,
  ⟨some kk6, none, none, .buildSl 9 1 16 1 [(.str 0 0)] [(0, (.c (.str 5 297632153940)))]⟩,
  ⟨some kk7, none, none, .call 39 [(.t kk5), (.t kk6)]⟩])
 (.seq (.region false [⟨some kk8, none, none, .mov (.t kk0)⟩,
  ⟨some kk9, none, none, .call 112 [(.t kk8)]⟩,
  ⟨some kk10, none, none, .build [(.int .i64 (.ofNat 0)), (.int .i64 (.ofNat 0)), (.int .i64 (.ofNat 0)), (.int .i64 (.ofNat 0)), .nilslice, .nilslice, (.str 0 0), (.str 0 0), .nilslice, (.int .i64 (.ofNat 0)), (.int .i64 (.ofNat 0)), .nilslice, (.int .i64 (.ofNat 0)), .nilslice, .nilslice, .nilslice, .nilslice, .nilslice, (.int .i64 (.ofNat 0)), (.int .i64 (.ofNat 0)), (.int .i64 (.ofNat 0))] [(0, 1, (.c (.int .i64 (.ofNat 5)))), (6, 1, (.t kk9))]⟩,
  ⟨some kk3, none, none, .boxz 48 21 328 [(.int .i64 (.ofNat 0)), (.int .i64 (.ofNat 0)), (.int .i64 (.ofNat 0)), (.int .i64 (.ofNat 0)), .nilslice, .nilslice, (.str 0 0), (.str 0 0), .nilslice, (.int .i64 (.ofNat 0)), (.int .i64 (.ofNat 0)), .nilslice, (.int .i64 (.ofNat 0)), .nilslice, .nilslice, .nilslice, .nilslice, .nilslice, (.int .i64 (.ofNat 0)), (.int .i64 (.ofNat 0)), (.int .i64 (.ofNat 0))]⟩,
  ⟨none, none, none, .store 21 (.t kk3) (.t kk10)⟩])
 (.seq (.region false [⟨some kk11, none, none, .mov (.t kk0)⟩,
  ⟨some kk12, none, none, .call 106 [(.t kk11), (.c (.str 1 40))]⟩])
 (.seq (.region true [⟨some kk13, none, none, .offs (.t kk3) 14⟩,
  ⟨some kk14, none, some [], .load 1 false (.t kk13)⟩,
  ⟨some kk15, none, none, .mov (.t kk0)⟩,
  ⟨some kk16, none, some [0], .call 116 [(.t kk15)]⟩,
  ⟨some kk17, none, some [1], .buildSl 115 3 32 1 [(.int .i64 (.ofNat 0)), (.str 0 0), (.int .i64 (.ofNat 0))] [(0, (.t kk16))]⟩,
  ⟨some kk18, none, some [], .app 115 3 32 (.t kk14) (.t kk17)⟩,
  ⟨some kk19, none, none, .offs (.t kk3) 14⟩,
  ⟨none, none, some [], .store 1 (.t kk19) (.t kk18)⟩])
 (.seq (.block 0 (.loop (.seq (.seq (.region false [⟨some kk20, none, none, .mov (.t kk0)⟩,
    ⟨some kk21, none, none, .call 77 [(.t kk20), (.c (.str 1 44))]⟩])
   (.cond (.t kk21)
    .skip
    (.exit 0)))
   (.block 1 (.region true [⟨some kk22, none, none, .offs (.t kk3) 14⟩,
     ⟨some kk23, none, some [], .load 1 false (.t kk22)⟩,
     ⟨some kk24, none, none, .mov (.t kk0)⟩,
     ⟨some kk25, none, some [0], .call 116 [(.t kk24)]⟩,
     ⟨some kk26, none, some [1], .buildSl 115 3 32 1 [(.int .i64 (.ofNat 0)), (.str 0 0), (.int .i64 (.ofNat 0))] [(0, (.t kk25))]⟩,
     ⟨some kk27, none, some [], .app 115 3 32 (.t kk23) (.t kk26)⟩,
     ⟨some kk28, none, none, .offs (.t kk3) 14⟩,
     ⟨none, none, some [], .store 1 (.t kk28) (.t kk27)⟩])))))
 (.seq (.region false [⟨some kk29, none, none, .mov (.t kk0)⟩,
  ⟨some kk30, none, none, .call 106 [(.t kk29), (.c (.str 1 41))]⟩])
 (.seq (.seq (.region false [⟨some kk31, none, none, .mov (.t kk0)⟩,
  ⟨some kk32, none, none, .call 38 [(.t kk31), (.c (.str 3 5850443))]⟩])
 (.cond (.t kk32)
  (.region false [⟨some kk33, none, none, .mov (.t kk0)⟩,
   ⟨some kk34, none, none, .call 117 [(.t kk33)]⟩,
   ⟨some kk35, none, none, .offs (.t kk3) 15⟩,
   ⟨none, none, none, .store 1 (.t kk35) (.t kk34)⟩])
  .skip))
 (.seq (.block 2 (.loop (.seq (.seq (.region false [⟨some kk36, none, none, .mov (.t kk0)⟩,
    ⟨some kk37, none, none, .call 38 [(.t kk36), (.c (.str 10 393234093309334888269138))]⟩])
   (.cond (.t kk37)
    .skip
    (.exit 2)))
   (.block 3 (.seq (.region false [⟨some kk38, none, none, .mov (.t kk0)⟩,
     ⟨some kk39, none, none, .call 117 [(.t kk38)]⟩,
     ⟨some kk40, none, none, .build [.nilslice, (.str 0 0), .nilslice] [(0, 1, (.t kk39))]⟩,
     ⟨some kk4, none, none, .boxz 105 3 64 [.nilslice, (.str 0 0), .nilslice]⟩,
     ⟨none, none, none, .store 3 (.t kk4) (.t kk40)⟩])
    (.seq (.region false [⟨some kk41, none, none, .mov (.t kk0)⟩,
     ⟨some kk42, none, none, .buildSl 9 1 16 1 [(.str 0 0)] [(0, (.c (.str 2 20041)))]⟩,
     ⟨some kk43, none, none, .call 39 [(.t kk41), (.t kk42)]⟩])
    (.seq (.region false [⟨some kk44, none, none, .mov (.t kk0)⟩,
     ⟨some kk45, none, none, .call 112 [(.t kk44)]⟩,
     ⟨some kk46, none, none, .offs (.t kk4) 1⟩,
     ⟨none, none, none, .store 1 (.t kk46) (.t kk45)⟩])
    (.seq (.region false [⟨some kk47, none, none, .mov (.t kk0)⟩,
     ⟨some kk48, none, none, .call 117 [(.t kk47)]⟩,
     ⟨some kk49, none, none, .offs (.t kk4) 2⟩,
     ⟨none, none, none, .store 1 (.t kk49) (.t kk48)⟩])
    (.region false [⟨some kk50, none, none, .offs (.t kk3) 16⟩,
     ⟨some kk51, none, none, .load 1 false (.t kk50)⟩,
     ⟨some kk52, none, none, .load 3 true (.t kk4)⟩,
     ⟨some kk53, none, none, .buildSl 105 3 64 1 [.nilslice, (.str 0 0), .nilslice] [(0, (.t kk52))]⟩,
     ⟨some kk54, none, none, .app 105 3 64 (.t kk51) (.t kk53)⟩,
     ⟨some kk55, none, none, .offs (.t kk3) 16⟩,
     ⟨none, none, none, .store 1 (.t kk55) (.t kk54)⟩])))))))))
 (.block 4 (.loop (.block 5 (.block 6 (.seq (.region false [⟨some kk58, none, none, .mov (.t kk0)⟩,
      ⟨some kk59, none, none, .call 38 [(.t kk58), (.c (.str 5 344692576078))]⟩,
      ⟨some kk57, none, none, .mov (.t kk59)⟩])
     (.cond (.t kk57)
      (.region true [⟨some kk60, none, none, .offs (.t kk3) 17⟩,
       ⟨some kk61, none, some [], .load 1 false (.t kk60)⟩,
       ⟨some kk62, none, none, .mov (.t kk0)⟩,
       ⟨some kk63, none, some [0], .call 117 [(.t kk62)]⟩,
       ⟨some kk64, none, none, .build [(.int .i64 (.ofNat 0)), .nilslice] [(0, 1, (.c (.int .i64 (.ofNat 1)))), (1, 1, (.t kk63))]⟩,
       ⟨some kk65, none, some [1], .buildSl 107 2 32 1 [(.int .i64 (.ofNat 0)), .nilslice] [(0, (.t kk64))]⟩,
       ⟨some kk66, none, some [], .app 107 2 32 (.t kk61) (.t kk65)⟩,
       ⟨some kk67, none, none, .offs (.t kk3) 17⟩,
       ⟨none, none, some [], .store 1 (.t kk67) (.t kk66)⟩])
      (.seq (.region false [⟨some kk69, none, none, .mov (.t kk0)⟩,
       ⟨some kk70, none, none, .call 38 [(.t kk69), (.c (.str 9 1480444752065213714254))]⟩,
       ⟨some kk68, none, none, .mov (.t kk70)⟩])
      (.cond (.t kk68)
       (.region true [⟨some kk71, none, none, .offs (.t kk3) 17⟩,
        ⟨some kk72, none, some [], .load 1 false (.t kk71)⟩,
        ⟨some kk73, none, none, .mov (.t kk0)⟩,
        ⟨some kk74, none, some [0], .call 117 [(.t kk73)]⟩,
        ⟨some kk75, none, none, .build [(.int .i64 (.ofNat 0)), .nilslice] [(0, 1, (.c (.int .i64 (.ofNat 2)))), (1, 1, (.t kk74))]⟩,
        ⟨some kk76, none, some [1], .buildSl 107 2 32 1 [(.int .i64 (.ofNat 0)), .nilslice] [(0, (.t kk75))]⟩,
        ⟨some kk77, none, some [], .app 107 2 32 (.t kk72) (.t kk76)⟩,
        ⟨some kk78, none, none, .offs (.t kk3) 17⟩,
        ⟨none, none, some [], .store 1 (.t kk78) (.t kk77)⟩])
       (.seq (.region false [⟨some kk56, none, none, .load 21 true (.t kk3)⟩,
        ⟨none, none, none, .store 21 (.t kk2) (.t kk56)⟩])
       .ret)))))))))))))))))) }
theorem fn86 : fnOf Tryz.prog Tryz.f86 = some i86 := by kernel_rfl
/-- (*annalist.parser.parser).alter -/
noncomputable def i87 : IFn := { nt := 27, ps := [kk0], res := [.cell kk2 21 true], body :=
 (.seq (.region false [⟨some kk2, none, none, .boxz 48 21 328 [(.int .i64 (.ofNat 0)), (.int .i64 (.ofNat 0)), (.int .i64 (.ofNat 0)), (.int .i64 (.ofNat 0)), .nilslice, .nilslice, (.str 0 0), (.str 0 0), .nilslice, (.int .i64 (.ofNat 0)), (.int .i64 (.ofNat 0)), .nilslice, (.int .i64 (.ofNat 0)), .nilslice, .nilslice, .nilslice, .nilslice, .nilslice, (.int .i64 (.ofNat 0)), (.int .i64 (.ofNat 0)), (.int .i64 (.ofNat 0))]⟩])
 (.seq (.region false [⟨some kk4, none, none, .mov (.t kk0)⟩,
  ⟨some kk5, none, none, .buildSl 9 1 16 1 [(.str 0 0)] [(0, (.c (.str 5 297632153940)))]⟩,
  ⟨some kk6, none, none, .call 39 [(.t kk4), (.t kk5)]⟩])
 (.seq (.region false [⟨some kk7, none, none, .mov (.t kk0)⟩,
  ⟨some kk8, none, none, .call 112 [(.t kk7)]⟩,
  ⟨some kk3, none, none, .mov (.t kk8)⟩])
 (.seq (.block 0 (.seq (.region false [⟨some kk10, none, none, .mov (.t kk0)⟩,
   ⟨some kk11, none, none, .call 38 [(.t kk10), (.c (.str 3 4473921))]⟩,
   ⟨some kk9, none, none, .mov (.t kk11)⟩])
  (.cond (.t kk9)
   (.seq (.region false [⟨some kk12, none, none, .mov (.t kk3)⟩,
    ⟨some kk13, none, none, .mov (.t kk0)⟩,
    ⟨some kk14, none, none, .call 116 [(.t kk13)]⟩,
    ⟨some kk15, none, none, .buildSl 115 3 32 1 [(.int .i64 (.ofNat 0)), (.str 0 0), (.int .i64 (.ofNat 0))] [(0, (.t kk14))]⟩,
    ⟨some kk16, none, none, .build [(.int .i64 (.ofNat 0)), (.int .i64 (.ofNat 0)), (.int .i64 (.ofNat 0)), (.int .i64 (.ofNat 0)), .nilslice, .nilslice, (.str 0 0), (.str 0 0), .nilslice, (.int .i64 (.ofNat 0)), (.int .i64 (.ofNat 0)), .nilslice, (.int .i64 (.ofNat 0)), .nilslice, .nilslice, .nilslice, .nilslice, .nilslice, (.int .i64 (.ofNat 0)), (.int .i64 (.ofNat 0)), (.int .i64 (.ofNat 0))] [(0, 1, (.c (.int .i64 (.ofNat 6)))), (6, 1, (.t kk12)), (14, 1, (.t kk15))]⟩,
    ⟨none, none, none, .store 21 (.t kk2) (.t kk16)⟩])
   .ret)
   (.seq (.region false [⟨some kk18, none, none, .mov (.t kk0)⟩,
    ⟨some kk19, none, none, .call 38 [(.t kk18), (.c (.str 4 1347375684))]⟩,
    ⟨some kk17, none, none, .mov (.t kk19)⟩])
   (.cond (.t kk17)
    (.seq (.region false [⟨some kk20, none, none, .mov (.t kk3)⟩,
     ⟨some kk21, none, none, .mov (.t kk0)⟩,
     ⟨some kk22, none, none, .call 112 [(.t kk21)]⟩,
     ⟨some kk23, none, none, .build [(.int .i64 (.ofNat 0)), (.int .i64 (.ofNat 0)), (.int .i64 (.ofNat 0)), (.int .i64 (.ofNat 0)), .nilslice, .nilslice, (.str 0 0), (.str 0 0), .nilslice, (.int .i64 (.ofNat 0)), (.int .i64 (.ofNat 0)), .nilslice, (.int .i64 (.ofNat 0)), .nilslice, .nilslice, .nilslice, .nilslice, .nilslice, (.int .i64 (.ofNat 0)), (.int .i64 (.ofNat 0)), (.int .i64 (.ofNat 0))] [(0, 1, (.c (.int .i64 (.ofNat 7)))), (6, 1, (.t kk20)), (7, 1, (.t kk22))]⟩,
     ⟨none, none, none, .store 21 (.t kk2) (.t kk23)⟩])
    .ret)
    .skip)))))
 (.seq (.region false [⟨some kk24, none, none, .mov (.t kk0)⟩,
  ⟨some kk25, none, none, .call 36 [(.t kk24), (.c (.int .i64 (.ofNat 5)))]⟩])
 (.seq (.region false [⟨some kk26, none, none, .build [(.int .i64 (.ofNat 0)), (.int .i64 (.ofNat 0)), (.int .i64 (.ofNat 0)), (.int .i64 (.ofNat 0)), .nilslice, .nilslice, (.str 0 0), (.str 0 0), .nilslice, (.int .i64 (.ofNat 0)), (.int .i64 (.ofNat 0)), .nilslice, (.int .i64 (.ofNat 0)), .nilslice, .nilslice, .nilslice, .nilslice, .nilslice, (.int .i64 (.ofNat 0)), (.int .i64 (.ofNat 0)), (.int .i64 (.ofNat 0))] []⟩,
  ⟨none, none, none, .store 21 (.t kk2) (.t kk26)⟩])
 .ret)))))) }
theorem fn87 : fnOf Tryz.prog Tryz.f87 = some i87 := by kernel_rfl
/-- (*annalist.parser.parser).cite -/
noncomputable def i88 : IFn := { nt := 17, ps := [kk0], res := [.cell kk2 21 true], body :=
 (.seq (.region false [⟨some kk2, none, none, .boxz 48 21 328 [(.int .i64 (.ofNat 0)), (.int .i64 (.ofNat 0)), (.int .i64 (.ofNat 0)), (.int .i64 (.ofNat 0)), .nilslice, .nilslice, (.str 0 0), (.str 0 0), .nilslice, (.int .i64 (.ofNat 0)), (.int .i64 (.ofNat 0)), .nilslice, (.int .i64 (.ofNat 0)), .nilslice, .nilslice, .nilslice, .nilslice, .nilslice, (.int .i64 (.ofNat 0)), (.int .i64 (.ofNat 0)), (.int .i64 (.ofNat 0))]⟩])
 (.seq (.region false [⟨some kk4, none, none, .mov (.t kk0)⟩,
  ⟨some kk5, none, none, .call 17 [(.t kk4), (.c (.bool false))]⟩,
  ⟨some kk6, none, none, .build [(.int .i64 (.ofNat 0)), (.int .i64 (.ofNat 0)), (.int .i64 (.ofNat 0)), (.int .i64 (.ofNat 0)), .nilslice, .nilslice, (.str 0 0), (.str 0 0), .nilslice, (.int .i64 (.ofNat 0)), (.int .i64 (.ofNat 0)), .nilslice, (.int .i64 (.ofNat 0)), .nilslice, .nilslice, .nilslice, .nilslice, .nilslice, (.int .i64 (.ofNat 0)), (.int .i64 (.ofNat 0)), (.int .i64 (.ofNat 0))] [(0, 1, (.c (.int .i64 (.ofNat 8)))), (4, 2, (.t kk5))]⟩,
  ⟨some kk3, none, none, .boxz 48 21 328 [(.int .i64 (.ofNat 0)), (.int .i64 (.ofNat 0)), (.int .i64 (.ofNat 0)), (.int .i64 (.ofNat 0)), .nilslice, .nilslice, (.str 0 0), (.str 0 0), .nilslice, (.int .i64 (.ofNat 0)), (.int .i64 (.ofNat 0)), .nilslice, (.int .i64 (.ofNat 0)), .nilslice, .nilslice, .nilslice, .nilslice, .nilslice, (.int .i64 (.ofNat 0)), (.int .i64 (.ofNat 0)), (.int .i64 (.ofNat 0))]⟩,
  ⟨none, none, none, .store 21 (.t kk3) (.t kk6)⟩])
 (.seq (.region false [⟨some kk7, none, none, .mov (.t kk0)⟩,
  ⟨some kk8, none, none, .buildSl 9 1 16 2 [(.str 0 0)] [(0, (.c (.str 2 21569))), (1, (.c (.str 3 5849412)))]⟩,
  ⟨some kk9, none, none, .call 39 [(.t kk7), (.t kk8)]⟩])
 (.seq (.region false [⟨some kk10, none, none, .mov (.t kk0)⟩,
  ⟨some kk11, none, none, .call 118 [(.t kk10)]⟩,
  ⟨some kk12, none, none, .offs (.t kk3) 2⟩,
  ⟨none, none, none, .store 1 (.t kk12) (.t kk11)⟩])
 (.seq (.region false [⟨some kk13, none, none, .mov (.t kk0)⟩,
  ⟨some kk14, none, none, .call 119 [(.t kk13)]⟩,
  ⟨some kk15, none, none, .offs (.t kk3) 3⟩,
  ⟨none, none, none, .store 1 (.t kk15) (.t kk14)⟩])
 (.seq (.region false [⟨some kk16, none, none, .load 21 true (.t kk3)⟩,
  ⟨none, none, none, .store 21 (.t kk2) (.t kk16)⟩])
 .ret)))))) }
theorem fn88 : fnOf Tryz.prog Tryz.f88 = some i88 := by kernel_rfl
/-- (*annalist.parser.parser).hold -/
noncomputable def i89 : IFn := { nt := 29, ps := [kk0], res := [.cell kk2 21 true], body :=
 (.seq (.region false [⟨some kk2, none, none, .boxz 48 21 328 [(.int .i64 (.ofNat 0)), (.int .i64 (.ofNat 0)), (.int .i64 (.ofNat 0)), (.int .i64 (.ofNat 0)), .nilslice, .nilslice, (.str 0 0), (.str 0 0), .nilslice, (.int .i64 (.ofNat 0)), (.int .i64 (.ofNat 0)), .nilslice, (.int .i64 (.ofNat 0)), .nilslice, .nilslice, .nilslice, .nilslice, .nilslice, (.int .i64 (.ofNat 0)), (.int .i64 (.ofNat 0)), (.int .i64 (.ofNat 0))]⟩])
 (.seq (.region false [⟨some kk4, none, none, .mov (.t kk0)⟩,
  ⟨some kk5, none, none, .call 90 [(.t kk4), (.c (.int .i64 (.negSucc 0)))]⟩,
  ⟨some kk6, none, none, .build [(.int .i64 (.ofNat 0)), (.int .i64 (.ofNat 0)), (.int .i64 (.ofNat 0)), (.int .i64 (.ofNat 0)), .nilslice, .nilslice, (.str 0 0), (.str 0 0), .nilslice, (.int .i64 (.ofNat 0)), (.int .i64 (.ofNat 0)), .nilslice, (.int .i64 (.ofNat 0)), .nilslice, .nilslice, .nilslice, .nilslice, .nilslice, (.int .i64 (.ofNat 0)), (.int .i64 (.ofNat 0)), (.int .i64 (.ofNat 0))] [(0, 1, (.c (.int .i64 (.ofNat 10)))), (18, 1, (.t kk5))]⟩,
  ⟨some kk3, none, none, .boxz 48 21 328 [(.int .i64 (.ofNat 0)), (.int .i64 (.ofNat 0)), (.int .i64 (.ofNat 0)), (.int .i64 (.ofNat 0)), .nilslice, .nilslice, (.str 0 0), (.str 0 0), .nilslice, (.int .i64 (.ofNat 0)), (.int .i64 (.ofNat 0)), .nilslice, (.int .i64 (.ofNat 0)), .nilslice, .nilslice, .nilslice, .nilslice, .nilslice, (.int .i64 (.ofNat 0)), (.int .i64 (.ofNat 0)), (.int .i64 (.ofNat 0))]⟩,
  ⟨none, none, none, .store 21 (.t kk3) (.t kk6)⟩])
 (.seq (.region false [⟨some kk7, none, none, .mov (.t kk0)⟩,
  ⟨some kk8, none, none, .buildSl 9 1 16 1 [(.str 0 0)] [(0, (.c (.str 4 1297044038)))]⟩,
  ⟨some kk9, none, none, .call 39 [(.t kk7), (.t kk8)]⟩])
 (.seq (.region false [⟨some kk10, none, none, .mov (.t kk0)⟩,
  ⟨some kk11, none, none, .call 90 [(.t kk10), (.c (.int .i64 (.negSucc 0)))]⟩,
  ⟨some kk12, none, none, .offs (.t kk3) 19⟩,
  ⟨some kk13, none, none, .offs (.t kk12) 0⟩,
  ⟨none, none, none, .store 1 (.t kk13) (.t kk11)⟩])
 (.seq (.region false [⟨some kk14, none, none, .mov (.t kk0)⟩,
  ⟨some kk15, none, none, .buildSl 9 1 16 1 [(.str 0 0)] [(0, (.c (.str 2 20308)))]⟩,
  ⟨some kk16, none, none, .call 39 [(.t kk14), (.t kk15)]⟩])
 (.seq (.seq (.region false [⟨some kk17, none, none, .mov (.t kk0)⟩,
  ⟨some kk18, none, none, .call 38 [(.t kk17), (.c (.str 5 327647776341))]⟩])
 (.cond (.t kk18)
  (.region false [⟨some kk19, none, none, .offs (.t kk3) 19⟩,
   ⟨some kk20, none, none, .offs (.t kk19) 1⟩,
   ⟨none, none, none, .store 1 (.t kk20) (.c (.int .i64 (.ofNat 1099511627776)))⟩])
  (.region false [⟨some kk21, none, none, .mov (.t kk0)⟩,
   ⟨some kk22, none, none, .offs (.t kk3) 19⟩,
   ⟨some kk23, none, none, .offs (.t kk22) 0⟩,
   ⟨some kk24, none, none, .load 1 false (.t kk23)⟩,
   ⟨some kk25, none, none, .call 90 [(.t kk21), (.t kk24)]⟩,
   ⟨some kk26, none, none, .offs (.t kk3) 19⟩,
   ⟨some kk27, none, none, .offs (.t kk26) 1⟩,
   ⟨none, none, none, .store 1 (.t kk27) (.t kk25)⟩])))
 (.seq (.region false [⟨some kk28, none, none, .load 21 true (.t kk3)⟩,
  ⟨none, none, none, .store 21 (.t kk2) (.t kk28)⟩])
 .ret))))))) }
theorem fn89 : fnOf Tryz.prog Tryz.f89 = some i89 := by kernel_rfl
/-- (*annalist.parser.parser).number -/
noncomputable def i90 : IFn := { nt := 10, ps := [kk0, kk1], res := [.tmp kk4], body :=
 (.seq (.region false [⟨some kk3, none, none, .box 3 1 8 (.t kk1)⟩,
  ⟨some kk4, none, none, .mov (.c (.int .i64 (.ofNat 0)))⟩])
 (.seq (.region false [⟨some kk5, none, none, .boxz 3 1 8 [(.int .i64 (.ofNat 0))]⟩,
  ⟨none, none, none, .store 1 (.t kk5) (.c (.int .i64 (.ofNat 0)))⟩])
 (.seq (.region false [⟨some kk6, none, none, .mov (.t kk0)⟩,
  ⟨some kk7, none, none, .mkfn 121 [(.t kk3), (.t kk5)]⟩,
  ⟨some kk8, none, none, .call 120 [(.t kk6), (.c (.int .i64 (.ofNat 3))), (.t kk7)]⟩])
 (.seq (.region false [⟨some kk9, none, none, .load 1 false (.t kk5)⟩,
  ⟨some kk4, none, none, .mov (.t kk9)⟩])
 .ret)))) }
theorem fn90 : fnOf Tryz.prog Tryz.f90 = some i90 := by kernel_rfl
/-- (*annalist.parser.parser).query -/
noncomputable def i91 : IFn := { nt := 36, ps := [kk0], res := [.cell kk2 21 true], body :=
 (.seq (.region false [⟨some kk2, none, none, .boxz 48 21 328 [(.int .i64 (.ofNat 0)), (.int .i64 (.ofNat 0)), (.int .i64 (.ofNat 0)), (.int .i64 (.ofNat 0)), .nilslice, .nilslice, (.str 0 0), (.str 0 0), .nilslice, (.int .i64 (.ofNat 0)), (.int .i64 (.ofNat 0)), .nilslice, (.int .i64 (.ofNat 0)), .nilslice, .nilslice, .nilslice, .nilslice, .nilslice, (.int .i64 (.ofNat 0)), (.int .i64 (.ofNat 0)), (.int .i64 (.ofNat 0))]⟩])
 (.seq (.region false [⟨some kk4, none, none, .build [(.int .i64 (.ofNat 0)), (.int .i64 (.ofNat 0)), (.int .i64 (.ofNat 0)), (.int .i64 (.ofNat 0)), .nilslice, .nilslice, (.str 0 0), (.str 0 0), .nilslice, (.int .i64 (.ofNat 0)), (.int .i64 (.ofNat 0)), .nilslice, (.int .i64 (.ofNat 0)), .nilslice, .nilslice, .nilslice, .nilslice, .nilslice, (.int .i64 (.ofNat 0)), (.int .i64 (.ofNat 0)), (.int .i64 (.ofNat 0))] [(0, 1, (.c (.int .i64 (.ofNat 1)))), (1, 1, (.c (.int .i64 (.ofNat 1)))), (2, 1, (.c (.int .i64 (.negSucc 0)))), (3, 1, (.c (.int .i64 (.ofNat 1099511627776))))]⟩,
  ⟨some kk3, none, none, .boxz 48 21 328 [(.int .i64 (.ofNat 0)), (.int .i64 (.ofNat 0)), (.int .i64 (.ofNat 0)), (.int .i64 (.ofNat 0)), .nilslice, .nilslice, (.str 0 0), (.str 0 0), .nilslice, (.int .i64 (.ofNat 0)), (.int .i64 (.ofNat 0)), .nilslice, (.int .i64 (.ofNat 0)), .nilslice, .nilslice, .nilslice, .nilslice, .nilslice, (.int .i64 (.ofNat 0)), (.int .i64 (.ofNat 0)), (.int .i64 (.ofNat 0))]⟩,
  ⟨none, none, none, .store 21 (.t kk3) (.t kk4)⟩])
 (.seq (.block 0 (.seq (.region false [⟨some kk6, none, none, .mov (.t kk0)⟩,
   ⟨some kk7, none, none, .call 38 [(.t kk6), (.c (.str 9 1278394416152443634006))]⟩,
   ⟨some kk5, none, none, .mov (.t kk7)⟩])
  (.cond (.t kk5)
   (.region false [⟨some kk8, none, none, .offs (.t kk3) 1⟩,
    ⟨none, none, none, .store 1 (.t kk8) (.c (.int .i64 (.ofNat 2)))⟩])
   (.seq (.region false [⟨some kk10, none, none, .mov (.t kk0)⟩,
    ⟨some kk11, none, none, .call 38 [(.t kk10), (.c (.str 10 327268970535064275469650))]⟩,
    ⟨some kk9, none, none, .mov (.t kk11)⟩])
   (.cond (.t kk9)
    (.region false [⟨some kk12, none, none, .offs (.t kk3) 1⟩,
     ⟨none, none, none, .store 1 (.t kk12) (.c (.int .i64 (.ofNat 3)))⟩])
    (.seq (.region false [⟨some kk14, none, none, .mov (.t kk0)⟩,
     ⟨some kk15, none, none, .call 38 [(.t kk14), (.c (.str 8 4993728188163313474))]⟩,
     ⟨some kk13, none, none, .mov (.t kk15)⟩])
    (.cond (.t kk13)
     (.region false [⟨some kk16, none, none, .offs (.t kk3) 1⟩,
      ⟨none, none, none, .store 1 (.t kk16) (.c (.int .i64 (.ofNat 4)))⟩])
     (.seq (.region false [⟨some kk18, none, none, .mov (.t kk0)⟩,
      ⟨some kk19, none, none, .call 38 [(.t kk18), (.c (.str 12 21128714391801252821743849294))]⟩,
      ⟨some kk17, none, none, .mov (.t kk19)⟩])
     (.cond (.t kk17)
      (.region false [⟨some kk20, none, none, .offs (.t kk3) 1⟩,
       ⟨none, none, none, .store 1 (.t kk20) (.c (.int .i64 (.ofNat 5)))⟩])
      .skip)))))))))
 (.seq (.region false [⟨some kk21, none, none, .mov (.t kk0)⟩,
  ⟨some kk22, none, none, .call 17 [(.t kk21), (.c (.bool true))]⟩,
  ⟨some kk23, none, none, .offs (.t kk3) 4⟩,
  ⟨none, none, none, .store 2 (.t kk23) (.t kk22)⟩])
 (.seq (.seq (.region false [⟨some kk24, none, none, .mov (.t kk0)⟩,
  ⟨some kk25, none, none, .call 38 [(.t kk24), (.c (.str 2 21569))]⟩])
 (.cond (.t kk25)
  (.seq (.region false [⟨some kk26, none, none, .mov (.t kk0)⟩,
   ⟨some kk27, none, none, .buildSl 9 1 16 1 [(.str 0 0)] [(0, (.c (.str 3 5849412)))]⟩,
   ⟨some kk28, none, none, .call 39 [(.t kk26), (.t kk27)]⟩])
  (.region false [⟨some kk29, none, none, .mov (.t kk0)⟩,
   ⟨some kk30, none, none, .call 118 [(.t kk29)]⟩,
   ⟨some kk31, none, none, .offs (.t kk3) 2⟩,
   ⟨none, none, none, .store 1 (.t kk31) (.t kk30)⟩]))
  .skip))
 (.seq (.region false [⟨some kk32, none, none, .mov (.t kk0)⟩,
  ⟨some kk33, none, none, .call 119 [(.t kk32)]⟩,
  ⟨some kk34, none, none, .offs (.t kk3) 3⟩,
  ⟨none, none, none, .store 1 (.t kk34) (.t kk33)⟩])
 (.seq (.region false [⟨some kk35, none, none, .load 21 true (.t kk3)⟩,
  ⟨none, none, none, .store 21 (.t kk2) (.t kk35)⟩])
 .ret))))))) }
theorem fn91 : fnOf Tryz.prog Tryz.f91 = some i91 := by kernel_rfl
/-- (*annalist.parser.printer).token -/
noncomputable def i92 : IFn := { nt := 18, ps := [kk0, kk1, kk2], res := [], body :=
 (.region false [⟨some kk6, none, none, .mov (.t kk0)⟩,
  ⟨some kk7, none, none, .mov (.t kk0)⟩,
  ⟨some kk8, none, none, .nilck (.t kk7)⟩,
  ⟨some kk9, none, none, .offs (.t kk8) 0⟩,
  ⟨some kk10, none, none, .load 1 false (.t kk9)⟩,
  ⟨some kk11, none, none, .mov (.t kk1)⟩,
  ⟨some kk12, none, none, .mov (.t kk2)⟩,
  ⟨some kk13, none, none, .build [(.int .i64 (.ofNat 0)), (.int .i64 (.ofNat 0)), (.str 0 0)] [(0, 1, (.t kk11)), (2, 1, (.t kk12))]⟩,
  ⟨some kk14, none, none, .buildSl 35 3 32 1 [(.int .i64 (.ofNat 0)), (.int .i64 (.ofNat 0)), (.str 0 0)] [(0, (.t kk13))]⟩,
  ⟨some kk15, none, none, .app 35 3 32 (.t kk10) (.t kk14)⟩,
  ⟨some kk16, none, none, .nilck (.t kk6)⟩,
  ⟨some kk17, none, none, .offs (.t kk16) 0⟩,
  ⟨none, none, none, .store 1 (.t kk17) (.t kk15)⟩]) }
theorem fn92 : fnOf Tryz.prog Tryz.f92 = some i92 := by kernel_rfl
/-- strconv.FormatInt -/
noncomputable def i93 : IFn := { nt := 8, ps := [kk0, kk1], res := [.tmp kk4], body :=
 (.seq (.region false [⟨some kk4, none, none, .mov (.c (.str 0 0))⟩])
 (.seq (.region false [⟨some kk5, none, none, .mov (.t kk0)⟩,
  ⟨some kk6, none, none, .mov (.t kk1)⟩,
  ⟨some kk7, none, none, .call 123 [(.t kk5), (.t kk6)]⟩,
  ⟨some kk4, none, none, .mov (.t kk7)⟩])
 .ret)) }
theorem fn93 : fnOf Tryz.prog Tryz.f93 = some i93 := by kernel_rfl
/-- (*annalist.parser.printer).text -/
noncomputable def i94 : IFn := { nt := 7, ps := [kk0, kk1], res := [], body :=
 (.region false [⟨some kk4, none, none, .mov (.t kk0)⟩,
  ⟨some kk5, none, none, .mov (.t kk1)⟩,
  ⟨some kk6, none, none, .call 92 [(.t kk4), (.c (.int .i64 (.ofNat 4))), (.t kk5)]⟩]) }
theorem fn94 : fnOf Tryz.prog Tryz.f94 = some i94 := by kernel_rfl
/-- annalist.datefmt.FormatPeriod -/
noncomputable def i95 : IFn := { nt := 28, ps := [kk0], res := [.tmp kk2], body :=
 (.seq (.region false [⟨some kk1, none, none, .box 40 2 16 (.t kk0)⟩,
  ⟨some kk2, none, none, .mov (.c (.str 0 0))⟩])
 (.seq (.seq (.region false [⟨some kk3, none, none, .offs (.t kk1) 0⟩,
  ⟨some kk4, none, none, .load 1 false (.t kk3)⟩,
  ⟨some kk5, none, none, .bin .lss (.t kk4) (.c (.int .i64 (.ofNat 0)))⟩,
  ⟨some kk6, none, none, .mov (.t kk5)⟩,
  ⟨some kk7, some (kk6, false), none, .offs (.t kk1) 0⟩,
  ⟨some kk8, some (kk6, false), none, .load 1 false (.t kk7)⟩,
  ⟨some kk9, some (kk6, false), none, .offs (.t kk1) 1⟩,
  ⟨some kk10, some (kk6, false), none, .load 1 false (.t kk9)⟩,
  ⟨some kk11, some (kk6, false), none, .bin .geq (.t kk8) (.t kk10)⟩,
  ⟨some kk12, none, none, .pick (.t kk6) (.c (.bool true)) (.t kk11)⟩,
  ⟨some kk13, none, none, .mov (.t kk12)⟩,
  ⟨some kk14, some (kk13, false), none, .offs (.t kk1) 1⟩,
  ⟨some kk15, some (kk13, false), none, .load 1 false (.t kk14)⟩,
  ⟨some kk16, some (kk13, false), none, .bin .gtr (.t kk15) (.c (.int .i64 (.ofNat 1000000)))⟩,
  ⟨some kk17, none, none, .pick (.t kk13) (.c (.bool true)) (.t kk16)⟩])
 (.cond (.t kk17)
  (.seq (.region false [⟨some kk2, none, none, .mov (.c (.str 0 0))⟩])
  .ret)
  .skip))
 (.seq (.region true [⟨some kk18, none, none, .offs (.t kk1) 0⟩,
  ⟨some kk19, none, some [], .load 1 false (.t kk18)⟩,
  ⟨some kk20, none, some [], .call 97 [(.t kk19)]⟩,
  ⟨some kk21, none, none, .bin .add (.c (.str 1 91)) (.t kk20)⟩,
  ⟨some kk22, none, none, .bin .add (.t kk21) (.c (.str 2 8236))⟩,
  ⟨some kk23, none, none, .offs (.t kk1) 1⟩,
  ⟨some kk24, none, some [0, 1], .load 1 false (.t kk23)⟩,
  ⟨some kk25, none, some [], .call 97 [(.t kk24)]⟩,
  ⟨some kk26, none, none, .bin .add (.t kk22) (.t kk25)⟩,
  ⟨some kk27, none, none, .bin .add (.t kk26) (.c (.str 1 41))⟩,
  ⟨some kk2, none, none, .mov (.t kk27)⟩])
 .ret))) }
theorem fn95 : fnOf Tryz.prog Tryz.f95 = some i95 := by kernel_rfl
noncomputable def rows0 : List (Nat × IFn) := [(3, i3), (4, i4), (5, i5), (6, i6), (7, i7), (8, i8), (9, i9), (10, i10), (11, i11), (12, i12), (13, i13), (14, i14), (15, i15), (16, i16), (17, i17), (18, i18), (19, i19), (20, i20), (21, i21), (22, i22), (23, i23), (24, i24), (25, i25), (26, i26), (27, i27), (28, i28), (29, i29), (30, i30), (31, i31), (32, i32), (33, i33), (34, i34), (35, i35), (36, i36), (37, i37), (38, i38), (39, i39), (40, i40), (41, i41), (42, i42), (43, i43), (44, i44), (45, i45), (46, i46), (47, i47), (48, i48), (49, i49), (50, i50), (51, i51), (52, i52), (53, i53), (54, i54), (55, i55), (56, i56), (57, i57), (58, i58), (59, i59), (60, i60), (61, i61), (62, i62), (63, i63), (64, i64), (65, i65), (66, i66), (67, i67), (68, i68), (69, i69), (70, i70), (71, i71), (72, i72), (73, i73), (74, i74), (75, i75), (76, i76), (77, i77), (78, i78), (79, i79), (80, i80), (81, i81), (82, i82), (83, i83), (84, i84), (85, i85), (86, i86), (87, i87), (88, i88), (89, i89), (90, i90), (91, i91), (92, i92), (93, i93), (94, i94), (95, i95)]
theorem rows0_ok : ∀ p, p ∈ rows0 → RowOk Tryz.prog p :=
  rows_cons Tryz.func3 fn3 <|
  rows_cons Tryz.func4 fn4 <|
  rows_cons Tryz.func5 fn5 <|
  rows_cons Tryz.func6 fn6 <|
  rows_cons Tryz.func7 fn7 <|
  rows_cons Tryz.func8 fn8 <|
  rows_cons Tryz.func9 fn9 <|
  rows_cons Tryz.func10 fn10 <|
  rows_cons Tryz.func11 fn11 <|
  rows_cons Tryz.func12 fn12 <|
  rows_cons Tryz.func13 fn13 <|
  rows_cons Tryz.func14 fn14 <|
  rows_cons Tryz.func15 fn15 <|
  rows_cons Tryz.func16 fn16 <|
  rows_cons Tryz.func17 fn17 <|
  rows_cons Tryz.func18 fn18 <|
  rows_cons Tryz.func19 fn19 <|
  rows_cons Tryz.func20 fn20 <|
  rows_cons Tryz.func21 fn21 <|
  rows_cons Tryz.func22 fn22 <|
  rows_cons Tryz.func23 fn23 <|
  rows_cons Tryz.func24 fn24 <|
  rows_cons Tryz.func25 fn25 <|
  rows_cons Tryz.func26 fn26 <|
  rows_cons Tryz.func27 fn27 <|
  rows_cons Tryz.func28 fn28 <|
  rows_cons Tryz.func29 fn29 <|
  rows_cons Tryz.func30 fn30 <|
  rows_cons Tryz.func31 fn31 <|
  rows_cons Tryz.func32 fn32 <|
  rows_cons Tryz.func33 fn33 <|
  rows_cons Tryz.func34 fn34 <|
  rows_cons Tryz.func35 fn35 <|
  rows_cons Tryz.func36 fn36 <|
  rows_cons Tryz.func37 fn37 <|
  rows_cons Tryz.func38 fn38 <|
  rows_cons Tryz.func39 fn39 <|
  rows_cons Tryz.func40 fn40 <|
  rows_cons Tryz.func41 fn41 <|
  rows_cons Tryz.func42 fn42 <|
  rows_cons Tryz.func43 fn43 <|
  rows_cons Tryz.func44 fn44 <|
  rows_cons Tryz.func45 fn45 <|
  rows_cons Tryz.func46 fn46 <|
  rows_cons Tryz.func47 fn47 <|
  rows_cons Tryz.func48 fn48 <|
  rows_cons Tryz.func49 fn49 <|
  rows_cons Tryz.func50 fn50 <|
  rows_cons Tryz.func51 fn51 <|
  rows_cons Tryz.func52 fn52 <|
  rows_cons Tryz.func53 fn53 <|
  rows_cons Tryz.func54 fn54 <|
  rows_cons Tryz.func55 fn55 <|
  rows_cons Tryz.func56 fn56 <|
  rows_cons Tryz.func57 fn57 <|
  rows_cons Tryz.func58 fn58 <|
  rows_cons Tryz.func59 fn59 <|
  rows_cons Tryz.func60 fn60 <|
  rows_cons Tryz.func61 fn61 <|
  rows_cons Tryz.func62 fn62 <|
  rows_cons Tryz.func63 fn63 <|
  rows_cons Tryz.func64 fn64 <|
  rows_cons Tryz.func65 fn65 <|
  rows_cons Tryz.func66 fn66 <|
  rows_cons Tryz.func67 fn67 <|
  rows_cons Tryz.func68 fn68 <|
  rows_cons Tryz.func69 fn69 <|
  rows_cons Tryz.func70 fn70 <|
  rows_cons Tryz.func71 fn71 <|
  rows_cons Tryz.func72 fn72 <|
  rows_cons Tryz.func73 fn73 <|
  rows_cons Tryz.func74 fn74 <|
  rows_cons Tryz.func75 fn75 <|
  rows_cons Tryz.func76 fn76 <|
  rows_cons Tryz.func77 fn77 <|
  rows_cons Tryz.func78 fn78 <|
  rows_cons Tryz.func79 fn79 <|
  rows_cons Tryz.func80 fn80 <|
  rows_cons Tryz.func81 fn81 <|
  rows_cons Tryz.func82 fn82 <|
  rows_cons Tryz.func83 fn83 <|
  rows_cons Tryz.func84 fn84 <|
  rows_cons Tryz.func85 fn85 <|
  rows_cons Tryz.func86 fn86 <|
  rows_cons Tryz.func87 fn87 <|
  rows_cons Tryz.func88 fn88 <|
  rows_cons Tryz.func89 fn89 <|
  rows_cons Tryz.func90 fn90 <|
  rows_cons Tryz.func91 fn91 <|
  rows_cons Tryz.func92 fn92 <|
  rows_cons Tryz.func93 fn93 <|
  rows_cons Tryz.func94 fn94 <|
  rows_cons Tryz.func95 fn95 <|
  rows_nil
end Go.Proofs.YtgjadkcogmpkdaaGreatDoor
