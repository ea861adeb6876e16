/- The program's functions, turned into instructions (printed by program), part 1, and that they are so turned. -/
import Derived.Test.YtgjadkcogmpkdaaGreatDoorI0
namespace Go.Proofs.YtgjadkcogmpkdaaGreatDoor
open Go Go.Ev
set_option maxRecDepth 100000
set_option maxHeartbeats 4000000
/-- annalist.parser.shapeOf -/
noncomputable def i96 : IFn := { nt := 35, ps := [kk0], res := [.cell kk2 5 true], body :=
 (.seq (.region false [⟨some kk2, none, none, .boxz 147 5 48 [(.int .i64 (.ofNat 0)), (.int .i64 (.ofNat 0)), (.int .i64 (.ofNat 0)), (.int .i64 (.ofNat 0)), (.str 0 0)]⟩])
 (.seq (.seq (.region false [⟨some kk3, none, none, .mov (.t kk0)⟩])
 (.block 0 (.seq (.region false [⟨some kk5, none, none, .bin .eql (.t kk3) (.c (.int .i64 (.ofNat 10)))⟩,
   ⟨some kk4, none, none, .mov (.t kk5)⟩])
  (.cond (.t kk4)
   (.seq (.region false [⟨some kk6, none, none, .build [(.int .i64 (.ofNat 0)), (.int .i64 (.ofNat 0)), (.int .i64 (.ofNat 0)), (.int .i64 (.ofNat 0)), (.str 0 0)] [(0, 1, (.c (.int .i64 (.ofNat 1)))), (1, 1, (.c (.int .i64 (.ofNat 1)))), (2, 1, (.c (.int .i64 (.ofNat 2)))), (3, 1, (.c (.int .i64 (.ofNat 1)))), (4, 1, (.c (.str 2 21071)))]⟩,
    ⟨none, none, none, .store 5 (.t kk2) (.t kk6)⟩])
   .ret)
   (.seq (.region false [⟨some kk8, none, none, .bin .eql (.t kk3) (.c (.int .i64 (.ofNat 9)))⟩,
    ⟨some kk7, none, none, .mov (.t kk8)⟩])
   (.cond (.t kk7)
    (.seq (.region false [⟨some kk9, none, none, .build [(.int .i64 (.ofNat 0)), (.int .i64 (.ofNat 0)), (.int .i64 (.ofNat 0)), (.int .i64 (.ofNat 0)), (.str 0 0)] [(0, 1, (.c (.int .i64 (.ofNat 2)))), (1, 1, (.c (.int .i64 (.ofNat 2)))), (2, 1, (.c (.int .i64 (.ofNat 3)))), (3, 1, (.c (.int .i64 (.ofNat 1)))), (4, 1, (.c (.str 3 4476481)))]⟩,
     ⟨none, none, none, .store 5 (.t kk2) (.t kk9)⟩])
    .ret)
    (.seq (.region false [⟨some kk11, none, none, .bin .eql (.t kk3) (.c (.int .i64 (.ofNat 11)))⟩,
     ⟨some kk10, none, none, .mov (.t kk11)⟩])
    (.cond (.t kk10)
     (.seq (.region false [⟨some kk12, none, none, .build [(.int .i64 (.ofNat 0)), (.int .i64 (.ofNat 0)), (.int .i64 (.ofNat 0)), (.int .i64 (.ofNat 0)), (.str 0 0)] [(0, 1, (.c (.int .i64 (.ofNat 3)))), (1, 1, (.c (.int .i64 (.ofNat 3))))]⟩,
      ⟨none, none, none, .store 5 (.t kk2) (.t kk12)⟩])
     .ret)
     (.seq (.region false [⟨some kk14, none, none, .bin .eql (.t kk3) (.c (.int .i64 (.ofNat 6)))⟩,
      ⟨some kk13, none, none, .mov (.t kk14)⟩])
     (.cond (.t kk13)
      (.seq (.region false [⟨some kk15, none, none, .build [(.int .i64 (.ofNat 0)), (.int .i64 (.ofNat 0)), (.int .i64 (.ofNat 0)), (.int .i64 (.ofNat 0)), (.str 0 0)] [(0, 1, (.c (.int .i64 (.ofNat 4)))), (1, 1, (.c (.int .i64 (.ofNat 5)))), (2, 1, (.c (.int .i64 (.ofNat 5)))), (3, 1, (.c (.int .i64 (.ofNat 5)))), (4, 1, (.c (.str 1 61)))]⟩,
       ⟨none, none, none, .store 5 (.t kk2) (.t kk15)⟩])
      .ret)
      (.seq (.region false [⟨some kk17, none, none, .bin .eql (.t kk3) (.c (.int .i64 (.ofNat 7)))⟩,
       ⟨some kk16, none, none, .mov (.t kk17)⟩])
      (.cond (.t kk16)
       (.seq (.region false [⟨some kk18, none, none, .build [(.int .i64 (.ofNat 0)), (.int .i64 (.ofNat 0)), (.int .i64 (.ofNat 0)), (.int .i64 (.ofNat 0)), (.str 0 0)] [(0, 1, (.c (.int .i64 (.ofNat 4)))), (1, 1, (.c (.int .i64 (.ofNat 5)))), (2, 1, (.c (.int .i64 (.ofNat 5)))), (3, 1, (.c (.int .i64 (.ofNat 5)))), (4, 1, (.c (.str 1 60)))]⟩,
        ⟨none, none, none, .store 5 (.t kk2) (.t kk18)⟩])
       .ret)
       (.seq (.region false [⟨some kk20, none, none, .bin .eql (.t kk3) (.c (.int .i64 (.ofNat 8)))⟩,
        ⟨some kk19, none, none, .mov (.t kk20)⟩])
       (.cond (.t kk19)
        (.seq (.region false [⟨some kk21, none, none, .build [(.int .i64 (.ofNat 0)), (.int .i64 (.ofNat 0)), (.int .i64 (.ofNat 0)), (.int .i64 (.ofNat 0)), (.str 0 0)] [(0, 1, (.c (.int .i64 (.ofNat 4)))), (1, 1, (.c (.int .i64 (.ofNat 5)))), (2, 1, (.c (.int .i64 (.ofNat 5)))), (3, 1, (.c (.int .i64 (.ofNat 5)))), (4, 1, (.c (.str 1 62)))]⟩,
         ⟨none, none, none, .store 5 (.t kk2) (.t kk21)⟩])
        .ret)
        (.seq (.region false [⟨some kk23, none, none, .bin .eql (.t kk3) (.c (.int .i64 (.ofNat 12)))⟩,
         ⟨some kk22, none, none, .mov (.t kk23)⟩])
        (.cond (.t kk22)
         (.seq (.region false [⟨some kk24, none, none, .build [(.int .i64 (.ofNat 0)), (.int .i64 (.ofNat 0)), (.int .i64 (.ofNat 0)), (.int .i64 (.ofNat 0)), (.str 0 0)] [(0, 1, (.c (.int .i64 (.ofNat 4)))), (1, 1, (.c (.int .i64 (.ofNat 5))))]⟩,
          ⟨none, none, none, .store 5 (.t kk2) (.t kk24)⟩])
         .ret)
         (.seq (.region false [⟨some kk26, none, none, .bin .eql (.t kk3) (.c (.int .i64 (.ofNat 3)))⟩,
          ⟨some kk25, none, none, .mov (.t kk26)⟩])
         (.cond (.t kk25)
          (.seq (.region false [⟨some kk27, none, none, .build [(.int .i64 (.ofNat 0)), (.int .i64 (.ofNat 0)), (.int .i64 (.ofNat 0)), (.int .i64 (.ofNat 0)), (.str 0 0)] [(0, 1, (.c (.int .i64 (.ofNat 5)))), (1, 1, (.c (.int .i64 (.ofNat 5)))), (2, 1, (.c (.int .i64 (.ofNat 6)))), (3, 1, (.c (.int .i64 (.ofNat 5)))), (4, 1, (.c (.str 1 43)))]⟩,
           ⟨none, none, none, .store 5 (.t kk2) (.t kk27)⟩])
          .ret)
          (.seq (.region false [⟨some kk29, none, none, .bin .eql (.t kk3) (.c (.int .i64 (.ofNat 4)))⟩,
           ⟨some kk28, none, none, .mov (.t kk29)⟩])
          (.cond (.t kk28)
           (.seq (.region false [⟨some kk30, none, none, .build [(.int .i64 (.ofNat 0)), (.int .i64 (.ofNat 0)), (.int .i64 (.ofNat 0)), (.int .i64 (.ofNat 0)), (.str 0 0)] [(0, 1, (.c (.int .i64 (.ofNat 5)))), (1, 1, (.c (.int .i64 (.ofNat 5)))), (2, 1, (.c (.int .i64 (.ofNat 6)))), (3, 1, (.c (.int .i64 (.ofNat 5)))), (4, 1, (.c (.str 1 45)))]⟩,
            ⟨none, none, none, .store 5 (.t kk2) (.t kk30)⟩])
           .ret)
           (.seq (.region false [⟨some kk32, none, none, .bin .eql (.t kk3) (.c (.int .i64 (.ofNat 5)))⟩,
            ⟨some kk31, none, none, .mov (.t kk32)⟩])
           (.cond (.t kk31)
            (.seq (.region false [⟨some kk33, none, none, .build [(.int .i64 (.ofNat 0)), (.int .i64 (.ofNat 0)), (.int .i64 (.ofNat 0)), (.int .i64 (.ofNat 0)), (.str 0 0)] [(0, 1, (.c (.int .i64 (.ofNat 6)))), (1, 1, (.c (.int .i64 (.ofNat 6)))), (2, 1, (.c (.int .i64 (.ofNat 7)))), (3, 1, (.c (.int .i64 (.ofNat 5)))), (4, 1, (.c (.str 1 42)))]⟩,
             ⟨none, none, none, .store 5 (.t kk2) (.t kk33)⟩])
            .ret)
            .skip))))))))))))))))))))))
 (.seq (.region false [⟨some kk34, none, none, .build [(.int .i64 (.ofNat 0)), (.int .i64 (.ofNat 0)), (.int .i64 (.ofNat 0)), (.int .i64 (.ofNat 0)), (.str 0 0)] [(0, 1, (.c (.int .i64 (.ofNat 7))))]⟩,
  ⟨none, none, none, .store 5 (.t kk2) (.t kk34)⟩])
 .ret))) }
theorem fn96 : fnOf Tryz.prog Tryz.f96 = some i96 := by kernel_rfl
/-- annalist.datefmt.FormatDay -/
noncomputable def i97 : IFn := { nt := 28, ps := [kk0], res := [.tmp kk2], body :=
 (.seq (.region false [⟨some kk2, none, none, .mov (.c (.str 0 0))⟩])
 (.seq (.seq (.region false [⟨some kk7, none, none, .mov (.t kk0)⟩,
  ⟨some kk8, none, none, .bin .eql (.t kk7) (.c (.int .i64 (.ofNat 1000000)))⟩])
 (.cond (.t kk8)
  (.seq (.region false [⟨some kk2, none, none, .mov (.c (.str 7 32199706527559526))⟩])
  .ret)
  .skip))
 (.seq (.region false [⟨some kk10, none, none, .mov (.t kk0)⟩,
  ⟨some kk11, none, none, .call 124 [(.t kk10)]⟩,
  ⟨some kk9, none, none, .mov (.t kk11)⟩,
  ⟨some kk12, none, none, .extr (.t kk9) 0⟩,
  ⟨some kk13, none, none, .extr (.t kk9) 1⟩,
  ⟨some kk14, none, none, .extr (.t kk9) 2⟩,
  ⟨some kk15, none, none, .extr (.t kk9) 3⟩,
  ⟨some kk3, none, none, .mov (.t kk12)⟩,
  ⟨some kk4, none, none, .mov (.t kk13)⟩,
  ⟨some kk5, none, none, .mov (.t kk14)⟩,
  ⟨some kk6, none, none, .mov (.t kk15)⟩])
 (.seq (.seq (.region false [⟨some kk16, none, none, .mov (.t kk6)⟩,
  ⟨some kk17, none, none, .un .not (.t kk16)⟩])
 (.cond (.t kk17)
  (.seq (.region false [⟨some kk2, none, none, .mov (.c (.str 0 0))⟩])
  .ret)
  .skip))
 (.seq (.region false [⟨some kk18, none, none, .mov (.t kk3)⟩,
  ⟨some kk19, none, none, .call 125 [(.t kk18), (.c (.int .i64 (.ofNat 4)))]⟩,
  ⟨some kk20, none, none, .bin .add (.t kk19) (.c (.str 1 45))⟩,
  ⟨some kk21, none, none, .mov (.t kk4)⟩,
  ⟨some kk22, none, none, .call 125 [(.t kk21), (.c (.int .i64 (.ofNat 2)))]⟩,
  ⟨some kk23, none, none, .bin .add (.t kk20) (.t kk22)⟩,
  ⟨some kk24, none, none, .bin .add (.t kk23) (.c (.str 1 45))⟩,
  ⟨some kk25, none, none, .mov (.t kk5)⟩,
  ⟨some kk26, none, none, .call 125 [(.t kk25), (.c (.int .i64 (.ofNat 2)))]⟩,
  ⟨some kk27, none, none, .bin .add (.t kk24) (.t kk26)⟩,
  ⟨some kk2, none, none, .mov (.t kk27)⟩])
 .ret))))) }
theorem fn97 : fnOf Tryz.prog Tryz.f97 = some i97 := by kernel_rfl
/-- strconv.Itoa -/
noncomputable def i98 : IFn := { nt := 5, ps := [kk0], res := [.tmp kk2], body :=
 (.seq (.region false [⟨some kk2, none, none, .mov (.c (.str 0 0))⟩])
 (.seq (.region false [⟨some kk3, none, none, .mov (.t kk0)⟩,
  ⟨some kk4, none, none, .call 126 [(.t kk3)]⟩,
  ⟨some kk2, none, none, .mov (.t kk4)⟩])
 .ret)) }
theorem fn98 : fnOf Tryz.prog Tryz.f98 = some i98 := by kernel_rfl
/-- (*strings.Builder).copyCheck -/
noncomputable def i99 : IFn := { nt := 20, ps := [kk0], res := [], body :=
 (.seq (.region false [⟨some kk2, none, none, .mov (.t kk0)⟩,
  ⟨some kk3, none, none, .nilck (.t kk2)⟩,
  ⟨some kk4, none, none, .offs (.t kk3) 0⟩,
  ⟨some kk5, none, none, .load 1 false (.t kk4)⟩,
  ⟨some kk6, none, none, .eqv .ptr false (.t kk5) (.c .nilptr)⟩])
 (.cond (.t kk6)
  (.region false [⟨some kk7, none, none, .mov (.t kk0)⟩,
   ⟨some kk8, none, none, .mov (.t kk0)⟩,
   ⟨some kk9, none, none, .uconv 124 2 (.t kk8)⟩,
   ⟨some kk10, none, none, .call 127 [(.t kk9)]⟩,
   ⟨some kk11, none, none, .uconv 124 2 (.t kk10)⟩,
   ⟨some kk12, none, none, .nilck (.t kk7)⟩,
   ⟨some kk13, none, none, .offs (.t kk12) 0⟩,
   ⟨none, none, none, .store 1 (.t kk13) (.t kk11)⟩])
  (.seq (.region false [⟨some kk14, none, none, .mov (.t kk0)⟩,
   ⟨some kk15, none, none, .nilck (.t kk14)⟩,
   ⟨some kk16, none, none, .offs (.t kk15) 0⟩,
   ⟨some kk17, none, none, .load 1 false (.t kk16)⟩,
   ⟨some kk18, none, none, .mov (.t kk0)⟩,
   ⟨some kk19, none, none, .eqv .ptr true (.t kk17) (.t kk18)⟩])
  (.cond (.t kk19)
   (.region false [⟨none, none, none, .callv (.c .nilptr) []⟩])
   .skip)))) }
theorem fn99 : fnOf Tryz.prog Tryz.f99 = some i99 := by kernel_rfl
/-- strings.Replace -/
noncomputable def i100 : IFn := { nt := 104, ps := [kk0, kk1, kk2, kk3], res := [.tmp kk8], body :=
 (.seq (.region false [⟨some kk8, none, none, .mov (.c (.str 0 0))⟩])
 (.seq (.seq (.region false [⟨some kk16, none, none, .mov (.t kk1)⟩,
  ⟨some kk17, none, none, .mov (.t kk2)⟩,
  ⟨some kk18, none, none, .bin .eql (.t kk16) (.t kk17)⟩,
  ⟨some kk19, none, none, .mov (.t kk18)⟩,
  ⟨some kk20, some (kk19, false), none, .mov (.t kk3)⟩,
  ⟨some kk21, some (kk19, false), none, .bin .eql (.t kk20) (.c (.int .i64 (.ofNat 0)))⟩,
  ⟨some kk22, none, none, .pick (.t kk19) (.c (.bool true)) (.t kk21)⟩])
 (.cond (.t kk22)
  (.seq (.region false [⟨some kk23, none, none, .mov (.t kk0)⟩,
   ⟨some kk8, none, none, .mov (.t kk23)⟩])
  .ret)
  .skip))
 (.seq (.seq (.region false [⟨some kk24, none, none, .mov (.t kk0)⟩,
  ⟨some kk25, none, none, .mov (.t kk1)⟩,
  ⟨some kk26, none, none, .call 128 [(.t kk24), (.t kk25)]⟩,
  ⟨some kk9, none, none, .mov (.t kk26)⟩])
 (.seq (.region false [⟨some kk27, none, none, .mov (.t kk9)⟩,
  ⟨some kk28, none, none, .bin .eql (.t kk27) (.c (.int .i64 (.ofNat 0)))⟩])
 (.cond (.t kk28)
  (.seq (.region false [⟨some kk29, none, none, .mov (.t kk0)⟩,
   ⟨some kk8, none, none, .mov (.t kk29)⟩])
  .ret)
  (.seq (.region false [⟨some kk30, none, none, .mov (.t kk3)⟩,
   ⟨some kk31, none, none, .bin .lss (.t kk30) (.c (.int .i64 (.ofNat 0)))⟩,
   ⟨some kk32, none, none, .mov (.t kk31)⟩,
   ⟨some kk33, some (kk32, false), none, .mov (.t kk9)⟩,
   ⟨some kk34, some (kk32, false), none, .mov (.t kk3)⟩,
   ⟨some kk35, some (kk32, false), none, .bin .lss (.t kk33) (.t kk34)⟩,
   ⟨some kk36, none, none, .pick (.t kk32) (.c (.bool true)) (.t kk35)⟩])
  (.cond (.t kk36)
   (.region false [⟨some kk37, none, none, .mov (.t kk9)⟩,
    ⟨some kk3, none, none, .mov (.t kk37)⟩])
   .skip)))))
 (.seq (.region false [⟨some kk10, none, none, .boxz 124 2 32 [.nilptr, .nilslice]⟩])
 (.seq (.region false [⟨some kk38, none, none, .mov (.t kk0)⟩,
  ⟨some kk39, none, none, .lenS (.t kk38)⟩,
  ⟨some kk40, none, none, .mov (.t kk3)⟩,
  ⟨some kk41, none, none, .mov (.t kk2)⟩,
  ⟨some kk42, none, none, .lenS (.t kk41)⟩,
  ⟨some kk43, none, none, .mov (.t kk1)⟩,
  ⟨some kk44, none, none, .lenS (.t kk43)⟩,
  ⟨some kk45, none, none, .bin .sub (.t kk42) (.t kk44)⟩,
  ⟨some kk46, none, none, .bin .mul (.t kk40) (.t kk45)⟩,
  ⟨some kk47, none, none, .bin .add (.t kk39) (.t kk46)⟩,
  ⟨some kk48, none, none, .call 129 [(.t kk10), (.t kk47)]⟩])
 (.seq (.region false [⟨some kk11, none, none, .mov (.c (.int .i64 (.ofNat 0)))⟩])
 (.seq (.seq (.region false [⟨some kk49, none, none, .mov (.t kk1)⟩,
  ⟨some kk50, none, none, .lenS (.t kk49)⟩,
  ⟨some kk51, none, none, .bin .gtr (.t kk50) (.c (.int .i64 (.ofNat 0)))⟩])
 (.cond (.t kk51)
  (.seq (.region false [⟨some kk52, none, none, .mov (.t kk3)⟩,
   ⟨some kk53, none, none, .mov (.c (.int .i64 (.ofNat 0)))⟩])
  (.block 0 (.loop (.seq (.region false [⟨some kk54, none, none, .bin .lss (.t kk53) (.t kk52)⟩])
    (.seq (.cond (.t kk54)
     .skip
     (.exit 0))
    (.seq (.block 1 (.seq (.region false [⟨some kk55, none, none, .mov (.t kk11)⟩,
      ⟨some kk56, none, none, .mov (.t kk0)⟩,
      ⟨some kk57, none, none, .mov (.t kk11)⟩,
      ⟨some kk58, none, none, .slStr (.t kk56) (some (.t kk57)) none⟩,
      ⟨some kk59, none, none, .mov (.t kk1)⟩,
      ⟨some kk60, none, none, .call 130 [(.t kk58), (.t kk59)]⟩,
      ⟨some kk61, none, none, .bin .add (.t kk55) (.t kk60)⟩,
      ⟨some kk12, none, none, .mov (.t kk61)⟩])
     (.seq (.region false [⟨some kk62, none, none, .mov (.t kk0)⟩,
      ⟨some kk63, none, none, .mov (.t kk11)⟩,
      ⟨some kk64, none, none, .mov (.t kk12)⟩,
      ⟨some kk65, none, none, .slStr (.t kk62) (some (.t kk63)) (some (.t kk64))⟩,
      ⟨some kk66, none, none, .call 69 [(.t kk10), (.t kk65)]⟩])
     (.seq (.region false [⟨some kk67, none, none, .mov (.t kk2)⟩,
      ⟨some kk68, none, none, .call 69 [(.t kk10), (.t kk67)]⟩])
     (.region false [⟨some kk69, none, none, .mov (.t kk12)⟩,
      ⟨some kk70, none, none, .mov (.t kk1)⟩,
      ⟨some kk71, none, none, .lenS (.t kk70)⟩,
      ⟨some kk72, none, none, .bin .add (.t kk69) (.t kk71)⟩,
      ⟨some kk11, none, none, .mov (.t kk72)⟩])))))
    (.region false [⟨some kk73, none, none, .bin .add (.t kk53) (.c (.int .i64 (.ofNat 1)))⟩,
     ⟨some kk53, none, none, .mov (.t kk73)⟩])))))))
  (.seq (.region false [⟨some kk74, none, none, .mov (.t kk2)⟩,
   ⟨some kk75, none, none, .call 69 [(.t kk10), (.t kk74)]⟩])
  (.seq (.region false [⟨some kk76, none, none, .mov (.t kk3)⟩,
   ⟨some kk77, none, none, .bin .sub (.t kk76) (.c (.int .i64 (.ofNat 1)))⟩,
   ⟨some kk78, none, none, .mov (.c (.int .i64 (.ofNat 0)))⟩])
  (.block 2 (.loop (.seq (.region false [⟨some kk79, none, none, .bin .lss (.t kk78) (.t kk77)⟩])
    (.seq (.cond (.t kk79)
     .skip
     (.exit 2))
    (.seq (.block 3 (.seq (.region false [⟨some kk81, none, none, .mov (.t kk0)⟩,
      ⟨some kk82, none, none, .mov (.t kk11)⟩,
      ⟨some kk83, none, none, .slStr (.t kk81) (some (.t kk82)) none⟩,
      ⟨some kk84, none, none, .call 131 [(.t kk83)]⟩,
      ⟨some kk80, none, none, .mov (.t kk84)⟩,
      ⟨some kk85, none, none, .extr (.t kk80) 0⟩,
      ⟨some kk86, none, none, .extr (.t kk80) 1⟩,
      ⟨some kk13, none, none, .mov (.t kk85)⟩,
      ⟨some kk14, none, none, .mov (.t kk86)⟩])
     (.seq (.region false [⟨some kk87, none, none, .mov (.t kk11)⟩,
      ⟨some kk88, none, none, .mov (.t kk14)⟩,
      ⟨some kk89, none, none, .bin .add (.t kk87) (.t kk88)⟩,
      ⟨some kk15, none, none, .mov (.t kk89)⟩])
     (.seq (.region false [⟨some kk90, none, none, .mov (.t kk0)⟩,
      ⟨some kk91, none, none, .mov (.t kk11)⟩,
      ⟨some kk92, none, none, .mov (.t kk15)⟩,
      ⟨some kk93, none, none, .slStr (.t kk90) (some (.t kk91)) (some (.t kk92))⟩,
      ⟨some kk94, none, none, .call 69 [(.t kk10), (.t kk93)]⟩])
     (.seq (.region false [⟨some kk95, none, none, .mov (.t kk2)⟩,
      ⟨some kk96, none, none, .call 69 [(.t kk10), (.t kk95)]⟩])
     (.region false [⟨some kk97, none, none, .mov (.t kk15)⟩,
      ⟨some kk11, none, none, .mov (.t kk97)⟩]))))))
    (.region false [⟨some kk98, none, none, .bin .add (.t kk78) (.c (.int .i64 (.ofNat 1)))⟩,
     ⟨some kk78, none, none, .mov (.t kk98)⟩]))))))))))
 (.seq (.region false [⟨some kk99, none, none, .mov (.t kk0)⟩,
  ⟨some kk100, none, none, .mov (.t kk11)⟩,
  ⟨some kk101, none, none, .slStr (.t kk99) (some (.t kk100)) none⟩,
  ⟨some kk102, none, none, .call 69 [(.t kk10), (.t kk101)]⟩])
 (.seq (.region false [⟨some kk103, none, none, .call 71 [(.t kk10)]⟩,
  ⟨some kk8, none, none, .mov (.t kk103)⟩])
 .ret))))))))) }
theorem fn100 : fnOf Tryz.prog Tryz.f100 = some i100 := by kernel_rfl
/-- (*annalist.parser.printer).item -/
noncomputable def i101 : IFn := { nt := 55, ps := [kk0, kk1, kk2], res := [], body :=
 (.seq (.region false [⟨some kk4, none, none, .box 96 2 48 (.t kk1)⟩,
  ⟨some kk5, none, none, .box 138 3 32 (.t kk2)⟩])
 (.seq (.seq (.region false [⟨some kk6, none, none, .offs (.t kk5) 0⟩,
  ⟨some kk7, none, none, .load 1 false (.t kk6)⟩])
 (.block 0 (.seq (.region false [⟨some kk12, none, none, .bin .eql (.t kk7) (.c (.int .i64 (.ofNat 0)))⟩,
   ⟨some kk11, none, none, .mov (.t kk12)⟩])
  (.cond (.t kk11)
   (.region false [⟨some kk13, none, none, .mov (.t kk0)⟩,
    ⟨some kk14, none, none, .load 2 true (.t kk4)⟩,
    ⟨some kk15, none, none, .offs (.t kk5) 1⟩,
    ⟨some kk16, none, none, .load 1 false (.t kk15)⟩,
    ⟨some kk17, none, none, .call 49 [(.t kk13), (.t kk14), (.t kk16), (.c (.int .i64 (.ofNat 1)))]⟩])
   (.seq (.region false [⟨some kk19, none, none, .bin .eql (.t kk7) (.c (.int .i64 (.ofNat 1)))⟩,
    ⟨some kk18, none, none, .mov (.t kk19)⟩])
   (.cond (.t kk18)
    (.seq (.region false [⟨some kk20, none, none, .mov (.t kk0)⟩,
     ⟨some kk21, none, none, .buildSl 9 1 16 1 [(.str 0 0)] [(0, (.c (.str 5 362091466563)))]⟩,
     ⟨some kk22, none, none, .call 42 [(.t kk20), (.t kk21)]⟩])
    (.seq (.region false [⟨some kk23, none, none, .mov (.t kk0)⟩,
     ⟨some kk24, none, none, .call 44 [(.t kk23), (.c (.str 1 40))]⟩])
    (.seq (.region false [⟨some kk25, none, none, .mov (.t kk0)⟩,
     ⟨some kk26, none, none, .call 44 [(.t kk25), (.c (.str 1 42))]⟩])
    (.region false [⟨some kk27, none, none, .mov (.t kk0)⟩,
     ⟨some kk28, none, none, .call 44 [(.t kk27), (.c (.str 1 41))]⟩]))))
    (.seq (.seq (.region false [⟨some kk30, none, none, .bin .eql (.t kk7) (.c (.int .i64 (.ofNat 2)))⟩,
     ⟨some kk29, none, none, .mov (.t kk30)⟩])
    (.cond (.t kk29)
     .skip
     (.seq (.region false [⟨some kk31, none, none, .bin .eql (.t kk7) (.c (.int .i64 (.ofNat 3)))⟩,
      ⟨some kk29, none, none, .mov (.t kk31)⟩])
     (.cond (.t kk29)
      .skip
      (.region false [⟨some kk32, none, none, .bin .eql (.t kk7) (.c (.int .i64 (.ofNat 4)))⟩,
       ⟨some kk29, none, none, .mov (.t kk32)⟩])))))
    (.cond (.t kk29)
     (.seq (.region false [⟨some kk33, none, none, .mov (.t kk0)⟩,
      ⟨some kk34, none, none, .buildSl 9 1 16 3 [(.str 0 0)] [(0, (.c (.str 3 5068115))), (1, (.c (.str 3 5130573))), (2, (.c (.str 3 5783885)))]⟩,
      ⟨some kk35, none, none, .offs (.t kk5) 0⟩,
      ⟨some kk36, none, none, .load 1 false (.t kk35)⟩,
      ⟨some kk37, none, none, .bin .sub (.t kk36) (.c (.int .i64 (.ofNat 2)))⟩,
      ⟨some kk38, none, none, .idxSl 1 (.t kk34) (.t kk37)⟩,
      ⟨some kk39, none, none, .load 1 false (.t kk38)⟩,
      ⟨some kk40, none, none, .buildSl 9 1 16 1 [(.str 0 0)] [(0, (.t kk39))]⟩,
      ⟨some kk41, none, none, .call 42 [(.t kk33), (.t kk40)]⟩])
     (.seq (.region false [⟨some kk42, none, none, .mov (.t kk0)⟩,
      ⟨some kk43, none, none, .call 44 [(.t kk42), (.c (.str 1 40))]⟩])
     (.seq (.region false [⟨some kk44, none, none, .mov (.t kk0)⟩,
      ⟨some kk45, none, none, .load 2 true (.t kk4)⟩,
      ⟨some kk46, none, none, .offs (.t kk5) 1⟩,
      ⟨some kk47, none, none, .load 1 false (.t kk46)⟩,
      ⟨some kk48, none, none, .call 49 [(.t kk44), (.t kk45), (.t kk47), (.c (.int .i64 (.ofNat 1)))]⟩])
     (.region false [⟨some kk49, none, none, .mov (.t kk0)⟩,
      ⟨some kk50, none, none, .call 44 [(.t kk49), (.c (.str 1 41))]⟩]))))
     (.region false [⟨some kk8, none, none, .mov (.t kk0)⟩,
      ⟨some kk9, none, none, .nilck (.t kk8)⟩,
      ⟨some kk10, none, none, .offs (.t kk9) 1⟩,
      ⟨none, none, none, .store 1 (.t kk10) (.c (.bool true))⟩])))))))))
 (.region false [⟨some kk51, none, none, .mov (.t kk0)⟩,
  ⟨some kk52, none, none, .offs (.t kk5) 2⟩,
  ⟨some kk53, none, none, .load 1 false (.t kk52)⟩,
  ⟨some kk54, none, none, .call 132 [(.t kk51), (.t kk53)]⟩]))) }
theorem fn101 : fnOf Tryz.prog Tryz.f101 = some i101 := by kernel_rfl
/-- (*annalist.parser.printer).from -/
noncomputable def i102 : IFn := { nt := 51, ps := [kk0, kk1, kk2], res := [], body :=
 (.seq (.region false [⟨some kk4, none, none, .box 96 2 48 (.t kk1)⟩])
 (.seq (.region false [⟨some kk8, none, none, .mov (.t kk0)⟩,
  ⟨some kk9, none, none, .buildSl 9 1 16 1 [(.str 0 0)] [(0, (.c (.str 4 1297044038)))]⟩,
  ⟨some kk10, none, none, .call 42 [(.t kk8), (.t kk9)]⟩])
 (.seq (.region false [⟨some kk11, none, none, .mov (.t kk2)⟩,
  ⟨some kk12, none, none, .len (.t kk11)⟩,
  ⟨some kk13, none, none, .mov (.c (.int .i64 (.ofNat 0)))⟩])
 (.block 0 (.loop (.seq (.region false [⟨some kk14, none, none, .bin .lss (.t kk13) (.t kk12)⟩])
   (.seq (.cond (.t kk14)
    .skip
    (.exit 0))
   (.seq (.block 1 (.seq (.region false [⟨some kk15, none, none, .mov (.t kk13)⟩,
     ⟨some kk16, none, none, .idxSl 4 (.t kk11) (.t kk13)⟩,
     ⟨some kk17, none, none, .load 4 true (.t kk16)⟩,
     ⟨some kk7, none, none, .boxz 157 4 48 [(.bool false), (.str 0 0), (.str 0 0), (.int .i64 (.ofNat 0))]⟩,
     ⟨some kk6, none, none, .mov (.t kk15)⟩,
     ⟨none, none, none, .store 4 (.t kk7) (.t kk17)⟩])
    (.seq (.seq (.region false [⟨some kk18, none, none, .mov (.t kk6)⟩,
     ⟨some kk19, none, none, .bin .gtr (.t kk18) (.c (.int .i64 (.ofNat 0)))⟩,
     ⟨some kk20, none, none, .mov (.t kk19)⟩,
     ⟨some kk21, some (kk20, true), none, .offs (.t kk7) 0⟩,
     ⟨some kk22, some (kk20, true), none, .load 1 false (.t kk21)⟩,
     ⟨some kk23, none, none, .pick (.t kk20) (.t kk22) (.c (.bool false))⟩])
    (.cond (.t kk23)
     (.region false [⟨some kk24, none, none, .mov (.t kk0)⟩,
      ⟨some kk25, none, none, .buildSl 9 1 16 1 [(.str 0 0)] [(0, (.c (.str 4 1413891404)))]⟩,
      ⟨some kk26, none, none, .call 42 [(.t kk24), (.t kk25)]⟩])
     .skip))
    (.seq (.seq (.region false [⟨some kk27, none, none, .mov (.t kk6)⟩,
     ⟨some kk28, none, none, .bin .gtr (.t kk27) (.c (.int .i64 (.ofNat 0)))⟩])
    (.cond (.t kk28)
     (.region false [⟨some kk29, none, none, .mov (.t kk0)⟩,
      ⟨some kk30, none, none, .buildSl 9 1 16 1 [(.str 0 0)] [(0, (.c (.str 4 1313427274)))]⟩,
      ⟨some kk31, none, none, .call 42 [(.t kk29), (.t kk30)]⟩])
     .skip))
    (.seq (.region false [⟨some kk32, none, none, .mov (.t kk0)⟩,
     ⟨some kk33, none, none, .offs (.t kk7) 1⟩,
     ⟨some kk34, none, none, .load 1 false (.t kk33)⟩,
     ⟨some kk35, none, none, .call 43 [(.t kk32), (.t kk34)]⟩])
    (.seq (.region false [⟨some kk36, none, none, .mov (.t kk0)⟩,
     ⟨some kk37, none, none, .offs (.t kk7) 2⟩,
     ⟨some kk38, none, none, .load 1 false (.t kk37)⟩,
     ⟨some kk39, none, none, .call 132 [(.t kk36), (.t kk38)]⟩])
    (.seq (.region false [⟨some kk40, none, none, .mov (.t kk6)⟩,
     ⟨some kk41, none, none, .bin .gtr (.t kk40) (.c (.int .i64 (.ofNat 0)))⟩])
    (.cond (.t kk41)
     (.seq (.region false [⟨some kk42, none, none, .mov (.t kk0)⟩,
      ⟨some kk43, none, none, .buildSl 9 1 16 1 [(.str 0 0)] [(0, (.c (.str 2 20047)))]⟩,
      ⟨some kk44, none, none, .call 42 [(.t kk42), (.t kk43)]⟩])
     (.region false [⟨some kk45, none, none, .mov (.t kk0)⟩,
      ⟨some kk46, none, none, .load 2 true (.t kk4)⟩,
      ⟨some kk47, none, none, .offs (.t kk7) 3⟩,
      ⟨some kk48, none, none, .load 1 false (.t kk47)⟩,
      ⟨some kk49, none, none, .call 49 [(.t kk45), (.t kk46), (.t kk48), (.c (.int .i64 (.ofNat 1)))]⟩]))
     .skip))))))))
   (.region false [⟨some kk50, none, none, .bin .add (.t kk13) (.c (.int .i64 (.ofNat 1)))⟩,
    ⟨some kk13, none, none, .mov (.t kk50)⟩]))))))))) }
theorem fn102 : fnOf Tryz.prog Tryz.f102 = some i102 := by kernel_rfl
/-- slices.Equal[[]annalist.api.SelectItem,annalist.api.SelectItem] -/
noncomputable def i103 : IFn := { nt := 26, ps := [kk0, kk1], res := [.tmp kk4], body :=
 (.seq (.region false [⟨some kk4, none, none, .mov (.c (.bool false))⟩])
 (.seq (.seq (.region false [⟨some kk6, none, none, .mov (.t kk0)⟩,
  ⟨some kk7, none, none, .len (.t kk6)⟩,
  ⟨some kk8, none, none, .mov (.t kk1)⟩,
  ⟨some kk9, none, none, .len (.t kk8)⟩,
  ⟨some kk10, none, none, .bin .neq (.t kk7) (.t kk9)⟩])
 (.cond (.t kk10)
  (.seq (.region false [⟨some kk4, none, none, .mov (.c (.bool false))⟩])
  .ret)
  .skip))
 (.seq (.seq (.region false [⟨some kk11, none, none, .mov (.t kk0)⟩,
  ⟨some kk12, none, none, .len (.t kk11)⟩,
  ⟨some kk13, none, none, .mov (.c (.int .i64 (.ofNat 0)))⟩])
 (.block 0 (.loop (.seq (.region false [⟨some kk14, none, none, .bin .lss (.t kk13) (.t kk12)⟩])
   (.seq (.cond (.t kk14)
    .skip
    (.exit 0))
   (.seq (.block 1 (.seq (.region false [⟨some kk15, none, none, .mov (.t kk13)⟩,
     ⟨some kk5, none, none, .mov (.t kk15)⟩])
    (.seq (.region true [⟨some kk16, none, none, .mov (.t kk0)⟩,
     ⟨some kk17, none, none, .mov (.t kk5)⟩,
     ⟨some kk18, none, none, .idxSl 3 (.t kk16) (.t kk17)⟩,
     ⟨some kk19, none, some [], .load 3 true (.t kk18)⟩,
     ⟨some kk20, none, none, .mov (.t kk1)⟩,
     ⟨some kk21, none, none, .mov (.t kk5)⟩,
     ⟨some kk22, none, none, .idxSl 3 (.t kk20) (.t kk21)⟩,
     ⟨some kk23, none, some [0], .load 3 true (.t kk22)⟩,
     ⟨some kk24, none, none, .eqv (.agg [3, 3, 101]) true (.t kk19) (.t kk23)⟩])
    (.cond (.t kk24)
     (.seq (.region false [⟨some kk4, none, none, .mov (.c (.bool false))⟩])
     .ret)
     .skip))))
   (.region false [⟨some kk25, none, none, .bin .add (.t kk13) (.c (.int .i64 (.ofNat 1)))⟩,
    ⟨some kk13, none, none, .mov (.t kk25)⟩])))))))
 (.seq (.region false [⟨some kk4, none, none, .mov (.c (.bool true))⟩])
 .ret)))) }
theorem fn103 : fnOf Tryz.prog Tryz.f103 = some i103 := by kernel_rfl
/-- slices.Equal[[]annalist.api.TableRef,annalist.api.TableRef] -/
noncomputable def i104 : IFn := { nt := 26, ps := [kk0, kk1], res := [.tmp kk4], body :=
 (.seq (.region false [⟨some kk4, none, none, .mov (.c (.bool false))⟩])
 (.seq (.seq (.region false [⟨some kk6, none, none, .mov (.t kk0)⟩,
  ⟨some kk7, none, none, .len (.t kk6)⟩,
  ⟨some kk8, none, none, .mov (.t kk1)⟩,
  ⟨some kk9, none, none, .len (.t kk8)⟩,
  ⟨some kk10, none, none, .bin .neq (.t kk7) (.t kk9)⟩])
 (.cond (.t kk10)
  (.seq (.region false [⟨some kk4, none, none, .mov (.c (.bool false))⟩])
  .ret)
  .skip))
 (.seq (.seq (.region false [⟨some kk11, none, none, .mov (.t kk0)⟩,
  ⟨some kk12, none, none, .len (.t kk11)⟩,
  ⟨some kk13, none, none, .mov (.c (.int .i64 (.ofNat 0)))⟩])
 (.block 0 (.loop (.seq (.region false [⟨some kk14, none, none, .bin .lss (.t kk13) (.t kk12)⟩])
   (.seq (.cond (.t kk14)
    .skip
    (.exit 0))
   (.seq (.block 1 (.seq (.region false [⟨some kk15, none, none, .mov (.t kk13)⟩,
     ⟨some kk5, none, none, .mov (.t kk15)⟩])
    (.seq (.region true [⟨some kk16, none, none, .mov (.t kk0)⟩,
     ⟨some kk17, none, none, .mov (.t kk5)⟩,
     ⟨some kk18, none, none, .idxSl 4 (.t kk16) (.t kk17)⟩,
     ⟨some kk19, none, some [], .load 4 true (.t kk18)⟩,
     ⟨some kk20, none, none, .mov (.t kk1)⟩,
     ⟨some kk21, none, none, .mov (.t kk5)⟩,
     ⟨some kk22, none, none, .idxSl 4 (.t kk20) (.t kk21)⟩,
     ⟨some kk23, none, some [0], .load 4 true (.t kk22)⟩,
     ⟨some kk24, none, none, .eqv (.agg [100, 101, 101, 3]) true (.t kk19) (.t kk23)⟩])
    (.cond (.t kk24)
     (.seq (.region false [⟨some kk4, none, none, .mov (.c (.bool false))⟩])
     .ret)
     .skip))))
   (.region false [⟨some kk25, none, none, .bin .add (.t kk13) (.c (.int .i64 (.ofNat 1)))⟩,
    ⟨some kk13, none, none, .mov (.t kk25)⟩])))))))
 (.seq (.region false [⟨some kk4, none, none, .mov (.c (.bool true))⟩])
 .ret)))) }
theorem fn104 : fnOf Tryz.prog Tryz.f104 = some i104 := by kernel_rfl
/-- (*annalist.parser.parser).mustSign -/
noncomputable def i106 : IFn := { nt := 10, ps := [kk0, kk1], res := [], body :=
 (.seq (.region false [⟨some kk4, none, none, .mov (.t kk0)⟩,
  ⟨some kk5, none, none, .mov (.t kk1)⟩,
  ⟨some kk6, none, none, .call 77 [(.t kk4), (.t kk5)]⟩,
  ⟨some kk7, none, none, .un .not (.t kk6)⟩])
 (.cond (.t kk7)
  (.region false [⟨some kk8, none, none, .mov (.t kk0)⟩,
   ⟨some kk9, none, none, .call 36 [(.t kk8), (.c (.int .i64 (.ofNat 5)))]⟩])
  .skip)) }
theorem fn106 : fnOf Tryz.prog Tryz.f106 = some i106 := by kernel_rfl
/-- (*annalist.parser.parser).expr -/
noncomputable def i107 : IFn := { nt := 17, ps := [kk0], res := [.tmp kk2], body :=
 (.seq (.region false [⟨some kk2, none, none, .mov (.c (.int .i64 (.ofNat 0)))⟩])
 (.seq (.region false [⟨some kk5, none, none, .mov (.t kk0)⟩,
  ⟨some kk6, none, none, .call 133 [(.t kk5)]⟩,
  ⟨some kk3, none, none, .mov (.t kk6)⟩])
 (.seq (.block 0 (.loop (.seq (.seq (.region false [⟨some kk7, none, none, .mov (.t kk0)⟩,
    ⟨some kk8, none, none, .call 38 [(.t kk7), (.c (.str 2 21071))]⟩])
   (.cond (.t kk8)
    .skip
    (.exit 0)))
   (.block 1 (.seq (.region false [⟨some kk9, none, none, .mov (.t kk0)⟩,
     ⟨some kk10, none, none, .call 133 [(.t kk9)]⟩,
     ⟨some kk4, none, none, .mov (.t kk10)⟩])
    (.region false [⟨some kk11, none, none, .mov (.t kk0)⟩,
     ⟨some kk12, none, none, .mov (.t kk3)⟩,
     ⟨some kk13, none, none, .mov (.t kk4)⟩,
     ⟨some kk14, none, none, .build [(.int .i64 (.ofNat 0)), (.int .i64 (.ofNat 0)), (.int .i64 (.ofNat 0)), (.str 0 0), (.str 0 0), (.int .i64 (.ofNat 0)), (.int .i64 (.ofNat 0)), (.str 0 0)] [(0, 1, (.c (.int .i64 (.ofNat 10)))), (1, 1, (.t kk12)), (2, 1, (.t kk13))]⟩,
     ⟨some kk15, none, none, .call 134 [(.t kk11), (.t kk14)]⟩,
     ⟨some kk3, none, none, .mov (.t kk15)⟩]))))))
 (.seq (.region false [⟨some kk16, none, none, .mov (.t kk3)⟩,
  ⟨some kk2, none, none, .mov (.t kk16)⟩])
 .ret)))) }
theorem fn107 : fnOf Tryz.prog Tryz.f107 = some i107 := by kernel_rfl
/-- (*annalist.parser.parser).alias -/
noncomputable def i108 : IFn := { nt := 40, ps := [kk0, kk1], res := [.tmp kk4], body :=
 (.seq (.region false [⟨some kk4, none, none, .mov (.c (.str 0 0))⟩])
 (.seq (.seq (.region false [⟨some kk6, none, none, .mov (.t kk0)⟩,
  ⟨some kk7, none, none, .call 111 [(.t kk6), (.c (.int .i64 (.ofNat 1))), (.c (.str 2 21313))]⟩,
  ⟨some kk8, none, none, .un .not (.t kk7)⟩])
 (.cond (.t kk8)
  (.seq (.region false [⟨some kk4, none, none, .mov (.c (.str 0 0))⟩])
  .ret)
  .skip))
 (.seq (.seq (.region true [⟨some kk9, none, none, .mov (.t kk0)⟩,
  ⟨some kk10, none, none, .nilck (.t kk9)⟩,
  ⟨some kk11, none, none, .offs (.t kk10) 0⟩,
  ⟨some kk12, none, some [], .load 1 false (.t kk11)⟩,
  ⟨some kk13, none, none, .mov (.t kk0)⟩,
  ⟨some kk14, none, none, .nilck (.t kk13)⟩,
  ⟨some kk15, none, none, .offs (.t kk14) 1⟩,
  ⟨some kk16, none, some [0], .load 1 false (.t kk15)⟩,
  ⟨some kk17, none, none, .bin .add (.t kk16) (.c (.int .i64 (.ofNat 1)))⟩,
  ⟨some kk18, none, none, .idxSl 3 (.t kk12) (.t kk17)⟩,
  ⟨some kk19, none, some [], .load 3 true (.t kk18)⟩,
  ⟨some kk5, none, some [0, 1, 2], .boxz 35 3 32 [(.int .i64 (.ofNat 0)), (.int .i64 (.ofNat 0)), (.str 0 0)]⟩,
  ⟨none, none, some [], .store 3 (.t kk5) (.t kk19)⟩])
 (.seq (.region false [⟨some kk20, none, none, .mov (.t kk1)⟩,
  ⟨some kk21, none, none, .mov (.t kk20)⟩,
  ⟨some kk22, some (kk21, true), none, .offs (.t kk5) 0⟩,
  ⟨some kk23, some (kk21, true), none, .load 1 false (.t kk22)⟩,
  ⟨some kk24, some (kk21, true), none, .bin .eql (.t kk23) (.c (.int .i64 (.ofNat 1)))⟩,
  ⟨some kk25, none, none, .pick (.t kk21) (.t kk24) (.c (.bool false))⟩,
  ⟨some kk26, none, none, .mov (.t kk25)⟩,
  ⟨some kk27, some (kk26, true), none, .offs (.t kk5) 2⟩,
  ⟨some kk28, some (kk26, true), none, .load 1 false (.t kk27)⟩,
  ⟨some kk29, some (kk26, true), none, .bin .eql (.t kk28) (.c (.str 2 17999))⟩,
  ⟨some kk30, none, none, .pick (.t kk26) (.t kk29) (.c (.bool false))⟩])
 (.cond (.t kk30)
  (.seq (.region false [⟨some kk4, none, none, .mov (.c (.str 0 0))⟩])
  .ret)
  .skip)))
 (.seq (.region false [⟨some kk31, none, none, .mov (.t kk0)⟩,
  ⟨some kk32, none, none, .nilck (.t kk31)⟩,
  ⟨some kk33, none, none, .offs (.t kk32) 1⟩,
  ⟨some kk34, none, none, .load 1 false (.t kk33)⟩,
  ⟨some kk35, none, none, .bin .add (.t kk34) (.c (.int .i64 (.ofNat 1)))⟩,
  ⟨some kk36, none, none, .nilck (.t kk31)⟩,
  ⟨some kk37, none, none, .offs (.t kk36) 1⟩,
  ⟨none, none, none, .store 1 (.t kk37) (.t kk35)⟩])
 (.seq (.region false [⟨some kk38, none, none, .mov (.t kk0)⟩,
  ⟨some kk39, none, none, .call 112 [(.t kk38)]⟩,
  ⟨some kk4, none, none, .mov (.t kk39)⟩])
 .ret))))) }
theorem fn108 : fnOf Tryz.prog Tryz.f108 = some i108 := by kernel_rfl
/-- (*annalist.parser.parser).source -/
noncomputable def i109 : IFn := { nt := 14, ps := [kk0, kk1], res := [.cell kk4 4 true], body :=
 (.seq (.region false [⟨some kk4, none, none, .boxz 157 4 48 [(.bool false), (.str 0 0), (.str 0 0), (.int .i64 (.ofNat 0))]⟩])
 (.seq (.region false [⟨some kk6, none, none, .mov (.t kk0)⟩,
  ⟨some kk7, none, none, .call 112 [(.t kk6)]⟩,
  ⟨some kk8, none, none, .build [(.bool false), (.str 0 0), (.str 0 0), (.int .i64 (.ofNat 0))] [(1, 1, (.t kk7)), (3, 1, (.c (.int .i64 (.negSucc 0))))]⟩,
  ⟨some kk5, none, none, .boxz 157 4 48 [(.bool false), (.str 0 0), (.str 0 0), (.int .i64 (.ofNat 0))]⟩,
  ⟨none, none, none, .store 4 (.t kk5) (.t kk8)⟩])
 (.seq (.region false [⟨some kk9, none, none, .mov (.t kk0)⟩,
  ⟨some kk10, none, none, .mov (.t kk1)⟩,
  ⟨some kk11, none, none, .call 108 [(.t kk9), (.t kk10)]⟩,
  ⟨some kk12, none, none, .offs (.t kk5) 2⟩,
  ⟨none, none, none, .store 1 (.t kk12) (.t kk11)⟩])
 (.seq (.region false [⟨some kk13, none, none, .load 4 true (.t kk5)⟩,
  ⟨none, none, none, .store 4 (.t kk4) (.t kk13)⟩])
 .ret)))) }
theorem fn109 : fnOf Tryz.prog Tryz.f109 = some i109 := by kernel_rfl
/-- (*annalist.parser.parser).columnRef -/
noncomputable def i110 : IFn := { nt := 18, ps := [kk0], res := [.tmp kk2], body :=
 (.seq (.region false [⟨some kk2, none, none, .mov (.c (.int .i64 (.ofNat 0)))⟩])
 (.seq (.region false [⟨some kk4, none, none, .mov (.t kk0)⟩,
  ⟨some kk5, none, none, .call 112 [(.t kk4)]⟩,
  ⟨some kk6, none, none, .build [(.int .i64 (.ofNat 0)), (.int .i64 (.ofNat 0)), (.int .i64 (.ofNat 0)), (.str 0 0), (.str 0 0), (.int .i64 (.ofNat 0)), (.int .i64 (.ofNat 0)), (.str 0 0)] [(0, 1, (.c (.int .i64 (.ofNat 2)))), (4, 1, (.t kk5))]⟩,
  ⟨some kk3, none, none, .boxz 111 8 88 [(.int .i64 (.ofNat 0)), (.int .i64 (.ofNat 0)), (.int .i64 (.ofNat 0)), (.str 0 0), (.str 0 0), (.int .i64 (.ofNat 0)), (.int .i64 (.ofNat 0)), (.str 0 0)]⟩,
  ⟨none, none, none, .store 8 (.t kk3) (.t kk6)⟩])
 (.seq (.seq (.region false [⟨some kk7, none, none, .mov (.t kk0)⟩,
  ⟨some kk8, none, none, .call 77 [(.t kk7), (.c (.str 1 46))]⟩])
 (.cond (.t kk8)
  (.seq (.region false [⟨some kk9, none, none, .offs (.t kk3) 4⟩,
   ⟨some kk10, none, none, .load 1 false (.t kk9)⟩,
   ⟨some kk11, none, none, .offs (.t kk3) 3⟩,
   ⟨none, none, none, .store 1 (.t kk11) (.t kk10)⟩])
  (.region false [⟨some kk12, none, none, .mov (.t kk0)⟩,
   ⟨some kk13, none, none, .call 112 [(.t kk12)]⟩,
   ⟨some kk14, none, none, .offs (.t kk3) 4⟩,
   ⟨none, none, none, .store 1 (.t kk14) (.t kk13)⟩]))
  .skip))
 (.seq (.region false [⟨some kk15, none, none, .mov (.t kk0)⟩,
  ⟨some kk16, none, none, .load 8 true (.t kk3)⟩,
  ⟨some kk17, none, none, .call 134 [(.t kk15), (.t kk16)]⟩,
  ⟨some kk2, none, none, .mov (.t kk17)⟩])
 .ret)))) }
theorem fn110 : fnOf Tryz.prog Tryz.f110 = some i110 := by kernel_rfl
/-- (*annalist.parser.parser).next -/
noncomputable def i111 : IFn := { nt := 27, ps := [kk0, kk1, kk2], res := [.tmp kk6], body :=
 (.seq (.region false [⟨some kk6, none, none, .mov (.c (.bool false))⟩])
 (.seq (.region false [⟨some kk8, none, none, .mov (.t kk0)⟩,
  ⟨some kk9, none, none, .call 35 [(.t kk8)]⟩,
  ⟨some kk7, none, none, .boxz 35 3 32 [(.int .i64 (.ofNat 0)), (.int .i64 (.ofNat 0)), (.str 0 0)]⟩,
  ⟨none, none, none, .store 3 (.t kk7) (.t kk9)⟩])
 (.seq (.region false [⟨some kk10, none, none, .mov (.t kk0)⟩,
  ⟨some kk11, none, none, .nilck (.t kk10)⟩,
  ⟨some kk12, none, none, .offs (.t kk11) 3⟩,
  ⟨some kk13, none, none, .load 1 false (.t kk12)⟩,
  ⟨some kk14, none, none, .bin .eql (.t kk13) (.c (.int .i64 (.ofNat 0)))⟩,
  ⟨some kk15, none, none, .mov (.t kk14)⟩,
  ⟨some kk16, some (kk15, true), none, .offs (.t kk7) 0⟩,
  ⟨some kk17, some (kk15, true), none, .load 1 false (.t kk16)⟩,
  ⟨some kk18, some (kk15, true), none, .mov (.t kk1)⟩,
  ⟨some kk19, some (kk15, true), none, .bin .eql (.t kk17) (.t kk18)⟩,
  ⟨some kk20, none, none, .pick (.t kk15) (.t kk19) (.c (.bool false))⟩,
  ⟨some kk21, none, none, .mov (.t kk20)⟩,
  ⟨some kk22, some (kk21, true), none, .offs (.t kk7) 2⟩,
  ⟨some kk23, some (kk21, true), none, .load 1 false (.t kk22)⟩,
  ⟨some kk24, some (kk21, true), none, .mov (.t kk2)⟩,
  ⟨some kk25, some (kk21, true), none, .bin .eql (.t kk23) (.t kk24)⟩,
  ⟨some kk26, none, none, .pick (.t kk21) (.t kk25) (.c (.bool false))⟩,
  ⟨some kk6, none, none, .mov (.t kk26)⟩])
 .ret))) }
theorem fn111 : fnOf Tryz.prog Tryz.f111 = some i111 := by kernel_rfl
/-- (*annalist.parser.parser).name -/
noncomputable def i112 : IFn := { nt := 5, ps := [kk0], res := [.tmp kk2], body :=
 (.seq (.region false [⟨some kk2, none, none, .mov (.c (.str 0 0))⟩])
 (.seq (.region false [⟨some kk3, none, none, .mov (.t kk0)⟩,
  ⟨some kk4, none, none, .call 120 [(.t kk3), (.c (.int .i64 (.ofNat 2))), (.c (.func 135 []))]⟩,
  ⟨some kk2, none, none, .mov (.t kk4)⟩])
 .ret)) }
theorem fn112 : fnOf Tryz.prog Tryz.f112 = some i112 := by kernel_rfl
/-- (*annalist.parser.parser).literal -/
noncomputable def i113 : IFn := { nt := 53, ps := [kk0], res := [.cell kk2 3 true], body :=
 (.seq (.region false [⟨some kk2, none, none, .boxz 91 3 32 [(.int .i64 (.ofNat 0)), (.int .i64 (.ofNat 0)), (.str 0 0)]⟩])
 (.seq (.block 0 (.seq (.region false [⟨some kk17, none, none, .mov (.t kk0)⟩,
   ⟨some kk18, none, none, .nilck (.t kk17)⟩,
   ⟨some kk19, none, none, .offs (.t kk18) 3⟩,
   ⟨some kk20, none, none, .load 1 false (.t kk19)⟩,
   ⟨some kk21, none, none, .bin .neq (.t kk20) (.c (.int .i64 (.ofNat 0)))⟩,
   ⟨some kk16, none, none, .mov (.t kk21)⟩])
  (.cond (.t kk16)
   .skip
   (.seq (.region false [⟨some kk23, none, none, .mov (.t kk0)⟩,
    ⟨some kk24, none, none, .call 136 [(.t kk23)]⟩,
    ⟨some kk25, none, none, .un .not (.t kk24)⟩,
    ⟨some kk22, none, none, .mov (.t kk25)⟩])
   (.cond (.t kk22)
    (.region false [⟨some kk26, none, none, .mov (.t kk0)⟩,
     ⟨some kk27, none, none, .call 36 [(.t kk26), (.c (.int .i64 (.ofNat 5)))]⟩])
    (.seq (.region false [⟨some kk29, none, none, .mov (.t kk0)⟩,
     ⟨some kk30, none, none, .call 77 [(.t kk29), (.c (.str 1 45))]⟩,
     ⟨some kk28, none, none, .mov (.t kk30)⟩])
    (.cond (.t kk28)
     (.seq (.region false [⟨some kk31, none, none, .mov (.t kk0)⟩,
      ⟨some kk32, none, none, .call 137 [(.t kk31), (.c (.bool true))]⟩,
      ⟨none, none, none, .store 3 (.t kk2) (.t kk32)⟩])
     .ret)
     (.seq (.region false [⟨some kk34, none, none, .mov (.t kk0)⟩,
      ⟨some kk35, none, none, .call 35 [(.t kk34)]⟩,
      ⟨some kk36, none, none, .sub (.t kk35) 0 1 false⟩,
      ⟨some kk37, none, none, .bin .eql (.t kk36) (.c (.int .i64 (.ofNat 3)))⟩,
      ⟨some kk33, none, none, .mov (.t kk37)⟩])
     (.cond (.t kk33)
      (.seq (.region false [⟨some kk38, none, none, .mov (.t kk0)⟩,
       ⟨some kk39, none, none, .call 137 [(.t kk38), (.c (.bool false))]⟩,
       ⟨none, none, none, .store 3 (.t kk2) (.t kk39)⟩])
      .ret)
      (.seq (.region false [⟨some kk41, none, none, .mov (.t kk0)⟩,
       ⟨some kk42, none, none, .call 38 [(.t kk41), (.c (.str 4 1163219540))]⟩,
       ⟨some kk40, none, none, .mov (.t kk42)⟩])
      (.cond (.t kk40)
       (.seq (.region false [⟨some kk43, none, none, .build [(.int .i64 (.ofNat 0)), (.int .i64 (.ofNat 0)), (.str 0 0)] [(0, 1, (.c (.int .i64 (.ofNat 3)))), (1, 1, (.c (.int .i64 (.ofNat 1))))]⟩,
        ⟨none, none, none, .store 3 (.t kk2) (.t kk43)⟩])
       .ret)
       (.seq (.region false [⟨some kk45, none, none, .mov (.t kk0)⟩,
        ⟨some kk46, none, none, .call 38 [(.t kk45), (.c (.str 5 297750249798))]⟩,
        ⟨some kk44, none, none, .mov (.t kk46)⟩])
       (.cond (.t kk44)
        (.seq (.region false [⟨some kk47, none, none, .build [(.int .i64 (.ofNat 0)), (.int .i64 (.ofNat 0)), (.str 0 0)] [(0, 1, (.c (.int .i64 (.ofNat 3))))]⟩,
         ⟨none, none, none, .store 3 (.t kk2) (.t kk47)⟩])
        .ret)
        (.seq (.region false [⟨some kk49, none, none, .mov (.t kk0)⟩,
         ⟨some kk50, none, none, .call 38 [(.t kk49), (.c (.str 4 1280070990))]⟩,
         ⟨some kk48, none, none, .mov (.t kk50)⟩])
        (.cond (.t kk48)
         (.seq (.region false [⟨some kk51, none, none, .build [(.int .i64 (.ofNat 0)), (.int .i64 (.ofNat 0)), (.str 0 0)] []⟩,
          ⟨none, none, none, .store 3 (.t kk2) (.t kk51)⟩])
         .ret)
         (.seq (.region false [⟨some kk4, none, none, .mov (.t kk0)⟩,
          ⟨some kk5, none, none, .call 35 [(.t kk4)]⟩,
          ⟨some kk6, none, none, .sub (.t kk5) 2 1 false⟩,
          ⟨some kk3, none, none, .mov (.t kk6)⟩])
         (.seq (.region false [⟨some kk7, none, none, .mov (.t kk0)⟩,
          ⟨some kk8, none, none, .nilck (.t kk7)⟩,
          ⟨some kk9, none, none, .offs (.t kk8) 1⟩,
          ⟨some kk10, none, none, .load 1 false (.t kk9)⟩,
          ⟨some kk11, none, none, .bin .add (.t kk10) (.c (.int .i64 (.ofNat 1)))⟩,
          ⟨some kk12, none, none, .nilck (.t kk7)⟩,
          ⟨some kk13, none, none, .offs (.t kk12) 1⟩,
          ⟨none, none, none, .store 1 (.t kk13) (.t kk11)⟩])
         (.seq (.region false [⟨some kk14, none, none, .mov (.t kk3)⟩,
          ⟨some kk15, none, none, .build [(.int .i64 (.ofNat 0)), (.int .i64 (.ofNat 0)), (.str 0 0)] [(0, 1, (.c (.int .i64 (.ofNat 2)))), (2, 1, (.t kk14))]⟩,
          ⟨none, none, none, .store 3 (.t kk2) (.t kk15)⟩])
         .ret))))))))))))))))))
 (.seq (.region false [⟨some kk52, none, none, .build [(.int .i64 (.ofNat 0)), (.int .i64 (.ofNat 0)), (.str 0 0)] []⟩,
  ⟨none, none, none, .store 3 (.t kk2) (.t kk52)⟩])
 .ret))) }
theorem fn113 : fnOf Tryz.prog Tryz.f113 = some i113 := by kernel_rfl
/-- (*annalist.parser.parser).period -/
noncomputable def i114 : IFn := { nt := 8, ps := [kk0], res := [.cell kk2 2 true], body :=
 (.seq (.region false [⟨some kk2, none, none, .boxz 40 2 16 [(.int .i64 (.ofNat 0)), (.int .i64 (.ofNat 0))]⟩])
 (.seq (.region false [⟨some kk3, none, none, .boxz 40 2 16 [(.int .i64 (.ofNat 0)), (.int .i64 (.ofNat 0))]⟩])
 (.seq (.region false [⟨some kk4, none, none, .mov (.t kk0)⟩,
  ⟨some kk5, none, none, .mkfn 138 [(.t kk3)]⟩,
  ⟨some kk6, none, none, .call 120 [(.t kk4), (.c (.int .i64 (.ofNat 4))), (.t kk5)]⟩])
 (.seq (.region false [⟨some kk7, none, none, .load 2 true (.t kk3)⟩,
  ⟨none, none, none, .store 2 (.t kk2) (.t kk7)⟩])
 .ret)))) }
theorem fn114 : fnOf Tryz.prog Tryz.f114 = some i114 := by kernel_rfl
/-- (*annalist.parser.parser).set -/
noncomputable def i115 : IFn := { nt := 13, ps := [kk0], res := [.cell kk2 2 true], body :=
 (.seq (.region false [⟨some kk2, none, none, .boxz 99 2 24 [(.str 0 0), (.int .i64 (.ofNat 0))]⟩])
 (.seq (.region false [⟨some kk4, none, none, .mov (.t kk0)⟩,
  ⟨some kk5, none, none, .call 112 [(.t kk4)]⟩,
  ⟨some kk6, none, none, .build [(.str 0 0), (.int .i64 (.ofNat 0))] [(0, 1, (.t kk5))]⟩,
  ⟨some kk3, none, none, .boxz 99 2 24 [(.str 0 0), (.int .i64 (.ofNat 0))]⟩,
  ⟨none, none, none, .store 2 (.t kk3) (.t kk6)⟩])
 (.seq (.region false [⟨some kk7, none, none, .mov (.t kk0)⟩,
  ⟨some kk8, none, none, .call 106 [(.t kk7), (.c (.str 1 61))]⟩])
 (.seq (.region false [⟨some kk9, none, none, .mov (.t kk0)⟩,
  ⟨some kk10, none, none, .call 107 [(.t kk9)]⟩,
  ⟨some kk11, none, none, .offs (.t kk3) 1⟩,
  ⟨none, none, none, .store 1 (.t kk11) (.t kk10)⟩])
 (.seq (.region false [⟨some kk12, none, none, .load 2 true (.t kk3)⟩,
  ⟨none, none, none, .store 2 (.t kk2) (.t kk12)⟩])
 .ret))))) }
theorem fn115 : fnOf Tryz.prog Tryz.f115 = some i115 := by kernel_rfl
/-- (*annalist.parser.parser).column -/
noncomputable def i116 : IFn := { nt := 22, ps := [kk0], res := [.cell kk2 3 true], body :=
 (.seq (.region false [⟨some kk2, none, none, .boxz 115 3 32 [(.int .i64 (.ofNat 0)), (.str 0 0), (.int .i64 (.ofNat 0))]⟩])
 (.seq (.region false [⟨some kk4, none, none, .mov (.t kk0)⟩,
  ⟨some kk5, none, none, .call 112 [(.t kk4)]⟩,
  ⟨some kk6, none, none, .build [(.int .i64 (.ofNat 0)), (.str 0 0), (.int .i64 (.ofNat 0))] [(1, 1, (.t kk5))]⟩,
  ⟨some kk3, none, none, .boxz 115 3 32 [(.int .i64 (.ofNat 0)), (.str 0 0), (.int .i64 (.ofNat 0))]⟩,
  ⟨none, none, none, .store 3 (.t kk3) (.t kk6)⟩])
 (.seq (.block 0 (.seq (.region false [⟨some kk10, none, none, .mov (.t kk0)⟩,
   ⟨some kk11, none, none, .call 38 [(.t kk10), (.c (.str 3 5525065))]⟩,
   ⟨some kk9, none, none, .mov (.t kk11)⟩])
  (.cond (.t kk9)
   (.region false [⟨some kk12, none, none, .offs (.t kk3) 2⟩,
    ⟨none, none, none, .store 1 (.t kk12) (.c (.int .i64 (.ofNat 1)))⟩])
   (.seq (.region false [⟨some kk14, none, none, .mov (.t kk0)⟩,
    ⟨some kk15, none, none, .call 38 [(.t kk14), (.c (.str 4 1415071060))]⟩,
    ⟨some kk13, none, none, .mov (.t kk15)⟩])
   (.cond (.t kk13)
    (.region false [⟨some kk16, none, none, .offs (.t kk3) 2⟩,
     ⟨none, none, none, .store 1 (.t kk16) (.c (.int .i64 (.ofNat 2)))⟩])
    (.seq (.region false [⟨some kk18, none, none, .mov (.t kk0)⟩,
     ⟨some kk19, none, none, .call 38 [(.t kk18), (.c (.str 4 1280266050))]⟩,
     ⟨some kk17, none, none, .mov (.t kk19)⟩])
    (.cond (.t kk17)
     (.region false [⟨some kk20, none, none, .offs (.t kk3) 2⟩,
      ⟨none, none, none, .store 1 (.t kk20) (.c (.int .i64 (.ofNat 3)))⟩])
     (.region false [⟨some kk7, none, none, .mov (.t kk0)⟩,
      ⟨some kk8, none, none, .call 36 [(.t kk7), (.c (.int .i64 (.ofNat 5)))]⟩]))))))))
 (.seq (.region false [⟨some kk21, none, none, .load 3 true (.t kk3)⟩,
  ⟨none, none, none, .store 3 (.t kk2) (.t kk21)⟩])
 .ret)))) }
theorem fn116 : fnOf Tryz.prog Tryz.f116 = some i116 := by kernel_rfl
/-- (*annalist.parser.parser).names -/
noncomputable def i117 : IFn := { nt := 19, ps := [kk0], res := [.tmp kk2], body :=
 (.seq (.region false [⟨some kk2, none, none, .mov (.c .nilslice)⟩])
 (.seq (.region false [⟨some kk4, none, none, .mov (.t kk0)⟩,
  ⟨some kk5, none, none, .call 106 [(.t kk4), (.c (.str 1 40))]⟩])
 (.seq (.region false [⟨some kk6, none, none, .mov (.t kk0)⟩,
  ⟨some kk7, none, none, .call 112 [(.t kk6)]⟩,
  ⟨some kk8, none, none, .buildSl 9 1 16 1 [(.str 0 0)] [(0, (.t kk7))]⟩,
  ⟨some kk3, none, none, .mov (.t kk8)⟩])
 (.seq (.block 0 (.loop (.seq (.seq (.region false [⟨some kk9, none, none, .mov (.t kk0)⟩,
    ⟨some kk10, none, none, .call 77 [(.t kk9), (.c (.str 1 44))]⟩])
   (.cond (.t kk10)
    .skip
    (.exit 0)))
   (.block 1 (.region false [⟨some kk11, none, none, .mov (.t kk3)⟩,
     ⟨some kk12, none, none, .mov (.t kk0)⟩,
     ⟨some kk13, none, none, .call 112 [(.t kk12)]⟩,
     ⟨some kk14, none, none, .buildSl 9 1 16 1 [(.str 0 0)] [(0, (.t kk13))]⟩,
     ⟨some kk15, none, none, .app 9 1 16 (.t kk11) (.t kk14)⟩,
     ⟨some kk3, none, none, .mov (.t kk15)⟩])))))
 (.seq (.region false [⟨some kk16, none, none, .mov (.t kk0)⟩,
  ⟨some kk17, none, none, .call 106 [(.t kk16), (.c (.str 1 41))]⟩])
 (.seq (.region false [⟨some kk18, none, none, .mov (.t kk3)⟩,
  ⟨some kk2, none, none, .mov (.t kk18)⟩])
 .ret)))))) }
theorem fn117 : fnOf Tryz.prog Tryz.f117 = some i117 := by kernel_rfl
/-- (*annalist.parser.parser).day -/
noncomputable def i118 : IFn := { nt := 8, ps := [kk0], res := [.tmp kk2], body :=
 (.seq (.region false [⟨some kk2, none, none, .mov (.c (.int .i64 (.ofNat 0)))⟩])
 (.seq (.region false [⟨some kk3, none, none, .boxz 3 1 8 [(.int .i64 (.ofNat 0))]⟩,
  ⟨none, none, none, .store 1 (.t kk3) (.c (.int .i64 (.ofNat 0)))⟩])
 (.seq (.region false [⟨some kk4, none, none, .mov (.t kk0)⟩,
  ⟨some kk5, none, none, .mkfn 140 [(.t kk3)]⟩,
  ⟨some kk6, none, none, .call 120 [(.t kk4), (.c (.int .i64 (.ofNat 4))), (.t kk5)]⟩])
 (.seq (.region false [⟨some kk7, none, none, .load 1 false (.t kk3)⟩,
  ⟨some kk2, none, none, .mov (.t kk7)⟩])
 .ret)))) }
theorem fn118 : fnOf Tryz.prog Tryz.f118 = some i118 := by kernel_rfl
/-- (*annalist.parser.parser).asOf -/
noncomputable def i119 : IFn := { nt := 11, ps := [kk0], res := [.tmp kk2], body :=
 (.seq (.region false [⟨some kk2, none, none, .mov (.c (.int .i64 (.ofNat 0)))⟩])
 (.seq (.seq (.region false [⟨some kk3, none, none, .mov (.t kk0)⟩,
  ⟨some kk4, none, none, .call 38 [(.t kk3), (.c (.str 2 21313))]⟩,
  ⟨some kk5, none, none, .un .not (.t kk4)⟩])
 (.cond (.t kk5)
  (.seq (.region false [⟨some kk2, none, none, .mov (.c (.int .i64 (.ofNat 1099511627776)))⟩])
  .ret)
  .skip))
 (.seq (.region false [⟨some kk6, none, none, .mov (.t kk0)⟩,
  ⟨some kk7, none, none, .buildSl 9 1 16 1 [(.str 0 0)] [(0, (.c (.str 2 17999)))]⟩,
  ⟨some kk8, none, none, .call 39 [(.t kk6), (.t kk7)]⟩])
 (.seq (.region false [⟨some kk9, none, none, .mov (.t kk0)⟩,
  ⟨some kk10, none, none, .call 90 [(.t kk9), (.c (.int .i64 (.negSucc 0)))]⟩,
  ⟨some kk2, none, none, .mov (.t kk10)⟩])
 .ret)))) }
theorem fn119 : fnOf Tryz.prog Tryz.f119 = some i119 := by kernel_rfl
/-- (*annalist.parser.parser).take -/
noncomputable def i120 : IFn := { nt := 40, ps := [kk0, kk1, kk2], res := [.tmp kk6], body :=
 (.seq (.region false [⟨some kk6, none, none, .mov (.c (.str 0 0))⟩])
 (.seq (.seq (.region false [⟨some kk9, none, none, .mov (.t kk0)⟩,
  ⟨some kk10, none, none, .nilck (.t kk9)⟩,
  ⟨some kk11, none, none, .offs (.t kk10) 3⟩,
  ⟨some kk12, none, none, .load 1 false (.t kk11)⟩,
  ⟨some kk13, none, none, .bin .neq (.t kk12) (.c (.int .i64 (.ofNat 0)))⟩])
 (.cond (.t kk13)
  (.seq (.region false [⟨some kk6, none, none, .mov (.c (.str 0 0))⟩])
  .ret)
  .skip))
 (.seq (.region false [⟨some kk14, none, none, .mov (.t kk0)⟩,
  ⟨some kk15, none, none, .call 35 [(.t kk14)]⟩,
  ⟨some kk7, none, none, .boxz 35 3 32 [(.int .i64 (.ofNat 0)), (.int .i64 (.ofNat 0)), (.str 0 0)]⟩,
  ⟨none, none, none, .store 3 (.t kk7) (.t kk15)⟩])
 (.seq (.seq (.region false [⟨some kk16, none, none, .offs (.t kk7) 0⟩,
  ⟨some kk17, none, none, .load 1 false (.t kk16)⟩,
  ⟨some kk18, none, none, .mov (.t kk1)⟩,
  ⟨some kk19, none, none, .bin .neq (.t kk17) (.t kk18)⟩])
 (.cond (.t kk19)
  (.seq (.region false [⟨some kk20, none, none, .mov (.t kk0)⟩,
   ⟨some kk21, none, none, .call 36 [(.t kk20), (.c (.int .i64 (.ofNat 5)))]⟩])
  (.seq (.region false [⟨some kk6, none, none, .mov (.c (.str 0 0))⟩])
  .ret))
  .skip))
 (.seq (.seq (.region false [⟨some kk22, none, none, .mov (.t kk2)⟩,
  ⟨some kk23, none, none, .offs (.t kk7) 2⟩,
  ⟨some kk24, none, none, .load 1 false (.t kk23)⟩,
  ⟨some kk25, none, none, .callv (.t kk22) [(.t kk24)]⟩,
  ⟨some kk8, none, none, .mov (.t kk25)⟩])
 (.seq (.region false [⟨some kk26, none, none, .mov (.t kk8)⟩,
  ⟨some kk27, none, none, .bin .neq (.t kk26) (.c (.int .i64 (.ofNat 0)))⟩])
 (.cond (.t kk27)
  (.seq (.region false [⟨some kk28, none, none, .mov (.t kk0)⟩,
   ⟨some kk29, none, none, .mov (.t kk8)⟩,
   ⟨some kk30, none, none, .call 36 [(.t kk28), (.t kk29)]⟩])
  (.seq (.region false [⟨some kk6, none, none, .mov (.c (.str 0 0))⟩])
  .ret))
  .skip)))
 (.seq (.region false [⟨some kk31, none, none, .mov (.t kk0)⟩,
  ⟨some kk32, none, none, .nilck (.t kk31)⟩,
  ⟨some kk33, none, none, .offs (.t kk32) 1⟩,
  ⟨some kk34, none, none, .load 1 false (.t kk33)⟩,
  ⟨some kk35, none, none, .bin .add (.t kk34) (.c (.int .i64 (.ofNat 1)))⟩,
  ⟨some kk36, none, none, .nilck (.t kk31)⟩,
  ⟨some kk37, none, none, .offs (.t kk36) 1⟩,
  ⟨none, none, none, .store 1 (.t kk37) (.t kk35)⟩])
 (.seq (.region false [⟨some kk38, none, none, .offs (.t kk7) 2⟩,
  ⟨some kk39, none, none, .load 1 false (.t kk38)⟩,
  ⟨some kk6, none, none, .mov (.t kk39)⟩])
 .ret))))))) }
theorem fn120 : fnOf Tryz.prog Tryz.f120 = some i120 := by kernel_rfl
/-- (*annalist.parser.parser).number$1 -/
noncomputable def i121 : IFn := { nt := 26, ps := [kk0, kk1, kk2], res := [.tmp kk4], body :=
 (.seq (.region false [⟨some kk4, none, none, .mov (.c (.int .i64 (.ofNat 0)))⟩])
 (.seq (.region false [⟨some kk8, none, none, .mov (.t kk0)⟩,
  ⟨some kk9, none, none, .call 122 [(.t kk8), (.c (.int .i64 (.ofNat 10))), (.c (.int .i64 (.ofNat 64)))]⟩,
  ⟨some kk7, none, none, .mov (.t kk9)⟩,
  ⟨some kk10, none, none, .extr (.t kk7) 0⟩,
  ⟨some kk11, none, none, .extr (.t kk7) 1⟩,
  ⟨some kk5, none, none, .mov (.t kk10)⟩,
  ⟨some kk6, none, none, .mov (.t kk11)⟩])
 (.seq (.seq (.region false [⟨some kk12, none, none, .mov (.t kk6)⟩,
  ⟨some kk13, none, none, .eqv .iface true (.t kk12) (.c .niliface)⟩,
  ⟨some kk14, none, none, .mov (.t kk13)⟩,
  ⟨some kk15, some (kk14, false), none, .mov (.t kk5)⟩,
  ⟨some kk16, some (kk14, false), none, .bin .geq (.t kk15) (.c (.int .u64 (.ofNat 1099511627776)))⟩,
  ⟨some kk17, none, none, .pick (.t kk14) (.c (.bool true)) (.t kk16)⟩,
  ⟨some kk18, none, none, .mov (.t kk17)⟩,
  ⟨some kk19, some (kk18, false), none, .mov (.t kk5)⟩,
  ⟨some kk20, some (kk18, false), none, .conv .i64 (.t kk19)⟩,
  ⟨some kk21, some (kk18, false), none, .load 1 false (.t kk1)⟩,
  ⟨some kk22, some (kk18, false), none, .bin .leq (.t kk20) (.t kk21)⟩,
  ⟨some kk23, none, none, .pick (.t kk18) (.c (.bool true)) (.t kk22)⟩])
 (.cond (.t kk23)
  (.seq (.region false [⟨some kk4, none, none, .mov (.c (.int .i64 (.ofNat 10)))⟩])
  .ret)
  .skip))
 (.seq (.region false [⟨some kk24, none, none, .mov (.t kk5)⟩,
  ⟨some kk25, none, none, .conv .i64 (.t kk24)⟩,
  ⟨none, none, none, .store 1 (.t kk2) (.t kk25)⟩])
 (.seq (.region false [⟨some kk4, none, none, .mov (.c (.int .i64 (.ofNat 0)))⟩])
 .ret))))) }
theorem fn121 : fnOf Tryz.prog Tryz.f121 = some i121 := by kernel_rfl
/-- strconv.ParseUint -/
noncomputable def i122 : IFn := { nt := 26, ps := [kk0, kk1, kk2], res := [.tmp kk6, .tmp kk7], body :=
 (.seq (.region false [⟨some kk6, none, none, .mov (.c (.int .u64 (.ofNat 0)))⟩,
  ⟨some kk7, none, none, .mov (.c .niliface)⟩])
 (.seq (.region false [⟨some kk11, none, none, .mov (.t kk0)⟩,
  ⟨some kk12, none, none, .mov (.t kk1)⟩,
  ⟨some kk13, none, none, .mov (.t kk2)⟩,
  ⟨some kk14, none, none, .call 142 [(.t kk11), (.t kk12), (.t kk13)]⟩,
  ⟨some kk10, none, none, .mov (.t kk14)⟩,
  ⟨some kk15, none, none, .extr (.t kk10) 0⟩,
  ⟨some kk16, none, none, .extr (.t kk10) 1⟩,
  ⟨some kk8, none, none, .mov (.t kk15)⟩,
  ⟨some kk9, none, none, .mov (.t kk16)⟩])
 (.seq (.seq (.region false [⟨some kk17, none, none, .mov (.t kk9)⟩,
  ⟨some kk18, none, none, .eqv .iface true (.t kk17) (.c .niliface)⟩])
 (.cond (.t kk18)
  (.seq (.region false [⟨some kk19, none, none, .mov (.t kk8)⟩,
   ⟨some kk20, none, none, .mov (.t kk0)⟩,
   ⟨some kk21, none, none, .mov (.t kk1)⟩,
   ⟨some kk22, none, none, .mov (.t kk2)⟩,
   ⟨some kk23, none, none, .mov (.t kk9)⟩,
   ⟨some kk24, none, none, .call 143 [(.c (.str 9 2147778296661251613008)), (.t kk20), (.t kk21), (.t kk22), (.t kk23)]⟩,
   ⟨some kk6, none, none, .mov (.t kk19)⟩,
   ⟨some kk7, none, none, .mov (.t kk24)⟩])
  .ret)
  .skip))
 (.seq (.region false [⟨some kk25, none, none, .mov (.t kk8)⟩,
  ⟨some kk6, none, none, .mov (.t kk25)⟩,
  ⟨some kk7, none, none, .mov (.c .niliface)⟩])
 .ret)))) }
theorem fn122 : fnOf Tryz.prog Tryz.f122 = some i122 := by kernel_rfl
/-- internal.strconv.FormatInt -/
noncomputable def i123 : IFn := { nt := 54, ps := [kk0, kk1], res := [.tmp kk4], body :=
 (.seq (.region false [⟨some kk4, none, none, .mov (.c (.str 0 0))⟩])
 (.seq (.seq (.region false [⟨some kk10, none, none, .mov (.t kk1)⟩,
  ⟨some kk11, none, none, .bin .eql (.t kk10) (.c (.int .i64 (.ofNat 10)))⟩])
 (.cond (.t kk11)
  (.seq (.seq (.region false [⟨some kk12, none, none, .mov (.t kk0)⟩,
   ⟨some kk13, none, none, .bin .leq (.c (.int .i64 (.ofNat 0))) (.t kk12)⟩,
   ⟨some kk14, none, none, .mov (.t kk13)⟩,
   ⟨some kk15, some (kk14, true), none, .mov (.t kk0)⟩,
   ⟨some kk16, some (kk14, true), none, .bin .lss (.t kk15) (.c (.int .i64 (.ofNat 100)))⟩,
   ⟨some kk17, none, none, .pick (.t kk14) (.t kk16) (.c (.bool false))⟩])
  (.cond (.t kk17)
   (.seq (.region false [⟨some kk18, none, none, .mov (.t kk0)⟩,
    ⟨some kk19, none, none, .call 144 [(.t kk18)]⟩,
    ⟨some kk4, none, none, .mov (.t kk19)⟩])
   .ret)
   .skip))
  (.seq (.region false [⟨some kk5, none, none, .boxz 184 24 24 [(.int .u8 (.ofNat 0)), (.int .u8 (.ofNat 0)), (.int .u8 (.ofNat 0)), (.int .u8 (.ofNat 0)), (.int .u8 (.ofNat 0)), (.int .u8 (.ofNat 0)), (.int .u8 (.ofNat 0)), (.int .u8 (.ofNat 0)), (.int .u8 (.ofNat 0)), (.int .u8 (.ofNat 0)), (.int .u8 (.ofNat 0)), (.int .u8 (.ofNat 0)), (.int .u8 (.ofNat 0)), (.int .u8 (.ofNat 0)), (.int .u8 (.ofNat 0)), (.int .u8 (.ofNat 0)), (.int .u8 (.ofNat 0)), (.int .u8 (.ofNat 0)), (.int .u8 (.ofNat 0)), (.int .u8 (.ofNat 0)), (.int .u8 (.ofNat 0)), (.int .u8 (.ofNat 0)), (.int .u8 (.ofNat 0)), (.int .u8 (.ofNat 0))]⟩])
  (.seq (.region false [⟨some kk20, none, none, .mov (.t kk0)⟩,
   ⟨some kk21, none, none, .conv .u64 (.t kk20)⟩,
   ⟨some kk6, none, none, .mov (.t kk21)⟩])
  (.seq (.seq (.region false [⟨some kk22, none, none, .mov (.t kk0)⟩,
   ⟨some kk23, none, none, .bin .lss (.t kk22) (.c (.int .i64 (.ofNat 0)))⟩])
  (.cond (.t kk23)
   (.region false [⟨some kk24, none, none, .mov (.t kk6)⟩,
    ⟨some kk25, none, none, .un .neg (.t kk24)⟩,
    ⟨some kk6, none, none, .mov (.t kk25)⟩])
   .skip))
  (.seq (.region false [⟨some kk26, none, none, .mov (.t kk6)⟩,
   ⟨some kk27, none, none, .call 145 [(.t kk26)]⟩,
   ⟨some kk7, none, none, .mov (.t kk27)⟩])
  (.seq (.region false [⟨some kk28, none, none, .mov (.t kk7)⟩,
   ⟨some kk29, none, none, .bin .add (.c (.int .i64 (.ofNat 1))) (.t kk28)⟩,
   ⟨some kk30, none, none, .callv (.c .nilptr) []⟩,
   ⟨some kk31, none, none, .mov (.t kk6)⟩,
   ⟨some kk32, none, none, .call 146 [(.t kk30), (.t kk31)]⟩])
  (.seq (.seq (.region false [⟨some kk33, none, none, .mov (.t kk0)⟩,
   ⟨some kk34, none, none, .bin .lss (.t kk33) (.c (.int .i64 (.ofNat 0)))⟩])
  (.cond (.t kk34)
   (.seq (.region false [⟨some kk35, none, none, .idxArr 24 1 (.t kk5) (.c (.int .i64 (.ofNat 0)))⟩,
    ⟨none, none, none, .store 1 (.t kk35) (.c (.int .u8 (.ofNat 45)))⟩])
   (.seq (.region false [⟨some kk36, none, none, .mov (.t kk7)⟩,
    ⟨some kk37, none, none, .bin .add (.c (.int .i64 (.ofNat 1))) (.t kk36)⟩,
    ⟨some kk38, none, none, .callv (.c .nilptr) []⟩,
    ⟨some kk39, none, none, .convBS (.t kk38)⟩,
    ⟨some kk4, none, none, .mov (.t kk39)⟩])
   .ret))
   .skip))
  (.seq (.region false [⟨some kk40, none, none, .mov (.t kk7)⟩,
   ⟨some kk41, none, none, .bin .add (.c (.int .i64 (.ofNat 1))) (.t kk40)⟩,
   ⟨some kk42, none, none, .callv (.c .nilptr) []⟩,
   ⟨some kk43, none, none, .convBS (.t kk42)⟩,
   ⟨some kk4, none, none, .mov (.t kk43)⟩])
  .ret))))))))
  .skip))
 (.seq (.region false [⟨some kk45, none, none, .mov (.t kk0)⟩,
  ⟨some kk46, none, none, .conv .u64 (.t kk45)⟩,
  ⟨some kk47, none, none, .mov (.t kk1)⟩,
  ⟨some kk48, none, none, .mov (.t kk0)⟩,
  ⟨some kk49, none, none, .bin .lss (.t kk48) (.c (.int .i64 (.ofNat 0)))⟩,
  ⟨some kk50, none, none, .call 147 [(.c .nilslice), (.t kk46), (.t kk47), (.t kk49), (.c (.bool false))]⟩,
  ⟨some kk44, none, none, .mov (.t kk50)⟩,
  ⟨some kk51, none, none, .extr (.t kk44) 0⟩,
  ⟨some kk52, none, none, .extr (.t kk44) 1⟩,
  ⟨some kk8, none, none, .mov (.t kk51)⟩,
  ⟨some kk9, none, none, .mov (.t kk52)⟩])
 (.seq (.region false [⟨some kk53, none, none, .mov (.t kk9)⟩,
  ⟨some kk4, none, none, .mov (.t kk53)⟩])
 .ret)))) }
theorem fn123 : fnOf Tryz.prog Tryz.f123 = some i123 := by kernel_rfl
/-- annalist.civil.ToDate -/
noncomputable def i124 : IFn := { nt := 43, ps := [kk0], res := [.tmp kk2, .tmp kk3, .tmp kk4, .tmp kk5], body :=
 (.seq (.region false [⟨some kk2, none, none, .mov (.c (.int .i64 (.ofNat 0)))⟩,
  ⟨some kk3, none, none, .mov (.c (.int .i64 (.ofNat 0)))⟩,
  ⟨some kk4, none, none, .mov (.c (.int .i64 (.ofNat 0)))⟩,
  ⟨some kk5, none, none, .mov (.c (.bool false))⟩])
 (.seq (.seq (.region false [⟨some kk6, none, none, .mov (.t kk0)⟩,
  ⟨some kk7, none, none, .call 148 [(.t kk6)]⟩,
  ⟨some kk8, none, none, .un .not (.t kk7)⟩])
 (.cond (.t kk8)
  (.seq (.region false [⟨some kk2, none, none, .mov (.c (.int .i64 (.ofNat 0)))⟩,
   ⟨some kk3, none, none, .mov (.c (.int .i64 (.ofNat 0)))⟩,
   ⟨some kk4, none, none, .mov (.c (.int .i64 (.ofNat 0)))⟩,
   ⟨some kk5, none, none, .mov (.c (.bool false))⟩])
  .ret)
  .skip))
 (.seq (.region false [⟨some kk9, none, none, .mov (.t kk0)⟩,
  ⟨some kk10, none, none, .bin .quo (.t kk9) (.c (.int .i64 (.ofNat 366)))⟩,
  ⟨some kk11, none, none, .bin .add (.c (.int .i64 (.ofNat 1600))) (.t kk10)⟩,
  ⟨some kk2, none, none, .mov (.t kk11)⟩])
 (.seq (.block 0 (.loop (.seq (.seq (.region false [⟨some kk12, none, none, .mov (.t kk2)⟩,
    ⟨some kk13, none, none, .bin .add (.t kk12) (.c (.int .i64 (.ofNat 1)))⟩,
    ⟨some kk14, none, none, .call 149 [(.t kk13)]⟩,
    ⟨some kk15, none, none, .mov (.t kk0)⟩,
    ⟨some kk16, none, none, .bin .leq (.t kk14) (.t kk15)⟩])
   (.cond (.t kk16)
    .skip
    (.exit 0)))
   (.block 1 (.region false [⟨some kk17, none, none, .mov (.t kk2)⟩,
     ⟨some kk18, none, none, .bin .add (.t kk17) (.c (.int .i64 (.ofNat 1)))⟩,
     ⟨some kk2, none, none, .mov (.t kk18)⟩])))))
 (.seq (.region false [⟨some kk19, none, none, .mov (.t kk0)⟩,
  ⟨some kk20, none, none, .mov (.t kk2)⟩,
  ⟨some kk21, none, none, .call 149 [(.t kk20)]⟩,
  ⟨some kk22, none, none, .bin .sub (.t kk19) (.t kk21)⟩,
  ⟨some kk0, none, none, .mov (.t kk22)⟩])
 (.seq (.seq (.region false [⟨some kk3, none, none, .mov (.c (.int .i64 (.ofNat 1)))⟩])
 (.block 2 (.loop (.seq (.seq (.region false [⟨some kk23, none, none, .mov (.t kk3)⟩,
    ⟨some kk24, none, none, .bin .lss (.t kk23) (.c (.int .i64 (.ofNat 12)))⟩,
    ⟨some kk25, none, none, .mov (.t kk24)⟩,
    ⟨some kk26, some (kk25, true), none, .mov (.t kk0)⟩,
    ⟨some kk27, some (kk25, true), none, .mov (.t kk2)⟩,
    ⟨some kk28, some (kk25, true), none, .mov (.t kk3)⟩,
    ⟨some kk29, some (kk25, true), none, .call 150 [(.t kk27), (.t kk28)]⟩,
    ⟨some kk30, some (kk25, true), none, .bin .geq (.t kk26) (.t kk29)⟩,
    ⟨some kk31, none, none, .pick (.t kk25) (.t kk30) (.c (.bool false))⟩])
   (.cond (.t kk31)
    .skip
    (.exit 2)))
   (.seq (.block 3 (.region false [⟨some kk34, none, none, .mov (.t kk0)⟩,
     ⟨some kk35, none, none, .mov (.t kk2)⟩,
     ⟨some kk36, none, none, .mov (.t kk3)⟩,
     ⟨some kk37, none, none, .call 150 [(.t kk35), (.t kk36)]⟩,
     ⟨some kk38, none, none, .bin .sub (.t kk34) (.t kk37)⟩,
     ⟨some kk0, none, none, .mov (.t kk38)⟩]))
   (.region false [⟨some kk32, none, none, .mov (.t kk3)⟩,
    ⟨some kk33, none, none, .bin .add (.t kk32) (.c (.int .i64 (.ofNat 1)))⟩,
    ⟨some kk3, none, none, .mov (.t kk33)⟩]))))))
 (.seq (.region false [⟨some kk39, none, none, .mov (.t kk2)⟩,
  ⟨some kk40, none, none, .mov (.t kk3)⟩,
  ⟨some kk41, none, none, .mov (.t kk0)⟩,
  ⟨some kk42, none, none, .bin .add (.t kk41) (.c (.int .i64 (.ofNat 1)))⟩,
  ⟨some kk2, none, none, .mov (.t kk39)⟩,
  ⟨some kk3, none, none, .mov (.t kk40)⟩,
  ⟨some kk4, none, none, .mov (.t kk42)⟩,
  ⟨some kk5, none, none, .mov (.c (.bool true))⟩])
 .ret))))))) }
theorem fn124 : fnOf Tryz.prog Tryz.f124 = some i124 := by kernel_rfl
/-- annalist.datefmt.digits -/
noncomputable def i125 : IFn := { nt := 26, ps := [kk0, kk1], res := [.tmp kk4], body :=
 (.seq (.region false [⟨some kk4, none, none, .mov (.c (.str 0 0))⟩])
 (.seq (.region false [⟨some kk7, none, none, .mov (.t kk1)⟩,
  ⟨some kk8, none, none, .mksl 5 1 1 [(.int .u8 (.ofNat 0))] (.t kk7) (.t kk7)⟩,
  ⟨some kk5, none, none, .mov (.t kk8)⟩])
 (.seq (.seq (.region false [⟨some kk9, none, none, .mov (.t kk1)⟩,
  ⟨some kk10, none, none, .bin .sub (.t kk9) (.c (.int .i64 (.ofNat 1)))⟩,
  ⟨some kk6, none, none, .mov (.t kk10)⟩])
 (.block 0 (.loop (.seq (.seq (.region false [⟨some kk11, none, none, .mov (.t kk6)⟩,
    ⟨some kk12, none, none, .bin .geq (.t kk11) (.c (.int .i64 (.ofNat 0)))⟩])
   (.cond (.t kk12)
    .skip
    (.exit 0)))
   (.seq (.block 1 (.seq (.region false [⟨some kk15, none, none, .mov (.t kk5)⟩,
     ⟨some kk16, none, none, .mov (.t kk6)⟩,
     ⟨some kk17, none, none, .mov (.t kk0)⟩,
     ⟨some kk18, none, none, .bin .rem (.t kk17) (.c (.int .i64 (.ofNat 10)))⟩,
     ⟨some kk19, none, none, .bin .add (.c (.int .i64 (.ofNat 48))) (.t kk18)⟩,
     ⟨some kk20, none, none, .conv .u8 (.t kk19)⟩,
     ⟨some kk21, none, none, .idxSl 1 (.t kk15) (.t kk16)⟩,
     ⟨none, none, none, .store 1 (.t kk21) (.t kk20)⟩])
    (.region false [⟨some kk22, none, none, .mov (.t kk0)⟩,
     ⟨some kk23, none, none, .bin .quo (.t kk22) (.c (.int .i64 (.ofNat 10)))⟩,
     ⟨some kk0, none, none, .mov (.t kk23)⟩])))
   (.region false [⟨some kk13, none, none, .mov (.t kk6)⟩,
    ⟨some kk14, none, none, .bin .sub (.t kk13) (.c (.int .i64 (.ofNat 1)))⟩,
    ⟨some kk6, none, none, .mov (.t kk14)⟩]))))))
 (.seq (.region false [⟨some kk24, none, none, .mov (.t kk5)⟩,
  ⟨some kk25, none, none, .convBS (.t kk24)⟩,
  ⟨some kk4, none, none, .mov (.t kk25)⟩])
 .ret)))) }
theorem fn125 : fnOf Tryz.prog Tryz.f125 = some i125 := by kernel_rfl
/-- internal.strconv.Itoa -/
noncomputable def i126 : IFn := { nt := 5, ps := [kk0], res := [.tmp kk2], body :=
 (.seq (.region false [⟨some kk2, none, none, .mov (.c (.str 0 0))⟩])
 (.seq (.region false [⟨some kk3, none, none, .mov (.t kk0)⟩,
  ⟨some kk4, none, none, .call 123 [(.t kk3), (.c (.int .i64 (.ofNat 10)))]⟩,
  ⟨some kk2, none, none, .mov (.t kk4)⟩])
 .ret)) }
theorem fn126 : fnOf Tryz.prog Tryz.f126 = some i126 := by kernel_rfl
/-- strings.Count -/
noncomputable def i128 : IFn := { nt := 34, ps := [kk0, kk1], res := [.tmp kk4], body :=
 (.seq (.region false [⟨some kk4, none, none, .mov (.c (.int .i64 (.ofNat 0)))⟩])
 (.seq (.seq (.region false [⟨some kk7, none, none, .mov (.t kk1)⟩,
  ⟨some kk8, none, none, .lenS (.t kk7)⟩,
  ⟨some kk9, none, none, .bin .eql (.t kk8) (.c (.int .i64 (.ofNat 0)))⟩])
 (.cond (.t kk9)
  (.seq (.region false [⟨some kk10, none, none, .mov (.t kk0)⟩,
   ⟨some kk11, none, none, .call 151 [(.t kk10)]⟩,
   ⟨some kk12, none, none, .bin .add (.t kk11) (.c (.int .i64 (.ofNat 1)))⟩,
   ⟨some kk4, none, none, .mov (.t kk12)⟩])
  .ret)
  .skip))
 (.seq (.seq (.region false [⟨some kk13, none, none, .mov (.t kk1)⟩,
  ⟨some kk14, none, none, .lenS (.t kk13)⟩,
  ⟨some kk15, none, none, .bin .eql (.t kk14) (.c (.int .i64 (.ofNat 1)))⟩])
 (.cond (.t kk15)
  (.seq (.region false [⟨some kk16, none, none, .mov (.t kk0)⟩,
   ⟨some kk17, none, none, .mov (.t kk1)⟩,
   ⟨some kk18, none, none, .idxStr (.t kk17) (.c (.int .i64 (.ofNat 0)))⟩,
   ⟨some kk19, none, none, .call 152 [(.t kk16), (.t kk18)]⟩,
   ⟨some kk4, none, none, .mov (.t kk19)⟩])
  .ret)
  .skip))
 (.seq (.region false [⟨some kk5, none, none, .mov (.c (.int .i64 (.ofNat 0)))⟩])
 (.block 0 (.loop (.block 1 (.seq (.region false [⟨some kk20, none, none, .mov (.t kk0)⟩,
     ⟨some kk21, none, none, .mov (.t kk1)⟩,
     ⟨some kk22, none, none, .call 130 [(.t kk20), (.t kk21)]⟩,
     ⟨some kk6, none, none, .mov (.t kk22)⟩])
    (.seq (.seq (.region false [⟨some kk23, none, none, .mov (.t kk6)⟩,
     ⟨some kk24, none, none, .bin .eql (.t kk23) (.c (.int .i64 (.negSucc 0)))⟩])
    (.cond (.t kk24)
     (.seq (.region false [⟨some kk25, none, none, .mov (.t kk5)⟩,
      ⟨some kk4, none, none, .mov (.t kk25)⟩])
     .ret)
     .skip))
    (.seq (.region false [⟨some kk26, none, none, .mov (.t kk5)⟩,
     ⟨some kk27, none, none, .bin .add (.t kk26) (.c (.int .i64 (.ofNat 1)))⟩,
     ⟨some kk5, none, none, .mov (.t kk27)⟩])
    (.region false [⟨some kk28, none, none, .mov (.t kk0)⟩,
     ⟨some kk29, none, none, .mov (.t kk6)⟩,
     ⟨some kk30, none, none, .mov (.t kk1)⟩,
     ⟨some kk31, none, none, .lenS (.t kk30)⟩,
     ⟨some kk32, none, none, .bin .add (.t kk29) (.t kk31)⟩,
     ⟨some kk33, none, none, .slStr (.t kk28) (some (.t kk32)) none⟩,
     ⟨some kk0, none, none, .mov (.t kk33)⟩]))))))))))) }
theorem fn128 : fnOf Tryz.prog Tryz.f128 = some i128 := by kernel_rfl
/-- (*strings.Builder).Grow -/
noncomputable def i129 : IFn := { nt := 25, ps := [kk0, kk1], res := [], body :=
 (.seq (.region false [⟨some kk4, none, none, .mov (.t kk0)⟩,
  ⟨some kk5, none, none, .call 99 [(.t kk4)]⟩])
 (.seq (.seq (.region false [⟨some kk6, none, none, .mov (.t kk1)⟩,
  ⟨some kk7, none, none, .bin .lss (.t kk6) (.c (.int .i64 (.ofNat 0)))⟩])
 (.cond (.t kk7)
  (.region false [⟨some kk8, none, none, .mkif 9 (.c (.str 36 226187813140227768008177986391742176399534891738691412630441701833056540972817830802547))⟩,
   ⟨none, none, none, .callv (.c .nilptr) []⟩])
  .skip))
 (.seq (.region true [⟨some kk9, none, none, .mov (.t kk0)⟩,
  ⟨some kk10, none, none, .nilck (.t kk9)⟩,
  ⟨some kk11, none, none, .offs (.t kk10) 1⟩,
  ⟨some kk12, none, some [], .load 1 false (.t kk11)⟩,
  ⟨some kk13, none, some [], .callv (.c .nilptr) []⟩,
  ⟨some kk14, none, none, .mov (.t kk0)⟩,
  ⟨some kk15, none, none, .nilck (.t kk14)⟩,
  ⟨some kk16, none, none, .offs (.t kk15) 1⟩,
  ⟨some kk17, none, some [0, 1], .load 1 false (.t kk16)⟩,
  ⟨some kk18, none, none, .len (.t kk17)⟩,
  ⟨some kk19, none, none, .bin .sub (.t kk13) (.t kk18)⟩,
  ⟨some kk20, none, none, .mov (.t kk1)⟩,
  ⟨some kk21, none, none, .bin .lss (.t kk19) (.t kk20)⟩])
 (.cond (.t kk21)
  (.region false [⟨some kk22, none, none, .mov (.t kk0)⟩,
   ⟨some kk23, none, none, .mov (.t kk1)⟩,
   ⟨some kk24, none, none, .call 153 [(.t kk22), (.t kk23)]⟩])
  .skip)))) }
theorem fn129 : fnOf Tryz.prog Tryz.f129 = some i129 := by kernel_rfl
/-- strings.Index -/
noncomputable def i130 : IFn := { nt := 8, ps := [kk0, kk1], res := [.tmp kk4], body :=
 (.seq (.region false [⟨some kk4, none, none, .mov (.c (.int .i64 (.ofNat 0)))⟩])
 (.seq (.region false [⟨some kk5, none, none, .mov (.t kk0)⟩,
  ⟨some kk6, none, none, .mov (.t kk1)⟩,
  ⟨some kk7, none, none, .call 154 [(.t kk5), (.t kk6)]⟩,
  ⟨some kk4, none, none, .mov (.t kk7)⟩])
 .ret)) }
theorem fn130 : fnOf Tryz.prog Tryz.f130 = some i130 := by kernel_rfl
/-- unicode.utf8.DecodeRuneInString -/
noncomputable def i131 : IFn := { nt := 19, ps := [kk0], res := [.tmp kk2, .tmp kk3], body :=
 (.seq (.region false [⟨some kk2, none, none, .mov (.c (.int .i32 (.ofNat 0)))⟩,
  ⟨some kk3, none, none, .mov (.c (.int .i64 (.ofNat 0)))⟩])
 (.seq (.seq (.region false [⟨some kk4, none, none, .mov (.t kk0)⟩,
  ⟨some kk5, none, none, .bin .neq (.t kk4) (.c (.str 0 0))⟩,
  ⟨some kk6, none, none, .mov (.t kk5)⟩,
  ⟨some kk7, some (kk6, true), none, .mov (.t kk0)⟩,
  ⟨some kk8, some (kk6, true), none, .idxStr (.t kk7) (.c (.int .i64 (.ofNat 0)))⟩,
  ⟨some kk9, some (kk6, true), none, .bin .lss (.t kk8) (.c (.int .u8 (.ofNat 128)))⟩,
  ⟨some kk10, none, none, .pick (.t kk6) (.t kk9) (.c (.bool false))⟩])
 (.cond (.t kk10)
  (.seq (.region false [⟨some kk11, none, none, .mov (.t kk0)⟩,
   ⟨some kk12, none, none, .idxStr (.t kk11) (.c (.int .i64 (.ofNat 0)))⟩,
   ⟨some kk13, none, none, .conv .i32 (.t kk12)⟩,
   ⟨some kk2, none, none, .mov (.t kk13)⟩,
   ⟨some kk3, none, none, .mov (.c (.int .i64 (.ofNat 1)))⟩])
  .ret)
  (.region false [⟨some kk15, none, none, .mov (.t kk0)⟩,
   ⟨some kk16, none, none, .call 155 [(.t kk15)]⟩,
   ⟨some kk14, none, none, .mov (.t kk16)⟩,
   ⟨some kk17, none, none, .extr (.t kk14) 0⟩,
   ⟨some kk18, none, none, .extr (.t kk14) 1⟩,
   ⟨some kk2, none, none, .mov (.t kk17)⟩,
   ⟨some kk3, none, none, .mov (.t kk18)⟩])))
 .ret)) }
theorem fn131 : fnOf Tryz.prog Tryz.f131 = some i131 := by kernel_rfl
/-- (*annalist.parser.printer).alias -/
noncomputable def i132 : IFn := { nt := 12, ps := [kk0, kk1], res := [], body :=
 (.seq (.region false [⟨some kk4, none, none, .mov (.t kk1)⟩,
  ⟨some kk5, none, none, .bin .neq (.t kk4) (.c (.str 0 0))⟩])
 (.cond (.t kk5)
  (.seq (.region false [⟨some kk6, none, none, .mov (.t kk0)⟩,
   ⟨some kk7, none, none, .buildSl 9 1 16 1 [(.str 0 0)] [(0, (.c (.str 2 21313)))]⟩,
   ⟨some kk8, none, none, .call 42 [(.t kk6), (.t kk7)]⟩])
  (.region false [⟨some kk9, none, none, .mov (.t kk0)⟩,
   ⟨some kk10, none, none, .mov (.t kk1)⟩,
   ⟨some kk11, none, none, .call 43 [(.t kk9), (.t kk10)]⟩]))
  .skip)) }
theorem fn132 : fnOf Tryz.prog Tryz.f132 = some i132 := by kernel_rfl
/-- (*annalist.parser.parser).conjunction -/
noncomputable def i133 : IFn := { nt := 17, ps := [kk0], res := [.tmp kk2], body :=
 (.seq (.region false [⟨some kk2, none, none, .mov (.c (.int .i64 (.ofNat 0)))⟩])
 (.seq (.region false [⟨some kk5, none, none, .mov (.t kk0)⟩,
  ⟨some kk6, none, none, .call 156 [(.t kk5)]⟩,
  ⟨some kk3, none, none, .mov (.t kk6)⟩])
 (.seq (.block 0 (.loop (.seq (.seq (.region false [⟨some kk7, none, none, .mov (.t kk0)⟩,
    ⟨some kk8, none, none, .call 38 [(.t kk7), (.c (.str 3 4476481))]⟩])
   (.cond (.t kk8)
    .skip
    (.exit 0)))
   (.block 1 (.seq (.region false [⟨some kk9, none, none, .mov (.t kk0)⟩,
     ⟨some kk10, none, none, .call 156 [(.t kk9)]⟩,
     ⟨some kk4, none, none, .mov (.t kk10)⟩])
    (.region false [⟨some kk11, none, none, .mov (.t kk0)⟩,
     ⟨some kk12, none, none, .mov (.t kk3)⟩,
     ⟨some kk13, none, none, .mov (.t kk4)⟩,
     ⟨some kk14, none, none, .build [(.int .i64 (.ofNat 0)), (.int .i64 (.ofNat 0)), (.int .i64 (.ofNat 0)), (.str 0 0), (.str 0 0), (.int .i64 (.ofNat 0)), (.int .i64 (.ofNat 0)), (.str 0 0)] [(0, 1, (.c (.int .i64 (.ofNat 9)))), (1, 1, (.t kk12)), (2, 1, (.t kk13))]⟩,
     ⟨some kk15, none, none, .call 134 [(.t kk11), (.t kk14)]⟩,
     ⟨some kk3, none, none, .mov (.t kk15)⟩]))))))
 (.seq (.region false [⟨some kk16, none, none, .mov (.t kk3)⟩,
  ⟨some kk2, none, none, .mov (.t kk16)⟩])
 .ret)))) }
theorem fn133 : fnOf Tryz.prog Tryz.f133 = some i133 := by kernel_rfl
/-- (*annalist.parser.parser).push -/
noncomputable def i134 : IFn := { nt := 21, ps := [kk0, kk1], res := [.tmp kk4], body :=
 (.seq (.region false [⟨some kk3, none, none, .box 111 8 88 (.t kk1)⟩,
  ⟨some kk4, none, none, .mov (.c (.int .i64 (.ofNat 0)))⟩])
 (.seq (.region true [⟨some kk5, none, none, .mov (.t kk0)⟩,
  ⟨some kk6, none, none, .mov (.t kk0)⟩,
  ⟨some kk7, none, none, .nilck (.t kk6)⟩,
  ⟨some kk8, none, none, .offs (.t kk7) 5⟩,
  ⟨some kk9, none, some [], .load 1 false (.t kk8)⟩,
  ⟨some kk10, none, some [0], .load 8 true (.t kk3)⟩,
  ⟨some kk11, none, some [1], .buildSl 111 8 88 1 [(.int .i64 (.ofNat 0)), (.int .i64 (.ofNat 0)), (.int .i64 (.ofNat 0)), (.str 0 0), (.str 0 0), (.int .i64 (.ofNat 0)), (.int .i64 (.ofNat 0)), (.str 0 0)] [(0, (.t kk10))]⟩,
  ⟨some kk12, none, some [], .app 111 8 88 (.t kk9) (.t kk11)⟩,
  ⟨some kk13, none, none, .nilck (.t kk5)⟩,
  ⟨some kk14, none, none, .offs (.t kk13) 5⟩,
  ⟨none, none, some [], .store 1 (.t kk14) (.t kk12)⟩])
 (.seq (.region false [⟨some kk15, none, none, .mov (.t kk0)⟩,
  ⟨some kk16, none, none, .nilck (.t kk15)⟩,
  ⟨some kk17, none, none, .offs (.t kk16) 5⟩,
  ⟨some kk18, none, none, .load 1 false (.t kk17)⟩,
  ⟨some kk19, none, none, .len (.t kk18)⟩,
  ⟨some kk20, none, none, .bin .sub (.t kk19) (.c (.int .i64 (.ofNat 1)))⟩,
  ⟨some kk4, none, none, .mov (.t kk20)⟩])
 .ret))) }
theorem fn134 : fnOf Tryz.prog Tryz.f134 = some i134 := by kernel_rfl
/-- (*annalist.parser.parser).name$1 -/
noncomputable def i135 : IFn := { nt := 3, ps := [kk0], res := [.tmp kk2], body :=
 (.seq (.region false [⟨some kk2, none, none, .mov (.c (.int .i64 (.ofNat 0)))⟩])
 (.seq (.region false [⟨some kk2, none, none, .mov (.c (.int .i64 (.ofNat 0)))⟩])
 .ret)) }
theorem fn135 : fnOf Tryz.prog Tryz.f135 = some i135 := by kernel_rfl
/-- (*annalist.parser.parser).startsLiteral -/
noncomputable def i136 : IFn := { nt := 31, ps := [kk0], res := [.tmp kk2], body :=
 (.seq (.region false [⟨some kk2, none, none, .mov (.c (.bool false))⟩])
 (.seq (.region false [⟨some kk4, none, none, .mov (.t kk0)⟩,
  ⟨some kk5, none, none, .call 35 [(.t kk4)]⟩,
  ⟨some kk3, none, none, .boxz 35 3 32 [(.int .i64 (.ofNat 0)), (.int .i64 (.ofNat 0)), (.str 0 0)]⟩,
  ⟨none, none, none, .store 3 (.t kk3) (.t kk5)⟩])
 (.seq (.seq (.region false [⟨some kk6, none, none, .offs (.t kk3) 0⟩,
  ⟨some kk7, none, none, .load 1 false (.t kk6)⟩])
 (.block 0 (.seq (.seq (.region false [⟨some kk9, none, none, .bin .eql (.t kk7) (.c (.int .i64 (.ofNat 3)))⟩,
   ⟨some kk8, none, none, .mov (.t kk9)⟩])
  (.cond (.t kk8)
   .skip
   (.region false [⟨some kk10, none, none, .bin .eql (.t kk7) (.c (.int .i64 (.ofNat 4)))⟩,
    ⟨some kk8, none, none, .mov (.t kk10)⟩])))
  (.cond (.t kk8)
   (.seq (.region false [⟨some kk2, none, none, .mov (.c (.bool true))⟩])
   .ret)
   (.seq (.region false [⟨some kk12, none, none, .bin .eql (.t kk7) (.c (.int .i64 (.ofNat 5)))⟩,
    ⟨some kk11, none, none, .mov (.t kk12)⟩])
   (.cond (.t kk11)
    (.seq (.region false [⟨some kk13, none, none, .offs (.t kk3) 2⟩,
     ⟨some kk14, none, none, .load 1 false (.t kk13)⟩,
     ⟨some kk15, none, none, .bin .eql (.t kk14) (.c (.str 1 45))⟩,
     ⟨some kk2, none, none, .mov (.t kk15)⟩])
    .ret)
    (.seq (.region false [⟨some kk17, none, none, .bin .eql (.t kk7) (.c (.int .i64 (.ofNat 1)))⟩,
     ⟨some kk16, none, none, .mov (.t kk17)⟩])
    (.cond (.t kk16)
     (.seq (.region false [⟨some kk18, none, none, .offs (.t kk3) 2⟩,
      ⟨some kk19, none, none, .load 1 false (.t kk18)⟩,
      ⟨some kk20, none, none, .bin .eql (.t kk19) (.c (.str 4 1163219540))⟩,
      ⟨some kk21, none, none, .mov (.t kk20)⟩,
      ⟨some kk22, some (kk21, false), none, .offs (.t kk3) 2⟩,
      ⟨some kk23, some (kk21, false), none, .load 1 false (.t kk22)⟩,
      ⟨some kk24, some (kk21, false), none, .bin .eql (.t kk23) (.c (.str 5 297750249798))⟩,
      ⟨some kk25, none, none, .pick (.t kk21) (.c (.bool true)) (.t kk24)⟩,
      ⟨some kk26, none, none, .mov (.t kk25)⟩,
      ⟨some kk27, some (kk26, false), none, .offs (.t kk3) 2⟩,
      ⟨some kk28, some (kk26, false), none, .load 1 false (.t kk27)⟩,
      ⟨some kk29, some (kk26, false), none, .bin .eql (.t kk28) (.c (.str 4 1280070990))⟩,
      ⟨some kk30, none, none, .pick (.t kk26) (.c (.bool true)) (.t kk29)⟩,
      ⟨some kk2, none, none, .mov (.t kk30)⟩])
     .ret)
     .skip))))))))
 (.seq (.region false [⟨some kk2, none, none, .mov (.c (.bool false))⟩])
 .ret)))) }
theorem fn136 : fnOf Tryz.prog Tryz.f136 = some i136 := by kernel_rfl
/-- (*annalist.parser.parser).integer -/
noncomputable def i137 : IFn := { nt := 11, ps := [kk0, kk1], res := [.cell kk4 3 true], body :=
 (.seq (.region false [⟨some kk3, none, none, .box 4 1 1 (.t kk1)⟩,
  ⟨some kk4, none, none, .boxz 91 3 32 [(.int .i64 (.ofNat 0)), (.int .i64 (.ofNat 0)), (.str 0 0)]⟩])
 (.seq (.region false [⟨some kk6, none, none, .build [(.int .i64 (.ofNat 0)), (.int .i64 (.ofNat 0)), (.str 0 0)] [(0, 1, (.c (.int .i64 (.ofNat 1))))]⟩,
  ⟨some kk5, none, none, .boxz 91 3 32 [(.int .i64 (.ofNat 0)), (.int .i64 (.ofNat 0)), (.str 0 0)]⟩,
  ⟨none, none, none, .store 3 (.t kk5) (.t kk6)⟩])
 (.seq (.region false [⟨some kk7, none, none, .mov (.t kk0)⟩,
  ⟨some kk8, none, none, .mkfn 157 [(.t kk3), (.t kk5)]⟩,
  ⟨some kk9, none, none, .call 120 [(.t kk7), (.c (.int .i64 (.ofNat 3))), (.t kk8)]⟩])
 (.seq (.region false [⟨some kk10, none, none, .load 3 true (.t kk5)⟩,
  ⟨none, none, none, .store 3 (.t kk4) (.t kk10)⟩])
 .ret)))) }
theorem fn137 : fnOf Tryz.prog Tryz.f137 = some i137 := by kernel_rfl
/-- (*annalist.parser.parser).period$1 -/
noncomputable def i138 : IFn := { nt := 13, ps := [kk0, kk1], res := [.tmp kk3], body :=
 (.seq (.region false [⟨some kk3, none, none, .mov (.c (.int .i64 (.ofNat 0)))⟩])
 (.seq (.region false [⟨some kk7, none, none, .mov (.t kk0)⟩,
  ⟨some kk8, none, none, .call 139 [(.t kk7)]⟩,
  ⟨some kk6, none, none, .mov (.t kk8)⟩,
  ⟨some kk9, none, none, .extr (.t kk6) 0⟩,
  ⟨some kk10, none, none, .extr (.t kk6) 1⟩,
  ⟨some kk4, none, none, .boxz 40 2 16 [(.int .i64 (.ofNat 0)), (.int .i64 (.ofNat 0))]⟩,
  ⟨none, none, none, .store 2 (.t kk4) (.t kk9)⟩,
  ⟨some kk5, none, none, .mov (.t kk10)⟩])
 (.seq (.region false [⟨some kk11, none, none, .load 2 true (.t kk4)⟩,
  ⟨none, none, none, .store 2 (.t kk1) (.t kk11)⟩])
 (.seq (.region false [⟨some kk12, none, none, .mov (.t kk5)⟩,
  ⟨some kk3, none, none, .mov (.t kk12)⟩])
 .ret)))) }
theorem fn138 : fnOf Tryz.prog Tryz.f138 = some i138 := by kernel_rfl
/-- annalist.datefmt.ParsePeriod -/
noncomputable def i139 : IFn := { nt := 70, ps := [kk0], res := [.cell kk2 2 true, .tmp kk3], body :=
 (.seq (.region false [⟨some kk2, none, none, .boxz 40 2 16 [(.int .i64 (.ofNat 0)), (.int .i64 (.ofNat 0))]⟩,
  ⟨some kk3, none, none, .mov (.c (.int .i64 (.ofNat 0)))⟩])
 (.seq (.region false [⟨some kk12, none, none, .mov (.t kk0)⟩,
  ⟨some kk13, none, none, .call 159 [(.t kk12), (.c (.str 1 91))]⟩,
  ⟨some kk11, none, none, .mov (.t kk13)⟩,
  ⟨some kk14, none, none, .extr (.t kk11) 0⟩,
  ⟨some kk15, none, none, .extr (.t kk11) 1⟩,
  ⟨some kk4, none, none, .mov (.t kk14)⟩,
  ⟨some kk5, none, none, .mov (.t kk15)⟩])
 (.seq (.seq (.region false [⟨some kk16, none, none, .mov (.t kk5)⟩,
  ⟨some kk17, none, none, .un .not (.t kk16)⟩])
 (.cond (.t kk17)
  (.seq (.region false [⟨some kk18, none, none, .build [(.int .i64 (.ofNat 0)), (.int .i64 (.ofNat 0))] []⟩,
   ⟨none, none, none, .store 2 (.t kk2) (.t kk18)⟩,
   ⟨some kk3, none, none, .mov (.c (.int .i64 (.ofNat 5)))⟩])
  .ret)
  .skip))
 (.seq (.region false [⟨some kk20, none, none, .mov (.t kk4)⟩,
  ⟨some kk21, none, none, .call 160 [(.t kk20), (.c (.str 1 44))]⟩,
  ⟨some kk19, none, none, .mov (.t kk21)⟩,
  ⟨some kk22, none, none, .extr (.t kk19) 0⟩,
  ⟨some kk23, none, none, .extr (.t kk19) 1⟩,
  ⟨some kk24, none, none, .extr (.t kk19) 2⟩,
  ⟨some kk6, none, none, .mov (.t kk22)⟩,
  ⟨some kk7, none, none, .mov (.t kk23)⟩,
  ⟨some kk5, none, none, .mov (.t kk24)⟩])
 (.seq (.seq (.region false [⟨some kk25, none, none, .mov (.t kk5)⟩,
  ⟨some kk26, none, none, .un .not (.t kk25)⟩,
  ⟨some kk27, none, none, .mov (.t kk26)⟩,
  ⟨some kk28, some (kk27, false), none, .mov (.t kk7)⟩,
  ⟨some kk29, some (kk27, false), none, .call 161 [(.t kk28), (.c (.str 1 32))]⟩,
  ⟨some kk30, some (kk27, false), none, .un .not (.t kk29)⟩,
  ⟨some kk31, none, none, .pick (.t kk27) (.c (.bool true)) (.t kk30)⟩,
  ⟨some kk32, none, none, .mov (.t kk31)⟩,
  ⟨some kk33, some (kk32, false), none, .mov (.t kk7)⟩,
  ⟨some kk34, some (kk32, false), none, .call 34 [(.t kk33), (.c (.int .u8 (.ofNat 41)))]⟩,
  ⟨some kk35, some (kk32, false), none, .mov (.t kk7)⟩,
  ⟨some kk36, some (kk32, false), none, .lenS (.t kk35)⟩,
  ⟨some kk37, some (kk32, false), none, .bin .sub (.t kk36) (.c (.int .i64 (.ofNat 1)))⟩,
  ⟨some kk38, some (kk32, false), none, .bin .neq (.t kk34) (.t kk37)⟩,
  ⟨some kk39, none, none, .pick (.t kk32) (.c (.bool true)) (.t kk38)⟩])
 (.cond (.t kk39)
  (.seq (.region false [⟨some kk40, none, none, .build [(.int .i64 (.ofNat 0)), (.int .i64 (.ofNat 0))] []⟩,
   ⟨none, none, none, .store 2 (.t kk2) (.t kk40)⟩,
   ⟨some kk3, none, none, .mov (.c (.int .i64 (.ofNat 5)))⟩])
  .ret)
  .skip))
 (.seq (.region false [⟨some kk42, none, none, .mov (.t kk6)⟩,
  ⟨some kk43, none, none, .call 141 [(.t kk42)]⟩,
  ⟨some kk41, none, none, .mov (.t kk43)⟩,
  ⟨some kk44, none, none, .extr (.t kk41) 0⟩,
  ⟨some kk45, none, none, .extr (.t kk41) 1⟩,
  ⟨some kk8, none, none, .mov (.t kk44)⟩,
  ⟨some kk9, none, none, .mov (.t kk45)⟩])
 (.seq (.seq (.region false [⟨some kk46, none, none, .mov (.t kk9)⟩,
  ⟨some kk47, none, none, .bin .neq (.t kk46) (.c (.int .i64 (.ofNat 0)))⟩])
 (.cond (.t kk47)
  (.seq (.region false [⟨some kk48, none, none, .build [(.int .i64 (.ofNat 0)), (.int .i64 (.ofNat 0))] []⟩,
   ⟨some kk49, none, none, .mov (.t kk9)⟩,
   ⟨none, none, none, .store 2 (.t kk2) (.t kk48)⟩,
   ⟨some kk3, none, none, .mov (.t kk49)⟩])
  .ret)
  .skip))
 (.seq (.region false [⟨some kk51, none, none, .mov (.t kk7)⟩,
  ⟨some kk52, none, none, .mov (.t kk7)⟩,
  ⟨some kk53, none, none, .lenS (.t kk52)⟩,
  ⟨some kk54, none, none, .bin .sub (.t kk53) (.c (.int .i64 (.ofNat 1)))⟩,
  ⟨some kk55, none, none, .slStr (.t kk51) (some (.c (.int .i64 (.ofNat 1)))) (some (.t kk54))⟩,
  ⟨some kk56, none, none, .call 141 [(.t kk55)]⟩,
  ⟨some kk50, none, none, .mov (.t kk56)⟩,
  ⟨some kk57, none, none, .extr (.t kk50) 0⟩,
  ⟨some kk58, none, none, .extr (.t kk50) 1⟩,
  ⟨some kk10, none, none, .mov (.t kk57)⟩,
  ⟨some kk9, none, none, .mov (.t kk58)⟩])
 (.seq (.seq (.region false [⟨some kk59, none, none, .mov (.t kk9)⟩,
  ⟨some kk60, none, none, .bin .neq (.t kk59) (.c (.int .i64 (.ofNat 0)))⟩])
 (.cond (.t kk60)
  (.seq (.region false [⟨some kk61, none, none, .build [(.int .i64 (.ofNat 0)), (.int .i64 (.ofNat 0))] []⟩,
   ⟨some kk62, none, none, .mov (.t kk9)⟩,
   ⟨none, none, none, .store 2 (.t kk2) (.t kk61)⟩,
   ⟨some kk3, none, none, .mov (.t kk62)⟩])
  .ret)
  .skip))
 (.seq (.seq (.region false [⟨some kk63, none, none, .mov (.t kk8)⟩,
  ⟨some kk64, none, none, .mov (.t kk10)⟩,
  ⟨some kk65, none, none, .bin .geq (.t kk63) (.t kk64)⟩])
 (.cond (.t kk65)
  (.seq (.region false [⟨some kk66, none, none, .build [(.int .i64 (.ofNat 0)), (.int .i64 (.ofNat 0))] []⟩,
   ⟨none, none, none, .store 2 (.t kk2) (.t kk66)⟩,
   ⟨some kk3, none, none, .mov (.c (.int .i64 (.ofNat 10)))⟩])
  .ret)
  .skip))
 (.seq (.region false [⟨some kk67, none, none, .mov (.t kk8)⟩,
  ⟨some kk68, none, none, .mov (.t kk10)⟩,
  ⟨some kk69, none, none, .build [(.int .i64 (.ofNat 0)), (.int .i64 (.ofNat 0))] [(0, 1, (.t kk67)), (1, 1, (.t kk68))]⟩,
  ⟨none, none, none, .store 2 (.t kk2) (.t kk69)⟩,
  ⟨some kk3, none, none, .mov (.c (.int .i64 (.ofNat 0)))⟩])
 .ret))))))))))) }
theorem fn139 : fnOf Tryz.prog Tryz.f139 = some i139 := by kernel_rfl
/-- (*annalist.parser.parser).day$1 -/
noncomputable def i140 : IFn := { nt := 19, ps := [kk0, kk1], res := [.tmp kk3], body :=
 (.seq (.region false [⟨some kk3, none, none, .mov (.c (.int .i64 (.ofNat 0)))⟩])
 (.seq (.region false [⟨some kk7, none, none, .mov (.t kk0)⟩,
  ⟨some kk8, none, none, .call 141 [(.t kk7)]⟩,
  ⟨some kk6, none, none, .mov (.t kk8)⟩,
  ⟨some kk9, none, none, .extr (.t kk6) 0⟩,
  ⟨some kk10, none, none, .extr (.t kk6) 1⟩,
  ⟨some kk4, none, none, .mov (.t kk9)⟩,
  ⟨some kk5, none, none, .mov (.t kk10)⟩])
 (.seq (.seq (.region false [⟨some kk11, none, none, .mov (.t kk5)⟩,
  ⟨some kk12, none, none, .bin .eql (.t kk11) (.c (.int .i64 (.ofNat 0)))⟩,
  ⟨some kk13, none, none, .mov (.t kk12)⟩,
  ⟨some kk14, some (kk13, true), none, .mov (.t kk4)⟩,
  ⟨some kk15, some (kk13, true), none, .bin .geq (.t kk14) (.c (.int .i64 (.ofNat 1000000)))⟩,
  ⟨some kk16, none, none, .pick (.t kk13) (.t kk15) (.c (.bool false))⟩])
 (.cond (.t kk16)
  (.region false [⟨some kk5, none, none, .mov (.c (.int .i64 (.ofNat 10)))⟩])
  .skip))
 (.seq (.region false [⟨some kk17, none, none, .mov (.t kk4)⟩,
  ⟨none, none, none, .store 1 (.t kk1) (.t kk17)⟩])
 (.seq (.region false [⟨some kk18, none, none, .mov (.t kk5)⟩,
  ⟨some kk3, none, none, .mov (.t kk18)⟩])
 .ret))))) }
theorem fn140 : fnOf Tryz.prog Tryz.f140 = some i140 := by kernel_rfl
/-- annalist.datefmt.ParseDay -/
noncomputable def i141 : IFn := { nt := 65, ps := [kk0], res := [.tmp kk2, .tmp kk3], body :=
 (.seq (.region false [⟨some kk2, none, none, .mov (.c (.int .i64 (.ofNat 0)))⟩,
  ⟨some kk3, none, none, .mov (.c (.int .i64 (.ofNat 0)))⟩])
 (.seq (.seq (.region false [⟨some kk12, none, none, .mov (.t kk0)⟩,
  ⟨some kk13, none, none, .bin .eql (.t kk12) (.c (.str 7 32199706527559526))⟩])
 (.cond (.t kk13)
  (.seq (.region false [⟨some kk2, none, none, .mov (.c (.int .i64 (.ofNat 1000000)))⟩,
   ⟨some kk3, none, none, .mov (.c (.int .i64 (.ofNat 0)))⟩])
  .ret)
  .skip))
 (.seq (.seq (.region false [⟨some kk14, none, none, .mov (.t kk0)⟩,
  ⟨some kk15, none, none, .lenS (.t kk14)⟩,
  ⟨some kk16, none, none, .bin .neq (.t kk15) (.c (.int .i64 (.ofNat 10)))⟩,
  ⟨some kk17, none, none, .mov (.t kk16)⟩,
  ⟨some kk18, some (kk17, false), none, .mov (.t kk0)⟩,
  ⟨some kk19, some (kk17, false), none, .idxStr (.t kk18) (.c (.int .i64 (.ofNat 4)))⟩,
  ⟨some kk20, some (kk17, false), none, .bin .neq (.t kk19) (.c (.int .u8 (.ofNat 45)))⟩,
  ⟨some kk21, none, none, .pick (.t kk17) (.c (.bool true)) (.t kk20)⟩,
  ⟨some kk22, none, none, .mov (.t kk21)⟩,
  ⟨some kk23, some (kk22, false), none, .mov (.t kk0)⟩,
  ⟨some kk24, some (kk22, false), none, .idxStr (.t kk23) (.c (.int .i64 (.ofNat 7)))⟩,
  ⟨some kk25, some (kk22, false), none, .bin .neq (.t kk24) (.c (.int .u8 (.ofNat 45)))⟩,
  ⟨some kk26, none, none, .pick (.t kk22) (.c (.bool true)) (.t kk25)⟩])
 (.cond (.t kk26)
  (.seq (.region false [⟨some kk2, none, none, .mov (.c (.int .i64 (.ofNat 0)))⟩,
   ⟨some kk3, none, none, .mov (.c (.int .i64 (.ofNat 5)))⟩])
  .ret)
  .skip))
 (.seq (.region false [⟨some kk28, none, none, .mov (.t kk0)⟩,
  ⟨some kk29, none, none, .slStr (.t kk28) none (some (.c (.int .i64 (.ofNat 4))))⟩,
  ⟨some kk30, none, none, .call 162 [(.t kk29)]⟩,
  ⟨some kk27, none, none, .mov (.t kk30)⟩,
  ⟨some kk31, none, none, .extr (.t kk27) 0⟩,
  ⟨some kk32, none, none, .extr (.t kk27) 1⟩,
  ⟨some kk4, none, none, .mov (.t kk31)⟩,
  ⟨some kk5, none, none, .mov (.t kk32)⟩])
 (.seq (.region false [⟨some kk34, none, none, .mov (.t kk0)⟩,
  ⟨some kk35, none, none, .slStr (.t kk34) (some (.c (.int .i64 (.ofNat 5)))) (some (.c (.int .i64 (.ofNat 7))))⟩,
  ⟨some kk36, none, none, .call 162 [(.t kk35)]⟩,
  ⟨some kk33, none, none, .mov (.t kk36)⟩,
  ⟨some kk37, none, none, .extr (.t kk33) 0⟩,
  ⟨some kk38, none, none, .extr (.t kk33) 1⟩,
  ⟨some kk6, none, none, .mov (.t kk37)⟩,
  ⟨some kk7, none, none, .mov (.t kk38)⟩])
 (.seq (.region false [⟨some kk40, none, none, .mov (.t kk0)⟩,
  ⟨some kk41, none, none, .slStr (.t kk40) (some (.c (.int .i64 (.ofNat 8)))) none⟩,
  ⟨some kk42, none, none, .call 162 [(.t kk41)]⟩,
  ⟨some kk39, none, none, .mov (.t kk42)⟩,
  ⟨some kk43, none, none, .extr (.t kk39) 0⟩,
  ⟨some kk44, none, none, .extr (.t kk39) 1⟩,
  ⟨some kk8, none, none, .mov (.t kk43)⟩,
  ⟨some kk9, none, none, .mov (.t kk44)⟩])
 (.seq (.seq (.region false [⟨some kk45, none, none, .mov (.t kk5)⟩,
  ⟨some kk46, none, none, .un .not (.t kk45)⟩,
  ⟨some kk47, none, none, .mov (.t kk46)⟩,
  ⟨some kk48, some (kk47, false), none, .mov (.t kk7)⟩,
  ⟨some kk49, some (kk47, false), none, .un .not (.t kk48)⟩,
  ⟨some kk50, none, none, .pick (.t kk47) (.c (.bool true)) (.t kk49)⟩,
  ⟨some kk51, none, none, .mov (.t kk50)⟩,
  ⟨some kk52, some (kk51, false), none, .mov (.t kk9)⟩,
  ⟨some kk53, some (kk51, false), none, .un .not (.t kk52)⟩,
  ⟨some kk54, none, none, .pick (.t kk51) (.c (.bool true)) (.t kk53)⟩])
 (.cond (.t kk54)
  (.seq (.region false [⟨some kk2, none, none, .mov (.c (.int .i64 (.ofNat 0)))⟩,
   ⟨some kk3, none, none, .mov (.c (.int .i64 (.ofNat 5)))⟩])
  .ret)
  .skip))
 (.seq (.region false [⟨some kk56, none, none, .mov (.t kk4)⟩,
  ⟨some kk57, none, none, .mov (.t kk6)⟩,
  ⟨some kk58, none, none, .mov (.t kk8)⟩,
  ⟨some kk59, none, none, .call 163 [(.t kk56), (.t kk57), (.t kk58)]⟩,
  ⟨some kk55, none, none, .mov (.t kk59)⟩,
  ⟨some kk60, none, none, .extr (.t kk55) 0⟩,
  ⟨some kk61, none, none, .extr (.t kk55) 1⟩,
  ⟨some kk10, none, none, .mov (.t kk60)⟩,
  ⟨some kk11, none, none, .mov (.t kk61)⟩])
 (.seq (.seq (.region false [⟨some kk62, none, none, .mov (.t kk11)⟩,
  ⟨some kk63, none, none, .un .not (.t kk62)⟩])
 (.cond (.t kk63)
  (.seq (.region false [⟨some kk2, none, none, .mov (.c (.int .i64 (.ofNat 0)))⟩,
   ⟨some kk3, none, none, .mov (.c (.int .i64 (.ofNat 10)))⟩])
  .ret)
  .skip))
 (.seq (.region false [⟨some kk64, none, none, .mov (.t kk10)⟩,
  ⟨some kk2, none, none, .mov (.t kk64)⟩,
  ⟨some kk3, none, none, .mov (.c (.int .i64 (.ofNat 0)))⟩])
 .ret)))))))))) }
theorem fn141 : fnOf Tryz.prog Tryz.f141 = some i141 := by kernel_rfl
/-- internal.strconv.ParseUint -/
noncomputable def i142 : IFn := { nt := 172, ps := [kk0, kk1, kk2], res := [.tmp kk6, .tmp kk7], body :=
 (.seq (.region false [⟨some kk6, none, none, .mov (.c (.int .u64 (.ofNat 0)))⟩,
  ⟨some kk7, none, none, .mov (.c .niliface)⟩])
 (.seq (.seq (.region false [⟨some kk18, none, none, .mov (.t kk0)⟩,
  ⟨some kk19, none, none, .bin .eql (.t kk18) (.c (.str 0 0))⟩])
 (.cond (.t kk19)
  (.seq (.region false [⟨some kk20, none, none, .mkif 202 (.c (.int .i64 (.ofNat 2)))⟩,
   ⟨some kk6, none, none, .mov (.c (.int .u64 (.ofNat 0)))⟩,
   ⟨some kk7, none, none, .mov (.t kk20)⟩])
  .ret)
  .skip))
 (.seq (.region false [⟨some kk21, none, none, .mov (.t kk1)⟩,
  ⟨some kk22, none, none, .bin .eql (.t kk21) (.c (.int .i64 (.ofNat 0)))⟩,
  ⟨some kk8, none, none, .mov (.t kk22)⟩])
 (.seq (.region false [⟨some kk23, none, none, .mov (.t kk0)⟩,
  ⟨some kk9, none, none, .mov (.t kk23)⟩])
 (.seq (.block 0 (.seq (.region false [⟨some kk26, none, none, .mov (.t kk1)⟩,
   ⟨some kk27, none, none, .bin .leq (.c (.int .i64 (.ofNat 2))) (.t kk26)⟩,
   ⟨some kk28, none, none, .mov (.t kk27)⟩,
   ⟨some kk29, some (kk28, true), none, .mov (.t kk1)⟩,
   ⟨some kk30, some (kk28, true), none, .bin .leq (.t kk29) (.c (.int .i64 (.ofNat 36)))⟩,
   ⟨some kk31, none, none, .pick (.t kk28) (.t kk30) (.c (.bool false))⟩,
   ⟨some kk25, none, none, .mov (.t kk31)⟩])
  (.cond (.t kk25)
   .skip
   (.seq (.region false [⟨some kk33, none, none, .mov (.t kk1)⟩,
    ⟨some kk34, none, none, .bin .eql (.t kk33) (.c (.int .i64 (.ofNat 0)))⟩,
    ⟨some kk32, none, none, .mov (.t kk34)⟩])
   (.cond (.t kk32)
    (.seq (.region false [⟨some kk1, none, none, .mov (.c (.int .i64 (.ofNat 10)))⟩])
    (.seq (.region false [⟨some kk35, none, none, .mov (.t kk0)⟩,
     ⟨some kk36, none, none, .idxStr (.t kk35) (.c (.int .i64 (.ofNat 0)))⟩,
     ⟨some kk37, none, none, .bin .eql (.t kk36) (.c (.int .u8 (.ofNat 48)))⟩])
    (.cond (.t kk37)
     (.block 1 (.seq (.region false [⟨some kk41, none, none, .mov (.t kk0)⟩,
       ⟨some kk42, none, none, .lenS (.t kk41)⟩,
       ⟨some kk43, none, none, .bin .geq (.t kk42) (.c (.int .i64 (.ofNat 3)))⟩,
       ⟨some kk44, none, none, .mov (.t kk43)⟩,
       ⟨some kk45, some (kk44, true), none, .mov (.t kk0)⟩,
       ⟨some kk46, some (kk44, true), none, .idxStr (.t kk45) (.c (.int .i64 (.ofNat 1)))⟩,
       ⟨some kk47, some (kk44, true), none, .call 164 [(.t kk46)]⟩,
       ⟨some kk48, some (kk44, true), none, .bin .eql (.t kk47) (.c (.int .u8 (.ofNat 98)))⟩,
       ⟨some kk49, none, none, .pick (.t kk44) (.t kk48) (.c (.bool false))⟩,
       ⟨some kk40, none, none, .mov (.t kk49)⟩])
      (.cond (.t kk40)
       (.seq (.region false [⟨some kk1, none, none, .mov (.c (.int .i64 (.ofNat 2)))⟩])
       (.region false [⟨some kk50, none, none, .mov (.t kk0)⟩,
        ⟨some kk51, none, none, .slStr (.t kk50) (some (.c (.int .i64 (.ofNat 2)))) none⟩,
        ⟨some kk0, none, none, .mov (.t kk51)⟩]))
       (.seq (.region false [⟨some kk53, none, none, .mov (.t kk0)⟩,
        ⟨some kk54, none, none, .lenS (.t kk53)⟩,
        ⟨some kk55, none, none, .bin .geq (.t kk54) (.c (.int .i64 (.ofNat 3)))⟩,
        ⟨some kk56, none, none, .mov (.t kk55)⟩,
        ⟨some kk57, some (kk56, true), none, .mov (.t kk0)⟩,
        ⟨some kk58, some (kk56, true), none, .idxStr (.t kk57) (.c (.int .i64 (.ofNat 1)))⟩,
        ⟨some kk59, some (kk56, true), none, .call 164 [(.t kk58)]⟩,
        ⟨some kk60, some (kk56, true), none, .bin .eql (.t kk59) (.c (.int .u8 (.ofNat 111)))⟩,
        ⟨some kk61, none, none, .pick (.t kk56) (.t kk60) (.c (.bool false))⟩,
        ⟨some kk52, none, none, .mov (.t kk61)⟩])
       (.cond (.t kk52)
        (.seq (.region false [⟨some kk1, none, none, .mov (.c (.int .i64 (.ofNat 8)))⟩])
        (.region false [⟨some kk62, none, none, .mov (.t kk0)⟩,
         ⟨some kk63, none, none, .slStr (.t kk62) (some (.c (.int .i64 (.ofNat 2)))) none⟩,
         ⟨some kk0, none, none, .mov (.t kk63)⟩]))
        (.seq (.region false [⟨some kk65, none, none, .mov (.t kk0)⟩,
         ⟨some kk66, none, none, .lenS (.t kk65)⟩,
         ⟨some kk67, none, none, .bin .geq (.t kk66) (.c (.int .i64 (.ofNat 3)))⟩,
         ⟨some kk68, none, none, .mov (.t kk67)⟩,
         ⟨some kk69, some (kk68, true), none, .mov (.t kk0)⟩,
         ⟨some kk70, some (kk68, true), none, .idxStr (.t kk69) (.c (.int .i64 (.ofNat 1)))⟩,
         ⟨some kk71, some (kk68, true), none, .call 164 [(.t kk70)]⟩,
         ⟨some kk72, some (kk68, true), none, .bin .eql (.t kk71) (.c (.int .u8 (.ofNat 120)))⟩,
         ⟨some kk73, none, none, .pick (.t kk68) (.t kk72) (.c (.bool false))⟩,
         ⟨some kk64, none, none, .mov (.t kk73)⟩])
        (.cond (.t kk64)
         (.seq (.region false [⟨some kk1, none, none, .mov (.c (.int .i64 (.ofNat 16)))⟩])
         (.region false [⟨some kk74, none, none, .mov (.t kk0)⟩,
          ⟨some kk75, none, none, .slStr (.t kk74) (some (.c (.int .i64 (.ofNat 2)))) none⟩,
          ⟨some kk0, none, none, .mov (.t kk75)⟩]))
         (.seq (.region false [⟨some kk1, none, none, .mov (.c (.int .i64 (.ofNat 8)))⟩])
         (.region false [⟨some kk38, none, none, .mov (.t kk0)⟩,
          ⟨some kk39, none, none, .slStr (.t kk38) (some (.c (.int .i64 (.ofNat 1)))) none⟩,
          ⟨some kk0, none, none, .mov (.t kk39)⟩])))))))))
     .skip)))
    (.seq (.region false [⟨some kk24, none, none, .mkif 202 (.c (.int .i64 (.ofNat 3)))⟩,
     ⟨some kk6, none, none, .mov (.c (.int .u64 (.ofNat 0)))⟩,
     ⟨some kk7, none, none, .mov (.t kk24)⟩])
    .ret))))))
 (.seq (.seq (.region false [⟨some kk76, none, none, .mov (.t kk2)⟩,
  ⟨some kk77, none, none, .bin .eql (.t kk76) (.c (.int .i64 (.ofNat 0)))⟩])
 (.cond (.t kk77)
  (.region false [⟨some kk2, none, none, .mov (.c (.int .i64 (.ofNat 64)))⟩])
  (.seq (.region false [⟨some kk78, none, none, .mov (.t kk2)⟩,
   ⟨some kk79, none, none, .bin .lss (.t kk78) (.c (.int .i64 (.ofNat 0)))⟩,
   ⟨some kk80, none, none, .mov (.t kk79)⟩,
   ⟨some kk81, some (kk80, false), none, .mov (.t kk2)⟩,
   ⟨some kk82, some (kk80, false), none, .bin .gtr (.t kk81) (.c (.int .i64 (.ofNat 64)))⟩,
   ⟨some kk83, none, none, .pick (.t kk80) (.c (.bool true)) (.t kk82)⟩])
  (.cond (.t kk83)
   (.seq (.region false [⟨some kk84, none, none, .mkif 202 (.c (.int .i64 (.ofNat 4)))⟩,
    ⟨some kk6, none, none, .mov (.c (.int .u64 (.ofNat 0)))⟩,
    ⟨some kk7, none, none, .mov (.t kk84)⟩])
   .ret)
   .skip))))
 (.seq (.region false [⟨some kk10, none, none, .mov (.c (.int .u64 (.ofNat 0)))⟩])
 (.seq (.seq (.region false [⟨some kk85, none, none, .mov (.t kk1)⟩])
 (.block 2 (.seq (.region false [⟨some kk91, none, none, .bin .eql (.t kk85) (.c (.int .i64 (.ofNat 10)))⟩,
   ⟨some kk90, none, none, .mov (.t kk91)⟩])
  (.cond (.t kk90)
   (.region false [⟨some kk10, none, none, .mov (.c (.int .u64 (.ofNat 1844674407370955162)))⟩])
   (.seq (.region false [⟨some kk93, none, none, .bin .eql (.t kk85) (.c (.int .i64 (.ofNat 16)))⟩,
    ⟨some kk92, none, none, .mov (.t kk93)⟩])
   (.cond (.t kk92)
    (.region false [⟨some kk10, none, none, .mov (.c (.int .u64 (.ofNat 1152921504606846976)))⟩])
    (.region false [⟨some kk86, none, none, .mov (.t kk1)⟩,
     ⟨some kk87, none, none, .conv .u64 (.t kk86)⟩,
     ⟨some kk88, none, none, .bin .quo (.c (.int .u64 (.ofNat 18446744073709551615))) (.t kk87)⟩,
     ⟨some kk89, none, none, .bin .add (.t kk88) (.c (.int .u64 (.ofNat 1)))⟩,
     ⟨some kk10, none, none, .mov (.t kk89)⟩])))))))
 (.seq (.region false [⟨some kk94, none, none, .mov (.t kk2)⟩,
  ⟨some kk95, none, none, .conv .u64 (.t kk94)⟩,
  ⟨some kk96, none, none, .bin .shl (.c (.int .u64 (.ofNat 1))) (.t kk95)⟩,
  ⟨some kk97, none, none, .bin .sub (.t kk96) (.c (.int .u64 (.ofNat 1)))⟩,
  ⟨some kk11, none, none, .mov (.t kk97)⟩])
 (.seq (.region false [⟨some kk12, none, none, .mov (.c (.bool false))⟩])
 (.seq (.region false [⟨some kk13, none, none, .mov (.c (.int .u64 (.ofNat 0)))⟩])
 (.seq (.seq (.region false [⟨some kk98, none, none, .mov (.t kk0)⟩,
  ⟨some kk99, none, none, .convSB 5 (.t kk98)⟩,
  ⟨some kk100, none, none, .len (.t kk99)⟩,
  ⟨some kk101, none, none, .mov (.c (.int .i64 (.ofNat 0)))⟩])
 (.block 3 (.loop (.seq (.region false [⟨some kk102, none, none, .bin .lss (.t kk101) (.t kk100)⟩])
   (.seq (.cond (.t kk102)
    .skip
    (.exit 3))
   (.seq (.block 4 (.seq (.region false [⟨some kk103, none, none, .idxSl 1 (.t kk99) (.t kk101)⟩,
     ⟨some kk104, none, none, .load 1 false (.t kk103)⟩,
     ⟨some kk15, none, none, .mov (.t kk104)⟩])
    (.seq (.region false [⟨some kk16, none, none, .mov (.c (.int .u8 (.ofNat 0)))⟩])
    (.seq (.block 5 (.seq (.region false [⟨some kk107, none, none, .mov (.t kk15)⟩,
      ⟨some kk108, none, none, .bin .eql (.t kk107) (.c (.int .u8 (.ofNat 95)))⟩,
      ⟨some kk109, none, none, .mov (.t kk108)⟩,
      ⟨some kk110, some (kk109, true), none, .mov (.t kk8)⟩,
      ⟨some kk111, none, none, .pick (.t kk109) (.t kk110) (.c (.bool false))⟩,
      ⟨some kk106, none, none, .mov (.t kk111)⟩])
     (.cond (.t kk106)
      (.seq (.region false [⟨some kk12, none, none, .mov (.c (.bool true))⟩])
      (.exit 4))
      (.seq (.region false [⟨some kk113, none, none, .mov (.t kk15)⟩,
       ⟨some kk114, none, none, .bin .leq (.c (.int .u8 (.ofNat 48))) (.t kk113)⟩,
       ⟨some kk115, none, none, .mov (.t kk114)⟩,
       ⟨some kk116, some (kk115, true), none, .mov (.t kk15)⟩,
       ⟨some kk117, some (kk115, true), none, .bin .leq (.t kk116) (.c (.int .u8 (.ofNat 57)))⟩,
       ⟨some kk118, none, none, .pick (.t kk115) (.t kk117) (.c (.bool false))⟩,
       ⟨some kk112, none, none, .mov (.t kk118)⟩])
      (.cond (.t kk112)
       (.region false [⟨some kk119, none, none, .mov (.t kk15)⟩,
        ⟨some kk120, none, none, .bin .sub (.t kk119) (.c (.int .u8 (.ofNat 48)))⟩,
        ⟨some kk16, none, none, .mov (.t kk120)⟩])
       (.seq (.region false [⟨some kk122, none, none, .mov (.t kk15)⟩,
        ⟨some kk123, none, none, .call 164 [(.t kk122)]⟩,
        ⟨some kk124, none, none, .bin .leq (.c (.int .u8 (.ofNat 97))) (.t kk123)⟩,
        ⟨some kk125, none, none, .mov (.t kk124)⟩,
        ⟨some kk126, some (kk125, true), none, .mov (.t kk15)⟩,
        ⟨some kk127, some (kk125, true), none, .call 164 [(.t kk126)]⟩,
        ⟨some kk128, some (kk125, true), none, .bin .leq (.t kk127) (.c (.int .u8 (.ofNat 122)))⟩,
        ⟨some kk129, none, none, .pick (.t kk125) (.t kk128) (.c (.bool false))⟩,
        ⟨some kk121, none, none, .mov (.t kk129)⟩])
       (.cond (.t kk121)
        (.region false [⟨some kk130, none, none, .mov (.t kk15)⟩,
         ⟨some kk131, none, none, .call 164 [(.t kk130)]⟩,
         ⟨some kk132, none, none, .bin .sub (.t kk131) (.c (.int .u8 (.ofNat 97)))⟩,
         ⟨some kk133, none, none, .bin .add (.t kk132) (.c (.int .u8 (.ofNat 10)))⟩,
         ⟨some kk16, none, none, .mov (.t kk133)⟩])
        (.seq (.region false [⟨some kk105, none, none, .mkif 202 (.c (.int .i64 (.ofNat 2)))⟩,
         ⟨some kk6, none, none, .mov (.c (.int .u64 (.ofNat 0)))⟩,
         ⟨some kk7, none, none, .mov (.t kk105)⟩])
        .ret))))))))
    (.seq (.seq (.region false [⟨some kk134, none, none, .mov (.t kk16)⟩,
     ⟨some kk135, none, none, .mov (.t kk1)⟩,
     ⟨some kk136, none, none, .conv .u8 (.t kk135)⟩,
     ⟨some kk137, none, none, .bin .geq (.t kk134) (.t kk136)⟩])
    (.cond (.t kk137)
     (.seq (.region false [⟨some kk138, none, none, .mkif 202 (.c (.int .i64 (.ofNat 2)))⟩,
      ⟨some kk6, none, none, .mov (.c (.int .u64 (.ofNat 0)))⟩,
      ⟨some kk7, none, none, .mov (.t kk138)⟩])
     .ret)
     .skip))
    (.seq (.seq (.region false [⟨some kk139, none, none, .mov (.t kk13)⟩,
     ⟨some kk140, none, none, .mov (.t kk10)⟩,
     ⟨some kk141, none, none, .bin .geq (.t kk139) (.t kk140)⟩])
    (.cond (.t kk141)
     (.seq (.region false [⟨some kk142, none, none, .mov (.t kk11)⟩,
      ⟨some kk143, none, none, .mkif 202 (.c (.int .i64 (.ofNat 1)))⟩,
      ⟨some kk6, none, none, .mov (.t kk142)⟩,
      ⟨some kk7, none, none, .mov (.t kk143)⟩])
     .ret)
     .skip))
    (.seq (.region false [⟨some kk144, none, none, .mov (.t kk13)⟩,
     ⟨some kk145, none, none, .mov (.t kk1)⟩,
     ⟨some kk146, none, none, .conv .u64 (.t kk145)⟩,
     ⟨some kk147, none, none, .bin .mul (.t kk144) (.t kk146)⟩,
     ⟨some kk13, none, none, .mov (.t kk147)⟩])
    (.seq (.region false [⟨some kk148, none, none, .mov (.t kk13)⟩,
     ⟨some kk149, none, none, .mov (.t kk16)⟩,
     ⟨some kk150, none, none, .conv .u64 (.t kk149)⟩,
     ⟨some kk151, none, none, .bin .add (.t kk148) (.t kk150)⟩,
     ⟨some kk17, none, none, .mov (.t kk151)⟩])
    (.seq (.seq (.region false [⟨some kk152, none, none, .mov (.t kk17)⟩,
     ⟨some kk153, none, none, .mov (.t kk13)⟩,
     ⟨some kk154, none, none, .bin .lss (.t kk152) (.t kk153)⟩,
     ⟨some kk155, none, none, .mov (.t kk154)⟩,
     ⟨some kk156, some (kk155, false), none, .mov (.t kk17)⟩,
     ⟨some kk157, some (kk155, false), none, .mov (.t kk11)⟩,
     ⟨some kk158, some (kk155, false), none, .bin .gtr (.t kk156) (.t kk157)⟩,
     ⟨some kk159, none, none, .pick (.t kk155) (.c (.bool true)) (.t kk158)⟩])
    (.cond (.t kk159)
     (.seq (.region false [⟨some kk160, none, none, .mov (.t kk11)⟩,
      ⟨some kk161, none, none, .mkif 202 (.c (.int .i64 (.ofNat 1)))⟩,
      ⟨some kk6, none, none, .mov (.t kk160)⟩,
      ⟨some kk7, none, none, .mov (.t kk161)⟩])
     .ret)
     .skip))
    (.region false [⟨some kk162, none, none, .mov (.t kk17)⟩,
     ⟨some kk13, none, none, .mov (.t kk162)⟩]))))))))))
   (.region false [⟨some kk163, none, none, .bin .add (.t kk101) (.c (.int .i64 (.ofNat 1)))⟩,
    ⟨some kk101, none, none, .mov (.t kk163)⟩])))))))
 (.seq (.seq (.region false [⟨some kk164, none, none, .mov (.t kk12)⟩,
  ⟨some kk165, none, none, .mov (.t kk164)⟩,
  ⟨some kk166, some (kk165, true), none, .mov (.t kk9)⟩,
  ⟨some kk167, some (kk165, true), none, .call 165 [(.t kk166)]⟩,
  ⟨some kk168, some (kk165, true), none, .un .not (.t kk167)⟩,
  ⟨some kk169, none, none, .pick (.t kk165) (.t kk168) (.c (.bool false))⟩])
 (.cond (.t kk169)
  (.seq (.region false [⟨some kk170, none, none, .mkif 202 (.c (.int .i64 (.ofNat 2)))⟩,
   ⟨some kk6, none, none, .mov (.c (.int .u64 (.ofNat 0)))⟩,
   ⟨some kk7, none, none, .mov (.t kk170)⟩])
  .ret)
  .skip))
 (.seq (.region false [⟨some kk171, none, none, .mov (.t kk13)⟩,
  ⟨some kk6, none, none, .mov (.t kk171)⟩,
  ⟨some kk7, none, none, .mov (.c .niliface)⟩])
 .ret)))))))))))))) }
theorem fn142 : fnOf Tryz.prog Tryz.f142 = some i142 := by kernel_rfl
/-- strconv.toError -/
noncomputable def i143 : IFn := { nt := 43, ps := [kk0, kk1, kk2, kk3, kk4], res := [.tmp kk10], body :=
 (.seq (.region false [⟨some kk10, none, none, .mov (.c .niliface)⟩])
 (.seq (.seq (.region false [⟨some kk11, none, none, .mov (.t kk4)⟩])
 (.block 0 (.seq (.region false [⟨some kk13, none, none, .mkif 202 (.c (.int .i64 (.ofNat 2)))⟩,
   ⟨some kk14, none, none, .callv (.c .nilptr) []⟩,
   ⟨some kk12, none, none, .mov (.t kk14)⟩])
  (.cond (.t kk12)
   (.seq (.region false [⟨some kk15, none, none, .mov (.t kk0)⟩,
    ⟨some kk16, none, none, .mov (.t kk1)⟩,
    ⟨some kk17, none, none, .call 166 [(.t kk15), (.t kk16)]⟩,
    ⟨some kk18, none, none, .mkif 205 (.t kk17)⟩,
    ⟨some kk10, none, none, .mov (.t kk18)⟩])
   .ret)
   (.seq (.region false [⟨some kk20, none, none, .mkif 202 (.c (.int .i64 (.ofNat 1)))⟩,
    ⟨some kk21, none, none, .callv (.c .nilptr) []⟩,
    ⟨some kk19, none, none, .mov (.t kk21)⟩])
   (.cond (.t kk19)
    (.seq (.region false [⟨some kk22, none, none, .mov (.t kk0)⟩,
     ⟨some kk23, none, none, .mov (.t kk1)⟩,
     ⟨some kk24, none, none, .call 167 [(.t kk22), (.t kk23)]⟩,
     ⟨some kk25, none, none, .mkif 205 (.t kk24)⟩,
     ⟨some kk10, none, none, .mov (.t kk25)⟩])
    .ret)
    (.seq (.region false [⟨some kk27, none, none, .mkif 202 (.c (.int .i64 (.ofNat 3)))⟩,
     ⟨some kk28, none, none, .callv (.c .nilptr) []⟩,
     ⟨some kk26, none, none, .mov (.t kk28)⟩])
    (.cond (.t kk26)
     (.seq (.region false [⟨some kk29, none, none, .mov (.t kk0)⟩,
      ⟨some kk30, none, none, .mov (.t kk1)⟩,
      ⟨some kk31, none, none, .mov (.t kk2)⟩,
      ⟨some kk32, none, none, .call 168 [(.t kk29), (.t kk30), (.t kk31)]⟩,
      ⟨some kk33, none, none, .mkif 205 (.t kk32)⟩,
      ⟨some kk10, none, none, .mov (.t kk33)⟩])
     .ret)
     (.seq (.region false [⟨some kk35, none, none, .mkif 202 (.c (.int .i64 (.ofNat 4)))⟩,
      ⟨some kk36, none, none, .callv (.c .nilptr) []⟩,
      ⟨some kk34, none, none, .mov (.t kk36)⟩])
     (.cond (.t kk34)
      (.seq (.region false [⟨some kk37, none, none, .mov (.t kk0)⟩,
       ⟨some kk38, none, none, .mov (.t kk1)⟩,
       ⟨some kk39, none, none, .mov (.t kk3)⟩,
       ⟨some kk40, none, none, .call 169 [(.t kk37), (.t kk38), (.t kk39)]⟩,
       ⟨some kk41, none, none, .mkif 205 (.t kk40)⟩,
       ⟨some kk10, none, none, .mov (.t kk41)⟩])
      .ret)
      .skip))))))))))
 (.seq (.region false [⟨some kk42, none, none, .mov (.t kk4)⟩,
  ⟨some kk10, none, none, .mov (.t kk42)⟩])
 .ret))) }
theorem fn143 : fnOf Tryz.prog Tryz.f143 = some i143 := by kernel_rfl
/-- internal.strconv.small -/
noncomputable def i144 : IFn := { nt := 15, ps := [kk0], res := [.tmp kk2], body :=
 (.seq (.region false [⟨some kk2, none, none, .mov (.c (.str 0 0))⟩])
 (.seq (.seq (.region false [⟨some kk3, none, none, .mov (.t kk0)⟩,
  ⟨some kk4, none, none, .bin .lss (.t kk3) (.c (.int .i64 (.ofNat 10)))⟩])
 (.cond (.t kk4)
  (.seq (.region false [⟨some kk5, none, none, .mov (.t kk0)⟩,
   ⟨some kk6, none, none, .mov (.t kk0)⟩,
   ⟨some kk7, none, none, .bin .add (.t kk6) (.c (.int .i64 (.ofNat 1)))⟩,
   ⟨some kk8, none, none, .slStr (.c (.str 36 237927390410950444456928663707796224754864904193074819559483181009558347043374296609072)) (some (.t kk5)) (some (.t kk7))⟩,
   ⟨some kk2, none, none, .mov (.t kk8)⟩])
  .ret)
  .skip))
 (.seq (.region false [⟨some kk9, none, none, .mov (.t kk0)⟩,
  ⟨some kk10, none, none, .bin .mul (.t kk9) (.c (.int .i64 (.ofNat 2)))⟩,
  ⟨some kk11, none, none, .mov (.t kk0)⟩,
  ⟨some kk12, none, none, .bin .mul (.t kk11) (.c (.int .i64 (.ofNat 2)))⟩,
  ⟨some kk13, none, none, .bin .add (.t kk12) (.c (.int .i64 (.ofNat 2)))⟩,
  ⟨some kk14, none, none, .slStr (.c (.str 200 9938655150514779720929161263213647789093395803754561035662628441001274968862597953692946393464194303251501229616933063375291039650253924995779037586872666250072396106842829501851083234932712366962979930255066872747696324303968523733872590022915936937156789320557469720923390131174387415513794469201054844961267015441141542819553679203788501627738430154234325528792480477051962324423099068299719245009424585859096469223093538032153047611602695245052081125123941502624659711709950000)) (some (.t kk10)) (some (.t kk13))⟩,
  ⟨some kk2, none, none, .mov (.t kk14)⟩])
 .ret))) }
theorem fn144 : fnOf Tryz.prog Tryz.f144 = some i144 := by kernel_rfl
/-- internal.strconv.numDigits -/
noncomputable def i145 : IFn := { nt := 15, ps := [kk0], res := [.tmp kk2], body :=
 (.seq (.region false [⟨some kk2, none, none, .mov (.c (.int .i64 (.ofNat 0)))⟩])
 (.seq (.region false [⟨some kk4, none, none, .mov (.t kk0)⟩,
  ⟨some kk5, none, none, .call 171 [(.t kk4)]⟩,
  ⟨some kk6, none, none, .call 170 [(.t kk5)]⟩,
  ⟨some kk3, none, none, .mov (.t kk6)⟩])
 (.seq (.region false [⟨some kk7, none, none, .mov (.t kk3)⟩,
  ⟨some kk8, none, none, .mov (.t kk0)⟩,
  ⟨some kk9, none, none, .mov (.t kk3)⟩,
  ⟨some kk10, none, none, .idxArr 20 1 (.c (.ptr 1 1 0)) (.t kk9)⟩,
  ⟨some kk11, none, none, .load 1 false (.t kk10)⟩,
  ⟨some kk12, none, none, .bin .geq (.t kk8) (.t kk11)⟩,
  ⟨some kk13, none, none, .call 172 [(.t kk12)]⟩,
  ⟨some kk14, none, none, .bin .add (.t kk7) (.t kk13)⟩,
  ⟨some kk2, none, none, .mov (.t kk14)⟩])
 .ret))) }
theorem fn145 : fnOf Tryz.prog Tryz.f145 = some i145 := by kernel_rfl
/-- internal.strconv.formatBase10 -/
noncomputable def i146 : IFn := { nt := 167, ps := [kk0, kk1], res := [], body :=
 (.seq (.region false [⟨some kk17, none, none, .mov (.t kk0)⟩,
  ⟨some kk18, none, none, .len (.t kk17)⟩,
  ⟨some kk4, none, none, .mov (.t kk18)⟩])
 (.seq (.block 0 (.loop (.seq (.seq (.region false [⟨some kk19, none, none, .mov (.t kk4)⟩,
    ⟨some kk20, none, none, .bin .geq (.t kk19) (.c (.int .i64 (.ofNat 8)))⟩])
   (.cond (.t kk20)
    .skip
    (.exit 0)))
   (.block 1 (.seq (.region false [⟨some kk21, none, none, .mov (.t kk1)⟩,
     ⟨some kk22, none, none, .bin .rem (.t kk21) (.c (.int .u64 (.ofNat 100000000)))⟩,
     ⟨some kk23, none, none, .conv .u32 (.t kk22)⟩,
     ⟨some kk5, none, none, .mov (.t kk23)⟩])
    (.seq (.region false [⟨some kk24, none, none, .mov (.t kk1)⟩,
     ⟨some kk25, none, none, .bin .quo (.t kk24) (.c (.int .u64 (.ofNat 100000000)))⟩,
     ⟨some kk1, none, none, .mov (.t kk25)⟩])
    (.seq (.region false [⟨some kk26, none, none, .mov (.t kk5)⟩,
     ⟨some kk27, none, none, .bin .quo (.t kk26) (.c (.int .u32 (.ofNat 10000)))⟩,
     ⟨some kk28, none, none, .mov (.t kk5)⟩,
     ⟨some kk29, none, none, .bin .rem (.t kk28) (.c (.int .u32 (.ofNat 10000)))⟩,
     ⟨some kk6, none, none, .mov (.t kk27)⟩,
     ⟨some kk7, none, none, .mov (.t kk29)⟩])
    (.seq (.region false [⟨some kk30, none, none, .mov (.t kk7)⟩,
     ⟨some kk31, none, none, .bin .quo (.t kk30) (.c (.int .u32 (.ofNat 100)))⟩,
     ⟨some kk32, none, none, .bin .mul (.t kk31) (.c (.int .u32 (.ofNat 2)))⟩,
     ⟨some kk33, none, none, .mov (.t kk7)⟩,
     ⟨some kk34, none, none, .bin .rem (.t kk33) (.c (.int .u32 (.ofNat 100)))⟩,
     ⟨some kk35, none, none, .bin .mul (.t kk34) (.c (.int .u32 (.ofNat 2)))⟩,
     ⟨some kk8, none, none, .mov (.t kk32)⟩,
     ⟨some kk9, none, none, .mov (.t kk35)⟩])
    (.seq (.region false [⟨some kk36, none, none, .mov (.t kk6)⟩,
     ⟨some kk37, none, none, .bin .quo (.t kk36) (.c (.int .u32 (.ofNat 100)))⟩,
     ⟨some kk38, none, none, .bin .mul (.t kk37) (.c (.int .u32 (.ofNat 2)))⟩,
     ⟨some kk39, none, none, .mov (.t kk6)⟩,
     ⟨some kk40, none, none, .bin .rem (.t kk39) (.c (.int .u32 (.ofNat 100)))⟩,
     ⟨some kk41, none, none, .bin .mul (.t kk40) (.c (.int .u32 (.ofNat 2)))⟩,
     ⟨some kk10, none, none, .mov (.t kk38)⟩,
     ⟨some kk11, none, none, .mov (.t kk41)⟩])
    (.seq (.region true [⟨some kk42, none, none, .mov (.t kk0)⟩,
     ⟨some kk43, none, none, .mov (.t kk4)⟩,
     ⟨some kk44, none, none, .bin .sub (.t kk43) (.c (.int .i64 (.ofNat 1)))⟩,
     ⟨some kk45, none, none, .mov (.t kk0)⟩,
     ⟨some kk46, none, none, .mov (.t kk4)⟩,
     ⟨some kk47, none, none, .bin .sub (.t kk46) (.c (.int .i64 (.ofNat 2)))⟩,
     ⟨some kk48, none, none, .mov (.t kk9)⟩,
     ⟨some kk49, none, none, .bin .add (.t kk48) (.c (.int .u32 (.ofNat 1)))⟩,
     ⟨some kk50, none, none, .idxStr (.c (.str 200 9938655150514779720929161263213647789093395803754561035662628441001274968862597953692946393464194303251501229616933063375291039650253924995779037586872666250072396106842829501851083234932712366962979930255066872747696324303968523733872590022915936937156789320557469720923390131174387415513794469201054844961267015441141542819553679203788501627738430154234325528792480477051962324423099068299719245009424585859096469223093538032153047611602695245052081125123941502624659711709950000)) (.t kk49)⟩,
     ⟨some kk51, none, none, .mov (.t kk9)⟩,
     ⟨some kk52, none, none, .idxStr (.c (.str 200 9938655150514779720929161263213647789093395803754561035662628441001274968862597953692946393464194303251501229616933063375291039650253924995779037586872666250072396106842829501851083234932712366962979930255066872747696324303968523733872590022915936937156789320557469720923390131174387415513794469201054844961267015441141542819553679203788501627738430154234325528792480477051962324423099068299719245009424585859096469223093538032153047611602695245052081125123941502624659711709950000)) (.t kk51)⟩,
     ⟨some kk53, none, none, .idxSl 1 (.t kk42) (.t kk44)⟩,
     ⟨none, none, some [], .store 1 (.t kk53) (.t kk50)⟩,
     ⟨some kk54, none, none, .idxSl 1 (.t kk45) (.t kk47)⟩,
     ⟨none, none, some [], .store 1 (.t kk54) (.t kk52)⟩])
    (.seq (.region true [⟨some kk55, none, none, .mov (.t kk0)⟩,
     ⟨some kk56, none, none, .mov (.t kk4)⟩,
     ⟨some kk57, none, none, .bin .sub (.t kk56) (.c (.int .i64 (.ofNat 3)))⟩,
     ⟨some kk58, none, none, .mov (.t kk0)⟩,
     ⟨some kk59, none, none, .mov (.t kk4)⟩,
     ⟨some kk60, none, none, .bin .sub (.t kk59) (.c (.int .i64 (.ofNat 4)))⟩,
     ⟨some kk61, none, none, .mov (.t kk8)⟩,
     ⟨some kk62, none, none, .bin .add (.t kk61) (.c (.int .u32 (.ofNat 1)))⟩,
     ⟨some kk63, none, none, .idxStr (.c (.str 200 9938655150514779720929161263213647789093395803754561035662628441001274968862597953692946393464194303251501229616933063375291039650253924995779037586872666250072396106842829501851083234932712366962979930255066872747696324303968523733872590022915936937156789320557469720923390131174387415513794469201054844961267015441141542819553679203788501627738430154234325528792480477051962324423099068299719245009424585859096469223093538032153047611602695245052081125123941502624659711709950000)) (.t kk62)⟩,
     ⟨some kk64, none, none, .mov (.t kk8)⟩,
     ⟨some kk65, none, none, .idxStr (.c (.str 200 9938655150514779720929161263213647789093395803754561035662628441001274968862597953692946393464194303251501229616933063375291039650253924995779037586872666250072396106842829501851083234932712366962979930255066872747696324303968523733872590022915936937156789320557469720923390131174387415513794469201054844961267015441141542819553679203788501627738430154234325528792480477051962324423099068299719245009424585859096469223093538032153047611602695245052081125123941502624659711709950000)) (.t kk64)⟩,
     ⟨some kk66, none, none, .idxSl 1 (.t kk55) (.t kk57)⟩,
     ⟨none, none, some [], .store 1 (.t kk66) (.t kk63)⟩,
     ⟨some kk67, none, none, .idxSl 1 (.t kk58) (.t kk60)⟩,
     ⟨none, none, some [], .store 1 (.t kk67) (.t kk65)⟩])
    (.seq (.region true [⟨some kk68, none, none, .mov (.t kk0)⟩,
     ⟨some kk69, none, none, .mov (.t kk4)⟩,
     ⟨some kk70, none, none, .bin .sub (.t kk69) (.c (.int .i64 (.ofNat 5)))⟩,
     ⟨some kk71, none, none, .mov (.t kk0)⟩,
     ⟨some kk72, none, none, .mov (.t kk4)⟩,
     ⟨some kk73, none, none, .bin .sub (.t kk72) (.c (.int .i64 (.ofNat 6)))⟩,
     ⟨some kk74, none, none, .mov (.t kk11)⟩,
     ⟨some kk75, none, none, .bin .add (.t kk74) (.c (.int .u32 (.ofNat 1)))⟩,
     ⟨some kk76, none, none, .idxStr (.c (.str 200 9938655150514779720929161263213647789093395803754561035662628441001274968862597953692946393464194303251501229616933063375291039650253924995779037586872666250072396106842829501851083234932712366962979930255066872747696324303968523733872590022915936937156789320557469720923390131174387415513794469201054844961267015441141542819553679203788501627738430154234325528792480477051962324423099068299719245009424585859096469223093538032153047611602695245052081125123941502624659711709950000)) (.t kk75)⟩,
     ⟨some kk77, none, none, .mov (.t kk11)⟩,
     ⟨some kk78, none, none, .idxStr (.c (.str 200 9938655150514779720929161263213647789093395803754561035662628441001274968862597953692946393464194303251501229616933063375291039650253924995779037586872666250072396106842829501851083234932712366962979930255066872747696324303968523733872590022915936937156789320557469720923390131174387415513794469201054844961267015441141542819553679203788501627738430154234325528792480477051962324423099068299719245009424585859096469223093538032153047611602695245052081125123941502624659711709950000)) (.t kk77)⟩,
     ⟨some kk79, none, none, .idxSl 1 (.t kk68) (.t kk70)⟩,
     ⟨none, none, some [], .store 1 (.t kk79) (.t kk76)⟩,
     ⟨some kk80, none, none, .idxSl 1 (.t kk71) (.t kk73)⟩,
     ⟨none, none, some [], .store 1 (.t kk80) (.t kk78)⟩])
    (.seq (.region true [⟨some kk81, none, none, .mov (.t kk0)⟩,
     ⟨some kk82, none, none, .mov (.t kk4)⟩,
     ⟨some kk83, none, none, .bin .sub (.t kk82) (.c (.int .i64 (.ofNat 7)))⟩,
     ⟨some kk84, none, none, .mov (.t kk0)⟩,
     ⟨some kk85, none, none, .mov (.t kk4)⟩,
     ⟨some kk86, none, none, .bin .sub (.t kk85) (.c (.int .i64 (.ofNat 8)))⟩,
     ⟨some kk87, none, none, .mov (.t kk10)⟩,
     ⟨some kk88, none, none, .bin .add (.t kk87) (.c (.int .u32 (.ofNat 1)))⟩,
     ⟨some kk89, none, none, .idxStr (.c (.str 200 9938655150514779720929161263213647789093395803754561035662628441001274968862597953692946393464194303251501229616933063375291039650253924995779037586872666250072396106842829501851083234932712366962979930255066872747696324303968523733872590022915936937156789320557469720923390131174387415513794469201054844961267015441141542819553679203788501627738430154234325528792480477051962324423099068299719245009424585859096469223093538032153047611602695245052081125123941502624659711709950000)) (.t kk88)⟩,
     ⟨some kk90, none, none, .mov (.t kk10)⟩,
     ⟨some kk91, none, none, .idxStr (.c (.str 200 9938655150514779720929161263213647789093395803754561035662628441001274968862597953692946393464194303251501229616933063375291039650253924995779037586872666250072396106842829501851083234932712366962979930255066872747696324303968523733872590022915936937156789320557469720923390131174387415513794469201054844961267015441141542819553679203788501627738430154234325528792480477051962324423099068299719245009424585859096469223093538032153047611602695245052081125123941502624659711709950000)) (.t kk90)⟩,
     ⟨some kk92, none, none, .idxSl 1 (.t kk81) (.t kk83)⟩,
     ⟨none, none, some [], .store 1 (.t kk92) (.t kk89)⟩,
     ⟨some kk93, none, none, .idxSl 1 (.t kk84) (.t kk86)⟩,
     ⟨none, none, some [], .store 1 (.t kk93) (.t kk91)⟩])
    (.region false [⟨some kk94, none, none, .mov (.t kk4)⟩,
     ⟨some kk95, none, none, .bin .sub (.t kk94) (.c (.int .i64 (.ofNat 8)))⟩,
     ⟨some kk4, none, none, .mov (.t kk95)⟩]))))))))))))))
 (.seq (.region false [⟨some kk96, none, none, .mov (.t kk1)⟩,
  ⟨some kk97, none, none, .conv .u32 (.t kk96)⟩,
  ⟨some kk12, none, none, .mov (.t kk97)⟩])
 (.seq (.seq (.region false [⟨some kk98, none, none, .mov (.t kk4)⟩,
  ⟨some kk99, none, none, .bin .geq (.t kk98) (.c (.int .i64 (.ofNat 4)))⟩])
 (.cond (.t kk99)
  (.seq (.region false [⟨some kk100, none, none, .mov (.t kk12)⟩,
   ⟨some kk101, none, none, .bin .rem (.t kk100) (.c (.int .u32 (.ofNat 10000)))⟩,
   ⟨some kk13, none, none, .mov (.t kk101)⟩])
  (.seq (.region false [⟨some kk102, none, none, .mov (.t kk12)⟩,
   ⟨some kk103, none, none, .bin .quo (.t kk102) (.c (.int .u32 (.ofNat 10000)))⟩,
   ⟨some kk12, none, none, .mov (.t kk103)⟩])
  (.seq (.region false [⟨some kk104, none, none, .mov (.t kk13)⟩,
   ⟨some kk105, none, none, .bin .quo (.t kk104) (.c (.int .u32 (.ofNat 100)))⟩,
   ⟨some kk106, none, none, .bin .mul (.t kk105) (.c (.int .u32 (.ofNat 2)))⟩,
   ⟨some kk107, none, none, .mov (.t kk13)⟩,
   ⟨some kk108, none, none, .bin .rem (.t kk107) (.c (.int .u32 (.ofNat 100)))⟩,
   ⟨some kk109, none, none, .bin .mul (.t kk108) (.c (.int .u32 (.ofNat 2)))⟩,
   ⟨some kk14, none, none, .mov (.t kk106)⟩,
   ⟨some kk15, none, none, .mov (.t kk109)⟩])
  (.seq (.region true [⟨some kk110, none, none, .mov (.t kk0)⟩,
   ⟨some kk111, none, none, .mov (.t kk4)⟩,
   ⟨some kk112, none, none, .bin .sub (.t kk111) (.c (.int .i64 (.ofNat 1)))⟩,
   ⟨some kk113, none, none, .mov (.t kk0)⟩,
   ⟨some kk114, none, none, .mov (.t kk4)⟩,
   ⟨some kk115, none, none, .bin .sub (.t kk114) (.c (.int .i64 (.ofNat 2)))⟩,
   ⟨some kk116, none, none, .mov (.t kk15)⟩,
   ⟨some kk117, none, none, .bin .add (.t kk116) (.c (.int .u32 (.ofNat 1)))⟩,
   ⟨some kk118, none, none, .idxStr (.c (.str 200 9938655150514779720929161263213647789093395803754561035662628441001274968862597953692946393464194303251501229616933063375291039650253924995779037586872666250072396106842829501851083234932712366962979930255066872747696324303968523733872590022915936937156789320557469720923390131174387415513794469201054844961267015441141542819553679203788501627738430154234325528792480477051962324423099068299719245009424585859096469223093538032153047611602695245052081125123941502624659711709950000)) (.t kk117)⟩,
   ⟨some kk119, none, none, .mov (.t kk15)⟩,
   ⟨some kk120, none, none, .idxStr (.c (.str 200 9938655150514779720929161263213647789093395803754561035662628441001274968862597953692946393464194303251501229616933063375291039650253924995779037586872666250072396106842829501851083234932712366962979930255066872747696324303968523733872590022915936937156789320557469720923390131174387415513794469201054844961267015441141542819553679203788501627738430154234325528792480477051962324423099068299719245009424585859096469223093538032153047611602695245052081125123941502624659711709950000)) (.t kk119)⟩,
   ⟨some kk121, none, none, .idxSl 1 (.t kk110) (.t kk112)⟩,
   ⟨none, none, some [], .store 1 (.t kk121) (.t kk118)⟩,
   ⟨some kk122, none, none, .idxSl 1 (.t kk113) (.t kk115)⟩,
   ⟨none, none, some [], .store 1 (.t kk122) (.t kk120)⟩])
  (.seq (.region true [⟨some kk123, none, none, .mov (.t kk0)⟩,
   ⟨some kk124, none, none, .mov (.t kk4)⟩,
   ⟨some kk125, none, none, .bin .sub (.t kk124) (.c (.int .i64 (.ofNat 3)))⟩,
   ⟨some kk126, none, none, .mov (.t kk0)⟩,
   ⟨some kk127, none, none, .mov (.t kk4)⟩,
   ⟨some kk128, none, none, .bin .sub (.t kk127) (.c (.int .i64 (.ofNat 4)))⟩,
   ⟨some kk129, none, none, .mov (.t kk14)⟩,
   ⟨some kk130, none, none, .bin .add (.t kk129) (.c (.int .u32 (.ofNat 1)))⟩,
   ⟨some kk131, none, none, .idxStr (.c (.str 200 9938655150514779720929161263213647789093395803754561035662628441001274968862597953692946393464194303251501229616933063375291039650253924995779037586872666250072396106842829501851083234932712366962979930255066872747696324303968523733872590022915936937156789320557469720923390131174387415513794469201054844961267015441141542819553679203788501627738430154234325528792480477051962324423099068299719245009424585859096469223093538032153047611602695245052081125123941502624659711709950000)) (.t kk130)⟩,
   ⟨some kk132, none, none, .mov (.t kk14)⟩,
   ⟨some kk133, none, none, .idxStr (.c (.str 200 9938655150514779720929161263213647789093395803754561035662628441001274968862597953692946393464194303251501229616933063375291039650253924995779037586872666250072396106842829501851083234932712366962979930255066872747696324303968523733872590022915936937156789320557469720923390131174387415513794469201054844961267015441141542819553679203788501627738430154234325528792480477051962324423099068299719245009424585859096469223093538032153047611602695245052081125123941502624659711709950000)) (.t kk132)⟩,
   ⟨some kk134, none, none, .idxSl 1 (.t kk123) (.t kk125)⟩,
   ⟨none, none, some [], .store 1 (.t kk134) (.t kk131)⟩,
   ⟨some kk135, none, none, .idxSl 1 (.t kk126) (.t kk128)⟩,
   ⟨none, none, some [], .store 1 (.t kk135) (.t kk133)⟩])
  (.region false [⟨some kk136, none, none, .mov (.t kk4)⟩,
   ⟨some kk137, none, none, .bin .sub (.t kk136) (.c (.int .i64 (.ofNat 4)))⟩,
   ⟨some kk4, none, none, .mov (.t kk137)⟩]))))))
  .skip))
 (.seq (.seq (.region false [⟨some kk138, none, none, .mov (.t kk4)⟩,
  ⟨some kk139, none, none, .bin .geq (.t kk138) (.c (.int .i64 (.ofNat 2)))⟩])
 (.cond (.t kk139)
  (.seq (.region false [⟨some kk140, none, none, .mov (.t kk12)⟩,
   ⟨some kk141, none, none, .bin .rem (.t kk140) (.c (.int .u32 (.ofNat 100)))⟩,
   ⟨some kk142, none, none, .bin .mul (.t kk141) (.c (.int .u32 (.ofNat 2)))⟩,
   ⟨some kk16, none, none, .mov (.t kk142)⟩])
  (.seq (.region false [⟨some kk143, none, none, .mov (.t kk12)⟩,
   ⟨some kk144, none, none, .bin .quo (.t kk143) (.c (.int .u32 (.ofNat 100)))⟩,
   ⟨some kk12, none, none, .mov (.t kk144)⟩])
  (.seq (.region true [⟨some kk145, none, none, .mov (.t kk0)⟩,
   ⟨some kk146, none, none, .mov (.t kk4)⟩,
   ⟨some kk147, none, none, .bin .sub (.t kk146) (.c (.int .i64 (.ofNat 1)))⟩,
   ⟨some kk148, none, none, .mov (.t kk0)⟩,
   ⟨some kk149, none, none, .mov (.t kk4)⟩,
   ⟨some kk150, none, none, .bin .sub (.t kk149) (.c (.int .i64 (.ofNat 2)))⟩,
   ⟨some kk151, none, none, .mov (.t kk16)⟩,
   ⟨some kk152, none, none, .bin .add (.t kk151) (.c (.int .u32 (.ofNat 1)))⟩,
   ⟨some kk153, none, none, .idxStr (.c (.str 200 9938655150514779720929161263213647789093395803754561035662628441001274968862597953692946393464194303251501229616933063375291039650253924995779037586872666250072396106842829501851083234932712366962979930255066872747696324303968523733872590022915936937156789320557469720923390131174387415513794469201054844961267015441141542819553679203788501627738430154234325528792480477051962324423099068299719245009424585859096469223093538032153047611602695245052081125123941502624659711709950000)) (.t kk152)⟩,
   ⟨some kk154, none, none, .mov (.t kk16)⟩,
   ⟨some kk155, none, none, .idxStr (.c (.str 200 9938655150514779720929161263213647789093395803754561035662628441001274968862597953692946393464194303251501229616933063375291039650253924995779037586872666250072396106842829501851083234932712366962979930255066872747696324303968523733872590022915936937156789320557469720923390131174387415513794469201054844961267015441141542819553679203788501627738430154234325528792480477051962324423099068299719245009424585859096469223093538032153047611602695245052081125123941502624659711709950000)) (.t kk154)⟩,
   ⟨some kk156, none, none, .idxSl 1 (.t kk145) (.t kk147)⟩,
   ⟨none, none, some [], .store 1 (.t kk156) (.t kk153)⟩,
   ⟨some kk157, none, none, .idxSl 1 (.t kk148) (.t kk150)⟩,
   ⟨none, none, some [], .store 1 (.t kk157) (.t kk155)⟩])
  (.region false [⟨some kk158, none, none, .mov (.t kk4)⟩,
   ⟨some kk159, none, none, .bin .sub (.t kk158) (.c (.int .i64 (.ofNat 2)))⟩,
   ⟨some kk4, none, none, .mov (.t kk159)⟩]))))
  .skip))
 (.seq (.region false [⟨some kk160, none, none, .mov (.t kk4)⟩,
  ⟨some kk161, none, none, .bin .gtr (.t kk160) (.c (.int .i64 (.ofNat 0)))⟩])
 (.cond (.t kk161)
  (.region false [⟨some kk162, none, none, .mov (.t kk0)⟩,
   ⟨some kk163, none, none, .mov (.t kk12)⟩,
   ⟨some kk164, none, none, .bin .add (.c (.int .u32 (.ofNat 48))) (.t kk163)⟩,
   ⟨some kk165, none, none, .conv .u8 (.t kk164)⟩,
   ⟨some kk166, none, none, .idxSl 1 (.t kk162) (.c (.int .i64 (.ofNat 0)))⟩,
   ⟨none, none, none, .store 1 (.t kk166) (.t kk165)⟩])
  .skip))))))) }
theorem fn146 : fnOf Tryz.prog Tryz.f146 = some i146 := by kernel_rfl
/-- internal.strconv.formatBits -/
noncomputable def i147 : IFn := { nt := 102, ps := [kk0, kk1, kk2, kk3, kk4], res := [.tmp kk10, .tmp kk11], body :=
 (.seq (.region false [⟨some kk10, none, none, .mov (.c .nilslice)⟩,
  ⟨some kk11, none, none, .mov (.c (.str 0 0))⟩])
 (.seq (.seq (.region false [⟨some kk19, none, none, .mov (.t kk2)⟩,
  ⟨some kk20, none, none, .bin .lss (.t kk19) (.c (.int .i64 (.ofNat 2)))⟩,
  ⟨some kk21, none, none, .mov (.t kk20)⟩,
  ⟨some kk22, some (kk21, false), none, .mov (.t kk2)⟩,
  ⟨some kk23, some (kk21, false), none, .bin .eql (.t kk22) (.c (.int .i64 (.ofNat 10)))⟩,
  ⟨some kk24, none, none, .pick (.t kk21) (.c (.bool true)) (.t kk23)⟩,
  ⟨some kk25, none, none, .mov (.t kk24)⟩,
  ⟨some kk26, some (kk25, false), none, .mov (.t kk2)⟩,
  ⟨some kk27, some (kk25, false), none, .bin .gtr (.t kk26) (.c (.int .i64 (.ofNat 36)))⟩,
  ⟨some kk28, none, none, .pick (.t kk25) (.c (.bool true)) (.t kk27)⟩])
 (.cond (.t kk28)
  (.region false [⟨some kk29, none, none, .mkif 9 (.c (.str 41 216697390027125670893655747107225825579143285394002440301576320671928898198549784051036142863283315))⟩,
   ⟨none, none, none, .callv (.c .nilptr) []⟩])
  .skip))
 (.seq (.region false [⟨some kk12, none, none, .boxz 211 65 65 [(.int .u8 (.ofNat 0)), (.int .u8 (.ofNat 0)), (.int .u8 (.ofNat 0)), (.int .u8 (.ofNat 0)), (.int .u8 (.ofNat 0)), (.int .u8 (.ofNat 0)), (.int .u8 (.ofNat 0)), (.int .u8 (.ofNat 0)), (.int .u8 (.ofNat 0)), (.int .u8 (.ofNat 0)), (.int .u8 (.ofNat 0)), (.int .u8 (.ofNat 0)), (.int .u8 (.ofNat 0)), (.int .u8 (.ofNat 0)), (.int .u8 (.ofNat 0)), (.int .u8 (.ofNat 0)), (.int .u8 (.ofNat 0)), (.int .u8 (.ofNat 0)), (.int .u8 (.ofNat 0)), (.int .u8 (.ofNat 0)), (.int .u8 (.ofNat 0)), (.int .u8 (.ofNat 0)), (.int .u8 (.ofNat 0)), (.int .u8 (.ofNat 0)), (.int .u8 (.ofNat 0)), (.int .u8 (.ofNat 0)), (.int .u8 (.ofNat 0)), (.int .u8 (.ofNat 0)), (.int .u8 (.ofNat 0)), (.int .u8 (.ofNat 0)), (.int .u8 (.ofNat 0)), (.int .u8 (.ofNat 0)), (.int .u8 (.ofNat 0)), (.int .u8 (.ofNat 0)), (.int .u8 (.ofNat 0)), (.int .u8 (.ofNat 0)), (.int .u8 (.ofNat 0)), (.int .u8 (.ofNat 0)), (.int .u8 (.ofNat 0)), (.int .u8 (.ofNat 0)), (.int .u8 (.ofNat 0)), (.int .u8 (.ofNat 0)), (.int .u8 (.ofNat 0)), (.int .u8 (.ofNat 0)), (.int .u8 (.ofNat 0)), (.int .u8 (.ofNat 0)), (.int .u8 (.ofNat 0)), (.int .u8 (.ofNat 0)), (.int .u8 (.ofNat 0)), (.int .u8 (.ofNat 0)), (.int .u8 (.ofNat 0)), (.int .u8 (.ofNat 0)), (.int .u8 (.ofNat 0)), (.int .u8 (.ofNat 0)), (.int .u8 (.ofNat 0)), (.int .u8 (.ofNat 0)), (.int .u8 (.ofNat 0)), (.int .u8 (.ofNat 0)), (.int .u8 (.ofNat 0)), (.int .u8 (.ofNat 0)), (.int .u8 (.ofNat 0)), (.int .u8 (.ofNat 0)), (.int .u8 (.ofNat 0)), (.int .u8 (.ofNat 0)), (.int .u8 (.ofNat 0))]⟩])
 (.seq (.region false [⟨some kk13, none, none, .mov (.c (.int .i64 (.ofNat 65)))⟩])
 (.seq (.seq (.region false [⟨some kk30, none, none, .mov (.t kk3)⟩])
 (.cond (.t kk30)
  (.region false [⟨some kk31, none, none, .mov (.t kk1)⟩,
   ⟨some kk32, none, none, .un .neg (.t kk31)⟩,
   ⟨some kk1, none, none, .mov (.t kk32)⟩])
  .skip))
 (.seq (.seq (.region false [⟨some kk33, none, none, .mov (.t kk2)⟩,
  ⟨some kk34, none, none, .call 173 [(.t kk33)]⟩])
 (.cond (.t kk34)
  (.seq (.region false [⟨some kk35, none, none, .mov (.t kk2)⟩,
   ⟨some kk36, none, none, .conv .u64 (.t kk35)⟩,
   ⟨some kk37, none, none, .call 174 [(.t kk36)]⟩,
   ⟨some kk38, none, none, .conv .u64 (.t kk37)⟩,
   ⟨some kk14, none, none, .mov (.t kk38)⟩])
  (.seq (.region false [⟨some kk39, none, none, .mov (.t kk2)⟩,
   ⟨some kk40, none, none, .conv .u64 (.t kk39)⟩,
   ⟨some kk15, none, none, .mov (.t kk40)⟩])
  (.seq (.region false [⟨some kk41, none, none, .mov (.t kk2)⟩,
   ⟨some kk42, none, none, .conv .u64 (.t kk41)⟩,
   ⟨some kk43, none, none, .bin .sub (.t kk42) (.c (.int .u64 (.ofNat 1)))⟩,
   ⟨some kk16, none, none, .mov (.t kk43)⟩])
  (.seq (.block 0 (.loop (.seq (.seq (.region false [⟨some kk44, none, none, .mov (.t kk1)⟩,
     ⟨some kk45, none, none, .mov (.t kk15)⟩,
     ⟨some kk46, none, none, .bin .geq (.t kk44) (.t kk45)⟩])
    (.cond (.t kk46)
     .skip
     (.exit 0)))
    (.block 1 (.seq (.region false [⟨some kk47, none, none, .mov (.t kk13)⟩,
      ⟨some kk48, none, none, .bin .sub (.t kk47) (.c (.int .i64 (.ofNat 1)))⟩,
      ⟨some kk13, none, none, .mov (.t kk48)⟩])
     (.seq (.region false [⟨some kk49, none, none, .mov (.t kk13)⟩,
      ⟨some kk50, none, none, .mov (.t kk1)⟩,
      ⟨some kk51, none, none, .mov (.t kk16)⟩,
      ⟨some kk52, none, none, .bin .and (.t kk50) (.t kk51)⟩,
      ⟨some kk53, none, none, .idxStr (.c (.str 36 237927390410950444456928663707796224754864904193074819559483181009558347043374296609072)) (.t kk52)⟩,
      ⟨some kk54, none, none, .idxArr 65 1 (.t kk12) (.t kk49)⟩,
      ⟨none, none, none, .store 1 (.t kk54) (.t kk53)⟩])
     (.region false [⟨some kk55, none, none, .mov (.t kk1)⟩,
      ⟨some kk56, none, none, .mov (.t kk14)⟩,
      ⟨some kk57, none, none, .bin .shr (.t kk55) (.t kk56)⟩,
      ⟨some kk1, none, none, .mov (.t kk57)⟩])))))))
  (.seq (.region false [⟨some kk58, none, none, .mov (.t kk13)⟩,
   ⟨some kk59, none, none, .bin .sub (.t kk58) (.c (.int .i64 (.ofNat 1)))⟩,
   ⟨some kk13, none, none, .mov (.t kk59)⟩])
  (.region false [⟨some kk60, none, none, .mov (.t kk13)⟩,
   ⟨some kk61, none, none, .mov (.t kk1)⟩,
   ⟨some kk62, none, none, .idxStr (.c (.str 36 237927390410950444456928663707796224754864904193074819559483181009558347043374296609072)) (.t kk61)⟩,
   ⟨some kk63, none, none, .idxArr 65 1 (.t kk12) (.t kk60)⟩,
   ⟨none, none, none, .store 1 (.t kk63) (.t kk62)⟩]))))))
  (.seq (.region false [⟨some kk64, none, none, .mov (.t kk2)⟩,
   ⟨some kk65, none, none, .conv .u64 (.t kk64)⟩,
   ⟨some kk17, none, none, .mov (.t kk65)⟩])
  (.seq (.block 2 (.loop (.seq (.seq (.region false [⟨some kk66, none, none, .mov (.t kk1)⟩,
     ⟨some kk67, none, none, .mov (.t kk17)⟩,
     ⟨some kk68, none, none, .bin .geq (.t kk66) (.t kk67)⟩])
    (.cond (.t kk68)
     .skip
     (.exit 2)))
    (.block 3 (.seq (.region false [⟨some kk69, none, none, .mov (.t kk13)⟩,
      ⟨some kk70, none, none, .bin .sub (.t kk69) (.c (.int .i64 (.ofNat 1)))⟩,
      ⟨some kk13, none, none, .mov (.t kk70)⟩])
     (.seq (.region false [⟨some kk71, none, none, .mov (.t kk1)⟩,
      ⟨some kk72, none, none, .mov (.t kk17)⟩,
      ⟨some kk73, none, none, .bin .quo (.t kk71) (.t kk72)⟩,
      ⟨some kk18, none, none, .mov (.t kk73)⟩])
     (.seq (.region false [⟨some kk74, none, none, .mov (.t kk13)⟩,
      ⟨some kk75, none, none, .mov (.t kk1)⟩,
      ⟨some kk76, none, none, .mov (.t kk18)⟩,
      ⟨some kk77, none, none, .mov (.t kk17)⟩,
      ⟨some kk78, none, none, .bin .mul (.t kk76) (.t kk77)⟩,
      ⟨some kk79, none, none, .bin .sub (.t kk75) (.t kk78)⟩,
      ⟨some kk80, none, none, .idxStr (.c (.str 36 237927390410950444456928663707796224754864904193074819559483181009558347043374296609072)) (.t kk79)⟩,
      ⟨some kk81, none, none, .idxArr 65 1 (.t kk12) (.t kk74)⟩,
      ⟨none, none, none, .store 1 (.t kk81) (.t kk80)⟩])
     (.region false [⟨some kk82, none, none, .mov (.t kk18)⟩,
      ⟨some kk1, none, none, .mov (.t kk82)⟩]))))))))
  (.seq (.region false [⟨some kk83, none, none, .mov (.t kk13)⟩,
   ⟨some kk84, none, none, .bin .sub (.t kk83) (.c (.int .i64 (.ofNat 1)))⟩,
   ⟨some kk13, none, none, .mov (.t kk84)⟩])
  (.region false [⟨some kk85, none, none, .mov (.t kk13)⟩,
   ⟨some kk86, none, none, .mov (.t kk1)⟩,
   ⟨some kk87, none, none, .idxStr (.c (.str 36 237927390410950444456928663707796224754864904193074819559483181009558347043374296609072)) (.t kk86)⟩,
   ⟨some kk88, none, none, .idxArr 65 1 (.t kk12) (.t kk85)⟩,
   ⟨none, none, none, .store 1 (.t kk88) (.t kk87)⟩]))))))
 (.seq (.seq (.region false [⟨some kk89, none, none, .mov (.t kk3)⟩])
 (.cond (.t kk89)
  (.seq (.region false [⟨some kk90, none, none, .mov (.t kk13)⟩,
   ⟨some kk91, none, none, .bin .sub (.t kk90) (.c (.int .i64 (.ofNat 1)))⟩,
   ⟨some kk13, none, none, .mov (.t kk91)⟩])
  (.region false [⟨some kk92, none, none, .mov (.t kk13)⟩,
   ⟨some kk93, none, none, .idxArr 65 1 (.t kk12) (.t kk92)⟩,
   ⟨none, none, none, .store 1 (.t kk93) (.c (.int .u8 (.ofNat 45)))⟩]))
  .skip))
 (.seq (.seq (.region false [⟨some kk94, none, none, .mov (.t kk4)⟩])
 (.cond (.t kk94)
  (.seq (.region false [⟨some kk95, none, none, .mov (.t kk0)⟩,
   ⟨some kk96, none, none, .mov (.t kk13)⟩,
   ⟨some kk97, none, none, .callv (.c .nilptr) []⟩,
   ⟨some kk98, none, none, .app 5 1 1 (.t kk95) (.t kk97)⟩,
   ⟨some kk10, none, none, .mov (.t kk98)⟩])
  .ret)
  .skip))
 (.seq (.region false [⟨some kk99, none, none, .mov (.t kk13)⟩,
  ⟨some kk100, none, none, .callv (.c .nilptr) []⟩,
  ⟨some kk101, none, none, .convBS (.t kk100)⟩,
  ⟨some kk11, none, none, .mov (.t kk101)⟩])
 .ret))))))))) }
theorem fn147 : fnOf Tryz.prog Tryz.f147 = some i147 := by kernel_rfl
/-- annalist.civil.isDay -/
noncomputable def i148 : IFn := { nt := 9, ps := [kk0], res := [.tmp kk2], body :=
 (.seq (.region false [⟨some kk2, none, none, .mov (.c (.bool false))⟩])
 (.seq (.region false [⟨some kk3, none, none, .mov (.t kk0)⟩,
  ⟨some kk4, none, none, .bin .geq (.t kk3) (.c (.int .i64 (.ofNat 0)))⟩,
  ⟨some kk5, none, none, .mov (.t kk4)⟩,
  ⟨some kk6, some (kk5, true), none, .mov (.t kk0)⟩,
  ⟨some kk7, some (kk5, true), none, .bin .lss (.t kk6) (.c (.int .i64 (.ofNat 1000000)))⟩,
  ⟨some kk8, none, none, .pick (.t kk5) (.t kk7) (.c (.bool false))⟩,
  ⟨some kk2, none, none, .mov (.t kk8)⟩])
 .ret)) }
theorem fn148 : fnOf Tryz.prog Tryz.f148 = some i148 := by kernel_rfl
/-- annalist.civil.yearStart -/
noncomputable def i149 : IFn := { nt := 20, ps := [kk0], res := [.tmp kk2], body :=
 (.seq (.region false [⟨some kk2, none, none, .mov (.c (.int .i64 (.ofNat 0)))⟩])
 (.seq (.region false [⟨some kk4, none, none, .mov (.t kk0)⟩,
  ⟨some kk5, none, none, .bin .sub (.t kk4) (.c (.int .i64 (.ofNat 1600)))⟩,
  ⟨some kk3, none, none, .mov (.t kk5)⟩])
 (.seq (.region false [⟨some kk6, none, none, .mov (.t kk3)⟩,
  ⟨some kk7, none, none, .bin .mul (.c (.int .i64 (.ofNat 365))) (.t kk6)⟩,
  ⟨some kk8, none, none, .mov (.t kk3)⟩,
  ⟨some kk9, none, none, .bin .add (.t kk8) (.c (.int .i64 (.ofNat 3)))⟩,
  ⟨some kk10, none, none, .bin .quo (.t kk9) (.c (.int .i64 (.ofNat 4)))⟩,
  ⟨some kk11, none, none, .bin .add (.t kk7) (.t kk10)⟩,
  ⟨some kk12, none, none, .mov (.t kk3)⟩,
  ⟨some kk13, none, none, .bin .add (.t kk12) (.c (.int .i64 (.ofNat 99)))⟩,
  ⟨some kk14, none, none, .bin .quo (.t kk13) (.c (.int .i64 (.ofNat 100)))⟩,
  ⟨some kk15, none, none, .bin .sub (.t kk11) (.t kk14)⟩,
  ⟨some kk16, none, none, .mov (.t kk3)⟩,
  ⟨some kk17, none, none, .bin .add (.t kk16) (.c (.int .i64 (.ofNat 399)))⟩,
  ⟨some kk18, none, none, .bin .quo (.t kk17) (.c (.int .i64 (.ofNat 400)))⟩,
  ⟨some kk19, none, none, .bin .add (.t kk15) (.t kk18)⟩,
  ⟨some kk2, none, none, .mov (.t kk19)⟩])
 .ret))) }
theorem fn149 : fnOf Tryz.prog Tryz.f149 = some i149 := by kernel_rfl
/-- annalist.civil.DaysInMonth -/
noncomputable def i150 : IFn := { nt := 23, ps := [kk0, kk1], res := [.tmp kk4], body :=
 (.seq (.region false [⟨some kk4, none, none, .mov (.c (.int .i64 (.ofNat 0)))⟩])
 (.seq (.seq (.region false [⟨some kk5, none, none, .mov (.t kk1)⟩])
 (.block 0 (.seq (.seq (.region false [⟨some kk7, none, none, .bin .eql (.t kk5) (.c (.int .i64 (.ofNat 1)))⟩,
   ⟨some kk6, none, none, .mov (.t kk7)⟩])
  (.cond (.t kk6)
   .skip
   (.seq (.region false [⟨some kk8, none, none, .bin .eql (.t kk5) (.c (.int .i64 (.ofNat 3)))⟩,
    ⟨some kk6, none, none, .mov (.t kk8)⟩])
   (.cond (.t kk6)
    .skip
    (.seq (.region false [⟨some kk9, none, none, .bin .eql (.t kk5) (.c (.int .i64 (.ofNat 5)))⟩,
     ⟨some kk6, none, none, .mov (.t kk9)⟩])
    (.cond (.t kk6)
     .skip
     (.seq (.region false [⟨some kk10, none, none, .bin .eql (.t kk5) (.c (.int .i64 (.ofNat 7)))⟩,
      ⟨some kk6, none, none, .mov (.t kk10)⟩])
     (.cond (.t kk6)
      .skip
      (.seq (.region false [⟨some kk11, none, none, .bin .eql (.t kk5) (.c (.int .i64 (.ofNat 8)))⟩,
       ⟨some kk6, none, none, .mov (.t kk11)⟩])
      (.cond (.t kk6)
       .skip
       (.seq (.region false [⟨some kk12, none, none, .bin .eql (.t kk5) (.c (.int .i64 (.ofNat 10)))⟩,
        ⟨some kk6, none, none, .mov (.t kk12)⟩])
       (.cond (.t kk6)
        .skip
        (.region false [⟨some kk13, none, none, .bin .eql (.t kk5) (.c (.int .i64 (.ofNat 12)))⟩,
         ⟨some kk6, none, none, .mov (.t kk13)⟩])))))))))))))
  (.cond (.t kk6)
   (.seq (.region false [⟨some kk4, none, none, .mov (.c (.int .i64 (.ofNat 31)))⟩])
   .ret)
   (.seq (.seq (.region false [⟨some kk15, none, none, .bin .eql (.t kk5) (.c (.int .i64 (.ofNat 4)))⟩,
    ⟨some kk14, none, none, .mov (.t kk15)⟩])
   (.cond (.t kk14)
    .skip
    (.seq (.region false [⟨some kk16, none, none, .bin .eql (.t kk5) (.c (.int .i64 (.ofNat 6)))⟩,
     ⟨some kk14, none, none, .mov (.t kk16)⟩])
    (.cond (.t kk14)
     .skip
     (.seq (.region false [⟨some kk17, none, none, .bin .eql (.t kk5) (.c (.int .i64 (.ofNat 9)))⟩,
      ⟨some kk14, none, none, .mov (.t kk17)⟩])
     (.cond (.t kk14)
      .skip
      (.region false [⟨some kk18, none, none, .bin .eql (.t kk5) (.c (.int .i64 (.ofNat 11)))⟩,
       ⟨some kk14, none, none, .mov (.t kk18)⟩])))))))
   (.cond (.t kk14)
    (.seq (.region false [⟨some kk4, none, none, .mov (.c (.int .i64 (.ofNat 30)))⟩])
    .ret)
    (.seq (.region false [⟨some kk20, none, none, .bin .eql (.t kk5) (.c (.int .i64 (.ofNat 2)))⟩,
     ⟨some kk19, none, none, .mov (.t kk20)⟩])
    (.cond (.t kk19)
     (.seq (.seq (.region false [⟨some kk21, none, none, .mov (.t kk0)⟩,
      ⟨some kk22, none, none, .call 175 [(.t kk21)]⟩])
     (.cond (.t kk22)
      (.seq (.region false [⟨some kk4, none, none, .mov (.c (.int .i64 (.ofNat 29)))⟩])
      .ret)
      .skip))
     (.seq (.region false [⟨some kk4, none, none, .mov (.c (.int .i64 (.ofNat 28)))⟩])
     .ret))
     .skip))))))))
 (.seq (.region false [⟨some kk4, none, none, .mov (.c (.int .i64 (.ofNat 0)))⟩])
 .ret))) }
theorem fn150 : fnOf Tryz.prog Tryz.f150 = some i150 := by kernel_rfl
/-- unicode.utf8.RuneCountInString -/
noncomputable def i151 : IFn := { nt := 10, ps := [kk0], res := [.tmp kk2], body :=
 (.seq (.region false [⟨some kk2, none, none, .mov (.c (.int .i64 (.ofNat 0)))⟩])
 (.seq (.seq (.region false [⟨some kk3, none, none, .mov (.t kk0)⟩,
  ⟨some kk4, none, none, .callv (.c .nilptr) []⟩])
 (.block 0 (.loop (.seq (.region false [⟨some kk5, none, none, .callv (.c .nilptr) []⟩,
    ⟨some kk6, none, none, .extr (.t kk5) 0⟩])
   (.seq (.cond (.t kk6)
    .skip
    (.exit 0))
   (.block 1 (.region false [⟨some kk7, none, none, .mov (.t kk2)⟩,
     ⟨some kk8, none, none, .bin .add (.t kk7) (.c (.int .i64 (.ofNat 1)))⟩,
     ⟨some kk2, none, none, .mov (.t kk8)⟩])))))))
 (.seq (.region false [⟨some kk9, none, none, .mov (.t kk2)⟩,
  ⟨some kk2, none, none, .mov (.t kk9)⟩])
 .ret))) }
theorem fn151 : fnOf Tryz.prog Tryz.f151 = some i151 := by kernel_rfl
/-- (*strings.Builder).grow -/
noncomputable def i153 : IFn := { nt := 30, ps := [kk0, kk1], res := [], body :=
 (.seq (.region true [⟨some kk5, none, none, .mov (.t kk0)⟩,
  ⟨some kk6, none, none, .nilck (.t kk5)⟩,
  ⟨some kk7, none, none, .offs (.t kk6) 1⟩,
  ⟨some kk8, none, some [], .load 1 false (.t kk7)⟩,
  ⟨some kk9, none, some [], .callv (.c .nilptr) []⟩,
  ⟨some kk10, none, none, .bin .mul (.c (.int .i64 (.ofNat 2))) (.t kk9)⟩,
  ⟨some kk11, none, none, .mov (.t kk1)⟩,
  ⟨some kk12, none, none, .bin .add (.t kk10) (.t kk11)⟩,
  ⟨some kk13, none, some [], .call 176 [(.t kk12)]⟩,
  ⟨some kk14, none, none, .mov (.t kk0)⟩,
  ⟨some kk15, none, none, .nilck (.t kk14)⟩,
  ⟨some kk16, none, none, .offs (.t kk15) 1⟩,
  ⟨some kk17, none, some [0, 1, 2], .load 1 false (.t kk16)⟩,
  ⟨some kk18, none, none, .len (.t kk17)⟩,
  ⟨some kk19, none, none, .slSl 1 (.t kk13) none (some (.t kk18))⟩,
  ⟨some kk4, none, none, .mov (.t kk19)⟩])
 (.seq (.region false [⟨some kk20, none, none, .mov (.t kk4)⟩,
  ⟨some kk21, none, none, .mov (.t kk0)⟩,
  ⟨some kk22, none, none, .nilck (.t kk21)⟩,
  ⟨some kk23, none, none, .offs (.t kk22) 1⟩,
  ⟨some kk24, none, none, .load 1 false (.t kk23)⟩,
  ⟨some kk25, none, none, .callv (.c .nilptr) []⟩])
 (.region false [⟨some kk26, none, none, .mov (.t kk0)⟩,
  ⟨some kk27, none, none, .mov (.t kk4)⟩,
  ⟨some kk28, none, none, .nilck (.t kk26)⟩,
  ⟨some kk29, none, none, .offs (.t kk28) 1⟩,
  ⟨none, none, none, .store 1 (.t kk29) (.t kk27)⟩]))) }
theorem fn153 : fnOf Tryz.prog Tryz.f153 = some i153 := by kernel_rfl
/-- internal.stringslite.Index -/
noncomputable def i154 : IFn := { nt := 143, ps := [kk0, kk1], res := [.tmp kk4], body :=
 (.seq (.region false [⟨some kk4, none, none, .mov (.c (.int .i64 (.ofNat 0)))⟩])
 (.seq (.region false [⟨some kk14, none, none, .mov (.t kk1)⟩,
  ⟨some kk15, none, none, .lenS (.t kk14)⟩,
  ⟨some kk5, none, none, .mov (.t kk15)⟩])
 (.seq (.block 0 (.seq (.region false [⟨some kk17, none, none, .mov (.t kk5)⟩,
   ⟨some kk18, none, none, .bin .eql (.t kk17) (.c (.int .i64 (.ofNat 0)))⟩,
   ⟨some kk19, none, none, .mov (.t kk18)⟩,
   ⟨some kk20, some (kk19, false), none, .mov (.t kk1)⟩,
   ⟨some kk21, some (kk19, false), none, .mov (.t kk0)⟩,
   ⟨some kk22, some (kk19, false), none, .bin .eql (.t kk20) (.t kk21)⟩,
   ⟨some kk23, none, none, .pick (.t kk19) (.c (.bool true)) (.t kk22)⟩,
   ⟨some kk16, none, none, .mov (.t kk23)⟩])
  (.cond (.t kk16)
   (.seq (.region false [⟨some kk4, none, none, .mov (.c (.int .i64 (.ofNat 0)))⟩])
   .ret)
   (.seq (.region false [⟨some kk25, none, none, .mov (.t kk5)⟩,
    ⟨some kk26, none, none, .bin .eql (.t kk25) (.c (.int .i64 (.ofNat 1)))⟩,
    ⟨some kk24, none, none, .mov (.t kk26)⟩])
   (.cond (.t kk24)
    (.seq (.region false [⟨some kk27, none, none, .mov (.t kk0)⟩,
     ⟨some kk28, none, none, .mov (.t kk1)⟩,
     ⟨some kk29, none, none, .idxStr (.t kk28) (.c (.int .i64 (.ofNat 0)))⟩,
     ⟨some kk30, none, none, .call 76 [(.t kk27), (.t kk29)]⟩,
     ⟨some kk4, none, none, .mov (.t kk30)⟩])
    .ret)
    (.seq (.region false [⟨some kk32, none, none, .mov (.t kk5)⟩,
     ⟨some kk33, none, none, .mov (.t kk0)⟩,
     ⟨some kk34, none, none, .lenS (.t kk33)⟩,
     ⟨some kk35, none, none, .bin .geq (.t kk32) (.t kk34)⟩,
     ⟨some kk31, none, none, .mov (.t kk35)⟩])
    (.cond (.t kk31)
     (.seq (.region false [⟨some kk4, none, none, .mov (.c (.int .i64 (.negSucc 0)))⟩])
     .ret)
     (.seq (.region false [⟨some kk37, none, none, .mov (.t kk5)⟩,
      ⟨some kk38, none, none, .load 1 false (.c (.ptr 0 1 0))⟩,
      ⟨some kk39, none, none, .bin .leq (.t kk37) (.t kk38)⟩,
      ⟨some kk40, none, none, .mov (.t kk39)⟩,
      ⟨some kk41, some (kk40, true), none, .mov (.t kk0)⟩,
      ⟨some kk42, some (kk40, true), none, .lenS (.t kk41)⟩,
      ⟨some kk43, some (kk40, true), none, .bin .leq (.t kk42) (.c (.int .i64 (.ofNat 64)))⟩,
      ⟨some kk44, none, none, .pick (.t kk40) (.t kk43) (.c (.bool false))⟩,
      ⟨some kk36, none, none, .mov (.t kk44)⟩])
     (.cond (.t kk36)
      (.seq (.region false [⟨some kk45, none, none, .mov (.t kk0)⟩,
       ⟨some kk46, none, none, .mov (.t kk1)⟩,
       ⟨some kk47, none, none, .call 177 [(.t kk45), (.t kk46)]⟩,
       ⟨some kk4, none, none, .mov (.t kk47)⟩])
      .ret)
      .skip)))))))))
 (.seq (.region false [⟨some kk48, none, none, .mov (.t kk1)⟩,
  ⟨some kk49, none, none, .idxStr (.t kk48) (.c (.int .i64 (.ofNat 0)))⟩,
  ⟨some kk6, none, none, .mov (.t kk49)⟩])
 (.seq (.region false [⟨some kk50, none, none, .mov (.t kk1)⟩,
  ⟨some kk51, none, none, .idxStr (.t kk50) (.c (.int .i64 (.ofNat 1)))⟩,
  ⟨some kk7, none, none, .mov (.t kk51)⟩])
 (.seq (.region false [⟨some kk8, none, none, .mov (.c (.int .i64 (.ofNat 0)))⟩])
 (.seq (.region false [⟨some kk52, none, none, .mov (.t kk0)⟩,
  ⟨some kk53, none, none, .lenS (.t kk52)⟩,
  ⟨some kk54, none, none, .mov (.t kk5)⟩,
  ⟨some kk55, none, none, .bin .sub (.t kk53) (.t kk54)⟩,
  ⟨some kk56, none, none, .bin .add (.t kk55) (.c (.int .i64 (.ofNat 1)))⟩,
  ⟨some kk9, none, none, .mov (.t kk56)⟩])
 (.seq (.region false [⟨some kk10, none, none, .mov (.c (.int .i64 (.ofNat 0)))⟩])
 (.seq (.block 1 (.loop (.seq (.seq (.region false [⟨some kk57, none, none, .mov (.t kk8)⟩,
    ⟨some kk58, none, none, .mov (.t kk9)⟩,
    ⟨some kk59, none, none, .bin .lss (.t kk57) (.t kk58)⟩])
   (.cond (.t kk59)
    .skip
    (.exit 1)))
   (.block 2 (.seq (.seq (.region false [⟨some kk60, none, none, .mov (.t kk0)⟩,
     ⟨some kk61, none, none, .mov (.t kk8)⟩,
     ⟨some kk62, none, none, .idxStr (.t kk60) (.t kk61)⟩,
     ⟨some kk63, none, none, .mov (.t kk6)⟩,
     ⟨some kk64, none, none, .bin .neq (.t kk62) (.t kk63)⟩])
    (.cond (.t kk64)
     (.seq (.region false [⟨some kk65, none, none, .mov (.t kk0)⟩,
      ⟨some kk66, none, none, .mov (.t kk8)⟩,
      ⟨some kk67, none, none, .bin .add (.t kk66) (.c (.int .i64 (.ofNat 1)))⟩,
      ⟨some kk68, none, none, .mov (.t kk9)⟩,
      ⟨some kk69, none, none, .slStr (.t kk65) (some (.t kk67)) (some (.t kk68))⟩,
      ⟨some kk70, none, none, .mov (.t kk6)⟩,
      ⟨some kk71, none, none, .call 76 [(.t kk69), (.t kk70)]⟩,
      ⟨some kk11, none, none, .mov (.t kk71)⟩])
     (.seq (.seq (.region false [⟨some kk72, none, none, .mov (.t kk11)⟩,
      ⟨some kk73, none, none, .bin .lss (.t kk72) (.c (.int .i64 (.ofNat 0)))⟩])
     (.cond (.t kk73)
      (.seq (.region false [⟨some kk4, none, none, .mov (.c (.int .i64 (.negSucc 0)))⟩])
      .ret)
      .skip))
     (.region false [⟨some kk74, none, none, .mov (.t kk8)⟩,
      ⟨some kk75, none, none, .mov (.t kk11)⟩,
      ⟨some kk76, none, none, .bin .add (.t kk75) (.c (.int .i64 (.ofNat 1)))⟩,
      ⟨some kk77, none, none, .bin .add (.t kk74) (.t kk76)⟩,
      ⟨some kk8, none, none, .mov (.t kk77)⟩])))
     .skip))
    (.seq (.seq (.region false [⟨some kk78, none, none, .mov (.t kk0)⟩,
     ⟨some kk79, none, none, .mov (.t kk8)⟩,
     ⟨some kk80, none, none, .bin .add (.t kk79) (.c (.int .i64 (.ofNat 1)))⟩,
     ⟨some kk81, none, none, .idxStr (.t kk78) (.t kk80)⟩,
     ⟨some kk82, none, none, .mov (.t kk7)⟩,
     ⟨some kk83, none, none, .bin .eql (.t kk81) (.t kk82)⟩,
     ⟨some kk84, none, none, .mov (.t kk83)⟩,
     ⟨some kk85, some (kk84, true), none, .mov (.t kk0)⟩,
     ⟨some kk86, some (kk84, true), none, .mov (.t kk8)⟩,
     ⟨some kk87, some (kk84, true), none, .mov (.t kk8)⟩,
     ⟨some kk88, some (kk84, true), none, .mov (.t kk5)⟩,
     ⟨some kk89, some (kk84, true), none, .bin .add (.t kk87) (.t kk88)⟩,
     ⟨some kk90, some (kk84, true), none, .slStr (.t kk85) (some (.t kk86)) (some (.t kk89))⟩,
     ⟨some kk91, some (kk84, true), none, .mov (.t kk1)⟩,
     ⟨some kk92, some (kk84, true), none, .bin .eql (.t kk90) (.t kk91)⟩,
     ⟨some kk93, none, none, .pick (.t kk84) (.t kk92) (.c (.bool false))⟩])
    (.cond (.t kk93)
     (.seq (.region false [⟨some kk94, none, none, .mov (.t kk8)⟩,
      ⟨some kk4, none, none, .mov (.t kk94)⟩])
     .ret)
     .skip))
    (.seq (.region false [⟨some kk95, none, none, .mov (.t kk8)⟩,
     ⟨some kk96, none, none, .bin .add (.t kk95) (.c (.int .i64 (.ofNat 1)))⟩,
     ⟨some kk8, none, none, .mov (.t kk96)⟩])
    (.seq (.region false [⟨some kk97, none, none, .mov (.t kk10)⟩,
     ⟨some kk98, none, none, .bin .add (.t kk97) (.c (.int .i64 (.ofNat 1)))⟩,
     ⟨some kk10, none, none, .mov (.t kk98)⟩])
    (.seq (.region false [⟨some kk99, none, none, .mov (.t kk5)⟩,
     ⟨some kk100, none, none, .load 1 false (.c (.ptr 0 1 0))⟩,
     ⟨some kk101, none, none, .bin .leq (.t kk99) (.t kk100)⟩,
     ⟨some kk102, none, none, .mov (.t kk101)⟩,
     ⟨some kk103, some (kk102, true), none, .mov (.t kk10)⟩,
     ⟨some kk104, some (kk102, true), none, .mov (.t kk8)⟩,
     ⟨some kk105, some (kk102, true), none, .call 178 [(.t kk104)]⟩,
     ⟨some kk106, some (kk102, true), none, .bin .gtr (.t kk103) (.t kk105)⟩,
     ⟨some kk107, none, none, .pick (.t kk102) (.t kk106) (.c (.bool false))⟩])
    (.cond (.t kk107)
     (.seq (.region false [⟨some kk108, none, none, .mov (.t kk0)⟩,
      ⟨some kk109, none, none, .mov (.t kk8)⟩,
      ⟨some kk110, none, none, .slStr (.t kk108) (some (.t kk109)) none⟩,
      ⟨some kk111, none, none, .mov (.t kk1)⟩,
      ⟨some kk112, none, none, .call 177 [(.t kk110), (.t kk111)]⟩,
      ⟨some kk12, none, none, .mov (.t kk112)⟩])
     (.seq (.seq (.region false [⟨some kk113, none, none, .mov (.t kk12)⟩,
      ⟨some kk114, none, none, .bin .geq (.t kk113) (.c (.int .i64 (.ofNat 0)))⟩])
     (.cond (.t kk114)
      (.seq (.region false [⟨some kk115, none, none, .mov (.t kk12)⟩,
       ⟨some kk116, none, none, .mov (.t kk8)⟩,
       ⟨some kk117, none, none, .bin .add (.t kk115) (.t kk116)⟩,
       ⟨some kk4, none, none, .mov (.t kk117)⟩])
      .ret)
      .skip))
     (.seq (.region false [⟨some kk4, none, none, .mov (.c (.int .i64 (.negSucc 0)))⟩])
     .ret)))
     (.seq (.region false [⟨some kk118, none, none, .mov (.t kk5)⟩,
      ⟨some kk119, none, none, .load 1 false (.c (.ptr 0 1 0))⟩,
      ⟨some kk120, none, none, .bin .gtr (.t kk118) (.t kk119)⟩,
      ⟨some kk121, none, none, .mov (.t kk120)⟩,
      ⟨some kk122, some (kk121, true), none, .mov (.t kk10)⟩,
      ⟨some kk123, some (kk121, true), none, .mov (.t kk8)⟩,
      ⟨some kk124, some (kk121, true), none, .bin .shr (.t kk123) (.c (.int .u64 (.ofNat 4)))⟩,
      ⟨some kk125, some (kk121, true), none, .bin .add (.c (.int .i64 (.ofNat 4))) (.t kk124)⟩,
      ⟨some kk126, some (kk121, true), none, .bin .geq (.t kk122) (.t kk125)⟩,
      ⟨some kk127, none, none, .pick (.t kk121) (.t kk126) (.c (.bool false))⟩,
      ⟨some kk128, none, none, .mov (.t kk127)⟩,
      ⟨some kk129, some (kk128, true), none, .mov (.t kk8)⟩,
      ⟨some kk130, some (kk128, true), none, .mov (.t kk9)⟩,
      ⟨some kk131, some (kk128, true), none, .bin .lss (.t kk129) (.t kk130)⟩,
      ⟨some kk132, none, none, .pick (.t kk128) (.t kk131) (.c (.bool false))⟩])
     (.cond (.t kk132)
      (.seq (.region false [⟨some kk133, none, none, .mov (.t kk0)⟩,
       ⟨some kk134, none, none, .mov (.t kk8)⟩,
       ⟨some kk135, none, none, .slStr (.t kk133) (some (.t kk134)) none⟩,
       ⟨some kk136, none, none, .mov (.t kk1)⟩,
       ⟨some kk137, none, none, .call 179 [(.t kk135), (.t kk136)]⟩,
       ⟨some kk13, none, none, .mov (.t kk137)⟩])
      (.seq (.seq (.region false [⟨some kk138, none, none, .mov (.t kk13)⟩,
       ⟨some kk139, none, none, .bin .lss (.t kk138) (.c (.int .i64 (.ofNat 0)))⟩])
      (.cond (.t kk139)
       (.seq (.region false [⟨some kk4, none, none, .mov (.c (.int .i64 (.negSucc 0)))⟩])
       .ret)
       .skip))
      (.seq (.region false [⟨some kk140, none, none, .mov (.t kk8)⟩,
       ⟨some kk141, none, none, .mov (.t kk13)⟩,
       ⟨some kk142, none, none, .bin .add (.t kk140) (.t kk141)⟩,
       ⟨some kk4, none, none, .mov (.t kk142)⟩])
      .ret)))
      .skip))))))))))))
 (.seq (.region false [⟨some kk4, none, none, .mov (.c (.int .i64 (.negSucc 0)))⟩])
 .ret)))))))))) }
theorem fn154 : fnOf Tryz.prog Tryz.f154 = some i154 := by kernel_rfl
/-- unicode.utf8.decodeRuneInStringSlow -/
noncomputable def i155 : IFn := { nt := 117, ps := [kk0], res := [.tmp kk2, .tmp kk3], body :=
 (.seq (.region false [⟨some kk2, none, none, .mov (.c (.int .i32 (.ofNat 0)))⟩,
  ⟨some kk3, none, none, .mov (.c (.int .i64 (.ofNat 0)))⟩])
 (.seq (.region false [⟨some kk13, none, none, .mov (.t kk0)⟩,
  ⟨some kk14, none, none, .lenS (.t kk13)⟩,
  ⟨some kk4, none, none, .mov (.t kk14)⟩])
 (.seq (.seq (.region false [⟨some kk15, none, none, .mov (.t kk4)⟩,
  ⟨some kk16, none, none, .bin .lss (.t kk15) (.c (.int .i64 (.ofNat 1)))⟩])
 (.cond (.t kk16)
  (.seq (.region false [⟨some kk2, none, none, .mov (.c (.int .i32 (.ofNat 65533)))⟩,
   ⟨some kk3, none, none, .mov (.c (.int .i64 (.ofNat 0)))⟩])
  .ret)
  .skip))
 (.seq (.region false [⟨some kk17, none, none, .mov (.t kk0)⟩,
  ⟨some kk18, none, none, .idxStr (.t kk17) (.c (.int .i64 (.ofNat 0)))⟩,
  ⟨some kk5, none, none, .mov (.t kk18)⟩])
 (.seq (.region false [⟨some kk19, none, none, .mov (.t kk5)⟩,
  ⟨some kk20, none, none, .idxArr 256 1 (.c (.ptr 2 1 0)) (.t kk19)⟩,
  ⟨some kk21, none, none, .load 1 false (.t kk20)⟩,
  ⟨some kk6, none, none, .mov (.t kk21)⟩])
 (.seq (.seq (.region false [⟨some kk22, none, none, .mov (.t kk6)⟩,
  ⟨some kk23, none, none, .bin .geq (.t kk22) (.c (.int .u8 (.ofNat 240)))⟩])
 (.cond (.t kk23)
  (.seq (.region false [⟨some kk24, none, none, .mov (.t kk6)⟩,
   ⟨some kk25, none, none, .conv .i32 (.t kk24)⟩,
   ⟨some kk26, none, none, .bin .shl (.t kk25) (.c (.int .u64 (.ofNat 31)))⟩,
   ⟨some kk27, none, none, .bin .shr (.t kk26) (.c (.int .u64 (.ofNat 31)))⟩,
   ⟨some kk7, none, none, .mov (.t kk27)⟩])
  (.seq (.region false [⟨some kk28, none, none, .mov (.t kk0)⟩,
   ⟨some kk29, none, none, .idxStr (.t kk28) (.c (.int .i64 (.ofNat 0)))⟩,
   ⟨some kk30, none, none, .conv .i32 (.t kk29)⟩,
   ⟨some kk31, none, none, .mov (.t kk7)⟩,
   ⟨some kk32, none, none, .bin .andNot (.t kk30) (.t kk31)⟩,
   ⟨some kk33, none, none, .mov (.t kk7)⟩,
   ⟨some kk34, none, none, .bin .and (.c (.int .i32 (.ofNat 65533))) (.t kk33)⟩,
   ⟨some kk35, none, none, .bin .or (.t kk32) (.t kk34)⟩,
   ⟨some kk2, none, none, .mov (.t kk35)⟩,
   ⟨some kk3, none, none, .mov (.c (.int .i64 (.ofNat 1)))⟩])
  .ret))
  .skip))
 (.seq (.region false [⟨some kk36, none, none, .mov (.t kk6)⟩,
  ⟨some kk37, none, none, .bin .and (.t kk36) (.c (.int .u8 (.ofNat 7)))⟩,
  ⟨some kk38, none, none, .conv .i64 (.t kk37)⟩,
  ⟨some kk8, none, none, .mov (.t kk38)⟩])
 (.seq (.region false [⟨some kk39, none, none, .mov (.t kk6)⟩,
  ⟨some kk40, none, none, .bin .shr (.t kk39) (.c (.int .u64 (.ofNat 4)))⟩,
  ⟨some kk41, none, none, .idxArr 16 2 (.c (.ptr 3 1 0)) (.t kk40)⟩,
  ⟨some kk42, none, none, .load 2 true (.t kk41)⟩,
  ⟨some kk9, none, none, .boxz 216 2 2 [(.int .u8 (.ofNat 0)), (.int .u8 (.ofNat 0))]⟩,
  ⟨none, none, none, .store 2 (.t kk9) (.t kk42)⟩])
 (.seq (.seq (.region false [⟨some kk43, none, none, .mov (.t kk4)⟩,
  ⟨some kk44, none, none, .mov (.t kk8)⟩,
  ⟨some kk45, none, none, .bin .lss (.t kk43) (.t kk44)⟩])
 (.cond (.t kk45)
  (.seq (.region false [⟨some kk2, none, none, .mov (.c (.int .i32 (.ofNat 65533)))⟩,
   ⟨some kk3, none, none, .mov (.c (.int .i64 (.ofNat 1)))⟩])
  .ret)
  .skip))
 (.seq (.region false [⟨some kk46, none, none, .mov (.t kk0)⟩,
  ⟨some kk47, none, none, .idxStr (.t kk46) (.c (.int .i64 (.ofNat 1)))⟩,
  ⟨some kk10, none, none, .mov (.t kk47)⟩])
 (.seq (.seq (.region false [⟨some kk48, none, none, .mov (.t kk10)⟩,
  ⟨some kk49, none, none, .offs (.t kk9) 0⟩,
  ⟨some kk50, none, none, .load 1 false (.t kk49)⟩,
  ⟨some kk51, none, none, .bin .lss (.t kk48) (.t kk50)⟩,
  ⟨some kk52, none, none, .mov (.t kk51)⟩,
  ⟨some kk53, some (kk52, false), none, .offs (.t kk9) 1⟩,
  ⟨some kk54, some (kk52, false), none, .load 1 false (.t kk53)⟩,
  ⟨some kk55, some (kk52, false), none, .mov (.t kk10)⟩,
  ⟨some kk56, some (kk52, false), none, .bin .lss (.t kk54) (.t kk55)⟩,
  ⟨some kk57, none, none, .pick (.t kk52) (.c (.bool true)) (.t kk56)⟩])
 (.cond (.t kk57)
  (.seq (.region false [⟨some kk2, none, none, .mov (.c (.int .i32 (.ofNat 65533)))⟩,
   ⟨some kk3, none, none, .mov (.c (.int .i64 (.ofNat 1)))⟩])
  .ret)
  .skip))
 (.seq (.seq (.region false [⟨some kk58, none, none, .mov (.t kk8)⟩,
  ⟨some kk59, none, none, .bin .leq (.t kk58) (.c (.int .i64 (.ofNat 2)))⟩])
 (.cond (.t kk59)
  (.seq (.region false [⟨some kk60, none, none, .mov (.t kk5)⟩,
   ⟨some kk61, none, none, .bin .and (.t kk60) (.c (.int .u8 (.ofNat 31)))⟩,
   ⟨some kk62, none, none, .conv .i32 (.t kk61)⟩,
   ⟨some kk63, none, none, .bin .shl (.t kk62) (.c (.int .u64 (.ofNat 6)))⟩,
   ⟨some kk64, none, none, .mov (.t kk10)⟩,
   ⟨some kk65, none, none, .bin .and (.t kk64) (.c (.int .u8 (.ofNat 63)))⟩,
   ⟨some kk66, none, none, .conv .i32 (.t kk65)⟩,
   ⟨some kk67, none, none, .bin .or (.t kk63) (.t kk66)⟩,
   ⟨some kk2, none, none, .mov (.t kk67)⟩,
   ⟨some kk3, none, none, .mov (.c (.int .i64 (.ofNat 2)))⟩])
  .ret)
  .skip))
 (.seq (.region false [⟨some kk68, none, none, .mov (.t kk0)⟩,
  ⟨some kk69, none, none, .idxStr (.t kk68) (.c (.int .i64 (.ofNat 2)))⟩,
  ⟨some kk11, none, none, .mov (.t kk69)⟩])
 (.seq (.seq (.region false [⟨some kk70, none, none, .mov (.t kk11)⟩,
  ⟨some kk71, none, none, .bin .lss (.t kk70) (.c (.int .u8 (.ofNat 128)))⟩,
  ⟨some kk72, none, none, .mov (.t kk71)⟩,
  ⟨some kk73, some (kk72, false), none, .mov (.t kk11)⟩,
  ⟨some kk74, some (kk72, false), none, .bin .lss (.c (.int .u8 (.ofNat 191))) (.t kk73)⟩,
  ⟨some kk75, none, none, .pick (.t kk72) (.c (.bool true)) (.t kk74)⟩])
 (.cond (.t kk75)
  (.seq (.region false [⟨some kk2, none, none, .mov (.c (.int .i32 (.ofNat 65533)))⟩,
   ⟨some kk3, none, none, .mov (.c (.int .i64 (.ofNat 1)))⟩])
  .ret)
  .skip))
 (.seq (.seq (.region false [⟨some kk76, none, none, .mov (.t kk8)⟩,
  ⟨some kk77, none, none, .bin .leq (.t kk76) (.c (.int .i64 (.ofNat 3)))⟩])
 (.cond (.t kk77)
  (.seq (.region false [⟨some kk78, none, none, .mov (.t kk5)⟩,
   ⟨some kk79, none, none, .bin .and (.t kk78) (.c (.int .u8 (.ofNat 15)))⟩,
   ⟨some kk80, none, none, .conv .i32 (.t kk79)⟩,
   ⟨some kk81, none, none, .bin .shl (.t kk80) (.c (.int .u64 (.ofNat 12)))⟩,
   ⟨some kk82, none, none, .mov (.t kk10)⟩,
   ⟨some kk83, none, none, .bin .and (.t kk82) (.c (.int .u8 (.ofNat 63)))⟩,
   ⟨some kk84, none, none, .conv .i32 (.t kk83)⟩,
   ⟨some kk85, none, none, .bin .shl (.t kk84) (.c (.int .u64 (.ofNat 6)))⟩,
   ⟨some kk86, none, none, .bin .or (.t kk81) (.t kk85)⟩,
   ⟨some kk87, none, none, .mov (.t kk11)⟩,
   ⟨some kk88, none, none, .bin .and (.t kk87) (.c (.int .u8 (.ofNat 63)))⟩,
   ⟨some kk89, none, none, .conv .i32 (.t kk88)⟩,
   ⟨some kk90, none, none, .bin .or (.t kk86) (.t kk89)⟩,
   ⟨some kk2, none, none, .mov (.t kk90)⟩,
   ⟨some kk3, none, none, .mov (.c (.int .i64 (.ofNat 3)))⟩])
  .ret)
  .skip))
 (.seq (.region false [⟨some kk91, none, none, .mov (.t kk0)⟩,
  ⟨some kk92, none, none, .idxStr (.t kk91) (.c (.int .i64 (.ofNat 3)))⟩,
  ⟨some kk12, none, none, .mov (.t kk92)⟩])
 (.seq (.seq (.region false [⟨some kk93, none, none, .mov (.t kk12)⟩,
  ⟨some kk94, none, none, .bin .lss (.t kk93) (.c (.int .u8 (.ofNat 128)))⟩,
  ⟨some kk95, none, none, .mov (.t kk94)⟩,
  ⟨some kk96, some (kk95, false), none, .mov (.t kk12)⟩,
  ⟨some kk97, some (kk95, false), none, .bin .lss (.c (.int .u8 (.ofNat 191))) (.t kk96)⟩,
  ⟨some kk98, none, none, .pick (.t kk95) (.c (.bool true)) (.t kk97)⟩])
 (.cond (.t kk98)
  (.seq (.region false [⟨some kk2, none, none, .mov (.c (.int .i32 (.ofNat 65533)))⟩,
   ⟨some kk3, none, none, .mov (.c (.int .i64 (.ofNat 1)))⟩])
  .ret)
  .skip))
 (.seq (.region false [⟨some kk99, none, none, .mov (.t kk5)⟩,
  ⟨some kk100, none, none, .bin .and (.t kk99) (.c (.int .u8 (.ofNat 7)))⟩,
  ⟨some kk101, none, none, .conv .i32 (.t kk100)⟩,
  ⟨some kk102, none, none, .bin .shl (.t kk101) (.c (.int .u64 (.ofNat 18)))⟩,
  ⟨some kk103, none, none, .mov (.t kk10)⟩,
  ⟨some kk104, none, none, .bin .and (.t kk103) (.c (.int .u8 (.ofNat 63)))⟩,
  ⟨some kk105, none, none, .conv .i32 (.t kk104)⟩,
  ⟨some kk106, none, none, .bin .shl (.t kk105) (.c (.int .u64 (.ofNat 12)))⟩,
  ⟨some kk107, none, none, .bin .or (.t kk102) (.t kk106)⟩,
  ⟨some kk108, none, none, .mov (.t kk11)⟩,
  ⟨some kk109, none, none, .bin .and (.t kk108) (.c (.int .u8 (.ofNat 63)))⟩,
  ⟨some kk110, none, none, .conv .i32 (.t kk109)⟩,
  ⟨some kk111, none, none, .bin .shl (.t kk110) (.c (.int .u64 (.ofNat 6)))⟩,
  ⟨some kk112, none, none, .bin .or (.t kk107) (.t kk111)⟩,
  ⟨some kk113, none, none, .mov (.t kk12)⟩,
  ⟨some kk114, none, none, .bin .and (.t kk113) (.c (.int .u8 (.ofNat 63)))⟩,
  ⟨some kk115, none, none, .conv .i32 (.t kk114)⟩,
  ⟨some kk116, none, none, .bin .or (.t kk112) (.t kk115)⟩,
  ⟨some kk2, none, none, .mov (.t kk116)⟩,
  ⟨some kk3, none, none, .mov (.c (.int .i64 (.ofNat 4)))⟩])
 .ret)))))))))))))))))) }
theorem fn155 : fnOf Tryz.prog Tryz.f155 = some i155 := by kernel_rfl
/-- (*annalist.parser.parser).negation -/
noncomputable def i156 : IFn := { nt := 32, ps := [kk0], res := [.tmp kk2], body :=
 (.seq (.region false [⟨some kk2, none, none, .mov (.c (.int .i64 (.ofNat 0)))⟩])
 (.seq (.seq (.region false [⟨some kk4, none, none, .mov (.t kk0)⟩,
  ⟨some kk5, none, none, .call 111 [(.t kk4), (.c (.int .i64 (.ofNat 1))), (.c (.str 3 5525326))]⟩,
  ⟨some kk6, none, none, .un .not (.t kk5)⟩])
 (.cond (.t kk6)
  (.seq (.region false [⟨some kk7, none, none, .mov (.t kk0)⟩,
   ⟨some kk8, none, none, .call 180 [(.t kk7)]⟩,
   ⟨some kk2, none, none, .mov (.t kk8)⟩])
  .ret)
  .skip))
 (.seq (.seq (.region false [⟨some kk9, none, none, .mov (.t kk0)⟩,
  ⟨some kk10, none, none, .call 181 [(.t kk9)]⟩,
  ⟨some kk11, none, none, .un .not (.t kk10)⟩])
 (.cond (.t kk11)
  (.seq (.region false [⟨some kk2, none, none, .mov (.c (.int .i64 (.ofNat 0)))⟩])
  .ret)
  .skip))
 (.seq (.region false [⟨some kk12, none, none, .mov (.t kk0)⟩,
  ⟨some kk13, none, none, .nilck (.t kk12)⟩,
  ⟨some kk14, none, none, .offs (.t kk13) 1⟩,
  ⟨some kk15, none, none, .load 1 false (.t kk14)⟩,
  ⟨some kk16, none, none, .bin .add (.t kk15) (.c (.int .i64 (.ofNat 1)))⟩,
  ⟨some kk17, none, none, .nilck (.t kk12)⟩,
  ⟨some kk18, none, none, .offs (.t kk17) 1⟩,
  ⟨none, none, none, .store 1 (.t kk18) (.t kk16)⟩])
 (.seq (.region false [⟨some kk19, none, none, .mov (.t kk0)⟩,
  ⟨some kk20, none, none, .call 156 [(.t kk19)]⟩,
  ⟨some kk3, none, none, .mov (.t kk20)⟩])
 (.seq (.region false [⟨some kk21, none, none, .mov (.t kk0)⟩,
  ⟨some kk22, none, none, .nilck (.t kk21)⟩,
  ⟨some kk23, none, none, .offs (.t kk22) 4⟩,
  ⟨some kk24, none, none, .load 1 false (.t kk23)⟩,
  ⟨some kk25, none, none, .bin .sub (.t kk24) (.c (.int .i64 (.ofNat 1)))⟩,
  ⟨some kk26, none, none, .nilck (.t kk21)⟩,
  ⟨some kk27, none, none, .offs (.t kk26) 4⟩,
  ⟨none, none, none, .store 1 (.t kk27) (.t kk25)⟩])
 (.seq (.region false [⟨some kk28, none, none, .mov (.t kk0)⟩,
  ⟨some kk29, none, none, .mov (.t kk3)⟩,
  ⟨some kk30, none, none, .build [(.int .i64 (.ofNat 0)), (.int .i64 (.ofNat 0)), (.int .i64 (.ofNat 0)), (.str 0 0), (.str 0 0), (.int .i64 (.ofNat 0)), (.int .i64 (.ofNat 0)), (.str 0 0)] [(0, 1, (.c (.int .i64 (.ofNat 11)))), (1, 1, (.t kk29))]⟩,
  ⟨some kk31, none, none, .call 134 [(.t kk28), (.t kk30)]⟩,
  ⟨some kk2, none, none, .mov (.t kk31)⟩])
 .ret))))))) }
theorem fn156 : fnOf Tryz.prog Tryz.f156 = some i156 := by kernel_rfl
/-- (*annalist.parser.parser).integer$1 -/
noncomputable def i157 : IFn := { nt := 19, ps := [kk0, kk1, kk2], res := [.tmp kk4], body :=
 (.seq (.region false [⟨some kk4, none, none, .mov (.c (.int .i64 (.ofNat 0)))⟩])
 (.seq (.seq (.region false [⟨some kk7, none, none, .load 1 false (.t kk1)⟩])
 (.cond (.t kk7)
  (.region false [⟨some kk8, none, none, .mov (.t kk0)⟩,
   ⟨some kk9, none, none, .bin .add (.c (.str 1 45)) (.t kk8)⟩,
   ⟨some kk0, none, none, .mov (.t kk9)⟩])
  .skip))
 (.seq (.region false [⟨some kk11, none, none, .mov (.t kk0)⟩,
  ⟨some kk12, none, none, .call 158 [(.t kk11), (.c (.int .i64 (.ofNat 10))), (.c (.int .i64 (.ofNat 64)))]⟩,
  ⟨some kk10, none, none, .mov (.t kk12)⟩,
  ⟨some kk13, none, none, .extr (.t kk10) 0⟩,
  ⟨some kk14, none, none, .extr (.t kk10) 1⟩,
  ⟨some kk5, none, none, .mov (.t kk13)⟩,
  ⟨some kk6, none, none, .mov (.t kk14)⟩])
 (.seq (.seq (.region false [⟨some kk15, none, none, .mov (.t kk6)⟩,
  ⟨some kk16, none, none, .eqv .iface true (.t kk15) (.c .niliface)⟩])
 (.cond (.t kk16)
  (.seq (.region false [⟨some kk4, none, none, .mov (.c (.int .i64 (.ofNat 10)))⟩])
  .ret)
  .skip))
 (.seq (.region false [⟨some kk17, none, none, .mov (.t kk5)⟩,
  ⟨some kk18, none, none, .offs (.t kk2) 1⟩,
  ⟨none, none, none, .store 1 (.t kk18) (.t kk17)⟩])
 (.seq (.region false [⟨some kk4, none, none, .mov (.c (.int .i64 (.ofNat 0)))⟩])
 .ret)))))) }
theorem fn157 : fnOf Tryz.prog Tryz.f157 = some i157 := by kernel_rfl
/-- strconv.ParseInt -/
noncomputable def i158 : IFn := { nt := 25, ps := [kk0, kk1, kk2], res := [.tmp kk6, .tmp kk7], body :=
 (.seq (.region false [⟨some kk6, none, none, .mov (.c (.int .i64 (.ofNat 0)))⟩,
  ⟨some kk7, none, none, .mov (.c .niliface)⟩])
 (.seq (.region false [⟨some kk10, none, none, .mov (.t kk0)⟩,
  ⟨some kk11, none, none, .mov (.t kk1)⟩,
  ⟨some kk12, none, none, .mov (.t kk2)⟩,
  ⟨some kk13, none, none, .call 182 [(.t kk10), (.t kk11), (.t kk12)]⟩,
  ⟨some kk9, none, none, .mov (.t kk13)⟩,
  ⟨some kk14, none, none, .extr (.t kk9) 0⟩,
  ⟨some kk15, none, none, .extr (.t kk9) 1⟩,
  ⟨some kk8, none, none, .mov (.t kk14)⟩,
  ⟨some kk7, none, none, .mov (.t kk15)⟩])
 (.seq (.seq (.region false [⟨some kk16, none, none, .mov (.t kk7)⟩,
  ⟨some kk17, none, none, .eqv .iface true (.t kk16) (.c .niliface)⟩])
 (.cond (.t kk17)
  (.seq (.region false [⟨some kk18, none, none, .mov (.t kk8)⟩,
   ⟨some kk19, none, none, .mov (.t kk0)⟩,
   ⟨some kk20, none, none, .mov (.t kk1)⟩,
   ⟨some kk21, none, none, .mov (.t kk2)⟩,
   ⟨some kk22, none, none, .mov (.t kk7)⟩,
   ⟨some kk23, none, none, .call 143 [(.c (.str 8 8389723855915213136)), (.t kk19), (.t kk20), (.t kk21), (.t kk22)]⟩,
   ⟨some kk6, none, none, .mov (.t kk18)⟩,
   ⟨some kk7, none, none, .mov (.t kk23)⟩])
  .ret)
  .skip))
 (.seq (.region false [⟨some kk24, none, none, .mov (.t kk8)⟩,
  ⟨some kk6, none, none, .mov (.t kk24)⟩,
  ⟨some kk7, none, none, .mov (.c .niliface)⟩])
 .ret)))) }
theorem fn158 : fnOf Tryz.prog Tryz.f158 = some i158 := by kernel_rfl
/-- strings.CutPrefix -/
noncomputable def i159 : IFn := { nt := 11, ps := [kk0, kk1], res := [.tmp kk4, .tmp kk5], body :=
 (.seq (.region false [⟨some kk4, none, none, .mov (.c (.str 0 0))⟩,
  ⟨some kk5, none, none, .mov (.c (.bool false))⟩])
 (.seq (.region false [⟨some kk6, none, none, .mov (.t kk0)⟩,
  ⟨some kk7, none, none, .mov (.t kk1)⟩,
  ⟨some kk8, none, none, .call 183 [(.t kk6), (.t kk7)]⟩,
  ⟨some kk9, none, none, .extr (.t kk8) 0⟩,
  ⟨some kk10, none, none, .extr (.t kk8) 1⟩,
  ⟨some kk4, none, none, .mov (.t kk9)⟩,
  ⟨some kk5, none, none, .mov (.t kk10)⟩])
 .ret)) }
theorem fn159 : fnOf Tryz.prog Tryz.f159 = some i159 := by kernel_rfl
/-- strings.Cut -/
noncomputable def i160 : IFn := { nt := 13, ps := [kk0, kk1], res := [.tmp kk4, .tmp kk5, .tmp kk6], body :=
 (.seq (.region false [⟨some kk4, none, none, .mov (.c (.str 0 0))⟩,
  ⟨some kk5, none, none, .mov (.c (.str 0 0))⟩,
  ⟨some kk6, none, none, .mov (.c (.bool false))⟩])
 (.seq (.region false [⟨some kk7, none, none, .mov (.t kk0)⟩,
  ⟨some kk8, none, none, .mov (.t kk1)⟩,
  ⟨some kk9, none, none, .call 184 [(.t kk7), (.t kk8)]⟩,
  ⟨some kk10, none, none, .extr (.t kk9) 0⟩,
  ⟨some kk11, none, none, .extr (.t kk9) 1⟩,
  ⟨some kk12, none, none, .extr (.t kk9) 2⟩,
  ⟨some kk4, none, none, .mov (.t kk10)⟩,
  ⟨some kk5, none, none, .mov (.t kk11)⟩,
  ⟨some kk6, none, none, .mov (.t kk12)⟩])
 .ret)) }
theorem fn160 : fnOf Tryz.prog Tryz.f160 = some i160 := by kernel_rfl
/-- strings.HasPrefix -/
noncomputable def i161 : IFn := { nt := 8, ps := [kk0, kk1], res := [.tmp kk4], body :=
 (.seq (.region false [⟨some kk4, none, none, .mov (.c (.bool false))⟩])
 (.seq (.region false [⟨some kk5, none, none, .mov (.t kk0)⟩,
  ⟨some kk6, none, none, .mov (.t kk1)⟩,
  ⟨some kk7, none, none, .call 185 [(.t kk5), (.t kk6)]⟩,
  ⟨some kk4, none, none, .mov (.t kk7)⟩])
 .ret)) }
theorem fn161 : fnOf Tryz.prog Tryz.f161 = some i161 := by kernel_rfl
/-- annalist.datefmt.number -/
noncomputable def i162 : IFn := { nt := 31, ps := [kk0], res := [.tmp kk2, .tmp kk3], body :=
 (.seq (.region false [⟨some kk2, none, none, .mov (.c (.int .i64 (.ofNat 0)))⟩,
  ⟨some kk3, none, none, .mov (.c (.bool false))⟩])
 (.seq (.region false [⟨some kk4, none, none, .mov (.c (.int .i64 (.ofNat 0)))⟩])
 (.seq (.seq (.region false [⟨some kk6, none, none, .mov (.t kk0)⟩,
  ⟨some kk7, none, none, .lenS (.t kk6)⟩,
  ⟨some kk8, none, none, .mov (.c (.int .i64 (.ofNat 0)))⟩])
 (.block 0 (.loop (.seq (.region false [⟨some kk9, none, none, .bin .lss (.t kk8) (.t kk7)⟩])
   (.seq (.cond (.t kk9)
    .skip
    (.exit 0))
   (.seq (.block 1 (.seq (.region false [⟨some kk10, none, none, .mov (.t kk8)⟩,
     ⟨some kk5, none, none, .mov (.t kk10)⟩])
    (.seq (.seq (.region false [⟨some kk11, none, none, .mov (.t kk0)⟩,
     ⟨some kk12, none, none, .mov (.t kk5)⟩,
     ⟨some kk13, none, none, .idxStr (.t kk11) (.t kk12)⟩,
     ⟨some kk14, none, none, .bin .lss (.t kk13) (.c (.int .u8 (.ofNat 48)))⟩,
     ⟨some kk15, none, none, .mov (.t kk14)⟩,
     ⟨some kk16, some (kk15, false), none, .mov (.t kk0)⟩,
     ⟨some kk17, some (kk15, false), none, .mov (.t kk5)⟩,
     ⟨some kk18, some (kk15, false), none, .idxStr (.t kk16) (.t kk17)⟩,
     ⟨some kk19, some (kk15, false), none, .bin .gtr (.t kk18) (.c (.int .u8 (.ofNat 57)))⟩,
     ⟨some kk20, none, none, .pick (.t kk15) (.c (.bool true)) (.t kk19)⟩])
    (.cond (.t kk20)
     (.seq (.region false [⟨some kk2, none, none, .mov (.c (.int .i64 (.ofNat 0)))⟩,
      ⟨some kk3, none, none, .mov (.c (.bool false))⟩])
     .ret)
     .skip))
    (.region false [⟨some kk21, none, none, .mov (.t kk4)⟩,
     ⟨some kk22, none, none, .bin .mul (.c (.int .i64 (.ofNat 10))) (.t kk21)⟩,
     ⟨some kk23, none, none, .mov (.t kk0)⟩,
     ⟨some kk24, none, none, .mov (.t kk5)⟩,
     ⟨some kk25, none, none, .idxStr (.t kk23) (.t kk24)⟩,
     ⟨some kk26, none, none, .bin .sub (.t kk25) (.c (.int .u8 (.ofNat 48)))⟩,
     ⟨some kk27, none, none, .conv .i64 (.t kk26)⟩,
     ⟨some kk28, none, none, .bin .add (.t kk22) (.t kk27)⟩,
     ⟨some kk4, none, none, .mov (.t kk28)⟩]))))
   (.region false [⟨some kk29, none, none, .bin .add (.t kk8) (.c (.int .i64 (.ofNat 1)))⟩,
    ⟨some kk8, none, none, .mov (.t kk29)⟩])))))))
 (.seq (.region false [⟨some kk30, none, none, .mov (.t kk4)⟩,
  ⟨some kk2, none, none, .mov (.t kk30)⟩,
  ⟨some kk3, none, none, .mov (.c (.bool true))⟩])
 .ret)))) }
theorem fn162 : fnOf Tryz.prog Tryz.f162 = some i162 := by kernel_rfl
/-- annalist.civil.FromDate -/
noncomputable def i163 : IFn := { nt := 45, ps := [kk0, kk1, kk2], res := [.tmp kk6, .tmp kk7], body :=
 (.seq (.region false [⟨some kk6, none, none, .mov (.c (.int .i64 (.ofNat 0)))⟩,
  ⟨some kk7, none, none, .mov (.c (.bool false))⟩])
 (.seq (.seq (.region false [⟨some kk10, none, none, .mov (.t kk0)⟩,
  ⟨some kk11, none, none, .bin .lss (.t kk10) (.c (.int .i64 (.ofNat 1600)))⟩,
  ⟨some kk12, none, none, .mov (.t kk11)⟩,
  ⟨some kk13, some (kk12, false), none, .mov (.t kk0)⟩,
  ⟨some kk14, some (kk12, false), none, .bin .gtr (.t kk13) (.c (.int .i64 (.ofNat 4400)))⟩,
  ⟨some kk15, none, none, .pick (.t kk12) (.c (.bool true)) (.t kk14)⟩,
  ⟨some kk16, none, none, .mov (.t kk15)⟩,
  ⟨some kk17, some (kk16, false), none, .mov (.t kk2)⟩,
  ⟨some kk18, some (kk16, false), none, .bin .lss (.t kk17) (.c (.int .i64 (.ofNat 1)))⟩,
  ⟨some kk19, none, none, .pick (.t kk16) (.c (.bool true)) (.t kk18)⟩,
  ⟨some kk20, none, none, .mov (.t kk19)⟩,
  ⟨some kk21, some (kk20, false), none, .mov (.t kk2)⟩,
  ⟨some kk22, some (kk20, false), none, .mov (.t kk0)⟩,
  ⟨some kk23, some (kk20, false), none, .mov (.t kk1)⟩,
  ⟨some kk24, some (kk20, false), none, .call 150 [(.t kk22), (.t kk23)]⟩,
  ⟨some kk25, some (kk20, false), none, .bin .gtr (.t kk21) (.t kk24)⟩,
  ⟨some kk26, none, none, .pick (.t kk20) (.c (.bool true)) (.t kk25)⟩])
 (.cond (.t kk26)
  (.seq (.region false [⟨some kk6, none, none, .mov (.c (.int .i64 (.ofNat 0)))⟩,
   ⟨some kk7, none, none, .mov (.c (.bool false))⟩])
  .ret)
  .skip))
 (.seq (.region false [⟨some kk27, none, none, .mov (.t kk0)⟩,
  ⟨some kk28, none, none, .call 149 [(.t kk27)]⟩,
  ⟨some kk29, none, none, .mov (.t kk2)⟩,
  ⟨some kk30, none, none, .bin .add (.t kk28) (.t kk29)⟩,
  ⟨some kk31, none, none, .bin .sub (.t kk30) (.c (.int .i64 (.ofNat 1)))⟩,
  ⟨some kk8, none, none, .mov (.t kk31)⟩])
 (.seq (.seq (.region false [⟨some kk9, none, none, .mov (.c (.int .i64 (.ofNat 1)))⟩])
 (.block 0 (.loop (.seq (.seq (.region false [⟨some kk32, none, none, .mov (.t kk9)⟩,
    ⟨some kk33, none, none, .mov (.t kk1)⟩,
    ⟨some kk34, none, none, .bin .lss (.t kk32) (.t kk33)⟩])
   (.cond (.t kk34)
    .skip
    (.exit 0)))
   (.seq (.block 1 (.region false [⟨some kk37, none, none, .mov (.t kk8)⟩,
     ⟨some kk38, none, none, .mov (.t kk0)⟩,
     ⟨some kk39, none, none, .mov (.t kk9)⟩,
     ⟨some kk40, none, none, .call 150 [(.t kk38), (.t kk39)]⟩,
     ⟨some kk41, none, none, .bin .add (.t kk37) (.t kk40)⟩,
     ⟨some kk8, none, none, .mov (.t kk41)⟩]))
   (.region false [⟨some kk35, none, none, .mov (.t kk9)⟩,
    ⟨some kk36, none, none, .bin .add (.t kk35) (.c (.int .i64 (.ofNat 1)))⟩,
    ⟨some kk9, none, none, .mov (.t kk36)⟩]))))))
 (.seq (.seq (.region false [⟨some kk42, none, none, .mov (.t kk8)⟩,
  ⟨some kk43, none, none, .bin .geq (.t kk42) (.c (.int .i64 (.ofNat 1000000)))⟩])
 (.cond (.t kk43)
  (.seq (.region false [⟨some kk6, none, none, .mov (.c (.int .i64 (.ofNat 0)))⟩,
   ⟨some kk7, none, none, .mov (.c (.bool false))⟩])
  .ret)
  .skip))
 (.seq (.region false [⟨some kk44, none, none, .mov (.t kk8)⟩,
  ⟨some kk6, none, none, .mov (.t kk44)⟩,
  ⟨some kk7, none, none, .mov (.c (.bool true))⟩])
 .ret)))))) }
theorem fn163 : fnOf Tryz.prog Tryz.f163 = some i163 := by kernel_rfl
/-- internal.strconv.lower -/
noncomputable def i164 : IFn := { nt := 5, ps := [kk0], res := [.tmp kk2], body :=
 (.seq (.region false [⟨some kk2, none, none, .mov (.c (.int .u8 (.ofNat 0)))⟩])
 (.seq (.region false [⟨some kk3, none, none, .mov (.t kk0)⟩,
  ⟨some kk4, none, none, .bin .or (.t kk3) (.c (.int .u8 (.ofNat 32)))⟩,
  ⟨some kk2, none, none, .mov (.t kk4)⟩])
 .ret)) }
theorem fn164 : fnOf Tryz.prog Tryz.f164 = some i164 := by kernel_rfl
/-- internal.strconv.underscoreOK -/
noncomputable def i165 : IFn := { nt := 94, ps := [kk0], res := [.tmp kk2], body :=
 (.seq (.region false [⟨some kk2, none, none, .mov (.c (.bool false))⟩])
 (.seq (.region false [⟨some kk3, none, none, .mov (.c (.int .i32 (.ofNat 94)))⟩])
 (.seq (.region false [⟨some kk4, none, none, .mov (.c (.int .i64 (.ofNat 0)))⟩])
 (.seq (.seq (.region false [⟨some kk6, none, none, .mov (.t kk0)⟩,
  ⟨some kk7, none, none, .lenS (.t kk6)⟩,
  ⟨some kk8, none, none, .bin .geq (.t kk7) (.c (.int .i64 (.ofNat 1)))⟩,
  ⟨some kk9, none, none, .mov (.t kk8)⟩,
  ⟨some kk10, some (kk9, true), none, .mov (.t kk0)⟩,
  ⟨some kk11, some (kk9, true), none, .idxStr (.t kk10) (.c (.int .i64 (.ofNat 0)))⟩,
  ⟨some kk12, some (kk9, true), none, .bin .eql (.t kk11) (.c (.int .u8 (.ofNat 45)))⟩,
  ⟨some kk13, some (kk9, true), none, .mov (.t kk12)⟩,
  ⟨some kk14, some (kk13, false), none, .mov (.t kk0)⟩,
  ⟨some kk15, some (kk13, false), none, .idxStr (.t kk14) (.c (.int .i64 (.ofNat 0)))⟩,
  ⟨some kk16, some (kk13, false), none, .bin .eql (.t kk15) (.c (.int .u8 (.ofNat 43)))⟩,
  ⟨some kk17, some (kk9, true), none, .pick (.t kk13) (.c (.bool true)) (.t kk16)⟩,
  ⟨some kk18, none, none, .pick (.t kk9) (.t kk17) (.c (.bool false))⟩])
 (.cond (.t kk18)
  (.region false [⟨some kk19, none, none, .mov (.t kk0)⟩,
   ⟨some kk20, none, none, .slStr (.t kk19) (some (.c (.int .i64 (.ofNat 1)))) none⟩,
   ⟨some kk0, none, none, .mov (.t kk20)⟩])
  .skip))
 (.seq (.region false [⟨some kk5, none, none, .mov (.c (.bool false))⟩])
 (.seq (.seq (.region false [⟨some kk21, none, none, .mov (.t kk0)⟩,
  ⟨some kk22, none, none, .lenS (.t kk21)⟩,
  ⟨some kk23, none, none, .bin .geq (.t kk22) (.c (.int .i64 (.ofNat 2)))⟩,
  ⟨some kk24, none, none, .mov (.t kk23)⟩,
  ⟨some kk25, some (kk24, true), none, .mov (.t kk0)⟩,
  ⟨some kk26, some (kk24, true), none, .idxStr (.t kk25) (.c (.int .i64 (.ofNat 0)))⟩,
  ⟨some kk27, some (kk24, true), none, .bin .eql (.t kk26) (.c (.int .u8 (.ofNat 48)))⟩,
  ⟨some kk28, none, none, .pick (.t kk24) (.t kk27) (.c (.bool false))⟩,
  ⟨some kk29, none, none, .mov (.t kk28)⟩,
  ⟨some kk30, some (kk29, true), none, .mov (.t kk0)⟩,
  ⟨some kk31, some (kk29, true), none, .idxStr (.t kk30) (.c (.int .i64 (.ofNat 1)))⟩,
  ⟨some kk32, some (kk29, true), none, .call 164 [(.t kk31)]⟩,
  ⟨some kk33, some (kk29, true), none, .bin .eql (.t kk32) (.c (.int .u8 (.ofNat 98)))⟩,
  ⟨some kk34, some (kk29, true), none, .mov (.t kk33)⟩,
  ⟨some kk35, some (kk34, false), none, .mov (.t kk0)⟩,
  ⟨some kk36, some (kk34, false), none, .idxStr (.t kk35) (.c (.int .i64 (.ofNat 1)))⟩,
  ⟨some kk37, some (kk34, false), none, .call 164 [(.t kk36)]⟩,
  ⟨some kk38, some (kk34, false), none, .bin .eql (.t kk37) (.c (.int .u8 (.ofNat 111)))⟩,
  ⟨some kk39, some (kk29, true), none, .pick (.t kk34) (.c (.bool true)) (.t kk38)⟩,
  ⟨some kk40, some (kk29, true), none, .mov (.t kk39)⟩,
  ⟨some kk41, some (kk40, false), none, .mov (.t kk0)⟩,
  ⟨some kk42, some (kk40, false), none, .idxStr (.t kk41) (.c (.int .i64 (.ofNat 1)))⟩,
  ⟨some kk43, some (kk40, false), none, .call 164 [(.t kk42)]⟩,
  ⟨some kk44, some (kk40, false), none, .bin .eql (.t kk43) (.c (.int .u8 (.ofNat 120)))⟩,
  ⟨some kk45, some (kk29, true), none, .pick (.t kk40) (.c (.bool true)) (.t kk44)⟩,
  ⟨some kk46, none, none, .pick (.t kk29) (.t kk45) (.c (.bool false))⟩])
 (.cond (.t kk46)
  (.seq (.region false [⟨some kk4, none, none, .mov (.c (.int .i64 (.ofNat 2)))⟩])
  (.seq (.region false [⟨some kk3, none, none, .mov (.c (.int .i32 (.ofNat 48)))⟩])
  (.region false [⟨some kk47, none, none, .mov (.t kk0)⟩,
   ⟨some kk48, none, none, .idxStr (.t kk47) (.c (.int .i64 (.ofNat 1)))⟩,
   ⟨some kk49, none, none, .call 164 [(.t kk48)]⟩,
   ⟨some kk50, none, none, .bin .eql (.t kk49) (.c (.int .u8 (.ofNat 120)))⟩,
   ⟨some kk5, none, none, .mov (.t kk50)⟩])))
  .skip))
 (.seq (.block 0 (.loop (.seq (.seq (.region false [⟨some kk51, none, none, .mov (.t kk4)⟩,
    ⟨some kk52, none, none, .mov (.t kk0)⟩,
    ⟨some kk53, none, none, .lenS (.t kk52)⟩,
    ⟨some kk54, none, none, .bin .lss (.t kk51) (.t kk53)⟩])
   (.cond (.t kk54)
    .skip
    (.exit 0)))
   (.seq (.block 1 (.seq (.seq (.region false [⟨some kk57, none, none, .mov (.t kk0)⟩,
     ⟨some kk58, none, none, .mov (.t kk4)⟩,
     ⟨some kk59, none, none, .idxStr (.t kk57) (.t kk58)⟩,
     ⟨some kk60, none, none, .bin .leq (.c (.int .u8 (.ofNat 48))) (.t kk59)⟩,
     ⟨some kk61, none, none, .mov (.t kk60)⟩,
     ⟨some kk62, some (kk61, true), none, .mov (.t kk0)⟩,
     ⟨some kk63, some (kk61, true), none, .mov (.t kk4)⟩,
     ⟨some kk64, some (kk61, true), none, .idxStr (.t kk62) (.t kk63)⟩,
     ⟨some kk65, some (kk61, true), none, .bin .leq (.t kk64) (.c (.int .u8 (.ofNat 57)))⟩,
     ⟨some kk66, none, none, .pick (.t kk61) (.t kk65) (.c (.bool false))⟩,
     ⟨some kk67, none, none, .mov (.t kk66)⟩,
     ⟨some kk68, some (kk67, false), none, .mov (.t kk5)⟩,
     ⟨some kk69, some (kk67, false), none, .mov (.t kk68)⟩,
     ⟨some kk70, some (kk69, true), none, .mov (.t kk0)⟩,
     ⟨some kk71, some (kk69, true), none, .mov (.t kk4)⟩,
     ⟨some kk72, some (kk69, true), none, .idxStr (.t kk70) (.t kk71)⟩,
     ⟨some kk73, some (kk69, true), none, .call 164 [(.t kk72)]⟩,
     ⟨some kk74, some (kk69, true), none, .bin .leq (.c (.int .u8 (.ofNat 97))) (.t kk73)⟩,
     ⟨some kk75, some (kk67, false), none, .pick (.t kk69) (.t kk74) (.c (.bool false))⟩,
     ⟨some kk76, some (kk67, false), none, .mov (.t kk75)⟩,
     ⟨some kk77, some (kk76, true), none, .mov (.t kk0)⟩,
     ⟨some kk78, some (kk76, true), none, .mov (.t kk4)⟩,
     ⟨some kk79, some (kk76, true), none, .idxStr (.t kk77) (.t kk78)⟩,
     ⟨some kk80, some (kk76, true), none, .call 164 [(.t kk79)]⟩,
     ⟨some kk81, some (kk76, true), none, .bin .leq (.t kk80) (.c (.int .u8 (.ofNat 102)))⟩,
     ⟨some kk82, some (kk67, false), none, .pick (.t kk76) (.t kk81) (.c (.bool false))⟩,
     ⟨some kk83, none, none, .pick (.t kk67) (.c (.bool true)) (.t kk82)⟩])
    (.cond (.t kk83)
     (.seq (.region false [⟨some kk3, none, none, .mov (.c (.int .i32 (.ofNat 48)))⟩])
     (.exit 1))
     .skip))
    (.seq (.seq (.region false [⟨some kk84, none, none, .mov (.t kk0)⟩,
     ⟨some kk85, none, none, .mov (.t kk4)⟩,
     ⟨some kk86, none, none, .idxStr (.t kk84) (.t kk85)⟩,
     ⟨some kk87, none, none, .bin .eql (.t kk86) (.c (.int .u8 (.ofNat 95)))⟩])
    (.cond (.t kk87)
     (.seq (.seq (.region false [⟨some kk88, none, none, .mov (.t kk3)⟩,
      ⟨some kk89, none, none, .bin .neq (.t kk88) (.c (.int .i32 (.ofNat 48)))⟩])
     (.cond (.t kk89)
      (.seq (.region false [⟨some kk2, none, none, .mov (.c (.bool false))⟩])
      .ret)
      .skip))
     (.seq (.region false [⟨some kk3, none, none, .mov (.c (.int .i32 (.ofNat 95)))⟩])
     (.exit 1)))
     .skip))
    (.seq (.seq (.region false [⟨some kk90, none, none, .mov (.t kk3)⟩,
     ⟨some kk91, none, none, .bin .eql (.t kk90) (.c (.int .i32 (.ofNat 95)))⟩])
    (.cond (.t kk91)
     (.seq (.region false [⟨some kk2, none, none, .mov (.c (.bool false))⟩])
     .ret)
     .skip))
    (.region false [⟨some kk3, none, none, .mov (.c (.int .i32 (.ofNat 33)))⟩])))))
   (.region false [⟨some kk55, none, none, .mov (.t kk4)⟩,
    ⟨some kk56, none, none, .bin .add (.t kk55) (.c (.int .i64 (.ofNat 1)))⟩,
    ⟨some kk4, none, none, .mov (.t kk56)⟩])))))
 (.seq (.region false [⟨some kk92, none, none, .mov (.t kk3)⟩,
  ⟨some kk93, none, none, .bin .neq (.t kk92) (.c (.int .i32 (.ofNat 95)))⟩,
  ⟨some kk2, none, none, .mov (.t kk93)⟩])
 .ret)))))))) }
theorem fn165 : fnOf Tryz.prog Tryz.f165 = some i165 := by kernel_rfl
/-- strconv.syntaxError -/
noncomputable def i166 : IFn := { nt := 11, ps := [kk0, kk1], res := [.tmp kk4], body :=
 (.seq (.region false [⟨some kk4, none, none, .mov (.c .nilptr)⟩])
 (.seq (.region true [⟨some kk5, none, none, .mov (.t kk0)⟩,
  ⟨some kk6, none, none, .mov (.t kk1)⟩,
  ⟨some kk7, none, some [], .call 186 [(.t kk6)]⟩,
  ⟨some kk8, none, some [0], .load 1 false (.c (.ptr 4 1 0))⟩,
  ⟨some kk9, none, none, .build [(.str 0 0), (.str 0 0), .niliface] [(0, 1, (.t kk5)), (1, 1, (.t kk7)), (2, 1, (.t kk8))]⟩,
  ⟨some kk10, none, some [], .box 220 3 48 (.t kk9)⟩,
  ⟨some kk4, none, none, .mov (.t kk10)⟩])
 .ret)) }
theorem fn166 : fnOf Tryz.prog Tryz.f166 = some i166 := by kernel_rfl
/-- strconv.rangeError -/
noncomputable def i167 : IFn := { nt := 11, ps := [kk0, kk1], res := [.tmp kk4], body :=
 (.seq (.region false [⟨some kk4, none, none, .mov (.c .nilptr)⟩])
 (.seq (.region true [⟨some kk5, none, none, .mov (.t kk0)⟩,
  ⟨some kk6, none, none, .mov (.t kk1)⟩,
  ⟨some kk7, none, some [], .call 186 [(.t kk6)]⟩,
  ⟨some kk8, none, some [0], .load 1 false (.c (.ptr 5 1 0))⟩,
  ⟨some kk9, none, none, .build [(.str 0 0), (.str 0 0), .niliface] [(0, 1, (.t kk5)), (1, 1, (.t kk7)), (2, 1, (.t kk8))]⟩,
  ⟨some kk10, none, some [], .box 220 3 48 (.t kk9)⟩,
  ⟨some kk4, none, none, .mov (.t kk10)⟩])
 .ret)) }
theorem fn167 : fnOf Tryz.prog Tryz.f167 = some i167 := by kernel_rfl
/-- strconv.baseError -/
noncomputable def i168 : IFn := { nt := 16, ps := [kk0, kk1, kk2], res := [.tmp kk6], body :=
 (.seq (.region false [⟨some kk6, none, none, .mov (.c .nilptr)⟩])
 (.seq (.region false [⟨some kk7, none, none, .mov (.t kk0)⟩,
  ⟨some kk8, none, none, .mov (.t kk1)⟩,
  ⟨some kk9, none, none, .call 186 [(.t kk8)]⟩,
  ⟨some kk10, none, none, .mov (.t kk2)⟩,
  ⟨some kk11, none, none, .call 98 [(.t kk10)]⟩,
  ⟨some kk12, none, none, .bin .add (.c (.str 13 2566698672797334201289919589993)) (.t kk11)⟩,
  ⟨some kk13, none, none, .call 187 [(.t kk12)]⟩,
  ⟨some kk14, none, none, .build [(.str 0 0), (.str 0 0), .niliface] [(0, 1, (.t kk7)), (1, 1, (.t kk9)), (2, 1, (.t kk13))]⟩,
  ⟨some kk15, none, none, .box 220 3 48 (.t kk14)⟩,
  ⟨some kk6, none, none, .mov (.t kk15)⟩])
 .ret)) }
theorem fn168 : fnOf Tryz.prog Tryz.f168 = some i168 := by kernel_rfl
/-- strconv.bitSizeError -/
noncomputable def i169 : IFn := { nt := 16, ps := [kk0, kk1, kk2], res := [.tmp kk6], body :=
 (.seq (.region false [⟨some kk6, none, none, .mov (.c .nilptr)⟩])
 (.seq (.region false [⟨some kk7, none, none, .mov (.t kk0)⟩,
  ⟨some kk8, none, none, .mov (.t kk1)⟩,
  ⟨some kk9, none, none, .call 186 [(.t kk8)]⟩,
  ⟨some kk10, none, none, .mov (.t kk2)⟩,
  ⟨some kk11, none, none, .call 98 [(.t kk10)]⟩,
  ⟨some kk12, none, none, .bin .add (.c (.str 17 11023923368035339908895700075316841442921)) (.t kk11)⟩,
  ⟨some kk13, none, none, .call 187 [(.t kk12)]⟩,
  ⟨some kk14, none, none, .build [(.str 0 0), (.str 0 0), .niliface] [(0, 1, (.t kk7)), (1, 1, (.t kk9)), (2, 1, (.t kk13))]⟩,
  ⟨some kk15, none, none, .box 220 3 48 (.t kk14)⟩,
  ⟨some kk6, none, none, .mov (.t kk15)⟩])
 .ret)) }
theorem fn169 : fnOf Tryz.prog Tryz.f169 = some i169 := by kernel_rfl
/-- internal.strconv.log10Pow2 -/
noncomputable def i170 : IFn := { nt := 6, ps := [kk0], res := [.tmp kk2], body :=
 (.seq (.region false [⟨some kk2, none, none, .mov (.c (.int .i64 (.ofNat 0)))⟩])
 (.seq (.region false [⟨some kk3, none, none, .mov (.t kk0)⟩,
  ⟨some kk4, none, none, .bin .mul (.t kk3) (.c (.int .i64 (.ofNat 78913)))⟩,
  ⟨some kk5, none, none, .bin .shr (.t kk4) (.c (.int .u64 (.ofNat 18)))⟩,
  ⟨some kk2, none, none, .mov (.t kk5)⟩])
 .ret)) }
theorem fn170 : fnOf Tryz.prog Tryz.f170 = some i170 := by kernel_rfl
/-- math.bits.Len64 -/
noncomputable def i171 : IFn := { nt := 25, ps := [kk0], res := [.tmp kk2], body :=
 (.seq (.region false [⟨some kk2, none, none, .mov (.c (.int .i64 (.ofNat 0)))⟩])
 (.seq (.seq (.region false [⟨some kk3, none, none, .mov (.t kk0)⟩,
  ⟨some kk4, none, none, .bin .geq (.t kk3) (.c (.int .u64 (.ofNat 4294967296)))⟩])
 (.cond (.t kk4)
  (.seq (.region false [⟨some kk5, none, none, .mov (.t kk0)⟩,
   ⟨some kk6, none, none, .bin .shr (.t kk5) (.c (.int .u64 (.ofNat 32)))⟩,
   ⟨some kk0, none, none, .mov (.t kk6)⟩])
  (.region false [⟨some kk2, none, none, .mov (.c (.int .i64 (.ofNat 32)))⟩]))
  .skip))
 (.seq (.seq (.region false [⟨some kk7, none, none, .mov (.t kk0)⟩,
  ⟨some kk8, none, none, .bin .geq (.t kk7) (.c (.int .u64 (.ofNat 65536)))⟩])
 (.cond (.t kk8)
  (.seq (.region false [⟨some kk9, none, none, .mov (.t kk0)⟩,
   ⟨some kk10, none, none, .bin .shr (.t kk9) (.c (.int .u64 (.ofNat 16)))⟩,
   ⟨some kk0, none, none, .mov (.t kk10)⟩])
  (.region false [⟨some kk11, none, none, .mov (.t kk2)⟩,
   ⟨some kk12, none, none, .bin .add (.t kk11) (.c (.int .i64 (.ofNat 16)))⟩,
   ⟨some kk2, none, none, .mov (.t kk12)⟩]))
  .skip))
 (.seq (.seq (.region false [⟨some kk13, none, none, .mov (.t kk0)⟩,
  ⟨some kk14, none, none, .bin .geq (.t kk13) (.c (.int .u64 (.ofNat 256)))⟩])
 (.cond (.t kk14)
  (.seq (.region false [⟨some kk15, none, none, .mov (.t kk0)⟩,
   ⟨some kk16, none, none, .bin .shr (.t kk15) (.c (.int .u64 (.ofNat 8)))⟩,
   ⟨some kk0, none, none, .mov (.t kk16)⟩])
  (.region false [⟨some kk17, none, none, .mov (.t kk2)⟩,
   ⟨some kk18, none, none, .bin .add (.t kk17) (.c (.int .i64 (.ofNat 8)))⟩,
   ⟨some kk2, none, none, .mov (.t kk18)⟩]))
  .skip))
 (.seq (.region false [⟨some kk19, none, none, .mov (.t kk2)⟩,
  ⟨some kk20, none, none, .mov (.t kk0)⟩,
  ⟨some kk21, none, none, .conv .u8 (.t kk20)⟩,
  ⟨some kk22, none, none, .idxStr (.c (.str 256 1013866857139168856493015739252390649739422828853819106890363778118420553376247557433637691341895324351018602695588957474325319502760499485336098898398377509666851054660423406800006203933793007272033180812049178612605246075062580585469430410618860250057463399279570354286669047577758927328864388992123306212451509403152394148136105363817402562688186708175358218852349079190158732807302672745370040257219644697201681238697346923541678507645485296520536209706771857694240900605172937619415410180424934769249448772944216470541052485265558808433676546390051204254346932932316488017972311616136051587427851453983453479168)) (.t kk21)⟩,
  ⟨some kk23, none, none, .conv .i64 (.t kk22)⟩,
  ⟨some kk24, none, none, .bin .add (.t kk19) (.t kk23)⟩,
  ⟨some kk2, none, none, .mov (.t kk24)⟩])
 .ret))))) }
theorem fn171 : fnOf Tryz.prog Tryz.f171 = some i171 := by kernel_rfl
/-- internal.strconv.bool2[int] -/
noncomputable def i172 : IFn := { nt := 4, ps := [kk0], res := [.tmp kk2], body :=
 (.seq (.region false [⟨some kk2, none, none, .mov (.c (.int .i64 (.ofNat 0)))⟩])
 (.seq (.seq (.region false [⟨some kk3, none, none, .mov (.t kk0)⟩])
 (.cond (.t kk3)
  (.seq (.region false [⟨some kk2, none, none, .mov (.c (.int .i64 (.ofNat 1)))⟩])
  .ret)
  .skip))
 (.seq (.region false [⟨some kk2, none, none, .mov (.c (.int .i64 (.ofNat 0)))⟩])
 .ret))) }
theorem fn172 : fnOf Tryz.prog Tryz.f172 = some i172 := by kernel_rfl
/-- internal.strconv.isPowerOfTwo -/
noncomputable def i173 : IFn := { nt := 8, ps := [kk0], res := [.tmp kk2], body :=
 (.seq (.region false [⟨some kk2, none, none, .mov (.c (.bool false))⟩])
 (.seq (.region false [⟨some kk3, none, none, .mov (.t kk0)⟩,
  ⟨some kk4, none, none, .mov (.t kk0)⟩,
  ⟨some kk5, none, none, .bin .sub (.t kk4) (.c (.int .i64 (.ofNat 1)))⟩,
  ⟨some kk6, none, none, .bin .and (.t kk3) (.t kk5)⟩,
  ⟨some kk7, none, none, .bin .eql (.t kk6) (.c (.int .i64 (.ofNat 0)))⟩,
  ⟨some kk2, none, none, .mov (.t kk7)⟩])
 .ret)) }
theorem fn173 : fnOf Tryz.prog Tryz.f173 = some i173 := by kernel_rfl
/-- math.bits.TrailingZeros -/
noncomputable def i174 : IFn := { nt := 8, ps := [kk0], res := [.tmp kk2], body :=
 (.seq (.region false [⟨some kk2, none, none, .mov (.c (.int .i64 (.ofNat 0)))⟩])
 (.seq (.cond (.c (.bool false))
  (.seq (.region false [⟨some kk3, none, none, .mov (.t kk0)⟩,
   ⟨some kk4, none, none, .conv .u32 (.t kk3)⟩,
   ⟨some kk5, none, none, .call 188 [(.t kk4)]⟩,
   ⟨some kk2, none, none, .mov (.t kk5)⟩])
  .ret)
  .skip)
 (.seq (.region false [⟨some kk6, none, none, .mov (.t kk0)⟩,
  ⟨some kk7, none, none, .call 189 [(.t kk6)]⟩,
  ⟨some kk2, none, none, .mov (.t kk7)⟩])
 .ret))) }
theorem fn174 : fnOf Tryz.prog Tryz.f174 = some i174 := by kernel_rfl
/-- annalist.civil.IsLeap -/
noncomputable def i175 : IFn := { nt := 16, ps := [kk0], res := [.tmp kk2], body :=
 (.seq (.region false [⟨some kk2, none, none, .mov (.c (.bool false))⟩])
 (.seq (.region false [⟨some kk3, none, none, .mov (.t kk0)⟩,
  ⟨some kk4, none, none, .bin .rem (.t kk3) (.c (.int .i64 (.ofNat 4)))⟩,
  ⟨some kk5, none, none, .bin .eql (.t kk4) (.c (.int .i64 (.ofNat 0)))⟩,
  ⟨some kk6, none, none, .mov (.t kk5)⟩,
  ⟨some kk7, some (kk6, true), none, .mov (.t kk0)⟩,
  ⟨some kk8, some (kk6, true), none, .bin .rem (.t kk7) (.c (.int .i64 (.ofNat 100)))⟩,
  ⟨some kk9, some (kk6, true), none, .bin .neq (.t kk8) (.c (.int .i64 (.ofNat 0)))⟩,
  ⟨some kk10, none, none, .pick (.t kk6) (.t kk9) (.c (.bool false))⟩,
  ⟨some kk11, none, none, .mov (.t kk10)⟩,
  ⟨some kk12, some (kk11, false), none, .mov (.t kk0)⟩,
  ⟨some kk13, some (kk11, false), none, .bin .rem (.t kk12) (.c (.int .i64 (.ofNat 400)))⟩,
  ⟨some kk14, some (kk11, false), none, .bin .eql (.t kk13) (.c (.int .i64 (.ofNat 0)))⟩,
  ⟨some kk15, none, none, .pick (.t kk11) (.c (.bool true)) (.t kk14)⟩,
  ⟨some kk2, none, none, .mov (.t kk15)⟩])
 .ret)) }
theorem fn175 : fnOf Tryz.prog Tryz.f175 = some i175 := by kernel_rfl
/-- internal.bytealg.Cutover -/
noncomputable def i178 : IFn := { nt := 6, ps := [kk0], res := [.tmp kk2], body :=
 (.seq (.region false [⟨some kk2, none, none, .mov (.c (.int .i64 (.ofNat 0)))⟩])
 (.seq (.region false [⟨some kk3, none, none, .mov (.t kk0)⟩,
  ⟨some kk4, none, none, .bin .add (.t kk3) (.c (.int .i64 (.ofNat 16)))⟩,
  ⟨some kk5, none, none, .bin .quo (.t kk4) (.c (.int .i64 (.ofNat 8)))⟩,
  ⟨some kk2, none, none, .mov (.t kk5)⟩])
 .ret)) }
theorem fn178 : fnOf Tryz.prog Tryz.f178 = some i178 := by kernel_rfl
/-- internal.bytealg.IndexRabinKarp[string] -/
noncomputable def i179 : IFn := { nt := 81, ps := [kk0, kk1], res := [.tmp kk4], body :=
 (.seq (.region false [⟨some kk4, none, none, .mov (.c (.int .i64 (.ofNat 0)))⟩])
 (.seq (.region false [⟨some kk12, none, none, .mov (.t kk1)⟩,
  ⟨some kk13, none, none, .call 190 [(.t kk12)]⟩,
  ⟨some kk11, none, none, .mov (.t kk13)⟩,
  ⟨some kk14, none, none, .extr (.t kk11) 0⟩,
  ⟨some kk15, none, none, .extr (.t kk11) 1⟩,
  ⟨some kk5, none, none, .mov (.t kk14)⟩,
  ⟨some kk6, none, none, .mov (.t kk15)⟩])
 (.seq (.region false [⟨some kk16, none, none, .mov (.t kk1)⟩,
  ⟨some kk17, none, none, .lenS (.t kk16)⟩,
  ⟨some kk7, none, none, .mov (.t kk17)⟩])
 (.seq (.region false [⟨some kk8, none, none, .mov (.c (.int .u32 (.ofNat 0)))⟩])
 (.seq (.seq (.region false [⟨some kk9, none, none, .mov (.c (.int .i64 (.ofNat 0)))⟩])
 (.block 0 (.loop (.seq (.seq (.region false [⟨some kk18, none, none, .mov (.t kk9)⟩,
    ⟨some kk19, none, none, .mov (.t kk7)⟩,
    ⟨some kk20, none, none, .bin .lss (.t kk18) (.t kk19)⟩])
   (.cond (.t kk20)
    .skip
    (.exit 0)))
   (.seq (.block 1 (.region false [⟨some kk23, none, none, .mov (.t kk8)⟩,
     ⟨some kk24, none, none, .bin .mul (.t kk23) (.c (.int .u32 (.ofNat 16777619)))⟩,
     ⟨some kk25, none, none, .mov (.t kk0)⟩,
     ⟨some kk26, none, none, .mov (.t kk9)⟩,
     ⟨some kk27, none, none, .idxStr (.t kk25) (.t kk26)⟩,
     ⟨some kk28, none, none, .conv .u32 (.t kk27)⟩,
     ⟨some kk29, none, none, .bin .add (.t kk24) (.t kk28)⟩,
     ⟨some kk8, none, none, .mov (.t kk29)⟩]))
   (.region false [⟨some kk21, none, none, .mov (.t kk9)⟩,
    ⟨some kk22, none, none, .bin .add (.t kk21) (.c (.int .i64 (.ofNat 1)))⟩,
    ⟨some kk9, none, none, .mov (.t kk22)⟩]))))))
 (.seq (.seq (.region false [⟨some kk30, none, none, .mov (.t kk8)⟩,
  ⟨some kk31, none, none, .mov (.t kk5)⟩,
  ⟨some kk32, none, none, .bin .eql (.t kk30) (.t kk31)⟩,
  ⟨some kk33, none, none, .mov (.t kk32)⟩,
  ⟨some kk34, some (kk33, true), none, .mov (.t kk0)⟩,
  ⟨some kk35, some (kk33, true), none, .mov (.t kk7)⟩,
  ⟨some kk36, some (kk33, true), none, .slStr (.t kk34) none (some (.t kk35))⟩,
  ⟨some kk37, some (kk33, true), none, .mov (.t kk1)⟩,
  ⟨some kk38, some (kk33, true), none, .bin .eql (.t kk36) (.t kk37)⟩,
  ⟨some kk39, none, none, .pick (.t kk33) (.t kk38) (.c (.bool false))⟩])
 (.cond (.t kk39)
  (.seq (.region false [⟨some kk4, none, none, .mov (.c (.int .i64 (.ofNat 0)))⟩])
  .ret)
  .skip))
 (.seq (.seq (.region false [⟨some kk40, none, none, .mov (.t kk7)⟩,
  ⟨some kk10, none, none, .mov (.t kk40)⟩])
 (.block 2 (.loop (.seq (.seq (.region false [⟨some kk41, none, none, .mov (.t kk10)⟩,
    ⟨some kk42, none, none, .mov (.t kk0)⟩,
    ⟨some kk43, none, none, .lenS (.t kk42)⟩,
    ⟨some kk44, none, none, .bin .lss (.t kk41) (.t kk43)⟩])
   (.cond (.t kk44)
    .skip
    (.exit 2)))
   (.block 3 (.seq (.region false [⟨some kk45, none, none, .mov (.t kk8)⟩,
     ⟨some kk46, none, none, .bin .mul (.t kk45) (.c (.int .u32 (.ofNat 16777619)))⟩,
     ⟨some kk8, none, none, .mov (.t kk46)⟩])
    (.seq (.region false [⟨some kk47, none, none, .mov (.t kk8)⟩,
     ⟨some kk48, none, none, .mov (.t kk0)⟩,
     ⟨some kk49, none, none, .mov (.t kk10)⟩,
     ⟨some kk50, none, none, .idxStr (.t kk48) (.t kk49)⟩,
     ⟨some kk51, none, none, .conv .u32 (.t kk50)⟩,
     ⟨some kk52, none, none, .bin .add (.t kk47) (.t kk51)⟩,
     ⟨some kk8, none, none, .mov (.t kk52)⟩])
    (.seq (.region false [⟨some kk53, none, none, .mov (.t kk8)⟩,
     ⟨some kk54, none, none, .mov (.t kk6)⟩,
     ⟨some kk55, none, none, .mov (.t kk0)⟩,
     ⟨some kk56, none, none, .mov (.t kk10)⟩,
     ⟨some kk57, none, none, .mov (.t kk7)⟩,
     ⟨some kk58, none, none, .bin .sub (.t kk56) (.t kk57)⟩,
     ⟨some kk59, none, none, .idxStr (.t kk55) (.t kk58)⟩,
     ⟨some kk60, none, none, .conv .u32 (.t kk59)⟩,
     ⟨some kk61, none, none, .bin .mul (.t kk54) (.t kk60)⟩,
     ⟨some kk62, none, none, .bin .sub (.t kk53) (.t kk61)⟩,
     ⟨some kk8, none, none, .mov (.t kk62)⟩])
    (.seq (.region false [⟨some kk63, none, none, .mov (.t kk10)⟩,
     ⟨some kk64, none, none, .bin .add (.t kk63) (.c (.int .i64 (.ofNat 1)))⟩,
     ⟨some kk10, none, none, .mov (.t kk64)⟩])
    (.seq (.region false [⟨some kk65, none, none, .mov (.t kk8)⟩,
     ⟨some kk66, none, none, .mov (.t kk5)⟩,
     ⟨some kk67, none, none, .bin .eql (.t kk65) (.t kk66)⟩,
     ⟨some kk68, none, none, .mov (.t kk67)⟩,
     ⟨some kk69, some (kk68, true), none, .mov (.t kk0)⟩,
     ⟨some kk70, some (kk68, true), none, .mov (.t kk10)⟩,
     ⟨some kk71, some (kk68, true), none, .mov (.t kk7)⟩,
     ⟨some kk72, some (kk68, true), none, .bin .sub (.t kk70) (.t kk71)⟩,
     ⟨some kk73, some (kk68, true), none, .mov (.t kk10)⟩,
     ⟨some kk74, some (kk68, true), none, .slStr (.t kk69) (some (.t kk72)) (some (.t kk73))⟩,
     ⟨some kk75, some (kk68, true), none, .mov (.t kk1)⟩,
     ⟨some kk76, some (kk68, true), none, .bin .eql (.t kk74) (.t kk75)⟩,
     ⟨some kk77, none, none, .pick (.t kk68) (.t kk76) (.c (.bool false))⟩])
    (.cond (.t kk77)
     (.seq (.region false [⟨some kk78, none, none, .mov (.t kk10)⟩,
      ⟨some kk79, none, none, .mov (.t kk7)⟩,
      ⟨some kk80, none, none, .bin .sub (.t kk78) (.t kk79)⟩,
      ⟨some kk4, none, none, .mov (.t kk80)⟩])
     .ret)
     .skip)))))))))))
 (.seq (.region false [⟨some kk4, none, none, .mov (.c (.int .i64 (.negSucc 0)))⟩])
 .ret)))))))) }
theorem fn179 : fnOf Tryz.prog Tryz.f179 = some i179 := by kernel_rfl
/-- (*annalist.parser.parser).comparison -/
noncomputable def i180 : IFn := { nt := 36, ps := [kk0], res := [.tmp kk2], body :=
 (.seq (.region false [⟨some kk2, none, none, .mov (.c (.int .i64 (.ofNat 0)))⟩])
 (.seq (.region false [⟨some kk6, none, none, .mov (.t kk0)⟩,
  ⟨some kk7, none, none, .call 191 [(.t kk6)]⟩,
  ⟨some kk3, none, none, .mov (.t kk7)⟩])
 (.seq (.region false [⟨some kk4, none, none, .mov (.c (.int .i64 (.ofNat 0)))⟩])
 (.seq (.block 0 (.seq (.region false [⟨some kk10, none, none, .mov (.t kk0)⟩,
   ⟨some kk11, none, none, .call 77 [(.t kk10), (.c (.str 1 61))]⟩,
   ⟨some kk9, none, none, .mov (.t kk11)⟩])
  (.cond (.t kk9)
   (.region false [⟨some kk4, none, none, .mov (.c (.int .i64 (.ofNat 6)))⟩])
   (.seq (.region false [⟨some kk13, none, none, .mov (.t kk0)⟩,
    ⟨some kk14, none, none, .call 77 [(.t kk13), (.c (.str 1 60))]⟩,
    ⟨some kk12, none, none, .mov (.t kk14)⟩])
   (.cond (.t kk12)
    (.region false [⟨some kk4, none, none, .mov (.c (.int .i64 (.ofNat 7)))⟩])
    (.seq (.region false [⟨some kk16, none, none, .mov (.t kk0)⟩,
     ⟨some kk17, none, none, .call 77 [(.t kk16), (.c (.str 1 62))]⟩,
     ⟨some kk15, none, none, .mov (.t kk17)⟩])
    (.cond (.t kk15)
     (.region false [⟨some kk4, none, none, .mov (.c (.int .i64 (.ofNat 8)))⟩])
     (.seq (.region false [⟨some kk19, none, none, .mov (.t kk0)⟩,
      ⟨some kk20, none, none, .call 38 [(.t kk19), (.c (.str 2 21321))]⟩,
      ⟨some kk18, none, none, .mov (.t kk20)⟩])
     (.cond (.t kk18)
      (.seq (.region false [⟨some kk21, none, none, .mov (.t kk0)⟩,
       ⟨some kk22, none, none, .buildSl 9 1 16 1 [(.str 0 0)] [(0, (.c (.str 4 1280070990)))]⟩,
       ⟨some kk23, none, none, .call 39 [(.t kk21), (.t kk22)]⟩])
      (.seq (.region false [⟨some kk24, none, none, .mov (.t kk0)⟩,
       ⟨some kk25, none, none, .mov (.t kk3)⟩,
       ⟨some kk26, none, none, .build [(.int .i64 (.ofNat 0)), (.int .i64 (.ofNat 0)), (.int .i64 (.ofNat 0)), (.str 0 0), (.str 0 0), (.int .i64 (.ofNat 0)), (.int .i64 (.ofNat 0)), (.str 0 0)] [(0, 1, (.c (.int .i64 (.ofNat 12)))), (1, 1, (.t kk25))]⟩,
       ⟨some kk27, none, none, .call 134 [(.t kk24), (.t kk26)]⟩,
       ⟨some kk2, none, none, .mov (.t kk27)⟩])
      .ret))
      (.seq (.region false [⟨some kk8, none, none, .mov (.t kk3)⟩,
       ⟨some kk2, none, none, .mov (.t kk8)⟩])
      .ret))))))))))
 (.seq (.region false [⟨some kk28, none, none, .mov (.t kk0)⟩,
  ⟨some kk29, none, none, .call 191 [(.t kk28)]⟩,
  ⟨some kk5, none, none, .mov (.t kk29)⟩])
 (.seq (.region false [⟨some kk30, none, none, .mov (.t kk0)⟩,
  ⟨some kk31, none, none, .mov (.t kk4)⟩,
  ⟨some kk32, none, none, .mov (.t kk3)⟩,
  ⟨some kk33, none, none, .mov (.t kk5)⟩,
  ⟨some kk34, none, none, .build [(.int .i64 (.ofNat 0)), (.int .i64 (.ofNat 0)), (.int .i64 (.ofNat 0)), (.str 0 0), (.str 0 0), (.int .i64 (.ofNat 0)), (.int .i64 (.ofNat 0)), (.str 0 0)] [(0, 1, (.t kk31)), (1, 1, (.t kk32)), (2, 1, (.t kk33))]⟩,
  ⟨some kk35, none, none, .call 134 [(.t kk30), (.t kk34)]⟩,
  ⟨some kk2, none, none, .mov (.t kk35)⟩])
 .ret)))))) }
theorem fn180 : fnOf Tryz.prog Tryz.f180 = some i180 := by kernel_rfl
/-- (*annalist.parser.parser).enter -/
noncomputable def i181 : IFn := { nt := 17, ps := [kk0], res := [.tmp kk2], body :=
 (.seq (.region false [⟨some kk2, none, none, .mov (.c (.bool false))⟩])
 (.seq (.seq (.region false [⟨some kk3, none, none, .mov (.t kk0)⟩,
  ⟨some kk4, none, none, .nilck (.t kk3)⟩,
  ⟨some kk5, none, none, .offs (.t kk4) 4⟩,
  ⟨some kk6, none, none, .load 1 false (.t kk5)⟩,
  ⟨some kk7, none, none, .bin .eql (.t kk6) (.c (.int .i64 (.ofNat 60)))⟩])
 (.cond (.t kk7)
  (.seq (.region false [⟨some kk8, none, none, .mov (.t kk0)⟩,
   ⟨some kk9, none, none, .call 36 [(.t kk8), (.c (.int .i64 (.ofNat 19)))]⟩])
  (.seq (.region false [⟨some kk2, none, none, .mov (.c (.bool false))⟩])
  .ret))
  .skip))
 (.seq (.region false [⟨some kk10, none, none, .mov (.t kk0)⟩,
  ⟨some kk11, none, none, .nilck (.t kk10)⟩,
  ⟨some kk12, none, none, .offs (.t kk11) 4⟩,
  ⟨some kk13, none, none, .load 1 false (.t kk12)⟩,
  ⟨some kk14, none, none, .bin .add (.t kk13) (.c (.int .i64 (.ofNat 1)))⟩,
  ⟨some kk15, none, none, .nilck (.t kk10)⟩,
  ⟨some kk16, none, none, .offs (.t kk15) 4⟩,
  ⟨none, none, none, .store 1 (.t kk16) (.t kk14)⟩])
 (.seq (.region false [⟨some kk2, none, none, .mov (.c (.bool true))⟩])
 .ret)))) }
theorem fn181 : fnOf Tryz.prog Tryz.f181 = some i181 := by kernel_rfl
/-- internal.strconv.ParseInt -/
noncomputable def i182 : IFn := { nt := 73, ps := [kk0, kk1, kk2], res := [.tmp kk6, .tmp kk7], body :=
 (.seq (.region false [⟨some kk6, none, none, .mov (.c (.int .i64 (.ofNat 0)))⟩,
  ⟨some kk7, none, none, .mov (.c .niliface)⟩])
 (.seq (.seq (.region false [⟨some kk12, none, none, .mov (.t kk0)⟩,
  ⟨some kk13, none, none, .bin .eql (.t kk12) (.c (.str 0 0))⟩])
 (.cond (.t kk13)
  (.seq (.region false [⟨some kk14, none, none, .mkif 202 (.c (.int .i64 (.ofNat 2)))⟩,
   ⟨some kk6, none, none, .mov (.c (.int .i64 (.ofNat 0)))⟩,
   ⟨some kk7, none, none, .mov (.t kk14)⟩])
  .ret)
  .skip))
 (.seq (.region false [⟨some kk8, none, none, .mov (.c (.bool false))⟩])
 (.seq (.seq (.region false [⟨some kk15, none, none, .mov (.t kk0)⟩,
  ⟨some kk16, none, none, .idxStr (.t kk15) (.c (.int .i64 (.ofNat 0)))⟩])
 (.block 0 (.seq (.region false [⟨some kk18, none, none, .bin .eql (.t kk16) (.c (.int .u8 (.ofNat 43)))⟩,
   ⟨some kk17, none, none, .mov (.t kk18)⟩])
  (.cond (.t kk17)
   (.region false [⟨some kk19, none, none, .mov (.t kk0)⟩,
    ⟨some kk20, none, none, .slStr (.t kk19) (some (.c (.int .i64 (.ofNat 1)))) none⟩,
    ⟨some kk0, none, none, .mov (.t kk20)⟩])
   (.seq (.region false [⟨some kk22, none, none, .bin .eql (.t kk16) (.c (.int .u8 (.ofNat 45)))⟩,
    ⟨some kk21, none, none, .mov (.t kk22)⟩])
   (.cond (.t kk21)
    (.seq (.region false [⟨some kk23, none, none, .mov (.t kk0)⟩,
     ⟨some kk24, none, none, .slStr (.t kk23) (some (.c (.int .i64 (.ofNat 1)))) none⟩,
     ⟨some kk0, none, none, .mov (.t kk24)⟩])
    (.region false [⟨some kk8, none, none, .mov (.c (.bool true))⟩]))
    .skip))))))
 (.seq (.region false [⟨some kk9, none, none, .mov (.c (.int .u64 (.ofNat 0)))⟩])
 (.seq (.region false [⟨some kk26, none, none, .mov (.t kk0)⟩,
  ⟨some kk27, none, none, .mov (.t kk1)⟩,
  ⟨some kk28, none, none, .mov (.t kk2)⟩,
  ⟨some kk29, none, none, .call 142 [(.t kk26), (.t kk27), (.t kk28)]⟩,
  ⟨some kk25, none, none, .mov (.t kk29)⟩,
  ⟨some kk30, none, none, .extr (.t kk25) 0⟩,
  ⟨some kk31, none, none, .extr (.t kk25) 1⟩,
  ⟨some kk9, none, none, .mov (.t kk30)⟩,
  ⟨some kk7, none, none, .mov (.t kk31)⟩])
 (.seq (.seq (.region false [⟨some kk32, none, none, .mov (.t kk7)⟩,
  ⟨some kk33, none, none, .eqv .iface true (.t kk32) (.c .niliface)⟩,
  ⟨some kk34, none, none, .mov (.t kk33)⟩,
  ⟨some kk35, some (kk34, true), none, .mov (.t kk7)⟩,
  ⟨some kk36, some (kk34, true), none, .mkif 202 (.c (.int .i64 (.ofNat 1)))⟩,
  ⟨some kk37, some (kk34, true), none, .callv (.c .nilptr) []⟩,
  ⟨some kk38, none, none, .pick (.t kk34) (.t kk37) (.c (.bool false))⟩])
 (.cond (.t kk38)
  (.seq (.region false [⟨some kk39, none, none, .mov (.t kk7)⟩,
   ⟨some kk6, none, none, .mov (.c (.int .i64 (.ofNat 0)))⟩,
   ⟨some kk7, none, none, .mov (.t kk39)⟩])
  .ret)
  .skip))
 (.seq (.seq (.region false [⟨some kk40, none, none, .mov (.t kk2)⟩,
  ⟨some kk41, none, none, .bin .eql (.t kk40) (.c (.int .i64 (.ofNat 0)))⟩])
 (.cond (.t kk41)
  (.region false [⟨some kk2, none, none, .mov (.c (.int .i64 (.ofNat 64)))⟩])
  .skip))
 (.seq (.region false [⟨some kk42, none, none, .mov (.t kk2)⟩,
  ⟨some kk43, none, none, .bin .sub (.t kk42) (.c (.int .i64 (.ofNat 1)))⟩,
  ⟨some kk44, none, none, .conv .u64 (.t kk43)⟩,
  ⟨some kk45, none, none, .bin .shl (.c (.int .u64 (.ofNat 1))) (.t kk44)⟩,
  ⟨some kk10, none, none, .mov (.t kk45)⟩])
 (.seq (.seq (.region false [⟨some kk46, none, none, .mov (.t kk8)⟩,
  ⟨some kk47, none, none, .un .not (.t kk46)⟩,
  ⟨some kk48, none, none, .mov (.t kk47)⟩,
  ⟨some kk49, some (kk48, true), none, .mov (.t kk9)⟩,
  ⟨some kk50, some (kk48, true), none, .mov (.t kk10)⟩,
  ⟨some kk51, some (kk48, true), none, .bin .geq (.t kk49) (.t kk50)⟩,
  ⟨some kk52, none, none, .pick (.t kk48) (.t kk51) (.c (.bool false))⟩])
 (.cond (.t kk52)
  (.seq (.region false [⟨some kk53, none, none, .mov (.t kk10)⟩,
   ⟨some kk54, none, none, .bin .sub (.t kk53) (.c (.int .u64 (.ofNat 1)))⟩,
   ⟨some kk55, none, none, .conv .i64 (.t kk54)⟩,
   ⟨some kk56, none, none, .mkif 202 (.c (.int .i64 (.ofNat 1)))⟩,
   ⟨some kk6, none, none, .mov (.t kk55)⟩,
   ⟨some kk7, none, none, .mov (.t kk56)⟩])
  .ret)
  .skip))
 (.seq (.seq (.region false [⟨some kk57, none, none, .mov (.t kk8)⟩,
  ⟨some kk58, none, none, .mov (.t kk57)⟩,
  ⟨some kk59, some (kk58, true), none, .mov (.t kk9)⟩,
  ⟨some kk60, some (kk58, true), none, .mov (.t kk10)⟩,
  ⟨some kk61, some (kk58, true), none, .bin .gtr (.t kk59) (.t kk60)⟩,
  ⟨some kk62, none, none, .pick (.t kk58) (.t kk61) (.c (.bool false))⟩])
 (.cond (.t kk62)
  (.seq (.region false [⟨some kk63, none, none, .mov (.t kk10)⟩,
   ⟨some kk64, none, none, .conv .i64 (.t kk63)⟩,
   ⟨some kk65, none, none, .un .neg (.t kk64)⟩,
   ⟨some kk66, none, none, .mkif 202 (.c (.int .i64 (.ofNat 1)))⟩,
   ⟨some kk6, none, none, .mov (.t kk65)⟩,
   ⟨some kk7, none, none, .mov (.t kk66)⟩])
  .ret)
  .skip))
 (.seq (.region false [⟨some kk67, none, none, .mov (.t kk9)⟩,
  ⟨some kk68, none, none, .conv .i64 (.t kk67)⟩,
  ⟨some kk11, none, none, .mov (.t kk68)⟩])
 (.seq (.seq (.region false [⟨some kk69, none, none, .mov (.t kk8)⟩])
 (.cond (.t kk69)
  (.region false [⟨some kk70, none, none, .mov (.t kk11)⟩,
   ⟨some kk71, none, none, .un .neg (.t kk70)⟩,
   ⟨some kk11, none, none, .mov (.t kk71)⟩])
  .skip))
 (.seq (.region false [⟨some kk72, none, none, .mov (.t kk11)⟩,
  ⟨some kk6, none, none, .mov (.t kk72)⟩,
  ⟨some kk7, none, none, .mov (.c .niliface)⟩])
 .ret)))))))))))))) }
theorem fn182 : fnOf Tryz.prog Tryz.f182 = some i182 := by kernel_rfl
/-- internal.stringslite.CutPrefix -/
noncomputable def i183 : IFn := { nt := 15, ps := [kk0, kk1], res := [.tmp kk4, .tmp kk5], body :=
 (.seq (.region false [⟨some kk4, none, none, .mov (.c (.str 0 0))⟩,
  ⟨some kk5, none, none, .mov (.c (.bool false))⟩])
 (.seq (.seq (.region false [⟨some kk6, none, none, .mov (.t kk0)⟩,
  ⟨some kk7, none, none, .mov (.t kk1)⟩,
  ⟨some kk8, none, none, .call 185 [(.t kk6), (.t kk7)]⟩,
  ⟨some kk9, none, none, .un .not (.t kk8)⟩])
 (.cond (.t kk9)
  (.seq (.region false [⟨some kk10, none, none, .mov (.t kk0)⟩,
   ⟨some kk4, none, none, .mov (.t kk10)⟩,
   ⟨some kk5, none, none, .mov (.c (.bool false))⟩])
  .ret)
  .skip))
 (.seq (.region false [⟨some kk11, none, none, .mov (.t kk0)⟩,
  ⟨some kk12, none, none, .mov (.t kk1)⟩,
  ⟨some kk13, none, none, .lenS (.t kk12)⟩,
  ⟨some kk14, none, none, .slStr (.t kk11) (some (.t kk13)) none⟩,
  ⟨some kk4, none, none, .mov (.t kk14)⟩,
  ⟨some kk5, none, none, .mov (.c (.bool true))⟩])
 .ret))) }
theorem fn183 : fnOf Tryz.prog Tryz.f183 = some i183 := by kernel_rfl
/-- internal.stringslite.Cut -/
noncomputable def i184 : IFn := { nt := 23, ps := [kk0, kk1], res := [.tmp kk4, .tmp kk5, .tmp kk6], body :=
 (.seq (.region false [⟨some kk4, none, none, .mov (.c (.str 0 0))⟩,
  ⟨some kk5, none, none, .mov (.c (.str 0 0))⟩,
  ⟨some kk6, none, none, .mov (.c (.bool false))⟩])
 (.seq (.seq (.region false [⟨some kk8, none, none, .mov (.t kk0)⟩,
  ⟨some kk9, none, none, .mov (.t kk1)⟩,
  ⟨some kk10, none, none, .call 154 [(.t kk8), (.t kk9)]⟩,
  ⟨some kk7, none, none, .mov (.t kk10)⟩])
 (.seq (.region false [⟨some kk11, none, none, .mov (.t kk7)⟩,
  ⟨some kk12, none, none, .bin .geq (.t kk11) (.c (.int .i64 (.ofNat 0)))⟩])
 (.cond (.t kk12)
  (.seq (.region true [⟨some kk13, none, none, .mov (.t kk0)⟩,
   ⟨some kk14, none, none, .mov (.t kk7)⟩,
   ⟨some kk15, none, none, .slStr (.t kk13) none (some (.t kk14))⟩,
   ⟨some kk16, none, none, .mov (.t kk0)⟩,
   ⟨some kk17, none, none, .mov (.t kk7)⟩,
   ⟨some kk18, none, none, .mov (.t kk1)⟩,
   ⟨some kk19, none, none, .lenS (.t kk18)⟩,
   ⟨some kk20, none, none, .bin .add (.t kk17) (.t kk19)⟩,
   ⟨some kk21, none, none, .slStr (.t kk16) (some (.t kk20)) none⟩,
   ⟨some kk4, none, none, .mov (.t kk15)⟩,
   ⟨some kk5, none, none, .mov (.t kk21)⟩,
   ⟨some kk6, none, none, .mov (.c (.bool true))⟩])
  .ret)
  .skip)))
 (.seq (.region false [⟨some kk22, none, none, .mov (.t kk0)⟩,
  ⟨some kk4, none, none, .mov (.t kk22)⟩,
  ⟨some kk5, none, none, .mov (.c (.str 0 0))⟩,
  ⟨some kk6, none, none, .mov (.c (.bool false))⟩])
 .ret))) }
theorem fn184 : fnOf Tryz.prog Tryz.f184 = some i184 := by kernel_rfl
/-- internal.stringslite.HasPrefix -/
noncomputable def i185 : IFn := { nt := 18, ps := [kk0, kk1], res := [.tmp kk4], body :=
 (.seq (.region false [⟨some kk4, none, none, .mov (.c (.bool false))⟩])
 (.seq (.region false [⟨some kk5, none, none, .mov (.t kk0)⟩,
  ⟨some kk6, none, none, .lenS (.t kk5)⟩,
  ⟨some kk7, none, none, .mov (.t kk1)⟩,
  ⟨some kk8, none, none, .lenS (.t kk7)⟩,
  ⟨some kk9, none, none, .bin .geq (.t kk6) (.t kk8)⟩,
  ⟨some kk10, none, none, .mov (.t kk9)⟩,
  ⟨some kk11, some (kk10, true), none, .mov (.t kk0)⟩,
  ⟨some kk12, some (kk10, true), none, .mov (.t kk1)⟩,
  ⟨some kk13, some (kk10, true), none, .lenS (.t kk12)⟩,
  ⟨some kk14, some (kk10, true), none, .slStr (.t kk11) none (some (.t kk13))⟩,
  ⟨some kk15, some (kk10, true), none, .mov (.t kk1)⟩,
  ⟨some kk16, some (kk10, true), none, .bin .eql (.t kk14) (.t kk15)⟩,
  ⟨some kk17, none, none, .pick (.t kk10) (.t kk16) (.c (.bool false))⟩,
  ⟨some kk4, none, none, .mov (.t kk17)⟩])
 .ret)) }
theorem fn185 : fnOf Tryz.prog Tryz.f185 = some i185 := by kernel_rfl
/-- internal.stringslite.Clone -/
noncomputable def i186 : IFn := { nt := 18, ps := [kk0], res := [.tmp kk2], body :=
 (.seq (.region false [⟨some kk2, none, none, .mov (.c (.str 0 0))⟩])
 (.seq (.seq (.region false [⟨some kk4, none, none, .mov (.t kk0)⟩,
  ⟨some kk5, none, none, .lenS (.t kk4)⟩,
  ⟨some kk6, none, none, .bin .eql (.t kk5) (.c (.int .i64 (.ofNat 0)))⟩])
 (.cond (.t kk6)
  (.seq (.region false [⟨some kk2, none, none, .mov (.c (.str 0 0))⟩])
  .ret)
  .skip))
 (.seq (.region false [⟨some kk7, none, none, .mov (.t kk0)⟩,
  ⟨some kk8, none, none, .lenS (.t kk7)⟩,
  ⟨some kk9, none, none, .mksl 5 1 1 [(.int .u8 (.ofNat 0))] (.t kk8) (.t kk8)⟩,
  ⟨some kk3, none, none, .mov (.t kk9)⟩])
 (.seq (.region false [⟨some kk10, none, none, .mov (.t kk3)⟩,
  ⟨some kk11, none, none, .mov (.t kk0)⟩,
  ⟨some kk12, none, none, .callv (.c .nilptr) []⟩])
 (.seq (.region false [⟨some kk13, none, none, .mov (.t kk3)⟩,
  ⟨some kk14, none, none, .idxSl 1 (.t kk13) (.c (.int .i64 (.ofNat 0)))⟩,
  ⟨some kk15, none, none, .mov (.t kk3)⟩,
  ⟨some kk16, none, none, .len (.t kk15)⟩,
  ⟨some kk17, none, none, .ustr 5 (.t kk14) (.t kk16)⟩,
  ⟨some kk2, none, none, .mov (.t kk17)⟩])
 .ret))))) }
theorem fn186 : fnOf Tryz.prog Tryz.f186 = some i186 := by kernel_rfl
/-- errors.New -/
noncomputable def i187 : IFn := { nt := 7, ps := [kk0], res := [.tmp kk2], body :=
 (.seq (.region false [⟨some kk2, none, none, .mov (.c .niliface)⟩])
 (.seq (.region false [⟨some kk3, none, none, .mov (.t kk0)⟩,
  ⟨some kk4, none, none, .build [(.str 0 0)] [(0, 1, (.t kk3))]⟩,
  ⟨some kk5, none, none, .box 227 1 16 (.t kk4)⟩,
  ⟨some kk6, none, none, .mkif 225 (.t kk5)⟩,
  ⟨some kk2, none, none, .mov (.t kk6)⟩])
 .ret)) }
theorem fn187 : fnOf Tryz.prog Tryz.f187 = some i187 := by kernel_rfl
/-- math.bits.TrailingZeros32 -/
noncomputable def i188 : IFn := { nt := 14, ps := [kk0], res := [.tmp kk2], body :=
 (.seq (.region false [⟨some kk2, none, none, .mov (.c (.int .i64 (.ofNat 0)))⟩])
 (.seq (.seq (.region false [⟨some kk3, none, none, .mov (.t kk0)⟩,
  ⟨some kk4, none, none, .bin .eql (.t kk3) (.c (.int .u32 (.ofNat 0)))⟩])
 (.cond (.t kk4)
  (.seq (.region false [⟨some kk2, none, none, .mov (.c (.int .i64 (.ofNat 32)))⟩])
  .ret)
  .skip))
 (.seq (.region false [⟨some kk5, none, none, .mov (.t kk0)⟩,
  ⟨some kk6, none, none, .mov (.t kk0)⟩,
  ⟨some kk7, none, none, .un .neg (.t kk6)⟩,
  ⟨some kk8, none, none, .bin .and (.t kk5) (.t kk7)⟩,
  ⟨some kk9, none, none, .bin .mul (.t kk8) (.c (.int .u32 (.ofNat 125613361)))⟩,
  ⟨some kk10, none, none, .bin .shr (.t kk9) (.c (.int .u64 (.ofNat 27)))⟩,
  ⟨some kk11, none, none, .idxArr 32 1 (.c (.ptr 6 1 0)) (.t kk10)⟩,
  ⟨some kk12, none, none, .load 1 false (.t kk11)⟩,
  ⟨some kk13, none, none, .conv .i64 (.t kk12)⟩,
  ⟨some kk2, none, none, .mov (.t kk13)⟩])
 .ret))) }
theorem fn188 : fnOf Tryz.prog Tryz.f188 = some i188 := by kernel_rfl
/-- math.bits.TrailingZeros64 -/
noncomputable def i189 : IFn := { nt := 14, ps := [kk0], res := [.tmp kk2], body :=
 (.seq (.region false [⟨some kk2, none, none, .mov (.c (.int .i64 (.ofNat 0)))⟩])
 (.seq (.seq (.region false [⟨some kk3, none, none, .mov (.t kk0)⟩,
  ⟨some kk4, none, none, .bin .eql (.t kk3) (.c (.int .u64 (.ofNat 0)))⟩])
 (.cond (.t kk4)
  (.seq (.region false [⟨some kk2, none, none, .mov (.c (.int .i64 (.ofNat 64)))⟩])
  .ret)
  .skip))
 (.seq (.region false [⟨some kk5, none, none, .mov (.t kk0)⟩,
  ⟨some kk6, none, none, .mov (.t kk0)⟩,
  ⟨some kk7, none, none, .un .neg (.t kk6)⟩,
  ⟨some kk8, none, none, .bin .and (.t kk5) (.t kk7)⟩,
  ⟨some kk9, none, none, .bin .mul (.t kk8) (.c (.int .u64 (.ofNat 285870213051353865)))⟩,
  ⟨some kk10, none, none, .bin .shr (.t kk9) (.c (.int .u64 (.ofNat 58)))⟩,
  ⟨some kk11, none, none, .idxArr 64 1 (.c (.ptr 7 1 0)) (.t kk10)⟩,
  ⟨some kk12, none, none, .load 1 false (.t kk11)⟩,
  ⟨some kk13, none, none, .conv .i64 (.t kk12)⟩,
  ⟨some kk2, none, none, .mov (.t kk13)⟩])
 .ret))) }
theorem fn189 : fnOf Tryz.prog Tryz.f189 = some i189 := by kernel_rfl
/-- internal.bytealg.hashStr[string] -/
noncomputable def i190 : IFn := { nt := 39, ps := [kk0], res := [.tmp kk2, .tmp kk3], body :=
 (.seq (.region false [⟨some kk2, none, none, .mov (.c (.int .u32 (.ofNat 0)))⟩,
  ⟨some kk3, none, none, .mov (.c (.int .u32 (.ofNat 0)))⟩])
 (.seq (.region false [⟨some kk4, none, none, .mov (.c (.int .u32 (.ofNat 0)))⟩])
 (.seq (.seq (.region false [⟨some kk5, none, none, .mov (.c (.int .i64 (.ofNat 0)))⟩])
 (.block 0 (.loop (.seq (.seq (.region false [⟨some kk9, none, none, .mov (.t kk5)⟩,
    ⟨some kk10, none, none, .mov (.t kk0)⟩,
    ⟨some kk11, none, none, .lenS (.t kk10)⟩,
    ⟨some kk12, none, none, .bin .lss (.t kk9) (.t kk11)⟩])
   (.cond (.t kk12)
    .skip
    (.exit 0)))
   (.seq (.block 1 (.region false [⟨some kk15, none, none, .mov (.t kk4)⟩,
     ⟨some kk16, none, none, .bin .mul (.t kk15) (.c (.int .u32 (.ofNat 16777619)))⟩,
     ⟨some kk17, none, none, .mov (.t kk0)⟩,
     ⟨some kk18, none, none, .mov (.t kk5)⟩,
     ⟨some kk19, none, none, .idxStr (.t kk17) (.t kk18)⟩,
     ⟨some kk20, none, none, .conv .u32 (.t kk19)⟩,
     ⟨some kk21, none, none, .bin .add (.t kk16) (.t kk20)⟩,
     ⟨some kk4, none, none, .mov (.t kk21)⟩]))
   (.region false [⟨some kk13, none, none, .mov (.t kk5)⟩,
    ⟨some kk14, none, none, .bin .add (.t kk13) (.c (.int .i64 (.ofNat 1)))⟩,
    ⟨some kk5, none, none, .mov (.t kk14)⟩]))))))
 (.seq (.region false [⟨some kk6, none, none, .mov (.c (.int .u32 (.ofNat 1)))⟩,
  ⟨some kk7, none, none, .mov (.c (.int .u32 (.ofNat 16777619)))⟩])
 (.seq (.seq (.region false [⟨some kk22, none, none, .mov (.t kk0)⟩,
  ⟨some kk23, none, none, .lenS (.t kk22)⟩,
  ⟨some kk8, none, none, .mov (.t kk23)⟩])
 (.block 2 (.loop (.seq (.seq (.region false [⟨some kk24, none, none, .mov (.t kk8)⟩,
    ⟨some kk25, none, none, .bin .gtr (.t kk24) (.c (.int .i64 (.ofNat 0)))⟩])
   (.cond (.t kk25)
    .skip
    (.exit 2)))
   (.seq (.block 3 (.seq (.seq (.region false [⟨some kk28, none, none, .mov (.t kk8)⟩,
     ⟨some kk29, none, none, .bin .and (.t kk28) (.c (.int .i64 (.ofNat 1)))⟩,
     ⟨some kk30, none, none, .bin .neq (.t kk29) (.c (.int .i64 (.ofNat 0)))⟩])
    (.cond (.t kk30)
     (.region false [⟨some kk31, none, none, .mov (.t kk6)⟩,
      ⟨some kk32, none, none, .mov (.t kk7)⟩,
      ⟨some kk33, none, none, .bin .mul (.t kk31) (.t kk32)⟩,
      ⟨some kk6, none, none, .mov (.t kk33)⟩])
     .skip))
    (.region false [⟨some kk34, none, none, .mov (.t kk7)⟩,
     ⟨some kk35, none, none, .mov (.t kk7)⟩,
     ⟨some kk36, none, none, .bin .mul (.t kk34) (.t kk35)⟩,
     ⟨some kk7, none, none, .mov (.t kk36)⟩])))
   (.region false [⟨some kk26, none, none, .mov (.t kk8)⟩,
    ⟨some kk27, none, none, .bin .shr (.t kk26) (.c (.int .u64 (.ofNat 1)))⟩,
    ⟨some kk8, none, none, .mov (.t kk27)⟩]))))))
 (.seq (.region false [⟨some kk37, none, none, .mov (.t kk4)⟩,
  ⟨some kk38, none, none, .mov (.t kk6)⟩,
  ⟨some kk2, none, none, .mov (.t kk37)⟩,
  ⟨some kk3, none, none, .mov (.t kk38)⟩])
 .ret)))))) }
theorem fn190 : fnOf Tryz.prog Tryz.f190 = some i190 := by kernel_rfl
/-- (*annalist.parser.parser).sum -/
noncomputable def i191 : IFn := { nt := 22, ps := [kk0], res := [.tmp kk2], body :=
 (.seq (.region false [⟨some kk2, none, none, .mov (.c (.int .i64 (.ofNat 0)))⟩])
 (.seq (.region false [⟨some kk6, none, none, .mov (.t kk0)⟩,
  ⟨some kk7, none, none, .call 192 [(.t kk6)]⟩,
  ⟨some kk3, none, none, .mov (.t kk7)⟩])
 (.block 0 (.loop (.block 1 (.seq (.region false [⟨some kk4, none, none, .mov (.c (.int .i64 (.ofNat 3)))⟩])
    (.seq (.seq (.region false [⟨some kk8, none, none, .mov (.t kk0)⟩,
     ⟨some kk9, none, none, .call 77 [(.t kk8), (.c (.str 1 45))]⟩])
    (.cond (.t kk9)
     (.region false [⟨some kk4, none, none, .mov (.c (.int .i64 (.ofNat 4)))⟩])
     (.seq (.region false [⟨some kk10, none, none, .mov (.t kk0)⟩,
      ⟨some kk11, none, none, .call 77 [(.t kk10), (.c (.str 1 43))]⟩,
      ⟨some kk12, none, none, .un .not (.t kk11)⟩])
     (.cond (.t kk12)
      (.seq (.region false [⟨some kk13, none, none, .mov (.t kk3)⟩,
       ⟨some kk2, none, none, .mov (.t kk13)⟩])
      .ret)
      .skip))))
    (.seq (.region false [⟨some kk14, none, none, .mov (.t kk0)⟩,
     ⟨some kk15, none, none, .call 192 [(.t kk14)]⟩,
     ⟨some kk5, none, none, .mov (.t kk15)⟩])
    (.region false [⟨some kk16, none, none, .mov (.t kk0)⟩,
     ⟨some kk17, none, none, .mov (.t kk4)⟩,
     ⟨some kk18, none, none, .mov (.t kk3)⟩,
     ⟨some kk19, none, none, .mov (.t kk5)⟩,
     ⟨some kk20, none, none, .build [(.int .i64 (.ofNat 0)), (.int .i64 (.ofNat 0)), (.int .i64 (.ofNat 0)), (.str 0 0), (.str 0 0), (.int .i64 (.ofNat 0)), (.int .i64 (.ofNat 0)), (.str 0 0)] [(0, 1, (.t kk17)), (1, 1, (.t kk18)), (2, 1, (.t kk19))]⟩,
     ⟨some kk21, none, none, .call 134 [(.t kk16), (.t kk20)]⟩,
     ⟨some kk3, none, none, .mov (.t kk21)⟩]))))))))) }
theorem fn191 : fnOf Tryz.prog Tryz.f191 = some i191 := by kernel_rfl
/-- (*annalist.parser.parser).product -/
noncomputable def i192 : IFn := { nt := 17, ps := [kk0], res := [.tmp kk2], body :=
 (.seq (.region false [⟨some kk2, none, none, .mov (.c (.int .i64 (.ofNat 0)))⟩])
 (.seq (.region false [⟨some kk5, none, none, .mov (.t kk0)⟩,
  ⟨some kk6, none, none, .call 193 [(.t kk5)]⟩,
  ⟨some kk3, none, none, .mov (.t kk6)⟩])
 (.seq (.block 0 (.loop (.seq (.seq (.region false [⟨some kk7, none, none, .mov (.t kk0)⟩,
    ⟨some kk8, none, none, .call 77 [(.t kk7), (.c (.str 1 42))]⟩])
   (.cond (.t kk8)
    .skip
    (.exit 0)))
   (.block 1 (.seq (.region false [⟨some kk9, none, none, .mov (.t kk0)⟩,
     ⟨some kk10, none, none, .call 193 [(.t kk9)]⟩,
     ⟨some kk4, none, none, .mov (.t kk10)⟩])
    (.region false [⟨some kk11, none, none, .mov (.t kk0)⟩,
     ⟨some kk12, none, none, .mov (.t kk3)⟩,
     ⟨some kk13, none, none, .mov (.t kk4)⟩,
     ⟨some kk14, none, none, .build [(.int .i64 (.ofNat 0)), (.int .i64 (.ofNat 0)), (.int .i64 (.ofNat 0)), (.str 0 0), (.str 0 0), (.int .i64 (.ofNat 0)), (.int .i64 (.ofNat 0)), (.str 0 0)] [(0, 1, (.c (.int .i64 (.ofNat 5)))), (1, 1, (.t kk12)), (2, 1, (.t kk13))]⟩,
     ⟨some kk15, none, none, .call 134 [(.t kk11), (.t kk14)]⟩,
     ⟨some kk3, none, none, .mov (.t kk15)⟩]))))))
 (.seq (.region false [⟨some kk16, none, none, .mov (.t kk3)⟩,
  ⟨some kk2, none, none, .mov (.t kk16)⟩])
 .ret)))) }
theorem fn192 : fnOf Tryz.prog Tryz.f192 = some i192 := by kernel_rfl
/-- (*annalist.parser.parser).primary -/
noncomputable def i193 : IFn := { nt := 47, ps := [kk0], res := [.tmp kk2], body :=
 (.seq (.region false [⟨some kk2, none, none, .mov (.c (.int .i64 (.ofNat 0)))⟩])
 (.seq (.block 0 (.seq (.region false [⟨some kk5, none, none, .mov (.t kk0)⟩,
   ⟨some kk6, none, none, .nilck (.t kk5)⟩,
   ⟨some kk7, none, none, .offs (.t kk6) 3⟩,
   ⟨some kk8, none, none, .load 1 false (.t kk7)⟩,
   ⟨some kk9, none, none, .bin .neq (.t kk8) (.c (.int .i64 (.ofNat 0)))⟩,
   ⟨some kk4, none, none, .mov (.t kk9)⟩])
  (.cond (.t kk4)
   (.seq (.region false [⟨some kk2, none, none, .mov (.c (.int .i64 (.ofNat 0)))⟩])
   .ret)
   (.seq (.region false [⟨some kk11, none, none, .mov (.t kk0)⟩,
    ⟨some kk12, none, none, .call 111 [(.t kk11), (.c (.int .i64 (.ofNat 5))), (.c (.str 1 40))]⟩,
    ⟨some kk10, none, none, .mov (.t kk12)⟩])
   (.cond (.t kk10)
    (.seq (.seq (.region false [⟨some kk13, none, none, .mov (.t kk0)⟩,
     ⟨some kk14, none, none, .call 181 [(.t kk13)]⟩,
     ⟨some kk15, none, none, .un .not (.t kk14)⟩])
    (.cond (.t kk15)
     (.seq (.region false [⟨some kk2, none, none, .mov (.c (.int .i64 (.ofNat 0)))⟩])
     .ret)
     .skip))
    (.seq (.region false [⟨some kk16, none, none, .mov (.t kk0)⟩,
     ⟨some kk17, none, none, .nilck (.t kk16)⟩,
     ⟨some kk18, none, none, .offs (.t kk17) 1⟩,
     ⟨some kk19, none, none, .load 1 false (.t kk18)⟩,
     ⟨some kk20, none, none, .bin .add (.t kk19) (.c (.int .i64 (.ofNat 1)))⟩,
     ⟨some kk21, none, none, .nilck (.t kk16)⟩,
     ⟨some kk22, none, none, .offs (.t kk21) 1⟩,
     ⟨none, none, none, .store 1 (.t kk22) (.t kk20)⟩])
    (.seq (.region false [⟨some kk23, none, none, .mov (.t kk0)⟩,
     ⟨some kk24, none, none, .call 107 [(.t kk23)]⟩,
     ⟨some kk3, none, none, .mov (.t kk24)⟩])
    (.seq (.region false [⟨some kk25, none, none, .mov (.t kk0)⟩,
     ⟨some kk26, none, none, .call 106 [(.t kk25), (.c (.str 1 41))]⟩])
    (.seq (.region false [⟨some kk27, none, none, .mov (.t kk0)⟩,
     ⟨some kk28, none, none, .nilck (.t kk27)⟩,
     ⟨some kk29, none, none, .offs (.t kk28) 4⟩,
     ⟨some kk30, none, none, .load 1 false (.t kk29)⟩,
     ⟨some kk31, none, none, .bin .sub (.t kk30) (.c (.int .i64 (.ofNat 1)))⟩,
     ⟨some kk32, none, none, .nilck (.t kk27)⟩,
     ⟨some kk33, none, none, .offs (.t kk32) 4⟩,
     ⟨none, none, none, .store 1 (.t kk33) (.t kk31)⟩])
    (.seq (.region false [⟨some kk34, none, none, .mov (.t kk3)⟩,
     ⟨some kk2, none, none, .mov (.t kk34)⟩])
    .ret))))))
    (.seq (.region false [⟨some kk36, none, none, .mov (.t kk0)⟩,
     ⟨some kk37, none, none, .call 35 [(.t kk36)]⟩,
     ⟨some kk38, none, none, .sub (.t kk37) 0 1 false⟩,
     ⟨some kk39, none, none, .bin .eql (.t kk38) (.c (.int .i64 (.ofNat 2)))⟩,
     ⟨some kk35, none, none, .mov (.t kk39)⟩])
    (.cond (.t kk35)
     (.seq (.region false [⟨some kk40, none, none, .mov (.t kk0)⟩,
      ⟨some kk41, none, none, .call 110 [(.t kk40)]⟩,
      ⟨some kk2, none, none, .mov (.t kk41)⟩])
     .ret)
     .skip)))))))
 (.seq (.region false [⟨some kk42, none, none, .mov (.t kk0)⟩,
  ⟨some kk43, none, none, .mov (.t kk0)⟩,
  ⟨some kk44, none, none, .call 113 [(.t kk43)]⟩,
  ⟨some kk45, none, none, .build [(.int .i64 (.ofNat 0)), (.int .i64 (.ofNat 0)), (.int .i64 (.ofNat 0)), (.str 0 0), (.str 0 0), (.int .i64 (.ofNat 0)), (.int .i64 (.ofNat 0)), (.str 0 0)] [(0, 1, (.c (.int .i64 (.ofNat 1)))), (5, 3, (.t kk44))]⟩,
  ⟨some kk46, none, none, .call 134 [(.t kk42), (.t kk45)]⟩,
  ⟨some kk2, none, none, .mov (.t kk46)⟩])
 .ret))) }
theorem fn193 : fnOf Tryz.prog Tryz.f193 = some i193 := by kernel_rfl
noncomputable def rows1 : List (Nat × IFn) := [(96, i96), (97, i97), (98, i98), (99, i99), (100, i100), (101, i101), (102, i102), (103, i103), (104, i104), (106, i106), (107, i107), (108, i108), (109, i109), (110, i110), (111, i111), (112, i112), (113, i113), (114, i114), (115, i115), (116, i116), (117, i117), (118, i118), (119, i119), (120, i120), (121, i121), (122, i122), (123, i123), (124, i124), (125, i125), (126, i126), (128, i128), (129, i129), (130, i130), (131, i131), (132, i132), (133, i133), (134, i134), (135, i135), (136, i136), (137, i137), (138, i138), (139, i139), (140, i140), (141, i141), (142, i142), (143, i143), (144, i144), (145, i145), (146, i146), (147, i147), (148, i148), (149, i149), (150, i150), (151, i151), (153, i153), (154, i154), (155, i155), (156, i156), (157, i157), (158, i158), (159, i159), (160, i160), (161, i161), (162, i162), (163, i163), (164, i164), (165, i165), (166, i166), (167, i167), (168, i168), (169, i169), (170, i170), (171, i171), (172, i172), (173, i173), (174, i174), (175, i175), (178, i178), (179, i179), (180, i180), (181, i181), (182, i182), (183, i183), (184, i184), (185, i185), (186, i186), (187, i187), (188, i188), (189, i189), (190, i190), (191, i191), (192, i192), (193, i193)]
theorem rows1_ok : ∀ p, p ∈ rows1 → RowOk Tryz.prog p :=
  rows_cons Tryz.func96 fn96 <|
  rows_cons Tryz.func97 fn97 <|
  rows_cons Tryz.func98 fn98 <|
  rows_cons Tryz.func99 fn99 <|
  rows_cons Tryz.func100 fn100 <|
  rows_cons Tryz.func101 fn101 <|
  rows_cons Tryz.func102 fn102 <|
  rows_cons Tryz.func103 fn103 <|
  rows_cons Tryz.func104 fn104 <|
  rows_cons Tryz.func106 fn106 <|
  rows_cons Tryz.func107 fn107 <|
  rows_cons Tryz.func108 fn108 <|
  rows_cons Tryz.func109 fn109 <|
  rows_cons Tryz.func110 fn110 <|
  rows_cons Tryz.func111 fn111 <|
  rows_cons Tryz.func112 fn112 <|
  rows_cons Tryz.func113 fn113 <|
  rows_cons Tryz.func114 fn114 <|
  rows_cons Tryz.func115 fn115 <|
  rows_cons Tryz.func116 fn116 <|
  rows_cons Tryz.func117 fn117 <|
  rows_cons Tryz.func118 fn118 <|
  rows_cons Tryz.func119 fn119 <|
  rows_cons Tryz.func120 fn120 <|
  rows_cons Tryz.func121 fn121 <|
  rows_cons Tryz.func122 fn122 <|
  rows_cons Tryz.func123 fn123 <|
  rows_cons Tryz.func124 fn124 <|
  rows_cons Tryz.func125 fn125 <|
  rows_cons Tryz.func126 fn126 <|
  rows_cons Tryz.func128 fn128 <|
  rows_cons Tryz.func129 fn129 <|
  rows_cons Tryz.func130 fn130 <|
  rows_cons Tryz.func131 fn131 <|
  rows_cons Tryz.func132 fn132 <|
  rows_cons Tryz.func133 fn133 <|
  rows_cons Tryz.func134 fn134 <|
  rows_cons Tryz.func135 fn135 <|
  rows_cons Tryz.func136 fn136 <|
  rows_cons Tryz.func137 fn137 <|
  rows_cons Tryz.func138 fn138 <|
  rows_cons Tryz.func139 fn139 <|
  rows_cons Tryz.func140 fn140 <|
  rows_cons Tryz.func141 fn141 <|
  rows_cons Tryz.func142 fn142 <|
  rows_cons Tryz.func143 fn143 <|
  rows_cons Tryz.func144 fn144 <|
  rows_cons Tryz.func145 fn145 <|
  rows_cons Tryz.func146 fn146 <|
  rows_cons Tryz.func147 fn147 <|
  rows_cons Tryz.func148 fn148 <|
  rows_cons Tryz.func149 fn149 <|
  rows_cons Tryz.func150 fn150 <|
  rows_cons Tryz.func151 fn151 <|
  rows_cons Tryz.func153 fn153 <|
  rows_cons Tryz.func154 fn154 <|
  rows_cons Tryz.func155 fn155 <|
  rows_cons Tryz.func156 fn156 <|
  rows_cons Tryz.func157 fn157 <|
  rows_cons Tryz.func158 fn158 <|
  rows_cons Tryz.func159 fn159 <|
  rows_cons Tryz.func160 fn160 <|
  rows_cons Tryz.func161 fn161 <|
  rows_cons Tryz.func162 fn162 <|
  rows_cons Tryz.func163 fn163 <|
  rows_cons Tryz.func164 fn164 <|
  rows_cons Tryz.func165 fn165 <|
  rows_cons Tryz.func166 fn166 <|
  rows_cons Tryz.func167 fn167 <|
  rows_cons Tryz.func168 fn168 <|
  rows_cons Tryz.func169 fn169 <|
  rows_cons Tryz.func170 fn170 <|
  rows_cons Tryz.func171 fn171 <|
  rows_cons Tryz.func172 fn172 <|
  rows_cons Tryz.func173 fn173 <|
  rows_cons Tryz.func174 fn174 <|
  rows_cons Tryz.func175 fn175 <|
  rows_cons Tryz.func178 fn178 <|
  rows_cons Tryz.func179 fn179 <|
  rows_cons Tryz.func180 fn180 <|
  rows_cons Tryz.func181 fn181 <|
  rows_cons Tryz.func182 fn182 <|
  rows_cons Tryz.func183 fn183 <|
  rows_cons Tryz.func184 fn184 <|
  rows_cons Tryz.func185 fn185 <|
  rows_cons Tryz.func186 fn186 <|
  rows_cons Tryz.func187 fn187 <|
  rows_cons Tryz.func188 fn188 <|
  rows_cons Tryz.func189 fn189 <|
  rows_cons Tryz.func190 fn190 <|
  rows_cons Tryz.func191 fn191 <|
  rows_cons Tryz.func192 fn192 <|
  rows_cons Tryz.func193 fn193 <|
  rows_nil
end Go.Proofs.YtgjadkcogmpkdaaGreatDoor
