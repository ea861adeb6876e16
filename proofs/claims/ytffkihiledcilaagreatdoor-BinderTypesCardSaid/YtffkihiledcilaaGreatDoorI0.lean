/- The program's functions, turned into instructions (printed by program), part 0, and that they are so turned. -/
import Derived.Test.YtffkihiledcilaaGreatDoorEv6
import Derived.Test.YtffkihiledcilaaGreatDoorChecked
import Derived.KernelRfl
namespace Go.Proofs.YtffkihiledcilaaGreatDoor
open Go Go.Ev
set_option maxRecDepth 100000
set_option maxHeartbeats 4000000
noncomputable def i3 : IFn := { nt := 19, ps := [kk0, kk1, kk2], res := [.tmp kk6], body :=
 (.seq (.region false [⟨some kk6, none, none, .mov (.c (.bool false))⟩])
 (.seq (.region false [⟨some kk7, none, none, .call 4 []⟩,
  ⟨some kk8, none, none, .mov (.t kk7)⟩,
  ⟨some kk9, some (kk8, true), none, .mov (.t kk0)⟩,
  ⟨some kk10, some (kk8, true), none, .call 5 [(.t kk9)]⟩,
  ⟨some kk11, some (kk8, true), none, .un .not (.t kk10)⟩,
  ⟨some kk12, some (kk8, true), none, .mov (.t kk11)⟩,
  ⟨some kk13, some (kk12, false), none, .mov (.t kk0)⟩,
  ⟨some kk14, some (kk12, false), none, .mov (.t kk1)⟩,
  ⟨some kk15, some (kk12, false), none, .mov (.t kk2)⟩,
  ⟨some kk16, some (kk12, false), none, .call 6 [(.t kk13), (.t kk14), (.t kk15)]⟩,
  ⟨some kk17, some (kk8, true), none, .pick (.t kk12) (.c (.bool true)) (.t kk16)⟩,
  ⟨some kk18, none, none, .pick (.t kk8) (.t kk17) (.c (.bool false))⟩,
  ⟨some kk6, none, none, .mov (.t kk18)⟩])
 .ret)) }
theorem fn3 : fnOf Tryz.prog Tryz.f3 = some i3 := by kernel_rfl
noncomputable def i4 : IFn := { nt := 101, ps := [], res := [.tmp kk0], body :=
 (.seq (cR [ oC kk0 (.bool false)])
 (.seq (cR [ oP kk15 (.build [(.int .u16 (.ofNat 0)), (.int .u16 (.ofNat 0)), (.int .u16 (.ofNat 0)), (.int .u16 (.ofNat 0))] []),
 oP kk16 (.call 7 [(.c (.str 1 116)), (t15)]),
 oP kk17 (.buildSl 31 5 112 1 [(.str 0 0), .nilslice, .nilslice, .nilslice, .nilslice] [(0, (t16))]),
 oM kk1 kk17])
 (.seq (cR [ oP kk19 (.call 8 [(.c (.str 40 818736863507083628818482989634410210159177039625679651802906821641551809494541690883085779617107))]),
 oM kk18 kk19,
 oP kk20 (.extr (t18) 0),
 oP kk21 (.extr (t18) 1),
 oP kk22 (.extr (t18) 2),
 oP kk2 (.boxz 37 2 48 [.nilslice, .nilslice]),
 oN (.store 2 (t2) (t20)),
 oM kk3 kk21,
 oM kk4 kk22])
 (.seq (cR [ oP kk24 (.load 2 true (t2)),
 oM kk25 kk1,
 oP kk26 (.call 9 [(t24), (t25), (.c (nI (1))), (.c (.bool false))]),
 oM kk23 kk26,
 oP kk27 (.extr (t23) 0),
 oP kk28 (.extr (t23) 1),
 oP kk29 (.extr (t23) 2),
 oP kk5 (.boxz 43 2 48 [.nilslice, .nilslice]),
 oN (.store 2 (t5) (t27)),
 oM kk6 kk28,
 oM kk7 kk29])
 (.seq (cR [ oP kk31 (.call 10 [(.c (.str 20 560201715361621210967552521210331692227747925057))]),
 oM kk30 kk31,
 oP kk32 (.extr (t30) 0),
 oP kk33 (.extr (t30) 1),
 oP kk34 (.extr (t30) 2),
 oP kk8 (.boxz 57 21 328 [(nI (0)), (nI (0)), (nI (0)), (nI (0)), .nilslice, .nilslice, (.str 0 0), (.str 0 0), .nilslice, (nI (0)), (nI (0)), .nilslice, (nI (0)), .nilslice, .nilslice, .nilslice, .nilslice, .nilslice, (nI (0)), (nI (0)), (nI (0))]),
 oN (.store 21 (t8) (t32)),
 oM kk9 kk33,
 oM kk10 kk34])
 (.seq (cR [ oP kk36 (.load 21 true (t8)),
 oM kk37 kk1,
 oP kk38 (.call 11 [(t36), (t37), (.c (nI (1)))]),
 oM kk35 kk38,
 oP kk39 (.extr (t35) 0),
 oP kk40 (.extr (t35) 1),
 oP kk11 (.boxz 64 16 264 [(nI (0)), (.str 0 0), .nilslice, (nI (0)), (nI (0)), .nilslice, (nI (0)), .nilslice, (.str 0 0), .nilslice, .nilslice, .nilslice, .nilslice, (nI (0)), (.str 0 0), (nI (0))]),
 oN (.store 16 (t11) (t39)),
 oM kk12 kk40])
 (.seq (cR [ oP kk42 (.load 21 true (t8)),
 oP kk43 (.call 11 [(t42), (.c .nilslice), (.c (nI (1)))]),
 oM kk41 kk43,
 oP kk44 (.extr (t41) 0),
 oP kk45 (.extr (t41) 1),
 oP kk13 (.boxz 64 16 264 [(nI (0)), (.str 0 0), .nilslice, (nI (0)), (nI (0)), .nilslice, (nI (0)), .nilslice, (.str 0 0), .nilslice, .nilslice, .nilslice, .nilslice, (nI (0)), (.str 0 0), (nI (0))]),
 oN (.store 16 (t13) (t44)),
 oM kk14 kk45])
 (.seq (cR [ oM kk46 kk7,
 oP kk47 (.bin .eql (t46) (.c (nI (0)))),
 oM kk48 kk47,
 oX kk49 kk48 true (.offs (t5) 0),
 oX kk50 kk48 true (.load 1 false (t49)),
 oX kk51 kk48 true (.len (t50)),
 oX kk52 kk48 true (.bin .eql (t51) (.c (nI (3)))),
 oP kk53 (.pick (t48) (t52) (.c (.bool false))),
 oM kk54 kk53,
 oX kk55 kk54 true (.offs (t5) 0),
 oX kk56 kk54 true (.load 1 false (t55)),
 oX kk57 kk54 true (.idxSl 7 (t56) (.c (nI (1)))),
 oX kk58 kk54 true (.offs (t57) 0),
 oX kk59 kk54 true (.load 1 false (t58)),
 oX kk60 kk54 true (.bin .eql (t59) (.c (nI (10)))),
 oP kk61 (.pick (t54) (t60) (.c (.bool false))),
 oM kk62 kk61,
 oG kk63 kk62 true kk6,
 oX kk64 kk62 true (.len (t63)),
 oX kk65 kk62 true (.bin .eql (t64) (.c (nI (2)))),
 oP kk66 (.pick (t62) (t65) (.c (.bool false))),
 oM kk67 kk66,
 oG kk68 kk67 true kk6,
 oX kk69 kk67 true (.idxSl 3 (t68) (.c (nI (0)))),
 oX kk70 kk67 true (.load 3 true (t69)),
 oX kk71 kk67 true (.build [(nI (0)), (.str 0 0), (nI (0))] [(1, 1, (.c (.str 5 500069396323))), (2, 1, (.c (nI (1))))]),
 oX kk72 kk67 true (.eqv (.agg [3, 101, 3]) false (t70) (t71)),
 oP kk73 (.pick (t67) (t72) (.c (.bool false))),
 oM kk74 kk73,
 oG kk75 kk74 true kk6,
 oX kk76 kk74 true (.idxSl 3 (t75) (.c (nI (1)))),
 oX kk77 kk74 true (.offs (t76) 1),
 oX kk78 kk74 true (.load 1 false (t77)),
 oX kk79 kk74 true (.bin .eql (t78) (.c (.str 1 98))),
 oP kk80 (.pick (t74) (t79) (.c (.bool false))),
 oM kk81 kk80,
 oG kk82 kk81 true kk12,
 oX kk83 kk81 true (.bin .eql (t82) (.c (nI (0)))),
 oP kk84 (.pick (t81) (t83) (.c (.bool false))),
 oM kk85 kk84,
 oX kk86 kk85 true (.offs (t11) 13),
 oX kk87 kk85 true (.offs (t86) 0),
 oX kk88 kk85 true (.load 1 false (t87)),
 oX kk89 kk85 true (.bin .eql (t88) (.c (nI (2)))),
 oP kk90 (.pick (t85) (t89) (.c (.bool false))),
 oM kk91 kk90,
 oG kk92 kk91 true kk14,
 oX kk93 kk91 true (.bin .eql (t92) (.c (nI (8)))),
 oP kk94 (.pick (t91) (t93) (.c (.bool false))),
 oM kk95 kk94,
 oG kk96 kk95 true kk1,
 oX kk97 kk95 true (.call 12 [(t96), (.c (nI (1))), (.c (.bool true))]),
 oX kk98 kk95 true (.len (t97)),
 oX kk99 kk95 true (.bin .eql (t98) (.c (nI (1)))),
 oP kk100 (.pick (t95) (t99) (.c (.bool false))),
 oM kk0 kk100])
 .ret)))))))) }
theorem fn4 : fnOf Tryz.prog Tryz.f4 = some i4 := by kernel_rfl
noncomputable def i5 : IFn := { nt := 23, ps := [kk0], res := [.tmp kk2], body :=
 (.seq (.region false [⟨some kk2, none, none, .mov (.c (.bool false))⟩])
 (.seq (.seq (.region false [⟨some kk3, none, none, .mov (.c (.int .i64 (.ofNat 0)))⟩])
 (.block 0 (.loop (.seq (.seq (.region false [⟨some kk4, none, none, .mov (.t kk3)⟩,
    ⟨some kk5, none, none, .mov (.t kk0)⟩,
    ⟨some kk6, none, none, .len (.t kk5)⟩,
    ⟨some kk7, none, none, .bin .lss (.t kk4) (.t kk6)⟩,
    ⟨some kk8, none, none, .mov (.t kk7)⟩,
    ⟨some kk9, some (kk8, true), none, .mov (.t kk3)⟩,
    ⟨some kk10, some (kk8, true), none, .bin .lss (.t kk9) (.c (.int .i64 (.ofNat 5)))⟩,
    ⟨some kk11, none, none, .pick (.t kk8) (.t kk10) (.c (.bool false))⟩])
   (.cond (.t kk11)
    .skip
    (.exit 0)))
   (.seq (.block 1 (.seq (.region false [⟨some kk14, none, none, .mov (.t kk0)⟩,
     ⟨some kk15, none, none, .mov (.t kk3)⟩,
     ⟨some kk16, none, none, .idxSl 5 (.t kk14) (.t kk15)⟩,
     ⟨some kk17, none, none, .load 5 true (.t kk16)⟩,
     ⟨some kk18, none, none, .call 13 [(.t kk17)]⟩,
     ⟨some kk19, none, none, .un .not (.t kk18)⟩])
    (.cond (.t kk19)
     (.seq (.region false [⟨some kk2, none, none, .mov (.c (.bool false))⟩])
     .ret)
     .skip)))
   (.region false [⟨some kk12, none, none, .mov (.t kk3)⟩,
    ⟨some kk13, none, none, .bin .add (.t kk12) (.c (.int .i64 (.ofNat 1)))⟩,
    ⟨some kk3, none, none, .mov (.t kk13)⟩]))))))
 (.seq (.region false [⟨some kk20, none, none, .mov (.t kk0)⟩,
  ⟨some kk21, none, none, .len (.t kk20)⟩,
  ⟨some kk22, none, none, .bin .lss (.t kk21) (.c (.int .i64 (.ofNat 5)))⟩,
  ⟨some kk2, none, none, .mov (.t kk22)⟩])
 .ret))) }
theorem fn5 : fnOf Tryz.prog Tryz.f5 = some i5 := by kernel_rfl
noncomputable def i6 : IFn := { nt := 54, ps := [kk0, kk1, kk2], res := [.tmp kk6], body :=
 (.seq (.region false [⟨some kk6, none, none, .mov (.c (.bool false))⟩])
 (.seq (.region false [⟨some kk10, none, none, .mov (.t kk0)⟩,
  ⟨some kk11, none, none, .mov (.t kk1)⟩,
  ⟨some kk12, none, none, .mov (.t kk2)⟩,
  ⟨some kk13, none, none, .call 12 [(.t kk10), (.t kk11), (.t kk12)]⟩,
  ⟨some kk14, none, none, .mov (.t kk0)⟩,
  ⟨some kk15, none, none, .mov (.t kk1)⟩,
  ⟨some kk16, none, none, .mov (.t kk2)⟩,
  ⟨some kk17, none, none, .call 14 [(.t kk14), (.t kk15), (.t kk16)]⟩,
  ⟨some kk7, none, none, .mov (.t kk13)⟩,
  ⟨some kk8, none, none, .mov (.t kk17)⟩])
 (.seq (.seq (.region false [⟨some kk18, none, none, .mov (.t kk7)⟩,
  ⟨some kk19, none, none, .len (.t kk18)⟩,
  ⟨some kk20, none, none, .mov (.t kk8)⟩,
  ⟨some kk21, none, none, .len (.t kk20)⟩,
  ⟨some kk22, none, none, .bin .neq (.t kk19) (.t kk21)⟩])
 (.cond (.t kk22)
  (.seq (.region false [⟨some kk6, none, none, .mov (.c (.bool false))⟩])
  .ret)
  .skip))
 (.seq (.seq (.region false [⟨some kk9, none, none, .mov (.c (.int .i64 (.ofNat 0)))⟩])
 (.block 0 (.loop (.seq (.seq (.region false [⟨some kk23, none, none, .mov (.t kk9)⟩,
    ⟨some kk24, none, none, .mov (.t kk7)⟩,
    ⟨some kk25, none, none, .len (.t kk24)⟩,
    ⟨some kk26, none, none, .bin .lss (.t kk23) (.t kk25)⟩])
   (.cond (.t kk26)
    .skip
    (.exit 0)))
   (.seq (.block 1 (.seq (.region true [⟨some kk29, none, none, .mov (.t kk7)⟩,
     ⟨some kk30, none, none, .mov (.t kk9)⟩,
     ⟨some kk31, none, none, .idxSl 2 (.t kk29) (.t kk30)⟩,
     ⟨some kk32, none, none, .offs (.t kk31) 0⟩,
     ⟨some kk33, none, some [], .load 1 false (.t kk32)⟩,
     ⟨some kk34, none, none, .mov (.t kk8)⟩,
     ⟨some kk35, none, none, .mov (.t kk9)⟩,
     ⟨some kk36, none, none, .idxSl 2 (.t kk34) (.t kk35)⟩,
     ⟨some kk37, none, none, .offs (.t kk36) 0⟩,
     ⟨some kk38, none, some [0], .load 1 false (.t kk37)⟩,
     ⟨some kk39, none, none, .bin .neq (.t kk33) (.t kk38)⟩,
     ⟨some kk40, none, none, .mov (.t kk39)⟩,
     ⟨some kk41, some (kk40, false), none, .mov (.t kk7)⟩,
     ⟨some kk42, some (kk40, false), none, .mov (.t kk9)⟩,
     ⟨some kk43, some (kk40, false), none, .idxSl 2 (.t kk41) (.t kk42)⟩,
     ⟨some kk44, some (kk40, false), none, .offs (.t kk43) 1⟩,
     ⟨some kk45, some (kk40, false), some [], .load 1 false (.t kk44)⟩,
     ⟨some kk46, some (kk40, false), none, .mov (.t kk8)⟩,
     ⟨some kk47, some (kk40, false), none, .mov (.t kk9)⟩,
     ⟨some kk48, some (kk40, false), none, .idxSl 2 (.t kk46) (.t kk47)⟩,
     ⟨some kk49, some (kk40, false), none, .offs (.t kk48) 1⟩,
     ⟨some kk50, some (kk40, false), some [0], .load 1 false (.t kk49)⟩,
     ⟨some kk51, some (kk40, false), some [], .call 15 [(.t kk45), (.t kk50)]⟩,
     ⟨some kk52, some (kk40, false), none, .un .not (.t kk51)⟩,
     ⟨some kk53, none, none, .pick (.t kk40) (.c (.bool true)) (.t kk52)⟩])
    (.cond (.t kk53)
     (.seq (.region false [⟨some kk6, none, none, .mov (.c (.bool false))⟩])
     .ret)
     .skip)))
   (.region false [⟨some kk27, none, none, .mov (.t kk9)⟩,
    ⟨some kk28, none, none, .bin .add (.t kk27) (.c (.int .i64 (.ofNat 1)))⟩,
    ⟨some kk9, none, none, .mov (.t kk28)⟩]))))))
 (.seq (.region false [⟨some kk6, none, none, .mov (.c (.bool true))⟩])
 .ret))))) }
theorem fn6 : fnOf Tryz.prog Tryz.f6 = some i6 := by kernel_rfl
noncomputable def i7 : IFn := { nt := 70, ps := [kk0, kk1], res := [.cell kk4 5 true], body :=
 (.seq (cR [ oP kk3 (.box 34 4 8 (t1)),
 oP kk4 (.boxz 31 5 112 [(.str 0 0), .nilslice, .nilslice, .nilslice, .nilslice])])
 (.seq (cR [ oP kk8 (.build [(nI (0)), (nI (0))] [(1, 1, (.c (nI (1099511627776))))]),
 oP kk9 (.build [(nI (0)), (nI (0)), .nilslice] [(0, 2, (t8))]),
 oP kk5 (.boxz 77 3 40 [(nI (0)), (nI (0)), .nilslice]),
 oN (.store 3 (t5) (t9))])
 (.seq (.seq (cR [ oC kk6 (nI 0)])
 (.block 0 (.loop (.seq (.seq (cR [ oM kk10 kk6,
 oP kk11 (.idxArr 4 1 (t3) (.c (nI (0)))),
 oP kk12 (.load 1 false (t11)),
 oP kk13 (.bin .rem (t12) (.c (.int .u16 (.ofNat 2)))),
 oP kk14 (.conv .i64 (t13)),
 oP kk15 (.bin .add (.c (nI (2))) (t14)),
 oP kk16 (.bin .lss (t10) (t15))])
 (.cond (t16)
 .skip
 (.exit 0)))
 (.seq (.block 1 (cD [ oP kk19 (.offs (t5) 2),
 oQ kk20 [] (.load 1 false (t19)),
 oM kk21 kk6,
 oQ kk22 [0] (.call 16 [(t21)]),
 oQ kk23 [1] (.buildSl 62 3 32 1 [(nI (0)), (.str 0 0), (nI (0))] [(0, (t22))]),
 oQ kk24 [] (.app 62 3 32 (t20) (t23)),
 oP kk25 (.offs (t5) 2),
 ⟨none, none, some [], .store 1 (t25) (t24)⟩]))
 (cR [ oM kk17 kk6,
 oP kk18 (.bin .add (t17) (.c (nI (1)))),
 oM kk6 kk18]))))))
 (.seq (cR [ oM kk26 kk0,
 oP kk27 (.load 3 true (t5)),
 oP kk28 (.buildSl 77 3 40 1 [(nI (0)), (nI (0)), .nilslice] [(0, (t27))]),
 oP kk29 (.build [(.str 0 0), .nilslice, .nilslice, .nilslice, .nilslice] [(0, 1, (t26)), (1, 1, (t28))]),
 oP kk7 (.boxz 31 5 112 [(.str 0 0), .nilslice, .nilslice, .nilslice, .nilslice]),
 oN (.store 5 (t7) (t29))])
 (.seq (.seq (cR [ oP kk30 (.idxArr 4 1 (t3) (.c (nI (1)))),
 oP kk31 (.load 1 false (t30)),
 oP kk32 (.bin .rem (t31) (.c (.int .u16 (.ofNat 5))))])
 (.block 2 (.seq (cR [ oP kk34 (.bin .eql (t32) (.c (.int .u16 (.ofNat 1)))),
 oM kk33 kk34])
 (.cond (t33)
 (cR [ oP kk35 (.buildSl 3 1 8 1 [(nI (0))] [(0, (.c (nI (1))))]),
 oP kk36 (.offs (t7) 2),
 oN (.store 1 (t36) (t35))])
 (.seq (cR [ oP kk38 (.bin .eql (t32) (.c (.int .u16 (.ofNat 2)))),
 oM kk37 kk38])
 (.cond (t37)
 (cR [ oP kk39 (.buildSl 3 1 8 2 [(nI (0))] [(0, (.c (nI (2)))), (1, (.c (nI (1))))]),
 oP kk40 (.offs (t7) 2),
 oN (.store 1 (t40) (t39))])
 .skip))))))
 (.seq (.seq (cR [ oP kk41 (.idxArr 4 1 (t3) (.c (nI (2)))),
 oP kk42 (.load 1 false (t41)),
 oP kk43 (.bin .rem (t42) (.c (.int .u16 (.ofNat 5)))),
 oP kk44 (.bin .eql (t43) (.c (.int .u16 (.ofNat 1))))])
 (.cond (t44)
 (cR [ oP kk45 (.buildSl 3 1 8 1 [(nI (0))] [(0, (.c (nI (1))))]),
 oP kk46 (.idxArr 4 1 (t3) (.c (nI (2)))),
 oP kk47 (.load 1 false (t46)),
 oP kk48 (.bin .quo (t47) (.c (.int .u16 (.ofNat 5)))),
 oP kk49 (.call 17 [(t48)]),
 oP kk50 (.buildSl 3 1 8 1 [(nI (0))] [(0, (.c (nI (1))))]),
 oP kk51 (.build [.nilslice, (.str 0 0), .nilslice] [(0, 1, (t45)), (1, 1, (t49)), (2, 1, (t50))]),
 oP kk52 (.buildSl 81 3 64 1 [.nilslice, (.str 0 0), .nilslice] [(0, (t51))]),
 oP kk53 (.offs (t7) 3),
 oN (.store 1 (t53) (t52))])
 .skip))
 (.seq (.seq (cR [ oP kk54 (.idxArr 4 1 (t3) (.c (nI (3)))),
 oP kk55 (.load 1 false (t54)),
 oP kk56 (.bin .rem (t55) (.c (.int .u16 (.ofNat 6))))])
 (.block 3 (.seq (cR [ oP kk58 (.bin .eql (t56) (.c (.int .u16 (.ofNat 1)))),
 oM kk57 kk58])
 (.cond (t57)
 (cR [ oP kk59 (.buildSl 3 1 8 1 [(nI (0))] [(0, (.c (nI (2))))]),
 oP kk60 (.build [(nI (0)), .nilslice] [(0, 1, (.c (nI (1)))), (1, 1, (t59))]),
 oP kk61 (.buildSl 83 2 32 1 [(nI (0)), .nilslice] [(0, (t60))]),
 oP kk62 (.offs (t7) 4),
 oN (.store 1 (t62) (t61))])
 (.seq (cR [ oP kk64 (.bin .eql (t56) (.c (.int .u16 (.ofNat 2)))),
 oM kk63 kk64])
 (.cond (t63)
 (cR [ oP kk65 (.buildSl 3 1 8 2 [(nI (0))] [(0, (.c (nI (1)))), (1, (.c (nI (2))))]),
 oP kk66 (.build [(nI (0)), .nilslice] [(0, 1, (.c (nI (2)))), (1, 1, (t65))]),
 oP kk67 (.buildSl 83 2 32 1 [(nI (0)), .nilslice] [(0, (t66))]),
 oP kk68 (.offs (t7) 4),
 oN (.store 1 (t68) (t67))])
 .skip))))))
 (.seq (cR [ oP kk69 (.load 5 true (t7)),
 oN (.store 5 (t4) (t69))])
 .ret)))))))) }
theorem fn7 : fnOf Tryz.prog Tryz.f7 = some i7 := by kernel_rfl
noncomputable def i8 : IFn := { nt := 24, ps := [kk0], res := [.cell kk2 2 true, .tmp kk3, .tmp kk4], body :=
 (.seq (cR [ oP kk2 (.boxz 37 2 48 [.nilslice, .nilslice]),
 oC kk3 (nI 0),
 oC kk4 (nI 0)])
 (.seq (cR [ oM kk9 kk0,
 oP kk10 (.call 18 [(t9)]),
 oM kk8 kk10,
 oP kk11 (.extr (t8) 0),
 oP kk12 (.extr (t8) 1),
 oP kk13 (.extr (t8) 2),
 oM kk5 kk11,
 oM kk6 kk12,
 oM kk7 kk13])
 (.seq (.seq (cR [ oM kk14 kk7,
 oP kk15 (.bin .neq (t14) (.c (nI (0))))])
 (.cond (t15)
 (.seq (cR [ oP kk16 (.build [.nilslice, .nilslice] []),
 oM kk17 kk6,
 oM kk18 kk7,
 oN (.store 2 (t2) (t16)),
 oM kk3 kk17,
 oM kk4 kk18])
 .ret)
 .skip))
 (.seq (cR [ oM kk19 kk5,
 oP kk20 (.call 19 [(t19)]),
 oP kk21 (.extr (t20) 0),
 oP kk22 (.extr (t20) 1),
 oP kk23 (.extr (t20) 2),
 oN (.store 2 (t2) (t21)),
 oM kk3 kk22,
 oM kk4 kk23])
 .ret)))) }
theorem fn8 : fnOf Tryz.prog Tryz.f8 = some i8 := by kernel_rfl
noncomputable def i9 : IFn := { nt := 125, ps := [kk0, kk1, kk2, kk3], res := [.cell kk8 2 true, .tmp kk9, .tmp kk10], body :=
 (.seq (cR [ oP kk4 (.box 37 2 48 (t0)),
 oP kk8 (.boxz 43 2 48 [.nilslice, .nilslice]),
 oC kk9 .nilslice,
 oC kk10 (nI 0)])
 (.seq (.seq (cR [ oP kk27 (.load 2 true (t4)),
 oP kk28 (.call 20 [(t27)]),
 oP kk29 (.bin .eql (t28) (.c (.str 0 0)))])
 (.cond (t29)
 (.seq (cR [ oP kk30 (.build [.nilslice, .nilslice] []),
 oN (.store 2 (t8) (t30)),
 oC kk9 .nilslice,
 oC kk10 (nI 5)])
 .ret)
 .skip))
 (.seq (cR [ oM kk31 kk1,
 oM kk32 kk2,
 oM kk33 kk3,
 oP kk34 (.call 21 [(t31), (t32), (t33)]),
 oP kk11 (.boxz 89 1 24 [.nilslice]),
 oN (.store 1 (t11) (t34))])
 (.seq (cR [ oP kk35 (.build [.nilslice, .nilslice] []),
 oP kk36 (.box 93 2 48 (t35)),
 oM kk12 kk36])
 (.seq (cR [ oC kk13 .nilslice])
 (.seq (cR [ oC kk14 (nI 0)])
 (.seq (.seq (cR [ oP kk37 (.offs (t4) 0),
 oP kk38 (.load 1 false (t37)),
 oP kk39 (.len (t38)),
 oC kk40 (nI 0)])
 (.block 0 (.loop (.seq (cR [ oP kk41 (.bin .lss (t40) (t39))])
 (.seq (.cond (t41)
 .skip
 (.exit 0))
 (.seq (.block 1 (.seq (cR [ oM kk42 kk40,
 oP kk43 (.idxSl 7 (t38) (t40)),
 oP kk44 (.load 7 true (t43)),
 oP kk16 (.boxz 97 7 120 [(.bool false), .nilslice, .nilslice, .nilslice, (nI (0)), (.bool false), .nilslice]),
 oM kk15 kk42,
 oN (.store 7 (t16) (t44))])
 (.seq (cR [ oP kk45 (.load 7 true (t16)),
 oP kk46 (.build [(.bool false), .nilslice, .nilslice, .nilslice, (nI (0)), (.bool false), .nilslice, .nilslice, .nilslice, .nilslice] [(0, 7, (t45))]),
 oP kk47 (.box 101 10 192 (t46)),
 oP kk17 (.boxz 98 1 8 [.nilptr]),
 oN (.store 1 (t17) (t47))])
 (.seq (.seq (cR [ oP kk48 (.mkfn 22 [] [(t17), (t11)]),
 oP kk49 (.load 1 false (t17)),
 oP kk50 (.mkfn 24 [(t49)] []),
 oP kk51 (.load 1 false (t17)),
 oP kk52 (.mkfn 25 [(t51)] []),
 oP kk53 (.buildSl 103 1 8 3 [.nilfunc] [(0, (t48)), (1, (t50)), (2, (t52))]),
 oP kk54 (.len (t53)),
 oC kk55 (nI 0)])
 (.block 2 (.loop (.seq (cR [ oP kk56 (.bin .lss (t55) (t54))])
 (.seq (.cond (t56)
 .skip
 (.exit 2))
 (.seq (.block 3 (.seq (cR [ oP kk57 (.idxSl 1 (t53) (t55)),
 oP kk58 (.load 1 false (t57)),
 oM kk19 kk58])
 (.seq (cR [ oM kk59 kk19,
 oP kk60 (.callv (t59) []),
 oM kk20 kk60])
 (.seq (cR [ oM kk61 kk20,
 oP kk62 (.bin .neq (t61) (.c (nI (0))))])
 (.cond (t62)
 (.seq (cR [ oP kk63 (.build [.nilslice, .nilslice] []),
 oM kk64 kk20,
 oN (.store 2 (t8) (t63)),
 oC kk9 .nilslice,
 oM kk10 kk64])
 .ret)
 .skip)))))
 (cR [ oP kk65 (.bin .add (t55) (.c (nI (1)))),
 oM kk55 kk65])))))))
 (.seq (cR [ oM kk66 kk12,
 oP kk67 (.load 1 false (t17)),
 oP kk68 (.call 26 [(t66), (t67)]),
 oM kk21 kk68])
 (.seq (.seq (cR [ oM kk69 kk15,
 oP kk70 (.bin .eql (t69) (.c (nI (0))))])
 (.cond (t70)
 (.seq (cR [ oP kk71 (.load 1 false (t17)),
 oP kk72 (.call 27 [(t71)]),
 oM kk73 kk21,
 oM kk13 kk72,
 oM kk14 kk73])
 (.exit 1))
 .skip))
 (cR [ oM kk74 kk12,
 oP kk75 (.offs (t4) 1),
 oP kk76 (.load 1 false (t75)),
 oM kk77 kk15,
 oP kk78 (.bin .sub (t77) (.c (nI (1)))),
 oP kk79 (.idxSl 1 (t76) (t78)),
 oP kk80 (.load 1 false (t79)),
 oM kk81 kk14,
 oM kk82 kk21,
 oP kk83 (.build [(nI (0)), (nI (0)), (nI (0)), (nI (0)), (.str 0 0), .nilslice, .nilslice] [(0, 1, (t80)), (1, 1, (t81)), (2, 1, (t82))]),
 oP kk84 (.call 28 [(t74), (t83)]),
 oM kk14 kk84])))))))
 (cR [ oP kk85 (.bin .add (t40) (.c (nI (1)))),
 oM kk40 kk85])))))))
 (.seq (cD [ oM kk87 kk12,
 oP kk88 (.nilck (t87)),
 oP kk89 (.offs (t88) 0),
 oQ kk90 [] (.load 2 true (t89)),
 oQ kk91 [0] (.load 1 false (t11)),
 oQ kk92 [1] (.call 30 [(t91)]),
 oQ kk93 [] (.call 29 [(t90), (t92)]),
 oM kk86 kk93,
 oP kk94 (.extr (t86) 0),
 oP kk95 (.extr (t86) 1),
 oM kk22 kk94,
 oM kk23 kk95])
 (.seq (.seq (cR [ oM kk96 kk23,
 oP kk97 (.bin .neq (t96) (.c (nI (0))))])
 (.cond (t97)
 (.seq (cR [ oP kk98 (.build [.nilslice, .nilslice] []),
 oM kk99 kk23,
 oN (.store 2 (t8) (t98)),
 oC kk9 .nilslice,
 oM kk10 kk99])
 .ret)
 .skip))
 (.seq (cR [ oM kk100 kk22,
 oP kk101 (.len (t100)),
 oP kk102 (.mksl 62 3 32 [(nI (0)), (.str 0 0), (nI (0))] (t101) (t101)),
 oM kk24 kk102])
 (.seq (.seq (cR [ oM kk103 kk22,
 oP kk104 (.len (t103)),
 oC kk105 (nI 0)])
 (.block 4 (.loop (.seq (cR [ oP kk106 (.bin .lss (t105) (t104))])
 (.seq (.cond (t106)
 .skip
 (.exit 4))
 (.seq (.block 5 (.seq (cR [ oM kk107 kk105,
 oP kk108 (.idxSl 1 (t103) (t105)),
 oP kk109 (.load 1 false (t108)),
 oM kk25 kk107,
 oM kk26 kk109])
 (cR [ oM kk110 kk24,
 oM kk111 kk25,
 oM kk112 kk13,
 oM kk113 kk25,
 oP kk114 (.idxSl 1 (t112) (t113)),
 oP kk115 (.load 1 false (t114)),
 oM kk116 kk26,
 oP kk117 (.build [(nI (0)), (.str 0 0), (nI (0))] [(1, 1, (t115)), (2, 1, (t116))]),
 oP kk118 (.idxSl 3 (t110) (t111)),
 oN (.store 3 (t118) (t117))])))
 (cR [ oP kk119 (.bin .add (t105) (.c (nI (1)))),
 oM kk105 kk119])))))))
 (.seq (cR [ oM kk120 kk12,
 oP kk121 (.nilck (t120)),
 oP kk122 (.offs (t121) 0),
 oP kk123 (.load 2 true (t122)),
 oM kk124 kk24,
 oN (.store 2 (t8) (t123)),
 oM kk9 kk124,
 oC kk10 (nI 0)])
 .ret)))))))))))) }
theorem fn9 : fnOf Tryz.prog Tryz.f9 = some i9 := by kernel_rfl
noncomputable def i10 : IFn := { nt := 24, ps := [kk0], res := [.cell kk2 21 true, .tmp kk3, .tmp kk4], body :=
 (.seq (cR [ oP kk2 (.boxz 57 21 328 [(nI (0)), (nI (0)), (nI (0)), (nI (0)), .nilslice, .nilslice, (.str 0 0), (.str 0 0), .nilslice, (nI (0)), (nI (0)), .nilslice, (nI (0)), .nilslice, .nilslice, .nilslice, .nilslice, .nilslice, (nI (0)), (nI (0)), (nI (0))]),
 oC kk3 (nI 0),
 oC kk4 (nI 0)])
 (.seq (cR [ oM kk9 kk0,
 oP kk10 (.call 18 [(t9)]),
 oM kk8 kk10,
 oP kk11 (.extr (t8) 0),
 oP kk12 (.extr (t8) 1),
 oP kk13 (.extr (t8) 2),
 oM kk5 kk11,
 oM kk6 kk12,
 oM kk7 kk13])
 (.seq (.seq (cR [ oM kk14 kk7,
 oP kk15 (.bin .neq (t14) (.c (nI (0))))])
 (.cond (t15)
 (.seq (cR [ oP kk16 (.build [(nI (0)), (nI (0)), (nI (0)), (nI (0)), .nilslice, .nilslice, (.str 0 0), (.str 0 0), .nilslice, (nI (0)), (nI (0)), .nilslice, (nI (0)), .nilslice, .nilslice, .nilslice, .nilslice, .nilslice, (nI (0)), (nI (0)), (nI (0))] []),
 oM kk17 kk6,
 oM kk18 kk7,
 oN (.store 21 (t2) (t16)),
 oM kk3 kk17,
 oM kk4 kk18])
 .ret)
 .skip))
 (.seq (cR [ oM kk19 kk5,
 oP kk20 (.call 31 [(t19)]),
 oP kk21 (.extr (t20) 0),
 oP kk22 (.extr (t20) 1),
 oP kk23 (.extr (t20) 2),
 oN (.store 21 (t2) (t21)),
 oM kk3 kk22,
 oM kk4 kk23])
 .ret)))) }
theorem fn10 : fnOf Tryz.prog Tryz.f10 = some i10 := by kernel_rfl
noncomputable def i11 : IFn := { nt := 52, ps := [kk0, kk1, kk2], res := [.cell kk6 16 true, .tmp kk7], body :=
 (.seq (cR [ oP kk3 (.box 57 21 328 (t0)),
 oP kk6 (.boxz 64 16 264 [(nI (0)), (.str 0 0), .nilslice, (nI (0)), (nI (0)), .nilslice, (nI (0)), .nilslice, (.str 0 0), .nilslice, .nilslice, .nilslice, .nilslice, (nI (0)), (.str 0 0), (nI (0))]),
 oC kk7 (nI 0)])
 (.seq (.seq (cR [ oP kk11 (.offs (t3) 0),
 oP kk12 (.load 1 false (t11)),
 oP kk13 (.bin .lss (t12) (.c (nI (2)))),
 oM kk14 kk13,
 oX kk15 kk14 false (.offs (t3) 0),
 oX kk16 kk14 false (.load 1 false (t15)),
 oX kk17 kk14 false (.bin .gtr (t16) (.c (nI (7)))),
 oP kk18 (.pick (t14) (.c (.bool true)) (t17)),
 oM kk19 kk18,
 oX kk20 kk19 false (.load 21 true (t3)),
 oX kk21 kk19 false (.call 32 [(t20)]),
 oX kk22 kk19 false (.bin .eql (t21) (.c (.str 0 0))),
 oP kk23 (.pick (t19) (.c (.bool true)) (t22))])
 (.cond (t23)
 (.seq (cR [ oP kk24 (.build [(nI (0)), (.str 0 0), .nilslice, (nI (0)), (nI (0)), .nilslice, (nI (0)), .nilslice, (.str 0 0), .nilslice, .nilslice, .nilslice, .nilslice, (nI (0)), (.str 0 0), (nI (0))] []),
 oN (.store 16 (t6) (t24)),
 oC kk7 (nI 5)])
 .ret)
 .skip))
 (.seq (cR [ oM kk25 kk1,
 oM kk26 kk2,
 oP kk27 (.call 21 [(t25), (t26), (.c (.bool false))]),
 oM kk8 kk27])
 (.seq (.seq (cR [ oP kk28 (.offs (t3) 0),
 oP kk29 (.load 1 false (t28)),
 oP kk30 (.bin .eql (t29) (.c (nI (5))))])
 (.cond (t30)
 (.seq (cR [ oP kk31 (.load 21 true (t3)),
 oM kk32 kk8,
 oP kk33 (.call 33 [(t31), (t32)]),
 oP kk34 (.extr (t33) 0),
 oP kk35 (.extr (t33) 1),
 oN (.store 16 (t6) (t34)),
 oM kk7 kk35])
 .ret)
 .skip))
 (.seq (cR [ oM kk37 kk8,
 oP kk38 (.offs (t3) 6),
 oP kk39 (.load 1 false (t38)),
 oP kk40 (.call 34 [(t37), (t39)]),
 oM kk36 kk40,
 oP kk41 (.extr (t36) 0),
 oP kk42 (.extr (t36) 1),
 oP kk9 (.boxz 115 2 40 [(.str 0 0), .nilslice]),
 oN (.store 2 (t9) (t41)),
 oM kk10 kk42])
 (.seq (.seq (cR [ oM kk43 kk10,
 oP kk44 (.un .not (t43))])
 (.cond (t44)
 (.seq (cR [ oP kk45 (.build [(nI (0)), (.str 0 0), .nilslice, (nI (0)), (nI (0)), .nilslice, (nI (0)), .nilslice, (.str 0 0), .nilslice, .nilslice, .nilslice, .nilslice, (nI (0)), (.str 0 0), (nI (0))] []),
 oN (.store 16 (t6) (t45)),
 oC kk7 (nI 8)])
 .ret)
 .skip))
 (.seq (cR [ oP kk46 (.load 21 true (t3)),
 oP kk47 (.offs (t9) 1),
 oP kk48 (.load 1 false (t47)),
 oP kk49 (.call 35 [(t46), (t48)]),
 oP kk50 (.extr (t49) 0),
 oP kk51 (.extr (t49) 1),
 oN (.store 16 (t6) (t50)),
 oM kk7 kk51])
 .ret))))))) }
theorem fn11 : fnOf Tryz.prog Tryz.f11 = some i11 := by kernel_rfl
noncomputable def i12 : IFn := { nt := 12, ps := [kk0, kk1, kk2], res := [.tmp kk6], body :=
 (.seq (.region false [⟨some kk6, none, none, .mov (.c .nilslice)⟩])
 (.seq (.region false [⟨some kk7, none, none, .mov (.t kk0)⟩,
  ⟨some kk8, none, none, .mov (.t kk1)⟩,
  ⟨some kk9, none, none, .mov (.t kk2)⟩,
  ⟨some kk10, none, none, .call 21 [(.t kk7), (.t kk8), (.t kk9)]⟩,
  ⟨some kk11, none, none, .call 30 [(.t kk10)]⟩,
  ⟨some kk6, none, none, .mov (.t kk11)⟩])
 .ret)) }
theorem fn12 : fnOf Tryz.prog Tryz.f12 = some i12 := by kernel_rfl
noncomputable def i13 : IFn := { nt := 89, ps := [kk0], res := [.tmp kk2], body :=
 (.seq (.region false [⟨some kk1, none, none, .box 31 5 112 (.t kk0)⟩,
  ⟨some kk2, none, none, .mov (.c (.bool false))⟩])
 (.seq (.seq (.region false [⟨some kk6, none, none, .offs (.t kk1) 0⟩,
  ⟨some kk7, none, none, .load 1 false (.t kk6)⟩,
  ⟨some kk8, none, none, .lenS (.t kk7)⟩,
  ⟨some kk9, none, none, .bin .gtr (.t kk8) (.c (.int .i64 (.ofNat 200)))⟩,
  ⟨some kk10, none, none, .mov (.t kk9)⟩,
  ⟨some kk11, some (kk10, false), none, .offs (.t kk1) 1⟩,
  ⟨some kk12, some (kk10, false), none, .load 1 false (.t kk11)⟩,
  ⟨some kk13, some (kk10, false), none, .len (.t kk12)⟩,
  ⟨some kk14, some (kk10, false), none, .bin .gtr (.t kk13) (.c (.int .i64 (.ofNat 12)))⟩,
  ⟨some kk15, none, none, .pick (.t kk10) (.c (.bool true)) (.t kk14)⟩,
  ⟨some kk16, none, none, .mov (.t kk15)⟩,
  ⟨some kk17, some (kk16, false), none, .offs (.t kk1) 2⟩,
  ⟨some kk18, some (kk16, false), none, .load 1 false (.t kk17)⟩,
  ⟨some kk19, some (kk16, false), none, .len (.t kk18)⟩,
  ⟨some kk20, some (kk16, false), none, .bin .gtr (.t kk19) (.c (.int .i64 (.ofNat 20)))⟩,
  ⟨some kk21, none, none, .pick (.t kk16) (.c (.bool true)) (.t kk20)⟩,
  ⟨some kk22, none, none, .mov (.t kk21)⟩,
  ⟨some kk23, some (kk22, false), none, .offs (.t kk1) 3⟩,
  ⟨some kk24, some (kk22, false), none, .load 1 false (.t kk23)⟩,
  ⟨some kk25, some (kk22, false), none, .len (.t kk24)⟩,
  ⟨some kk26, some (kk22, false), none, .bin .gtr (.t kk25) (.c (.int .i64 (.ofNat 10)))⟩,
  ⟨some kk27, none, none, .pick (.t kk22) (.c (.bool true)) (.t kk26)⟩,
  ⟨some kk28, none, none, .mov (.t kk27)⟩,
  ⟨some kk29, some (kk28, false), none, .offs (.t kk1) 4⟩,
  ⟨some kk30, some (kk28, false), none, .load 1 false (.t kk29)⟩,
  ⟨some kk31, some (kk28, false), none, .len (.t kk30)⟩,
  ⟨some kk32, some (kk28, false), none, .bin .gtr (.t kk31) (.c (.int .i64 (.ofNat 10)))⟩,
  ⟨some kk33, none, none, .pick (.t kk28) (.c (.bool true)) (.t kk32)⟩])
 (.cond (.t kk33)
  (.seq (.region false [⟨some kk2, none, none, .mov (.c (.bool false))⟩])
  .ret)
  .skip))
 (.seq (.seq (.region false [⟨some kk3, none, none, .mov (.c (.int .i64 (.ofNat 0)))⟩])
 (.block 0 (.loop (.seq (.seq (.region false [⟨some kk34, none, none, .mov (.t kk3)⟩,
    ⟨some kk35, none, none, .offs (.t kk1) 1⟩,
    ⟨some kk36, none, none, .load 1 false (.t kk35)⟩,
    ⟨some kk37, none, none, .len (.t kk36)⟩,
    ⟨some kk38, none, none, .bin .lss (.t kk34) (.t kk37)⟩])
   (.cond (.t kk38)
    .skip
    (.exit 0)))
   (.seq (.block 1 (.seq (.region false [⟨some kk41, none, none, .offs (.t kk1) 1⟩,
     ⟨some kk42, none, none, .load 1 false (.t kk41)⟩,
     ⟨some kk43, none, none, .mov (.t kk3)⟩,
     ⟨some kk44, none, none, .idxSl 3 (.t kk42) (.t kk43)⟩,
     ⟨some kk45, none, none, .offs (.t kk44) 2⟩,
     ⟨some kk46, none, none, .load 1 false (.t kk45)⟩,
     ⟨some kk47, none, none, .len (.t kk46)⟩,
     ⟨some kk48, none, none, .bin .gtr (.t kk47) (.c (.int .i64 (.ofNat 20)))⟩])
    (.cond (.t kk48)
     (.seq (.region false [⟨some kk2, none, none, .mov (.c (.bool false))⟩])
     .ret)
     .skip)))
   (.region false [⟨some kk39, none, none, .mov (.t kk3)⟩,
    ⟨some kk40, none, none, .bin .add (.t kk39) (.c (.int .i64 (.ofNat 1)))⟩,
    ⟨some kk3, none, none, .mov (.t kk40)⟩]))))))
 (.seq (.seq (.region false [⟨some kk4, none, none, .mov (.c (.int .i64 (.ofNat 0)))⟩])
 (.block 2 (.loop (.seq (.seq (.region false [⟨some kk49, none, none, .mov (.t kk4)⟩,
    ⟨some kk50, none, none, .offs (.t kk1) 3⟩,
    ⟨some kk51, none, none, .load 1 false (.t kk50)⟩,
    ⟨some kk52, none, none, .len (.t kk51)⟩,
    ⟨some kk53, none, none, .bin .lss (.t kk49) (.t kk52)⟩])
   (.cond (.t kk53)
    .skip
    (.exit 2)))
   (.seq (.block 3 (.seq (.region false [⟨some kk56, none, none, .offs (.t kk1) 3⟩,
     ⟨some kk57, none, none, .load 1 false (.t kk56)⟩,
     ⟨some kk58, none, none, .mov (.t kk4)⟩,
     ⟨some kk59, none, none, .idxSl 3 (.t kk57) (.t kk58)⟩,
     ⟨some kk60, none, none, .offs (.t kk59) 0⟩,
     ⟨some kk61, none, none, .load 1 false (.t kk60)⟩,
     ⟨some kk62, none, none, .len (.t kk61)⟩,
     ⟨some kk63, none, none, .bin .gtr (.t kk62) (.c (.int .i64 (.ofNat 20)))⟩,
     ⟨some kk64, none, none, .mov (.t kk63)⟩,
     ⟨some kk65, some (kk64, false), none, .offs (.t kk1) 3⟩,
     ⟨some kk66, some (kk64, false), none, .load 1 false (.t kk65)⟩,
     ⟨some kk67, some (kk64, false), none, .mov (.t kk4)⟩,
     ⟨some kk68, some (kk64, false), none, .idxSl 3 (.t kk66) (.t kk67)⟩,
     ⟨some kk69, some (kk64, false), none, .offs (.t kk68) 2⟩,
     ⟨some kk70, some (kk64, false), none, .load 1 false (.t kk69)⟩,
     ⟨some kk71, some (kk64, false), none, .len (.t kk70)⟩,
     ⟨some kk72, some (kk64, false), none, .bin .gtr (.t kk71) (.c (.int .i64 (.ofNat 20)))⟩,
     ⟨some kk73, none, none, .pick (.t kk64) (.c (.bool true)) (.t kk72)⟩])
    (.cond (.t kk73)
     (.seq (.region false [⟨some kk2, none, none, .mov (.c (.bool false))⟩])
     .ret)
     .skip)))
   (.region false [⟨some kk54, none, none, .mov (.t kk4)⟩,
    ⟨some kk55, none, none, .bin .add (.t kk54) (.c (.int .i64 (.ofNat 1)))⟩,
    ⟨some kk4, none, none, .mov (.t kk55)⟩]))))))
 (.seq (.seq (.region false [⟨some kk5, none, none, .mov (.c (.int .i64 (.ofNat 0)))⟩])
 (.block 4 (.loop (.seq (.seq (.region false [⟨some kk74, none, none, .mov (.t kk5)⟩,
    ⟨some kk75, none, none, .offs (.t kk1) 4⟩,
    ⟨some kk76, none, none, .load 1 false (.t kk75)⟩,
    ⟨some kk77, none, none, .len (.t kk76)⟩,
    ⟨some kk78, none, none, .bin .lss (.t kk74) (.t kk77)⟩])
   (.cond (.t kk78)
    .skip
    (.exit 4)))
   (.seq (.block 5 (.seq (.region false [⟨some kk81, none, none, .offs (.t kk1) 4⟩,
     ⟨some kk82, none, none, .load 1 false (.t kk81)⟩,
     ⟨some kk83, none, none, .mov (.t kk5)⟩,
     ⟨some kk84, none, none, .idxSl 2 (.t kk82) (.t kk83)⟩,
     ⟨some kk85, none, none, .offs (.t kk84) 1⟩,
     ⟨some kk86, none, none, .load 1 false (.t kk85)⟩,
     ⟨some kk87, none, none, .len (.t kk86)⟩,
     ⟨some kk88, none, none, .bin .gtr (.t kk87) (.c (.int .i64 (.ofNat 20)))⟩])
    (.cond (.t kk88)
     (.seq (.region false [⟨some kk2, none, none, .mov (.c (.bool false))⟩])
     .ret)
     .skip)))
   (.region false [⟨some kk79, none, none, .mov (.t kk5)⟩,
    ⟨some kk80, none, none, .bin .add (.t kk79) (.c (.int .i64 (.ofNat 1)))⟩,
    ⟨some kk5, none, none, .mov (.t kk80)⟩]))))))
 (.seq (.region false [⟨some kk2, none, none, .mov (.c (.bool true))⟩])
 .ret)))))) }
theorem fn13 : fnOf Tryz.prog Tryz.f13 = some i13 := by kernel_rfl
noncomputable def i14 : IFn := { nt := 58, ps := [kk0, kk1, kk2], res := [.tmp kk6], body :=
 (.seq (.region false [⟨some kk6, none, none, .mov (.c .nilslice)⟩])
 (.seq (.region false [⟨some kk7, none, none, .mov (.c .nilslice)⟩])
 (.seq (.seq (.region false [⟨some kk8, none, none, .mov (.c (.int .i64 (.ofNat 0)))⟩])
 (.block 0 (.loop (.seq (.seq (.region false [⟨some kk13, none, none, .mov (.t kk8)⟩,
    ⟨some kk14, none, none, .mov (.t kk0)⟩,
    ⟨some kk15, none, none, .len (.t kk14)⟩,
    ⟨some kk16, none, none, .bin .lss (.t kk13) (.t kk15)⟩])
   (.cond (.t kk16)
    .skip
    (.exit 0)))
   (.seq (.block 1 (.seq (.region false [⟨some kk20, none, none, .mov (.t kk0)⟩,
     ⟨some kk21, none, none, .mov (.t kk8)⟩,
     ⟨some kk22, none, none, .idxSl 5 (.t kk20) (.t kk21)⟩,
     ⟨some kk23, none, none, .load 5 true (.t kk22)⟩,
     ⟨some kk24, none, none, .mov (.t kk1)⟩,
     ⟨some kk25, none, none, .mov (.t kk2)⟩,
     ⟨some kk26, none, none, .call 36 [(.t kk23), (.t kk24), (.t kk25)]⟩,
     ⟨some kk19, none, none, .mov (.t kk26)⟩,
     ⟨some kk27, none, none, .extr (.t kk19) 0⟩,
     ⟨some kk28, none, none, .extr (.t kk19) 1⟩,
     ⟨some kk9, none, none, .mov (.t kk27)⟩,
     ⟨some kk10, none, none, .mov (.t kk28)⟩])
    (.seq (.seq (.region false [⟨some kk29, none, none, .mov (.t kk10)⟩,
     ⟨some kk30, none, none, .un .not (.t kk29)⟩])
    (.cond (.t kk30)
     (.exit 1)
     .skip))
    (.seq (.region false [⟨some kk31, none, none, .mov (.t kk0)⟩,
     ⟨some kk32, none, none, .mov (.t kk8)⟩,
     ⟨some kk33, none, none, .idxSl 5 (.t kk31) (.t kk32)⟩,
     ⟨some kk34, none, none, .offs (.t kk33) 0⟩,
     ⟨some kk35, none, none, .load 1 false (.t kk34)⟩,
     ⟨some kk36, none, none, .build [(.str 0 0), .nilslice] [(0, 1, (.t kk35))]⟩,
     ⟨some kk11, none, none, .boxz 74 2 40 [(.str 0 0), .nilslice]⟩,
     ⟨none, none, none, .store 2 (.t kk11) (.t kk36)⟩])
    (.seq (.seq (.region false [⟨some kk12, none, none, .mov (.c (.int .i64 (.ofNat 0)))⟩])
    (.block 2 (.loop (.seq (.seq (.region false [⟨some kk37, none, none, .mov (.t kk12)⟩,
       ⟨some kk38, none, none, .mov (.t kk9)⟩,
       ⟨some kk39, none, none, .len (.t kk38)⟩,
       ⟨some kk40, none, none, .bin .lss (.t kk37) (.t kk39)⟩])
      (.cond (.t kk40)
       .skip
       (.exit 2)))
      (.seq (.block 3 (.region true [⟨some kk43, none, none, .offs (.t kk11) 1⟩,
        ⟨some kk44, none, some [], .load 1 false (.t kk43)⟩,
        ⟨some kk45, none, none, .mov (.t kk9)⟩,
        ⟨some kk46, none, none, .mov (.t kk12)⟩,
        ⟨some kk47, none, none, .idxSl 3 (.t kk45) (.t kk46)⟩,
        ⟨some kk48, none, none, .offs (.t kk47) 2⟩,
        ⟨some kk49, none, some [0], .load 1 false (.t kk48)⟩,
        ⟨some kk50, none, some [1], .buildSl 3 1 8 1 [(.int .i64 (.ofNat 0))] [(0, (.t kk49))]⟩,
        ⟨some kk51, none, some [], .app 3 1 8 (.t kk44) (.t kk50)⟩,
        ⟨some kk52, none, none, .offs (.t kk11) 1⟩,
        ⟨none, none, some [], .store 1 (.t kk52) (.t kk51)⟩]))
      (.region false [⟨some kk41, none, none, .mov (.t kk12)⟩,
       ⟨some kk42, none, none, .bin .add (.t kk41) (.c (.int .i64 (.ofNat 1)))⟩,
       ⟨some kk12, none, none, .mov (.t kk42)⟩]))))))
    (.region false [⟨some kk53, none, none, .mov (.t kk7)⟩,
     ⟨some kk54, none, none, .load 2 true (.t kk11)⟩,
     ⟨some kk55, none, none, .buildSl 74 2 40 1 [(.str 0 0), .nilslice] [(0, (.t kk54))]⟩,
     ⟨some kk56, none, none, .app 74 2 40 (.t kk53) (.t kk55)⟩,
     ⟨some kk7, none, none, .mov (.t kk56)⟩]))))))
   (.region false [⟨some kk17, none, none, .mov (.t kk8)⟩,
    ⟨some kk18, none, none, .bin .add (.t kk17) (.c (.int .i64 (.ofNat 1)))⟩,
    ⟨some kk8, none, none, .mov (.t kk18)⟩]))))))
 (.seq (.region false [⟨some kk57, none, none, .mov (.t kk7)⟩,
  ⟨some kk6, none, none, .mov (.t kk57)⟩])
 .ret)))) }
theorem fn14 : fnOf Tryz.prog Tryz.f14 = some i14 := by kernel_rfl
noncomputable def i15 : IFn := { nt := 26, ps := [kk0, kk1], res := [.tmp kk4], body :=
 (.seq (.region false [⟨some kk4, none, none, .mov (.c (.bool false))⟩])
 (.seq (.seq (.region false [⟨some kk6, none, none, .mov (.t kk0)⟩,
  ⟨some kk7, none, none, .len (.t kk6)⟩,
  ⟨some kk8, none, none, .mov (.t kk1)⟩,
  ⟨some kk9, none, none, .len (.t kk8)⟩,
  ⟨some kk10, none, none, .bin .neq (.t kk7) (.t kk9)⟩])
 (.cond (.t kk10)
  (.seq (.region false [⟨some kk4, none, none, .mov (.c (.bool false))⟩])
  .ret)
  .skip))
 (.seq (.seq (.region false [⟨some kk5, none, none, .mov (.c (.int .i64 (.ofNat 0)))⟩])
 (.block 0 (.loop (.seq (.seq (.region false [⟨some kk11, none, none, .mov (.t kk5)⟩,
    ⟨some kk12, none, none, .mov (.t kk0)⟩,
    ⟨some kk13, none, none, .len (.t kk12)⟩,
    ⟨some kk14, none, none, .bin .lss (.t kk11) (.t kk13)⟩])
   (.cond (.t kk14)
    .skip
    (.exit 0)))
   (.seq (.block 1 (.seq (.region true [⟨some kk17, none, none, .mov (.t kk0)⟩,
     ⟨some kk18, none, none, .mov (.t kk5)⟩,
     ⟨some kk19, none, none, .idxSl 1 (.t kk17) (.t kk18)⟩,
     ⟨some kk20, none, some [], .load 1 false (.t kk19)⟩,
     ⟨some kk21, none, none, .mov (.t kk1)⟩,
     ⟨some kk22, none, none, .mov (.t kk5)⟩,
     ⟨some kk23, none, none, .idxSl 1 (.t kk21) (.t kk22)⟩,
     ⟨some kk24, none, some [0], .load 1 false (.t kk23)⟩,
     ⟨some kk25, none, none, .bin .neq (.t kk20) (.t kk24)⟩])
    (.cond (.t kk25)
     (.seq (.region false [⟨some kk4, none, none, .mov (.c (.bool false))⟩])
     .ret)
     .skip)))
   (.region false [⟨some kk15, none, none, .mov (.t kk5)⟩,
    ⟨some kk16, none, none, .bin .add (.t kk15) (.c (.int .i64 (.ofNat 1)))⟩,
    ⟨some kk5, none, none, .mov (.t kk16)⟩]))))))
 (.seq (.region false [⟨some kk4, none, none, .mov (.c (.bool true))⟩])
 .ret)))) }
theorem fn15 : fnOf Tryz.prog Tryz.f15 = some i15 := by kernel_rfl
noncomputable def i16 : IFn := { nt := 16, ps := [kk0], res := [.cell kk2 3 true], body :=
 (.seq (cR [ oP kk2 (.boxz 62 3 32 [(nI (0)), (.str 0 0), (nI (0))])])
 (.seq (cR [ oP kk5 (.build [(.str 0 0), (.str 0 0), (.str 0 0), (.str 0 0), (.str 0 0)] [(0, 1, (.c (.str 1 97))), (1, 1, (.c (.str 1 98))), (2, 1, (.c (.str 1 99))), (3, 1, (.c (.str 1 100))), (4, 1, (.c (.str 1 101)))]),
 oP kk3 (.boxz 121 5 80 [(.str 0 0), (.str 0 0), (.str 0 0), (.str 0 0), (.str 0 0)]),
 oN (.store 5 (t3) (t5))])
 (.seq (cR [ oP kk6 (.build [(nI (0)), (nI (0)), (nI (0)), (nI (0)), (nI (0))] [(0, 1, (.c (nI (1)))), (1, 1, (.c (nI (2)))), (2, 1, (.c (nI (1)))), (3, 1, (.c (nI (3)))), (4, 1, (.c (nI (2))))]),
 oP kk4 (.boxz 122 5 40 [(nI (0)), (nI (0)), (nI (0)), (nI (0)), (nI (0))]),
 oN (.store 5 (t4) (t6))])
 (.seq (cD [ oM kk7 kk0,
 oP kk8 (.bin .add (t7) (.c (nI (1)))),
 oM kk9 kk0,
 oP kk10 (.idxArr 5 1 (t3) (t9)),
 oQ kk11 [] (.load 1 false (t10)),
 oM kk12 kk0,
 oP kk13 (.idxArr 5 1 (t4) (t12)),
 oQ kk14 [0] (.load 1 false (t13)),
 oP kk15 (.build [(nI (0)), (.str 0 0), (nI (0))] [(0, 1, (t8)), (1, 1, (t11)), (2, 1, (t14))]),
 ⟨none, none, some [], .store 3 (t2) (t15)⟩])
 .ret)))) }
theorem fn16 : fnOf Tryz.prog Tryz.f16 = some i16 := by kernel_rfl
noncomputable def i17 : IFn := { nt := 8, ps := [kk0], res := [.tmp kk2], body :=
 (.seq (cR [ oC kk2 (.str 0 0)])
 (.seq (cR [ oP kk3 (.buildSl 9 1 16 3 [(.str 0 0)] [(0, (.c (.str 1 116))), (1, (.c (.str 1 117))), (2, (.c (.str 1 119)))]),
 oM kk4 kk0,
 oP kk5 (.bin .rem (t4) (.c (.int .u16 (.ofNat 3)))),
 oP kk6 (.idxSl 1 (t3) (t5)),
 oP kk7 (.load 1 false (t6)),
 oM kk2 kk7])
 .ret)) }
theorem fn17 : fnOf Tryz.prog Tryz.f17 = some i17 := by kernel_rfl
noncomputable def i18 : IFn := { nt := 66, ps := [kk0], res := [.tmp kk2, .tmp kk3, .tmp kk4], body :=
 (.seq (cR [ oC kk2 .nilslice,
 oC kk3 (nI 0),
 oC kk4 (nI 0)])
 (.seq (.seq (cR [ oM kk12 kk0,
 oP kk13 (.lenS (t12)),
 oP kk14 (.bin .gtr (t13) (.c (nI (4000))))])
 (.cond (t14)
 (.seq (cR [ oC kk2 .nilslice,
 oC kk3 (nI 0),
 oC kk4 (nI 4)])
 .ret)
 .skip))
 (.seq (cR [ oC kk5 .nilslice])
 (.seq (cR [ oC kk6 (nI 0)])
 (.seq (.block 0 (.loop (.seq (.seq (cR [ oM kk15 kk6,
 oM kk16 kk0,
 oP kk17 (.lenS (t16)),
 oP kk18 (.bin .lss (t15) (t17))])
 (.cond (t18)
 .skip
 (.exit 0)))
 (.block 1 (.seq (.seq (cR [ oM kk19 kk0,
 oM kk20 kk6,
 oP kk21 (.idxStr (t19) (t20)),
 oP kk22 (.call 37 [(t21)])])
 (.cond (t22)
 (.seq (cR [ oM kk23 kk6,
 oP kk24 (.bin .add (t23) (.c (nI (1)))),
 oM kk6 kk24])
 (.exit 1))
 .skip))
 (.seq (cR [ oM kk26 kk0,
 oM kk27 kk6,
 oP kk28 (.call 38 [(t26), (t27)]),
 oM kk25 kk28,
 oP kk29 (.extr (t25) 0),
 oP kk30 (.extr (t25) 1),
 oP kk31 (.extr (t25) 2),
 oP kk32 (.extr (t25) 3),
 oM kk7 kk29,
 oM kk8 kk30,
 oM kk9 kk31,
 oM kk10 kk32])
 (.seq (cR [ oM kk33 kk8,
 oM kk34 kk6,
 oM kk35 kk9,
 oP kk36 (.build [(nI (0)), (nI (0)), (.str 0 0)] [(0, 1, (t33)), (1, 1, (t34)), (2, 1, (t35))]),
 oP kk11 (.boxz 127 3 32 [(nI (0)), (nI (0)), (.str 0 0)]),
 oN (.store 3 (t11) (t36))])
 (.seq (.block 2 (.seq (cR [ oM kk38 kk8,
 oP kk39 (.bin .eql (t38) (.c (nI (0)))),
 oM kk37 kk39])
 (.cond (t37)
 (.seq (cR [ oM kk40 kk6,
 oC kk2 .nilslice,
 oM kk3 kk40,
 oC kk4 (nI 5)])
 .ret)
 (.seq (cR [ oM kk42 kk10,
 oP kk43 (.un .not (t42)),
 oM kk41 kk43])
 (.cond (t41)
 (.seq (cR [ oM kk44 kk6,
 oC kk2 .nilslice,
 oM kk3 kk44,
 oC kk4 (nI 2)])
 .ret)
 (.seq (cR [ oP kk46 (.load 3 true (t11)),
 oP kk47 (.call 39 [(t46)]),
 oP kk48 (.un .not (t47)),
 oM kk49 kk48,
 oG kk50 kk49 false kk5,
 oX kk51 kk49 false (.len (t50)),
 oX kk52 kk49 false (.bin .geq (t51) (.c (nI (1000)))),
 oP kk53 (.pick (t49) (.c (.bool true)) (t52)),
 oM kk45 kk53])
 (.cond (t45)
 (.seq (cR [ oM kk54 kk6,
 oC kk2 .nilslice,
 oM kk3 kk54,
 oC kk4 (nI 4)])
 .ret)
 .skip)))))))
 (.seq (cR [ oM kk55 kk5,
 oP kk56 (.load 3 true (t11)),
 oP kk57 (.buildSl 127 3 32 1 [(nI (0)), (nI (0)), (.str 0 0)] [(0, (t56))]),
 oP kk58 (.app 127 3 32 (t55) (t57)),
 oM kk5 kk58])
 (cR [ oM kk59 kk7,
 oM kk6 kk59]))))))))))
 (.seq (cR [ oM kk60 kk5,
 oM kk61 kk0,
 oP kk62 (.lenS (t61)),
 oP kk63 (.build [(nI (0)), (nI (0)), (.str 0 0)] [(0, 1, (.c (nI (6)))), (1, 1, (t62))]),
 oP kk64 (.buildSl 127 3 32 1 [(nI (0)), (nI (0)), (.str 0 0)] [(0, (t63))]),
 oP kk65 (.app 127 3 32 (t60) (t64)),
 oM kk2 kk65,
 oC kk3 (nI 0),
 oC kk4 (nI 0)])
 .ret)))))) }
theorem fn18 : fnOf Tryz.prog Tryz.f18 = some i18 := by kernel_rfl
noncomputable def i19 : IFn := { nt := 33, ps := [kk0], res := [.cell kk2 2 true, .tmp kk3, .tmp kk4], body :=
 (.seq (cR [ oP kk2 (.boxz 37 2 48 [.nilslice, .nilslice]),
 oC kk3 (nI 0),
 oC kk4 (nI 0)])
 (.seq (cR [ oM kk7 kk0,
 oP kk8 (.build [.nilslice, (nI (0)), (nI (0)), (nI (0)), (nI (0)), (.bool false)] [(0, 1, (t7))]),
 oP kk9 (.box 131 6 64 (t8)),
 oM kk5 kk9])
 (.seq (cR [ oM kk10 kk5,
 oP kk11 (.call 40 [(t10)]),
 oP kk6 (.boxz 37 2 48 [.nilslice, .nilslice]),
 oN (.store 2 (t6) (t11))])
 (.seq (cR [ oM kk12 kk5,
 oP kk13 (.call 41 [(t12)])])
 (.seq (.seq (cR [ oM kk14 kk5,
 oP kk15 (.nilck (t14)),
 oP kk16 (.offs (t15) 2),
 oP kk17 (.load 1 false (t16)),
 oP kk18 (.bin .neq (t17) (.c (nI (0))))])
 (.cond (t18)
 (.seq (cD [ oP kk19 (.build [.nilslice, .nilslice] []),
 oM kk20 kk0,
 oM kk21 kk5,
 oP kk22 (.nilck (t21)),
 oP kk23 (.offs (t22) 3),
 oQ kk24 [] (.load 1 false (t23)),
 oP kk25 (.idxSl 3 (t20) (t24)),
 oP kk26 (.offs (t25) 1),
 oQ kk27 [] (.load 1 false (t26)),
 oM kk28 kk5,
 oP kk29 (.nilck (t28)),
 oP kk30 (.offs (t29) 2),
 oQ kk31 [0, 1] (.load 1 false (t30)),
 ⟨none, none, some [0, 1, 2], .store 2 (t2) (t19)⟩,
 oM kk3 kk27,
 oM kk4 kk31])
 .ret)
 .skip))
 (.seq (cR [ oP kk32 (.load 2 true (t6)),
 oN (.store 2 (t2) (t32)),
 oC kk3 (nI 0),
 oC kk4 (nI 0)])
 .ret)))))) }
theorem fn19 : fnOf Tryz.prog Tryz.f19 = some i19 := by kernel_rfl
noncomputable def i20 : IFn := { nt := 39, ps := [kk0], res := [.tmp kk2], body :=
 (.seq (cR [ oP kk1 (.box 37 2 48 (t0)),
 oC kk2 (.str 0 0)])
 (.seq (.seq (cR [ oP kk9 (.load 2 true (t1)),
 oP kk10 (.call 42 [(t9)])])
 (.cond (t10)
 (.seq (cR [ oC kk2 (.str 0 0)])
 .ret)
 .skip))
 (.seq (cR [ oP kk11 (.build [.nilslice, (.bool false)] []),
 oP kk12 (.box 136 2 32 (t11)),
 oM kk3 kk12])
 (.seq (cR [ oM kk13 kk3,
 oP kk14 (.load 2 true (t1)),
 oP kk15 (.call 43 [(t13), (t14)])])
 (.seq (cR [ oM kk17 kk3,
 oP kk18 (.call 44 [(t17)]),
 oM kk16 kk18,
 oP kk19 (.extr (t16) 0),
 oP kk20 (.extr (t16) 1),
 oM kk4 kk19,
 oM kk5 kk20])
 (.seq (.seq (cR [ oM kk21 kk5,
 oP kk22 (.un .not (t21))])
 (.cond (t22)
 (.seq (cR [ oC kk2 (.str 0 0)])
 .ret)
 .skip))
 (.seq (.seq (cR [ oM kk24 kk4,
 oP kk25 (.call 45 [(t24)]),
 oM kk23 kk25,
 oP kk26 (.extr (t23) 0),
 oP kk27 (.extr (t23) 1),
 oP kk28 (.extr (t23) 2),
 oP kk6 (.boxz 37 2 48 [.nilslice, .nilslice]),
 oN (.store 2 (t6) (t26)),
 oM kk7 kk27,
 oM kk8 kk28])
 (.seq (cR [ oM kk29 kk8,
 oP kk30 (.bin .neq (t29) (.c (nI (0)))),
 oM kk31 kk30,
 oX kk32 kk31 false (.load 2 true (t6)),
 oX kk33 kk31 false (.load 2 true (t1)),
 oX kk34 kk31 false (.call 46 [(t32), (t33)]),
 oX kk35 kk31 false (.un .not (t34)),
 oP kk36 (.pick (t31) (.c (.bool true)) (t35))])
 (.cond (t36)
 (.seq (cR [ oC kk2 (.str 0 0)])
 .ret)
 .skip)))
 (.seq (cR [ oM kk37 kk4,
 oP kk38 (.call 47 [(t37)]),
 oM kk2 kk38])
 .ret)))))))) }
theorem fn20 : fnOf Tryz.prog Tryz.f20 = some i20 := by kernel_rfl
noncomputable def i21 : IFn := { nt := 42, ps := [kk0, kk1, kk2], res := [.tmp kk6], body :=
 (.seq (.region false [⟨some kk6, none, none, .mov (.c .nilslice)⟩])
 (.seq (.region false [⟨some kk7, none, none, .mov (.c .nilslice)⟩])
 (.seq (.seq (.region false [⟨some kk12, none, none, .mov (.t kk0)⟩,
  ⟨some kk13, none, none, .len (.t kk12)⟩,
  ⟨some kk14, none, none, .mov (.c (.int .i64 (.ofNat 0)))⟩])
 (.block 0 (.loop (.seq (.region false [⟨some kk15, none, none, .bin .lss (.t kk14) (.t kk13)⟩])
   (.seq (.cond (.t kk15)
    .skip
    (.exit 0))
   (.seq (.block 1 (.seq (.region false [⟨some kk16, none, none, .idxSl 5 (.t kk12) (.t kk14)⟩,
     ⟨some kk17, none, none, .load 5 true (.t kk16)⟩,
     ⟨some kk9, none, none, .boxz 31 5 112 [(.str 0 0), .nilslice, .nilslice, .nilslice, .nilslice]⟩,
     ⟨none, none, none, .store 5 (.t kk9) (.t kk17)⟩])
    (.seq (.region false [⟨some kk19, none, none, .load 5 true (.t kk9)⟩,
     ⟨some kk20, none, none, .mov (.t kk1)⟩,
     ⟨some kk21, none, none, .call 48 [(.t kk19), (.t kk20)]⟩,
     ⟨some kk18, none, none, .mov (.t kk21)⟩,
     ⟨some kk22, none, none, .extr (.t kk18) 0⟩,
     ⟨some kk23, none, none, .extr (.t kk18) 1⟩,
     ⟨some kk10, none, none, .boxz 77 3 40 [(.int .i64 (.ofNat 0)), (.int .i64 (.ofNat 0)), .nilslice]⟩,
     ⟨none, none, none, .store 3 (.t kk10) (.t kk22)⟩,
     ⟨some kk11, none, none, .mov (.t kk23)⟩])
    (.seq (.seq (.region false [⟨some kk24, none, none, .mov (.t kk11)⟩,
     ⟨some kk25, none, none, .un .not (.t kk24)⟩])
    (.cond (.t kk25)
     (.exit 1)
     .skip))
    (.seq (.seq (.region false [⟨some kk26, none, none, .mov (.t kk2)⟩])
    (.cond (.t kk26)
     (.region true [⟨some kk27, none, none, .offs (.t kk10) 2⟩,
      ⟨some kk28, none, some [], .load 1 false (.t kk27)⟩,
      ⟨some kk29, none, some [0], .call 49 []⟩,
      ⟨some kk30, none, some [], .app 62 3 32 (.t kk28) (.t kk29)⟩,
      ⟨some kk31, none, none, .offs (.t kk10) 2⟩,
      ⟨none, none, some [], .store 1 (.t kk31) (.t kk30)⟩])
     .skip))
    (.region false [⟨some kk32, none, none, .mov (.t kk7)⟩,
     ⟨some kk33, none, none, .offs (.t kk9) 0⟩,
     ⟨some kk34, none, none, .load 1 false (.t kk33)⟩,
     ⟨some kk35, none, none, .offs (.t kk10) 2⟩,
     ⟨some kk36, none, none, .load 1 false (.t kk35)⟩,
     ⟨some kk37, none, none, .build [(.str 0 0), .nilslice] [(0, 1, (.t kk34)), (1, 1, (.t kk36))]⟩,
     ⟨some kk38, none, none, .buildSl 115 2 40 1 [(.str 0 0), .nilslice] [(0, (.t kk37))]⟩,
     ⟨some kk39, none, none, .app 115 2 40 (.t kk32) (.t kk38)⟩,
     ⟨some kk7, none, none, .mov (.t kk39)⟩]))))))
   (.region false [⟨some kk40, none, none, .bin .add (.t kk14) (.c (.int .i64 (.ofNat 1)))⟩,
    ⟨some kk14, none, none, .mov (.t kk40)⟩])))))))
 (.seq (.region false [⟨some kk41, none, none, .mov (.t kk7)⟩,
  ⟨some kk6, none, none, .mov (.t kk41)⟩])
 .ret)))) }
theorem fn21 : fnOf Tryz.prog Tryz.f21 = some i21 := by kernel_rfl
noncomputable def i22 : IFn := { nt := 6, ps := [kk0, kk1], res := [.tmp kk2], body :=
 (.seq (cR [ oC kk2 (nI 0)])
 (.seq (cR [ oP kk3 (.load 1 false (t0)),
 oP kk4 (.load 1 false (t1)),
 oP kk5 (.call 23 [(t3), (t4)]),
 oM kk2 kk5])
 .ret)) }
theorem fn22 : fnOf Tryz.prog Tryz.f22 = some i22 := by kernel_rfl
noncomputable def i23 : IFn := { nt := 55, ps := [kk0, kk1], res := [.tmp kk4], body :=
 (.seq (cR [ oC kk4 (nI 0)])
 (.seq (.seq (cR [ oM kk10 kk0,
 oP kk11 (.nilck (t10)),
 oP kk12 (.offs (t11) 0),
 oP kk13 (.offs (t12) 3),
 oP kk14 (.load 1 false (t13)),
 oP kk15 (.len (t14)),
 oC kk16 (nI 0)])
 (.block 0 (.loop (.seq (cR [ oP kk17 (.bin .lss (t16) (t15))])
 (.seq (.cond (t17)
 .skip
 (.exit 0))
 (.seq (.block 1 (.seq (cR [ oP kk18 (.idxSl 4 (t14) (t16)),
 oP kk19 (.load 4 true (t18)),
 oP kk6 (.boxz 148 4 48 [(.bool false), (.str 0 0), (.str 0 0), (nI (0))]),
 oN (.store 4 (t6) (t19))])
 (.seq (cR [ oM kk21 kk1,
 oP kk22 (.offs (t6) 1),
 oP kk23 (.load 1 false (t22)),
 oP kk24 (.call 34 [(t21), (t23)]),
 oM kk20 kk24,
 oP kk25 (.extr (t20) 0),
 oP kk26 (.extr (t20) 1),
 oP kk7 (.boxz 115 2 40 [(.str 0 0), .nilslice]),
 oN (.store 2 (t7) (t25)),
 oM kk8 kk26])
 (.seq (.seq (cR [ oM kk27 kk8,
 oP kk28 (.un .not (t27))])
 (.cond (t28)
 (.seq (cR [ oC kk4 (nI 8)])
 .ret)
 .skip))
 (.seq (cR [ oP kk29 (.offs (t6) 2),
 oP kk30 (.load 1 false (t29)),
 oP kk9 (.boxz 9 1 16 [(.str 0 0)]),
 oN (.store 1 (t9) (t30))])
 (.seq (.seq (cR [ oP kk31 (.load 1 false (t9)),
 oP kk32 (.bin .eql (t31) (.c (.str 0 0)))])
 (.cond (t32)
 (cR [ oP kk33 (.offs (t6) 1),
 oP kk34 (.load 1 false (t33)),
 oN (.store 1 (t9) (t34))])
 .skip))
 (.seq (.seq (cR [ oM kk35 kk0,
 oP kk36 (.nilck (t35)),
 oP kk37 (.offs (t36) 7),
 oP kk38 (.load 1 false (t37)),
 oP kk39 (.mkfn 51 [] [(t9)]),
 oP kk40 (.call 50 [(t38), (t39)])])
 (.cond (t40)
 (.seq (cR [ oC kk4 (nI 9)])
 .ret)
 .skip))
 (cD [ oM kk41 kk0,
 oM kk42 kk0,
 oP kk43 (.nilck (t42)),
 oP kk44 (.offs (t43) 7),
 oQ kk45 [] (.load 1 false (t44)),
 oQ kk46 [0] (.load 1 false (t9)),
 oP kk47 (.offs (t7) 1),
 oQ kk48 [0, 1] (.load 1 false (t47)),
 oP kk49 (.build [(.str 0 0), .nilslice] [(0, 1, (t46)), (1, 1, (t48))]),
 oQ kk50 [2] (.buildSl 150 2 40 1 [(.str 0 0), .nilslice] [(0, (t49))]),
 oQ kk51 [] (.app 150 2 40 (t45) (t50)),
 oP kk52 (.nilck (t41)),
 oP kk53 (.offs (t52) 7),
 ⟨none, none, some [], .store 1 (t53) (t51)⟩]))))))))
 (cR [ oP kk54 (.bin .add (t16) (.c (nI (1)))),
 oM kk16 kk54])))))))
 (.seq (cR [ oC kk4 (nI 0)])
 .ret))) }
theorem fn23 : fnOf Tryz.prog Tryz.f23 = some i23 := by kernel_rfl
noncomputable def i24 : IFn := { nt := 57, ps := [kk0], res := [.tmp kk2], body :=
 (.seq (cR [ oC kk2 (nI 0)])
 (.seq (cR [ oM kk7 kk0,
 oP kk8 (.call 52 [(t7)])])
 (.seq (cR [ oM kk9 kk0,
 oM kk10 kk0,
 oP kk11 (.nilck (t10)),
 oP kk12 (.offs (t11) 0),
 oP kk13 (.offs (t12) 1),
 oP kk14 (.load 1 false (t13)),
 oP kk15 (.len (t14)),
 oP kk16 (.mksl 3 1 8 [(nI (0))] (t15) (t15)),
 oP kk17 (.nilck (t9)),
 oP kk18 (.offs (t17) 9),
 oN (.store 1 (t18) (t16))])
 (.seq (.seq (cR [ oM kk19 kk0,
 oP kk20 (.nilck (t19)),
 oP kk21 (.offs (t20) 0),
 oP kk22 (.offs (t21) 1),
 oP kk23 (.load 1 false (t22)),
 oP kk24 (.len (t23)),
 oC kk25 (nI 0)])
 (.block 0 (.loop (.seq (cR [ oP kk26 (.bin .lss (t25) (t24))])
 (.seq (.cond (t26)
 .skip
 (.exit 0))
 (.seq (.block 1 (.seq (cR [ oM kk27 kk25,
 oP kk28 (.idxSl 8 (t23) (t25)),
 oP kk29 (.load 8 true (t28)),
 oP kk4 (.boxz 155 8 88 [(nI (0)), (nI (0)), (nI (0)), (.str 0 0), (.str 0 0), (nI (0)), (nI (0)), (.str 0 0)]),
 oM kk3 kk27,
 oN (.store 8 (t4) (t29))])
 (.seq (.seq (cR [ oP kk30 (.offs (t4) 0),
 oP kk31 (.load 1 false (t30)),
 oP kk32 (.bin .neq (t31) (.c (nI (2))))])
 (.cond (t32)
 (.exit 1)
 .skip))
 (.seq (cD [ oM kk34 kk0,
 oQ kk35 [] (.load 8 true (t4)),
 oM kk36 kk0,
 oP kk37 (.nilck (t36)),
 oP kk38 (.offs (t37) 8),
 oQ kk39 [0] (.load 1 false (t38)),
 oM kk40 kk3,
 oP kk41 (.idxSl 1 (t39) (t40)),
 oQ kk42 [1] (.load 1 false (t41)),
 oQ kk43 [] (.call 53 [(t34), (t35), (t42)]),
 oM kk33 kk43,
 oP kk44 (.extr (t33) 0),
 oP kk45 (.extr (t33) 1),
 oM kk5 kk44,
 oM kk6 kk45])
 (.seq (.seq (cR [ oM kk46 kk6,
 oP kk47 (.bin .neq (t46) (.c (nI (0))))])
 (.cond (t47)
 (.seq (cR [ oM kk48 kk6,
 oM kk2 kk48])
 .ret)
 .skip))
 (cR [ oM kk49 kk0,
 oP kk50 (.nilck (t49)),
 oP kk51 (.offs (t50) 9),
 oP kk52 (.load 1 false (t51)),
 oM kk53 kk3,
 oM kk54 kk5,
 oP kk55 (.idxSl 1 (t52) (t53)),
 oN (.store 1 (t55) (t54))]))))))
 (cR [ oP kk56 (.bin .add (t25) (.c (nI (1)))),
 oM kk25 kk56])))))))
 (.seq (cR [ oC kk2 (nI 0)])
 .ret))))) }
theorem fn24 : fnOf Tryz.prog Tryz.f24 = some i24 := by kernel_rfl
noncomputable def i25 : IFn := { nt := 35, ps := [kk0], res := [.tmp kk2], body :=
 (.seq (cR [ oC kk2 (nI 0)])
 (.seq (.seq (cR [ oM kk5 kk0,
 oP kk6 (.call 54 [(t5)]),
 oP kk7 (.un .not (t6))])
 (.cond (t7)
 (.seq (cR [ oC kk2 (nI 0)])
 .ret)
 .skip))
 (.seq (.seq (cR [ oM kk8 kk0,
 oP kk9 (.nilck (t8)),
 oP kk10 (.offs (t9) 0),
 oP kk11 (.offs (t10) 2),
 oP kk12 (.load 1 false (t11)),
 oP kk13 (.len (t12)),
 oC kk14 (nI 0)])
 (.block 0 (.loop (.seq (cR [ oP kk15 (.bin .lss (t14) (t13))])
 (.seq (.cond (t15)
 .skip
 (.exit 0))
 (.seq (.block 1 (.seq (cR [ oP kk16 (.idxSl 3 (t12) (t14)),
 oP kk17 (.load 3 true (t16)),
 oP kk4 (.boxz 159 3 32 [(nI (0)), (nI (0)), (.str 0 0)]),
 oN (.store 3 (t4) (t17))])
 (.seq (cR [ oP kk18 (.offs (t4) 0),
 oP kk19 (.load 1 false (t18)),
 oP kk20 (.bin .eql (t19) (.c (nI (0)))),
 oM kk21 kk20,
 oG kk22 kk21 true kk0,
 oX kk23 kk21 true (.load 3 true (t4)),
 oX kk24 kk21 true (.call 55 [(t22), (t23)]),
 oX kk25 kk21 true (.bin .lss (t24) (.c (nI (0)))),
 oP kk26 (.pick (t21) (t25) (.c (.bool false)))])
 (.cond (t26)
 (.seq (cR [ oC kk2 (nI 18)])
 .ret)
 .skip))))
 (cR [ oP kk27 (.bin .add (t14) (.c (nI (1)))),
 oM kk14 kk27])))))))
 (.seq (.seq (cR [ oM kk28 kk0,
 oP kk29 (.nilck (t28)),
 oP kk30 (.offs (t29) 0),
 oP kk31 (.offs (t30) 2),
 oP kk32 (.load 1 false (t31)),
 oP kk33 (.len (t32)),
 oP kk34 (.bin .eql (t33) (.c (nI (0))))])
 (.cond (t34)
 (.seq (cR [ oC kk2 (nI 18)])
 .ret)
 .skip))
 (.seq (cR [ oC kk2 (nI 0)])
 .ret))))) }
theorem fn25 : fnOf Tryz.prog Tryz.f25 = some i25 := by kernel_rfl
noncomputable def i26 : IFn := { nt := 162, ps := [kk0, kk1], res := [.tmp kk4], body :=
 (.seq (cR [ oC kk4 (nI 0)])
 (.seq (cR [ oM kk15 kk0,
 oP kk16 (.nilck (t15)),
 oP kk17 (.offs (t16) 0),
 oP kk18 (.offs (t17) 1),
 oP kk19 (.load 1 false (t18)),
 oP kk20 (.len (t19)),
 oM kk5 kk20])
 (.seq (.seq (cR [ oM kk21 kk1,
 oP kk22 (.nilck (t21)),
 oP kk23 (.offs (t22) 0),
 oP kk24 (.offs (t23) 1),
 oP kk25 (.load 1 false (t24)),
 oP kk26 (.len (t25)),
 oC kk27 (nI 0)])
 (.block 0 (.loop (.seq (cR [ oP kk28 (.bin .lss (t27) (t26))])
 (.seq (.cond (t28)
 .skip
 (.exit 0))
 (.seq (.block 1 (.seq (cR [ oM kk29 kk27,
 oP kk30 (.idxSl 8 (t25) (t27)),
 oP kk31 (.load 8 true (t30)),
 oP kk7 (.boxz 155 8 88 [(nI (0)), (nI (0)), (nI (0)), (.str 0 0), (.str 0 0), (nI (0)), (nI (0)), (.str 0 0)]),
 oM kk6 kk29,
 oN (.store 8 (t7) (t31))])
 (cD [ oM kk32 kk0,
 oM kk33 kk0,
 oP kk34 (.nilck (t33)),
 oP kk35 (.offs (t34) 0),
 oP kk36 (.offs (t35) 1),
 oQ kk37 [] (.load 1 false (t36)),
 oQ kk38 [0] (.load 8 true (t7)),
 oM kk39 kk1,
 oP kk40 (.nilck (t39)),
 oP kk41 (.offs (t40) 9),
 oQ kk42 [0, 1] (.load 1 false (t41)),
 oM kk43 kk6,
 oP kk44 (.idxSl 1 (t42) (t43)),
 oQ kk45 [1, 2] (.load 1 false (t44)),
 oM kk46 kk5,
 oQ kk47 [3] (.call 56 [(t38), (t45), (t46)]),
 oQ kk48 [4] (.buildSl 162 7 64 1 [(nI (0)), (nI (0)), (nI (0)), (nI (0)), (nI (0)), (nI (0)), (.str 0 0)] [(0, (t47))]),
 oQ kk49 [] (.app 162 7 64 (t37) (t48)),
 oP kk50 (.nilck (t32)),
 oP kk51 (.offs (t50) 0),
 oP kk52 (.offs (t51) 1),
 ⟨none, none, some [], .store 1 (t52) (t49)⟩])))
 (cR [ oP kk53 (.bin .add (t27) (.c (nI (1)))),
 oM kk27 kk53])))))))
 (.seq (cR [ oC kk8 (nI 0)])
 (.seq (.seq (cR [ oM kk54 kk1,
 oP kk55 (.nilck (t54)),
 oP kk56 (.offs (t55) 0),
 oP kk57 (.offs (t56) 3),
 oP kk58 (.load 1 false (t57)),
 oP kk59 (.len (t58)),
 oC kk60 (nI 0)])
 (.block 2 (.loop (.seq (cR [ oP kk61 (.bin .lss (t60) (t59))])
 (.seq (.cond (t61)
 .skip
 (.exit 2))
 (.seq (.block 3 (.seq (cR [ oM kk62 kk60,
 oP kk63 (.idxSl 4 (t58) (t60)),
 oP kk64 (.load 4 true (t63)),
 oP kk10 (.boxz 148 4 48 [(.bool false), (.str 0 0), (.str 0 0), (nI (0))]),
 oM kk9 kk62,
 oN (.store 4 (t10) (t64))])
 (.seq (cR [ oM kk65 kk0,
 oP kk66 (.offs (t10) 1),
 oP kk67 (.load 1 false (t66)),
 oP kk68 (.build [(nI (0)), (nI (0)), (nI (0)), (nI (0)), (.str 0 0), .nilslice, .nilslice] [(0, 1, (.c (nI (1)))), (4, 1, (t67))]),
 oP kk69 (.call 28 [(t65), (t68)]),
 oM kk11 kk69])
 (.block 4 (.seq (cR [ oM kk80 kk9,
 oP kk81 (.bin .eql (t80) (.c (nI (0)))),
 oM kk79 kk81])
 (.cond (t79)
 (cR [ oM kk82 kk11,
 oM kk8 kk82])
 (.seq (cR [ oP kk84 (.offs (t10) 0),
 oP kk85 (.load 1 false (t84)),
 oM kk83 kk85])
 (.cond (t83)
 (cR [ oM kk86 kk0,
 oM kk87 kk8,
 oM kk88 kk11,
 oP kk89 (.offs (t10) 3),
 oP kk90 (.load 1 false (t89)),
 oM kk91 kk5,
 oP kk92 (.bin .add (t90) (t91)),
 oP kk93 (.build [(nI (0)), (nI (0)), (nI (0)), (nI (0)), (.str 0 0), .nilslice, .nilslice] [(0, 1, (.c (nI (5)))), (1, 1, (t87)), (2, 1, (t88)), (3, 1, (t92))]),
 oP kk94 (.call 28 [(t86), (t93)]),
 oM kk8 kk94])
 (cR [ oM kk70 kk0,
 oM kk71 kk8,
 oM kk72 kk11,
 oP kk73 (.offs (t10) 3),
 oP kk74 (.load 1 false (t73)),
 oM kk75 kk5,
 oP kk76 (.bin .add (t74) (t75)),
 oP kk77 (.build [(nI (0)), (nI (0)), (nI (0)), (nI (0)), (.str 0 0), .nilslice, .nilslice] [(0, 1, (.c (nI (4)))), (1, 1, (t71)), (2, 1, (t72)), (3, 1, (t76))]),
 oP kk78 (.call 28 [(t70), (t77)]),
 oM kk8 kk78])))))))))
 (cR [ oP kk95 (.bin .add (t60) (.c (nI (1)))),
 oM kk60 kk95])))))))
 (.seq (.seq (cR [ oM kk96 kk1,
 oP kk97 (.nilck (t96)),
 oP kk98 (.offs (t97) 0),
 oP kk99 (.offs (t98) 4),
 oP kk100 (.load 1 false (t99)),
 oP kk101 (.bin .geq (t100) (.c (nI (0))))])
 (.cond (t101)
 (cR [ oM kk102 kk0,
 oM kk103 kk8,
 oM kk104 kk1,
 oP kk105 (.nilck (t104)),
 oP kk106 (.offs (t105) 0),
 oP kk107 (.offs (t106) 4),
 oP kk108 (.load 1 false (t107)),
 oM kk109 kk5,
 oP kk110 (.bin .add (t108) (t109)),
 oP kk111 (.build [(nI (0)), (nI (0)), (nI (0)), (nI (0)), (.str 0 0), .nilslice, .nilslice] [(0, 1, (.c (nI (2)))), (1, 1, (t103)), (3, 1, (t110))]),
 oP kk112 (.call 28 [(t102), (t111)]),
 oM kk8 kk112])
 .skip))
 (.seq (.seq (cR [ oM kk113 kk1,
 oP kk114 (.call 54 [(t113)])])
 (.cond (t114)
 (cR [ oM kk115 kk0,
 oM kk116 kk1,
 oM kk117 kk8,
 oM kk118 kk5,
 oP kk119 (.call 57 [(t115), (t116), (t117), (t118)]),
 oM kk8 kk119])
 (.seq (cR [ oM kk120 kk1,
 oP kk121 (.nilck (t120)),
 oP kk122 (.offs (t121) 0),
 oP kk123 (.offs (t122) 2),
 oP kk124 (.load 1 false (t123)),
 oP kk125 (.len (t124)),
 oP kk126 (.bin .gtr (t125) (.c (nI (0))))])
 (.cond (t126)
 (.seq (cR [ oM kk127 kk8,
 oP kk128 (.build [(nI (0)), (nI (0)), (nI (0)), (nI (0)), (.str 0 0), .nilslice, .nilslice] [(0, 1, (.c (nI (3)))), (1, 1, (t127))]),
 oP kk12 (.boxz 69 7 96 [(nI (0)), (nI (0)), (nI (0)), (nI (0)), (.str 0 0), .nilslice, .nilslice]),
 oN (.store 7 (t12) (t128))])
 (.seq (.seq (cR [ oM kk129 kk1,
 oP kk130 (.nilck (t129)),
 oP kk131 (.offs (t130) 0),
 oP kk132 (.offs (t131) 2),
 oP kk133 (.load 1 false (t132)),
 oP kk134 (.len (t133)),
 oC kk135 (nI 0)])
 (.block 5 (.loop (.seq (cR [ oP kk136 (.bin .lss (t135) (t134))])
 (.seq (.cond (t136)
 .skip
 (.exit 5))
 (.seq (.block 6 (.seq (cR [ oP kk137 (.idxSl 3 (t133) (t135)),
 oP kk138 (.load 3 true (t137)),
 oP kk14 (.boxz 159 3 32 [(nI (0)), (nI (0)), (.str 0 0)]),
 oN (.store 3 (t14) (t138))])
 (cR [ oP kk139 (.offs (t12) 5),
 oP kk140 (.load 1 false (t139)),
 oP kk141 (.offs (t14) 1),
 oP kk142 (.load 1 false (t141)),
 oM kk143 kk5,
 oP kk144 (.bin .add (t142) (t143)),
 oP kk145 (.buildSl 3 1 8 1 [(nI (0))] [(0, (t144))]),
 oP kk146 (.app 3 1 8 (t140) (t145)),
 oP kk147 (.offs (t12) 5),
 oN (.store 1 (t147) (t146))])))
 (cR [ oP kk148 (.bin .add (t135) (.c (nI (1)))),
 oM kk135 kk148])))))))
 (cR [ oM kk149 kk0,
 oP kk150 (.load 7 true (t12)),
 oP kk151 (.call 28 [(t149), (t150)]),
 oM kk8 kk151])))
 .skip))))
 (.seq (.seq (cR [ oM kk152 kk1,
 oP kk153 (.nilck (t152)),
 oP kk154 (.offs (t153) 0),
 oP kk155 (.offs (t154) 0),
 oP kk156 (.load 1 false (t155))])
 (.cond (t156)
 (cR [ oM kk157 kk0,
 oM kk158 kk8,
 oP kk159 (.build [(nI (0)), (nI (0)), (nI (0)), (nI (0)), (.str 0 0), .nilslice, .nilslice] [(0, 1, (.c (nI (9)))), (1, 1, (t158))]),
 oP kk160 (.call 28 [(t157), (t159)]),
 oM kk8 kk160])
 .skip))
 (.seq (cR [ oM kk161 kk8,
 oM kk4 kk161])
 .ret))))))))) }
theorem fn26 : fnOf Tryz.prog Tryz.f26 = some i26 := by kernel_rfl
noncomputable def i27 : IFn := { nt := 61, ps := [kk0], res := [.tmp kk2], body :=
 (.seq (cR [ oC kk2 .nilslice])
 (.seq (cR [ oC kk3 .nilslice])
 (.seq (.seq (cR [ oM kk10 kk0,
 oP kk11 (.nilck (t10)),
 oP kk12 (.offs (t11) 0),
 oP kk13 (.offs (t12) 2),
 oP kk14 (.load 1 false (t13)),
 oP kk15 (.len (t14)),
 oC kk16 (nI 0)])
 (.block 0 (.loop (.seq (cR [ oP kk17 (.bin .lss (t16) (t15))])
 (.seq (.cond (t17)
 .skip
 (.exit 0))
 (.seq (.block 1 (.seq (cR [ oP kk18 (.idxSl 3 (t14) (t16)),
 oP kk19 (.load 3 true (t18)),
 oP kk5 (.boxz 159 3 32 [(nI (0)), (nI (0)), (.str 0 0)]),
 oN (.store 3 (t5) (t19))])
 (cD [ oM kk20 kk3,
 oM kk21 kk0,
 oP kk22 (.nilck (t21)),
 oP kk23 (.offs (t22) 0),
 oQ kk24 [] (.load 7 true (t23)),
 oQ kk25 [0] (.load 3 true (t5)),
 oQ kk26 [] (.call 58 [(t24), (t25)]),
 oQ kk27 [] (.buildSl 9 1 16 1 [(.str 0 0)] [(0, (t26))]),
 oQ kk28 [] (.app 9 1 16 (t20) (t27)),
 oM kk3 kk28])))
 (cR [ oP kk29 (.bin .add (t16) (.c (nI (1)))),
 oM kk16 kk29])))))))
 (.seq (.seq (cR [ oM kk30 kk0,
 oP kk31 (.nilck (t30)),
 oP kk32 (.offs (t31) 0),
 oP kk33 (.offs (t32) 2),
 oP kk34 (.load 1 false (t33)),
 oP kk35 (.len (t34)),
 oP kk36 (.bin .eql (t35) (.c (nI (0))))])
 (.cond (t36)
 (.seq (cR [ oM kk37 kk0,
 oP kk38 (.nilck (t37)),
 oP kk39 (.offs (t38) 7),
 oP kk40 (.load 1 false (t39)),
 oP kk41 (.len (t40)),
 oC kk42 (nI 0)])
 (.block 2 (.loop (.seq (cR [ oP kk43 (.bin .lss (t42) (t41))])
 (.seq (.cond (t43)
 .skip
 (.exit 2))
 (.seq (.block 3 (.seq (cR [ oP kk44 (.idxSl 2 (t40) (t42)),
 oP kk45 (.load 2 true (t44)),
 oP kk7 (.boxz 150 2 40 [(.str 0 0), .nilslice]),
 oN (.store 2 (t7) (t45))])
 (.seq (cR [ oP kk46 (.offs (t7) 1),
 oP kk47 (.load 1 false (t46)),
 oP kk48 (.len (t47)),
 oC kk49 (nI 0)])
 (.block 4 (.loop (.seq (cR [ oP kk50 (.bin .lss (t49) (t48))])
 (.seq (.cond (t50)
 .skip
 (.exit 4))
 (.seq (.block 5 (.seq (cR [ oP kk51 (.idxSl 3 (t47) (t49)),
 oP kk52 (.load 3 true (t51)),
 oP kk9 (.boxz 62 3 32 [(nI (0)), (.str 0 0), (nI (0))]),
 oN (.store 3 (t9) (t52))])
 (cR [ oM kk53 kk3,
 oP kk54 (.offs (t9) 1),
 oP kk55 (.load 1 false (t54)),
 oP kk56 (.buildSl 9 1 16 1 [(.str 0 0)] [(0, (t55))]),
 oP kk57 (.app 9 1 16 (t53) (t56)),
 oM kk3 kk57])))
 (cR [ oP kk58 (.bin .add (t49) (.c (nI (1)))),
 oM kk49 kk58])))))))))
 (cR [ oP kk59 (.bin .add (t42) (.c (nI (1)))),
 oM kk42 kk59])))))))
 .skip))
 (.seq (cR [ oM kk60 kk3,
 oM kk2 kk60])
 .ret))))) }
theorem fn27 : fnOf Tryz.prog Tryz.f27 = some i27 := by kernel_rfl
noncomputable def i28 : IFn := { nt := 24, ps := [kk0, kk1], res := [.tmp kk4], body :=
 (.seq (cR [ oP kk3 (.box 69 7 96 (t1)),
 oC kk4 (nI 0)])
 (.seq (cD [ oM kk5 kk0,
 oM kk6 kk0,
 oP kk7 (.nilck (t6)),
 oP kk8 (.offs (t7) 0),
 oP kk9 (.offs (t8) 0),
 oQ kk10 [] (.load 1 false (t9)),
 oQ kk11 [0] (.load 7 true (t3)),
 oQ kk12 [1] (.buildSl 69 7 96 1 [(nI (0)), (nI (0)), (nI (0)), (nI (0)), (.str 0 0), .nilslice, .nilslice] [(0, (t11))]),
 oQ kk13 [] (.app 69 7 96 (t10) (t12)),
 oP kk14 (.nilck (t5)),
 oP kk15 (.offs (t14) 0),
 oP kk16 (.offs (t15) 0),
 ⟨none, none, some [], .store 1 (t16) (t13)⟩])
 (.seq (cR [ oM kk17 kk0,
 oP kk18 (.nilck (t17)),
 oP kk19 (.offs (t18) 0),
 oP kk20 (.offs (t19) 0),
 oP kk21 (.load 1 false (t20)),
 oP kk22 (.len (t21)),
 oP kk23 (.bin .sub (t22) (.c (nI (1)))),
 oM kk4 kk23])
 .ret))) }
theorem fn28 : fnOf Tryz.prog Tryz.f28 = some i28 := by kernel_rfl
noncomputable def i29 : IFn := { nt := 24, ps := [kk0, kk1], res := [.tmp kk4, .tmp kk5], body :=
 (.seq (cR [ oP kk2 (.box 43 2 48 (t0)),
 oC kk4 .nilslice,
 oC kk5 (nI 0)])
 (.seq (cR [ oP kk9 (.load 2 true (t2)),
 oM kk10 kk1,
 oP kk11 (.call 59 [(t9), (t10)]),
 oM kk8 kk11,
 oP kk12 (.extr (t8) 0),
 oP kk13 (.extr (t8) 1),
 oM kk6 kk12,
 oM kk7 kk13])
 (.seq (.seq (cR [ oM kk14 kk7,
 oP kk15 (.bin .neq (t14) (.c (nI (0))))])
 (.cond (t15)
 (.seq (cR [ oM kk16 kk7,
 oC kk4 .nilslice,
 oM kk5 kk16])
 .ret)
 .skip))
 (.seq (cR [ oM kk17 kk6,
 oM kk18 kk6,
 oP kk19 (.len (t18)),
 oP kk20 (.bin .sub (t19) (.c (nI (1)))),
 oP kk21 (.idxSl 1 (t17) (t20)),
 oP kk22 (.load 1 false (t21)),
 oP kk23 (.call 60 [(t22)]),
 oM kk4 kk23,
 oC kk5 (nI 0)])
 .ret)))) }
theorem fn29 : fnOf Tryz.prog Tryz.f29 = some i29 := by kernel_rfl
noncomputable def i30 : IFn := { nt := 42, ps := [kk0], res := [.tmp kk2], body :=
 (.seq (.region false [⟨some kk2, none, none, .mov (.c .nilslice)⟩])
 (.seq (.region false [⟨some kk3, none, none, .mov (.c .nilslice)⟩])
 (.seq (.seq (.region false [⟨some kk9, none, none, .mov (.t kk0)⟩,
  ⟨some kk10, none, none, .len (.t kk9)⟩,
  ⟨some kk11, none, none, .mov (.c (.int .i64 (.ofNat 0)))⟩])
 (.block 0 (.loop (.seq (.region false [⟨some kk12, none, none, .bin .lss (.t kk11) (.t kk10)⟩])
   (.seq (.cond (.t kk12)
    .skip
    (.exit 0))
   (.seq (.block 1 (.seq (.region false [⟨some kk13, none, none, .idxSl 2 (.t kk9) (.t kk11)⟩,
     ⟨some kk14, none, none, .load 2 true (.t kk13)⟩,
     ⟨some kk5, none, none, .boxz 115 2 40 [(.str 0 0), .nilslice]⟩,
     ⟨none, none, none, .store 2 (.t kk5) (.t kk14)⟩])
    (.seq (.region false [⟨some kk15, none, none, .offs (.t kk5) 1⟩,
     ⟨some kk16, none, none, .load 1 false (.t kk15)⟩,
     ⟨some kk17, none, none, .len (.t kk16)⟩,
     ⟨some kk18, none, none, .mksl 3 1 8 [(.int .i64 (.ofNat 0))] (.t kk17) (.t kk17)⟩,
     ⟨some kk6, none, none, .mov (.t kk18)⟩])
    (.seq (.seq (.region false [⟨some kk19, none, none, .offs (.t kk5) 1⟩,
     ⟨some kk20, none, none, .load 1 false (.t kk19)⟩,
     ⟨some kk21, none, none, .len (.t kk20)⟩,
     ⟨some kk22, none, none, .mov (.c (.int .i64 (.ofNat 0)))⟩])
    (.block 2 (.loop (.seq (.region false [⟨some kk23, none, none, .bin .lss (.t kk22) (.t kk21)⟩])
      (.seq (.cond (.t kk23)
       .skip
       (.exit 2))
      (.seq (.block 3 (.seq (.region false [⟨some kk24, none, none, .mov (.t kk22)⟩,
        ⟨some kk25, none, none, .idxSl 3 (.t kk20) (.t kk22)⟩,
        ⟨some kk26, none, none, .load 3 true (.t kk25)⟩,
        ⟨some kk8, none, none, .boxz 62 3 32 [(.int .i64 (.ofNat 0)), (.str 0 0), (.int .i64 (.ofNat 0))]⟩,
        ⟨some kk7, none, none, .mov (.t kk24)⟩,
        ⟨none, none, none, .store 3 (.t kk8) (.t kk26)⟩])
       (.region false [⟨some kk27, none, none, .mov (.t kk6)⟩,
        ⟨some kk28, none, none, .mov (.t kk7)⟩,
        ⟨some kk29, none, none, .offs (.t kk8) 2⟩,
        ⟨some kk30, none, none, .load 1 false (.t kk29)⟩,
        ⟨some kk31, none, none, .idxSl 1 (.t kk27) (.t kk28)⟩,
        ⟨none, none, none, .store 1 (.t kk31) (.t kk30)⟩])))
      (.region false [⟨some kk32, none, none, .bin .add (.t kk22) (.c (.int .i64 (.ofNat 1)))⟩,
       ⟨some kk22, none, none, .mov (.t kk32)⟩])))))))
    (.region false [⟨some kk33, none, none, .mov (.t kk3)⟩,
     ⟨some kk34, none, none, .offs (.t kk5) 0⟩,
     ⟨some kk35, none, none, .load 1 false (.t kk34)⟩,
     ⟨some kk36, none, none, .mov (.t kk6)⟩,
     ⟨some kk37, none, none, .build [(.str 0 0), .nilslice] [(0, 1, (.t kk35)), (1, 1, (.t kk36))]⟩,
     ⟨some kk38, none, none, .buildSl 74 2 40 1 [(.str 0 0), .nilslice] [(0, (.t kk37))]⟩,
     ⟨some kk39, none, none, .app 74 2 40 (.t kk33) (.t kk38)⟩,
     ⟨some kk3, none, none, .mov (.t kk39)⟩])))))
   (.region false [⟨some kk40, none, none, .bin .add (.t kk11) (.c (.int .i64 (.ofNat 1)))⟩,
    ⟨some kk11, none, none, .mov (.t kk40)⟩])))))))
 (.seq (.region false [⟨some kk41, none, none, .mov (.t kk3)⟩,
  ⟨some kk2, none, none, .mov (.t kk41)⟩])
 .ret)))) }
theorem fn30 : fnOf Tryz.prog Tryz.f30 = some i30 := by kernel_rfl
noncomputable def i31 : IFn := { nt := 33, ps := [kk0], res := [.cell kk2 21 true, .tmp kk3, .tmp kk4], body :=
 (.seq (cR [ oP kk2 (.boxz 57 21 328 [(nI (0)), (nI (0)), (nI (0)), (nI (0)), .nilslice, .nilslice, (.str 0 0), (.str 0 0), .nilslice, (nI (0)), (nI (0)), .nilslice, (nI (0)), .nilslice, .nilslice, .nilslice, .nilslice, .nilslice, (nI (0)), (nI (0)), (nI (0))]),
 oC kk3 (nI 0),
 oC kk4 (nI 0)])
 (.seq (cR [ oM kk7 kk0,
 oP kk8 (.build [.nilslice, (nI (0)), (nI (0)), (nI (0)), (nI (0)), (.bool false)] [(0, 1, (t7))]),
 oP kk9 (.box 131 6 64 (t8)),
 oM kk5 kk9])
 (.seq (cR [ oM kk10 kk5,
 oP kk11 (.call 61 [(t10)]),
 oP kk6 (.boxz 57 21 328 [(nI (0)), (nI (0)), (nI (0)), (nI (0)), .nilslice, .nilslice, (.str 0 0), (.str 0 0), .nilslice, (nI (0)), (nI (0)), .nilslice, (nI (0)), .nilslice, .nilslice, .nilslice, .nilslice, .nilslice, (nI (0)), (nI (0)), (nI (0))]),
 oN (.store 21 (t6) (t11))])
 (.seq (cR [ oM kk12 kk5,
 oP kk13 (.call 41 [(t12)])])
 (.seq (.seq (cR [ oM kk14 kk5,
 oP kk15 (.nilck (t14)),
 oP kk16 (.offs (t15) 2),
 oP kk17 (.load 1 false (t16)),
 oP kk18 (.bin .neq (t17) (.c (nI (0))))])
 (.cond (t18)
 (.seq (cD [ oP kk19 (.build [(nI (0)), (nI (0)), (nI (0)), (nI (0)), .nilslice, .nilslice, (.str 0 0), (.str 0 0), .nilslice, (nI (0)), (nI (0)), .nilslice, (nI (0)), .nilslice, .nilslice, .nilslice, .nilslice, .nilslice, (nI (0)), (nI (0)), (nI (0))] []),
 oM kk20 kk0,
 oM kk21 kk5,
 oP kk22 (.nilck (t21)),
 oP kk23 (.offs (t22) 3),
 oQ kk24 [] (.load 1 false (t23)),
 oP kk25 (.idxSl 3 (t20) (t24)),
 oP kk26 (.offs (t25) 1),
 oQ kk27 [] (.load 1 false (t26)),
 oM kk28 kk5,
 oP kk29 (.nilck (t28)),
 oP kk30 (.offs (t29) 2),
 oQ kk31 [0, 1] (.load 1 false (t30)),
 ⟨none, none, some [0, 1, 2], .store 21 (t2) (t19)⟩,
 oM kk3 kk27,
 oM kk4 kk31])
 .ret)
 .skip))
 (.seq (cR [ oP kk32 (.load 21 true (t6)),
 oN (.store 21 (t2) (t32)),
 oC kk3 (nI 0),
 oC kk4 (nI 0)])
 .ret)))))) }
theorem fn31 : fnOf Tryz.prog Tryz.f31 = some i31 := by kernel_rfl
noncomputable def i32 : IFn := { nt := 77, ps := [kk0], res := [.tmp kk2], body :=
 (.seq (cR [ oP kk1 (.box 57 21 328 (t0)),
 oC kk2 (.str 0 0)])
 (.seq (cR [ oP kk10 (.offs (t1) 11),
 oP kk11 (.load 1 false (t10)),
 oP kk12 (.len (t11)),
 oP kk13 (.offs (t1) 8),
 oP kk14 (.load 1 false (t13)),
 oP kk15 (.len (t14)),
 oP kk16 (.bin .add (t12) (t15)),
 oP kk17 (.offs (t1) 13),
 oP kk18 (.load 1 false (t17)),
 oP kk19 (.len (t18)),
 oP kk20 (.bin .add (t16) (t19)),
 oP kk21 (.offs (t1) 14),
 oP kk22 (.load 1 false (t21)),
 oP kk23 (.len (t22)),
 oP kk24 (.bin .add (t20) (t23)),
 oM kk3 kk24])
 (.seq (.seq (cR [ oP kk25 (.offs (t1) 4),
 oP kk26 (.load 2 true (t25)),
 oP kk27 (.call 42 [(t26)]),
 oM kk28 kk27,
 oG kk29 kk28 false kk3,
 oX kk30 kk28 false (.bin .gtr (t29) (.c (nI (1000)))),
 oP kk31 (.pick (t28) (.c (.bool true)) (t30))])
 (.cond (t31)
 (.seq (cR [ oC kk2 (.str 0 0)])
 .ret)
 .skip))
 (.seq (cR [ oP kk32 (.build [.nilslice, (.bool false)] []),
 oP kk33 (.box 136 2 32 (t32)),
 oM kk4 kk33])
 (.seq (.seq (cR [ oP kk34 (.offs (t1) 0),
 oP kk35 (.load 1 false (t34))])
 (.block 0 (.seq (cR [ oP kk40 (.bin .eql (t35) (.c (nI (2)))),
 oM kk39 kk40])
 (.cond (t39)
 (cR [ oM kk41 kk4,
 oP kk42 (.load 21 true (t1)),
 oP kk43 (.call 62 [(t41), (t42)])])
 (.seq (cR [ oP kk45 (.bin .eql (t35) (.c (nI (4)))),
 oM kk44 kk45])
 (.cond (t44)
 (cR [ oM kk46 kk4,
 oP kk47 (.load 21 true (t1)),
 oP kk48 (.call 63 [(t46), (t47)])])
 (.seq (cR [ oP kk50 (.bin .eql (t35) (.c (nI (5)))),
 oM kk49 kk50])
 (.cond (t49)
 (cR [ oM kk51 kk4,
 oP kk52 (.load 21 true (t1)),
 oP kk53 (.call 64 [(t51), (t52)])])
 (cR [ oM kk36 kk4,
 oP kk37 (.load 21 true (t1)),
 oP kk38 (.call 65 [(t36), (t37)])])))))))))
 (.seq (cR [ oM kk55 kk4,
 oP kk56 (.call 44 [(t55)]),
 oM kk54 kk56,
 oP kk57 (.extr (t54) 0),
 oP kk58 (.extr (t54) 1),
 oM kk5 kk57,
 oM kk6 kk58])
 (.seq (.seq (cR [ oM kk59 kk6,
 oP kk60 (.un .not (t59))])
 (.cond (t60)
 (.seq (cR [ oC kk2 (.str 0 0)])
 .ret)
 .skip))
 (.seq (.seq (cR [ oM kk62 kk5,
 oP kk63 (.call 66 [(t62)]),
 oM kk61 kk63,
 oP kk64 (.extr (t61) 0),
 oP kk65 (.extr (t61) 1),
 oP kk66 (.extr (t61) 2),
 oP kk7 (.boxz 57 21 328 [(nI (0)), (nI (0)), (nI (0)), (nI (0)), .nilslice, .nilslice, (.str 0 0), (.str 0 0), .nilslice, (nI (0)), (nI (0)), .nilslice, (nI (0)), .nilslice, .nilslice, .nilslice, .nilslice, .nilslice, (nI (0)), (nI (0)), (nI (0))]),
 oN (.store 21 (t7) (t64)),
 oM kk8 kk65,
 oM kk9 kk66])
 (.seq (cR [ oM kk67 kk9,
 oP kk68 (.bin .neq (t67) (.c (nI (0)))),
 oM kk69 kk68,
 oX kk70 kk69 false (.load 21 true (t7)),
 oX kk71 kk69 false (.load 21 true (t1)),
 oX kk72 kk69 false (.call 67 [(t70), (t71)]),
 oX kk73 kk69 false (.un .not (t72)),
 oP kk74 (.pick (t69) (.c (.bool true)) (t73))])
 (.cond (t74)
 (.seq (cR [ oC kk2 (.str 0 0)])
 .ret)
 .skip)))
 (.seq (cR [ oM kk75 kk5,
 oP kk76 (.call 47 [(t75)]),
 oM kk2 kk76])
 .ret))))))))) }
theorem fn32 : fnOf Tryz.prog Tryz.f32 = some i32 := by kernel_rfl
noncomputable def i33 : IFn := { nt := 161, ps := [kk0, kk1], res := [.cell kk4 16 true, .tmp kk5], body :=
 (.seq (cR [ oP kk2 (.box 57 21 328 (t0)),
 oP kk4 (.boxz 64 16 264 [(nI (0)), (.str 0 0), .nilslice, (nI (0)), (nI (0)), .nilslice, (nI (0)), .nilslice, (.str 0 0), .nilslice, .nilslice, .nilslice, .nilslice, (nI (0)), (.str 0 0), (nI (0))]),
 oC kk5 (nI 0)])
 (.seq (cR [ oP kk24 (.offs (t2) 6),
 oP kk25 (.load 1 false (t24)),
 oP kk26 (.build [(.str 0 0), .nilslice, .nilslice, .nilslice, .nilslice] [(0, 1, (t25))]),
 oP kk6 (.boxz 31 5 112 [(.str 0 0), .nilslice, .nilslice, .nilslice, .nilslice]),
 oN (.store 5 (t6) (t26))])
 (.seq (cR [ oP kk27 (.build [(nI (0)), (nI (0))] [(0, 1, (.c (nI (0)))), (1, 1, (.c (nI (1099511627776))))]),
 oP kk28 (.build [(nI (0)), (nI (0)), .nilslice] [(0, 2, (t27))]),
 oP kk7 (.boxz 77 3 40 [(nI (0)), (nI (0)), .nilslice]),
 oN (.store 3 (t7) (t28))])
 (.seq (.seq (cR [ oP kk29 (.offs (t2) 14),
 oP kk30 (.load 1 false (t29)),
 oP kk31 (.len (t30)),
 oC kk32 (nI 0)])
 (.block 0 (.loop (.seq (cR [ oP kk33 (.bin .lss (t32) (t31))])
 (.seq (.cond (t33)
 .skip
 (.exit 0))
 (.seq (.block 1 (.seq (cR [ oM kk34 kk32,
 oP kk35 (.idxSl 3 (t30) (t32)),
 oP kk36 (.load 3 true (t35)),
 oP kk9 (.boxz 62 3 32 [(nI (0)), (.str 0 0), (nI (0))]),
 oM kk8 kk34,
 oN (.store 3 (t9) (t36))])
 (cR [ oP kk37 (.offs (t7) 2),
 oP kk38 (.load 1 false (t37)),
 oM kk39 kk8,
 oP kk40 (.bin .add (t39) (.c (nI (1)))),
 oP kk41 (.offs (t9) 1),
 oP kk42 (.load 1 false (t41)),
 oP kk43 (.offs (t9) 2),
 oP kk44 (.load 1 false (t43)),
 oP kk45 (.build [(nI (0)), (.str 0 0), (nI (0))] [(0, 1, (t40)), (1, 1, (t42)), (2, 1, (t44))]),
 oP kk46 (.buildSl 62 3 32 1 [(nI (0)), (.str 0 0), (nI (0))] [(0, (t45))]),
 oP kk47 (.app 62 3 32 (t38) (t46)),
 oP kk48 (.offs (t7) 2),
 oN (.store 1 (t48) (t47))])))
 (cR [ oP kk49 (.bin .add (t32) (.c (nI (1)))),
 oM kk32 kk49])))))))
 (.seq (cR [ oP kk50 (.load 3 true (t7)),
 oP kk51 (.buildSl 77 3 40 1 [(nI (0)), (nI (0)), .nilslice] [(0, (t50))]),
 oP kk52 (.offs (t6) 1),
 oN (.store 1 (t52) (t51))])
 (.seq (cR [ oP kk54 (.offs (t7) 2),
 oP kk55 (.load 1 false (t54)),
 oP kk56 (.offs (t2) 15),
 oP kk57 (.load 1 false (t56)),
 oP kk58 (.call 68 [(t55), (t57)]),
 oM kk53 kk58,
 oP kk59 (.extr (t53) 0),
 oP kk60 (.extr (t53) 1),
 oM kk10 kk59,
 oM kk11 kk60])
 (.seq (.seq (cR [ oM kk61 kk11,
 oP kk62 (.bin .neq (t61) (.c (nI (0))))])
 (.cond (t62)
 (.seq (cR [ oP kk63 (.build [(nI (0)), (.str 0 0), .nilslice, (nI (0)), (nI (0)), .nilslice, (nI (0)), .nilslice, (.str 0 0), .nilslice, .nilslice, .nilslice, .nilslice, (nI (0)), (.str 0 0), (nI (0))] []),
 oM kk64 kk11,
 oN (.store 16 (t4) (t63)),
 oM kk5 kk64])
 .ret)
 .skip))
 (.seq (cR [ oM kk65 kk10,
 oP kk66 (.offs (t6) 2),
 oN (.store 1 (t66) (t65))])
 (.seq (.seq (cR [ oP kk67 (.offs (t2) 16),
 oP kk68 (.load 1 false (t67)),
 oP kk69 (.len (t68)),
 oC kk70 (nI 0)])
 (.block 2 (.loop (.seq (cR [ oP kk71 (.bin .lss (t70) (t69))])
 (.seq (.cond (t71)
 .skip
 (.exit 2))
 (.seq (.block 3 (.seq (cR [ oP kk72 (.idxSl 3 (t68) (t70)),
 oP kk73 (.load 3 true (t72)),
 oP kk13 (.boxz 177 3 64 [.nilslice, (.str 0 0), .nilslice]),
 oN (.store 3 (t13) (t73))])
 (.seq (cR [ oP kk75 (.offs (t7) 2),
 oP kk76 (.load 1 false (t75)),
 oP kk77 (.offs (t13) 0),
 oP kk78 (.load 1 false (t77)),
 oP kk79 (.call 68 [(t76), (t78)]),
 oM kk74 kk79,
 oP kk80 (.extr (t74) 0),
 oP kk81 (.extr (t74) 1),
 oM kk14 kk80,
 oM kk15 kk81])
 (.seq (.seq (cR [ oM kk82 kk15,
 oP kk83 (.bin .neq (t82) (.c (nI (0))))])
 (.cond (t83)
 (.seq (cR [ oP kk84 (.build [(nI (0)), (.str 0 0), .nilslice, (nI (0)), (nI (0)), .nilslice, (nI (0)), .nilslice, (.str 0 0), .nilslice, .nilslice, .nilslice, .nilslice, (nI (0)), (.str 0 0), (nI (0))] []),
 oM kk85 kk15,
 oN (.store 16 (t4) (t84)),
 oM kk5 kk85])
 .ret)
 .skip))
 (.seq (cR [ oP kk86 (.offs (t2) 6),
 oP kk87 (.load 1 false (t86)),
 oP kk88 (.offs (t7) 2),
 oP kk89 (.load 1 false (t88)),
 oP kk90 (.build [(.str 0 0), .nilslice] [(0, 1, (t87)), (1, 1, (t89))]),
 oP kk16 (.boxz 115 2 40 [(.str 0 0), .nilslice]),
 oN (.store 2 (t16) (t90))])
 (.seq (.seq (cR [ oP kk91 (.offs (t13) 1),
 oP kk92 (.load 1 false (t91)),
 oP kk93 (.offs (t2) 6),
 oP kk94 (.load 1 false (t93)),
 oP kk95 (.bin .neq (t92) (t94))])
 (.cond (t95)
 (.seq (cR [ oM kk97 kk1,
 oP kk98 (.offs (t13) 1),
 oP kk99 (.load 1 false (t98)),
 oP kk100 (.call 34 [(t97), (t99)]),
 oM kk96 kk100,
 oP kk101 (.extr (t96) 0),
 oP kk102 (.extr (t96) 1),
 oP kk17 (.boxz 115 2 40 [(.str 0 0), .nilslice]),
 oN (.store 2 (t17) (t101)),
 oM kk18 kk102])
 (.seq (.seq (cR [ oM kk103 kk18,
 oP kk104 (.un .not (t103))])
 (.cond (t104)
 (.seq (cR [ oP kk105 (.build [(nI (0)), (.str 0 0), .nilslice, (nI (0)), (nI (0)), .nilslice, (nI (0)), .nilslice, (.str 0 0), .nilslice, .nilslice, .nilslice, .nilslice, (nI (0)), (.str 0 0), (nI (0))] []),
 oN (.store 16 (t4) (t105)),
 oC kk5 (nI 8)])
 .ret)
 .skip))
 (cR [ oP kk106 (.load 2 true (t17)),
 oN (.store 2 (t16) (t106))])))
 .skip))
 (.seq (cR [ oP kk108 (.offs (t16) 1),
 oP kk109 (.load 1 false (t108)),
 oP kk110 (.offs (t13) 2),
 oP kk111 (.load 1 false (t110)),
 oP kk112 (.call 68 [(t109), (t111)]),
 oM kk107 kk112,
 oP kk113 (.extr (t107) 0),
 oP kk114 (.extr (t107) 1),
 oM kk19 kk113,
 oM kk15 kk114])
 (.seq (.seq (cR [ oM kk115 kk15,
 oP kk116 (.bin .neq (t115) (.c (nI (0))))])
 (.cond (t116)
 (.seq (cR [ oP kk117 (.build [(nI (0)), (.str 0 0), .nilslice, (nI (0)), (nI (0)), .nilslice, (nI (0)), .nilslice, (.str 0 0), .nilslice, .nilslice, .nilslice, .nilslice, (nI (0)), (.str 0 0), (nI (0))] []),
 oM kk118 kk15,
 oN (.store 16 (t4) (t117)),
 oM kk5 kk118])
 .ret)
 .skip))
 (cR [ oP kk119 (.offs (t6) 3),
 oP kk120 (.load 1 false (t119)),
 oM kk121 kk14,
 oP kk122 (.offs (t13) 1),
 oP kk123 (.load 1 false (t122)),
 oM kk124 kk19,
 oP kk125 (.build [.nilslice, (.str 0 0), .nilslice] [(0, 1, (t121)), (1, 1, (t123)), (2, 1, (t124))]),
 oP kk126 (.buildSl 81 3 64 1 [.nilslice, (.str 0 0), .nilslice] [(0, (t125))]),
 oP kk127 (.app 81 3 64 (t120) (t126)),
 oP kk128 (.offs (t6) 3),
 oN (.store 1 (t128) (t127))])))))))))
 (cR [ oP kk129 (.bin .add (t70) (.c (nI (1)))),
 oM kk70 kk129])))))))
 (.seq (.seq (cR [ oP kk130 (.offs (t2) 17),
 oP kk131 (.load 1 false (t130)),
 oP kk132 (.len (t131)),
 oC kk133 (nI 0)])
 (.block 4 (.loop (.seq (cR [ oP kk134 (.bin .lss (t133) (t132))])
 (.seq (.cond (t134)
 .skip
 (.exit 4))
 (.seq (.block 5 (.seq (cR [ oP kk135 (.idxSl 2 (t131) (t133)),
 oP kk136 (.load 2 true (t135)),
 oP kk21 (.boxz 179 2 32 [(nI (0)), .nilslice]),
 oN (.store 2 (t21) (t136))])
 (.seq (cR [ oP kk138 (.offs (t7) 2),
 oP kk139 (.load 1 false (t138)),
 oP kk140 (.offs (t21) 1),
 oP kk141 (.load 1 false (t140)),
 oP kk142 (.call 68 [(t139), (t141)]),
 oM kk137 kk142,
 oP kk143 (.extr (t137) 0),
 oP kk144 (.extr (t137) 1),
 oM kk22 kk143,
 oM kk23 kk144])
 (.seq (.seq (cR [ oM kk145 kk23,
 oP kk146 (.bin .neq (t145) (.c (nI (0))))])
 (.cond (t146)
 (.seq (cR [ oP kk147 (.build [(nI (0)), (.str 0 0), .nilslice, (nI (0)), (nI (0)), .nilslice, (nI (0)), .nilslice, (.str 0 0), .nilslice, .nilslice, .nilslice, .nilslice, (nI (0)), (.str 0 0), (nI (0))] []),
 oM kk148 kk23,
 oN (.store 16 (t4) (t147)),
 oM kk5 kk148])
 .ret)
 .skip))
 (cR [ oP kk149 (.offs (t6) 4),
 oP kk150 (.load 1 false (t149)),
 oP kk151 (.offs (t21) 0),
 oP kk152 (.load 1 false (t151)),
 oM kk153 kk22,
 oP kk154 (.build [(nI (0)), .nilslice] [(0, 1, (t152)), (1, 1, (t153))]),
 oP kk155 (.buildSl 83 2 32 1 [(nI (0)), .nilslice] [(0, (t154))]),
 oP kk156 (.app 83 2 32 (t150) (t155)),
 oP kk157 (.offs (t6) 4),
 oN (.store 1 (t157) (t156))])))))
 (cR [ oP kk158 (.bin .add (t133) (.c (nI (1)))),
 oM kk133 kk158])))))))
 (.seq (cR [ oP kk159 (.load 5 true (t6)),
 oP kk160 (.build [(nI (0)), (.str 0 0), .nilslice, (nI (0)), (nI (0)), .nilslice, (nI (0)), .nilslice, (.str 0 0), .nilslice, .nilslice, .nilslice, .nilslice, (nI (0)), (.str 0 0), (nI (0))] [(0, 1, (.c (nI (4)))), (8, 5, (t159))]),
 oN (.store 16 (t4) (t160)),
 oC kk5 (nI 0)])
 .ret))))))))))) }
theorem fn33 : fnOf Tryz.prog Tryz.f33 = some i33 := by kernel_rfl
noncomputable def i34 : IFn := { nt := 17, ps := [kk0, kk1], res := [.cell kk4 2 true, .tmp kk5], body :=
 (.seq (cR [ oP kk3 (.box 9 1 16 (t1)),
 oP kk4 (.boxz 115 2 40 [(.str 0 0), .nilslice]),
 oC kk5 (.bool false)])
 (.seq (cR [ oM kk7 kk0,
 oP kk8 (.mkfn 70 [] [(t3)]),
 oP kk9 (.call 69 [(t7), (t8)]),
 oM kk6 kk9])
 (.seq (.seq (cR [ oM kk10 kk6,
 oP kk11 (.bin .lss (t10) (.c (nI (0))))])
 (.cond (t11)
 (.seq (cR [ oP kk12 (.build [(.str 0 0), .nilslice] []),
 oN (.store 2 (t4) (t12)),
 oC kk5 (.bool false)])
 .ret)
 .skip))
 (.seq (cR [ oM kk13 kk0,
 oM kk14 kk6,
 oP kk15 (.idxSl 2 (t13) (t14)),
 oP kk16 (.load 2 true (t15)),
 oN (.store 2 (t4) (t16)),
 oC kk5 (.bool true)])
 .ret)))) }
theorem fn34 : fnOf Tryz.prog Tryz.f34 = some i34 := by kernel_rfl
noncomputable def i35 : IFn := { nt := 69, ps := [kk0, kk1], res := [.cell kk4 16 true, .tmp kk5], body :=
 (.seq (cR [ oP kk2 (.box 57 21 328 (t0)),
 oP kk4 (.boxz 64 16 264 [(nI (0)), (.str 0 0), .nilslice, (nI (0)), (nI (0)), .nilslice, (nI (0)), .nilslice, (.str 0 0), .nilslice, .nilslice, .nilslice, .nilslice, (nI (0)), (.str 0 0), (nI (0))]),
 oC kk5 (nI 0)])
 (.seq (.seq (cR [ oP kk9 (.offs (t2) 0),
 oP kk10 (.load 1 false (t9))])
 (.block 0 (.seq (cR [ oP kk12 (.bin .eql (t10) (.c (nI (2)))),
 oM kk11 kk12])
 (.cond (t11)
 (.seq (cD [ oP kk13 (.offs (t2) 6),
 oQ kk14 [] (.load 1 false (t13)),
 oP kk15 (.offs (t2) 8),
 oQ kk16 [0] (.load 1 false (t15)),
 oQ kk17 [1] (.call 71 [(t16)]),
 oP kk18 (.offs (t2) 9),
 oQ kk19 [0, 1, 2] (.load 2 true (t18)),
 oP kk20 (.build [(nI (0)), (.str 0 0), .nilslice, (nI (0)), (nI (0)), .nilslice, (nI (0)), .nilslice, (.str 0 0), .nilslice, .nilslice, .nilslice, .nilslice, (nI (0)), (.str 0 0), (nI (0))] [(0, 1, (.c (nI (1)))), (1, 1, (t14)), (2, 1, (t17)), (3, 2, (t19))]),
 ⟨none, none, some [], .store 16 (t4) (t20)⟩,
 oC kk5 (nI 0)])
 .ret)
 (.seq (cR [ oP kk22 (.bin .eql (t10) (.c (nI (3)))),
 oM kk21 kk22])
 (.cond (t21)
 (.seq (cR [ oP kk24 (.load 21 true (t2)),
 oM kk25 kk1,
 oP kk26 (.call 72 [(t24), (t25)]),
 oM kk23 kk26,
 oP kk27 (.extr (t23) 0),
 oP kk28 (.extr (t23) 1),
 oM kk6 kk27,
 oM kk7 kk28])
 (.seq (.seq (cR [ oM kk29 kk7,
 oP kk30 (.bin .neq (t29) (.c (nI (0))))])
 (.cond (t30)
 (.seq (cR [ oP kk31 (.build [(nI (0)), (.str 0 0), .nilslice, (nI (0)), (nI (0)), .nilslice, (nI (0)), .nilslice, (.str 0 0), .nilslice, .nilslice, .nilslice, .nilslice, (nI (0)), (.str 0 0), (nI (0))] []),
 oM kk32 kk7,
 oN (.store 16 (t4) (t31)),
 oM kk5 kk32])
 .ret)
 .skip))
 (.seq (cR [ oP kk33 (.offs (t2) 6),
 oP kk34 (.load 1 false (t33)),
 oP kk35 (.offs (t2) 9),
 oP kk36 (.load 2 true (t35)),
 oM kk37 kk6,
 oP kk38 (.offs (t2) 12),
 oP kk39 (.load 1 false (t38)),
 oP kk40 (.build [(nI (0)), (.str 0 0), .nilslice, (nI (0)), (nI (0)), .nilslice, (nI (0)), .nilslice, (.str 0 0), .nilslice, .nilslice, .nilslice, .nilslice, (nI (0)), (.str 0 0), (nI (0))] [(0, 1, (.c (nI (2)))), (1, 1, (t34)), (3, 2, (t36)), (5, 1, (t37)), (6, 1, (t39))]),
 oN (.store 16 (t4) (t40)),
 oC kk5 (nI 0)])
 .ret)))
 (.seq (cR [ oP kk42 (.bin .eql (t10) (.c (nI (4)))),
 oM kk41 kk42])
 (.cond (t41)
 (.seq (cR [ oP kk43 (.load 21 true (t2)),
 oM kk44 kk1,
 oP kk45 (.call 73 [(t43), (t44)]),
 oP kk46 (.extr (t45) 0),
 oP kk47 (.extr (t45) 1),
 oN (.store 16 (t4) (t46)),
 oM kk5 kk47])
 .ret)
 (.seq (cR [ oP kk49 (.bin .eql (t10) (.c (nI (6)))),
 oM kk48 kk49])
 (.cond (t48)
 (.seq (cD [ oP kk50 (.offs (t2) 6),
 oQ kk51 [] (.load 1 false (t50)),
 oP kk52 (.offs (t2) 14),
 oQ kk53 [0] (.load 1 false (t52)),
 oP kk54 (.idxSl 3 (t53) (.c (nI (0)))),
 oQ kk55 [1] (.load 3 true (t54)),
 oP kk56 (.build [(nI (0)), (.str 0 0), .nilslice, (nI (0)), (nI (0)), .nilslice, (nI (0)), .nilslice, (.str 0 0), .nilslice, .nilslice, .nilslice, .nilslice, (nI (0)), (.str 0 0), (nI (0))] [(0, 1, (.c (nI (5)))), (1, 1, (t51)), (13, 3, (t55))]),
 ⟨none, none, some [], .store 16 (t4) (t56)⟩,
 oC kk5 (nI 0)])
 .ret)
 .skip))))))))))
 (.seq (cR [ oM kk57 kk1,
 oP kk58 (.offs (t2) 7),
 oP kk59 (.load 1 false (t58)),
 oP kk60 (.call 74 [(t57), (t59)]),
 oM kk8 kk60])
 (.seq (.seq (cR [ oM kk61 kk8,
 oP kk62 (.bin .eql (t61) (.c (nI (0))))])
 (.cond (t62)
 (.seq (cR [ oP kk63 (.build [(nI (0)), (.str 0 0), .nilslice, (nI (0)), (nI (0)), .nilslice, (nI (0)), .nilslice, (.str 0 0), .nilslice, .nilslice, .nilslice, .nilslice, (nI (0)), (.str 0 0), (nI (0))] []),
 oN (.store 16 (t4) (t63)),
 oC kk5 (nI 8)])
 .ret)
 .skip))
 (.seq (cR [ oP kk64 (.offs (t2) 6),
 oP kk65 (.load 1 false (t64)),
 oM kk66 kk8,
 oP kk67 (.build [(nI (0)), (.str 0 0), (nI (0))] [(0, 1, (t66))]),
 oP kk68 (.build [(nI (0)), (.str 0 0), .nilslice, (nI (0)), (nI (0)), .nilslice, (nI (0)), .nilslice, (.str 0 0), .nilslice, .nilslice, .nilslice, .nilslice, (nI (0)), (.str 0 0), (nI (0))] [(0, 1, (.c (nI (6)))), (1, 1, (t65)), (13, 3, (t67))]),
 oN (.store 16 (t4) (t68)),
 oC kk5 (nI 0)])
 .ret))))) }
theorem fn35 : fnOf Tryz.prog Tryz.f35 = some i35 := by kernel_rfl
noncomputable def i36 : IFn := { nt := 27, ps := [kk0, kk1, kk2], res := [.tmp kk6, .tmp kk7], body :=
 (.seq (.region false [⟨some kk3, none, none, .box 31 5 112 (.t kk0)⟩,
  ⟨some kk6, none, none, .mov (.c .nilslice)⟩,
  ⟨some kk7, none, none, .mov (.c (.bool false))⟩])
 (.seq (.region false [⟨some kk12, none, none, .load 5 true (.t kk3)⟩,
  ⟨some kk13, none, none, .mov (.t kk1)⟩,
  ⟨some kk14, none, none, .call 75 [(.t kk12), (.t kk13)]⟩,
  ⟨some kk11, none, none, .mov (.t kk14)⟩,
  ⟨some kk15, none, none, .extr (.t kk11) 0⟩,
  ⟨some kk16, none, none, .extr (.t kk11) 1⟩,
  ⟨some kk8, none, none, .boxz 77 3 40 [(.int .i64 (.ofNat 0)), (.int .i64 (.ofNat 0)), .nilslice]⟩,
  ⟨none, none, none, .store 3 (.t kk8) (.t kk15)⟩,
  ⟨some kk9, none, none, .mov (.t kk16)⟩])
 (.seq (.seq (.region false [⟨some kk17, none, none, .mov (.t kk9)⟩,
  ⟨some kk18, none, none, .un .not (.t kk17)⟩])
 (.cond (.t kk18)
  (.seq (.region false [⟨some kk6, none, none, .mov (.c .nilslice)⟩,
   ⟨some kk7, none, none, .mov (.c (.bool false))⟩])
  .ret)
  .skip))
 (.seq (.region false [⟨some kk19, none, none, .offs (.t kk8) 2⟩,
  ⟨some kk20, none, none, .load 1 false (.t kk19)⟩,
  ⟨some kk21, none, none, .app 62 3 32 (.c .nilslice) (.t kk20)⟩,
  ⟨some kk10, none, none, .mov (.t kk21)⟩])
 (.seq (.seq (.region false [⟨some kk22, none, none, .mov (.t kk2)⟩])
 (.cond (.t kk22)
  (.region false [⟨some kk23, none, none, .mov (.t kk10)⟩,
   ⟨some kk24, none, none, .call 76 []⟩,
   ⟨some kk25, none, none, .app 62 3 32 (.t kk23) (.t kk24)⟩,
   ⟨some kk10, none, none, .mov (.t kk25)⟩])
  .skip))
 (.seq (.region false [⟨some kk26, none, none, .mov (.t kk10)⟩,
  ⟨some kk6, none, none, .mov (.t kk26)⟩,
  ⟨some kk7, none, none, .mov (.c (.bool true))⟩])
 .ret)))))) }
theorem fn36 : fnOf Tryz.prog Tryz.f36 = some i36 := by kernel_rfl
noncomputable def i37 : IFn := { nt := 17, ps := [kk0], res := [.tmp kk2], body :=
 (.seq (cR [ oC kk2 (.bool false)])
 (.seq (cR [ oM kk3 kk0,
 oP kk4 (.bin .eql (t3) (.c (.int .u8 (.ofNat 32)))),
 oM kk5 kk4,
 oG kk6 kk5 false kk0,
 oX kk7 kk5 false (.bin .eql (t6) (.c (.int .u8 (.ofNat 9)))),
 oP kk8 (.pick (t5) (.c (.bool true)) (t7)),
 oM kk9 kk8,
 oG kk10 kk9 false kk0,
 oX kk11 kk9 false (.bin .eql (t10) (.c (.int .u8 (.ofNat 10)))),
 oP kk12 (.pick (t9) (.c (.bool true)) (t11)),
 oM kk13 kk12,
 oG kk14 kk13 false kk0,
 oX kk15 kk13 false (.bin .eql (t14) (.c (.int .u8 (.ofNat 13)))),
 oP kk16 (.pick (t13) (.c (.bool true)) (t15)),
 oM kk2 kk16])
 .ret)) }
theorem fn37 : fnOf Tryz.prog Tryz.f37 = some i37 := by kernel_rfl
noncomputable def i38 : IFn := { nt := 132, ps := [kk0, kk1], res := [.tmp kk4, .tmp kk5, .tmp kk6, .tmp kk7], body :=
 (.seq (cR [ oC kk4 (nI 0),
 oC kk5 (nI 0),
 oC kk6 (.str 0 0),
 oC kk7 (.bool false)])
 (.seq (cR [ oM kk10 kk1,
 oP kk11 (.bin .add (t10) (.c (nI (1)))),
 oM kk8 kk11])
 (.seq (.block 0 (.seq (cR [ oM kk13 kk0,
 oM kk14 kk1,
 oP kk15 (.idxStr (t13) (t14)),
 oP kk16 (.call 77 [(t15)]),
 oM kk12 kk16])
 (.cond (t12)
 (.seq (.block 1 (.loop (.seq (.seq (cR [ oM kk17 kk8,
 oM kk18 kk0,
 oP kk19 (.lenS (t18)),
 oP kk20 (.bin .lss (t17) (t19)),
 oM kk21 kk20,
 oG kk22 kk21 true kk0,
 oG kk23 kk21 true kk8,
 oX kk24 kk21 true (.idxStr (t22) (t23)),
 oX kk25 kk21 true (.call 77 [(t24)]),
 oP kk26 (.pick (t21) (t25) (.c (.bool false)))])
 (.cond (t26)
 .skip
 (.exit 1)))
 (.block 2 (cR [ oM kk27 kk8,
 oP kk28 (.bin .add (t27) (.c (nI (1)))),
 oM kk8 kk28])))))
 (.seq (cD [ oM kk29 kk8,
 oM kk30 kk0,
 oM kk31 kk1,
 oM kk32 kk8,
 oP kk33 (.slStr (t30) (some (t31)) (some (t32))),
 oM kk4 kk29,
 oC kk5 (nI 1),
 oM kk6 kk33,
 oC kk7 (.bool true)])
 .ret))
 (.seq (cR [ oM kk35 kk0,
 oM kk36 kk1,
 oP kk37 (.idxStr (t35) (t36)),
 oP kk38 (.call 78 [(t37)]),
 oM kk34 kk38])
 (.cond (t34)
 (.seq (.block 3 (.loop (.seq (.seq (cR [ oM kk39 kk8,
 oM kk40 kk0,
 oP kk41 (.lenS (t40)),
 oP kk42 (.bin .lss (t39) (t41)),
 oM kk43 kk42,
 oG kk44 kk43 true kk0,
 oG kk45 kk43 true kk8,
 oX kk46 kk43 true (.idxStr (t44) (t45)),
 oX kk47 kk43 true (.call 79 [(t46)]),
 oP kk48 (.pick (t43) (t47) (.c (.bool false)))])
 (.cond (t48)
 .skip
 (.exit 3)))
 (.block 4 (cR [ oM kk49 kk8,
 oP kk50 (.bin .add (t49) (.c (nI (1)))),
 oM kk8 kk50])))))
 (.seq (cD [ oM kk51 kk8,
 oM kk52 kk0,
 oM kk53 kk1,
 oM kk54 kk8,
 oP kk55 (.slStr (t52) (some (t53)) (some (t54))),
 oM kk4 kk51,
 oC kk5 (nI 2),
 oM kk6 kk55,
 oC kk7 (.bool true)])
 .ret))
 (.seq (cR [ oM kk57 kk0,
 oM kk58 kk1,
 oP kk59 (.idxStr (t57) (t58)),
 oP kk60 (.call 80 [(t59)]),
 oM kk56 kk60])
 (.cond (t56)
 (.seq (.block 5 (.loop (.seq (.seq (cR [ oM kk61 kk8,
 oM kk62 kk0,
 oP kk63 (.lenS (t62)),
 oP kk64 (.bin .lss (t61) (t63)),
 oM kk65 kk64,
 oG kk66 kk65 true kk0,
 oG kk67 kk65 true kk8,
 oX kk68 kk65 true (.idxStr (t66) (t67)),
 oX kk69 kk65 true (.call 80 [(t68)]),
 oP kk70 (.pick (t65) (t69) (.c (.bool false)))])
 (.cond (t70)
 .skip
 (.exit 5)))
 (.block 6 (cR [ oM kk71 kk8,
 oP kk72 (.bin .add (t71) (.c (nI (1)))),
 oM kk8 kk72])))))
 (.seq (cD [ oM kk73 kk8,
 oM kk74 kk0,
 oM kk75 kk1,
 oM kk76 kk8,
 oP kk77 (.slStr (t74) (some (t75)) (some (t76))),
 oM kk4 kk73,
 oC kk5 (nI 3),
 oM kk6 kk77,
 oC kk7 (.bool true)])
 .ret))
 (.seq (cR [ oM kk79 kk0,
 oM kk80 kk1,
 oP kk81 (.idxStr (t79) (t80)),
 oP kk82 (.call 81 [(t81)]),
 oM kk78 kk82])
 (.cond (t78)
 (.seq (cD [ oM kk83 kk8,
 oM kk84 kk0,
 oM kk85 kk1,
 oM kk86 kk8,
 oP kk87 (.slStr (t84) (some (t85)) (some (t86))),
 oM kk4 kk83,
 oC kk5 (nI 5),
 oM kk6 kk87,
 oC kk7 (.bool true)])
 .ret)
 (.seq (cR [ oM kk89 kk0,
 oM kk90 kk1,
 oP kk91 (.idxStr (t89) (t90)),
 oP kk92 (.bin .neq (t91) (.c (.int .u8 (.ofNat 39)))),
 oM kk88 kk92])
 (.cond (t88)
 (.seq (cR [ oM kk93 kk8,
 oM kk4 kk93,
 oC kk5 (nI 0),
 oC kk6 (.str 0 0),
 oC kk7 (.bool true)])
 .ret)
 .skip)))))))))))
 (.seq (cR [ oC kk9 .nilslice])
 (.seq (.block 7 (.loop (.seq (.seq (cR [ oM kk94 kk8,
 oM kk95 kk0,
 oP kk96 (.lenS (t95)),
 oP kk97 (.bin .lss (t94) (t96))])
 (.cond (t97)
 .skip
 (.exit 7)))
 (.block 8 (.seq (.seq (cR [ oM kk98 kk0,
 oM kk99 kk8,
 oP kk100 (.idxStr (t98) (t99)),
 oP kk101 (.bin .neq (t100) (.c (.int .u8 (.ofNat 39))))])
 (.cond (t101)
 (.seq (cR [ oM kk102 kk9,
 oM kk103 kk0,
 oM kk104 kk8,
 oP kk105 (.idxStr (t103) (t104)),
 oP kk106 (.buildSl 5 1 1 1 [(.int .u8 (.ofNat 0))] [(0, (t105))]),
 oP kk107 (.app 5 1 1 (t102) (t106)),
 oM kk9 kk107])
 (.seq (cR [ oM kk108 kk8,
 oP kk109 (.bin .add (t108) (.c (nI (1)))),
 oM kk8 kk109])
 (.exit 8)))
 .skip))
 (.seq (.seq (cR [ oM kk110 kk8,
 oP kk111 (.bin .add (t110) (.c (nI (1)))),
 oM kk112 kk0,
 oP kk113 (.lenS (t112)),
 oP kk114 (.bin .lss (t111) (t113)),
 oM kk115 kk114,
 oG kk116 kk115 true kk0,
 oG kk117 kk115 true kk8,
 oX kk118 kk115 true (.bin .add (t117) (.c (nI (1)))),
 oX kk119 kk115 true (.idxStr (t116) (t118)),
 oX kk120 kk115 true (.bin .eql (t119) (.c (.int .u8 (.ofNat 39)))),
 oP kk121 (.pick (t115) (t120) (.c (.bool false)))])
 (.cond (t121)
 (.seq (cR [ oM kk122 kk9,
 oP kk123 (.buildSl 5 1 1 1 [(.int .u8 (.ofNat 0))] [(0, (.c (.int .u8 (.ofNat 39))))]),
 oP kk124 (.app 5 1 1 (t122) (t123)),
 oM kk9 kk124])
 (.seq (cR [ oM kk125 kk8,
 oP kk126 (.bin .add (t125) (.c (nI (2)))),
 oM kk8 kk126])
 (.exit 8)))
 .skip))
 (.seq (cD [ oM kk127 kk8,
 oP kk128 (.bin .add (t127) (.c (nI (1)))),
 oM kk129 kk9,
 oQ kk130 [] (.convBS (t129)),
 oM kk4 kk128,
 oC kk5 (nI 4),
 oM kk6 kk130,
 oC kk7 (.bool true)])
 .ret)))))))
 (.seq (cR [ oM kk131 kk8,
 oM kk4 kk131,
 oC kk5 (nI 4),
 oC kk6 (.str 0 0),
 oC kk7 (.bool false)])
 .ret)))))) }
theorem fn38 : fnOf Tryz.prog Tryz.f38 = some i38 := by kernel_rfl
noncomputable def i39 : IFn := { nt := 73, ps := [kk0], res := [.tmp kk2], body :=
 (.seq (cR [ oP kk1 (.box 127 3 32 (t0)),
 oC kk2 (.bool false)])
 (.seq (.seq (cR [ oP kk3 (.offs (t1) 0),
 oP kk4 (.load 1 false (t3))])
 (.block 0 (.seq (cR [ oP kk6 (.bin .eql (t4) (.c (nI (1)))),
 oM kk5 kk6])
 (.cond (t5)
 (.seq (cR [ oP kk7 (.offs (t1) 2),
 oP kk8 (.load 1 false (t7)),
 oP kk9 (.offs (t1) 0),
 oP kk10 (.load 1 false (t9)),
 oP kk11 (.call 82 [(t8), (t10)]),
 oM kk12 kk11,
 oX kk13 kk12 true (.offs (t1) 2),
 oX kk14 kk12 true (.load 1 false (t13)),
 oX kk15 kk12 true (.lenS (t14)),
 oX kk16 kk12 true (.bin .leq (t15) (.c (nI (20)))),
 oP kk17 (.pick (t12) (t16) (.c (.bool false))),
 oM kk2 kk17])
 .ret)
 (.seq (cR [ oP kk19 (.bin .eql (t4) (.c (nI (2)))),
 oM kk18 kk19])
 (.cond (t18)
 (.seq (cR [ oP kk20 (.offs (t1) 2),
 oP kk21 (.load 1 false (t20)),
 oP kk22 (.offs (t1) 0),
 oP kk23 (.load 1 false (t22)),
 oP kk24 (.call 82 [(t21), (t23)]),
 oM kk25 kk24,
 oX kk26 kk25 true (.offs (t1) 2),
 oX kk27 kk25 true (.load 1 false (t26)),
 oX kk28 kk25 true (.idxStr (t27) (.c (nI (0)))),
 oX kk29 kk25 true (.call 78 [(t28)]),
 oP kk30 (.pick (t25) (t29) (.c (.bool false))),
 oM kk31 kk30,
 oX kk32 kk31 true (.offs (t1) 2),
 oX kk33 kk31 true (.load 1 false (t32)),
 oX kk34 kk31 true (.lenS (t33)),
 oX kk35 kk31 true (.bin .leq (t34) (.c (nI (20)))),
 oP kk36 (.pick (t31) (t35) (.c (.bool false))),
 oM kk2 kk36])
 .ret)
 (.seq (cR [ oP kk38 (.bin .eql (t4) (.c (nI (3)))),
 oM kk37 kk38])
 (.cond (t37)
 (.seq (cR [ oP kk39 (.offs (t1) 2),
 oP kk40 (.load 1 false (t39)),
 oP kk41 (.offs (t1) 0),
 oP kk42 (.load 1 false (t41)),
 oP kk43 (.call 82 [(t40), (t42)]),
 oM kk44 kk43,
 oX kk45 kk44 true (.offs (t1) 2),
 oX kk46 kk44 true (.load 1 false (t45)),
 oX kk47 kk44 true (.lenS (t46)),
 oX kk48 kk44 true (.bin .leq (t47) (.c (nI (19)))),
 oP kk49 (.pick (t44) (t48) (.c (.bool false))),
 oM kk2 kk49])
 .ret)
 (.seq (cR [ oP kk51 (.bin .eql (t4) (.c (nI (4)))),
 oM kk50 kk51])
 (.cond (t50)
 (.seq (cR [ oP kk52 (.offs (t1) 2),
 oP kk53 (.load 1 false (t52)),
 oP kk54 (.lenS (t53)),
 oP kk55 (.bin .leq (t54) (.c (nI (200)))),
 oM kk2 kk55])
 .ret)
 (.seq (cR [ oP kk57 (.bin .eql (t4) (.c (nI (5)))),
 oM kk56 kk57])
 (.cond (t56)
 (.seq (cR [ oP kk58 (.offs (t1) 2),
 oP kk59 (.load 1 false (t58)),
 oP kk60 (.lenS (t59)),
 oP kk61 (.bin .eql (t60) (.c (nI (1)))),
 oM kk62 kk61,
 oX kk63 kk62 true (.offs (t1) 2),
 oX kk64 kk62 true (.load 1 false (t63)),
 oX kk65 kk62 true (.idxStr (t64) (.c (nI (0)))),
 oX kk66 kk62 true (.call 81 [(t65)]),
 oP kk67 (.pick (t62) (t66) (.c (.bool false))),
 oM kk2 kk67])
 .ret)
 (.seq (cR [ oP kk69 (.bin .eql (t4) (.c (nI (6)))),
 oM kk68 kk69])
 (.cond (t68)
 (.seq (cR [ oP kk70 (.offs (t1) 2),
 oP kk71 (.load 1 false (t70)),
 oP kk72 (.bin .eql (t71) (.c (.str 0 0))),
 oM kk2 kk72])
 .ret)
 .skip))))))))))))))
 (.seq (cR [ oC kk2 (.bool false)])
 .ret))) }
theorem fn39 : fnOf Tryz.prog Tryz.f39 = some i39 := by kernel_rfl
noncomputable def i40 : IFn := { nt := 48, ps := [kk0], res := [.cell kk2 2 true], body :=
 (.seq (cR [ oP kk2 (.boxz 37 2 48 [.nilslice, .nilslice])])
 (.seq (cR [ oM kk4 kk0,
 oP kk5 (.call 83 [(t4)]),
 oP kk6 (.buildSl 97 7 120 1 [(.bool false), .nilslice, .nilslice, .nilslice, (nI (0)), (.bool false), .nilslice] [(0, (t5))]),
 oP kk7 (.build [.nilslice, .nilslice] [(0, 1, (t6))]),
 oP kk3 (.boxz 37 2 48 [.nilslice, .nilslice]),
 oN (.store 2 (t3) (t7))])
 (.seq (.block 0 (.loop (.seq (.seq (cR [ oM kk8 kk0,
 oP kk9 (.nilck (t8)),
 oP kk10 (.offs (t9) 2),
 oP kk11 (.load 1 false (t10)),
 oP kk12 (.bin .eql (t11) (.c (nI (0))))])
 (.cond (t12)
 .skip
 (.exit 0)))
 (.block 1 (.seq (.block 2 (.seq (cR [ oM kk15 kk0,
 oP kk16 (.call 84 [(t15), (.c (.str 5 336337653333))]),
 oM kk14 kk16])
 (.cond (t14)
 (cR [ oP kk17 (.offs (t3) 1),
 oP kk18 (.load 1 false (t17)),
 oP kk19 (.buildSl 3 1 8 1 [(nI (0))] [(0, (.c (nI (6))))]),
 oP kk20 (.app 3 1 8 (t18) (t19)),
 oP kk21 (.offs (t3) 1),
 oN (.store 1 (t21) (t20))])
 (.seq (cR [ oM kk23 kk0,
 oP kk24 (.call 84 [(t23), (.c (.str 6 92703736158277))]),
 oM kk22 kk24])
 (.cond (t22)
 (cR [ oP kk25 (.offs (t3) 1),
 oP kk26 (.load 1 false (t25)),
 oP kk27 (.buildSl 3 1 8 1 [(nI (0))] [(0, (.c (nI (7))))]),
 oP kk28 (.app 3 1 8 (t26) (t27)),
 oP kk29 (.offs (t3) 1),
 oN (.store 1 (t29) (t28))])
 (.seq (cR [ oM kk31 kk0,
 oP kk32 (.call 84 [(t31), (.c (.str 9 1554373874378352119369))]),
 oM kk30 kk32])
 (.cond (t30)
 (cR [ oP kk33 (.offs (t3) 1),
 oP kk34 (.load 1 false (t33)),
 oP kk35 (.buildSl 3 1 8 1 [(nI (0))] [(0, (.c (nI (8))))]),
 oP kk36 (.app 3 1 8 (t34) (t35)),
 oP kk37 (.offs (t3) 1),
 oN (.store 1 (t37) (t36))])
 (.seq (cR [ oP kk13 (.load 2 true (t3)),
 oN (.store 2 (t2) (t13))])
 .ret))))))))
 (.seq (cR [ oM kk38 kk0,
 oP kk39 (.call 85 [(t38), (.c (.str 3 5000257))])])
 (cD [ oP kk40 (.offs (t3) 0),
 oQ kk41 [] (.load 1 false (t40)),
 oM kk42 kk0,
 oQ kk43 [0] (.call 83 [(t42)]),
 oQ kk44 [1] (.buildSl 97 7 120 1 [(.bool false), .nilslice, .nilslice, .nilslice, (nI (0)), (.bool false), .nilslice] [(0, (t43))]),
 oQ kk45 [] (.app 97 7 120 (t41) (t44)),
 oP kk46 (.offs (t3) 0),
 ⟨none, none, some [], .store 1 (t46) (t45)⟩])))))))
 (.seq (cR [ oP kk47 (.load 2 true (t3)),
 oN (.store 2 (t2) (t47))])
 .ret)))) }
theorem fn40 : fnOf Tryz.prog Tryz.f40 = some i40 := by kernel_rfl
noncomputable def i41 : IFn := { nt := 23, ps := [kk0], res := [], body :=
 (.seq (cD [ oM kk2 kk0,
 oP kk3 (.nilck (t2)),
 oP kk4 (.offs (t3) 2),
 oQ kk5 [] (.load 1 false (t4)),
 oP kk6 (.bin .eql (t5) (.c (nI (0)))),
 oM kk7 kk6,
 oG kk8 kk7 true kk0,
 oX kk9 kk7 true (.nilck (t8)),
 oX kk10 kk7 true (.offs (t9) 0),
 ⟨some kk11, some (kk7, true), some [], .load 1 false (t10)⟩,
 oG kk12 kk7 true kk0,
 oX kk13 kk7 true (.nilck (t12)),
 oX kk14 kk7 true (.offs (t13) 1),
 ⟨some kk15, some (kk7, true), some [0], .load 1 false (t14)⟩,
 oX kk16 kk7 true (.idxSl 3 (t11) (t15)),
 oX kk17 kk7 true (.offs (t16) 0),
 ⟨some kk18, some (kk7, true), some [], .load 1 false (t17)⟩,
 oX kk19 kk7 true (.bin .neq (t18) (.c (nI (6)))),
 oP kk20 (.pick (t7) (t19) (.c (.bool false)))])
 (.cond (t20)
 (cR [ oM kk21 kk0,
 oP kk22 (.call 86 [(t21), (.c (nI (5)))])])
 .skip)) }
theorem fn41 : fnOf Tryz.prog Tryz.f41 = some i41 := by kernel_rfl
noncomputable def i42 : IFn := { nt := 38, ps := [kk0], res := [.tmp kk2], body :=
 (.seq (cR [ oP kk1 (.box 37 2 48 (t0)),
 oC kk2 (.bool false)])
 (.seq (cR [ oP kk6 (.offs (t1) 0),
 oP kk7 (.load 1 false (t6)),
 oP kk8 (.len (t7)),
 oM kk3 kk8])
 (.seq (.seq (cR [ oP kk9 (.offs (t1) 0),
 oP kk10 (.load 1 false (t9)),
 oP kk11 (.len (t10)),
 oC kk12 (nI 0)])
 (.block 0 (.loop (.seq (cR [ oP kk13 (.bin .lss (t12) (t11))])
 (.seq (.cond (t13)
 .skip
 (.exit 0))
 (.seq (.block 1 (.seq (cR [ oP kk14 (.idxSl 7 (t10) (t12)),
 oP kk15 (.load 7 true (t14)),
 oP kk5 (.boxz 97 7 120 [(.bool false), .nilslice, .nilslice, .nilslice, (nI (0)), (.bool false), .nilslice]),
 oN (.store 7 (t5) (t15))])
 (.seq (cR [ oM kk16 kk3,
 oP kk17 (.offs (t5) 1),
 oP kk18 (.load 1 false (t17)),
 oP kk19 (.len (t18)),
 oP kk20 (.offs (t5) 2),
 oP kk21 (.load 1 false (t20)),
 oP kk22 (.len (t21)),
 oP kk23 (.bin .add (t19) (t22)),
 oP kk24 (.offs (t5) 3),
 oP kk25 (.load 1 false (t24)),
 oP kk26 (.len (t25)),
 oP kk27 (.bin .add (t23) (t26)),
 oP kk28 (.offs (t5) 6),
 oP kk29 (.load 1 false (t28)),
 oP kk30 (.len (t29)),
 oP kk31 (.bin .add (t27) (t30)),
 oP kk32 (.bin .add (t16) (t31)),
 oM kk3 kk32])
 (.seq (cR [ oM kk33 kk3,
 oP kk34 (.bin .gtr (t33) (.c (nI (1000))))])
 (.cond (t34)
 (.seq (cR [ oC kk2 (.bool true)])
 .ret)
 .skip)))))
 (cR [ oP kk35 (.bin .add (t12) (.c (nI (1)))),
 oM kk12 kk35])))))))
 (.seq (cR [ oM kk36 kk3,
 oP kk37 (.bin .gtr (t36) (.c (nI (1000)))),
 oM kk2 kk37])
 .ret)))) }
theorem fn42 : fnOf Tryz.prog Tryz.f42 = some i42 := by kernel_rfl
noncomputable def i43 : IFn := { nt := 51, ps := [kk0, kk1], res := [], body :=
 (.seq (cR [ oP kk3 (.box 37 2 48 (t1))])
 (.seq (cR [ oP kk7 (.offs (t3) 0),
 oP kk8 (.load 1 false (t7)),
 oP kk9 (.len (t8)),
 oC kk10 (nI 0)])
 (.block 0 (.loop (.seq (cR [ oP kk11 (.bin .lss (t10) (t9))])
 (.seq (.cond (t11)
 .skip
 (.exit 0))
 (.seq (.block 1 (.seq (cR [ oM kk12 kk10,
 oP kk13 (.idxSl 7 (t8) (t10)),
 oP kk14 (.load 7 true (t13)),
 oP kk5 (.boxz 97 7 120 [(.bool false), .nilslice, .nilslice, .nilslice, (nI (0)), (.bool false), .nilslice]),
 oM kk4 kk12,
 oN (.store 7 (t5) (t14))])
 (.seq (.seq (cR [ oM kk15 kk4,
 oP kk16 (.bin .gtr (t15) (.c (nI (0))))])
 (.cond (t16)
 (.seq (cR [ oC kk6 (nI 0)])
 (.seq (.seq (cR [ oM kk17 kk4,
 oP kk18 (.offs (t3) 1),
 oP kk19 (.load 1 false (t18)),
 oP kk20 (.len (t19)),
 oP kk21 (.bin .leq (t17) (t20))])
 (.cond (t21)
 (cR [ oP kk22 (.offs (t3) 1),
 oP kk23 (.load 1 false (t22)),
 oM kk24 kk4,
 oP kk25 (.bin .sub (t24) (.c (nI (1)))),
 oP kk26 (.idxSl 1 (t23) (t25)),
 oP kk27 (.load 1 false (t26)),
 oM kk6 kk27])
 .skip))
 (.seq (cR [ oM kk28 kk6])
 (.block 2 (.seq (cR [ oP kk33 (.bin .eql (t28) (.c (nI (6)))),
 oM kk32 kk33])
 (.cond (t32)
 (cR [ oM kk34 kk0,
 oP kk35 (.buildSl 9 1 16 2 [(.str 0 0)] [(0, (.c (.str 5 336337653333))), (1, (.c (.str 3 5000257)))]),
 oP kk36 (.call 87 [(t34), (t35)])])
 (.seq (cR [ oP kk38 (.bin .eql (t28) (.c (nI (7)))),
 oM kk37 kk38])
 (.cond (t37)
 (cR [ oM kk39 kk0,
 oP kk40 (.buildSl 9 1 16 2 [(.str 0 0)] [(0, (.c (.str 6 92703736158277))), (1, (.c (.str 3 5000257)))]),
 oP kk41 (.call 87 [(t39), (t40)])])
 (.seq (cR [ oP kk43 (.bin .eql (t28) (.c (nI (8)))),
 oM kk42 kk43])
 (.cond (t42)
 (cR [ oM kk44 kk0,
 oP kk45 (.buildSl 9 1 16 2 [(.str 0 0)] [(0, (.c (.str 9 1554373874378352119369))), (1, (.c (.str 3 5000257)))]),
 oP kk46 (.call 87 [(t44), (t45)])])
 (cR [ oM kk29 kk0,
 oP kk30 (.nilck (t29)),
 oP kk31 (.offs (t30) 1),
 oN (.store 1 (t31) (.c (.bool true)))])))))))))))
 .skip))
 (cR [ oM kk47 kk0,
 oP kk48 (.load 7 true (t5)),
 oP kk49 (.call 88 [(t47), (t48)])]))))
 (cR [ oP kk50 (.bin .add (t10) (.c (nI (1)))),
 oM kk10 kk50])))))))) }
theorem fn43 : fnOf Tryz.prog Tryz.f43 = some i43 := by kernel_rfl
noncomputable def i44 : IFn := { nt := 38, ps := [kk0], res := [.tmp kk2, .tmp kk3], body :=
 (.seq (cR [ oC kk2 .nilslice,
 oC kk3 (.bool false)])
 (.seq (.seq (cR [ oM kk6 kk0,
 oP kk7 (.nilck (t6)),
 oP kk8 (.offs (t7) 1),
 oP kk9 (.load 1 false (t8)),
 oM kk10 kk9,
 oG kk11 kk10 false kk0,
 oX kk12 kk10 false (.nilck (t11)),
 oX kk13 kk10 false (.offs (t12) 0),
 oX kk14 kk10 false (.load 1 false (t13)),
 oX kk15 kk10 false (.len (t14)),
 oX kk16 kk10 false (.bin .gtr (t15) (.c (nI (1000)))),
 oP kk17 (.pick (t10) (.c (.bool true)) (t16))])
 (.cond (t17)
 (.seq (cR [ oC kk2 .nilslice,
 oC kk3 (.bool false)])
 .ret)
 .skip))
 (.seq (.seq (cR [ oM kk18 kk0,
 oP kk19 (.nilck (t18)),
 oP kk20 (.offs (t19) 0),
 oP kk21 (.load 1 false (t20)),
 oP kk22 (.len (t21)),
 oC kk23 (nI 0)])
 (.block 0 (.loop (.seq (cR [ oP kk24 (.bin .lss (t23) (t22))])
 (.seq (.cond (t24)
 .skip
 (.exit 0))
 (.seq (.block 1 (.seq (cR [ oP kk25 (.idxSl 3 (t21) (t23)),
 oP kk26 (.load 3 true (t25)),
 oP kk5 (.boxz 127 3 32 [(nI (0)), (nI (0)), (.str 0 0)]),
 oN (.store 3 (t5) (t26))])
 (.seq (cR [ oP kk27 (.load 3 true (t5)),
 oP kk28 (.call 89 [(t27)]),
 oP kk29 (.un .not (t28))])
 (.cond (t29)
 (.seq (cR [ oC kk2 .nilslice,
 oC kk3 (.bool false)])
 .ret)
 .skip))))
 (cR [ oP kk30 (.bin .add (t23) (.c (nI (1)))),
 oM kk23 kk30])))))))
 (.seq (cR [ oM kk31 kk0,
 oP kk32 (.nilck (t31)),
 oP kk33 (.offs (t32) 0),
 oP kk34 (.load 1 false (t33)),
 oP kk35 (.build [(nI (0)), (nI (0)), (.str 0 0)] [(0, 1, (.c (nI (6))))]),
 oP kk36 (.buildSl 127 3 32 1 [(nI (0)), (nI (0)), (.str 0 0)] [(0, (t35))]),
 oP kk37 (.app 127 3 32 (t34) (t36)),
 oM kk2 kk37,
 oC kk3 (.bool true)])
 .ret)))) }
theorem fn44 : fnOf Tryz.prog Tryz.f44 = some i44 := by kernel_rfl
noncomputable def i45 : IFn := { nt := 24, ps := [kk0], res := [.cell kk2 2 true, .tmp kk3, .tmp kk4], body :=
 (.seq (cR [ oP kk2 (.boxz 37 2 48 [.nilslice, .nilslice]),
 oC kk3 (nI 0),
 oC kk4 (nI 0)])
 (.seq (cR [ oM kk9 kk0,
 oP kk10 (.build [.nilslice, (nI (0)), (nI (0)), (nI (0)), (nI (0)), .nilslice] [(0, 1, (t9))]),
 oP kk11 (.box 196 6 80 (t10)),
 oP kk5 (.boxz 194 1 8 [.nilptr]),
 oN (.store 1 (t5) (t11))])
 (.seq (cR [ oP kk6 (.boxz 37 2 48 [.nilslice, .nilslice])])
 (.seq (.seq (cR [ oP kk13 (.load 1 false (t5)),
 oP kk14 (.mkfn 91 [] [(t5), (t6)]),
 oP kk15 (.call 90 [(t13), (t14)]),
 oM kk12 kk15,
 oP kk16 (.extr (t12) 0),
 oP kk17 (.extr (t12) 1),
 oM kk7 kk16,
 oM kk8 kk17])
 (.seq (cR [ oM kk18 kk8,
 oP kk19 (.bin .neq (t18) (.c (nI (0))))])
 (.cond (t19)
 (.seq (cR [ oP kk20 (.build [.nilslice, .nilslice] []),
 oM kk21 kk7,
 oM kk22 kk8,
 oN (.store 2 (t2) (t20)),
 oM kk3 kk21,
 oM kk4 kk22])
 .ret)
 .skip)))
 (.seq (cR [ oP kk23 (.load 2 true (t6)),
 oN (.store 2 (t2) (t23)),
 oC kk3 (nI 0),
 oC kk4 (nI 0)])
 .ret))))) }
theorem fn45 : fnOf Tryz.prog Tryz.f45 = some i45 := by kernel_rfl
noncomputable def i46 : IFn := { nt := 17, ps := [kk0, kk1], res := [.tmp kk4], body :=
 (.seq (cR [ oP kk2 (.box 37 2 48 (t0)),
 oP kk3 (.box 37 2 48 (t1)),
 oC kk4 (.bool false)])
 (.seq (cR [ oP kk5 (.offs (t2) 1),
 oP kk6 (.load 1 false (t5)),
 oP kk7 (.offs (t3) 1),
 oP kk8 (.load 1 false (t7)),
 oP kk9 (.call 93 [(t6), (t8)]),
 oM kk10 kk9,
 oX kk11 kk10 true (.offs (t2) 0),
 oX kk12 kk10 true (.load 1 false (t11)),
 oX kk13 kk10 true (.offs (t3) 0),
 oX kk14 kk10 true (.load 1 false (t13)),
 oX kk15 kk10 true (.call 94 [(t12), (t14), (.c (.func 95 [] []))]),
 oP kk16 (.pick (t10) (t15) (.c (.bool false))),
 oM kk4 kk16])
 .ret)) }
theorem fn46 : fnOf Tryz.prog Tryz.f46 = some i46 := by kernel_rfl
noncomputable def i47 : IFn := { nt := 35, ps := [kk0], res := [.tmp kk2], body :=
 (.seq (cR [ oC kk2 (.str 0 0)])
 (.seq (cR [ oP kk3 (.boxz 203 2 32 [.nilptr, .nilslice])])
 (.seq (.seq (cR [ oM kk6 kk0,
 oP kk7 (.len (t6)),
 oC kk8 (nI 0)])
 (.block 0 (.loop (.seq (cR [ oP kk9 (.bin .lss (t8) (t7))])
 (.seq (.cond (t9)
 .skip
 (.exit 0))
 (.seq (.block 1 (.seq (cR [ oP kk10 (.idxSl 3 (t6) (t8)),
 oP kk11 (.load 3 true (t10)),
 oP kk5 (.boxz 127 3 32 [(nI (0)), (nI (0)), (.str 0 0)]),
 oN (.store 3 (t5) (t11))])
 (.seq (.seq (cR [ oP kk12 (.load 3 true (t5)),
 oP kk13 (.call 89 [(t12)]),
 oP kk14 (.un .not (t13))])
 (.cond (t14)
 (.seq (cR [ oC kk2 (.str 0 0)])
 .ret)
 .skip))
 (.seq (.seq (cR [ oP kk15 (.offs (t5) 0),
 oP kk16 (.load 1 false (t15)),
 oP kk17 (.bin .eql (t16) (.c (nI (6))))])
 (.cond (t17)
 (.exit 1)
 .skip))
 (.seq (.seq (cR [ oP kk18 (.call 96 [(t3)]),
 oP kk19 (.bin .gtr (t18) (.c (nI (0))))])
 (.cond (t19)
 (cR [ oP kk20 (.call 97 [(t3), (.c (.int .u8 (.ofNat 32)))])])
 .skip))
 (.seq (cR [ oP kk21 (.offs (t5) 0),
 oP kk22 (.load 1 false (t21)),
 oP kk23 (.bin .eql (t22) (.c (nI (4))))])
 (.cond (t23)
 (cR [ oP kk24 (.offs (t5) 2),
 oP kk25 (.load 1 false (t24)),
 oP kk26 (.call 99 [(t25), (.c (.str 1 39)), (.c (.str 2 10023))]),
 oP kk27 (.bin .add (.c (.str 1 39)) (t26)),
 oP kk28 (.bin .add (t27) (.c (.str 1 39))),
 oP kk29 (.call 98 [(t3), (t28)])])
 (cR [ oP kk30 (.offs (t5) 2),
 oP kk31 (.load 1 false (t30)),
 oP kk32 (.call 98 [(t3), (t31)])]))))))))
 (cR [ oP kk33 (.bin .add (t8) (.c (nI (1)))),
 oM kk8 kk33])))))))
 (.seq (cR [ oP kk34 (.call 100 [(t3)]),
 oM kk2 kk34])
 .ret)))) }
theorem fn47 : fnOf Tryz.prog Tryz.f47 = some i47 := by kernel_rfl
noncomputable def i48 : IFn := { nt := 31, ps := [kk0, kk1], res := [.cell kk4 3 true, .tmp kk5], body :=
 (.seq (.region false [⟨some kk2, none, none, .box 31 5 112 (.t kk0)⟩,
  ⟨some kk4, none, none, .boxz 77 3 40 [(.int .i64 (.ofNat 0)), (.int .i64 (.ofNat 0)), .nilslice]⟩,
  ⟨some kk5, none, none, .mov (.c (.bool false))⟩])
 (.seq (.seq (.region false [⟨some kk8, none, none, .offs (.t kk2) 1⟩,
  ⟨some kk9, none, none, .load 1 false (.t kk8)⟩,
  ⟨some kk10, none, none, .len (.t kk9)⟩,
  ⟨some kk11, none, none, .mov (.c (.int .i64 (.ofNat 0)))⟩])
 (.block 0 (.loop (.seq (.region false [⟨some kk12, none, none, .bin .lss (.t kk11) (.t kk10)⟩])
   (.seq (.cond (.t kk12)
    .skip
    (.exit 0))
   (.seq (.block 1 (.seq (.region false [⟨some kk13, none, none, .idxSl 3 (.t kk9) (.t kk11)⟩,
     ⟨some kk14, none, none, .load 3 true (.t kk13)⟩,
     ⟨some kk7, none, none, .boxz 77 3 40 [(.int .i64 (.ofNat 0)), (.int .i64 (.ofNat 0)), .nilslice]⟩,
     ⟨none, none, none, .store 3 (.t kk7) (.t kk14)⟩])
    (.seq (.region false [⟨some kk15, none, none, .offs (.t kk7) 0⟩,
     ⟨some kk16, none, none, .offs (.t kk15) 0⟩,
     ⟨some kk17, none, none, .load 1 false (.t kk16)⟩,
     ⟨some kk18, none, none, .mov (.t kk1)⟩,
     ⟨some kk19, none, none, .bin .leq (.t kk17) (.t kk18)⟩,
     ⟨some kk20, none, none, .mov (.t kk19)⟩,
     ⟨some kk21, some (kk20, true), none, .mov (.t kk1)⟩,
     ⟨some kk22, some (kk20, true), none, .offs (.t kk7) 0⟩,
     ⟨some kk23, some (kk20, true), none, .offs (.t kk22) 1⟩,
     ⟨some kk24, some (kk20, true), none, .load 1 false (.t kk23)⟩,
     ⟨some kk25, some (kk20, true), none, .bin .lss (.t kk21) (.t kk24)⟩,
     ⟨some kk26, none, none, .pick (.t kk20) (.t kk25) (.c (.bool false))⟩])
    (.cond (.t kk26)
     (.seq (.region false [⟨some kk27, none, none, .load 3 true (.t kk7)⟩,
      ⟨some kk28, none, none, .call 101 [(.t kk27)]⟩,
      ⟨none, none, none, .store 3 (.t kk4) (.t kk28)⟩,
      ⟨some kk5, none, none, .mov (.c (.bool true))⟩])
     .ret)
     .skip))))
   (.region false [⟨some kk29, none, none, .bin .add (.t kk11) (.c (.int .i64 (.ofNat 1)))⟩,
    ⟨some kk11, none, none, .mov (.t kk29)⟩])))))))
 (.seq (.region false [⟨some kk30, none, none, .build [(.int .i64 (.ofNat 0)), (.int .i64 (.ofNat 0)), .nilslice] []⟩,
  ⟨none, none, none, .store 3 (.t kk4) (.t kk30)⟩,
  ⟨some kk5, none, none, .mov (.c (.bool false))⟩])
 .ret))) }
theorem fn48 : fnOf Tryz.prog Tryz.f48 = some i48 := by kernel_rfl
noncomputable def i49 : IFn := { nt := 17, ps := [], res := [.tmp kk0], body :=
 (.seq (.region false [⟨some kk0, none, none, .mov (.c .nilslice)⟩])
 (.seq (.region false [⟨some kk1, none, none, .mov (.c .nilslice)⟩])
 (.seq (.seq (.region false [⟨some kk4, none, none, .buildSl 9 1 16 4 [(.str 0 0)] [(0, (.c (.str 5 470021203574))), (1, (.c (.str 3 7304310))), (2, (.c (.str 5 470021203570))), (3, (.c (.str 3 7304306)))]⟩,
  ⟨some kk5, none, none, .len (.t kk4)⟩,
  ⟨some kk6, none, none, .mov (.c (.int .i64 (.ofNat 0)))⟩])
 (.block 0 (.loop (.seq (.region false [⟨some kk7, none, none, .bin .lss (.t kk6) (.t kk5)⟩])
   (.seq (.cond (.t kk7)
    .skip
    (.exit 0))
   (.seq (.block 1 (.seq (.region false [⟨some kk8, none, none, .idxSl 1 (.t kk4) (.t kk6)⟩,
     ⟨some kk9, none, none, .load 1 false (.t kk8)⟩,
     ⟨some kk3, none, none, .mov (.t kk9)⟩])
    (.region false [⟨some kk10, none, none, .mov (.t kk1)⟩,
     ⟨some kk11, none, none, .mov (.t kk3)⟩,
     ⟨some kk12, none, none, .build [(.int .i64 (.ofNat 0)), (.str 0 0), (.int .i64 (.ofNat 0))] [(1, 1, (.t kk11)), (2, 1, (.c (.int .i64 (.ofNat 1))))]⟩,
     ⟨some kk13, none, none, .buildSl 62 3 32 1 [(.int .i64 (.ofNat 0)), (.str 0 0), (.int .i64 (.ofNat 0))] [(0, (.t kk12))]⟩,
     ⟨some kk14, none, none, .app 62 3 32 (.t kk10) (.t kk13)⟩,
     ⟨some kk1, none, none, .mov (.t kk14)⟩])))
   (.region false [⟨some kk15, none, none, .bin .add (.t kk6) (.c (.int .i64 (.ofNat 1)))⟩,
    ⟨some kk6, none, none, .mov (.t kk15)⟩])))))))
 (.seq (.region false [⟨some kk16, none, none, .mov (.t kk1)⟩,
  ⟨some kk0, none, none, .mov (.t kk16)⟩])
 .ret)))) }
theorem fn49 : fnOf Tryz.prog Tryz.f49 = some i49 := by kernel_rfl
noncomputable def i50 : IFn := { nt := 9, ps := [kk0, kk1], res := [.tmp kk4], body :=
 (.seq (cR [ oC kk4 (.bool false)])
 (.seq (cR [ oM kk5 kk0,
 oM kk6 kk1,
 oP kk7 (.call 102 [(t5), (t6)]),
 oP kk8 (.bin .geq (t7) (.c (nI (0)))),
 oM kk4 kk8])
 .ret)) }
theorem fn50 : fnOf Tryz.prog Tryz.f50 = some i50 := by kernel_rfl
noncomputable def i51 : IFn := { nt := 8, ps := [kk0, kk1], res := [.tmp kk3], body :=
 (.seq (cR [ oP kk2 (.box 150 2 40 (t0)),
 oC kk3 (.bool false)])
 (.seq (cR [ oP kk4 (.offs (t2) 0),
 oP kk5 (.load 1 false (t4)),
 oP kk6 (.load 1 false (t1)),
 oP kk7 (.bin .eql (t5) (t6)),
 oM kk3 kk7])
 .ret)) }
theorem fn51 : fnOf Tryz.prog Tryz.f51 = some i51 := by kernel_rfl
noncomputable def i52 : IFn := { nt := 72, ps := [kk0], res := [], body :=
 (.seq (cR [ oM kk6 kk0,
 oM kk7 kk0,
 oP kk8 (.nilck (t7)),
 oP kk9 (.offs (t8) 0),
 oP kk10 (.offs (t9) 1),
 oP kk11 (.load 1 false (t10)),
 oP kk12 (.len (t11)),
 oP kk13 (.mksl 3 1 8 [(nI (0))] (t12) (t12)),
 oP kk14 (.nilck (t6)),
 oP kk15 (.offs (t14) 8),
 oN (.store 1 (t15) (t13))])
 (.seq (.seq (cR [ oM kk16 kk0,
 oP kk17 (.nilck (t16)),
 oP kk18 (.offs (t17) 8),
 oP kk19 (.load 1 false (t18)),
 oP kk20 (.len (t19)),
 oC kk21 (nI 0)])
 (.block 0 (.loop (.seq (cR [ oP kk22 (.bin .lss (t21) (t20))])
 (.seq (.cond (t22)
 .skip
 (.exit 0))
 (.seq (.block 1 (.seq (cR [ oM kk23 kk21,
 oM kk2 kk23])
 (cD [ oM kk24 kk0,
 oP kk25 (.nilck (t24)),
 oP kk26 (.offs (t25) 8),
 oQ kk27 [] (.load 1 false (t26)),
 oM kk28 kk2,
 oM kk29 kk0,
 oP kk30 (.nilck (t29)),
 oP kk31 (.offs (t30) 7),
 oQ kk32 [0] (.load 1 false (t31)),
 oP kk33 (.len (t32)),
 oP kk34 (.idxSl 1 (t27) (t28)),
 ⟨none, none, some [], .store 1 (t34) (t33)⟩])))
 (cR [ oP kk35 (.bin .add (t21) (.c (nI (1)))),
 oM kk21 kk35])))))))
 (.seq (cR [ oM kk36 kk0,
 oP kk37 (.nilck (t36)),
 oP kk38 (.offs (t37) 0),
 oP kk39 (.offs (t38) 3),
 oP kk40 (.load 1 false (t39)),
 oP kk41 (.len (t40)),
 oC kk42 (nI 0)])
 (.block 2 (.loop (.seq (cR [ oP kk43 (.bin .lss (t42) (t41))])
 (.seq (.cond (t43)
 .skip
 (.exit 2))
 (.seq (.block 3 (.seq (cR [ oM kk44 kk42,
 oP kk45 (.idxSl 4 (t40) (t42)),
 oP kk46 (.load 4 true (t45)),
 oP kk4 (.boxz 148 4 48 [(.bool false), (.str 0 0), (.str 0 0), (nI (0))]),
 oM kk3 kk44,
 oN (.store 4 (t4) (t46))])
 (.seq (.seq (cR [ oM kk47 kk3,
 oP kk48 (.bin .eql (t47) (.c (nI (0))))])
 (.cond (t48)
 (.exit 3)
 .skip))
 (.seq (cD [ oM kk49 kk0,
 oP kk50 (.nilck (t49)),
 oP kk51 (.offs (t50) 0),
 oP kk52 (.offs (t51) 1),
 oQ kk53 [] (.load 1 false (t52)),
 oP kk54 (.offs (t4) 3),
 oQ kk55 [0] (.load 1 false (t54)),
 oQ kk56 [] (.call 103 [(t53), (t55)]),
 oM kk5 kk56])
 (.block 4 (.loop (.seq (.seq (cR [ oM kk57 kk5,
 oP kk58 (.offs (t4) 3),
 oP kk59 (.load 1 false (t58)),
 oP kk60 (.bin .leq (t57) (t59))])
 (.cond (t60)
 .skip
 (.exit 4)))
 (.seq (.block 5 (cR [ oM kk63 kk0,
 oP kk64 (.nilck (t63)),
 oP kk65 (.offs (t64) 8),
 oP kk66 (.load 1 false (t65)),
 oM kk67 kk5,
 oM kk68 kk3,
 oP kk69 (.bin .add (t68) (.c (nI (1)))),
 oP kk70 (.idxSl 1 (t66) (t67)),
 oN (.store 1 (t70) (t69))]))
 (cR [ oM kk61 kk5,
 oP kk62 (.bin .add (t61) (.c (nI (1)))),
 oM kk5 kk62])))))))))
 (cR [ oP kk71 (.bin .add (t42) (.c (nI (1)))),
 oM kk42 kk71]))))))))) }
theorem fn52 : fnOf Tryz.prog Tryz.f52 = some i52 := by kernel_rfl
noncomputable def i53 : IFn := { nt := 66, ps := [kk0, kk1, kk2], res := [.tmp kk6, .tmp kk7], body :=
 (.seq (cR [ oP kk4 (.box 155 8 88 (t1)),
 oC kk6 (nI 0),
 oC kk7 (nI 0)])
 (.seq (cR [ oC kk8 (.int .i64 (.negSucc 0)),
 oC kk9 (nI 0)])
 (.seq (.seq (cR [ oM kk14 kk0,
 oP kk15 (.nilck (t14)),
 oP kk16 (.offs (t15) 7),
 oP kk17 (.load 1 false (t16)),
 oM kk18 kk2,
 oP kk19 (.slSl 2 (t17) none (some (t18))),
 oP kk20 (.len (t19)),
 oC kk21 (nI 0)])
 (.block 0 (.loop (.seq (cR [ oP kk22 (.bin .lss (t21) (t20))])
 (.seq (.cond (t22)
 .skip
 (.exit 0))
 (.seq (.block 1 (.seq (cR [ oP kk23 (.idxSl 2 (t19) (t21)),
 oP kk24 (.load 2 true (t23)),
 oP kk11 (.boxz 150 2 40 [(.str 0 0), .nilslice]),
 oN (.store 2 (t11) (t24))])
 (.seq (cR [ oP kk25 (.offs (t11) 1),
 oP kk26 (.load 1 false (t25)),
 oP kk27 (.len (t26)),
 oC kk28 (nI 0)])
 (.block 2 (.loop (.seq (cR [ oP kk29 (.bin .lss (t28) (t27))])
 (.seq (.cond (t29)
 .skip
 (.exit 2))
 (.seq (.block 3 (.seq (cR [ oP kk30 (.idxSl 3 (t26) (t28)),
 oP kk31 (.load 3 true (t30)),
 oP kk13 (.boxz 62 3 32 [(nI (0)), (.str 0 0), (nI (0))]),
 oN (.store 3 (t13) (t31))])
 (.seq (.seq (cR [ oP kk32 (.offs (t13) 1),
 oP kk33 (.load 1 false (t32)),
 oP kk34 (.offs (t4) 4),
 oP kk35 (.load 1 false (t34)),
 oP kk36 (.bin .eql (t33) (t35)),
 oM kk37 kk36,
 oX kk38 kk37 true (.offs (t4) 3),
 oX kk39 kk37 true (.load 1 false (t38)),
 oX kk40 kk37 true (.bin .eql (t39) (.c (.str 0 0))),
 oG kk41 kk37 true kk40,
 oX kk42 kk41 false (.offs (t4) 3),
 oX kk43 kk41 false (.load 1 false (t42)),
 oX kk44 kk41 false (.offs (t11) 0),
 oX kk45 kk41 false (.load 1 false (t44)),
 oX kk46 kk41 false (.bin .eql (t43) (t45)),
 oX kk47 kk37 true (.pick (t41) (.c (.bool true)) (t46)),
 oP kk48 (.pick (t37) (t47) (.c (.bool false)))])
 (.cond (t48)
 (.seq (.seq (cR [ oM kk49 kk8,
 oP kk50 (.bin .geq (t49) (.c (nI (0)))),
 oM kk51 kk50,
 oX kk52 kk51 true (.offs (t4) 3),
 oX kk53 kk51 true (.load 1 false (t52)),
 oX kk54 kk51 true (.bin .eql (t53) (.c (.str 0 0))),
 oP kk55 (.pick (t51) (t54) (.c (.bool false)))])
 (.cond (t55)
 (.seq (cR [ oC kk6 (nI 0),
 oC kk7 (nI 9)])
 .ret)
 .skip))
 (.seq (cR [ oM kk56 kk8,
 oP kk57 (.bin .lss (t56) (.c (nI (0))))])
 (.cond (t57)
 (cR [ oM kk58 kk9,
 oM kk8 kk58])
 .skip)))
 .skip))
 (cR [ oM kk59 kk9,
 oP kk60 (.bin .add (t59) (.c (nI (1)))),
 oM kk9 kk60]))))
 (cR [ oP kk61 (.bin .add (t28) (.c (nI (1)))),
 oM kk28 kk61])))))))))
 (cR [ oP kk62 (.bin .add (t21) (.c (nI (1)))),
 oM kk21 kk62])))))))
 (.seq (.seq (cR [ oM kk63 kk8,
 oP kk64 (.bin .lss (t63) (.c (nI (0))))])
 (.cond (t64)
 (.seq (cR [ oC kk6 (nI 0),
 oC kk7 (nI 8)])
 .ret)
 .skip))
 (.seq (cR [ oM kk65 kk8,
 oM kk6 kk65,
 oC kk7 (nI 0)])
 .ret))))) }
theorem fn53 : fnOf Tryz.prog Tryz.f53 = some i53 := by kernel_rfl
noncomputable def i54 : IFn := { nt := 16, ps := [kk0], res := [.tmp kk2], body :=
 (.seq (cR [ oC kk2 (.bool false)])
 (.seq (cR [ oM kk3 kk0,
 oP kk4 (.nilck (t3)),
 oP kk5 (.offs (t4) 0),
 oP kk6 (.offs (t5) 5),
 oP kk7 (.load 1 false (t6)),
 oM kk8 kk7,
 oG kk9 kk8 false kk0,
 oX kk10 kk8 false (.nilck (t9)),
 oX kk11 kk8 false (.offs (t10) 0),
 oX kk12 kk8 false (.offs (t11) 2),
 oX kk13 kk8 false (.load 1 false (t12)),
 oX kk14 kk8 false (.call 104 [(t13), (.c (.func 105 [] []))]),
 oP kk15 (.pick (t8) (.c (.bool true)) (t14)),
 oM kk2 kk15])
 .ret)) }
theorem fn54 : fnOf Tryz.prog Tryz.f54 = some i54 := by kernel_rfl
noncomputable def i55 : IFn := { nt := 23, ps := [kk0, kk1], res := [.tmp kk4], body :=
 (.seq (cR [ oP kk2 (.box 98 1 8 (t0)),
 oP kk3 (.box 159 3 32 (t1)),
 oC kk4 (nI 0)])
 (.seq (.seq (cD [ oQ kk5 [] (.load 1 false (t2)),
 oP kk6 (.nilck (t5)),
 oP kk7 (.offs (t6) 0),
 oP kk8 (.offs (t7) 1),
 oQ kk9 [] (.load 1 false (t8)),
 oP kk10 (.offs (t3) 1),
 oQ kk11 [0, 1] (.load 1 false (t10)),
 oP kk12 (.idxSl 8 (t9) (t11)),
 oP kk13 (.offs (t12) 0),
 oQ kk14 [] (.load 1 false (t13)),
 oP kk15 (.bin .neq (t14) (.c (nI (2))))])
 (.cond (t15)
 (.seq (cR [ oC kk4 (.int .i64 (.negSucc 0))])
 .ret)
 .skip))
 (.seq (cR [ oP kk16 (.load 1 false (t2)),
 oP kk17 (.nilck (t16)),
 oP kk18 (.offs (t17) 0),
 oP kk19 (.offs (t18) 6),
 oP kk20 (.load 1 false (t19)),
 oP kk21 (.mkfn 107 [] [(t2), (t3)]),
 oP kk22 (.call 106 [(t20), (t21)]),
 oM kk4 kk22])
 .ret))) }
theorem fn55 : fnOf Tryz.prog Tryz.f55 = some i55 := by kernel_rfl
noncomputable def i56 : IFn := { nt := 47, ps := [kk0, kk1, kk2], res := [.cell kk6 7 true], body :=
 (.seq (cR [ oP kk3 (.box 155 8 88 (t0)),
 oP kk6 (.boxz 162 7 64 [(nI (0)), (nI (0)), (nI (0)), (nI (0)), (nI (0)), (nI (0)), (.str 0 0)])])
 (.seq (cD [ oP kk9 (.offs (t3) 1),
 oQ kk10 [] (.load 1 false (t9)),
 oM kk11 kk2,
 oP kk12 (.bin .add (t10) (t11)),
 oP kk13 (.offs (t3) 2),
 oQ kk14 [0] (.load 1 false (t13)),
 oM kk15 kk2,
 oP kk16 (.bin .add (t14) (t15)),
 oM kk7 kk12,
 oM kk8 kk16])
 (.seq (.seq (cR [ oP kk17 (.offs (t3) 0),
 oP kk18 (.load 1 false (t17))])
 (.block 0 (.seq (cR [ oP kk20 (.bin .eql (t18) (.c (nI (1)))),
 oM kk19 kk20])
 (.cond (t19)
 (.seq (cR [ oP kk21 (.offs (t3) 5),
 oP kk22 (.load 3 true (t21)),
 oP kk23 (.build [(nI (0)), (nI (0)), (nI (0)), (nI (0)), (nI (0)), (nI (0)), (.str 0 0)] [(0, 1, (.c (nI (1)))), (4, 3, (t22))]),
 oN (.store 7 (t6) (t23))])
 .ret)
 (.seq (cR [ oP kk25 (.bin .eql (t18) (.c (nI (2)))),
 oM kk24 kk25])
 (.cond (t24)
 (.seq (cR [ oM kk26 kk1,
 oP kk27 (.build [(nI (0)), (nI (0)), (nI (0)), (nI (0)), (nI (0)), (nI (0)), (.str 0 0)] [(0, 1, (.c (nI (2)))), (3, 1, (t26))]),
 oN (.store 7 (t6) (t27))])
 .ret)
 (.seq (cR [ oP kk29 (.bin .eql (t18) (.c (nI (8)))),
 oM kk28 kk29])
 (.cond (t28)
 (.seq (cR [ oM kk30 kk8,
 oM kk31 kk7,
 oP kk32 (.build [(nI (0)), (nI (0)), (nI (0)), (nI (0)), (nI (0)), (nI (0)), (.str 0 0)] [(0, 1, (.c (nI (7)))), (1, 1, (t30)), (2, 1, (t31))]),
 oN (.store 7 (t6) (t32))])
 .ret)
 (.seq (cR [ oP kk34 (.bin .eql (t18) (.c (nI (11)))),
 oM kk33 kk34])
 (.cond (t33)
 (.seq (cR [ oM kk35 kk7,
 oP kk36 (.build [(nI (0)), (nI (0)), (nI (0)), (nI (0)), (nI (0)), (nI (0)), (.str 0 0)] [(0, 1, (.c (nI (10)))), (1, 1, (t35))]),
 oN (.store 7 (t6) (t36))])
 .ret)
 (.seq (cR [ oP kk38 (.bin .eql (t18) (.c (nI (12)))),
 oM kk37 kk38])
 (.cond (t37)
 (.seq (cR [ oM kk39 kk7,
 oP kk40 (.build [(nI (0)), (nI (0)), (nI (0)), (nI (0)), (nI (0)), (nI (0)), (.str 0 0)] [(0, 1, (.c (nI (11)))), (1, 1, (t39))]),
 oN (.store 7 (t6) (t40))])
 .ret)
 .skip))))))))))))
 (.seq (cR [ oP kk41 (.offs (t3) 0),
 oP kk42 (.load 1 false (t41)),
 oP kk43 (.call 108 [(t42)]),
 oM kk44 kk7,
 oM kk45 kk8,
 oP kk46 (.build [(nI (0)), (nI (0)), (nI (0)), (nI (0)), (nI (0)), (nI (0)), (.str 0 0)] [(0, 1, (t43)), (1, 1, (t44)), (2, 1, (t45))]),
 oN (.store 7 (t6) (t46))])
 .ret)))) }
theorem fn56 : fnOf Tryz.prog Tryz.f56 = some i56 := by kernel_rfl
noncomputable def i57 : IFn := { nt := 111, ps := [kk0, kk1, kk2, kk3], res := [.tmp kk8], body :=
 (.seq (cR [ oC kk8 (nI 0)])
 (.seq (cR [ oM kk17 kk2,
 oP kk18 (.build [(nI (0)), (nI (0)), (nI (0)), (nI (0)), (.str 0 0), .nilslice, .nilslice] [(0, 1, (.c (nI (10)))), (1, 1, (t17))]),
 oP kk9 (.boxz 69 7 96 [(nI (0)), (nI (0)), (nI (0)), (nI (0)), (.str 0 0), .nilslice, .nilslice]),
 oN (.store 7 (t9) (t18))])
 (.seq (.seq (cR [ oM kk19 kk1,
 oP kk20 (.nilck (t19)),
 oP kk21 (.offs (t20) 0),
 oP kk22 (.offs (t21) 6),
 oP kk23 (.load 1 false (t22)),
 oP kk24 (.len (t23)),
 oC kk25 (nI 0)])
 (.block 0 (.loop (.seq (cR [ oP kk26 (.bin .lss (t25) (t24))])
 (.seq (.cond (t26)
 .skip
 (.exit 0))
 (.seq (.block 1 (.seq (cR [ oP kk27 (.idxSl 1 (t23) (t25)),
 oP kk28 (.load 1 false (t27)),
 oM kk11 kk28])
 (cR [ oP kk29 (.offs (t9) 5),
 oP kk30 (.load 1 false (t29)),
 oM kk31 kk11,
 oM kk32 kk3,
 oP kk33 (.bin .add (t31) (t32)),
 oP kk34 (.buildSl 3 1 8 1 [(nI (0))] [(0, (t33))]),
 oP kk35 (.app 3 1 8 (t30) (t34)),
 oP kk36 (.offs (t9) 5),
 oN (.store 1 (t36) (t35))])))
 (cR [ oP kk37 (.bin .add (t25) (.c (nI (1)))),
 oM kk25 kk37])))))))
 (.seq (cR [ oP kk38 (.build [(nI (0)), (nI (0)), (nI (0)), (nI (0)), (.str 0 0), .nilslice, .nilslice] [(0, 1, (.c (nI (3))))]),
 oP kk12 (.boxz 69 7 96 [(nI (0)), (nI (0)), (nI (0)), (nI (0)), (.str 0 0), .nilslice, .nilslice]),
 oN (.store 7 (t12) (t38))])
 (.seq (.seq (cR [ oM kk39 kk1,
 oP kk40 (.nilck (t39)),
 oP kk41 (.offs (t40) 0),
 oP kk42 (.offs (t41) 2),
 oP kk43 (.load 1 false (t42)),
 oP kk44 (.len (t43)),
 oC kk45 (nI 0)])
 (.block 2 (.loop (.seq (cR [ oP kk46 (.bin .lss (t45) (t44))])
 (.seq (.cond (t46)
 .skip
 (.exit 2))
 (.seq (.block 3 (.seq (cR [ oP kk47 (.idxSl 3 (t43) (t45)),
 oP kk48 (.load 3 true (t47)),
 oP kk14 (.boxz 159 3 32 [(nI (0)), (nI (0)), (.str 0 0)]),
 oN (.store 3 (t14) (t48))])
 (.seq (cR [ oC kk15 (nI 0)])
 (.seq (.seq (cR [ oP kk49 (.offs (t14) 0),
 oP kk50 (.load 1 false (t49)),
 oP kk51 (.bin .eql (t50) (.c (nI (0))))])
 (.cond (t51)
 (cR [ oM kk52 kk1,
 oP kk53 (.load 3 true (t14)),
 oP kk54 (.call 55 [(t52), (t53)]),
 oM kk15 kk54])
 (.seq (cR [ oP kk55 (.offs (t14) 0),
 oP kk56 (.load 1 false (t55)),
 oP kk57 (.build [(nI (0)), (nI (0))] [(0, 1, (t56))]),
 oP kk16 (.boxz 221 2 16 [(nI (0)), (nI (0))]),
 oN (.store 2 (t16) (t57))])
 (.seq (.seq (cR [ oP kk58 (.offs (t14) 0),
 oP kk59 (.load 1 false (t58)),
 oP kk60 (.bin .neq (t59) (.c (nI (1))))])
 (.cond (t60)
 (cR [ oP kk61 (.offs (t14) 1),
 oP kk62 (.load 1 false (t61)),
 oM kk63 kk3,
 oP kk64 (.bin .add (t62) (t63)),
 oP kk65 (.offs (t16) 1),
 oN (.store 1 (t65) (t64))])
 .skip))
 (.seq (cR [ oP kk66 (.offs (t9) 5),
 oP kk67 (.load 1 false (t66)),
 oP kk68 (.len (t67)),
 oP kk69 (.offs (t9) 6),
 oP kk70 (.load 1 false (t69)),
 oP kk71 (.len (t70)),
 oP kk72 (.bin .add (t68) (t71)),
 oM kk15 kk72])
 (cR [ oP kk73 (.offs (t9) 6),
 oP kk74 (.load 1 false (t73)),
 oP kk75 (.load 2 true (t16)),
 oP kk76 (.buildSl 221 2 16 1 [(nI (0)), (nI (0))] [(0, (t75))]),
 oP kk77 (.app 221 2 16 (t74) (t76)),
 oP kk78 (.offs (t9) 6),
 oN (.store 1 (t78) (t77))]))))))
 (.seq (cD [ oP kk79 (.offs (t12) 5),
 oQ kk80 [] (.load 1 false (t79)),
 oM kk81 kk0,
 oP kk82 (.nilck (t81)),
 oP kk83 (.offs (t82) 0),
 oP kk84 (.offs (t83) 1),
 oQ kk85 [0] (.load 1 false (t84)),
 oP kk86 (.len (t85)),
 oQ kk87 [1] (.buildSl 3 1 8 1 [(nI (0))] [(0, (t86))]),
 oQ kk88 [] (.app 3 1 8 (t80) (t87)),
 oP kk89 (.offs (t12) 5),
 ⟨none, none, some [], .store 1 (t89) (t88)⟩])
 (cR [ oM kk90 kk0,
 oM kk91 kk0,
 oP kk92 (.nilck (t91)),
 oP kk93 (.offs (t92) 0),
 oP kk94 (.offs (t93) 1),
 oP kk95 (.load 1 false (t94)),
 oM kk96 kk15,
 oP kk97 (.build [(nI (0)), (nI (0)), (nI (0)), (nI (0)), (nI (0)), (nI (0)), (.str 0 0)] [(0, 1, (.c (nI (2)))), (3, 1, (t96))]),
 oP kk98 (.buildSl 162 7 64 1 [(nI (0)), (nI (0)), (nI (0)), (nI (0)), (nI (0)), (nI (0)), (.str 0 0)] [(0, (t97))]),
 oP kk99 (.app 162 7 64 (t95) (t98)),
 oP kk100 (.nilck (t90)),
 oP kk101 (.offs (t100) 0),
 oP kk102 (.offs (t101) 1),
 oN (.store 1 (t102) (t99))]))))))
 (cR [ oP kk103 (.bin .add (t45) (.c (nI (1)))),
 oM kk45 kk103])))))))
 (.seq (cR [ oM kk104 kk0,
 oP kk105 (.load 7 true (t9)),
 oP kk106 (.call 28 [(t104), (t105)]),
 oP kk107 (.offs (t12) 1),
 oN (.store 1 (t107) (t106))])
 (.seq (cR [ oM kk108 kk0,
 oP kk109 (.load 7 true (t12)),
 oP kk110 (.call 28 [(t108), (t109)]),
 oM kk8 kk110])
 .ret))))))) }
theorem fn57 : fnOf Tryz.prog Tryz.f57 = some i57 := by kernel_rfl
noncomputable def i58 : IFn := { nt := 43, ps := [kk0, kk1], res := [.tmp kk4], body :=
 (.seq (cR [ oP kk2 (.box 97 7 120 (t0)),
 oP kk3 (.box 159 3 32 (t1)),
 oC kk4 (.str 0 0)])
 (.seq (.block 0 (.seq (cR [ oP kk6 (.offs (t3) 2),
 oP kk7 (.load 1 false (t6)),
 oP kk8 (.bin .neq (t7) (.c (.str 0 0))),
 oM kk5 kk8])
 (.cond (t5)
 (.seq (cR [ oP kk9 (.offs (t3) 2),
 oP kk10 (.load 1 false (t9)),
 oM kk4 kk10])
 .ret)
 (.seq (cR [ oP kk12 (.offs (t3) 0),
 oP kk13 (.load 1 false (t12)),
 oP kk14 (.bin .eql (t13) (.c (nI (1)))),
 oM kk11 kk14])
 (.cond (t11)
 (.seq (cR [ oC kk4 (.str 5 500069396323)])
 .ret)
 (.seq (cR [ oP kk16 (.offs (t3) 0),
 oP kk17 (.load 1 false (t16)),
 oP kk18 (.bin .eql (t17) (.c (nI (2)))),
 oM kk15 kk18])
 (.cond (t15)
 (.seq (cR [ oC kk4 (.str 3 7173491)])
 .ret)
 (.seq (cR [ oP kk20 (.offs (t3) 0),
 oP kk21 (.load 1 false (t20)),
 oP kk22 (.bin .eql (t21) (.c (nI (3)))),
 oM kk19 kk22])
 (.cond (t19)
 (.seq (cR [ oC kk4 (.str 3 7235949)])
 .ret)
 (.seq (cR [ oP kk24 (.offs (t3) 0),
 oP kk25 (.load 1 false (t24)),
 oP kk26 (.bin .eql (t25) (.c (nI (4)))),
 oM kk23 kk26])
 (.cond (t23)
 (.seq (cR [ oC kk4 (.str 3 7889261)])
 .ret)
 (.seq (cR [ oP kk28 (.offs (t2) 1),
 oP kk29 (.load 1 false (t28)),
 oP kk30 (.offs (t3) 1),
 oP kk31 (.load 1 false (t30)),
 oP kk32 (.idxSl 8 (t29) (t31)),
 oP kk33 (.offs (t32) 0),
 oP kk34 (.load 1 false (t33)),
 oP kk35 (.bin .eql (t34) (.c (nI (2)))),
 oM kk27 kk35])
 (.cond (t27)
 (.seq (cR [ oP kk36 (.offs (t2) 1),
 oP kk37 (.load 1 false (t36)),
 oP kk38 (.offs (t3) 1),
 oP kk39 (.load 1 false (t38)),
 oP kk40 (.idxSl 8 (t37) (t39)),
 oP kk41 (.offs (t40) 4),
 oP kk42 (.load 1 false (t41)),
 oM kk4 kk42])
 .ret)
 .skip)))))))))))))
 (.seq (cR [ oC kk4 (.str 4 1919973477)])
 .ret))) }
theorem fn58 : fnOf Tryz.prog Tryz.f58 = some i58 := by kernel_rfl
noncomputable def i59 : IFn := { nt := 70, ps := [kk0, kk1], res := [.tmp kk4, .tmp kk5], body :=
 (.seq (cR [ oP kk2 (.box 43 2 48 (t0)),
 oC kk4 .nilslice,
 oC kk5 (nI 0)])
 (.seq (.seq (cR [ oP kk11 (.offs (t2) 0),
 oP kk12 (.load 1 false (t11)),
 oP kk13 (.len (t12)),
 oP kk14 (.bin .eql (t13) (.c (nI (0)))),
 oM kk15 kk14,
 oX kk16 kk15 false (.offs (t2) 0),
 oX kk17 kk15 false (.load 1 false (t16)),
 oX kk18 kk15 false (.len (t17)),
 oX kk19 kk15 false (.bin .gtr (t18) (.c (nI (40)))),
 oP kk20 (.pick (t15) (.c (.bool true)) (t19)),
 oM kk21 kk20,
 oX kk22 kk21 false (.offs (t2) 1),
 oX kk23 kk21 false (.load 1 false (t22)),
 oX kk24 kk21 false (.len (t23)),
 oX kk25 kk21 false (.bin .gtr (t24) (.c (nI (200)))),
 oP kk26 (.pick (t21) (.c (.bool true)) (t25))])
 (.cond (t26)
 (.seq (cR [ oC kk4 .nilslice,
 oC kk5 (nI 4)])
 .ret)
 .skip))
 (.seq (cR [ oP kk27 (.load 2 true (t2)),
 oM kk28 kk1,
 oP kk29 (.build [.nilslice, .nilslice, .nilslice, .nilslice] [(0, 2, (t27)), (2, 1, (t28))]),
 oP kk30 (.box 224 4 96 (t29)),
 oM kk6 kk30])
 (.seq (.seq (cR [ oP kk31 (.offs (t2) 0),
 oP kk32 (.load 1 false (t31)),
 oP kk33 (.len (t32)),
 oC kk34 (nI 0)])
 (.block 0 (.loop (.seq (cR [ oP kk35 (.bin .lss (t34) (t33))])
 (.seq (.cond (t35)
 .skip
 (.exit 0))
 (.seq (.block 1 (.seq (cR [ oP kk36 (.idxSl 7 (t32) (t34)),
 oP kk37 (.load 7 true (t36)),
 oP kk8 (.boxz 69 7 96 [(nI (0)), (nI (0)), (nI (0)), (nI (0)), (.str 0 0), .nilslice, .nilslice]),
 oN (.store 7 (t8) (t37))])
 (.seq (cR [ oM kk39 kk6,
 oP kk40 (.load 7 true (t8)),
 oP kk41 (.call 109 [(t39), (t40)]),
 oM kk38 kk41,
 oP kk42 (.extr (t38) 0),
 oP kk43 (.extr (t38) 1),
 oM kk9 kk42,
 oM kk10 kk43])
 (.seq (.seq (cR [ oM kk44 kk10,
 oP kk45 (.bin .neq (t44) (.c (nI (0))))])
 (.cond (t45)
 (.seq (cR [ oM kk46 kk10,
 oC kk4 .nilslice,
 oM kk5 kk46])
 .ret)
 .skip))
 (.seq (.seq (cR [ oM kk47 kk9,
 oP kk48 (.len (t47)),
 oP kk49 (.bin .eql (t48) (.c (nI (0)))),
 oM kk50 kk49,
 oG kk51 kk50 false kk9,
 oX kk52 kk50 false (.len (t51)),
 oX kk53 kk50 false (.bin .gtr (t52) (.c (nI (64)))),
 oP kk54 (.pick (t50) (.c (.bool true)) (t53))])
 (.cond (t54)
 (.seq (cR [ oC kk4 .nilslice,
 oC kk5 (nI 4)])
 .ret)
 .skip))
 (cR [ oM kk55 kk6,
 oM kk56 kk6,
 oP kk57 (.nilck (t56)),
 oP kk58 (.offs (t57) 3),
 oP kk59 (.load 1 false (t58)),
 oM kk60 kk9,
 oP kk61 (.buildSl 27 1 24 1 [.nilslice] [(0, (t60))]),
 oP kk62 (.app 27 1 24 (t59) (t61)),
 oP kk63 (.nilck (t55)),
 oP kk64 (.offs (t63) 3),
 oN (.store 1 (t64) (t62))]))))))
 (cR [ oP kk65 (.bin .add (t34) (.c (nI (1)))),
 oM kk34 kk65])))))))
 (.seq (cR [ oM kk66 kk6,
 oP kk67 (.nilck (t66)),
 oP kk68 (.offs (t67) 3),
 oP kk69 (.load 1 false (t68)),
 oM kk4 kk69,
 oC kk5 (nI 0)])
 .ret))))) }
theorem fn59 : fnOf Tryz.prog Tryz.f59 = some i59 := by kernel_rfl
noncomputable def i60 : IFn := { nt := 8, ps := [kk0], res := [.tmp kk2], body :=
 (.seq (cR [ oC kk2 .nilslice])
 (.seq (.seq (cR [ oM kk3 kk0,
 oP kk4 (.eqv .slice false (t3) (.c .nilslice))])
 (.cond (t4)
 (.seq (cR [ oC kk2 .nilslice])
 .ret)
 .skip))
 (.seq (cR [ oP kk5 (.buildSl 3 1 8 0 [(nI (0))] []),
 oM kk6 kk0,
 oP kk7 (.app 3 1 8 (t5) (t6)),
 oM kk2 kk7])
 .ret))) }
theorem fn60 : fnOf Tryz.prog Tryz.f60 = some i60 := by kernel_rfl
noncomputable def i61 : IFn := { nt := 213, ps := [kk0], res := [.cell kk2 21 true], body :=
 (.seq (cR [ oP kk2 (.boxz 57 21 328 [(nI (0)), (nI (0)), (nI (0)), (nI (0)), .nilslice, .nilslice, (.str 0 0), (.str 0 0), .nilslice, (nI (0)), (nI (0)), .nilslice, (nI (0)), .nilslice, .nilslice, .nilslice, .nilslice, .nilslice, (nI (0)), (nI (0)), (nI (0))])])
 (.seq (.block 0 (.seq (cR [ oM kk13 kk0,
 oP kk14 (.call 84 [(t13), (.c (.str 6 92712327138889))]),
 oM kk12 kk14])
 (.cond (t12)
 (.seq (cR [ oM kk15 kk0,
 oP kk16 (.call 85 [(t15), (.c (.str 4 1330925129))])])
 (.seq (cR [ oM kk17 kk0,
 oP kk18 (.call 110 [(t17), (.c (nI (2)))]),
 oP kk19 (.build [(nI (0)), (nI (0)), (nI (0)), (nI (0)), .nilslice, .nilslice, (.str 0 0), (.str 0 0), .nilslice, (nI (0)), (nI (0)), .nilslice, (nI (0)), .nilslice, .nilslice, .nilslice, .nilslice, .nilslice, (nI (0)), (nI (0)), (nI (0))] [(0, 1, (.c (nI (2)))), (6, 1, (t18))]),
 oP kk3 (.boxz 57 21 328 [(nI (0)), (nI (0)), (nI (0)), (nI (0)), .nilslice, .nilslice, (.str 0 0), (.str 0 0), .nilslice, (nI (0)), (nI (0)), .nilslice, (nI (0)), .nilslice, .nilslice, .nilslice, .nilslice, .nilslice, (nI (0)), (nI (0)), (nI (0))]),
 oN (.store 21 (t3) (t19))])
 (.seq (cR [ oM kk20 kk0,
 oP kk21 (.call 85 [(t20), (.c (.str 6 91557248909654))])])
 (.seq (cR [ oM kk22 kk0,
 oP kk23 (.call 111 [(t22), (.c (.str 1 40))])])
 (.seq (cD [ oP kk24 (.offs (t3) 8),
 oQ kk25 [] (.load 1 false (t24)),
 oM kk26 kk0,
 oQ kk27 [0] (.call 112 [(t26)]),
 oQ kk28 [1] (.buildSl 153 3 32 1 [(nI (0)), (nI (0)), (.str 0 0)] [(0, (t27))]),
 oQ kk29 [] (.app 153 3 32 (t25) (t28)),
 oP kk30 (.offs (t3) 8),
 ⟨none, none, some [], .store 1 (t30) (t29)⟩])
 (.seq (.block 1 (.loop (.seq (.seq (cR [ oM kk31 kk0,
 oP kk32 (.call 113 [(t31), (.c (.str 1 44))])])
 (.cond (t32)
 .skip
 (.exit 1)))
 (.block 2 (cD [ oP kk33 (.offs (t3) 8),
 oQ kk34 [] (.load 1 false (t33)),
 oM kk35 kk0,
 oQ kk36 [0] (.call 112 [(t35)]),
 oQ kk37 [1] (.buildSl 153 3 32 1 [(nI (0)), (nI (0)), (.str 0 0)] [(0, (t36))]),
 oQ kk38 [] (.app 153 3 32 (t34) (t37)),
 oP kk39 (.offs (t3) 8),
 ⟨none, none, some [], .store 1 (t39) (t38)⟩])))))
 (.seq (cR [ oM kk40 kk0,
 oP kk41 (.call 111 [(t40), (.c (.str 1 41))])])
 (.seq (cR [ oM kk42 kk0,
 oP kk43 (.call 85 [(t42), (.c (.str 3 5394246))])])
 (.seq (cR [ oM kk44 kk0,
 oP kk45 (.call 114 [(t44)]),
 oP kk46 (.offs (t3) 9),
 oN (.store 2 (t46) (t45))])
 (.seq (cR [ oP kk47 (.load 21 true (t3)),
 oN (.store 21 (t2) (t47))])
 .ret))))))))))
 (.seq (cR [ oM kk49 kk0,
 oP kk50 (.call 84 [(t49), (.c (.str 6 76228242195780))]),
 oM kk48 kk50])
 (.cond (t48)
 (.seq (cR [ oM kk51 kk0,
 oP kk52 (.call 85 [(t51), (.c (.str 4 1297044038))])])
 (.seq (cR [ oM kk53 kk0,
 oP kk54 (.call 110 [(t53), (.c (nI (2)))]),
 oP kk55 (.build [(nI (0)), (nI (0)), (nI (0)), (nI (0)), .nilslice, .nilslice, (.str 0 0), (.str 0 0), .nilslice, (nI (0)), (nI (0)), .nilslice, (nI (0)), .nilslice, .nilslice, .nilslice, .nilslice, .nilslice, (nI (0)), (nI (0)), (nI (0))] [(0, 1, (.c (nI (3)))), (6, 1, (t54))]),
 oP kk4 (.boxz 57 21 328 [(nI (0)), (nI (0)), (nI (0)), (nI (0)), .nilslice, .nilslice, (.str 0 0), (.str 0 0), .nilslice, (nI (0)), (nI (0)), .nilslice, (nI (0)), .nilslice, .nilslice, .nilslice, .nilslice, .nilslice, (nI (0)), (nI (0)), (nI (0))]),
 oN (.store 21 (t4) (t55))])
 (.seq (cR [ oM kk56 kk0,
 oP kk57 (.call 115 [(t56), (t4)])])
 (.seq (cR [ oM kk58 kk0,
 oP kk59 (.call 116 [(t58), (t4)])])
 (.seq (cR [ oP kk60 (.load 21 true (t4)),
 oN (.store 21 (t2) (t60))])
 .ret)))))
 (.seq (cR [ oM kk62 kk0,
 oP kk63 (.call 84 [(t62), (.c (.str 6 76228174565461))]),
 oM kk61 kk63])
 (.cond (t61)
 (.seq (cR [ oM kk64 kk0,
 oP kk65 (.call 110 [(t64), (.c (nI (2)))]),
 oP kk66 (.build [(nI (0)), (nI (0)), (nI (0)), (nI (0)), .nilslice, .nilslice, (.str 0 0), (.str 0 0), .nilslice, (nI (0)), (nI (0)), .nilslice, (nI (0)), .nilslice, .nilslice, .nilslice, .nilslice, .nilslice, (nI (0)), (nI (0)), (nI (0))] [(0, 1, (.c (nI (4)))), (6, 1, (t65))]),
 oP kk5 (.boxz 57 21 328 [(nI (0)), (nI (0)), (nI (0)), (nI (0)), .nilslice, .nilslice, (.str 0 0), (.str 0 0), .nilslice, (nI (0)), (nI (0)), .nilslice, (nI (0)), .nilslice, .nilslice, .nilslice, .nilslice, .nilslice, (nI (0)), (nI (0)), (nI (0))]),
 oN (.store 21 (t5) (t66))])
 (.seq (cR [ oM kk67 kk0,
 oP kk68 (.call 115 [(t67), (t5)])])
 (.seq (cR [ oM kk69 kk0,
 oP kk70 (.call 85 [(t69), (.c (.str 3 5522771))])])
 (.seq (cR [ oM kk71 kk0,
 oP kk72 (.call 117 [(t71), (t5)])])
 (.seq (.block 3 (.loop (.seq (.seq (cR [ oM kk73 kk0,
 oP kk74 (.call 113 [(t73), (.c (.str 1 44))])])
 (.cond (t74)
 .skip
 (.exit 3)))
 (.block 4 (cR [ oM kk75 kk0,
 oP kk76 (.call 117 [(t75), (t5)])])))))
 (.seq (cR [ oM kk77 kk0,
 oP kk78 (.call 116 [(t77), (t5)])])
 (.seq (cR [ oP kk79 (.load 21 true (t5)),
 oN (.store 21 (t2) (t79))])
 .ret)))))))
 (.seq (cR [ oM kk81 kk0,
 oP kk82 (.call 84 [(t81), (.c (.str 6 76228174631491))]),
 oM kk80 kk82])
 (.cond (t80)
 (.seq (cR [ oM kk83 kk0,
 oP kk84 (.call 85 [(t83), (.c (.str 5 297632153940))])])
 (.seq (cR [ oM kk85 kk0,
 oP kk86 (.call 118 [(t85)]),
 oN (.store 21 (t2) (t86))])
 .ret))
 (.seq (cR [ oM kk88 kk0,
 oP kk89 (.call 84 [(t88), (.c (.str 5 353350470721))]),
 oM kk87 kk89])
 (.cond (t87)
 (.seq (cR [ oM kk90 kk0,
 oP kk91 (.call 85 [(t90), (.c (.str 5 297632153940))])])
 (.seq (cR [ oM kk92 kk0,
 oP kk93 (.call 110 [(t92), (.c (nI (2)))]),
 oP kk94 (.build [(nI (0)), (nI (0)), (nI (0)), (nI (0)), .nilslice, .nilslice, (.str 0 0), (.str 0 0), .nilslice, (nI (0)), (nI (0)), .nilslice, (nI (0)), .nilslice, .nilslice, .nilslice, .nilslice, .nilslice, (nI (0)), (nI (0)), (nI (0))] [(6, 1, (t93))]),
 oP kk6 (.boxz 57 21 328 [(nI (0)), (nI (0)), (nI (0)), (nI (0)), .nilslice, .nilslice, (.str 0 0), (.str 0 0), .nilslice, (nI (0)), (nI (0)), .nilslice, (nI (0)), .nilslice, .nilslice, .nilslice, .nilslice, .nilslice, (nI (0)), (nI (0)), (nI (0))]),
 oN (.store 21 (t6) (t94))])
 (.seq (.block 5 (.seq (cR [ oM kk98 kk0,
 oP kk99 (.call 84 [(t98), (.c (.str 3 4473921))]),
 oM kk97 kk99])
 (.cond (t97)
 (.seq (cR [ oP kk100 (.offs (t6) 0),
 oN (.store 1 (t100) (.c (nI (6))))])
 (cD [ oP kk101 (.offs (t6) 14),
 oQ kk102 [] (.load 1 false (t101)),
 oM kk103 kk0,
 oQ kk104 [0] (.call 119 [(t103)]),
 oQ kk105 [1] (.buildSl 62 3 32 1 [(nI (0)), (.str 0 0), (nI (0))] [(0, (t104))]),
 oQ kk106 [] (.app 62 3 32 (t102) (t105)),
 oP kk107 (.offs (t6) 14),
 ⟨none, none, some [], .store 1 (t107) (t106)⟩]))
 (.seq (cR [ oM kk109 kk0,
 oP kk110 (.call 84 [(t109), (.c (.str 4 1347375684))]),
 oM kk108 kk110])
 (.cond (t108)
 (.seq (cR [ oP kk111 (.offs (t6) 0),
 oN (.store 1 (t111) (.c (nI (7))))])
 (cR [ oM kk112 kk0,
 oP kk113 (.call 110 [(t112), (.c (nI (2)))]),
 oP kk114 (.offs (t6) 7),
 oN (.store 1 (t114) (t113))]))
 (cR [ oM kk95 kk0,
 oP kk96 (.call 86 [(t95), (.c (nI (5)))])]))))))
 (.seq (cR [ oP kk115 (.load 21 true (t6)),
 oN (.store 21 (t2) (t115))])
 .ret))))
 (.seq (cR [ oM kk117 kk0,
 oP kk118 (.call 84 [(t117), (.c (.str 4 1163151683))]),
 oM kk116 kk118])
 (.cond (t116)
 (.seq (cR [ oM kk119 kk0,
 oP kk120 (.call 40 [(t119)]),
 oP kk121 (.build [(nI (0)), (nI (0)), (nI (0)), (nI (0)), .nilslice, .nilslice, (.str 0 0), (.str 0 0), .nilslice, (nI (0)), (nI (0)), .nilslice, (nI (0)), .nilslice, .nilslice, .nilslice, .nilslice, .nilslice, (nI (0)), (nI (0)), (nI (0))] [(0, 1, (.c (nI (8)))), (4, 2, (t120))]),
 oP kk7 (.boxz 57 21 328 [(nI (0)), (nI (0)), (nI (0)), (nI (0)), .nilslice, .nilslice, (.str 0 0), (.str 0 0), .nilslice, (nI (0)), (nI (0)), .nilslice, (nI (0)), .nilslice, .nilslice, .nilslice, .nilslice, .nilslice, (nI (0)), (nI (0)), (nI (0))]),
 oN (.store 21 (t7) (t121))])
 (.seq (cR [ oM kk122 kk0,
 oP kk123 (.call 85 [(t122), (.c (.str 2 21569))])])
 (.seq (cR [ oM kk124 kk0,
 oP kk125 (.call 85 [(t124), (.c (.str 3 5849412))])])
 (.seq (cR [ oM kk126 kk0,
 oP kk127 (.call 120 [(t126)]),
 oP kk128 (.offs (t7) 2),
 oN (.store 1 (t128) (t127))])
 (.seq (cR [ oM kk129 kk0,
 oP kk130 (.call 121 [(t129)]),
 oP kk131 (.offs (t7) 3),
 oN (.store 1 (t131) (t130))])
 (.seq (cR [ oP kk132 (.load 21 true (t7)),
 oN (.store 21 (t2) (t132))])
 .ret))))))
 (.seq (cR [ oM kk134 kk0,
 oP kk135 (.call 84 [(t134), (.c (.str 6 83890396153170))]),
 oM kk133 kk135])
 (.cond (t133)
 (.seq (cR [ oP kk136 (.build [(nI (0)), (nI (0)), (nI (0)), (nI (0)), .nilslice, .nilslice, (.str 0 0), (.str 0 0), .nilslice, (nI (0)), (nI (0)), .nilslice, (nI (0)), .nilslice, .nilslice, .nilslice, .nilslice, .nilslice, (nI (0)), (nI (0)), (nI (0))] [(0, 1, (.c (nI (9))))]),
 oN (.store 21 (t2) (t136))])
 .ret)
 (.seq (cR [ oM kk138 kk0,
 oP kk139 (.call 84 [(t138), (.c (.str 4 1145851720))]),
 oM kk137 kk139])
 (.cond (t137)
 (.seq (cR [ oM kk140 kk0,
 oP kk141 (.call 122 [(t140), (.c (.int .i64 (.negSucc 0)))]),
 oP kk142 (.build [(nI (0)), (nI (0)), (nI (0)), (nI (0)), .nilslice, .nilslice, (.str 0 0), (.str 0 0), .nilslice, (nI (0)), (nI (0)), .nilslice, (nI (0)), .nilslice, .nilslice, .nilslice, .nilslice, .nilslice, (nI (0)), (nI (0)), (nI (0))] [(0, 1, (.c (nI (10)))), (18, 1, (t141))]),
 oP kk8 (.boxz 57 21 328 [(nI (0)), (nI (0)), (nI (0)), (nI (0)), .nilslice, .nilslice, (.str 0 0), (.str 0 0), .nilslice, (nI (0)), (nI (0)), .nilslice, (nI (0)), .nilslice, .nilslice, .nilslice, .nilslice, .nilslice, (nI (0)), (nI (0)), (nI (0))]),
 oN (.store 21 (t8) (t142))])
 (.seq (cR [ oM kk143 kk0,
 oP kk144 (.call 85 [(t143), (.c (.str 4 1297044038))])])
 (.seq (cR [ oM kk145 kk0,
 oP kk146 (.call 122 [(t145), (.c (.int .i64 (.negSucc 0)))]),
 oP kk147 (.offs (t8) 19),
 oP kk148 (.offs (t147) 0),
 oN (.store 1 (t148) (t146))])
 (.seq (cR [ oM kk149 kk0,
 oP kk150 (.call 85 [(t149), (.c (.str 2 20308))])])
 (.seq (.seq (cR [ oM kk151 kk0,
 oP kk152 (.call 84 [(t151), (.c (.str 5 327647776341))])])
 (.cond (t152)
 (cR [ oP kk153 (.offs (t8) 19),
 oP kk154 (.offs (t153) 1),
 oN (.store 1 (t154) (.c (nI (1099511627776))))])
 (cR [ oM kk155 kk0,
 oP kk156 (.offs (t8) 19),
 oP kk157 (.offs (t156) 0),
 oP kk158 (.load 1 false (t157)),
 oP kk159 (.call 122 [(t155), (t158)]),
 oP kk160 (.offs (t8) 19),
 oP kk161 (.offs (t160) 1),
 oN (.store 1 (t161) (t159))])))
 (.seq (cR [ oP kk162 (.load 21 true (t8)),
 oN (.store 21 (t2) (t162))])
 .ret))))))
 (.seq (cR [ oM kk164 kk0,
 oP kk165 (.call 84 [(t164), (.c (.str 7 19513313193641298))]),
 oM kk163 kk165])
 (.cond (t163)
 (.seq (cR [ oM kk166 kk0,
 oP kk167 (.call 122 [(t166), (.c (.int .i64 (.negSucc 0)))]),
 oP kk168 (.build [(nI (0)), (nI (0)), (nI (0)), (nI (0)), .nilslice, .nilslice, (.str 0 0), (.str 0 0), .nilslice, (nI (0)), (nI (0)), .nilslice, (nI (0)), .nilslice, .nilslice, .nilslice, .nilslice, .nilslice, (nI (0)), (nI (0)), (nI (0))] [(0, 1, (.c (nI (11)))), (18, 1, (t167))]),
 oN (.store 21 (t2) (t168))])
 .ret)
 (.seq (cR [ oM kk170 kk0,
 oP kk171 (.call 84 [(t170), (.c (.str 6 92656526053190))]),
 oM kk169 kk171])
 (.cond (t169)
 (.seq (cR [ oM kk172 kk0,
 oP kk173 (.call 85 [(t172), (.c (.str 5 374992553282))])])
 (.seq (cR [ oM kk174 kk0,
 oP kk175 (.call 122 [(t174), (.c (.int .i64 (.negSucc 0)))]),
 oP kk176 (.build [(nI (0)), (nI (0)), (nI (0)), (nI (0)), .nilslice, .nilslice, (.str 0 0), (.str 0 0), .nilslice, (nI (0)), (nI (0)), .nilslice, (nI (0)), .nilslice, .nilslice, .nilslice, .nilslice, .nilslice, (nI (0)), (nI (0)), (nI (0))] [(0, 1, (.c (nI (12)))), (18, 1, (t175))]),
 oN (.store 21 (t2) (t176))])
 .ret))
 .skip)))))))))))))))))))))
 (.seq (cR [ oP kk177 (.build [(nI (0)), (nI (0)), (nI (0)), (nI (0)), .nilslice, .nilslice, (.str 0 0), (.str 0 0), .nilslice, (nI (0)), (nI (0)), .nilslice, (nI (0)), .nilslice, .nilslice, .nilslice, .nilslice, .nilslice, (nI (0)), (nI (0)), (nI (0))] [(0, 1, (.c (nI (1)))), (1, 1, (.c (nI (1)))), (2, 1, (.c (.int .i64 (.negSucc 0))))]),
 oP kk9 (.boxz 57 21 328 [(nI (0)), (nI (0)), (nI (0)), (nI (0)), .nilslice, .nilslice, (.str 0 0), (.str 0 0), .nilslice, (nI (0)), (nI (0)), .nilslice, (nI (0)), .nilslice, .nilslice, .nilslice, .nilslice, .nilslice, (nI (0)), (nI (0)), (nI (0))]),
 oN (.store 21 (t9) (t177))])
 (.seq (cR [ oP kk178 (.build [(.str 0 0), (.str 0 0), (.str 0 0), (.str 0 0)] [(0, 1, (.c (.str 9 1278394416152443634006))), (1, 1, (.c (.str 10 327268970535064275469650))), (2, 1, (.c (.str 8 4993728188163313474))), (3, 1, (.c (.str 12 21128714391801252821743849294)))]),
 oP kk10 (.boxz 232 4 64 [(.str 0 0), (.str 0 0), (.str 0 0), (.str 0 0)]),
 oN (.store 4 (t10) (t178))])
 (.seq (.seq (cR [ oC kk11 (nI 0)])
 (.block 6 (.loop (.seq (.seq (cR [ oM kk179 kk11,
 oP kk180 (.bin .lss (t179) (.c (nI (4))))])
 (.cond (t180)
 .skip
 (.exit 6)))
 (.seq (.block 7 (.seq (cR [ oP kk183 (.offs (t9) 1),
 oP kk184 (.load 1 false (t183)),
 oP kk185 (.bin .eql (t184) (.c (nI (1)))),
 oM kk186 kk185,
 oG kk187 kk186 true kk0,
 oG kk188 kk186 true kk11,
 oX kk189 kk186 true (.idxArr 4 1 (t10) (t188)),
 oX kk190 kk186 true (.load 1 false (t189)),
 oX kk191 kk186 true (.call 84 [(t187), (t190)]),
 oP kk192 (.pick (t186) (t191) (.c (.bool false)))])
 (.cond (t192)
 (cR [ oM kk193 kk11,
 oP kk194 (.bin .add (.c (nI (2))) (t193)),
 oP kk195 (.offs (t9) 1),
 oN (.store 1 (t195) (t194))])
 .skip)))
 (cR [ oM kk181 kk11,
 oP kk182 (.bin .add (t181) (.c (nI (1)))),
 oM kk11 kk182]))))))
 (.seq (cR [ oM kk196 kk0,
 oP kk197 (.nilck (t196)),
 oP kk198 (.offs (t197) 5),
 oN (.store 1 (t198) (.c (.bool true)))])
 (.seq (cR [ oM kk199 kk0,
 oP kk200 (.call 40 [(t199)]),
 oP kk201 (.offs (t9) 4),
 oN (.store 2 (t201) (t200))])
 (.seq (.seq (cR [ oM kk202 kk0,
 oP kk203 (.call 84 [(t202), (.c (.str 2 21569))])])
 (.cond (t203)
 (.seq (cR [ oM kk204 kk0,
 oP kk205 (.call 85 [(t204), (.c (.str 3 5849412))])])
 (cR [ oM kk206 kk0,
 oP kk207 (.call 120 [(t206)]),
 oP kk208 (.offs (t9) 2),
 oN (.store 1 (t208) (t207))]))
 .skip))
 (.seq (cR [ oM kk209 kk0,
 oP kk210 (.call 121 [(t209)]),
 oP kk211 (.offs (t9) 3),
 oN (.store 1 (t211) (t210))])
 (.seq (cR [ oP kk212 (.load 21 true (t9)),
 oN (.store 21 (t2) (t212))])
 .ret)))))))))) }
theorem fn61 : fnOf Tryz.prog Tryz.f61 = some i61 := by kernel_rfl
noncomputable def i62 : IFn := { nt := 40, ps := [kk0, kk1], res := [], body :=
 (.seq (cR [ oP kk3 (.box 57 21 328 (t1))])
 (.seq (cR [ oM kk6 kk0,
 oP kk7 (.buildSl 9 1 16 2 [(.str 0 0)] [(0, (.c (.str 6 92712327138889))), (1, (.c (.str 4 1330925129)))]),
 oP kk8 (.call 87 [(t6), (t7)])])
 (.seq (cR [ oM kk9 kk0,
 oP kk10 (.offs (t3) 6),
 oP kk11 (.load 1 false (t10)),
 oP kk12 (.call 123 [(t9), (t11)])])
 (.seq (cR [ oM kk13 kk0,
 oP kk14 (.buildSl 9 1 16 1 [(.str 0 0)] [(0, (.c (.str 6 91557248909654)))]),
 oP kk15 (.call 87 [(t13), (t14)])])
 (.seq (cR [ oM kk16 kk0,
 oP kk17 (.call 124 [(t16), (.c (.str 1 40))])])
 (.seq (.seq (cR [ oP kk18 (.offs (t3) 8),
 oP kk19 (.load 1 false (t18)),
 oP kk20 (.len (t19)),
 oC kk21 (nI 0)])
 (.block 0 (.loop (.seq (cR [ oP kk22 (.bin .lss (t21) (t20))])
 (.seq (.cond (t22)
 .skip
 (.exit 0))
 (.seq (.block 1 (.seq (cR [ oM kk23 kk21,
 oP kk24 (.idxSl 3 (t19) (t21)),
 oP kk25 (.load 3 true (t24)),
 oP kk5 (.boxz 153 3 32 [(nI (0)), (nI (0)), (.str 0 0)]),
 oM kk4 kk23,
 oN (.store 3 (t5) (t25))])
 (.seq (cR [ oM kk26 kk0,
 oM kk27 kk4,
 oP kk28 (.call 125 [(t26), (t27)])])
 (cR [ oM kk29 kk0,
 oP kk30 (.load 3 true (t5)),
 oP kk31 (.call 126 [(t29), (t30)])]))))
 (cR [ oP kk32 (.bin .add (t21) (.c (nI (1)))),
 oM kk21 kk32])))))))
 (.seq (cR [ oM kk33 kk0,
 oP kk34 (.call 124 [(t33), (.c (.str 1 41))])])
 (cR [ oM kk35 kk0,
 oP kk36 (.offs (t3) 9),
 oP kk37 (.load 2 true (t36)),
 oP kk38 (.buildSl 9 1 16 1 [(.str 0 0)] [(0, (.c (.str 3 5394246)))]),
 oP kk39 (.call 127 [(t35), (t37), (t38)])])))))))) }
theorem fn62 : fnOf Tryz.prog Tryz.f62 = some i62 := by kernel_rfl
noncomputable def i63 : IFn := { nt := 53, ps := [kk0, kk1], res := [], body :=
 (.seq (cR [ oP kk3 (.box 57 21 328 (t1))])
 (.seq (cR [ oP kk7 (.offs (t3) 11),
 oP kk8 (.load 1 false (t7)),
 oP kk9 (.call 128 [(t8)]),
 oP kk4 (.boxz 236 2 48 [.nilslice, .nilslice]),
 oN (.store 2 (t4) (t9))])
 (.seq (cR [ oM kk10 kk0,
 oP kk11 (.buildSl 9 1 16 1 [(.str 0 0)] [(0, (.c (.str 6 76228174565461)))]),
 oP kk12 (.call 87 [(t10), (t11)])])
 (.seq (cR [ oM kk13 kk0,
 oP kk14 (.offs (t3) 6),
 oP kk15 (.load 1 false (t14)),
 oP kk16 (.call 123 [(t13), (t15)])])
 (.seq (cR [ oM kk17 kk0,
 oP kk18 (.offs (t3) 9),
 oP kk19 (.load 2 true (t18)),
 oP kk20 (.buildSl 9 1 16 3 [(.str 0 0)] [(0, (.c (.str 3 5394246))), (1, (.c (.str 7 22042224549318480))), (2, (.c (.str 2 17999)))]),
 oP kk21 (.call 127 [(t17), (t19), (t20)])])
 (.seq (cR [ oM kk22 kk0,
 oP kk23 (.buildSl 9 1 16 1 [(.str 0 0)] [(0, (.c (.str 3 5522771)))]),
 oP kk24 (.call 87 [(t22), (t23)])])
 (.seq (.seq (cR [ oP kk25 (.offs (t3) 13),
 oP kk26 (.load 1 false (t25)),
 oP kk27 (.len (t26)),
 oC kk28 (nI 0)])
 (.block 0 (.loop (.seq (cR [ oP kk29 (.bin .lss (t28) (t27))])
 (.seq (.cond (t29)
 .skip
 (.exit 0))
 (.seq (.block 1 (.seq (cR [ oM kk30 kk28,
 oP kk31 (.idxSl 2 (t26) (t28)),
 oP kk32 (.load 2 true (t31)),
 oP kk6 (.boxz 239 2 24 [(.str 0 0), (nI (0))]),
 oM kk5 kk30,
 oN (.store 2 (t6) (t32))])
 (.seq (cR [ oM kk33 kk0,
 oM kk34 kk5,
 oP kk35 (.call 125 [(t33), (t34)])])
 (.seq (cR [ oM kk36 kk0,
 oP kk37 (.offs (t6) 0),
 oP kk38 (.load 1 false (t37)),
 oP kk39 (.call 123 [(t36), (t38)])])
 (.seq (cR [ oM kk40 kk0,
 oP kk41 (.call 124 [(t40), (.c (.str 1 61))])])
 (cR [ oM kk42 kk0,
 oP kk43 (.load 2 true (t4)),
 oP kk44 (.offs (t6) 1),
 oP kk45 (.load 1 false (t44)),
 oP kk46 (.call 129 [(t42), (t43), (t45), (.c (nI (1)))])]))))))
 (cR [ oP kk47 (.bin .add (t28) (.c (nI (1)))),
 oM kk28 kk47])))))))
 (cR [ oM kk48 kk0,
 oP kk49 (.load 2 true (t4)),
 oP kk50 (.offs (t3) 12),
 oP kk51 (.load 1 false (t50)),
 oP kk52 (.call 130 [(t48), (t49), (t51)])])))))))) }
theorem fn63 : fnOf Tryz.prog Tryz.f63 = some i63 := by kernel_rfl
noncomputable def i64 : IFn := { nt := 81, ps := [kk0, kk1], res := [], body :=
 (.seq (cR [ oP kk3 (.box 57 21 328 (t1))])
 (.seq (cR [ oM kk8 kk0,
 oP kk9 (.buildSl 9 1 16 2 [(.str 0 0)] [(0, (.c (.str 6 76228174631491))), (1, (.c (.str 5 297632153940)))]),
 oP kk10 (.call 87 [(t8), (t9)])])
 (.seq (cR [ oM kk11 kk0,
 oP kk12 (.offs (t3) 6),
 oP kk13 (.load 1 false (t12)),
 oP kk14 (.call 123 [(t11), (t13)])])
 (.seq (cR [ oM kk15 kk0,
 oP kk16 (.call 124 [(t15), (.c (.str 1 40))])])
 (.seq (cR [ oM kk17 kk0,
 oP kk18 (.offs (t3) 14),
 oP kk19 (.load 1 false (t18)),
 oP kk20 (.call 131 [(t17), (t19)])])
 (.seq (cR [ oM kk21 kk0,
 oP kk22 (.call 124 [(t21), (.c (.str 1 41))])])
 (.seq (.seq (cR [ oP kk23 (.offs (t3) 15),
 oP kk24 (.load 1 false (t23)),
 oP kk25 (.len (t24)),
 oP kk26 (.bin .gtr (t25) (.c (nI (0))))])
 (.cond (t26)
 (.seq (cR [ oM kk27 kk0,
 oP kk28 (.buildSl 9 1 16 1 [(.str 0 0)] [(0, (.c (.str 3 5850443)))]),
 oP kk29 (.call 87 [(t27), (t28)])])
 (cR [ oM kk30 kk0,
 oP kk31 (.offs (t3) 15),
 oP kk32 (.load 1 false (t31)),
 oP kk33 (.call 132 [(t30), (t32)])]))
 .skip))
 (.seq (.seq (cR [ oP kk34 (.offs (t3) 16),
 oP kk35 (.load 1 false (t34)),
 oP kk36 (.len (t35)),
 oC kk37 (nI 0)])
 (.block 0 (.loop (.seq (cR [ oP kk38 (.bin .lss (t37) (t36))])
 (.seq (.cond (t38)
 .skip
 (.exit 0))
 (.seq (.block 1 (.seq (cR [ oP kk39 (.idxSl 3 (t35) (t37)),
 oP kk40 (.load 3 true (t39)),
 oP kk5 (.boxz 177 3 64 [.nilslice, (.str 0 0), .nilslice]),
 oN (.store 3 (t5) (t40))])
 (.seq (cR [ oM kk41 kk0,
 oP kk42 (.buildSl 9 1 16 1 [(.str 0 0)] [(0, (.c (.str 10 393234093309334888269138)))]),
 oP kk43 (.call 87 [(t41), (t42)])])
 (.seq (cR [ oM kk44 kk0,
 oP kk45 (.offs (t5) 0),
 oP kk46 (.load 1 false (t45)),
 oP kk47 (.call 132 [(t44), (t46)])])
 (.seq (cR [ oM kk48 kk0,
 oP kk49 (.buildSl 9 1 16 1 [(.str 0 0)] [(0, (.c (.str 2 20041)))]),
 oP kk50 (.call 87 [(t48), (t49)])])
 (.seq (cR [ oM kk51 kk0,
 oP kk52 (.offs (t5) 1),
 oP kk53 (.load 1 false (t52)),
 oP kk54 (.call 123 [(t51), (t53)])])
 (cR [ oM kk55 kk0,
 oP kk56 (.offs (t5) 2),
 oP kk57 (.load 1 false (t56)),
 oP kk58 (.call 132 [(t55), (t57)])])))))))
 (cR [ oP kk59 (.bin .add (t37) (.c (nI (1)))),
 oM kk37 kk59])))))))
 (.seq (cR [ oP kk60 (.offs (t3) 17),
 oP kk61 (.load 1 false (t60)),
 oP kk62 (.len (t61)),
 oC kk63 (nI 0)])
 (.block 2 (.loop (.seq (cR [ oP kk64 (.bin .lss (t63) (t62))])
 (.seq (.cond (t64)
 .skip
 (.exit 2))
 (.seq (.block 3 (.seq (cR [ oP kk65 (.idxSl 2 (t61) (t63)),
 oP kk66 (.load 2 true (t65)),
 oP kk7 (.boxz 179 2 32 [(nI (0)), .nilslice]),
 oN (.store 2 (t7) (t66))])
 (.seq (.seq (cR [ oP kk67 (.offs (t7) 0),
 oP kk68 (.load 1 false (t67)),
 oP kk69 (.bin .eql (t68) (.c (nI (1))))])
 (.cond (t69)
 (cR [ oM kk70 kk0,
 oP kk71 (.buildSl 9 1 16 1 [(.str 0 0)] [(0, (.c (.str 5 344692576078)))]),
 oP kk72 (.call 87 [(t70), (t71)])])
 (cR [ oM kk73 kk0,
 oP kk74 (.buildSl 9 1 16 1 [(.str 0 0)] [(0, (.c (.str 9 1480444752065213714254)))]),
 oP kk75 (.call 87 [(t73), (t74)])])))
 (cR [ oM kk76 kk0,
 oP kk77 (.offs (t7) 1),
 oP kk78 (.load 1 false (t77)),
 oP kk79 (.call 132 [(t76), (t78)])]))))
 (cR [ oP kk80 (.bin .add (t63) (.c (nI (1)))),
 oM kk63 kk80]))))))))))))))) }
theorem fn64 : fnOf Tryz.prog Tryz.f64 = some i64 := by kernel_rfl
noncomputable def i65 : IFn := { nt := 107, ps := [kk0, kk1], res := [], body :=
 (.seq (cR [ oP kk3 (.box 57 21 328 (t1))])
 (.seq (cR [ oP kk4 (.offs (t3) 0),
 oP kk5 (.load 1 false (t4))])
 (.block 0 (.seq (cR [ oP kk10 (.bin .eql (t5) (.c (nI (1)))),
 oM kk9 kk10])
 (.cond (t9)
 (cR [ oM kk11 kk0,
 oP kk12 (.load 21 true (t3)),
 oP kk13 (.call 133 [(t11), (t12)])])
 (.seq (cR [ oP kk15 (.bin .eql (t5) (.c (nI (3)))),
 oM kk14 kk15])
 (.cond (t14)
 (.seq (cR [ oM kk16 kk0,
 oP kk17 (.buildSl 9 1 16 2 [(.str 0 0)] [(0, (.c (.str 6 76228242195780))), (1, (.c (.str 4 1297044038)))]),
 oP kk18 (.call 87 [(t16), (t17)])])
 (.seq (cR [ oM kk19 kk0,
 oP kk20 (.offs (t3) 6),
 oP kk21 (.load 1 false (t20)),
 oP kk22 (.call 123 [(t19), (t21)])])
 (.seq (cR [ oM kk23 kk0,
 oP kk24 (.offs (t3) 9),
 oP kk25 (.load 2 true (t24)),
 oP kk26 (.buildSl 9 1 16 3 [(.str 0 0)] [(0, (.c (.str 3 5394246))), (1, (.c (.str 7 22042224549318480))), (2, (.c (.str 2 17999)))]),
 oP kk27 (.call 127 [(t23), (t25), (t26)])])
 (cD [ oM kk28 kk0,
 oP kk29 (.offs (t3) 11),
 oQ kk30 [] (.load 1 false (t29)),
 oQ kk31 [] (.call 128 [(t30)]),
 oP kk32 (.offs (t3) 12),
 oQ kk33 [0, 1] (.load 1 false (t32)),
 oQ kk34 [] (.call 130 [(t28), (t31), (t33)])]))))
 (.seq (cR [ oP kk36 (.bin .eql (t5) (.c (nI (6)))),
 oM kk35 kk36])
 (.cond (t35)
 (.seq (cR [ oM kk37 kk0,
 oP kk38 (.buildSl 9 1 16 2 [(.str 0 0)] [(0, (.c (.str 5 353350470721))), (1, (.c (.str 5 297632153940)))]),
 oP kk39 (.call 87 [(t37), (t38)])])
 (.seq (cR [ oM kk40 kk0,
 oP kk41 (.offs (t3) 6),
 oP kk42 (.load 1 false (t41)),
 oP kk43 (.call 123 [(t40), (t42)])])
 (.seq (cR [ oM kk44 kk0,
 oP kk45 (.buildSl 9 1 16 1 [(.str 0 0)] [(0, (.c (.str 3 4473921)))]),
 oP kk46 (.call 87 [(t44), (t45)])])
 (cR [ oM kk47 kk0,
 oP kk48 (.offs (t3) 14),
 oP kk49 (.load 1 false (t48)),
 oP kk50 (.call 131 [(t47), (t49)])]))))
 (.seq (cR [ oP kk52 (.bin .eql (t5) (.c (nI (7)))),
 oM kk51 kk52])
 (.cond (t51)
 (.seq (cR [ oM kk53 kk0,
 oP kk54 (.buildSl 9 1 16 2 [(.str 0 0)] [(0, (.c (.str 5 353350470721))), (1, (.c (.str 5 297632153940)))]),
 oP kk55 (.call 87 [(t53), (t54)])])
 (.seq (cR [ oM kk56 kk0,
 oP kk57 (.offs (t3) 6),
 oP kk58 (.load 1 false (t57)),
 oP kk59 (.call 123 [(t56), (t58)])])
 (.seq (cR [ oM kk60 kk0,
 oP kk61 (.buildSl 9 1 16 1 [(.str 0 0)] [(0, (.c (.str 4 1347375684)))]),
 oP kk62 (.call 87 [(t60), (t61)])])
 (cR [ oM kk63 kk0,
 oP kk64 (.offs (t3) 7),
 oP kk65 (.load 1 false (t64)),
 oP kk66 (.call 123 [(t63), (t65)])]))))
 (.seq (cR [ oP kk68 (.bin .eql (t5) (.c (nI (8)))),
 oM kk67 kk68])
 (.cond (t67)
 (.seq (cR [ oM kk69 kk0,
 oP kk70 (.buildSl 9 1 16 1 [(.str 0 0)] [(0, (.c (.str 4 1163151683)))]),
 oP kk71 (.call 87 [(t69), (t70)])])
 (.seq (cR [ oM kk72 kk0,
 oP kk73 (.offs (t3) 4),
 oP kk74 (.load 2 true (t73)),
 oP kk75 (.call 43 [(t72), (t74)])])
 (cR [ oM kk76 kk0,
 oP kk77 (.load 21 true (t3)),
 oP kk78 (.call 134 [(t76), (t77)])])))
 (.seq (cR [ oP kk80 (.bin .eql (t5) (.c (nI (9)))),
 oM kk79 kk80])
 (.cond (t79)
 (cR [ oM kk81 kk0,
 oP kk82 (.buildSl 9 1 16 1 [(.str 0 0)] [(0, (.c (.str 6 83890396153170)))]),
 oP kk83 (.call 87 [(t81), (t82)])])
 (.seq (cR [ oP kk85 (.bin .eql (t5) (.c (nI (10)))),
 oM kk84 kk85])
 (.cond (t84)
 (cR [ oM kk86 kk0,
 oP kk87 (.load 21 true (t3)),
 oP kk88 (.call 135 [(t86), (t87)])])
 (.seq (cR [ oP kk90 (.bin .eql (t5) (.c (nI (11)))),
 oM kk89 kk90])
 (.cond (t89)
 (.seq (cR [ oM kk91 kk0,
 oP kk92 (.buildSl 9 1 16 1 [(.str 0 0)] [(0, (.c (.str 7 19513313193641298)))]),
 oP kk93 (.call 87 [(t91), (t92)])])
 (cR [ oM kk94 kk0,
 oP kk95 (.offs (t3) 18),
 oP kk96 (.load 1 false (t95)),
 oP kk97 (.call 136 [(t94), (t96)])]))
 (.seq (cR [ oP kk99 (.bin .eql (t5) (.c (nI (12)))),
 oM kk98 kk99])
 (.cond (t98)
 (.seq (cR [ oM kk100 kk0,
 oP kk101 (.buildSl 9 1 16 2 [(.str 0 0)] [(0, (.c (.str 6 92656526053190))), (1, (.c (.str 5 374992553282)))]),
 oP kk102 (.call 87 [(t100), (t101)])])
 (cR [ oM kk103 kk0,
 oP kk104 (.offs (t3) 18),
 oP kk105 (.load 1 false (t104)),
 oP kk106 (.call 136 [(t103), (t105)])]))
 (cR [ oM kk6 kk0,
 oP kk7 (.nilck (t6)),
 oP kk8 (.offs (t7) 1),
 oN (.store 1 (t8) (.c (.bool true)))])))))))))))))))))))))) }
theorem fn65 : fnOf Tryz.prog Tryz.f65 = some i65 := by kernel_rfl
noncomputable def i66 : IFn := { nt := 24, ps := [kk0], res := [.cell kk2 21 true, .tmp kk3, .tmp kk4], body :=
 (.seq (cR [ oP kk2 (.boxz 57 21 328 [(nI (0)), (nI (0)), (nI (0)), (nI (0)), .nilslice, .nilslice, (.str 0 0), (.str 0 0), .nilslice, (nI (0)), (nI (0)), .nilslice, (nI (0)), .nilslice, .nilslice, .nilslice, .nilslice, .nilslice, (nI (0)), (nI (0)), (nI (0))]),
 oC kk3 (nI 0),
 oC kk4 (nI 0)])
 (.seq (cR [ oM kk9 kk0,
 oP kk10 (.build [.nilslice, (nI (0)), (nI (0)), (nI (0)), (nI (0)), .nilslice] [(0, 1, (t9))]),
 oP kk11 (.box 196 6 80 (t10)),
 oP kk5 (.boxz 194 1 8 [.nilptr]),
 oN (.store 1 (t5) (t11))])
 (.seq (cR [ oP kk6 (.boxz 57 21 328 [(nI (0)), (nI (0)), (nI (0)), (nI (0)), .nilslice, .nilslice, (.str 0 0), (.str 0 0), .nilslice, (nI (0)), (nI (0)), .nilslice, (nI (0)), .nilslice, .nilslice, .nilslice, .nilslice, .nilslice, (nI (0)), (nI (0)), (nI (0))])])
 (.seq (.seq (cR [ oP kk13 (.load 1 false (t5)),
 oP kk14 (.mkfn 137 [] [(t5), (t6)]),
 oP kk15 (.call 90 [(t13), (t14)]),
 oM kk12 kk15,
 oP kk16 (.extr (t12) 0),
 oP kk17 (.extr (t12) 1),
 oM kk7 kk16,
 oM kk8 kk17])
 (.seq (cR [ oM kk18 kk8,
 oP kk19 (.bin .neq (t18) (.c (nI (0))))])
 (.cond (t19)
 (.seq (cR [ oP kk20 (.build [(nI (0)), (nI (0)), (nI (0)), (nI (0)), .nilslice, .nilslice, (.str 0 0), (.str 0 0), .nilslice, (nI (0)), (nI (0)), .nilslice, (nI (0)), .nilslice, .nilslice, .nilslice, .nilslice, .nilslice, (nI (0)), (nI (0)), (nI (0))] []),
 oM kk21 kk7,
 oM kk22 kk8,
 oN (.store 21 (t2) (t20)),
 oM kk3 kk21,
 oM kk4 kk22])
 .ret)
 .skip)))
 (.seq (cR [ oP kk23 (.load 21 true (t6)),
 oN (.store 21 (t2) (t23)),
 oC kk3 (nI 0),
 oC kk4 (nI 0)])
 .ret))))) }
theorem fn66 : fnOf Tryz.prog Tryz.f66 = some i66 := by kernel_rfl
noncomputable def i67 : IFn := { nt := 129, ps := [kk0, kk1], res := [.tmp kk4], body :=
 (.seq (cR [ oP kk2 (.box 57 21 328 (t0)),
 oP kk3 (.box 57 21 328 (t1)),
 oC kk4 (.bool false)])
 (.seq (cR [ oP kk5 (.offs (t2) 0),
 oP kk6 (.load 1 false (t5)),
 oP kk7 (.offs (t3) 0),
 oP kk8 (.load 1 false (t7)),
 oP kk9 (.bin .eql (t6) (t8)),
 oM kk10 kk9,
 oX kk11 kk10 true (.offs (t2) 1),
 oX kk12 kk10 true (.load 1 false (t11)),
 oX kk13 kk10 true (.offs (t3) 1),
 oX kk14 kk10 true (.load 1 false (t13)),
 oX kk15 kk10 true (.bin .eql (t12) (t14)),
 oP kk16 (.pick (t10) (t15) (.c (.bool false))),
 oM kk17 kk16,
 oX kk18 kk17 true (.offs (t2) 2),
 oX kk19 kk17 true (.load 1 false (t18)),
 oX kk20 kk17 true (.offs (t3) 2),
 oX kk21 kk17 true (.load 1 false (t20)),
 oX kk22 kk17 true (.bin .eql (t19) (t21)),
 oP kk23 (.pick (t17) (t22) (.c (.bool false))),
 oM kk24 kk23,
 oX kk25 kk24 true (.offs (t2) 3),
 oX kk26 kk24 true (.load 1 false (t25)),
 oX kk27 kk24 true (.offs (t3) 3),
 oX kk28 kk24 true (.load 1 false (t27)),
 oX kk29 kk24 true (.bin .eql (t26) (t28)),
 oP kk30 (.pick (t24) (t29) (.c (.bool false))),
 oM kk31 kk30,
 oX kk32 kk31 true (.offs (t2) 4),
 oX kk33 kk31 true (.load 2 true (t32)),
 oX kk34 kk31 true (.offs (t3) 4),
 oX kk35 kk31 true (.load 2 true (t34)),
 oX kk36 kk31 true (.call 46 [(t33), (t35)]),
 oP kk37 (.pick (t31) (t36) (.c (.bool false))),
 oM kk38 kk37,
 oX kk39 kk38 true (.offs (t2) 6),
 oX kk40 kk38 true (.load 1 false (t39)),
 oX kk41 kk38 true (.offs (t3) 6),
 oX kk42 kk38 true (.load 1 false (t41)),
 oX kk43 kk38 true (.bin .eql (t40) (t42)),
 oP kk44 (.pick (t38) (t43) (.c (.bool false))),
 oM kk45 kk44,
 oX kk46 kk45 true (.offs (t2) 7),
 oX kk47 kk45 true (.load 1 false (t46)),
 oX kk48 kk45 true (.offs (t3) 7),
 oX kk49 kk45 true (.load 1 false (t48)),
 oX kk50 kk45 true (.bin .eql (t47) (t49)),
 oP kk51 (.pick (t45) (t50) (.c (.bool false))),
 oM kk52 kk51,
 oX kk53 kk52 true (.offs (t2) 8),
 oX kk54 kk52 true (.load 1 false (t53)),
 oX kk55 kk52 true (.offs (t3) 8),
 oX kk56 kk52 true (.load 1 false (t55)),
 oX kk57 kk52 true (.call 139 [(t54), (t56)]),
 oP kk58 (.pick (t52) (t57) (.c (.bool false))),
 oM kk59 kk58,
 oX kk60 kk59 true (.offs (t2) 9),
 oX kk61 kk59 true (.load 2 true (t60)),
 oX kk62 kk59 true (.offs (t3) 9),
 oX kk63 kk59 true (.load 2 true (t62)),
 oX kk64 kk59 true (.eqv (.agg [3, 3]) false (t61) (t63)),
 oP kk65 (.pick (t59) (t64) (.c (.bool false))),
 oM kk66 kk65,
 oX kk67 kk66 true (.offs (t2) 11),
 oX kk68 kk66 true (.load 1 false (t67)),
 oX kk69 kk66 true (.offs (t3) 11),
 oX kk70 kk66 true (.load 1 false (t69)),
 oX kk71 kk66 true (.call 140 [(t68), (t70)]),
 oP kk72 (.pick (t66) (t71) (.c (.bool false))),
 oM kk73 kk72,
 oX kk74 kk73 true (.offs (t2) 12),
 oX kk75 kk73 true (.load 1 false (t74)),
 oX kk76 kk73 true (.offs (t3) 12),
 oX kk77 kk73 true (.load 1 false (t76)),
 oX kk78 kk73 true (.bin .eql (t75) (t77)),
 oP kk79 (.pick (t73) (t78) (.c (.bool false))),
 oM kk80 kk79,
 oX kk81 kk80 true (.offs (t2) 13),
 oX kk82 kk80 true (.load 1 false (t81)),
 oX kk83 kk80 true (.offs (t3) 13),
 oX kk84 kk80 true (.load 1 false (t83)),
 oX kk85 kk80 true (.call 141 [(t82), (t84)]),
 oP kk86 (.pick (t80) (t85) (.c (.bool false))),
 oM kk87 kk86,
 oX kk88 kk87 true (.offs (t2) 14),
 oX kk89 kk87 true (.load 1 false (t88)),
 oX kk90 kk87 true (.offs (t3) 14),
 oX kk91 kk87 true (.load 1 false (t90)),
 oX kk92 kk87 true (.call 142 [(t89), (t91)]),
 oP kk93 (.pick (t87) (t92) (.c (.bool false))),
 oM kk94 kk93,
 oX kk95 kk94 true (.offs (t2) 15),
 oX kk96 kk94 true (.load 1 false (t95)),
 oX kk97 kk94 true (.offs (t3) 15),
 oX kk98 kk94 true (.load 1 false (t97)),
 oX kk99 kk94 true (.call 143 [(t96), (t98)]),
 oP kk100 (.pick (t94) (t99) (.c (.bool false))),
 oM kk101 kk100,
 oX kk102 kk101 true (.offs (t2) 16),
 oX kk103 kk101 true (.load 1 false (t102)),
 oX kk104 kk101 true (.offs (t3) 16),
 oX kk105 kk101 true (.load 1 false (t104)),
 oX kk106 kk101 true (.call 144 [(t103), (t105), (.c (.func 145 [] []))]),
 oP kk107 (.pick (t101) (t106) (.c (.bool false))),
 oM kk108 kk107,
 oX kk109 kk108 true (.offs (t2) 17),
 oX kk110 kk108 true (.load 1 false (t109)),
 oX kk111 kk108 true (.offs (t3) 17),
 oX kk112 kk108 true (.load 1 false (t111)),
 oX kk113 kk108 true (.call 146 [(t110), (t112), (.c (.func 147 [] []))]),
 oP kk114 (.pick (t108) (t113) (.c (.bool false))),
 oM kk115 kk114,
 oX kk116 kk115 true (.offs (t2) 18),
 oX kk117 kk115 true (.load 1 false (t116)),
 oX kk118 kk115 true (.offs (t3) 18),
 oX kk119 kk115 true (.load 1 false (t118)),
 oX kk120 kk115 true (.bin .eql (t117) (t119)),
 oP kk121 (.pick (t115) (t120) (.c (.bool false))),
 oM kk122 kk121,
 oX kk123 kk122 true (.offs (t2) 19),
 oX kk124 kk122 true (.load 2 true (t123)),
 oX kk125 kk122 true (.offs (t3) 19),
 oX kk126 kk122 true (.load 2 true (t125)),
 oX kk127 kk122 true (.eqv (.agg [3, 3]) false (t124) (t126)),
 oP kk128 (.pick (t122) (t127) (.c (.bool false))),
 oM kk4 kk128])
 .ret)) }
theorem fn67 : fnOf Tryz.prog Tryz.f67 = some i67 := by kernel_rfl
noncomputable def i68 : IFn := { nt := 27, ps := [kk0, kk1], res := [.tmp kk4, .tmp kk5], body :=
 (.seq (cR [ oC kk4 .nilslice,
 oC kk5 (nI 0)])
 (.seq (cR [ oC kk6 .nilslice])
 (.seq (.seq (cR [ oM kk10 kk1,
 oP kk11 (.len (t10)),
 oC kk12 (nI 0)])
 (.block 0 (.loop (.seq (cR [ oP kk13 (.bin .lss (t12) (t11))])
 (.seq (.cond (t13)
 .skip
 (.exit 0))
 (.seq (.block 1 (.seq (cR [ oP kk14 (.idxSl 1 (t10) (t12)),
 oP kk15 (.load 1 false (t14)),
 oM kk8 kk15])
 (.seq (cR [ oM kk16 kk0,
 oM kk17 kk8,
 oP kk18 (.call 74 [(t16), (t17)]),
 oM kk9 kk18])
 (.seq (.seq (cR [ oM kk19 kk9,
 oP kk20 (.bin .eql (t19) (.c (nI (0))))])
 (.cond (t20)
 (.seq (cR [ oC kk4 .nilslice,
 oC kk5 (nI 8)])
 .ret)
 .skip))
 (cR [ oM kk21 kk6,
 oM kk22 kk9,
 oP kk23 (.buildSl 3 1 8 1 [(nI (0))] [(0, (t22))]),
 oP kk24 (.app 3 1 8 (t21) (t23)),
 oM kk6 kk24])))))
 (cR [ oP kk25 (.bin .add (t12) (.c (nI (1)))),
 oM kk12 kk25])))))))
 (.seq (cR [ oM kk26 kk6,
 oM kk4 kk26,
 oC kk5 (nI 0)])
 .ret)))) }
theorem fn68 : fnOf Tryz.prog Tryz.f68 = some i68 := by kernel_rfl
noncomputable def i69 : IFn := { nt := 19, ps := [kk0, kk1], res := [.tmp kk4], body :=
 (.seq (cR [ oC kk4 (nI 0)])
 (.seq (.seq (cR [ oM kk6 kk0,
 oP kk7 (.len (t6)),
 oC kk8 (nI 0)])
 (.block 0 (.loop (.seq (cR [ oP kk9 (.bin .lss (t8) (t7))])
 (.seq (.cond (t9)
 .skip
 (.exit 0))
 (.seq (.block 1 (.seq (cR [ oM kk10 kk8,
 oM kk5 kk10])
 (.seq (cR [ oM kk11 kk1,
 oM kk12 kk0,
 oM kk13 kk5,
 oP kk14 (.idxSl 2 (t12) (t13)),
 oP kk15 (.load 2 true (t14)),
 oP kk16 (.callv (t11) [(t15)])])
 (.cond (t16)
 (.seq (cR [ oM kk17 kk5,
 oM kk4 kk17])
 .ret)
 .skip))))
 (cR [ oP kk18 (.bin .add (t8) (.c (nI (1)))),
 oM kk8 kk18])))))))
 (.seq (cR [ oC kk4 (.int .i64 (.negSucc 0))])
 .ret))) }
theorem fn69 : fnOf Tryz.prog Tryz.f69 = some i69 := by kernel_rfl
noncomputable def i70 : IFn := { nt := 8, ps := [kk0, kk1], res := [.tmp kk3], body :=
 (.seq (cR [ oP kk2 (.box 115 2 40 (t0)),
 oC kk3 (.bool false)])
 (.seq (cR [ oP kk4 (.offs (t2) 0),
 oP kk5 (.load 1 false (t4)),
 oP kk6 (.load 1 false (t1)),
 oP kk7 (.bin .eql (t5) (t6)),
 oM kk3 kk7])
 .ret)) }
theorem fn70 : fnOf Tryz.prog Tryz.f70 = some i70 := by kernel_rfl
noncomputable def i71 : IFn := { nt := 8, ps := [kk0], res := [.tmp kk2], body :=
 (.seq (cR [ oC kk2 .nilslice])
 (.seq (.seq (cR [ oM kk3 kk0,
 oP kk4 (.eqv .slice false (t3) (.c .nilslice))])
 (.cond (t4)
 (.seq (cR [ oC kk2 .nilslice])
 .ret)
 .skip))
 (.seq (cR [ oP kk5 (.buildSl 153 3 32 0 [(nI (0)), (nI (0)), (.str 0 0)] []),
 oM kk6 kk0,
 oP kk7 (.app 153 3 32 (t5) (t6)),
 oM kk2 kk7])
 .ret))) }
theorem fn71 : fnOf Tryz.prog Tryz.f71 = some i71 := by kernel_rfl
noncomputable def i72 : IFn := { nt := 47, ps := [kk0, kk1], res := [.tmp kk4, .tmp kk5], body :=
 (.seq (cR [ oP kk2 (.box 57 21 328 (t0)),
 oC kk4 .nilslice,
 oC kk5 (nI 0)])
 (.seq (cR [ oC kk6 .nilslice])
 (.seq (.seq (cR [ oP kk10 (.offs (t2) 11),
 oP kk11 (.load 1 false (t10)),
 oP kk12 (.len (t11)),
 oC kk13 (nI 0)])
 (.block 0 (.loop (.seq (cR [ oP kk14 (.bin .lss (t13) (t12))])
 (.seq (.cond (t14)
 .skip
 (.exit 0))
 (.seq (.block 1 (.seq (cR [ oP kk15 (.idxSl 8 (t11) (t13)),
 oP kk16 (.load 8 true (t15)),
 oP kk8 (.boxz 155 8 88 [(nI (0)), (nI (0)), (nI (0)), (.str 0 0), (.str 0 0), (nI (0)), (nI (0)), (.str 0 0)]),
 oN (.store 8 (t8) (t16))])
 (.seq (cR [ oC kk9 (nI 0)])
 (.seq (.seq (cR [ oP kk17 (.offs (t8) 0),
 oP kk18 (.load 1 false (t17)),
 oP kk19 (.bin .eql (t18) (.c (nI (2))))])
 (.cond (t19)
 (.seq (cR [ oM kk20 kk1,
 oP kk21 (.offs (t8) 4),
 oP kk22 (.load 1 false (t21)),
 oP kk23 (.call 74 [(t20), (t22)]),
 oM kk9 kk23])
 (.seq (cR [ oM kk24 kk9,
 oP kk25 (.bin .eql (t24) (.c (nI (0)))),
 oM kk26 kk25,
 oX kk27 kk26 false (.offs (t8) 3),
 oX kk28 kk26 false (.load 1 false (t27)),
 oX kk29 kk26 false (.bin .neq (t28) (.c (.str 0 0))),
 oG kk30 kk26 false kk29,
 oX kk31 kk30 true (.offs (t8) 3),
 oX kk32 kk30 true (.load 1 false (t31)),
 oX kk33 kk30 true (.offs (t2) 6),
 oX kk34 kk30 true (.load 1 false (t33)),
 oX kk35 kk30 true (.bin .neq (t32) (t34)),
 oX kk36 kk26 false (.pick (t30) (t35) (.c (.bool false))),
 oP kk37 (.pick (t26) (.c (.bool true)) (t36))])
 (.cond (t37)
 (.seq (cR [ oC kk4 .nilslice,
 oC kk5 (nI 8)])
 .ret)
 .skip)))
 .skip))
 (cR [ oM kk38 kk6,
 oP kk39 (.load 8 true (t8)),
 oM kk40 kk9,
 oP kk41 (.bin .sub (t40) (.c (nI (1)))),
 oP kk42 (.call 56 [(t39), (t41), (.c (nI (0)))]),
 oP kk43 (.buildSl 162 7 64 1 [(nI (0)), (nI (0)), (nI (0)), (nI (0)), (nI (0)), (nI (0)), (.str 0 0)] [(0, (t42))]),
 oP kk44 (.app 162 7 64 (t38) (t43)),
 oM kk6 kk44])))))
 (cR [ oP kk45 (.bin .add (t13) (.c (nI (1)))),
 oM kk13 kk45])))))))
 (.seq (cR [ oM kk46 kk6,
 oM kk4 kk46,
 oC kk5 (nI 0)])
 .ret)))) }
theorem fn72 : fnOf Tryz.prog Tryz.f72 = some i72 := by kernel_rfl
noncomputable def i73 : IFn := { nt := 57, ps := [kk0, kk1], res := [.cell kk4 16 true, .tmp kk5], body :=
 (.seq (cR [ oP kk2 (.box 57 21 328 (t0)),
 oP kk4 (.boxz 64 16 264 [(nI (0)), (.str 0 0), .nilslice, (nI (0)), (nI (0)), .nilslice, (nI (0)), .nilslice, (.str 0 0), .nilslice, .nilslice, .nilslice, .nilslice, (nI (0)), (.str 0 0), (nI (0))]),
 oC kk5 (nI 0)])
 (.seq (cR [ oP kk12 (.offs (t2) 6),
 oP kk13 (.load 1 false (t12)),
 oP kk14 (.offs (t2) 9),
 oP kk15 (.load 2 true (t14)),
 oP kk16 (.offs (t2) 12),
 oP kk17 (.load 1 false (t16)),
 oP kk18 (.build [(nI (0)), (.str 0 0), .nilslice, (nI (0)), (nI (0)), .nilslice, (nI (0)), .nilslice, (.str 0 0), .nilslice, .nilslice, .nilslice, .nilslice, (nI (0)), (.str 0 0), (nI (0))] [(0, 1, (.c (nI (3)))), (1, 1, (t13)), (3, 2, (t15)), (6, 1, (t17))]),
 oP kk6 (.boxz 64 16 264 [(nI (0)), (.str 0 0), .nilslice, (nI (0)), (nI (0)), .nilslice, (nI (0)), .nilslice, (.str 0 0), .nilslice, .nilslice, .nilslice, .nilslice, (nI (0)), (.str 0 0), (nI (0))]),
 oN (.store 16 (t6) (t18))])
 (.seq (.seq (cR [ oP kk19 (.offs (t2) 13),
 oP kk20 (.load 1 false (t19)),
 oP kk21 (.len (t20)),
 oC kk22 (nI 0)])
 (.block 0 (.loop (.seq (cR [ oP kk23 (.bin .lss (t22) (t21))])
 (.seq (.cond (t23)
 .skip
 (.exit 0))
 (.seq (.block 1 (.seq (cR [ oP kk24 (.idxSl 2 (t20) (t22)),
 oP kk25 (.load 2 true (t24)),
 oP kk8 (.boxz 239 2 24 [(.str 0 0), (nI (0))]),
 oN (.store 2 (t8) (t25))])
 (.seq (cR [ oM kk26 kk1,
 oP kk27 (.offs (t8) 0),
 oP kk28 (.load 1 false (t27)),
 oP kk29 (.call 74 [(t26), (t28)]),
 oM kk9 kk29])
 (.seq (.seq (cR [ oM kk30 kk9,
 oP kk31 (.bin .eql (t30) (.c (nI (0))))])
 (.cond (t31)
 (.seq (cR [ oP kk32 (.build [(nI (0)), (.str 0 0), .nilslice, (nI (0)), (nI (0)), .nilslice, (nI (0)), .nilslice, (.str 0 0), .nilslice, .nilslice, .nilslice, .nilslice, (nI (0)), (.str 0 0), (nI (0))] []),
 oN (.store 16 (t4) (t32)),
 oC kk5 (nI 8)])
 .ret)
 .skip))
 (cR [ oP kk33 (.offs (t6) 7),
 oP kk34 (.load 1 false (t33)),
 oM kk35 kk9,
 oP kk36 (.bin .sub (t35) (.c (nI (1)))),
 oP kk37 (.offs (t8) 1),
 oP kk38 (.load 1 false (t37)),
 oP kk39 (.build [(nI (0)), (nI (0))] [(0, 1, (t36)), (1, 1, (t38))]),
 oP kk40 (.buildSl 254 2 16 1 [(nI (0)), (nI (0))] [(0, (t39))]),
 oP kk41 (.app 254 2 16 (t34) (t40)),
 oP kk42 (.offs (t6) 7),
 oN (.store 1 (t42) (t41))])))))
 (cR [ oP kk43 (.bin .add (t22) (.c (nI (1)))),
 oM kk22 kk43])))))))
 (.seq (cR [ oP kk45 (.load 21 true (t2)),
 oM kk46 kk1,
 oP kk47 (.call 72 [(t45), (t46)]),
 oM kk44 kk47,
 oP kk48 (.extr (t44) 0),
 oP kk49 (.extr (t44) 1),
 oM kk10 kk48,
 oM kk11 kk49])
 (.seq (.seq (cR [ oM kk50 kk11,
 oP kk51 (.bin .neq (t50) (.c (nI (0))))])
 (.cond (t51)
 (.seq (cR [ oP kk52 (.build [(nI (0)), (.str 0 0), .nilslice, (nI (0)), (nI (0)), .nilslice, (nI (0)), .nilslice, (.str 0 0), .nilslice, .nilslice, .nilslice, .nilslice, (nI (0)), (.str 0 0), (nI (0))] []),
 oM kk53 kk11,
 oN (.store 16 (t4) (t52)),
 oM kk5 kk53])
 .ret)
 .skip))
 (.seq (cR [ oM kk54 kk10,
 oP kk55 (.offs (t6) 5),
 oN (.store 1 (t55) (t54))])
 (.seq (cR [ oP kk56 (.load 16 true (t6)),
 oN (.store 16 (t4) (t56)),
 oC kk5 (nI 0)])
 .ret))))))) }
theorem fn73 : fnOf Tryz.prog Tryz.f73 = some i73 := by kernel_rfl
noncomputable def i74 : IFn := { nt := 16, ps := [kk0, kk1], res := [.tmp kk4], body :=
 (.seq (cR [ oP kk3 (.box 9 1 16 (t1)),
 oC kk4 (nI 0)])
 (.seq (cR [ oM kk6 kk0,
 oP kk7 (.mkfn 149 [] [(t3)]),
 oP kk8 (.call 148 [(t6), (t7)]),
 oM kk5 kk8])
 (.seq (.seq (cR [ oM kk9 kk5,
 oP kk10 (.bin .lss (t9) (.c (nI (0))))])
 (.cond (t10)
 (.seq (cR [ oC kk4 (nI 0)])
 .ret)
 .skip))
 (.seq (cR [ oM kk11 kk0,
 oM kk12 kk5,
 oP kk13 (.idxSl 3 (t11) (t12)),
 oP kk14 (.offs (t13) 0),
 oP kk15 (.load 1 false (t14)),
 oM kk4 kk15])
 .ret)))) }
theorem fn74 : fnOf Tryz.prog Tryz.f74 = some i74 := by kernel_rfl
noncomputable def i75 : IFn := { nt := 37, ps := [kk0, kk1], res := [.cell kk4 3 true, .tmp kk5], body :=
 (.seq (.region false [⟨some kk2, none, none, .box 31 5 112 (.t kk0)⟩,
  ⟨some kk4, none, none, .boxz 77 3 40 [(.int .i64 (.ofNat 0)), (.int .i64 (.ofNat 0)), .nilslice]⟩,
  ⟨some kk5, none, none, .mov (.c (.bool false))⟩])
 (.seq (.seq (.region false [⟨some kk6, none, none, .mov (.c (.int .i64 (.ofNat 0)))⟩])
 (.block 0 (.loop (.seq (.seq (.region false [⟨some kk8, none, none, .mov (.t kk6)⟩,
    ⟨some kk9, none, none, .offs (.t kk2) 1⟩,
    ⟨some kk10, none, none, .load 1 false (.t kk9)⟩,
    ⟨some kk11, none, none, .len (.t kk10)⟩,
    ⟨some kk12, none, none, .bin .lss (.t kk8) (.t kk11)⟩])
   (.cond (.t kk12)
    .skip
    (.exit 0)))
   (.seq (.block 1 (.seq (.region false [⟨some kk15, none, none, .offs (.t kk2) 1⟩,
     ⟨some kk16, none, none, .load 1 false (.t kk15)⟩,
     ⟨some kk17, none, none, .mov (.t kk6)⟩,
     ⟨some kk18, none, none, .idxSl 3 (.t kk16) (.t kk17)⟩,
     ⟨some kk19, none, none, .offs (.t kk18) 0⟩,
     ⟨some kk20, none, none, .load 2 true (.t kk19)⟩,
     ⟨some kk7, none, none, .boxz 50 2 16 [(.int .i64 (.ofNat 0)), (.int .i64 (.ofNat 0))]⟩,
     ⟨none, none, none, .store 2 (.t kk7) (.t kk20)⟩])
    (.seq (.region false [⟨some kk21, none, none, .offs (.t kk7) 0⟩,
     ⟨some kk22, none, none, .load 1 false (.t kk21)⟩,
     ⟨some kk23, none, none, .mov (.t kk1)⟩,
     ⟨some kk24, none, none, .bin .leq (.t kk22) (.t kk23)⟩,
     ⟨some kk25, none, none, .mov (.t kk24)⟩,
     ⟨some kk26, some (kk25, true), none, .mov (.t kk1)⟩,
     ⟨some kk27, some (kk25, true), none, .offs (.t kk7) 1⟩,
     ⟨some kk28, some (kk25, true), none, .load 1 false (.t kk27)⟩,
     ⟨some kk29, some (kk25, true), none, .bin .lss (.t kk26) (.t kk28)⟩,
     ⟨some kk30, none, none, .pick (.t kk25) (.t kk29) (.c (.bool false))⟩])
    (.cond (.t kk30)
     (.seq (.region false [⟨some kk31, none, none, .offs (.t kk2) 1⟩,
      ⟨some kk32, none, none, .load 1 false (.t kk31)⟩,
      ⟨some kk33, none, none, .mov (.t kk6)⟩,
      ⟨some kk34, none, none, .idxSl 3 (.t kk32) (.t kk33)⟩,
      ⟨some kk35, none, none, .load 3 true (.t kk34)⟩,
      ⟨none, none, none, .store 3 (.t kk4) (.t kk35)⟩,
      ⟨some kk5, none, none, .mov (.c (.bool true))⟩])
     .ret)
     .skip))))
   (.region false [⟨some kk13, none, none, .mov (.t kk6)⟩,
    ⟨some kk14, none, none, .bin .add (.t kk13) (.c (.int .i64 (.ofNat 1)))⟩,
    ⟨some kk6, none, none, .mov (.t kk14)⟩]))))))
 (.seq (.region false [⟨some kk36, none, none, .build [(.int .i64 (.ofNat 0)), (.int .i64 (.ofNat 0)), .nilslice] []⟩,
  ⟨none, none, none, .store 3 (.t kk4) (.t kk36)⟩,
  ⟨some kk5, none, none, .mov (.c (.bool false))⟩])
 .ret))) }
theorem fn75 : fnOf Tryz.prog Tryz.f75 = some i75 := by kernel_rfl
noncomputable def i76 : IFn := { nt := 6, ps := [], res := [.tmp kk0], body :=
 (.seq (.region false [⟨some kk0, none, none, .mov (.c .nilslice)⟩])
 (.seq (.region false [⟨some kk1, none, none, .build [(.int .i64 (.ofNat 0)), (.str 0 0), (.int .i64 (.ofNat 0))] [(1, 1, (.c (.str 5 470021203574))), (2, 1, (.c (.int .i64 (.ofNat 1))))]⟩,
  ⟨some kk2, none, none, .build [(.int .i64 (.ofNat 0)), (.str 0 0), (.int .i64 (.ofNat 0))] [(1, 1, (.c (.str 3 7304310))), (2, 1, (.c (.int .i64 (.ofNat 1))))]⟩,
  ⟨some kk3, none, none, .build [(.int .i64 (.ofNat 0)), (.str 0 0), (.int .i64 (.ofNat 0))] [(1, 1, (.c (.str 5 470021203570))), (2, 1, (.c (.int .i64 (.ofNat 1))))]⟩,
  ⟨some kk4, none, none, .build [(.int .i64 (.ofNat 0)), (.str 0 0), (.int .i64 (.ofNat 0))] [(1, 1, (.c (.str 3 7304306))), (2, 1, (.c (.int .i64 (.ofNat 1))))]⟩,
  ⟨some kk5, none, none, .buildSl 62 3 32 4 [(.int .i64 (.ofNat 0)), (.str 0 0), (.int .i64 (.ofNat 0))] [(0, (.t kk1)), (1, (.t kk2)), (2, (.t kk3)), (3, (.t kk4))]⟩,
  ⟨some kk0, none, none, .mov (.t kk5)⟩])
 .ret)) }
theorem fn76 : fnOf Tryz.prog Tryz.f76 = some i76 := by kernel_rfl
noncomputable def i77 : IFn := { nt := 9, ps := [kk0], res := [.tmp kk2], body :=
 (.seq (cR [ oC kk2 (.bool false)])
 (.seq (cR [ oM kk3 kk0,
 oP kk4 (.bin .geq (t3) (.c (.int .u8 (.ofNat 65)))),
 oM kk5 kk4,
 oG kk6 kk5 true kk0,
 oX kk7 kk5 true (.bin .leq (t6) (.c (.int .u8 (.ofNat 90)))),
 oP kk8 (.pick (t5) (t7) (.c (.bool false))),
 oM kk2 kk8])
 .ret)) }
theorem fn77 : fnOf Tryz.prog Tryz.f77 = some i77 := by kernel_rfl
noncomputable def i78 : IFn := { nt := 9, ps := [kk0], res := [.tmp kk2], body :=
 (.seq (cR [ oC kk2 (.bool false)])
 (.seq (cR [ oM kk3 kk0,
 oP kk4 (.bin .geq (t3) (.c (.int .u8 (.ofNat 97)))),
 oM kk5 kk4,
 oG kk6 kk5 true kk0,
 oX kk7 kk5 true (.bin .leq (t6) (.c (.int .u8 (.ofNat 122)))),
 oP kk8 (.pick (t5) (t7) (.c (.bool false))),
 oM kk2 kk8])
 .ret)) }
theorem fn78 : fnOf Tryz.prog Tryz.f78 = some i78 := by kernel_rfl
noncomputable def i79 : IFn := { nt := 13, ps := [kk0], res := [.tmp kk2], body :=
 (.seq (cR [ oC kk2 (.bool false)])
 (.seq (cR [ oM kk3 kk0,
 oP kk4 (.call 78 [(t3)]),
 oM kk5 kk4,
 oG kk6 kk5 false kk0,
 oX kk7 kk5 false (.call 80 [(t6)]),
 oP kk8 (.pick (t5) (.c (.bool true)) (t7)),
 oM kk9 kk8,
 oG kk10 kk9 false kk0,
 oX kk11 kk9 false (.bin .eql (t10) (.c (.int .u8 (.ofNat 95)))),
 oP kk12 (.pick (t9) (.c (.bool true)) (t11)),
 oM kk2 kk12])
 .ret)) }
theorem fn79 : fnOf Tryz.prog Tryz.f79 = some i79 := by kernel_rfl
noncomputable def i80 : IFn := { nt := 9, ps := [kk0], res := [.tmp kk2], body :=
 (.seq (cR [ oC kk2 (.bool false)])
 (.seq (cR [ oM kk3 kk0,
 oP kk4 (.bin .geq (t3) (.c (.int .u8 (.ofNat 48)))),
 oM kk5 kk4,
 oG kk6 kk5 true kk0,
 oX kk7 kk5 true (.bin .leq (t6) (.c (.int .u8 (.ofNat 57)))),
 oP kk8 (.pick (t5) (t7) (.c (.bool false))),
 oM kk2 kk8])
 .ret)) }
theorem fn80 : fnOf Tryz.prog Tryz.f80 = some i80 := by kernel_rfl
noncomputable def i81 : IFn := { nt := 16, ps := [kk0], res := [.tmp kk2], body :=
 (.seq (cR [ oC kk2 (.bool false)])
 (.seq (cR [ oC kk3 (.str 11 71620521292072532312860968)])
 (.seq (.seq (cR [ oC kk4 (nI 0)])
 (.block 0 (.loop (.seq (.seq (cR [ oM kk5 kk4,
 oM kk6 kk3,
 oP kk7 (.lenS (t6)),
 oP kk8 (.bin .lss (t5) (t7))])
 (.cond (t8)
 .skip
 (.exit 0)))
 (.seq (.block 1 (.seq (cR [ oM kk11 kk3,
 oM kk12 kk4,
 oP kk13 (.idxStr (t11) (t12)),
 oM kk14 kk0,
 oP kk15 (.bin .eql (t13) (t14))])
 (.cond (t15)
 (.seq (cR [ oC kk2 (.bool true)])
 .ret)
 .skip)))
 (cR [ oM kk9 kk4,
 oP kk10 (.bin .add (t9) (.c (nI (1)))),
 oM kk4 kk10]))))))
 (.seq (cR [ oC kk2 (.bool false)])
 .ret)))) }
theorem fn81 : fnOf Tryz.prog Tryz.f81 = some i81 := by kernel_rfl
noncomputable def i82 : IFn := { nt := 46, ps := [kk0, kk1], res := [.tmp kk4], body :=
 (.seq (cR [ oC kk4 (.bool false)])
 (.seq (.seq (cR [ oC kk5 (nI 0)])
 (.block 0 (.loop (.seq (.seq (cR [ oM kk6 kk5,
 oM kk7 kk0,
 oP kk8 (.lenS (t7)),
 oP kk9 (.bin .lss (t6) (t8))])
 (.cond (t9)
 .skip
 (.exit 0)))
 (.seq (.block 1 (.seq (cR [ oM kk12 kk1,
 oP kk13 (.bin .eql (t12) (.c (nI (1)))),
 oM kk14 kk13,
 oG kk15 kk14 true kk0,
 oG kk16 kk14 true kk5,
 oX kk17 kk14 true (.idxStr (t15) (t16)),
 oX kk18 kk14 true (.call 77 [(t17)]),
 oX kk19 kk14 true (.un .not (t18)),
 oP kk20 (.pick (t14) (t19) (.c (.bool false))),
 oM kk21 kk20,
 oG kk22 kk21 false kk1,
 oX kk23 kk21 false (.bin .eql (t22) (.c (nI (2)))),
 oG kk24 kk21 false kk23,
 oG kk25 kk24 true kk0,
 oG kk26 kk24 true kk5,
 oX kk27 kk24 true (.idxStr (t25) (t26)),
 oX kk28 kk24 true (.call 79 [(t27)]),
 oX kk29 kk24 true (.un .not (t28)),
 oX kk30 kk21 false (.pick (t24) (t29) (.c (.bool false))),
 oP kk31 (.pick (t21) (.c (.bool true)) (t30)),
 oM kk32 kk31,
 oG kk33 kk32 false kk1,
 oX kk34 kk32 false (.bin .eql (t33) (.c (nI (3)))),
 oG kk35 kk32 false kk34,
 oG kk36 kk35 true kk0,
 oG kk37 kk35 true kk5,
 oX kk38 kk35 true (.idxStr (t36) (t37)),
 oX kk39 kk35 true (.call 80 [(t38)]),
 oX kk40 kk35 true (.un .not (t39)),
 oX kk41 kk32 false (.pick (t35) (t40) (.c (.bool false))),
 oP kk42 (.pick (t32) (.c (.bool true)) (t41))])
 (.cond (t42)
 (.seq (cR [ oC kk4 (.bool false)])
 .ret)
 .skip)))
 (cR [ oM kk10 kk5,
 oP kk11 (.bin .add (t10) (.c (nI (1)))),
 oM kk5 kk11]))))))
 (.seq (cR [ oM kk43 kk0,
 oP kk44 (.lenS (t43)),
 oP kk45 (.bin .gtr (t44) (.c (nI (0)))),
 oM kk4 kk45])
 .ret))) }
theorem fn82 : fnOf Tryz.prog Tryz.f82 = some i82 := by kernel_rfl
noncomputable def i83 : IFn := { nt := 100, ps := [kk0], res := [.cell kk2 7 true], body :=
 (.seq (cR [ oP kk2 (.boxz 97 7 120 [(.bool false), .nilslice, .nilslice, .nilslice, (nI (0)), (.bool false), .nilslice])])
 (.seq (cR [ oP kk6 (.build [(.bool false), .nilslice, .nilslice, .nilslice, (nI (0)), (.bool false), .nilslice] [(4, 1, (.c (.int .i64 (.negSucc 0))))]),
 oP kk3 (.boxz 97 7 120 [(.bool false), .nilslice, .nilslice, .nilslice, (nI (0)), (.bool false), .nilslice]),
 oN (.store 7 (t3) (t6))])
 (.seq (cR [ oM kk7 kk0,
 oP kk8 (.call 85 [(t7), (.c (.str 6 92647902168403))])])
 (.seq (cR [ oM kk9 kk0,
 oP kk10 (.call 84 [(t9), (.c (.str 8 6071782799479884100))]),
 oP kk11 (.offs (t3) 0),
 oN (.store 1 (t11) (t10))])
 (.seq (.seq (cR [ oM kk12 kk0,
 oP kk13 (.call 113 [(t12), (.c (.str 1 42))]),
 oP kk14 (.un .not (t13))])
 (.cond (t14)
 (.seq (cR [ oM kk15 kk0,
 oP kk16 (.call 150 [(t15), (t3)])])
 (.block 0 (.loop (.seq (.seq (cR [ oM kk17 kk0,
 oP kk18 (.call 113 [(t17), (.c (.str 1 44))])])
 (.cond (t18)
 .skip
 (.exit 0)))
 (.block 1 (cR [ oM kk19 kk0,
 oP kk20 (.call 150 [(t19), (t3)])]))))))
 .skip))
 (.seq (cR [ oM kk21 kk0,
 oP kk22 (.call 85 [(t21), (.c (.str 4 1297044038))])])
 (.seq (cD [ oP kk23 (.offs (t3) 3),
 oQ kk24 [] (.load 1 false (t23)),
 oM kk25 kk0,
 oQ kk26 [0] (.call 151 [(t25), (.c (.bool true))]),
 oQ kk27 [1] (.buildSl 148 4 48 1 [(.bool false), (.str 0 0), (.str 0 0), (nI (0))] [(0, (t26))]),
 oQ kk28 [] (.app 148 4 48 (t24) (t27)),
 oP kk29 (.offs (t3) 3),
 ⟨none, none, some [], .store 1 (t29) (t28)⟩])
 (.seq (.block 2 (.loop (.seq (.seq (cR [ oM kk30 kk0,
 oP kk31 (.nilck (t30)),
 oP kk32 (.offs (t31) 2),
 oP kk33 (.load 1 false (t32)),
 oP kk34 (.bin .eql (t33) (.c (nI (0))))])
 (.cond (t34)
 .skip
 (.exit 2)))
 (.block 3 (.seq (cR [ oM kk35 kk0,
 oP kk36 (.call 84 [(t35), (.c (.str 4 1413891404))]),
 oM kk4 kk36])
 (.seq (.seq (cR [ oM kk37 kk4])
 (.cond (t37)
 (cR [ oM kk38 kk0,
 oP kk39 (.call 85 [(t38), (.c (.str 4 1313427274))])])
 (.seq (cR [ oM kk40 kk0,
 oP kk41 (.call 84 [(t40), (.c (.str 4 1313427274))]),
 oP kk42 (.un .not (t41))])
 (.cond (t42)
 (.exit 2)
 .skip))))
 (.seq (cR [ oM kk43 kk0,
 oP kk44 (.call 151 [(t43), (.c (.bool false))]),
 oP kk5 (.boxz 148 4 48 [(.bool false), (.str 0 0), (.str 0 0), (nI (0))]),
 oN (.store 4 (t5) (t44))])
 (.seq (cR [ oM kk45 kk4,
 oP kk46 (.offs (t5) 0),
 oN (.store 1 (t46) (t45))])
 (.seq (cR [ oM kk47 kk0,
 oP kk48 (.call 85 [(t47), (.c (.str 2 20047))])])
 (.seq (cR [ oM kk49 kk0,
 oP kk50 (.offs (t3) 1),
 oP kk51 (.load 1 false (t50)),
 oP kk52 (.call 152 [(t49), (t51)]),
 oP kk53 (.offs (t3) 1),
 oN (.store 1 (t53) (t52))])
 (.seq (cR [ oP kk54 (.offs (t3) 1),
 oP kk55 (.load 1 false (t54)),
 oP kk56 (.len (t55)),
 oP kk57 (.bin .sub (t56) (.c (nI (1)))),
 oP kk58 (.offs (t5) 3),
 oN (.store 1 (t58) (t57))])
 (cR [ oP kk59 (.offs (t3) 3),
 oP kk60 (.load 1 false (t59)),
 oP kk61 (.load 4 true (t5)),
 oP kk62 (.buildSl 148 4 48 1 [(.bool false), (.str 0 0), (.str 0 0), (nI (0))] [(0, (t61))]),
 oP kk63 (.app 148 4 48 (t60) (t62)),
 oP kk64 (.offs (t3) 3),
 oN (.store 1 (t64) (t63))]))))))))))))
 (.seq (.seq (cR [ oM kk65 kk0,
 oP kk66 (.call 84 [(t65), (.c (.str 5 297733015639))])])
 (.cond (t66)
 (.seq (cR [ oM kk67 kk0,
 oP kk68 (.offs (t3) 1),
 oP kk69 (.load 1 false (t68)),
 oP kk70 (.call 152 [(t67), (t69)]),
 oP kk71 (.offs (t3) 1),
 oN (.store 1 (t71) (t70))])
 (cR [ oP kk72 (.offs (t3) 1),
 oP kk73 (.load 1 false (t72)),
 oP kk74 (.len (t73)),
 oP kk75 (.bin .sub (t74) (.c (nI (1)))),
 oP kk76 (.offs (t3) 4),
 oN (.store 1 (t76) (t75))]))
 .skip))
 (.seq (.seq (cR [ oM kk77 kk0,
 oP kk78 (.call 84 [(t77), (.c (.str 5 345028645447))])])
 (.cond (t78)
 (.seq (cR [ oM kk79 kk0,
 oP kk80 (.call 85 [(t79), (.c (.str 2 22850))])])
 (.seq (cR [ oP kk81 (.offs (t3) 5),
 oN (.store 1 (t81) (.c (.bool true)))])
 (.block 4 (.loop (.block 5 (.seq (cR [ oM kk82 kk0,
 oP kk83 (.offs (t3) 1),
 oP kk84 (.load 1 false (t83)),
 oP kk85 (.call 153 [(t82), (t84)]),
 oP kk86 (.offs (t3) 1),
 oN (.store 1 (t86) (t85))])
 (.seq (cR [ oP kk87 (.offs (t3) 6),
 oP kk88 (.load 1 false (t87)),
 oP kk89 (.offs (t3) 1),
 oP kk90 (.load 1 false (t89)),
 oP kk91 (.len (t90)),
 oP kk92 (.bin .sub (t91) (.c (nI (1)))),
 oP kk93 (.buildSl 3 1 8 1 [(nI (0))] [(0, (t92))]),
 oP kk94 (.app 3 1 8 (t88) (t93)),
 oP kk95 (.offs (t3) 6),
 oN (.store 1 (t95) (t94))])
 (.seq (cR [ oM kk96 kk0,
 oP kk97 (.call 113 [(t96), (.c (.str 1 44))]),
 oP kk98 (.un .not (t97))])
 (.cond (t98)
 (.exit 4)
 .skip)))))))))
 .skip))
 (.seq (cR [ oP kk99 (.load 7 true (t3)),
 oN (.store 7 (t2) (t99))])
 .ret))))))))))) }
theorem fn83 : fnOf Tryz.prog Tryz.f83 = some i83 := by kernel_rfl
noncomputable def i84 : IFn := { nt := 18, ps := [kk0, kk1], res := [.tmp kk4], body :=
 (.seq (cR [ oC kk4 (.bool false)])
 (.seq (cR [ oM kk6 kk0,
 oM kk7 kk1,
 oP kk8 (.call 154 [(t6), (.c (nI (1))), (t7)]),
 oM kk5 kk8])
 (.seq (.seq (cR [ oM kk9 kk5])
 (.cond (t9)
 (cR [ oM kk10 kk0,
 oP kk11 (.nilck (t10)),
 oP kk12 (.offs (t11) 1),
 oP kk13 (.load 1 false (t12)),
 oP kk14 (.bin .add (t13) (.c (nI (1)))),
 oP kk15 (.nilck (t10)),
 oP kk16 (.offs (t15) 1),
 oN (.store 1 (t16) (t14))])
 .skip))
 (.seq (cR [ oM kk17 kk5,
 oM kk4 kk17])
 .ret)))) }
theorem fn84 : fnOf Tryz.prog Tryz.f84 = some i84 := by kernel_rfl
noncomputable def i85 : IFn := { nt := 17, ps := [kk0, kk1], res := [], body :=
 (.seq (cR [ oM kk4 kk0,
 oP kk5 (.nilck (t4)),
 oP kk6 (.offs (t5) 2),
 oP kk7 (.load 1 false (t6)),
 oP kk8 (.bin .eql (t7) (.c (nI (0)))),
 oM kk9 kk8,
 oG kk10 kk9 true kk0,
 oG kk11 kk9 true kk1,
 oX kk12 kk9 true (.call 84 [(t10), (t11)]),
 oX kk13 kk9 true (.un .not (t12)),
 oP kk14 (.pick (t9) (t13) (.c (.bool false)))])
 (.cond (t14)
 (cR [ oM kk15 kk0,
 oP kk16 (.call 86 [(t15), (.c (nI (5)))])])
 .skip)) }
theorem fn85 : fnOf Tryz.prog Tryz.f85 = some i85 := by kernel_rfl
noncomputable def i86 : IFn := { nt := 20, ps := [kk0, kk1], res := [], body :=
 (.seq (cR [ oM kk4 kk0,
 oP kk5 (.nilck (t4)),
 oP kk6 (.offs (t5) 2),
 oP kk7 (.load 1 false (t6)),
 oP kk8 (.bin .eql (t7) (.c (nI (0))))])
 (.cond (t8)
 (.seq (cR [ oM kk9 kk0,
 oM kk10 kk1,
 oP kk11 (.nilck (t9)),
 oP kk12 (.offs (t11) 2),
 oN (.store 1 (t12) (t10))])
 (cR [ oM kk13 kk0,
 oM kk14 kk0,
 oP kk15 (.nilck (t14)),
 oP kk16 (.offs (t15) 1),
 oP kk17 (.load 1 false (t16)),
 oP kk18 (.nilck (t13)),
 oP kk19 (.offs (t18) 3),
 oN (.store 1 (t19) (t17))]))
 .skip)) }
theorem fn86 : fnOf Tryz.prog Tryz.f86 = some i86 := by kernel_rfl
noncomputable def i87 : IFn := { nt := 16, ps := [kk0, kk1], res := [], body :=
 (.seq (cR [ oM kk6 kk1,
 oP kk7 (.len (t6)),
 oC kk8 (nI 0)])
 (.block 0 (.loop (.seq (cR [ oP kk9 (.bin .lss (t8) (t7))])
 (.seq (.cond (t9)
 .skip
 (.exit 0))
 (.seq (.block 1 (.seq (cR [ oP kk10 (.idxSl 1 (t6) (t8)),
 oP kk11 (.load 1 false (t10)),
 oM kk5 kk11])
 (cR [ oM kk12 kk0,
 oM kk13 kk5,
 oP kk14 (.call 155 [(t12), (.c (nI (1))), (t13)])])))
 (cR [ oP kk15 (.bin .add (t8) (.c (nI (1)))),
 oM kk8 kk15]))))))) }
theorem fn87 : fnOf Tryz.prog Tryz.f87 = some i87 := by kernel_rfl
noncomputable def i88 : IFn := { nt := 73, ps := [kk0, kk1], res := [], body :=
 (.seq (cR [ oP kk3 (.box 97 7 120 (t1))])
 (.seq (cR [ oP kk9 (.offs (t3) 1),
 oP kk10 (.load 1 false (t9)),
 oP kk11 (.call 128 [(t10)]),
 oP kk4 (.boxz 236 2 48 [.nilslice, .nilslice]),
 oN (.store 2 (t4) (t11))])
 (.seq (cR [ oM kk12 kk0,
 oP kk13 (.buildSl 9 1 16 1 [(.str 0 0)] [(0, (.c (.str 6 92647902168403)))]),
 oP kk14 (.call 87 [(t12), (t13)])])
 (.seq (.seq (cR [ oP kk15 (.offs (t3) 0),
 oP kk16 (.load 1 false (t15))])
 (.cond (t16)
 (cR [ oM kk17 kk0,
 oP kk18 (.buildSl 9 1 16 1 [(.str 0 0)] [(0, (.c (.str 8 6071782799479884100)))]),
 oP kk19 (.call 87 [(t17), (t18)])])
 .skip))
 (.seq (.seq (cR [ oP kk20 (.offs (t3) 2),
 oP kk21 (.load 1 false (t20)),
 oP kk22 (.len (t21)),
 oP kk23 (.bin .eql (t22) (.c (nI (0))))])
 (.cond (t23)
 (cR [ oM kk24 kk0,
 oP kk25 (.call 124 [(t24), (.c (.str 1 42))])])
 .skip))
 (.seq (.seq (cR [ oP kk26 (.offs (t3) 2),
 oP kk27 (.load 1 false (t26)),
 oP kk28 (.len (t27)),
 oC kk29 (nI 0)])
 (.block 0 (.loop (.seq (cR [ oP kk30 (.bin .lss (t29) (t28))])
 (.seq (.cond (t30)
 .skip
 (.exit 0))
 (.seq (.block 1 (.seq (cR [ oM kk31 kk29,
 oP kk32 (.idxSl 3 (t27) (t29)),
 oP kk33 (.load 3 true (t32)),
 oP kk6 (.boxz 159 3 32 [(nI (0)), (nI (0)), (.str 0 0)]),
 oM kk5 kk31,
 oN (.store 3 (t6) (t33))])
 (.seq (cR [ oM kk34 kk0,
 oM kk35 kk5,
 oP kk36 (.call 125 [(t34), (t35)])])
 (cR [ oM kk37 kk0,
 oP kk38 (.load 2 true (t4)),
 oP kk39 (.load 3 true (t6)),
 oP kk40 (.call 156 [(t37), (t38), (t39)])]))))
 (cR [ oP kk41 (.bin .add (t29) (.c (nI (1)))),
 oM kk29 kk41])))))))
 (.seq (cR [ oM kk42 kk0,
 oP kk43 (.load 2 true (t4)),
 oP kk44 (.offs (t3) 3),
 oP kk45 (.load 1 false (t44)),
 oP kk46 (.call 157 [(t42), (t43), (t45)])])
 (.seq (cR [ oM kk47 kk0,
 oP kk48 (.load 2 true (t4)),
 oP kk49 (.offs (t3) 4),
 oP kk50 (.load 1 false (t49)),
 oP kk51 (.call 130 [(t47), (t48), (t50)])])
 (.seq (cR [ oP kk52 (.offs (t3) 5),
 oP kk53 (.load 1 false (t52))])
 (.cond (t53)
 (.seq (cR [ oM kk54 kk0,
 oP kk55 (.buildSl 9 1 16 2 [(.str 0 0)] [(0, (.c (.str 5 345028645447))), (1, (.c (.str 2 22850)))]),
 oP kk56 (.call 87 [(t54), (t55)])])
 (.seq (cR [ oP kk57 (.offs (t3) 6),
 oP kk58 (.load 1 false (t57)),
 oP kk59 (.len (t58)),
 oC kk60 (nI 0)])
 (.block 2 (.loop (.seq (cR [ oP kk61 (.bin .lss (t60) (t59))])
 (.seq (.cond (t61)
 .skip
 (.exit 2))
 (.seq (.block 3 (.seq (cR [ oM kk62 kk60,
 oP kk63 (.idxSl 1 (t58) (t60)),
 oP kk64 (.load 1 false (t63)),
 oM kk7 kk62,
 oM kk8 kk64])
 (.seq (cR [ oM kk65 kk0,
 oM kk66 kk7,
 oP kk67 (.call 125 [(t65), (t66)])])
 (cR [ oM kk68 kk0,
 oP kk69 (.load 2 true (t4)),
 oM kk70 kk8,
 oP kk71 (.call 129 [(t68), (t69), (t70), (.c (nI (7)))])]))))
 (cR [ oP kk72 (.bin .add (t60) (.c (nI (1)))),
 oM kk60 kk72]))))))))
 .skip)))))))))) }
theorem fn88 : fnOf Tryz.prog Tryz.f88 = some i88 := by kernel_rfl
noncomputable def i89 : IFn := { nt := 77, ps := [kk0], res := [.tmp kk2], body :=
 (.seq (cR [ oP kk1 (.box 127 3 32 (t0)),
 oC kk2 (.bool false)])
 (.seq (cR [ oP kk4 (.offs (t1) 2),
 oP kk5 (.load 1 false (t4)),
 oM kk3 kk5])
 (.seq (.seq (cR [ oP kk6 (.offs (t1) 0),
 oP kk7 (.load 1 false (t6))])
 (.block 0 (.seq (cR [ oP kk9 (.bin .eql (t7) (.c (nI (1)))),
 oM kk8 kk9])
 (.cond (t8)
 (.seq (cR [ oM kk10 kk3,
 oP kk11 (.bin .neq (t10) (.c (.str 0 0))),
 oM kk12 kk11,
 oG kk13 kk12 true kk3,
 oX kk14 kk12 true (.call 158 [(t13), (.c (nI (0))), (.c (.func 159 [] []))]),
 oG kk15 kk12 true kk3,
 oX kk16 kk12 true (.lenS (t15)),
 oX kk17 kk12 true (.bin .eql (t14) (t16)),
 oP kk18 (.pick (t12) (t17) (.c (.bool false))),
 oM kk19 kk18,
 oX kk20 kk19 true (.load 3 true (t1)),
 oX kk21 kk19 true (.call 160 [(t20)]),
 oP kk22 (.pick (t19) (t21) (.c (.bool false))),
 oM kk2 kk22])
 .ret)
 (.seq (cR [ oP kk24 (.bin .eql (t7) (.c (nI (2)))),
 oM kk23 kk24])
 (.cond (t23)
 (.seq (cR [ oM kk25 kk3,
 oP kk26 (.bin .neq (t25) (.c (.str 0 0))),
 oM kk27 kk26,
 oG kk28 kk27 true kk3,
 oX kk29 kk27 true (.idxStr (t28) (.c (nI (0)))),
 oX kk30 kk27 true (.call 161 [(t29)]),
 oP kk31 (.pick (t27) (t30) (.c (.bool false))),
 oM kk32 kk31,
 oG kk33 kk32 true kk3,
 oX kk34 kk32 true (.call 158 [(t33), (.c (nI (0))), (.c (.func 162 [] []))]),
 oG kk35 kk32 true kk3,
 oX kk36 kk32 true (.lenS (t35)),
 oX kk37 kk32 true (.bin .eql (t34) (t36)),
 oP kk38 (.pick (t32) (t37) (.c (.bool false))),
 oM kk39 kk38,
 oX kk40 kk39 true (.load 3 true (t1)),
 oX kk41 kk39 true (.call 160 [(t40)]),
 oP kk42 (.pick (t39) (t41) (.c (.bool false))),
 oM kk2 kk42])
 .ret)
 (.seq (cR [ oP kk44 (.bin .eql (t7) (.c (nI (3)))),
 oM kk43 kk44])
 (.cond (t43)
 (.seq (cR [ oM kk45 kk3,
 oP kk46 (.bin .neq (t45) (.c (.str 0 0))),
 oM kk47 kk46,
 oG kk48 kk47 true kk3,
 oX kk49 kk47 true (.call 158 [(t48), (.c (nI (0))), (.c (.func 163 [] []))]),
 oG kk50 kk47 true kk3,
 oX kk51 kk47 true (.lenS (t50)),
 oX kk52 kk47 true (.bin .eql (t49) (t51)),
 oP kk53 (.pick (t47) (t52) (.c (.bool false))),
 oM kk54 kk53,
 oX kk55 kk54 true (.load 3 true (t1)),
 oX kk56 kk54 true (.call 160 [(t55)]),
 oP kk57 (.pick (t54) (t56) (.c (.bool false))),
 oM kk2 kk57])
 .ret)
 (.seq (cR [ oP kk59 (.bin .eql (t7) (.c (nI (4)))),
 oM kk58 kk59])
 (.cond (t58)
 (.seq (cR [ oP kk60 (.load 3 true (t1)),
 oP kk61 (.call 160 [(t60)]),
 oM kk2 kk61])
 .ret)
 (.seq (cR [ oP kk63 (.bin .eql (t7) (.c (nI (5)))),
 oM kk62 kk63])
 (.cond (t62)
 (.seq (cR [ oM kk64 kk3,
 oP kk65 (.lenS (t64)),
 oP kk66 (.bin .eql (t65) (.c (nI (1)))),
 oM kk67 kk66,
 oG kk68 kk67 true kk3,
 oX kk69 kk67 true (.idxStr (t68) (.c (nI (0)))),
 oX kk70 kk67 true (.call 164 [(.c (.str 11 71620521292072532312860968)), (t69)]),
 oX kk71 kk67 true (.bin .geq (t70) (.c (nI (0)))),
 oP kk72 (.pick (t67) (t71) (.c (.bool false))),
 oM kk2 kk72])
 .ret)
 (.seq (cR [ oP kk74 (.bin .eql (t7) (.c (nI (6)))),
 oM kk73 kk74])
 (.cond (t73)
 (.seq (cR [ oM kk75 kk3,
 oP kk76 (.bin .eql (t75) (.c (.str 0 0))),
 oM kk2 kk76])
 .ret)
 .skip))))))))))))))
 (.seq (cR [ oC kk2 (.bool false)])
 .ret)))) }
theorem fn89 : fnOf Tryz.prog Tryz.f89 = some i89 := by kernel_rfl
noncomputable def i90 : IFn := { nt := 29, ps := [kk0, kk1], res := [.tmp kk4, .tmp kk5], body :=
 (.seq (cR [ oC kk4 (nI 0),
 oC kk5 (nI 0)])
 (.seq (cR [ oM kk6 kk1,
 oP kk7 (.callv (t6) [])])
 (.seq (.seq (cR [ oM kk8 kk0,
 oP kk9 (.nilck (t8)),
 oP kk10 (.offs (t9) 3),
 oP kk11 (.load 1 false (t10)),
 oP kk12 (.bin .eql (t11) (.c (nI (0)))),
 oM kk13 kk12,
 oG kk14 kk13 true kk0,
 oX kk15 kk13 true (.call 165 [(t14)]),
 oX kk16 kk13 true (.sub (t15) 0 1 false),
 oX kk17 kk13 true (.bin .neq (t16) (.c (nI (6)))),
 oP kk18 (.pick (t13) (t17) (.c (.bool false)))])
 (.cond (t18)
 (cR [ oM kk19 kk0,
 oP kk20 (.call 166 [(t19), (.c (nI (5)))])])
 .skip))
 (.seq (cD [ oM kk21 kk0,
 oP kk22 (.nilck (t21)),
 oP kk23 (.offs (t22) 2),
 oQ kk24 [] (.load 1 false (t23)),
 oM kk25 kk0,
 oP kk26 (.nilck (t25)),
 oP kk27 (.offs (t26) 3),
 oQ kk28 [0] (.load 1 false (t27)),
 oM kk4 kk24,
 oM kk5 kk28])
 .ret)))) }
theorem fn90 : fnOf Tryz.prog Tryz.f90 = some i90 := by kernel_rfl
noncomputable def i91 : IFn := { nt := 4, ps := [kk0, kk1], res := [], body :=
 (cR [ oP kk2 (.load 1 false (t0)),
 oP kk3 (.call 92 [(t2), (.c (.bool false))]),
 oN (.store 2 (t1) (t3))]) }
theorem fn91 : fnOf Tryz.prog Tryz.f91 = some i91 := by kernel_rfl
noncomputable def i92 : IFn := { nt := 47, ps := [kk0, kk1], res := [.cell kk4 2 true], body :=
 (.seq (cR [ oP kk4 (.boxz 37 2 48 [.nilslice, .nilslice])])
 (.seq (cR [ oM kk6 kk0,
 oM kk7 kk1,
 oP kk8 (.call 167 [(t6), (t7)]),
 oP kk9 (.buildSl 97 7 120 1 [(.bool false), .nilslice, .nilslice, .nilslice, (nI (0)), (.bool false), .nilslice] [(0, (t8))]),
 oP kk10 (.build [.nilslice, .nilslice] [(0, 1, (t9))]),
 oP kk5 (.boxz 37 2 48 [.nilslice, .nilslice]),
 oN (.store 2 (t5) (t10))])
 (.block 0 (.loop (.block 1 (.seq (.block 2 (.seq (cR [ oM kk13 kk0,
 oP kk14 (.call 168 [(t13), (.c (.str 5 336337653333))]),
 oM kk12 kk14])
 (.cond (t12)
 (cR [ oP kk15 (.offs (t5) 1),
 oP kk16 (.load 1 false (t15)),
 oP kk17 (.buildSl 3 1 8 1 [(nI (0))] [(0, (.c (nI (6))))]),
 oP kk18 (.app 3 1 8 (t16) (t17)),
 oP kk19 (.offs (t5) 1),
 oN (.store 1 (t19) (t18))])
 (.seq (cR [ oM kk21 kk0,
 oP kk22 (.call 168 [(t21), (.c (.str 6 92703736158277))]),
 oM kk20 kk22])
 (.cond (t20)
 (cR [ oP kk23 (.offs (t5) 1),
 oP kk24 (.load 1 false (t23)),
 oP kk25 (.buildSl 3 1 8 1 [(nI (0))] [(0, (.c (nI (7))))]),
 oP kk26 (.app 3 1 8 (t24) (t25)),
 oP kk27 (.offs (t5) 1),
 oN (.store 1 (t27) (t26))])
 (.seq (cR [ oM kk29 kk0,
 oP kk30 (.call 168 [(t29), (.c (.str 9 1554373874378352119369))]),
 oM kk28 kk30])
 (.cond (t28)
 (cR [ oP kk31 (.offs (t5) 1),
 oP kk32 (.load 1 false (t31)),
 oP kk33 (.buildSl 3 1 8 1 [(nI (0))] [(0, (.c (nI (8))))]),
 oP kk34 (.app 3 1 8 (t32) (t33)),
 oP kk35 (.offs (t5) 1),
 oN (.store 1 (t35) (t34))])
 (.seq (cR [ oP kk11 (.load 2 true (t5)),
 oN (.store 2 (t4) (t11))])
 .ret))))))))
 (.seq (cR [ oM kk36 kk0,
 oP kk37 (.buildSl 9 1 16 1 [(.str 0 0)] [(0, (.c (.str 3 5000257)))]),
 oP kk38 (.call 169 [(t36), (t37)])])
 (cD [ oP kk39 (.offs (t5) 0),
 oQ kk40 [] (.load 1 false (t39)),
 oM kk41 kk0,
 oM kk42 kk1,
 oQ kk43 [0] (.call 167 [(t41), (t42)]),
 oQ kk44 [1] (.buildSl 97 7 120 1 [(.bool false), .nilslice, .nilslice, .nilslice, (nI (0)), (.bool false), .nilslice] [(0, (t43))]),
 oQ kk45 [] (.app 97 7 120 (t40) (t44)),
 oP kk46 (.offs (t5) 0),
 ⟨none, none, some [], .store 1 (t46) (t45)⟩])))))))) }
theorem fn92 : fnOf Tryz.prog Tryz.f92 = some i92 := by kernel_rfl
noncomputable def i93 : IFn := { nt := 26, ps := [kk0, kk1], res := [.tmp kk4], body :=
 (.seq (cR [ oC kk4 (.bool false)])
 (.seq (.seq (cR [ oM kk6 kk0,
 oP kk7 (.len (t6)),
 oM kk8 kk1,
 oP kk9 (.len (t8)),
 oP kk10 (.bin .neq (t7) (t9))])
 (.cond (t10)
 (.seq (cR [ oC kk4 (.bool false)])
 .ret)
 .skip))
 (.seq (.seq (cR [ oM kk11 kk0,
 oP kk12 (.len (t11)),
 oC kk13 (nI 0)])
 (.block 0 (.loop (.seq (cR [ oP kk14 (.bin .lss (t13) (t12))])
 (.seq (.cond (t14)
 .skip
 (.exit 0))
 (.seq (.block 1 (.seq (cR [ oM kk15 kk13,
 oM kk5 kk15])
 (.seq (cD [ oM kk16 kk0,
 oM kk17 kk5,
 oP kk18 (.idxSl 1 (t16) (t17)),
 oQ kk19 [] (.load 1 false (t18)),
 oM kk20 kk1,
 oM kk21 kk5,
 oP kk22 (.idxSl 1 (t20) (t21)),
 oQ kk23 [0] (.load 1 false (t22)),
 oP kk24 (.bin .neq (t19) (t23))])
 (.cond (t24)
 (.seq (cR [ oC kk4 (.bool false)])
 .ret)
 .skip))))
 (cR [ oP kk25 (.bin .add (t13) (.c (nI (1)))),
 oM kk13 kk25])))))))
 (.seq (cR [ oC kk4 (.bool true)])
 .ret)))) }
theorem fn93 : fnOf Tryz.prog Tryz.f93 = some i93 := by kernel_rfl
noncomputable def i94 : IFn := { nt := 32, ps := [kk0, kk1, kk2], res := [.tmp kk6], body :=
 (.seq (cR [ oC kk6 (.bool false)])
 (.seq (.seq (cR [ oM kk10 kk0,
 oP kk11 (.len (t10)),
 oM kk12 kk1,
 oP kk13 (.len (t12)),
 oP kk14 (.bin .neq (t11) (t13))])
 (.cond (t14)
 (.seq (cR [ oC kk6 (.bool false)])
 .ret)
 .skip))
 (.seq (.seq (cR [ oM kk15 kk0,
 oP kk16 (.len (t15)),
 oC kk17 (nI 0)])
 (.block 0 (.loop (.seq (cR [ oP kk18 (.bin .lss (t17) (t16))])
 (.seq (.cond (t18)
 .skip
 (.exit 0))
 (.seq (.block 1 (.seq (cR [ oM kk19 kk17,
 oP kk20 (.idxSl 7 (t15) (t17)),
 oP kk21 (.load 7 true (t20)),
 oP kk8 (.boxz 97 7 120 [(.bool false), .nilslice, .nilslice, .nilslice, (nI (0)), (.bool false), .nilslice]),
 oM kk7 kk19,
 oN (.store 7 (t8) (t21))])
 (.seq (cR [ oM kk22 kk1,
 oM kk23 kk7,
 oP kk24 (.idxSl 7 (t22) (t23)),
 oP kk25 (.load 7 true (t24)),
 oP kk9 (.boxz 97 7 120 [(.bool false), .nilslice, .nilslice, .nilslice, (nI (0)), (.bool false), .nilslice]),
 oN (.store 7 (t9) (t25))])
 (.seq (cR [ oM kk26 kk2,
 oP kk27 (.load 7 true (t8)),
 oP kk28 (.load 7 true (t9)),
 oP kk29 (.callv (t26) [(t27), (t28)]),
 oP kk30 (.un .not (t29))])
 (.cond (t30)
 (.seq (cR [ oC kk6 (.bool false)])
 .ret)
 .skip)))))
 (cR [ oP kk31 (.bin .add (t17) (.c (nI (1)))),
 oM kk17 kk31])))))))
 (.seq (cR [ oC kk6 (.bool true)])
 .ret)))) }
theorem fn94 : fnOf Tryz.prog Tryz.f94 = some i94 := by kernel_rfl
noncomputable def i95 : IFn := { nt := 52, ps := [kk0, kk1], res := [.tmp kk4], body :=
 (.seq (cR [ oP kk2 (.box 97 7 120 (t0)),
 oP kk3 (.box 97 7 120 (t1)),
 oC kk4 (.bool false)])
 (.seq (cR [ oP kk5 (.offs (t2) 0),
 oP kk6 (.load 1 false (t5)),
 oP kk7 (.offs (t3) 0),
 oP kk8 (.load 1 false (t7)),
 oP kk9 (.eqv .bool false (t6) (t8)),
 oM kk10 kk9,
 oX kk11 kk10 true (.offs (t2) 4),
 oX kk12 kk10 true (.load 1 false (t11)),
 oX kk13 kk10 true (.offs (t3) 4),
 oX kk14 kk10 true (.load 1 false (t13)),
 oX kk15 kk10 true (.bin .eql (t12) (t14)),
 oP kk16 (.pick (t10) (t15) (.c (.bool false))),
 oM kk17 kk16,
 oX kk18 kk17 true (.offs (t2) 5),
 oX kk19 kk17 true (.load 1 false (t18)),
 oX kk20 kk17 true (.offs (t3) 5),
 oX kk21 kk17 true (.load 1 false (t20)),
 oX kk22 kk17 true (.eqv .bool false (t19) (t21)),
 oP kk23 (.pick (t17) (t22) (.c (.bool false))),
 oM kk24 kk23,
 oX kk25 kk24 true (.offs (t2) 1),
 oX kk26 kk24 true (.load 1 false (t25)),
 oX kk27 kk24 true (.offs (t3) 1),
 oX kk28 kk24 true (.load 1 false (t27)),
 oX kk29 kk24 true (.call 140 [(t26), (t28)]),
 oP kk30 (.pick (t24) (t29) (.c (.bool false))),
 oM kk31 kk30,
 oX kk32 kk31 true (.offs (t2) 2),
 oX kk33 kk31 true (.load 1 false (t32)),
 oX kk34 kk31 true (.offs (t3) 2),
 oX kk35 kk31 true (.load 1 false (t34)),
 oX kk36 kk31 true (.call 170 [(t33), (t35)]),
 oP kk37 (.pick (t31) (t36) (.c (.bool false))),
 oM kk38 kk37,
 oX kk39 kk38 true (.offs (t2) 3),
 oX kk40 kk38 true (.load 1 false (t39)),
 oX kk41 kk38 true (.offs (t3) 3),
 oX kk42 kk38 true (.load 1 false (t41)),
 oX kk43 kk38 true (.call 171 [(t40), (t42)]),
 oP kk44 (.pick (t38) (t43) (.c (.bool false))),
 oM kk45 kk44,
 oX kk46 kk45 true (.offs (t2) 6),
 oX kk47 kk45 true (.load 1 false (t46)),
 oX kk48 kk45 true (.offs (t3) 6),
 oX kk49 kk45 true (.load 1 false (t48)),
 oX kk50 kk45 true (.call 93 [(t47), (t49)]),
 oP kk51 (.pick (t45) (t50) (.c (.bool false))),
 oM kk4 kk51])
 .ret)) }
theorem fn95 : fnOf Tryz.prog Tryz.f95 = some i95 := by kernel_rfl
noncomputable def i96 : IFn := { nt := 8, ps := [kk0], res := [.tmp kk2], body :=
 (.seq (cR [ oC kk2 (nI 0)])
 (.seq (cR [ oM kk3 kk0,
 oP kk4 (.nilck (t3)),
 oP kk5 (.offs (t4) 1),
 oP kk6 (.load 1 false (t5)),
 oP kk7 (.len (t6)),
 oM kk2 kk7])
 .ret)) }
theorem fn96 : fnOf Tryz.prog Tryz.f96 = some i96 := by kernel_rfl
noncomputable def i97 : IFn := { nt := 17, ps := [kk0, kk1], res := [.tmp kk4], body :=
 (.seq (cR [ oC kk4 .niliface])
 (.seq (cR [ oM kk5 kk0,
 oP kk6 (.call 172 [(t5)])])
 (.seq (cR [ oM kk7 kk0,
 oM kk8 kk0,
 oP kk9 (.nilck (t8)),
 oP kk10 (.offs (t9) 1),
 oP kk11 (.load 1 false (t10)),
 oM kk12 kk1,
 oP kk13 (.buildSl 5 1 1 1 [(.int .u8 (.ofNat 0))] [(0, (t12))]),
 oP kk14 (.app 5 1 1 (t11) (t13)),
 oP kk15 (.nilck (t7)),
 oP kk16 (.offs (t15) 1),
 oN (.store 1 (t16) (t14))])
 (.seq (cR [ oC kk4 .niliface])
 .ret)))) }
theorem fn97 : fnOf Tryz.prog Tryz.f97 = some i97 := by kernel_rfl
noncomputable def i98 : IFn := { nt := 19, ps := [kk0, kk1], res := [.tmp kk4, .tmp kk5], body :=
 (.seq (cR [ oC kk4 (nI 0),
 oC kk5 .niliface])
 (.seq (cR [ oM kk6 kk0,
 oP kk7 (.call 172 [(t6)])])
 (.seq (cR [ oM kk8 kk0,
 oM kk9 kk0,
 oP kk10 (.nilck (t9)),
 oP kk11 (.offs (t10) 1),
 oP kk12 (.load 1 false (t11)),
 oM kk13 kk1,
 oP kk14 (.appStr 5 (t12) (t13)),
 oP kk15 (.nilck (t8)),
 oP kk16 (.offs (t15) 1),
 oN (.store 1 (t16) (t14))])
 (.seq (cR [ oM kk17 kk1,
 oP kk18 (.lenS (t17)),
 oM kk4 kk18,
 oC kk5 .niliface])
 .ret)))) }
theorem fn98 : fnOf Tryz.prog Tryz.f98 = some i98 := by kernel_rfl
noncomputable def i99 : IFn := { nt := 11, ps := [kk0, kk1, kk2], res := [.tmp kk6], body :=
 (.seq (cR [ oC kk6 (.str 0 0)])
 (.seq (cR [ oM kk7 kk0,
 oM kk8 kk1,
 oM kk9 kk2,
 oP kk10 (.call 173 [(t7), (t8), (t9), (.c (.int .i64 (.negSucc 0)))]),
 oM kk6 kk10])
 .ret)) }
theorem fn99 : fnOf Tryz.prog Tryz.f99 = some i99 := by kernel_rfl
noncomputable def i100 : IFn := { nt := 14, ps := [kk0], res := [.tmp kk2], body :=
 (.seq (cR [ oC kk2 (.str 0 0)])
 (.seq (cD [ oM kk3 kk0,
 oP kk4 (.nilck (t3)),
 oP kk5 (.offs (t4) 1),
 oQ kk6 [] (.load 1 false (t5)),
 oP kk7 (.usd (t6)),
 oM kk8 kk0,
 oP kk9 (.nilck (t8)),
 oP kk10 (.offs (t9) 1),
 oQ kk11 [0] (.load 1 false (t10)),
 oP kk12 (.len (t11)),
 oQ kk13 [] (.ustr 5 (t7) (t12)),
 oM kk2 kk13])
 .ret)) }
theorem fn100 : fnOf Tryz.prog Tryz.f100 = some i100 := by kernel_rfl
noncomputable def i101 : IFn := { nt := 8, ps := [kk0], res := [.cell kk2 3 true], body :=
 (.seq (.region false [⟨some kk1, none, none, .box 77 3 40 (.t kk0)⟩,
  ⟨some kk2, none, none, .boxz 77 3 40 [(.int .i64 (.ofNat 0)), (.int .i64 (.ofNat 0)), .nilslice]⟩])
 (.seq (.region false [⟨some kk3, none, none, .offs (.t kk1) 2⟩,
  ⟨some kk4, none, none, .load 1 false (.t kk3)⟩,
  ⟨some kk5, none, none, .call 174 [(.t kk4)]⟩,
  ⟨some kk6, none, none, .offs (.t kk1) 2⟩,
  ⟨none, none, none, .store 1 (.t kk6) (.t kk5)⟩])
 (.seq (.region false [⟨some kk7, none, none, .load 3 true (.t kk1)⟩,
  ⟨none, none, none, .store 3 (.t kk2) (.t kk7)⟩])
 .ret))) }
theorem fn101 : fnOf Tryz.prog Tryz.f101 = some i101 := by kernel_rfl
noncomputable def i102 : IFn := { nt := 19, ps := [kk0, kk1], res := [.tmp kk4], body :=
 (.seq (cR [ oC kk4 (nI 0)])
 (.seq (.seq (cR [ oM kk6 kk0,
 oP kk7 (.len (t6)),
 oC kk8 (nI 0)])
 (.block 0 (.loop (.seq (cR [ oP kk9 (.bin .lss (t8) (t7))])
 (.seq (.cond (t9)
 .skip
 (.exit 0))
 (.seq (.block 1 (.seq (cR [ oM kk10 kk8,
 oM kk5 kk10])
 (.seq (cR [ oM kk11 kk1,
 oM kk12 kk0,
 oM kk13 kk5,
 oP kk14 (.idxSl 2 (t12) (t13)),
 oP kk15 (.load 2 true (t14)),
 oP kk16 (.callv (t11) [(t15)])])
 (.cond (t16)
 (.seq (cR [ oM kk17 kk5,
 oM kk4 kk17])
 .ret)
 .skip))))
 (cR [ oP kk18 (.bin .add (t8) (.c (nI (1)))),
 oM kk8 kk18])))))))
 (.seq (cR [ oC kk4 (.int .i64 (.negSucc 0))])
 .ret))) }
theorem fn102 : fnOf Tryz.prog Tryz.f102 = some i102 := by kernel_rfl
noncomputable def i103 : IFn := { nt := 19, ps := [kk0, kk1], res := [.tmp kk4], body :=
 (.seq (cR [ oC kk4 (nI 0)])
 (.block 0 (.loop (.block 1 (.seq (.seq (cR [ oM kk5 kk0,
 oM kk6 kk1,
 oP kk7 (.idxSl 8 (t5) (t6)),
 oP kk8 (.offs (t7) 0),
 oP kk9 (.load 1 false (t8))])
 (.block 2 (.seq (.seq (cR [ oP kk11 (.bin .eql (t9) (.c (nI (1)))),
 oM kk10 kk11])
 (.cond (t10)
 .skip
 (cR [ oP kk12 (.bin .eql (t9) (.c (nI (2)))),
 oM kk10 kk12])))
 (.cond (t10)
 (.seq (cR [ oM kk13 kk1,
 oM kk4 kk13])
 .ret)
 .skip))))
 (cR [ oM kk14 kk0,
 oM kk15 kk1,
 oP kk16 (.idxSl 8 (t14) (t15)),
 oP kk17 (.offs (t16) 1),
 oP kk18 (.load 1 false (t17)),
 oM kk1 kk18])))))) }
theorem fn103 : fnOf Tryz.prog Tryz.f103 = some i103 := by kernel_rfl
noncomputable def i104 : IFn := { nt := 9, ps := [kk0, kk1], res := [.tmp kk4], body :=
 (.seq (cR [ oC kk4 (.bool false)])
 (.seq (cR [ oM kk5 kk0,
 oM kk6 kk1,
 oP kk7 (.call 175 [(t5), (t6)]),
 oP kk8 (.bin .geq (t7) (.c (nI (0)))),
 oM kk4 kk8])
 .ret)) }
theorem fn104 : fnOf Tryz.prog Tryz.f104 = some i104 := by kernel_rfl
noncomputable def i105 : IFn := { nt := 6, ps := [kk0], res := [.tmp kk2], body :=
 (.seq (cR [ oP kk1 (.box 159 3 32 (t0)),
 oC kk2 (.bool false)])
 (.seq (cR [ oP kk3 (.offs (t1) 0),
 oP kk4 (.load 1 false (t3)),
 oP kk5 (.bin .neq (t4) (.c (nI (0)))),
 oM kk2 kk5])
 .ret)) }
theorem fn105 : fnOf Tryz.prog Tryz.f105 = some i105 := by kernel_rfl
noncomputable def i106 : IFn := { nt := 19, ps := [kk0, kk1], res := [.tmp kk4], body :=
 (.seq (cR [ oC kk4 (nI 0)])
 (.seq (.seq (cR [ oM kk6 kk0,
 oP kk7 (.len (t6)),
 oC kk8 (nI 0)])
 (.block 0 (.loop (.seq (cR [ oP kk9 (.bin .lss (t8) (t7))])
 (.seq (.cond (t9)
 .skip
 (.exit 0))
 (.seq (.block 1 (.seq (cR [ oM kk10 kk8,
 oM kk5 kk10])
 (.seq (cR [ oM kk11 kk1,
 oM kk12 kk0,
 oM kk13 kk5,
 oP kk14 (.idxSl 1 (t12) (t13)),
 oP kk15 (.load 1 false (t14)),
 oP kk16 (.callv (t11) [(t15)])])
 (.cond (t16)
 (.seq (cR [ oM kk17 kk5,
 oM kk4 kk17])
 .ret)
 .skip))))
 (cR [ oP kk18 (.bin .add (t8) (.c (nI (1)))),
 oM kk8 kk18])))))))
 (.seq (cR [ oC kk4 (.int .i64 (.negSucc 0))])
 .ret))) }
theorem fn106 : fnOf Tryz.prog Tryz.f106 = some i106 := by kernel_rfl
noncomputable def i107 : IFn := { nt := 21, ps := [kk0, kk1, kk2], res := [.tmp kk4], body :=
 (.seq (cR [ oC kk4 (.bool false)])
 (.seq (cD [ oQ kk5 [] (.load 1 false (t1)),
 oP kk6 (.nilck (t5)),
 oP kk7 (.offs (t6) 9),
 oQ kk8 [] (.load 1 false (t7)),
 oM kk9 kk0,
 oP kk10 (.idxSl 1 (t8) (t9)),
 oQ kk11 [] (.load 1 false (t10)),
 oQ kk12 [0, 1, 2] (.load 1 false (t1)),
 oP kk13 (.nilck (t12)),
 oP kk14 (.offs (t13) 9),
 oQ kk15 [1, 2, 3] (.load 1 false (t14)),
 oP kk16 (.offs (t2) 1),
 oQ kk17 [0, 1, 2, 3, 4] (.load 1 false (t16)),
 oP kk18 (.idxSl 1 (t15) (t17)),
 oQ kk19 [3, 4, 5] (.load 1 false (t18)),
 oP kk20 (.bin .eql (t11) (t19)),
 oM kk4 kk20])
 .ret)) }
theorem fn107 : fnOf Tryz.prog Tryz.f107 = some i107 := by kernel_rfl
noncomputable def i108 : IFn := { nt := 16, ps := [kk0], res := [.tmp kk2], body :=
 (.seq (cR [ oC kk2 (nI 0)])
 (.seq (.seq (cR [ oM kk3 kk0])
 (.block 0 (.seq (cR [ oP kk5 (.bin .eql (t3) (.c (nI (3)))),
 oM kk4 kk5])
 (.cond (t4)
 (.seq (cR [ oC kk2 (nI 3)])
 .ret)
 (.seq (cR [ oP kk7 (.bin .eql (t3) (.c (nI (4)))),
 oM kk6 kk7])
 (.cond (t6)
 (.seq (cR [ oC kk2 (nI 4)])
 .ret)
 (.seq (cR [ oP kk9 (.bin .eql (t3) (.c (nI (5)))),
 oM kk8 kk9])
 (.cond (t8)
 (.seq (cR [ oC kk2 (nI 5)])
 .ret)
 (.seq (cR [ oP kk11 (.bin .eql (t3) (.c (nI (6)))),
 oM kk10 kk11])
 (.cond (t10)
 (.seq (cR [ oC kk2 (nI 6)])
 .ret)
 (.seq (cR [ oP kk13 (.bin .eql (t3) (.c (nI (7)))),
 oM kk12 kk13])
 (.cond (t12)
 (.seq (cR [ oC kk2 (nI 7)])
 .ret)
 (.seq (cR [ oP kk15 (.bin .eql (t3) (.c (nI (9)))),
 oM kk14 kk15])
 (.cond (t14)
 (.seq (cR [ oC kk2 (nI 8)])
 .ret)
 .skip))))))))))))))
 (.seq (cR [ oC kk2 (nI 9)])
 .ret))) }
theorem fn108 : fnOf Tryz.prog Tryz.f108 = some i108 := by kernel_rfl
noncomputable def rows0 : List (Nat × IFn) := [(3, i3), (4, i4), (5, i5), (6, i6), (7, i7), (8, i8), (9, i9), (10, i10), (11, i11), (12, i12), (13, i13), (14, i14), (15, i15), (16, i16), (17, i17), (18, i18), (19, i19), (20, i20), (21, i21), (22, i22), (23, i23), (24, i24), (25, i25), (26, i26), (27, i27), (28, i28), (29, i29), (30, i30), (31, i31), (32, i32), (33, i33), (34, i34), (35, i35), (36, i36), (37, i37), (38, i38), (39, i39), (40, i40), (41, i41), (42, i42), (43, i43), (44, i44), (45, i45), (46, i46), (47, i47), (48, i48), (49, i49), (50, i50), (51, i51), (52, i52), (53, i53), (54, i54), (55, i55), (56, i56), (57, i57), (58, i58), (59, i59), (60, i60), (61, i61), (62, i62), (63, i63), (64, i64), (65, i65), (66, i66), (67, i67), (68, i68), (69, i69), (70, i70), (71, i71), (72, i72), (73, i73), (74, i74), (75, i75), (76, i76), (77, i77), (78, i78), (79, i79), (80, i80), (81, i81), (82, i82), (83, i83), (84, i84), (85, i85), (86, i86), (87, i87), (88, i88), (89, i89), (90, i90), (91, i91), (92, i92), (93, i93), (94, i94), (95, i95), (96, i96), (97, i97), (98, i98), (99, i99), (100, i100), (101, i101), (102, i102), (103, i103), (104, i104), (105, i105), (106, i106), (107, i107), (108, i108)]
theorem rows0_ok : ∀ p, p ∈ rows0 → RowOk Tryz.prog p :=
  rows_cons Tryz.func3 fn3 <|
  rows_cons Tryz.func4 fn4 <|
  rows_cons Tryz.func5 fn5 <|
  rows_cons Tryz.func6 fn6 <|
  rows_cons Tryz.func7 fn7 <|
  rows_cons Tryz.func8 fn8 <|
  rows_cons Tryz.func9 fn9 <|
  rows_cons Tryz.func10 fn10 <|
  rows_cons Tryz.func11 fn11 <|
  rows_cons Tryz.func12 fn12 <|
  rows_cons Tryz.func13 fn13 <|
  rows_cons Tryz.func14 fn14 <|
  rows_cons Tryz.func15 fn15 <|
  rows_cons Tryz.func16 fn16 <|
  rows_cons Tryz.func17 fn17 <|
  rows_cons Tryz.func18 fn18 <|
  rows_cons Tryz.func19 fn19 <|
  rows_cons Tryz.func20 fn20 <|
  rows_cons Tryz.func21 fn21 <|
  rows_cons Tryz.func22 fn22 <|
  rows_cons Tryz.func23 fn23 <|
  rows_cons Tryz.func24 fn24 <|
  rows_cons Tryz.func25 fn25 <|
  rows_cons Tryz.func26 fn26 <|
  rows_cons Tryz.func27 fn27 <|
  rows_cons Tryz.func28 fn28 <|
  rows_cons Tryz.func29 fn29 <|
  rows_cons Tryz.func30 fn30 <|
  rows_cons Tryz.func31 fn31 <|
  rows_cons Tryz.func32 fn32 <|
  rows_cons Tryz.func33 fn33 <|
  rows_cons Tryz.func34 fn34 <|
  rows_cons Tryz.func35 fn35 <|
  rows_cons Tryz.func36 fn36 <|
  rows_cons Tryz.func37 fn37 <|
  rows_cons Tryz.func38 fn38 <|
  rows_cons Tryz.func39 fn39 <|
  rows_cons Tryz.func40 fn40 <|
  rows_cons Tryz.func41 fn41 <|
  rows_cons Tryz.func42 fn42 <|
  rows_cons Tryz.func43 fn43 <|
  rows_cons Tryz.func44 fn44 <|
  rows_cons Tryz.func45 fn45 <|
  rows_cons Tryz.func46 fn46 <|
  rows_cons Tryz.func47 fn47 <|
  rows_cons Tryz.func48 fn48 <|
  rows_cons Tryz.func49 fn49 <|
  rows_cons Tryz.func50 fn50 <|
  rows_cons Tryz.func51 fn51 <|
  rows_cons Tryz.func52 fn52 <|
  rows_cons Tryz.func53 fn53 <|
  rows_cons Tryz.func54 fn54 <|
  rows_cons Tryz.func55 fn55 <|
  rows_cons Tryz.func56 fn56 <|
  rows_cons Tryz.func57 fn57 <|
  rows_cons Tryz.func58 fn58 <|
  rows_cons Tryz.func59 fn59 <|
  rows_cons Tryz.func60 fn60 <|
  rows_cons Tryz.func61 fn61 <|
  rows_cons Tryz.func62 fn62 <|
  rows_cons Tryz.func63 fn63 <|
  rows_cons Tryz.func64 fn64 <|
  rows_cons Tryz.func65 fn65 <|
  rows_cons Tryz.func66 fn66 <|
  rows_cons Tryz.func67 fn67 <|
  rows_cons Tryz.func68 fn68 <|
  rows_cons Tryz.func69 fn69 <|
  rows_cons Tryz.func70 fn70 <|
  rows_cons Tryz.func71 fn71 <|
  rows_cons Tryz.func72 fn72 <|
  rows_cons Tryz.func73 fn73 <|
  rows_cons Tryz.func74 fn74 <|
  rows_cons Tryz.func75 fn75 <|
  rows_cons Tryz.func76 fn76 <|
  rows_cons Tryz.func77 fn77 <|
  rows_cons Tryz.func78 fn78 <|
  rows_cons Tryz.func79 fn79 <|
  rows_cons Tryz.func80 fn80 <|
  rows_cons Tryz.func81 fn81 <|
  rows_cons Tryz.func82 fn82 <|
  rows_cons Tryz.func83 fn83 <|
  rows_cons Tryz.func84 fn84 <|
  rows_cons Tryz.func85 fn85 <|
  rows_cons Tryz.func86 fn86 <|
  rows_cons Tryz.func87 fn87 <|
  rows_cons Tryz.func88 fn88 <|
  rows_cons Tryz.func89 fn89 <|
  rows_cons Tryz.func90 fn90 <|
  rows_cons Tryz.func91 fn91 <|
  rows_cons Tryz.func92 fn92 <|
  rows_cons Tryz.func93 fn93 <|
  rows_cons Tryz.func94 fn94 <|
  rows_cons Tryz.func95 fn95 <|
  rows_cons Tryz.func96 fn96 <|
  rows_cons Tryz.func97 fn97 <|
  rows_cons Tryz.func98 fn98 <|
  rows_cons Tryz.func99 fn99 <|
  rows_cons Tryz.func100 fn100 <|
  rows_cons Tryz.func101 fn101 <|
  rows_cons Tryz.func102 fn102 <|
  rows_cons Tryz.func103 fn103 <|
  rows_cons Tryz.func104 fn104 <|
  rows_cons Tryz.func105 fn105 <|
  rows_cons Tryz.func106 fn106 <|
  rows_cons Tryz.func107 fn107 <|
  rows_cons Tryz.func108 fn108 <|
  rows_nil
end Go.Proofs.YtffkihiledcilaaGreatDoor
