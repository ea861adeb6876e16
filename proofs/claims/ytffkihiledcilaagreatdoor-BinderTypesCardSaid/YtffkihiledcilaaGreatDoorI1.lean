/- The program's functions, turned into instructions (printed by program), part 1, and that they are so turned. -/
import Derived.Test.YtffkihiledcilaaGreatDoorI0
namespace Go.Proofs.YtffkihiledcilaaGreatDoor
open Go Go.Ev
set_option maxRecDepth 100000
set_option maxHeartbeats 4000000
noncomputable def i109 : IFn := { nt := 114, ps := [kk0, kk1], res := [.tmp kk4, .tmp kk5], body :=
 (.seq (cR [ oP kk2 (.box 222 1 8 (t0)),
 oP kk3 (.box 69 7 96 (t1)),
 oC kk4 .nilslice,
 oC kk5 (nI 0)])
 (.seq (cR [ oP kk7 (.mkfn 176 [] [(t2)]),
 oM kk6 kk7])
 (.seq (.block 0 (.seq (cR [ oP kk9 (.offs (t3) 0),
 oP kk10 (.load 1 false (t9)),
 oP kk11 (.bin .lss (t10) (.c (nI (1)))),
 oM kk12 kk11,
 oX kk13 kk12 false (.offs (t3) 0),
 oX kk14 kk12 false (.load 1 false (t13)),
 oX kk15 kk12 false (.bin .gtr (t14) (.c (nI (10)))),
 oP kk16 (.pick (t12) (.c (.bool true)) (t15)),
 oM kk8 kk16])
 (.cond (t8)
 (.seq (cR [ oC kk4 .nilslice,
 oC kk5 (nI 5)])
 .ret)
 (.seq (cR [ oP kk18 (.offs (t3) 0),
 oP kk19 (.load 1 false (t18)),
 oP kk20 (.bin .eql (t19) (.c (nI (1)))),
 oM kk17 kk20])
 (.cond (t17)
 (.seq (cR [ oP kk21 (.load 1 false (t2)),
 oP kk22 (.offs (t3) 4),
 oP kk23 (.load 1 false (t22)),
 oP kk24 (.call 177 [(t21), (t23)]),
 oP kk25 (.extr (t24) 0),
 oP kk26 (.extr (t24) 1),
 oM kk4 kk25,
 oM kk5 kk26])
 .ret)
 (.seq (cR [ oM kk28 kk6,
 oP kk29 (.offs (t3) 1),
 oP kk30 (.load 1 false (t29)),
 oP kk31 (.callv (t28) [(t30)]),
 oP kk32 (.un .not (t31)),
 oM kk33 kk32,
 oX kk34 kk33 false (.offs (t3) 0),
 oX kk35 kk33 false (.load 1 false (t34)),
 oX kk36 kk33 false (.call 178 [(t35)]),
 oG kk37 kk33 false kk36,
 oG kk38 kk37 true kk6,
 oX kk39 kk37 true (.offs (t3) 2),
 oX kk40 kk37 true (.load 1 false (t39)),
 oX kk41 kk37 true (.callv (t38) [(t40)]),
 oX kk42 kk37 true (.un .not (t41)),
 oX kk43 kk33 false (.pick (t37) (t42) (.c (.bool false))),
 oP kk44 (.pick (t33) (.c (.bool true)) (t43)),
 oM kk27 kk44])
 (.cond (t27)
 (.seq (cR [ oC kk4 .nilslice,
 oC kk5 (nI 10)])
 .ret)
 .skip)))))))
 (.seq (.seq (cR [ oP kk45 (.offs (t3) 0),
 oP kk46 (.load 1 false (t45))])
 (.block 1 (.seq (cR [ oP kk48 (.bin .eql (t46) (.c (nI (2)))),
 oM kk47 kk48])
 (.cond (t47)
 (.seq (cD [ oQ kk49 [] (.load 1 false (t2)),
 oP kk50 (.nilck (t49)),
 oP kk51 (.offs (t50) 3),
 oQ kk52 [] (.load 1 false (t51)),
 oP kk53 (.offs (t3) 1),
 oQ kk54 [0, 1] (.load 1 false (t53)),
 oP kk55 (.idxSl 1 (t52) (t54)),
 oQ kk56 [] (.load 1 false (t55)),
 oQ kk57 [0, 1, 2, 3] (.load 1 false (t2)),
 oQ kk58 [0, 1, 2, 3, 4] (.load 7 true (t3)),
 oQ kk59 [2, 3, 4, 5] (.call 179 [(t57), (t58)]),
 oM kk4 kk56,
 oM kk5 kk59])
 .ret)
 (.seq (.seq (cR [ oP kk61 (.bin .eql (t46) (.c (nI (4)))),
 oM kk60 kk61])
 (.cond (t60)
 .skip
 (cR [ oP kk62 (.bin .eql (t46) (.c (nI (5)))),
 oM kk60 kk62])))
 (.cond (t60)
 (.seq (cD [ oQ kk63 [] (.load 1 false (t2)),
 oQ kk64 [0] (.load 7 true (t3)),
 oQ kk65 [] (.call 180 [(t63), (t64)]),
 oQ kk66 [0, 1, 2] (.load 1 false (t2)),
 oQ kk67 [0, 1, 2, 3] (.load 7 true (t3)),
 oQ kk68 [] (.call 179 [(t66), (t67)]),
 oM kk4 kk65,
 oM kk5 kk68])
 .ret)
 (.seq (cR [ oP kk70 (.bin .eql (t46) (.c (nI (3)))),
 oM kk69 kk70])
 (.cond (t69)
 (.seq (cR [ oP kk71 (.load 1 false (t2)),
 oP kk72 (.load 7 true (t3)),
 oP kk73 (.call 181 [(t71), (t72)]),
 oP kk74 (.extr (t73) 0),
 oP kk75 (.extr (t73) 1),
 oM kk4 kk74,
 oM kk5 kk75])
 .ret)
 (.seq (.seq (cR [ oP kk77 (.bin .eql (t46) (.c (nI (6)))),
 oM kk76 kk77])
 (.cond (t76)
 .skip
 (.seq (cR [ oP kk78 (.bin .eql (t46) (.c (nI (7)))),
 oM kk76 kk78])
 (.cond (t76)
 .skip
 (cR [ oP kk79 (.bin .eql (t46) (.c (nI (8)))),
 oM kk76 kk79])))))
 (.cond (t76)
 (.seq (cD [ oQ kk80 [] (.load 1 false (t2)),
 oP kk81 (.nilck (t80)),
 oP kk82 (.offs (t81) 3),
 oQ kk83 [] (.load 1 false (t82)),
 oP kk84 (.offs (t3) 1),
 oQ kk85 [0, 1] (.load 1 false (t84)),
 oP kk86 (.idxSl 1 (t83) (t85)),
 oQ kk87 [] (.load 1 false (t86)),
 oQ kk88 [0, 1, 2, 3] (.load 1 false (t2)),
 oP kk89 (.nilck (t88)),
 oP kk90 (.offs (t89) 3),
 oQ kk91 [1, 2, 3, 4] (.load 1 false (t90)),
 oP kk92 (.offs (t3) 2),
 oQ kk93 [0, 1, 2, 3, 4, 5] (.load 1 false (t92)),
 oP kk94 (.idxSl 1 (t91) (t93)),
 oQ kk95 [3, 4, 5, 6] (.load 1 false (t94)),
 oQ kk96 [] (.call 182 [(t87), (t95)]),
 oP kk97 (.extr (t96) 0),
 oP kk98 (.extr (t96) 1),
 oM kk4 kk97,
 oM kk5 kk98])
 .ret)
 (.seq (cR [ oP kk100 (.bin .eql (t46) (.c (nI (10)))),
 oM kk99 kk100])
 (.cond (t99)
 (.seq (cR [ oP kk101 (.load 1 false (t2)),
 oP kk102 (.load 7 true (t3)),
 oP kk103 (.call 183 [(t101), (t102)]),
 oP kk104 (.extr (t103) 0),
 oP kk105 (.extr (t103) 1),
 oM kk4 kk104,
 oM kk5 kk105])
 .ret)
 .skip))))))))))))
 (.seq (cD [ oQ kk106 [] (.load 1 false (t2)),
 oP kk107 (.nilck (t106)),
 oP kk108 (.offs (t107) 3),
 oQ kk109 [] (.load 1 false (t108)),
 oP kk110 (.offs (t3) 1),
 oQ kk111 [0, 1] (.load 1 false (t110)),
 oP kk112 (.idxSl 1 (t109) (t111)),
 oQ kk113 [] (.load 1 false (t112)),
 oM kk4 kk113,
 oC kk5 (nI 0)])
 .ret))))) }
theorem fn109 : fnOf Tryz.prog Tryz.f109 = some i109 := by kernel_rfl
noncomputable def i110 : IFn := { nt := 44, ps := [kk0, kk1], res := [.tmp kk4], body :=
 (.seq (cR [ oC kk4 (.str 0 0)])
 (.seq (.seq (cR [ oM kk5 kk0,
 oP kk6 (.nilck (t5)),
 oP kk7 (.offs (t6) 2),
 oP kk8 (.load 1 false (t7)),
 oP kk9 (.bin .neq (t8) (.c (nI (0))))])
 (.cond (t9)
 (.seq (cR [ oC kk4 (.str 0 0)])
 .ret)
 .skip))
 (.seq (.seq (cD [ oM kk10 kk0,
 oP kk11 (.nilck (t10)),
 oP kk12 (.offs (t11) 0),
 oQ kk13 [] (.load 1 false (t12)),
 oM kk14 kk0,
 oP kk15 (.nilck (t14)),
 oP kk16 (.offs (t15) 1),
 oQ kk17 [0] (.load 1 false (t16)),
 oP kk18 (.idxSl 3 (t13) (t17)),
 oP kk19 (.offs (t18) 0),
 oQ kk20 [] (.load 1 false (t19)),
 oM kk21 kk1,
 oP kk22 (.bin .neq (t20) (t21))])
 (.cond (t22)
 (.seq (cR [ oM kk23 kk0,
 oP kk24 (.call 86 [(t23), (.c (nI (5)))])])
 (.seq (cR [ oC kk4 (.str 0 0)])
 .ret))
 .skip))
 (.seq (cR [ oM kk25 kk0,
 oP kk26 (.nilck (t25)),
 oP kk27 (.offs (t26) 1),
 oP kk28 (.load 1 false (t27)),
 oP kk29 (.bin .add (t28) (.c (nI (1)))),
 oP kk30 (.nilck (t25)),
 oP kk31 (.offs (t30) 1),
 oN (.store 1 (t31) (t29))])
 (.seq (cD [ oM kk32 kk0,
 oP kk33 (.nilck (t32)),
 oP kk34 (.offs (t33) 0),
 oQ kk35 [] (.load 1 false (t34)),
 oM kk36 kk0,
 oP kk37 (.nilck (t36)),
 oP kk38 (.offs (t37) 1),
 oQ kk39 [0] (.load 1 false (t38)),
 oP kk40 (.bin .sub (t39) (.c (nI (1)))),
 oP kk41 (.idxSl 3 (t35) (t40)),
 oP kk42 (.offs (t41) 2),
 oQ kk43 [] (.load 1 false (t42)),
 oM kk4 kk43])
 .ret))))) }
theorem fn110 : fnOf Tryz.prog Tryz.f110 = some i110 := by kernel_rfl
noncomputable def i111 : IFn := { nt := 17, ps := [kk0, kk1], res := [], body :=
 (.seq (cR [ oM kk4 kk0,
 oP kk5 (.nilck (t4)),
 oP kk6 (.offs (t5) 2),
 oP kk7 (.load 1 false (t6)),
 oP kk8 (.bin .eql (t7) (.c (nI (0)))),
 oM kk9 kk8,
 oG kk10 kk9 true kk0,
 oG kk11 kk9 true kk1,
 oX kk12 kk9 true (.call 113 [(t10), (t11)]),
 oX kk13 kk9 true (.un .not (t12)),
 oP kk14 (.pick (t9) (t13) (.c (.bool false)))])
 (.cond (t14)
 (cR [ oM kk15 kk0,
 oP kk16 (.call 86 [(t15), (.c (nI (5)))])])
 .skip)) }
theorem fn111 : fnOf Tryz.prog Tryz.f111 = some i111 := by kernel_rfl
noncomputable def i112 : IFn := { nt := 15, ps := [kk0], res := [.cell kk2 3 true], body :=
 (.seq (cR [ oP kk2 (.boxz 153 3 32 [(nI (0)), (nI (0)), (.str 0 0)])])
 (.seq (cR [ oM kk6 kk0,
 oP kk7 (.call 184 [(t6)]),
 oM kk5 kk7,
 oP kk8 (.extr (t5) 0),
 oP kk9 (.extr (t5) 1),
 oP kk3 (.boxz 153 3 32 [(nI (0)), (nI (0)), (.str 0 0)]),
 oN (.store 3 (t3) (t8)),
 oM kk4 kk9])
 (.seq (.seq (cR [ oM kk10 kk4,
 oP kk11 (.un .not (t10))])
 (.cond (t11)
 (cR [ oM kk12 kk0,
 oP kk13 (.call 86 [(t12), (.c (nI (5)))])])
 .skip))
 (.seq (cR [ oP kk14 (.load 3 true (t3)),
 oN (.store 3 (t2) (t14))])
 .ret)))) }
theorem fn112 : fnOf Tryz.prog Tryz.f112 = some i112 := by kernel_rfl
noncomputable def i113 : IFn := { nt := 18, ps := [kk0, kk1], res := [.tmp kk4], body :=
 (.seq (cR [ oC kk4 (.bool false)])
 (.seq (cR [ oM kk6 kk0,
 oM kk7 kk1,
 oP kk8 (.call 154 [(t6), (.c (nI (5))), (t7)]),
 oM kk5 kk8])
 (.seq (.seq (cR [ oM kk9 kk5])
 (.cond (t9)
 (cR [ oM kk10 kk0,
 oP kk11 (.nilck (t10)),
 oP kk12 (.offs (t11) 1),
 oP kk13 (.load 1 false (t12)),
 oP kk14 (.bin .add (t13) (.c (nI (1)))),
 oP kk15 (.nilck (t10)),
 oP kk16 (.offs (t15) 1),
 oN (.store 1 (t16) (t14))])
 .skip))
 (.seq (cR [ oM kk17 kk5,
 oM kk4 kk17])
 .ret)))) }
theorem fn113 : fnOf Tryz.prog Tryz.f113 = some i113 := by kernel_rfl
noncomputable def i114 : IFn := { nt := 33, ps := [kk0], res := [.cell kk2 2 true], body :=
 (.seq (cR [ oP kk2 (.boxz 50 2 16 [(nI (0)), (nI (0))])])
 (.seq (cR [ oM kk6 kk0,
 oP kk7 (.call 110 [(t6), (.c (nI (4)))]),
 oM kk3 kk7])
 (.seq (.seq (cR [ oM kk8 kk0,
 oP kk9 (.nilck (t8)),
 oP kk10 (.offs (t9) 2),
 oP kk11 (.load 1 false (t10)),
 oP kk12 (.bin .neq (t11) (.c (nI (0))))])
 (.cond (t12)
 (.seq (cR [ oP kk13 (.build [(nI (0)), (nI (0))] []),
 oN (.store 2 (t2) (t13))])
 .ret)
 .skip))
 (.seq (cR [ oM kk15 kk3,
 oP kk16 (.call 185 [(t15)]),
 oM kk14 kk16,
 oP kk17 (.extr (t14) 0),
 oP kk18 (.extr (t14) 1),
 oP kk4 (.boxz 50 2 16 [(nI (0)), (nI (0))]),
 oN (.store 2 (t4) (t17)),
 oM kk5 kk18])
 (.seq (.seq (cR [ oM kk19 kk5,
 oP kk20 (.bin .neq (t19) (.c (nI (0))))])
 (.cond (t20)
 (.seq (cR [ oM kk21 kk0,
 oP kk22 (.nilck (t21)),
 oP kk23 (.offs (t22) 1),
 oP kk24 (.load 1 false (t23)),
 oP kk25 (.bin .sub (t24) (.c (nI (1)))),
 oP kk26 (.nilck (t21)),
 oP kk27 (.offs (t26) 1),
 oN (.store 1 (t27) (t25))])
 (.seq (cR [ oM kk28 kk0,
 oM kk29 kk5,
 oP kk30 (.call 86 [(t28), (t29)])])
 (.seq (cR [ oP kk31 (.build [(nI (0)), (nI (0))] []),
 oN (.store 2 (t2) (t31))])
 .ret)))
 .skip))
 (.seq (cR [ oP kk32 (.load 2 true (t4)),
 oN (.store 2 (t2) (t32))])
 .ret)))))) }
theorem fn114 : fnOf Tryz.prog Tryz.f114 = some i114 := by kernel_rfl
noncomputable def i115 : IFn := { nt := 15, ps := [kk0, kk1], res := [], body :=
 (.seq (cR [ oM kk4 kk0,
 oP kk5 (.call 85 [(t4), (.c (.str 3 5394246))])])
 (.seq (cR [ oM kk6 kk0,
 oP kk7 (.call 85 [(t6), (.c (.str 7 22042224549318480))])])
 (.seq (cR [ oM kk8 kk0,
 oP kk9 (.call 85 [(t8), (.c (.str 2 17999))])])
 (cR [ oM kk10 kk1,
 oM kk11 kk0,
 oP kk12 (.call 114 [(t11)]),
 oP kk13 (.nilck (t10)),
 oP kk14 (.offs (t13) 9),
 oN (.store 2 (t14) (t12))])))) }
theorem fn115 : fnOf Tryz.prog Tryz.f115 = some i115 := by kernel_rfl
noncomputable def i116 : IFn := { nt := 27, ps := [kk0, kk1], res := [], body :=
 (.seq (cR [ oM kk4 kk1,
 oP kk5 (.nilck (t4)),
 oP kk6 (.offs (t5) 12),
 oN (.store 1 (t6) (.c (.int .i64 (.negSucc 0))))])
 (.seq (cR [ oM kk7 kk0,
 oP kk8 (.call 84 [(t7), (.c (.str 5 297733015639))])])
 (.cond (t8)
 (.seq (cR [ oM kk9 kk1,
 oM kk10 kk0,
 oM kk11 kk1,
 oP kk12 (.nilck (t11)),
 oP kk13 (.offs (t12) 11),
 oP kk14 (.load 1 false (t13)),
 oP kk15 (.call 152 [(t10), (t14)]),
 oP kk16 (.nilck (t9)),
 oP kk17 (.offs (t16) 11),
 oN (.store 1 (t17) (t15))])
 (cR [ oM kk18 kk1,
 oM kk19 kk1,
 oP kk20 (.nilck (t19)),
 oP kk21 (.offs (t20) 11),
 oP kk22 (.load 1 false (t21)),
 oP kk23 (.len (t22)),
 oP kk24 (.bin .sub (t23) (.c (nI (1)))),
 oP kk25 (.nilck (t18)),
 oP kk26 (.offs (t25) 12),
 oN (.store 1 (t26) (t24))]))
 .skip))) }
theorem fn116 : fnOf Tryz.prog Tryz.f116 = some i116 := by kernel_rfl
noncomputable def i117 : IFn := { nt := 36, ps := [kk0, kk1], res := [], body :=
 (.seq (cR [ oM kk5 kk0,
 oP kk6 (.call 110 [(t5), (.c (nI (2)))]),
 oP kk7 (.build [(.str 0 0), (nI (0))] [(0, 1, (t6))]),
 oP kk4 (.boxz 239 2 24 [(.str 0 0), (nI (0))]),
 oN (.store 2 (t4) (t7))])
 (.seq (cR [ oM kk8 kk0,
 oP kk9 (.call 111 [(t8), (.c (.str 1 61))])])
 (.seq (cR [ oM kk10 kk1,
 oM kk11 kk0,
 oM kk12 kk1,
 oP kk13 (.nilck (t12)),
 oP kk14 (.offs (t13) 11),
 oP kk15 (.load 1 false (t14)),
 oP kk16 (.call 152 [(t11), (t15)]),
 oP kk17 (.nilck (t10)),
 oP kk18 (.offs (t17) 11),
 oN (.store 1 (t18) (t16))])
 (.seq (cR [ oM kk19 kk1,
 oP kk20 (.nilck (t19)),
 oP kk21 (.offs (t20) 11),
 oP kk22 (.load 1 false (t21)),
 oP kk23 (.len (t22)),
 oP kk24 (.bin .sub (t23) (.c (nI (1)))),
 oP kk25 (.offs (t4) 1),
 oN (.store 1 (t25) (t24))])
 (cD [ oM kk26 kk1,
 oM kk27 kk1,
 oP kk28 (.nilck (t27)),
 oP kk29 (.offs (t28) 13),
 oQ kk30 [] (.load 1 false (t29)),
 oQ kk31 [0] (.load 2 true (t4)),
 oQ kk32 [1] (.buildSl 239 2 24 1 [(.str 0 0), (nI (0))] [(0, (t31))]),
 oQ kk33 [] (.app 239 2 24 (t30) (t32)),
 oP kk34 (.nilck (t26)),
 oP kk35 (.offs (t34) 13),
 ⟨none, none, some [], .store 1 (t35) (t33)⟩]))))) }
theorem fn117 : fnOf Tryz.prog Tryz.f117 = some i117 := by kernel_rfl
noncomputable def i118 : IFn := { nt := 73, ps := [kk0], res := [.cell kk2 21 true], body :=
 (.seq (cR [ oP kk2 (.boxz 57 21 328 [(nI (0)), (nI (0)), (nI (0)), (nI (0)), .nilslice, .nilslice, (.str 0 0), (.str 0 0), .nilslice, (nI (0)), (nI (0)), .nilslice, (nI (0)), .nilslice, .nilslice, .nilslice, .nilslice, .nilslice, (nI (0)), (nI (0)), (nI (0))])])
 (.seq (cR [ oP kk6 (.build [(nI (0)), (nI (0)), (nI (0)), (nI (0)), .nilslice, .nilslice, (.str 0 0), (.str 0 0), .nilslice, (nI (0)), (nI (0)), .nilslice, (nI (0)), .nilslice, .nilslice, .nilslice, .nilslice, .nilslice, (nI (0)), (nI (0)), (nI (0))] [(0, 1, (.c (nI (5))))]),
 oP kk3 (.boxz 57 21 328 [(nI (0)), (nI (0)), (nI (0)), (nI (0)), .nilslice, .nilslice, (.str 0 0), (.str 0 0), .nilslice, (nI (0)), (nI (0)), .nilslice, (nI (0)), .nilslice, .nilslice, .nilslice, .nilslice, .nilslice, (nI (0)), (nI (0)), (nI (0))]),
 oN (.store 21 (t3) (t6))])
 (.seq (cR [ oM kk7 kk0,
 oP kk8 (.call 110 [(t7), (.c (nI (2)))]),
 oP kk9 (.offs (t3) 6),
 oN (.store 1 (t9) (t8))])
 (.seq (cR [ oM kk10 kk0,
 oP kk11 (.call 111 [(t10), (.c (.str 1 40))])])
 (.seq (cD [ oP kk12 (.offs (t3) 14),
 oQ kk13 [] (.load 1 false (t12)),
 oM kk14 kk0,
 oQ kk15 [0] (.call 119 [(t14)]),
 oQ kk16 [1] (.buildSl 62 3 32 1 [(nI (0)), (.str 0 0), (nI (0))] [(0, (t15))]),
 oQ kk17 [] (.app 62 3 32 (t13) (t16)),
 oP kk18 (.offs (t3) 14),
 ⟨none, none, some [], .store 1 (t18) (t17)⟩])
 (.seq (.block 0 (.loop (.seq (.seq (cR [ oM kk19 kk0,
 oP kk20 (.call 113 [(t19), (.c (.str 1 44))])])
 (.cond (t20)
 .skip
 (.exit 0)))
 (.block 1 (cD [ oP kk21 (.offs (t3) 14),
 oQ kk22 [] (.load 1 false (t21)),
 oM kk23 kk0,
 oQ kk24 [0] (.call 119 [(t23)]),
 oQ kk25 [1] (.buildSl 62 3 32 1 [(nI (0)), (.str 0 0), (nI (0))] [(0, (t24))]),
 oQ kk26 [] (.app 62 3 32 (t22) (t25)),
 oP kk27 (.offs (t3) 14),
 ⟨none, none, some [], .store 1 (t27) (t26)⟩])))))
 (.seq (cR [ oM kk28 kk0,
 oP kk29 (.call 111 [(t28), (.c (.str 1 41))])])
 (.seq (.seq (cR [ oM kk30 kk0,
 oP kk31 (.call 84 [(t30), (.c (.str 3 5850443))])])
 (.cond (t31)
 (cR [ oM kk32 kk0,
 oP kk33 (.call 186 [(t32)]),
 oP kk34 (.offs (t3) 15),
 oN (.store 1 (t34) (t33))])
 .skip))
 (.seq (.block 2 (.loop (.seq (.seq (cR [ oM kk35 kk0,
 oP kk36 (.call 84 [(t35), (.c (.str 10 393234093309334888269138))])])
 (.cond (t36)
 .skip
 (.exit 2)))
 (.block 3 (.seq (cR [ oM kk37 kk0,
 oP kk38 (.call 186 [(t37)]),
 oP kk39 (.build [.nilslice, (.str 0 0), .nilslice] [(0, 1, (t38))]),
 oP kk4 (.boxz 177 3 64 [.nilslice, (.str 0 0), .nilslice]),
 oN (.store 3 (t4) (t39))])
 (.seq (cR [ oM kk40 kk0,
 oP kk41 (.call 85 [(t40), (.c (.str 2 20041))])])
 (.seq (cR [ oM kk42 kk0,
 oP kk43 (.call 110 [(t42), (.c (nI (2)))]),
 oP kk44 (.offs (t4) 1),
 oN (.store 1 (t44) (t43))])
 (.seq (cR [ oM kk45 kk0,
 oP kk46 (.call 186 [(t45)]),
 oP kk47 (.offs (t4) 2),
 oN (.store 1 (t47) (t46))])
 (cR [ oP kk48 (.offs (t3) 16),
 oP kk49 (.load 1 false (t48)),
 oP kk50 (.load 3 true (t4)),
 oP kk51 (.buildSl 177 3 64 1 [.nilslice, (.str 0 0), .nilslice] [(0, (t50))]),
 oP kk52 (.app 177 3 64 (t49) (t51)),
 oP kk53 (.offs (t3) 16),
 oN (.store 1 (t53) (t52))])))))))))
 (.seq (.block 4 (.loop (.seq (.seq (cR [ oM kk54 kk0,
 oP kk55 (.nilck (t54)),
 oP kk56 (.offs (t55) 2),
 oP kk57 (.load 1 false (t56)),
 oP kk58 (.bin .eql (t57) (.c (nI (0))))])
 (.cond (t58)
 .skip
 (.exit 4)))
 (.block 5 (.seq (cR [ oC kk5 (nI 0)])
 (.seq (.seq (cR [ oM kk59 kk0,
 oP kk60 (.call 84 [(t59), (.c (.str 5 344692576078))])])
 (.cond (t60)
 (cR [ oC kk5 (nI 1)])
 (.seq (cR [ oM kk61 kk0,
 oP kk62 (.call 84 [(t61), (.c (.str 9 1480444752065213714254))])])
 (.cond (t62)
 (cR [ oC kk5 (nI 2)])
 (.exit 4)))))
 (cD [ oP kk63 (.offs (t3) 17),
 oQ kk64 [] (.load 1 false (t63)),
 oM kk65 kk5,
 oM kk66 kk0,
 oQ kk67 [0] (.call 186 [(t66)]),
 oP kk68 (.build [(nI (0)), .nilslice] [(0, 1, (t65)), (1, 1, (t67))]),
 oQ kk69 [1] (.buildSl 179 2 32 1 [(nI (0)), .nilslice] [(0, (t68))]),
 oQ kk70 [] (.app 179 2 32 (t64) (t69)),
 oP kk71 (.offs (t3) 17),
 ⟨none, none, some [], .store 1 (t71) (t70)⟩])))))))
 (.seq (cR [ oP kk72 (.load 21 true (t3)),
 oN (.store 21 (t2) (t72))])
 .ret))))))))))) }
theorem fn118 : fnOf Tryz.prog Tryz.f118 = some i118 := by kernel_rfl
noncomputable def i119 : IFn := { nt := 22, ps := [kk0], res := [.cell kk2 3 true], body :=
 (.seq (cR [ oP kk2 (.boxz 62 3 32 [(nI (0)), (.str 0 0), (nI (0))])])
 (.seq (cR [ oM kk4 kk0,
 oP kk5 (.call 110 [(t4), (.c (nI (2)))]),
 oP kk6 (.build [(nI (0)), (.str 0 0), (nI (0))] [(1, 1, (t5))]),
 oP kk3 (.boxz 62 3 32 [(nI (0)), (.str 0 0), (nI (0))]),
 oN (.store 3 (t3) (t6))])
 (.seq (.block 0 (.seq (cR [ oM kk10 kk0,
 oP kk11 (.call 84 [(t10), (.c (.str 3 5525065))]),
 oM kk9 kk11])
 (.cond (t9)
 (cR [ oP kk12 (.offs (t3) 2),
 oN (.store 1 (t12) (.c (nI (1))))])
 (.seq (cR [ oM kk14 kk0,
 oP kk15 (.call 84 [(t14), (.c (.str 4 1415071060))]),
 oM kk13 kk15])
 (.cond (t13)
 (cR [ oP kk16 (.offs (t3) 2),
 oN (.store 1 (t16) (.c (nI (2))))])
 (.seq (cR [ oM kk18 kk0,
 oP kk19 (.call 84 [(t18), (.c (.str 4 1280266050))]),
 oM kk17 kk19])
 (.cond (t17)
 (cR [ oP kk20 (.offs (t3) 2),
 oN (.store 1 (t20) (.c (nI (3))))])
 (cR [ oM kk7 kk0,
 oP kk8 (.call 86 [(t7), (.c (nI (5)))])]))))))))
 (.seq (cR [ oP kk21 (.load 3 true (t3)),
 oN (.store 3 (t2) (t21))])
 .ret)))) }
theorem fn119 : fnOf Tryz.prog Tryz.f119 = some i119 := by kernel_rfl
noncomputable def i120 : IFn := { nt := 37, ps := [kk0], res := [.tmp kk2], body :=
 (.seq (cR [ oC kk2 (nI 0)])
 (.seq (cR [ oM kk6 kk0,
 oP kk7 (.call 110 [(t6), (.c (nI (4)))]),
 oM kk3 kk7])
 (.seq (.seq (cR [ oM kk8 kk0,
 oP kk9 (.nilck (t8)),
 oP kk10 (.offs (t9) 2),
 oP kk11 (.load 1 false (t10)),
 oP kk12 (.bin .neq (t11) (.c (nI (0))))])
 (.cond (t12)
 (.seq (cR [ oC kk2 (nI 0)])
 .ret)
 .skip))
 (.seq (cR [ oM kk14 kk3,
 oP kk15 (.call 187 [(t14)]),
 oM kk13 kk15,
 oP kk16 (.extr (t13) 0),
 oP kk17 (.extr (t13) 1),
 oM kk4 kk16,
 oM kk5 kk17])
 (.seq (.seq (cR [ oM kk18 kk5,
 oP kk19 (.bin .eql (t18) (.c (nI (0)))),
 oM kk20 kk19,
 oG kk21 kk20 true kk4,
 oX kk22 kk20 true (.bin .eql (t21) (.c (nI (1000000)))),
 oP kk23 (.pick (t20) (t22) (.c (.bool false)))])
 (.cond (t23)
 (cR [ oC kk5 (nI 10)])
 .skip))
 (.seq (.seq (cR [ oM kk24 kk5,
 oP kk25 (.bin .neq (t24) (.c (nI (0))))])
 (.cond (t25)
 (.seq (cR [ oM kk26 kk0,
 oP kk27 (.nilck (t26)),
 oP kk28 (.offs (t27) 1),
 oP kk29 (.load 1 false (t28)),
 oP kk30 (.bin .sub (t29) (.c (nI (1)))),
 oP kk31 (.nilck (t26)),
 oP kk32 (.offs (t31) 1),
 oN (.store 1 (t32) (t30))])
 (.seq (cR [ oM kk33 kk0,
 oM kk34 kk5,
 oP kk35 (.call 86 [(t33), (t34)])])
 (.seq (cR [ oC kk2 (nI 0)])
 .ret)))
 .skip))
 (.seq (cR [ oM kk36 kk4,
 oM kk2 kk36])
 .ret))))))) }
theorem fn120 : fnOf Tryz.prog Tryz.f120 = some i120 := by kernel_rfl
noncomputable def i121 : IFn := { nt := 9, ps := [kk0], res := [.tmp kk2], body :=
 (.seq (cR [ oC kk2 (nI 0)])
 (.seq (.seq (cR [ oM kk3 kk0,
 oP kk4 (.call 84 [(t3), (.c (.str 2 21313))])])
 (.cond (t4)
 (.seq (cR [ oM kk5 kk0,
 oP kk6 (.call 85 [(t5), (.c (.str 2 17999))])])
 (.seq (cR [ oM kk7 kk0,
 oP kk8 (.call 122 [(t7), (.c (.int .i64 (.negSucc 0)))]),
 oM kk2 kk8])
 .ret))
 .skip))
 (.seq (cR [ oC kk2 (nI 1099511627776)])
 .ret))) }
theorem fn121 : fnOf Tryz.prog Tryz.f121 = some i121 := by kernel_rfl
noncomputable def i122 : IFn := { nt := 35, ps := [kk0, kk1], res := [.tmp kk4], body :=
 (.seq (cR [ oC kk4 (nI 0)])
 (.seq (cR [ oM kk7 kk0,
 oP kk8 (.call 110 [(t7), (.c (nI (3)))]),
 oM kk5 kk8])
 (.seq (.seq (cR [ oM kk9 kk0,
 oP kk10 (.nilck (t9)),
 oP kk11 (.offs (t10) 2),
 oP kk12 (.load 1 false (t11)),
 oP kk13 (.bin .neq (t12) (.c (nI (0))))])
 (.cond (t13)
 (.seq (cR [ oC kk4 (nI 0)])
 .ret)
 .skip))
 (.seq (cR [ oM kk14 kk5,
 oP kk15 (.call 188 [(t14)]),
 oM kk6 kk15])
 (.seq (.seq (cR [ oM kk16 kk6,
 oP kk17 (.bin .geq (t16) (.c (.int .u64 (.ofNat 1099511627776)))),
 oM kk18 kk17,
 oG kk19 kk18 false kk6,
 oX kk20 kk18 false (.conv .i64 (t19)),
 oG kk21 kk18 false kk1,
 oX kk22 kk18 false (.bin .leq (t20) (t21)),
 oP kk23 (.pick (t18) (.c (.bool true)) (t22))])
 (.cond (t23)
 (.seq (cR [ oM kk24 kk0,
 oP kk25 (.nilck (t24)),
 oP kk26 (.offs (t25) 1),
 oP kk27 (.load 1 false (t26)),
 oP kk28 (.bin .sub (t27) (.c (nI (1)))),
 oP kk29 (.nilck (t24)),
 oP kk30 (.offs (t29) 1),
 oN (.store 1 (t30) (t28))])
 (.seq (cR [ oM kk31 kk0,
 oP kk32 (.call 86 [(t31), (.c (nI (10)))])])
 (.seq (cR [ oC kk4 (nI 0)])
 .ret)))
 .skip))
 (.seq (cR [ oM kk33 kk6,
 oP kk34 (.conv .i64 (t33)),
 oM kk4 kk34])
 .ret)))))) }
theorem fn122 : fnOf Tryz.prog Tryz.f122 = some i122 := by kernel_rfl
noncomputable def i123 : IFn := { nt := 7, ps := [kk0, kk1], res := [], body :=
 (cR [ oM kk4 kk0,
 oM kk5 kk1,
 oP kk6 (.call 155 [(t4), (.c (nI (2))), (t5)])]) }
theorem fn123 : fnOf Tryz.prog Tryz.f123 = some i123 := by kernel_rfl
noncomputable def i124 : IFn := { nt := 7, ps := [kk0, kk1], res := [], body :=
 (cR [ oM kk4 kk0,
 oM kk5 kk1,
 oP kk6 (.call 155 [(t4), (.c (nI (5))), (t5)])]) }
theorem fn124 : fnOf Tryz.prog Tryz.f124 = some i124 := by kernel_rfl
noncomputable def i125 : IFn := { nt := 8, ps := [kk0, kk1], res := [], body :=
 (.seq (cR [ oM kk4 kk1,
 oP kk5 (.bin .gtr (t4) (.c (nI (0))))])
 (.cond (t5)
 (cR [ oM kk6 kk0,
 oP kk7 (.call 124 [(t6), (.c (.str 1 44))])])
 .skip)) }
theorem fn125 : fnOf Tryz.prog Tryz.f125 = some i125 := by kernel_rfl
noncomputable def i126 : IFn := { nt := 42, ps := [kk0, kk1], res := [], body :=
 (.seq (cR [ oP kk3 (.box 153 3 32 (t1))])
 (.seq (cR [ oP kk5 (.offs (t3) 0),
 oP kk6 (.load 1 false (t5))])
 (.block 0 (.seq (cR [ oP kk11 (.bin .eql (t6) (.c (nI (1)))),
 oM kk10 kk11])
 (.cond (t10)
 (.seq (cR [ oP kk12 (.offs (t3) 1),
 oP kk13 (.load 1 false (t12)),
 oP kk14 (.call 189 [(t13), (.c (nI (10)))]),
 oM kk4 kk14])
 (.seq (.seq (cR [ oP kk15 (.offs (t3) 1),
 oP kk16 (.load 1 false (t15)),
 oP kk17 (.bin .lss (t16) (.c (nI (0))))])
 (.cond (t17)
 (.seq (cR [ oM kk18 kk0,
 oP kk19 (.call 124 [(t18), (.c (.str 1 45))])])
 (cR [ oM kk20 kk4,
 oP kk21 (.slStr (t20) (some (.c (nI (1)))) none),
 oM kk4 kk21]))
 .skip))
 (cR [ oM kk22 kk0,
 oM kk23 kk4,
 oP kk24 (.call 155 [(t22), (.c (nI (3))), (t23)])])))
 (.seq (cR [ oP kk26 (.bin .eql (t6) (.c (nI (2)))),
 oM kk25 kk26])
 (.cond (t25)
 (cR [ oM kk27 kk0,
 oP kk28 (.offs (t3) 2),
 oP kk29 (.load 1 false (t28)),
 oP kk30 (.call 190 [(t27), (t29)])])
 (.seq (cR [ oP kk32 (.bin .eql (t6) (.c (nI (3)))),
 oM kk31 kk32])
 (.cond (t31)
 (.seq (cR [ oP kk33 (.offs (t3) 1),
 oP kk34 (.load 1 false (t33)),
 oP kk35 (.bin .eql (t34) (.c (nI (0))))])
 (.cond (t35)
 (cR [ oM kk36 kk0,
 oP kk37 (.buildSl 9 1 16 1 [(.str 0 0)] [(0, (.c (.str 5 297750249798)))]),
 oP kk38 (.call 87 [(t36), (t37)])])
 (cR [ oM kk39 kk0,
 oP kk40 (.buildSl 9 1 16 1 [(.str 0 0)] [(0, (.c (.str 4 1163219540)))]),
 oP kk41 (.call 87 [(t39), (t40)])])))
 (cR [ oM kk7 kk0,
 oP kk8 (.buildSl 9 1 16 1 [(.str 0 0)] [(0, (.c (.str 4 1280070990)))]),
 oP kk9 (.call 87 [(t7), (t8)])])))))))))) }
theorem fn126 : fnOf Tryz.prog Tryz.f126 = some i126 := by kernel_rfl
noncomputable def i127 : IFn := { nt := 13, ps := [kk0, kk1, kk2], res := [], body :=
 (.seq (cR [ oP kk4 (.box 50 2 16 (t1))])
 (.seq (cR [ oM kk6 kk0,
 oM kk7 kk2,
 oP kk8 (.call 87 [(t6), (t7)])])
 (cR [ oM kk9 kk0,
 oP kk10 (.load 2 true (t4)),
 oP kk11 (.call 191 [(t10)]),
 oP kk12 (.call 190 [(t9), (t11)])]))) }
theorem fn127 : fnOf Tryz.prog Tryz.f127 = some i127 := by kernel_rfl
noncomputable def i128 : IFn := { nt := 141, ps := [kk0], res := [.cell kk2 2 true], body :=
 (.seq (cR [ oP kk2 (.boxz 236 2 48 [.nilslice, .nilslice])])
 (.seq (cR [ oM kk7 kk0,
 oM kk8 kk0,
 oP kk9 (.len (t8)),
 oP kk10 (.mksl 3 1 8 [(nI (0))] (t9) (t9)),
 oP kk11 (.build [.nilslice, .nilslice] [(0, 1, (t7)), (1, 1, (t10))]),
 oP kk3 (.boxz 236 2 48 [.nilslice, .nilslice]),
 oN (.store 2 (t3) (t11))])
 (.seq (.seq (cR [ oM kk12 kk0,
 oP kk13 (.len (t12)),
 oC kk14 (nI 0)])
 (.block 0 (.loop (.seq (cR [ oP kk15 (.bin .lss (t14) (t13))])
 (.seq (.cond (t15)
 .skip
 (.exit 0))
 (.seq (.block 1 (.seq (cR [ oM kk16 kk14,
 oP kk17 (.idxSl 8 (t12) (t14)),
 oP kk18 (.load 8 true (t17)),
 oP kk5 (.boxz 155 8 88 [(nI (0)), (nI (0)), (nI (0)), (.str 0 0), (.str 0 0), (nI (0)), (nI (0)), (.str 0 0)]),
 oM kk4 kk16,
 oN (.store 8 (t5) (t18))])
 (.block 2 (.seq (cR [ oP kk20 (.offs (t5) 0),
 oP kk21 (.load 1 false (t20)),
 oP kk22 (.bin .eql (t21) (.c (nI (1)))),
 oM kk23 kk22,
 oX kk24 kk23 false (.offs (t5) 0),
 oX kk25 kk23 false (.load 1 false (t24)),
 oX kk26 kk23 false (.bin .eql (t25) (.c (nI (2)))),
 oP kk27 (.pick (t23) (.c (.bool true)) (t26)),
 oM kk19 kk27])
 (.cond (t19)
 (cR [ oP kk28 (.offs (t3) 1),
 oP kk29 (.load 1 false (t28)),
 oM kk30 kk4,
 oP kk31 (.idxSl 1 (t29) (t30)),
 oN (.store 1 (t31) (.c (nI (1))))])
 (.seq (cR [ oP kk33 (.offs (t5) 0),
 oP kk34 (.load 1 false (t33)),
 oP kk35 (.bin .eql (t34) (.c (nI (11)))),
 oM kk36 kk35,
 oX kk37 kk36 false (.offs (t5) 0),
 oX kk38 kk36 false (.load 1 false (t37)),
 oX kk39 kk36 false (.bin .eql (t38) (.c (nI (12)))),
 oP kk40 (.pick (t36) (.c (.bool true)) (t39)),
 oM kk32 kk40])
 (.cond (t32)
 (.seq (cR [ oM kk41 kk4,
 oP kk42 (.bin .gtr (t41) (.c (nI (0)))),
 oM kk43 kk42,
 oX kk44 kk43 true (.offs (t5) 1),
 oX kk45 kk43 true (.load 1 false (t44)),
 oG kk46 kk43 true kk4,
 oX kk47 kk43 true (.bin .sub (t46) (.c (nI (1)))),
 oX kk48 kk43 true (.bin .eql (t45) (t47)),
 oP kk49 (.pick (t43) (t48) (.c (.bool false))),
 oM kk50 kk49,
 oX kk51 kk50 true (.offs (t3) 1),
 oX kk52 kk50 true (.load 1 false (t51)),
 oX kk53 kk50 true (.offs (t5) 1),
 oX kk54 kk50 true (.load 1 false (t53)),
 oX kk55 kk50 true (.idxSl 1 (t52) (t54)),
 oX kk56 kk50 true (.load 1 false (t55)),
 oX kk57 kk50 true (.bin .gtr (t56) (.c (nI (0)))),
 oP kk58 (.pick (t50) (t57) (.c (.bool false)))])
 (.cond (t58)
 (cD [ oP kk59 (.offs (t3) 1),
 oQ kk60 [] (.load 1 false (t59)),
 oM kk61 kk4,
 oP kk62 (.offs (t3) 1),
 oQ kk63 [0] (.load 1 false (t62)),
 oP kk64 (.offs (t5) 1),
 oQ kk65 [0, 1] (.load 1 false (t64)),
 oP kk66 (.idxSl 1 (t63) (t65)),
 oQ kk67 [2] (.load 1 false (t66)),
 oP kk68 (.bin .add (t67) (.c (nI (1)))),
 oP kk69 (.idxSl 1 (t60) (t61)),
 ⟨none, none, some [], .store 1 (t69) (t68)⟩])
 .skip))
 (.seq (cR [ oP kk71 (.offs (t5) 0),
 oP kk72 (.load 1 false (t71)),
 oP kk73 (.bin .gtr (t72) (.c (nI (2)))),
 oM kk74 kk73,
 oX kk75 kk74 true (.offs (t5) 0),
 oX kk76 kk74 true (.load 1 false (t75)),
 oX kk77 kk74 true (.bin .lss (t76) (.c (nI (11)))),
 oP kk78 (.pick (t74) (t77) (.c (.bool false))),
 oM kk70 kk78])
 (.cond (t70)
 (.seq (.seq (cR [ oM kk79 kk4,
 oP kk80 (.bin .eql (t79) (.c (nI (0)))),
 oM kk81 kk80,
 oX kk82 kk81 false (.offs (t5) 2),
 oX kk83 kk81 false (.load 1 false (t82)),
 oG kk84 kk81 false kk4,
 oX kk85 kk81 false (.bin .sub (t84) (.c (nI (1)))),
 oX kk86 kk81 false (.bin .neq (t83) (t85)),
 oP kk87 (.pick (t81) (.c (.bool true)) (t86)),
 oM kk88 kk87,
 oX kk89 kk88 false (.offs (t3) 1),
 oX kk90 kk88 false (.load 1 false (t89)),
 oX kk91 kk88 false (.offs (t5) 2),
 oX kk92 kk88 false (.load 1 false (t91)),
 oX kk93 kk88 false (.idxSl 1 (t90) (t92)),
 oX kk94 kk88 false (.load 1 false (t93)),
 oX kk95 kk88 false (.bin .eql (t94) (.c (nI (0)))),
 oP kk96 (.pick (t88) (.c (.bool true)) (t95))])
 (.cond (t96)
 (.exit 1)
 .skip))
 (.seq (cD [ oP kk97 (.offs (t5) 2),
 oQ kk98 [] (.load 1 false (t97)),
 oP kk99 (.offs (t3) 1),
 oQ kk100 [0] (.load 1 false (t99)),
 oP kk101 (.offs (t5) 2),
 oQ kk102 [0, 1] (.load 1 false (t101)),
 oP kk103 (.idxSl 1 (t100) (t102)),
 oQ kk104 [2] (.load 1 false (t103)),
 oP kk105 (.bin .sub (t98) (t104)),
 oM kk6 kk105])
 (.seq (cR [ oM kk106 kk6,
 oP kk107 (.bin .geq (t106) (.c (nI (0)))),
 oM kk108 kk107,
 oX kk109 kk108 true (.offs (t5) 1),
 oX kk110 kk108 true (.load 1 false (t109)),
 oG kk111 kk108 true kk6,
 oX kk112 kk108 true (.bin .eql (t110) (t111)),
 oP kk113 (.pick (t108) (t112) (.c (.bool false))),
 oM kk114 kk113,
 oX kk115 kk114 true (.offs (t3) 1),
 oX kk116 kk114 true (.load 1 false (t115)),
 oG kk117 kk114 true kk6,
 oX kk118 kk114 true (.idxSl 1 (t116) (t117)),
 oX kk119 kk114 true (.load 1 false (t118)),
 oX kk120 kk114 true (.bin .gtr (t119) (.c (nI (0)))),
 oP kk121 (.pick (t114) (t120) (.c (.bool false)))])
 (.cond (t121)
 (cD [ oP kk122 (.offs (t3) 1),
 oQ kk123 [] (.load 1 false (t122)),
 oM kk124 kk4,
 oP kk125 (.offs (t3) 1),
 oQ kk126 [0] (.load 1 false (t125)),
 oM kk127 kk6,
 oP kk128 (.idxSl 1 (t126) (t127)),
 oQ kk129 [1] (.load 1 false (t128)),
 oP kk130 (.offs (t3) 1),
 oQ kk131 [0, 1, 2] (.load 1 false (t130)),
 oP kk132 (.offs (t5) 2),
 oQ kk133 [0, 1, 2, 3] (.load 1 false (t132)),
 oP kk134 (.idxSl 1 (t131) (t133)),
 oQ kk135 [2, 3, 4] (.load 1 false (t134)),
 oP kk136 (.bin .add (t129) (t135)),
 oP kk137 (.bin .add (t136) (.c (nI (1)))),
 oP kk138 (.idxSl 1 (t123) (t124)),
 ⟨none, none, some [], .store 1 (t138) (t137)⟩])
 .skip))))
 .skip)))))))))
 (cR [ oP kk139 (.bin .add (t14) (.c (nI (1)))),
 oM kk14 kk139])))))))
 (.seq (cR [ oP kk140 (.load 2 true (t3)),
 oN (.store 2 (t2) (t140))])
 .ret)))) }
theorem fn128 : fnOf Tryz.prog Tryz.f128 = some i128 := by kernel_rfl
noncomputable def i129 : IFn := { nt := 112, ps := [kk0, kk1, kk2, kk3], res := [], body :=
 (.seq (cR [ oP kk5 (.box 236 2 48 (t1))])
 (.seq (.seq (cR [ oM kk10 kk2,
 oP kk11 (.bin .lss (t10) (.c (nI (0)))),
 oM kk12 kk11,
 oG kk13 kk12 false kk2,
 oX kk14 kk12 false (.offs (t5) 0),
 oX kk15 kk12 false (.load 1 false (t14)),
 oX kk16 kk12 false (.len (t15)),
 oX kk17 kk12 false (.bin .geq (t13) (t16)),
 oP kk18 (.pick (t12) (.c (.bool true)) (t17)),
 oM kk19 kk18,
 oX kk20 kk19 false (.offs (t5) 1),
 oX kk21 kk19 false (.load 1 false (t20)),
 oG kk22 kk19 false kk2,
 oX kk23 kk19 false (.idxSl 1 (t21) (t22)),
 oX kk24 kk19 false (.load 1 false (t23)),
 oX kk25 kk19 false (.bin .eql (t24) (.c (nI (0)))),
 oP kk26 (.pick (t19) (.c (.bool true)) (t25))])
 (.cond (t26)
 (.seq (cR [ oM kk27 kk0,
 oP kk28 (.nilck (t27)),
 oP kk29 (.offs (t28) 1),
 oN (.store 1 (t29) (.c (.bool true)))])
 .ret)
 .skip))
 (.seq (cR [ oP kk30 (.offs (t5) 0),
 oP kk31 (.load 1 false (t30)),
 oM kk32 kk2,
 oP kk33 (.idxSl 8 (t31) (t32)),
 oP kk34 (.load 8 true (t33)),
 oP kk8 (.boxz 155 8 88 [(nI (0)), (nI (0)), (nI (0)), (.str 0 0), (.str 0 0), (nI (0)), (nI (0)), (.str 0 0)]),
 oN (.store 8 (t8) (t34))])
 (.seq (cR [ oP kk35 (.offs (t8) 0),
 oP kk36 (.load 1 false (t35)),
 oP kk37 (.call 192 [(t36)]),
 oP kk9 (.boxz 291 5 48 [(nI (0)), (nI (0)), (nI (0)), (nI (0)), (.str 0 0)]),
 oN (.store 5 (t9) (t37))])
 (.seq (.seq (cR [ oP kk38 (.offs (t9) 0),
 oP kk39 (.load 1 false (t38)),
 oM kk40 kk3,
 oP kk41 (.bin .lss (t39) (t40))])
 (.cond (t41)
 (.seq (cR [ oM kk42 kk0,
 oP kk43 (.call 124 [(t42), (.c (.str 1 40))])])
 (cR [ oM kk44 kk0,
 oN (.callv (.c .nilptr) [])]))
 .skip))
 (.seq (cR [ oP kk45 (.offs (t8) 0),
 oP kk46 (.load 1 false (t45))])
 (.block 0 (.seq (cR [ oP kk68 (.bin .eql (t46) (.c (nI (1)))),
 oM kk67 kk68])
 (.cond (t67)
 (cR [ oM kk69 kk0,
 oP kk70 (.offs (t8) 5),
 oP kk71 (.load 3 true (t70)),
 oP kk72 (.call 126 [(t69), (t71)])])
 (.seq (cR [ oP kk74 (.bin .eql (t46) (.c (nI (2)))),
 oM kk73 kk74])
 (.cond (t73)
 (.seq (.seq (cR [ oP kk75 (.offs (t8) 3),
 oP kk76 (.load 1 false (t75)),
 oP kk77 (.bin .neq (t76) (.c (.str 0 0)))])
 (.cond (t77)
 (.seq (cR [ oM kk78 kk0,
 oP kk79 (.offs (t8) 3),
 oP kk80 (.load 1 false (t79)),
 oP kk81 (.call 123 [(t78), (t80)])])
 (cR [ oM kk82 kk0,
 oP kk83 (.call 124 [(t82), (.c (.str 1 46))])]))
 .skip))
 (cR [ oM kk84 kk0,
 oP kk85 (.offs (t8) 4),
 oP kk86 (.load 1 false (t85)),
 oP kk87 (.call 123 [(t84), (t86)])]))
 (.seq (cR [ oP kk89 (.bin .eql (t46) (.c (nI (11)))),
 oM kk88 kk89])
 (.cond (t88)
 (.seq (cR [ oM kk90 kk0,
 oP kk91 (.buildSl 9 1 16 1 [(.str 0 0)] [(0, (.c (.str 3 5525326)))]),
 oP kk92 (.call 87 [(t90), (t91)])])
 (cR [ oM kk93 kk0,
 oP kk94 (.load 2 true (t5)),
 oP kk95 (.offs (t8) 1),
 oP kk96 (.load 1 false (t95)),
 oP kk97 (.offs (t9) 1),
 oP kk98 (.load 1 false (t97)),
 oP kk99 (.call 129 [(t93), (t94), (t96), (t98)])]))
 (.seq (cR [ oP kk101 (.bin .eql (t46) (.c (nI (12)))),
 oM kk100 kk101])
 (.cond (t100)
 (.seq (cR [ oM kk102 kk0,
 oP kk103 (.load 2 true (t5)),
 oP kk104 (.offs (t8) 1),
 oP kk105 (.load 1 false (t104)),
 oP kk106 (.offs (t9) 1),
 oP kk107 (.load 1 false (t106)),
 oP kk108 (.call 129 [(t102), (t103), (t105), (t107)])])
 (cR [ oM kk109 kk0,
 oP kk110 (.buildSl 9 1 16 2 [(.str 0 0)] [(0, (.c (.str 2 21321))), (1, (.c (.str 4 1280070990)))]),
 oP kk111 (.call 87 [(t109), (t110)])]))
 (.seq (cR [ oM kk47 kk0,
 oP kk48 (.load 2 true (t5)),
 oP kk49 (.offs (t8) 1),
 oP kk50 (.load 1 false (t49)),
 oP kk51 (.offs (t9) 1),
 oP kk52 (.load 1 false (t51)),
 oP kk53 (.call 129 [(t47), (t48), (t50), (t52)])])
 (.seq (cR [ oM kk54 kk0,
 oP kk55 (.offs (t9) 3),
 oP kk56 (.load 1 false (t55)),
 oP kk57 (.offs (t9) 4),
 oP kk58 (.load 1 false (t57)),
 oP kk59 (.call 155 [(t54), (t56), (t58)])])
 (cR [ oM kk60 kk0,
 oP kk61 (.load 2 true (t5)),
 oP kk62 (.offs (t8) 2),
 oP kk63 (.load 1 false (t62)),
 oP kk64 (.offs (t9) 2),
 oP kk65 (.load 1 false (t64)),
 oP kk66 (.call 129 [(t60), (t61), (t63), (t65)])])))))))))))))))))) }
theorem fn129 : fnOf Tryz.prog Tryz.f129 = some i129 := by kernel_rfl
noncomputable def i130 : IFn := { nt := 15, ps := [kk0, kk1, kk2], res := [], body :=
 (.seq (cR [ oP kk4 (.box 236 2 48 (t1))])
 (.seq (cR [ oM kk6 kk2,
 oP kk7 (.bin .neq (t6) (.c (.int .i64 (.negSucc 0))))])
 (.cond (t7)
 (.seq (cR [ oM kk8 kk0,
 oP kk9 (.buildSl 9 1 16 1 [(.str 0 0)] [(0, (.c (.str 5 297733015639)))]),
 oP kk10 (.call 87 [(t8), (t9)])])
 (cR [ oM kk11 kk0,
 oP kk12 (.load 2 true (t4)),
 oM kk13 kk2,
 oP kk14 (.call 129 [(t11), (t12), (t13), (.c (nI (1)))])]))
 .skip))) }
theorem fn130 : fnOf Tryz.prog Tryz.f130 = some i130 := by kernel_rfl
noncomputable def i131 : IFn := { nt := 41, ps := [kk0, kk1], res := [], body :=
 (.seq (cR [ oM kk6 kk1,
 oP kk7 (.len (t6)),
 oC kk8 (nI 0)])
 (.block 0 (.loop (.seq (cR [ oP kk9 (.bin .lss (t8) (t7))])
 (.seq (.cond (t9)
 .skip
 (.exit 0))
 (.seq (.block 1 (.seq (cR [ oM kk10 kk8,
 oP kk11 (.idxSl 3 (t6) (t8)),
 oP kk12 (.load 3 true (t11)),
 oP kk5 (.boxz 62 3 32 [(nI (0)), (.str 0 0), (nI (0))]),
 oM kk4 kk10,
 oN (.store 3 (t5) (t12))])
 (.seq (cR [ oM kk13 kk0,
 oM kk14 kk4,
 oP kk15 (.call 125 [(t13), (t14)])])
 (.seq (cR [ oM kk16 kk0,
 oP kk17 (.offs (t5) 1),
 oP kk18 (.load 1 false (t17)),
 oP kk19 (.call 123 [(t16), (t18)])])
 (.seq (cR [ oP kk20 (.offs (t5) 2),
 oP kk21 (.load 1 false (t20))])
 (.block 2 (.seq (cR [ oP kk26 (.bin .eql (t21) (.c (nI (1)))),
 oM kk25 kk26])
 (.cond (t25)
 (cR [ oM kk27 kk0,
 oP kk28 (.buildSl 9 1 16 1 [(.str 0 0)] [(0, (.c (.str 3 5525065)))]),
 oP kk29 (.call 87 [(t27), (t28)])])
 (.seq (cR [ oP kk31 (.bin .eql (t21) (.c (nI (2)))),
 oM kk30 kk31])
 (.cond (t30)
 (cR [ oM kk32 kk0,
 oP kk33 (.buildSl 9 1 16 1 [(.str 0 0)] [(0, (.c (.str 4 1415071060)))]),
 oP kk34 (.call 87 [(t32), (t33)])])
 (.seq (cR [ oP kk36 (.bin .eql (t21) (.c (nI (3)))),
 oM kk35 kk36])
 (.cond (t35)
 (cR [ oM kk37 kk0,
 oP kk38 (.buildSl 9 1 16 1 [(.str 0 0)] [(0, (.c (.str 4 1280266050)))]),
 oP kk39 (.call 87 [(t37), (t38)])])
 (cR [ oM kk22 kk0,
 oP kk23 (.nilck (t22)),
 oP kk24 (.offs (t23) 1),
 oN (.store 1 (t24) (.c (.bool true)))])))))))))))))
 (cR [ oP kk40 (.bin .add (t8) (.c (nI (1)))),
 oM kk8 kk40]))))))) }
theorem fn131 : fnOf Tryz.prog Tryz.f131 = some i131 := by kernel_rfl
noncomputable def i132 : IFn := { nt := 24, ps := [kk0, kk1], res := [], body :=
 (.seq (cR [ oM kk6 kk0,
 oP kk7 (.call 124 [(t6), (.c (.str 1 40))])])
 (.seq (.seq (cR [ oM kk8 kk1,
 oP kk9 (.len (t8)),
 oC kk10 (nI 0)])
 (.block 0 (.loop (.seq (cR [ oP kk11 (.bin .lss (t10) (t9))])
 (.seq (.cond (t11)
 .skip
 (.exit 0))
 (.seq (.block 1 (.seq (cR [ oM kk12 kk10,
 oP kk13 (.idxSl 1 (t8) (t10)),
 oP kk14 (.load 1 false (t13)),
 oM kk4 kk12,
 oM kk5 kk14])
 (.seq (cR [ oM kk15 kk0,
 oM kk16 kk4,
 oP kk17 (.call 125 [(t15), (t16)])])
 (cR [ oM kk18 kk0,
 oM kk19 kk5,
 oP kk20 (.call 123 [(t18), (t19)])]))))
 (cR [ oP kk21 (.bin .add (t10) (.c (nI (1)))),
 oM kk10 kk21])))))))
 (cR [ oM kk22 kk0,
 oP kk23 (.call 124 [(t22), (.c (.str 1 41))])]))) }
theorem fn132 : fnOf Tryz.prog Tryz.f132 = some i132 := by kernel_rfl
noncomputable def i133 : IFn := { nt := 33, ps := [kk0, kk1], res := [], body :=
 (.seq (cR [ oP kk3 (.box 57 21 328 (t1))])
 (.seq (.seq (cR [ oP kk4 (.offs (t3) 1),
 oP kk5 (.load 1 false (t4))])
 (.block 0 (.seq (cR [ oP kk7 (.bin .eql (t5) (.c (nI (2)))),
 oM kk6 kk7])
 (.cond (t6)
 (cR [ oM kk8 kk0,
 oP kk9 (.buildSl 9 1 16 1 [(.str 0 0)] [(0, (.c (.str 9 1278394416152443634006)))]),
 oP kk10 (.call 87 [(t8), (t9)])])
 (.seq (cR [ oP kk12 (.bin .eql (t5) (.c (nI (3)))),
 oM kk11 kk12])
 (.cond (t11)
 (cR [ oM kk13 kk0,
 oP kk14 (.buildSl 9 1 16 1 [(.str 0 0)] [(0, (.c (.str 10 327268970535064275469650)))]),
 oP kk15 (.call 87 [(t13), (t14)])])
 (.seq (cR [ oP kk17 (.bin .eql (t5) (.c (nI (4)))),
 oM kk16 kk17])
 (.cond (t16)
 (cR [ oM kk18 kk0,
 oP kk19 (.buildSl 9 1 16 1 [(.str 0 0)] [(0, (.c (.str 8 4993728188163313474)))]),
 oP kk20 (.call 87 [(t18), (t19)])])
 (.seq (cR [ oP kk22 (.bin .eql (t5) (.c (nI (5)))),
 oM kk21 kk22])
 (.cond (t21)
 (cR [ oM kk23 kk0,
 oP kk24 (.buildSl 9 1 16 1 [(.str 0 0)] [(0, (.c (.str 12 21128714391801252821743849294)))]),
 oP kk25 (.call 87 [(t23), (t24)])])
 .skip))))))))))
 (.seq (cR [ oM kk26 kk0,
 oP kk27 (.offs (t3) 4),
 oP kk28 (.load 2 true (t27)),
 oP kk29 (.call 43 [(t26), (t28)])])
 (cR [ oM kk30 kk0,
 oP kk31 (.load 21 true (t3)),
 oP kk32 (.call 134 [(t30), (t31)])])))) }
theorem fn133 : fnOf Tryz.prog Tryz.f133 = some i133 := by kernel_rfl
noncomputable def i134 : IFn := { nt := 25, ps := [kk0, kk1], res := [], body :=
 (.seq (cR [ oP kk3 (.box 57 21 328 (t1))])
 (.seq (.seq (cR [ oP kk4 (.offs (t3) 2),
 oP kk5 (.load 1 false (t4)),
 oP kk6 (.bin .neq (t5) (.c (.int .i64 (.negSucc 0))))])
 (.cond (t6)
 (.seq (cR [ oM kk7 kk0,
 oP kk8 (.buildSl 9 1 16 2 [(.str 0 0)] [(0, (.c (.str 2 21569))), (1, (.c (.str 3 5849412)))]),
 oP kk9 (.call 87 [(t7), (t8)])])
 (cR [ oM kk10 kk0,
 oP kk11 (.offs (t3) 2),
 oP kk12 (.load 1 false (t11)),
 oP kk13 (.call 193 [(t12)]),
 oP kk14 (.call 190 [(t10), (t13)])]))
 .skip))
 (.seq (cR [ oP kk15 (.offs (t3) 3),
 oP kk16 (.load 1 false (t15)),
 oP kk17 (.bin .neq (t16) (.c (nI (1099511627776))))])
 (.cond (t17)
 (.seq (cR [ oM kk18 kk0,
 oP kk19 (.buildSl 9 1 16 2 [(.str 0 0)] [(0, (.c (.str 2 21313))), (1, (.c (.str 2 17999)))]),
 oP kk20 (.call 87 [(t18), (t19)])])
 (cR [ oM kk21 kk0,
 oP kk22 (.offs (t3) 3),
 oP kk23 (.load 1 false (t22)),
 oP kk24 (.call 136 [(t21), (t23)])]))
 .skip)))) }
theorem fn134 : fnOf Tryz.prog Tryz.f134 = some i134 := by kernel_rfl
noncomputable def i135 : IFn := { nt := 34, ps := [kk0, kk1], res := [], body :=
 (.seq (cR [ oP kk3 (.box 57 21 328 (t1))])
 (.seq (cR [ oM kk4 kk0,
 oP kk5 (.buildSl 9 1 16 1 [(.str 0 0)] [(0, (.c (.str 4 1145851720)))]),
 oP kk6 (.call 87 [(t4), (t5)])])
 (.seq (cR [ oM kk7 kk0,
 oP kk8 (.offs (t3) 18),
 oP kk9 (.load 1 false (t8)),
 oP kk10 (.call 136 [(t7), (t9)])])
 (.seq (cR [ oM kk11 kk0,
 oP kk12 (.buildSl 9 1 16 1 [(.str 0 0)] [(0, (.c (.str 4 1297044038)))]),
 oP kk13 (.call 87 [(t11), (t12)])])
 (.seq (cR [ oM kk14 kk0,
 oP kk15 (.offs (t3) 19),
 oP kk16 (.offs (t15) 0),
 oP kk17 (.load 1 false (t16)),
 oP kk18 (.call 136 [(t14), (t17)])])
 (.seq (cR [ oM kk19 kk0,
 oP kk20 (.buildSl 9 1 16 1 [(.str 0 0)] [(0, (.c (.str 2 20308)))]),
 oP kk21 (.call 87 [(t19), (t20)])])
 (.seq (cR [ oP kk22 (.offs (t3) 19),
 oP kk23 (.offs (t22) 1),
 oP kk24 (.load 1 false (t23)),
 oP kk25 (.bin .eql (t24) (.c (nI (1099511627776))))])
 (.cond (t25)
 (cR [ oM kk26 kk0,
 oP kk27 (.buildSl 9 1 16 1 [(.str 0 0)] [(0, (.c (.str 5 327647776341)))]),
 oP kk28 (.call 87 [(t26), (t27)])])
 (cR [ oM kk29 kk0,
 oP kk30 (.offs (t3) 19),
 oP kk31 (.offs (t30) 1),
 oP kk32 (.load 1 false (t31)),
 oP kk33 (.call 136 [(t29), (t32)])]))))))))) }
theorem fn135 : fnOf Tryz.prog Tryz.f135 = some i135 := by kernel_rfl
noncomputable def i136 : IFn := { nt := 19, ps := [kk0, kk1], res := [], body :=
 (.seq (cR [ oM kk4 kk0,
 oM kk5 kk0,
 oP kk6 (.nilck (t5)),
 oP kk7 (.offs (t6) 1),
 oP kk8 (.load 1 false (t7)),
 oM kk9 kk8,
 oG kk10 kk9 false kk1,
 oX kk11 kk9 false (.bin .lss (t10) (.c (nI (0)))),
 oP kk12 (.pick (t9) (.c (.bool true)) (t11)),
 oP kk13 (.nilck (t4)),
 oP kk14 (.offs (t13) 1),
 oN (.store 1 (t14) (t12))])
 (cR [ oM kk15 kk0,
 oM kk16 kk1,
 oP kk17 (.call 194 [(t16)]),
 oP kk18 (.call 155 [(t15), (.c (nI (3))), (t17)])])) }
theorem fn136 : fnOf Tryz.prog Tryz.f136 = some i136 := by kernel_rfl
noncomputable def i137 : IFn := { nt := 4, ps := [kk0, kk1], res := [], body :=
 (cR [ oP kk2 (.load 1 false (t0)),
 oP kk3 (.call 138 [(t2)]),
 oN (.store 21 (t1) (t3))]) }
theorem fn137 : fnOf Tryz.prog Tryz.f137 = some i137 := by kernel_rfl
noncomputable def i138 : IFn := { nt := 59, ps := [kk0], res := [.cell kk2 21 true], body :=
 (.seq (cR [ oP kk2 (.boxz 57 21 328 [(nI (0)), (nI (0)), (nI (0)), (nI (0)), .nilslice, .nilslice, (.str 0 0), (.str 0 0), .nilslice, (nI (0)), (nI (0)), .nilslice, (nI (0)), .nilslice, .nilslice, .nilslice, .nilslice, .nilslice, (nI (0)), (nI (0)), (nI (0))])])
 (.seq (.block 0 (.seq (cR [ oM kk4 kk0,
 oP kk5 (.call 168 [(t4), (.c (.str 6 92712327138889))]),
 oM kk3 kk5])
 (.cond (t3)
 (.seq (cR [ oM kk6 kk0,
 oP kk7 (.call 195 [(t6)]),
 oN (.store 21 (t2) (t7))])
 .ret)
 (.seq (cR [ oM kk9 kk0,
 oP kk10 (.call 168 [(t9), (.c (.str 6 76228242195780))]),
 oM kk8 kk10])
 (.cond (t8)
 (.seq (cR [ oM kk11 kk0,
 oP kk12 (.call 196 [(t11)]),
 oN (.store 21 (t2) (t12))])
 .ret)
 (.seq (cR [ oM kk14 kk0,
 oP kk15 (.call 168 [(t14), (.c (.str 6 76228174565461))]),
 oM kk13 kk15])
 (.cond (t13)
 (.seq (cR [ oM kk16 kk0,
 oP kk17 (.call 197 [(t16)]),
 oN (.store 21 (t2) (t17))])
 .ret)
 (.seq (cR [ oM kk19 kk0,
 oP kk20 (.call 168 [(t19), (.c (.str 6 76228174631491))]),
 oM kk18 kk20])
 (.cond (t18)
 (.seq (cR [ oM kk21 kk0,
 oP kk22 (.call 198 [(t21)]),
 oN (.store 21 (t2) (t22))])
 .ret)
 (.seq (cR [ oM kk24 kk0,
 oP kk25 (.call 168 [(t24), (.c (.str 5 353350470721))]),
 oM kk23 kk25])
 (.cond (t23)
 (.seq (cR [ oM kk26 kk0,
 oP kk27 (.call 199 [(t26)]),
 oN (.store 21 (t2) (t27))])
 .ret)
 (.seq (cR [ oM kk29 kk0,
 oP kk30 (.call 168 [(t29), (.c (.str 4 1163151683))]),
 oM kk28 kk30])
 (.cond (t28)
 (.seq (cR [ oM kk31 kk0,
 oP kk32 (.call 200 [(t31)]),
 oN (.store 21 (t2) (t32))])
 .ret)
 (.seq (cR [ oM kk34 kk0,
 oP kk35 (.call 168 [(t34), (.c (.str 6 83890396153170))]),
 oM kk33 kk35])
 (.cond (t33)
 (.seq (cR [ oP kk36 (.build [(nI (0)), (nI (0)), (nI (0)), (nI (0)), .nilslice, .nilslice, (.str 0 0), (.str 0 0), .nilslice, (nI (0)), (nI (0)), .nilslice, (nI (0)), .nilslice, .nilslice, .nilslice, .nilslice, .nilslice, (nI (0)), (nI (0)), (nI (0))] [(0, 1, (.c (nI (9))))]),
 oN (.store 21 (t2) (t36))])
 .ret)
 (.seq (cR [ oM kk38 kk0,
 oP kk39 (.call 168 [(t38), (.c (.str 4 1145851720))]),
 oM kk37 kk39])
 (.cond (t37)
 (.seq (cR [ oM kk40 kk0,
 oP kk41 (.call 201 [(t40)]),
 oN (.store 21 (t2) (t41))])
 .ret)
 (.seq (cR [ oM kk43 kk0,
 oP kk44 (.call 168 [(t43), (.c (.str 7 19513313193641298))]),
 oM kk42 kk44])
 (.cond (t42)
 (.seq (cR [ oM kk45 kk0,
 oP kk46 (.call 202 [(t45), (.c (.int .i64 (.negSucc 0)))]),
 oP kk47 (.build [(nI (0)), (nI (0)), (nI (0)), (nI (0)), .nilslice, .nilslice, (.str 0 0), (.str 0 0), .nilslice, (nI (0)), (nI (0)), .nilslice, (nI (0)), .nilslice, .nilslice, .nilslice, .nilslice, .nilslice, (nI (0)), (nI (0)), (nI (0))] [(0, 1, (.c (nI (11)))), (18, 1, (t46))]),
 oN (.store 21 (t2) (t47))])
 .ret)
 (.seq (cR [ oM kk49 kk0,
 oP kk50 (.call 168 [(t49), (.c (.str 6 92656526053190))]),
 oM kk48 kk50])
 (.cond (t48)
 (.seq (cR [ oM kk51 kk0,
 oP kk52 (.buildSl 9 1 16 1 [(.str 0 0)] [(0, (.c (.str 5 374992553282)))]),
 oP kk53 (.call 169 [(t51), (t52)])])
 (.seq (cR [ oM kk54 kk0,
 oP kk55 (.call 202 [(t54), (.c (.int .i64 (.negSucc 0)))]),
 oP kk56 (.build [(nI (0)), (nI (0)), (nI (0)), (nI (0)), .nilslice, .nilslice, (.str 0 0), (.str 0 0), .nilslice, (nI (0)), (nI (0)), .nilslice, (nI (0)), .nilslice, .nilslice, .nilslice, .nilslice, .nilslice, (nI (0)), (nI (0)), (nI (0))] [(0, 1, (.c (nI (12)))), (18, 1, (t55))]),
 oN (.store 21 (t2) (t56))])
 .ret))
 .skip)))))))))))))))))))))
 (.seq (cR [ oM kk57 kk0,
 oP kk58 (.call 203 [(t57)]),
 oN (.store 21 (t2) (t58))])
 .ret))) }
theorem fn138 : fnOf Tryz.prog Tryz.f138 = some i138 := by kernel_rfl
noncomputable def i139 : IFn := { nt := 26, ps := [kk0, kk1], res := [.tmp kk4], body :=
 (.seq (cR [ oC kk4 (.bool false)])
 (.seq (.seq (cR [ oM kk6 kk0,
 oP kk7 (.len (t6)),
 oM kk8 kk1,
 oP kk9 (.len (t8)),
 oP kk10 (.bin .neq (t7) (t9))])
 (.cond (t10)
 (.seq (cR [ oC kk4 (.bool false)])
 .ret)
 .skip))
 (.seq (.seq (cR [ oM kk11 kk0,
 oP kk12 (.len (t11)),
 oC kk13 (nI 0)])
 (.block 0 (.loop (.seq (cR [ oP kk14 (.bin .lss (t13) (t12))])
 (.seq (.cond (t14)
 .skip
 (.exit 0))
 (.seq (.block 1 (.seq (cR [ oM kk15 kk13,
 oM kk5 kk15])
 (.seq (cD [ oM kk16 kk0,
 oM kk17 kk5,
 oP kk18 (.idxSl 3 (t16) (t17)),
 oQ kk19 [] (.load 3 true (t18)),
 oM kk20 kk1,
 oM kk21 kk5,
 oP kk22 (.idxSl 3 (t20) (t21)),
 oQ kk23 [0] (.load 3 true (t22)),
 oP kk24 (.eqv (.agg [3, 3, 101]) true (t19) (t23))])
 (.cond (t24)
 (.seq (cR [ oC kk4 (.bool false)])
 .ret)
 .skip))))
 (cR [ oP kk25 (.bin .add (t13) (.c (nI (1)))),
 oM kk13 kk25])))))))
 (.seq (cR [ oC kk4 (.bool true)])
 .ret)))) }
theorem fn139 : fnOf Tryz.prog Tryz.f139 = some i139 := by kernel_rfl
noncomputable def i140 : IFn := { nt := 26, ps := [kk0, kk1], res := [.tmp kk4], body :=
 (.seq (cR [ oC kk4 (.bool false)])
 (.seq (.seq (cR [ oM kk6 kk0,
 oP kk7 (.len (t6)),
 oM kk8 kk1,
 oP kk9 (.len (t8)),
 oP kk10 (.bin .neq (t7) (t9))])
 (.cond (t10)
 (.seq (cR [ oC kk4 (.bool false)])
 .ret)
 .skip))
 (.seq (.seq (cR [ oM kk11 kk0,
 oP kk12 (.len (t11)),
 oC kk13 (nI 0)])
 (.block 0 (.loop (.seq (cR [ oP kk14 (.bin .lss (t13) (t12))])
 (.seq (.cond (t14)
 .skip
 (.exit 0))
 (.seq (.block 1 (.seq (cR [ oM kk15 kk13,
 oM kk5 kk15])
 (.seq (cD [ oM kk16 kk0,
 oM kk17 kk5,
 oP kk18 (.idxSl 8 (t16) (t17)),
 oQ kk19 [] (.load 8 true (t18)),
 oM kk20 kk1,
 oM kk21 kk5,
 oP kk22 (.idxSl 8 (t20) (t21)),
 oQ kk23 [0] (.load 8 true (t22)),
 oP kk24 (.eqv (.agg [3, 3, 3, 101, 101, 3, 3, 101]) true (t19) (t23))])
 (.cond (t24)
 (.seq (cR [ oC kk4 (.bool false)])
 .ret)
 .skip))))
 (cR [ oP kk25 (.bin .add (t13) (.c (nI (1)))),
 oM kk13 kk25])))))))
 (.seq (cR [ oC kk4 (.bool true)])
 .ret)))) }
theorem fn140 : fnOf Tryz.prog Tryz.f140 = some i140 := by kernel_rfl
noncomputable def i141 : IFn := { nt := 26, ps := [kk0, kk1], res := [.tmp kk4], body :=
 (.seq (cR [ oC kk4 (.bool false)])
 (.seq (.seq (cR [ oM kk6 kk0,
 oP kk7 (.len (t6)),
 oM kk8 kk1,
 oP kk9 (.len (t8)),
 oP kk10 (.bin .neq (t7) (t9))])
 (.cond (t10)
 (.seq (cR [ oC kk4 (.bool false)])
 .ret)
 .skip))
 (.seq (.seq (cR [ oM kk11 kk0,
 oP kk12 (.len (t11)),
 oC kk13 (nI 0)])
 (.block 0 (.loop (.seq (cR [ oP kk14 (.bin .lss (t13) (t12))])
 (.seq (.cond (t14)
 .skip
 (.exit 0))
 (.seq (.block 1 (.seq (cR [ oM kk15 kk13,
 oM kk5 kk15])
 (.seq (cD [ oM kk16 kk0,
 oM kk17 kk5,
 oP kk18 (.idxSl 2 (t16) (t17)),
 oQ kk19 [] (.load 2 true (t18)),
 oM kk20 kk1,
 oM kk21 kk5,
 oP kk22 (.idxSl 2 (t20) (t21)),
 oQ kk23 [0] (.load 2 true (t22)),
 oP kk24 (.eqv (.agg [101, 3]) true (t19) (t23))])
 (.cond (t24)
 (.seq (cR [ oC kk4 (.bool false)])
 .ret)
 .skip))))
 (cR [ oP kk25 (.bin .add (t13) (.c (nI (1)))),
 oM kk13 kk25])))))))
 (.seq (cR [ oC kk4 (.bool true)])
 .ret)))) }
theorem fn141 : fnOf Tryz.prog Tryz.f141 = some i141 := by kernel_rfl
noncomputable def i142 : IFn := { nt := 26, ps := [kk0, kk1], res := [.tmp kk4], body :=
 (.seq (cR [ oC kk4 (.bool false)])
 (.seq (.seq (cR [ oM kk6 kk0,
 oP kk7 (.len (t6)),
 oM kk8 kk1,
 oP kk9 (.len (t8)),
 oP kk10 (.bin .neq (t7) (t9))])
 (.cond (t10)
 (.seq (cR [ oC kk4 (.bool false)])
 .ret)
 .skip))
 (.seq (.seq (cR [ oM kk11 kk0,
 oP kk12 (.len (t11)),
 oC kk13 (nI 0)])
 (.block 0 (.loop (.seq (cR [ oP kk14 (.bin .lss (t13) (t12))])
 (.seq (.cond (t14)
 .skip
 (.exit 0))
 (.seq (.block 1 (.seq (cR [ oM kk15 kk13,
 oM kk5 kk15])
 (.seq (cD [ oM kk16 kk0,
 oM kk17 kk5,
 oP kk18 (.idxSl 3 (t16) (t17)),
 oQ kk19 [] (.load 3 true (t18)),
 oM kk20 kk1,
 oM kk21 kk5,
 oP kk22 (.idxSl 3 (t20) (t21)),
 oQ kk23 [0] (.load 3 true (t22)),
 oP kk24 (.eqv (.agg [3, 101, 3]) true (t19) (t23))])
 (.cond (t24)
 (.seq (cR [ oC kk4 (.bool false)])
 .ret)
 .skip))))
 (cR [ oP kk25 (.bin .add (t13) (.c (nI (1)))),
 oM kk13 kk25])))))))
 (.seq (cR [ oC kk4 (.bool true)])
 .ret)))) }
theorem fn142 : fnOf Tryz.prog Tryz.f142 = some i142 := by kernel_rfl
noncomputable def i143 : IFn := { nt := 26, ps := [kk0, kk1], res := [.tmp kk4], body :=
 (.seq (cR [ oC kk4 (.bool false)])
 (.seq (.seq (cR [ oM kk6 kk0,
 oP kk7 (.len (t6)),
 oM kk8 kk1,
 oP kk9 (.len (t8)),
 oP kk10 (.bin .neq (t7) (t9))])
 (.cond (t10)
 (.seq (cR [ oC kk4 (.bool false)])
 .ret)
 .skip))
 (.seq (.seq (cR [ oM kk11 kk0,
 oP kk12 (.len (t11)),
 oC kk13 (nI 0)])
 (.block 0 (.loop (.seq (cR [ oP kk14 (.bin .lss (t13) (t12))])
 (.seq (.cond (t14)
 .skip
 (.exit 0))
 (.seq (.block 1 (.seq (cR [ oM kk15 kk13,
 oM kk5 kk15])
 (.seq (cD [ oM kk16 kk0,
 oM kk17 kk5,
 oP kk18 (.idxSl 1 (t16) (t17)),
 oQ kk19 [] (.load 1 false (t18)),
 oM kk20 kk1,
 oM kk21 kk5,
 oP kk22 (.idxSl 1 (t20) (t21)),
 oQ kk23 [0] (.load 1 false (t22)),
 oP kk24 (.bin .neq (t19) (t23))])
 (.cond (t24)
 (.seq (cR [ oC kk4 (.bool false)])
 .ret)
 .skip))))
 (cR [ oP kk25 (.bin .add (t13) (.c (nI (1)))),
 oM kk13 kk25])))))))
 (.seq (cR [ oC kk4 (.bool true)])
 .ret)))) }
theorem fn143 : fnOf Tryz.prog Tryz.f143 = some i143 := by kernel_rfl
noncomputable def i144 : IFn := { nt := 32, ps := [kk0, kk1, kk2], res := [.tmp kk6], body :=
 (.seq (cR [ oC kk6 (.bool false)])
 (.seq (.seq (cR [ oM kk10 kk0,
 oP kk11 (.len (t10)),
 oM kk12 kk1,
 oP kk13 (.len (t12)),
 oP kk14 (.bin .neq (t11) (t13))])
 (.cond (t14)
 (.seq (cR [ oC kk6 (.bool false)])
 .ret)
 .skip))
 (.seq (.seq (cR [ oM kk15 kk0,
 oP kk16 (.len (t15)),
 oC kk17 (nI 0)])
 (.block 0 (.loop (.seq (cR [ oP kk18 (.bin .lss (t17) (t16))])
 (.seq (.cond (t18)
 .skip
 (.exit 0))
 (.seq (.block 1 (.seq (cR [ oM kk19 kk17,
 oP kk20 (.idxSl 3 (t15) (t17)),
 oP kk21 (.load 3 true (t20)),
 oP kk8 (.boxz 177 3 64 [.nilslice, (.str 0 0), .nilslice]),
 oM kk7 kk19,
 oN (.store 3 (t8) (t21))])
 (.seq (cR [ oM kk22 kk1,
 oM kk23 kk7,
 oP kk24 (.idxSl 3 (t22) (t23)),
 oP kk25 (.load 3 true (t24)),
 oP kk9 (.boxz 177 3 64 [.nilslice, (.str 0 0), .nilslice]),
 oN (.store 3 (t9) (t25))])
 (.seq (cR [ oM kk26 kk2,
 oP kk27 (.load 3 true (t8)),
 oP kk28 (.load 3 true (t9)),
 oP kk29 (.callv (t26) [(t27), (t28)]),
 oP kk30 (.un .not (t29))])
 (.cond (t30)
 (.seq (cR [ oC kk6 (.bool false)])
 .ret)
 .skip)))))
 (cR [ oP kk31 (.bin .add (t17) (.c (nI (1)))),
 oM kk17 kk31])))))))
 (.seq (cR [ oC kk6 (.bool true)])
 .ret)))) }
theorem fn144 : fnOf Tryz.prog Tryz.f144 = some i144 := by kernel_rfl
noncomputable def i145 : IFn := { nt := 24, ps := [kk0, kk1], res := [.tmp kk4], body :=
 (.seq (cR [ oP kk2 (.box 177 3 64 (t0)),
 oP kk3 (.box 177 3 64 (t1)),
 oC kk4 (.bool false)])
 (.seq (cR [ oP kk5 (.offs (t2) 1),
 oP kk6 (.load 1 false (t5)),
 oP kk7 (.offs (t3) 1),
 oP kk8 (.load 1 false (t7)),
 oP kk9 (.bin .eql (t6) (t8)),
 oM kk10 kk9,
 oX kk11 kk10 true (.offs (t2) 0),
 oX kk12 kk10 true (.load 1 false (t11)),
 oX kk13 kk10 true (.offs (t3) 0),
 oX kk14 kk10 true (.load 1 false (t13)),
 oX kk15 kk10 true (.call 143 [(t12), (t14)]),
 oP kk16 (.pick (t10) (t15) (.c (.bool false))),
 oM kk17 kk16,
 oX kk18 kk17 true (.offs (t2) 2),
 oX kk19 kk17 true (.load 1 false (t18)),
 oX kk20 kk17 true (.offs (t3) 2),
 oX kk21 kk17 true (.load 1 false (t20)),
 oX kk22 kk17 true (.call 143 [(t19), (t21)]),
 oP kk23 (.pick (t17) (t22) (.c (.bool false))),
 oM kk4 kk23])
 .ret)) }
theorem fn145 : fnOf Tryz.prog Tryz.f145 = some i145 := by kernel_rfl
noncomputable def i146 : IFn := { nt := 32, ps := [kk0, kk1, kk2], res := [.tmp kk6], body :=
 (.seq (cR [ oC kk6 (.bool false)])
 (.seq (.seq (cR [ oM kk10 kk0,
 oP kk11 (.len (t10)),
 oM kk12 kk1,
 oP kk13 (.len (t12)),
 oP kk14 (.bin .neq (t11) (t13))])
 (.cond (t14)
 (.seq (cR [ oC kk6 (.bool false)])
 .ret)
 .skip))
 (.seq (.seq (cR [ oM kk15 kk0,
 oP kk16 (.len (t15)),
 oC kk17 (nI 0)])
 (.block 0 (.loop (.seq (cR [ oP kk18 (.bin .lss (t17) (t16))])
 (.seq (.cond (t18)
 .skip
 (.exit 0))
 (.seq (.block 1 (.seq (cR [ oM kk19 kk17,
 oP kk20 (.idxSl 2 (t15) (t17)),
 oP kk21 (.load 2 true (t20)),
 oP kk8 (.boxz 179 2 32 [(nI (0)), .nilslice]),
 oM kk7 kk19,
 oN (.store 2 (t8) (t21))])
 (.seq (cR [ oM kk22 kk1,
 oM kk23 kk7,
 oP kk24 (.idxSl 2 (t22) (t23)),
 oP kk25 (.load 2 true (t24)),
 oP kk9 (.boxz 179 2 32 [(nI (0)), .nilslice]),
 oN (.store 2 (t9) (t25))])
 (.seq (cR [ oM kk26 kk2,
 oP kk27 (.load 2 true (t8)),
 oP kk28 (.load 2 true (t9)),
 oP kk29 (.callv (t26) [(t27), (t28)]),
 oP kk30 (.un .not (t29))])
 (.cond (t30)
 (.seq (cR [ oC kk6 (.bool false)])
 .ret)
 .skip)))))
 (cR [ oP kk31 (.bin .add (t17) (.c (nI (1)))),
 oM kk17 kk31])))))))
 (.seq (cR [ oC kk6 (.bool true)])
 .ret)))) }
theorem fn146 : fnOf Tryz.prog Tryz.f146 = some i146 := by kernel_rfl
noncomputable def i147 : IFn := { nt := 17, ps := [kk0, kk1], res := [.tmp kk4], body :=
 (.seq (cR [ oP kk2 (.box 179 2 32 (t0)),
 oP kk3 (.box 179 2 32 (t1)),
 oC kk4 (.bool false)])
 (.seq (cR [ oP kk5 (.offs (t2) 0),
 oP kk6 (.load 1 false (t5)),
 oP kk7 (.offs (t3) 0),
 oP kk8 (.load 1 false (t7)),
 oP kk9 (.bin .eql (t6) (t8)),
 oM kk10 kk9,
 oX kk11 kk10 true (.offs (t2) 1),
 oX kk12 kk10 true (.load 1 false (t11)),
 oX kk13 kk10 true (.offs (t3) 1),
 oX kk14 kk10 true (.load 1 false (t13)),
 oX kk15 kk10 true (.call 143 [(t12), (t14)]),
 oP kk16 (.pick (t10) (t15) (.c (.bool false))),
 oM kk4 kk16])
 .ret)) }
theorem fn147 : fnOf Tryz.prog Tryz.f147 = some i147 := by kernel_rfl
noncomputable def i148 : IFn := { nt := 19, ps := [kk0, kk1], res := [.tmp kk4], body :=
 (.seq (cR [ oC kk4 (nI 0)])
 (.seq (.seq (cR [ oM kk6 kk0,
 oP kk7 (.len (t6)),
 oC kk8 (nI 0)])
 (.block 0 (.loop (.seq (cR [ oP kk9 (.bin .lss (t8) (t7))])
 (.seq (.cond (t9)
 .skip
 (.exit 0))
 (.seq (.block 1 (.seq (cR [ oM kk10 kk8,
 oM kk5 kk10])
 (.seq (cR [ oM kk11 kk1,
 oM kk12 kk0,
 oM kk13 kk5,
 oP kk14 (.idxSl 3 (t12) (t13)),
 oP kk15 (.load 3 true (t14)),
 oP kk16 (.callv (t11) [(t15)])])
 (.cond (t16)
 (.seq (cR [ oM kk17 kk5,
 oM kk4 kk17])
 .ret)
 .skip))))
 (cR [ oP kk18 (.bin .add (t8) (.c (nI (1)))),
 oM kk8 kk18])))))))
 (.seq (cR [ oC kk4 (.int .i64 (.negSucc 0))])
 .ret))) }
theorem fn148 : fnOf Tryz.prog Tryz.f148 = some i148 := by kernel_rfl
noncomputable def i149 : IFn := { nt := 8, ps := [kk0, kk1], res := [.tmp kk3], body :=
 (.seq (cR [ oP kk2 (.box 62 3 32 (t0)),
 oC kk3 (.bool false)])
 (.seq (cR [ oP kk4 (.offs (t2) 1),
 oP kk5 (.load 1 false (t4)),
 oP kk6 (.load 1 false (t1)),
 oP kk7 (.bin .eql (t5) (t6)),
 oM kk3 kk7])
 .ret)) }
theorem fn149 : fnOf Tryz.prog Tryz.f149 = some i149 := by kernel_rfl
noncomputable def i150 : IFn := { nt := 77, ps := [kk0, kk1], res := [], body :=
 (.seq (cR [ oP kk7 (.build [(nI (0)), (nI (0)), (.str 0 0)] []),
 oP kk4 (.boxz 159 3 32 [(nI (0)), (nI (0)), (.str 0 0)]),
 oN (.store 3 (t4) (t7))])
 (.seq (cR [ oP kk8 (.build [(.str 0 0), (.str 0 0), (.str 0 0)] [(0, 1, (.c (.str 3 5068115))), (1, 1, (.c (.str 3 5130573))), (2, 1, (.c (.str 3 5783885)))]),
 oP kk5 (.boxz 293 3 48 [(.str 0 0), (.str 0 0), (.str 0 0)]),
 oN (.store 3 (t5) (t8))])
 (.seq (.seq (cR [ oM kk9 kk0,
 oP kk10 (.call 84 [(t9), (.c (.str 5 362091466563))])])
 (.cond (t10)
 (.seq (cR [ oM kk11 kk0,
 oP kk12 (.call 111 [(t11), (.c (.str 1 40))])])
 (.seq (cR [ oM kk13 kk0,
 oP kk14 (.call 111 [(t13), (.c (.str 1 42))])])
 (.seq (cR [ oM kk15 kk0,
 oP kk16 (.call 111 [(t15), (.c (.str 1 41))])])
 (.seq (cR [ oP kk17 (.offs (t4) 0),
 oN (.store 1 (t17) (.c (nI (1))))])
 (cR [ oP kk18 (.offs (t4) 1),
 oN (.store 1 (t18) (.c (.int .i64 (.negSucc 0))))])))))
 (.seq (.seq (cR [ oC kk6 (nI 0)])
 (.block 0 (.loop (.seq (.seq (cR [ oM kk19 kk6,
 oP kk20 (.bin .lss (t19) (.c (nI (3))))])
 (.cond (t20)
 .skip
 (.exit 0)))
 (.seq (.block 1 (.seq (cR [ oP kk23 (.offs (t4) 0),
 oP kk24 (.load 1 false (t23)),
 oP kk25 (.bin .eql (t24) (.c (nI (0)))),
 oM kk26 kk25,
 oG kk27 kk26 true kk0,
 oG kk28 kk26 true kk6,
 oX kk29 kk26 true (.idxArr 3 1 (t5) (t28)),
 oX kk30 kk26 true (.load 1 false (t29)),
 oX kk31 kk26 true (.call 84 [(t27), (t30)]),
 oP kk32 (.pick (t26) (t31) (.c (.bool false)))])
 (.cond (t32)
 (cR [ oM kk33 kk6,
 oP kk34 (.bin .add (.c (nI (2))) (t33)),
 oP kk35 (.offs (t4) 0),
 oN (.store 1 (t35) (t34))])
 .skip)))
 (cR [ oM kk21 kk6,
 oP kk22 (.bin .add (t21) (.c (nI (1)))),
 oM kk6 kk22]))))))
 (.seq (.seq (cR [ oP kk36 (.offs (t4) 0),
 oP kk37 (.load 1 false (t36)),
 oP kk38 (.bin .neq (t37) (.c (nI (0))))])
 (.cond (t38)
 (cR [ oM kk39 kk0,
 oP kk40 (.call 111 [(t39), (.c (.str 1 40))])])
 .skip))
 (.seq (cR [ oM kk41 kk1,
 oM kk42 kk0,
 oM kk43 kk1,
 oP kk44 (.nilck (t43)),
 oP kk45 (.offs (t44) 1),
 oP kk46 (.load 1 false (t45)),
 oP kk47 (.call 152 [(t42), (t46)]),
 oP kk48 (.nilck (t41)),
 oP kk49 (.offs (t48) 1),
 oN (.store 1 (t49) (t47))])
 (.seq (cR [ oM kk50 kk1,
 oP kk51 (.nilck (t50)),
 oP kk52 (.offs (t51) 1),
 oP kk53 (.load 1 false (t52)),
 oP kk54 (.len (t53)),
 oP kk55 (.bin .sub (t54) (.c (nI (1)))),
 oP kk56 (.offs (t4) 1),
 oN (.store 1 (t56) (t55))])
 (.seq (cR [ oP kk57 (.offs (t4) 0),
 oP kk58 (.load 1 false (t57)),
 oP kk59 (.bin .neq (t58) (.c (nI (0))))])
 (.cond (t59)
 (cR [ oM kk60 kk0,
 oP kk61 (.call 111 [(t60), (.c (.str 1 41))])])
 .skip))))))))
 (.seq (.seq (cR [ oM kk62 kk0,
 oP kk63 (.call 84 [(t62), (.c (.str 2 21313))])])
 (.cond (t63)
 (cR [ oM kk64 kk0,
 oP kk65 (.call 110 [(t64), (.c (nI (2)))]),
 oP kk66 (.offs (t4) 2),
 oN (.store 1 (t66) (t65))])
 .skip))
 (cD [ oM kk67 kk1,
 oM kk68 kk1,
 oP kk69 (.nilck (t68)),
 oP kk70 (.offs (t69) 2),
 oQ kk71 [] (.load 1 false (t70)),
 oQ kk72 [0] (.load 3 true (t4)),
 oQ kk73 [1] (.buildSl 159 3 32 1 [(nI (0)), (nI (0)), (.str 0 0)] [(0, (t72))]),
 oQ kk74 [] (.app 159 3 32 (t71) (t73)),
 oP kk75 (.nilck (t67)),
 oP kk76 (.offs (t75) 2),
 ⟨none, none, some [], .store 1 (t76) (t74)⟩]))))) }
theorem fn150 : fnOf Tryz.prog Tryz.f150 = some i150 := by kernel_rfl
noncomputable def i151 : IFn := { nt := 62, ps := [kk0, kk1], res := [.cell kk4 4 true], body :=
 (.seq (cR [ oP kk4 (.boxz 148 4 48 [(.bool false), (.str 0 0), (.str 0 0), (nI (0))])])
 (.seq (cR [ oM kk6 kk0,
 oP kk7 (.call 110 [(t6), (.c (nI (2)))]),
 oP kk8 (.build [(.bool false), (.str 0 0), (.str 0 0), (nI (0))] [(1, 1, (t7)), (3, 1, (.c (.int .i64 (.negSucc 0))))]),
 oP kk5 (.boxz 148 4 48 [(.bool false), (.str 0 0), (.str 0 0), (nI (0))]),
 oN (.store 4 (t5) (t8))])
 (.seq (.seq (cR [ oM kk9 kk0,
 oP kk10 (.call 154 [(t9), (.c (nI (1))), (.c (.str 2 21313))]),
 oP kk11 (.un .not (t10))])
 (.cond (t11)
 (.seq (cR [ oP kk12 (.load 4 true (t5)),
 oN (.store 4 (t4) (t12))])
 .ret)
 .skip))
 (.seq (.seq (cD [ oM kk13 kk1,
 oM kk14 kk13,
 oG kk15 kk14 true kk0,
 oX kk16 kk14 true (.nilck (t15)),
 oX kk17 kk14 true (.offs (t16) 5),
 ⟨some kk18, some (kk14, true), some [], .load 1 false (t17)⟩,
 oP kk19 (.pick (t14) (t18) (.c (.bool false))),
 oM kk20 kk19,
 oG kk21 kk20 true kk0,
 oX kk22 kk20 true (.nilck (t21)),
 oX kk23 kk20 true (.offs (t22) 0),
 ⟨some kk24, some (kk20, true), some [], .load 1 false (t23)⟩,
 oG kk25 kk20 true kk0,
 oX kk26 kk20 true (.nilck (t25)),
 oX kk27 kk20 true (.offs (t26) 1),
 ⟨some kk28, some (kk20, true), some [0], .load 1 false (t27)⟩,
 oX kk29 kk20 true (.bin .add (t28) (.c (nI (1)))),
 oX kk30 kk20 true (.idxSl 3 (t24) (t29)),
 oX kk31 kk20 true (.offs (t30) 0),
 ⟨some kk32, some (kk20, true), some [], .load 1 false (t31)⟩,
 oX kk33 kk20 true (.bin .eql (t32) (.c (nI (1)))),
 oP kk34 (.pick (t20) (t33) (.c (.bool false))),
 oM kk35 kk34,
 oG kk36 kk35 true kk0,
 oX kk37 kk35 true (.nilck (t36)),
 oX kk38 kk35 true (.offs (t37) 0),
 ⟨some kk39, some (kk35, true), some [], .load 1 false (t38)⟩,
 oG kk40 kk35 true kk0,
 oX kk41 kk35 true (.nilck (t40)),
 oX kk42 kk35 true (.offs (t41) 1),
 ⟨some kk43, some (kk35, true), some [0], .load 1 false (t42)⟩,
 oX kk44 kk35 true (.bin .add (t43) (.c (nI (1)))),
 oX kk45 kk35 true (.idxSl 3 (t39) (t44)),
 oX kk46 kk35 true (.offs (t45) 2),
 ⟨some kk47, some (kk35, true), some [], .load 1 false (t46)⟩,
 oX kk48 kk35 true (.bin .eql (t47) (.c (.str 2 17999))),
 oP kk49 (.pick (t35) (t48) (.c (.bool false)))])
 (.cond (t49)
 (.seq (cR [ oP kk50 (.load 4 true (t5)),
 oN (.store 4 (t4) (t50))])
 .ret)
 .skip))
 (.seq (cR [ oM kk51 kk0,
 oP kk52 (.nilck (t51)),
 oP kk53 (.offs (t52) 1),
 oP kk54 (.load 1 false (t53)),
 oP kk55 (.bin .add (t54) (.c (nI (1)))),
 oP kk56 (.nilck (t51)),
 oP kk57 (.offs (t56) 1),
 oN (.store 1 (t57) (t55))])
 (.seq (cR [ oM kk58 kk0,
 oP kk59 (.call 110 [(t58), (.c (nI (2)))]),
 oP kk60 (.offs (t5) 2),
 oN (.store 1 (t60) (t59))])
 (.seq (cR [ oP kk61 (.load 4 true (t5)),
 oN (.store 4 (t4) (t61))])
 .ret))))))) }
theorem fn151 : fnOf Tryz.prog Tryz.f151 = some i151 := by kernel_rfl
noncomputable def i152 : IFn := { nt := 20, ps := [kk0, kk1], res := [.tmp kk4], body :=
 (.seq (cR [ oC kk4 .nilslice])
 (.seq (cR [ oM kk6 kk0,
 oM kk7 kk1,
 oP kk8 (.call 204 [(t6), (t7)]),
 oM kk1 kk8])
 (.seq (.block 0 (.loop (.seq (.seq (cR [ oM kk9 kk0,
 oP kk10 (.call 84 [(t9), (.c (.str 2 21071))])])
 (.cond (t10)
 .skip
 (.exit 0)))
 (.block 1 (.seq (cR [ oM kk11 kk1,
 oP kk12 (.len (t11)),
 oP kk13 (.bin .sub (t12) (.c (nI (1)))),
 oM kk5 kk13])
 (cR [ oM kk14 kk0,
 oM kk15 kk1,
 oP kk16 (.call 204 [(t14), (t15)]),
 oM kk17 kk5,
 oP kk18 (.call 205 [(t16), (.c (nI (10))), (t17)]),
 oM kk1 kk18]))))))
 (.seq (cR [ oM kk19 kk1,
 oM kk4 kk19])
 .ret)))) }
theorem fn152 : fnOf Tryz.prog Tryz.f152 = some i152 := by kernel_rfl
noncomputable def i153 : IFn := { nt := 21, ps := [kk0, kk1], res := [.tmp kk4], body :=
 (.seq (cR [ oC kk4 .nilslice])
 (.seq (cR [ oM kk6 kk0,
 oP kk7 (.call 110 [(t6), (.c (nI (2)))]),
 oP kk8 (.build [(nI (0)), (nI (0)), (nI (0)), (.str 0 0), (.str 0 0), (nI (0)), (nI (0)), (.str 0 0)] [(0, 1, (.c (nI (2)))), (4, 1, (t7))]),
 oP kk5 (.boxz 155 8 88 [(nI (0)), (nI (0)), (nI (0)), (.str 0 0), (.str 0 0), (nI (0)), (nI (0)), (.str 0 0)]),
 oN (.store 8 (t5) (t8))])
 (.seq (.seq (cR [ oM kk9 kk0,
 oP kk10 (.call 113 [(t9), (.c (.str 1 46))])])
 (.cond (t10)
 (.seq (cR [ oP kk11 (.offs (t5) 4),
 oP kk12 (.load 1 false (t11)),
 oP kk13 (.offs (t5) 3),
 oN (.store 1 (t13) (t12))])
 (cR [ oM kk14 kk0,
 oP kk15 (.call 110 [(t14), (.c (nI (2)))]),
 oP kk16 (.offs (t5) 4),
 oN (.store 1 (t16) (t15))]))
 .skip))
 (.seq (cR [ oM kk17 kk1,
 oP kk18 (.load 8 true (t5)),
 oP kk19 (.buildSl 155 8 88 1 [(nI (0)), (nI (0)), (nI (0)), (.str 0 0), (.str 0 0), (nI (0)), (nI (0)), (.str 0 0)] [(0, (t18))]),
 oP kk20 (.app 155 8 88 (t17) (t19)),
 oM kk4 kk20])
 .ret)))) }
theorem fn153 : fnOf Tryz.prog Tryz.f153 = some i153 := by kernel_rfl
noncomputable def i154 : IFn := { nt := 42, ps := [kk0, kk1, kk2], res := [.tmp kk6], body :=
 (.seq (cR [ oC kk6 (.bool false)])
 (.seq (cD [ oM kk7 kk0,
 oP kk8 (.nilck (t7)),
 oP kk9 (.offs (t8) 2),
 oQ kk10 [] (.load 1 false (t9)),
 oP kk11 (.bin .eql (t10) (.c (nI (0)))),
 oM kk12 kk11,
 oG kk13 kk12 true kk0,
 oX kk14 kk12 true (.nilck (t13)),
 oX kk15 kk12 true (.offs (t14) 0),
 ⟨some kk16, some (kk12, true), some [], .load 1 false (t15)⟩,
 oG kk17 kk12 true kk0,
 oX kk18 kk12 true (.nilck (t17)),
 oX kk19 kk12 true (.offs (t18) 1),
 ⟨some kk20, some (kk12, true), some [0], .load 1 false (t19)⟩,
 oX kk21 kk12 true (.idxSl 3 (t16) (t20)),
 oX kk22 kk12 true (.offs (t21) 0),
 ⟨some kk23, some (kk12, true), some [], .load 1 false (t22)⟩,
 oG kk24 kk12 true kk1,
 oX kk25 kk12 true (.bin .eql (t23) (t24)),
 oP kk26 (.pick (t12) (t25) (.c (.bool false))),
 oM kk27 kk26,
 oG kk28 kk27 true kk0,
 oX kk29 kk27 true (.nilck (t28)),
 oX kk30 kk27 true (.offs (t29) 0),
 ⟨some kk31, some (kk27, true), some [], .load 1 false (t30)⟩,
 oG kk32 kk27 true kk0,
 oX kk33 kk27 true (.nilck (t32)),
 oX kk34 kk27 true (.offs (t33) 1),
 ⟨some kk35, some (kk27, true), some [0], .load 1 false (t34)⟩,
 oX kk36 kk27 true (.idxSl 3 (t31) (t35)),
 oX kk37 kk27 true (.offs (t36) 2),
 ⟨some kk38, some (kk27, true), some [], .load 1 false (t37)⟩,
 oG kk39 kk27 true kk2,
 oX kk40 kk27 true (.bin .eql (t38) (t39)),
 oP kk41 (.pick (t27) (t40) (.c (.bool false))),
 oM kk6 kk41])
 .ret)) }
theorem fn154 : fnOf Tryz.prog Tryz.f154 = some i154 := by kernel_rfl
noncomputable def i155 : IFn := { nt := 18, ps := [kk0, kk1, kk2], res := [], body :=
 (cR [ oM kk6 kk0,
 oM kk7 kk0,
 oP kk8 (.nilck (t7)),
 oP kk9 (.offs (t8) 0),
 oP kk10 (.load 1 false (t9)),
 oM kk11 kk1,
 oM kk12 kk2,
 oP kk13 (.build [(nI (0)), (nI (0)), (.str 0 0)] [(0, 1, (t11)), (2, 1, (t12))]),
 oP kk14 (.buildSl 127 3 32 1 [(nI (0)), (nI (0)), (.str 0 0)] [(0, (t13))]),
 oP kk15 (.app 127 3 32 (t10) (t14)),
 oP kk16 (.nilck (t6)),
 oP kk17 (.offs (t16) 0),
 oN (.store 1 (t17) (t15))]) }
theorem fn155 : fnOf Tryz.prog Tryz.f155 = some i155 := by kernel_rfl
noncomputable def i156 : IFn := { nt := 55, ps := [kk0, kk1, kk2], res := [], body :=
 (.seq (cR [ oP kk4 (.box 236 2 48 (t1)),
 oP kk5 (.box 159 3 32 (t2))])
 (.seq (.seq (cR [ oP kk6 (.offs (t5) 0),
 oP kk7 (.load 1 false (t6))])
 (.block 0 (.seq (cR [ oP kk12 (.bin .eql (t7) (.c (nI (0)))),
 oM kk11 kk12])
 (.cond (t11)
 (cR [ oM kk13 kk0,
 oP kk14 (.load 2 true (t4)),
 oP kk15 (.offs (t5) 1),
 oP kk16 (.load 1 false (t15)),
 oP kk17 (.call 129 [(t13), (t14), (t16), (.c (nI (1)))])])
 (.seq (cR [ oP kk19 (.bin .eql (t7) (.c (nI (1)))),
 oM kk18 kk19])
 (.cond (t18)
 (.seq (cR [ oM kk20 kk0,
 oP kk21 (.buildSl 9 1 16 1 [(.str 0 0)] [(0, (.c (.str 5 362091466563)))]),
 oP kk22 (.call 87 [(t20), (t21)])])
 (.seq (cR [ oM kk23 kk0,
 oP kk24 (.call 124 [(t23), (.c (.str 1 40))])])
 (.seq (cR [ oM kk25 kk0,
 oP kk26 (.call 124 [(t25), (.c (.str 1 42))])])
 (cR [ oM kk27 kk0,
 oP kk28 (.call 124 [(t27), (.c (.str 1 41))])]))))
 (.seq (.seq (cR [ oP kk30 (.bin .eql (t7) (.c (nI (2)))),
 oM kk29 kk30])
 (.cond (t29)
 .skip
 (.seq (cR [ oP kk31 (.bin .eql (t7) (.c (nI (3)))),
 oM kk29 kk31])
 (.cond (t29)
 .skip
 (cR [ oP kk32 (.bin .eql (t7) (.c (nI (4)))),
 oM kk29 kk32])))))
 (.cond (t29)
 (.seq (cR [ oM kk33 kk0,
 oP kk34 (.buildSl 9 1 16 3 [(.str 0 0)] [(0, (.c (.str 3 5068115))), (1, (.c (.str 3 5130573))), (2, (.c (.str 3 5783885)))]),
 oP kk35 (.offs (t5) 0),
 oP kk36 (.load 1 false (t35)),
 oP kk37 (.bin .sub (t36) (.c (nI (2)))),
 oP kk38 (.idxSl 1 (t34) (t37)),
 oP kk39 (.load 1 false (t38)),
 oP kk40 (.buildSl 9 1 16 1 [(.str 0 0)] [(0, (t39))]),
 oP kk41 (.call 87 [(t33), (t40)])])
 (.seq (cR [ oM kk42 kk0,
 oP kk43 (.call 124 [(t42), (.c (.str 1 40))])])
 (.seq (cR [ oM kk44 kk0,
 oP kk45 (.load 2 true (t4)),
 oP kk46 (.offs (t5) 1),
 oP kk47 (.load 1 false (t46)),
 oP kk48 (.call 129 [(t44), (t45), (t47), (.c (nI (1)))])])
 (cR [ oM kk49 kk0,
 oP kk50 (.call 124 [(t49), (.c (.str 1 41))])]))))
 (cR [ oM kk8 kk0,
 oP kk9 (.nilck (t8)),
 oP kk10 (.offs (t9) 1),
 oN (.store 1 (t10) (.c (.bool true)))])))))))))
 (cR [ oM kk51 kk0,
 oP kk52 (.offs (t5) 2),
 oP kk53 (.load 1 false (t52)),
 oP kk54 (.call 206 [(t51), (t53)])]))) }
theorem fn156 : fnOf Tryz.prog Tryz.f156 = some i156 := by kernel_rfl
noncomputable def i157 : IFn := { nt := 51, ps := [kk0, kk1, kk2], res := [], body :=
 (.seq (cR [ oP kk4 (.box 236 2 48 (t1))])
 (.seq (cR [ oM kk8 kk0,
 oP kk9 (.buildSl 9 1 16 1 [(.str 0 0)] [(0, (.c (.str 4 1297044038)))]),
 oP kk10 (.call 87 [(t8), (t9)])])
 (.seq (cR [ oM kk11 kk2,
 oP kk12 (.len (t11)),
 oC kk13 (nI 0)])
 (.block 0 (.loop (.seq (cR [ oP kk14 (.bin .lss (t13) (t12))])
 (.seq (.cond (t14)
 .skip
 (.exit 0))
 (.seq (.block 1 (.seq (cR [ oM kk15 kk13,
 oP kk16 (.idxSl 4 (t11) (t13)),
 oP kk17 (.load 4 true (t16)),
 oP kk7 (.boxz 148 4 48 [(.bool false), (.str 0 0), (.str 0 0), (nI (0))]),
 oM kk6 kk15,
 oN (.store 4 (t7) (t17))])
 (.seq (.seq (cR [ oM kk18 kk6,
 oP kk19 (.bin .gtr (t18) (.c (nI (0)))),
 oM kk20 kk19,
 oX kk21 kk20 true (.offs (t7) 0),
 oX kk22 kk20 true (.load 1 false (t21)),
 oP kk23 (.pick (t20) (t22) (.c (.bool false)))])
 (.cond (t23)
 (cR [ oM kk24 kk0,
 oP kk25 (.buildSl 9 1 16 1 [(.str 0 0)] [(0, (.c (.str 4 1413891404)))]),
 oP kk26 (.call 87 [(t24), (t25)])])
 .skip))
 (.seq (.seq (cR [ oM kk27 kk6,
 oP kk28 (.bin .gtr (t27) (.c (nI (0))))])
 (.cond (t28)
 (cR [ oM kk29 kk0,
 oP kk30 (.buildSl 9 1 16 1 [(.str 0 0)] [(0, (.c (.str 4 1313427274)))]),
 oP kk31 (.call 87 [(t29), (t30)])])
 .skip))
 (.seq (cR [ oM kk32 kk0,
 oP kk33 (.offs (t7) 1),
 oP kk34 (.load 1 false (t33)),
 oP kk35 (.call 123 [(t32), (t34)])])
 (.seq (cR [ oM kk36 kk0,
 oP kk37 (.offs (t7) 2),
 oP kk38 (.load 1 false (t37)),
 oP kk39 (.call 206 [(t36), (t38)])])
 (.seq (cR [ oM kk40 kk6,
 oP kk41 (.bin .gtr (t40) (.c (nI (0))))])
 (.cond (t41)
 (.seq (cR [ oM kk42 kk0,
 oP kk43 (.buildSl 9 1 16 1 [(.str 0 0)] [(0, (.c (.str 2 20047)))]),
 oP kk44 (.call 87 [(t42), (t43)])])
 (cR [ oM kk45 kk0,
 oP kk46 (.load 2 true (t4)),
 oP kk47 (.offs (t7) 3),
 oP kk48 (.load 1 false (t47)),
 oP kk49 (.call 129 [(t45), (t46), (t48), (.c (nI (1)))])]))
 .skip))))))))
 (cR [ oP kk50 (.bin .add (t13) (.c (nI (1)))),
 oM kk13 kk50]))))))))) }
theorem fn157 : fnOf Tryz.prog Tryz.f157 = some i157 := by kernel_rfl
noncomputable def i158 : IFn := { nt := 21, ps := [kk0, kk1, kk2], res := [.tmp kk6], body :=
 (.seq (cR [ oC kk6 (nI 0)])
 (.seq (.block 0 (.loop (.seq (.seq (cR [ oM kk7 kk1,
 oM kk8 kk0,
 oP kk9 (.lenS (t8)),
 oP kk10 (.bin .lss (t7) (t9)),
 oM kk11 kk10,
 oG kk12 kk11 true kk2,
 oG kk13 kk11 true kk0,
 oG kk14 kk11 true kk1,
 oX kk15 kk11 true (.idxStr (t13) (t14)),
 oX kk16 kk11 true (.callv (t12) [(t15)]),
 oP kk17 (.pick (t11) (t16) (.c (.bool false)))])
 (.cond (t17)
 .skip
 (.exit 0)))
 (.block 1 (cR [ oM kk18 kk1,
 oP kk19 (.bin .add (t18) (.c (nI (1)))),
 oM kk1 kk19])))))
 (.seq (cR [ oM kk20 kk1,
 oM kk6 kk20])
 .ret))) }
theorem fn158 : fnOf Tryz.prog Tryz.f158 = some i158 := by kernel_rfl
noncomputable def i159 : IFn := { nt := 9, ps := [kk0], res := [.tmp kk2], body :=
 (.seq (cR [ oC kk2 (.bool false)])
 (.seq (cR [ oM kk3 kk0,
 oP kk4 (.bin .geq (t3) (.c (.int .u8 (.ofNat 65)))),
 oM kk5 kk4,
 oG kk6 kk5 true kk0,
 oX kk7 kk5 true (.bin .leq (t6) (.c (.int .u8 (.ofNat 90)))),
 oP kk8 (.pick (t5) (t7) (.c (.bool false))),
 oM kk2 kk8])
 .ret)) }
theorem fn159 : fnOf Tryz.prog Tryz.f159 = some i159 := by kernel_rfl
noncomputable def i160 : IFn := { nt := 21, ps := [kk0], res := [.tmp kk2], body :=
 (.seq (cR [ oP kk1 (.box 127 3 32 (t0)),
 oC kk2 (.bool false)])
 (.seq (.seq (cR [ oP kk3 (.offs (t1) 0),
 oP kk4 (.load 1 false (t3))])
 (.block 0 (.seq (cR [ oP kk6 (.bin .eql (t4) (.c (nI (3)))),
 oM kk5 kk6])
 (.cond (t5)
 (.seq (cR [ oP kk7 (.offs (t1) 2),
 oP kk8 (.load 1 false (t7)),
 oP kk9 (.lenS (t8)),
 oP kk10 (.bin .leq (t9) (.c (nI (19)))),
 oM kk2 kk10])
 .ret)
 (.seq (cR [ oP kk12 (.bin .eql (t4) (.c (nI (4)))),
 oM kk11 kk12])
 (.cond (t11)
 (.seq (cR [ oP kk13 (.offs (t1) 2),
 oP kk14 (.load 1 false (t13)),
 oP kk15 (.lenS (t14)),
 oP kk16 (.bin .leq (t15) (.c (nI (200)))),
 oM kk2 kk16])
 .ret)
 .skip))))))
 (.seq (cR [ oP kk17 (.offs (t1) 2),
 oP kk18 (.load 1 false (t17)),
 oP kk19 (.lenS (t18)),
 oP kk20 (.bin .leq (t19) (.c (nI (20)))),
 oM kk2 kk20])
 .ret))) }
theorem fn160 : fnOf Tryz.prog Tryz.f160 = some i160 := by kernel_rfl
noncomputable def i161 : IFn := { nt := 9, ps := [kk0], res := [.tmp kk2], body :=
 (.seq (cR [ oC kk2 (.bool false)])
 (.seq (cR [ oM kk3 kk0,
 oP kk4 (.bin .geq (t3) (.c (.int .u8 (.ofNat 97)))),
 oM kk5 kk4,
 oG kk6 kk5 true kk0,
 oX kk7 kk5 true (.bin .leq (t6) (.c (.int .u8 (.ofNat 122)))),
 oP kk8 (.pick (t5) (t7) (.c (.bool false))),
 oM kk2 kk8])
 .ret)) }
theorem fn161 : fnOf Tryz.prog Tryz.f161 = some i161 := by kernel_rfl
noncomputable def i162 : IFn := { nt := 13, ps := [kk0], res := [.tmp kk2], body :=
 (.seq (cR [ oC kk2 (.bool false)])
 (.seq (cR [ oM kk3 kk0,
 oP kk4 (.call 161 [(t3)]),
 oM kk5 kk4,
 oG kk6 kk5 false kk0,
 oX kk7 kk5 false (.call 163 [(t6)]),
 oP kk8 (.pick (t5) (.c (.bool true)) (t7)),
 oM kk9 kk8,
 oG kk10 kk9 false kk0,
 oX kk11 kk9 false (.bin .eql (t10) (.c (.int .u8 (.ofNat 95)))),
 oP kk12 (.pick (t9) (.c (.bool true)) (t11)),
 oM kk2 kk12])
 .ret)) }
theorem fn162 : fnOf Tryz.prog Tryz.f162 = some i162 := by kernel_rfl
noncomputable def i163 : IFn := { nt := 9, ps := [kk0], res := [.tmp kk2], body :=
 (.seq (cR [ oC kk2 (.bool false)])
 (.seq (cR [ oM kk3 kk0,
 oP kk4 (.bin .geq (t3) (.c (.int .u8 (.ofNat 48)))),
 oM kk5 kk4,
 oG kk6 kk5 true kk0,
 oX kk7 kk5 true (.bin .leq (t6) (.c (.int .u8 (.ofNat 57)))),
 oP kk8 (.pick (t5) (t7) (.c (.bool false))),
 oM kk2 kk8])
 .ret)) }
theorem fn163 : fnOf Tryz.prog Tryz.f163 = some i163 := by kernel_rfl
noncomputable def i164 : IFn := { nt := 8, ps := [kk0, kk1], res := [.tmp kk4], body :=
 (.seq (cR [ oC kk4 (nI 0)])
 (.seq (cR [ oM kk5 kk0,
 oM kk6 kk1,
 oP kk7 (.call 207 [(t5), (t6)]),
 oM kk4 kk7])
 .ret)) }
theorem fn164 : fnOf Tryz.prog Tryz.f164 = some i164 := by kernel_rfl
noncomputable def i165 : IFn := { nt := 13, ps := [kk0], res := [.cell kk2 3 true], body :=
 (.seq (cR [ oP kk2 (.boxz 127 3 32 [(nI (0)), (nI (0)), (.str 0 0)])])
 (.seq (cD [ oM kk3 kk0,
 oP kk4 (.nilck (t3)),
 oP kk5 (.offs (t4) 0),
 oQ kk6 [] (.load 1 false (t5)),
 oM kk7 kk0,
 oP kk8 (.nilck (t7)),
 oP kk9 (.offs (t8) 1),
 oQ kk10 [0] (.load 1 false (t9)),
 oP kk11 (.idxSl 3 (t6) (t10)),
 oQ kk12 [] (.load 3 true (t11)),
 ⟨none, none, some [], .store 3 (t2) (t12)⟩])
 .ret)) }
theorem fn165 : fnOf Tryz.prog Tryz.f165 = some i165 := by kernel_rfl
noncomputable def i166 : IFn := { nt := 19, ps := [kk0, kk1], res := [], body :=
 (.seq (cR [ oM kk4 kk0,
 oP kk5 (.nilck (t4)),
 oP kk6 (.offs (t5) 3),
 oP kk7 (.load 1 false (t6)),
 oP kk8 (.bin .eql (t7) (.c (nI (0))))])
 (.cond (t8)
 (cR [ oM kk9 kk0,
 oM kk10 kk0,
 oM kk11 kk1,
 oM kk12 kk0,
 oP kk13 (.call 165 [(t12)]),
 oP kk14 (.sub (t13) 1 1 false),
 oP kk15 (.nilck (t9)),
 oP kk16 (.offs (t15) 3),
 oN (.store 1 (t16) (t11)),
 oP kk17 (.nilck (t10)),
 oP kk18 (.offs (t17) 2),
 oN (.store 1 (t18) (t14))])
 .skip)) }
theorem fn166 : fnOf Tryz.prog Tryz.f166 = some i166 := by kernel_rfl
noncomputable def i167 : IFn := { nt := 72, ps := [kk0, kk1], res := [.cell kk4 7 true], body :=
 (.seq (cR [ oP kk4 (.boxz 97 7 120 [(.bool false), .nilslice, .nilslice, .nilslice, (nI (0)), (.bool false), .nilslice])])
 (.seq (cR [ oM kk6 kk0,
 oP kk7 (.nilck (t6)),
 oP kk8 (.offs (t7) 5),
 oN (.store 1 (t8) (.c .nilslice))])
 (.seq (cR [ oM kk9 kk0,
 oP kk10 (.buildSl 9 1 16 1 [(.str 0 0)] [(0, (.c (.str 6 92647902168403)))]),
 oP kk11 (.call 169 [(t9), (t10)])])
 (.seq (cR [ oM kk12 kk0,
 oP kk13 (.call 168 [(t12), (.c (.str 8 6071782799479884100))]),
 oP kk14 (.build [(.bool false), .nilslice, .nilslice, .nilslice, (nI (0)), (.bool false), .nilslice] [(0, 1, (t13))]),
 oP kk5 (.boxz 97 7 120 [(.bool false), .nilslice, .nilslice, .nilslice, (nI (0)), (.bool false), .nilslice]),
 oN (.store 7 (t5) (t14))])
 (.seq (.seq (cR [ oM kk15 kk0,
 oP kk16 (.call 208 [(t15), (.c (.str 1 42))]),
 oP kk17 (.un .not (t16))])
 (.cond (t17)
 (.seq (cD [ oP kk18 (.offs (t5) 2),
 oQ kk19 [] (.load 1 false (t18)),
 oM kk20 kk0,
 oQ kk21 [0] (.call 209 [(t20)]),
 oQ kk22 [1] (.buildSl 159 3 32 1 [(nI (0)), (nI (0)), (.str 0 0)] [(0, (t21))]),
 oQ kk23 [] (.app 159 3 32 (t19) (t22)),
 oP kk24 (.offs (t5) 2),
 ⟨none, none, some [], .store 1 (t24) (t23)⟩])
 (.block 0 (.loop (.seq (.seq (cR [ oM kk25 kk0,
 oP kk26 (.call 208 [(t25), (.c (.str 1 44))])])
 (.cond (t26)
 .skip
 (.exit 0)))
 (.block 1 (cD [ oP kk27 (.offs (t5) 2),
 oQ kk28 [] (.load 1 false (t27)),
 oM kk29 kk0,
 oQ kk30 [0] (.call 209 [(t29)]),
 oQ kk31 [1] (.buildSl 159 3 32 1 [(nI (0)), (nI (0)), (.str 0 0)] [(0, (t30))]),
 oQ kk32 [] (.app 159 3 32 (t28) (t31)),
 oP kk33 (.offs (t5) 2),
 ⟨none, none, some [], .store 1 (t33) (t32)⟩]))))))
 .skip))
 (.seq (cR [ oM kk34 kk0,
 oP kk35 (.buildSl 9 1 16 1 [(.str 0 0)] [(0, (.c (.str 4 1297044038)))]),
 oP kk36 (.call 169 [(t34), (t35)])])
 (.seq (cR [ oM kk37 kk0,
 oM kk38 kk1,
 oP kk39 (.call 210 [(t37), (t38)]),
 oP kk40 (.offs (t5) 3),
 oN (.store 1 (t40) (t39))])
 (.seq (cR [ oM kk41 kk0,
 oP kk42 (.call 211 [(t41)]),
 oP kk43 (.offs (t5) 4),
 oN (.store 1 (t43) (t42))])
 (.seq (.seq (cR [ oM kk44 kk0,
 oP kk45 (.call 168 [(t44), (.c (.str 5 345028645447))])])
 (.cond (t45)
 (.seq (cR [ oM kk46 kk0,
 oP kk47 (.buildSl 9 1 16 1 [(.str 0 0)] [(0, (.c (.str 2 22850)))]),
 oP kk48 (.call 169 [(t46), (t47)])])
 (.seq (cR [ oP kk49 (.offs (t5) 5),
 oN (.store 1 (t49) (.c (.bool true)))])
 (.seq (cD [ oP kk50 (.offs (t5) 6),
 oQ kk51 [] (.load 1 false (t50)),
 oM kk52 kk0,
 oQ kk53 [0] (.call 212 [(t52)]),
 oQ kk54 [1] (.buildSl 3 1 8 1 [(nI (0))] [(0, (t53))]),
 oQ kk55 [] (.app 3 1 8 (t51) (t54)),
 oP kk56 (.offs (t5) 6),
 ⟨none, none, some [], .store 1 (t56) (t55)⟩])
 (.block 2 (.loop (.seq (.seq (cR [ oM kk57 kk0,
 oP kk58 (.call 208 [(t57), (.c (.str 1 44))])])
 (.cond (t58)
 .skip
 (.exit 2)))
 (.block 3 (cD [ oP kk59 (.offs (t5) 6),
 oQ kk60 [] (.load 1 false (t59)),
 oM kk61 kk0,
 oQ kk62 [0] (.call 212 [(t61)]),
 oQ kk63 [1] (.buildSl 3 1 8 1 [(nI (0))] [(0, (t62))]),
 oQ kk64 [] (.app 3 1 8 (t60) (t63)),
 oP kk65 (.offs (t5) 6),
 ⟨none, none, some [], .store 1 (t65) (t64)⟩]))))))))
 .skip))
 (.seq (cR [ oM kk66 kk0,
 oP kk67 (.nilck (t66)),
 oP kk68 (.offs (t67) 5),
 oP kk69 (.load 1 false (t68)),
 oP kk70 (.offs (t5) 1),
 oN (.store 1 (t70) (t69))])
 (.seq (cR [ oP kk71 (.load 7 true (t5)),
 oN (.store 7 (t4) (t71))])
 .ret))))))))))) }
theorem fn167 : fnOf Tryz.prog Tryz.f167 = some i167 := by kernel_rfl
noncomputable def i168 : IFn := { nt := 8, ps := [kk0, kk1], res := [.tmp kk4], body :=
 (.seq (cR [ oC kk4 (.bool false)])
 (.seq (cR [ oM kk5 kk0,
 oM kk6 kk1,
 oP kk7 (.call 213 [(t5), (.c (nI (1))), (t6)]),
 oM kk4 kk7])
 .ret)) }
theorem fn168 : fnOf Tryz.prog Tryz.f168 = some i168 := by kernel_rfl
noncomputable def i169 : IFn := { nt := 19, ps := [kk0, kk1], res := [], body :=
 (.seq (cR [ oM kk6 kk1,
 oP kk7 (.len (t6)),
 oC kk8 (nI 0)])
 (.block 0 (.loop (.seq (cR [ oP kk9 (.bin .lss (t8) (t7))])
 (.seq (.cond (t9)
 .skip
 (.exit 0))
 (.seq (.block 1 (.seq (cR [ oP kk10 (.idxSl 1 (t6) (t8)),
 oP kk11 (.load 1 false (t10)),
 oM kk5 kk11])
 (.seq (cR [ oM kk12 kk0,
 oM kk13 kk5,
 oP kk14 (.call 168 [(t12), (t13)]),
 oP kk15 (.un .not (t14))])
 (.cond (t15)
 (cR [ oM kk16 kk0,
 oP kk17 (.call 166 [(t16), (.c (nI (5)))])])
 .skip))))
 (cR [ oP kk18 (.bin .add (t8) (.c (nI (1)))),
 oM kk8 kk18]))))))) }
theorem fn169 : fnOf Tryz.prog Tryz.f169 = some i169 := by kernel_rfl
noncomputable def i170 : IFn := { nt := 26, ps := [kk0, kk1], res := [.tmp kk4], body :=
 (.seq (cR [ oC kk4 (.bool false)])
 (.seq (.seq (cR [ oM kk6 kk0,
 oP kk7 (.len (t6)),
 oM kk8 kk1,
 oP kk9 (.len (t8)),
 oP kk10 (.bin .neq (t7) (t9))])
 (.cond (t10)
 (.seq (cR [ oC kk4 (.bool false)])
 .ret)
 .skip))
 (.seq (.seq (cR [ oM kk11 kk0,
 oP kk12 (.len (t11)),
 oC kk13 (nI 0)])
 (.block 0 (.loop (.seq (cR [ oP kk14 (.bin .lss (t13) (t12))])
 (.seq (.cond (t14)
 .skip
 (.exit 0))
 (.seq (.block 1 (.seq (cR [ oM kk15 kk13,
 oM kk5 kk15])
 (.seq (cD [ oM kk16 kk0,
 oM kk17 kk5,
 oP kk18 (.idxSl 3 (t16) (t17)),
 oQ kk19 [] (.load 3 true (t18)),
 oM kk20 kk1,
 oM kk21 kk5,
 oP kk22 (.idxSl 3 (t20) (t21)),
 oQ kk23 [0] (.load 3 true (t22)),
 oP kk24 (.eqv (.agg [3, 3, 101]) true (t19) (t23))])
 (.cond (t24)
 (.seq (cR [ oC kk4 (.bool false)])
 .ret)
 .skip))))
 (cR [ oP kk25 (.bin .add (t13) (.c (nI (1)))),
 oM kk13 kk25])))))))
 (.seq (cR [ oC kk4 (.bool true)])
 .ret)))) }
theorem fn170 : fnOf Tryz.prog Tryz.f170 = some i170 := by kernel_rfl
noncomputable def i171 : IFn := { nt := 26, ps := [kk0, kk1], res := [.tmp kk4], body :=
 (.seq (cR [ oC kk4 (.bool false)])
 (.seq (.seq (cR [ oM kk6 kk0,
 oP kk7 (.len (t6)),
 oM kk8 kk1,
 oP kk9 (.len (t8)),
 oP kk10 (.bin .neq (t7) (t9))])
 (.cond (t10)
 (.seq (cR [ oC kk4 (.bool false)])
 .ret)
 .skip))
 (.seq (.seq (cR [ oM kk11 kk0,
 oP kk12 (.len (t11)),
 oC kk13 (nI 0)])
 (.block 0 (.loop (.seq (cR [ oP kk14 (.bin .lss (t13) (t12))])
 (.seq (.cond (t14)
 .skip
 (.exit 0))
 (.seq (.block 1 (.seq (cR [ oM kk15 kk13,
 oM kk5 kk15])
 (.seq (cD [ oM kk16 kk0,
 oM kk17 kk5,
 oP kk18 (.idxSl 4 (t16) (t17)),
 oQ kk19 [] (.load 4 true (t18)),
 oM kk20 kk1,
 oM kk21 kk5,
 oP kk22 (.idxSl 4 (t20) (t21)),
 oQ kk23 [0] (.load 4 true (t22)),
 oP kk24 (.eqv (.agg [100, 101, 101, 3]) true (t19) (t23))])
 (.cond (t24)
 (.seq (cR [ oC kk4 (.bool false)])
 .ret)
 .skip))))
 (cR [ oP kk25 (.bin .add (t13) (.c (nI (1)))),
 oM kk13 kk25])))))))
 (.seq (cR [ oC kk4 (.bool true)])
 .ret)))) }
theorem fn171 : fnOf Tryz.prog Tryz.f171 = some i171 := by kernel_rfl
noncomputable def i172 : IFn := { nt := 20, ps := [kk0], res := [], body :=
 (.seq (cR [ oM kk2 kk0,
 oP kk3 (.nilck (t2)),
 oP kk4 (.offs (t3) 0),
 oP kk5 (.load 1 false (t4)),
 oP kk6 (.eqv .ptr false (t5) (.c .nilptr))])
 (.cond (t6)
 (cR [ oM kk7 kk0,
 oM kk8 kk0,
 oP kk9 (.uconv 203 2 (t8)),
 oP kk10 (.call 214 [(t9)]),
 oP kk11 (.uconv 203 2 (t10)),
 oP kk12 (.nilck (t7)),
 oP kk13 (.offs (t12) 0),
 oN (.store 1 (t13) (t11))])
 (.seq (cR [ oM kk14 kk0,
 oP kk15 (.nilck (t14)),
 oP kk16 (.offs (t15) 0),
 oP kk17 (.load 1 false (t16)),
 oM kk18 kk0,
 oP kk19 (.eqv .ptr true (t17) (t18))])
 (.cond (t19)
 (cR [ oN (.callv (.c .nilptr) [])])
 .skip)))) }
theorem fn172 : fnOf Tryz.prog Tryz.f172 = some i172 := by kernel_rfl
noncomputable def i173 : IFn := { nt := 104, ps := [kk0, kk1, kk2, kk3], res := [.tmp kk8], body :=
 (.seq (cR [ oC kk8 (.str 0 0)])
 (.seq (.seq (cR [ oM kk16 kk1,
 oM kk17 kk2,
 oP kk18 (.bin .eql (t16) (t17)),
 oM kk19 kk18,
 oG kk20 kk19 false kk3,
 oX kk21 kk19 false (.bin .eql (t20) (.c (nI (0)))),
 oP kk22 (.pick (t19) (.c (.bool true)) (t21))])
 (.cond (t22)
 (.seq (cR [ oM kk23 kk0,
 oM kk8 kk23])
 .ret)
 .skip))
 (.seq (.seq (cR [ oM kk24 kk0,
 oM kk25 kk1,
 oP kk26 (.call 215 [(t24), (t25)]),
 oM kk9 kk26])
 (.seq (cR [ oM kk27 kk9,
 oP kk28 (.bin .eql (t27) (.c (nI (0))))])
 (.cond (t28)
 (.seq (cR [ oM kk29 kk0,
 oM kk8 kk29])
 .ret)
 (.seq (cR [ oM kk30 kk3,
 oP kk31 (.bin .lss (t30) (.c (nI (0)))),
 oM kk32 kk31,
 oG kk33 kk32 false kk9,
 oG kk34 kk32 false kk3,
 oX kk35 kk32 false (.bin .lss (t33) (t34)),
 oP kk36 (.pick (t32) (.c (.bool true)) (t35))])
 (.cond (t36)
 (cR [ oM kk37 kk9,
 oM kk3 kk37])
 .skip)))))
 (.seq (cR [ oP kk10 (.boxz 203 2 32 [.nilptr, .nilslice])])
 (.seq (cR [ oM kk38 kk0,
 oP kk39 (.lenS (t38)),
 oM kk40 kk3,
 oM kk41 kk2,
 oP kk42 (.lenS (t41)),
 oM kk43 kk1,
 oP kk44 (.lenS (t43)),
 oP kk45 (.bin .sub (t42) (t44)),
 oP kk46 (.bin .mul (t40) (t45)),
 oP kk47 (.bin .add (t39) (t46)),
 oP kk48 (.call 216 [(t10), (t47)])])
 (.seq (cR [ oC kk11 (nI 0)])
 (.seq (.seq (cR [ oM kk49 kk1,
 oP kk50 (.lenS (t49)),
 oP kk51 (.bin .gtr (t50) (.c (nI (0))))])
 (.cond (t51)
 (.seq (cR [ oM kk52 kk3,
 oC kk53 (nI 0)])
 (.block 0 (.loop (.seq (cR [ oP kk54 (.bin .lss (t53) (t52))])
 (.seq (.cond (t54)
 .skip
 (.exit 0))
 (.seq (.block 1 (.seq (cR [ oM kk55 kk11,
 oM kk56 kk0,
 oM kk57 kk11,
 oP kk58 (.slStr (t56) (some (t57)) none),
 oM kk59 kk1,
 oP kk60 (.call 217 [(t58), (t59)]),
 oP kk61 (.bin .add (t55) (t60)),
 oM kk12 kk61])
 (.seq (cR [ oM kk62 kk0,
 oM kk63 kk11,
 oM kk64 kk12,
 oP kk65 (.slStr (t62) (some (t63)) (some (t64))),
 oP kk66 (.call 98 [(t10), (t65)])])
 (.seq (cR [ oM kk67 kk2,
 oP kk68 (.call 98 [(t10), (t67)])])
 (cR [ oM kk69 kk12,
 oM kk70 kk1,
 oP kk71 (.lenS (t70)),
 oP kk72 (.bin .add (t69) (t71)),
 oM kk11 kk72])))))
 (cR [ oP kk73 (.bin .add (t53) (.c (nI (1)))),
 oM kk53 kk73])))))))
 (.seq (cR [ oM kk74 kk2,
 oP kk75 (.call 98 [(t10), (t74)])])
 (.seq (cR [ oM kk76 kk3,
 oP kk77 (.bin .sub (t76) (.c (nI (1)))),
 oC kk78 (nI 0)])
 (.block 2 (.loop (.seq (cR [ oP kk79 (.bin .lss (t78) (t77))])
 (.seq (.cond (t79)
 .skip
 (.exit 2))
 (.seq (.block 3 (.seq (cR [ oM kk81 kk0,
 oM kk82 kk11,
 oP kk83 (.slStr (t81) (some (t82)) none),
 oP kk84 (.call 218 [(t83)]),
 oM kk80 kk84,
 oP kk85 (.extr (t80) 0),
 oP kk86 (.extr (t80) 1),
 oM kk13 kk85,
 oM kk14 kk86])
 (.seq (cR [ oM kk87 kk11,
 oM kk88 kk14,
 oP kk89 (.bin .add (t87) (t88)),
 oM kk15 kk89])
 (.seq (cR [ oM kk90 kk0,
 oM kk91 kk11,
 oM kk92 kk15,
 oP kk93 (.slStr (t90) (some (t91)) (some (t92))),
 oP kk94 (.call 98 [(t10), (t93)])])
 (.seq (cR [ oM kk95 kk2,
 oP kk96 (.call 98 [(t10), (t95)])])
 (cR [ oM kk97 kk15,
 oM kk11 kk97]))))))
 (cR [ oP kk98 (.bin .add (t78) (.c (nI (1)))),
 oM kk78 kk98]))))))))))
 (.seq (cR [ oM kk99 kk0,
 oM kk100 kk11,
 oP kk101 (.slStr (t99) (some (t100)) none),
 oP kk102 (.call 98 [(t10), (t101)])])
 (.seq (cR [ oP kk103 (.call 100 [(t10)]),
 oM kk8 kk103])
 .ret))))))))) }
theorem fn173 : fnOf Tryz.prog Tryz.f173 = some i173 := by kernel_rfl
noncomputable def i174 : IFn := { nt := 8, ps := [kk0], res := [.tmp kk2], body :=
 (.seq (.region false [⟨some kk2, none, none, .mov (.c .nilslice)⟩])
 (.seq (.seq (.region false [⟨some kk3, none, none, .mov (.t kk0)⟩,
  ⟨some kk4, none, none, .eqv .slice false (.t kk3) (.c .nilslice)⟩])
 (.cond (.t kk4)
  (.seq (.region false [⟨some kk2, none, none, .mov (.c .nilslice)⟩])
  .ret)
  .skip))
 (.seq (.region false [⟨some kk5, none, none, .buildSl 62 3 32 0 [(.int .i64 (.ofNat 0)), (.str 0 0), (.int .i64 (.ofNat 0))] []⟩,
  ⟨some kk6, none, none, .mov (.t kk0)⟩,
  ⟨some kk7, none, none, .app 62 3 32 (.t kk5) (.t kk6)⟩,
  ⟨some kk2, none, none, .mov (.t kk7)⟩])
 .ret))) }
theorem fn174 : fnOf Tryz.prog Tryz.f174 = some i174 := by kernel_rfl
noncomputable def i175 : IFn := { nt := 19, ps := [kk0, kk1], res := [.tmp kk4], body :=
 (.seq (cR [ oC kk4 (nI 0)])
 (.seq (.seq (cR [ oM kk6 kk0,
 oP kk7 (.len (t6)),
 oC kk8 (nI 0)])
 (.block 0 (.loop (.seq (cR [ oP kk9 (.bin .lss (t8) (t7))])
 (.seq (.cond (t9)
 .skip
 (.exit 0))
 (.seq (.block 1 (.seq (cR [ oM kk10 kk8,
 oM kk5 kk10])
 (.seq (cR [ oM kk11 kk1,
 oM kk12 kk0,
 oM kk13 kk5,
 oP kk14 (.idxSl 3 (t12) (t13)),
 oP kk15 (.load 3 true (t14)),
 oP kk16 (.callv (t11) [(t15)])])
 (.cond (t16)
 (.seq (cR [ oM kk17 kk5,
 oM kk4 kk17])
 .ret)
 .skip))))
 (cR [ oP kk18 (.bin .add (t8) (.c (nI (1)))),
 oM kk8 kk18])))))))
 (.seq (cR [ oC kk4 (.int .i64 (.negSucc 0))])
 .ret))) }
theorem fn175 : fnOf Tryz.prog Tryz.f175 = some i175 := by kernel_rfl
noncomputable def i176 : IFn := { nt := 15, ps := [kk0, kk1], res := [.tmp kk3], body :=
 (.seq (cR [ oC kk3 (.bool false)])
 (.seq (cR [ oM kk4 kk0,
 oP kk5 (.bin .geq (t4) (.c (nI (0)))),
 oM kk6 kk5,
 oG kk7 kk6 true kk0,
 oX kk8 kk6 true (.load 1 false (t1)),
 oX kk9 kk6 true (.nilck (t8)),
 oX kk10 kk6 true (.offs (t9) 3),
 oX kk11 kk6 true (.load 1 false (t10)),
 oX kk12 kk6 true (.len (t11)),
 oX kk13 kk6 true (.bin .lss (t7) (t12)),
 oP kk14 (.pick (t6) (t13) (.c (.bool false))),
 oM kk3 kk14])
 .ret)) }
theorem fn176 : fnOf Tryz.prog Tryz.f176 = some i176 := by kernel_rfl
noncomputable def i177 : IFn := { nt := 24, ps := [kk0, kk1], res := [.tmp kk4, .tmp kk5], body :=
 (.seq (cR [ oC kk4 .nilslice,
 oC kk5 (nI 0)])
 (.seq (.seq (cR [ oM kk8 kk0,
 oP kk9 (.nilck (t8)),
 oP kk10 (.offs (t9) 2),
 oP kk11 (.load 1 false (t10)),
 oP kk12 (.len (t11)),
 oC kk13 (nI 0)])
 (.block 0 (.loop (.seq (cR [ oP kk14 (.bin .lss (t13) (t12))])
 (.seq (.cond (t14)
 .skip
 (.exit 0))
 (.seq (.block 1 (.seq (cR [ oP kk15 (.idxSl 2 (t11) (t13)),
 oP kk16 (.load 2 true (t15)),
 oP kk7 (.boxz 74 2 40 [(.str 0 0), .nilslice]),
 oN (.store 2 (t7) (t16))])
 (.seq (cR [ oP kk17 (.offs (t7) 0),
 oP kk18 (.load 1 false (t17)),
 oM kk19 kk1,
 oP kk20 (.bin .eql (t18) (t19))])
 (.cond (t20)
 (.seq (cR [ oP kk21 (.offs (t7) 1),
 oP kk22 (.load 1 false (t21)),
 oM kk4 kk22,
 oC kk5 (nI 0)])
 .ret)
 .skip))))
 (cR [ oP kk23 (.bin .add (t13) (.c (nI (1)))),
 oM kk13 kk23])))))))
 (.seq (cR [ oC kk4 .nilslice,
 oC kk5 (nI 8)])
 .ret))) }
theorem fn177 : fnOf Tryz.prog Tryz.f177 = some i177 := by kernel_rfl
noncomputable def i178 : IFn := { nt := 10, ps := [kk0], res := [.tmp kk2], body :=
 (.seq (cR [ oC kk2 (.bool false)])
 (.seq (.seq (cR [ oM kk3 kk0])
 (.block 0 (.seq (.seq (cR [ oP kk5 (.bin .eql (t3) (.c (nI (4)))),
 oM kk4 kk5])
 (.cond (t4)
 .skip
 (.seq (cR [ oP kk6 (.bin .eql (t3) (.c (nI (5)))),
 oM kk4 kk6])
 (.cond (t4)
 .skip
 (.seq (cR [ oP kk7 (.bin .eql (t3) (.c (nI (6)))),
 oM kk4 kk7])
 (.cond (t4)
 .skip
 (.seq (cR [ oP kk8 (.bin .eql (t3) (.c (nI (7)))),
 oM kk4 kk8])
 (.cond (t4)
 .skip
 (cR [ oP kk9 (.bin .eql (t3) (.c (nI (8)))),
 oM kk4 kk9])))))))))
 (.cond (t4)
 (.seq (cR [ oC kk2 (.bool true)])
 .ret)
 .skip))))
 (.seq (cR [ oC kk2 (.bool false)])
 .ret))) }
theorem fn178 : fnOf Tryz.prog Tryz.f178 = some i178 := by kernel_rfl
noncomputable def i179 : IFn := { nt := 32, ps := [kk0, kk1], res := [.tmp kk4], body :=
 (.seq (cR [ oP kk3 (.box 69 7 96 (t1)),
 oC kk4 (nI 0)])
 (.seq (cD [ oM kk8 kk0,
 oP kk9 (.nilck (t8)),
 oP kk10 (.offs (t9) 0),
 oP kk11 (.offs (t10) 1),
 oQ kk12 [] (.load 1 false (t11)),
 oP kk13 (.offs (t3) 3),
 oQ kk14 [0] (.load 1 false (t13)),
 oM kk15 kk0,
 oQ kk16 [0, 1] (.load 7 true (t3)),
 oQ kk17 [1, 2] (.call 180 [(t15), (t16)]),
 oQ kk18 [] (.call 219 [(t12), (t14), (t17)]),
 oM kk7 kk18,
 oP kk19 (.extr (t7) 0),
 oP kk20 (.extr (t7) 1),
 oM kk5 kk19,
 oM kk6 kk20])
 (.seq (.seq (cR [ oM kk21 kk6,
 oP kk22 (.bin .eql (t21) (.c (nI (0)))),
 oM kk23 kk22,
 oG kk24 kk23 true kk5,
 oX kk25 kk23 true (.bin .neq (t24) (.c (nI (3)))),
 oP kk26 (.pick (t23) (t25) (.c (.bool false))),
 oM kk27 kk26,
 oG kk28 kk27 true kk5,
 oX kk29 kk27 true (.bin .neq (t28) (.c (nI (0)))),
 oP kk30 (.pick (t27) (t29) (.c (.bool false)))])
 (.cond (t30)
 (.seq (cR [ oC kk4 (nI 7)])
 .ret)
 .skip))
 (.seq (cR [ oM kk31 kk6,
 oM kk4 kk31])
 .ret)))) }
theorem fn179 : fnOf Tryz.prog Tryz.f179 = some i179 := by kernel_rfl
noncomputable def i180 : IFn := { nt := 34, ps := [kk0, kk1], res := [.tmp kk4], body :=
 (.seq (cR [ oP kk3 (.box 69 7 96 (t1)),
 oC kk4 .nilslice])
 (.seq (.seq (cR [ oP kk5 (.offs (t3) 0),
 oP kk6 (.load 1 false (t5)),
 oP kk7 (.call 178 [(t6)])])
 (.cond (t7)
 (.seq (cD [ oM kk8 kk0,
 oP kk9 (.nilck (t8)),
 oP kk10 (.offs (t9) 3),
 oQ kk11 [] (.load 1 false (t10)),
 oP kk12 (.offs (t3) 1),
 oQ kk13 [0] (.load 1 false (t12)),
 oP kk14 (.idxSl 1 (t11) (t13)),
 oQ kk15 [] (.load 1 false (t14)),
 oM kk16 kk0,
 oP kk17 (.nilck (t16)),
 oP kk18 (.offs (t17) 3),
 oQ kk19 [0, 1, 2] (.load 1 false (t18)),
 oP kk20 (.offs (t3) 2),
 oQ kk21 [0, 1, 2, 3] (.load 1 false (t20)),
 oP kk22 (.idxSl 1 (t19) (t21)),
 oQ kk23 [2, 3, 4] (.load 1 false (t22)),
 oQ kk24 [] (.buildSl 27 1 24 2 [.nilslice] [(0, (t15)), (1, (t23))]),
 oQ kk25 [] (.call 220 [(t24)]),
 oM kk4 kk25])
 .ret)
 .skip))
 (.seq (cD [ oM kk26 kk0,
 oP kk27 (.nilck (t26)),
 oP kk28 (.offs (t27) 3),
 oQ kk29 [] (.load 1 false (t28)),
 oP kk30 (.offs (t3) 1),
 oQ kk31 [0] (.load 1 false (t30)),
 oP kk32 (.idxSl 1 (t29) (t31)),
 oQ kk33 [] (.load 1 false (t32)),
 oM kk4 kk33])
 .ret))) }
theorem fn180 : fnOf Tryz.prog Tryz.f180 = some i180 := by kernel_rfl
noncomputable def i181 : IFn := { nt := 40, ps := [kk0, kk1], res := [.tmp kk4, .tmp kk5], body :=
 (.seq (cR [ oP kk3 (.box 69 7 96 (t1)),
 oC kk4 .nilslice,
 oC kk5 (nI 0)])
 (.seq (cR [ oC kk6 .nilslice])
 (.seq (.seq (cR [ oP kk11 (.offs (t3) 5),
 oP kk12 (.load 1 false (t11)),
 oP kk13 (.len (t12)),
 oC kk14 (nI 0)])
 (.block 0 (.loop (.seq (cR [ oP kk15 (.bin .lss (t14) (t13))])
 (.seq (.cond (t15)
 .skip
 (.exit 0))
 (.seq (.block 1 (.seq (cR [ oP kk16 (.idxSl 1 (t12) (t14)),
 oP kk17 (.load 1 false (t16)),
 oM kk8 kk17])
 (.seq (cD [ oM kk19 kk0,
 oP kk20 (.nilck (t19)),
 oP kk21 (.offs (t20) 0),
 oP kk22 (.offs (t21) 1),
 oQ kk23 [] (.load 1 false (t22)),
 oM kk24 kk8,
 oM kk25 kk0,
 oQ kk26 [0] (.load 7 true (t3)),
 oQ kk27 [1] (.call 180 [(t25), (t26)]),
 oQ kk28 [] (.call 219 [(t23), (t24), (t27)]),
 oM kk18 kk28,
 oP kk29 (.extr (t18) 0),
 oP kk30 (.extr (t18) 1),
 oM kk9 kk29,
 oM kk10 kk30])
 (.seq (.seq (cR [ oM kk31 kk10,
 oP kk32 (.bin .neq (t31) (.c (nI (0))))])
 (.cond (t32)
 (.seq (cR [ oM kk33 kk10,
 oC kk4 .nilslice,
 oM kk5 kk33])
 .ret)
 .skip))
 (cR [ oM kk34 kk6,
 oM kk35 kk9,
 oP kk36 (.buildSl 3 1 8 1 [(nI (0))] [(0, (t35))]),
 oP kk37 (.app 3 1 8 (t34) (t36)),
 oM kk6 kk37])))))
 (cR [ oP kk38 (.bin .add (t14) (.c (nI (1)))),
 oM kk14 kk38])))))))
 (.seq (cR [ oM kk39 kk6,
 oM kk4 kk39,
 oC kk5 (nI 0)])
 .ret)))) }
theorem fn181 : fnOf Tryz.prog Tryz.f181 = some i181 := by kernel_rfl
noncomputable def i182 : IFn := { nt := 52, ps := [kk0, kk1], res := [.tmp kk4, .tmp kk5], body :=
 (.seq (cR [ oC kk4 .nilslice,
 oC kk5 (nI 0)])
 (.seq (.seq (cR [ oM kk8 kk0,
 oP kk9 (.len (t8)),
 oM kk10 kk1,
 oP kk11 (.len (t10)),
 oP kk12 (.bin .neq (t9) (t11))])
 (.cond (t12)
 (.seq (cR [ oC kk4 .nilslice,
 oC kk5 (nI 7)])
 .ret)
 .skip))
 (.seq (cR [ oM kk13 kk0,
 oP kk14 (.call 60 [(t13)]),
 oM kk6 kk14])
 (.seq (.seq (cR [ oM kk15 kk0,
 oP kk16 (.len (t15)),
 oC kk17 (nI 0)])
 (.block 0 (.loop (.seq (cR [ oP kk18 (.bin .lss (t17) (t16))])
 (.seq (.cond (t18)
 .skip
 (.exit 0))
 (.seq (.block 1 (.seq (cR [ oM kk19 kk17,
 oM kk7 kk19])
 (.block 2 (.seq (cR [ oM kk21 kk0,
 oM kk22 kk7,
 oP kk23 (.idxSl 1 (t21) (t22)),
 oP kk24 (.load 1 false (t23)),
 oP kk25 (.bin .eql (t24) (.c (nI (0)))),
 oM kk20 kk25])
 (.cond (t20)
 (cR [ oM kk26 kk6,
 oM kk27 kk7,
 oM kk28 kk1,
 oM kk29 kk7,
 oP kk30 (.idxSl 1 (t28) (t29)),
 oP kk31 (.load 1 false (t30)),
 oP kk32 (.idxSl 1 (t26) (t27)),
 oN (.store 1 (t32) (t31))])
 (.seq (cD [ oM kk34 kk0,
 oM kk35 kk7,
 oP kk36 (.idxSl 1 (t34) (t35)),
 oQ kk37 [] (.load 1 false (t36)),
 oM kk38 kk1,
 oM kk39 kk7,
 oP kk40 (.idxSl 1 (t38) (t39)),
 oQ kk41 [0] (.load 1 false (t40)),
 oP kk42 (.bin .neq (t37) (t41)),
 oM kk43 kk42,
 oG kk44 kk43 true kk1,
 oG kk45 kk43 true kk7,
 oX kk46 kk43 true (.idxSl 1 (t44) (t45)),
 ⟨some kk47, some (kk43, true), some [], .load 1 false (t46)⟩,
 oX kk48 kk43 true (.bin .neq (t47) (.c (nI (0)))),
 oP kk49 (.pick (t43) (t48) (.c (.bool false))),
 oM kk33 kk49])
 (.cond (t33)
 (.seq (cR [ oC kk4 .nilslice,
 oC kk5 (nI 7)])
 .ret)
 .skip)))))))
 (cR [ oP kk50 (.bin .add (t17) (.c (nI (1)))),
 oM kk17 kk50])))))))
 (.seq (cR [ oM kk51 kk6,
 oM kk4 kk51,
 oC kk5 (nI 0)])
 .ret))))) }
theorem fn182 : fnOf Tryz.prog Tryz.f182 = some i182 := by kernel_rfl
noncomputable def i183 : IFn := { nt := 72, ps := [kk0, kk1], res := [.tmp kk4, .tmp kk5], body :=
 (.seq (cR [ oP kk3 (.box 69 7 96 (t1)),
 oC kk4 .nilslice,
 oC kk5 (nI 0)])
 (.seq (cR [ oM kk15 kk0,
 oP kk16 (.load 7 true (t3)),
 oP kk17 (.call 181 [(t15), (t16)]),
 oM kk14 kk17,
 oP kk18 (.extr (t14) 0),
 oP kk19 (.extr (t14) 1),
 oM kk6 kk18,
 oM kk7 kk19])
 (.seq (.seq (cR [ oM kk20 kk7,
 oP kk21 (.bin .neq (t20) (.c (nI (0))))])
 (.cond (t21)
 (.seq (cR [ oM kk22 kk7,
 oC kk4 .nilslice,
 oM kk5 kk22])
 .ret)
 .skip))
 (.seq (cR [ oC kk8 (.bool false)])
 (.seq (.seq (cR [ oP kk23 (.offs (t3) 6),
 oP kk24 (.load 1 false (t23)),
 oP kk25 (.len (t24)),
 oC kk26 (nI 0)])
 (.block 0 (.loop (.seq (cR [ oP kk27 (.bin .lss (t26) (t25))])
 (.seq (.cond (t27)
 .skip
 (.exit 0))
 (.seq (.block 1 (.seq (cR [ oP kk28 (.idxSl 2 (t24) (t26)),
 oP kk29 (.load 2 true (t28)),
 oP kk10 (.boxz 221 2 16 [(nI (0)), (nI (0))]),
 oN (.store 2 (t10) (t29))])
 (.seq (cR [ oC kk11 (nI 1)])
 (.seq (.seq (cR [ oP kk30 (.offs (t10) 0),
 oP kk31 (.load 1 false (t30))])
 (.block 2 (.seq (cR [ oP kk33 (.bin .eql (t31) (.c (nI (1)))),
 oM kk32 kk33])
 (.cond (t32)
 .skip
 (.seq (.seq (cR [ oP kk35 (.bin .eql (t31) (.c (nI (2)))),
 oM kk34 kk35])
 (.cond (t34)
 .skip
 (.seq (cR [ oP kk36 (.bin .eql (t31) (.c (nI (3)))),
 oM kk34 kk36])
 (.cond (t34)
 .skip
 (cR [ oP kk37 (.bin .eql (t31) (.c (nI (4)))),
 oM kk34 kk37])))))
 (.cond (t34)
 (.seq (cD [ oM kk39 kk0,
 oP kk40 (.nilck (t39)),
 oP kk41 (.offs (t40) 0),
 oP kk42 (.offs (t41) 1),
 oQ kk43 [] (.load 1 false (t42)),
 oP kk44 (.offs (t10) 1),
 oQ kk45 [0] (.load 1 false (t44)),
 oM kk46 kk0,
 oQ kk47 [0, 1] (.load 7 true (t3)),
 oQ kk48 [1, 2] (.call 180 [(t46), (t47)]),
 oQ kk49 [] (.call 219 [(t43), (t45), (t48)]),
 oM kk38 kk49,
 oP kk50 (.extr (t38) 0),
 oP kk51 (.extr (t38) 1),
 oM kk12 kk50,
 oM kk13 kk51])
 (.seq (.seq (cR [ oM kk52 kk13,
 oP kk53 (.bin .neq (t52) (.c (nI (0))))])
 (.cond (t53)
 (.seq (cR [ oM kk54 kk13,
 oC kk4 .nilslice,
 oM kk5 kk54])
 .ret)
 .skip))
 (.seq (cR [ oP kk55 (.offs (t10) 0),
 oP kk56 (.load 1 false (t55)),
 oP kk57 (.bin .neq (t56) (.c (nI (2))))])
 (.cond (t57)
 (cR [ oM kk58 kk12,
 oM kk11 kk58])
 (.seq (cR [ oM kk59 kk12,
 oP kk60 (.bin .neq (t59) (.c (nI (1)))),
 oM kk61 kk60,
 oG kk62 kk61 true kk12,
 oX kk63 kk61 true (.bin .neq (t62) (.c (nI (0)))),
 oP kk64 (.pick (t61) (t63) (.c (.bool false)))])
 (.cond (t64)
 (cR [ oC kk8 (.bool true)])
 .skip))))))
 (.seq (cR [ oC kk4 .nilslice,
 oC kk5 (nI 5)])
 .ret)))))))
 (cR [ oM kk65 kk6,
 oM kk66 kk11,
 oP kk67 (.buildSl 3 1 8 1 [(nI (0))] [(0, (t66))]),
 oP kk68 (.app 3 1 8 (t65) (t67)),
 oM kk6 kk68])))))
 (cR [ oP kk69 (.bin .add (t26) (.c (nI (1)))),
 oM kk26 kk69])))))))
 (.seq (.seq (cR [ oM kk70 kk8])
 (.cond (t70)
 (.seq (cR [ oC kk4 .nilslice,
 oC kk5 (nI 7)])
 .ret)
 .skip))
 (.seq (cR [ oM kk71 kk6,
 oM kk4 kk71,
 oC kk5 (nI 0)])
 .ret))))))) }
theorem fn183 : fnOf Tryz.prog Tryz.f183 = some i183 := by kernel_rfl
noncomputable def i184 : IFn := { nt := 99, ps := [kk0], res := [.cell kk2 3 true, .tmp kk3], body :=
 (.seq (cR [ oP kk2 (.boxz 153 3 32 [(nI (0)), (nI (0)), (.str 0 0)]),
 oC kk3 (.bool false)])
 (.seq (.block 0 (.seq (cR [ oM kk8 kk0,
 oP kk9 (.nilck (t8)),
 oP kk10 (.offs (t9) 2),
 oP kk11 (.load 1 false (t10)),
 oP kk12 (.bin .neq (t11) (.c (nI (0)))),
 oM kk7 kk12])
 (.cond (t7)
 (.seq (cR [ oP kk13 (.build [(nI (0)), (nI (0)), (.str 0 0)] []),
 oN (.store 3 (t2) (t13)),
 oC kk3 (.bool false)])
 .ret)
 (.seq (cR [ oM kk15 kk0,
 oP kk16 (.call 84 [(t15), (.c (.str 4 1280070990))]),
 oM kk14 kk16])
 (.cond (t14)
 (.seq (cR [ oP kk17 (.build [(nI (0)), (nI (0)), (.str 0 0)] []),
 oN (.store 3 (t2) (t17)),
 oC kk3 (.bool true)])
 .ret)
 (.seq (cR [ oM kk19 kk0,
 oP kk20 (.call 84 [(t19), (.c (.str 4 1163219540))]),
 oM kk18 kk20])
 (.cond (t18)
 (.seq (cR [ oP kk21 (.build [(nI (0)), (nI (0)), (.str 0 0)] [(0, 1, (.c (nI (3)))), (1, 1, (.c (nI (1))))]),
 oN (.store 3 (t2) (t21)),
 oC kk3 (.bool true)])
 .ret)
 (.seq (cR [ oM kk23 kk0,
 oP kk24 (.call 84 [(t23), (.c (.str 5 297750249798))]),
 oM kk22 kk24])
 (.cond (t22)
 (.seq (cR [ oP kk25 (.build [(nI (0)), (nI (0)), (.str 0 0)] [(0, 1, (.c (nI (3))))]),
 oN (.store 3 (t2) (t25)),
 oC kk3 (.bool true)])
 .ret)
 (.seq (cD [ oM kk27 kk0,
 oP kk28 (.nilck (t27)),
 oP kk29 (.offs (t28) 0),
 oQ kk30 [] (.load 1 false (t29)),
 oM kk31 kk0,
 oP kk32 (.nilck (t31)),
 oP kk33 (.offs (t32) 1),
 oQ kk34 [0] (.load 1 false (t33)),
 oP kk35 (.idxSl 3 (t30) (t34)),
 oP kk36 (.offs (t35) 0),
 oQ kk37 [] (.load 1 false (t36)),
 oP kk38 (.bin .eql (t37) (.c (nI (4)))),
 oM kk26 kk38])
 (.cond (t26)
 (.seq (cR [ oM kk39 kk0,
 oP kk40 (.call 110 [(t39), (.c (nI (4)))]),
 oP kk41 (.build [(nI (0)), (nI (0)), (.str 0 0)] [(0, 1, (.c (nI (2)))), (2, 1, (t40))]),
 oN (.store 3 (t2) (t41)),
 oC kk3 (.bool true)])
 .ret)
 (.seq (cD [ oM kk43 kk0,
 oP kk44 (.nilck (t43)),
 oP kk45 (.offs (t44) 0),
 oQ kk46 [] (.load 1 false (t45)),
 oM kk47 kk0,
 oP kk48 (.nilck (t47)),
 oP kk49 (.offs (t48) 1),
 oQ kk50 [0] (.load 1 false (t49)),
 oP kk51 (.idxSl 3 (t46) (t50)),
 oP kk52 (.offs (t51) 0),
 oQ kk53 [] (.load 1 false (t52)),
 oP kk54 (.bin .neq (t53) (.c (nI (3)))),
 oM kk55 kk54,
 oG kk56 kk55 true kk0,
 ⟨some kk57, some (kk55, true), some [], .call 154 [(t56), (.c (nI (5))), (.c (.str 1 45))]⟩,
 oX kk58 kk55 true (.un .not (t57)),
 oP kk59 (.pick (t55) (t58) (.c (.bool false))),
 oM kk42 kk59])
 (.cond (t42)
 (.seq (cR [ oP kk60 (.build [(nI (0)), (nI (0)), (.str 0 0)] []),
 oN (.store 3 (t2) (t60)),
 oC kk3 (.bool false)])
 .ret)
 .skip)))))))))))))
 (.seq (cR [ oM kk61 kk0,
 oP kk62 (.call 113 [(t61), (.c (.str 1 45))]),
 oM kk4 kk62])
 (.seq (cR [ oM kk63 kk0,
 oP kk64 (.call 110 [(t63), (.c (nI (3)))]),
 oM kk5 kk64])
 (.seq (.seq (cR [ oM kk65 kk0,
 oP kk66 (.nilck (t65)),
 oP kk67 (.offs (t66) 2),
 oP kk68 (.load 1 false (t67)),
 oP kk69 (.bin .neq (t68) (.c (nI (0))))])
 (.cond (t69)
 (.seq (cR [ oP kk70 (.build [(nI (0)), (nI (0)), (.str 0 0)] []),
 oN (.store 3 (t2) (t70)),
 oC kk3 (.bool true)])
 .ret)
 .skip))
 (.seq (cR [ oM kk71 kk5,
 oP kk72 (.call 188 [(t71)]),
 oM kk6 kk72])
 (.seq (.seq (cR [ oM kk73 kk6,
 oP kk74 (.bin .gtr (t73) (.c (.int .u64 (.ofNat 9223372036854775808)))),
 oM kk75 kk74,
 oG kk76 kk75 false kk6,
 oX kk77 kk75 false (.bin .eql (t76) (.c (.int .u64 (.ofNat 9223372036854775808)))),
 oG kk78 kk75 false kk77,
 oG kk79 kk78 true kk4,
 oX kk80 kk78 true (.un .not (t79)),
 oX kk81 kk75 false (.pick (t78) (t80) (.c (.bool false))),
 oP kk82 (.pick (t75) (.c (.bool true)) (t81))])
 (.cond (t82)
 (.seq (cR [ oM kk83 kk0,
 oP kk84 (.nilck (t83)),
 oP kk85 (.offs (t84) 1),
 oP kk86 (.load 1 false (t85)),
 oP kk87 (.bin .sub (t86) (.c (nI (1)))),
 oP kk88 (.nilck (t83)),
 oP kk89 (.offs (t88) 1),
 oN (.store 1 (t89) (t87))])
 (.seq (cR [ oM kk90 kk0,
 oP kk91 (.call 86 [(t90), (.c (nI (10)))])])
 (.seq (cR [ oP kk92 (.build [(nI (0)), (nI (0)), (.str 0 0)] []),
 oN (.store 3 (t2) (t92)),
 oC kk3 (.bool true)])
 .ret)))
 .skip))
 (.seq (.seq (cR [ oM kk93 kk4])
 (.cond (t93)
 (cR [ oM kk94 kk6,
 oP kk95 (.un .neg (t94)),
 oM kk6 kk95])
 .skip))
 (.seq (cR [ oM kk96 kk6,
 oP kk97 (.conv .i64 (t96)),
 oP kk98 (.build [(nI (0)), (nI (0)), (.str 0 0)] [(0, 1, (.c (nI (1)))), (1, 1, (t97))]),
 oN (.store 3 (t2) (t98)),
 oC kk3 (.bool true)])
 .ret))))))))) }
theorem fn184 : fnOf Tryz.prog Tryz.f184 = some i184 := by kernel_rfl
noncomputable def i185 : IFn := { nt := 94, ps := [kk0], res := [.cell kk2 2 true, .tmp kk3], body :=
 (.seq (cR [ oP kk2 (.boxz 50 2 16 [(nI (0)), (nI (0))]),
 oC kk3 (nI 0)])
 (.seq (.seq (cR [ oM kk10 kk0,
 oP kk11 (.lenS (t10)),
 oP kk12 (.bin .lss (t11) (.c (nI (4)))),
 oM kk13 kk12,
 oG kk14 kk13 false kk0,
 oX kk15 kk13 false (.idxStr (t14) (.c (nI (0)))),
 oX kk16 kk13 false (.bin .neq (t15) (.c (.int .u8 (.ofNat 91)))),
 oP kk17 (.pick (t13) (.c (.bool true)) (t16)),
 oM kk18 kk17,
 oG kk19 kk18 false kk0,
 oG kk20 kk18 false kk0,
 oX kk21 kk18 false (.lenS (t20)),
 oX kk22 kk18 false (.bin .sub (t21) (.c (nI (1)))),
 oX kk23 kk18 false (.idxStr (t19) (t22)),
 oX kk24 kk18 false (.bin .neq (t23) (.c (.int .u8 (.ofNat 41)))),
 oP kk25 (.pick (t18) (.c (.bool true)) (t24))])
 (.cond (t25)
 (.seq (cR [ oP kk26 (.build [(nI (0)), (nI (0))] []),
 oN (.store 2 (t2) (t26)),
 oC kk3 (nI 5)])
 .ret)
 .skip))
 (.seq (cR [ oM kk27 kk0,
 oM kk28 kk0,
 oP kk29 (.lenS (t28)),
 oP kk30 (.bin .sub (t29) (.c (nI (1)))),
 oP kk31 (.slStr (t27) (some (.c (nI (1)))) (some (t30))),
 oM kk4 kk31])
 (.seq (cR [ oC kk5 (nI 0)])
 (.seq (.block 0 (.loop (.seq (.seq (cR [ oM kk32 kk5,
 oM kk33 kk4,
 oP kk34 (.lenS (t33)),
 oP kk35 (.bin .lss (t32) (t34)),
 oM kk36 kk35,
 oG kk37 kk36 true kk4,
 oG kk38 kk36 true kk5,
 oX kk39 kk36 true (.idxStr (t37) (t38)),
 oX kk40 kk36 true (.bin .neq (t39) (.c (.int .u8 (.ofNat 44)))),
 oP kk41 (.pick (t36) (t40) (.c (.bool false)))])
 (.cond (t41)
 .skip
 (.exit 0)))
 (.block 1 (cR [ oM kk42 kk5,
 oP kk43 (.bin .add (t42) (.c (nI (1)))),
 oM kk5 kk43])))))
 (.seq (.seq (cR [ oM kk44 kk5,
 oP kk45 (.bin .add (t44) (.c (nI (1)))),
 oM kk46 kk4,
 oP kk47 (.lenS (t46)),
 oP kk48 (.bin .geq (t45) (t47)),
 oM kk49 kk48,
 oG kk50 kk49 false kk4,
 oG kk51 kk49 false kk5,
 oX kk52 kk49 false (.bin .add (t51) (.c (nI (1)))),
 oX kk53 kk49 false (.idxStr (t50) (t52)),
 oX kk54 kk49 false (.bin .neq (t53) (.c (.int .u8 (.ofNat 32)))),
 oP kk55 (.pick (t49) (.c (.bool true)) (t54)),
 oM kk56 kk55,
 oG kk57 kk56 false kk4,
 oG kk58 kk56 false kk5,
 oX kk59 kk56 false (.bin .add (t58) (.c (nI (2)))),
 oX kk60 kk56 false (.slStr (t57) (some (t59)) none),
 oX kk61 kk56 false (.call 221 [(t60), (.c (.int .u8 (.ofNat 41)))]),
 oP kk62 (.pick (t56) (.c (.bool true)) (t61))])
 (.cond (t62)
 (.seq (cR [ oP kk63 (.build [(nI (0)), (nI (0))] []),
 oN (.store 2 (t2) (t63)),
 oC kk3 (nI 5)])
 .ret)
 .skip))
 (.seq (cR [ oM kk65 kk4,
 oM kk66 kk5,
 oP kk67 (.slStr (t65) none (some (t66))),
 oP kk68 (.call 187 [(t67)]),
 oM kk64 kk68,
 oP kk69 (.extr (t64) 0),
 oP kk70 (.extr (t64) 1),
 oM kk6 kk69,
 oM kk7 kk70])
 (.seq (.seq (cR [ oM kk71 kk7,
 oP kk72 (.bin .neq (t71) (.c (nI (0))))])
 (.cond (t72)
 (.seq (cR [ oP kk73 (.build [(nI (0)), (nI (0))] []),
 oM kk74 kk7,
 oN (.store 2 (t2) (t73)),
 oM kk3 kk74])
 .ret)
 .skip))
 (.seq (cR [ oM kk76 kk4,
 oM kk77 kk5,
 oP kk78 (.bin .add (t77) (.c (nI (2)))),
 oP kk79 (.slStr (t76) (some (t78)) none),
 oP kk80 (.call 187 [(t79)]),
 oM kk75 kk80,
 oP kk81 (.extr (t75) 0),
 oP kk82 (.extr (t75) 1),
 oM kk8 kk81,
 oM kk9 kk82])
 (.seq (.seq (cR [ oM kk83 kk9,
 oP kk84 (.bin .neq (t83) (.c (nI (0))))])
 (.cond (t84)
 (.seq (cR [ oP kk85 (.build [(nI (0)), (nI (0))] []),
 oM kk86 kk9,
 oN (.store 2 (t2) (t85)),
 oM kk3 kk86])
 .ret)
 .skip))
 (.seq (.seq (cR [ oM kk87 kk6,
 oM kk88 kk8,
 oP kk89 (.bin .geq (t87) (t88))])
 (.cond (t89)
 (.seq (cR [ oP kk90 (.build [(nI (0)), (nI (0))] []),
 oN (.store 2 (t2) (t90)),
 oC kk3 (nI 10)])
 .ret)
 .skip))
 (.seq (cR [ oM kk91 kk6,
 oM kk92 kk8,
 oP kk93 (.build [(nI (0)), (nI (0))] [(0, 1, (t91)), (1, 1, (t92))]),
 oN (.store 2 (t2) (t93)),
 oC kk3 (nI 0)])
 .ret)))))))))))) }
theorem fn185 : fnOf Tryz.prog Tryz.f185 = some i185 := by kernel_rfl
noncomputable def i186 : IFn := { nt := 21, ps := [kk0], res := [.tmp kk2], body :=
 (.seq (cR [ oC kk2 .nilslice])
 (.seq (cR [ oC kk3 .nilslice])
 (.seq (cR [ oM kk4 kk0,
 oP kk5 (.call 111 [(t4), (.c (.str 1 40))])])
 (.seq (cR [ oM kk6 kk3,
 oM kk7 kk0,
 oP kk8 (.call 110 [(t7), (.c (nI (2)))]),
 oP kk9 (.buildSl 9 1 16 1 [(.str 0 0)] [(0, (t8))]),
 oP kk10 (.app 9 1 16 (t6) (t9)),
 oM kk3 kk10])
 (.seq (.block 0 (.loop (.seq (.seq (cR [ oM kk11 kk0,
 oP kk12 (.call 113 [(t11), (.c (.str 1 44))])])
 (.cond (t12)
 .skip
 (.exit 0)))
 (.block 1 (cR [ oM kk13 kk3,
 oM kk14 kk0,
 oP kk15 (.call 110 [(t14), (.c (nI (2)))]),
 oP kk16 (.buildSl 9 1 16 1 [(.str 0 0)] [(0, (t15))]),
 oP kk17 (.app 9 1 16 (t13) (t16)),
 oM kk3 kk17])))))
 (.seq (cR [ oM kk18 kk0,
 oP kk19 (.call 111 [(t18), (.c (.str 1 41))])])
 (.seq (cR [ oM kk20 kk3,
 oM kk2 kk20])
 .ret))))))) }
theorem fn186 : fnOf Tryz.prog Tryz.f186 = some i186 := by kernel_rfl
noncomputable def i187 : IFn := { nt := 83, ps := [kk0], res := [.tmp kk2, .tmp kk3], body :=
 (.seq (cR [ oC kk2 (nI 0),
 oC kk3 (nI 0)])
 (.seq (.seq (cR [ oM kk8 kk0,
 oP kk9 (.bin .eql (t8) (.c (.str 7 32199706527559526)))])
 (.cond (t9)
 (.seq (cR [ oC kk2 (nI 1000000),
 oC kk3 (nI 0)])
 .ret)
 .skip))
 (.seq (.seq (cR [ oM kk10 kk0,
 oP kk11 (.lenS (t10)),
 oP kk12 (.bin .neq (t11) (.c (nI (10)))),
 oM kk13 kk12,
 oG kk14 kk13 false kk0,
 oX kk15 kk13 false (.idxStr (t14) (.c (nI (4)))),
 oX kk16 kk13 false (.bin .neq (t15) (.c (.int .u8 (.ofNat 45)))),
 oP kk17 (.pick (t13) (.c (.bool true)) (t16)),
 oM kk18 kk17,
 oG kk19 kk18 false kk0,
 oX kk20 kk18 false (.idxStr (t19) (.c (nI (7)))),
 oX kk21 kk18 false (.bin .neq (t20) (.c (.int .u8 (.ofNat 45)))),
 oP kk22 (.pick (t18) (.c (.bool true)) (t21))])
 (.cond (t22)
 (.seq (cR [ oC kk2 (nI 0),
 oC kk3 (nI 5)])
 .ret)
 .skip))
 (.seq (cR [ oP kk4 (.boxz 305 10 80 [(nI (0)), (nI (0)), (nI (0)), (nI (0)), (nI (0)), (nI (0)), (nI (0)), (nI (0)), (nI (0)), (nI (0))])])
 (.seq (.seq (cR [ oC kk5 (nI 0)])
 (.block 0 (.loop (.seq (.seq (cR [ oM kk23 kk5,
 oP kk24 (.bin .lss (t23) (.c (nI (10))))])
 (.cond (t24)
 .skip
 (.exit 0)))
 (.seq (.block 1 (.seq (.seq (cR [ oM kk27 kk5,
 oP kk28 (.bin .eql (t27) (.c (nI (4)))),
 oM kk29 kk28,
 oG kk30 kk29 false kk5,
 oX kk31 kk29 false (.bin .eql (t30) (.c (nI (7)))),
 oP kk32 (.pick (t29) (.c (.bool true)) (t31))])
 (.cond (t32)
 (.exit 1)
 .skip))
 (.seq (.seq (cR [ oM kk33 kk0,
 oM kk34 kk5,
 oP kk35 (.idxStr (t33) (t34)),
 oP kk36 (.bin .lss (t35) (.c (.int .u8 (.ofNat 48)))),
 oM kk37 kk36,
 oG kk38 kk37 false kk0,
 oG kk39 kk37 false kk5,
 oX kk40 kk37 false (.idxStr (t38) (t39)),
 oX kk41 kk37 false (.bin .gtr (t40) (.c (.int .u8 (.ofNat 57)))),
 oP kk42 (.pick (t37) (.c (.bool true)) (t41))])
 (.cond (t42)
 (.seq (cR [ oC kk2 (nI 0),
 oC kk3 (nI 5)])
 .ret)
 .skip))
 (cR [ oM kk43 kk5,
 oM kk44 kk0,
 oM kk45 kk5,
 oP kk46 (.idxStr (t44) (t45)),
 oP kk47 (.bin .sub (t46) (.c (.int .u8 (.ofNat 48)))),
 oP kk48 (.conv .i64 (t47)),
 oP kk49 (.idxArr 10 1 (t4) (t43)),
 oN (.store 1 (t49) (t48))]))))
 (cR [ oM kk25 kk5,
 oP kk26 (.bin .add (t25) (.c (nI (1)))),
 oM kk5 kk26]))))))
 (.seq (cR [ oP kk51 (.idxArr 10 1 (t4) (.c (nI (0)))),
 oP kk52 (.load 1 false (t51)),
 oP kk53 (.bin .mul (.c (nI (1000))) (t52)),
 oP kk54 (.idxArr 10 1 (t4) (.c (nI (1)))),
 oP kk55 (.load 1 false (t54)),
 oP kk56 (.bin .mul (.c (nI (100))) (t55)),
 oP kk57 (.bin .add (t53) (t56)),
 oP kk58 (.idxArr 10 1 (t4) (.c (nI (2)))),
 oP kk59 (.load 1 false (t58)),
 oP kk60 (.bin .mul (.c (nI (10))) (t59)),
 oP kk61 (.bin .add (t57) (t60)),
 oP kk62 (.idxArr 10 1 (t4) (.c (nI (3)))),
 oP kk63 (.load 1 false (t62)),
 oP kk64 (.bin .add (t61) (t63)),
 oP kk65 (.idxArr 10 1 (t4) (.c (nI (5)))),
 oP kk66 (.load 1 false (t65)),
 oP kk67 (.bin .mul (.c (nI (10))) (t66)),
 oP kk68 (.idxArr 10 1 (t4) (.c (nI (6)))),
 oP kk69 (.load 1 false (t68)),
 oP kk70 (.bin .add (t67) (t69)),
 oP kk71 (.idxArr 10 1 (t4) (.c (nI (8)))),
 oP kk72 (.load 1 false (t71)),
 oP kk73 (.bin .mul (.c (nI (10))) (t72)),
 oP kk74 (.idxArr 10 1 (t4) (.c (nI (9)))),
 oP kk75 (.load 1 false (t74)),
 oP kk76 (.bin .add (t73) (t75)),
 oP kk77 (.call 222 [(t64), (t70), (t76)]),
 oM kk50 kk77,
 oP kk78 (.extr (t50) 0),
 oP kk79 (.extr (t50) 1),
 oM kk6 kk78,
 oM kk7 kk79])
 (.seq (.seq (cR [ oM kk80 kk7,
 oP kk81 (.un .not (t80))])
 (.cond (t81)
 (.seq (cR [ oC kk2 (nI 0),
 oC kk3 (nI 10)])
 .ret)
 .skip))
 (.seq (cR [ oM kk82 kk6,
 oM kk2 kk82,
 oC kk3 (nI 0)])
 .ret)))))))) }
theorem fn187 : fnOf Tryz.prog Tryz.f187 = some i187 := by kernel_rfl
noncomputable def i188 : IFn := { nt := 20, ps := [kk0], res := [.tmp kk2], body :=
 (.seq (cR [ oC kk2 (.int .u64 (.ofNat 0))])
 (.seq (cR [ oC kk3 (.int .u64 (.ofNat 0))])
 (.seq (.seq (cR [ oC kk4 (nI 0)])
 (.block 0 (.loop (.seq (.seq (cR [ oM kk5 kk4,
 oM kk6 kk0,
 oP kk7 (.lenS (t6)),
 oP kk8 (.bin .lss (t5) (t7))])
 (.cond (t8)
 .skip
 (.exit 0)))
 (.seq (.block 1 (cR [ oM kk11 kk3,
 oP kk12 (.bin .mul (t11) (.c (.int .u64 (.ofNat 10)))),
 oM kk13 kk0,
 oM kk14 kk4,
 oP kk15 (.idxStr (t13) (t14)),
 oP kk16 (.bin .sub (t15) (.c (.int .u8 (.ofNat 48)))),
 oP kk17 (.conv .u64 (t16)),
 oP kk18 (.bin .add (t12) (t17)),
 oM kk3 kk18]))
 (cR [ oM kk9 kk4,
 oP kk10 (.bin .add (t9) (.c (nI (1)))),
 oM kk4 kk10]))))))
 (.seq (cR [ oM kk19 kk3,
 oM kk2 kk19])
 .ret)))) }
theorem fn188 : fnOf Tryz.prog Tryz.f188 = some i188 := by kernel_rfl
noncomputable def i189 : IFn := { nt := 8, ps := [kk0, kk1], res := [.tmp kk4], body :=
 (.seq (cR [ oC kk4 (.str 0 0)])
 (.seq (cR [ oM kk5 kk0,
 oM kk6 kk1,
 oP kk7 (.call 223 [(t5), (t6)]),
 oM kk4 kk7])
 .ret)) }
theorem fn189 : fnOf Tryz.prog Tryz.f189 = some i189 := by kernel_rfl
noncomputable def i190 : IFn := { nt := 7, ps := [kk0, kk1], res := [], body :=
 (cR [ oM kk4 kk0,
 oM kk5 kk1,
 oP kk6 (.call 155 [(t4), (.c (nI (4))), (t5)])]) }
theorem fn190 : fnOf Tryz.prog Tryz.f190 = some i190 := by kernel_rfl
noncomputable def i191 : IFn := { nt := 28, ps := [kk0], res := [.tmp kk2], body :=
 (.seq (cR [ oP kk1 (.box 50 2 16 (t0)),
 oC kk2 (.str 0 0)])
 (.seq (.seq (cR [ oP kk3 (.offs (t1) 0),
 oP kk4 (.load 1 false (t3)),
 oP kk5 (.bin .lss (t4) (.c (nI (0)))),
 oM kk6 kk5,
 oX kk7 kk6 false (.offs (t1) 0),
 oX kk8 kk6 false (.load 1 false (t7)),
 oX kk9 kk6 false (.offs (t1) 1),
 oX kk10 kk6 false (.load 1 false (t9)),
 oX kk11 kk6 false (.bin .geq (t8) (t10)),
 oP kk12 (.pick (t6) (.c (.bool true)) (t11)),
 oM kk13 kk12,
 oX kk14 kk13 false (.offs (t1) 1),
 oX kk15 kk13 false (.load 1 false (t14)),
 oX kk16 kk13 false (.bin .gtr (t15) (.c (nI (1000000)))),
 oP kk17 (.pick (t13) (.c (.bool true)) (t16))])
 (.cond (t17)
 (.seq (cR [ oC kk2 (.str 0 0)])
 .ret)
 .skip))
 (.seq (cD [ oP kk18 (.offs (t1) 0),
 oQ kk19 [] (.load 1 false (t18)),
 oQ kk20 [] (.call 193 [(t19)]),
 oP kk21 (.bin .add (.c (.str 1 91)) (t20)),
 oP kk22 (.bin .add (t21) (.c (.str 2 8236))),
 oP kk23 (.offs (t1) 1),
 oQ kk24 [0, 1] (.load 1 false (t23)),
 oQ kk25 [] (.call 193 [(t24)]),
 oP kk26 (.bin .add (t22) (t25)),
 oP kk27 (.bin .add (t26) (.c (.str 1 41))),
 oM kk2 kk27])
 .ret))) }
theorem fn191 : fnOf Tryz.prog Tryz.f191 = some i191 := by kernel_rfl
noncomputable def i192 : IFn := { nt := 35, ps := [kk0], res := [.cell kk2 5 true], body :=
 (.seq (cR [ oP kk2 (.boxz 291 5 48 [(nI (0)), (nI (0)), (nI (0)), (nI (0)), (.str 0 0)])])
 (.seq (.seq (cR [ oM kk3 kk0])
 (.block 0 (.seq (cR [ oP kk5 (.bin .eql (t3) (.c (nI (10)))),
 oM kk4 kk5])
 (.cond (t4)
 (.seq (cR [ oP kk6 (.build [(nI (0)), (nI (0)), (nI (0)), (nI (0)), (.str 0 0)] [(0, 1, (.c (nI (1)))), (1, 1, (.c (nI (1)))), (2, 1, (.c (nI (2)))), (3, 1, (.c (nI (1)))), (4, 1, (.c (.str 2 21071)))]),
 oN (.store 5 (t2) (t6))])
 .ret)
 (.seq (cR [ oP kk8 (.bin .eql (t3) (.c (nI (9)))),
 oM kk7 kk8])
 (.cond (t7)
 (.seq (cR [ oP kk9 (.build [(nI (0)), (nI (0)), (nI (0)), (nI (0)), (.str 0 0)] [(0, 1, (.c (nI (2)))), (1, 1, (.c (nI (2)))), (2, 1, (.c (nI (3)))), (3, 1, (.c (nI (1)))), (4, 1, (.c (.str 3 4476481)))]),
 oN (.store 5 (t2) (t9))])
 .ret)
 (.seq (cR [ oP kk11 (.bin .eql (t3) (.c (nI (11)))),
 oM kk10 kk11])
 (.cond (t10)
 (.seq (cR [ oP kk12 (.build [(nI (0)), (nI (0)), (nI (0)), (nI (0)), (.str 0 0)] [(0, 1, (.c (nI (3)))), (1, 1, (.c (nI (3))))]),
 oN (.store 5 (t2) (t12))])
 .ret)
 (.seq (cR [ oP kk14 (.bin .eql (t3) (.c (nI (6)))),
 oM kk13 kk14])
 (.cond (t13)
 (.seq (cR [ oP kk15 (.build [(nI (0)), (nI (0)), (nI (0)), (nI (0)), (.str 0 0)] [(0, 1, (.c (nI (4)))), (1, 1, (.c (nI (5)))), (2, 1, (.c (nI (5)))), (3, 1, (.c (nI (5)))), (4, 1, (.c (.str 1 61)))]),
 oN (.store 5 (t2) (t15))])
 .ret)
 (.seq (cR [ oP kk17 (.bin .eql (t3) (.c (nI (7)))),
 oM kk16 kk17])
 (.cond (t16)
 (.seq (cR [ oP kk18 (.build [(nI (0)), (nI (0)), (nI (0)), (nI (0)), (.str 0 0)] [(0, 1, (.c (nI (4)))), (1, 1, (.c (nI (5)))), (2, 1, (.c (nI (5)))), (3, 1, (.c (nI (5)))), (4, 1, (.c (.str 1 60)))]),
 oN (.store 5 (t2) (t18))])
 .ret)
 (.seq (cR [ oP kk20 (.bin .eql (t3) (.c (nI (8)))),
 oM kk19 kk20])
 (.cond (t19)
 (.seq (cR [ oP kk21 (.build [(nI (0)), (nI (0)), (nI (0)), (nI (0)), (.str 0 0)] [(0, 1, (.c (nI (4)))), (1, 1, (.c (nI (5)))), (2, 1, (.c (nI (5)))), (3, 1, (.c (nI (5)))), (4, 1, (.c (.str 1 62)))]),
 oN (.store 5 (t2) (t21))])
 .ret)
 (.seq (cR [ oP kk23 (.bin .eql (t3) (.c (nI (12)))),
 oM kk22 kk23])
 (.cond (t22)
 (.seq (cR [ oP kk24 (.build [(nI (0)), (nI (0)), (nI (0)), (nI (0)), (.str 0 0)] [(0, 1, (.c (nI (4)))), (1, 1, (.c (nI (5))))]),
 oN (.store 5 (t2) (t24))])
 .ret)
 (.seq (cR [ oP kk26 (.bin .eql (t3) (.c (nI (3)))),
 oM kk25 kk26])
 (.cond (t25)
 (.seq (cR [ oP kk27 (.build [(nI (0)), (nI (0)), (nI (0)), (nI (0)), (.str 0 0)] [(0, 1, (.c (nI (5)))), (1, 1, (.c (nI (5)))), (2, 1, (.c (nI (6)))), (3, 1, (.c (nI (5)))), (4, 1, (.c (.str 1 43)))]),
 oN (.store 5 (t2) (t27))])
 .ret)
 (.seq (cR [ oP kk29 (.bin .eql (t3) (.c (nI (4)))),
 oM kk28 kk29])
 (.cond (t28)
 (.seq (cR [ oP kk30 (.build [(nI (0)), (nI (0)), (nI (0)), (nI (0)), (.str 0 0)] [(0, 1, (.c (nI (5)))), (1, 1, (.c (nI (5)))), (2, 1, (.c (nI (6)))), (3, 1, (.c (nI (5)))), (4, 1, (.c (.str 1 45)))]),
 oN (.store 5 (t2) (t30))])
 .ret)
 (.seq (cR [ oP kk32 (.bin .eql (t3) (.c (nI (5)))),
 oM kk31 kk32])
 (.cond (t31)
 (.seq (cR [ oP kk33 (.build [(nI (0)), (nI (0)), (nI (0)), (nI (0)), (.str 0 0)] [(0, 1, (.c (nI (6)))), (1, 1, (.c (nI (6)))), (2, 1, (.c (nI (7)))), (3, 1, (.c (nI (5)))), (4, 1, (.c (.str 1 42)))]),
 oN (.store 5 (t2) (t33))])
 .ret)
 .skip))))))))))))))))))))))
 (.seq (cR [ oP kk34 (.build [(nI (0)), (nI (0)), (nI (0)), (nI (0)), (.str 0 0)] [(0, 1, (.c (nI (7))))]),
 oN (.store 5 (t2) (t34))])
 .ret))) }
theorem fn192 : fnOf Tryz.prog Tryz.f192 = some i192 := by kernel_rfl
noncomputable def i193 : IFn := { nt := 28, ps := [kk0], res := [.tmp kk2], body :=
 (.seq (cR [ oC kk2 (.str 0 0)])
 (.seq (.seq (cR [ oM kk7 kk0,
 oP kk8 (.bin .eql (t7) (.c (nI (1000000))))])
 (.cond (t8)
 (.seq (cR [ oC kk2 (.str 7 32199706527559526)])
 .ret)
 .skip))
 (.seq (cR [ oM kk10 kk0,
 oP kk11 (.call 224 [(t10)]),
 oM kk9 kk11,
 oP kk12 (.extr (t9) 0),
 oP kk13 (.extr (t9) 1),
 oP kk14 (.extr (t9) 2),
 oP kk15 (.extr (t9) 3),
 oM kk3 kk12,
 oM kk4 kk13,
 oM kk5 kk14,
 oM kk6 kk15])
 (.seq (.seq (cR [ oM kk16 kk6,
 oP kk17 (.un .not (t16))])
 (.cond (t17)
 (.seq (cR [ oC kk2 (.str 0 0)])
 .ret)
 .skip))
 (.seq (cR [ oM kk18 kk3,
 oP kk19 (.call 225 [(t18), (.c (nI (4)))]),
 oP kk20 (.bin .add (t19) (.c (.str 1 45))),
 oM kk21 kk4,
 oP kk22 (.call 225 [(t21), (.c (nI (2)))]),
 oP kk23 (.bin .add (t20) (t22)),
 oP kk24 (.bin .add (t23) (.c (.str 1 45))),
 oM kk25 kk5,
 oP kk26 (.call 225 [(t25), (.c (nI (2)))]),
 oP kk27 (.bin .add (t24) (t26)),
 oM kk2 kk27])
 .ret))))) }
theorem fn193 : fnOf Tryz.prog Tryz.f193 = some i193 := by kernel_rfl
noncomputable def i194 : IFn := { nt := 5, ps := [kk0], res := [.tmp kk2], body :=
 (.seq (cR [ oC kk2 (.str 0 0)])
 (.seq (cR [ oM kk3 kk0,
 oP kk4 (.call 226 [(t3)]),
 oM kk2 kk4])
 .ret)) }
theorem fn194 : fnOf Tryz.prog Tryz.f194 = some i194 := by kernel_rfl
noncomputable def i195 : IFn := { nt := 40, ps := [kk0], res := [.cell kk2 21 true], body :=
 (.seq (cR [ oP kk2 (.boxz 57 21 328 [(nI (0)), (nI (0)), (nI (0)), (nI (0)), .nilslice, .nilslice, (.str 0 0), (.str 0 0), .nilslice, (nI (0)), (nI (0)), .nilslice, (nI (0)), .nilslice, .nilslice, .nilslice, .nilslice, .nilslice, (nI (0)), (nI (0)), (nI (0))])])
 (.seq (cR [ oM kk4 kk0,
 oP kk5 (.buildSl 9 1 16 1 [(.str 0 0)] [(0, (.c (.str 4 1330925129)))]),
 oP kk6 (.call 169 [(t4), (t5)])])
 (.seq (cR [ oM kk7 kk0,
 oP kk8 (.call 227 [(t7)]),
 oP kk9 (.build [(nI (0)), (nI (0)), (nI (0)), (nI (0)), .nilslice, .nilslice, (.str 0 0), (.str 0 0), .nilslice, (nI (0)), (nI (0)), .nilslice, (nI (0)), .nilslice, .nilslice, .nilslice, .nilslice, .nilslice, (nI (0)), (nI (0)), (nI (0))] [(0, 1, (.c (nI (2)))), (6, 1, (t8))]),
 oP kk3 (.boxz 57 21 328 [(nI (0)), (nI (0)), (nI (0)), (nI (0)), .nilslice, .nilslice, (.str 0 0), (.str 0 0), .nilslice, (nI (0)), (nI (0)), .nilslice, (nI (0)), .nilslice, .nilslice, .nilslice, .nilslice, .nilslice, (nI (0)), (nI (0)), (nI (0))]),
 oN (.store 21 (t3) (t9))])
 (.seq (cR [ oM kk10 kk0,
 oP kk11 (.buildSl 9 1 16 1 [(.str 0 0)] [(0, (.c (.str 6 91557248909654)))]),
 oP kk12 (.call 169 [(t10), (t11)])])
 (.seq (cR [ oM kk13 kk0,
 oP kk14 (.call 228 [(t13), (.c (.str 1 40))])])
 (.seq (cD [ oP kk15 (.offs (t3) 8),
 oQ kk16 [] (.load 1 false (t15)),
 oM kk17 kk0,
 oQ kk18 [0] (.call 229 [(t17)]),
 oQ kk19 [1] (.buildSl 153 3 32 1 [(nI (0)), (nI (0)), (.str 0 0)] [(0, (t18))]),
 oQ kk20 [] (.app 153 3 32 (t16) (t19)),
 oP kk21 (.offs (t3) 8),
 ⟨none, none, some [], .store 1 (t21) (t20)⟩])
 (.seq (.block 0 (.loop (.seq (.seq (cR [ oM kk22 kk0,
 oP kk23 (.call 208 [(t22), (.c (.str 1 44))])])
 (.cond (t23)
 .skip
 (.exit 0)))
 (.block 1 (cD [ oP kk24 (.offs (t3) 8),
 oQ kk25 [] (.load 1 false (t24)),
 oM kk26 kk0,
 oQ kk27 [0] (.call 229 [(t26)]),
 oQ kk28 [1] (.buildSl 153 3 32 1 [(nI (0)), (nI (0)), (.str 0 0)] [(0, (t27))]),
 oQ kk29 [] (.app 153 3 32 (t25) (t28)),
 oP kk30 (.offs (t3) 8),
 ⟨none, none, some [], .store 1 (t30) (t29)⟩])))))
 (.seq (cR [ oM kk31 kk0,
 oP kk32 (.call 228 [(t31), (.c (.str 1 41))])])
 (.seq (cR [ oM kk33 kk0,
 oP kk34 (.buildSl 9 1 16 1 [(.str 0 0)] [(0, (.c (.str 3 5394246)))]),
 oP kk35 (.call 169 [(t33), (t34)])])
 (.seq (cR [ oM kk36 kk0,
 oP kk37 (.call 230 [(t36)]),
 oP kk38 (.offs (t3) 9),
 oN (.store 2 (t38) (t37))])
 (.seq (cR [ oP kk39 (.load 21 true (t3)),
 oN (.store 21 (t2) (t39))])
 .ret))))))))))) }
theorem fn195 : fnOf Tryz.prog Tryz.f195 = some i195 := by kernel_rfl
noncomputable def i196 : IFn := { nt := 25, ps := [kk0], res := [.cell kk2 21 true], body :=
 (.seq (cR [ oP kk2 (.boxz 57 21 328 [(nI (0)), (nI (0)), (nI (0)), (nI (0)), .nilslice, .nilslice, (.str 0 0), (.str 0 0), .nilslice, (nI (0)), (nI (0)), .nilslice, (nI (0)), .nilslice, .nilslice, .nilslice, .nilslice, .nilslice, (nI (0)), (nI (0)), (nI (0))])])
 (.seq (cR [ oM kk4 kk0,
 oP kk5 (.buildSl 9 1 16 1 [(.str 0 0)] [(0, (.c (.str 4 1297044038)))]),
 oP kk6 (.call 169 [(t4), (t5)])])
 (.seq (cR [ oM kk7 kk0,
 oP kk8 (.call 227 [(t7)]),
 oP kk9 (.build [(nI (0)), (nI (0)), (nI (0)), (nI (0)), .nilslice, .nilslice, (.str 0 0), (.str 0 0), .nilslice, (nI (0)), (nI (0)), .nilslice, (nI (0)), .nilslice, .nilslice, .nilslice, .nilslice, .nilslice, (nI (0)), (nI (0)), (nI (0))] [(0, 1, (.c (nI (3)))), (6, 1, (t8))]),
 oP kk3 (.boxz 57 21 328 [(nI (0)), (nI (0)), (nI (0)), (nI (0)), .nilslice, .nilslice, (.str 0 0), (.str 0 0), .nilslice, (nI (0)), (nI (0)), .nilslice, (nI (0)), .nilslice, .nilslice, .nilslice, .nilslice, .nilslice, (nI (0)), (nI (0)), (nI (0))]),
 oN (.store 21 (t3) (t9))])
 (.seq (cR [ oM kk10 kk0,
 oP kk11 (.buildSl 9 1 16 3 [(.str 0 0)] [(0, (.c (.str 3 5394246))), (1, (.c (.str 7 22042224549318480))), (2, (.c (.str 2 17999)))]),
 oP kk12 (.call 169 [(t10), (t11)])])
 (.seq (cR [ oM kk13 kk0,
 oP kk14 (.call 230 [(t13)]),
 oP kk15 (.offs (t3) 9),
 oN (.store 2 (t15) (t14))])
 (.seq (cR [ oM kk16 kk0,
 oP kk17 (.call 211 [(t16)]),
 oP kk18 (.offs (t3) 12),
 oN (.store 1 (t18) (t17))])
 (.seq (cR [ oM kk19 kk0,
 oP kk20 (.nilck (t19)),
 oP kk21 (.offs (t20) 5),
 oP kk22 (.load 1 false (t21)),
 oP kk23 (.offs (t3) 11),
 oN (.store 1 (t23) (t22))])
 (.seq (cR [ oP kk24 (.load 21 true (t3)),
 oN (.store 21 (t2) (t24))])
 .ret)))))))) }
theorem fn196 : fnOf Tryz.prog Tryz.f196 = some i196 := by kernel_rfl
noncomputable def i197 : IFn := { nt := 41, ps := [kk0], res := [.cell kk2 21 true], body :=
 (.seq (cR [ oP kk2 (.boxz 57 21 328 [(nI (0)), (nI (0)), (nI (0)), (nI (0)), .nilslice, .nilslice, (.str 0 0), (.str 0 0), .nilslice, (nI (0)), (nI (0)), .nilslice, (nI (0)), .nilslice, .nilslice, .nilslice, .nilslice, .nilslice, (nI (0)), (nI (0)), (nI (0))])])
 (.seq (cR [ oM kk4 kk0,
 oP kk5 (.call 227 [(t4)]),
 oP kk6 (.build [(nI (0)), (nI (0)), (nI (0)), (nI (0)), .nilslice, .nilslice, (.str 0 0), (.str 0 0), .nilslice, (nI (0)), (nI (0)), .nilslice, (nI (0)), .nilslice, .nilslice, .nilslice, .nilslice, .nilslice, (nI (0)), (nI (0)), (nI (0))] [(0, 1, (.c (nI (4)))), (6, 1, (t5))]),
 oP kk3 (.boxz 57 21 328 [(nI (0)), (nI (0)), (nI (0)), (nI (0)), .nilslice, .nilslice, (.str 0 0), (.str 0 0), .nilslice, (nI (0)), (nI (0)), .nilslice, (nI (0)), .nilslice, .nilslice, .nilslice, .nilslice, .nilslice, (nI (0)), (nI (0)), (nI (0))]),
 oN (.store 21 (t3) (t6))])
 (.seq (cR [ oM kk7 kk0,
 oP kk8 (.buildSl 9 1 16 3 [(.str 0 0)] [(0, (.c (.str 3 5394246))), (1, (.c (.str 7 22042224549318480))), (2, (.c (.str 2 17999)))]),
 oP kk9 (.call 169 [(t7), (t8)])])
 (.seq (cR [ oM kk10 kk0,
 oP kk11 (.call 230 [(t10)]),
 oP kk12 (.offs (t3) 9),
 oN (.store 2 (t12) (t11))])
 (.seq (cR [ oM kk13 kk0,
 oP kk14 (.buildSl 9 1 16 1 [(.str 0 0)] [(0, (.c (.str 3 5522771)))]),
 oP kk15 (.call 169 [(t13), (t14)])])
 (.seq (cD [ oP kk16 (.offs (t3) 13),
 oQ kk17 [] (.load 1 false (t16)),
 oM kk18 kk0,
 oQ kk19 [0] (.call 231 [(t18)]),
 oQ kk20 [1] (.buildSl 239 2 24 1 [(.str 0 0), (nI (0))] [(0, (t19))]),
 oQ kk21 [] (.app 239 2 24 (t17) (t20)),
 oP kk22 (.offs (t3) 13),
 ⟨none, none, some [], .store 1 (t22) (t21)⟩])
 (.seq (.block 0 (.loop (.seq (.seq (cR [ oM kk23 kk0,
 oP kk24 (.call 208 [(t23), (.c (.str 1 44))])])
 (.cond (t24)
 .skip
 (.exit 0)))
 (.block 1 (cD [ oP kk25 (.offs (t3) 13),
 oQ kk26 [] (.load 1 false (t25)),
 oM kk27 kk0,
 oQ kk28 [0] (.call 231 [(t27)]),
 oQ kk29 [1] (.buildSl 239 2 24 1 [(.str 0 0), (nI (0))] [(0, (t28))]),
 oQ kk30 [] (.app 239 2 24 (t26) (t29)),
 oP kk31 (.offs (t3) 13),
 ⟨none, none, some [], .store 1 (t31) (t30)⟩])))))
 (.seq (cR [ oM kk32 kk0,
 oP kk33 (.call 211 [(t32)]),
 oP kk34 (.offs (t3) 12),
 oN (.store 1 (t34) (t33))])
 (.seq (cR [ oM kk35 kk0,
 oP kk36 (.nilck (t35)),
 oP kk37 (.offs (t36) 5),
 oP kk38 (.load 1 false (t37)),
 oP kk39 (.offs (t3) 11),
 oN (.store 1 (t39) (t38))])
 (.seq (cR [ oP kk40 (.load 21 true (t3)),
 oN (.store 21 (t2) (t40))])
 .ret)))))))))) }
theorem fn197 : fnOf Tryz.prog Tryz.f197 = some i197 := by kernel_rfl
noncomputable def i198 : IFn := { nt := 79, ps := [kk0], res := [.cell kk2 21 true], body :=
 (.seq (cR [ oP kk2 (.boxz 57 21 328 [(nI (0)), (nI (0)), (nI (0)), (nI (0)), .nilslice, .nilslice, (.str 0 0), (.str 0 0), .nilslice, (nI (0)), (nI (0)), .nilslice, (nI (0)), .nilslice, .nilslice, .nilslice, .nilslice, .nilslice, (nI (0)), (nI (0)), (nI (0))])])
 (.seq (cR [ oM kk5 kk0,
 oP kk6 (.buildSl 9 1 16 1 [(.str 0 0)] [(0, (.c (.str 5 297632153940)))]),
 oP kk7 (.call 169 [(t5), (t6)])])
 (.seq (cR [ oM kk8 kk0,
 oP kk9 (.call 227 [(t8)]),
 oP kk10 (.build [(nI (0)), (nI (0)), (nI (0)), (nI (0)), .nilslice, .nilslice, (.str 0 0), (.str 0 0), .nilslice, (nI (0)), (nI (0)), .nilslice, (nI (0)), .nilslice, .nilslice, .nilslice, .nilslice, .nilslice, (nI (0)), (nI (0)), (nI (0))] [(0, 1, (.c (nI (5)))), (6, 1, (t9))]),
 oP kk3 (.boxz 57 21 328 [(nI (0)), (nI (0)), (nI (0)), (nI (0)), .nilslice, .nilslice, (.str 0 0), (.str 0 0), .nilslice, (nI (0)), (nI (0)), .nilslice, (nI (0)), .nilslice, .nilslice, .nilslice, .nilslice, .nilslice, (nI (0)), (nI (0)), (nI (0))]),
 oN (.store 21 (t3) (t10))])
 (.seq (cR [ oM kk11 kk0,
 oP kk12 (.call 228 [(t11), (.c (.str 1 40))])])
 (.seq (cD [ oP kk13 (.offs (t3) 14),
 oQ kk14 [] (.load 1 false (t13)),
 oM kk15 kk0,
 oQ kk16 [0] (.call 232 [(t15)]),
 oQ kk17 [1] (.buildSl 62 3 32 1 [(nI (0)), (.str 0 0), (nI (0))] [(0, (t16))]),
 oQ kk18 [] (.app 62 3 32 (t14) (t17)),
 oP kk19 (.offs (t3) 14),
 ⟨none, none, some [], .store 1 (t19) (t18)⟩])
 (.seq (.block 0 (.loop (.seq (.seq (cR [ oM kk20 kk0,
 oP kk21 (.call 208 [(t20), (.c (.str 1 44))])])
 (.cond (t21)
 .skip
 (.exit 0)))
 (.block 1 (cD [ oP kk22 (.offs (t3) 14),
 oQ kk23 [] (.load 1 false (t22)),
 oM kk24 kk0,
 oQ kk25 [0] (.call 232 [(t24)]),
 oQ kk26 [1] (.buildSl 62 3 32 1 [(nI (0)), (.str 0 0), (nI (0))] [(0, (t25))]),
 oQ kk27 [] (.app 62 3 32 (t23) (t26)),
 oP kk28 (.offs (t3) 14),
 ⟨none, none, some [], .store 1 (t28) (t27)⟩])))))
 (.seq (cR [ oM kk29 kk0,
 oP kk30 (.call 228 [(t29), (.c (.str 1 41))])])
 (.seq (.seq (cR [ oM kk31 kk0,
 oP kk32 (.call 168 [(t31), (.c (.str 3 5850443))])])
 (.cond (t32)
 (cR [ oM kk33 kk0,
 oP kk34 (.call 233 [(t33)]),
 oP kk35 (.offs (t3) 15),
 oN (.store 1 (t35) (t34))])
 .skip))
 (.seq (.block 2 (.loop (.seq (.seq (cR [ oM kk36 kk0,
 oP kk37 (.call 168 [(t36), (.c (.str 10 393234093309334888269138))])])
 (.cond (t37)
 .skip
 (.exit 2)))
 (.block 3 (.seq (cR [ oM kk38 kk0,
 oP kk39 (.call 233 [(t38)]),
 oP kk40 (.build [.nilslice, (.str 0 0), .nilslice] [(0, 1, (t39))]),
 oP kk4 (.boxz 177 3 64 [.nilslice, (.str 0 0), .nilslice]),
 oN (.store 3 (t4) (t40))])
 (.seq (cR [ oM kk41 kk0,
 oP kk42 (.buildSl 9 1 16 1 [(.str 0 0)] [(0, (.c (.str 2 20041)))]),
 oP kk43 (.call 169 [(t41), (t42)])])
 (.seq (cR [ oM kk44 kk0,
 oP kk45 (.call 227 [(t44)]),
 oP kk46 (.offs (t4) 1),
 oN (.store 1 (t46) (t45))])
 (.seq (cR [ oM kk47 kk0,
 oP kk48 (.call 233 [(t47)]),
 oP kk49 (.offs (t4) 2),
 oN (.store 1 (t49) (t48))])
 (cR [ oP kk50 (.offs (t3) 16),
 oP kk51 (.load 1 false (t50)),
 oP kk52 (.load 3 true (t4)),
 oP kk53 (.buildSl 177 3 64 1 [.nilslice, (.str 0 0), .nilslice] [(0, (t52))]),
 oP kk54 (.app 177 3 64 (t51) (t53)),
 oP kk55 (.offs (t3) 16),
 oN (.store 1 (t55) (t54))])))))))))
 (.block 4 (.loop (.block 5 (.block 6 (.seq (cR [ oM kk58 kk0,
 oP kk59 (.call 168 [(t58), (.c (.str 5 344692576078))]),
 oM kk57 kk59])
 (.cond (t57)
 (cD [ oP kk60 (.offs (t3) 17),
 oQ kk61 [] (.load 1 false (t60)),
 oM kk62 kk0,
 oQ kk63 [0] (.call 233 [(t62)]),
 oP kk64 (.build [(nI (0)), .nilslice] [(0, 1, (.c (nI (1)))), (1, 1, (t63))]),
 oQ kk65 [1] (.buildSl 179 2 32 1 [(nI (0)), .nilslice] [(0, (t64))]),
 oQ kk66 [] (.app 179 2 32 (t61) (t65)),
 oP kk67 (.offs (t3) 17),
 ⟨none, none, some [], .store 1 (t67) (t66)⟩])
 (.seq (cR [ oM kk69 kk0,
 oP kk70 (.call 168 [(t69), (.c (.str 9 1480444752065213714254))]),
 oM kk68 kk70])
 (.cond (t68)
 (cD [ oP kk71 (.offs (t3) 17),
 oQ kk72 [] (.load 1 false (t71)),
 oM kk73 kk0,
 oQ kk74 [0] (.call 233 [(t73)]),
 oP kk75 (.build [(nI (0)), .nilslice] [(0, 1, (.c (nI (2)))), (1, 1, (t74))]),
 oQ kk76 [1] (.buildSl 179 2 32 1 [(nI (0)), .nilslice] [(0, (t75))]),
 oQ kk77 [] (.app 179 2 32 (t72) (t76)),
 oP kk78 (.offs (t3) 17),
 ⟨none, none, some [], .store 1 (t78) (t77)⟩])
 (.seq (cR [ oP kk56 (.load 21 true (t3)),
 oN (.store 21 (t2) (t56))])
 .ret)))))))))))))))))) }
theorem fn198 : fnOf Tryz.prog Tryz.f198 = some i198 := by kernel_rfl
noncomputable def i199 : IFn := { nt := 27, ps := [kk0], res := [.cell kk2 21 true], body :=
 (.seq (cR [ oP kk2 (.boxz 57 21 328 [(nI (0)), (nI (0)), (nI (0)), (nI (0)), .nilslice, .nilslice, (.str 0 0), (.str 0 0), .nilslice, (nI (0)), (nI (0)), .nilslice, (nI (0)), .nilslice, .nilslice, .nilslice, .nilslice, .nilslice, (nI (0)), (nI (0)), (nI (0))])])
 (.seq (cR [ oM kk4 kk0,
 oP kk5 (.buildSl 9 1 16 1 [(.str 0 0)] [(0, (.c (.str 5 297632153940)))]),
 oP kk6 (.call 169 [(t4), (t5)])])
 (.seq (cR [ oM kk7 kk0,
 oP kk8 (.call 227 [(t7)]),
 oM kk3 kk8])
 (.seq (.block 0 (.seq (cR [ oM kk10 kk0,
 oP kk11 (.call 168 [(t10), (.c (.str 3 4473921))]),
 oM kk9 kk11])
 (.cond (t9)
 (.seq (cR [ oM kk12 kk3,
 oM kk13 kk0,
 oP kk14 (.call 232 [(t13)]),
 oP kk15 (.buildSl 62 3 32 1 [(nI (0)), (.str 0 0), (nI (0))] [(0, (t14))]),
 oP kk16 (.build [(nI (0)), (nI (0)), (nI (0)), (nI (0)), .nilslice, .nilslice, (.str 0 0), (.str 0 0), .nilslice, (nI (0)), (nI (0)), .nilslice, (nI (0)), .nilslice, .nilslice, .nilslice, .nilslice, .nilslice, (nI (0)), (nI (0)), (nI (0))] [(0, 1, (.c (nI (6)))), (6, 1, (t12)), (14, 1, (t15))]),
 oN (.store 21 (t2) (t16))])
 .ret)
 (.seq (cR [ oM kk18 kk0,
 oP kk19 (.call 168 [(t18), (.c (.str 4 1347375684))]),
 oM kk17 kk19])
 (.cond (t17)
 (.seq (cR [ oM kk20 kk3,
 oM kk21 kk0,
 oP kk22 (.call 227 [(t21)]),
 oP kk23 (.build [(nI (0)), (nI (0)), (nI (0)), (nI (0)), .nilslice, .nilslice, (.str 0 0), (.str 0 0), .nilslice, (nI (0)), (nI (0)), .nilslice, (nI (0)), .nilslice, .nilslice, .nilslice, .nilslice, .nilslice, (nI (0)), (nI (0)), (nI (0))] [(0, 1, (.c (nI (7)))), (6, 1, (t20)), (7, 1, (t22))]),
 oN (.store 21 (t2) (t23))])
 .ret)
 .skip)))))
 (.seq (cR [ oM kk24 kk0,
 oP kk25 (.call 166 [(t24), (.c (nI (5)))])])
 (.seq (cR [ oP kk26 (.build [(nI (0)), (nI (0)), (nI (0)), (nI (0)), .nilslice, .nilslice, (.str 0 0), (.str 0 0), .nilslice, (nI (0)), (nI (0)), .nilslice, (nI (0)), .nilslice, .nilslice, .nilslice, .nilslice, .nilslice, (nI (0)), (nI (0)), (nI (0))] []),
 oN (.store 21 (t2) (t26))])
 .ret)))))) }
theorem fn199 : fnOf Tryz.prog Tryz.f199 = some i199 := by kernel_rfl
noncomputable def i200 : IFn := { nt := 17, ps := [kk0], res := [.cell kk2 21 true], body :=
 (.seq (cR [ oP kk2 (.boxz 57 21 328 [(nI (0)), (nI (0)), (nI (0)), (nI (0)), .nilslice, .nilslice, (.str 0 0), (.str 0 0), .nilslice, (nI (0)), (nI (0)), .nilslice, (nI (0)), .nilslice, .nilslice, .nilslice, .nilslice, .nilslice, (nI (0)), (nI (0)), (nI (0))])])
 (.seq (cR [ oM kk4 kk0,
 oP kk5 (.call 92 [(t4), (.c (.bool false))]),
 oP kk6 (.build [(nI (0)), (nI (0)), (nI (0)), (nI (0)), .nilslice, .nilslice, (.str 0 0), (.str 0 0), .nilslice, (nI (0)), (nI (0)), .nilslice, (nI (0)), .nilslice, .nilslice, .nilslice, .nilslice, .nilslice, (nI (0)), (nI (0)), (nI (0))] [(0, 1, (.c (nI (8)))), (4, 2, (t5))]),
 oP kk3 (.boxz 57 21 328 [(nI (0)), (nI (0)), (nI (0)), (nI (0)), .nilslice, .nilslice, (.str 0 0), (.str 0 0), .nilslice, (nI (0)), (nI (0)), .nilslice, (nI (0)), .nilslice, .nilslice, .nilslice, .nilslice, .nilslice, (nI (0)), (nI (0)), (nI (0))]),
 oN (.store 21 (t3) (t6))])
 (.seq (cR [ oM kk7 kk0,
 oP kk8 (.buildSl 9 1 16 2 [(.str 0 0)] [(0, (.c (.str 2 21569))), (1, (.c (.str 3 5849412)))]),
 oP kk9 (.call 169 [(t7), (t8)])])
 (.seq (cR [ oM kk10 kk0,
 oP kk11 (.call 234 [(t10)]),
 oP kk12 (.offs (t3) 2),
 oN (.store 1 (t12) (t11))])
 (.seq (cR [ oM kk13 kk0,
 oP kk14 (.call 235 [(t13)]),
 oP kk15 (.offs (t3) 3),
 oN (.store 1 (t15) (t14))])
 (.seq (cR [ oP kk16 (.load 21 true (t3)),
 oN (.store 21 (t2) (t16))])
 .ret)))))) }
theorem fn200 : fnOf Tryz.prog Tryz.f200 = some i200 := by kernel_rfl
noncomputable def i201 : IFn := { nt := 29, ps := [kk0], res := [.cell kk2 21 true], body :=
 (.seq (cR [ oP kk2 (.boxz 57 21 328 [(nI (0)), (nI (0)), (nI (0)), (nI (0)), .nilslice, .nilslice, (.str 0 0), (.str 0 0), .nilslice, (nI (0)), (nI (0)), .nilslice, (nI (0)), .nilslice, .nilslice, .nilslice, .nilslice, .nilslice, (nI (0)), (nI (0)), (nI (0))])])
 (.seq (cR [ oM kk4 kk0,
 oP kk5 (.call 202 [(t4), (.c (.int .i64 (.negSucc 0)))]),
 oP kk6 (.build [(nI (0)), (nI (0)), (nI (0)), (nI (0)), .nilslice, .nilslice, (.str 0 0), (.str 0 0), .nilslice, (nI (0)), (nI (0)), .nilslice, (nI (0)), .nilslice, .nilslice, .nilslice, .nilslice, .nilslice, (nI (0)), (nI (0)), (nI (0))] [(0, 1, (.c (nI (10)))), (18, 1, (t5))]),
 oP kk3 (.boxz 57 21 328 [(nI (0)), (nI (0)), (nI (0)), (nI (0)), .nilslice, .nilslice, (.str 0 0), (.str 0 0), .nilslice, (nI (0)), (nI (0)), .nilslice, (nI (0)), .nilslice, .nilslice, .nilslice, .nilslice, .nilslice, (nI (0)), (nI (0)), (nI (0))]),
 oN (.store 21 (t3) (t6))])
 (.seq (cR [ oM kk7 kk0,
 oP kk8 (.buildSl 9 1 16 1 [(.str 0 0)] [(0, (.c (.str 4 1297044038)))]),
 oP kk9 (.call 169 [(t7), (t8)])])
 (.seq (cR [ oM kk10 kk0,
 oP kk11 (.call 202 [(t10), (.c (.int .i64 (.negSucc 0)))]),
 oP kk12 (.offs (t3) 19),
 oP kk13 (.offs (t12) 0),
 oN (.store 1 (t13) (t11))])
 (.seq (cR [ oM kk14 kk0,
 oP kk15 (.buildSl 9 1 16 1 [(.str 0 0)] [(0, (.c (.str 2 20308)))]),
 oP kk16 (.call 169 [(t14), (t15)])])
 (.seq (.seq (cR [ oM kk17 kk0,
 oP kk18 (.call 168 [(t17), (.c (.str 5 327647776341))])])
 (.cond (t18)
 (cR [ oP kk19 (.offs (t3) 19),
 oP kk20 (.offs (t19) 1),
 oN (.store 1 (t20) (.c (nI (1099511627776))))])
 (cR [ oM kk21 kk0,
 oP kk22 (.offs (t3) 19),
 oP kk23 (.offs (t22) 0),
 oP kk24 (.load 1 false (t23)),
 oP kk25 (.call 202 [(t21), (t24)]),
 oP kk26 (.offs (t3) 19),
 oP kk27 (.offs (t26) 1),
 oN (.store 1 (t27) (t25))])))
 (.seq (cR [ oP kk28 (.load 21 true (t3)),
 oN (.store 21 (t2) (t28))])
 .ret))))))) }
theorem fn201 : fnOf Tryz.prog Tryz.f201 = some i201 := by kernel_rfl
noncomputable def i202 : IFn := { nt := 10, ps := [kk0, kk1], res := [.tmp kk4], body :=
 (.seq (cR [ oP kk3 (.box 3 1 8 (t1)),
 oC kk4 (nI 0)])
 (.seq (cR [ oP kk5 (.boxz 3 1 8 [(nI (0))]),
 oN (.store 1 (t5) (.c (nI (0))))])
 (.seq (cR [ oM kk6 kk0,
 oP kk7 (.mkfn 237 [] [(t3), (t5)]),
 oP kk8 (.call 236 [(t6), (.c (nI (3))), (t7)])])
 (.seq (cR [ oP kk9 (.load 1 false (t5)),
 oM kk4 kk9])
 .ret)))) }
theorem fn202 : fnOf Tryz.prog Tryz.f202 = some i202 := by kernel_rfl
noncomputable def i203 : IFn := { nt := 36, ps := [kk0], res := [.cell kk2 21 true], body :=
 (.seq (cR [ oP kk2 (.boxz 57 21 328 [(nI (0)), (nI (0)), (nI (0)), (nI (0)), .nilslice, .nilslice, (.str 0 0), (.str 0 0), .nilslice, (nI (0)), (nI (0)), .nilslice, (nI (0)), .nilslice, .nilslice, .nilslice, .nilslice, .nilslice, (nI (0)), (nI (0)), (nI (0))])])
 (.seq (cR [ oP kk4 (.build [(nI (0)), (nI (0)), (nI (0)), (nI (0)), .nilslice, .nilslice, (.str 0 0), (.str 0 0), .nilslice, (nI (0)), (nI (0)), .nilslice, (nI (0)), .nilslice, .nilslice, .nilslice, .nilslice, .nilslice, (nI (0)), (nI (0)), (nI (0))] [(0, 1, (.c (nI (1)))), (1, 1, (.c (nI (1)))), (2, 1, (.c (.int .i64 (.negSucc 0)))), (3, 1, (.c (nI (1099511627776))))]),
 oP kk3 (.boxz 57 21 328 [(nI (0)), (nI (0)), (nI (0)), (nI (0)), .nilslice, .nilslice, (.str 0 0), (.str 0 0), .nilslice, (nI (0)), (nI (0)), .nilslice, (nI (0)), .nilslice, .nilslice, .nilslice, .nilslice, .nilslice, (nI (0)), (nI (0)), (nI (0))]),
 oN (.store 21 (t3) (t4))])
 (.seq (.block 0 (.seq (cR [ oM kk6 kk0,
 oP kk7 (.call 168 [(t6), (.c (.str 9 1278394416152443634006))]),
 oM kk5 kk7])
 (.cond (t5)
 (cR [ oP kk8 (.offs (t3) 1),
 oN (.store 1 (t8) (.c (nI (2))))])
 (.seq (cR [ oM kk10 kk0,
 oP kk11 (.call 168 [(t10), (.c (.str 10 327268970535064275469650))]),
 oM kk9 kk11])
 (.cond (t9)
 (cR [ oP kk12 (.offs (t3) 1),
 oN (.store 1 (t12) (.c (nI (3))))])
 (.seq (cR [ oM kk14 kk0,
 oP kk15 (.call 168 [(t14), (.c (.str 8 4993728188163313474))]),
 oM kk13 kk15])
 (.cond (t13)
 (cR [ oP kk16 (.offs (t3) 1),
 oN (.store 1 (t16) (.c (nI (4))))])
 (.seq (cR [ oM kk18 kk0,
 oP kk19 (.call 168 [(t18), (.c (.str 12 21128714391801252821743849294))]),
 oM kk17 kk19])
 (.cond (t17)
 (cR [ oP kk20 (.offs (t3) 1),
 oN (.store 1 (t20) (.c (nI (5))))])
 .skip)))))))))
 (.seq (cR [ oM kk21 kk0,
 oP kk22 (.call 92 [(t21), (.c (.bool true))]),
 oP kk23 (.offs (t3) 4),
 oN (.store 2 (t23) (t22))])
 (.seq (.seq (cR [ oM kk24 kk0,
 oP kk25 (.call 168 [(t24), (.c (.str 2 21569))])])
 (.cond (t25)
 (.seq (cR [ oM kk26 kk0,
 oP kk27 (.buildSl 9 1 16 1 [(.str 0 0)] [(0, (.c (.str 3 5849412)))]),
 oP kk28 (.call 169 [(t26), (t27)])])
 (cR [ oM kk29 kk0,
 oP kk30 (.call 234 [(t29)]),
 oP kk31 (.offs (t3) 2),
 oN (.store 1 (t31) (t30))]))
 .skip))
 (.seq (cR [ oM kk32 kk0,
 oP kk33 (.call 235 [(t32)]),
 oP kk34 (.offs (t3) 3),
 oN (.store 1 (t34) (t33))])
 (.seq (cR [ oP kk35 (.load 21 true (t3)),
 oN (.store 21 (t2) (t35))])
 .ret))))))) }
theorem fn203 : fnOf Tryz.prog Tryz.f203 = some i203 := by kernel_rfl
noncomputable def i204 : IFn := { nt := 20, ps := [kk0, kk1], res := [.tmp kk4], body :=
 (.seq (cR [ oC kk4 .nilslice])
 (.seq (cR [ oM kk6 kk0,
 oM kk7 kk1,
 oP kk8 (.call 239 [(t6), (t7)]),
 oM kk1 kk8])
 (.seq (.block 0 (.loop (.seq (.seq (cR [ oM kk9 kk0,
 oP kk10 (.call 84 [(t9), (.c (.str 3 4476481))])])
 (.cond (t10)
 .skip
 (.exit 0)))
 (.block 1 (.seq (cR [ oM kk11 kk1,
 oP kk12 (.len (t11)),
 oP kk13 (.bin .sub (t12) (.c (nI (1)))),
 oM kk5 kk13])
 (cR [ oM kk14 kk0,
 oM kk15 kk1,
 oP kk16 (.call 239 [(t14), (t15)]),
 oM kk17 kk5,
 oP kk18 (.call 205 [(t16), (.c (nI (9))), (t17)]),
 oM kk1 kk18]))))))
 (.seq (cR [ oM kk19 kk1,
 oM kk4 kk19])
 .ret)))) }
theorem fn204 : fnOf Tryz.prog Tryz.f204 = some i204 := by kernel_rfl
noncomputable def i205 : IFn := { nt := 16, ps := [kk0, kk1, kk2], res := [.tmp kk6], body :=
 (.seq (cR [ oC kk6 .nilslice])
 (.seq (cR [ oM kk7 kk0,
 oM kk8 kk1,
 oM kk9 kk2,
 oM kk10 kk0,
 oP kk11 (.len (t10)),
 oP kk12 (.bin .sub (t11) (.c (nI (1)))),
 oP kk13 (.build [(nI (0)), (nI (0)), (nI (0)), (.str 0 0), (.str 0 0), (nI (0)), (nI (0)), (.str 0 0)] [(0, 1, (t8)), (1, 1, (t9)), (2, 1, (t12))]),
 oP kk14 (.buildSl 155 8 88 1 [(nI (0)), (nI (0)), (nI (0)), (.str 0 0), (.str 0 0), (nI (0)), (nI (0)), (.str 0 0)] [(0, (t13))]),
 oP kk15 (.app 155 8 88 (t7) (t14)),
 oM kk6 kk15])
 .ret)) }
theorem fn205 : fnOf Tryz.prog Tryz.f205 = some i205 := by kernel_rfl
noncomputable def i206 : IFn := { nt := 12, ps := [kk0, kk1], res := [], body :=
 (.seq (cR [ oM kk4 kk1,
 oP kk5 (.bin .neq (t4) (.c (.str 0 0)))])
 (.cond (t5)
 (.seq (cR [ oM kk6 kk0,
 oP kk7 (.buildSl 9 1 16 1 [(.str 0 0)] [(0, (.c (.str 2 21313)))]),
 oP kk8 (.call 87 [(t6), (t7)])])
 (cR [ oM kk9 kk0,
 oM kk10 kk1,
 oP kk11 (.call 123 [(t9), (t10)])]))
 .skip)) }
theorem fn206 : fnOf Tryz.prog Tryz.f206 = some i206 := by kernel_rfl
noncomputable def i207 : IFn := { nt := 8, ps := [kk0, kk1], res := [.tmp kk4], body :=
 (.seq (cR [ oC kk4 (nI 0)])
 (.seq (cR [ oM kk5 kk0,
 oM kk6 kk1,
 oP kk7 (.call 240 [(t5), (t6)]),
 oM kk4 kk7])
 .ret)) }
theorem fn207 : fnOf Tryz.prog Tryz.f207 = some i207 := by kernel_rfl
noncomputable def i208 : IFn := { nt := 8, ps := [kk0, kk1], res := [.tmp kk4], body :=
 (.seq (cR [ oC kk4 (.bool false)])
 (.seq (cR [ oM kk5 kk0,
 oM kk6 kk1,
 oP kk7 (.call 213 [(t5), (.c (nI (5))), (t6)]),
 oM kk4 kk7])
 .ret)) }
theorem fn208 : fnOf Tryz.prog Tryz.f208 = some i208 := by kernel_rfl
noncomputable def i209 : IFn := { nt := 50, ps := [kk0], res := [.cell kk2 3 true], body :=
 (.seq (cR [ oP kk2 (.boxz 159 3 32 [(nI (0)), (nI (0)), (.str 0 0)])])
 (.seq (cR [ oP kk4 (.build [(nI (0)), (nI (0)), (.str 0 0)] []),
 oP kk3 (.boxz 159 3 32 [(nI (0)), (nI (0)), (.str 0 0)]),
 oN (.store 3 (t3) (t4))])
 (.seq (.block 0 (.seq (cR [ oM kk9 kk0,
 oP kk10 (.call 168 [(t9), (.c (.str 5 362091466563))]),
 oM kk8 kk10])
 (.cond (t8)
 (.seq (cR [ oM kk11 kk0,
 oP kk12 (.call 228 [(t11), (.c (.str 1 40))])])
 (.seq (cR [ oM kk13 kk0,
 oP kk14 (.call 228 [(t13), (.c (.str 1 42))])])
 (.seq (cR [ oM kk15 kk0,
 oP kk16 (.call 228 [(t15), (.c (.str 1 41))])])
 (cR [ oP kk17 (.offs (t3) 0),
 oN (.store 1 (t17) (.c (nI (1)))),
 oP kk18 (.offs (t3) 1),
 oN (.store 1 (t18) (.c (.int .i64 (.negSucc 0))))]))))
 (.seq (cR [ oM kk20 kk0,
 oP kk21 (.call 168 [(t20), (.c (.str 3 5068115))]),
 oM kk19 kk21])
 (.cond (t19)
 (cR [ oP kk22 (.offs (t3) 0),
 oN (.store 1 (t22) (.c (nI (2))))])
 (.seq (cR [ oM kk24 kk0,
 oP kk25 (.call 168 [(t24), (.c (.str 3 5130573))]),
 oM kk23 kk25])
 (.cond (t23)
 (cR [ oP kk26 (.offs (t3) 0),
 oN (.store 1 (t26) (.c (nI (3))))])
 (.seq (cR [ oM kk28 kk0,
 oP kk29 (.call 168 [(t28), (.c (.str 3 5783885))]),
 oM kk27 kk29])
 (.cond (t27)
 (cR [ oP kk30 (.offs (t3) 0),
 oN (.store 1 (t30) (.c (nI (4))))])
 (cR [ oM kk5 kk0,
 oP kk6 (.call 241 [(t5)]),
 oP kk7 (.offs (t3) 1),
 oN (.store 1 (t7) (t6))]))))))))))
 (.seq (.seq (cR [ oP kk31 (.offs (t3) 0),
 oP kk32 (.load 1 false (t31)),
 oP kk33 (.bin .neq (t32) (.c (nI (0)))),
 oM kk34 kk33,
 oX kk35 kk34 true (.offs (t3) 0),
 oX kk36 kk34 true (.load 1 false (t35)),
 oX kk37 kk34 true (.bin .neq (t36) (.c (nI (1)))),
 oP kk38 (.pick (t34) (t37) (.c (.bool false)))])
 (.cond (t38)
 (.seq (cR [ oM kk39 kk0,
 oP kk40 (.call 228 [(t39), (.c (.str 1 40))])])
 (.seq (cR [ oM kk41 kk0,
 oP kk42 (.call 241 [(t41)]),
 oP kk43 (.offs (t3) 1),
 oN (.store 1 (t43) (t42))])
 (cR [ oM kk44 kk0,
 oP kk45 (.call 228 [(t44), (.c (.str 1 41))])])))
 .skip))
 (.seq (cR [ oM kk46 kk0,
 oP kk47 (.call 242 [(t46), (.c (.bool false))]),
 oP kk48 (.offs (t3) 2),
 oN (.store 1 (t48) (t47))])
 (.seq (cR [ oP kk49 (.load 3 true (t3)),
 oN (.store 3 (t2) (t49))])
 .ret)))))) }
theorem fn209 : fnOf Tryz.prog Tryz.f209 = some i209 := by kernel_rfl
noncomputable def i210 : IFn := { nt := 36, ps := [kk0, kk1], res := [.tmp kk4], body :=
 (.seq (cR [ oC kk4 .nilslice])
 (.seq (cR [ oM kk8 kk0,
 oM kk9 kk1,
 oP kk10 (.call 243 [(t8), (t9)]),
 oP kk11 (.buildSl 148 4 48 1 [(.bool false), (.str 0 0), (.str 0 0), (nI (0))] [(0, (t10))]),
 oM kk5 kk11])
 (.block 0 (.loop (.block 1 (.seq (cR [ oM kk12 kk0,
 oP kk13 (.call 168 [(t12), (.c (.str 4 1413891404))]),
 oM kk6 kk13])
 (.seq (.seq (cR [ oM kk14 kk6])
 (.cond (t14)
 (cR [ oM kk15 kk0,
 oP kk16 (.buildSl 9 1 16 1 [(.str 0 0)] [(0, (.c (.str 4 1313427274)))]),
 oP kk17 (.call 169 [(t15), (t16)])])
 (.seq (cR [ oM kk18 kk0,
 oP kk19 (.call 168 [(t18), (.c (.str 4 1313427274))]),
 oP kk20 (.un .not (t19))])
 (.cond (t20)
 (.seq (cR [ oM kk21 kk5,
 oM kk4 kk21])
 .ret)
 .skip))))
 (.seq (cR [ oM kk22 kk0,
 oP kk23 (.call 243 [(t22), (.c (.bool false))]),
 oP kk7 (.boxz 148 4 48 [(.bool false), (.str 0 0), (.str 0 0), (nI (0))]),
 oN (.store 4 (t7) (t23))])
 (.seq (cR [ oM kk24 kk6,
 oP kk25 (.offs (t7) 0),
 oN (.store 1 (t25) (t24))])
 (.seq (cR [ oM kk26 kk0,
 oP kk27 (.buildSl 9 1 16 1 [(.str 0 0)] [(0, (.c (.str 2 20047)))]),
 oP kk28 (.call 169 [(t26), (t27)])])
 (.seq (cR [ oM kk29 kk0,
 oP kk30 (.call 241 [(t29)]),
 oP kk31 (.offs (t7) 3),
 oN (.store 1 (t31) (t30))])
 (cR [ oM kk32 kk5,
 oP kk33 (.load 4 true (t7)),
 oP kk34 (.buildSl 148 4 48 1 [(.bool false), (.str 0 0), (.str 0 0), (nI (0))] [(0, (t33))]),
 oP kk35 (.app 148 4 48 (t32) (t34)),
 oM kk5 kk35])))))))))))) }
theorem fn210 : fnOf Tryz.prog Tryz.f210 = some i210 := by kernel_rfl
noncomputable def i211 : IFn := { nt := 8, ps := [kk0], res := [.tmp kk2], body :=
 (.seq (cR [ oC kk2 (nI 0)])
 (.seq (.seq (cR [ oM kk3 kk0,
 oP kk4 (.call 168 [(t3), (.c (.str 5 297733015639))]),
 oP kk5 (.un .not (t4))])
 (.cond (t5)
 (.seq (cR [ oC kk2 (.int .i64 (.negSucc 0))])
 .ret)
 .skip))
 (.seq (cR [ oM kk6 kk0,
 oP kk7 (.call 241 [(t6)]),
 oM kk2 kk7])
 .ret))) }
theorem fn211 : fnOf Tryz.prog Tryz.f211 = some i211 := by kernel_rfl
noncomputable def i212 : IFn := { nt := 23, ps := [kk0], res := [.tmp kk2], body :=
 (.seq (cR [ oC kk2 (nI 0)])
 (.seq (.seq (cR [ oM kk3 kk0,
 oP kk4 (.nilck (t3)),
 oP kk5 (.offs (t4) 3),
 oP kk6 (.load 1 false (t5)),
 oP kk7 (.bin .eql (t6) (.c (nI (0)))),
 oM kk8 kk7,
 oG kk9 kk8 true kk0,
 oX kk10 kk8 true (.call 165 [(t9)]),
 oX kk11 kk8 true (.sub (t10) 0 1 false),
 oX kk12 kk8 true (.bin .neq (t11) (.c (nI (2)))),
 oP kk13 (.pick (t8) (t12) (.c (.bool false)))])
 (.cond (t13)
 (cR [ oM kk14 kk0,
 oP kk15 (.call 166 [(t14), (.c (nI (5)))])])
 .skip))
 (.seq (.seq (cR [ oM kk16 kk0,
 oP kk17 (.nilck (t16)),
 oP kk18 (.offs (t17) 3),
 oP kk19 (.load 1 false (t18)),
 oP kk20 (.bin .neq (t19) (.c (nI (0))))])
 (.cond (t20)
 (.seq (cR [ oC kk2 (nI 0)])
 .ret)
 .skip))
 (.seq (cR [ oM kk21 kk0,
 oP kk22 (.call 244 [(t21)]),
 oM kk2 kk22])
 .ret)))) }
theorem fn212 : fnOf Tryz.prog Tryz.f212 = some i212 := by kernel_rfl
noncomputable def i213 : IFn := { nt := 19, ps := [kk0, kk1, kk2], res := [.tmp kk6], body :=
 (.seq (cR [ oC kk6 (.bool false)])
 (.seq (.seq (cR [ oM kk7 kk0,
 oM kk8 kk1,
 oM kk9 kk2,
 oP kk10 (.call 245 [(t7), (t8), (t9)]),
 oP kk11 (.un .not (t10))])
 (.cond (t11)
 (.seq (cR [ oC kk6 (.bool false)])
 .ret)
 .skip))
 (.seq (cR [ oM kk12 kk0,
 oP kk13 (.nilck (t12)),
 oP kk14 (.offs (t13) 1),
 oP kk15 (.load 1 false (t14)),
 oP kk16 (.bin .add (t15) (.c (nI (1)))),
 oP kk17 (.nilck (t12)),
 oP kk18 (.offs (t17) 1),
 oN (.store 1 (t18) (t16))])
 (.seq (cR [ oC kk6 (.bool true)])
 .ret)))) }
theorem fn213 : fnOf Tryz.prog Tryz.f213 = some i213 := by kernel_rfl
noncomputable def i215 : IFn := { nt := 34, ps := [kk0, kk1], res := [.tmp kk4], body :=
 (.seq (cR [ oC kk4 (nI 0)])
 (.seq (.seq (cR [ oM kk7 kk1,
 oP kk8 (.lenS (t7)),
 oP kk9 (.bin .eql (t8) (.c (nI (0))))])
 (.cond (t9)
 (.seq (cR [ oM kk10 kk0,
 oP kk11 (.call 246 [(t10)]),
 oP kk12 (.bin .add (t11) (.c (nI (1)))),
 oM kk4 kk12])
 .ret)
 .skip))
 (.seq (.seq (cR [ oM kk13 kk1,
 oP kk14 (.lenS (t13)),
 oP kk15 (.bin .eql (t14) (.c (nI (1))))])
 (.cond (t15)
 (.seq (cR [ oM kk16 kk0,
 oM kk17 kk1,
 oP kk18 (.idxStr (t17) (.c (nI (0)))),
 oP kk19 (.call 247 [(t16), (t18)]),
 oM kk4 kk19])
 .ret)
 .skip))
 (.seq (cR [ oC kk5 (nI 0)])
 (.block 0 (.loop (.block 1 (.seq (cR [ oM kk20 kk0,
 oM kk21 kk1,
 oP kk22 (.call 217 [(t20), (t21)]),
 oM kk6 kk22])
 (.seq (.seq (cR [ oM kk23 kk6,
 oP kk24 (.bin .eql (t23) (.c (.int .i64 (.negSucc 0))))])
 (.cond (t24)
 (.seq (cR [ oM kk25 kk5,
 oM kk4 kk25])
 .ret)
 .skip))
 (.seq (cR [ oM kk26 kk5,
 oP kk27 (.bin .add (t26) (.c (nI (1)))),
 oM kk5 kk27])
 (cR [ oM kk28 kk0,
 oM kk29 kk6,
 oM kk30 kk1,
 oP kk31 (.lenS (t30)),
 oP kk32 (.bin .add (t29) (t31)),
 oP kk33 (.slStr (t28) (some (t32)) none),
 oM kk0 kk33]))))))))))) }
theorem fn215 : fnOf Tryz.prog Tryz.f215 = some i215 := by kernel_rfl
noncomputable def rows1 : List (Nat × IFn) := [(109, i109), (110, i110), (111, i111), (112, i112), (113, i113), (114, i114), (115, i115), (116, i116), (117, i117), (118, i118), (119, i119), (120, i120), (121, i121), (122, i122), (123, i123), (124, i124), (125, i125), (126, i126), (127, i127), (128, i128), (129, i129), (130, i130), (131, i131), (132, i132), (133, i133), (134, i134), (135, i135), (136, i136), (137, i137), (138, i138), (139, i139), (140, i140), (141, i141), (142, i142), (143, i143), (144, i144), (145, i145), (146, i146), (147, i147), (148, i148), (149, i149), (150, i150), (151, i151), (152, i152), (153, i153), (154, i154), (155, i155), (156, i156), (157, i157), (158, i158), (159, i159), (160, i160), (161, i161), (162, i162), (163, i163), (164, i164), (165, i165), (166, i166), (167, i167), (168, i168), (169, i169), (170, i170), (171, i171), (172, i172), (173, i173), (174, i174), (175, i175), (176, i176), (177, i177), (178, i178), (179, i179), (180, i180), (181, i181), (182, i182), (183, i183), (184, i184), (185, i185), (186, i186), (187, i187), (188, i188), (189, i189), (190, i190), (191, i191), (192, i192), (193, i193), (194, i194), (195, i195), (196, i196), (197, i197), (198, i198), (199, i199), (200, i200), (201, i201), (202, i202), (203, i203), (204, i204), (205, i205), (206, i206), (207, i207), (208, i208), (209, i209), (210, i210), (211, i211), (212, i212), (213, i213), (215, i215)]
theorem rows1_ok : ∀ p, p ∈ rows1 → RowOk Tryz.prog p :=
  rows_cons Tryz.func109 fn109 <|
  rows_cons Tryz.func110 fn110 <|
  rows_cons Tryz.func111 fn111 <|
  rows_cons Tryz.func112 fn112 <|
  rows_cons Tryz.func113 fn113 <|
  rows_cons Tryz.func114 fn114 <|
  rows_cons Tryz.func115 fn115 <|
  rows_cons Tryz.func116 fn116 <|
  rows_cons Tryz.func117 fn117 <|
  rows_cons Tryz.func118 fn118 <|
  rows_cons Tryz.func119 fn119 <|
  rows_cons Tryz.func120 fn120 <|
  rows_cons Tryz.func121 fn121 <|
  rows_cons Tryz.func122 fn122 <|
  rows_cons Tryz.func123 fn123 <|
  rows_cons Tryz.func124 fn124 <|
  rows_cons Tryz.func125 fn125 <|
  rows_cons Tryz.func126 fn126 <|
  rows_cons Tryz.func127 fn127 <|
  rows_cons Tryz.func128 fn128 <|
  rows_cons Tryz.func129 fn129 <|
  rows_cons Tryz.func130 fn130 <|
  rows_cons Tryz.func131 fn131 <|
  rows_cons Tryz.func132 fn132 <|
  rows_cons Tryz.func133 fn133 <|
  rows_cons Tryz.func134 fn134 <|
  rows_cons Tryz.func135 fn135 <|
  rows_cons Tryz.func136 fn136 <|
  rows_cons Tryz.func137 fn137 <|
  rows_cons Tryz.func138 fn138 <|
  rows_cons Tryz.func139 fn139 <|
  rows_cons Tryz.func140 fn140 <|
  rows_cons Tryz.func141 fn141 <|
  rows_cons Tryz.func142 fn142 <|
  rows_cons Tryz.func143 fn143 <|
  rows_cons Tryz.func144 fn144 <|
  rows_cons Tryz.func145 fn145 <|
  rows_cons Tryz.func146 fn146 <|
  rows_cons Tryz.func147 fn147 <|
  rows_cons Tryz.func148 fn148 <|
  rows_cons Tryz.func149 fn149 <|
  rows_cons Tryz.func150 fn150 <|
  rows_cons Tryz.func151 fn151 <|
  rows_cons Tryz.func152 fn152 <|
  rows_cons Tryz.func153 fn153 <|
  rows_cons Tryz.func154 fn154 <|
  rows_cons Tryz.func155 fn155 <|
  rows_cons Tryz.func156 fn156 <|
  rows_cons Tryz.func157 fn157 <|
  rows_cons Tryz.func158 fn158 <|
  rows_cons Tryz.func159 fn159 <|
  rows_cons Tryz.func160 fn160 <|
  rows_cons Tryz.func161 fn161 <|
  rows_cons Tryz.func162 fn162 <|
  rows_cons Tryz.func163 fn163 <|
  rows_cons Tryz.func164 fn164 <|
  rows_cons Tryz.func165 fn165 <|
  rows_cons Tryz.func166 fn166 <|
  rows_cons Tryz.func167 fn167 <|
  rows_cons Tryz.func168 fn168 <|
  rows_cons Tryz.func169 fn169 <|
  rows_cons Tryz.func170 fn170 <|
  rows_cons Tryz.func171 fn171 <|
  rows_cons Tryz.func172 fn172 <|
  rows_cons Tryz.func173 fn173 <|
  rows_cons Tryz.func174 fn174 <|
  rows_cons Tryz.func175 fn175 <|
  rows_cons Tryz.func176 fn176 <|
  rows_cons Tryz.func177 fn177 <|
  rows_cons Tryz.func178 fn178 <|
  rows_cons Tryz.func179 fn179 <|
  rows_cons Tryz.func180 fn180 <|
  rows_cons Tryz.func181 fn181 <|
  rows_cons Tryz.func182 fn182 <|
  rows_cons Tryz.func183 fn183 <|
  rows_cons Tryz.func184 fn184 <|
  rows_cons Tryz.func185 fn185 <|
  rows_cons Tryz.func186 fn186 <|
  rows_cons Tryz.func187 fn187 <|
  rows_cons Tryz.func188 fn188 <|
  rows_cons Tryz.func189 fn189 <|
  rows_cons Tryz.func190 fn190 <|
  rows_cons Tryz.func191 fn191 <|
  rows_cons Tryz.func192 fn192 <|
  rows_cons Tryz.func193 fn193 <|
  rows_cons Tryz.func194 fn194 <|
  rows_cons Tryz.func195 fn195 <|
  rows_cons Tryz.func196 fn196 <|
  rows_cons Tryz.func197 fn197 <|
  rows_cons Tryz.func198 fn198 <|
  rows_cons Tryz.func199 fn199 <|
  rows_cons Tryz.func200 fn200 <|
  rows_cons Tryz.func201 fn201 <|
  rows_cons Tryz.func202 fn202 <|
  rows_cons Tryz.func203 fn203 <|
  rows_cons Tryz.func204 fn204 <|
  rows_cons Tryz.func205 fn205 <|
  rows_cons Tryz.func206 fn206 <|
  rows_cons Tryz.func207 fn207 <|
  rows_cons Tryz.func208 fn208 <|
  rows_cons Tryz.func209 fn209 <|
  rows_cons Tryz.func210 fn210 <|
  rows_cons Tryz.func211 fn211 <|
  rows_cons Tryz.func212 fn212 <|
  rows_cons Tryz.func213 fn213 <|
  rows_cons Tryz.func215 fn215 <|
  rows_nil
end Go.Proofs.YtffkihiledcilaaGreatDoor
