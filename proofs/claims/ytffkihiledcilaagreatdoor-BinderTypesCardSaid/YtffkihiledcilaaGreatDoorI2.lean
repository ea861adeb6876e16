/- The program's functions, turned into instructions (printed by program), part 2, and that they are so turned. -/
import Derived.Test.YtffkihiledcilaaGreatDoorI1
namespace Go.Proofs.YtffkihiledcilaaGreatDoor
open Go Go.Ev
set_option maxRecDepth 100000
set_option maxHeartbeats 4000000
noncomputable def i216 : IFn := { nt := 25, ps := [kk0, kk1], res := [], body :=
 (.seq (cR [ oM kk4 kk0,
 oP kk5 (.call 172 [(t4)])])
 (.seq (.seq (cR [ oM kk6 kk1,
 oP kk7 (.bin .lss (t6) (.c (nI (0))))])
 (.cond (t7)
 (cR [ oP kk8 (.mkif 9 (.c (.str 36 226187813140227768008177986391742176399534891738691412630441701833056540972817830802547))),
 oN (.callv (.c .nilptr) [])])
 .skip))
 (.seq (cD [ oM kk9 kk0,
 oP kk10 (.nilck (t9)),
 oP kk11 (.offs (t10) 1),
 oQ kk12 [] (.load 1 false (t11)),
 oQ kk13 [] (.callv (.c .nilptr) []),
 oM kk14 kk0,
 oP kk15 (.nilck (t14)),
 oP kk16 (.offs (t15) 1),
 oQ kk17 [0, 1] (.load 1 false (t16)),
 oP kk18 (.len (t17)),
 oP kk19 (.bin .sub (t13) (t18)),
 oM kk20 kk1,
 oP kk21 (.bin .lss (t19) (t20))])
 (.cond (t21)
 (cR [ oM kk22 kk0,
 oM kk23 kk1,
 oP kk24 (.call 248 [(t22), (t23)])])
 .skip)))) }
theorem fn216 : fnOf Tryz.prog Tryz.f216 = some i216 := by kernel_rfl
noncomputable def i217 : IFn := { nt := 8, ps := [kk0, kk1], res := [.tmp kk4], body :=
 (.seq (cR [ oC kk4 (nI 0)])
 (.seq (cR [ oM kk5 kk0,
 oM kk6 kk1,
 oP kk7 (.call 249 [(t5), (t6)]),
 oM kk4 kk7])
 .ret)) }
theorem fn217 : fnOf Tryz.prog Tryz.f217 = some i217 := by kernel_rfl
noncomputable def i218 : IFn := { nt := 19, ps := [kk0], res := [.tmp kk2, .tmp kk3], body :=
 (.seq (cR [ oC kk2 (.int .i32 (.ofNat 0)),
 oC kk3 (nI 0)])
 (.seq (.seq (cR [ oM kk4 kk0,
 oP kk5 (.bin .neq (t4) (.c (.str 0 0))),
 oM kk6 kk5,
 oG kk7 kk6 true kk0,
 oX kk8 kk6 true (.idxStr (t7) (.c (nI (0)))),
 oX kk9 kk6 true (.bin .lss (t8) (.c (.int .u8 (.ofNat 128)))),
 oP kk10 (.pick (t6) (t9) (.c (.bool false)))])
 (.cond (t10)
 (.seq (cR [ oM kk11 kk0,
 oP kk12 (.idxStr (t11) (.c (nI (0)))),
 oP kk13 (.conv .i32 (t12)),
 oM kk2 kk13,
 oC kk3 (nI 1)])
 .ret)
 (cR [ oM kk15 kk0,
 oP kk16 (.call 250 [(t15)]),
 oM kk14 kk16,
 oP kk17 (.extr (t14) 0),
 oP kk18 (.extr (t14) 1),
 oM kk2 kk17,
 oM kk3 kk18])))
 .ret)) }
theorem fn218 : fnOf Tryz.prog Tryz.f218 = some i218 := by kernel_rfl
noncomputable def i219 : IFn := { nt := 32, ps := [kk0, kk1, kk2], res := [.tmp kk6, .tmp kk7], body :=
 (.seq (cR [ oC kk6 (nI 0),
 oC kk7 (nI 0)])
 (.seq (.seq (cR [ oM kk9 kk0,
 oP kk10 (.len (t9)),
 oP kk11 (.bin .gtr (t10) (.c (nI (200))))])
 (.cond (t11)
 (.seq (cR [ oC kk6 (nI 0),
 oC kk7 (nI 4)])
 .ret)
 .skip))
 (.seq (.seq (cR [ oM kk12 kk1,
 oP kk13 (.bin .lss (t12) (.c (nI (0)))),
 oM kk14 kk13,
 oG kk15 kk14 false kk1,
 oG kk16 kk14 false kk0,
 oX kk17 kk14 false (.len (t16)),
 oX kk18 kk14 false (.bin .geq (t15) (t17)),
 oP kk19 (.pick (t14) (.c (.bool true)) (t18))])
 (.cond (t19)
 (.seq (cR [ oC kk6 (nI 0),
 oC kk7 (nI 10)])
 .ret)
 .skip))
 (.seq (cR [ oM kk20 kk0,
 oM kk21 kk2,
 oM kk22 kk0,
 oP kk23 (.len (t22)),
 oP kk24 (.mksl 343 3 24 [(.bool false), (nI (0)), (nI (0))] (t23) (t23)),
 oP kk25 (.build [.nilslice, .nilslice, .nilslice] [(0, 1, (t20)), (1, 1, (t21)), (2, 1, (t24))]),
 oP kk26 (.box 321 3 72 (t25)),
 oM kk8 kk26])
 (.seq (cR [ oM kk27 kk8,
 oM kk28 kk1,
 oP kk29 (.call 251 [(t27), (t28)]),
 oP kk30 (.extr (t29) 0),
 oP kk31 (.extr (t29) 1),
 oM kk6 kk30,
 oM kk7 kk31])
 .ret))))) }
theorem fn219 : fnOf Tryz.prog Tryz.f219 = some i219 := by kernel_rfl
noncomputable def i220 : IFn := { nt := 36, ps := [kk0], res := [.tmp kk2], body :=
 (.seq (cR [ oC kk2 .nilslice])
 (.seq (cR [ oC kk3 (nI 0)])
 (.seq (.seq (cR [ oM kk9 kk0,
 oP kk10 (.len (t9)),
 oC kk11 (nI 0)])
 (.block 0 (.loop (.seq (cR [ oP kk12 (.bin .lss (t11) (t10))])
 (.seq (.cond (t12)
 .skip
 (.exit 0))
 (.seq (.block 1 (.seq (cR [ oP kk13 (.idxSl 1 (t9) (t11)),
 oP kk14 (.load 1 false (t13)),
 oM kk5 kk14])
 (.seq (cR [ oM kk15 kk3,
 oM kk16 kk5,
 oP kk17 (.len (t16)),
 oP kk18 (.bin .add (t15) (t17)),
 oM kk3 kk18])
 (.seq (cR [ oM kk19 kk3,
 oP kk20 (.bin .lss (t19) (.c (nI (0))))])
 (.cond (t20)
 (cR [ oP kk21 (.mkif 9 (.c (.str 16 134789072936214216453580009062074836332))),
 oN (.callv (.c .nilptr) [])])
 .skip)))))
 (cR [ oP kk22 (.bin .add (t11) (.c (nI (1)))),
 oM kk11 kk22])))))))
 (.seq (cR [ oM kk23 kk3,
 oP kk24 (.call 252 [(.c .nilslice), (t23)]),
 oM kk6 kk24])
 (.seq (.seq (cR [ oM kk25 kk0,
 oP kk26 (.len (t25)),
 oC kk27 (nI 0)])
 (.block 2 (.loop (.seq (cR [ oP kk28 (.bin .lss (t27) (t26))])
 (.seq (.cond (t28)
 .skip
 (.exit 2))
 (.seq (.block 3 (.seq (cR [ oP kk29 (.idxSl 1 (t25) (t27)),
 oP kk30 (.load 1 false (t29)),
 oM kk8 kk30])
 (cR [ oM kk31 kk6,
 oM kk32 kk8,
 oP kk33 (.app 3 1 8 (t31) (t32)),
 oM kk6 kk33])))
 (cR [ oP kk34 (.bin .add (t27) (.c (nI (1)))),
 oM kk27 kk34])))))))
 (.seq (cR [ oM kk35 kk6,
 oM kk2 kk35])
 .ret)))))) }
theorem fn220 : fnOf Tryz.prog Tryz.f220 = some i220 := by kernel_rfl
noncomputable def i221 : IFn := { nt := 17, ps := [kk0, kk1], res := [.tmp kk4], body :=
 (.seq (cR [ oC kk4 (.bool false)])
 (.seq (.seq (cR [ oC kk5 (nI 0)])
 (.block 0 (.loop (.seq (.seq (cR [ oM kk6 kk5,
 oM kk7 kk0,
 oP kk8 (.lenS (t7)),
 oP kk9 (.bin .lss (t6) (t8))])
 (.cond (t9)
 .skip
 (.exit 0)))
 (.seq (.block 1 (.seq (cR [ oM kk12 kk0,
 oM kk13 kk5,
 oP kk14 (.idxStr (t12) (t13)),
 oM kk15 kk1,
 oP kk16 (.bin .eql (t14) (t15))])
 (.cond (t16)
 (.seq (cR [ oC kk4 (.bool true)])
 .ret)
 .skip)))
 (cR [ oM kk10 kk5,
 oP kk11 (.bin .add (t10) (.c (nI (1)))),
 oM kk5 kk11]))))))
 (.seq (cR [ oC kk4 (.bool false)])
 .ret))) }
theorem fn221 : fnOf Tryz.prog Tryz.f221 = some i221 := by kernel_rfl
noncomputable def i222 : IFn := { nt := 46, ps := [kk0, kk1, kk2], res := [.tmp kk6, .tmp kk7], body :=
 (.seq (cR [ oC kk6 (nI 0),
 oC kk7 (.bool false)])
 (.seq (.seq (cR [ oM kk10 kk0,
 oP kk11 (.bin .lss (t10) (.c (nI (1600)))),
 oM kk12 kk11,
 oG kk13 kk12 false kk0,
 oX kk14 kk12 false (.bin .gtr (t13) (.c (nI (9999)))),
 oP kk15 (.pick (t12) (.c (.bool true)) (t14)),
 oM kk16 kk15,
 oG kk17 kk16 false kk2,
 oX kk18 kk16 false (.bin .lss (t17) (.c (nI (1)))),
 oP kk19 (.pick (t16) (.c (.bool true)) (t18)),
 oM kk20 kk19,
 oG kk21 kk20 false kk2,
 oG kk22 kk20 false kk0,
 oG kk23 kk20 false kk1,
 oX kk24 kk20 false (.call 253 [(t22), (t23)]),
 oX kk25 kk20 false (.bin .gtr (t21) (t24)),
 oP kk26 (.pick (t20) (.c (.bool true)) (t25))])
 (.cond (t26)
 (.seq (cR [ oC kk6 (nI 0),
 oC kk7 (.bool false)])
 .ret)
 .skip))
 (.seq (cR [ oM kk27 kk0,
 oP kk28 (.call 254 [(t27)]),
 oM kk8 kk28])
 (.seq (.seq (cR [ oC kk9 (nI 1)])
 (.block 0 (.loop (.seq (.seq (cR [ oM kk29 kk9,
 oM kk30 kk1,
 oP kk31 (.bin .lss (t29) (t30))])
 (.cond (t31)
 .skip
 (.exit 0)))
 (.seq (.block 1 (cR [ oM kk34 kk8,
 oM kk35 kk0,
 oM kk36 kk9,
 oP kk37 (.call 253 [(t35), (t36)]),
 oP kk38 (.bin .add (t34) (t37)),
 oM kk8 kk38]))
 (cR [ oM kk32 kk9,
 oP kk33 (.bin .add (t32) (.c (nI (1)))),
 oM kk9 kk33]))))))
 (.seq (cR [ oM kk39 kk8,
 oM kk40 kk2,
 oP kk41 (.bin .add (t39) (t40)),
 oP kk42 (.bin .sub (t41) (.c (nI (1)))),
 oM kk8 kk42])
 (.seq (.seq (cR [ oM kk43 kk8,
 oP kk44 (.bin .geq (t43) (.c (nI (1000000))))])
 (.cond (t44)
 (.seq (cR [ oC kk6 (nI 0),
 oC kk7 (.bool false)])
 .ret)
 .skip))
 (.seq (cR [ oM kk45 kk8,
 oM kk6 kk45,
 oC kk7 (.bool true)])
 .ret))))))) }
theorem fn222 : fnOf Tryz.prog Tryz.f222 = some i222 := by kernel_rfl
noncomputable def i223 : IFn := { nt := 54, ps := [kk0, kk1], res := [.tmp kk4], body :=
 (.seq (cR [ oC kk4 (.str 0 0)])
 (.seq (.seq (cR [ oM kk10 kk1,
 oP kk11 (.bin .eql (t10) (.c (nI (10))))])
 (.cond (t11)
 (.seq (.seq (cR [ oM kk12 kk0,
 oP kk13 (.bin .leq (.c (nI (0))) (t12)),
 oM kk14 kk13,
 oG kk15 kk14 true kk0,
 oX kk16 kk14 true (.bin .lss (t15) (.c (nI (100)))),
 oP kk17 (.pick (t14) (t16) (.c (.bool false)))])
 (.cond (t17)
 (.seq (cR [ oM kk18 kk0,
 oP kk19 (.call 255 [(t18)]),
 oM kk4 kk19])
 .ret)
 .skip))
 (.seq (cR [ oP kk5 (.boxz 325 24 24 [(.int .u8 (.ofNat 0)), (.int .u8 (.ofNat 0)), (.int .u8 (.ofNat 0)), (.int .u8 (.ofNat 0)), (.int .u8 (.ofNat 0)), (.int .u8 (.ofNat 0)), (.int .u8 (.ofNat 0)), (.int .u8 (.ofNat 0)), (.int .u8 (.ofNat 0)), (.int .u8 (.ofNat 0)), (.int .u8 (.ofNat 0)), (.int .u8 (.ofNat 0)), (.int .u8 (.ofNat 0)), (.int .u8 (.ofNat 0)), (.int .u8 (.ofNat 0)), (.int .u8 (.ofNat 0)), (.int .u8 (.ofNat 0)), (.int .u8 (.ofNat 0)), (.int .u8 (.ofNat 0)), (.int .u8 (.ofNat 0)), (.int .u8 (.ofNat 0)), (.int .u8 (.ofNat 0)), (.int .u8 (.ofNat 0)), (.int .u8 (.ofNat 0))])])
 (.seq (cR [ oM kk20 kk0,
 oP kk21 (.conv .u64 (t20)),
 oM kk6 kk21])
 (.seq (.seq (cR [ oM kk22 kk0,
 oP kk23 (.bin .lss (t22) (.c (nI (0))))])
 (.cond (t23)
 (cR [ oM kk24 kk6,
 oP kk25 (.un .neg (t24)),
 oM kk6 kk25])
 .skip))
 (.seq (cR [ oM kk26 kk6,
 oP kk27 (.call 256 [(t26)]),
 oM kk7 kk27])
 (.seq (cR [ oM kk28 kk7,
 oP kk29 (.bin .add (.c (nI (1))) (t28)),
 oP kk30 (.callv (.c .nilptr) []),
 oM kk31 kk6,
 oP kk32 (.call 257 [(t30), (t31)])])
 (.seq (.seq (cR [ oM kk33 kk0,
 oP kk34 (.bin .lss (t33) (.c (nI (0))))])
 (.cond (t34)
 (.seq (cR [ oP kk35 (.idxArr 24 1 (t5) (.c (nI (0)))),
 oN (.store 1 (t35) (.c (.int .u8 (.ofNat 45))))])
 (.seq (cR [ oM kk36 kk7,
 oP kk37 (.bin .add (.c (nI (1))) (t36)),
 oP kk38 (.callv (.c .nilptr) []),
 oP kk39 (.convBS (t38)),
 oM kk4 kk39])
 .ret))
 .skip))
 (.seq (cR [ oM kk40 kk7,
 oP kk41 (.bin .add (.c (nI (1))) (t40)),
 oP kk42 (.callv (.c .nilptr) []),
 oP kk43 (.convBS (t42)),
 oM kk4 kk43])
 .ret))))))))
 .skip))
 (.seq (cR [ oM kk45 kk0,
 oP kk46 (.conv .u64 (t45)),
 oM kk47 kk1,
 oM kk48 kk0,
 oP kk49 (.bin .lss (t48) (.c (nI (0)))),
 oP kk50 (.call 258 [(.c .nilslice), (t46), (t47), (t49), (.c (.bool false))]),
 oM kk44 kk50,
 oP kk51 (.extr (t44) 0),
 oP kk52 (.extr (t44) 1),
 oM kk8 kk51,
 oM kk9 kk52])
 (.seq (cR [ oM kk53 kk9,
 oM kk4 kk53])
 .ret)))) }
theorem fn223 : fnOf Tryz.prog Tryz.f223 = some i223 := by kernel_rfl
noncomputable def i224 : IFn := { nt := 43, ps := [kk0], res := [.tmp kk2, .tmp kk3, .tmp kk4, .tmp kk5], body :=
 (.seq (cR [ oC kk2 (nI 0),
 oC kk3 (nI 0),
 oC kk4 (nI 0),
 oC kk5 (.bool false)])
 (.seq (.seq (cR [ oM kk6 kk0,
 oP kk7 (.call 259 [(t6)]),
 oP kk8 (.un .not (t7))])
 (.cond (t8)
 (.seq (cR [ oC kk2 (nI 0),
 oC kk3 (nI 0),
 oC kk4 (nI 0),
 oC kk5 (.bool false)])
 .ret)
 .skip))
 (.seq (cR [ oM kk9 kk0,
 oP kk10 (.bin .quo (t9) (.c (nI (366)))),
 oP kk11 (.bin .add (.c (nI (1600))) (t10)),
 oM kk2 kk11])
 (.seq (.block 0 (.loop (.seq (.seq (cR [ oM kk12 kk2,
 oP kk13 (.bin .add (t12) (.c (nI (1)))),
 oP kk14 (.call 260 [(t13)]),
 oM kk15 kk0,
 oP kk16 (.bin .leq (t14) (t15))])
 (.cond (t16)
 .skip
 (.exit 0)))
 (.block 1 (cR [ oM kk17 kk2,
 oP kk18 (.bin .add (t17) (.c (nI (1)))),
 oM kk2 kk18])))))
 (.seq (cR [ oM kk19 kk0,
 oM kk20 kk2,
 oP kk21 (.call 260 [(t20)]),
 oP kk22 (.bin .sub (t19) (t21)),
 oM kk0 kk22])
 (.seq (.seq (cR [ oC kk3 (nI 1)])
 (.block 2 (.loop (.seq (.seq (cR [ oM kk23 kk3,
 oP kk24 (.bin .lss (t23) (.c (nI (12)))),
 oM kk25 kk24,
 oG kk26 kk25 true kk0,
 oG kk27 kk25 true kk2,
 oG kk28 kk25 true kk3,
 oX kk29 kk25 true (.call 261 [(t27), (t28)]),
 oX kk30 kk25 true (.bin .geq (t26) (t29)),
 oP kk31 (.pick (t25) (t30) (.c (.bool false)))])
 (.cond (t31)
 .skip
 (.exit 2)))
 (.seq (.block 3 (cR [ oM kk34 kk0,
 oM kk35 kk2,
 oM kk36 kk3,
 oP kk37 (.call 261 [(t35), (t36)]),
 oP kk38 (.bin .sub (t34) (t37)),
 oM kk0 kk38]))
 (cR [ oM kk32 kk3,
 oP kk33 (.bin .add (t32) (.c (nI (1)))),
 oM kk3 kk33]))))))
 (.seq (cR [ oM kk39 kk2,
 oM kk40 kk3,
 oM kk41 kk0,
 oP kk42 (.bin .add (t41) (.c (nI (1)))),
 oM kk2 kk39,
 oM kk3 kk40,
 oM kk4 kk42,
 oC kk5 (.bool true)])
 .ret))))))) }
theorem fn224 : fnOf Tryz.prog Tryz.f224 = some i224 := by kernel_rfl
noncomputable def i225 : IFn := { nt := 26, ps := [kk0, kk1], res := [.tmp kk4], body :=
 (.seq (cR [ oC kk4 (.str 0 0)])
 (.seq (cR [ oM kk7 kk1,
 oP kk8 (.mksl 5 1 1 [(.int .u8 (.ofNat 0))] (t7) (t7)),
 oM kk5 kk8])
 (.seq (.seq (cR [ oM kk9 kk1,
 oP kk10 (.bin .sub (t9) (.c (nI (1)))),
 oM kk6 kk10])
 (.block 0 (.loop (.seq (.seq (cR [ oM kk11 kk6,
 oP kk12 (.bin .geq (t11) (.c (nI (0))))])
 (.cond (t12)
 .skip
 (.exit 0)))
 (.seq (.block 1 (.seq (cR [ oM kk15 kk5,
 oM kk16 kk6,
 oM kk17 kk0,
 oP kk18 (.bin .rem (t17) (.c (nI (10)))),
 oP kk19 (.bin .add (.c (nI (48))) (t18)),
 oP kk20 (.conv .u8 (t19)),
 oP kk21 (.idxSl 1 (t15) (t16)),
 oN (.store 1 (t21) (t20))])
 (cR [ oM kk22 kk0,
 oP kk23 (.bin .quo (t22) (.c (nI (10)))),
 oM kk0 kk23])))
 (cR [ oM kk13 kk6,
 oP kk14 (.bin .sub (t13) (.c (nI (1)))),
 oM kk6 kk14]))))))
 (.seq (cR [ oM kk24 kk5,
 oP kk25 (.convBS (t24)),
 oM kk4 kk25])
 .ret)))) }
theorem fn225 : fnOf Tryz.prog Tryz.f225 = some i225 := by kernel_rfl
noncomputable def i226 : IFn := { nt := 5, ps := [kk0], res := [.tmp kk2], body :=
 (.seq (cR [ oC kk2 (.str 0 0)])
 (.seq (cR [ oM kk3 kk0,
 oP kk4 (.call 223 [(t3), (.c (nI (10)))]),
 oM kk2 kk4])
 .ret)) }
theorem fn226 : fnOf Tryz.prog Tryz.f226 = some i226 := by kernel_rfl
noncomputable def i227 : IFn := { nt := 5, ps := [kk0], res := [.tmp kk2], body :=
 (.seq (cR [ oC kk2 (.str 0 0)])
 (.seq (cR [ oM kk3 kk0,
 oP kk4 (.call 236 [(t3), (.c (nI (2))), (.c (.func 262 [] []))]),
 oM kk2 kk4])
 .ret)) }
theorem fn227 : fnOf Tryz.prog Tryz.f227 = some i227 := by kernel_rfl
noncomputable def i228 : IFn := { nt := 10, ps := [kk0, kk1], res := [], body :=
 (.seq (cR [ oM kk4 kk0,
 oM kk5 kk1,
 oP kk6 (.call 208 [(t4), (t5)]),
 oP kk7 (.un .not (t6))])
 (.cond (t7)
 (cR [ oM kk8 kk0,
 oP kk9 (.call 166 [(t8), (.c (nI (5)))])])
 .skip)) }
theorem fn228 : fnOf Tryz.prog Tryz.f228 = some i228 := by kernel_rfl
noncomputable def i229 : IFn := { nt := 53, ps := [kk0], res := [.cell kk2 3 true], body :=
 (.seq (cR [ oP kk2 (.boxz 153 3 32 [(nI (0)), (nI (0)), (.str 0 0)])])
 (.seq (.block 0 (.seq (cR [ oM kk17 kk0,
 oP kk18 (.nilck (t17)),
 oP kk19 (.offs (t18) 3),
 oP kk20 (.load 1 false (t19)),
 oP kk21 (.bin .neq (t20) (.c (nI (0)))),
 oM kk16 kk21])
 (.cond (t16)
 .skip
 (.seq (cR [ oM kk23 kk0,
 oP kk24 (.call 263 [(t23)]),
 oP kk25 (.un .not (t24)),
 oM kk22 kk25])
 (.cond (t22)
 (cR [ oM kk26 kk0,
 oP kk27 (.call 166 [(t26), (.c (nI (5)))])])
 (.seq (cR [ oM kk29 kk0,
 oP kk30 (.call 208 [(t29), (.c (.str 1 45))]),
 oM kk28 kk30])
 (.cond (t28)
 (.seq (cR [ oM kk31 kk0,
 oP kk32 (.call 264 [(t31), (.c (.bool true))]),
 oN (.store 3 (t2) (t32))])
 .ret)
 (.seq (cR [ oM kk34 kk0,
 oP kk35 (.call 165 [(t34)]),
 oP kk36 (.sub (t35) 0 1 false),
 oP kk37 (.bin .eql (t36) (.c (nI (3)))),
 oM kk33 kk37])
 (.cond (t33)
 (.seq (cR [ oM kk38 kk0,
 oP kk39 (.call 264 [(t38), (.c (.bool false))]),
 oN (.store 3 (t2) (t39))])
 .ret)
 (.seq (cR [ oM kk41 kk0,
 oP kk42 (.call 168 [(t41), (.c (.str 4 1163219540))]),
 oM kk40 kk42])
 (.cond (t40)
 (.seq (cR [ oP kk43 (.build [(nI (0)), (nI (0)), (.str 0 0)] [(0, 1, (.c (nI (3)))), (1, 1, (.c (nI (1))))]),
 oN (.store 3 (t2) (t43))])
 .ret)
 (.seq (cR [ oM kk45 kk0,
 oP kk46 (.call 168 [(t45), (.c (.str 5 297750249798))]),
 oM kk44 kk46])
 (.cond (t44)
 (.seq (cR [ oP kk47 (.build [(nI (0)), (nI (0)), (.str 0 0)] [(0, 1, (.c (nI (3))))]),
 oN (.store 3 (t2) (t47))])
 .ret)
 (.seq (cR [ oM kk49 kk0,
 oP kk50 (.call 168 [(t49), (.c (.str 4 1280070990))]),
 oM kk48 kk50])
 (.cond (t48)
 (.seq (cR [ oP kk51 (.build [(nI (0)), (nI (0)), (.str 0 0)] []),
 oN (.store 3 (t2) (t51))])
 .ret)
 (.seq (cR [ oM kk4 kk0,
 oP kk5 (.call 165 [(t4)]),
 oP kk6 (.sub (t5) 2 1 false),
 oM kk3 kk6])
 (.seq (cR [ oM kk7 kk0,
 oP kk8 (.nilck (t7)),
 oP kk9 (.offs (t8) 1),
 oP kk10 (.load 1 false (t9)),
 oP kk11 (.bin .add (t10) (.c (nI (1)))),
 oP kk12 (.nilck (t7)),
 oP kk13 (.offs (t12) 1),
 oN (.store 1 (t13) (t11))])
 (.seq (cR [ oM kk14 kk3,
 oP kk15 (.build [(nI (0)), (nI (0)), (.str 0 0)] [(0, 1, (.c (nI (2)))), (2, 1, (t14))]),
 oN (.store 3 (t2) (t15))])
 .ret))))))))))))))))))
 (.seq (cR [ oP kk52 (.build [(nI (0)), (nI (0)), (.str 0 0)] []),
 oN (.store 3 (t2) (t52))])
 .ret))) }
theorem fn229 : fnOf Tryz.prog Tryz.f229 = some i229 := by kernel_rfl
noncomputable def i230 : IFn := { nt := 8, ps := [kk0], res := [.cell kk2 2 true], body :=
 (.seq (cR [ oP kk2 (.boxz 50 2 16 [(nI (0)), (nI (0))])])
 (.seq (cR [ oP kk3 (.boxz 50 2 16 [(nI (0)), (nI (0))])])
 (.seq (cR [ oM kk4 kk0,
 oP kk5 (.mkfn 265 [] [(t3)]),
 oP kk6 (.call 236 [(t4), (.c (nI (4))), (t5)])])
 (.seq (cR [ oP kk7 (.load 2 true (t3)),
 oN (.store 2 (t2) (t7))])
 .ret)))) }
theorem fn230 : fnOf Tryz.prog Tryz.f230 = some i230 := by kernel_rfl
noncomputable def i231 : IFn := { nt := 13, ps := [kk0], res := [.cell kk2 2 true], body :=
 (.seq (cR [ oP kk2 (.boxz 239 2 24 [(.str 0 0), (nI (0))])])
 (.seq (cR [ oM kk4 kk0,
 oP kk5 (.call 227 [(t4)]),
 oP kk6 (.build [(.str 0 0), (nI (0))] [(0, 1, (t5))]),
 oP kk3 (.boxz 239 2 24 [(.str 0 0), (nI (0))]),
 oN (.store 2 (t3) (t6))])
 (.seq (cR [ oM kk7 kk0,
 oP kk8 (.call 228 [(t7), (.c (.str 1 61))])])
 (.seq (cR [ oM kk9 kk0,
 oP kk10 (.call 241 [(t9)]),
 oP kk11 (.offs (t3) 1),
 oN (.store 1 (t11) (t10))])
 (.seq (cR [ oP kk12 (.load 2 true (t3)),
 oN (.store 2 (t2) (t12))])
 .ret))))) }
theorem fn231 : fnOf Tryz.prog Tryz.f231 = some i231 := by kernel_rfl
noncomputable def i232 : IFn := { nt := 22, ps := [kk0], res := [.cell kk2 3 true], body :=
 (.seq (cR [ oP kk2 (.boxz 62 3 32 [(nI (0)), (.str 0 0), (nI (0))])])
 (.seq (cR [ oM kk4 kk0,
 oP kk5 (.call 227 [(t4)]),
 oP kk6 (.build [(nI (0)), (.str 0 0), (nI (0))] [(1, 1, (t5))]),
 oP kk3 (.boxz 62 3 32 [(nI (0)), (.str 0 0), (nI (0))]),
 oN (.store 3 (t3) (t6))])
 (.seq (.block 0 (.seq (cR [ oM kk10 kk0,
 oP kk11 (.call 168 [(t10), (.c (.str 3 5525065))]),
 oM kk9 kk11])
 (.cond (t9)
 (cR [ oP kk12 (.offs (t3) 2),
 oN (.store 1 (t12) (.c (nI (1))))])
 (.seq (cR [ oM kk14 kk0,
 oP kk15 (.call 168 [(t14), (.c (.str 4 1415071060))]),
 oM kk13 kk15])
 (.cond (t13)
 (cR [ oP kk16 (.offs (t3) 2),
 oN (.store 1 (t16) (.c (nI (2))))])
 (.seq (cR [ oM kk18 kk0,
 oP kk19 (.call 168 [(t18), (.c (.str 4 1280266050))]),
 oM kk17 kk19])
 (.cond (t17)
 (cR [ oP kk20 (.offs (t3) 2),
 oN (.store 1 (t20) (.c (nI (3))))])
 (cR [ oM kk7 kk0,
 oP kk8 (.call 166 [(t7), (.c (nI (5)))])]))))))))
 (.seq (cR [ oP kk21 (.load 3 true (t3)),
 oN (.store 3 (t2) (t21))])
 .ret)))) }
theorem fn232 : fnOf Tryz.prog Tryz.f232 = some i232 := by kernel_rfl
noncomputable def i233 : IFn := { nt := 19, ps := [kk0], res := [.tmp kk2], body :=
 (.seq (cR [ oC kk2 .nilslice])
 (.seq (cR [ oM kk4 kk0,
 oP kk5 (.call 228 [(t4), (.c (.str 1 40))])])
 (.seq (cR [ oM kk6 kk0,
 oP kk7 (.call 227 [(t6)]),
 oP kk8 (.buildSl 9 1 16 1 [(.str 0 0)] [(0, (t7))]),
 oM kk3 kk8])
 (.seq (.block 0 (.loop (.seq (.seq (cR [ oM kk9 kk0,
 oP kk10 (.call 208 [(t9), (.c (.str 1 44))])])
 (.cond (t10)
 .skip
 (.exit 0)))
 (.block 1 (cR [ oM kk11 kk3,
 oM kk12 kk0,
 oP kk13 (.call 227 [(t12)]),
 oP kk14 (.buildSl 9 1 16 1 [(.str 0 0)] [(0, (t13))]),
 oP kk15 (.app 9 1 16 (t11) (t14)),
 oM kk3 kk15])))))
 (.seq (cR [ oM kk16 kk0,
 oP kk17 (.call 228 [(t16), (.c (.str 1 41))])])
 (.seq (cR [ oM kk18 kk3,
 oM kk2 kk18])
 .ret)))))) }
theorem fn233 : fnOf Tryz.prog Tryz.f233 = some i233 := by kernel_rfl
noncomputable def i234 : IFn := { nt := 8, ps := [kk0], res := [.tmp kk2], body :=
 (.seq (cR [ oC kk2 (nI 0)])
 (.seq (cR [ oP kk3 (.boxz 3 1 8 [(nI (0))]),
 oN (.store 1 (t3) (.c (nI (0))))])
 (.seq (cR [ oM kk4 kk0,
 oP kk5 (.mkfn 267 [] [(t3)]),
 oP kk6 (.call 236 [(t4), (.c (nI (4))), (t5)])])
 (.seq (cR [ oP kk7 (.load 1 false (t3)),
 oM kk2 kk7])
 .ret)))) }
theorem fn234 : fnOf Tryz.prog Tryz.f234 = some i234 := by kernel_rfl
noncomputable def i235 : IFn := { nt := 11, ps := [kk0], res := [.tmp kk2], body :=
 (.seq (cR [ oC kk2 (nI 0)])
 (.seq (.seq (cR [ oM kk3 kk0,
 oP kk4 (.call 168 [(t3), (.c (.str 2 21313))]),
 oP kk5 (.un .not (t4))])
 (.cond (t5)
 (.seq (cR [ oC kk2 (nI 1099511627776)])
 .ret)
 .skip))
 (.seq (cR [ oM kk6 kk0,
 oP kk7 (.buildSl 9 1 16 1 [(.str 0 0)] [(0, (.c (.str 2 17999)))]),
 oP kk8 (.call 169 [(t6), (t7)])])
 (.seq (cR [ oM kk9 kk0,
 oP kk10 (.call 202 [(t9), (.c (.int .i64 (.negSucc 0)))]),
 oM kk2 kk10])
 .ret)))) }
theorem fn235 : fnOf Tryz.prog Tryz.f235 = some i235 := by kernel_rfl
noncomputable def i236 : IFn := { nt := 40, ps := [kk0, kk1, kk2], res := [.tmp kk6], body :=
 (.seq (cR [ oC kk6 (.str 0 0)])
 (.seq (.seq (cR [ oM kk9 kk0,
 oP kk10 (.nilck (t9)),
 oP kk11 (.offs (t10) 3),
 oP kk12 (.load 1 false (t11)),
 oP kk13 (.bin .neq (t12) (.c (nI (0))))])
 (.cond (t13)
 (.seq (cR [ oC kk6 (.str 0 0)])
 .ret)
 .skip))
 (.seq (cR [ oM kk14 kk0,
 oP kk15 (.call 165 [(t14)]),
 oP kk7 (.boxz 127 3 32 [(nI (0)), (nI (0)), (.str 0 0)]),
 oN (.store 3 (t7) (t15))])
 (.seq (.seq (cR [ oP kk16 (.offs (t7) 0),
 oP kk17 (.load 1 false (t16)),
 oM kk18 kk1,
 oP kk19 (.bin .neq (t17) (t18))])
 (.cond (t19)
 (.seq (cR [ oM kk20 kk0,
 oP kk21 (.call 166 [(t20), (.c (nI (5)))])])
 (.seq (cR [ oC kk6 (.str 0 0)])
 .ret))
 .skip))
 (.seq (.seq (cR [ oM kk22 kk2,
 oP kk23 (.offs (t7) 2),
 oP kk24 (.load 1 false (t23)),
 oP kk25 (.callv (t22) [(t24)]),
 oM kk8 kk25])
 (.seq (cR [ oM kk26 kk8,
 oP kk27 (.bin .neq (t26) (.c (nI (0))))])
 (.cond (t27)
 (.seq (cR [ oM kk28 kk0,
 oM kk29 kk8,
 oP kk30 (.call 166 [(t28), (t29)])])
 (.seq (cR [ oC kk6 (.str 0 0)])
 .ret))
 .skip)))
 (.seq (cR [ oM kk31 kk0,
 oP kk32 (.nilck (t31)),
 oP kk33 (.offs (t32) 1),
 oP kk34 (.load 1 false (t33)),
 oP kk35 (.bin .add (t34) (.c (nI (1)))),
 oP kk36 (.nilck (t31)),
 oP kk37 (.offs (t36) 1),
 oN (.store 1 (t37) (t35))])
 (.seq (cR [ oP kk38 (.offs (t7) 2),
 oP kk39 (.load 1 false (t38)),
 oM kk6 kk39])
 .ret))))))) }
theorem fn236 : fnOf Tryz.prog Tryz.f236 = some i236 := by kernel_rfl
noncomputable def i237 : IFn := { nt := 26, ps := [kk0, kk1, kk2], res := [.tmp kk4], body :=
 (.seq (cR [ oC kk4 (nI 0)])
 (.seq (cR [ oM kk8 kk0,
 oP kk9 (.call 238 [(t8), (.c (nI (10))), (.c (nI (64)))]),
 oM kk7 kk9,
 oP kk10 (.extr (t7) 0),
 oP kk11 (.extr (t7) 1),
 oM kk5 kk10,
 oM kk6 kk11])
 (.seq (.seq (cR [ oM kk12 kk6,
 oP kk13 (.eqv .iface true (t12) (.c .niliface)),
 oM kk14 kk13,
 oG kk15 kk14 false kk5,
 oX kk16 kk14 false (.bin .geq (t15) (.c (.int .u64 (.ofNat 1099511627776)))),
 oP kk17 (.pick (t14) (.c (.bool true)) (t16)),
 oM kk18 kk17,
 oG kk19 kk18 false kk5,
 oX kk20 kk18 false (.conv .i64 (t19)),
 oX kk21 kk18 false (.load 1 false (t1)),
 oX kk22 kk18 false (.bin .leq (t20) (t21)),
 oP kk23 (.pick (t18) (.c (.bool true)) (t22))])
 (.cond (t23)
 (.seq (cR [ oC kk4 (nI 10)])
 .ret)
 .skip))
 (.seq (cR [ oM kk24 kk5,
 oP kk25 (.conv .i64 (t24)),
 oN (.store 1 (t2) (t25))])
 (.seq (cR [ oC kk4 (nI 0)])
 .ret))))) }
theorem fn237 : fnOf Tryz.prog Tryz.f237 = some i237 := by kernel_rfl
noncomputable def i238 : IFn := { nt := 26, ps := [kk0, kk1, kk2], res := [.tmp kk6, .tmp kk7], body :=
 (.seq (cR [ oC kk6 (.int .u64 (.ofNat 0)),
 oC kk7 .niliface])
 (.seq (cR [ oM kk11 kk0,
 oM kk12 kk1,
 oM kk13 kk2,
 oP kk14 (.call 269 [(t11), (t12), (t13)]),
 oM kk10 kk14,
 oP kk15 (.extr (t10) 0),
 oP kk16 (.extr (t10) 1),
 oM kk8 kk15,
 oM kk9 kk16])
 (.seq (.seq (cR [ oM kk17 kk9,
 oP kk18 (.eqv .iface true (t17) (.c .niliface))])
 (.cond (t18)
 (.seq (cR [ oM kk19 kk8,
 oM kk20 kk0,
 oM kk21 kk1,
 oM kk22 kk2,
 oM kk23 kk9,
 oP kk24 (.call 270 [(.c (.str 9 2147778296661251613008)), (t20), (t21), (t22), (t23)]),
 oM kk6 kk19,
 oM kk7 kk24])
 .ret)
 .skip))
 (.seq (cR [ oM kk25 kk8,
 oM kk6 kk25,
 oC kk7 .niliface])
 .ret)))) }
theorem fn238 : fnOf Tryz.prog Tryz.f238 = some i238 := by kernel_rfl
noncomputable def i239 : IFn := { nt := 32, ps := [kk0, kk1], res := [.tmp kk4], body :=
 (.seq (cR [ oC kk4 .nilslice])
 (.seq (.seq (cR [ oM kk5 kk0,
 oP kk6 (.call 154 [(t5), (.c (nI (1))), (.c (.str 3 5525326))]),
 oP kk7 (.un .not (t6))])
 (.cond (t7)
 (.seq (cR [ oM kk8 kk0,
 oM kk9 kk1,
 oP kk10 (.call 271 [(t8), (t9)]),
 oM kk4 kk10])
 .ret)
 .skip))
 (.seq (.seq (cR [ oM kk11 kk0,
 oP kk12 (.call 272 [(t11)]),
 oP kk13 (.un .not (t12))])
 (.cond (t13)
 (.seq (cR [ oM kk14 kk1,
 oM kk4 kk14])
 .ret)
 .skip))
 (.seq (cR [ oM kk15 kk0,
 oM kk16 kk1,
 oP kk17 (.call 239 [(t15), (t16)]),
 oM kk1 kk17])
 (.seq (cR [ oM kk18 kk0,
 oP kk19 (.nilck (t18)),
 oP kk20 (.offs (t19) 4),
 oP kk21 (.load 1 false (t20)),
 oP kk22 (.bin .sub (t21) (.c (nI (1)))),
 oP kk23 (.nilck (t18)),
 oP kk24 (.offs (t23) 4),
 oN (.store 1 (t24) (t22))])
 (.seq (cR [ oM kk25 kk1,
 oM kk26 kk1,
 oP kk27 (.len (t26)),
 oP kk28 (.bin .sub (t27) (.c (nI (1)))),
 oP kk29 (.build [(nI (0)), (nI (0)), (nI (0)), (.str 0 0), (.str 0 0), (nI (0)), (nI (0)), (.str 0 0)] [(0, 1, (.c (nI (11)))), (1, 1, (t28))]),
 oP kk30 (.buildSl 155 8 88 1 [(nI (0)), (nI (0)), (nI (0)), (.str 0 0), (.str 0 0), (nI (0)), (nI (0)), (.str 0 0)] [(0, (t29))]),
 oP kk31 (.app 155 8 88 (t25) (t30)),
 oM kk4 kk31])
 .ret)))))) }
theorem fn239 : fnOf Tryz.prog Tryz.f239 = some i239 := by kernel_rfl
noncomputable def i241 : IFn := { nt := 17, ps := [kk0], res := [.tmp kk2], body :=
 (.seq (cR [ oC kk2 (nI 0)])
 (.seq (cR [ oM kk5 kk0,
 oP kk6 (.call 273 [(t5)]),
 oM kk3 kk6])
 (.seq (.block 0 (.loop (.seq (.seq (cR [ oM kk7 kk0,
 oP kk8 (.call 168 [(t7), (.c (.str 2 21071))])])
 (.cond (t8)
 .skip
 (.exit 0)))
 (.block 1 (.seq (cR [ oM kk9 kk0,
 oP kk10 (.call 273 [(t9)]),
 oM kk4 kk10])
 (cR [ oM kk11 kk0,
 oM kk12 kk3,
 oM kk13 kk4,
 oP kk14 (.build [(nI (0)), (nI (0)), (nI (0)), (.str 0 0), (.str 0 0), (nI (0)), (nI (0)), (.str 0 0)] [(0, 1, (.c (nI (10)))), (1, 1, (t12)), (2, 1, (t13))]),
 oP kk15 (.call 274 [(t11), (t14)]),
 oM kk3 kk15]))))))
 (.seq (cR [ oM kk16 kk3,
 oM kk2 kk16])
 .ret)))) }
theorem fn241 : fnOf Tryz.prog Tryz.f241 = some i241 := by kernel_rfl
noncomputable def i242 : IFn := { nt := 40, ps := [kk0, kk1], res := [.tmp kk4], body :=
 (.seq (cR [ oC kk4 (.str 0 0)])
 (.seq (.seq (cR [ oM kk6 kk0,
 oP kk7 (.call 245 [(t6), (.c (nI (1))), (.c (.str 2 21313))]),
 oP kk8 (.un .not (t7))])
 (.cond (t8)
 (.seq (cR [ oC kk4 (.str 0 0)])
 .ret)
 .skip))
 (.seq (.seq (cD [ oM kk9 kk0,
 oP kk10 (.nilck (t9)),
 oP kk11 (.offs (t10) 0),
 oQ kk12 [] (.load 1 false (t11)),
 oM kk13 kk0,
 oP kk14 (.nilck (t13)),
 oP kk15 (.offs (t14) 1),
 oQ kk16 [0] (.load 1 false (t15)),
 oP kk17 (.bin .add (t16) (.c (nI (1)))),
 oP kk18 (.idxSl 3 (t12) (t17)),
 oQ kk19 [] (.load 3 true (t18)),
 oQ kk5 [0, 1, 2] (.boxz 127 3 32 [(nI (0)), (nI (0)), (.str 0 0)]),
 ⟨none, none, some [], .store 3 (t5) (t19)⟩])
 (.seq (cR [ oM kk20 kk1,
 oM kk21 kk20,
 oX kk22 kk21 true (.offs (t5) 0),
 oX kk23 kk21 true (.load 1 false (t22)),
 oX kk24 kk21 true (.bin .eql (t23) (.c (nI (1)))),
 oP kk25 (.pick (t21) (t24) (.c (.bool false))),
 oM kk26 kk25,
 oX kk27 kk26 true (.offs (t5) 2),
 oX kk28 kk26 true (.load 1 false (t27)),
 oX kk29 kk26 true (.bin .eql (t28) (.c (.str 2 17999))),
 oP kk30 (.pick (t26) (t29) (.c (.bool false)))])
 (.cond (t30)
 (.seq (cR [ oC kk4 (.str 0 0)])
 .ret)
 .skip)))
 (.seq (cR [ oM kk31 kk0,
 oP kk32 (.nilck (t31)),
 oP kk33 (.offs (t32) 1),
 oP kk34 (.load 1 false (t33)),
 oP kk35 (.bin .add (t34) (.c (nI (1)))),
 oP kk36 (.nilck (t31)),
 oP kk37 (.offs (t36) 1),
 oN (.store 1 (t37) (t35))])
 (.seq (cR [ oM kk38 kk0,
 oP kk39 (.call 227 [(t38)]),
 oM kk4 kk39])
 .ret))))) }
theorem fn242 : fnOf Tryz.prog Tryz.f242 = some i242 := by kernel_rfl
noncomputable def i243 : IFn := { nt := 14, ps := [kk0, kk1], res := [.cell kk4 4 true], body :=
 (.seq (cR [ oP kk4 (.boxz 148 4 48 [(.bool false), (.str 0 0), (.str 0 0), (nI (0))])])
 (.seq (cR [ oM kk6 kk0,
 oP kk7 (.call 227 [(t6)]),
 oP kk8 (.build [(.bool false), (.str 0 0), (.str 0 0), (nI (0))] [(1, 1, (t7)), (3, 1, (.c (.int .i64 (.negSucc 0))))]),
 oP kk5 (.boxz 148 4 48 [(.bool false), (.str 0 0), (.str 0 0), (nI (0))]),
 oN (.store 4 (t5) (t8))])
 (.seq (cR [ oM kk9 kk0,
 oM kk10 kk1,
 oP kk11 (.call 242 [(t9), (t10)]),
 oP kk12 (.offs (t5) 2),
 oN (.store 1 (t12) (t11))])
 (.seq (cR [ oP kk13 (.load 4 true (t5)),
 oN (.store 4 (t4) (t13))])
 .ret)))) }
theorem fn243 : fnOf Tryz.prog Tryz.f243 = some i243 := by kernel_rfl
noncomputable def i244 : IFn := { nt := 18, ps := [kk0], res := [.tmp kk2], body :=
 (.seq (cR [ oC kk2 (nI 0)])
 (.seq (cR [ oM kk4 kk0,
 oP kk5 (.call 227 [(t4)]),
 oP kk6 (.build [(nI (0)), (nI (0)), (nI (0)), (.str 0 0), (.str 0 0), (nI (0)), (nI (0)), (.str 0 0)] [(0, 1, (.c (nI (2)))), (4, 1, (t5))]),
 oP kk3 (.boxz 155 8 88 [(nI (0)), (nI (0)), (nI (0)), (.str 0 0), (.str 0 0), (nI (0)), (nI (0)), (.str 0 0)]),
 oN (.store 8 (t3) (t6))])
 (.seq (.seq (cR [ oM kk7 kk0,
 oP kk8 (.call 208 [(t7), (.c (.str 1 46))])])
 (.cond (t8)
 (.seq (cR [ oP kk9 (.offs (t3) 4),
 oP kk10 (.load 1 false (t9)),
 oP kk11 (.offs (t3) 3),
 oN (.store 1 (t11) (t10))])
 (cR [ oM kk12 kk0,
 oP kk13 (.call 227 [(t12)]),
 oP kk14 (.offs (t3) 4),
 oN (.store 1 (t14) (t13))]))
 .skip))
 (.seq (cR [ oM kk15 kk0,
 oP kk16 (.load 8 true (t3)),
 oP kk17 (.call 274 [(t15), (t16)]),
 oM kk2 kk17])
 .ret)))) }
theorem fn244 : fnOf Tryz.prog Tryz.f244 = some i244 := by kernel_rfl
noncomputable def i245 : IFn := { nt := 27, ps := [kk0, kk1, kk2], res := [.tmp kk6], body :=
 (.seq (cR [ oC kk6 (.bool false)])
 (.seq (cR [ oM kk8 kk0,
 oP kk9 (.call 165 [(t8)]),
 oP kk7 (.boxz 127 3 32 [(nI (0)), (nI (0)), (.str 0 0)]),
 oN (.store 3 (t7) (t9))])
 (.seq (cR [ oM kk10 kk0,
 oP kk11 (.nilck (t10)),
 oP kk12 (.offs (t11) 3),
 oP kk13 (.load 1 false (t12)),
 oP kk14 (.bin .eql (t13) (.c (nI (0)))),
 oM kk15 kk14,
 oX kk16 kk15 true (.offs (t7) 0),
 oX kk17 kk15 true (.load 1 false (t16)),
 oG kk18 kk15 true kk1,
 oX kk19 kk15 true (.bin .eql (t17) (t18)),
 oP kk20 (.pick (t15) (t19) (.c (.bool false))),
 oM kk21 kk20,
 oX kk22 kk21 true (.offs (t7) 2),
 oX kk23 kk21 true (.load 1 false (t22)),
 oG kk24 kk21 true kk2,
 oX kk25 kk21 true (.bin .eql (t23) (t24)),
 oP kk26 (.pick (t21) (t25) (.c (.bool false))),
 oM kk6 kk26])
 .ret))) }
theorem fn245 : fnOf Tryz.prog Tryz.f245 = some i245 := by kernel_rfl
noncomputable def i246 : IFn := { nt := 10, ps := [kk0], res := [.tmp kk2], body :=
 (.seq (cR [ oC kk2 (nI 0)])
 (.seq (.seq (cR [ oM kk3 kk0,
 oP kk4 (.callv (.c .nilptr) [])])
 (.block 0 (.loop (.seq (cR [ oP kk5 (.callv (.c .nilptr) []),
 oP kk6 (.extr (t5) 0)])
 (.seq (.cond (t6)
 .skip
 (.exit 0))
 (.block 1 (cR [ oM kk7 kk2,
 oP kk8 (.bin .add (t7) (.c (nI (1)))),
 oM kk2 kk8])))))))
 (.seq (cR [ oM kk9 kk2,
 oM kk2 kk9])
 .ret))) }
theorem fn246 : fnOf Tryz.prog Tryz.f246 = some i246 := by kernel_rfl
noncomputable def i248 : IFn := { nt := 30, ps := [kk0, kk1], res := [], body :=
 (.seq (cD [ oM kk5 kk0,
 oP kk6 (.nilck (t5)),
 oP kk7 (.offs (t6) 1),
 oQ kk8 [] (.load 1 false (t7)),
 oQ kk9 [] (.callv (.c .nilptr) []),
 oP kk10 (.bin .mul (.c (nI (2))) (t9)),
 oM kk11 kk1,
 oP kk12 (.bin .add (t10) (t11)),
 oQ kk13 [] (.call 275 [(t12)]),
 oM kk14 kk0,
 oP kk15 (.nilck (t14)),
 oP kk16 (.offs (t15) 1),
 oQ kk17 [0, 1, 2] (.load 1 false (t16)),
 oP kk18 (.len (t17)),
 oP kk19 (.slSl 1 (t13) none (some (t18))),
 oM kk4 kk19])
 (.seq (cR [ oM kk20 kk4,
 oM kk21 kk0,
 oP kk22 (.nilck (t21)),
 oP kk23 (.offs (t22) 1),
 oP kk24 (.load 1 false (t23)),
 oP kk25 (.callv (.c .nilptr) [])])
 (cR [ oM kk26 kk0,
 oM kk27 kk4,
 oP kk28 (.nilck (t26)),
 oP kk29 (.offs (t28) 1),
 oN (.store 1 (t29) (t27))]))) }
theorem fn248 : fnOf Tryz.prog Tryz.f248 = some i248 := by kernel_rfl
noncomputable def i249 : IFn := { nt := 143, ps := [kk0, kk1], res := [.tmp kk4], body :=
 (.seq (cR [ oC kk4 (nI 0)])
 (.seq (cR [ oM kk14 kk1,
 oP kk15 (.lenS (t14)),
 oM kk5 kk15])
 (.seq (.block 0 (.seq (cR [ oM kk17 kk5,
 oP kk18 (.bin .eql (t17) (.c (nI (0)))),
 oM kk19 kk18,
 oG kk20 kk19 false kk1,
 oG kk21 kk19 false kk0,
 oX kk22 kk19 false (.bin .eql (t20) (t21)),
 oP kk23 (.pick (t19) (.c (.bool true)) (t22)),
 oM kk16 kk23])
 (.cond (t16)
 (.seq (cR [ oC kk4 (nI 0)])
 .ret)
 (.seq (cR [ oM kk25 kk5,
 oP kk26 (.bin .eql (t25) (.c (nI (1)))),
 oM kk24 kk26])
 (.cond (t24)
 (.seq (cR [ oM kk27 kk0,
 oM kk28 kk1,
 oP kk29 (.idxStr (t28) (.c (nI (0)))),
 oP kk30 (.call 207 [(t27), (t29)]),
 oM kk4 kk30])
 .ret)
 (.seq (cR [ oM kk32 kk5,
 oM kk33 kk0,
 oP kk34 (.lenS (t33)),
 oP kk35 (.bin .geq (t32) (t34)),
 oM kk31 kk35])
 (.cond (t31)
 (.seq (cR [ oC kk4 (.int .i64 (.negSucc 0))])
 .ret)
 (.seq (cR [ oM kk37 kk5,
 oP kk38 (.load 1 false (.c (.ptr 0 1 0))),
 oP kk39 (.bin .leq (t37) (t38)),
 oM kk40 kk39,
 oG kk41 kk40 true kk0,
 oX kk42 kk40 true (.lenS (t41)),
 oX kk43 kk40 true (.bin .leq (t42) (.c (nI (64)))),
 oP kk44 (.pick (t40) (t43) (.c (.bool false))),
 oM kk36 kk44])
 (.cond (t36)
 (.seq (cR [ oM kk45 kk0,
 oM kk46 kk1,
 oP kk47 (.call 276 [(t45), (t46)]),
 oM kk4 kk47])
 .ret)
 .skip)))))))))
 (.seq (cR [ oM kk48 kk1,
 oP kk49 (.idxStr (t48) (.c (nI (0)))),
 oM kk6 kk49])
 (.seq (cR [ oM kk50 kk1,
 oP kk51 (.idxStr (t50) (.c (nI (1)))),
 oM kk7 kk51])
 (.seq (cR [ oC kk8 (nI 0)])
 (.seq (cR [ oM kk52 kk0,
 oP kk53 (.lenS (t52)),
 oM kk54 kk5,
 oP kk55 (.bin .sub (t53) (t54)),
 oP kk56 (.bin .add (t55) (.c (nI (1)))),
 oM kk9 kk56])
 (.seq (cR [ oC kk10 (nI 0)])
 (.seq (.block 1 (.loop (.seq (.seq (cR [ oM kk57 kk8,
 oM kk58 kk9,
 oP kk59 (.bin .lss (t57) (t58))])
 (.cond (t59)
 .skip
 (.exit 1)))
 (.block 2 (.seq (.seq (cR [ oM kk60 kk0,
 oM kk61 kk8,
 oP kk62 (.idxStr (t60) (t61)),
 oM kk63 kk6,
 oP kk64 (.bin .neq (t62) (t63))])
 (.cond (t64)
 (.seq (cR [ oM kk65 kk0,
 oM kk66 kk8,
 oP kk67 (.bin .add (t66) (.c (nI (1)))),
 oM kk68 kk9,
 oP kk69 (.slStr (t65) (some (t67)) (some (t68))),
 oM kk70 kk6,
 oP kk71 (.call 207 [(t69), (t70)]),
 oM kk11 kk71])
 (.seq (.seq (cR [ oM kk72 kk11,
 oP kk73 (.bin .lss (t72) (.c (nI (0))))])
 (.cond (t73)
 (.seq (cR [ oC kk4 (.int .i64 (.negSucc 0))])
 .ret)
 .skip))
 (cR [ oM kk74 kk8,
 oM kk75 kk11,
 oP kk76 (.bin .add (t75) (.c (nI (1)))),
 oP kk77 (.bin .add (t74) (t76)),
 oM kk8 kk77])))
 .skip))
 (.seq (.seq (cR [ oM kk78 kk0,
 oM kk79 kk8,
 oP kk80 (.bin .add (t79) (.c (nI (1)))),
 oP kk81 (.idxStr (t78) (t80)),
 oM kk82 kk7,
 oP kk83 (.bin .eql (t81) (t82)),
 oM kk84 kk83,
 oG kk85 kk84 true kk0,
 oG kk86 kk84 true kk8,
 oG kk87 kk84 true kk8,
 oG kk88 kk84 true kk5,
 oX kk89 kk84 true (.bin .add (t87) (t88)),
 oX kk90 kk84 true (.slStr (t85) (some (t86)) (some (t89))),
 oG kk91 kk84 true kk1,
 oX kk92 kk84 true (.bin .eql (t90) (t91)),
 oP kk93 (.pick (t84) (t92) (.c (.bool false)))])
 (.cond (t93)
 (.seq (cR [ oM kk94 kk8,
 oM kk4 kk94])
 .ret)
 .skip))
 (.seq (cR [ oM kk95 kk8,
 oP kk96 (.bin .add (t95) (.c (nI (1)))),
 oM kk8 kk96])
 (.seq (cR [ oM kk97 kk10,
 oP kk98 (.bin .add (t97) (.c (nI (1)))),
 oM kk10 kk98])
 (.seq (cR [ oM kk99 kk5,
 oP kk100 (.load 1 false (.c (.ptr 0 1 0))),
 oP kk101 (.bin .leq (t99) (t100)),
 oM kk102 kk101,
 oG kk103 kk102 true kk10,
 oG kk104 kk102 true kk8,
 oX kk105 kk102 true (.call 277 [(t104)]),
 oX kk106 kk102 true (.bin .gtr (t103) (t105)),
 oP kk107 (.pick (t102) (t106) (.c (.bool false)))])
 (.cond (t107)
 (.seq (cR [ oM kk108 kk0,
 oM kk109 kk8,
 oP kk110 (.slStr (t108) (some (t109)) none),
 oM kk111 kk1,
 oP kk112 (.call 276 [(t110), (t111)]),
 oM kk12 kk112])
 (.seq (.seq (cR [ oM kk113 kk12,
 oP kk114 (.bin .geq (t113) (.c (nI (0))))])
 (.cond (t114)
 (.seq (cR [ oM kk115 kk12,
 oM kk116 kk8,
 oP kk117 (.bin .add (t115) (t116)),
 oM kk4 kk117])
 .ret)
 .skip))
 (.seq (cR [ oC kk4 (.int .i64 (.negSucc 0))])
 .ret)))
 (.seq (cR [ oM kk118 kk5,
 oP kk119 (.load 1 false (.c (.ptr 0 1 0))),
 oP kk120 (.bin .gtr (t118) (t119)),
 oM kk121 kk120,
 oG kk122 kk121 true kk10,
 oG kk123 kk121 true kk8,
 oX kk124 kk121 true (.bin .shr (t123) (.c (.int .u64 (.ofNat 4)))),
 oX kk125 kk121 true (.bin .add (.c (nI (4))) (t124)),
 oX kk126 kk121 true (.bin .geq (t122) (t125)),
 oP kk127 (.pick (t121) (t126) (.c (.bool false))),
 oM kk128 kk127,
 oG kk129 kk128 true kk8,
 oG kk130 kk128 true kk9,
 oX kk131 kk128 true (.bin .lss (t129) (t130)),
 oP kk132 (.pick (t128) (t131) (.c (.bool false)))])
 (.cond (t132)
 (.seq (cR [ oM kk133 kk0,
 oM kk134 kk8,
 oP kk135 (.slStr (t133) (some (t134)) none),
 oM kk136 kk1,
 oP kk137 (.call 278 [(t135), (t136)]),
 oM kk13 kk137])
 (.seq (.seq (cR [ oM kk138 kk13,
 oP kk139 (.bin .lss (t138) (.c (nI (0))))])
 (.cond (t139)
 (.seq (cR [ oC kk4 (.int .i64 (.negSucc 0))])
 .ret)
 .skip))
 (.seq (cR [ oM kk140 kk8,
 oM kk141 kk13,
 oP kk142 (.bin .add (t140) (t141)),
 oM kk4 kk142])
 .ret)))
 .skip))))))))))))
 (.seq (cR [ oC kk4 (.int .i64 (.negSucc 0))])
 .ret)))))))))) }
theorem fn249 : fnOf Tryz.prog Tryz.f249 = some i249 := by kernel_rfl
noncomputable def i250 : IFn := { nt := 117, ps := [kk0], res := [.tmp kk2, .tmp kk3], body :=
 (.seq (cR [ oC kk2 (.int .i32 (.ofNat 0)),
 oC kk3 (nI 0)])
 (.seq (cR [ oM kk13 kk0,
 oP kk14 (.lenS (t13)),
 oM kk4 kk14])
 (.seq (.seq (cR [ oM kk15 kk4,
 oP kk16 (.bin .lss (t15) (.c (nI (1))))])
 (.cond (t16)
 (.seq (cR [ oC kk2 (.int .i32 (.ofNat 65533)),
 oC kk3 (nI 0)])
 .ret)
 .skip))
 (.seq (cR [ oM kk17 kk0,
 oP kk18 (.idxStr (t17) (.c (nI (0)))),
 oM kk5 kk18])
 (.seq (cR [ oM kk19 kk5,
 oP kk20 (.idxArr 256 1 (.c (.ptr 1 1 0)) (t19)),
 oP kk21 (.load 1 false (t20)),
 oM kk6 kk21])
 (.seq (.seq (cR [ oM kk22 kk6,
 oP kk23 (.bin .geq (t22) (.c (.int .u8 (.ofNat 240))))])
 (.cond (t23)
 (.seq (cR [ oM kk24 kk6,
 oP kk25 (.conv .i32 (t24)),
 oP kk26 (.bin .shl (t25) (.c (.int .u64 (.ofNat 31)))),
 oP kk27 (.bin .shr (t26) (.c (.int .u64 (.ofNat 31)))),
 oM kk7 kk27])
 (.seq (cR [ oM kk28 kk0,
 oP kk29 (.idxStr (t28) (.c (nI (0)))),
 oP kk30 (.conv .i32 (t29)),
 oM kk31 kk7,
 oP kk32 (.bin .andNot (t30) (t31)),
 oM kk33 kk7,
 oP kk34 (.bin .and (.c (.int .i32 (.ofNat 65533))) (t33)),
 oP kk35 (.bin .or (t32) (t34)),
 oM kk2 kk35,
 oC kk3 (nI 1)])
 .ret))
 .skip))
 (.seq (cR [ oM kk36 kk6,
 oP kk37 (.bin .and (t36) (.c (.int .u8 (.ofNat 7)))),
 oP kk38 (.conv .i64 (t37)),
 oM kk8 kk38])
 (.seq (cR [ oM kk39 kk6,
 oP kk40 (.bin .shr (t39) (.c (.int .u64 (.ofNat 4)))),
 oP kk41 (.idxArr 16 2 (.c (.ptr 2 1 0)) (t40)),
 oP kk42 (.load 2 true (t41)),
 oP kk9 (.boxz 340 2 2 [(.int .u8 (.ofNat 0)), (.int .u8 (.ofNat 0))]),
 oN (.store 2 (t9) (t42))])
 (.seq (.seq (cR [ oM kk43 kk4,
 oM kk44 kk8,
 oP kk45 (.bin .lss (t43) (t44))])
 (.cond (t45)
 (.seq (cR [ oC kk2 (.int .i32 (.ofNat 65533)),
 oC kk3 (nI 1)])
 .ret)
 .skip))
 (.seq (cR [ oM kk46 kk0,
 oP kk47 (.idxStr (t46) (.c (nI (1)))),
 oM kk10 kk47])
 (.seq (.seq (cR [ oM kk48 kk10,
 oP kk49 (.offs (t9) 0),
 oP kk50 (.load 1 false (t49)),
 oP kk51 (.bin .lss (t48) (t50)),
 oM kk52 kk51,
 oX kk53 kk52 false (.offs (t9) 1),
 oX kk54 kk52 false (.load 1 false (t53)),
 oG kk55 kk52 false kk10,
 oX kk56 kk52 false (.bin .lss (t54) (t55)),
 oP kk57 (.pick (t52) (.c (.bool true)) (t56))])
 (.cond (t57)
 (.seq (cR [ oC kk2 (.int .i32 (.ofNat 65533)),
 oC kk3 (nI 1)])
 .ret)
 .skip))
 (.seq (.seq (cR [ oM kk58 kk8,
 oP kk59 (.bin .leq (t58) (.c (nI (2))))])
 (.cond (t59)
 (.seq (cR [ oM kk60 kk5,
 oP kk61 (.bin .and (t60) (.c (.int .u8 (.ofNat 31)))),
 oP kk62 (.conv .i32 (t61)),
 oP kk63 (.bin .shl (t62) (.c (.int .u64 (.ofNat 6)))),
 oM kk64 kk10,
 oP kk65 (.bin .and (t64) (.c (.int .u8 (.ofNat 63)))),
 oP kk66 (.conv .i32 (t65)),
 oP kk67 (.bin .or (t63) (t66)),
 oM kk2 kk67,
 oC kk3 (nI 2)])
 .ret)
 .skip))
 (.seq (cR [ oM kk68 kk0,
 oP kk69 (.idxStr (t68) (.c (nI (2)))),
 oM kk11 kk69])
 (.seq (.seq (cR [ oM kk70 kk11,
 oP kk71 (.bin .lss (t70) (.c (.int .u8 (.ofNat 128)))),
 oM kk72 kk71,
 oG kk73 kk72 false kk11,
 oX kk74 kk72 false (.bin .lss (.c (.int .u8 (.ofNat 191))) (t73)),
 oP kk75 (.pick (t72) (.c (.bool true)) (t74))])
 (.cond (t75)
 (.seq (cR [ oC kk2 (.int .i32 (.ofNat 65533)),
 oC kk3 (nI 1)])
 .ret)
 .skip))
 (.seq (.seq (cR [ oM kk76 kk8,
 oP kk77 (.bin .leq (t76) (.c (nI (3))))])
 (.cond (t77)
 (.seq (cR [ oM kk78 kk5,
 oP kk79 (.bin .and (t78) (.c (.int .u8 (.ofNat 15)))),
 oP kk80 (.conv .i32 (t79)),
 oP kk81 (.bin .shl (t80) (.c (.int .u64 (.ofNat 12)))),
 oM kk82 kk10,
 oP kk83 (.bin .and (t82) (.c (.int .u8 (.ofNat 63)))),
 oP kk84 (.conv .i32 (t83)),
 oP kk85 (.bin .shl (t84) (.c (.int .u64 (.ofNat 6)))),
 oP kk86 (.bin .or (t81) (t85)),
 oM kk87 kk11,
 oP kk88 (.bin .and (t87) (.c (.int .u8 (.ofNat 63)))),
 oP kk89 (.conv .i32 (t88)),
 oP kk90 (.bin .or (t86) (t89)),
 oM kk2 kk90,
 oC kk3 (nI 3)])
 .ret)
 .skip))
 (.seq (cR [ oM kk91 kk0,
 oP kk92 (.idxStr (t91) (.c (nI (3)))),
 oM kk12 kk92])
 (.seq (.seq (cR [ oM kk93 kk12,
 oP kk94 (.bin .lss (t93) (.c (.int .u8 (.ofNat 128)))),
 oM kk95 kk94,
 oG kk96 kk95 false kk12,
 oX kk97 kk95 false (.bin .lss (.c (.int .u8 (.ofNat 191))) (t96)),
 oP kk98 (.pick (t95) (.c (.bool true)) (t97))])
 (.cond (t98)
 (.seq (cR [ oC kk2 (.int .i32 (.ofNat 65533)),
 oC kk3 (nI 1)])
 .ret)
 .skip))
 (.seq (cR [ oM kk99 kk5,
 oP kk100 (.bin .and (t99) (.c (.int .u8 (.ofNat 7)))),
 oP kk101 (.conv .i32 (t100)),
 oP kk102 (.bin .shl (t101) (.c (.int .u64 (.ofNat 18)))),
 oM kk103 kk10,
 oP kk104 (.bin .and (t103) (.c (.int .u8 (.ofNat 63)))),
 oP kk105 (.conv .i32 (t104)),
 oP kk106 (.bin .shl (t105) (.c (.int .u64 (.ofNat 12)))),
 oP kk107 (.bin .or (t102) (t106)),
 oM kk108 kk11,
 oP kk109 (.bin .and (t108) (.c (.int .u8 (.ofNat 63)))),
 oP kk110 (.conv .i32 (t109)),
 oP kk111 (.bin .shl (t110) (.c (.int .u64 (.ofNat 6)))),
 oP kk112 (.bin .or (t107) (t111)),
 oM kk113 kk12,
 oP kk114 (.bin .and (t113) (.c (.int .u8 (.ofNat 63)))),
 oP kk115 (.conv .i32 (t114)),
 oP kk116 (.bin .or (t112) (t115)),
 oM kk2 kk116,
 oC kk3 (nI 4)])
 .ret)))))))))))))))))) }
theorem fn250 : fnOf Tryz.prog Tryz.f250 = some i250 := by kernel_rfl
noncomputable def i251 : IFn := { nt := 39, ps := [kk0, kk1], res := [.tmp kk4, .tmp kk5], body :=
 (.seq (cR [ oC kk4 (nI 0),
 oC kk5 (nI 0)])
 (.seq (.seq (cR [ oM kk9 kk0,
 oP kk10 (.nilck (t9)),
 oP kk11 (.offs (t10) 2),
 oP kk12 (.load 1 false (t11)),
 oM kk13 kk1,
 oP kk14 (.idxSl 3 (t12) (t13)),
 oP kk15 (.load 3 true (t14)),
 oP kk6 (.boxz 343 3 24 [(.bool false), (nI (0)), (nI (0))]),
 oN (.store 3 (t6) (t15))])
 (.seq (cR [ oP kk16 (.offs (t6) 0),
 oP kk17 (.load 1 false (t16))])
 (.cond (t17)
 (.seq (cD [ oP kk18 (.offs (t6) 1),
 oQ kk19 [] (.load 1 false (t18)),
 oP kk20 (.offs (t6) 2),
 oQ kk21 [0] (.load 1 false (t20)),
 oM kk4 kk19,
 oM kk5 kk21])
 .ret)
 .skip)))
 (.seq (cR [ oM kk23 kk0,
 oM kk24 kk1,
 oP kk25 (.call 279 [(t23), (t24)]),
 oM kk22 kk25,
 oP kk26 (.extr (t22) 0),
 oP kk27 (.extr (t22) 1),
 oM kk7 kk26,
 oM kk8 kk27])
 (.seq (cR [ oM kk28 kk0,
 oP kk29 (.nilck (t28)),
 oP kk30 (.offs (t29) 2),
 oP kk31 (.load 1 false (t30)),
 oM kk32 kk1,
 oM kk33 kk7,
 oM kk34 kk8,
 oP kk35 (.build [(.bool false), (nI (0)), (nI (0))] [(0, 1, (.c (.bool true))), (1, 1, (t33)), (2, 1, (t34))]),
 oP kk36 (.idxSl 3 (t31) (t32)),
 oN (.store 3 (t36) (t35))])
 (.seq (cR [ oM kk37 kk7,
 oM kk38 kk8,
 oM kk4 kk37,
 oM kk5 kk38])
 .ret))))) }
theorem fn251 : fnOf Tryz.prog Tryz.f251 = some i251 := by kernel_rfl
noncomputable def i252 : IFn := { nt := 27, ps := [kk0, kk1], res := [.tmp kk4], body :=
 (.seq (cR [ oC kk4 .nilslice])
 (.seq (.seq (cR [ oM kk5 kk1,
 oP kk6 (.bin .lss (t5) (.c (nI (0))))])
 (.cond (t6)
 (cR [ oP kk7 (.mkif 9 (.c (.str 18 8838634371626034279618351153450530198413667))),
 oN (.callv (.c .nilptr) [])])
 .skip))
 (.seq (.seq (cR [ oM kk8 kk1,
 oM kk9 kk0,
 oP kk10 (.callv (.c .nilptr) []),
 oM kk11 kk0,
 oP kk12 (.len (t11)),
 oP kk13 (.bin .sub (t10) (t12)),
 oP kk14 (.bin .sub (t8) (t13)),
 oM kk1 kk14])
 (.seq (cR [ oM kk15 kk1,
 oP kk16 (.bin .gtr (t15) (.c (nI (0))))])
 (.cond (t16)
 (cR [ oM kk17 kk0,
 oM kk18 kk0,
 oP kk19 (.callv (.c .nilptr) []),
 oP kk20 (.slSl 1 (t17) none (some (t19))),
 oM kk21 kk1,
 oP kk22 (.callv (.c .nilptr) []),
 oM kk23 kk0,
 oP kk24 (.len (t23)),
 oP kk25 (.slSl 1 (t22) none (some (t24))),
 oM kk0 kk25])
 .skip)))
 (.seq (cR [ oM kk26 kk0,
 oM kk4 kk26])
 .ret)))) }
theorem fn252 : fnOf Tryz.prog Tryz.f252 = some i252 := by kernel_rfl
noncomputable def i253 : IFn := { nt := 22, ps := [kk0, kk1], res := [.tmp kk4], body :=
 (.seq (cR [ oC kk4 (nI 0)])
 (.seq (cR [ oP kk6 (.build [(nI (0)), (nI (0)), (nI (0)), (nI (0)), (nI (0)), (nI (0)), (nI (0)), (nI (0)), (nI (0)), (nI (0)), (nI (0)), (nI (0)), (nI (0))] [(0, 1, (.c (nI (0)))), (1, 1, (.c (nI (31)))), (2, 1, (.c (nI (28)))), (3, 1, (.c (nI (31)))), (4, 1, (.c (nI (30)))), (5, 1, (.c (nI (31)))), (6, 1, (.c (nI (30)))), (7, 1, (.c (nI (31)))), (8, 1, (.c (nI (31)))), (9, 1, (.c (nI (30)))), (10, 1, (.c (nI (31)))), (11, 1, (.c (nI (30)))), (12, 1, (.c (nI (31))))]),
 oP kk5 (.boxz 344 13 104 [(nI (0)), (nI (0)), (nI (0)), (nI (0)), (nI (0)), (nI (0)), (nI (0)), (nI (0)), (nI (0)), (nI (0)), (nI (0)), (nI (0)), (nI (0))]),
 oN (.store 13 (t5) (t6))])
 (.seq (.seq (cR [ oM kk7 kk1,
 oP kk8 (.bin .lss (t7) (.c (nI (1)))),
 oM kk9 kk8,
 oG kk10 kk9 false kk1,
 oX kk11 kk9 false (.bin .gtr (t10) (.c (nI (12)))),
 oP kk12 (.pick (t9) (.c (.bool true)) (t11))])
 (.cond (t12)
 (.seq (cR [ oC kk4 (nI 0)])
 .ret)
 .skip))
 (.seq (.seq (cR [ oM kk13 kk1,
 oP kk14 (.bin .eql (t13) (.c (nI (2)))),
 oM kk15 kk14,
 oG kk16 kk15 true kk0,
 oX kk17 kk15 true (.call 280 [(t16)]),
 oP kk18 (.pick (t15) (t17) (.c (.bool false)))])
 (.cond (t18)
 (.seq (cR [ oC kk4 (nI 29)])
 .ret)
 .skip))
 (.seq (cR [ oM kk19 kk1,
 oP kk20 (.idxArr 13 1 (t5) (t19)),
 oP kk21 (.load 1 false (t20)),
 oM kk4 kk21])
 .ret))))) }
theorem fn253 : fnOf Tryz.prog Tryz.f253 = some i253 := by kernel_rfl
noncomputable def i254 : IFn := { nt := 20, ps := [kk0], res := [.tmp kk2], body :=
 (.seq (cR [ oC kk2 (nI 0)])
 (.seq (cR [ oM kk4 kk0,
 oP kk5 (.bin .sub (t4) (.c (nI (1600)))),
 oM kk3 kk5])
 (.seq (cR [ oM kk6 kk3,
 oP kk7 (.bin .mul (.c (nI (365))) (t6)),
 oM kk8 kk3,
 oP kk9 (.bin .add (t8) (.c (nI (3)))),
 oP kk10 (.bin .quo (t9) (.c (nI (4)))),
 oP kk11 (.bin .add (t7) (t10)),
 oM kk12 kk3,
 oP kk13 (.bin .add (t12) (.c (nI (99)))),
 oP kk14 (.bin .quo (t13) (.c (nI (100)))),
 oP kk15 (.bin .sub (t11) (t14)),
 oM kk16 kk3,
 oP kk17 (.bin .add (t16) (.c (nI (399)))),
 oP kk18 (.bin .quo (t17) (.c (nI (400)))),
 oP kk19 (.bin .add (t15) (t18)),
 oM kk2 kk19])
 .ret))) }
theorem fn254 : fnOf Tryz.prog Tryz.f254 = some i254 := by kernel_rfl
noncomputable def i255 : IFn := { nt := 15, ps := [kk0], res := [.tmp kk2], body :=
 (.seq (cR [ oC kk2 (.str 0 0)])
 (.seq (.seq (cR [ oM kk3 kk0,
 oP kk4 (.bin .lss (t3) (.c (nI (10))))])
 (.cond (t4)
 (.seq (cR [ oM kk5 kk0,
 oM kk6 kk0,
 oP kk7 (.bin .add (t6) (.c (nI (1)))),
 oP kk8 (.slStr (.c (.str 36 237927390410950444456928663707796224754864904193074819559483181009558347043374296609072)) (some (t5)) (some (t7))),
 oM kk2 kk8])
 .ret)
 .skip))
 (.seq (cR [ oM kk9 kk0,
 oP kk10 (.bin .mul (t9) (.c (nI (2)))),
 oM kk11 kk0,
 oP kk12 (.bin .mul (t11) (.c (nI (2)))),
 oP kk13 (.bin .add (t12) (.c (nI (2)))),
 oP kk14 (.slStr (.c (.str 200 9938655150514779720929161263213647789093395803754561035662628441001274968862597953692946393464194303251501229616933063375291039650253924995779037586872666250072396106842829501851083234932712366962979930255066872747696324303968523733872590022915936937156789320557469720923390131174387415513794469201054844961267015441141542819553679203788501627738430154234325528792480477051962324423099068299719245009424585859096469223093538032153047611602695245052081125123941502624659711709950000)) (some (t10)) (some (t13))),
 oM kk2 kk14])
 .ret))) }
theorem fn255 : fnOf Tryz.prog Tryz.f255 = some i255 := by kernel_rfl
noncomputable def i256 : IFn := { nt := 15, ps := [kk0], res := [.tmp kk2], body :=
 (.seq (cR [ oC kk2 (nI 0)])
 (.seq (cR [ oM kk4 kk0,
 oP kk5 (.call 282 [(t4)]),
 oP kk6 (.call 281 [(t5)]),
 oM kk3 kk6])
 (.seq (cR [ oM kk7 kk3,
 oM kk8 kk0,
 oM kk9 kk3,
 oP kk10 (.idxArr 20 1 (.c (.ptr 3 1 0)) (t9)),
 oP kk11 (.load 1 false (t10)),
 oP kk12 (.bin .geq (t8) (t11)),
 oP kk13 (.call 283 [(t12)]),
 oP kk14 (.bin .add (t7) (t13)),
 oM kk2 kk14])
 .ret))) }
theorem fn256 : fnOf Tryz.prog Tryz.f256 = some i256 := by kernel_rfl
noncomputable def i257 : IFn := { nt := 167, ps := [kk0, kk1], res := [], body :=
 (.seq (cR [ oM kk17 kk0,
 oP kk18 (.len (t17)),
 oM kk4 kk18])
 (.seq (.block 0 (.loop (.seq (.seq (cR [ oM kk19 kk4,
 oP kk20 (.bin .geq (t19) (.c (nI (8))))])
 (.cond (t20)
 .skip
 (.exit 0)))
 (.block 1 (.seq (cR [ oM kk21 kk1,
 oP kk22 (.bin .rem (t21) (.c (.int .u64 (.ofNat 100000000)))),
 oP kk23 (.conv .u32 (t22)),
 oM kk5 kk23])
 (.seq (cR [ oM kk24 kk1,
 oP kk25 (.bin .quo (t24) (.c (.int .u64 (.ofNat 100000000)))),
 oM kk1 kk25])
 (.seq (cR [ oM kk26 kk5,
 oP kk27 (.bin .quo (t26) (.c (.int .u32 (.ofNat 10000)))),
 oM kk28 kk5,
 oP kk29 (.bin .rem (t28) (.c (.int .u32 (.ofNat 10000)))),
 oM kk6 kk27,
 oM kk7 kk29])
 (.seq (cR [ oM kk30 kk7,
 oP kk31 (.bin .quo (t30) (.c (.int .u32 (.ofNat 100)))),
 oP kk32 (.bin .mul (t31) (.c (.int .u32 (.ofNat 2)))),
 oM kk33 kk7,
 oP kk34 (.bin .rem (t33) (.c (.int .u32 (.ofNat 100)))),
 oP kk35 (.bin .mul (t34) (.c (.int .u32 (.ofNat 2)))),
 oM kk8 kk32,
 oM kk9 kk35])
 (.seq (cR [ oM kk36 kk6,
 oP kk37 (.bin .quo (t36) (.c (.int .u32 (.ofNat 100)))),
 oP kk38 (.bin .mul (t37) (.c (.int .u32 (.ofNat 2)))),
 oM kk39 kk6,
 oP kk40 (.bin .rem (t39) (.c (.int .u32 (.ofNat 100)))),
 oP kk41 (.bin .mul (t40) (.c (.int .u32 (.ofNat 2)))),
 oM kk10 kk38,
 oM kk11 kk41])
 (.seq (cD [ oM kk42 kk0,
 oM kk43 kk4,
 oP kk44 (.bin .sub (t43) (.c (nI (1)))),
 oM kk45 kk0,
 oM kk46 kk4,
 oP kk47 (.bin .sub (t46) (.c (nI (2)))),
 oM kk48 kk9,
 oP kk49 (.bin .add (t48) (.c (.int .u32 (.ofNat 1)))),
 oP kk50 (.idxStr (.c (.str 200 9938655150514779720929161263213647789093395803754561035662628441001274968862597953692946393464194303251501229616933063375291039650253924995779037586872666250072396106842829501851083234932712366962979930255066872747696324303968523733872590022915936937156789320557469720923390131174387415513794469201054844961267015441141542819553679203788501627738430154234325528792480477051962324423099068299719245009424585859096469223093538032153047611602695245052081125123941502624659711709950000)) (t49)),
 oM kk51 kk9,
 oP kk52 (.idxStr (.c (.str 200 9938655150514779720929161263213647789093395803754561035662628441001274968862597953692946393464194303251501229616933063375291039650253924995779037586872666250072396106842829501851083234932712366962979930255066872747696324303968523733872590022915936937156789320557469720923390131174387415513794469201054844961267015441141542819553679203788501627738430154234325528792480477051962324423099068299719245009424585859096469223093538032153047611602695245052081125123941502624659711709950000)) (t51)),
 oP kk53 (.idxSl 1 (t42) (t44)),
 ⟨none, none, some [], .store 1 (t53) (t50)⟩,
 oP kk54 (.idxSl 1 (t45) (t47)),
 ⟨none, none, some [], .store 1 (t54) (t52)⟩])
 (.seq (cD [ oM kk55 kk0,
 oM kk56 kk4,
 oP kk57 (.bin .sub (t56) (.c (nI (3)))),
 oM kk58 kk0,
 oM kk59 kk4,
 oP kk60 (.bin .sub (t59) (.c (nI (4)))),
 oM kk61 kk8,
 oP kk62 (.bin .add (t61) (.c (.int .u32 (.ofNat 1)))),
 oP kk63 (.idxStr (.c (.str 200 9938655150514779720929161263213647789093395803754561035662628441001274968862597953692946393464194303251501229616933063375291039650253924995779037586872666250072396106842829501851083234932712366962979930255066872747696324303968523733872590022915936937156789320557469720923390131174387415513794469201054844961267015441141542819553679203788501627738430154234325528792480477051962324423099068299719245009424585859096469223093538032153047611602695245052081125123941502624659711709950000)) (t62)),
 oM kk64 kk8,
 oP kk65 (.idxStr (.c (.str 200 9938655150514779720929161263213647789093395803754561035662628441001274968862597953692946393464194303251501229616933063375291039650253924995779037586872666250072396106842829501851083234932712366962979930255066872747696324303968523733872590022915936937156789320557469720923390131174387415513794469201054844961267015441141542819553679203788501627738430154234325528792480477051962324423099068299719245009424585859096469223093538032153047611602695245052081125123941502624659711709950000)) (t64)),
 oP kk66 (.idxSl 1 (t55) (t57)),
 ⟨none, none, some [], .store 1 (t66) (t63)⟩,
 oP kk67 (.idxSl 1 (t58) (t60)),
 ⟨none, none, some [], .store 1 (t67) (t65)⟩])
 (.seq (cD [ oM kk68 kk0,
 oM kk69 kk4,
 oP kk70 (.bin .sub (t69) (.c (nI (5)))),
 oM kk71 kk0,
 oM kk72 kk4,
 oP kk73 (.bin .sub (t72) (.c (nI (6)))),
 oM kk74 kk11,
 oP kk75 (.bin .add (t74) (.c (.int .u32 (.ofNat 1)))),
 oP kk76 (.idxStr (.c (.str 200 9938655150514779720929161263213647789093395803754561035662628441001274968862597953692946393464194303251501229616933063375291039650253924995779037586872666250072396106842829501851083234932712366962979930255066872747696324303968523733872590022915936937156789320557469720923390131174387415513794469201054844961267015441141542819553679203788501627738430154234325528792480477051962324423099068299719245009424585859096469223093538032153047611602695245052081125123941502624659711709950000)) (t75)),
 oM kk77 kk11,
 oP kk78 (.idxStr (.c (.str 200 9938655150514779720929161263213647789093395803754561035662628441001274968862597953692946393464194303251501229616933063375291039650253924995779037586872666250072396106842829501851083234932712366962979930255066872747696324303968523733872590022915936937156789320557469720923390131174387415513794469201054844961267015441141542819553679203788501627738430154234325528792480477051962324423099068299719245009424585859096469223093538032153047611602695245052081125123941502624659711709950000)) (t77)),
 oP kk79 (.idxSl 1 (t68) (t70)),
 ⟨none, none, some [], .store 1 (t79) (t76)⟩,
 oP kk80 (.idxSl 1 (t71) (t73)),
 ⟨none, none, some [], .store 1 (t80) (t78)⟩])
 (.seq (cD [ oM kk81 kk0,
 oM kk82 kk4,
 oP kk83 (.bin .sub (t82) (.c (nI (7)))),
 oM kk84 kk0,
 oM kk85 kk4,
 oP kk86 (.bin .sub (t85) (.c (nI (8)))),
 oM kk87 kk10,
 oP kk88 (.bin .add (t87) (.c (.int .u32 (.ofNat 1)))),
 oP kk89 (.idxStr (.c (.str 200 9938655150514779720929161263213647789093395803754561035662628441001274968862597953692946393464194303251501229616933063375291039650253924995779037586872666250072396106842829501851083234932712366962979930255066872747696324303968523733872590022915936937156789320557469720923390131174387415513794469201054844961267015441141542819553679203788501627738430154234325528792480477051962324423099068299719245009424585859096469223093538032153047611602695245052081125123941502624659711709950000)) (t88)),
 oM kk90 kk10,
 oP kk91 (.idxStr (.c (.str 200 9938655150514779720929161263213647789093395803754561035662628441001274968862597953692946393464194303251501229616933063375291039650253924995779037586872666250072396106842829501851083234932712366962979930255066872747696324303968523733872590022915936937156789320557469720923390131174387415513794469201054844961267015441141542819553679203788501627738430154234325528792480477051962324423099068299719245009424585859096469223093538032153047611602695245052081125123941502624659711709950000)) (t90)),
 oP kk92 (.idxSl 1 (t81) (t83)),
 ⟨none, none, some [], .store 1 (t92) (t89)⟩,
 oP kk93 (.idxSl 1 (t84) (t86)),
 ⟨none, none, some [], .store 1 (t93) (t91)⟩])
 (cR [ oM kk94 kk4,
 oP kk95 (.bin .sub (t94) (.c (nI (8)))),
 oM kk4 kk95]))))))))))))))
 (.seq (cR [ oM kk96 kk1,
 oP kk97 (.conv .u32 (t96)),
 oM kk12 kk97])
 (.seq (.seq (cR [ oM kk98 kk4,
 oP kk99 (.bin .geq (t98) (.c (nI (4))))])
 (.cond (t99)
 (.seq (cR [ oM kk100 kk12,
 oP kk101 (.bin .rem (t100) (.c (.int .u32 (.ofNat 10000)))),
 oM kk13 kk101])
 (.seq (cR [ oM kk102 kk12,
 oP kk103 (.bin .quo (t102) (.c (.int .u32 (.ofNat 10000)))),
 oM kk12 kk103])
 (.seq (cR [ oM kk104 kk13,
 oP kk105 (.bin .quo (t104) (.c (.int .u32 (.ofNat 100)))),
 oP kk106 (.bin .mul (t105) (.c (.int .u32 (.ofNat 2)))),
 oM kk107 kk13,
 oP kk108 (.bin .rem (t107) (.c (.int .u32 (.ofNat 100)))),
 oP kk109 (.bin .mul (t108) (.c (.int .u32 (.ofNat 2)))),
 oM kk14 kk106,
 oM kk15 kk109])
 (.seq (cD [ oM kk110 kk0,
 oM kk111 kk4,
 oP kk112 (.bin .sub (t111) (.c (nI (1)))),
 oM kk113 kk0,
 oM kk114 kk4,
 oP kk115 (.bin .sub (t114) (.c (nI (2)))),
 oM kk116 kk15,
 oP kk117 (.bin .add (t116) (.c (.int .u32 (.ofNat 1)))),
 oP kk118 (.idxStr (.c (.str 200 9938655150514779720929161263213647789093395803754561035662628441001274968862597953692946393464194303251501229616933063375291039650253924995779037586872666250072396106842829501851083234932712366962979930255066872747696324303968523733872590022915936937156789320557469720923390131174387415513794469201054844961267015441141542819553679203788501627738430154234325528792480477051962324423099068299719245009424585859096469223093538032153047611602695245052081125123941502624659711709950000)) (t117)),
 oM kk119 kk15,
 oP kk120 (.idxStr (.c (.str 200 9938655150514779720929161263213647789093395803754561035662628441001274968862597953692946393464194303251501229616933063375291039650253924995779037586872666250072396106842829501851083234932712366962979930255066872747696324303968523733872590022915936937156789320557469720923390131174387415513794469201054844961267015441141542819553679203788501627738430154234325528792480477051962324423099068299719245009424585859096469223093538032153047611602695245052081125123941502624659711709950000)) (t119)),
 oP kk121 (.idxSl 1 (t110) (t112)),
 ⟨none, none, some [], .store 1 (t121) (t118)⟩,
 oP kk122 (.idxSl 1 (t113) (t115)),
 ⟨none, none, some [], .store 1 (t122) (t120)⟩])
 (.seq (cD [ oM kk123 kk0,
 oM kk124 kk4,
 oP kk125 (.bin .sub (t124) (.c (nI (3)))),
 oM kk126 kk0,
 oM kk127 kk4,
 oP kk128 (.bin .sub (t127) (.c (nI (4)))),
 oM kk129 kk14,
 oP kk130 (.bin .add (t129) (.c (.int .u32 (.ofNat 1)))),
 oP kk131 (.idxStr (.c (.str 200 9938655150514779720929161263213647789093395803754561035662628441001274968862597953692946393464194303251501229616933063375291039650253924995779037586872666250072396106842829501851083234932712366962979930255066872747696324303968523733872590022915936937156789320557469720923390131174387415513794469201054844961267015441141542819553679203788501627738430154234325528792480477051962324423099068299719245009424585859096469223093538032153047611602695245052081125123941502624659711709950000)) (t130)),
 oM kk132 kk14,
 oP kk133 (.idxStr (.c (.str 200 9938655150514779720929161263213647789093395803754561035662628441001274968862597953692946393464194303251501229616933063375291039650253924995779037586872666250072396106842829501851083234932712366962979930255066872747696324303968523733872590022915936937156789320557469720923390131174387415513794469201054844961267015441141542819553679203788501627738430154234325528792480477051962324423099068299719245009424585859096469223093538032153047611602695245052081125123941502624659711709950000)) (t132)),
 oP kk134 (.idxSl 1 (t123) (t125)),
 ⟨none, none, some [], .store 1 (t134) (t131)⟩,
 oP kk135 (.idxSl 1 (t126) (t128)),
 ⟨none, none, some [], .store 1 (t135) (t133)⟩])
 (cR [ oM kk136 kk4,
 oP kk137 (.bin .sub (t136) (.c (nI (4)))),
 oM kk4 kk137]))))))
 .skip))
 (.seq (.seq (cR [ oM kk138 kk4,
 oP kk139 (.bin .geq (t138) (.c (nI (2))))])
 (.cond (t139)
 (.seq (cR [ oM kk140 kk12,
 oP kk141 (.bin .rem (t140) (.c (.int .u32 (.ofNat 100)))),
 oP kk142 (.bin .mul (t141) (.c (.int .u32 (.ofNat 2)))),
 oM kk16 kk142])
 (.seq (cR [ oM kk143 kk12,
 oP kk144 (.bin .quo (t143) (.c (.int .u32 (.ofNat 100)))),
 oM kk12 kk144])
 (.seq (cD [ oM kk145 kk0,
 oM kk146 kk4,
 oP kk147 (.bin .sub (t146) (.c (nI (1)))),
 oM kk148 kk0,
 oM kk149 kk4,
 oP kk150 (.bin .sub (t149) (.c (nI (2)))),
 oM kk151 kk16,
 oP kk152 (.bin .add (t151) (.c (.int .u32 (.ofNat 1)))),
 oP kk153 (.idxStr (.c (.str 200 9938655150514779720929161263213647789093395803754561035662628441001274968862597953692946393464194303251501229616933063375291039650253924995779037586872666250072396106842829501851083234932712366962979930255066872747696324303968523733872590022915936937156789320557469720923390131174387415513794469201054844961267015441141542819553679203788501627738430154234325528792480477051962324423099068299719245009424585859096469223093538032153047611602695245052081125123941502624659711709950000)) (t152)),
 oM kk154 kk16,
 oP kk155 (.idxStr (.c (.str 200 9938655150514779720929161263213647789093395803754561035662628441001274968862597953692946393464194303251501229616933063375291039650253924995779037586872666250072396106842829501851083234932712366962979930255066872747696324303968523733872590022915936937156789320557469720923390131174387415513794469201054844961267015441141542819553679203788501627738430154234325528792480477051962324423099068299719245009424585859096469223093538032153047611602695245052081125123941502624659711709950000)) (t154)),
 oP kk156 (.idxSl 1 (t145) (t147)),
 ⟨none, none, some [], .store 1 (t156) (t153)⟩,
 oP kk157 (.idxSl 1 (t148) (t150)),
 ⟨none, none, some [], .store 1 (t157) (t155)⟩])
 (cR [ oM kk158 kk4,
 oP kk159 (.bin .sub (t158) (.c (nI (2)))),
 oM kk4 kk159]))))
 .skip))
 (.seq (cR [ oM kk160 kk4,
 oP kk161 (.bin .gtr (t160) (.c (nI (0))))])
 (.cond (t161)
 (cR [ oM kk162 kk0,
 oM kk163 kk12,
 oP kk164 (.bin .add (.c (.int .u32 (.ofNat 48))) (t163)),
 oP kk165 (.conv .u8 (t164)),
 oP kk166 (.idxSl 1 (t162) (.c (nI (0)))),
 oN (.store 1 (t166) (t165))])
 .skip))))))) }
theorem fn257 : fnOf Tryz.prog Tryz.f257 = some i257 := by kernel_rfl
noncomputable def i258 : IFn := { nt := 102, ps := [kk0, kk1, kk2, kk3, kk4], res := [.tmp kk10, .tmp kk11], body :=
 (.seq (cR [ oC kk10 .nilslice,
 oC kk11 (.str 0 0)])
 (.seq (.seq (cR [ oM kk19 kk2,
 oP kk20 (.bin .lss (t19) (.c (nI (2)))),
 oM kk21 kk20,
 oG kk22 kk21 false kk2,
 oX kk23 kk21 false (.bin .eql (t22) (.c (nI (10)))),
 oP kk24 (.pick (t21) (.c (.bool true)) (t23)),
 oM kk25 kk24,
 oG kk26 kk25 false kk2,
 oX kk27 kk25 false (.bin .gtr (t26) (.c (nI (36)))),
 oP kk28 (.pick (t25) (.c (.bool true)) (t27))])
 (.cond (t28)
 (cR [ oP kk29 (.mkif 9 (.c (.str 41 216697390027125670893655747107225825579143285394002440301576320671928898198549784051036142863283315))),
 oN (.callv (.c .nilptr) [])])
 .skip))
 (.seq (cR [ oP kk12 (.boxz 348 65 65 [(.int .u8 (.ofNat 0)), (.int .u8 (.ofNat 0)), (.int .u8 (.ofNat 0)), (.int .u8 (.ofNat 0)), (.int .u8 (.ofNat 0)), (.int .u8 (.ofNat 0)), (.int .u8 (.ofNat 0)), (.int .u8 (.ofNat 0)), (.int .u8 (.ofNat 0)), (.int .u8 (.ofNat 0)), (.int .u8 (.ofNat 0)), (.int .u8 (.ofNat 0)), (.int .u8 (.ofNat 0)), (.int .u8 (.ofNat 0)), (.int .u8 (.ofNat 0)), (.int .u8 (.ofNat 0)), (.int .u8 (.ofNat 0)), (.int .u8 (.ofNat 0)), (.int .u8 (.ofNat 0)), (.int .u8 (.ofNat 0)), (.int .u8 (.ofNat 0)), (.int .u8 (.ofNat 0)), (.int .u8 (.ofNat 0)), (.int .u8 (.ofNat 0)), (.int .u8 (.ofNat 0)), (.int .u8 (.ofNat 0)), (.int .u8 (.ofNat 0)), (.int .u8 (.ofNat 0)), (.int .u8 (.ofNat 0)), (.int .u8 (.ofNat 0)), (.int .u8 (.ofNat 0)), (.int .u8 (.ofNat 0)), (.int .u8 (.ofNat 0)), (.int .u8 (.ofNat 0)), (.int .u8 (.ofNat 0)), (.int .u8 (.ofNat 0)), (.int .u8 (.ofNat 0)), (.int .u8 (.ofNat 0)), (.int .u8 (.ofNat 0)), (.int .u8 (.ofNat 0)), (.int .u8 (.ofNat 0)), (.int .u8 (.ofNat 0)), (.int .u8 (.ofNat 0)), (.int .u8 (.ofNat 0)), (.int .u8 (.ofNat 0)), (.int .u8 (.ofNat 0)), (.int .u8 (.ofNat 0)), (.int .u8 (.ofNat 0)), (.int .u8 (.ofNat 0)), (.int .u8 (.ofNat 0)), (.int .u8 (.ofNat 0)), (.int .u8 (.ofNat 0)), (.int .u8 (.ofNat 0)), (.int .u8 (.ofNat 0)), (.int .u8 (.ofNat 0)), (.int .u8 (.ofNat 0)), (.int .u8 (.ofNat 0)), (.int .u8 (.ofNat 0)), (.int .u8 (.ofNat 0)), (.int .u8 (.ofNat 0)), (.int .u8 (.ofNat 0)), (.int .u8 (.ofNat 0)), (.int .u8 (.ofNat 0)), (.int .u8 (.ofNat 0)), (.int .u8 (.ofNat 0))])])
 (.seq (cR [ oC kk13 (nI 65)])
 (.seq (.seq (cR [ oM kk30 kk3])
 (.cond (t30)
 (cR [ oM kk31 kk1,
 oP kk32 (.un .neg (t31)),
 oM kk1 kk32])
 .skip))
 (.seq (.seq (cR [ oM kk33 kk2,
 oP kk34 (.call 284 [(t33)])])
 (.cond (t34)
 (.seq (cR [ oM kk35 kk2,
 oP kk36 (.conv .u64 (t35)),
 oP kk37 (.call 285 [(t36)]),
 oP kk38 (.conv .u64 (t37)),
 oM kk14 kk38])
 (.seq (cR [ oM kk39 kk2,
 oP kk40 (.conv .u64 (t39)),
 oM kk15 kk40])
 (.seq (cR [ oM kk41 kk2,
 oP kk42 (.conv .u64 (t41)),
 oP kk43 (.bin .sub (t42) (.c (.int .u64 (.ofNat 1)))),
 oM kk16 kk43])
 (.seq (.block 0 (.loop (.seq (.seq (cR [ oM kk44 kk1,
 oM kk45 kk15,
 oP kk46 (.bin .geq (t44) (t45))])
 (.cond (t46)
 .skip
 (.exit 0)))
 (.block 1 (.seq (cR [ oM kk47 kk13,
 oP kk48 (.bin .sub (t47) (.c (nI (1)))),
 oM kk13 kk48])
 (.seq (cR [ oM kk49 kk13,
 oM kk50 kk1,
 oM kk51 kk16,
 oP kk52 (.bin .and (t50) (t51)),
 oP kk53 (.idxStr (.c (.str 36 237927390410950444456928663707796224754864904193074819559483181009558347043374296609072)) (t52)),
 oP kk54 (.idxArr 65 1 (t12) (t49)),
 oN (.store 1 (t54) (t53))])
 (cR [ oM kk55 kk1,
 oM kk56 kk14,
 oP kk57 (.bin .shr (t55) (t56)),
 oM kk1 kk57])))))))
 (.seq (cR [ oM kk58 kk13,
 oP kk59 (.bin .sub (t58) (.c (nI (1)))),
 oM kk13 kk59])
 (cR [ oM kk60 kk13,
 oM kk61 kk1,
 oP kk62 (.idxStr (.c (.str 36 237927390410950444456928663707796224754864904193074819559483181009558347043374296609072)) (t61)),
 oP kk63 (.idxArr 65 1 (t12) (t60)),
 oN (.store 1 (t63) (t62))]))))))
 (.seq (cR [ oM kk64 kk2,
 oP kk65 (.conv .u64 (t64)),
 oM kk17 kk65])
 (.seq (.block 2 (.loop (.seq (.seq (cR [ oM kk66 kk1,
 oM kk67 kk17,
 oP kk68 (.bin .geq (t66) (t67))])
 (.cond (t68)
 .skip
 (.exit 2)))
 (.block 3 (.seq (cR [ oM kk69 kk13,
 oP kk70 (.bin .sub (t69) (.c (nI (1)))),
 oM kk13 kk70])
 (.seq (cR [ oM kk71 kk1,
 oM kk72 kk17,
 oP kk73 (.bin .quo (t71) (t72)),
 oM kk18 kk73])
 (.seq (cR [ oM kk74 kk13,
 oM kk75 kk1,
 oM kk76 kk18,
 oM kk77 kk17,
 oP kk78 (.bin .mul (t76) (t77)),
 oP kk79 (.bin .sub (t75) (t78)),
 oP kk80 (.idxStr (.c (.str 36 237927390410950444456928663707796224754864904193074819559483181009558347043374296609072)) (t79)),
 oP kk81 (.idxArr 65 1 (t12) (t74)),
 oN (.store 1 (t81) (t80))])
 (cR [ oM kk82 kk18,
 oM kk1 kk82]))))))))
 (.seq (cR [ oM kk83 kk13,
 oP kk84 (.bin .sub (t83) (.c (nI (1)))),
 oM kk13 kk84])
 (cR [ oM kk85 kk13,
 oM kk86 kk1,
 oP kk87 (.idxStr (.c (.str 36 237927390410950444456928663707796224754864904193074819559483181009558347043374296609072)) (t86)),
 oP kk88 (.idxArr 65 1 (t12) (t85)),
 oN (.store 1 (t88) (t87))]))))))
 (.seq (.seq (cR [ oM kk89 kk3])
 (.cond (t89)
 (.seq (cR [ oM kk90 kk13,
 oP kk91 (.bin .sub (t90) (.c (nI (1)))),
 oM kk13 kk91])
 (cR [ oM kk92 kk13,
 oP kk93 (.idxArr 65 1 (t12) (t92)),
 oN (.store 1 (t93) (.c (.int .u8 (.ofNat 45))))]))
 .skip))
 (.seq (.seq (cR [ oM kk94 kk4])
 (.cond (t94)
 (.seq (cR [ oM kk95 kk0,
 oM kk96 kk13,
 oP kk97 (.callv (.c .nilptr) []),
 oP kk98 (.app 5 1 1 (t95) (t97)),
 oM kk10 kk98])
 .ret)
 .skip))
 (.seq (cR [ oM kk99 kk13,
 oP kk100 (.callv (.c .nilptr) []),
 oP kk101 (.convBS (t100)),
 oM kk11 kk101])
 .ret))))))))) }
theorem fn258 : fnOf Tryz.prog Tryz.f258 = some i258 := by kernel_rfl
noncomputable def i259 : IFn := { nt := 9, ps := [kk0], res := [.tmp kk2], body :=
 (.seq (cR [ oC kk2 (.bool false)])
 (.seq (cR [ oM kk3 kk0,
 oP kk4 (.bin .geq (t3) (.c (nI (0)))),
 oM kk5 kk4,
 oG kk6 kk5 true kk0,
 oX kk7 kk5 true (.bin .lss (t6) (.c (nI (1000000)))),
 oP kk8 (.pick (t5) (t7) (.c (.bool false))),
 oM kk2 kk8])
 .ret)) }
theorem fn259 : fnOf Tryz.prog Tryz.f259 = some i259 := by kernel_rfl
noncomputable def i260 : IFn := { nt := 20, ps := [kk0], res := [.tmp kk2], body :=
 (.seq (cR [ oC kk2 (nI 0)])
 (.seq (cR [ oM kk4 kk0,
 oP kk5 (.bin .sub (t4) (.c (nI (1600)))),
 oM kk3 kk5])
 (.seq (cR [ oM kk6 kk3,
 oP kk7 (.bin .mul (.c (nI (365))) (t6)),
 oM kk8 kk3,
 oP kk9 (.bin .add (t8) (.c (nI (3)))),
 oP kk10 (.bin .quo (t9) (.c (nI (4)))),
 oP kk11 (.bin .add (t7) (t10)),
 oM kk12 kk3,
 oP kk13 (.bin .add (t12) (.c (nI (99)))),
 oP kk14 (.bin .quo (t13) (.c (nI (100)))),
 oP kk15 (.bin .sub (t11) (t14)),
 oM kk16 kk3,
 oP kk17 (.bin .add (t16) (.c (nI (399)))),
 oP kk18 (.bin .quo (t17) (.c (nI (400)))),
 oP kk19 (.bin .add (t15) (t18)),
 oM kk2 kk19])
 .ret))) }
theorem fn260 : fnOf Tryz.prog Tryz.f260 = some i260 := by kernel_rfl
noncomputable def i261 : IFn := { nt := 23, ps := [kk0, kk1], res := [.tmp kk4], body :=
 (.seq (cR [ oC kk4 (nI 0)])
 (.seq (.seq (cR [ oM kk5 kk1])
 (.block 0 (.seq (.seq (cR [ oP kk7 (.bin .eql (t5) (.c (nI (1)))),
 oM kk6 kk7])
 (.cond (t6)
 .skip
 (.seq (cR [ oP kk8 (.bin .eql (t5) (.c (nI (3)))),
 oM kk6 kk8])
 (.cond (t6)
 .skip
 (.seq (cR [ oP kk9 (.bin .eql (t5) (.c (nI (5)))),
 oM kk6 kk9])
 (.cond (t6)
 .skip
 (.seq (cR [ oP kk10 (.bin .eql (t5) (.c (nI (7)))),
 oM kk6 kk10])
 (.cond (t6)
 .skip
 (.seq (cR [ oP kk11 (.bin .eql (t5) (.c (nI (8)))),
 oM kk6 kk11])
 (.cond (t6)
 .skip
 (.seq (cR [ oP kk12 (.bin .eql (t5) (.c (nI (10)))),
 oM kk6 kk12])
 (.cond (t6)
 .skip
 (cR [ oP kk13 (.bin .eql (t5) (.c (nI (12)))),
 oM kk6 kk13])))))))))))))
 (.cond (t6)
 (.seq (cR [ oC kk4 (nI 31)])
 .ret)
 (.seq (.seq (cR [ oP kk15 (.bin .eql (t5) (.c (nI (4)))),
 oM kk14 kk15])
 (.cond (t14)
 .skip
 (.seq (cR [ oP kk16 (.bin .eql (t5) (.c (nI (6)))),
 oM kk14 kk16])
 (.cond (t14)
 .skip
 (.seq (cR [ oP kk17 (.bin .eql (t5) (.c (nI (9)))),
 oM kk14 kk17])
 (.cond (t14)
 .skip
 (cR [ oP kk18 (.bin .eql (t5) (.c (nI (11)))),
 oM kk14 kk18])))))))
 (.cond (t14)
 (.seq (cR [ oC kk4 (nI 30)])
 .ret)
 (.seq (cR [ oP kk20 (.bin .eql (t5) (.c (nI (2)))),
 oM kk19 kk20])
 (.cond (t19)
 (.seq (.seq (cR [ oM kk21 kk0,
 oP kk22 (.call 286 [(t21)])])
 (.cond (t22)
 (.seq (cR [ oC kk4 (nI 29)])
 .ret)
 .skip))
 (.seq (cR [ oC kk4 (nI 28)])
 .ret))
 .skip))))))))
 (.seq (cR [ oC kk4 (nI 0)])
 .ret))) }
theorem fn261 : fnOf Tryz.prog Tryz.f261 = some i261 := by kernel_rfl
noncomputable def i262 : IFn := { nt := 3, ps := [kk0], res := [.tmp kk2], body :=
 (.seq (cR [ oC kk2 (nI 0)])
 (.seq (cR [ oC kk2 (nI 0)])
 .ret)) }
theorem fn262 : fnOf Tryz.prog Tryz.f262 = some i262 := by kernel_rfl
noncomputable def i263 : IFn := { nt := 31, ps := [kk0], res := [.tmp kk2], body :=
 (.seq (cR [ oC kk2 (.bool false)])
 (.seq (cR [ oM kk4 kk0,
 oP kk5 (.call 165 [(t4)]),
 oP kk3 (.boxz 127 3 32 [(nI (0)), (nI (0)), (.str 0 0)]),
 oN (.store 3 (t3) (t5))])
 (.seq (.seq (cR [ oP kk6 (.offs (t3) 0),
 oP kk7 (.load 1 false (t6))])
 (.block 0 (.seq (.seq (cR [ oP kk9 (.bin .eql (t7) (.c (nI (3)))),
 oM kk8 kk9])
 (.cond (t8)
 .skip
 (cR [ oP kk10 (.bin .eql (t7) (.c (nI (4)))),
 oM kk8 kk10])))
 (.cond (t8)
 (.seq (cR [ oC kk2 (.bool true)])
 .ret)
 (.seq (cR [ oP kk12 (.bin .eql (t7) (.c (nI (5)))),
 oM kk11 kk12])
 (.cond (t11)
 (.seq (cR [ oP kk13 (.offs (t3) 2),
 oP kk14 (.load 1 false (t13)),
 oP kk15 (.bin .eql (t14) (.c (.str 1 45))),
 oM kk2 kk15])
 .ret)
 (.seq (cR [ oP kk17 (.bin .eql (t7) (.c (nI (1)))),
 oM kk16 kk17])
 (.cond (t16)
 (.seq (cR [ oP kk18 (.offs (t3) 2),
 oP kk19 (.load 1 false (t18)),
 oP kk20 (.bin .eql (t19) (.c (.str 4 1163219540))),
 oM kk21 kk20,
 oX kk22 kk21 false (.offs (t3) 2),
 oX kk23 kk21 false (.load 1 false (t22)),
 oX kk24 kk21 false (.bin .eql (t23) (.c (.str 5 297750249798))),
 oP kk25 (.pick (t21) (.c (.bool true)) (t24)),
 oM kk26 kk25,
 oX kk27 kk26 false (.offs (t3) 2),
 oX kk28 kk26 false (.load 1 false (t27)),
 oX kk29 kk26 false (.bin .eql (t28) (.c (.str 4 1280070990))),
 oP kk30 (.pick (t26) (.c (.bool true)) (t29)),
 oM kk2 kk30])
 .ret)
 .skip))))))))
 (.seq (cR [ oC kk2 (.bool false)])
 .ret)))) }
theorem fn263 : fnOf Tryz.prog Tryz.f263 = some i263 := by kernel_rfl
noncomputable def i264 : IFn := { nt := 11, ps := [kk0, kk1], res := [.cell kk4 3 true], body :=
 (.seq (cR [ oP kk3 (.box 4 1 1 (t1)),
 oP kk4 (.boxz 153 3 32 [(nI (0)), (nI (0)), (.str 0 0)])])
 (.seq (cR [ oP kk6 (.build [(nI (0)), (nI (0)), (.str 0 0)] [(0, 1, (.c (nI (1))))]),
 oP kk5 (.boxz 153 3 32 [(nI (0)), (nI (0)), (.str 0 0)]),
 oN (.store 3 (t5) (t6))])
 (.seq (cR [ oM kk7 kk0,
 oP kk8 (.mkfn 287 [] [(t3), (t5)]),
 oP kk9 (.call 236 [(t7), (.c (nI (3))), (t8)])])
 (.seq (cR [ oP kk10 (.load 3 true (t5)),
 oN (.store 3 (t4) (t10))])
 .ret)))) }
theorem fn264 : fnOf Tryz.prog Tryz.f264 = some i264 := by kernel_rfl
noncomputable def i265 : IFn := { nt := 13, ps := [kk0, kk1], res := [.tmp kk3], body :=
 (.seq (cR [ oC kk3 (nI 0)])
 (.seq (cR [ oM kk7 kk0,
 oP kk8 (.call 266 [(t7)]),
 oM kk6 kk8,
 oP kk9 (.extr (t6) 0),
 oP kk10 (.extr (t6) 1),
 oP kk4 (.boxz 50 2 16 [(nI (0)), (nI (0))]),
 oN (.store 2 (t4) (t9)),
 oM kk5 kk10])
 (.seq (cR [ oP kk11 (.load 2 true (t4)),
 oN (.store 2 (t1) (t11))])
 (.seq (cR [ oM kk12 kk5,
 oM kk3 kk12])
 .ret)))) }
theorem fn265 : fnOf Tryz.prog Tryz.f265 = some i265 := by kernel_rfl
noncomputable def i266 : IFn := { nt := 70, ps := [kk0], res := [.cell kk2 2 true, .tmp kk3], body :=
 (.seq (cR [ oP kk2 (.boxz 50 2 16 [(nI (0)), (nI (0))]),
 oC kk3 (nI 0)])
 (.seq (cR [ oM kk12 kk0,
 oP kk13 (.call 289 [(t12), (.c (.str 1 91))]),
 oM kk11 kk13,
 oP kk14 (.extr (t11) 0),
 oP kk15 (.extr (t11) 1),
 oM kk4 kk14,
 oM kk5 kk15])
 (.seq (.seq (cR [ oM kk16 kk5,
 oP kk17 (.un .not (t16))])
 (.cond (t17)
 (.seq (cR [ oP kk18 (.build [(nI (0)), (nI (0))] []),
 oN (.store 2 (t2) (t18)),
 oC kk3 (nI 5)])
 .ret)
 .skip))
 (.seq (cR [ oM kk20 kk4,
 oP kk21 (.call 290 [(t20), (.c (.str 1 44))]),
 oM kk19 kk21,
 oP kk22 (.extr (t19) 0),
 oP kk23 (.extr (t19) 1),
 oP kk24 (.extr (t19) 2),
 oM kk6 kk22,
 oM kk7 kk23,
 oM kk5 kk24])
 (.seq (.seq (cR [ oM kk25 kk5,
 oP kk26 (.un .not (t25)),
 oM kk27 kk26,
 oG kk28 kk27 false kk7,
 oX kk29 kk27 false (.call 291 [(t28), (.c (.str 1 32))]),
 oX kk30 kk27 false (.un .not (t29)),
 oP kk31 (.pick (t27) (.c (.bool true)) (t30)),
 oM kk32 kk31,
 oG kk33 kk32 false kk7,
 oX kk34 kk32 false (.call 164 [(t33), (.c (.int .u8 (.ofNat 41)))]),
 oG kk35 kk32 false kk7,
 oX kk36 kk32 false (.lenS (t35)),
 oX kk37 kk32 false (.bin .sub (t36) (.c (nI (1)))),
 oX kk38 kk32 false (.bin .neq (t34) (t37)),
 oP kk39 (.pick (t32) (.c (.bool true)) (t38))])
 (.cond (t39)
 (.seq (cR [ oP kk40 (.build [(nI (0)), (nI (0))] []),
 oN (.store 2 (t2) (t40)),
 oC kk3 (nI 5)])
 .ret)
 .skip))
 (.seq (cR [ oM kk42 kk6,
 oP kk43 (.call 268 [(t42)]),
 oM kk41 kk43,
 oP kk44 (.extr (t41) 0),
 oP kk45 (.extr (t41) 1),
 oM kk8 kk44,
 oM kk9 kk45])
 (.seq (.seq (cR [ oM kk46 kk9,
 oP kk47 (.bin .neq (t46) (.c (nI (0))))])
 (.cond (t47)
 (.seq (cR [ oP kk48 (.build [(nI (0)), (nI (0))] []),
 oM kk49 kk9,
 oN (.store 2 (t2) (t48)),
 oM kk3 kk49])
 .ret)
 .skip))
 (.seq (cR [ oM kk51 kk7,
 oM kk52 kk7,
 oP kk53 (.lenS (t52)),
 oP kk54 (.bin .sub (t53) (.c (nI (1)))),
 oP kk55 (.slStr (t51) (some (.c (nI (1)))) (some (t54))),
 oP kk56 (.call 268 [(t55)]),
 oM kk50 kk56,
 oP kk57 (.extr (t50) 0),
 oP kk58 (.extr (t50) 1),
 oM kk10 kk57,
 oM kk9 kk58])
 (.seq (.seq (cR [ oM kk59 kk9,
 oP kk60 (.bin .neq (t59) (.c (nI (0))))])
 (.cond (t60)
 (.seq (cR [ oP kk61 (.build [(nI (0)), (nI (0))] []),
 oM kk62 kk9,
 oN (.store 2 (t2) (t61)),
 oM kk3 kk62])
 .ret)
 .skip))
 (.seq (.seq (cR [ oM kk63 kk8,
 oM kk64 kk10,
 oP kk65 (.bin .geq (t63) (t64))])
 (.cond (t65)
 (.seq (cR [ oP kk66 (.build [(nI (0)), (nI (0))] []),
 oN (.store 2 (t2) (t66)),
 oC kk3 (nI 10)])
 .ret)
 .skip))
 (.seq (cR [ oM kk67 kk8,
 oM kk68 kk10,
 oP kk69 (.build [(nI (0)), (nI (0))] [(0, 1, (t67)), (1, 1, (t68))]),
 oN (.store 2 (t2) (t69)),
 oC kk3 (nI 0)])
 .ret))))))))))) }
theorem fn266 : fnOf Tryz.prog Tryz.f266 = some i266 := by kernel_rfl
noncomputable def i267 : IFn := { nt := 19, ps := [kk0, kk1], res := [.tmp kk3], body :=
 (.seq (cR [ oC kk3 (nI 0)])
 (.seq (cR [ oM kk7 kk0,
 oP kk8 (.call 268 [(t7)]),
 oM kk6 kk8,
 oP kk9 (.extr (t6) 0),
 oP kk10 (.extr (t6) 1),
 oM kk4 kk9,
 oM kk5 kk10])
 (.seq (.seq (cR [ oM kk11 kk5,
 oP kk12 (.bin .eql (t11) (.c (nI (0)))),
 oM kk13 kk12,
 oG kk14 kk13 true kk4,
 oX kk15 kk13 true (.bin .geq (t14) (.c (nI (1000000)))),
 oP kk16 (.pick (t13) (t15) (.c (.bool false)))])
 (.cond (t16)
 (cR [ oC kk5 (nI 10)])
 .skip))
 (.seq (cR [ oM kk17 kk4,
 oN (.store 1 (t1) (t17))])
 (.seq (cR [ oM kk18 kk5,
 oM kk3 kk18])
 .ret))))) }
theorem fn267 : fnOf Tryz.prog Tryz.f267 = some i267 := by kernel_rfl
noncomputable def i268 : IFn := { nt := 65, ps := [kk0], res := [.tmp kk2, .tmp kk3], body :=
 (.seq (cR [ oC kk2 (nI 0),
 oC kk3 (nI 0)])
 (.seq (.seq (cR [ oM kk12 kk0,
 oP kk13 (.bin .eql (t12) (.c (.str 7 32199706527559526)))])
 (.cond (t13)
 (.seq (cR [ oC kk2 (nI 1000000),
 oC kk3 (nI 0)])
 .ret)
 .skip))
 (.seq (.seq (cR [ oM kk14 kk0,
 oP kk15 (.lenS (t14)),
 oP kk16 (.bin .neq (t15) (.c (nI (10)))),
 oM kk17 kk16,
 oG kk18 kk17 false kk0,
 oX kk19 kk17 false (.idxStr (t18) (.c (nI (4)))),
 oX kk20 kk17 false (.bin .neq (t19) (.c (.int .u8 (.ofNat 45)))),
 oP kk21 (.pick (t17) (.c (.bool true)) (t20)),
 oM kk22 kk21,
 oG kk23 kk22 false kk0,
 oX kk24 kk22 false (.idxStr (t23) (.c (nI (7)))),
 oX kk25 kk22 false (.bin .neq (t24) (.c (.int .u8 (.ofNat 45)))),
 oP kk26 (.pick (t22) (.c (.bool true)) (t25))])
 (.cond (t26)
 (.seq (cR [ oC kk2 (nI 0),
 oC kk3 (nI 5)])
 .ret)
 .skip))
 (.seq (cR [ oM kk28 kk0,
 oP kk29 (.slStr (t28) none (some (.c (nI (4))))),
 oP kk30 (.call 292 [(t29)]),
 oM kk27 kk30,
 oP kk31 (.extr (t27) 0),
 oP kk32 (.extr (t27) 1),
 oM kk4 kk31,
 oM kk5 kk32])
 (.seq (cR [ oM kk34 kk0,
 oP kk35 (.slStr (t34) (some (.c (nI (5)))) (some (.c (nI (7))))),
 oP kk36 (.call 292 [(t35)]),
 oM kk33 kk36,
 oP kk37 (.extr (t33) 0),
 oP kk38 (.extr (t33) 1),
 oM kk6 kk37,
 oM kk7 kk38])
 (.seq (cR [ oM kk40 kk0,
 oP kk41 (.slStr (t40) (some (.c (nI (8)))) none),
 oP kk42 (.call 292 [(t41)]),
 oM kk39 kk42,
 oP kk43 (.extr (t39) 0),
 oP kk44 (.extr (t39) 1),
 oM kk8 kk43,
 oM kk9 kk44])
 (.seq (.seq (cR [ oM kk45 kk5,
 oP kk46 (.un .not (t45)),
 oM kk47 kk46,
 oG kk48 kk47 false kk7,
 oX kk49 kk47 false (.un .not (t48)),
 oP kk50 (.pick (t47) (.c (.bool true)) (t49)),
 oM kk51 kk50,
 oG kk52 kk51 false kk9,
 oX kk53 kk51 false (.un .not (t52)),
 oP kk54 (.pick (t51) (.c (.bool true)) (t53))])
 (.cond (t54)
 (.seq (cR [ oC kk2 (nI 0),
 oC kk3 (nI 5)])
 .ret)
 .skip))
 (.seq (cR [ oM kk56 kk4,
 oM kk57 kk6,
 oM kk58 kk8,
 oP kk59 (.call 293 [(t56), (t57), (t58)]),
 oM kk55 kk59,
 oP kk60 (.extr (t55) 0),
 oP kk61 (.extr (t55) 1),
 oM kk10 kk60,
 oM kk11 kk61])
 (.seq (.seq (cR [ oM kk62 kk11,
 oP kk63 (.un .not (t62))])
 (.cond (t63)
 (.seq (cR [ oC kk2 (nI 0),
 oC kk3 (nI 10)])
 .ret)
 .skip))
 (.seq (cR [ oM kk64 kk10,
 oM kk2 kk64,
 oC kk3 (nI 0)])
 .ret)))))))))) }
theorem fn268 : fnOf Tryz.prog Tryz.f268 = some i268 := by kernel_rfl
noncomputable def i269 : IFn := { nt := 172, ps := [kk0, kk1, kk2], res := [.tmp kk6, .tmp kk7], body :=
 (.seq (cR [ oC kk6 (.int .u64 (.ofNat 0)),
 oC kk7 .niliface])
 (.seq (.seq (cR [ oM kk18 kk0,
 oP kk19 (.bin .eql (t18) (.c (.str 0 0)))])
 (.cond (t19)
 (.seq (cR [ oP kk20 (.mkif 358 (.c (nI (2)))),
 oC kk6 (.int .u64 (.ofNat 0)),
 oM kk7 kk20])
 .ret)
 .skip))
 (.seq (cR [ oM kk21 kk1,
 oP kk22 (.bin .eql (t21) (.c (nI (0)))),
 oM kk8 kk22])
 (.seq (cR [ oM kk23 kk0,
 oM kk9 kk23])
 (.seq (.block 0 (.seq (cR [ oM kk26 kk1,
 oP kk27 (.bin .leq (.c (nI (2))) (t26)),
 oM kk28 kk27,
 oG kk29 kk28 true kk1,
 oX kk30 kk28 true (.bin .leq (t29) (.c (nI (36)))),
 oP kk31 (.pick (t28) (t30) (.c (.bool false))),
 oM kk25 kk31])
 (.cond (t25)
 .skip
 (.seq (cR [ oM kk33 kk1,
 oP kk34 (.bin .eql (t33) (.c (nI (0)))),
 oM kk32 kk34])
 (.cond (t32)
 (.seq (cR [ oC kk1 (nI 10)])
 (.seq (cR [ oM kk35 kk0,
 oP kk36 (.idxStr (t35) (.c (nI (0)))),
 oP kk37 (.bin .eql (t36) (.c (.int .u8 (.ofNat 48))))])
 (.cond (t37)
 (.block 1 (.seq (cR [ oM kk41 kk0,
 oP kk42 (.lenS (t41)),
 oP kk43 (.bin .geq (t42) (.c (nI (3)))),
 oM kk44 kk43,
 oG kk45 kk44 true kk0,
 oX kk46 kk44 true (.idxStr (t45) (.c (nI (1)))),
 oX kk47 kk44 true (.call 294 [(t46)]),
 oX kk48 kk44 true (.bin .eql (t47) (.c (.int .u8 (.ofNat 98)))),
 oP kk49 (.pick (t44) (t48) (.c (.bool false))),
 oM kk40 kk49])
 (.cond (t40)
 (.seq (cR [ oC kk1 (nI 2)])
 (cR [ oM kk50 kk0,
 oP kk51 (.slStr (t50) (some (.c (nI (2)))) none),
 oM kk0 kk51]))
 (.seq (cR [ oM kk53 kk0,
 oP kk54 (.lenS (t53)),
 oP kk55 (.bin .geq (t54) (.c (nI (3)))),
 oM kk56 kk55,
 oG kk57 kk56 true kk0,
 oX kk58 kk56 true (.idxStr (t57) (.c (nI (1)))),
 oX kk59 kk56 true (.call 294 [(t58)]),
 oX kk60 kk56 true (.bin .eql (t59) (.c (.int .u8 (.ofNat 111)))),
 oP kk61 (.pick (t56) (t60) (.c (.bool false))),
 oM kk52 kk61])
 (.cond (t52)
 (.seq (cR [ oC kk1 (nI 8)])
 (cR [ oM kk62 kk0,
 oP kk63 (.slStr (t62) (some (.c (nI (2)))) none),
 oM kk0 kk63]))
 (.seq (cR [ oM kk65 kk0,
 oP kk66 (.lenS (t65)),
 oP kk67 (.bin .geq (t66) (.c (nI (3)))),
 oM kk68 kk67,
 oG kk69 kk68 true kk0,
 oX kk70 kk68 true (.idxStr (t69) (.c (nI (1)))),
 oX kk71 kk68 true (.call 294 [(t70)]),
 oX kk72 kk68 true (.bin .eql (t71) (.c (.int .u8 (.ofNat 120)))),
 oP kk73 (.pick (t68) (t72) (.c (.bool false))),
 oM kk64 kk73])
 (.cond (t64)
 (.seq (cR [ oC kk1 (nI 16)])
 (cR [ oM kk74 kk0,
 oP kk75 (.slStr (t74) (some (.c (nI (2)))) none),
 oM kk0 kk75]))
 (.seq (cR [ oC kk1 (nI 8)])
 (cR [ oM kk38 kk0,
 oP kk39 (.slStr (t38) (some (.c (nI (1)))) none),
 oM kk0 kk39])))))))))
 .skip)))
 (.seq (cR [ oP kk24 (.mkif 358 (.c (nI (3)))),
 oC kk6 (.int .u64 (.ofNat 0)),
 oM kk7 kk24])
 .ret))))))
 (.seq (.seq (cR [ oM kk76 kk2,
 oP kk77 (.bin .eql (t76) (.c (nI (0))))])
 (.cond (t77)
 (cR [ oC kk2 (nI 64)])
 (.seq (cR [ oM kk78 kk2,
 oP kk79 (.bin .lss (t78) (.c (nI (0)))),
 oM kk80 kk79,
 oG kk81 kk80 false kk2,
 oX kk82 kk80 false (.bin .gtr (t81) (.c (nI (64)))),
 oP kk83 (.pick (t80) (.c (.bool true)) (t82))])
 (.cond (t83)
 (.seq (cR [ oP kk84 (.mkif 358 (.c (nI (4)))),
 oC kk6 (.int .u64 (.ofNat 0)),
 oM kk7 kk84])
 .ret)
 .skip))))
 (.seq (cR [ oC kk10 (.int .u64 (.ofNat 0))])
 (.seq (.seq (cR [ oM kk85 kk1])
 (.block 2 (.seq (cR [ oP kk91 (.bin .eql (t85) (.c (nI (10)))),
 oM kk90 kk91])
 (.cond (t90)
 (cR [ oC kk10 (.int .u64 (.ofNat 1844674407370955162))])
 (.seq (cR [ oP kk93 (.bin .eql (t85) (.c (nI (16)))),
 oM kk92 kk93])
 (.cond (t92)
 (cR [ oC kk10 (.int .u64 (.ofNat 1152921504606846976))])
 (cR [ oM kk86 kk1,
 oP kk87 (.conv .u64 (t86)),
 oP kk88 (.bin .quo (.c (.int .u64 (.ofNat 18446744073709551615))) (t87)),
 oP kk89 (.bin .add (t88) (.c (.int .u64 (.ofNat 1)))),
 oM kk10 kk89])))))))
 (.seq (cR [ oM kk94 kk2,
 oP kk95 (.conv .u64 (t94)),
 oP kk96 (.bin .shl (.c (.int .u64 (.ofNat 1))) (t95)),
 oP kk97 (.bin .sub (t96) (.c (.int .u64 (.ofNat 1)))),
 oM kk11 kk97])
 (.seq (cR [ oC kk12 (.bool false)])
 (.seq (cR [ oC kk13 (.int .u64 (.ofNat 0))])
 (.seq (.seq (cR [ oM kk98 kk0,
 oP kk99 (.convSB 5 (t98)),
 oP kk100 (.len (t99)),
 oC kk101 (nI 0)])
 (.block 3 (.loop (.seq (cR [ oP kk102 (.bin .lss (t101) (t100))])
 (.seq (.cond (t102)
 .skip
 (.exit 3))
 (.seq (.block 4 (.seq (cR [ oP kk103 (.idxSl 1 (t99) (t101)),
 oP kk104 (.load 1 false (t103)),
 oM kk15 kk104])
 (.seq (cR [ oC kk16 (.int .u8 (.ofNat 0))])
 (.seq (.block 5 (.seq (cR [ oM kk107 kk15,
 oP kk108 (.bin .eql (t107) (.c (.int .u8 (.ofNat 95)))),
 oM kk109 kk108,
 oG kk110 kk109 true kk8,
 oP kk111 (.pick (t109) (t110) (.c (.bool false))),
 oM kk106 kk111])
 (.cond (t106)
 (.seq (cR [ oC kk12 (.bool true)])
 (.exit 4))
 (.seq (cR [ oM kk113 kk15,
 oP kk114 (.bin .leq (.c (.int .u8 (.ofNat 48))) (t113)),
 oM kk115 kk114,
 oG kk116 kk115 true kk15,
 oX kk117 kk115 true (.bin .leq (t116) (.c (.int .u8 (.ofNat 57)))),
 oP kk118 (.pick (t115) (t117) (.c (.bool false))),
 oM kk112 kk118])
 (.cond (t112)
 (cR [ oM kk119 kk15,
 oP kk120 (.bin .sub (t119) (.c (.int .u8 (.ofNat 48)))),
 oM kk16 kk120])
 (.seq (cR [ oM kk122 kk15,
 oP kk123 (.call 294 [(t122)]),
 oP kk124 (.bin .leq (.c (.int .u8 (.ofNat 97))) (t123)),
 oM kk125 kk124,
 oG kk126 kk125 true kk15,
 oX kk127 kk125 true (.call 294 [(t126)]),
 oX kk128 kk125 true (.bin .leq (t127) (.c (.int .u8 (.ofNat 122)))),
 oP kk129 (.pick (t125) (t128) (.c (.bool false))),
 oM kk121 kk129])
 (.cond (t121)
 (cR [ oM kk130 kk15,
 oP kk131 (.call 294 [(t130)]),
 oP kk132 (.bin .sub (t131) (.c (.int .u8 (.ofNat 97)))),
 oP kk133 (.bin .add (t132) (.c (.int .u8 (.ofNat 10)))),
 oM kk16 kk133])
 (.seq (cR [ oP kk105 (.mkif 358 (.c (nI (2)))),
 oC kk6 (.int .u64 (.ofNat 0)),
 oM kk7 kk105])
 .ret))))))))
 (.seq (.seq (cR [ oM kk134 kk16,
 oM kk135 kk1,
 oP kk136 (.conv .u8 (t135)),
 oP kk137 (.bin .geq (t134) (t136))])
 (.cond (t137)
 (.seq (cR [ oP kk138 (.mkif 358 (.c (nI (2)))),
 oC kk6 (.int .u64 (.ofNat 0)),
 oM kk7 kk138])
 .ret)
 .skip))
 (.seq (.seq (cR [ oM kk139 kk13,
 oM kk140 kk10,
 oP kk141 (.bin .geq (t139) (t140))])
 (.cond (t141)
 (.seq (cR [ oM kk142 kk11,
 oP kk143 (.mkif 358 (.c (nI (1)))),
 oM kk6 kk142,
 oM kk7 kk143])
 .ret)
 .skip))
 (.seq (cR [ oM kk144 kk13,
 oM kk145 kk1,
 oP kk146 (.conv .u64 (t145)),
 oP kk147 (.bin .mul (t144) (t146)),
 oM kk13 kk147])
 (.seq (cR [ oM kk148 kk13,
 oM kk149 kk16,
 oP kk150 (.conv .u64 (t149)),
 oP kk151 (.bin .add (t148) (t150)),
 oM kk17 kk151])
 (.seq (.seq (cR [ oM kk152 kk17,
 oM kk153 kk13,
 oP kk154 (.bin .lss (t152) (t153)),
 oM kk155 kk154,
 oG kk156 kk155 false kk17,
 oG kk157 kk155 false kk11,
 oX kk158 kk155 false (.bin .gtr (t156) (t157)),
 oP kk159 (.pick (t155) (.c (.bool true)) (t158))])
 (.cond (t159)
 (.seq (cR [ oM kk160 kk11,
 oP kk161 (.mkif 358 (.c (nI (1)))),
 oM kk6 kk160,
 oM kk7 kk161])
 .ret)
 .skip))
 (cR [ oM kk162 kk17,
 oM kk13 kk162]))))))))))
 (cR [ oP kk163 (.bin .add (t101) (.c (nI (1)))),
 oM kk101 kk163])))))))
 (.seq (.seq (cR [ oM kk164 kk12,
 oM kk165 kk164,
 oG kk166 kk165 true kk9,
 oX kk167 kk165 true (.call 295 [(t166)]),
 oX kk168 kk165 true (.un .not (t167)),
 oP kk169 (.pick (t165) (t168) (.c (.bool false)))])
 (.cond (t169)
 (.seq (cR [ oP kk170 (.mkif 358 (.c (nI (2)))),
 oC kk6 (.int .u64 (.ofNat 0)),
 oM kk7 kk170])
 .ret)
 .skip))
 (.seq (cR [ oM kk171 kk13,
 oM kk6 kk171,
 oC kk7 .niliface])
 .ret)))))))))))))) }
theorem fn269 : fnOf Tryz.prog Tryz.f269 = some i269 := by kernel_rfl
noncomputable def i270 : IFn := { nt := 43, ps := [kk0, kk1, kk2, kk3, kk4], res := [.tmp kk10], body :=
 (.seq (cR [ oC kk10 .niliface])
 (.seq (.seq (cR [ oM kk11 kk4])
 (.block 0 (.seq (cR [ oP kk13 (.mkif 358 (.c (nI (2)))),
 oP kk14 (.callv (.c .nilptr) []),
 oM kk12 kk14])
 (.cond (t12)
 (.seq (cR [ oM kk15 kk0,
 oM kk16 kk1,
 oP kk17 (.call 296 [(t15), (t16)]),
 oP kk18 (.mkif 360 (t17)),
 oM kk10 kk18])
 .ret)
 (.seq (cR [ oP kk20 (.mkif 358 (.c (nI (1)))),
 oP kk21 (.callv (.c .nilptr) []),
 oM kk19 kk21])
 (.cond (t19)
 (.seq (cR [ oM kk22 kk0,
 oM kk23 kk1,
 oP kk24 (.call 297 [(t22), (t23)]),
 oP kk25 (.mkif 360 (t24)),
 oM kk10 kk25])
 .ret)
 (.seq (cR [ oP kk27 (.mkif 358 (.c (nI (3)))),
 oP kk28 (.callv (.c .nilptr) []),
 oM kk26 kk28])
 (.cond (t26)
 (.seq (cR [ oM kk29 kk0,
 oM kk30 kk1,
 oM kk31 kk2,
 oP kk32 (.call 298 [(t29), (t30), (t31)]),
 oP kk33 (.mkif 360 (t32)),
 oM kk10 kk33])
 .ret)
 (.seq (cR [ oP kk35 (.mkif 358 (.c (nI (4)))),
 oP kk36 (.callv (.c .nilptr) []),
 oM kk34 kk36])
 (.cond (t34)
 (.seq (cR [ oM kk37 kk0,
 oM kk38 kk1,
 oM kk39 kk3,
 oP kk40 (.call 299 [(t37), (t38), (t39)]),
 oP kk41 (.mkif 360 (t40)),
 oM kk10 kk41])
 .ret)
 .skip))))))))))
 (.seq (cR [ oM kk42 kk4,
 oM kk10 kk42])
 .ret))) }
theorem fn270 : fnOf Tryz.prog Tryz.f270 = some i270 := by kernel_rfl
noncomputable def i271 : IFn := { nt := 47, ps := [kk0, kk1], res := [.tmp kk4], body :=
 (.seq (cR [ oC kk4 .nilslice])
 (.seq (cR [ oM kk6 kk0,
 oM kk7 kk1,
 oP kk8 (.call 300 [(t6), (t7)]),
 oM kk1 kk8])
 (.seq (cR [ oM kk9 kk1,
 oP kk10 (.len (t9)),
 oP kk11 (.bin .sub (t10) (.c (nI (1)))),
 oM kk5 kk11])
 (.seq (.block 0 (.seq (cR [ oM kk13 kk0,
 oP kk14 (.call 113 [(t13), (.c (.str 1 61))]),
 oM kk12 kk14])
 (.cond (t12)
 (.seq (cR [ oM kk15 kk0,
 oM kk16 kk1,
 oP kk17 (.call 300 [(t15), (t16)]),
 oM kk18 kk5,
 oP kk19 (.call 205 [(t17), (.c (nI (6))), (t18)]),
 oM kk4 kk19])
 .ret)
 (.seq (cR [ oM kk21 kk0,
 oP kk22 (.call 113 [(t21), (.c (.str 1 60))]),
 oM kk20 kk22])
 (.cond (t20)
 (.seq (cR [ oM kk23 kk0,
 oM kk24 kk1,
 oP kk25 (.call 300 [(t23), (t24)]),
 oM kk26 kk5,
 oP kk27 (.call 205 [(t25), (.c (nI (7))), (t26)]),
 oM kk4 kk27])
 .ret)
 (.seq (cR [ oM kk29 kk0,
 oP kk30 (.call 113 [(t29), (.c (.str 1 62))]),
 oM kk28 kk30])
 (.cond (t28)
 (.seq (cR [ oM kk31 kk0,
 oM kk32 kk1,
 oP kk33 (.call 300 [(t31), (t32)]),
 oM kk34 kk5,
 oP kk35 (.call 205 [(t33), (.c (nI (8))), (t34)]),
 oM kk4 kk35])
 .ret)
 (.seq (cR [ oM kk37 kk0,
 oP kk38 (.call 84 [(t37), (.c (.str 2 21321))]),
 oM kk36 kk38])
 (.cond (t36)
 (.seq (cR [ oM kk39 kk0,
 oP kk40 (.call 85 [(t39), (.c (.str 4 1280070990))])])
 (.seq (cR [ oM kk41 kk1,
 oM kk42 kk5,
 oP kk43 (.build [(nI (0)), (nI (0)), (nI (0)), (.str 0 0), (.str 0 0), (nI (0)), (nI (0)), (.str 0 0)] [(0, 1, (.c (nI (12)))), (1, 1, (t42))]),
 oP kk44 (.buildSl 155 8 88 1 [(nI (0)), (nI (0)), (nI (0)), (.str 0 0), (.str 0 0), (nI (0)), (nI (0)), (.str 0 0)] [(0, (t43))]),
 oP kk45 (.app 155 8 88 (t41) (t44)),
 oM kk4 kk45])
 .ret))
 .skip)))))))))
 (.seq (cR [ oM kk46 kk1,
 oM kk4 kk46])
 .ret))))) }
theorem fn271 : fnOf Tryz.prog Tryz.f271 = some i271 := by kernel_rfl
noncomputable def i272 : IFn := { nt := 24, ps := [kk0], res := [.tmp kk2], body :=
 (.seq (cR [ oC kk2 (.bool false)])
 (.seq (.seq (cR [ oM kk3 kk0,
 oP kk4 (.nilck (t3)),
 oP kk5 (.offs (t4) 4),
 oP kk6 (.load 1 false (t5)),
 oP kk7 (.bin .geq (t6) (.c (nI (60))))])
 (.cond (t7)
 (.seq (cR [ oM kk8 kk0,
 oP kk9 (.call 86 [(t8), (.c (nI (19)))])])
 (.seq (cR [ oC kk2 (.bool false)])
 .ret))
 .skip))
 (.seq (cR [ oM kk10 kk0,
 oP kk11 (.nilck (t10)),
 oP kk12 (.offs (t11) 4),
 oP kk13 (.load 1 false (t12)),
 oP kk14 (.bin .add (t13) (.c (nI (1)))),
 oP kk15 (.nilck (t10)),
 oP kk16 (.offs (t15) 4),
 oN (.store 1 (t16) (t14))])
 (.seq (cR [ oM kk17 kk0,
 oP kk18 (.nilck (t17)),
 oP kk19 (.offs (t18) 1),
 oP kk20 (.load 1 false (t19)),
 oP kk21 (.bin .add (t20) (.c (nI (1)))),
 oP kk22 (.nilck (t17)),
 oP kk23 (.offs (t22) 1),
 oN (.store 1 (t23) (t21))])
 (.seq (cR [ oC kk2 (.bool true)])
 .ret))))) }
theorem fn272 : fnOf Tryz.prog Tryz.f272 = some i272 := by kernel_rfl
noncomputable def i273 : IFn := { nt := 17, ps := [kk0], res := [.tmp kk2], body :=
 (.seq (cR [ oC kk2 (nI 0)])
 (.seq (cR [ oM kk5 kk0,
 oP kk6 (.call 301 [(t5)]),
 oM kk3 kk6])
 (.seq (.block 0 (.loop (.seq (.seq (cR [ oM kk7 kk0,
 oP kk8 (.call 168 [(t7), (.c (.str 3 4476481))])])
 (.cond (t8)
 .skip
 (.exit 0)))
 (.block 1 (.seq (cR [ oM kk9 kk0,
 oP kk10 (.call 301 [(t9)]),
 oM kk4 kk10])
 (cR [ oM kk11 kk0,
 oM kk12 kk3,
 oM kk13 kk4,
 oP kk14 (.build [(nI (0)), (nI (0)), (nI (0)), (.str 0 0), (.str 0 0), (nI (0)), (nI (0)), (.str 0 0)] [(0, 1, (.c (nI (9)))), (1, 1, (t12)), (2, 1, (t13))]),
 oP kk15 (.call 274 [(t11), (t14)]),
 oM kk3 kk15]))))))
 (.seq (cR [ oM kk16 kk3,
 oM kk2 kk16])
 .ret)))) }
theorem fn273 : fnOf Tryz.prog Tryz.f273 = some i273 := by kernel_rfl
noncomputable def i274 : IFn := { nt := 21, ps := [kk0, kk1], res := [.tmp kk4], body :=
 (.seq (cR [ oP kk3 (.box 155 8 88 (t1)),
 oC kk4 (nI 0)])
 (.seq (cD [ oM kk5 kk0,
 oM kk6 kk0,
 oP kk7 (.nilck (t6)),
 oP kk8 (.offs (t7) 5),
 oQ kk9 [] (.load 1 false (t8)),
 oQ kk10 [0] (.load 8 true (t3)),
 oQ kk11 [1] (.buildSl 155 8 88 1 [(nI (0)), (nI (0)), (nI (0)), (.str 0 0), (.str 0 0), (nI (0)), (nI (0)), (.str 0 0)] [(0, (t10))]),
 oQ kk12 [] (.app 155 8 88 (t9) (t11)),
 oP kk13 (.nilck (t5)),
 oP kk14 (.offs (t13) 5),
 ⟨none, none, some [], .store 1 (t14) (t12)⟩])
 (.seq (cR [ oM kk15 kk0,
 oP kk16 (.nilck (t15)),
 oP kk17 (.offs (t16) 5),
 oP kk18 (.load 1 false (t17)),
 oP kk19 (.len (t18)),
 oP kk20 (.bin .sub (t19) (.c (nI (1)))),
 oM kk4 kk20])
 .ret))) }
theorem fn274 : fnOf Tryz.prog Tryz.f274 = some i274 := by kernel_rfl
noncomputable def i277 : IFn := { nt := 6, ps := [kk0], res := [.tmp kk2], body :=
 (.seq (cR [ oC kk2 (nI 0)])
 (.seq (cR [ oM kk3 kk0,
 oP kk4 (.bin .add (t3) (.c (nI (16)))),
 oP kk5 (.bin .quo (t4) (.c (nI (8)))),
 oM kk2 kk5])
 .ret)) }
theorem fn277 : fnOf Tryz.prog Tryz.f277 = some i277 := by kernel_rfl
noncomputable def i278 : IFn := { nt := 81, ps := [kk0, kk1], res := [.tmp kk4], body :=
 (.seq (cR [ oC kk4 (nI 0)])
 (.seq (cR [ oM kk12 kk1,
 oP kk13 (.call 302 [(t12)]),
 oM kk11 kk13,
 oP kk14 (.extr (t11) 0),
 oP kk15 (.extr (t11) 1),
 oM kk5 kk14,
 oM kk6 kk15])
 (.seq (cR [ oM kk16 kk1,
 oP kk17 (.lenS (t16)),
 oM kk7 kk17])
 (.seq (cR [ oC kk8 (.int .u32 (.ofNat 0))])
 (.seq (.seq (cR [ oC kk9 (nI 0)])
 (.block 0 (.loop (.seq (.seq (cR [ oM kk18 kk9,
 oM kk19 kk7,
 oP kk20 (.bin .lss (t18) (t19))])
 (.cond (t20)
 .skip
 (.exit 0)))
 (.seq (.block 1 (cR [ oM kk23 kk8,
 oP kk24 (.bin .mul (t23) (.c (.int .u32 (.ofNat 16777619)))),
 oM kk25 kk0,
 oM kk26 kk9,
 oP kk27 (.idxStr (t25) (t26)),
 oP kk28 (.conv .u32 (t27)),
 oP kk29 (.bin .add (t24) (t28)),
 oM kk8 kk29]))
 (cR [ oM kk21 kk9,
 oP kk22 (.bin .add (t21) (.c (nI (1)))),
 oM kk9 kk22]))))))
 (.seq (.seq (cR [ oM kk30 kk8,
 oM kk31 kk5,
 oP kk32 (.bin .eql (t30) (t31)),
 oM kk33 kk32,
 oG kk34 kk33 true kk0,
 oG kk35 kk33 true kk7,
 oX kk36 kk33 true (.slStr (t34) none (some (t35))),
 oG kk37 kk33 true kk1,
 oX kk38 kk33 true (.bin .eql (t36) (t37)),
 oP kk39 (.pick (t33) (t38) (.c (.bool false)))])
 (.cond (t39)
 (.seq (cR [ oC kk4 (nI 0)])
 .ret)
 .skip))
 (.seq (.seq (cR [ oM kk40 kk7,
 oM kk10 kk40])
 (.block 2 (.loop (.seq (.seq (cR [ oM kk41 kk10,
 oM kk42 kk0,
 oP kk43 (.lenS (t42)),
 oP kk44 (.bin .lss (t41) (t43))])
 (.cond (t44)
 .skip
 (.exit 2)))
 (.block 3 (.seq (cR [ oM kk45 kk8,
 oP kk46 (.bin .mul (t45) (.c (.int .u32 (.ofNat 16777619)))),
 oM kk8 kk46])
 (.seq (cR [ oM kk47 kk8,
 oM kk48 kk0,
 oM kk49 kk10,
 oP kk50 (.idxStr (t48) (t49)),
 oP kk51 (.conv .u32 (t50)),
 oP kk52 (.bin .add (t47) (t51)),
 oM kk8 kk52])
 (.seq (cR [ oM kk53 kk8,
 oM kk54 kk6,
 oM kk55 kk0,
 oM kk56 kk10,
 oM kk57 kk7,
 oP kk58 (.bin .sub (t56) (t57)),
 oP kk59 (.idxStr (t55) (t58)),
 oP kk60 (.conv .u32 (t59)),
 oP kk61 (.bin .mul (t54) (t60)),
 oP kk62 (.bin .sub (t53) (t61)),
 oM kk8 kk62])
 (.seq (cR [ oM kk63 kk10,
 oP kk64 (.bin .add (t63) (.c (nI (1)))),
 oM kk10 kk64])
 (.seq (cR [ oM kk65 kk8,
 oM kk66 kk5,
 oP kk67 (.bin .eql (t65) (t66)),
 oM kk68 kk67,
 oG kk69 kk68 true kk0,
 oG kk70 kk68 true kk10,
 oG kk71 kk68 true kk7,
 oX kk72 kk68 true (.bin .sub (t70) (t71)),
 oG kk73 kk68 true kk10,
 oX kk74 kk68 true (.slStr (t69) (some (t72)) (some (t73))),
 oG kk75 kk68 true kk1,
 oX kk76 kk68 true (.bin .eql (t74) (t75)),
 oP kk77 (.pick (t68) (t76) (.c (.bool false)))])
 (.cond (t77)
 (.seq (cR [ oM kk78 kk10,
 oM kk79 kk7,
 oP kk80 (.bin .sub (t78) (t79)),
 oM kk4 kk80])
 .ret)
 .skip)))))))))))
 (.seq (cR [ oC kk4 (.int .i64 (.negSucc 0))])
 .ret)))))))) }
theorem fn278 : fnOf Tryz.prog Tryz.f278 = some i278 := by kernel_rfl
noncomputable def i279 : IFn := { nt := 93, ps := [kk0, kk1], res := [.tmp kk4, .tmp kk5], body :=
 (.seq (cR [ oC kk4 (nI 0),
 oC kk5 (nI 0)])
 (.seq (cR [ oM kk14 kk0,
 oP kk15 (.nilck (t14)),
 oP kk16 (.offs (t15) 0),
 oP kk17 (.load 1 false (t16)),
 oM kk18 kk1,
 oP kk19 (.idxSl 7 (t17) (t18)),
 oP kk20 (.load 7 true (t19)),
 oP kk6 (.boxz 162 7 64 [(nI (0)), (nI (0)), (nI (0)), (nI (0)), (nI (0)), (nI (0)), (.str 0 0)]),
 oN (.store 7 (t6) (t20))])
 (.seq (.seq (cR [ oP kk21 (.offs (t6) 0),
 oP kk22 (.load 1 false (t21)),
 oP kk23 (.call 303 [(t22)]),
 oP kk24 (.bin .lss (t23) (.c (nI (0)))),
 oM kk25 kk24,
 oX kk26 kk25 false (.offs (t6) 0),
 oX kk27 kk25 false (.load 1 false (t26)),
 oX kk28 kk25 false (.bin .eql (t27) (.c (nI (1)))),
 oG kk29 kk25 false kk28,
 oX kk30 kk29 true (.offs (t6) 4),
 oX kk31 kk29 true (.load 3 true (t30)),
 oX kk32 kk29 true (.call 304 [(t31)]),
 oX kk33 kk29 true (.un .not (t32)),
 oX kk34 kk25 false (.pick (t29) (t33) (.c (.bool false))),
 oP kk35 (.pick (t25) (.c (.bool true)) (t34))])
 (.cond (t35)
 (.seq (cR [ oC kk4 (nI 0),
 oC kk5 (nI 5)])
 .ret)
 .skip))
 (.seq (.seq (cR [ oP kk36 (.load 7 true (t6)),
 oP kk37 (.call 305 [(t36)]),
 oP kk38 (.len (t37)),
 oC kk39 (nI 0)])
 (.block 0 (.loop (.seq (cR [ oP kk40 (.bin .lss (t39) (t38))])
 (.seq (.cond (t40)
 .skip
 (.exit 0))
 (.seq (.block 1 (.seq (cR [ oP kk41 (.idxSl 1 (t37) (t39)),
 oP kk42 (.load 1 false (t41)),
 oM kk8 kk42])
 (.seq (cR [ oM kk43 kk1,
 oM kk44 kk8,
 oP kk45 (.call 306 [(t43), (t44)]),
 oP kk46 (.un .not (t45))])
 (.cond (t46)
 (.seq (cR [ oC kk4 (nI 0),
 oC kk5 (nI 10)])
 .ret)
 .skip))))
 (cR [ oP kk47 (.bin .add (t39) (.c (nI (1)))),
 oM kk39 kk47])))))))
 (.seq (.seq (cD [ oP kk48 (.offs (t6) 0),
 oQ kk49 [] (.load 1 false (t48)),
 oP kk50 (.bin .eql (t49) (.c (nI (2)))),
 oM kk51 kk50,
 oX kk52 kk51 true (.offs (t6) 3),
 ⟨some kk53, some (kk51, true), some [], .load 1 false (t52)⟩,
 oX kk54 kk51 true (.bin .lss (t53) (.c (nI (0)))),
 oG kk55 kk51 true kk54,
 oX kk56 kk55 false (.offs (t6) 3),
 ⟨some kk57, some (kk55, false), some [], .load 1 false (t56)⟩,
 oG kk58 kk55 false kk0,
 oX kk59 kk55 false (.nilck (t58)),
 oX kk60 kk55 false (.offs (t59) 1),
 ⟨some kk61, some (kk55, false), some [0], .load 1 false (t60)⟩,
 oX kk62 kk55 false (.len (t61)),
 oX kk63 kk55 false (.bin .geq (t57) (t62)),
 oX kk64 kk51 true (.pick (t55) (.c (.bool true)) (t63)),
 oP kk65 (.pick (t51) (t64) (.c (.bool false)))])
 (.cond (t65)
 (.seq (cR [ oC kk4 (nI 0),
 oC kk5 (nI 10)])
 .ret)
 .skip))
 (.seq (cR [ oC kk9 .nilslice])
 (.seq (.seq (cR [ oP kk66 (.load 7 true (t6)),
 oP kk67 (.call 305 [(t66)]),
 oP kk68 (.len (t67)),
 oC kk69 (nI 0)])
 (.block 2 (.loop (.seq (cR [ oP kk70 (.bin .lss (t69) (t68))])
 (.seq (.cond (t70)
 .skip
 (.exit 2))
 (.seq (.block 3 (.seq (cR [ oP kk71 (.idxSl 1 (t67) (t69)),
 oP kk72 (.load 1 false (t71)),
 oM kk11 kk72])
 (.seq (cR [ oM kk74 kk0,
 oM kk75 kk11,
 oP kk76 (.call 251 [(t74), (t75)]),
 oM kk73 kk76,
 oP kk77 (.extr (t73) 0),
 oP kk78 (.extr (t73) 1),
 oM kk12 kk77,
 oM kk13 kk78])
 (.seq (.seq (cR [ oM kk79 kk13,
 oP kk80 (.bin .neq (t79) (.c (nI (0))))])
 (.cond (t80)
 (.seq (cR [ oM kk81 kk13,
 oC kk4 (nI 0),
 oM kk5 kk81])
 .ret)
 .skip))
 (cR [ oM kk82 kk9,
 oM kk83 kk12,
 oP kk84 (.buildSl 3 1 8 1 [(nI (0))] [(0, (t83))]),
 oP kk85 (.app 3 1 8 (t82) (t84)),
 oM kk9 kk85])))))
 (cR [ oP kk86 (.bin .add (t69) (.c (nI (1)))),
 oM kk69 kk86])))))))
 (.seq (cR [ oM kk87 kk0,
 oP kk88 (.load 7 true (t6)),
 oM kk89 kk9,
 oP kk90 (.call 307 [(t87), (t88), (t89)]),
 oP kk91 (.extr (t90) 0),
 oP kk92 (.extr (t90) 1),
 oM kk4 kk91,
 oM kk5 kk92])
 .ret)))))))) }
theorem fn279 : fnOf Tryz.prog Tryz.f279 = some i279 := by kernel_rfl
noncomputable def i280 : IFn := { nt := 16, ps := [kk0], res := [.tmp kk2], body :=
 (.seq (cR [ oC kk2 (.bool false)])
 (.seq (cR [ oM kk3 kk0,
 oP kk4 (.bin .rem (t3) (.c (nI (4)))),
 oP kk5 (.bin .eql (t4) (.c (nI (0)))),
 oM kk6 kk5,
 oG kk7 kk6 true kk0,
 oX kk8 kk6 true (.bin .rem (t7) (.c (nI (100)))),
 oX kk9 kk6 true (.bin .neq (t8) (.c (nI (0)))),
 oP kk10 (.pick (t6) (t9) (.c (.bool false))),
 oM kk11 kk10,
 oG kk12 kk11 false kk0,
 oX kk13 kk11 false (.bin .rem (t12) (.c (nI (400)))),
 oX kk14 kk11 false (.bin .eql (t13) (.c (nI (0)))),
 oP kk15 (.pick (t11) (.c (.bool true)) (t14)),
 oM kk2 kk15])
 .ret)) }
theorem fn280 : fnOf Tryz.prog Tryz.f280 = some i280 := by kernel_rfl
noncomputable def i281 : IFn := { nt := 6, ps := [kk0], res := [.tmp kk2], body :=
 (.seq (cR [ oC kk2 (nI 0)])
 (.seq (cR [ oM kk3 kk0,
 oP kk4 (.bin .mul (t3) (.c (nI (78913)))),
 oP kk5 (.bin .shr (t4) (.c (.int .u64 (.ofNat 18)))),
 oM kk2 kk5])
 .ret)) }
theorem fn281 : fnOf Tryz.prog Tryz.f281 = some i281 := by kernel_rfl
noncomputable def i282 : IFn := { nt := 25, ps := [kk0], res := [.tmp kk2], body :=
 (.seq (cR [ oC kk2 (nI 0)])
 (.seq (.seq (cR [ oM kk3 kk0,
 oP kk4 (.bin .geq (t3) (.c (.int .u64 (.ofNat 4294967296))))])
 (.cond (t4)
 (.seq (cR [ oM kk5 kk0,
 oP kk6 (.bin .shr (t5) (.c (.int .u64 (.ofNat 32)))),
 oM kk0 kk6])
 (cR [ oC kk2 (nI 32)]))
 .skip))
 (.seq (.seq (cR [ oM kk7 kk0,
 oP kk8 (.bin .geq (t7) (.c (.int .u64 (.ofNat 65536))))])
 (.cond (t8)
 (.seq (cR [ oM kk9 kk0,
 oP kk10 (.bin .shr (t9) (.c (.int .u64 (.ofNat 16)))),
 oM kk0 kk10])
 (cR [ oM kk11 kk2,
 oP kk12 (.bin .add (t11) (.c (nI (16)))),
 oM kk2 kk12]))
 .skip))
 (.seq (.seq (cR [ oM kk13 kk0,
 oP kk14 (.bin .geq (t13) (.c (.int .u64 (.ofNat 256))))])
 (.cond (t14)
 (.seq (cR [ oM kk15 kk0,
 oP kk16 (.bin .shr (t15) (.c (.int .u64 (.ofNat 8)))),
 oM kk0 kk16])
 (cR [ oM kk17 kk2,
 oP kk18 (.bin .add (t17) (.c (nI (8)))),
 oM kk2 kk18]))
 .skip))
 (.seq (cR [ oM kk19 kk2,
 oM kk20 kk0,
 oP kk21 (.conv .u8 (t20)),
 oP kk22 (.idxStr (.c (.str 256 1013866857139168856493015739252390649739422828853819106890363778118420553376247557433637691341895324351018602695588957474325319502760499485336098898398377509666851054660423406800006203933793007272033180812049178612605246075062580585469430410618860250057463399279570354286669047577758927328864388992123306212451509403152394148136105363817402562688186708175358218852349079190158732807302672745370040257219644697201681238697346923541678507645485296520536209706771857694240900605172937619415410180424934769249448772944216470541052485265558808433676546390051204254346932932316488017972311616136051587427851453983453479168)) (t21)),
 oP kk23 (.conv .i64 (t22)),
 oP kk24 (.bin .add (t19) (t23)),
 oM kk2 kk24])
 .ret))))) }
theorem fn282 : fnOf Tryz.prog Tryz.f282 = some i282 := by kernel_rfl
noncomputable def i283 : IFn := { nt := 4, ps := [kk0], res := [.tmp kk2], body :=
 (.seq (cR [ oC kk2 (nI 0)])
 (.seq (.seq (cR [ oM kk3 kk0])
 (.cond (t3)
 (.seq (cR [ oC kk2 (nI 1)])
 .ret)
 .skip))
 (.seq (cR [ oC kk2 (nI 0)])
 .ret))) }
theorem fn283 : fnOf Tryz.prog Tryz.f283 = some i283 := by kernel_rfl
noncomputable def i284 : IFn := { nt := 8, ps := [kk0], res := [.tmp kk2], body :=
 (.seq (cR [ oC kk2 (.bool false)])
 (.seq (cR [ oM kk3 kk0,
 oM kk4 kk0,
 oP kk5 (.bin .sub (t4) (.c (nI (1)))),
 oP kk6 (.bin .and (t3) (t5)),
 oP kk7 (.bin .eql (t6) (.c (nI (0)))),
 oM kk2 kk7])
 .ret)) }
theorem fn284 : fnOf Tryz.prog Tryz.f284 = some i284 := by kernel_rfl
noncomputable def i285 : IFn := { nt := 8, ps := [kk0], res := [.tmp kk2], body :=
 (.seq (cR [ oC kk2 (nI 0)])
 (.seq (.cond (.c (.bool false))
 (.seq (cR [ oM kk3 kk0,
 oP kk4 (.conv .u32 (t3)),
 oP kk5 (.call 308 [(t4)]),
 oM kk2 kk5])
 .ret)
 .skip)
 (.seq (cR [ oM kk6 kk0,
 oP kk7 (.call 309 [(t6)]),
 oM kk2 kk7])
 .ret))) }
theorem fn285 : fnOf Tryz.prog Tryz.f285 = some i285 := by kernel_rfl
noncomputable def i286 : IFn := { nt := 16, ps := [kk0], res := [.tmp kk2], body :=
 (.seq (cR [ oC kk2 (.bool false)])
 (.seq (cR [ oM kk3 kk0,
 oP kk4 (.bin .rem (t3) (.c (nI (4)))),
 oP kk5 (.bin .eql (t4) (.c (nI (0)))),
 oM kk6 kk5,
 oG kk7 kk6 true kk0,
 oX kk8 kk6 true (.bin .rem (t7) (.c (nI (100)))),
 oX kk9 kk6 true (.bin .neq (t8) (.c (nI (0)))),
 oP kk10 (.pick (t6) (t9) (.c (.bool false))),
 oM kk11 kk10,
 oG kk12 kk11 false kk0,
 oX kk13 kk11 false (.bin .rem (t12) (.c (nI (400)))),
 oX kk14 kk11 false (.bin .eql (t13) (.c (nI (0)))),
 oP kk15 (.pick (t11) (.c (.bool true)) (t14)),
 oM kk2 kk15])
 .ret)) }
theorem fn286 : fnOf Tryz.prog Tryz.f286 = some i286 := by kernel_rfl
noncomputable def i287 : IFn := { nt := 19, ps := [kk0, kk1, kk2], res := [.tmp kk4], body :=
 (.seq (cR [ oC kk4 (nI 0)])
 (.seq (.seq (cR [ oP kk7 (.load 1 false (t1))])
 (.cond (t7)
 (cR [ oM kk8 kk0,
 oP kk9 (.bin .add (.c (.str 1 45)) (t8)),
 oM kk0 kk9])
 .skip))
 (.seq (cR [ oM kk11 kk0,
 oP kk12 (.call 288 [(t11), (.c (nI (10))), (.c (nI (64)))]),
 oM kk10 kk12,
 oP kk13 (.extr (t10) 0),
 oP kk14 (.extr (t10) 1),
 oM kk5 kk13,
 oM kk6 kk14])
 (.seq (.seq (cR [ oM kk15 kk6,
 oP kk16 (.eqv .iface true (t15) (.c .niliface))])
 (.cond (t16)
 (.seq (cR [ oC kk4 (nI 10)])
 .ret)
 .skip))
 (.seq (cR [ oM kk17 kk5,
 oP kk18 (.offs (t2) 1),
 oN (.store 1 (t18) (t17))])
 (.seq (cR [ oC kk4 (nI 0)])
 .ret)))))) }
theorem fn287 : fnOf Tryz.prog Tryz.f287 = some i287 := by kernel_rfl
noncomputable def i288 : IFn := { nt := 25, ps := [kk0, kk1, kk2], res := [.tmp kk6, .tmp kk7], body :=
 (.seq (cR [ oC kk6 (nI 0),
 oC kk7 .niliface])
 (.seq (cR [ oM kk10 kk0,
 oM kk11 kk1,
 oM kk12 kk2,
 oP kk13 (.call 310 [(t10), (t11), (t12)]),
 oM kk9 kk13,
 oP kk14 (.extr (t9) 0),
 oP kk15 (.extr (t9) 1),
 oM kk8 kk14,
 oM kk7 kk15])
 (.seq (.seq (cR [ oM kk16 kk7,
 oP kk17 (.eqv .iface true (t16) (.c .niliface))])
 (.cond (t17)
 (.seq (cR [ oM kk18 kk8,
 oM kk19 kk0,
 oM kk20 kk1,
 oM kk21 kk2,
 oM kk22 kk7,
 oP kk23 (.call 270 [(.c (.str 8 8389723855915213136)), (t19), (t20), (t21), (t22)]),
 oM kk6 kk18,
 oM kk7 kk23])
 .ret)
 .skip))
 (.seq (cR [ oM kk24 kk8,
 oM kk6 kk24,
 oC kk7 .niliface])
 .ret)))) }
theorem fn288 : fnOf Tryz.prog Tryz.f288 = some i288 := by kernel_rfl
noncomputable def i289 : IFn := { nt := 11, ps := [kk0, kk1], res := [.tmp kk4, .tmp kk5], body :=
 (.seq (cR [ oC kk4 (.str 0 0),
 oC kk5 (.bool false)])
 (.seq (cR [ oM kk6 kk0,
 oM kk7 kk1,
 oP kk8 (.call 311 [(t6), (t7)]),
 oP kk9 (.extr (t8) 0),
 oP kk10 (.extr (t8) 1),
 oM kk4 kk9,
 oM kk5 kk10])
 .ret)) }
theorem fn289 : fnOf Tryz.prog Tryz.f289 = some i289 := by kernel_rfl
noncomputable def i290 : IFn := { nt := 13, ps := [kk0, kk1], res := [.tmp kk4, .tmp kk5, .tmp kk6], body :=
 (.seq (cR [ oC kk4 (.str 0 0),
 oC kk5 (.str 0 0),
 oC kk6 (.bool false)])
 (.seq (cR [ oM kk7 kk0,
 oM kk8 kk1,
 oP kk9 (.call 312 [(t7), (t8)]),
 oP kk10 (.extr (t9) 0),
 oP kk11 (.extr (t9) 1),
 oP kk12 (.extr (t9) 2),
 oM kk4 kk10,
 oM kk5 kk11,
 oM kk6 kk12])
 .ret)) }
theorem fn290 : fnOf Tryz.prog Tryz.f290 = some i290 := by kernel_rfl
noncomputable def i291 : IFn := { nt := 8, ps := [kk0, kk1], res := [.tmp kk4], body :=
 (.seq (cR [ oC kk4 (.bool false)])
 (.seq (cR [ oM kk5 kk0,
 oM kk6 kk1,
 oP kk7 (.call 313 [(t5), (t6)]),
 oM kk4 kk7])
 .ret)) }
theorem fn291 : fnOf Tryz.prog Tryz.f291 = some i291 := by kernel_rfl
noncomputable def i292 : IFn := { nt := 31, ps := [kk0], res := [.tmp kk2, .tmp kk3], body :=
 (.seq (cR [ oC kk2 (nI 0),
 oC kk3 (.bool false)])
 (.seq (cR [ oC kk4 (nI 0)])
 (.seq (.seq (cR [ oM kk6 kk0,
 oP kk7 (.lenS (t6)),
 oC kk8 (nI 0)])
 (.block 0 (.loop (.seq (cR [ oP kk9 (.bin .lss (t8) (t7))])
 (.seq (.cond (t9)
 .skip
 (.exit 0))
 (.seq (.block 1 (.seq (cR [ oM kk10 kk8,
 oM kk5 kk10])
 (.seq (.seq (cR [ oM kk11 kk0,
 oM kk12 kk5,
 oP kk13 (.idxStr (t11) (t12)),
 oP kk14 (.bin .lss (t13) (.c (.int .u8 (.ofNat 48)))),
 oM kk15 kk14,
 oG kk16 kk15 false kk0,
 oG kk17 kk15 false kk5,
 oX kk18 kk15 false (.idxStr (t16) (t17)),
 oX kk19 kk15 false (.bin .gtr (t18) (.c (.int .u8 (.ofNat 57)))),
 oP kk20 (.pick (t15) (.c (.bool true)) (t19))])
 (.cond (t20)
 (.seq (cR [ oC kk2 (nI 0),
 oC kk3 (.bool false)])
 .ret)
 .skip))
 (cR [ oM kk21 kk4,
 oP kk22 (.bin .mul (.c (nI (10))) (t21)),
 oM kk23 kk0,
 oM kk24 kk5,
 oP kk25 (.idxStr (t23) (t24)),
 oP kk26 (.bin .sub (t25) (.c (.int .u8 (.ofNat 48)))),
 oP kk27 (.conv .i64 (t26)),
 oP kk28 (.bin .add (t22) (t27)),
 oM kk4 kk28]))))
 (cR [ oP kk29 (.bin .add (t8) (.c (nI (1)))),
 oM kk8 kk29])))))))
 (.seq (cR [ oM kk30 kk4,
 oM kk2 kk30,
 oC kk3 (.bool true)])
 .ret)))) }
theorem fn292 : fnOf Tryz.prog Tryz.f292 = some i292 := by kernel_rfl
noncomputable def i293 : IFn := { nt := 45, ps := [kk0, kk1, kk2], res := [.tmp kk6, .tmp kk7], body :=
 (.seq (cR [ oC kk6 (nI 0),
 oC kk7 (.bool false)])
 (.seq (.seq (cR [ oM kk10 kk0,
 oP kk11 (.bin .lss (t10) (.c (nI (1600)))),
 oM kk12 kk11,
 oG kk13 kk12 false kk0,
 oX kk14 kk12 false (.bin .gtr (t13) (.c (nI (4400)))),
 oP kk15 (.pick (t12) (.c (.bool true)) (t14)),
 oM kk16 kk15,
 oG kk17 kk16 false kk2,
 oX kk18 kk16 false (.bin .lss (t17) (.c (nI (1)))),
 oP kk19 (.pick (t16) (.c (.bool true)) (t18)),
 oM kk20 kk19,
 oG kk21 kk20 false kk2,
 oG kk22 kk20 false kk0,
 oG kk23 kk20 false kk1,
 oX kk24 kk20 false (.call 261 [(t22), (t23)]),
 oX kk25 kk20 false (.bin .gtr (t21) (t24)),
 oP kk26 (.pick (t20) (.c (.bool true)) (t25))])
 (.cond (t26)
 (.seq (cR [ oC kk6 (nI 0),
 oC kk7 (.bool false)])
 .ret)
 .skip))
 (.seq (cR [ oM kk27 kk0,
 oP kk28 (.call 260 [(t27)]),
 oM kk29 kk2,
 oP kk30 (.bin .add (t28) (t29)),
 oP kk31 (.bin .sub (t30) (.c (nI (1)))),
 oM kk8 kk31])
 (.seq (.seq (cR [ oC kk9 (nI 1)])
 (.block 0 (.loop (.seq (.seq (cR [ oM kk32 kk9,
 oM kk33 kk1,
 oP kk34 (.bin .lss (t32) (t33))])
 (.cond (t34)
 .skip
 (.exit 0)))
 (.seq (.block 1 (cR [ oM kk37 kk8,
 oM kk38 kk0,
 oM kk39 kk9,
 oP kk40 (.call 261 [(t38), (t39)]),
 oP kk41 (.bin .add (t37) (t40)),
 oM kk8 kk41]))
 (cR [ oM kk35 kk9,
 oP kk36 (.bin .add (t35) (.c (nI (1)))),
 oM kk9 kk36]))))))
 (.seq (.seq (cR [ oM kk42 kk8,
 oP kk43 (.bin .geq (t42) (.c (nI (1000000))))])
 (.cond (t43)
 (.seq (cR [ oC kk6 (nI 0),
 oC kk7 (.bool false)])
 .ret)
 .skip))
 (.seq (cR [ oM kk44 kk8,
 oM kk6 kk44,
 oC kk7 (.bool true)])
 .ret)))))) }
theorem fn293 : fnOf Tryz.prog Tryz.f293 = some i293 := by kernel_rfl
noncomputable def i294 : IFn := { nt := 5, ps := [kk0], res := [.tmp kk2], body :=
 (.seq (cR [ oC kk2 (.int .u8 (.ofNat 0))])
 (.seq (cR [ oM kk3 kk0,
 oP kk4 (.bin .or (t3) (.c (.int .u8 (.ofNat 32)))),
 oM kk2 kk4])
 .ret)) }
theorem fn294 : fnOf Tryz.prog Tryz.f294 = some i294 := by kernel_rfl
noncomputable def i295 : IFn := { nt := 94, ps := [kk0], res := [.tmp kk2], body :=
 (.seq (cR [ oC kk2 (.bool false)])
 (.seq (cR [ oC kk3 (.int .i32 (.ofNat 94))])
 (.seq (cR [ oC kk4 (nI 0)])
 (.seq (.seq (cR [ oM kk6 kk0,
 oP kk7 (.lenS (t6)),
 oP kk8 (.bin .geq (t7) (.c (nI (1)))),
 oM kk9 kk8,
 oG kk10 kk9 true kk0,
 oX kk11 kk9 true (.idxStr (t10) (.c (nI (0)))),
 oX kk12 kk9 true (.bin .eql (t11) (.c (.int .u8 (.ofNat 45)))),
 oG kk13 kk9 true kk12,
 oG kk14 kk13 false kk0,
 oX kk15 kk13 false (.idxStr (t14) (.c (nI (0)))),
 oX kk16 kk13 false (.bin .eql (t15) (.c (.int .u8 (.ofNat 43)))),
 oX kk17 kk9 true (.pick (t13) (.c (.bool true)) (t16)),
 oP kk18 (.pick (t9) (t17) (.c (.bool false)))])
 (.cond (t18)
 (cR [ oM kk19 kk0,
 oP kk20 (.slStr (t19) (some (.c (nI (1)))) none),
 oM kk0 kk20])
 .skip))
 (.seq (cR [ oC kk5 (.bool false)])
 (.seq (.seq (cR [ oM kk21 kk0,
 oP kk22 (.lenS (t21)),
 oP kk23 (.bin .geq (t22) (.c (nI (2)))),
 oM kk24 kk23,
 oG kk25 kk24 true kk0,
 oX kk26 kk24 true (.idxStr (t25) (.c (nI (0)))),
 oX kk27 kk24 true (.bin .eql (t26) (.c (.int .u8 (.ofNat 48)))),
 oP kk28 (.pick (t24) (t27) (.c (.bool false))),
 oM kk29 kk28,
 oG kk30 kk29 true kk0,
 oX kk31 kk29 true (.idxStr (t30) (.c (nI (1)))),
 oX kk32 kk29 true (.call 294 [(t31)]),
 oX kk33 kk29 true (.bin .eql (t32) (.c (.int .u8 (.ofNat 98)))),
 oG kk34 kk29 true kk33,
 oG kk35 kk34 false kk0,
 oX kk36 kk34 false (.idxStr (t35) (.c (nI (1)))),
 oX kk37 kk34 false (.call 294 [(t36)]),
 oX kk38 kk34 false (.bin .eql (t37) (.c (.int .u8 (.ofNat 111)))),
 oX kk39 kk29 true (.pick (t34) (.c (.bool true)) (t38)),
 oG kk40 kk29 true kk39,
 oG kk41 kk40 false kk0,
 oX kk42 kk40 false (.idxStr (t41) (.c (nI (1)))),
 oX kk43 kk40 false (.call 294 [(t42)]),
 oX kk44 kk40 false (.bin .eql (t43) (.c (.int .u8 (.ofNat 120)))),
 oX kk45 kk29 true (.pick (t40) (.c (.bool true)) (t44)),
 oP kk46 (.pick (t29) (t45) (.c (.bool false)))])
 (.cond (t46)
 (.seq (cR [ oC kk4 (nI 2)])
 (.seq (cR [ oC kk3 (.int .i32 (.ofNat 48))])
 (cR [ oM kk47 kk0,
 oP kk48 (.idxStr (t47) (.c (nI (1)))),
 oP kk49 (.call 294 [(t48)]),
 oP kk50 (.bin .eql (t49) (.c (.int .u8 (.ofNat 120)))),
 oM kk5 kk50])))
 .skip))
 (.seq (.block 0 (.loop (.seq (.seq (cR [ oM kk51 kk4,
 oM kk52 kk0,
 oP kk53 (.lenS (t52)),
 oP kk54 (.bin .lss (t51) (t53))])
 (.cond (t54)
 .skip
 (.exit 0)))
 (.seq (.block 1 (.seq (.seq (cR [ oM kk57 kk0,
 oM kk58 kk4,
 oP kk59 (.idxStr (t57) (t58)),
 oP kk60 (.bin .leq (.c (.int .u8 (.ofNat 48))) (t59)),
 oM kk61 kk60,
 oG kk62 kk61 true kk0,
 oG kk63 kk61 true kk4,
 oX kk64 kk61 true (.idxStr (t62) (t63)),
 oX kk65 kk61 true (.bin .leq (t64) (.c (.int .u8 (.ofNat 57)))),
 oP kk66 (.pick (t61) (t65) (.c (.bool false))),
 oM kk67 kk66,
 oG kk68 kk67 false kk5,
 oG kk69 kk67 false kk68,
 oG kk70 kk69 true kk0,
 oG kk71 kk69 true kk4,
 oX kk72 kk69 true (.idxStr (t70) (t71)),
 oX kk73 kk69 true (.call 294 [(t72)]),
 oX kk74 kk69 true (.bin .leq (.c (.int .u8 (.ofNat 97))) (t73)),
 oX kk75 kk67 false (.pick (t69) (t74) (.c (.bool false))),
 oG kk76 kk67 false kk75,
 oG kk77 kk76 true kk0,
 oG kk78 kk76 true kk4,
 oX kk79 kk76 true (.idxStr (t77) (t78)),
 oX kk80 kk76 true (.call 294 [(t79)]),
 oX kk81 kk76 true (.bin .leq (t80) (.c (.int .u8 (.ofNat 102)))),
 oX kk82 kk67 false (.pick (t76) (t81) (.c (.bool false))),
 oP kk83 (.pick (t67) (.c (.bool true)) (t82))])
 (.cond (t83)
 (.seq (cR [ oC kk3 (.int .i32 (.ofNat 48))])
 (.exit 1))
 .skip))
 (.seq (.seq (cR [ oM kk84 kk0,
 oM kk85 kk4,
 oP kk86 (.idxStr (t84) (t85)),
 oP kk87 (.bin .eql (t86) (.c (.int .u8 (.ofNat 95))))])
 (.cond (t87)
 (.seq (.seq (cR [ oM kk88 kk3,
 oP kk89 (.bin .neq (t88) (.c (.int .i32 (.ofNat 48))))])
 (.cond (t89)
 (.seq (cR [ oC kk2 (.bool false)])
 .ret)
 .skip))
 (.seq (cR [ oC kk3 (.int .i32 (.ofNat 95))])
 (.exit 1)))
 .skip))
 (.seq (.seq (cR [ oM kk90 kk3,
 oP kk91 (.bin .eql (t90) (.c (.int .i32 (.ofNat 95))))])
 (.cond (t91)
 (.seq (cR [ oC kk2 (.bool false)])
 .ret)
 .skip))
 (cR [ oC kk3 (.int .i32 (.ofNat 33))])))))
 (cR [ oM kk55 kk4,
 oP kk56 (.bin .add (t55) (.c (nI (1)))),
 oM kk4 kk56])))))
 (.seq (cR [ oM kk92 kk3,
 oP kk93 (.bin .neq (t92) (.c (.int .i32 (.ofNat 95)))),
 oM kk2 kk93])
 .ret)))))))) }
theorem fn295 : fnOf Tryz.prog Tryz.f295 = some i295 := by kernel_rfl
noncomputable def i296 : IFn := { nt := 11, ps := [kk0, kk1], res := [.tmp kk4], body :=
 (.seq (cR [ oC kk4 .nilptr])
 (.seq (cD [ oM kk5 kk0,
 oM kk6 kk1,
 oQ kk7 [] (.call 314 [(t6)]),
 oQ kk8 [0] (.load 1 false (.c (.ptr 4 1 0))),
 oP kk9 (.build [(.str 0 0), (.str 0 0), .niliface] [(0, 1, (t5)), (1, 1, (t7)), (2, 1, (t8))]),
 oQ kk10 [] (.box 372 3 48 (t9)),
 oM kk4 kk10])
 .ret)) }
theorem fn296 : fnOf Tryz.prog Tryz.f296 = some i296 := by kernel_rfl
noncomputable def i297 : IFn := { nt := 11, ps := [kk0, kk1], res := [.tmp kk4], body :=
 (.seq (cR [ oC kk4 .nilptr])
 (.seq (cD [ oM kk5 kk0,
 oM kk6 kk1,
 oQ kk7 [] (.call 314 [(t6)]),
 oQ kk8 [0] (.load 1 false (.c (.ptr 5 1 0))),
 oP kk9 (.build [(.str 0 0), (.str 0 0), .niliface] [(0, 1, (t5)), (1, 1, (t7)), (2, 1, (t8))]),
 oQ kk10 [] (.box 372 3 48 (t9)),
 oM kk4 kk10])
 .ret)) }
theorem fn297 : fnOf Tryz.prog Tryz.f297 = some i297 := by kernel_rfl
noncomputable def i298 : IFn := { nt := 16, ps := [kk0, kk1, kk2], res := [.tmp kk6], body :=
 (.seq (cR [ oC kk6 .nilptr])
 (.seq (cR [ oM kk7 kk0,
 oM kk8 kk1,
 oP kk9 (.call 314 [(t8)]),
 oM kk10 kk2,
 oP kk11 (.call 194 [(t10)]),
 oP kk12 (.bin .add (.c (.str 13 2566698672797334201289919589993)) (t11)),
 oP kk13 (.call 315 [(t12)]),
 oP kk14 (.build [(.str 0 0), (.str 0 0), .niliface] [(0, 1, (t7)), (1, 1, (t9)), (2, 1, (t13))]),
 oP kk15 (.box 372 3 48 (t14)),
 oM kk6 kk15])
 .ret)) }
theorem fn298 : fnOf Tryz.prog Tryz.f298 = some i298 := by kernel_rfl
noncomputable def i299 : IFn := { nt := 16, ps := [kk0, kk1, kk2], res := [.tmp kk6], body :=
 (.seq (cR [ oC kk6 .nilptr])
 (.seq (cR [ oM kk7 kk0,
 oM kk8 kk1,
 oP kk9 (.call 314 [(t8)]),
 oM kk10 kk2,
 oP kk11 (.call 194 [(t10)]),
 oP kk12 (.bin .add (.c (.str 17 11023923368035339908895700075316841442921)) (t11)),
 oP kk13 (.call 315 [(t12)]),
 oP kk14 (.build [(.str 0 0), (.str 0 0), .niliface] [(0, 1, (t7)), (1, 1, (t9)), (2, 1, (t13))]),
 oP kk15 (.box 372 3 48 (t14)),
 oM kk6 kk15])
 .ret)) }
theorem fn299 : fnOf Tryz.prog Tryz.f299 = some i299 := by kernel_rfl
noncomputable def i300 : IFn := { nt := 29, ps := [kk0, kk1], res := [.tmp kk4], body :=
 (.seq (cR [ oC kk4 .nilslice])
 (.seq (cR [ oM kk6 kk0,
 oM kk7 kk1,
 oP kk8 (.call 316 [(t6), (t7)]),
 oM kk1 kk8])
 (.block 0 (.loop (.block 1 (.seq (cR [ oM kk9 kk1,
 oP kk10 (.len (t9)),
 oP kk11 (.bin .sub (t10) (.c (nI (1)))),
 oM kk5 kk11])
 (.block 2 (.seq (cR [ oM kk14 kk0,
 oP kk15 (.call 113 [(t14), (.c (.str 1 43))]),
 oM kk13 kk15])
 (.cond (t13)
 (cR [ oM kk16 kk0,
 oM kk17 kk1,
 oP kk18 (.call 316 [(t16), (t17)]),
 oM kk19 kk5,
 oP kk20 (.call 205 [(t18), (.c (nI (3))), (t19)]),
 oM kk1 kk20])
 (.seq (cR [ oM kk22 kk0,
 oP kk23 (.call 113 [(t22), (.c (.str 1 45))]),
 oM kk21 kk23])
 (.cond (t21)
 (cR [ oM kk24 kk0,
 oM kk25 kk1,
 oP kk26 (.call 316 [(t24), (t25)]),
 oM kk27 kk5,
 oP kk28 (.call 205 [(t26), (.c (nI (4))), (t27)]),
 oM kk1 kk28])
 (.seq (cR [ oM kk12 kk1,
 oM kk4 kk12])
 .ret)))))))))))) }
theorem fn300 : fnOf Tryz.prog Tryz.f300 = some i300 := by kernel_rfl
noncomputable def i301 : IFn := { nt := 32, ps := [kk0], res := [.tmp kk2], body :=
 (.seq (cR [ oC kk2 (nI 0)])
 (.seq (.seq (cR [ oM kk4 kk0,
 oP kk5 (.call 245 [(t4), (.c (nI (1))), (.c (.str 3 5525326))]),
 oP kk6 (.un .not (t5))])
 (.cond (t6)
 (.seq (cR [ oM kk7 kk0,
 oP kk8 (.call 317 [(t7)]),
 oM kk2 kk8])
 .ret)
 .skip))
 (.seq (.seq (cR [ oM kk9 kk0,
 oP kk10 (.call 318 [(t9)]),
 oP kk11 (.un .not (t10))])
 (.cond (t11)
 (.seq (cR [ oC kk2 (nI 0)])
 .ret)
 .skip))
 (.seq (cR [ oM kk12 kk0,
 oP kk13 (.nilck (t12)),
 oP kk14 (.offs (t13) 1),
 oP kk15 (.load 1 false (t14)),
 oP kk16 (.bin .add (t15) (.c (nI (1)))),
 oP kk17 (.nilck (t12)),
 oP kk18 (.offs (t17) 1),
 oN (.store 1 (t18) (t16))])
 (.seq (cR [ oM kk19 kk0,
 oP kk20 (.call 301 [(t19)]),
 oM kk3 kk20])
 (.seq (cR [ oM kk21 kk0,
 oP kk22 (.nilck (t21)),
 oP kk23 (.offs (t22) 4),
 oP kk24 (.load 1 false (t23)),
 oP kk25 (.bin .sub (t24) (.c (nI (1)))),
 oP kk26 (.nilck (t21)),
 oP kk27 (.offs (t26) 4),
 oN (.store 1 (t27) (t25))])
 (.seq (cR [ oM kk28 kk0,
 oM kk29 kk3,
 oP kk30 (.build [(nI (0)), (nI (0)), (nI (0)), (.str 0 0), (.str 0 0), (nI (0)), (nI (0)), (.str 0 0)] [(0, 1, (.c (nI (11)))), (1, 1, (t29))]),
 oP kk31 (.call 274 [(t28), (t30)]),
 oM kk2 kk31])
 .ret))))))) }
theorem fn301 : fnOf Tryz.prog Tryz.f301 = some i301 := by kernel_rfl
noncomputable def i302 : IFn := { nt := 39, ps := [kk0], res := [.tmp kk2, .tmp kk3], body :=
 (.seq (cR [ oC kk2 (.int .u32 (.ofNat 0)),
 oC kk3 (.int .u32 (.ofNat 0))])
 (.seq (cR [ oC kk4 (.int .u32 (.ofNat 0))])
 (.seq (.seq (cR [ oC kk5 (nI 0)])
 (.block 0 (.loop (.seq (.seq (cR [ oM kk9 kk5,
 oM kk10 kk0,
 oP kk11 (.lenS (t10)),
 oP kk12 (.bin .lss (t9) (t11))])
 (.cond (t12)
 .skip
 (.exit 0)))
 (.seq (.block 1 (cR [ oM kk15 kk4,
 oP kk16 (.bin .mul (t15) (.c (.int .u32 (.ofNat 16777619)))),
 oM kk17 kk0,
 oM kk18 kk5,
 oP kk19 (.idxStr (t17) (t18)),
 oP kk20 (.conv .u32 (t19)),
 oP kk21 (.bin .add (t16) (t20)),
 oM kk4 kk21]))
 (cR [ oM kk13 kk5,
 oP kk14 (.bin .add (t13) (.c (nI (1)))),
 oM kk5 kk14]))))))
 (.seq (cR [ oC kk6 (.int .u32 (.ofNat 1)),
 oC kk7 (.int .u32 (.ofNat 16777619))])
 (.seq (.seq (cR [ oM kk22 kk0,
 oP kk23 (.lenS (t22)),
 oM kk8 kk23])
 (.block 2 (.loop (.seq (.seq (cR [ oM kk24 kk8,
 oP kk25 (.bin .gtr (t24) (.c (nI (0))))])
 (.cond (t25)
 .skip
 (.exit 2)))
 (.seq (.block 3 (.seq (.seq (cR [ oM kk28 kk8,
 oP kk29 (.bin .and (t28) (.c (nI (1)))),
 oP kk30 (.bin .neq (t29) (.c (nI (0))))])
 (.cond (t30)
 (cR [ oM kk31 kk6,
 oM kk32 kk7,
 oP kk33 (.bin .mul (t31) (t32)),
 oM kk6 kk33])
 .skip))
 (cR [ oM kk34 kk7,
 oM kk35 kk7,
 oP kk36 (.bin .mul (t34) (t35)),
 oM kk7 kk36])))
 (cR [ oM kk26 kk8,
 oP kk27 (.bin .shr (t26) (.c (.int .u64 (.ofNat 1)))),
 oM kk8 kk27]))))))
 (.seq (cR [ oM kk37 kk4,
 oM kk38 kk6,
 oM kk2 kk37,
 oM kk3 kk38])
 .ret)))))) }
theorem fn302 : fnOf Tryz.prog Tryz.f302 = some i302 := by kernel_rfl
noncomputable def i303 : IFn := { nt := 18, ps := [kk0], res := [.tmp kk2], body :=
 (.seq (cR [ oC kk2 (nI 0)])
 (.seq (.seq (cR [ oM kk3 kk0])
 (.block 0 (.seq (.seq (cR [ oP kk5 (.bin .eql (t3) (.c (nI (1)))),
 oM kk4 kk5])
 (.cond (t4)
 .skip
 (cR [ oP kk6 (.bin .eql (t3) (.c (nI (2)))),
 oM kk4 kk6])))
 (.cond (t4)
 (.seq (cR [ oC kk2 (nI 0)])
 .ret)
 (.seq (.seq (cR [ oP kk8 (.bin .eql (t3) (.c (nI (10)))),
 oM kk7 kk8])
 (.cond (t7)
 .skip
 (cR [ oP kk9 (.bin .eql (t3) (.c (nI (11)))),
 oM kk7 kk9])))
 (.cond (t7)
 (.seq (cR [ oC kk2 (nI 1)])
 .ret)
 (.seq (.seq (cR [ oP kk11 (.bin .eql (t3) (.c (nI (3)))),
 oM kk10 kk11])
 (.cond (t10)
 .skip
 (.seq (cR [ oP kk12 (.bin .eql (t3) (.c (nI (4)))),
 oM kk10 kk12])
 (.cond (t10)
 .skip
 (.seq (cR [ oP kk13 (.bin .eql (t3) (.c (nI (5)))),
 oM kk10 kk13])
 (.cond (t10)
 .skip
 (.seq (cR [ oP kk14 (.bin .eql (t3) (.c (nI (6)))),
 oM kk10 kk14])
 (.cond (t10)
 .skip
 (.seq (cR [ oP kk15 (.bin .eql (t3) (.c (nI (7)))),
 oM kk10 kk15])
 (.cond (t10)
 .skip
 (.seq (cR [ oP kk16 (.bin .eql (t3) (.c (nI (8)))),
 oM kk10 kk16])
 (.cond (t10)
 .skip
 (cR [ oP kk17 (.bin .eql (t3) (.c (nI (9)))),
 oM kk10 kk17])))))))))))))
 (.cond (t10)
 (.seq (cR [ oC kk2 (nI 2)])
 .ret)
 .skip))))))))
 (.seq (cR [ oC kk2 (.int .i64 (.negSucc 0))])
 .ret))) }
theorem fn303 : fnOf Tryz.prog Tryz.f303 = some i303 := by kernel_rfl
noncomputable def i304 : IFn := { nt := 46, ps := [kk0], res := [.tmp kk2], body :=
 (.seq (cR [ oP kk1 (.box 153 3 32 (t0)),
 oC kk2 (.bool false)])
 (.seq (.seq (cR [ oP kk3 (.offs (t1) 0),
 oP kk4 (.load 1 false (t3))])
 (.block 0 (.seq (cR [ oP kk6 (.bin .eql (t4) (.c (nI (0)))),
 oM kk5 kk6])
 (.cond (t5)
 (.seq (cR [ oP kk7 (.offs (t1) 1),
 oP kk8 (.load 1 false (t7)),
 oP kk9 (.bin .eql (t8) (.c (nI (0)))),
 oM kk10 kk9,
 oX kk11 kk10 true (.offs (t1) 2),
 oX kk12 kk10 true (.load 1 false (t11)),
 oX kk13 kk10 true (.bin .eql (t12) (.c (.str 0 0))),
 oP kk14 (.pick (t10) (t13) (.c (.bool false))),
 oM kk2 kk14])
 .ret)
 (.seq (cR [ oP kk16 (.bin .eql (t4) (.c (nI (1)))),
 oM kk15 kk16])
 (.cond (t15)
 (.seq (cR [ oP kk17 (.offs (t1) 2),
 oP kk18 (.load 1 false (t17)),
 oP kk19 (.bin .eql (t18) (.c (.str 0 0))),
 oM kk2 kk19])
 .ret)
 (.seq (cR [ oP kk21 (.bin .eql (t4) (.c (nI (2)))),
 oM kk20 kk21])
 (.cond (t20)
 (.seq (cR [ oP kk22 (.offs (t1) 1),
 oP kk23 (.load 1 false (t22)),
 oP kk24 (.bin .eql (t23) (.c (nI (0)))),
 oM kk25 kk24,
 oX kk26 kk25 true (.offs (t1) 2),
 oX kk27 kk25 true (.load 1 false (t26)),
 oX kk28 kk25 true (.lenS (t27)),
 oX kk29 kk25 true (.bin .leq (t28) (.c (nI (200)))),
 oP kk30 (.pick (t25) (t29) (.c (.bool false))),
 oM kk2 kk30])
 .ret)
 (.seq (cR [ oP kk32 (.bin .eql (t4) (.c (nI (3)))),
 oM kk31 kk32])
 (.cond (t31)
 (.seq (cR [ oP kk33 (.offs (t1) 1),
 oP kk34 (.load 1 false (t33)),
 oP kk35 (.bin .eql (t34) (.c (nI (0)))),
 oM kk36 kk35,
 oX kk37 kk36 false (.offs (t1) 1),
 oX kk38 kk36 false (.load 1 false (t37)),
 oX kk39 kk36 false (.bin .eql (t38) (.c (nI (1)))),
 oP kk40 (.pick (t36) (.c (.bool true)) (t39)),
 oM kk41 kk40,
 oX kk42 kk41 true (.offs (t1) 2),
 oX kk43 kk41 true (.load 1 false (t42)),
 oX kk44 kk41 true (.bin .eql (t43) (.c (.str 0 0))),
 oP kk45 (.pick (t41) (t44) (.c (.bool false))),
 oM kk2 kk45])
 .ret)
 .skip))))))))))
 (.seq (cR [ oC kk2 (.bool false)])
 .ret))) }
theorem fn304 : fnOf Tryz.prog Tryz.f304 = some i304 := by kernel_rfl
noncomputable def i305 : IFn := { nt := 13, ps := [kk0], res := [.tmp kk2], body :=
 (.seq (cR [ oP kk1 (.box 162 7 64 (t0)),
 oC kk2 .nilslice])
 (.seq (cD [ oP kk3 (.offs (t1) 1),
 oQ kk4 [] (.load 1 false (t3)),
 oP kk5 (.offs (t1) 2),
 oQ kk6 [0] (.load 1 false (t5)),
 oQ kk7 [] (.buildSl 3 1 8 2 [(nI (0))] [(0, (t4)), (1, (t6))]),
 oP kk8 (.offs (t1) 0),
 oQ kk9 [0, 1, 2] (.load 1 false (t8)),
 oQ kk10 [1, 2, 3] (.call 303 [(t9)]),
 oP kk11 (.minmax true (t10) [(.c (nI (0)))]),
 oP kk12 (.slSl 1 (t7) none (some (t11))),
 oM kk2 kk12])
 .ret)) }
theorem fn305 : fnOf Tryz.prog Tryz.f305 = some i305 := by kernel_rfl
noncomputable def i306 : IFn := { nt := 12, ps := [kk0, kk1], res := [.tmp kk4], body :=
 (.seq (cR [ oC kk4 (.bool false)])
 (.seq (cR [ oM kk5 kk1,
 oP kk6 (.bin .geq (t5) (.c (nI (0)))),
 oM kk7 kk6,
 oG kk8 kk7 true kk1,
 oG kk9 kk7 true kk0,
 oX kk10 kk7 true (.bin .lss (t8) (t9)),
 oP kk11 (.pick (t7) (t10) (.c (.bool false))),
 oM kk4 kk11])
 .ret)) }
theorem fn306 : fnOf Tryz.prog Tryz.f306 = some i306 := by kernel_rfl
noncomputable def i307 : IFn := { nt := 67, ps := [kk0, kk1, kk2], res := [.tmp kk6, .tmp kk7], body :=
 (.seq (cR [ oP kk4 (.box 162 7 64 (t1)),
 oC kk6 (nI 0),
 oC kk7 (nI 0)])
 (.seq (cR [ oC kk8 (nI 3)])
 (.seq (.seq (cR [ oP kk11 (.offs (t4) 0),
 oP kk12 (.load 1 false (t11))])
 (.block 0 (.seq (cR [ oP kk14 (.bin .eql (t12) (.c (nI (1)))),
 oM kk13 kk14])
 (.cond (t13)
 (.seq (cR [ oP kk15 (.offs (t4) 4),
 oP kk16 (.offs (t15) 0),
 oP kk17 (.load 1 false (t16)),
 oM kk6 kk17,
 oC kk7 (nI 0)])
 .ret)
 (.seq (cR [ oP kk19 (.bin .eql (t12) (.c (nI (2)))),
 oM kk18 kk19])
 (.cond (t18)
 (.seq (cD [ oM kk20 kk0,
 oP kk21 (.nilck (t20)),
 oP kk22 (.offs (t21) 1),
 oQ kk23 [] (.load 1 false (t22)),
 oP kk24 (.offs (t4) 3),
 oQ kk25 [0] (.load 1 false (t24)),
 oP kk26 (.idxSl 1 (t23) (t25)),
 oQ kk27 [] (.load 1 false (t26)),
 oM kk6 kk27,
 oC kk7 (nI 0)])
 .ret)
 (.seq (cR [ oP kk29 (.bin .eql (t12) (.c (nI (11)))),
 oM kk28 kk29])
 (.cond (t28)
 (.seq (cR [ oC kk6 (nI 3),
 oC kk7 (nI 0)])
 .ret)
 (.seq (.seq (cR [ oP kk31 (.bin .eql (t12) (.c (nI (6)))),
 oM kk30 kk31])
 (.cond (t30)
 .skip
 (cR [ oP kk32 (.bin .eql (t12) (.c (nI (7)))),
 oM kk30 kk32])))
 (.cond (t30)
 (.seq (.seq (cD [ oM kk33 kk2,
 oP kk34 (.idxSl 1 (t33) (.c (nI (0)))),
 oQ kk35 [] (.load 1 false (t34)),
 oM kk36 kk2,
 oP kk37 (.idxSl 1 (t36) (.c (nI (1)))),
 oQ kk38 [0] (.load 1 false (t37)),
 oQ kk39 [] (.call 319 [(t35), (t38)]),
 oP kk40 (.un .not (t39)),
 oM kk41 kk40,
 oG kk42 kk41 true kk2,
 oX kk43 kk41 true (.idxSl 1 (t42) (.c (nI (1)))),
 ⟨some kk44, some (kk41, true), some [], .load 1 false (t43)⟩,
 oG kk45 kk41 true kk2,
 oX kk46 kk41 true (.idxSl 1 (t45) (.c (nI (0)))),
 ⟨some kk47, some (kk41, true), some [0], .load 1 false (t46)⟩,
 ⟨some kk48, some (kk41, true), some [], .call 319 [(t44), (t47)]⟩,
 oX kk49 kk41 true (.un .not (t48)),
 oP kk50 (.pick (t41) (t49) (.c (.bool false)))])
 (.cond (t50)
 (.seq (cR [ oC kk6 (nI 0),
 oC kk7 (nI 7)])
 .ret)
 .skip))
 (.seq (cR [ oC kk6 (nI 3),
 oC kk7 (nI 0)])
 .ret))
 (.seq (.seq (cR [ oP kk52 (.bin .eql (t12) (.c (nI (3)))),
 oM kk51 kk52])
 (.cond (t51)
 .skip
 (.seq (cR [ oP kk53 (.bin .eql (t12) (.c (nI (4)))),
 oM kk51 kk53])
 (.cond (t51)
 .skip
 (cR [ oP kk54 (.bin .eql (t12) (.c (nI (5)))),
 oM kk51 kk54])))))
 (.cond (t51)
 (cR [ oC kk8 (nI 1)])
 .skip))))))))))))
 (.seq (.seq (cR [ oM kk55 kk2,
 oP kk56 (.len (t55)),
 oC kk57 (nI 0)])
 (.block 1 (.loop (.seq (cR [ oP kk58 (.bin .lss (t57) (t56))])
 (.seq (.cond (t58)
 .skip
 (.exit 1))
 (.seq (.block 2 (.seq (cR [ oP kk59 (.idxSl 1 (t55) (t57)),
 oP kk60 (.load 1 false (t59)),
 oM kk10 kk60])
 (.seq (cR [ oM kk61 kk10,
 oM kk62 kk8,
 oP kk63 (.call 319 [(t61), (t62)]),
 oP kk64 (.un .not (t63))])
 (.cond (t64)
 (.seq (cR [ oC kk6 (nI 0),
 oC kk7 (nI 7)])
 .ret)
 .skip))))
 (cR [ oP kk65 (.bin .add (t57) (.c (nI (1)))),
 oM kk57 kk65])))))))
 (.seq (cR [ oM kk66 kk8,
 oM kk6 kk66,
 oC kk7 (nI 0)])
 .ret))))) }
theorem fn307 : fnOf Tryz.prog Tryz.f307 = some i307 := by kernel_rfl
noncomputable def i308 : IFn := { nt := 14, ps := [kk0], res := [.tmp kk2], body :=
 (.seq (cR [ oC kk2 (nI 0)])
 (.seq (.seq (cR [ oM kk3 kk0,
 oP kk4 (.bin .eql (t3) (.c (.int .u32 (.ofNat 0))))])
 (.cond (t4)
 (.seq (cR [ oC kk2 (nI 32)])
 .ret)
 .skip))
 (.seq (cR [ oM kk5 kk0,
 oM kk6 kk0,
 oP kk7 (.un .neg (t6)),
 oP kk8 (.bin .and (t5) (t7)),
 oP kk9 (.bin .mul (t8) (.c (.int .u32 (.ofNat 125613361)))),
 oP kk10 (.bin .shr (t9) (.c (.int .u64 (.ofNat 27)))),
 oP kk11 (.idxArr 32 1 (.c (.ptr 6 1 0)) (t10)),
 oP kk12 (.load 1 false (t11)),
 oP kk13 (.conv .i64 (t12)),
 oM kk2 kk13])
 .ret))) }
theorem fn308 : fnOf Tryz.prog Tryz.f308 = some i308 := by kernel_rfl
noncomputable def i309 : IFn := { nt := 14, ps := [kk0], res := [.tmp kk2], body :=
 (.seq (cR [ oC kk2 (nI 0)])
 (.seq (.seq (cR [ oM kk3 kk0,
 oP kk4 (.bin .eql (t3) (.c (.int .u64 (.ofNat 0))))])
 (.cond (t4)
 (.seq (cR [ oC kk2 (nI 64)])
 .ret)
 .skip))
 (.seq (cR [ oM kk5 kk0,
 oM kk6 kk0,
 oP kk7 (.un .neg (t6)),
 oP kk8 (.bin .and (t5) (t7)),
 oP kk9 (.bin .mul (t8) (.c (.int .u64 (.ofNat 285870213051353865)))),
 oP kk10 (.bin .shr (t9) (.c (.int .u64 (.ofNat 58)))),
 oP kk11 (.idxArr 64 1 (.c (.ptr 7 1 0)) (t10)),
 oP kk12 (.load 1 false (t11)),
 oP kk13 (.conv .i64 (t12)),
 oM kk2 kk13])
 .ret))) }
theorem fn309 : fnOf Tryz.prog Tryz.f309 = some i309 := by kernel_rfl
noncomputable def i310 : IFn := { nt := 73, ps := [kk0, kk1, kk2], res := [.tmp kk6, .tmp kk7], body :=
 (.seq (cR [ oC kk6 (nI 0),
 oC kk7 .niliface])
 (.seq (.seq (cR [ oM kk12 kk0,
 oP kk13 (.bin .eql (t12) (.c (.str 0 0)))])
 (.cond (t13)
 (.seq (cR [ oP kk14 (.mkif 358 (.c (nI (2)))),
 oC kk6 (nI 0),
 oM kk7 kk14])
 .ret)
 .skip))
 (.seq (cR [ oC kk8 (.bool false)])
 (.seq (.seq (cR [ oM kk15 kk0,
 oP kk16 (.idxStr (t15) (.c (nI (0))))])
 (.block 0 (.seq (cR [ oP kk18 (.bin .eql (t16) (.c (.int .u8 (.ofNat 43)))),
 oM kk17 kk18])
 (.cond (t17)
 (cR [ oM kk19 kk0,
 oP kk20 (.slStr (t19) (some (.c (nI (1)))) none),
 oM kk0 kk20])
 (.seq (cR [ oP kk22 (.bin .eql (t16) (.c (.int .u8 (.ofNat 45)))),
 oM kk21 kk22])
 (.cond (t21)
 (.seq (cR [ oM kk23 kk0,
 oP kk24 (.slStr (t23) (some (.c (nI (1)))) none),
 oM kk0 kk24])
 (cR [ oC kk8 (.bool true)]))
 .skip))))))
 (.seq (cR [ oC kk9 (.int .u64 (.ofNat 0))])
 (.seq (cR [ oM kk26 kk0,
 oM kk27 kk1,
 oM kk28 kk2,
 oP kk29 (.call 269 [(t26), (t27), (t28)]),
 oM kk25 kk29,
 oP kk30 (.extr (t25) 0),
 oP kk31 (.extr (t25) 1),
 oM kk9 kk30,
 oM kk7 kk31])
 (.seq (.seq (cR [ oM kk32 kk7,
 oP kk33 (.eqv .iface true (t32) (.c .niliface)),
 oM kk34 kk33,
 oG kk35 kk34 true kk7,
 oX kk36 kk34 true (.mkif 358 (.c (nI (1)))),
 oX kk37 kk34 true (.callv (.c .nilptr) []),
 oP kk38 (.pick (t34) (t37) (.c (.bool false)))])
 (.cond (t38)
 (.seq (cR [ oM kk39 kk7,
 oC kk6 (nI 0),
 oM kk7 kk39])
 .ret)
 .skip))
 (.seq (.seq (cR [ oM kk40 kk2,
 oP kk41 (.bin .eql (t40) (.c (nI (0))))])
 (.cond (t41)
 (cR [ oC kk2 (nI 64)])
 .skip))
 (.seq (cR [ oM kk42 kk2,
 oP kk43 (.bin .sub (t42) (.c (nI (1)))),
 oP kk44 (.conv .u64 (t43)),
 oP kk45 (.bin .shl (.c (.int .u64 (.ofNat 1))) (t44)),
 oM kk10 kk45])
 (.seq (.seq (cR [ oM kk46 kk8,
 oP kk47 (.un .not (t46)),
 oM kk48 kk47,
 oG kk49 kk48 true kk9,
 oG kk50 kk48 true kk10,
 oX kk51 kk48 true (.bin .geq (t49) (t50)),
 oP kk52 (.pick (t48) (t51) (.c (.bool false)))])
 (.cond (t52)
 (.seq (cR [ oM kk53 kk10,
 oP kk54 (.bin .sub (t53) (.c (.int .u64 (.ofNat 1)))),
 oP kk55 (.conv .i64 (t54)),
 oP kk56 (.mkif 358 (.c (nI (1)))),
 oM kk6 kk55,
 oM kk7 kk56])
 .ret)
 .skip))
 (.seq (.seq (cR [ oM kk57 kk8,
 oM kk58 kk57,
 oG kk59 kk58 true kk9,
 oG kk60 kk58 true kk10,
 oX kk61 kk58 true (.bin .gtr (t59) (t60)),
 oP kk62 (.pick (t58) (t61) (.c (.bool false)))])
 (.cond (t62)
 (.seq (cR [ oM kk63 kk10,
 oP kk64 (.conv .i64 (t63)),
 oP kk65 (.un .neg (t64)),
 oP kk66 (.mkif 358 (.c (nI (1)))),
 oM kk6 kk65,
 oM kk7 kk66])
 .ret)
 .skip))
 (.seq (cR [ oM kk67 kk9,
 oP kk68 (.conv .i64 (t67)),
 oM kk11 kk68])
 (.seq (.seq (cR [ oM kk69 kk8])
 (.cond (t69)
 (cR [ oM kk70 kk11,
 oP kk71 (.un .neg (t70)),
 oM kk11 kk71])
 .skip))
 (.seq (cR [ oM kk72 kk11,
 oM kk6 kk72,
 oC kk7 .niliface])
 .ret)))))))))))))) }
theorem fn310 : fnOf Tryz.prog Tryz.f310 = some i310 := by kernel_rfl
noncomputable def i311 : IFn := { nt := 15, ps := [kk0, kk1], res := [.tmp kk4, .tmp kk5], body :=
 (.seq (cR [ oC kk4 (.str 0 0),
 oC kk5 (.bool false)])
 (.seq (.seq (cR [ oM kk6 kk0,
 oM kk7 kk1,
 oP kk8 (.call 313 [(t6), (t7)]),
 oP kk9 (.un .not (t8))])
 (.cond (t9)
 (.seq (cR [ oM kk10 kk0,
 oM kk4 kk10,
 oC kk5 (.bool false)])
 .ret)
 .skip))
 (.seq (cR [ oM kk11 kk0,
 oM kk12 kk1,
 oP kk13 (.lenS (t12)),
 oP kk14 (.slStr (t11) (some (t13)) none),
 oM kk4 kk14,
 oC kk5 (.bool true)])
 .ret))) }
theorem fn311 : fnOf Tryz.prog Tryz.f311 = some i311 := by kernel_rfl
noncomputable def i312 : IFn := { nt := 23, ps := [kk0, kk1], res := [.tmp kk4, .tmp kk5, .tmp kk6], body :=
 (.seq (cR [ oC kk4 (.str 0 0),
 oC kk5 (.str 0 0),
 oC kk6 (.bool false)])
 (.seq (.seq (cR [ oM kk8 kk0,
 oM kk9 kk1,
 oP kk10 (.call 249 [(t8), (t9)]),
 oM kk7 kk10])
 (.seq (cR [ oM kk11 kk7,
 oP kk12 (.bin .geq (t11) (.c (nI (0))))])
 (.cond (t12)
 (.seq (cD [ oM kk13 kk0,
 oM kk14 kk7,
 oP kk15 (.slStr (t13) none (some (t14))),
 oM kk16 kk0,
 oM kk17 kk7,
 oM kk18 kk1,
 oP kk19 (.lenS (t18)),
 oP kk20 (.bin .add (t17) (t19)),
 oP kk21 (.slStr (t16) (some (t20)) none),
 oM kk4 kk15,
 oM kk5 kk21,
 oC kk6 (.bool true)])
 .ret)
 .skip)))
 (.seq (cR [ oM kk22 kk0,
 oM kk4 kk22,
 oC kk5 (.str 0 0),
 oC kk6 (.bool false)])
 .ret))) }
theorem fn312 : fnOf Tryz.prog Tryz.f312 = some i312 := by kernel_rfl
noncomputable def i313 : IFn := { nt := 18, ps := [kk0, kk1], res := [.tmp kk4], body :=
 (.seq (cR [ oC kk4 (.bool false)])
 (.seq (cR [ oM kk5 kk0,
 oP kk6 (.lenS (t5)),
 oM kk7 kk1,
 oP kk8 (.lenS (t7)),
 oP kk9 (.bin .geq (t6) (t8)),
 oM kk10 kk9,
 oG kk11 kk10 true kk0,
 oG kk12 kk10 true kk1,
 oX kk13 kk10 true (.lenS (t12)),
 oX kk14 kk10 true (.slStr (t11) none (some (t13))),
 oG kk15 kk10 true kk1,
 oX kk16 kk10 true (.bin .eql (t14) (t15)),
 oP kk17 (.pick (t10) (t16) (.c (.bool false))),
 oM kk4 kk17])
 .ret)) }
theorem fn313 : fnOf Tryz.prog Tryz.f313 = some i313 := by kernel_rfl
noncomputable def i314 : IFn := { nt := 18, ps := [kk0], res := [.tmp kk2], body :=
 (.seq (cR [ oC kk2 (.str 0 0)])
 (.seq (.seq (cR [ oM kk4 kk0,
 oP kk5 (.lenS (t4)),
 oP kk6 (.bin .eql (t5) (.c (nI (0))))])
 (.cond (t6)
 (.seq (cR [ oC kk2 (.str 0 0)])
 .ret)
 .skip))
 (.seq (cR [ oM kk7 kk0,
 oP kk8 (.lenS (t7)),
 oP kk9 (.mksl 5 1 1 [(.int .u8 (.ofNat 0))] (t8) (t8)),
 oM kk3 kk9])
 (.seq (cR [ oM kk10 kk3,
 oM kk11 kk0,
 oP kk12 (.callv (.c .nilptr) [])])
 (.seq (cR [ oM kk13 kk3,
 oP kk14 (.idxSl 1 (t13) (.c (nI (0)))),
 oM kk15 kk3,
 oP kk16 (.len (t15)),
 oP kk17 (.ustr 5 (t14) (t16)),
 oM kk2 kk17])
 .ret))))) }
theorem fn314 : fnOf Tryz.prog Tryz.f314 = some i314 := by kernel_rfl
noncomputable def i315 : IFn := { nt := 7, ps := [kk0], res := [.tmp kk2], body :=
 (.seq (cR [ oC kk2 .niliface])
 (.seq (cR [ oM kk3 kk0,
 oP kk4 (.build [(.str 0 0)] [(0, 1, (t3))]),
 oP kk5 (.box 378 1 16 (t4)),
 oP kk6 (.mkif 376 (t5)),
 oM kk2 kk6])
 .ret)) }
theorem fn315 : fnOf Tryz.prog Tryz.f315 = some i315 := by kernel_rfl
noncomputable def i316 : IFn := { nt := 20, ps := [kk0, kk1], res := [.tmp kk4], body :=
 (.seq (cR [ oC kk4 .nilslice])
 (.seq (cR [ oM kk6 kk0,
 oM kk7 kk1,
 oP kk8 (.call 320 [(t6), (t7)]),
 oM kk1 kk8])
 (.seq (.block 0 (.loop (.seq (.seq (cR [ oM kk9 kk0,
 oP kk10 (.call 113 [(t9), (.c (.str 1 42))])])
 (.cond (t10)
 .skip
 (.exit 0)))
 (.block 1 (.seq (cR [ oM kk11 kk1,
 oP kk12 (.len (t11)),
 oP kk13 (.bin .sub (t12) (.c (nI (1)))),
 oM kk5 kk13])
 (cR [ oM kk14 kk0,
 oM kk15 kk1,
 oP kk16 (.call 320 [(t14), (t15)]),
 oM kk17 kk5,
 oP kk18 (.call 205 [(t16), (.c (nI (5))), (t17)]),
 oM kk1 kk18]))))))
 (.seq (cR [ oM kk19 kk1,
 oM kk4 kk19])
 .ret)))) }
theorem fn316 : fnOf Tryz.prog Tryz.f316 = some i316 := by kernel_rfl
noncomputable def i317 : IFn := { nt := 36, ps := [kk0], res := [.tmp kk2], body :=
 (.seq (cR [ oC kk2 (nI 0)])
 (.seq (cR [ oM kk6 kk0,
 oP kk7 (.call 321 [(t6)]),
 oM kk3 kk7])
 (.seq (cR [ oC kk4 (nI 0)])
 (.seq (.block 0 (.seq (cR [ oM kk10 kk0,
 oP kk11 (.call 208 [(t10), (.c (.str 1 61))]),
 oM kk9 kk11])
 (.cond (t9)
 (cR [ oC kk4 (nI 6)])
 (.seq (cR [ oM kk13 kk0,
 oP kk14 (.call 208 [(t13), (.c (.str 1 60))]),
 oM kk12 kk14])
 (.cond (t12)
 (cR [ oC kk4 (nI 7)])
 (.seq (cR [ oM kk16 kk0,
 oP kk17 (.call 208 [(t16), (.c (.str 1 62))]),
 oM kk15 kk17])
 (.cond (t15)
 (cR [ oC kk4 (nI 8)])
 (.seq (cR [ oM kk19 kk0,
 oP kk20 (.call 168 [(t19), (.c (.str 2 21321))]),
 oM kk18 kk20])
 (.cond (t18)
 (.seq (cR [ oM kk21 kk0,
 oP kk22 (.buildSl 9 1 16 1 [(.str 0 0)] [(0, (.c (.str 4 1280070990)))]),
 oP kk23 (.call 169 [(t21), (t22)])])
 (.seq (cR [ oM kk24 kk0,
 oM kk25 kk3,
 oP kk26 (.build [(nI (0)), (nI (0)), (nI (0)), (.str 0 0), (.str 0 0), (nI (0)), (nI (0)), (.str 0 0)] [(0, 1, (.c (nI (12)))), (1, 1, (t25))]),
 oP kk27 (.call 274 [(t24), (t26)]),
 oM kk2 kk27])
 .ret))
 (.seq (cR [ oM kk8 kk3,
 oM kk2 kk8])
 .ret))))))))))
 (.seq (cR [ oM kk28 kk0,
 oP kk29 (.call 321 [(t28)]),
 oM kk5 kk29])
 (.seq (cR [ oM kk30 kk0,
 oM kk31 kk4,
 oM kk32 kk3,
 oM kk33 kk5,
 oP kk34 (.build [(nI (0)), (nI (0)), (nI (0)), (.str 0 0), (.str 0 0), (nI (0)), (nI (0)), (.str 0 0)] [(0, 1, (t31)), (1, 1, (t32)), (2, 1, (t33))]),
 oP kk35 (.call 274 [(t30), (t34)]),
 oM kk2 kk35])
 .ret)))))) }
theorem fn317 : fnOf Tryz.prog Tryz.f317 = some i317 := by kernel_rfl
noncomputable def i318 : IFn := { nt := 17, ps := [kk0], res := [.tmp kk2], body :=
 (.seq (cR [ oC kk2 (.bool false)])
 (.seq (.seq (cR [ oM kk3 kk0,
 oP kk4 (.nilck (t3)),
 oP kk5 (.offs (t4) 4),
 oP kk6 (.load 1 false (t5)),
 oP kk7 (.bin .eql (t6) (.c (nI (60))))])
 (.cond (t7)
 (.seq (cR [ oM kk8 kk0,
 oP kk9 (.call 166 [(t8), (.c (nI (19)))])])
 (.seq (cR [ oC kk2 (.bool false)])
 .ret))
 .skip))
 (.seq (cR [ oM kk10 kk0,
 oP kk11 (.nilck (t10)),
 oP kk12 (.offs (t11) 4),
 oP kk13 (.load 1 false (t12)),
 oP kk14 (.bin .add (t13) (.c (nI (1)))),
 oP kk15 (.nilck (t10)),
 oP kk16 (.offs (t15) 4),
 oN (.store 1 (t16) (t14))])
 (.seq (cR [ oC kk2 (.bool true)])
 .ret)))) }
theorem fn318 : fnOf Tryz.prog Tryz.f318 = some i318 := by kernel_rfl
noncomputable def i319 : IFn := { nt := 12, ps := [kk0, kk1], res := [.tmp kk4], body :=
 (.seq (cR [ oC kk4 (.bool false)])
 (.seq (cR [ oM kk5 kk0,
 oP kk6 (.bin .eql (t5) (.c (nI (0)))),
 oM kk7 kk6,
 oG kk8 kk7 false kk0,
 oG kk9 kk7 false kk1,
 oX kk10 kk7 false (.bin .eql (t8) (t9)),
 oP kk11 (.pick (t7) (.c (.bool true)) (t10)),
 oM kk4 kk11])
 .ret)) }
theorem fn319 : fnOf Tryz.prog Tryz.f319 = some i319 := by kernel_rfl
noncomputable def i320 : IFn := { nt := 60, ps := [kk0, kk1], res := [.tmp kk4], body :=
 (.seq (cR [ oC kk4 .nilslice])
 (.seq (.seq (cR [ oM kk7 kk0,
 oP kk8 (.nilck (t7)),
 oP kk9 (.offs (t8) 2),
 oP kk10 (.load 1 false (t9)),
 oP kk11 (.bin .neq (t10) (.c (nI (0))))])
 (.cond (t11)
 (.seq (cR [ oM kk12 kk1,
 oM kk4 kk12])
 .ret)
 .skip))
 (.seq (.seq (cR [ oM kk13 kk0,
 oP kk14 (.call 154 [(t13), (.c (nI (5))), (.c (.str 1 40))])])
 (.cond (t14)
 (.seq (.seq (cR [ oM kk15 kk0,
 oP kk16 (.call 272 [(t15)])])
 (.cond (t16)
 (.seq (cR [ oM kk17 kk0,
 oM kk18 kk1,
 oP kk19 (.call 152 [(t17), (t18)]),
 oM kk1 kk19])
 (.seq (cR [ oM kk20 kk0,
 oP kk21 (.call 111 [(t20), (.c (.str 1 41))])])
 (cR [ oM kk22 kk0,
 oP kk23 (.nilck (t22)),
 oP kk24 (.offs (t23) 4),
 oP kk25 (.load 1 false (t24)),
 oP kk26 (.bin .sub (t25) (.c (nI (1)))),
 oP kk27 (.nilck (t22)),
 oP kk28 (.offs (t27) 4),
 oN (.store 1 (t28) (t26))])))
 .skip))
 (.seq (cR [ oM kk29 kk1,
 oM kk4 kk29])
 .ret))
 .skip))
 (.seq (.seq (cD [ oM kk30 kk0,
 oP kk31 (.nilck (t30)),
 oP kk32 (.offs (t31) 0),
 oQ kk33 [] (.load 1 false (t32)),
 oM kk34 kk0,
 oP kk35 (.nilck (t34)),
 oP kk36 (.offs (t35) 1),
 oQ kk37 [0] (.load 1 false (t36)),
 oP kk38 (.idxSl 3 (t33) (t37)),
 oP kk39 (.offs (t38) 0),
 oQ kk40 [] (.load 1 false (t39)),
 oP kk41 (.bin .eql (t40) (.c (nI (2))))])
 (.cond (t41)
 (.seq (cR [ oM kk42 kk0,
 oM kk43 kk1,
 oP kk44 (.call 153 [(t42), (t43)]),
 oM kk4 kk44])
 .ret)
 .skip))
 (.seq (cR [ oM kk46 kk0,
 oP kk47 (.call 184 [(t46)]),
 oM kk45 kk47,
 oP kk48 (.extr (t45) 0),
 oP kk49 (.extr (t45) 1),
 oP kk5 (.boxz 153 3 32 [(nI (0)), (nI (0)), (.str 0 0)]),
 oN (.store 3 (t5) (t48)),
 oM kk6 kk49])
 (.seq (.seq (cR [ oM kk50 kk6,
 oP kk51 (.un .not (t50))])
 (.cond (t51)
 (.seq (cR [ oM kk52 kk0,
 oP kk53 (.call 86 [(t52), (.c (nI (5)))])])
 (.seq (cR [ oM kk54 kk1,
 oM kk4 kk54])
 .ret))
 .skip))
 (.seq (cR [ oM kk55 kk1,
 oP kk56 (.load 3 true (t5)),
 oP kk57 (.build [(nI (0)), (nI (0)), (nI (0)), (.str 0 0), (.str 0 0), (nI (0)), (nI (0)), (.str 0 0)] [(0, 1, (.c (nI (1)))), (5, 3, (t56))]),
 oP kk58 (.buildSl 155 8 88 1 [(nI (0)), (nI (0)), (nI (0)), (.str 0 0), (.str 0 0), (nI (0)), (nI (0)), (.str 0 0)] [(0, (t57))]),
 oP kk59 (.app 155 8 88 (t55) (t58)),
 oM kk4 kk59])
 .ret))))))) }
theorem fn320 : fnOf Tryz.prog Tryz.f320 = some i320 := by kernel_rfl
noncomputable def i321 : IFn := { nt := 22, ps := [kk0], res := [.tmp kk2], body :=
 (.seq (cR [ oC kk2 (nI 0)])
 (.seq (cR [ oM kk6 kk0,
 oP kk7 (.call 322 [(t6)]),
 oM kk3 kk7])
 (.block 0 (.loop (.block 1 (.seq (cR [ oC kk4 (nI 3)])
 (.seq (.seq (cR [ oM kk8 kk0,
 oP kk9 (.call 208 [(t8), (.c (.str 1 45))])])
 (.cond (t9)
 (cR [ oC kk4 (nI 4)])
 (.seq (cR [ oM kk10 kk0,
 oP kk11 (.call 208 [(t10), (.c (.str 1 43))]),
 oP kk12 (.un .not (t11))])
 (.cond (t12)
 (.seq (cR [ oM kk13 kk3,
 oM kk2 kk13])
 .ret)
 .skip))))
 (.seq (cR [ oM kk14 kk0,
 oP kk15 (.call 322 [(t14)]),
 oM kk5 kk15])
 (cR [ oM kk16 kk0,
 oM kk17 kk4,
 oM kk18 kk3,
 oM kk19 kk5,
 oP kk20 (.build [(nI (0)), (nI (0)), (nI (0)), (.str 0 0), (.str 0 0), (nI (0)), (nI (0)), (.str 0 0)] [(0, 1, (t17)), (1, 1, (t18)), (2, 1, (t19))]),
 oP kk21 (.call 274 [(t16), (t20)]),
 oM kk3 kk21]))))))))) }
theorem fn321 : fnOf Tryz.prog Tryz.f321 = some i321 := by kernel_rfl
noncomputable def i322 : IFn := { nt := 17, ps := [kk0], res := [.tmp kk2], body :=
 (.seq (cR [ oC kk2 (nI 0)])
 (.seq (cR [ oM kk5 kk0,
 oP kk6 (.call 323 [(t5)]),
 oM kk3 kk6])
 (.seq (.block 0 (.loop (.seq (.seq (cR [ oM kk7 kk0,
 oP kk8 (.call 208 [(t7), (.c (.str 1 42))])])
 (.cond (t8)
 .skip
 (.exit 0)))
 (.block 1 (.seq (cR [ oM kk9 kk0,
 oP kk10 (.call 323 [(t9)]),
 oM kk4 kk10])
 (cR [ oM kk11 kk0,
 oM kk12 kk3,
 oM kk13 kk4,
 oP kk14 (.build [(nI (0)), (nI (0)), (nI (0)), (.str 0 0), (.str 0 0), (nI (0)), (nI (0)), (.str 0 0)] [(0, 1, (.c (nI (5)))), (1, 1, (t12)), (2, 1, (t13))]),
 oP kk15 (.call 274 [(t11), (t14)]),
 oM kk3 kk15]))))))
 (.seq (cR [ oM kk16 kk3,
 oM kk2 kk16])
 .ret)))) }
theorem fn322 : fnOf Tryz.prog Tryz.f322 = some i322 := by kernel_rfl
noncomputable def i323 : IFn := { nt := 47, ps := [kk0], res := [.tmp kk2], body :=
 (.seq (cR [ oC kk2 (nI 0)])
 (.seq (.block 0 (.seq (cR [ oM kk5 kk0,
 oP kk6 (.nilck (t5)),
 oP kk7 (.offs (t6) 3),
 oP kk8 (.load 1 false (t7)),
 oP kk9 (.bin .neq (t8) (.c (nI (0)))),
 oM kk4 kk9])
 (.cond (t4)
 (.seq (cR [ oC kk2 (nI 0)])
 .ret)
 (.seq (cR [ oM kk11 kk0,
 oP kk12 (.call 245 [(t11), (.c (nI (5))), (.c (.str 1 40))]),
 oM kk10 kk12])
 (.cond (t10)
 (.seq (.seq (cR [ oM kk13 kk0,
 oP kk14 (.call 318 [(t13)]),
 oP kk15 (.un .not (t14))])
 (.cond (t15)
 (.seq (cR [ oC kk2 (nI 0)])
 .ret)
 .skip))
 (.seq (cR [ oM kk16 kk0,
 oP kk17 (.nilck (t16)),
 oP kk18 (.offs (t17) 1),
 oP kk19 (.load 1 false (t18)),
 oP kk20 (.bin .add (t19) (.c (nI (1)))),
 oP kk21 (.nilck (t16)),
 oP kk22 (.offs (t21) 1),
 oN (.store 1 (t22) (t20))])
 (.seq (cR [ oM kk23 kk0,
 oP kk24 (.call 241 [(t23)]),
 oM kk3 kk24])
 (.seq (cR [ oM kk25 kk0,
 oP kk26 (.call 228 [(t25), (.c (.str 1 41))])])
 (.seq (cR [ oM kk27 kk0,
 oP kk28 (.nilck (t27)),
 oP kk29 (.offs (t28) 4),
 oP kk30 (.load 1 false (t29)),
 oP kk31 (.bin .sub (t30) (.c (nI (1)))),
 oP kk32 (.nilck (t27)),
 oP kk33 (.offs (t32) 4),
 oN (.store 1 (t33) (t31))])
 (.seq (cR [ oM kk34 kk3,
 oM kk2 kk34])
 .ret))))))
 (.seq (cR [ oM kk36 kk0,
 oP kk37 (.call 165 [(t36)]),
 oP kk38 (.sub (t37) 0 1 false),
 oP kk39 (.bin .eql (t38) (.c (nI (2)))),
 oM kk35 kk39])
 (.cond (t35)
 (.seq (cR [ oM kk40 kk0,
 oP kk41 (.call 244 [(t40)]),
 oM kk2 kk41])
 .ret)
 .skip)))))))
 (.seq (cR [ oM kk42 kk0,
 oM kk43 kk0,
 oP kk44 (.call 229 [(t43)]),
 oP kk45 (.build [(nI (0)), (nI (0)), (nI (0)), (.str 0 0), (.str 0 0), (nI (0)), (nI (0)), (.str 0 0)] [(0, 1, (.c (nI (1)))), (5, 3, (t44))]),
 oP kk46 (.call 274 [(t42), (t45)]),
 oM kk2 kk46])
 .ret))) }
theorem fn323 : fnOf Tryz.prog Tryz.f323 = some i323 := by kernel_rfl
noncomputable def rows2 : List (Nat × IFn) := [(216, i216), (217, i217), (218, i218), (219, i219), (220, i220), (221, i221), (222, i222), (223, i223), (224, i224), (225, i225), (226, i226), (227, i227), (228, i228), (229, i229), (230, i230), (231, i231), (232, i232), (233, i233), (234, i234), (235, i235), (236, i236), (237, i237), (238, i238), (239, i239), (241, i241), (242, i242), (243, i243), (244, i244), (245, i245), (246, i246), (248, i248), (249, i249), (250, i250), (251, i251), (252, i252), (253, i253), (254, i254), (255, i255), (256, i256), (257, i257), (258, i258), (259, i259), (260, i260), (261, i261), (262, i262), (263, i263), (264, i264), (265, i265), (266, i266), (267, i267), (268, i268), (269, i269), (270, i270), (271, i271), (272, i272), (273, i273), (274, i274), (277, i277), (278, i278), (279, i279), (280, i280), (281, i281), (282, i282), (283, i283), (284, i284), (285, i285), (286, i286), (287, i287), (288, i288), (289, i289), (290, i290), (291, i291), (292, i292), (293, i293), (294, i294), (295, i295), (296, i296), (297, i297), (298, i298), (299, i299), (300, i300), (301, i301), (302, i302), (303, i303), (304, i304), (305, i305), (306, i306), (307, i307), (308, i308), (309, i309), (310, i310), (311, i311), (312, i312), (313, i313), (314, i314), (315, i315), (316, i316), (317, i317), (318, i318), (319, i319), (320, i320), (321, i321), (322, i322), (323, i323)]
theorem rows2_ok : ∀ p, p ∈ rows2 → RowOk Tryz.prog p :=
  rows_cons Tryz.func216 fn216 <|
  rows_cons Tryz.func217 fn217 <|
  rows_cons Tryz.func218 fn218 <|
  rows_cons Tryz.func219 fn219 <|
  rows_cons Tryz.func220 fn220 <|
  rows_cons Tryz.func221 fn221 <|
  rows_cons Tryz.func222 fn222 <|
  rows_cons Tryz.func223 fn223 <|
  rows_cons Tryz.func224 fn224 <|
  rows_cons Tryz.func225 fn225 <|
  rows_cons Tryz.func226 fn226 <|
  rows_cons Tryz.func227 fn227 <|
  rows_cons Tryz.func228 fn228 <|
  rows_cons Tryz.func229 fn229 <|
  rows_cons Tryz.func230 fn230 <|
  rows_cons Tryz.func231 fn231 <|
  rows_cons Tryz.func232 fn232 <|
  rows_cons Tryz.func233 fn233 <|
  rows_cons Tryz.func234 fn234 <|
  rows_cons Tryz.func235 fn235 <|
  rows_cons Tryz.func236 fn236 <|
  rows_cons Tryz.func237 fn237 <|
  rows_cons Tryz.func238 fn238 <|
  rows_cons Tryz.func239 fn239 <|
  rows_cons Tryz.func241 fn241 <|
  rows_cons Tryz.func242 fn242 <|
  rows_cons Tryz.func243 fn243 <|
  rows_cons Tryz.func244 fn244 <|
  rows_cons Tryz.func245 fn245 <|
  rows_cons Tryz.func246 fn246 <|
  rows_cons Tryz.func248 fn248 <|
  rows_cons Tryz.func249 fn249 <|
  rows_cons Tryz.func250 fn250 <|
  rows_cons Tryz.func251 fn251 <|
  rows_cons Tryz.func252 fn252 <|
  rows_cons Tryz.func253 fn253 <|
  rows_cons Tryz.func254 fn254 <|
  rows_cons Tryz.func255 fn255 <|
  rows_cons Tryz.func256 fn256 <|
  rows_cons Tryz.func257 fn257 <|
  rows_cons Tryz.func258 fn258 <|
  rows_cons Tryz.func259 fn259 <|
  rows_cons Tryz.func260 fn260 <|
  rows_cons Tryz.func261 fn261 <|
  rows_cons Tryz.func262 fn262 <|
  rows_cons Tryz.func263 fn263 <|
  rows_cons Tryz.func264 fn264 <|
  rows_cons Tryz.func265 fn265 <|
  rows_cons Tryz.func266 fn266 <|
  rows_cons Tryz.func267 fn267 <|
  rows_cons Tryz.func268 fn268 <|
  rows_cons Tryz.func269 fn269 <|
  rows_cons Tryz.func270 fn270 <|
  rows_cons Tryz.func271 fn271 <|
  rows_cons Tryz.func272 fn272 <|
  rows_cons Tryz.func273 fn273 <|
  rows_cons Tryz.func274 fn274 <|
  rows_cons Tryz.func277 fn277 <|
  rows_cons Tryz.func278 fn278 <|
  rows_cons Tryz.func279 fn279 <|
  rows_cons Tryz.func280 fn280 <|
  rows_cons Tryz.func281 fn281 <|
  rows_cons Tryz.func282 fn282 <|
  rows_cons Tryz.func283 fn283 <|
  rows_cons Tryz.func284 fn284 <|
  rows_cons Tryz.func285 fn285 <|
  rows_cons Tryz.func286 fn286 <|
  rows_cons Tryz.func287 fn287 <|
  rows_cons Tryz.func288 fn288 <|
  rows_cons Tryz.func289 fn289 <|
  rows_cons Tryz.func290 fn290 <|
  rows_cons Tryz.func291 fn291 <|
  rows_cons Tryz.func292 fn292 <|
  rows_cons Tryz.func293 fn293 <|
  rows_cons Tryz.func294 fn294 <|
  rows_cons Tryz.func295 fn295 <|
  rows_cons Tryz.func296 fn296 <|
  rows_cons Tryz.func297 fn297 <|
  rows_cons Tryz.func298 fn298 <|
  rows_cons Tryz.func299 fn299 <|
  rows_cons Tryz.func300 fn300 <|
  rows_cons Tryz.func301 fn301 <|
  rows_cons Tryz.func302 fn302 <|
  rows_cons Tryz.func303 fn303 <|
  rows_cons Tryz.func304 fn304 <|
  rows_cons Tryz.func305 fn305 <|
  rows_cons Tryz.func306 fn306 <|
  rows_cons Tryz.func307 fn307 <|
  rows_cons Tryz.func308 fn308 <|
  rows_cons Tryz.func309 fn309 <|
  rows_cons Tryz.func310 fn310 <|
  rows_cons Tryz.func311 fn311 <|
  rows_cons Tryz.func312 fn312 <|
  rows_cons Tryz.func313 fn313 <|
  rows_cons Tryz.func314 fn314 <|
  rows_cons Tryz.func315 fn315 <|
  rows_cons Tryz.func316 fn316 <|
  rows_cons Tryz.func317 fn317 <|
  rows_cons Tryz.func318 fn318 <|
  rows_cons Tryz.func319 fn319 <|
  rows_cons Tryz.func320 fn320 <|
  rows_cons Tryz.func321 fn321 <|
  rows_cons Tryz.func322 fn322 <|
  rows_cons Tryz.func323 fn323 <|
  rows_nil
end Go.Proofs.YtffkihiledcilaaGreatDoor
