/- Closed calls, each out of those that it makes. Printed by closed.py. -/
import Derived.Test.YtdhefhnlagnkdaaDoorSxTab
import Derived.Test.YtdhefhnlagnkdaaDoorXS
namespace Go.Sx.Tryd.Calive20
open Go Go.Sx Go.Sx.Tryd
def w0 : PV := .agg [.int .i64 2, .int .i64 0, .int .i64 100]
def w1 : PV := .agg [.int .i64 1, .int .i64 0, .int .i64 (-100)]
def w2 : PV := .sl .full 3 [w0, w1]
def u3 : AV := .agg [.pv (.int .i64 1), .pv (.int .i32 5), .pv (.int .i32 3), .pv (w2), .pv (.int .i64 0), .pv (.int .i64 0), .pv (.str [])]
def w4 : PV := .sl .nil 0 []
def u5 : AV := .agg [.pv (w4)]
def u6 : AV := .agg [.pv (.int .i64 2), .pv (.int .i64 0), .pv (.int .i64 100)]
def u7 : AV := .agg [.pv (.int .i64 1), .pv (.int .i64 0), .pv (.int .i64 (-100))]
def b8 : Box := .cells [.pv (.int .i64 1), .pv (.int .i32 5), .pv (.int .i32 3), .pv (w2), .pv (.int .i64 0), .pv (.int .i64 0), .pv (.str [])]
def u9 : AV := .agg [.pv (.int .i64 0), .pv (.int .i64 100)]
def u10 : AV := .agg [.pv (.int .i64 0), .pv (.int .i64 (-100))]
def w11 : PV := .sl .shut 3 [w0, w1]
def u12 : AV := .agg [.pv (.int .i64 1), .pv (.int .i32 5), .pv (.int .i32 3), .pv (w11), .pv (.int .i64 0), .pv (.int .i64 0), .pv (.str [])]
def w13 : PV := .agg [.int .i64 1, .int .i32 5, .int .i32 3, w11, .int .i64 0, .int .i64 0, .str []]
def u14 : AV := .agg [.own 2431 7 [w13]]
def w15 : PV := .agg [.int .i64 2, .int .i64 0, .int .i64 7]
def w16 : PV := .agg [.int .i64 1, .int .i64 0, .int .i64 (-7)]
def w17 : PV := .sl .full 3 [w15, w16]
def u18 : AV := .agg [.pv (.int .i64 2), .pv (.int .i32 9), .pv (.int .i32 4), .pv (w17), .pv (.int .i64 0), .pv (.int .i64 0), .pv (.str [])]
def b19 : Box := .cells [.pv (.int .i64 1), .pv (.int .i32 5), .pv (.int .i32 3), .pv (w11), .pv (.int .i64 0), .pv (.int .i64 0), .pv (.str [])]
def w20 : PV := .sl .shut 7 []
def w21 : PV := .sl .shut 7 [w13]
def u22 : AV := .agg [.pv (w21)]
def u23 : AV := .agg [.pv (.int .i64 2), .pv (.int .i64 0), .pv (.int .i64 7)]
def u24 : AV := .agg [.pv (.int .i64 1), .pv (.int .i64 0), .pv (.int .i64 (-7))]
def b25 : Box := .cells [.pv (.int .i64 2), .pv (.int .i32 9), .pv (.int .i32 4), .pv (w17), .pv (.int .i64 0), .pv (.int .i64 0), .pv (.str [])]
def u26 : AV := .agg [.pv (.int .i64 0), .pv (.int .i64 7)]
def u27 : AV := .agg [.pv (.int .i64 0), .pv (.int .i64 (-7))]
def w28 : PV := .sl .shut 3 [w15, w16]
def u29 : AV := .agg [.pv (.int .i64 2), .pv (.int .i32 9), .pv (.int .i32 4), .pv (w28), .pv (.int .i64 0), .pv (.int .i64 0), .pv (.str [])]
def w30 : PV := .agg [.int .i64 2, .int .i32 9, .int .i32 4, w28, .int .i64 0, .int .i64 0, .str []]
def u31 : AV := .agg [.own 2431 7 [w13, w30]]
def b32 : Box := .cells [.pv (.int .i64 2), .pv (.int .i32 9), .pv (.int .i32 4), .pv (w28), .pv (.int .i64 0), .pv (.int .i64 0), .pv (.str [])]
def w33 : PV := .sl .shut 7 [w13, w30]
def u34 : AV := .agg [.pv (w33)]
def u35 : AV := .agg [.pv (.int .i64 3), .pv (.int .i32 8), .pv (.int .i32 4), .pv (w17), .pv (.int .i64 0), .pv (.int .i64 0), .pv (.str [])]
def b36 : Box := .cells [.pv (.int .i64 3), .pv (.int .i32 8), .pv (.int .i32 4), .pv (w17), .pv (.int .i64 0), .pv (.int .i64 0), .pv (.str [])]
def w37 : PV := .agg [.int .i64 2, .int .i64 0, .int .i64 (-100)]
def w38 : PV := .agg [.int .i64 1, .int .i64 0, .int .i64 100]
def w39 : PV := .sl .shut 3 [w37, w38]
def u40 : AV := .agg [.pv (.int .i64 3), .pv (.int .i32 10), .pv (.int .i32 3), .pv (w39), .pv (.int .i64 1), .pv (.int .i64 0), .pv (.str [])]
def u41 : AV := .agg [.pv (.int .i64 2), .pv (.int .i64 0), .pv (.int .i64 (-100))]
def u42 : AV := .agg [.pv (.int .i64 1), .pv (.int .i64 0), .pv (.int .i64 100)]
def b43 : Box := .cells [.pv (.int .i64 3), .pv (.int .i32 10), .pv (.int .i32 3), .pv (w39), .pv (.int .i64 1), .pv (.int .i64 0), .pv (.str [])]
def w44 : PV := .agg [.int .i64 3, .int .i32 10, .int .i32 3, w39, .int .i64 1, .int .i64 0, .str []]
def u45 : AV := .agg [.own 2431 7 [w13, w30, w44]]
def w46 : PV := .sl .shut 7 [w13, w30, w44]
def u47 : AV := .agg [.pv (w46)]
def u48 : AV := .agg [.pv (.int .i64 4), .pv (.int .i32 10), .pv (.int .i32 3), .pv (w39), .pv (.int .i64 1), .pv (.int .i64 0), .pv (.str [])]
def b49 : Box := .cells [.pv (.int .i64 4), .pv (.int .i32 10), .pv (.int .i32 3), .pv (w39), .pv (.int .i64 1), .pv (.int .i64 0), .pv (.str [])]
def b50 : Box := .cells [.pv (.int .i32 5)]
def u51 : AV := .agg [.own 704 7 [w13]]
def b52 : Box := .cells [.pv (.int .i32 9)]
def b53 : Box := .cells [.pv (.int .i32 3)]
def b54 : Box := .cells [.mp 1]
def b55 : Box := .cells [.pv (.int .i64 2)]
def b56 : Box := .cells [.pv (.int .i64 0)]
def b57 : Box := .cells [.pv (.int .i64 1)]
def w58 : PV := .sl .shut 7 [w30, w44]
def w59 : PV := .sl .shut 1 [.int .i64 2]
def w60 : PV := .sl .full 1 [.int .i64 2]
def u61 : AV := .agg [.pv (w58)]
def t0 : Fact := ⟨58, [.c (.pv (.int .i64 1)), .c (.pv (.int .i32 5)), .c (.pv (.int .i32 3)), .c (.pv (.int .i64 100))], [], (u3, [])⟩
theorem t0_ok : Holds (ev X E0) [t0] := ⟨ev_tab (n := 400) (x := xf58) rfl (t := []) (by kernel_rfl) trivial, trivial⟩
def t1 : Fact := ⟨25, [u5], [], (.c (.pv (.bool true)), [])⟩
theorem t1_ok : Holds (ev X E0) [t1] := ⟨ev_tab (n := 400) (x := xf25) rfl (t := []) (by kernel_rfl) trivial, trivial⟩
def t2 : Fact := ⟨154, [.c (.pv (.str [])), .c (.fn 128 []), .c (.pv (.bool true))], [], (.c (.pv (.int .i64 (-1))), [])⟩
theorem t2_ok : Holds (ev X E0) [t2] := ⟨ev_tab (n := 400) (x := xf154) rfl (t := []) (by kernel_rfl) trivial, trivial⟩
def t3 : Fact := ⟨151, [.c (.pv (.str [])), .c (.fn 128 [])], [], (.c (.pv (.int .i64 (-1))), [])⟩
theorem t3_ok : Holds (ev X E0) [t3] := ⟨ev_tab (n := 400) (x := xf151) rfl (t := [t2]) (by kernel_rfl) ⟨t2_ok.1, trivial⟩, trivial⟩
def t4 : Fact := ⟨129, [.c (.pv (.str [])), .c (.fn 128 [])], [], (.c (.pv (.bool false)), [])⟩
theorem t4_ok : Holds (ev X E0) [t4] := ⟨ev_tab (n := 400) (x := xf129) rfl (t := [t3]) (by kernel_rfl) ⟨t3_ok.1, trivial⟩, trivial⟩
def t5 : Fact := ⟨76, [u3], [], (.c (.pv (.bool true)), [])⟩
theorem t5_ok : Holds (ev X E0) [t5] := ⟨ev_tab (n := 400) (x := xf76) rfl (t := [t4]) (by kernel_rfl) ⟨t4_ok.1, trivial⟩, trivial⟩
def t6 : Fact := ⟨77, [.c (.pv (.int .i32 5))], [], (.c (.pv (.bool true)), [])⟩
theorem t6_ok : Holds (ev X E0) [t6] := ⟨ev_tab (n := 400) (x := xf77) rfl (t := []) (by kernel_rfl) trivial, trivial⟩
def t7 : Fact := ⟨77, [.c (.pv (.int .i32 3))], [], (.c (.pv (.bool true)), [])⟩
theorem t7_ok : Holds (ev X E0) [t7] := ⟨ev_tab (n := 400) (x := xf77) rfl (t := []) (by kernel_rfl) trivial, trivial⟩
def t8 : Fact := ⟨78, [u6], [], (.c (.pv (.bool false)), [])⟩
theorem t8_ok : Holds (ev X E0) [t8] := ⟨ev_tab (n := 400) (x := xf78) rfl (t := []) (by kernel_rfl) trivial, trivial⟩
def t9 : Fact := ⟨78, [u7], [], (.c (.pv (.bool false)), [])⟩
theorem t9_ok : Holds (ev X E0) [t9] := ⟨ev_tab (n := 400) (x := xf78) rfl (t := []) (by kernel_rfl) trivial, trivial⟩
def t10 : Fact := ⟨127, [.c (.pv (w2)), .c (.fn 78 [])], [], (.c (.pv (.int .i64 (-1))), [])⟩
theorem t10_ok : Holds (ev X E0) [t10] := ⟨ev_tab (n := 400) (x := xf127) rfl (t := [t8, t9]) (by kernel_rfl) ⟨t8_ok.1, t9_ok.1, trivial⟩, trivial⟩
def t11 : Fact := ⟨75, [.c (.pv (w2)), .c (.fn 78 [])], [], (.c (.pv (.bool false)), [])⟩
theorem t11_ok : Holds (ev X E0) [t11] := ⟨ev_tab (n := 400) (x := xf75) rfl (t := [t10]) (by kernel_rfl) ⟨t10_ok.1, trivial⟩, trivial⟩
def t12 : Fact := ⟨74, [.c (.fn 78 []), .c (.ptr 0 0)], [b8], (.c (.pv (.bool false)), [b8])⟩
theorem t12_ok : Holds (ev X E0) [t12] := ⟨ev_tab (n := 400) (x := xf74) rfl (t := [t11]) (by kernel_rfl) ⟨t11_ok.1, trivial⟩, trivial⟩
def t13 : Fact := ⟨130, [.c (.pv (.int .i64 0))], [], (.c (.pv (.bool true)), [])⟩
theorem t13_ok : Holds (ev X E0) [t13] := ⟨ev_tab (n := 400) (x := xf130) rfl (t := []) (by kernel_rfl) trivial, trivial⟩
def t14 : Fact := ⟨80, [.c (.pv (.int .i64 0))], [], (.c (.pv (.str [69, 85, 82])), [])⟩
theorem t14_ok : Holds (ev X E0) [t14] := ⟨ev_tab (n := 400) (x := xf80) rfl (t := [t13]) (by kernel_rfl) ⟨t13_ok.1, trivial⟩, trivial⟩
def t15 : Fact := ⟨79, [u6], [], (.c (.pv (.bool false)), [])⟩
theorem t15_ok : Holds (ev X E0) [t15] := ⟨ev_tab (n := 400) (x := xf79) rfl (t := [t14]) (by kernel_rfl) ⟨t14_ok.1, trivial⟩, trivial⟩
def t16 : Fact := ⟨79, [u7], [], (.c (.pv (.bool false)), [])⟩
theorem t16_ok : Holds (ev X E0) [t16] := ⟨ev_tab (n := 400) (x := xf79) rfl (t := [t14]) (by kernel_rfl) ⟨t14_ok.1, trivial⟩, trivial⟩
def t17 : Fact := ⟨127, [.c (.pv (w2)), .c (.fn 79 [])], [], (.c (.pv (.int .i64 (-1))), [])⟩
theorem t17_ok : Holds (ev X E0) [t17] := ⟨ev_tab (n := 400) (x := xf127) rfl (t := [t15, t16]) (by kernel_rfl) ⟨t15_ok.1, t16_ok.1, trivial⟩, trivial⟩
def t18 : Fact := ⟨75, [.c (.pv (w2)), .c (.fn 79 [])], [], (.c (.pv (.bool false)), [])⟩
theorem t18_ok : Holds (ev X E0) [t18] := ⟨ev_tab (n := 400) (x := xf75) rfl (t := [t17]) (by kernel_rfl) ⟨t17_ok.1, trivial⟩, trivial⟩
def t19 : Fact := ⟨74, [.c (.fn 79 []), .c (.ptr 0 0)], [b8], (.c (.pv (.bool false)), [b8])⟩
theorem t19_ok : Holds (ev X E0) [t19] := ⟨ev_tab (n := 400) (x := xf74) rfl (t := [t18]) (by kernel_rfl) ⟨t18_ok.1, trivial⟩, trivial⟩
def t20 : Fact := ⟨82, [u9], [], (.c (.pv (.bool true)), [])⟩
theorem t20_ok : Holds (ev X E0) [t20] := ⟨ev_tab (n := 400) (x := xf82) rfl (t := [t13]) (by kernel_rfl) ⟨t13_ok.1, trivial⟩, trivial⟩
def t21 : Fact := ⟨81, [u6], [], (.c (.pv (.bool false)), [])⟩
theorem t21_ok : Holds (ev X E0) [t21] := ⟨ev_tab (n := 400) (x := xf81) rfl (t := [t20]) (by kernel_rfl) ⟨t20_ok.1, trivial⟩, trivial⟩
def t22 : Fact := ⟨82, [u10], [], (.c (.pv (.bool true)), [])⟩
theorem t22_ok : Holds (ev X E0) [t22] := ⟨ev_tab (n := 400) (x := xf82) rfl (t := [t13]) (by kernel_rfl) ⟨t13_ok.1, trivial⟩, trivial⟩
def t23 : Fact := ⟨81, [u7], [], (.c (.pv (.bool false)), [])⟩
theorem t23_ok : Holds (ev X E0) [t23] := ⟨ev_tab (n := 400) (x := xf81) rfl (t := [t22]) (by kernel_rfl) ⟨t22_ok.1, trivial⟩, trivial⟩
def t24 : Fact := ⟨127, [.c (.pv (w2)), .c (.fn 81 [])], [], (.c (.pv (.int .i64 (-1))), [])⟩
theorem t24_ok : Holds (ev X E0) [t24] := ⟨ev_tab (n := 400) (x := xf127) rfl (t := [t21, t23]) (by kernel_rfl) ⟨t21_ok.1, t23_ok.1, trivial⟩, trivial⟩
def t25 : Fact := ⟨75, [.c (.pv (w2)), .c (.fn 81 [])], [], (.c (.pv (.bool false)), [])⟩
theorem t25_ok : Holds (ev X E0) [t25] := ⟨ev_tab (n := 400) (x := xf75) rfl (t := [t24]) (by kernel_rfl) ⟨t24_ok.1, trivial⟩, trivial⟩
def t26 : Fact := ⟨74, [.c (.fn 81 []), .c (.ptr 0 0)], [b8], (.c (.pv (.bool false)), [b8])⟩
theorem t26_ok : Holds (ev X E0) [t26] := ⟨ev_tab (n := 400) (x := xf74) rfl (t := [t25]) (by kernel_rfl) ⟨t25_ok.1, trivial⟩, trivial⟩
def t27 : Fact := ⟨83, [u6], [], (.c (.pv (.bool false)), [])⟩
theorem t27_ok : Holds (ev X E0) [t27] := ⟨ev_tab (n := 400) (x := xf83) rfl (t := []) (by kernel_rfl) trivial, trivial⟩
def t28 : Fact := ⟨83, [u7], [], (.c (.pv (.bool false)), [])⟩
theorem t28_ok : Holds (ev X E0) [t28] := ⟨ev_tab (n := 400) (x := xf83) rfl (t := []) (by kernel_rfl) trivial, trivial⟩
def t29 : Fact := ⟨127, [.c (.pv (w2)), .c (.fn 83 [])], [], (.c (.pv (.int .i64 (-1))), [])⟩
theorem t29_ok : Holds (ev X E0) [t29] := ⟨ev_tab (n := 400) (x := xf127) rfl (t := [t27, t28]) (by kernel_rfl) ⟨t27_ok.1, t28_ok.1, trivial⟩, trivial⟩
def t30 : Fact := ⟨75, [.c (.pv (w2)), .c (.fn 83 [])], [], (.c (.pv (.bool false)), [])⟩
theorem t30_ok : Holds (ev X E0) [t30] := ⟨ev_tab (n := 400) (x := xf75) rfl (t := [t29]) (by kernel_rfl) ⟨t29_ok.1, trivial⟩, trivial⟩
def t31 : Fact := ⟨74, [.c (.fn 83 []), .c (.ptr 0 0)], [b8], (.c (.pv (.bool false)), [b8])⟩
theorem t31_ok : Holds (ev X E0) [t31] := ⟨ev_tab (n := 400) (x := xf74) rfl (t := [t30]) (by kernel_rfl) ⟨t30_ok.1, trivial⟩, trivial⟩
def t32 : Fact := ⟨84, [.c (.pv (w2))], [], (.c (.pv (.bool true)), [])⟩
theorem t32_ok : Holds (ev X E0) [t32] := ⟨ev_tab (n := 400) (x := xf84) rfl (t := []) (by kernel_rfl) trivial, trivial⟩
def t33 : Fact := ⟨37, [u3], [], (.c (.pv (.int .i64 0)), [])⟩
theorem t33_ok : Holds (ev X E0) [t33] := ⟨ev_tab (n := 400) (x := xf37) rfl (t := [t5, t6, t7, t12, t19, t26, t31, t32]) (by kernel_rfl) ⟨t5_ok.1, t6_ok.1, t7_ok.1, t12_ok.1, t19_ok.1, t26_ok.1, t31_ok.1, t32_ok.1, trivial⟩, trivial⟩
def t34 : Fact := ⟨60, [.c (.pv (w4))], [], (.c (.mp 0), [.map []])⟩
theorem t34_ok : Holds (ev X E0) [t34] := ⟨ev_tab (n := 400) (x := xf60) rfl (t := []) (by kernel_rfl) trivial, trivial⟩
def t35 : Fact := ⟨59, [.c (.pv (w4)), .c (.mp 0), u3], [.map []], (.c (.pv (.int .i64 0)), [.map []])⟩
theorem t35_ok : Holds (ev X E0) [t35] := ⟨ev_tab (n := 400) (x := xf59) rfl (t := []) (by kernel_rfl) trivial, trivial⟩
def t36 : Fact := ⟨62, [.c (.pv (w4)), .c (.fn 61 [])], [], (.c (.pv (w4)), [])⟩
theorem t36_ok : Holds (ev X E0) [t36] := ⟨ev_tab (n := 400) (x := xf62) rfl (t := []) (by kernel_rfl) trivial, trivial⟩
def t37 : Fact := ⟨85, [.c (.pv (w2))], [], (.c (.own 511 3 [w0, w1]), [])⟩
theorem t37_ok : Holds (ev X E0) [t37] := ⟨ev_tab (n := 400) (x := xf85) rfl (t := []) (by kernel_rfl) trivial, trivial⟩
def t38 : Fact := ⟨63, [u3], [], (u12, [])⟩
theorem t38_ok : Holds (ev X E0) [t38] := ⟨ev_tab (n := 400) (x := xf63) rfl (t := [t37]) (by kernel_rfl) ⟨t37_ok.1, trivial⟩, trivial⟩
def t39 : Fact := ⟨19, [u5, u3], [], (.tup [u14, .c (.pv (.int .i64 0))], [])⟩
theorem t39_ok : Holds (ev X E0) [t39] := ⟨ev_tab (n := 400) (x := xf19) rfl (t := [t1, t33, t34, t35, t36, t38]) (by kernel_rfl) ⟨t1_ok.1, t33_ok.1, t34_ok.1, t35_ok.1, t36_ok.1, t38_ok.1, trivial⟩, trivial⟩
def t40 : Fact := ⟨58, [.c (.pv (.int .i64 2)), .c (.pv (.int .i32 9)), .c (.pv (.int .i32 4)), .c (.pv (.int .i64 7))], [], (u18, [])⟩
theorem t40_ok : Holds (ev X E0) [t40] := ⟨ev_tab (n := 400) (x := xf58) rfl (t := []) (by kernel_rfl) trivial, trivial⟩
def t41 : Fact := ⟨76, [u12], [], (.c (.pv (.bool true)), [])⟩
theorem t41_ok : Holds (ev X E0) [t41] := ⟨ev_tab (n := 400) (x := xf76) rfl (t := [t4]) (by kernel_rfl) ⟨t4_ok.1, trivial⟩, trivial⟩
def t42 : Fact := ⟨127, [.c (.pv (w11)), .c (.fn 78 [])], [], (.c (.pv (.int .i64 (-1))), [])⟩
theorem t42_ok : Holds (ev X E0) [t42] := ⟨ev_tab (n := 400) (x := xf127) rfl (t := [t8, t9]) (by kernel_rfl) ⟨t8_ok.1, t9_ok.1, trivial⟩, trivial⟩
def t43 : Fact := ⟨75, [.c (.pv (w11)), .c (.fn 78 [])], [], (.c (.pv (.bool false)), [])⟩
theorem t43_ok : Holds (ev X E0) [t43] := ⟨ev_tab (n := 400) (x := xf75) rfl (t := [t42]) (by kernel_rfl) ⟨t42_ok.1, trivial⟩, trivial⟩
def t44 : Fact := ⟨74, [.c (.fn 78 []), .c (.ptr 0 0)], [b19], (.c (.pv (.bool false)), [b19])⟩
theorem t44_ok : Holds (ev X E0) [t44] := ⟨ev_tab (n := 400) (x := xf74) rfl (t := [t43]) (by kernel_rfl) ⟨t43_ok.1, trivial⟩, trivial⟩
def t45 : Fact := ⟨127, [.c (.pv (w11)), .c (.fn 79 [])], [], (.c (.pv (.int .i64 (-1))), [])⟩
theorem t45_ok : Holds (ev X E0) [t45] := ⟨ev_tab (n := 400) (x := xf127) rfl (t := [t15, t16]) (by kernel_rfl) ⟨t15_ok.1, t16_ok.1, trivial⟩, trivial⟩
def t46 : Fact := ⟨75, [.c (.pv (w11)), .c (.fn 79 [])], [], (.c (.pv (.bool false)), [])⟩
theorem t46_ok : Holds (ev X E0) [t46] := ⟨ev_tab (n := 400) (x := xf75) rfl (t := [t45]) (by kernel_rfl) ⟨t45_ok.1, trivial⟩, trivial⟩
def t47 : Fact := ⟨74, [.c (.fn 79 []), .c (.ptr 0 0)], [b19], (.c (.pv (.bool false)), [b19])⟩
theorem t47_ok : Holds (ev X E0) [t47] := ⟨ev_tab (n := 400) (x := xf74) rfl (t := [t46]) (by kernel_rfl) ⟨t46_ok.1, trivial⟩, trivial⟩
def t48 : Fact := ⟨127, [.c (.pv (w11)), .c (.fn 81 [])], [], (.c (.pv (.int .i64 (-1))), [])⟩
theorem t48_ok : Holds (ev X E0) [t48] := ⟨ev_tab (n := 400) (x := xf127) rfl (t := [t21, t23]) (by kernel_rfl) ⟨t21_ok.1, t23_ok.1, trivial⟩, trivial⟩
def t49 : Fact := ⟨75, [.c (.pv (w11)), .c (.fn 81 [])], [], (.c (.pv (.bool false)), [])⟩
theorem t49_ok : Holds (ev X E0) [t49] := ⟨ev_tab (n := 400) (x := xf75) rfl (t := [t48]) (by kernel_rfl) ⟨t48_ok.1, trivial⟩, trivial⟩
def t50 : Fact := ⟨74, [.c (.fn 81 []), .c (.ptr 0 0)], [b19], (.c (.pv (.bool false)), [b19])⟩
theorem t50_ok : Holds (ev X E0) [t50] := ⟨ev_tab (n := 400) (x := xf74) rfl (t := [t49]) (by kernel_rfl) ⟨t49_ok.1, trivial⟩, trivial⟩
def t51 : Fact := ⟨127, [.c (.pv (w11)), .c (.fn 83 [])], [], (.c (.pv (.int .i64 (-1))), [])⟩
theorem t51_ok : Holds (ev X E0) [t51] := ⟨ev_tab (n := 400) (x := xf127) rfl (t := [t27, t28]) (by kernel_rfl) ⟨t27_ok.1, t28_ok.1, trivial⟩, trivial⟩
def t52 : Fact := ⟨75, [.c (.pv (w11)), .c (.fn 83 [])], [], (.c (.pv (.bool false)), [])⟩
theorem t52_ok : Holds (ev X E0) [t52] := ⟨ev_tab (n := 400) (x := xf75) rfl (t := [t51]) (by kernel_rfl) ⟨t51_ok.1, trivial⟩, trivial⟩
def t53 : Fact := ⟨74, [.c (.fn 83 []), .c (.ptr 0 0)], [b19], (.c (.pv (.bool false)), [b19])⟩
theorem t53_ok : Holds (ev X E0) [t53] := ⟨ev_tab (n := 400) (x := xf74) rfl (t := [t52]) (by kernel_rfl) ⟨t52_ok.1, trivial⟩, trivial⟩
def t54 : Fact := ⟨84, [.c (.pv (w11))], [], (.c (.pv (.bool true)), [])⟩
theorem t54_ok : Holds (ev X E0) [t54] := ⟨ev_tab (n := 400) (x := xf84) rfl (t := []) (by kernel_rfl) trivial, trivial⟩
def t55 : Fact := ⟨37, [u12], [], (.c (.pv (.int .i64 0)), [])⟩
theorem t55_ok : Holds (ev X E0) [t55] := ⟨ev_tab (n := 400) (x := xf37) rfl (t := [t41, t6, t7, t44, t47, t50, t53, t54]) (by kernel_rfl) ⟨t41_ok.1, t6_ok.1, t7_ok.1, t44_ok.1, t47_ok.1, t50_ok.1, t53_ok.1, t54_ok.1, trivial⟩, trivial⟩
def t56 : Fact := ⟨59, [.c (.pv (w20)), .c (.mp 0), u12], [.map []], (.c (.pv (.int .i64 0)), [.map []])⟩
theorem t56_ok : Holds (ev X E0) [t56] := ⟨ev_tab (n := 400) (x := xf59) rfl (t := []) (by kernel_rfl) trivial, trivial⟩
def t57 : Fact := ⟨25, [u22], [], (.c (.pv (.bool true)), [])⟩
theorem t57_ok : Holds (ev X E0) [t57] := ⟨ev_tab (n := 400) (x := xf25) rfl (t := [t55, t56]) (by kernel_rfl) ⟨t55_ok.1, t56_ok.1, trivial⟩, trivial⟩
def t58 : Fact := ⟨76, [u18], [], (.c (.pv (.bool true)), [])⟩
theorem t58_ok : Holds (ev X E0) [t58] := ⟨ev_tab (n := 400) (x := xf76) rfl (t := [t4]) (by kernel_rfl) ⟨t4_ok.1, trivial⟩, trivial⟩
def t59 : Fact := ⟨77, [.c (.pv (.int .i32 9))], [], (.c (.pv (.bool true)), [])⟩
theorem t59_ok : Holds (ev X E0) [t59] := ⟨ev_tab (n := 400) (x := xf77) rfl (t := []) (by kernel_rfl) trivial, trivial⟩
def t60 : Fact := ⟨77, [.c (.pv (.int .i32 4))], [], (.c (.pv (.bool true)), [])⟩
theorem t60_ok : Holds (ev X E0) [t60] := ⟨ev_tab (n := 400) (x := xf77) rfl (t := []) (by kernel_rfl) trivial, trivial⟩
def t61 : Fact := ⟨78, [u23], [], (.c (.pv (.bool false)), [])⟩
theorem t61_ok : Holds (ev X E0) [t61] := ⟨ev_tab (n := 400) (x := xf78) rfl (t := []) (by kernel_rfl) trivial, trivial⟩
def t62 : Fact := ⟨78, [u24], [], (.c (.pv (.bool false)), [])⟩
theorem t62_ok : Holds (ev X E0) [t62] := ⟨ev_tab (n := 400) (x := xf78) rfl (t := []) (by kernel_rfl) trivial, trivial⟩
def t63 : Fact := ⟨127, [.c (.pv (w17)), .c (.fn 78 [])], [], (.c (.pv (.int .i64 (-1))), [])⟩
theorem t63_ok : Holds (ev X E0) [t63] := ⟨ev_tab (n := 400) (x := xf127) rfl (t := [t61, t62]) (by kernel_rfl) ⟨t61_ok.1, t62_ok.1, trivial⟩, trivial⟩
def t64 : Fact := ⟨75, [.c (.pv (w17)), .c (.fn 78 [])], [], (.c (.pv (.bool false)), [])⟩
theorem t64_ok : Holds (ev X E0) [t64] := ⟨ev_tab (n := 400) (x := xf75) rfl (t := [t63]) (by kernel_rfl) ⟨t63_ok.1, trivial⟩, trivial⟩
def t65 : Fact := ⟨74, [.c (.fn 78 []), .c (.ptr 0 0)], [b25], (.c (.pv (.bool false)), [b25])⟩
theorem t65_ok : Holds (ev X E0) [t65] := ⟨ev_tab (n := 400) (x := xf74) rfl (t := [t64]) (by kernel_rfl) ⟨t64_ok.1, trivial⟩, trivial⟩
def t66 : Fact := ⟨79, [u23], [], (.c (.pv (.bool false)), [])⟩
theorem t66_ok : Holds (ev X E0) [t66] := ⟨ev_tab (n := 400) (x := xf79) rfl (t := [t14]) (by kernel_rfl) ⟨t14_ok.1, trivial⟩, trivial⟩
def t67 : Fact := ⟨79, [u24], [], (.c (.pv (.bool false)), [])⟩
theorem t67_ok : Holds (ev X E0) [t67] := ⟨ev_tab (n := 400) (x := xf79) rfl (t := [t14]) (by kernel_rfl) ⟨t14_ok.1, trivial⟩, trivial⟩
def t68 : Fact := ⟨127, [.c (.pv (w17)), .c (.fn 79 [])], [], (.c (.pv (.int .i64 (-1))), [])⟩
theorem t68_ok : Holds (ev X E0) [t68] := ⟨ev_tab (n := 400) (x := xf127) rfl (t := [t66, t67]) (by kernel_rfl) ⟨t66_ok.1, t67_ok.1, trivial⟩, trivial⟩
def t69 : Fact := ⟨75, [.c (.pv (w17)), .c (.fn 79 [])], [], (.c (.pv (.bool false)), [])⟩
theorem t69_ok : Holds (ev X E0) [t69] := ⟨ev_tab (n := 400) (x := xf75) rfl (t := [t68]) (by kernel_rfl) ⟨t68_ok.1, trivial⟩, trivial⟩
def t70 : Fact := ⟨74, [.c (.fn 79 []), .c (.ptr 0 0)], [b25], (.c (.pv (.bool false)), [b25])⟩
theorem t70_ok : Holds (ev X E0) [t70] := ⟨ev_tab (n := 400) (x := xf74) rfl (t := [t69]) (by kernel_rfl) ⟨t69_ok.1, trivial⟩, trivial⟩
def t71 : Fact := ⟨82, [u26], [], (.c (.pv (.bool true)), [])⟩
theorem t71_ok : Holds (ev X E0) [t71] := ⟨ev_tab (n := 400) (x := xf82) rfl (t := [t13]) (by kernel_rfl) ⟨t13_ok.1, trivial⟩, trivial⟩
def t72 : Fact := ⟨81, [u23], [], (.c (.pv (.bool false)), [])⟩
theorem t72_ok : Holds (ev X E0) [t72] := ⟨ev_tab (n := 400) (x := xf81) rfl (t := [t71]) (by kernel_rfl) ⟨t71_ok.1, trivial⟩, trivial⟩
def t73 : Fact := ⟨82, [u27], [], (.c (.pv (.bool true)), [])⟩
theorem t73_ok : Holds (ev X E0) [t73] := ⟨ev_tab (n := 400) (x := xf82) rfl (t := [t13]) (by kernel_rfl) ⟨t13_ok.1, trivial⟩, trivial⟩
def t74 : Fact := ⟨81, [u24], [], (.c (.pv (.bool false)), [])⟩
theorem t74_ok : Holds (ev X E0) [t74] := ⟨ev_tab (n := 400) (x := xf81) rfl (t := [t73]) (by kernel_rfl) ⟨t73_ok.1, trivial⟩, trivial⟩
def t75 : Fact := ⟨127, [.c (.pv (w17)), .c (.fn 81 [])], [], (.c (.pv (.int .i64 (-1))), [])⟩
theorem t75_ok : Holds (ev X E0) [t75] := ⟨ev_tab (n := 400) (x := xf127) rfl (t := [t72, t74]) (by kernel_rfl) ⟨t72_ok.1, t74_ok.1, trivial⟩, trivial⟩
def t76 : Fact := ⟨75, [.c (.pv (w17)), .c (.fn 81 [])], [], (.c (.pv (.bool false)), [])⟩
theorem t76_ok : Holds (ev X E0) [t76] := ⟨ev_tab (n := 400) (x := xf75) rfl (t := [t75]) (by kernel_rfl) ⟨t75_ok.1, trivial⟩, trivial⟩
def t77 : Fact := ⟨74, [.c (.fn 81 []), .c (.ptr 0 0)], [b25], (.c (.pv (.bool false)), [b25])⟩
theorem t77_ok : Holds (ev X E0) [t77] := ⟨ev_tab (n := 400) (x := xf74) rfl (t := [t76]) (by kernel_rfl) ⟨t76_ok.1, trivial⟩, trivial⟩
def t78 : Fact := ⟨83, [u23], [], (.c (.pv (.bool false)), [])⟩
theorem t78_ok : Holds (ev X E0) [t78] := ⟨ev_tab (n := 400) (x := xf83) rfl (t := []) (by kernel_rfl) trivial, trivial⟩
def t79 : Fact := ⟨83, [u24], [], (.c (.pv (.bool false)), [])⟩
theorem t79_ok : Holds (ev X E0) [t79] := ⟨ev_tab (n := 400) (x := xf83) rfl (t := []) (by kernel_rfl) trivial, trivial⟩
def t80 : Fact := ⟨127, [.c (.pv (w17)), .c (.fn 83 [])], [], (.c (.pv (.int .i64 (-1))), [])⟩
theorem t80_ok : Holds (ev X E0) [t80] := ⟨ev_tab (n := 400) (x := xf127) rfl (t := [t78, t79]) (by kernel_rfl) ⟨t78_ok.1, t79_ok.1, trivial⟩, trivial⟩
def t81 : Fact := ⟨75, [.c (.pv (w17)), .c (.fn 83 [])], [], (.c (.pv (.bool false)), [])⟩
theorem t81_ok : Holds (ev X E0) [t81] := ⟨ev_tab (n := 400) (x := xf75) rfl (t := [t80]) (by kernel_rfl) ⟨t80_ok.1, trivial⟩, trivial⟩
def t82 : Fact := ⟨74, [.c (.fn 83 []), .c (.ptr 0 0)], [b25], (.c (.pv (.bool false)), [b25])⟩
theorem t82_ok : Holds (ev X E0) [t82] := ⟨ev_tab (n := 400) (x := xf74) rfl (t := [t81]) (by kernel_rfl) ⟨t81_ok.1, trivial⟩, trivial⟩
def t83 : Fact := ⟨84, [.c (.pv (w17))], [], (.c (.pv (.bool true)), [])⟩
theorem t83_ok : Holds (ev X E0) [t83] := ⟨ev_tab (n := 400) (x := xf84) rfl (t := []) (by kernel_rfl) trivial, trivial⟩
def t84 : Fact := ⟨37, [u18], [], (.c (.pv (.int .i64 0)), [])⟩
theorem t84_ok : Holds (ev X E0) [t84] := ⟨ev_tab (n := 400) (x := xf37) rfl (t := [t58, t59, t60, t65, t70, t77, t82, t83]) (by kernel_rfl) ⟨t58_ok.1, t59_ok.1, t60_ok.1, t65_ok.1, t70_ok.1, t77_ok.1, t82_ok.1, t83_ok.1, trivial⟩, trivial⟩
def t85 : Fact := ⟨60, [.c (.pv (w21))], [], (.c (.mp 0), [.map [(.int .i64 0, .bool true)]])⟩
theorem t85_ok : Holds (ev X E0) [t85] := ⟨ev_tab (n := 400) (x := xf60) rfl (t := []) (by kernel_rfl) trivial, trivial⟩
def t86 : Fact := ⟨59, [.c (.pv (w21)), .c (.mp 0), u18], [.map [(.int .i64 0, .bool true)]], (.c (.pv (.int .i64 0)), [.map [(.int .i64 0, .bool true)]])⟩
theorem t86_ok : Holds (ev X E0) [t86] := ⟨ev_tab (n := 400) (x := xf59) rfl (t := []) (by kernel_rfl) trivial, trivial⟩
def t87 : Fact := ⟨61, [u12], [], (.c (.pv (.bool true)), [])⟩
theorem t87_ok : Holds (ev X E0) [t87] := ⟨ev_tab (n := 400) (x := xf61) rfl (t := []) (by kernel_rfl) trivial, trivial⟩
def t88 : Fact := ⟨85, [.c (.pv (w11))], [], (.c (.own 511 3 [w0, w1]), [])⟩
theorem t88_ok : Holds (ev X E0) [t88] := ⟨ev_tab (n := 400) (x := xf85) rfl (t := []) (by kernel_rfl) trivial, trivial⟩
def t89 : Fact := ⟨63, [u12], [], (u12, [])⟩
theorem t89_ok : Holds (ev X E0) [t89] := ⟨ev_tab (n := 400) (x := xf63) rfl (t := [t88]) (by kernel_rfl) ⟨t88_ok.1, trivial⟩, trivial⟩
def t90 : Fact := ⟨62, [.c (.pv (w21)), .c (.fn 61 [])], [], (.c (.own 1407 7 [w13]), [])⟩
theorem t90_ok : Holds (ev X E0) [t90] := ⟨ev_tab (n := 400) (x := xf62) rfl (t := [t87, t89]) (by kernel_rfl) ⟨t87_ok.1, t89_ok.1, trivial⟩, trivial⟩
def t91 : Fact := ⟨85, [.c (.pv (w17))], [], (.c (.own 511 3 [w15, w16]), [])⟩
theorem t91_ok : Holds (ev X E0) [t91] := ⟨ev_tab (n := 400) (x := xf85) rfl (t := []) (by kernel_rfl) trivial, trivial⟩
def t92 : Fact := ⟨63, [u18], [], (u29, [])⟩
theorem t92_ok : Holds (ev X E0) [t92] := ⟨ev_tab (n := 400) (x := xf63) rfl (t := [t91]) (by kernel_rfl) ⟨t91_ok.1, trivial⟩, trivial⟩
def t93 : Fact := ⟨19, [u22, u18], [], (.tup [u31, .c (.pv (.int .i64 0))], [])⟩
theorem t93_ok : Holds (ev X E0) [t93] := ⟨ev_tab (n := 400) (x := xf19) rfl (t := [t57, t84, t85, t86, t90, t92]) (by kernel_rfl) ⟨t57_ok.1, t84_ok.1, t85_ok.1, t86_ok.1, t90_ok.1, t92_ok.1, trivial⟩, trivial⟩
def t94 : Fact := ⟨76, [u29], [], (.c (.pv (.bool true)), [])⟩
theorem t94_ok : Holds (ev X E0) [t94] := ⟨ev_tab (n := 400) (x := xf76) rfl (t := [t4]) (by kernel_rfl) ⟨t4_ok.1, trivial⟩, trivial⟩
def t95 : Fact := ⟨127, [.c (.pv (w28)), .c (.fn 78 [])], [], (.c (.pv (.int .i64 (-1))), [])⟩
theorem t95_ok : Holds (ev X E0) [t95] := ⟨ev_tab (n := 400) (x := xf127) rfl (t := [t61, t62]) (by kernel_rfl) ⟨t61_ok.1, t62_ok.1, trivial⟩, trivial⟩
def t96 : Fact := ⟨75, [.c (.pv (w28)), .c (.fn 78 [])], [], (.c (.pv (.bool false)), [])⟩
theorem t96_ok : Holds (ev X E0) [t96] := ⟨ev_tab (n := 400) (x := xf75) rfl (t := [t95]) (by kernel_rfl) ⟨t95_ok.1, trivial⟩, trivial⟩
def t97 : Fact := ⟨74, [.c (.fn 78 []), .c (.ptr 0 0)], [b32], (.c (.pv (.bool false)), [b32])⟩
theorem t97_ok : Holds (ev X E0) [t97] := ⟨ev_tab (n := 400) (x := xf74) rfl (t := [t96]) (by kernel_rfl) ⟨t96_ok.1, trivial⟩, trivial⟩
def t98 : Fact := ⟨127, [.c (.pv (w28)), .c (.fn 79 [])], [], (.c (.pv (.int .i64 (-1))), [])⟩
theorem t98_ok : Holds (ev X E0) [t98] := ⟨ev_tab (n := 400) (x := xf127) rfl (t := [t66, t67]) (by kernel_rfl) ⟨t66_ok.1, t67_ok.1, trivial⟩, trivial⟩
def t99 : Fact := ⟨75, [.c (.pv (w28)), .c (.fn 79 [])], [], (.c (.pv (.bool false)), [])⟩
theorem t99_ok : Holds (ev X E0) [t99] := ⟨ev_tab (n := 400) (x := xf75) rfl (t := [t98]) (by kernel_rfl) ⟨t98_ok.1, trivial⟩, trivial⟩
def t100 : Fact := ⟨74, [.c (.fn 79 []), .c (.ptr 0 0)], [b32], (.c (.pv (.bool false)), [b32])⟩
theorem t100_ok : Holds (ev X E0) [t100] := ⟨ev_tab (n := 400) (x := xf74) rfl (t := [t99]) (by kernel_rfl) ⟨t99_ok.1, trivial⟩, trivial⟩
def t101 : Fact := ⟨127, [.c (.pv (w28)), .c (.fn 81 [])], [], (.c (.pv (.int .i64 (-1))), [])⟩
theorem t101_ok : Holds (ev X E0) [t101] := ⟨ev_tab (n := 400) (x := xf127) rfl (t := [t72, t74]) (by kernel_rfl) ⟨t72_ok.1, t74_ok.1, trivial⟩, trivial⟩
def t102 : Fact := ⟨75, [.c (.pv (w28)), .c (.fn 81 [])], [], (.c (.pv (.bool false)), [])⟩
theorem t102_ok : Holds (ev X E0) [t102] := ⟨ev_tab (n := 400) (x := xf75) rfl (t := [t101]) (by kernel_rfl) ⟨t101_ok.1, trivial⟩, trivial⟩
def t103 : Fact := ⟨74, [.c (.fn 81 []), .c (.ptr 0 0)], [b32], (.c (.pv (.bool false)), [b32])⟩
theorem t103_ok : Holds (ev X E0) [t103] := ⟨ev_tab (n := 400) (x := xf74) rfl (t := [t102]) (by kernel_rfl) ⟨t102_ok.1, trivial⟩, trivial⟩
def t104 : Fact := ⟨127, [.c (.pv (w28)), .c (.fn 83 [])], [], (.c (.pv (.int .i64 (-1))), [])⟩
theorem t104_ok : Holds (ev X E0) [t104] := ⟨ev_tab (n := 400) (x := xf127) rfl (t := [t78, t79]) (by kernel_rfl) ⟨t78_ok.1, t79_ok.1, trivial⟩, trivial⟩
def t105 : Fact := ⟨75, [.c (.pv (w28)), .c (.fn 83 [])], [], (.c (.pv (.bool false)), [])⟩
theorem t105_ok : Holds (ev X E0) [t105] := ⟨ev_tab (n := 400) (x := xf75) rfl (t := [t104]) (by kernel_rfl) ⟨t104_ok.1, trivial⟩, trivial⟩
def t106 : Fact := ⟨74, [.c (.fn 83 []), .c (.ptr 0 0)], [b32], (.c (.pv (.bool false)), [b32])⟩
theorem t106_ok : Holds (ev X E0) [t106] := ⟨ev_tab (n := 400) (x := xf74) rfl (t := [t105]) (by kernel_rfl) ⟨t105_ok.1, trivial⟩, trivial⟩
def t107 : Fact := ⟨84, [.c (.pv (w28))], [], (.c (.pv (.bool true)), [])⟩
theorem t107_ok : Holds (ev X E0) [t107] := ⟨ev_tab (n := 400) (x := xf84) rfl (t := []) (by kernel_rfl) trivial, trivial⟩
def t108 : Fact := ⟨37, [u29], [], (.c (.pv (.int .i64 0)), [])⟩
theorem t108_ok : Holds (ev X E0) [t108] := ⟨ev_tab (n := 400) (x := xf37) rfl (t := [t94, t59, t60, t97, t100, t103, t106, t107]) (by kernel_rfl) ⟨t94_ok.1, t59_ok.1, t60_ok.1, t97_ok.1, t100_ok.1, t103_ok.1, t106_ok.1, t107_ok.1, trivial⟩, trivial⟩
def t109 : Fact := ⟨59, [.c (.pv (w21)), .c (.mp 0), u29], [.map [(.int .i64 0, .bool true)]], (.c (.pv (.int .i64 0)), [.map [(.int .i64 0, .bool true)]])⟩
theorem t109_ok : Holds (ev X E0) [t109] := ⟨ev_tab (n := 400) (x := xf59) rfl (t := []) (by kernel_rfl) trivial, trivial⟩
def t110 : Fact := ⟨25, [u34], [], (.c (.pv (.bool true)), [])⟩
theorem t110_ok : Holds (ev X E0) [t110] := ⟨ev_tab (n := 400) (x := xf25) rfl (t := [t55, t56, t108, t109]) (by kernel_rfl) ⟨t55_ok.1, t56_ok.1, t108_ok.1, t109_ok.1, trivial⟩, trivial⟩
def t111 : Fact := ⟨60, [.c (.pv (w33))], [], (.c (.mp 0), [.map [(.int .i64 0, .bool true)]])⟩
theorem t111_ok : Holds (ev X E0) [t111] := ⟨ev_tab (n := 400) (x := xf60) rfl (t := []) (by kernel_rfl) trivial, trivial⟩
def t112 : Fact := ⟨59, [.c (.pv (w33)), .c (.mp 0), u18], [.map [(.int .i64 0, .bool true)]], (.c (.pv (.int .i64 25)), [.map [(.int .i64 0, .bool true)]])⟩
theorem t112_ok : Holds (ev X E0) [t112] := ⟨ev_tab (n := 400) (x := xf59) rfl (t := []) (by kernel_rfl) trivial, trivial⟩
def t113 : Fact := ⟨19, [u34, u18], [], (.tup [u5, .c (.pv (.int .i64 25))], [])⟩
theorem t113_ok : Holds (ev X E0) [t113] := ⟨ev_tab (n := 400) (x := xf19) rfl (t := [t110, t84, t111, t112]) (by kernel_rfl) ⟨t110_ok.1, t84_ok.1, t111_ok.1, t112_ok.1, trivial⟩, trivial⟩
def t114 : Fact := ⟨58, [.c (.pv (.int .i64 3)), .c (.pv (.int .i32 8)), .c (.pv (.int .i32 4)), .c (.pv (.int .i64 7))], [], (u35, [])⟩
theorem t114_ok : Holds (ev X E0) [t114] := ⟨ev_tab (n := 400) (x := xf58) rfl (t := []) (by kernel_rfl) trivial, trivial⟩
def t115 : Fact := ⟨76, [u35], [], (.c (.pv (.bool true)), [])⟩
theorem t115_ok : Holds (ev X E0) [t115] := ⟨ev_tab (n := 400) (x := xf76) rfl (t := [t4]) (by kernel_rfl) ⟨t4_ok.1, trivial⟩, trivial⟩
def t116 : Fact := ⟨77, [.c (.pv (.int .i32 8))], [], (.c (.pv (.bool true)), [])⟩
theorem t116_ok : Holds (ev X E0) [t116] := ⟨ev_tab (n := 400) (x := xf77) rfl (t := []) (by kernel_rfl) trivial, trivial⟩
def t117 : Fact := ⟨74, [.c (.fn 78 []), .c (.ptr 0 0)], [b36], (.c (.pv (.bool false)), [b36])⟩
theorem t117_ok : Holds (ev X E0) [t117] := ⟨ev_tab (n := 400) (x := xf74) rfl (t := [t64]) (by kernel_rfl) ⟨t64_ok.1, trivial⟩, trivial⟩
def t118 : Fact := ⟨74, [.c (.fn 79 []), .c (.ptr 0 0)], [b36], (.c (.pv (.bool false)), [b36])⟩
theorem t118_ok : Holds (ev X E0) [t118] := ⟨ev_tab (n := 400) (x := xf74) rfl (t := [t69]) (by kernel_rfl) ⟨t69_ok.1, trivial⟩, trivial⟩
def t119 : Fact := ⟨74, [.c (.fn 81 []), .c (.ptr 0 0)], [b36], (.c (.pv (.bool false)), [b36])⟩
theorem t119_ok : Holds (ev X E0) [t119] := ⟨ev_tab (n := 400) (x := xf74) rfl (t := [t76]) (by kernel_rfl) ⟨t76_ok.1, trivial⟩, trivial⟩
def t120 : Fact := ⟨74, [.c (.fn 83 []), .c (.ptr 0 0)], [b36], (.c (.pv (.bool false)), [b36])⟩
theorem t120_ok : Holds (ev X E0) [t120] := ⟨ev_tab (n := 400) (x := xf74) rfl (t := [t81]) (by kernel_rfl) ⟨t81_ok.1, trivial⟩, trivial⟩
def t121 : Fact := ⟨37, [u35], [], (.c (.pv (.int .i64 0)), [])⟩
theorem t121_ok : Holds (ev X E0) [t121] := ⟨ev_tab (n := 400) (x := xf37) rfl (t := [t115, t116, t60, t117, t118, t119, t120, t83]) (by kernel_rfl) ⟨t115_ok.1, t116_ok.1, t60_ok.1, t117_ok.1, t118_ok.1, t119_ok.1, t120_ok.1, t83_ok.1, trivial⟩, trivial⟩
def t122 : Fact := ⟨59, [.c (.pv (w33)), .c (.mp 0), u35], [.map [(.int .i64 0, .bool true)]], (.c (.pv (.int .i64 20)), [.map [(.int .i64 0, .bool true)]])⟩
theorem t122_ok : Holds (ev X E0) [t122] := ⟨ev_tab (n := 400) (x := xf59) rfl (t := []) (by kernel_rfl) trivial, trivial⟩
def t123 : Fact := ⟨19, [u34, u35], [], (.tup [u5, .c (.pv (.int .i64 20))], [])⟩
theorem t123_ok : Holds (ev X E0) [t123] := ⟨ev_tab (n := 400) (x := xf19) rfl (t := [t110, t121, t111, t122]) (by kernel_rfl) ⟨t110_ok.1, t121_ok.1, t111_ok.1, t122_ok.1, trivial⟩, trivial⟩
def t124 : Fact := ⟨76, [u40], [], (.c (.pv (.bool true)), [])⟩
theorem t124_ok : Holds (ev X E0) [t124] := ⟨ev_tab (n := 400) (x := xf76) rfl (t := [t4]) (by kernel_rfl) ⟨t4_ok.1, trivial⟩, trivial⟩
def t125 : Fact := ⟨77, [.c (.pv (.int .i32 10))], [], (.c (.pv (.bool true)), [])⟩
theorem t125_ok : Holds (ev X E0) [t125] := ⟨ev_tab (n := 400) (x := xf77) rfl (t := []) (by kernel_rfl) trivial, trivial⟩
def t126 : Fact := ⟨78, [u41], [], (.c (.pv (.bool false)), [])⟩
theorem t126_ok : Holds (ev X E0) [t126] := ⟨ev_tab (n := 400) (x := xf78) rfl (t := []) (by kernel_rfl) trivial, trivial⟩
def t127 : Fact := ⟨78, [u42], [], (.c (.pv (.bool false)), [])⟩
theorem t127_ok : Holds (ev X E0) [t127] := ⟨ev_tab (n := 400) (x := xf78) rfl (t := []) (by kernel_rfl) trivial, trivial⟩
def t128 : Fact := ⟨127, [.c (.pv (w39)), .c (.fn 78 [])], [], (.c (.pv (.int .i64 (-1))), [])⟩
theorem t128_ok : Holds (ev X E0) [t128] := ⟨ev_tab (n := 400) (x := xf127) rfl (t := [t126, t127]) (by kernel_rfl) ⟨t126_ok.1, t127_ok.1, trivial⟩, trivial⟩
def t129 : Fact := ⟨75, [.c (.pv (w39)), .c (.fn 78 [])], [], (.c (.pv (.bool false)), [])⟩
theorem t129_ok : Holds (ev X E0) [t129] := ⟨ev_tab (n := 400) (x := xf75) rfl (t := [t128]) (by kernel_rfl) ⟨t128_ok.1, trivial⟩, trivial⟩
def t130 : Fact := ⟨74, [.c (.fn 78 []), .c (.ptr 0 0)], [b43], (.c (.pv (.bool false)), [b43])⟩
theorem t130_ok : Holds (ev X E0) [t130] := ⟨ev_tab (n := 400) (x := xf74) rfl (t := [t129]) (by kernel_rfl) ⟨t129_ok.1, trivial⟩, trivial⟩
def t131 : Fact := ⟨79, [u41], [], (.c (.pv (.bool false)), [])⟩
theorem t131_ok : Holds (ev X E0) [t131] := ⟨ev_tab (n := 400) (x := xf79) rfl (t := [t14]) (by kernel_rfl) ⟨t14_ok.1, trivial⟩, trivial⟩
def t132 : Fact := ⟨79, [u42], [], (.c (.pv (.bool false)), [])⟩
theorem t132_ok : Holds (ev X E0) [t132] := ⟨ev_tab (n := 400) (x := xf79) rfl (t := [t14]) (by kernel_rfl) ⟨t14_ok.1, trivial⟩, trivial⟩
def t133 : Fact := ⟨127, [.c (.pv (w39)), .c (.fn 79 [])], [], (.c (.pv (.int .i64 (-1))), [])⟩
theorem t133_ok : Holds (ev X E0) [t133] := ⟨ev_tab (n := 400) (x := xf127) rfl (t := [t131, t132]) (by kernel_rfl) ⟨t131_ok.1, t132_ok.1, trivial⟩, trivial⟩
def t134 : Fact := ⟨75, [.c (.pv (w39)), .c (.fn 79 [])], [], (.c (.pv (.bool false)), [])⟩
theorem t134_ok : Holds (ev X E0) [t134] := ⟨ev_tab (n := 400) (x := xf75) rfl (t := [t133]) (by kernel_rfl) ⟨t133_ok.1, trivial⟩, trivial⟩
def t135 : Fact := ⟨74, [.c (.fn 79 []), .c (.ptr 0 0)], [b43], (.c (.pv (.bool false)), [b43])⟩
theorem t135_ok : Holds (ev X E0) [t135] := ⟨ev_tab (n := 400) (x := xf74) rfl (t := [t134]) (by kernel_rfl) ⟨t134_ok.1, trivial⟩, trivial⟩
def t136 : Fact := ⟨81, [u41], [], (.c (.pv (.bool false)), [])⟩
theorem t136_ok : Holds (ev X E0) [t136] := ⟨ev_tab (n := 400) (x := xf81) rfl (t := [t22]) (by kernel_rfl) ⟨t22_ok.1, trivial⟩, trivial⟩
def t137 : Fact := ⟨81, [u42], [], (.c (.pv (.bool false)), [])⟩
theorem t137_ok : Holds (ev X E0) [t137] := ⟨ev_tab (n := 400) (x := xf81) rfl (t := [t20]) (by kernel_rfl) ⟨t20_ok.1, trivial⟩, trivial⟩
def t138 : Fact := ⟨127, [.c (.pv (w39)), .c (.fn 81 [])], [], (.c (.pv (.int .i64 (-1))), [])⟩
theorem t138_ok : Holds (ev X E0) [t138] := ⟨ev_tab (n := 400) (x := xf127) rfl (t := [t136, t137]) (by kernel_rfl) ⟨t136_ok.1, t137_ok.1, trivial⟩, trivial⟩
def t139 : Fact := ⟨75, [.c (.pv (w39)), .c (.fn 81 [])], [], (.c (.pv (.bool false)), [])⟩
theorem t139_ok : Holds (ev X E0) [t139] := ⟨ev_tab (n := 400) (x := xf75) rfl (t := [t138]) (by kernel_rfl) ⟨t138_ok.1, trivial⟩, trivial⟩
def t140 : Fact := ⟨74, [.c (.fn 81 []), .c (.ptr 0 0)], [b43], (.c (.pv (.bool false)), [b43])⟩
theorem t140_ok : Holds (ev X E0) [t140] := ⟨ev_tab (n := 400) (x := xf74) rfl (t := [t139]) (by kernel_rfl) ⟨t139_ok.1, trivial⟩, trivial⟩
def t141 : Fact := ⟨83, [u41], [], (.c (.pv (.bool false)), [])⟩
theorem t141_ok : Holds (ev X E0) [t141] := ⟨ev_tab (n := 400) (x := xf83) rfl (t := []) (by kernel_rfl) trivial, trivial⟩
def t142 : Fact := ⟨83, [u42], [], (.c (.pv (.bool false)), [])⟩
theorem t142_ok : Holds (ev X E0) [t142] := ⟨ev_tab (n := 400) (x := xf83) rfl (t := []) (by kernel_rfl) trivial, trivial⟩
def t143 : Fact := ⟨127, [.c (.pv (w39)), .c (.fn 83 [])], [], (.c (.pv (.int .i64 (-1))), [])⟩
theorem t143_ok : Holds (ev X E0) [t143] := ⟨ev_tab (n := 400) (x := xf127) rfl (t := [t141, t142]) (by kernel_rfl) ⟨t141_ok.1, t142_ok.1, trivial⟩, trivial⟩
def t144 : Fact := ⟨75, [.c (.pv (w39)), .c (.fn 83 [])], [], (.c (.pv (.bool false)), [])⟩
theorem t144_ok : Holds (ev X E0) [t144] := ⟨ev_tab (n := 400) (x := xf75) rfl (t := [t143]) (by kernel_rfl) ⟨t143_ok.1, trivial⟩, trivial⟩
def t145 : Fact := ⟨74, [.c (.fn 83 []), .c (.ptr 0 0)], [b43], (.c (.pv (.bool false)), [b43])⟩
theorem t145_ok : Holds (ev X E0) [t145] := ⟨ev_tab (n := 400) (x := xf74) rfl (t := [t144]) (by kernel_rfl) ⟨t144_ok.1, trivial⟩, trivial⟩
def t146 : Fact := ⟨84, [.c (.pv (w39))], [], (.c (.pv (.bool true)), [])⟩
theorem t146_ok : Holds (ev X E0) [t146] := ⟨ev_tab (n := 400) (x := xf84) rfl (t := []) (by kernel_rfl) trivial, trivial⟩
def t147 : Fact := ⟨37, [u40], [], (.c (.pv (.int .i64 0)), [])⟩
theorem t147_ok : Holds (ev X E0) [t147] := ⟨ev_tab (n := 400) (x := xf37) rfl (t := [t124, t125, t7, t130, t135, t140, t145, t146]) (by kernel_rfl) ⟨t124_ok.1, t125_ok.1, t7_ok.1, t130_ok.1, t135_ok.1, t140_ok.1, t145_ok.1, t146_ok.1, trivial⟩, trivial⟩
def t148 : Fact := ⟨38, [u3, .c (.pv (.int .i64 3)), .c (.pv (.int .i32 10))], [], (.tup [u40, .c (.pv (.int .i64 0))], [])⟩
theorem t148_ok : Holds (ev X E0) [t148] := ⟨ev_tab (n := 400) (x := xf38) rfl (t := [t33, t37, t147]) (by kernel_rfl) ⟨t33_ok.1, t37_ok.1, t147_ok.1, trivial⟩, trivial⟩
def t149 : Fact := ⟨38, [u12, .c (.pv (.int .i64 3)), .c (.pv (.int .i32 10))], [], (.tup [u40, .c (.pv (.int .i64 0))], [])⟩
theorem t149_ok : Holds (ev X E0) [t149] := ⟨ev_tab (n := 400) (x := xf38) rfl (t := [t55, t88, t147]) (by kernel_rfl) ⟨t55_ok.1, t88_ok.1, t147_ok.1, trivial⟩, trivial⟩
def t150 : Fact := ⟨96, [.c (.pv (w39)), .c (.pv (w39))], [], (.c (.pv (.bool true)), [])⟩
theorem t150_ok : Holds (ev X E0) [t150] := ⟨ev_tab (n := 400) (x := xf96) rfl (t := []) (by kernel_rfl) trivial, trivial⟩
def t151 : Fact := ⟨43, [u40, u40], [], (.c (.pv (.bool true)), [])⟩
theorem t151_ok : Holds (ev X E0) [t151] := ⟨ev_tab (n := 400) (x := xf43) rfl (t := [t150]) (by kernel_rfl) ⟨t150_ok.1, trivial⟩, trivial⟩
def t152 : Fact := ⟨59, [.c (.pv (w33)), .c (.mp 0), u40], [.map [(.int .i64 0, .bool true)]], (.c (.pv (.int .i64 0)), [.map [(.int .i64 0, .bool true)]])⟩
theorem t152_ok : Holds (ev X E0) [t152] := ⟨ev_tab (n := 400) (x := xf59) rfl (t := [t149, t151]) (by kernel_rfl) ⟨t149_ok.1, t151_ok.1, trivial⟩, trivial⟩
def t153 : Fact := ⟨61, [u29], [], (.c (.pv (.bool true)), [])⟩
theorem t153_ok : Holds (ev X E0) [t153] := ⟨ev_tab (n := 400) (x := xf61) rfl (t := []) (by kernel_rfl) trivial, trivial⟩
def t154 : Fact := ⟨85, [.c (.pv (w28))], [], (.c (.own 511 3 [w15, w16]), [])⟩
theorem t154_ok : Holds (ev X E0) [t154] := ⟨ev_tab (n := 400) (x := xf85) rfl (t := []) (by kernel_rfl) trivial, trivial⟩
def t155 : Fact := ⟨63, [u29], [], (u29, [])⟩
theorem t155_ok : Holds (ev X E0) [t155] := ⟨ev_tab (n := 400) (x := xf63) rfl (t := [t154]) (by kernel_rfl) ⟨t154_ok.1, trivial⟩, trivial⟩
def t156 : Fact := ⟨62, [.c (.pv (w33)), .c (.fn 61 [])], [], (.c (.own 1407 7 [w13, w30]), [])⟩
theorem t156_ok : Holds (ev X E0) [t156] := ⟨ev_tab (n := 400) (x := xf62) rfl (t := [t87, t89, t153, t155]) (by kernel_rfl) ⟨t87_ok.1, t89_ok.1, t153_ok.1, t155_ok.1, trivial⟩, trivial⟩
def t157 : Fact := ⟨85, [.c (.pv (w39))], [], (.c (.own 511 3 [w37, w38]), [])⟩
theorem t157_ok : Holds (ev X E0) [t157] := ⟨ev_tab (n := 400) (x := xf85) rfl (t := []) (by kernel_rfl) trivial, trivial⟩
def t158 : Fact := ⟨63, [u40], [], (u40, [])⟩
theorem t158_ok : Holds (ev X E0) [t158] := ⟨ev_tab (n := 400) (x := xf63) rfl (t := [t157]) (by kernel_rfl) ⟨t157_ok.1, trivial⟩, trivial⟩
def t159 : Fact := ⟨19, [u34, u40], [], (.tup [u45, .c (.pv (.int .i64 0))], [])⟩
theorem t159_ok : Holds (ev X E0) [t159] := ⟨ev_tab (n := 400) (x := xf19) rfl (t := [t110, t147, t111, t152, t156, t158]) (by kernel_rfl) ⟨t110_ok.1, t147_ok.1, t111_ok.1, t152_ok.1, t156_ok.1, t158_ok.1, trivial⟩, trivial⟩
def t160 : Fact := ⟨25, [u47], [], (.c (.pv (.bool true)), [])⟩
theorem t160_ok : Holds (ev X E0) [t160] := ⟨ev_tab (n := 400) (x := xf25) rfl (t := [t55, t56, t108, t109, t147, t152]) (by kernel_rfl) ⟨t55_ok.1, t56_ok.1, t108_ok.1, t109_ok.1, t147_ok.1, t152_ok.1, trivial⟩, trivial⟩
def t161 : Fact := ⟨76, [u48], [], (.c (.pv (.bool true)), [])⟩
theorem t161_ok : Holds (ev X E0) [t161] := ⟨ev_tab (n := 400) (x := xf76) rfl (t := [t4]) (by kernel_rfl) ⟨t4_ok.1, trivial⟩, trivial⟩
def t162 : Fact := ⟨74, [.c (.fn 78 []), .c (.ptr 0 0)], [b49], (.c (.pv (.bool false)), [b49])⟩
theorem t162_ok : Holds (ev X E0) [t162] := ⟨ev_tab (n := 400) (x := xf74) rfl (t := [t129]) (by kernel_rfl) ⟨t129_ok.1, trivial⟩, trivial⟩
def t163 : Fact := ⟨74, [.c (.fn 79 []), .c (.ptr 0 0)], [b49], (.c (.pv (.bool false)), [b49])⟩
theorem t163_ok : Holds (ev X E0) [t163] := ⟨ev_tab (n := 400) (x := xf74) rfl (t := [t134]) (by kernel_rfl) ⟨t134_ok.1, trivial⟩, trivial⟩
def t164 : Fact := ⟨74, [.c (.fn 81 []), .c (.ptr 0 0)], [b49], (.c (.pv (.bool false)), [b49])⟩
theorem t164_ok : Holds (ev X E0) [t164] := ⟨ev_tab (n := 400) (x := xf74) rfl (t := [t139]) (by kernel_rfl) ⟨t139_ok.1, trivial⟩, trivial⟩
def t165 : Fact := ⟨74, [.c (.fn 83 []), .c (.ptr 0 0)], [b49], (.c (.pv (.bool false)), [b49])⟩
theorem t165_ok : Holds (ev X E0) [t165] := ⟨ev_tab (n := 400) (x := xf74) rfl (t := [t144]) (by kernel_rfl) ⟨t144_ok.1, trivial⟩, trivial⟩
def t166 : Fact := ⟨37, [u48], [], (.c (.pv (.int .i64 0)), [])⟩
theorem t166_ok : Holds (ev X E0) [t166] := ⟨ev_tab (n := 400) (x := xf37) rfl (t := [t161, t125, t7, t162, t163, t164, t165, t146]) (by kernel_rfl) ⟨t161_ok.1, t125_ok.1, t7_ok.1, t162_ok.1, t163_ok.1, t164_ok.1, t165_ok.1, t146_ok.1, trivial⟩, trivial⟩
def t167 : Fact := ⟨60, [.c (.pv (w46))], [], (.c (.mp 0), [.map [(.int .i64 0, .bool true), (.int .i64 1, .bool true)]])⟩
theorem t167_ok : Holds (ev X E0) [t167] := ⟨ev_tab (n := 400) (x := xf60) rfl (t := []) (by kernel_rfl) trivial, trivial⟩
def t168 : Fact := ⟨38, [u12, .c (.pv (.int .i64 4)), .c (.pv (.int .i32 10))], [], (.tup [u48, .c (.pv (.int .i64 0))], [])⟩
theorem t168_ok : Holds (ev X E0) [t168] := ⟨ev_tab (n := 400) (x := xf38) rfl (t := [t55, t88, t166]) (by kernel_rfl) ⟨t55_ok.1, t88_ok.1, t166_ok.1, trivial⟩, trivial⟩
def t169 : Fact := ⟨59, [.c (.pv (w46)), .c (.mp 0), u48], [.map [(.int .i64 0, .bool true), (.int .i64 1, .bool true)]], (.c (.pv (.int .i64 23)), [.map [(.int .i64 0, .bool true), (.int .i64 1, .bool true)]])⟩
theorem t169_ok : Holds (ev X E0) [t169] := ⟨ev_tab (n := 400) (x := xf59) rfl (t := [t168]) (by kernel_rfl) ⟨t168_ok.1, trivial⟩, trivial⟩
def t170 : Fact := ⟨19, [u47, u48], [], (.tup [u5, .c (.pv (.int .i64 23))], [])⟩
theorem t170_ok : Holds (ev X E0) [t170] := ⟨ev_tab (n := 400) (x := xf19) rfl (t := [t160, t166, t167, t169]) (by kernel_rfl) ⟨t160_ok.1, t166_ok.1, t167_ok.1, t169_ok.1, trivial⟩, trivial⟩
def t171 : Fact := ⟨65, [u12, .c (.ptr 0 0)], [b50], (.c (.pv (.bool true)), [b50])⟩
theorem t171_ok : Holds (ev X E0) [t171] := ⟨ev_tab (n := 400) (x := xf65) rfl (t := []) (by kernel_rfl) trivial, trivial⟩
def t172 : Fact := ⟨65, [u29, .c (.ptr 0 0)], [b50], (.c (.pv (.bool false)), [b50])⟩
theorem t172_ok : Holds (ev X E0) [t172] := ⟨ev_tab (n := 400) (x := xf65) rfl (t := []) (by kernel_rfl) trivial, trivial⟩
def t173 : Fact := ⟨62, [.c (.pv (w33)), .c (.fn 65 [0])], [b50], (.c (.own 1407 7 [w13]), [b50])⟩
theorem t173_ok : Holds (ev X E0) [t173] := ⟨ev_tab (n := 400) (x := xf62) rfl (t := [t171, t89, t172]) (by kernel_rfl) ⟨t171_ok.1, t89_ok.1, t172_ok.1, trivial⟩, trivial⟩
def t174 : Fact := ⟨64, [u34, .c (.fn 65 [0])], [b50], (.tup [.c (.own 768 7 [w13]), .c (.pv (.int .i64 0))], [b50])⟩
theorem t174_ok : Holds (ev X E0) [t174] := ⟨ev_tab (n := 400) (x := xf64) rfl (t := [t110, t173]) (by kernel_rfl) ⟨t110_ok.1, t173_ok.1, trivial⟩, trivial⟩
def t175 : Fact := ⟨20, [u34, .c (.pv (.int .i32 5))], [], (.tup [u51, .c (.pv (.int .i64 0))], [])⟩
theorem t175_ok : Holds (ev X E0) [t175] := ⟨ev_tab (n := 400) (x := xf20) rfl (t := [t174]) (by kernel_rfl) ⟨t174_ok.1, trivial⟩, trivial⟩
def t176 : Fact := ⟨66, [u12, .c (.ptr 0 0), .c (.ptr 1 0)], [b52, b53], (.c (.pv (.bool true)), [b52, b53])⟩
theorem t176_ok : Holds (ev X E0) [t176] := ⟨ev_tab (n := 400) (x := xf66) rfl (t := []) (by kernel_rfl) trivial, trivial⟩
def t177 : Fact := ⟨66, [u29, .c (.ptr 0 0), .c (.ptr 1 0)], [b52, b53], (.c (.pv (.bool false)), [b52, b53])⟩
theorem t177_ok : Holds (ev X E0) [t177] := ⟨ev_tab (n := 400) (x := xf66) rfl (t := []) (by kernel_rfl) trivial, trivial⟩
def t178 : Fact := ⟨62, [.c (.pv (w33)), .c (.fn 66 [0, 1])], [b52, b53], (.c (.own 1407 7 [w13]), [b52, b53])⟩
theorem t178_ok : Holds (ev X E0) [t178] := ⟨ev_tab (n := 400) (x := xf62) rfl (t := [t176, t89, t177]) (by kernel_rfl) ⟨t176_ok.1, t89_ok.1, t177_ok.1, trivial⟩, trivial⟩
def t179 : Fact := ⟨64, [u34, .c (.fn 66 [0, 1])], [b52, b53], (.tup [.c (.own 768 7 [w13]), .c (.pv (.int .i64 0))], [b52, b53])⟩
theorem t179_ok : Holds (ev X E0) [t179] := ⟨ev_tab (n := 400) (x := xf64) rfl (t := [t110, t178]) (by kernel_rfl) ⟨t110_ok.1, t178_ok.1, trivial⟩, trivial⟩
def t180 : Fact := ⟨21, [u34, .c (.pv (.int .i32 9)), .c (.pv (.int .i32 3))], [], (.tup [.c (.own 640 7 [w13]), .c (.pv (.int .i64 0))], [])⟩
theorem t180_ok : Holds (ev X E0) [t180] := ⟨ev_tab (n := 400) (x := xf21) rfl (t := [t179]) (by kernel_rfl) ⟨t179_ok.1, trivial⟩, trivial⟩
def t181 : Fact := ⟨71, [u12, .c (.ptr 0 0)], [b54, .map [(.int .i64 0, .bool true), (.int .i64 1, .bool true)]], (.c (.pv (.bool false)), [b54, .map [(.int .i64 0, .bool true), (.int .i64 1, .bool true)]])⟩
theorem t181_ok : Holds (ev X E0) [t181] := ⟨ev_tab (n := 400) (x := xf71) rfl (t := []) (by kernel_rfl) trivial, trivial⟩
def t182 : Fact := ⟨71, [u29, .c (.ptr 0 0)], [b54, .map [(.int .i64 0, .bool true), (.int .i64 1, .bool true)]], (.c (.pv (.bool true)), [b54, .map [(.int .i64 0, .bool true), (.int .i64 1, .bool true)]])⟩
theorem t182_ok : Holds (ev X E0) [t182] := ⟨ev_tab (n := 400) (x := xf71) rfl (t := []) (by kernel_rfl) trivial, trivial⟩
def t183 : Fact := ⟨71, [u40, .c (.ptr 0 0)], [b54, .map [(.int .i64 0, .bool true), (.int .i64 1, .bool true)]], (.c (.pv (.bool false)), [b54, .map [(.int .i64 0, .bool true), (.int .i64 1, .bool true)]])⟩
theorem t183_ok : Holds (ev X E0) [t183] := ⟨ev_tab (n := 400) (x := xf71) rfl (t := []) (by kernel_rfl) trivial, trivial⟩
def t184 : Fact := ⟨62, [.c (.pv (w46)), .c (.fn 71 [0])], [b54, .map [(.int .i64 0, .bool true), (.int .i64 1, .bool true)]], (.c (.own 1407 7 [w30]), [b54, .map [(.int .i64 0, .bool true), (.int .i64 1, .bool true)]])⟩
theorem t184_ok : Holds (ev X E0) [t184] := ⟨ev_tab (n := 400) (x := xf62) rfl (t := [t181, t182, t155, t183]) (by kernel_rfl) ⟨t181_ok.1, t182_ok.1, t155_ok.1, t183_ok.1, trivial⟩, trivial⟩
def t185 : Fact := ⟨64, [u47, .c (.fn 71 [0])], [b54, .map [(.int .i64 0, .bool true), (.int .i64 1, .bool true)]], (.tup [.c (.own 768 7 [w30]), .c (.pv (.int .i64 0))], [b54, .map [(.int .i64 0, .bool true), (.int .i64 1, .bool true)]])⟩
theorem t185_ok : Holds (ev X E0) [t185] := ⟨ev_tab (n := 400) (x := xf64) rfl (t := [t160, t184]) (by kernel_rfl) ⟨t160_ok.1, t184_ok.1, trivial⟩, trivial⟩
def t186 : Fact := ⟨24, [u47], [], (.tup [.c (.own 1919 1 [.int .i64 2]), .c (.pv (.int .i64 0))], [])⟩
theorem t186_ok : Holds (ev X E0) [t186] := ⟨ev_tab (n := 400) (x := xf24) rfl (t := [t167, t185]) (by kernel_rfl) ⟨t167_ok.1, t185_ok.1, trivial⟩, trivial⟩
def t187 : Fact := ⟨88, [u6, .c (.ptr 0 0), .c (.ptr 1 0)], [b55, b56], (.c (.pv (.bool true)), [b55, b56])⟩
theorem t187_ok : Holds (ev X E0) [t187] := ⟨ev_tab (n := 400) (x := xf88) rfl (t := []) (by kernel_rfl) trivial, trivial⟩
def t188 : Fact := ⟨88, [u7, .c (.ptr 0 0), .c (.ptr 1 0)], [b55, b56], (.c (.pv (.bool false)), [b55, b56])⟩
theorem t188_ok : Holds (ev X E0) [t188] := ⟨ev_tab (n := 400) (x := xf88) rfl (t := []) (by kernel_rfl) trivial, trivial⟩
def t189 : Fact := ⟨87, [u12, .c (.fn 88 [0, 1])], [b55, b56], (.tup [.c (.pv (.int .i64 100)), .c (.pv (.int .i64 0))], [b55, b56])⟩
theorem t189_ok : Holds (ev X E0) [t189] := ⟨ev_tab (n := 400) (x := xf87) rfl (t := [t55, t187, t188]) (by kernel_rfl) ⟨t55_ok.1, t187_ok.1, t188_ok.1, trivial⟩, trivial⟩
def t190 : Fact := ⟨40, [u12, .c (.pv (.int .i64 2)), .c (.pv (.int .i64 0))], [], (.tup [.c (.pv (.int .i64 100)), .c (.pv (.int .i64 0))], [])⟩
theorem t190_ok : Holds (ev X E0) [t190] := ⟨ev_tab (n := 400) (x := xf40) rfl (t := [t189]) (by kernel_rfl) ⟨t189_ok.1, trivial⟩, trivial⟩
def t191 : Fact := ⟨88, [u23, .c (.ptr 0 0), .c (.ptr 1 0)], [b55, b56], (.c (.pv (.bool true)), [b55, b56])⟩
theorem t191_ok : Holds (ev X E0) [t191] := ⟨ev_tab (n := 400) (x := xf88) rfl (t := []) (by kernel_rfl) trivial, trivial⟩
def t192 : Fact := ⟨88, [u24, .c (.ptr 0 0), .c (.ptr 1 0)], [b55, b56], (.c (.pv (.bool false)), [b55, b56])⟩
theorem t192_ok : Holds (ev X E0) [t192] := ⟨ev_tab (n := 400) (x := xf88) rfl (t := []) (by kernel_rfl) trivial, trivial⟩
def t193 : Fact := ⟨87, [u29, .c (.fn 88 [0, 1])], [b55, b56], (.tup [.c (.pv (.int .i64 7)), .c (.pv (.int .i64 0))], [b55, b56])⟩
theorem t193_ok : Holds (ev X E0) [t193] := ⟨ev_tab (n := 400) (x := xf87) rfl (t := [t108, t191, t192]) (by kernel_rfl) ⟨t108_ok.1, t191_ok.1, t192_ok.1, trivial⟩, trivial⟩
def t194 : Fact := ⟨40, [u29, .c (.pv (.int .i64 2)), .c (.pv (.int .i64 0))], [], (.tup [.c (.pv (.int .i64 7)), .c (.pv (.int .i64 0))], [])⟩
theorem t194_ok : Holds (ev X E0) [t194] := ⟨ev_tab (n := 400) (x := xf40) rfl (t := [t193]) (by kernel_rfl) ⟨t193_ok.1, trivial⟩, trivial⟩
def t195 : Fact := ⟨88, [u41, .c (.ptr 0 0), .c (.ptr 1 0)], [b55, b56], (.c (.pv (.bool true)), [b55, b56])⟩
theorem t195_ok : Holds (ev X E0) [t195] := ⟨ev_tab (n := 400) (x := xf88) rfl (t := []) (by kernel_rfl) trivial, trivial⟩
def t196 : Fact := ⟨88, [u42, .c (.ptr 0 0), .c (.ptr 1 0)], [b55, b56], (.c (.pv (.bool false)), [b55, b56])⟩
theorem t196_ok : Holds (ev X E0) [t196] := ⟨ev_tab (n := 400) (x := xf88) rfl (t := []) (by kernel_rfl) trivial, trivial⟩
def t197 : Fact := ⟨87, [u40, .c (.fn 88 [0, 1])], [b55, b56], (.tup [.c (.pv (.int .i64 (-100))), .c (.pv (.int .i64 0))], [b55, b56])⟩
theorem t197_ok : Holds (ev X E0) [t197] := ⟨ev_tab (n := 400) (x := xf87) rfl (t := [t147, t195, t196]) (by kernel_rfl) ⟨t147_ok.1, t195_ok.1, t196_ok.1, trivial⟩, trivial⟩
def t198 : Fact := ⟨40, [u40, .c (.pv (.int .i64 2)), .c (.pv (.int .i64 0))], [], (.tup [.c (.pv (.int .i64 (-100))), .c (.pv (.int .i64 0))], [])⟩
theorem t198_ok : Holds (ev X E0) [t198] := ⟨ev_tab (n := 400) (x := xf40) rfl (t := [t197]) (by kernel_rfl) ⟨t197_ok.1, trivial⟩, trivial⟩
def t199 : Fact := ⟨33, [.c (.pv (w46)), .c (.pv (.int .i64 2)), .c (.pv (.int .i64 0)), .c (.pv (.int .i32 9))], [], (.tup [.c (.pv (.int .i64 7)), .c (.pv (.int .i64 0))], [])⟩
theorem t199_ok : Holds (ev X E0) [t199] := ⟨ev_tab (n := 400) (x := xf33) rfl (t := [t55, t108, t147, t190, t194, t198]) (by kernel_rfl) ⟨t55_ok.1, t108_ok.1, t147_ok.1, t190_ok.1, t194_ok.1, t198_ok.1, trivial⟩, trivial⟩
def t200 : Fact := ⟨33, [.c (.pv (w33)), .c (.pv (.int .i64 2)), .c (.pv (.int .i64 0)), .c (.pv (.int .i32 3))], [], (.tup [.c (.pv (.int .i64 100)), .c (.pv (.int .i64 0))], [])⟩
theorem t200_ok : Holds (ev X E0) [t200] := ⟨ev_tab (n := 400) (x := xf33) rfl (t := [t55, t108, t190, t194]) (by kernel_rfl) ⟨t55_ok.1, t108_ok.1, t190_ok.1, t194_ok.1, trivial⟩, trivial⟩
def t201 : Fact := ⟨68, [u12, .c (.ptr 0 0)], [b57], (.c (.pv (.bool false)), [b57])⟩
theorem t201_ok : Holds (ev X E0) [t201] := ⟨ev_tab (n := 400) (x := xf68) rfl (t := []) (by kernel_rfl) trivial, trivial⟩
def t202 : Fact := ⟨68, [u29, .c (.ptr 0 0)], [b57], (.c (.pv (.bool true)), [b57])⟩
theorem t202_ok : Holds (ev X E0) [t202] := ⟨ev_tab (n := 400) (x := xf68) rfl (t := []) (by kernel_rfl) trivial, trivial⟩
def t203 : Fact := ⟨68, [u40, .c (.ptr 0 0)], [b57], (.c (.pv (.bool true)), [b57])⟩
theorem t203_ok : Holds (ev X E0) [t203] := ⟨ev_tab (n := 400) (x := xf68) rfl (t := []) (by kernel_rfl) trivial, trivial⟩
def t204 : Fact := ⟨62, [.c (.pv (w46)), .c (.fn 68 [0])], [b57], (.c (.own 1407 7 [w30, w44]), [b57])⟩
theorem t204_ok : Holds (ev X E0) [t204] := ⟨ev_tab (n := 400) (x := xf62) rfl (t := [t201, t202, t155, t203, t158]) (by kernel_rfl) ⟨t201_ok.1, t202_ok.1, t155_ok.1, t203_ok.1, t158_ok.1, trivial⟩, trivial⟩
def t205 : Fact := ⟨64, [u47, .c (.fn 68 [0])], [b57], (.tup [.c (.own 768 7 [w30, w44]), .c (.pv (.int .i64 0))], [b57])⟩
theorem t205_ok : Holds (ev X E0) [t205] := ⟨ev_tab (n := 400) (x := xf64) rfl (t := [t160, t204]) (by kernel_rfl) ⟨t160_ok.1, t204_ok.1, trivial⟩, trivial⟩
def t206 : Fact := ⟨70, [u40, u29], [], (.c (.pv (.int .i64 (-1))), [])⟩
theorem t206_ok : Holds (ev X E0) [t206] := ⟨ev_tab (n := 400) (x := xf70) rfl (t := []) (by kernel_rfl) trivial, trivial⟩
def t207 : Fact := ⟨69, [.c (.pv (w58)), .c (.fn 70 [])], [], (u40, [])⟩
theorem t207_ok : Holds (ev X E0) [t207] := ⟨ev_tab (n := 400) (x := xf69) rfl (t := [t206]) (by kernel_rfl) ⟨t206_ok.1, trivial⟩, trivial⟩
def t208 : Fact := ⟨23, [u47, .c (.pv (.int .i64 1))], [], (.tup [.c (.pv (.int .i32 3)), .c (.pv (.bool true))], [])⟩
theorem t208_ok : Holds (ev X E0) [t208] := ⟨ev_tab (n := 400) (x := xf23) rfl (t := [t205, t207]) (by kernel_rfl) ⟨t205_ok.1, t207_ok.1, trivial⟩, trivial⟩
def t209 : Fact := ⟨67, [u12], [], (.c (.pv (.bool true)), [])⟩
theorem t209_ok : Holds (ev X E0) [t209] := ⟨ev_tab (n := 400) (x := xf67) rfl (t := []) (by kernel_rfl) trivial, trivial⟩
def t210 : Fact := ⟨67, [u29], [], (.c (.pv (.bool true)), [])⟩
theorem t210_ok : Holds (ev X E0) [t210] := ⟨ev_tab (n := 400) (x := xf67) rfl (t := []) (by kernel_rfl) trivial, trivial⟩
def t211 : Fact := ⟨67, [u40], [], (.c (.pv (.bool true)), [])⟩
theorem t211_ok : Holds (ev X E0) [t211] := ⟨ev_tab (n := 400) (x := xf67) rfl (t := []) (by kernel_rfl) trivial, trivial⟩
def t212 : Fact := ⟨62, [.c (.pv (w46)), .c (.fn 67 [])], [], (.c (.own 1407 7 [w13, w30, w44]), [])⟩
theorem t212_ok : Holds (ev X E0) [t212] := ⟨ev_tab (n := 400) (x := xf62) rfl (t := [t209, t89, t210, t155, t211, t158]) (by kernel_rfl) ⟨t209_ok.1, t89_ok.1, t210_ok.1, t155_ok.1, t211_ok.1, t158_ok.1, trivial⟩, trivial⟩
def t213 : Fact := ⟨64, [u47, .c (.fn 67 [])], [], (.tup [.c (.own 768 7 [w13, w30, w44]), .c (.pv (.int .i64 0))], [])⟩
theorem t213_ok : Holds (ev X E0) [t213] := ⟨ev_tab (n := 400) (x := xf64) rfl (t := [t160, t212]) (by kernel_rfl) ⟨t160_ok.1, t212_ok.1, trivial⟩, trivial⟩
def t214 : Fact := ⟨22, [u47], [], (.tup [.c (.own 320 7 [w13, w30, w44]), .c (.pv (.int .i64 0))], [])⟩
theorem t214_ok : Holds (ev X E0) [t214] := ⟨ev_tab (n := 400) (x := xf22) rfl (t := [t213]) (by kernel_rfl) ⟨t213_ok.1, trivial⟩, trivial⟩
def t215 : Fact := ⟨31, [.c (.pv (w59)), .c (.pv (w60))], [], (.c (.pv (.bool true)), [])⟩
theorem t215_ok : Holds (ev X E0) [t215] := ⟨ev_tab (n := 400) (x := xf31) rfl (t := []) (by kernel_rfl) trivial, trivial⟩
def t216 : Fact := ⟨59, [.c (.pv (w20)), .c (.mp 0), u29], [.map []], (.c (.pv (.int .i64 25)), [.map []])⟩
theorem t216_ok : Holds (ev X E0) [t216] := ⟨ev_tab (n := 400) (x := xf59) rfl (t := []) (by kernel_rfl) trivial, trivial⟩
def t217 : Fact := ⟨25, [u61], [], (.c (.pv (.bool false)), [])⟩
theorem t217_ok : Holds (ev X E0) [t217] := ⟨ev_tab (n := 400) (x := xf25) rfl (t := [t108, t216]) (by kernel_rfl) ⟨t108_ok.1, t216_ok.1, trivial⟩, trivial⟩
def t218 : Fact := ⟨17, [], [], (.c (.pv (.bool true)), [])⟩
theorem t218_ok : Holds (ev X E0) [t218] := ⟨ev_tab (n := 400) (x := xf17) rfl (t := [t0, t39, t40, t93, t113, t114, t123, t148, t159, t170, t175, t180, t186, t199, t200, t208, t214, t215, t160, t217]) (by kernel_rfl) ⟨t0_ok.1, t39_ok.1, t40_ok.1, t93_ok.1, t113_ok.1, t114_ok.1, t123_ok.1, t148_ok.1, t159_ok.1, t170_ok.1, t175_ok.1, t180_ok.1, t186_ok.1, t199_ok.1, t200_ok.1, t208_ok.1, t214_ok.1, t215_ok.1, t160_ok.1, t217_ok.1, trivial⟩, trivial⟩
theorem alive20 : ev X E0 17 [] [] = some (.c (.pv (.bool true)), []) := t218_ok.1
end Go.Sx.Tryd.Calive20
