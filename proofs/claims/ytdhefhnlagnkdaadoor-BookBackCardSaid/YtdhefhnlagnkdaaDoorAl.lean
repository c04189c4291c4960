/- Closed calls, each out of those that it makes. Printed by closed.py. -/
import Derived.Test.YtdhefhnlagnkdaaDoorSxTab
import Derived.Test.YtdhefhnlagnkdaaDoorXS
namespace Go.Sx.Tryd.Calive20
open Go Go.Sx Go.Sx.Tryd
def zw0 : PV := .agg [.int .i64 2, .int .i64 0, .int .i64 100]
def zw1 : PV := .agg [.int .i64 1, .int .i64 0, .int .i64 (-100)]
def zw2 : PV := .sl .full 3 [zw0, zw1]
def zu3 : AV := .agg [.pv (.int .i64 1), .pv (.int .i32 5), .pv (.int .i32 3), .pv (zw2), .pv (.int .i64 0), .pv (.int .i64 0), .pv (.str [])]
def zw4 : PV := .sl .nil 0 []
def zu5 : AV := .agg [.pv (zw4)]
def zu6 : AV := .agg [.pv (.int .i64 2), .pv (.int .i64 0), .pv (.int .i64 100)]
def zu7 : AV := .agg [.pv (.int .i64 1), .pv (.int .i64 0), .pv (.int .i64 (-100))]
def zb8 : Box := .cells [.pv (.int .i64 1), .pv (.int .i32 5), .pv (.int .i32 3), .pv (zw2), .pv (.int .i64 0), .pv (.int .i64 0), .pv (.str [])]
def zu9 : AV := .agg [.pv (.int .i64 0), .pv (.int .i64 100)]
def zu10 : AV := .agg [.pv (.int .i64 0), .pv (.int .i64 (-100))]
def zw11 : PV := .sl .shut 3 [zw0, zw1]
def zu12 : AV := .agg [.pv (.int .i64 1), .pv (.int .i32 5), .pv (.int .i32 3), .pv (zw11), .pv (.int .i64 0), .pv (.int .i64 0), .pv (.str [])]
def zw13 : PV := .agg [.int .i64 1, .int .i32 5, .int .i32 3, zw11, .int .i64 0, .int .i64 0, .str []]
def zu14 : AV := .agg [.own 2431 7 [zw13]]
def zw15 : PV := .agg [.int .i64 2, .int .i64 0, .int .i64 7]
def zw16 : PV := .agg [.int .i64 1, .int .i64 0, .int .i64 (-7)]
def zw17 : PV := .sl .full 3 [zw15, zw16]
def zu18 : AV := .agg [.pv (.int .i64 2), .pv (.int .i32 9), .pv (.int .i32 4), .pv (zw17), .pv (.int .i64 0), .pv (.int .i64 0), .pv (.str [])]
def zb19 : Box := .cells [.pv (.int .i64 1), .pv (.int .i32 5), .pv (.int .i32 3), .pv (zw11), .pv (.int .i64 0), .pv (.int .i64 0), .pv (.str [])]
def zw20 : PV := .sl .shut 7 []
def zw21 : PV := .sl .shut 7 [zw13]
def zu22 : AV := .agg [.pv (zw21)]
def zu23 : AV := .agg [.pv (.int .i64 2), .pv (.int .i64 0), .pv (.int .i64 7)]
def zu24 : AV := .agg [.pv (.int .i64 1), .pv (.int .i64 0), .pv (.int .i64 (-7))]
def zb25 : Box := .cells [.pv (.int .i64 2), .pv (.int .i32 9), .pv (.int .i32 4), .pv (zw17), .pv (.int .i64 0), .pv (.int .i64 0), .pv (.str [])]
def zu26 : AV := .agg [.pv (.int .i64 0), .pv (.int .i64 7)]
def zu27 : AV := .agg [.pv (.int .i64 0), .pv (.int .i64 (-7))]
def zw28 : PV := .sl .shut 3 [zw15, zw16]
def zu29 : AV := .agg [.pv (.int .i64 2), .pv (.int .i32 9), .pv (.int .i32 4), .pv (zw28), .pv (.int .i64 0), .pv (.int .i64 0), .pv (.str [])]
def zw30 : PV := .agg [.int .i64 2, .int .i32 9, .int .i32 4, zw28, .int .i64 0, .int .i64 0, .str []]
def zu31 : AV := .agg [.own 2431 7 [zw13, zw30]]
def zb32 : Box := .cells [.pv (.int .i64 2), .pv (.int .i32 9), .pv (.int .i32 4), .pv (zw28), .pv (.int .i64 0), .pv (.int .i64 0), .pv (.str [])]
def zw33 : PV := .sl .shut 7 [zw13, zw30]
def zu34 : AV := .agg [.pv (zw33)]
def zu35 : AV := .agg [.pv (.int .i64 3), .pv (.int .i32 8), .pv (.int .i32 4), .pv (zw17), .pv (.int .i64 0), .pv (.int .i64 0), .pv (.str [])]
def zb36 : Box := .cells [.pv (.int .i64 3), .pv (.int .i32 8), .pv (.int .i32 4), .pv (zw17), .pv (.int .i64 0), .pv (.int .i64 0), .pv (.str [])]
def zw37 : PV := .agg [.int .i64 2, .int .i64 0, .int .i64 (-100)]
def zw38 : PV := .agg [.int .i64 1, .int .i64 0, .int .i64 100]
def zw39 : PV := .sl .shut 3 [zw37, zw38]
def zu40 : AV := .agg [.pv (.int .i64 3), .pv (.int .i32 10), .pv (.int .i32 3), .pv (zw39), .pv (.int .i64 1), .pv (.int .i64 0), .pv (.str [])]
def zu41 : AV := .agg [.pv (.int .i64 2), .pv (.int .i64 0), .pv (.int .i64 (-100))]
def zu42 : AV := .agg [.pv (.int .i64 1), .pv (.int .i64 0), .pv (.int .i64 100)]
def zb43 : Box := .cells [.pv (.int .i64 3), .pv (.int .i32 10), .pv (.int .i32 3), .pv (zw39), .pv (.int .i64 1), .pv (.int .i64 0), .pv (.str [])]
def zw44 : PV := .agg [.int .i64 3, .int .i32 10, .int .i32 3, zw39, .int .i64 1, .int .i64 0, .str []]
def zu45 : AV := .agg [.own 2431 7 [zw13, zw30, zw44]]
def zw46 : PV := .sl .shut 7 [zw13, zw30, zw44]
def zu47 : AV := .agg [.pv (zw46)]
def zu48 : AV := .agg [.pv (.int .i64 4), .pv (.int .i32 10), .pv (.int .i32 3), .pv (zw39), .pv (.int .i64 1), .pv (.int .i64 0), .pv (.str [])]
def zb49 : Box := .cells [.pv (.int .i64 4), .pv (.int .i32 10), .pv (.int .i32 3), .pv (zw39), .pv (.int .i64 1), .pv (.int .i64 0), .pv (.str [])]
def zb50 : Box := .cells [.pv (.int .i32 5)]
def zu51 : AV := .agg [.own 704 7 [zw13]]
def zb52 : Box := .cells [.pv (.int .i32 9)]
def zb53 : Box := .cells [.pv (.int .i32 3)]
def zb54 : Box := .cells [.mp 1]
def zb55 : Box := .cells [.pv (.int .i64 2)]
def zb56 : Box := .cells [.pv (.int .i64 0)]
def zb57 : Box := .cells [.pv (.int .i64 1)]
def zw58 : PV := .sl .shut 7 [zw30, zw44]
def zw59 : PV := .sl .shut 1 [.int .i64 2]
def zw60 : PV := .sl .full 1 [.int .i64 2]
def zu61 : AV := .agg [.pv (zw58)]
def zt0 : Fact := ⟨58, [.c (.pv (.int .i64 1)), .c (.pv (.int .i32 5)), .c (.pv (.int .i32 3)), .c (.pv (.int .i64 100))], [], (zu3, [])⟩
theorem zt0_ok : Holds (ev X E0) [zt0] := ⟨ev_tab (n := 400) (x := xf58) rfl (t := []) (by kernel_rfl) trivial, trivial⟩
def zt1 : Fact := ⟨25, [zu5], [], (.c (.pv (.bool true)), [])⟩
theorem zt1_ok : Holds (ev X E0) [zt1] := ⟨ev_tab (n := 400) (x := xf25) rfl (t := []) (by kernel_rfl) trivial, trivial⟩
def zt2 : Fact := ⟨154, [.c (.pv (.str [])), .c (.fn 128 []), .c (.pv (.bool true))], [], (.c (.pv (.int .i64 (-1))), [])⟩
theorem zt2_ok : Holds (ev X E0) [zt2] := ⟨ev_tab (n := 400) (x := xf154) rfl (t := []) (by kernel_rfl) trivial, trivial⟩
def zt3 : Fact := ⟨151, [.c (.pv (.str [])), .c (.fn 128 [])], [], (.c (.pv (.int .i64 (-1))), [])⟩
theorem zt3_ok : Holds (ev X E0) [zt3] := ⟨ev_tab (n := 400) (x := xf151) rfl (t := [zt2]) (by kernel_rfl) ⟨zt2_ok.1, trivial⟩, trivial⟩
def zt4 : Fact := ⟨129, [.c (.pv (.str [])), .c (.fn 128 [])], [], (.c (.pv (.bool false)), [])⟩
theorem zt4_ok : Holds (ev X E0) [zt4] := ⟨ev_tab (n := 400) (x := xf129) rfl (t := [zt3]) (by kernel_rfl) ⟨zt3_ok.1, trivial⟩, trivial⟩
def zt5 : Fact := ⟨76, [zu3], [], (.c (.pv (.bool true)), [])⟩
theorem zt5_ok : Holds (ev X E0) [zt5] := ⟨ev_tab (n := 400) (x := xf76) rfl (t := [zt4]) (by kernel_rfl) ⟨zt4_ok.1, trivial⟩, trivial⟩
def zt6 : Fact := ⟨77, [.c (.pv (.int .i32 5))], [], (.c (.pv (.bool true)), [])⟩
theorem zt6_ok : Holds (ev X E0) [zt6] := ⟨ev_tab (n := 400) (x := xf77) rfl (t := []) (by kernel_rfl) trivial, trivial⟩
def zt7 : Fact := ⟨77, [.c (.pv (.int .i32 3))], [], (.c (.pv (.bool true)), [])⟩
theorem zt7_ok : Holds (ev X E0) [zt7] := ⟨ev_tab (n := 400) (x := xf77) rfl (t := []) (by kernel_rfl) trivial, trivial⟩
def zt8 : Fact := ⟨78, [zu6], [], (.c (.pv (.bool false)), [])⟩
theorem zt8_ok : Holds (ev X E0) [zt8] := ⟨ev_tab (n := 400) (x := xf78) rfl (t := []) (by kernel_rfl) trivial, trivial⟩
def zt9 : Fact := ⟨78, [zu7], [], (.c (.pv (.bool false)), [])⟩
theorem zt9_ok : Holds (ev X E0) [zt9] := ⟨ev_tab (n := 400) (x := xf78) rfl (t := []) (by kernel_rfl) trivial, trivial⟩
def zt10 : Fact := ⟨127, [.c (.pv (zw2)), .c (.fn 78 [])], [], (.c (.pv (.int .i64 (-1))), [])⟩
theorem zt10_ok : Holds (ev X E0) [zt10] := ⟨ev_tab (n := 400) (x := xf127) rfl (t := [zt8, zt9]) (by kernel_rfl) ⟨zt8_ok.1, zt9_ok.1, trivial⟩, trivial⟩
def zt11 : Fact := ⟨75, [.c (.pv (zw2)), .c (.fn 78 [])], [], (.c (.pv (.bool false)), [])⟩
theorem zt11_ok : Holds (ev X E0) [zt11] := ⟨ev_tab (n := 400) (x := xf75) rfl (t := [zt10]) (by kernel_rfl) ⟨zt10_ok.1, trivial⟩, trivial⟩
def zt12 : Fact := ⟨74, [.c (.fn 78 []), .c (.ptr 0 0)], [zb8], (.c (.pv (.bool false)), [zb8])⟩
theorem zt12_ok : Holds (ev X E0) [zt12] := ⟨ev_tab (n := 400) (x := xf74) rfl (t := [zt11]) (by kernel_rfl) ⟨zt11_ok.1, trivial⟩, trivial⟩
def zt13 : Fact := ⟨130, [.c (.pv (.int .i64 0))], [], (.c (.pv (.bool true)), [])⟩
theorem zt13_ok : Holds (ev X E0) [zt13] := ⟨ev_tab (n := 400) (x := xf130) rfl (t := []) (by kernel_rfl) trivial, trivial⟩
def zt14 : Fact := ⟨80, [.c (.pv (.int .i64 0))], [], (.c (.pv (.str [69, 85, 82])), [])⟩
theorem zt14_ok : Holds (ev X E0) [zt14] := ⟨ev_tab (n := 400) (x := xf80) rfl (t := [zt13]) (by kernel_rfl) ⟨zt13_ok.1, trivial⟩, trivial⟩
def zt15 : Fact := ⟨79, [zu6], [], (.c (.pv (.bool false)), [])⟩
theorem zt15_ok : Holds (ev X E0) [zt15] := ⟨ev_tab (n := 400) (x := xf79) rfl (t := [zt14]) (by kernel_rfl) ⟨zt14_ok.1, trivial⟩, trivial⟩
def zt16 : Fact := ⟨79, [zu7], [], (.c (.pv (.bool false)), [])⟩
theorem zt16_ok : Holds (ev X E0) [zt16] := ⟨ev_tab (n := 400) (x := xf79) rfl (t := [zt14]) (by kernel_rfl) ⟨zt14_ok.1, trivial⟩, trivial⟩
def zt17 : Fact := ⟨127, [.c (.pv (zw2)), .c (.fn 79 [])], [], (.c (.pv (.int .i64 (-1))), [])⟩
theorem zt17_ok : Holds (ev X E0) [zt17] := ⟨ev_tab (n := 400) (x := xf127) rfl (t := [zt15, zt16]) (by kernel_rfl) ⟨zt15_ok.1, zt16_ok.1, trivial⟩, trivial⟩
def zt18 : Fact := ⟨75, [.c (.pv (zw2)), .c (.fn 79 [])], [], (.c (.pv (.bool false)), [])⟩
theorem zt18_ok : Holds (ev X E0) [zt18] := ⟨ev_tab (n := 400) (x := xf75) rfl (t := [zt17]) (by kernel_rfl) ⟨zt17_ok.1, trivial⟩, trivial⟩
def zt19 : Fact := ⟨74, [.c (.fn 79 []), .c (.ptr 0 0)], [zb8], (.c (.pv (.bool false)), [zb8])⟩
theorem zt19_ok : Holds (ev X E0) [zt19] := ⟨ev_tab (n := 400) (x := xf74) rfl (t := [zt18]) (by kernel_rfl) ⟨zt18_ok.1, trivial⟩, trivial⟩
def zt20 : Fact := ⟨82, [zu9], [], (.c (.pv (.bool true)), [])⟩
theorem zt20_ok : Holds (ev X E0) [zt20] := ⟨ev_tab (n := 400) (x := xf82) rfl (t := [zt13]) (by kernel_rfl) ⟨zt13_ok.1, trivial⟩, trivial⟩
def zt21 : Fact := ⟨81, [zu6], [], (.c (.pv (.bool false)), [])⟩
theorem zt21_ok : Holds (ev X E0) [zt21] := ⟨ev_tab (n := 400) (x := xf81) rfl (t := [zt20]) (by kernel_rfl) ⟨zt20_ok.1, trivial⟩, trivial⟩
def zt22 : Fact := ⟨82, [zu10], [], (.c (.pv (.bool true)), [])⟩
theorem zt22_ok : Holds (ev X E0) [zt22] := ⟨ev_tab (n := 400) (x := xf82) rfl (t := [zt13]) (by kernel_rfl) ⟨zt13_ok.1, trivial⟩, trivial⟩
def zt23 : Fact := ⟨81, [zu7], [], (.c (.pv (.bool false)), [])⟩
theorem zt23_ok : Holds (ev X E0) [zt23] := ⟨ev_tab (n := 400) (x := xf81) rfl (t := [zt22]) (by kernel_rfl) ⟨zt22_ok.1, trivial⟩, trivial⟩
def zt24 : Fact := ⟨127, [.c (.pv (zw2)), .c (.fn 81 [])], [], (.c (.pv (.int .i64 (-1))), [])⟩
theorem zt24_ok : Holds (ev X E0) [zt24] := ⟨ev_tab (n := 400) (x := xf127) rfl (t := [zt21, zt23]) (by kernel_rfl) ⟨zt21_ok.1, zt23_ok.1, trivial⟩, trivial⟩
def zt25 : Fact := ⟨75, [.c (.pv (zw2)), .c (.fn 81 [])], [], (.c (.pv (.bool false)), [])⟩
theorem zt25_ok : Holds (ev X E0) [zt25] := ⟨ev_tab (n := 400) (x := xf75) rfl (t := [zt24]) (by kernel_rfl) ⟨zt24_ok.1, trivial⟩, trivial⟩
def zt26 : Fact := ⟨74, [.c (.fn 81 []), .c (.ptr 0 0)], [zb8], (.c (.pv (.bool false)), [zb8])⟩
theorem zt26_ok : Holds (ev X E0) [zt26] := ⟨ev_tab (n := 400) (x := xf74) rfl (t := [zt25]) (by kernel_rfl) ⟨zt25_ok.1, trivial⟩, trivial⟩
def zt27 : Fact := ⟨83, [zu6], [], (.c (.pv (.bool false)), [])⟩
theorem zt27_ok : Holds (ev X E0) [zt27] := ⟨ev_tab (n := 400) (x := xf83) rfl (t := []) (by kernel_rfl) trivial, trivial⟩
def zt28 : Fact := ⟨83, [zu7], [], (.c (.pv (.bool false)), [])⟩
theorem zt28_ok : Holds (ev X E0) [zt28] := ⟨ev_tab (n := 400) (x := xf83) rfl (t := []) (by kernel_rfl) trivial, trivial⟩
def zt29 : Fact := ⟨127, [.c (.pv (zw2)), .c (.fn 83 [])], [], (.c (.pv (.int .i64 (-1))), [])⟩
theorem zt29_ok : Holds (ev X E0) [zt29] := ⟨ev_tab (n := 400) (x := xf127) rfl (t := [zt27, zt28]) (by kernel_rfl) ⟨zt27_ok.1, zt28_ok.1, trivial⟩, trivial⟩
def zt30 : Fact := ⟨75, [.c (.pv (zw2)), .c (.fn 83 [])], [], (.c (.pv (.bool false)), [])⟩
theorem zt30_ok : Holds (ev X E0) [zt30] := ⟨ev_tab (n := 400) (x := xf75) rfl (t := [zt29]) (by kernel_rfl) ⟨zt29_ok.1, trivial⟩, trivial⟩
def zt31 : Fact := ⟨74, [.c (.fn 83 []), .c (.ptr 0 0)], [zb8], (.c (.pv (.bool false)), [zb8])⟩
theorem zt31_ok : Holds (ev X E0) [zt31] := ⟨ev_tab (n := 400) (x := xf74) rfl (t := [zt30]) (by kernel_rfl) ⟨zt30_ok.1, trivial⟩, trivial⟩
def zt32 : Fact := ⟨84, [.c (.pv (zw2))], [], (.c (.pv (.bool true)), [])⟩
theorem zt32_ok : Holds (ev X E0) [zt32] := ⟨ev_tab (n := 400) (x := xf84) rfl (t := []) (by kernel_rfl) trivial, trivial⟩
def zt33 : Fact := ⟨37, [zu3], [], (.c (.pv (.int .i64 0)), [])⟩
theorem zt33_ok : Holds (ev X E0) [zt33] := ⟨ev_tab (n := 400) (x := xf37) rfl (t := [zt5, zt6, zt7, zt12, zt19, zt26, zt31, zt32]) (by kernel_rfl) ⟨zt5_ok.1, zt6_ok.1, zt7_ok.1, zt12_ok.1, zt19_ok.1, zt26_ok.1, zt31_ok.1, zt32_ok.1, trivial⟩, trivial⟩
def zt34 : Fact := ⟨60, [.c (.pv (zw4))], [], (.c (.mp 0), [.map []])⟩
theorem zt34_ok : Holds (ev X E0) [zt34] := ⟨ev_tab (n := 400) (x := xf60) rfl (t := []) (by kernel_rfl) trivial, trivial⟩
def zt35 : Fact := ⟨59, [.c (.pv (zw4)), .c (.mp 0), zu3], [.map []], (.c (.pv (.int .i64 0)), [.map []])⟩
theorem zt35_ok : Holds (ev X E0) [zt35] := ⟨ev_tab (n := 400) (x := xf59) rfl (t := []) (by kernel_rfl) trivial, trivial⟩
def zt36 : Fact := ⟨62, [.c (.pv (zw4)), .c (.fn 61 [])], [], (.c (.pv (zw4)), [])⟩
theorem zt36_ok : Holds (ev X E0) [zt36] := ⟨ev_tab (n := 400) (x := xf62) rfl (t := []) (by kernel_rfl) trivial, trivial⟩
def zt37 : Fact := ⟨85, [.c (.pv (zw2))], [], (.c (.own 511 3 [zw0, zw1]), [])⟩
theorem zt37_ok : Holds (ev X E0) [zt37] := ⟨ev_tab (n := 400) (x := xf85) rfl (t := []) (by kernel_rfl) trivial, trivial⟩
def zt38 : Fact := ⟨63, [zu3], [], (zu12, [])⟩
theorem zt38_ok : Holds (ev X E0) [zt38] := ⟨ev_tab (n := 400) (x := xf63) rfl (t := [zt37]) (by kernel_rfl) ⟨zt37_ok.1, trivial⟩, trivial⟩
def zt39 : Fact := ⟨19, [zu5, zu3], [], (.tup [zu14, .c (.pv (.int .i64 0))], [])⟩
theorem zt39_ok : Holds (ev X E0) [zt39] := ⟨ev_tab (n := 400) (x := xf19) rfl (t := [zt1, zt33, zt34, zt35, zt36, zt38]) (by kernel_rfl) ⟨zt1_ok.1, zt33_ok.1, zt34_ok.1, zt35_ok.1, zt36_ok.1, zt38_ok.1, trivial⟩, trivial⟩
def zt40 : Fact := ⟨58, [.c (.pv (.int .i64 2)), .c (.pv (.int .i32 9)), .c (.pv (.int .i32 4)), .c (.pv (.int .i64 7))], [], (zu18, [])⟩
theorem zt40_ok : Holds (ev X E0) [zt40] := ⟨ev_tab (n := 400) (x := xf58) rfl (t := []) (by kernel_rfl) trivial, trivial⟩
def zt41 : Fact := ⟨76, [zu12], [], (.c (.pv (.bool true)), [])⟩
theorem zt41_ok : Holds (ev X E0) [zt41] := ⟨ev_tab (n := 400) (x := xf76) rfl (t := [zt4]) (by kernel_rfl) ⟨zt4_ok.1, trivial⟩, trivial⟩
def zt42 : Fact := ⟨127, [.c (.pv (zw11)), .c (.fn 78 [])], [], (.c (.pv (.int .i64 (-1))), [])⟩
theorem zt42_ok : Holds (ev X E0) [zt42] := ⟨ev_tab (n := 400) (x := xf127) rfl (t := [zt8, zt9]) (by kernel_rfl) ⟨zt8_ok.1, zt9_ok.1, trivial⟩, trivial⟩
def zt43 : Fact := ⟨75, [.c (.pv (zw11)), .c (.fn 78 [])], [], (.c (.pv (.bool false)), [])⟩
theorem zt43_ok : Holds (ev X E0) [zt43] := ⟨ev_tab (n := 400) (x := xf75) rfl (t := [zt42]) (by kernel_rfl) ⟨zt42_ok.1, trivial⟩, trivial⟩
def zt44 : Fact := ⟨74, [.c (.fn 78 []), .c (.ptr 0 0)], [zb19], (.c (.pv (.bool false)), [zb19])⟩
theorem zt44_ok : Holds (ev X E0) [zt44] := ⟨ev_tab (n := 400) (x := xf74) rfl (t := [zt43]) (by kernel_rfl) ⟨zt43_ok.1, trivial⟩, trivial⟩
def zt45 : Fact := ⟨127, [.c (.pv (zw11)), .c (.fn 79 [])], [], (.c (.pv (.int .i64 (-1))), [])⟩
theorem zt45_ok : Holds (ev X E0) [zt45] := ⟨ev_tab (n := 400) (x := xf127) rfl (t := [zt15, zt16]) (by kernel_rfl) ⟨zt15_ok.1, zt16_ok.1, trivial⟩, trivial⟩
def zt46 : Fact := ⟨75, [.c (.pv (zw11)), .c (.fn 79 [])], [], (.c (.pv (.bool false)), [])⟩
theorem zt46_ok : Holds (ev X E0) [zt46] := ⟨ev_tab (n := 400) (x := xf75) rfl (t := [zt45]) (by kernel_rfl) ⟨zt45_ok.1, trivial⟩, trivial⟩
def zt47 : Fact := ⟨74, [.c (.fn 79 []), .c (.ptr 0 0)], [zb19], (.c (.pv (.bool false)), [zb19])⟩
theorem zt47_ok : Holds (ev X E0) [zt47] := ⟨ev_tab (n := 400) (x := xf74) rfl (t := [zt46]) (by kernel_rfl) ⟨zt46_ok.1, trivial⟩, trivial⟩
def zt48 : Fact := ⟨127, [.c (.pv (zw11)), .c (.fn 81 [])], [], (.c (.pv (.int .i64 (-1))), [])⟩
theorem zt48_ok : Holds (ev X E0) [zt48] := ⟨ev_tab (n := 400) (x := xf127) rfl (t := [zt21, zt23]) (by kernel_rfl) ⟨zt21_ok.1, zt23_ok.1, trivial⟩, trivial⟩
def zt49 : Fact := ⟨75, [.c (.pv (zw11)), .c (.fn 81 [])], [], (.c (.pv (.bool false)), [])⟩
theorem zt49_ok : Holds (ev X E0) [zt49] := ⟨ev_tab (n := 400) (x := xf75) rfl (t := [zt48]) (by kernel_rfl) ⟨zt48_ok.1, trivial⟩, trivial⟩
def zt50 : Fact := ⟨74, [.c (.fn 81 []), .c (.ptr 0 0)], [zb19], (.c (.pv (.bool false)), [zb19])⟩
theorem zt50_ok : Holds (ev X E0) [zt50] := ⟨ev_tab (n := 400) (x := xf74) rfl (t := [zt49]) (by kernel_rfl) ⟨zt49_ok.1, trivial⟩, trivial⟩
def zt51 : Fact := ⟨127, [.c (.pv (zw11)), .c (.fn 83 [])], [], (.c (.pv (.int .i64 (-1))), [])⟩
theorem zt51_ok : Holds (ev X E0) [zt51] := ⟨ev_tab (n := 400) (x := xf127) rfl (t := [zt27, zt28]) (by kernel_rfl) ⟨zt27_ok.1, zt28_ok.1, trivial⟩, trivial⟩
def zt52 : Fact := ⟨75, [.c (.pv (zw11)), .c (.fn 83 [])], [], (.c (.pv (.bool false)), [])⟩
theorem zt52_ok : Holds (ev X E0) [zt52] := ⟨ev_tab (n := 400) (x := xf75) rfl (t := [zt51]) (by kernel_rfl) ⟨zt51_ok.1, trivial⟩, trivial⟩
def zt53 : Fact := ⟨74, [.c (.fn 83 []), .c (.ptr 0 0)], [zb19], (.c (.pv (.bool false)), [zb19])⟩
theorem zt53_ok : Holds (ev X E0) [zt53] := ⟨ev_tab (n := 400) (x := xf74) rfl (t := [zt52]) (by kernel_rfl) ⟨zt52_ok.1, trivial⟩, trivial⟩
def zt54 : Fact := ⟨84, [.c (.pv (zw11))], [], (.c (.pv (.bool true)), [])⟩
theorem zt54_ok : Holds (ev X E0) [zt54] := ⟨ev_tab (n := 400) (x := xf84) rfl (t := []) (by kernel_rfl) trivial, trivial⟩
def zt55 : Fact := ⟨37, [zu12], [], (.c (.pv (.int .i64 0)), [])⟩
theorem zt55_ok : Holds (ev X E0) [zt55] := ⟨ev_tab (n := 400) (x := xf37) rfl (t := [zt41, zt6, zt7, zt44, zt47, zt50, zt53, zt54]) (by kernel_rfl) ⟨zt41_ok.1, zt6_ok.1, zt7_ok.1, zt44_ok.1, zt47_ok.1, zt50_ok.1, zt53_ok.1, zt54_ok.1, trivial⟩, trivial⟩
def zt56 : Fact := ⟨59, [.c (.pv (zw20)), .c (.mp 0), zu12], [.map []], (.c (.pv (.int .i64 0)), [.map []])⟩
theorem zt56_ok : Holds (ev X E0) [zt56] := ⟨ev_tab (n := 400) (x := xf59) rfl (t := []) (by kernel_rfl) trivial, trivial⟩
def zt57 : Fact := ⟨25, [zu22], [], (.c (.pv (.bool true)), [])⟩
theorem zt57_ok : Holds (ev X E0) [zt57] := ⟨ev_tab (n := 400) (x := xf25) rfl (t := [zt55, zt56]) (by kernel_rfl) ⟨zt55_ok.1, zt56_ok.1, trivial⟩, trivial⟩
def zt58 : Fact := ⟨76, [zu18], [], (.c (.pv (.bool true)), [])⟩
theorem zt58_ok : Holds (ev X E0) [zt58] := ⟨ev_tab (n := 400) (x := xf76) rfl (t := [zt4]) (by kernel_rfl) ⟨zt4_ok.1, trivial⟩, trivial⟩
def zt59 : Fact := ⟨77, [.c (.pv (.int .i32 9))], [], (.c (.pv (.bool true)), [])⟩
theorem zt59_ok : Holds (ev X E0) [zt59] := ⟨ev_tab (n := 400) (x := xf77) rfl (t := []) (by kernel_rfl) trivial, trivial⟩
def zt60 : Fact := ⟨77, [.c (.pv (.int .i32 4))], [], (.c (.pv (.bool true)), [])⟩
theorem zt60_ok : Holds (ev X E0) [zt60] := ⟨ev_tab (n := 400) (x := xf77) rfl (t := []) (by kernel_rfl) trivial, trivial⟩
def zt61 : Fact := ⟨78, [zu23], [], (.c (.pv (.bool false)), [])⟩
theorem zt61_ok : Holds (ev X E0) [zt61] := ⟨ev_tab (n := 400) (x := xf78) rfl (t := []) (by kernel_rfl) trivial, trivial⟩
def zt62 : Fact := ⟨78, [zu24], [], (.c (.pv (.bool false)), [])⟩
theorem zt62_ok : Holds (ev X E0) [zt62] := ⟨ev_tab (n := 400) (x := xf78) rfl (t := []) (by kernel_rfl) trivial, trivial⟩
def zt63 : Fact := ⟨127, [.c (.pv (zw17)), .c (.fn 78 [])], [], (.c (.pv (.int .i64 (-1))), [])⟩
theorem zt63_ok : Holds (ev X E0) [zt63] := ⟨ev_tab (n := 400) (x := xf127) rfl (t := [zt61, zt62]) (by kernel_rfl) ⟨zt61_ok.1, zt62_ok.1, trivial⟩, trivial⟩
def zt64 : Fact := ⟨75, [.c (.pv (zw17)), .c (.fn 78 [])], [], (.c (.pv (.bool false)), [])⟩
theorem zt64_ok : Holds (ev X E0) [zt64] := ⟨ev_tab (n := 400) (x := xf75) rfl (t := [zt63]) (by kernel_rfl) ⟨zt63_ok.1, trivial⟩, trivial⟩
def zt65 : Fact := ⟨74, [.c (.fn 78 []), .c (.ptr 0 0)], [zb25], (.c (.pv (.bool false)), [zb25])⟩
theorem zt65_ok : Holds (ev X E0) [zt65] := ⟨ev_tab (n := 400) (x := xf74) rfl (t := [zt64]) (by kernel_rfl) ⟨zt64_ok.1, trivial⟩, trivial⟩
def zt66 : Fact := ⟨79, [zu23], [], (.c (.pv (.bool false)), [])⟩
theorem zt66_ok : Holds (ev X E0) [zt66] := ⟨ev_tab (n := 400) (x := xf79) rfl (t := [zt14]) (by kernel_rfl) ⟨zt14_ok.1, trivial⟩, trivial⟩
def zt67 : Fact := ⟨79, [zu24], [], (.c (.pv (.bool false)), [])⟩
theorem zt67_ok : Holds (ev X E0) [zt67] := ⟨ev_tab (n := 400) (x := xf79) rfl (t := [zt14]) (by kernel_rfl) ⟨zt14_ok.1, trivial⟩, trivial⟩
def zt68 : Fact := ⟨127, [.c (.pv (zw17)), .c (.fn 79 [])], [], (.c (.pv (.int .i64 (-1))), [])⟩
theorem zt68_ok : Holds (ev X E0) [zt68] := ⟨ev_tab (n := 400) (x := xf127) rfl (t := [zt66, zt67]) (by kernel_rfl) ⟨zt66_ok.1, zt67_ok.1, trivial⟩, trivial⟩
def zt69 : Fact := ⟨75, [.c (.pv (zw17)), .c (.fn 79 [])], [], (.c (.pv (.bool false)), [])⟩
theorem zt69_ok : Holds (ev X E0) [zt69] := ⟨ev_tab (n := 400) (x := xf75) rfl (t := [zt68]) (by kernel_rfl) ⟨zt68_ok.1, trivial⟩, trivial⟩
def zt70 : Fact := ⟨74, [.c (.fn 79 []), .c (.ptr 0 0)], [zb25], (.c (.pv (.bool false)), [zb25])⟩
theorem zt70_ok : Holds (ev X E0) [zt70] := ⟨ev_tab (n := 400) (x := xf74) rfl (t := [zt69]) (by kernel_rfl) ⟨zt69_ok.1, trivial⟩, trivial⟩
def zt71 : Fact := ⟨82, [zu26], [], (.c (.pv (.bool true)), [])⟩
theorem zt71_ok : Holds (ev X E0) [zt71] := ⟨ev_tab (n := 400) (x := xf82) rfl (t := [zt13]) (by kernel_rfl) ⟨zt13_ok.1, trivial⟩, trivial⟩
def zt72 : Fact := ⟨81, [zu23], [], (.c (.pv (.bool false)), [])⟩
theorem zt72_ok : Holds (ev X E0) [zt72] := ⟨ev_tab (n := 400) (x := xf81) rfl (t := [zt71]) (by kernel_rfl) ⟨zt71_ok.1, trivial⟩, trivial⟩
def zt73 : Fact := ⟨82, [zu27], [], (.c (.pv (.bool true)), [])⟩
theorem zt73_ok : Holds (ev X E0) [zt73] := ⟨ev_tab (n := 400) (x := xf82) rfl (t := [zt13]) (by kernel_rfl) ⟨zt13_ok.1, trivial⟩, trivial⟩
def zt74 : Fact := ⟨81, [zu24], [], (.c (.pv (.bool false)), [])⟩
theorem zt74_ok : Holds (ev X E0) [zt74] := ⟨ev_tab (n := 400) (x := xf81) rfl (t := [zt73]) (by kernel_rfl) ⟨zt73_ok.1, trivial⟩, trivial⟩
def zt75 : Fact := ⟨127, [.c (.pv (zw17)), .c (.fn 81 [])], [], (.c (.pv (.int .i64 (-1))), [])⟩
theorem zt75_ok : Holds (ev X E0) [zt75] := ⟨ev_tab (n := 400) (x := xf127) rfl (t := [zt72, zt74]) (by kernel_rfl) ⟨zt72_ok.1, zt74_ok.1, trivial⟩, trivial⟩
def zt76 : Fact := ⟨75, [.c (.pv (zw17)), .c (.fn 81 [])], [], (.c (.pv (.bool false)), [])⟩
theorem zt76_ok : Holds (ev X E0) [zt76] := ⟨ev_tab (n := 400) (x := xf75) rfl (t := [zt75]) (by kernel_rfl) ⟨zt75_ok.1, trivial⟩, trivial⟩
def zt77 : Fact := ⟨74, [.c (.fn 81 []), .c (.ptr 0 0)], [zb25], (.c (.pv (.bool false)), [zb25])⟩
theorem zt77_ok : Holds (ev X E0) [zt77] := ⟨ev_tab (n := 400) (x := xf74) rfl (t := [zt76]) (by kernel_rfl) ⟨zt76_ok.1, trivial⟩, trivial⟩
def zt78 : Fact := ⟨83, [zu23], [], (.c (.pv (.bool false)), [])⟩
theorem zt78_ok : Holds (ev X E0) [zt78] := ⟨ev_tab (n := 400) (x := xf83) rfl (t := []) (by kernel_rfl) trivial, trivial⟩
def zt79 : Fact := ⟨83, [zu24], [], (.c (.pv (.bool false)), [])⟩
theorem zt79_ok : Holds (ev X E0) [zt79] := ⟨ev_tab (n := 400) (x := xf83) rfl (t := []) (by kernel_rfl) trivial, trivial⟩
def zt80 : Fact := ⟨127, [.c (.pv (zw17)), .c (.fn 83 [])], [], (.c (.pv (.int .i64 (-1))), [])⟩
theorem zt80_ok : Holds (ev X E0) [zt80] := ⟨ev_tab (n := 400) (x := xf127) rfl (t := [zt78, zt79]) (by kernel_rfl) ⟨zt78_ok.1, zt79_ok.1, trivial⟩, trivial⟩
def zt81 : Fact := ⟨75, [.c (.pv (zw17)), .c (.fn 83 [])], [], (.c (.pv (.bool false)), [])⟩
theorem zt81_ok : Holds (ev X E0) [zt81] := ⟨ev_tab (n := 400) (x := xf75) rfl (t := [zt80]) (by kernel_rfl) ⟨zt80_ok.1, trivial⟩, trivial⟩
def zt82 : Fact := ⟨74, [.c (.fn 83 []), .c (.ptr 0 0)], [zb25], (.c (.pv (.bool false)), [zb25])⟩
theorem zt82_ok : Holds (ev X E0) [zt82] := ⟨ev_tab (n := 400) (x := xf74) rfl (t := [zt81]) (by kernel_rfl) ⟨zt81_ok.1, trivial⟩, trivial⟩
def zt83 : Fact := ⟨84, [.c (.pv (zw17))], [], (.c (.pv (.bool true)), [])⟩
theorem zt83_ok : Holds (ev X E0) [zt83] := ⟨ev_tab (n := 400) (x := xf84) rfl (t := []) (by kernel_rfl) trivial, trivial⟩
def zt84 : Fact := ⟨37, [zu18], [], (.c (.pv (.int .i64 0)), [])⟩
theorem zt84_ok : Holds (ev X E0) [zt84] := ⟨ev_tab (n := 400) (x := xf37) rfl (t := [zt58, zt59, zt60, zt65, zt70, zt77, zt82, zt83]) (by kernel_rfl) ⟨zt58_ok.1, zt59_ok.1, zt60_ok.1, zt65_ok.1, zt70_ok.1, zt77_ok.1, zt82_ok.1, zt83_ok.1, trivial⟩, trivial⟩
def zt85 : Fact := ⟨60, [.c (.pv (zw21))], [], (.c (.mp 0), [.map [(.int .i64 0, .bool true)]])⟩
theorem zt85_ok : Holds (ev X E0) [zt85] := ⟨ev_tab (n := 400) (x := xf60) rfl (t := []) (by kernel_rfl) trivial, trivial⟩
def zt86 : Fact := ⟨59, [.c (.pv (zw21)), .c (.mp 0), zu18], [.map [(.int .i64 0, .bool true)]], (.c (.pv (.int .i64 0)), [.map [(.int .i64 0, .bool true)]])⟩
theorem zt86_ok : Holds (ev X E0) [zt86] := ⟨ev_tab (n := 400) (x := xf59) rfl (t := []) (by kernel_rfl) trivial, trivial⟩
def zt87 : Fact := ⟨61, [zu12], [], (.c (.pv (.bool true)), [])⟩
theorem zt87_ok : Holds (ev X E0) [zt87] := ⟨ev_tab (n := 400) (x := xf61) rfl (t := []) (by kernel_rfl) trivial, trivial⟩
def zt88 : Fact := ⟨85, [.c (.pv (zw11))], [], (.c (.own 511 3 [zw0, zw1]), [])⟩
theorem zt88_ok : Holds (ev X E0) [zt88] := ⟨ev_tab (n := 400) (x := xf85) rfl (t := []) (by kernel_rfl) trivial, trivial⟩
def zt89 : Fact := ⟨63, [zu12], [], (zu12, [])⟩
theorem zt89_ok : Holds (ev X E0) [zt89] := ⟨ev_tab (n := 400) (x := xf63) rfl (t := [zt88]) (by kernel_rfl) ⟨zt88_ok.1, trivial⟩, trivial⟩
def zt90 : Fact := ⟨62, [.c (.pv (zw21)), .c (.fn 61 [])], [], (.c (.own 1407 7 [zw13]), [])⟩
theorem zt90_ok : Holds (ev X E0) [zt90] := ⟨ev_tab (n := 400) (x := xf62) rfl (t := [zt87, zt89]) (by kernel_rfl) ⟨zt87_ok.1, zt89_ok.1, trivial⟩, trivial⟩
def zt91 : Fact := ⟨85, [.c (.pv (zw17))], [], (.c (.own 511 3 [zw15, zw16]), [])⟩
theorem zt91_ok : Holds (ev X E0) [zt91] := ⟨ev_tab (n := 400) (x := xf85) rfl (t := []) (by kernel_rfl) trivial, trivial⟩
def zt92 : Fact := ⟨63, [zu18], [], (zu29, [])⟩
theorem zt92_ok : Holds (ev X E0) [zt92] := ⟨ev_tab (n := 400) (x := xf63) rfl (t := [zt91]) (by kernel_rfl) ⟨zt91_ok.1, trivial⟩, trivial⟩
def zt93 : Fact := ⟨19, [zu22, zu18], [], (.tup [zu31, .c (.pv (.int .i64 0))], [])⟩
theorem zt93_ok : Holds (ev X E0) [zt93] := ⟨ev_tab (n := 400) (x := xf19) rfl (t := [zt57, zt84, zt85, zt86, zt90, zt92]) (by kernel_rfl) ⟨zt57_ok.1, zt84_ok.1, zt85_ok.1, zt86_ok.1, zt90_ok.1, zt92_ok.1, trivial⟩, trivial⟩
def zt94 : Fact := ⟨76, [zu29], [], (.c (.pv (.bool true)), [])⟩
theorem zt94_ok : Holds (ev X E0) [zt94] := ⟨ev_tab (n := 400) (x := xf76) rfl (t := [zt4]) (by kernel_rfl) ⟨zt4_ok.1, trivial⟩, trivial⟩
def zt95 : Fact := ⟨127, [.c (.pv (zw28)), .c (.fn 78 [])], [], (.c (.pv (.int .i64 (-1))), [])⟩
theorem zt95_ok : Holds (ev X E0) [zt95] := ⟨ev_tab (n := 400) (x := xf127) rfl (t := [zt61, zt62]) (by kernel_rfl) ⟨zt61_ok.1, zt62_ok.1, trivial⟩, trivial⟩
def zt96 : Fact := ⟨75, [.c (.pv (zw28)), .c (.fn 78 [])], [], (.c (.pv (.bool false)), [])⟩
theorem zt96_ok : Holds (ev X E0) [zt96] := ⟨ev_tab (n := 400) (x := xf75) rfl (t := [zt95]) (by kernel_rfl) ⟨zt95_ok.1, trivial⟩, trivial⟩
def zt97 : Fact := ⟨74, [.c (.fn 78 []), .c (.ptr 0 0)], [zb32], (.c (.pv (.bool false)), [zb32])⟩
theorem zt97_ok : Holds (ev X E0) [zt97] := ⟨ev_tab (n := 400) (x := xf74) rfl (t := [zt96]) (by kernel_rfl) ⟨zt96_ok.1, trivial⟩, trivial⟩
def zt98 : Fact := ⟨127, [.c (.pv (zw28)), .c (.fn 79 [])], [], (.c (.pv (.int .i64 (-1))), [])⟩
theorem zt98_ok : Holds (ev X E0) [zt98] := ⟨ev_tab (n := 400) (x := xf127) rfl (t := [zt66, zt67]) (by kernel_rfl) ⟨zt66_ok.1, zt67_ok.1, trivial⟩, trivial⟩
def zt99 : Fact := ⟨75, [.c (.pv (zw28)), .c (.fn 79 [])], [], (.c (.pv (.bool false)), [])⟩
theorem zt99_ok : Holds (ev X E0) [zt99] := ⟨ev_tab (n := 400) (x := xf75) rfl (t := [zt98]) (by kernel_rfl) ⟨zt98_ok.1, trivial⟩, trivial⟩
def zt100 : Fact := ⟨74, [.c (.fn 79 []), .c (.ptr 0 0)], [zb32], (.c (.pv (.bool false)), [zb32])⟩
theorem zt100_ok : Holds (ev X E0) [zt100] := ⟨ev_tab (n := 400) (x := xf74) rfl (t := [zt99]) (by kernel_rfl) ⟨zt99_ok.1, trivial⟩, trivial⟩
def zt101 : Fact := ⟨127, [.c (.pv (zw28)), .c (.fn 81 [])], [], (.c (.pv (.int .i64 (-1))), [])⟩
theorem zt101_ok : Holds (ev X E0) [zt101] := ⟨ev_tab (n := 400) (x := xf127) rfl (t := [zt72, zt74]) (by kernel_rfl) ⟨zt72_ok.1, zt74_ok.1, trivial⟩, trivial⟩
def zt102 : Fact := ⟨75, [.c (.pv (zw28)), .c (.fn 81 [])], [], (.c (.pv (.bool false)), [])⟩
theorem zt102_ok : Holds (ev X E0) [zt102] := ⟨ev_tab (n := 400) (x := xf75) rfl (t := [zt101]) (by kernel_rfl) ⟨zt101_ok.1, trivial⟩, trivial⟩
def zt103 : Fact := ⟨74, [.c (.fn 81 []), .c (.ptr 0 0)], [zb32], (.c (.pv (.bool false)), [zb32])⟩
theorem zt103_ok : Holds (ev X E0) [zt103] := ⟨ev_tab (n := 400) (x := xf74) rfl (t := [zt102]) (by kernel_rfl) ⟨zt102_ok.1, trivial⟩, trivial⟩
def zt104 : Fact := ⟨127, [.c (.pv (zw28)), .c (.fn 83 [])], [], (.c (.pv (.int .i64 (-1))), [])⟩
theorem zt104_ok : Holds (ev X E0) [zt104] := ⟨ev_tab (n := 400) (x := xf127) rfl (t := [zt78, zt79]) (by kernel_rfl) ⟨zt78_ok.1, zt79_ok.1, trivial⟩, trivial⟩
def zt105 : Fact := ⟨75, [.c (.pv (zw28)), .c (.fn 83 [])], [], (.c (.pv (.bool false)), [])⟩
theorem zt105_ok : Holds (ev X E0) [zt105] := ⟨ev_tab (n := 400) (x := xf75) rfl (t := [zt104]) (by kernel_rfl) ⟨zt104_ok.1, trivial⟩, trivial⟩
def zt106 : Fact := ⟨74, [.c (.fn 83 []), .c (.ptr 0 0)], [zb32], (.c (.pv (.bool false)), [zb32])⟩
theorem zt106_ok : Holds (ev X E0) [zt106] := ⟨ev_tab (n := 400) (x := xf74) rfl (t := [zt105]) (by kernel_rfl) ⟨zt105_ok.1, trivial⟩, trivial⟩
def zt107 : Fact := ⟨84, [.c (.pv (zw28))], [], (.c (.pv (.bool true)), [])⟩
theorem zt107_ok : Holds (ev X E0) [zt107] := ⟨ev_tab (n := 400) (x := xf84) rfl (t := []) (by kernel_rfl) trivial, trivial⟩
def zt108 : Fact := ⟨37, [zu29], [], (.c (.pv (.int .i64 0)), [])⟩
theorem zt108_ok : Holds (ev X E0) [zt108] := ⟨ev_tab (n := 400) (x := xf37) rfl (t := [zt94, zt59, zt60, zt97, zt100, zt103, zt106, zt107]) (by kernel_rfl) ⟨zt94_ok.1, zt59_ok.1, zt60_ok.1, zt97_ok.1, zt100_ok.1, zt103_ok.1, zt106_ok.1, zt107_ok.1, trivial⟩, trivial⟩
def zt109 : Fact := ⟨59, [.c (.pv (zw21)), .c (.mp 0), zu29], [.map [(.int .i64 0, .bool true)]], (.c (.pv (.int .i64 0)), [.map [(.int .i64 0, .bool true)]])⟩
theorem zt109_ok : Holds (ev X E0) [zt109] := ⟨ev_tab (n := 400) (x := xf59) rfl (t := []) (by kernel_rfl) trivial, trivial⟩
def zt110 : Fact := ⟨25, [zu34], [], (.c (.pv (.bool true)), [])⟩
theorem zt110_ok : Holds (ev X E0) [zt110] := ⟨ev_tab (n := 400) (x := xf25) rfl (t := [zt55, zt56, zt108, zt109]) (by kernel_rfl) ⟨zt55_ok.1, zt56_ok.1, zt108_ok.1, zt109_ok.1, trivial⟩, trivial⟩
def zt111 : Fact := ⟨60, [.c (.pv (zw33))], [], (.c (.mp 0), [.map [(.int .i64 0, .bool true)]])⟩
theorem zt111_ok : Holds (ev X E0) [zt111] := ⟨ev_tab (n := 400) (x := xf60) rfl (t := []) (by kernel_rfl) trivial, trivial⟩
def zt112 : Fact := ⟨59, [.c (.pv (zw33)), .c (.mp 0), zu18], [.map [(.int .i64 0, .bool true)]], (.c (.pv (.int .i64 25)), [.map [(.int .i64 0, .bool true)]])⟩
theorem zt112_ok : Holds (ev X E0) [zt112] := ⟨ev_tab (n := 400) (x := xf59) rfl (t := []) (by kernel_rfl) trivial, trivial⟩
def zt113 : Fact := ⟨19, [zu34, zu18], [], (.tup [zu5, .c (.pv (.int .i64 25))], [])⟩
theorem zt113_ok : Holds (ev X E0) [zt113] := ⟨ev_tab (n := 400) (x := xf19) rfl (t := [zt110, zt84, zt111, zt112]) (by kernel_rfl) ⟨zt110_ok.1, zt84_ok.1, zt111_ok.1, zt112_ok.1, trivial⟩, trivial⟩
def zt114 : Fact := ⟨58, [.c (.pv (.int .i64 3)), .c (.pv (.int .i32 8)), .c (.pv (.int .i32 4)), .c (.pv (.int .i64 7))], [], (zu35, [])⟩
theorem zt114_ok : Holds (ev X E0) [zt114] := ⟨ev_tab (n := 400) (x := xf58) rfl (t := []) (by kernel_rfl) trivial, trivial⟩
def zt115 : Fact := ⟨76, [zu35], [], (.c (.pv (.bool true)), [])⟩
theorem zt115_ok : Holds (ev X E0) [zt115] := ⟨ev_tab (n := 400) (x := xf76) rfl (t := [zt4]) (by kernel_rfl) ⟨zt4_ok.1, trivial⟩, trivial⟩
def zt116 : Fact := ⟨77, [.c (.pv (.int .i32 8))], [], (.c (.pv (.bool true)), [])⟩
theorem zt116_ok : Holds (ev X E0) [zt116] := ⟨ev_tab (n := 400) (x := xf77) rfl (t := []) (by kernel_rfl) trivial, trivial⟩
def zt117 : Fact := ⟨74, [.c (.fn 78 []), .c (.ptr 0 0)], [zb36], (.c (.pv (.bool false)), [zb36])⟩
theorem zt117_ok : Holds (ev X E0) [zt117] := ⟨ev_tab (n := 400) (x := xf74) rfl (t := [zt64]) (by kernel_rfl) ⟨zt64_ok.1, trivial⟩, trivial⟩
def zt118 : Fact := ⟨74, [.c (.fn 79 []), .c (.ptr 0 0)], [zb36], (.c (.pv (.bool false)), [zb36])⟩
theorem zt118_ok : Holds (ev X E0) [zt118] := ⟨ev_tab (n := 400) (x := xf74) rfl (t := [zt69]) (by kernel_rfl) ⟨zt69_ok.1, trivial⟩, trivial⟩
def zt119 : Fact := ⟨74, [.c (.fn 81 []), .c (.ptr 0 0)], [zb36], (.c (.pv (.bool false)), [zb36])⟩
theorem zt119_ok : Holds (ev X E0) [zt119] := ⟨ev_tab (n := 400) (x := xf74) rfl (t := [zt76]) (by kernel_rfl) ⟨zt76_ok.1, trivial⟩, trivial⟩
def zt120 : Fact := ⟨74, [.c (.fn 83 []), .c (.ptr 0 0)], [zb36], (.c (.pv (.bool false)), [zb36])⟩
theorem zt120_ok : Holds (ev X E0) [zt120] := ⟨ev_tab (n := 400) (x := xf74) rfl (t := [zt81]) (by kernel_rfl) ⟨zt81_ok.1, trivial⟩, trivial⟩
def zt121 : Fact := ⟨37, [zu35], [], (.c (.pv (.int .i64 0)), [])⟩
theorem zt121_ok : Holds (ev X E0) [zt121] := ⟨ev_tab (n := 400) (x := xf37) rfl (t := [zt115, zt116, zt60, zt117, zt118, zt119, zt120, zt83]) (by kernel_rfl) ⟨zt115_ok.1, zt116_ok.1, zt60_ok.1, zt117_ok.1, zt118_ok.1, zt119_ok.1, zt120_ok.1, zt83_ok.1, trivial⟩, trivial⟩
def zt122 : Fact := ⟨59, [.c (.pv (zw33)), .c (.mp 0), zu35], [.map [(.int .i64 0, .bool true)]], (.c (.pv (.int .i64 20)), [.map [(.int .i64 0, .bool true)]])⟩
theorem zt122_ok : Holds (ev X E0) [zt122] := ⟨ev_tab (n := 400) (x := xf59) rfl (t := []) (by kernel_rfl) trivial, trivial⟩
def zt123 : Fact := ⟨19, [zu34, zu35], [], (.tup [zu5, .c (.pv (.int .i64 20))], [])⟩
theorem zt123_ok : Holds (ev X E0) [zt123] := ⟨ev_tab (n := 400) (x := xf19) rfl (t := [zt110, zt121, zt111, zt122]) (by kernel_rfl) ⟨zt110_ok.1, zt121_ok.1, zt111_ok.1, zt122_ok.1, trivial⟩, trivial⟩
def zt124 : Fact := ⟨76, [zu40], [], (.c (.pv (.bool true)), [])⟩
theorem zt124_ok : Holds (ev X E0) [zt124] := ⟨ev_tab (n := 400) (x := xf76) rfl (t := [zt4]) (by kernel_rfl) ⟨zt4_ok.1, trivial⟩, trivial⟩
def zt125 : Fact := ⟨77, [.c (.pv (.int .i32 10))], [], (.c (.pv (.bool true)), [])⟩
theorem zt125_ok : Holds (ev X E0) [zt125] := ⟨ev_tab (n := 400) (x := xf77) rfl (t := []) (by kernel_rfl) trivial, trivial⟩
def zt126 : Fact := ⟨78, [zu41], [], (.c (.pv (.bool false)), [])⟩
theorem zt126_ok : Holds (ev X E0) [zt126] := ⟨ev_tab (n := 400) (x := xf78) rfl (t := []) (by kernel_rfl) trivial, trivial⟩
def zt127 : Fact := ⟨78, [zu42], [], (.c (.pv (.bool false)), [])⟩
theorem zt127_ok : Holds (ev X E0) [zt127] := ⟨ev_tab (n := 400) (x := xf78) rfl (t := []) (by kernel_rfl) trivial, trivial⟩
def zt128 : Fact := ⟨127, [.c (.pv (zw39)), .c (.fn 78 [])], [], (.c (.pv (.int .i64 (-1))), [])⟩
theorem zt128_ok : Holds (ev X E0) [zt128] := ⟨ev_tab (n := 400) (x := xf127) rfl (t := [zt126, zt127]) (by kernel_rfl) ⟨zt126_ok.1, zt127_ok.1, trivial⟩, trivial⟩
def zt129 : Fact := ⟨75, [.c (.pv (zw39)), .c (.fn 78 [])], [], (.c (.pv (.bool false)), [])⟩
theorem zt129_ok : Holds (ev X E0) [zt129] := ⟨ev_tab (n := 400) (x := xf75) rfl (t := [zt128]) (by kernel_rfl) ⟨zt128_ok.1, trivial⟩, trivial⟩
def zt130 : Fact := ⟨74, [.c (.fn 78 []), .c (.ptr 0 0)], [zb43], (.c (.pv (.bool false)), [zb43])⟩
theorem zt130_ok : Holds (ev X E0) [zt130] := ⟨ev_tab (n := 400) (x := xf74) rfl (t := [zt129]) (by kernel_rfl) ⟨zt129_ok.1, trivial⟩, trivial⟩
def zt131 : Fact := ⟨79, [zu41], [], (.c (.pv (.bool false)), [])⟩
theorem zt131_ok : Holds (ev X E0) [zt131] := ⟨ev_tab (n := 400) (x := xf79) rfl (t := [zt14]) (by kernel_rfl) ⟨zt14_ok.1, trivial⟩, trivial⟩
def zt132 : Fact := ⟨79, [zu42], [], (.c (.pv (.bool false)), [])⟩
theorem zt132_ok : Holds (ev X E0) [zt132] := ⟨ev_tab (n := 400) (x := xf79) rfl (t := [zt14]) (by kernel_rfl) ⟨zt14_ok.1, trivial⟩, trivial⟩
def zt133 : Fact := ⟨127, [.c (.pv (zw39)), .c (.fn 79 [])], [], (.c (.pv (.int .i64 (-1))), [])⟩
theorem zt133_ok : Holds (ev X E0) [zt133] := ⟨ev_tab (n := 400) (x := xf127) rfl (t := [zt131, zt132]) (by kernel_rfl) ⟨zt131_ok.1, zt132_ok.1, trivial⟩, trivial⟩
def zt134 : Fact := ⟨75, [.c (.pv (zw39)), .c (.fn 79 [])], [], (.c (.pv (.bool false)), [])⟩
theorem zt134_ok : Holds (ev X E0) [zt134] := ⟨ev_tab (n := 400) (x := xf75) rfl (t := [zt133]) (by kernel_rfl) ⟨zt133_ok.1, trivial⟩, trivial⟩
def zt135 : Fact := ⟨74, [.c (.fn 79 []), .c (.ptr 0 0)], [zb43], (.c (.pv (.bool false)), [zb43])⟩
theorem zt135_ok : Holds (ev X E0) [zt135] := ⟨ev_tab (n := 400) (x := xf74) rfl (t := [zt134]) (by kernel_rfl) ⟨zt134_ok.1, trivial⟩, trivial⟩
def zt136 : Fact := ⟨81, [zu41], [], (.c (.pv (.bool false)), [])⟩
theorem zt136_ok : Holds (ev X E0) [zt136] := ⟨ev_tab (n := 400) (x := xf81) rfl (t := [zt22]) (by kernel_rfl) ⟨zt22_ok.1, trivial⟩, trivial⟩
def zt137 : Fact := ⟨81, [zu42], [], (.c (.pv (.bool false)), [])⟩
theorem zt137_ok : Holds (ev X E0) [zt137] := ⟨ev_tab (n := 400) (x := xf81) rfl (t := [zt20]) (by kernel_rfl) ⟨zt20_ok.1, trivial⟩, trivial⟩
def zt138 : Fact := ⟨127, [.c (.pv (zw39)), .c (.fn 81 [])], [], (.c (.pv (.int .i64 (-1))), [])⟩
theorem zt138_ok : Holds (ev X E0) [zt138] := ⟨ev_tab (n := 400) (x := xf127) rfl (t := [zt136, zt137]) (by kernel_rfl) ⟨zt136_ok.1, zt137_ok.1, trivial⟩, trivial⟩
def zt139 : Fact := ⟨75, [.c (.pv (zw39)), .c (.fn 81 [])], [], (.c (.pv (.bool false)), [])⟩
theorem zt139_ok : Holds (ev X E0) [zt139] := ⟨ev_tab (n := 400) (x := xf75) rfl (t := [zt138]) (by kernel_rfl) ⟨zt138_ok.1, trivial⟩, trivial⟩
def zt140 : Fact := ⟨74, [.c (.fn 81 []), .c (.ptr 0 0)], [zb43], (.c (.pv (.bool false)), [zb43])⟩
theorem zt140_ok : Holds (ev X E0) [zt140] := ⟨ev_tab (n := 400) (x := xf74) rfl (t := [zt139]) (by kernel_rfl) ⟨zt139_ok.1, trivial⟩, trivial⟩
def zt141 : Fact := ⟨83, [zu41], [], (.c (.pv (.bool false)), [])⟩
theorem zt141_ok : Holds (ev X E0) [zt141] := ⟨ev_tab (n := 400) (x := xf83) rfl (t := []) (by kernel_rfl) trivial, trivial⟩
def zt142 : Fact := ⟨83, [zu42], [], (.c (.pv (.bool false)), [])⟩
theorem zt142_ok : Holds (ev X E0) [zt142] := ⟨ev_tab (n := 400) (x := xf83) rfl (t := []) (by kernel_rfl) trivial, trivial⟩
def zt143 : Fact := ⟨127, [.c (.pv (zw39)), .c (.fn 83 [])], [], (.c (.pv (.int .i64 (-1))), [])⟩
theorem zt143_ok : Holds (ev X E0) [zt143] := ⟨ev_tab (n := 400) (x := xf127) rfl (t := [zt141, zt142]) (by kernel_rfl) ⟨zt141_ok.1, zt142_ok.1, trivial⟩, trivial⟩
def zt144 : Fact := ⟨75, [.c (.pv (zw39)), .c (.fn 83 [])], [], (.c (.pv (.bool false)), [])⟩
theorem zt144_ok : Holds (ev X E0) [zt144] := ⟨ev_tab (n := 400) (x := xf75) rfl (t := [zt143]) (by kernel_rfl) ⟨zt143_ok.1, trivial⟩, trivial⟩
def zt145 : Fact := ⟨74, [.c (.fn 83 []), .c (.ptr 0 0)], [zb43], (.c (.pv (.bool false)), [zb43])⟩
theorem zt145_ok : Holds (ev X E0) [zt145] := ⟨ev_tab (n := 400) (x := xf74) rfl (t := [zt144]) (by kernel_rfl) ⟨zt144_ok.1, trivial⟩, trivial⟩
def zt146 : Fact := ⟨84, [.c (.pv (zw39))], [], (.c (.pv (.bool true)), [])⟩
theorem zt146_ok : Holds (ev X E0) [zt146] := ⟨ev_tab (n := 400) (x := xf84) rfl (t := []) (by kernel_rfl) trivial, trivial⟩
def zt147 : Fact := ⟨37, [zu40], [], (.c (.pv (.int .i64 0)), [])⟩
theorem zt147_ok : Holds (ev X E0) [zt147] := ⟨ev_tab (n := 400) (x := xf37) rfl (t := [zt124, zt125, zt7, zt130, zt135, zt140, zt145, zt146]) (by kernel_rfl) ⟨zt124_ok.1, zt125_ok.1, zt7_ok.1, zt130_ok.1, zt135_ok.1, zt140_ok.1, zt145_ok.1, zt146_ok.1, trivial⟩, trivial⟩
def zt148 : Fact := ⟨38, [zu3, .c (.pv (.int .i64 3)), .c (.pv (.int .i32 10))], [], (.tup [zu40, .c (.pv (.int .i64 0))], [])⟩
theorem zt148_ok : Holds (ev X E0) [zt148] := ⟨ev_tab (n := 400) (x := xf38) rfl (t := [zt33, zt37, zt147]) (by kernel_rfl) ⟨zt33_ok.1, zt37_ok.1, zt147_ok.1, trivial⟩, trivial⟩
def zt149 : Fact := ⟨38, [zu12, .c (.pv (.int .i64 3)), .c (.pv (.int .i32 10))], [], (.tup [zu40, .c (.pv (.int .i64 0))], [])⟩
theorem zt149_ok : Holds (ev X E0) [zt149] := ⟨ev_tab (n := 400) (x := xf38) rfl (t := [zt55, zt88, zt147]) (by kernel_rfl) ⟨zt55_ok.1, zt88_ok.1, zt147_ok.1, trivial⟩, trivial⟩
def zt150 : Fact := ⟨96, [.c (.pv (zw39)), .c (.pv (zw39))], [], (.c (.pv (.bool true)), [])⟩
theorem zt150_ok : Holds (ev X E0) [zt150] := ⟨ev_tab (n := 400) (x := xf96) rfl (t := []) (by kernel_rfl) trivial, trivial⟩
def zt151 : Fact := ⟨43, [zu40, zu40], [], (.c (.pv (.bool true)), [])⟩
theorem zt151_ok : Holds (ev X E0) [zt151] := ⟨ev_tab (n := 400) (x := xf43) rfl (t := [zt150]) (by kernel_rfl) ⟨zt150_ok.1, trivial⟩, trivial⟩
def zt152 : Fact := ⟨59, [.c (.pv (zw33)), .c (.mp 0), zu40], [.map [(.int .i64 0, .bool true)]], (.c (.pv (.int .i64 0)), [.map [(.int .i64 0, .bool true)]])⟩
theorem zt152_ok : Holds (ev X E0) [zt152] := ⟨ev_tab (n := 400) (x := xf59) rfl (t := [zt149, zt151]) (by kernel_rfl) ⟨zt149_ok.1, zt151_ok.1, trivial⟩, trivial⟩
def zt153 : Fact := ⟨61, [zu29], [], (.c (.pv (.bool true)), [])⟩
theorem zt153_ok : Holds (ev X E0) [zt153] := ⟨ev_tab (n := 400) (x := xf61) rfl (t := []) (by kernel_rfl) trivial, trivial⟩
def zt154 : Fact := ⟨85, [.c (.pv (zw28))], [], (.c (.own 511 3 [zw15, zw16]), [])⟩
theorem zt154_ok : Holds (ev X E0) [zt154] := ⟨ev_tab (n := 400) (x := xf85) rfl (t := []) (by kernel_rfl) trivial, trivial⟩
def zt155 : Fact := ⟨63, [zu29], [], (zu29, [])⟩
theorem zt155_ok : Holds (ev X E0) [zt155] := ⟨ev_tab (n := 400) (x := xf63) rfl (t := [zt154]) (by kernel_rfl) ⟨zt154_ok.1, trivial⟩, trivial⟩
def zt156 : Fact := ⟨62, [.c (.pv (zw33)), .c (.fn 61 [])], [], (.c (.own 1407 7 [zw13, zw30]), [])⟩
theorem zt156_ok : Holds (ev X E0) [zt156] := ⟨ev_tab (n := 400) (x := xf62) rfl (t := [zt87, zt89, zt153, zt155]) (by kernel_rfl) ⟨zt87_ok.1, zt89_ok.1, zt153_ok.1, zt155_ok.1, trivial⟩, trivial⟩
def zt157 : Fact := ⟨85, [.c (.pv (zw39))], [], (.c (.own 511 3 [zw37, zw38]), [])⟩
theorem zt157_ok : Holds (ev X E0) [zt157] := ⟨ev_tab (n := 400) (x := xf85) rfl (t := []) (by kernel_rfl) trivial, trivial⟩
def zt158 : Fact := ⟨63, [zu40], [], (zu40, [])⟩
theorem zt158_ok : Holds (ev X E0) [zt158] := ⟨ev_tab (n := 400) (x := xf63) rfl (t := [zt157]) (by kernel_rfl) ⟨zt157_ok.1, trivial⟩, trivial⟩
def zt159 : Fact := ⟨19, [zu34, zu40], [], (.tup [zu45, .c (.pv (.int .i64 0))], [])⟩
theorem zt159_ok : Holds (ev X E0) [zt159] := ⟨ev_tab (n := 400) (x := xf19) rfl (t := [zt110, zt147, zt111, zt152, zt156, zt158]) (by kernel_rfl) ⟨zt110_ok.1, zt147_ok.1, zt111_ok.1, zt152_ok.1, zt156_ok.1, zt158_ok.1, trivial⟩, trivial⟩
def zt160 : Fact := ⟨25, [zu47], [], (.c (.pv (.bool true)), [])⟩
theorem zt160_ok : Holds (ev X E0) [zt160] := ⟨ev_tab (n := 400) (x := xf25) rfl (t := [zt55, zt56, zt108, zt109, zt147, zt152]) (by kernel_rfl) ⟨zt55_ok.1, zt56_ok.1, zt108_ok.1, zt109_ok.1, zt147_ok.1, zt152_ok.1, trivial⟩, trivial⟩
def zt161 : Fact := ⟨76, [zu48], [], (.c (.pv (.bool true)), [])⟩
theorem zt161_ok : Holds (ev X E0) [zt161] := ⟨ev_tab (n := 400) (x := xf76) rfl (t := [zt4]) (by kernel_rfl) ⟨zt4_ok.1, trivial⟩, trivial⟩
def zt162 : Fact := ⟨74, [.c (.fn 78 []), .c (.ptr 0 0)], [zb49], (.c (.pv (.bool false)), [zb49])⟩
theorem zt162_ok : Holds (ev X E0) [zt162] := ⟨ev_tab (n := 400) (x := xf74) rfl (t := [zt129]) (by kernel_rfl) ⟨zt129_ok.1, trivial⟩, trivial⟩
def zt163 : Fact := ⟨74, [.c (.fn 79 []), .c (.ptr 0 0)], [zb49], (.c (.pv (.bool false)), [zb49])⟩
theorem zt163_ok : Holds (ev X E0) [zt163] := ⟨ev_tab (n := 400) (x := xf74) rfl (t := [zt134]) (by kernel_rfl) ⟨zt134_ok.1, trivial⟩, trivial⟩
def zt164 : Fact := ⟨74, [.c (.fn 81 []), .c (.ptr 0 0)], [zb49], (.c (.pv (.bool false)), [zb49])⟩
theorem zt164_ok : Holds (ev X E0) [zt164] := ⟨ev_tab (n := 400) (x := xf74) rfl (t := [zt139]) (by kernel_rfl) ⟨zt139_ok.1, trivial⟩, trivial⟩
def zt165 : Fact := ⟨74, [.c (.fn 83 []), .c (.ptr 0 0)], [zb49], (.c (.pv (.bool false)), [zb49])⟩
theorem zt165_ok : Holds (ev X E0) [zt165] := ⟨ev_tab (n := 400) (x := xf74) rfl (t := [zt144]) (by kernel_rfl) ⟨zt144_ok.1, trivial⟩, trivial⟩
def zt166 : Fact := ⟨37, [zu48], [], (.c (.pv (.int .i64 0)), [])⟩
theorem zt166_ok : Holds (ev X E0) [zt166] := ⟨ev_tab (n := 400) (x := xf37) rfl (t := [zt161, zt125, zt7, zt162, zt163, zt164, zt165, zt146]) (by kernel_rfl) ⟨zt161_ok.1, zt125_ok.1, zt7_ok.1, zt162_ok.1, zt163_ok.1, zt164_ok.1, zt165_ok.1, zt146_ok.1, trivial⟩, trivial⟩
def zt167 : Fact := ⟨60, [.c (.pv (zw46))], [], (.c (.mp 0), [.map [(.int .i64 0, .bool true), (.int .i64 1, .bool true)]])⟩
theorem zt167_ok : Holds (ev X E0) [zt167] := ⟨ev_tab (n := 400) (x := xf60) rfl (t := []) (by kernel_rfl) trivial, trivial⟩
def zt168 : Fact := ⟨38, [zu12, .c (.pv (.int .i64 4)), .c (.pv (.int .i32 10))], [], (.tup [zu48, .c (.pv (.int .i64 0))], [])⟩
theorem zt168_ok : Holds (ev X E0) [zt168] := ⟨ev_tab (n := 400) (x := xf38) rfl (t := [zt55, zt88, zt166]) (by kernel_rfl) ⟨zt55_ok.1, zt88_ok.1, zt166_ok.1, trivial⟩, trivial⟩
def zt169 : Fact := ⟨59, [.c (.pv (zw46)), .c (.mp 0), zu48], [.map [(.int .i64 0, .bool true), (.int .i64 1, .bool true)]], (.c (.pv (.int .i64 23)), [.map [(.int .i64 0, .bool true), (.int .i64 1, .bool true)]])⟩
theorem zt169_ok : Holds (ev X E0) [zt169] := ⟨ev_tab (n := 400) (x := xf59) rfl (t := [zt168]) (by kernel_rfl) ⟨zt168_ok.1, trivial⟩, trivial⟩
def zt170 : Fact := ⟨19, [zu47, zu48], [], (.tup [zu5, .c (.pv (.int .i64 23))], [])⟩
theorem zt170_ok : Holds (ev X E0) [zt170] := ⟨ev_tab (n := 400) (x := xf19) rfl (t := [zt160, zt166, zt167, zt169]) (by kernel_rfl) ⟨zt160_ok.1, zt166_ok.1, zt167_ok.1, zt169_ok.1, trivial⟩, trivial⟩
def zt171 : Fact := ⟨65, [zu12, .c (.ptr 0 0)], [zb50], (.c (.pv (.bool true)), [zb50])⟩
theorem zt171_ok : Holds (ev X E0) [zt171] := ⟨ev_tab (n := 400) (x := xf65) rfl (t := []) (by kernel_rfl) trivial, trivial⟩
def zt172 : Fact := ⟨65, [zu29, .c (.ptr 0 0)], [zb50], (.c (.pv (.bool false)), [zb50])⟩
theorem zt172_ok : Holds (ev X E0) [zt172] := ⟨ev_tab (n := 400) (x := xf65) rfl (t := []) (by kernel_rfl) trivial, trivial⟩
def zt173 : Fact := ⟨62, [.c (.pv (zw33)), .c (.fn 65 [0])], [zb50], (.c (.own 1407 7 [zw13]), [zb50])⟩
theorem zt173_ok : Holds (ev X E0) [zt173] := ⟨ev_tab (n := 400) (x := xf62) rfl (t := [zt171, zt89, zt172]) (by kernel_rfl) ⟨zt171_ok.1, zt89_ok.1, zt172_ok.1, trivial⟩, trivial⟩
def zt174 : Fact := ⟨64, [zu34, .c (.fn 65 [0])], [zb50], (.tup [.c (.own 768 7 [zw13]), .c (.pv (.int .i64 0))], [zb50])⟩
theorem zt174_ok : Holds (ev X E0) [zt174] := ⟨ev_tab (n := 400) (x := xf64) rfl (t := [zt110, zt173]) (by kernel_rfl) ⟨zt110_ok.1, zt173_ok.1, trivial⟩, trivial⟩
def zt175 : Fact := ⟨20, [zu34, .c (.pv (.int .i32 5))], [], (.tup [zu51, .c (.pv (.int .i64 0))], [])⟩
theorem zt175_ok : Holds (ev X E0) [zt175] := ⟨ev_tab (n := 400) (x := xf20) rfl (t := [zt174]) (by kernel_rfl) ⟨zt174_ok.1, trivial⟩, trivial⟩
def zt176 : Fact := ⟨66, [zu12, .c (.ptr 0 0), .c (.ptr 1 0)], [zb52, zb53], (.c (.pv (.bool true)), [zb52, zb53])⟩
theorem zt176_ok : Holds (ev X E0) [zt176] := ⟨ev_tab (n := 400) (x := xf66) rfl (t := []) (by kernel_rfl) trivial, trivial⟩
def zt177 : Fact := ⟨66, [zu29, .c (.ptr 0 0), .c (.ptr 1 0)], [zb52, zb53], (.c (.pv (.bool false)), [zb52, zb53])⟩
theorem zt177_ok : Holds (ev X E0) [zt177] := ⟨ev_tab (n := 400) (x := xf66) rfl (t := []) (by kernel_rfl) trivial, trivial⟩
def zt178 : Fact := ⟨62, [.c (.pv (zw33)), .c (.fn 66 [0, 1])], [zb52, zb53], (.c (.own 1407 7 [zw13]), [zb52, zb53])⟩
theorem zt178_ok : Holds (ev X E0) [zt178] := ⟨ev_tab (n := 400) (x := xf62) rfl (t := [zt176, zt89, zt177]) (by kernel_rfl) ⟨zt176_ok.1, zt89_ok.1, zt177_ok.1, trivial⟩, trivial⟩
def zt179 : Fact := ⟨64, [zu34, .c (.fn 66 [0, 1])], [zb52, zb53], (.tup [.c (.own 768 7 [zw13]), .c (.pv (.int .i64 0))], [zb52, zb53])⟩
theorem zt179_ok : Holds (ev X E0) [zt179] := ⟨ev_tab (n := 400) (x := xf64) rfl (t := [zt110, zt178]) (by kernel_rfl) ⟨zt110_ok.1, zt178_ok.1, trivial⟩, trivial⟩
def zt180 : Fact := ⟨21, [zu34, .c (.pv (.int .i32 9)), .c (.pv (.int .i32 3))], [], (.tup [.c (.own 640 7 [zw13]), .c (.pv (.int .i64 0))], [])⟩
theorem zt180_ok : Holds (ev X E0) [zt180] := ⟨ev_tab (n := 400) (x := xf21) rfl (t := [zt179]) (by kernel_rfl) ⟨zt179_ok.1, trivial⟩, trivial⟩
def zt181 : Fact := ⟨71, [zu12, .c (.ptr 0 0)], [zb54, .map [(.int .i64 0, .bool true), (.int .i64 1, .bool true)]], (.c (.pv (.bool false)), [zb54, .map [(.int .i64 0, .bool true), (.int .i64 1, .bool true)]])⟩
theorem zt181_ok : Holds (ev X E0) [zt181] := ⟨ev_tab (n := 400) (x := xf71) rfl (t := []) (by kernel_rfl) trivial, trivial⟩
def zt182 : Fact := ⟨71, [zu29, .c (.ptr 0 0)], [zb54, .map [(.int .i64 0, .bool true), (.int .i64 1, .bool true)]], (.c (.pv (.bool true)), [zb54, .map [(.int .i64 0, .bool true), (.int .i64 1, .bool true)]])⟩
theorem zt182_ok : Holds (ev X E0) [zt182] := ⟨ev_tab (n := 400) (x := xf71) rfl (t := []) (by kernel_rfl) trivial, trivial⟩
def zt183 : Fact := ⟨71, [zu40, .c (.ptr 0 0)], [zb54, .map [(.int .i64 0, .bool true), (.int .i64 1, .bool true)]], (.c (.pv (.bool false)), [zb54, .map [(.int .i64 0, .bool true), (.int .i64 1, .bool true)]])⟩
theorem zt183_ok : Holds (ev X E0) [zt183] := ⟨ev_tab (n := 400) (x := xf71) rfl (t := []) (by kernel_rfl) trivial, trivial⟩
def zt184 : Fact := ⟨62, [.c (.pv (zw46)), .c (.fn 71 [0])], [zb54, .map [(.int .i64 0, .bool true), (.int .i64 1, .bool true)]], (.c (.own 1407 7 [zw30]), [zb54, .map [(.int .i64 0, .bool true), (.int .i64 1, .bool true)]])⟩
theorem zt184_ok : Holds (ev X E0) [zt184] := ⟨ev_tab (n := 400) (x := xf62) rfl (t := [zt181, zt182, zt155, zt183]) (by kernel_rfl) ⟨zt181_ok.1, zt182_ok.1, zt155_ok.1, zt183_ok.1, trivial⟩, trivial⟩
def zt185 : Fact := ⟨64, [zu47, .c (.fn 71 [0])], [zb54, .map [(.int .i64 0, .bool true), (.int .i64 1, .bool true)]], (.tup [.c (.own 768 7 [zw30]), .c (.pv (.int .i64 0))], [zb54, .map [(.int .i64 0, .bool true), (.int .i64 1, .bool true)]])⟩
theorem zt185_ok : Holds (ev X E0) [zt185] := ⟨ev_tab (n := 400) (x := xf64) rfl (t := [zt160, zt184]) (by kernel_rfl) ⟨zt160_ok.1, zt184_ok.1, trivial⟩, trivial⟩
def zt186 : Fact := ⟨24, [zu47], [], (.tup [.c (.own 1919 1 [.int .i64 2]), .c (.pv (.int .i64 0))], [])⟩
theorem zt186_ok : Holds (ev X E0) [zt186] := ⟨ev_tab (n := 400) (x := xf24) rfl (t := [zt167, zt185]) (by kernel_rfl) ⟨zt167_ok.1, zt185_ok.1, trivial⟩, trivial⟩
def zt187 : Fact := ⟨88, [zu6, .c (.ptr 0 0), .c (.ptr 1 0)], [zb55, zb56], (.c (.pv (.bool true)), [zb55, zb56])⟩
theorem zt187_ok : Holds (ev X E0) [zt187] := ⟨ev_tab (n := 400) (x := xf88) rfl (t := []) (by kernel_rfl) trivial, trivial⟩
def zt188 : Fact := ⟨88, [zu7, .c (.ptr 0 0), .c (.ptr 1 0)], [zb55, zb56], (.c (.pv (.bool false)), [zb55, zb56])⟩
theorem zt188_ok : Holds (ev X E0) [zt188] := ⟨ev_tab (n := 400) (x := xf88) rfl (t := []) (by kernel_rfl) trivial, trivial⟩
def zt189 : Fact := ⟨87, [zu12, .c (.fn 88 [0, 1])], [zb55, zb56], (.tup [.c (.pv (.int .i64 100)), .c (.pv (.int .i64 0))], [zb55, zb56])⟩
theorem zt189_ok : Holds (ev X E0) [zt189] := ⟨ev_tab (n := 400) (x := xf87) rfl (t := [zt55, zt187, zt188]) (by kernel_rfl) ⟨zt55_ok.1, zt187_ok.1, zt188_ok.1, trivial⟩, trivial⟩
def zt190 : Fact := ⟨40, [zu12, .c (.pv (.int .i64 2)), .c (.pv (.int .i64 0))], [], (.tup [.c (.pv (.int .i64 100)), .c (.pv (.int .i64 0))], [])⟩
theorem zt190_ok : Holds (ev X E0) [zt190] := ⟨ev_tab (n := 400) (x := xf40) rfl (t := [zt189]) (by kernel_rfl) ⟨zt189_ok.1, trivial⟩, trivial⟩
def zt191 : Fact := ⟨88, [zu23, .c (.ptr 0 0), .c (.ptr 1 0)], [zb55, zb56], (.c (.pv (.bool true)), [zb55, zb56])⟩
theorem zt191_ok : Holds (ev X E0) [zt191] := ⟨ev_tab (n := 400) (x := xf88) rfl (t := []) (by kernel_rfl) trivial, trivial⟩
def zt192 : Fact := ⟨88, [zu24, .c (.ptr 0 0), .c (.ptr 1 0)], [zb55, zb56], (.c (.pv (.bool false)), [zb55, zb56])⟩
theorem zt192_ok : Holds (ev X E0) [zt192] := ⟨ev_tab (n := 400) (x := xf88) rfl (t := []) (by kernel_rfl) trivial, trivial⟩
def zt193 : Fact := ⟨87, [zu29, .c (.fn 88 [0, 1])], [zb55, zb56], (.tup [.c (.pv (.int .i64 7)), .c (.pv (.int .i64 0))], [zb55, zb56])⟩
theorem zt193_ok : Holds (ev X E0) [zt193] := ⟨ev_tab (n := 400) (x := xf87) rfl (t := [zt108, zt191, zt192]) (by kernel_rfl) ⟨zt108_ok.1, zt191_ok.1, zt192_ok.1, trivial⟩, trivial⟩
def zt194 : Fact := ⟨40, [zu29, .c (.pv (.int .i64 2)), .c (.pv (.int .i64 0))], [], (.tup [.c (.pv (.int .i64 7)), .c (.pv (.int .i64 0))], [])⟩
theorem zt194_ok : Holds (ev X E0) [zt194] := ⟨ev_tab (n := 400) (x := xf40) rfl (t := [zt193]) (by kernel_rfl) ⟨zt193_ok.1, trivial⟩, trivial⟩
def zt195 : Fact := ⟨88, [zu41, .c (.ptr 0 0), .c (.ptr 1 0)], [zb55, zb56], (.c (.pv (.bool true)), [zb55, zb56])⟩
theorem zt195_ok : Holds (ev X E0) [zt195] := ⟨ev_tab (n := 400) (x := xf88) rfl (t := []) (by kernel_rfl) trivial, trivial⟩
def zt196 : Fact := ⟨88, [zu42, .c (.ptr 0 0), .c (.ptr 1 0)], [zb55, zb56], (.c (.pv (.bool false)), [zb55, zb56])⟩
theorem zt196_ok : Holds (ev X E0) [zt196] := ⟨ev_tab (n := 400) (x := xf88) rfl (t := []) (by kernel_rfl) trivial, trivial⟩
def zt197 : Fact := ⟨87, [zu40, .c (.fn 88 [0, 1])], [zb55, zb56], (.tup [.c (.pv (.int .i64 (-100))), .c (.pv (.int .i64 0))], [zb55, zb56])⟩
theorem zt197_ok : Holds (ev X E0) [zt197] := ⟨ev_tab (n := 400) (x := xf87) rfl (t := [zt147, zt195, zt196]) (by kernel_rfl) ⟨zt147_ok.1, zt195_ok.1, zt196_ok.1, trivial⟩, trivial⟩
def zt198 : Fact := ⟨40, [zu40, .c (.pv (.int .i64 2)), .c (.pv (.int .i64 0))], [], (.tup [.c (.pv (.int .i64 (-100))), .c (.pv (.int .i64 0))], [])⟩
theorem zt198_ok : Holds (ev X E0) [zt198] := ⟨ev_tab (n := 400) (x := xf40) rfl (t := [zt197]) (by kernel_rfl) ⟨zt197_ok.1, trivial⟩, trivial⟩
def zt199 : Fact := ⟨33, [.c (.pv (zw46)), .c (.pv (.int .i64 2)), .c (.pv (.int .i64 0)), .c (.pv (.int .i32 9))], [], (.tup [.c (.pv (.int .i64 7)), .c (.pv (.int .i64 0))], [])⟩
theorem zt199_ok : Holds (ev X E0) [zt199] := ⟨ev_tab (n := 400) (x := xf33) rfl (t := [zt55, zt108, zt147, zt190, zt194, zt198]) (by kernel_rfl) ⟨zt55_ok.1, zt108_ok.1, zt147_ok.1, zt190_ok.1, zt194_ok.1, zt198_ok.1, trivial⟩, trivial⟩
def zt200 : Fact := ⟨33, [.c (.pv (zw33)), .c (.pv (.int .i64 2)), .c (.pv (.int .i64 0)), .c (.pv (.int .i32 3))], [], (.tup [.c (.pv (.int .i64 100)), .c (.pv (.int .i64 0))], [])⟩
theorem zt200_ok : Holds (ev X E0) [zt200] := ⟨ev_tab (n := 400) (x := xf33) rfl (t := [zt55, zt108, zt190, zt194]) (by kernel_rfl) ⟨zt55_ok.1, zt108_ok.1, zt190_ok.1, zt194_ok.1, trivial⟩, trivial⟩
def zt201 : Fact := ⟨68, [zu12, .c (.ptr 0 0)], [zb57], (.c (.pv (.bool false)), [zb57])⟩
theorem zt201_ok : Holds (ev X E0) [zt201] := ⟨ev_tab (n := 400) (x := xf68) rfl (t := []) (by kernel_rfl) trivial, trivial⟩
def zt202 : Fact := ⟨68, [zu29, .c (.ptr 0 0)], [zb57], (.c (.pv (.bool true)), [zb57])⟩
theorem zt202_ok : Holds (ev X E0) [zt202] := ⟨ev_tab (n := 400) (x := xf68) rfl (t := []) (by kernel_rfl) trivial, trivial⟩
def zt203 : Fact := ⟨68, [zu40, .c (.ptr 0 0)], [zb57], (.c (.pv (.bool true)), [zb57])⟩
theorem zt203_ok : Holds (ev X E0) [zt203] := ⟨ev_tab (n := 400) (x := xf68) rfl (t := []) (by kernel_rfl) trivial, trivial⟩
def zt204 : Fact := ⟨62, [.c (.pv (zw46)), .c (.fn 68 [0])], [zb57], (.c (.own 1407 7 [zw30, zw44]), [zb57])⟩
theorem zt204_ok : Holds (ev X E0) [zt204] := ⟨ev_tab (n := 400) (x := xf62) rfl (t := [zt201, zt202, zt155, zt203, zt158]) (by kernel_rfl) ⟨zt201_ok.1, zt202_ok.1, zt155_ok.1, zt203_ok.1, zt158_ok.1, trivial⟩, trivial⟩
def zt205 : Fact := ⟨64, [zu47, .c (.fn 68 [0])], [zb57], (.tup [.c (.own 768 7 [zw30, zw44]), .c (.pv (.int .i64 0))], [zb57])⟩
theorem zt205_ok : Holds (ev X E0) [zt205] := ⟨ev_tab (n := 400) (x := xf64) rfl (t := [zt160, zt204]) (by kernel_rfl) ⟨zt160_ok.1, zt204_ok.1, trivial⟩, trivial⟩
def zt206 : Fact := ⟨70, [zu40, zu29], [], (.c (.pv (.int .i64 (-1))), [])⟩
theorem zt206_ok : Holds (ev X E0) [zt206] := ⟨ev_tab (n := 400) (x := xf70) rfl (t := []) (by kernel_rfl) trivial, trivial⟩
def zt207 : Fact := ⟨69, [.c (.pv (zw58)), .c (.fn 70 [])], [], (zu40, [])⟩
theorem zt207_ok : Holds (ev X E0) [zt207] := ⟨ev_tab (n := 400) (x := xf69) rfl (t := [zt206]) (by kernel_rfl) ⟨zt206_ok.1, trivial⟩, trivial⟩
def zt208 : Fact := ⟨23, [zu47, .c (.pv (.int .i64 1))], [], (.tup [.c (.pv (.int .i32 3)), .c (.pv (.bool true))], [])⟩
theorem zt208_ok : Holds (ev X E0) [zt208] := ⟨ev_tab (n := 400) (x := xf23) rfl (t := [zt205, zt207]) (by kernel_rfl) ⟨zt205_ok.1, zt207_ok.1, trivial⟩, trivial⟩
def zt209 : Fact := ⟨67, [zu12], [], (.c (.pv (.bool true)), [])⟩
theorem zt209_ok : Holds (ev X E0) [zt209] := ⟨ev_tab (n := 400) (x := xf67) rfl (t := []) (by kernel_rfl) trivial, trivial⟩
def zt210 : Fact := ⟨67, [zu29], [], (.c (.pv (.bool true)), [])⟩
theorem zt210_ok : Holds (ev X E0) [zt210] := ⟨ev_tab (n := 400) (x := xf67) rfl (t := []) (by kernel_rfl) trivial, trivial⟩
def zt211 : Fact := ⟨67, [zu40], [], (.c (.pv (.bool true)), [])⟩
theorem zt211_ok : Holds (ev X E0) [zt211] := ⟨ev_tab (n := 400) (x := xf67) rfl (t := []) (by kernel_rfl) trivial, trivial⟩
def zt212 : Fact := ⟨62, [.c (.pv (zw46)), .c (.fn 67 [])], [], (.c (.own 1407 7 [zw13, zw30, zw44]), [])⟩
theorem zt212_ok : Holds (ev X E0) [zt212] := ⟨ev_tab (n := 400) (x := xf62) rfl (t := [zt209, zt89, zt210, zt155, zt211, zt158]) (by kernel_rfl) ⟨zt209_ok.1, zt89_ok.1, zt210_ok.1, zt155_ok.1, zt211_ok.1, zt158_ok.1, trivial⟩, trivial⟩
def zt213 : Fact := ⟨64, [zu47, .c (.fn 67 [])], [], (.tup [.c (.own 768 7 [zw13, zw30, zw44]), .c (.pv (.int .i64 0))], [])⟩
theorem zt213_ok : Holds (ev X E0) [zt213] := ⟨ev_tab (n := 400) (x := xf64) rfl (t := [zt160, zt212]) (by kernel_rfl) ⟨zt160_ok.1, zt212_ok.1, trivial⟩, trivial⟩
def zt214 : Fact := ⟨22, [zu47], [], (.tup [.c (.own 320 7 [zw13, zw30, zw44]), .c (.pv (.int .i64 0))], [])⟩
theorem zt214_ok : Holds (ev X E0) [zt214] := ⟨ev_tab (n := 400) (x := xf22) rfl (t := [zt213]) (by kernel_rfl) ⟨zt213_ok.1, trivial⟩, trivial⟩
def zt215 : Fact := ⟨31, [.c (.pv (zw59)), .c (.pv (zw60))], [], (.c (.pv (.bool true)), [])⟩
theorem zt215_ok : Holds (ev X E0) [zt215] := ⟨ev_tab (n := 400) (x := xf31) rfl (t := []) (by kernel_rfl) trivial, trivial⟩
def zt216 : Fact := ⟨59, [.c (.pv (zw20)), .c (.mp 0), zu29], [.map []], (.c (.pv (.int .i64 25)), [.map []])⟩
theorem zt216_ok : Holds (ev X E0) [zt216] := ⟨ev_tab (n := 400) (x := xf59) rfl (t := []) (by kernel_rfl) trivial, trivial⟩
def zt217 : Fact := ⟨25, [zu61], [], (.c (.pv (.bool false)), [])⟩
theorem zt217_ok : Holds (ev X E0) [zt217] := ⟨ev_tab (n := 400) (x := xf25) rfl (t := [zt108, zt216]) (by kernel_rfl) ⟨zt108_ok.1, zt216_ok.1, trivial⟩, trivial⟩
def zt218 : Fact := ⟨17, [], [], (.c (.pv (.bool true)), [])⟩
theorem zt218_ok : Holds (ev X E0) [zt218] := ⟨ev_tab (n := 400) (x := xf17) rfl (t := [zt0, zt39, zt40, zt93, zt113, zt114, zt123, zt148, zt159, zt170, zt175, zt180, zt186, zt199, zt200, zt208, zt214, zt215, zt160, zt217]) (by kernel_rfl) ⟨zt0_ok.1, zt39_ok.1, zt40_ok.1, zt93_ok.1, zt113_ok.1, zt114_ok.1, zt123_ok.1, zt148_ok.1, zt159_ok.1, zt170_ok.1, zt175_ok.1, zt180_ok.1, zt186_ok.1, zt199_ok.1, zt200_ok.1, zt208_ok.1, zt214_ok.1, zt215_ok.1, zt160_ok.1, zt217_ok.1, trivial⟩, trivial⟩
theorem alive20 : ev X E0 17 [] [] = some (.c (.pv (.bool true)), []) := zt218_ok.1
end Go.Sx.Tryd.Calive20
