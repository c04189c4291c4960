/- Closed calls, each out of those that it makes. Printed by closed.py. -/
import Derived.Test.YtplknajjcllmkaaDoorSxTab
import Derived.Test.YtplknajjcllmkaaDoorXS
namespace Go.Sx.Tryd.Calive36
open Go Go.Sx Go.Sx.Tryd
abbrev zi : CV := .pv (.int .i64 0)
abbrev zd : CV := .pv (.int .i32 0)
abbrev zs : CV := .pv (.str [])
abbrev zf : CV := .pv (.bool false)
abbrev zt : CV := .pv (.bool true)
abbrev zj : PV := .int .i64 0
abbrev zk : PV := .int .i32 0
def zw0 : PV := .sl .nil 0 []
def zu1 : AV := .agg [.pv (.int .i64 5), zi, zs, zi, zi, zi, zi, zi, zi, zi, zd, zd, zi, .pv (.int .i64 5), zd, zi, zi, zf, .pv (zw0), zs, zs]
def zw2 : PV := .agg [zj, zj]
def zw3 : PV := .sl .full 2 [zw2]
def zw4 : PV := .sl .shut 1 [zj, .int .i64 5, zj, zj, zj, zj, zj, zj, zj]
def zb5 : Box := .cells [.pv (zw0)]
def zb6 : Box := .cells [.own 1983 1 [.int .u8 5]]
def zw7 : PV := .sl .full 1 [zj]
def zb8 : Box := .cells [.pv (.int .i64 5), zi, zs, zi, zi, zi, zi, zi, zi, zi, zd, zd, zi, .pv (.int .i64 5), zd, zi, zi, zf, .pv (zw0), zs, zs]
def zb9 : Box := .cells [.ptr 2 0]
def zb10 : Box := .cells [.own 0 1 [.int .u8 5]]
def zw11 : PV := .sl .full 1 [zj, zj, zj, zj, zj, zj, zj, zj]
def zb12 : Box := .cells [.own 1983 1 [.int .u8 5, .int .u8 10]]
def zb13 : Box := .cells [.own 768 1 [.int .u8 5, .int .u8 10]]
def zw14 : PV := .sl .full 1 [.int .i64 5]
def zb15 : Box := .cells [.own 1280 1 [.int .u8 5, .int .u8 10]]
def zb16 : Box := .cells [.own 0 1 [.int .u8 5, .int .u8 10]]
def zw17 : PV := .agg [.int .i64 1, .int .i64 1, .int .i64 (-2)]
def zw18 : PV := .sl .full 3 [zw17]
def zu19 : AV := .agg [.pv (.int .i64 4), zi, zs, zi, zi, zi, zi, zi, zi, zi, zd, zd, zi, zi, .pv (.int .i32 3), zi, zi, zf, .pv (zw18), .pv (.str [120]), zs]
def zw20 : PV := .agg [.int .i64 1, .int .i64 (-2)]
def zw21 : PV := .sl .shut 2 [zw2, zw20]
def zw22 : PV := .sl .shut 1 [zj, zj, zj, zj, .int .i64 1, zj, zj, zj, zj, zj]
def zb23 : Box := .cells [.own 1983 1 [.int .u8 4]]
def zb24 : Box := .cells [.pv (.int .i64 4), zi, zs, zi, zi, zi, zi, zi, zi, zi, zd, zd, zi, zi, .pv (.int .i32 3), zi, zi, zf, .pv (zw18), .pv (.str [120]), zs]
def zb25 : Box := .cells [.own 0 1 [.int .u8 4]]
def zb26 : Box := .cells [.own 1983 1 [.int .u8 4, .int .u8 6]]
def zb27 : Box := .cells [.own 768 1 [.int .u8 4, .int .u8 6]]
def zw28 : PV := .sl .full 1 [.int .i64 3]
def zb29 : Box := .cells [.own 1280 1 [.int .u8 4, .int .u8 6]]
def zb30 : Box := .cells [.own 0 1 [.int .u8 4, .int .u8 6]]
def zb31 : Box := .cells [.own 1983 1 [.int .u8 4, .int .u8 6, .int .u8 1]]
def zb32 : Box := .cells [.own 1151 1 [.int .u8 4, .int .u8 6, .int .u8 1, .int .u8 120]]
def zb33 : Box := .cells [.own 0 1 [.int .u8 4, .int .u8 6, .int .u8 1, .int .u8 120]]
def zb34 : Box := .cells [.own 1983 1 [.int .u8 4, .int .u8 6, .int .u8 1, .int .u8 120, .int .u8 1]]
def zb35 : Box := .cells [.own 0 1 [.int .u8 4, .int .u8 6, .int .u8 1, .int .u8 120, .int .u8 1]]
def zb36 : Box := .cells [.own 1983 1 [.int .u8 4, .int .u8 6, .int .u8 1, .int .u8 120, .int .u8 1, .int .u8 2]]
def zb37 : Box := .cells [.own 768 1 [.int .u8 4, .int .u8 6, .int .u8 1, .int .u8 120, .int .u8 1, .int .u8 2]]
def zb38 : Box := .cells [.own 0 1 [.int .u8 4, .int .u8 6, .int .u8 1, .int .u8 120, .int .u8 1, .int .u8 2]]
def zb39 : Box := .cells [.own 1983 1 [.int .u8 4, .int .u8 6, .int .u8 1, .int .u8 120, .int .u8 1, .int .u8 2, .int .u8 2]]
def zb40 : Box := .cells [.own 768 1 [.int .u8 4, .int .u8 6, .int .u8 1, .int .u8 120, .int .u8 1, .int .u8 2, .int .u8 2]]
def zb41 : Box := .cells [.own 0 1 [.int .u8 4, .int .u8 6, .int .u8 1, .int .u8 120, .int .u8 1, .int .u8 2, .int .u8 2]]
def zb42 : Box := .cells [.own 1983 1 [.int .u8 4, .int .u8 6, .int .u8 1, .int .u8 120, .int .u8 1, .int .u8 2, .int .u8 2, .int .u8 3]]
def zb43 : Box := .cells [.own 768 1 [.int .u8 4, .int .u8 6, .int .u8 1, .int .u8 120, .int .u8 1, .int .u8 2, .int .u8 2, .int .u8 3]]
def zu44 : AV := .agg [.pv (.int .i64 1), .pv (.int .i64 (-2))]
def zb45 : Box := .cells [.own 704 1 [.int .u8 4, .int .u8 6, .int .u8 1, .int .u8 120, .int .u8 1, .int .u8 2, .int .u8 2, .int .u8 3]]
def zb46 : Box := .cells [.own 0 1 [.int .u8 4, .int .u8 6, .int .u8 1, .int .u8 120, .int .u8 1, .int .u8 2, .int .u8 2, .int .u8 3]]
def zb47 : Box := .cells [.pv (.str [4, 6, 1, 120, 1, 2, 2, 3]), zi]
def zb48 : Box := .cells [.pv (.str [6, 1, 120, 1, 2, 2, 3]), zi]
def zb49 : Box := .cells [.ptr 1 0, .pv (.int .i64 4), zi]
def zb50 : Box := .cells [.pv (.str [1, 120, 1, 2, 2, 3]), zi]
def zb51 : Box := .cells [.pv (.int .i64 32)]
def zb52 : Box := .cells [.pv (.str [1, 2, 2, 3]), zi]
def zb53 : Box := .cells [.pv (.int .i64 16)]
def zb54 : Box := .cells [.pv (.str [2, 2, 3]), zi]
def zb55 : Box := .cells [.pv (.str [2, 3]), zi]
def zb56 : Box := .cells [zs, zi]
def zw57 : PV := .sl .shut 3 [zw17]
def zu58 : AV := .agg [.pv (.int .i64 4), zi, zs, zi, zi, zi, zi, zi, zi, zi, zd, zd, zi, zi, .pv (.int .i32 3), zi, zi, zf, .pv (zw57), .pv (.str [120]), zs]
def zu59 : AV := .agg [.pv (.int .i64 4), zi, zs, zi, zi, zi, zi, zi, zi, zi, zd, zd, zi, zi, .pv (.int .i32 3), zi, zi, zf, .own 8767 3 [zw17], .pv (.str [120]), zs]
def zb60 : Box := .cells [.pv (.str [5]), zi]
def zb61 : Box := .cells [.ptr 1 0, .pv (.int .i64 5), zi]
def zb62 : Box := .cells [zs, .pv (.int .i64 2)]
def zu63 : AV := .agg [zi, zi, zs, zi, zi, zi, zi, zi, zi, zi, zd, zd, zi, zi, zd, zi, zi, zf, .pv (zw0), zs, zs]
def zb64 : Box := .cells [.pv (.str [11]), zi]
def zb65 : Box := .cells [.pv (.str [5, 10, 0]), zi]
def zb66 : Box := .cells [.pv (.str [10, 0]), zi]
def zb67 : Box := .cells [.pv (.str [0]), zi]
def zb68 : Box := .cells [.pv (.str [5, 128, 128, 128, 128, 16]), zi]
def zb69 : Box := .cells [.pv (.str [128, 128, 128, 128, 16]), zi]
def zu70 : AV := .agg [.pv (.int .i64 5), zi, zs, zi, zi, zi, zi, zi, zi, zi, zd, zd, zi, .pv (.int .i64 2147483648), zd, zi, zi, zf, .pv (zw0), zs, zs]
def zw71 : PV := .sl .shut 1 [zj, .int .i64 2147483648, zj, zj, zj, zj, zj, zj, zj]
def zb72 : Box := .cells [.own 1983 1 [.int .u8 2]]
def zb73 : Box := .cells [.own 0 1 [.int .u8 2]]
def zb74 : Box := .cells [.own 1983 1 [.int .u8 2, .int .u8 2]]
def zb75 : Box := .cells [.own 1151 1 [.int .u8 2, .int .u8 2, .int .u8 5, .int .u8 10]]
def zu76 : AV := .agg [.pv (.int .i64 10), zi, zs, zi, zi, zi, zi, zi, zi, zi, zd, zd, zi, zi, zd, zi, zi, zf, .pv (zw0), zs, zs]
def zw77 : PV := .sl .shut 1 [zj, zj, zj, zj, zj, zj, zj, zj, zj]
def zb78 : Box := .cells [.own 1983 1 [.int .u8 10]]
def zb79 : Box := .cells [.pv (.int .i64 10), zi, zs, zi, zi, zi, zi, zi, zi, zi, zd, zd, zi, zi, zd, zi, zi, zf, .pv (zw0), zs, zs]
def zb80 : Box := .cells [.own 0 1 [.int .u8 10]]
def zb81 : Box := .cells [.own 0 1 [.int .u8 2, .int .u8 2, .int .u8 5, .int .u8 10]]
def zb82 : Box := .cells [.own 1983 1 [.int .u8 2, .int .u8 2, .int .u8 5, .int .u8 10, .int .u8 1]]
def zb83 : Box := .cells [.own 1151 1 [.int .u8 2, .int .u8 2, .int .u8 5, .int .u8 10, .int .u8 1, .int .u8 10]]
def zb84 : Box := .cells [.own 0 1 [.int .u8 2, .int .u8 2, .int .u8 5, .int .u8 10, .int .u8 1, .int .u8 10]]
def zw85 : PV := .agg [.int .i64 5, zj, .str [], zj, zj, zj, zj, zj, zj, zj, zk, zk, zj, .int .i64 5, zk, zj, zj, .bool false, zw0, .str [], .str []]
def zw86 : PV := .agg [.int .i64 10, zj, .str [], zj, zj, zj, zj, zj, zj, zj, zk, zk, zj, zj, zk, zj, zj, .bool false, zw0, .str [], .str []]
def zw87 : PV := .sl .full 21 [zw85, zw86]
def zb88 : Box := .cells [.pv (.str [2, 2, 5, 10, 1, 10]), zi]
def zb89 : Box := .cells [.pv (.int .i64 200)]
def zb90 : Box := .cells [.pv (.str [2, 5, 10, 1, 10]), zi]
def zb91 : Box := .cells [.pv (.int .i64 2400)]
def zb92 : Box := .cells [.pv (.str [1, 10]), zi]
def zb93 : Box := .cells [.pv (.str [5, 10]), zi]
def zb94 : Box := .cells [.pv (.str [10]), zi]
def zb95 : Box := .cells [.ptr 1 0, .pv (.int .i64 10), zi]
def zu96 : AV := .agg [.pv (.int .i64 5), zi, zs, zi, zi, zi, zi, zi, zi, zi, zd, zd, .pv (.int .i64 1), zi, zd, zi, zi, zf, .pv (zw0), zs, zs]
def zu97 : AV := .agg [.pv (.int .i64 5), zi, zs, zi, zi, zi, zi, zi, zi, zi, zd, zd, zi, zi, zd, zi, zi, zf, .pv (zw0), zs, zs]
def zu98 : AV := .agg [.pv (.int .i64 11), zi, zs, zi, zi, zi, zi, zi, zi, zi, zd, zd, zi, zi, zd, zi, zi, zf, .pv (zw0), zs, zs]
def zt0 : Fact := ⟨74, [.c (.pv (.int .i64 5)), .c (.pv (.int .i64 1))], [], (.c (zf), [])⟩
theorem zt0_ok : Holds (ev X E0) [zt0] := ⟨ev_tab (n := 400) (x := xf74) rfl (t := []) (by kernel_rfl) trivial, trivial⟩
def zt1 : Fact := ⟨74, [.c (.pv (.int .i64 5)), .c (.pv (.int .i64 2))], [], (.c (zf), [])⟩
theorem zt1_ok : Holds (ev X E0) [zt1] := ⟨ev_tab (n := 400) (x := xf74) rfl (t := []) (by kernel_rfl) trivial, trivial⟩
def zt2 : Fact := ⟨74, [.c (.pv (.int .i64 5)), .c (.pv (.int .i64 4))], [], (.c (zf), [])⟩
theorem zt2_ok : Holds (ev X E0) [zt2] := ⟨ev_tab (n := 400) (x := xf74) rfl (t := []) (by kernel_rfl) trivial, trivial⟩
def zt3 : Fact := ⟨74, [.c (.pv (.int .i64 5)), .c (.pv (.int .i64 264))], [], (.c (zt), [])⟩
theorem zt3_ok : Holds (ev X E0) [zt3] := ⟨ev_tab (n := 400) (x := xf74) rfl (t := []) (by kernel_rfl) trivial, trivial⟩
def zt4 : Fact := ⟨74, [.c (.pv (.int .i64 5)), .c (.pv (.int .i64 528))], [], (.c (zf), [])⟩
theorem zt4_ok : Holds (ev X E0) [zt4] := ⟨ev_tab (n := 400) (x := xf74) rfl (t := []) (by kernel_rfl) trivial, trivial⟩
def zt5 : Fact := ⟨74, [.c (.pv (.int .i64 5)), .c (.pv (.int .i64 32))], [], (.c (zf), [])⟩
theorem zt5_ok : Holds (ev X E0) [zt5] := ⟨ev_tab (n := 400) (x := xf74) rfl (t := []) (by kernel_rfl) trivial, trivial⟩
def zt6 : Fact := ⟨74, [.c (.pv (.int .i64 5)), .c (.pv (.int .i64 64))], [], (.c (zf), [])⟩
theorem zt6_ok : Holds (ev X E0) [zt6] := ⟨ev_tab (n := 400) (x := xf74) rfl (t := []) (by kernel_rfl) trivial, trivial⟩
def zt7 : Fact := ⟨74, [.c (.pv (.int .i64 5)), .c (.pv (.int .i64 128))], [], (.c (zf), [])⟩
theorem zt7_ok : Holds (ev X E0) [zt7] := ⟨ev_tab (n := 400) (x := xf74) rfl (t := []) (by kernel_rfl) trivial, trivial⟩
def zt8 : Fact := ⟨74, [.c (.pv (.int .i64 5)), .c (.pv (.int .i64 1024))], [], (.c (zf), [])⟩
theorem zt8_ok : Holds (ev X E0) [zt8] := ⟨ev_tab (n := 400) (x := xf74) rfl (t := []) (by kernel_rfl) trivial, trivial⟩
def zt9 : Fact := ⟨74, [.c (.pv (.int .i64 5)), .c (.pv (.int .i64 2048))], [], (.c (zf), [])⟩
theorem zt9_ok : Holds (ev X E0) [zt9] := ⟨ev_tab (n := 400) (x := xf74) rfl (t := []) (by kernel_rfl) trivial, trivial⟩
def zt10 : Fact := ⟨78, [zu1], [], (zu1, [])⟩
theorem zt10_ok : Holds (ev X E0) [zt10] := ⟨ev_tab (n := 400) (x := xf78) rfl (t := [zt0, zt1, zt2, zt3, zt4, zt5, zt6, zt7, zt8, zt9]) (by kernel_rfl) ⟨zt0_ok.1, zt1_ok.1, zt2_ok.1, zt3_ok.1, zt4_ok.1, zt5_ok.1, zt6_ok.1, zt7_ok.1, zt8_ok.1, zt9_ok.1, trivial⟩, trivial⟩
def zt11 : Fact := ⟨79, [.c (.pv (zw3))], [], (.c (zi), [])⟩
theorem zt11_ok : Holds (ev X E0) [zt11] := ⟨ev_tab (n := 400) (x := xf79) rfl (t := []) (by kernel_rfl) trivial, trivial⟩
def zt12 : Fact := ⟨120, [.c (zi)], [], (.c (zf), [])⟩
theorem zt12_ok : Holds (ev X E0) [zt12] := ⟨ev_tab (n := 400) (x := xf120) rfl (t := []) (by kernel_rfl) trivial, trivial⟩
def zt13 : Fact := ⟨120, [.c (.pv (.int .i64 5))], [], (.c (zf), [])⟩
theorem zt13_ok : Holds (ev X E0) [zt13] := ⟨ev_tab (n := 400) (x := xf120) rfl (t := []) (by kernel_rfl) trivial, trivial⟩
def zt14 : Fact := ⟨143, [.c (.pv (zw4)), .c (.fn 120 [])], [], (.c (.pv (.int .i64 (-1))), [])⟩
theorem zt14_ok : Holds (ev X E0) [zt14] := ⟨ev_tab (n := 400) (x := xf143) rfl (t := [zt12, zt13]) (by kernel_rfl) ⟨zt12_ok.1, zt13_ok.1, trivial⟩, trivial⟩
def zt15 : Fact := ⟨119, [.c (.pv (zw4)), .c (.fn 120 [])], [], (.c (zf), [])⟩
theorem zt15_ok : Holds (ev X E0) [zt15] := ⟨ev_tab (n := 400) (x := xf119) rfl (t := [zt14]) (by kernel_rfl) ⟨zt14_ok.1, trivial⟩, trivial⟩
def zt16 : Fact := ⟨80, [.c (.pv (zw4))], [], (.c (zt), [])⟩
theorem zt16_ok : Holds (ev X E0) [zt16] := ⟨ev_tab (n := 400) (x := xf80) rfl (t := [zt15]) (by kernel_rfl) ⟨zt15_ok.1, trivial⟩, trivial⟩
def zt17 : Fact := ⟨86, [.c (.pv (zw0)), .c (.pv (zw0))], [], (.c (zt), [])⟩
theorem zt17_ok : Holds (ev X E0) [zt17] := ⟨ev_tab (n := 400) (x := xf86) rfl (t := []) (by kernel_rfl) trivial, trivial⟩
def zt18 : Fact := ⟨42, [zu1, zu1], [], (.c (zt), [])⟩
theorem zt18_ok : Holds (ev X E0) [zt18] := ⟨ev_tab (n := 400) (x := xf42) rfl (t := [zt17]) (by kernel_rfl) ⟨zt17_ok.1, trivial⟩, trivial⟩
def zt19 : Fact := ⟨40, [zu1], [], (.c (zi), [])⟩
theorem zt19_ok : Holds (ev X E0) [zt19] := ⟨ev_tab (n := 400) (x := xf40) rfl (t := [zt10, zt11, zt16, zt18]) (by kernel_rfl) ⟨zt10_ok.1, zt11_ok.1, zt16_ok.1, zt18_ok.1, trivial⟩, trivial⟩
def zt20 : Fact := ⟨48, [], [], (.c (.ptr 0 0), [zb5])⟩
theorem zt20_ok : Holds (ev X E0) [zt20] := ⟨ev_tab (n := 400) (x := xf48) rfl (t := []) (by kernel_rfl) trivial, trivial⟩
def zt21 : Fact := ⟨49, [.c (.ptr 0 0), .c (.pv (.int .u64 5))], [zb5], (.tup [], [zb6])⟩
theorem zt21_ok : Holds (ev X E0) [zt21] := ⟨ev_tab (n := 400) (x := xf49) rfl (t := []) (by kernel_rfl) trivial, trivial⟩
def zt22 : Fact := ⟨73, [.c (.pv (.int .i64 1)), .c (.pv (zw7)), .c (.ptr 0 0), .c (.ptr 1 0)], [zb8, zb9, zb10], (.tup [], [zb8, zb9, zb10])⟩
theorem zt22_ok : Holds (ev X E0) [zt22] := ⟨ev_tab (n := 400) (x := xf73) rfl (t := [zt0]) (by kernel_rfl) ⟨zt0_ok.1, trivial⟩, trivial⟩
def zt23 : Fact := ⟨73, [.c (.pv (.int .i64 2)), .c (.pv (zw11)), .c (.ptr 0 0), .c (.ptr 1 0)], [zb8, zb9, zb10], (.tup [], [zb8, zb9, zb10])⟩
theorem zt23_ok : Holds (ev X E0) [zt23] := ⟨ev_tab (n := 400) (x := xf73) rfl (t := [zt1]) (by kernel_rfl) ⟨zt1_ok.1, trivial⟩, trivial⟩
def zt24 : Fact := ⟨73, [.c (.pv (.int .i64 4)), .c (.pv (zw7)), .c (.ptr 0 0), .c (.ptr 1 0)], [zb8, zb9, zb10], (.tup [], [zb8, zb9, zb10])⟩
theorem zt24_ok : Holds (ev X E0) [zt24] := ⟨ev_tab (n := 400) (x := xf73) rfl (t := [zt2]) (by kernel_rfl) ⟨zt2_ok.1, trivial⟩, trivial⟩
def zt25 : Fact := ⟨74, [.c (.pv (.int .i64 5)), .c (.pv (.int .i64 8))], [], (.c (zt), [])⟩
theorem zt25_ok : Holds (ev X E0) [zt25] := ⟨ev_tab (n := 400) (x := xf74) rfl (t := []) (by kernel_rfl) trivial, trivial⟩
def zt26 : Fact := ⟨49, [.c (.ptr 0 0), .c (.pv (.int .u64 10))], [zb10], (.tup [], [zb12])⟩
theorem zt26_ok : Holds (ev X E0) [zt26] := ⟨ev_tab (n := 400) (x := xf49) rfl (t := []) (by kernel_rfl) trivial, trivial⟩
def zt27 : Fact := ⟨75, [.c (.ptr 0 0), .c (.pv (.int .i64 5))], [zb10], (.tup [], [zb13])⟩
theorem zt27_ok : Holds (ev X E0) [zt27] := ⟨ev_tab (n := 400) (x := xf75) rfl (t := [zt26]) (by kernel_rfl) ⟨zt26_ok.1, trivial⟩, trivial⟩
def zt28 : Fact := ⟨73, [.c (.pv (.int .i64 8)), .c (.pv (zw14)), .c (.ptr 0 0), .c (.ptr 1 0)], [zb8, zb9, zb10], (.tup [], [zb8, zb9, zb15])⟩
theorem zt28_ok : Holds (ev X E0) [zt28] := ⟨ev_tab (n := 400) (x := xf73) rfl (t := [zt25, zt27]) (by kernel_rfl) ⟨zt25_ok.1, zt27_ok.1, trivial⟩, trivial⟩
def zt29 : Fact := ⟨74, [.c (.pv (.int .i64 5)), .c (.pv (.int .i64 16))], [], (.c (zf), [])⟩
theorem zt29_ok : Holds (ev X E0) [zt29] := ⟨ev_tab (n := 400) (x := xf74) rfl (t := []) (by kernel_rfl) trivial, trivial⟩
def zt30 : Fact := ⟨73, [.c (.pv (.int .i64 16)), .c (.pv (zw7)), .c (.ptr 0 0), .c (.ptr 1 0)], [zb8, zb9, zb16], (.tup [], [zb8, zb9, zb16])⟩
theorem zt30_ok : Holds (ev X E0) [zt30] := ⟨ev_tab (n := 400) (x := xf73) rfl (t := [zt29]) (by kernel_rfl) ⟨zt29_ok.1, trivial⟩, trivial⟩
def zt31 : Fact := ⟨74, [.c (.pv (.int .i64 5)), .c (.pv (.int .i64 256))], [], (.c (zf), [])⟩
theorem zt31_ok : Holds (ev X E0) [zt31] := ⟨ev_tab (n := 400) (x := xf74) rfl (t := []) (by kernel_rfl) trivial, trivial⟩
def zt32 : Fact := ⟨73, [.c (.pv (.int .i64 256)), .c (.pv (zw14)), .c (.ptr 0 0), .c (.ptr 1 0)], [zb8, zb9, zb16], (.tup [], [zb8, zb9, zb16])⟩
theorem zt32_ok : Holds (ev X E0) [zt32] := ⟨ev_tab (n := 400) (x := xf73) rfl (t := [zt31]) (by kernel_rfl) ⟨zt31_ok.1, trivial⟩, trivial⟩
def zt33 : Fact := ⟨74, [.c (.pv (.int .i64 5)), .c (.pv (.int .i64 512))], [], (.c (zf), [])⟩
theorem zt33_ok : Holds (ev X E0) [zt33] := ⟨ev_tab (n := 400) (x := xf74) rfl (t := []) (by kernel_rfl) trivial, trivial⟩
def zt34 : Fact := ⟨73, [.c (.pv (.int .i64 512)), .c (.pv (zw7)), .c (.ptr 0 0), .c (.ptr 1 0)], [zb8, zb9, zb16], (.tup [], [zb8, zb9, zb16])⟩
theorem zt34_ok : Holds (ev X E0) [zt34] := ⟨ev_tab (n := 400) (x := xf73) rfl (t := [zt33]) (by kernel_rfl) ⟨zt33_ok.1, trivial⟩, trivial⟩
def zt35 : Fact := ⟨51, [.c (.ptr 0 0)], [zb16], (.c (.pv (.str [5, 10])), [zb16])⟩
theorem zt35_ok : Holds (ev X E0) [zt35] := ⟨ev_tab (n := 400) (x := xf51) rfl (t := []) (by kernel_rfl) trivial, trivial⟩
def zt36 : Fact := ⟨38, [zu1], [], (.tup [.c (.pv (.str [5, 10])), .c (zi)], [])⟩
theorem zt36_ok : Holds (ev X E0) [zt36] := ⟨ev_tab (n := 400) (x := xf38) rfl (t := [zt19, zt20, zt21, zt22, zt0, zt23, zt24, zt28, zt30, zt5, zt6, zt7, zt32, zt34, zt8, zt9, zt35]) (by kernel_rfl) ⟨zt19_ok.1, zt20_ok.1, zt21_ok.1, zt22_ok.1, zt0_ok.1, zt23_ok.1, zt24_ok.1, zt28_ok.1, zt30_ok.1, zt5_ok.1, zt6_ok.1, zt7_ok.1, zt32_ok.1, zt34_ok.1, zt8_ok.1, zt9_ok.1, zt35_ok.1, trivial⟩, trivial⟩
def zt37 : Fact := ⟨74, [.c (.pv (.int .i64 4)), .c (.pv (.int .i64 1))], [], (.c (zf), [])⟩
theorem zt37_ok : Holds (ev X E0) [zt37] := ⟨ev_tab (n := 400) (x := xf74) rfl (t := []) (by kernel_rfl) trivial, trivial⟩
def zt38 : Fact := ⟨74, [.c (.pv (.int .i64 4)), .c (.pv (.int .i64 2))], [], (.c (zf), [])⟩
theorem zt38_ok : Holds (ev X E0) [zt38] := ⟨ev_tab (n := 400) (x := xf74) rfl (t := []) (by kernel_rfl) trivial, trivial⟩
def zt39 : Fact := ⟨74, [.c (.pv (.int .i64 4)), .c (.pv (.int .i64 4))], [], (.c (zf), [])⟩
theorem zt39_ok : Holds (ev X E0) [zt39] := ⟨ev_tab (n := 400) (x := xf74) rfl (t := []) (by kernel_rfl) trivial, trivial⟩
def zt40 : Fact := ⟨74, [.c (.pv (.int .i64 4)), .c (.pv (.int .i64 264))], [], (.c (zf), [])⟩
theorem zt40_ok : Holds (ev X E0) [zt40] := ⟨ev_tab (n := 400) (x := xf74) rfl (t := []) (by kernel_rfl) trivial, trivial⟩
def zt41 : Fact := ⟨74, [.c (.pv (.int .i64 4)), .c (.pv (.int .i64 528))], [], (.c (zt), [])⟩
theorem zt41_ok : Holds (ev X E0) [zt41] := ⟨ev_tab (n := 400) (x := xf74) rfl (t := []) (by kernel_rfl) trivial, trivial⟩
def zt42 : Fact := ⟨74, [.c (.pv (.int .i64 4)), .c (.pv (.int .i64 32))], [], (.c (zt), [])⟩
theorem zt42_ok : Holds (ev X E0) [zt42] := ⟨ev_tab (n := 400) (x := xf74) rfl (t := []) (by kernel_rfl) trivial, trivial⟩
def zt43 : Fact := ⟨74, [.c (.pv (.int .i64 4)), .c (.pv (.int .i64 64))], [], (.c (zt), [])⟩
theorem zt43_ok : Holds (ev X E0) [zt43] := ⟨ev_tab (n := 400) (x := xf74) rfl (t := []) (by kernel_rfl) trivial, trivial⟩
def zt44 : Fact := ⟨74, [.c (.pv (.int .i64 4)), .c (.pv (.int .i64 128))], [], (.c (zf), [])⟩
theorem zt44_ok : Holds (ev X E0) [zt44] := ⟨ev_tab (n := 400) (x := xf74) rfl (t := []) (by kernel_rfl) trivial, trivial⟩
def zt45 : Fact := ⟨74, [.c (.pv (.int .i64 4)), .c (.pv (.int .i64 1024))], [], (.c (zf), [])⟩
theorem zt45_ok : Holds (ev X E0) [zt45] := ⟨ev_tab (n := 400) (x := xf74) rfl (t := []) (by kernel_rfl) trivial, trivial⟩
def zt46 : Fact := ⟨74, [.c (.pv (.int .i64 4)), .c (.pv (.int .i64 2048))], [], (.c (zf), [])⟩
theorem zt46_ok : Holds (ev X E0) [zt46] := ⟨ev_tab (n := 400) (x := xf74) rfl (t := []) (by kernel_rfl) trivial, trivial⟩
def zt47 : Fact := ⟨78, [zu19], [], (zu19, [])⟩
theorem zt47_ok : Holds (ev X E0) [zt47] := ⟨ev_tab (n := 400) (x := xf78) rfl (t := [zt37, zt38, zt39, zt40, zt41, zt42, zt43, zt44, zt45, zt46]) (by kernel_rfl) ⟨zt37_ok.1, zt38_ok.1, zt39_ok.1, zt40_ok.1, zt41_ok.1, zt42_ok.1, zt43_ok.1, zt44_ok.1, zt45_ok.1, zt46_ok.1, trivial⟩, trivial⟩
def zt48 : Fact := ⟨79, [.c (.pv (zw21))], [], (.c (zi), [])⟩
theorem zt48_ok : Holds (ev X E0) [zt48] := ⟨ev_tab (n := 400) (x := xf79) rfl (t := []) (by kernel_rfl) trivial, trivial⟩
def zt49 : Fact := ⟨120, [.c (.pv (.int .i64 1))], [], (.c (zf), [])⟩
theorem zt49_ok : Holds (ev X E0) [zt49] := ⟨ev_tab (n := 400) (x := xf120) rfl (t := []) (by kernel_rfl) trivial, trivial⟩
def zt50 : Fact := ⟨143, [.c (.pv (zw22)), .c (.fn 120 [])], [], (.c (.pv (.int .i64 (-1))), [])⟩
theorem zt50_ok : Holds (ev X E0) [zt50] := ⟨ev_tab (n := 400) (x := xf143) rfl (t := [zt12, zt49]) (by kernel_rfl) ⟨zt12_ok.1, zt49_ok.1, trivial⟩, trivial⟩
def zt51 : Fact := ⟨119, [.c (.pv (zw22)), .c (.fn 120 [])], [], (.c (zf), [])⟩
theorem zt51_ok : Holds (ev X E0) [zt51] := ⟨ev_tab (n := 400) (x := xf119) rfl (t := [zt50]) (by kernel_rfl) ⟨zt50_ok.1, trivial⟩, trivial⟩
def zt52 : Fact := ⟨80, [.c (.pv (zw22))], [], (.c (zt), [])⟩
theorem zt52_ok : Holds (ev X E0) [zt52] := ⟨ev_tab (n := 400) (x := xf80) rfl (t := [zt51]) (by kernel_rfl) ⟨zt51_ok.1, trivial⟩, trivial⟩
def zt53 : Fact := ⟨86, [.c (.pv (zw18)), .c (.pv (zw18))], [], (.c (zt), [])⟩
theorem zt53_ok : Holds (ev X E0) [zt53] := ⟨ev_tab (n := 400) (x := xf86) rfl (t := []) (by kernel_rfl) trivial, trivial⟩
def zt54 : Fact := ⟨42, [zu19, zu19], [], (.c (zt), [])⟩
theorem zt54_ok : Holds (ev X E0) [zt54] := ⟨ev_tab (n := 400) (x := xf42) rfl (t := [zt53]) (by kernel_rfl) ⟨zt53_ok.1, trivial⟩, trivial⟩
def zt55 : Fact := ⟨40, [zu19], [], (.c (zi), [])⟩
theorem zt55_ok : Holds (ev X E0) [zt55] := ⟨ev_tab (n := 400) (x := xf40) rfl (t := [zt47, zt48, zt52, zt54]) (by kernel_rfl) ⟨zt47_ok.1, zt48_ok.1, zt52_ok.1, zt54_ok.1, trivial⟩, trivial⟩
def zt56 : Fact := ⟨49, [.c (.ptr 0 0), .c (.pv (.int .u64 4))], [zb5], (.tup [], [zb23])⟩
theorem zt56_ok : Holds (ev X E0) [zt56] := ⟨ev_tab (n := 400) (x := xf49) rfl (t := []) (by kernel_rfl) trivial, trivial⟩
def zt57 : Fact := ⟨73, [.c (.pv (.int .i64 1)), .c (.pv (zw7)), .c (.ptr 0 0), .c (.ptr 1 0)], [zb24, zb9, zb25], (.tup [], [zb24, zb9, zb25])⟩
theorem zt57_ok : Holds (ev X E0) [zt57] := ⟨ev_tab (n := 400) (x := xf73) rfl (t := [zt37]) (by kernel_rfl) ⟨zt37_ok.1, trivial⟩, trivial⟩
def zt58 : Fact := ⟨73, [.c (.pv (.int .i64 2)), .c (.pv (zw11)), .c (.ptr 0 0), .c (.ptr 1 0)], [zb24, zb9, zb25], (.tup [], [zb24, zb9, zb25])⟩
theorem zt58_ok : Holds (ev X E0) [zt58] := ⟨ev_tab (n := 400) (x := xf73) rfl (t := [zt38]) (by kernel_rfl) ⟨zt38_ok.1, trivial⟩, trivial⟩
def zt59 : Fact := ⟨73, [.c (.pv (.int .i64 4)), .c (.pv (zw7)), .c (.ptr 0 0), .c (.ptr 1 0)], [zb24, zb9, zb25], (.tup [], [zb24, zb9, zb25])⟩
theorem zt59_ok : Holds (ev X E0) [zt59] := ⟨ev_tab (n := 400) (x := xf73) rfl (t := [zt39]) (by kernel_rfl) ⟨zt39_ok.1, trivial⟩, trivial⟩
def zt60 : Fact := ⟨74, [.c (.pv (.int .i64 4)), .c (.pv (.int .i64 8))], [], (.c (zf), [])⟩
theorem zt60_ok : Holds (ev X E0) [zt60] := ⟨ev_tab (n := 400) (x := xf74) rfl (t := []) (by kernel_rfl) trivial, trivial⟩
def zt61 : Fact := ⟨73, [.c (.pv (.int .i64 8)), .c (.pv (zw7)), .c (.ptr 0 0), .c (.ptr 1 0)], [zb24, zb9, zb25], (.tup [], [zb24, zb9, zb25])⟩
theorem zt61_ok : Holds (ev X E0) [zt61] := ⟨ev_tab (n := 400) (x := xf73) rfl (t := [zt60]) (by kernel_rfl) ⟨zt60_ok.1, trivial⟩, trivial⟩
def zt62 : Fact := ⟨74, [.c (.pv (.int .i64 4)), .c (.pv (.int .i64 16))], [], (.c (zt), [])⟩
theorem zt62_ok : Holds (ev X E0) [zt62] := ⟨ev_tab (n := 400) (x := xf74) rfl (t := []) (by kernel_rfl) trivial, trivial⟩
def zt63 : Fact := ⟨49, [.c (.ptr 0 0), .c (.pv (.int .u64 6))], [zb25], (.tup [], [zb26])⟩
theorem zt63_ok : Holds (ev X E0) [zt63] := ⟨ev_tab (n := 400) (x := xf49) rfl (t := []) (by kernel_rfl) trivial, trivial⟩
def zt64 : Fact := ⟨75, [.c (.ptr 0 0), .c (.pv (.int .i64 3))], [zb25], (.tup [], [zb27])⟩
theorem zt64_ok : Holds (ev X E0) [zt64] := ⟨ev_tab (n := 400) (x := xf75) rfl (t := [zt63]) (by kernel_rfl) ⟨zt63_ok.1, trivial⟩, trivial⟩
def zt65 : Fact := ⟨73, [.c (.pv (.int .i64 16)), .c (.pv (zw28)), .c (.ptr 0 0), .c (.ptr 1 0)], [zb24, zb9, zb25], (.tup [], [zb24, zb9, zb29])⟩
theorem zt65_ok : Holds (ev X E0) [zt65] := ⟨ev_tab (n := 400) (x := xf73) rfl (t := [zt62, zt64]) (by kernel_rfl) ⟨zt62_ok.1, zt64_ok.1, trivial⟩, trivial⟩
def zt66 : Fact := ⟨49, [.c (.ptr 0 0), .c (.pv (.int .u64 1))], [zb30], (.tup [], [zb31])⟩
theorem zt66_ok : Holds (ev X E0) [zt66] := ⟨ev_tab (n := 400) (x := xf49) rfl (t := []) (by kernel_rfl) trivial, trivial⟩
def zt67 : Fact := ⟨50, [.c (.ptr 0 0), .c (.pv (.str [120]))], [zb30], (.tup [], [zb32])⟩
theorem zt67_ok : Holds (ev X E0) [zt67] := ⟨ev_tab (n := 400) (x := xf50) rfl (t := [zt66]) (by kernel_rfl) ⟨zt66_ok.1, trivial⟩, trivial⟩
def zt68 : Fact := ⟨49, [.c (.ptr 0 0), .c (.pv (.int .u64 1))], [zb33], (.tup [], [zb34])⟩
theorem zt68_ok : Holds (ev X E0) [zt68] := ⟨ev_tab (n := 400) (x := xf49) rfl (t := []) (by kernel_rfl) trivial, trivial⟩
def zt69 : Fact := ⟨49, [.c (.ptr 0 0), .c (.pv (.int .u64 2))], [zb35], (.tup [], [zb36])⟩
theorem zt69_ok : Holds (ev X E0) [zt69] := ⟨ev_tab (n := 400) (x := xf49) rfl (t := []) (by kernel_rfl) trivial, trivial⟩
def zt70 : Fact := ⟨75, [.c (.ptr 0 0), .c (.pv (.int .i64 1))], [zb35], (.tup [], [zb37])⟩
theorem zt70_ok : Holds (ev X E0) [zt70] := ⟨ev_tab (n := 400) (x := xf75) rfl (t := [zt69]) (by kernel_rfl) ⟨zt69_ok.1, trivial⟩, trivial⟩
def zt71 : Fact := ⟨49, [.c (.ptr 0 0), .c (.pv (.int .u64 2))], [zb38], (.tup [], [zb39])⟩
theorem zt71_ok : Holds (ev X E0) [zt71] := ⟨ev_tab (n := 400) (x := xf49) rfl (t := []) (by kernel_rfl) trivial, trivial⟩
def zt72 : Fact := ⟨75, [.c (.ptr 0 0), .c (.pv (.int .i64 1))], [zb38], (.tup [], [zb40])⟩
theorem zt72_ok : Holds (ev X E0) [zt72] := ⟨ev_tab (n := 400) (x := xf75) rfl (t := [zt71]) (by kernel_rfl) ⟨zt71_ok.1, trivial⟩, trivial⟩
def zt73 : Fact := ⟨49, [.c (.ptr 0 0), .c (.pv (.int .u64 3))], [zb41], (.tup [], [zb42])⟩
theorem zt73_ok : Holds (ev X E0) [zt73] := ⟨ev_tab (n := 400) (x := xf49) rfl (t := []) (by kernel_rfl) trivial, trivial⟩
def zt74 : Fact := ⟨75, [.c (.ptr 0 0), .c (.pv (.int .i64 (-2)))], [zb41], (.tup [], [zb43])⟩
theorem zt74_ok : Holds (ev X E0) [zt74] := ⟨ev_tab (n := 400) (x := xf75) rfl (t := [zt73]) (by kernel_rfl) ⟨zt73_ok.1, trivial⟩, trivial⟩
def zt75 : Fact := ⟨76, [.c (.ptr 0 0), zu44], [zb38], (.tup [], [zb45])⟩
theorem zt75_ok : Holds (ev X E0) [zt75] := ⟨ev_tab (n := 400) (x := xf76) rfl (t := [zt72, zt74]) (by kernel_rfl) ⟨zt72_ok.1, zt74_ok.1, trivial⟩, trivial⟩
def zt76 : Fact := ⟨74, [.c (.pv (.int .i64 4)), .c (.pv (.int .i64 256))], [], (.c (zf), [])⟩
theorem zt76_ok : Holds (ev X E0) [zt76] := ⟨ev_tab (n := 400) (x := xf74) rfl (t := []) (by kernel_rfl) trivial, trivial⟩
def zt77 : Fact := ⟨73, [.c (.pv (.int .i64 256)), .c (.pv (zw7)), .c (.ptr 0 0), .c (.ptr 1 0)], [zb24, zb9, zb46], (.tup [], [zb24, zb9, zb46])⟩
theorem zt77_ok : Holds (ev X E0) [zt77] := ⟨ev_tab (n := 400) (x := xf73) rfl (t := [zt76]) (by kernel_rfl) ⟨zt76_ok.1, trivial⟩, trivial⟩
def zt78 : Fact := ⟨74, [.c (.pv (.int .i64 4)), .c (.pv (.int .i64 512))], [], (.c (zf), [])⟩
theorem zt78_ok : Holds (ev X E0) [zt78] := ⟨ev_tab (n := 400) (x := xf74) rfl (t := []) (by kernel_rfl) trivial, trivial⟩
def zt79 : Fact := ⟨73, [.c (.pv (.int .i64 512)), .c (.pv (zw28)), .c (.ptr 0 0), .c (.ptr 1 0)], [zb24, zb9, zb46], (.tup [], [zb24, zb9, zb46])⟩
theorem zt79_ok : Holds (ev X E0) [zt79] := ⟨ev_tab (n := 400) (x := xf73) rfl (t := [zt78]) (by kernel_rfl) ⟨zt78_ok.1, trivial⟩, trivial⟩
def zt80 : Fact := ⟨51, [.c (.ptr 0 0)], [zb46], (.c (.pv (.str [4, 6, 1, 120, 1, 2, 2, 3])), [zb46])⟩
theorem zt80_ok : Holds (ev X E0) [zt80] := ⟨ev_tab (n := 400) (x := xf51) rfl (t := []) (by kernel_rfl) trivial, trivial⟩
def zt81 : Fact := ⟨38, [zu19], [], (.tup [.c (.pv (.str [4, 6, 1, 120, 1, 2, 2, 3])), .c (zi)], [])⟩
theorem zt81_ok : Holds (ev X E0) [zt81] := ⟨ev_tab (n := 400) (x := xf38) rfl (t := [zt55, zt20, zt56, zt57, zt37, zt58, zt59, zt61, zt65, zt42, zt67, zt43, zt68, zt70, zt75, zt44, zt77, zt79, zt45, zt46, zt80]) (by kernel_rfl) ⟨zt55_ok.1, zt20_ok.1, zt56_ok.1, zt57_ok.1, zt37_ok.1, zt58_ok.1, zt59_ok.1, zt61_ok.1, zt65_ok.1, zt42_ok.1, zt67_ok.1, zt43_ok.1, zt68_ok.1, zt70_ok.1, zt75_ok.1, zt44_ok.1, zt77_ok.1, zt79_ok.1, zt45_ok.1, zt46_ok.1, zt80_ok.1, trivial⟩, trivial⟩
def zt82 : Fact := ⟨87, [.c (.pv (.str [4, 6, 1, 120, 1, 2, 2, 3]))], [], (.c (.ptr 0 0), [zb47])⟩
theorem zt82_ok : Holds (ev X E0) [zt82] := ⟨ev_tab (n := 400) (x := xf87) rfl (t := []) (by kernel_rfl) trivial, trivial⟩
def zt83 : Fact := ⟨123, [.c (.pv (.str [4, 6, 1, 120, 1, 2, 2, 3]))], [], (.tup [.c (.pv (.int .u64 4)), .c (.pv (.int .i64 1)), .c (zi)], [])⟩
theorem zt83_ok : Holds (ev X E0) [zt83] := ⟨ev_tab (n := 400) (x := xf123) rfl (t := []) (by kernel_rfl) trivial, trivial⟩
def zt84 : Fact := ⟨122, [.c (.ptr 0 0), .c (.fn 123 [])], [zb47], (.c (.pv (.int .u64 4)), [zb48])⟩
theorem zt84_ok : Holds (ev X E0) [zt84] := ⟨ev_tab (n := 400) (x := xf122) rfl (t := [zt83]) (by kernel_rfl) ⟨zt83_ok.1, trivial⟩, trivial⟩
def zt85 : Fact := ⟨88, [.c (.ptr 0 0)], [zb47], (.c (.pv (.int .u64 4)), [zb48])⟩
theorem zt85_ok : Holds (ev X E0) [zt85] := ⟨ev_tab (n := 400) (x := xf88) rfl (t := [zt84]) (by kernel_rfl) ⟨zt84_ok.1, trivial⟩, trivial⟩
def zt86 : Fact := ⟨89, [.c (.ptr 0 0)], [zb48], (.c (zi), [zb48])⟩
theorem zt86_ok : Holds (ev X E0) [zt86] := ⟨ev_tab (n := 400) (x := xf89) rfl (t := []) (by kernel_rfl) trivial, trivial⟩
def zt87 : Fact := ⟨90, [.c (.ptr 0 0), .c (.pv (.int .i64 1))], [zb49, zb48], (.c (zi), [zb49, zb48])⟩
theorem zt87_ok : Holds (ev X E0) [zt87] := ⟨ev_tab (n := 400) (x := xf90) rfl (t := [zt37]) (by kernel_rfl) ⟨zt37_ok.1, trivial⟩, trivial⟩
def zt88 : Fact := ⟨91, [.c (.ptr 0 0), .c (.pv (.int .i64 1)), .c (.pv (.int .i64 32))], [zb49, zb48], (.c (zs), [zb49, zb48])⟩
theorem zt88_ok : Holds (ev X E0) [zt88] := ⟨ev_tab (n := 400) (x := xf91) rfl (t := [zt37]) (by kernel_rfl) ⟨zt37_ok.1, trivial⟩, trivial⟩
def zt89 : Fact := ⟨90, [.c (.ptr 0 0), .c (.pv (.int .i64 2))], [zb49, zb48], (.c (zi), [zb49, zb48])⟩
theorem zt89_ok : Holds (ev X E0) [zt89] := ⟨ev_tab (n := 400) (x := xf90) rfl (t := [zt38]) (by kernel_rfl) ⟨zt38_ok.1, trivial⟩, trivial⟩
def zt90 : Fact := ⟨143, [.c (.pv (zw7)), .c (.fn 120 [])], [], (.c (.pv (.int .i64 (-1))), [])⟩
theorem zt90_ok : Holds (ev X E0) [zt90] := ⟨ev_tab (n := 400) (x := xf143) rfl (t := [zt12]) (by kernel_rfl) ⟨zt12_ok.1, trivial⟩, trivial⟩
def zt91 : Fact := ⟨119, [.c (.pv (zw7)), .c (.fn 120 [])], [], (.c (zf), [])⟩
theorem zt91_ok : Holds (ev X E0) [zt91] := ⟨ev_tab (n := 400) (x := xf119) rfl (t := [zt90]) (by kernel_rfl) ⟨zt90_ok.1, trivial⟩, trivial⟩
def zt92 : Fact := ⟨80, [.c (.pv (zw7))], [], (.c (zt), [])⟩
theorem zt92_ok : Holds (ev X E0) [zt92] := ⟨ev_tab (n := 400) (x := xf80) rfl (t := [zt91]) (by kernel_rfl) ⟨zt91_ok.1, trivial⟩, trivial⟩
def zt93 : Fact := ⟨92, [.c (.ptr 0 0), .c (.pv (.int .i64 2))], [zb49, zb48], (.c (zd), [zb49, zb48])⟩
theorem zt93_ok : Holds (ev X E0) [zt93] := ⟨ev_tab (n := 400) (x := xf92) rfl (t := [zt89, zt92]) (by kernel_rfl) ⟨zt89_ok.1, zt92_ok.1, trivial⟩, trivial⟩
def zt94 : Fact := ⟨90, [.c (.ptr 0 0), .c (.pv (.int .i64 4))], [zb49, zb48], (.c (zi), [zb49, zb48])⟩
theorem zt94_ok : Holds (ev X E0) [zt94] := ⟨ev_tab (n := 400) (x := xf90) rfl (t := [zt39]) (by kernel_rfl) ⟨zt39_ok.1, trivial⟩, trivial⟩
def zt95 : Fact := ⟨90, [.c (.ptr 0 0), .c (.pv (.int .i64 8))], [zb49, zb48], (.c (zi), [zb49, zb48])⟩
theorem zt95_ok : Holds (ev X E0) [zt95] := ⟨ev_tab (n := 400) (x := xf90) rfl (t := [zt60]) (by kernel_rfl) ⟨zt60_ok.1, trivial⟩, trivial⟩
def zt96 : Fact := ⟨123, [.c (.pv (.str [6, 1, 120, 1, 2, 2, 3]))], [], (.tup [.c (.pv (.int .u64 6)), .c (.pv (.int .i64 1)), .c (zi)], [])⟩
theorem zt96_ok : Holds (ev X E0) [zt96] := ⟨ev_tab (n := 400) (x := xf123) rfl (t := []) (by kernel_rfl) trivial, trivial⟩
def zt97 : Fact := ⟨122, [.c (.ptr 0 0), .c (.fn 123 [])], [zb48], (.c (.pv (.int .u64 6)), [zb50])⟩
theorem zt97_ok : Holds (ev X E0) [zt97] := ⟨ev_tab (n := 400) (x := xf122) rfl (t := [zt96]) (by kernel_rfl) ⟨zt96_ok.1, trivial⟩, trivial⟩
def zt98 : Fact := ⟨129, [.c (.pv (.int .u64 6))], [], (.c (.pv (.int .i64 3)), [])⟩
theorem zt98_ok : Holds (ev X E0) [zt98] := ⟨ev_tab (n := 400) (x := xf129) rfl (t := []) (by kernel_rfl) trivial, trivial⟩
def zt99 : Fact := ⟨124, [.c (.ptr 0 0)], [zb48], (.c (.pv (.int .i64 3)), [zb50])⟩
theorem zt99_ok : Holds (ev X E0) [zt99] := ⟨ev_tab (n := 400) (x := xf124) rfl (t := [zt97, zt98]) (by kernel_rfl) ⟨zt97_ok.1, zt98_ok.1, trivial⟩, trivial⟩
def zt100 : Fact := ⟨90, [.c (.ptr 0 0), .c (.pv (.int .i64 16))], [zb49, zb48], (.c (.pv (.int .i64 3)), [zb49, zb50])⟩
theorem zt100_ok : Holds (ev X E0) [zt100] := ⟨ev_tab (n := 400) (x := xf90) rfl (t := [zt62, zt99]) (by kernel_rfl) ⟨zt62_ok.1, zt99_ok.1, trivial⟩, trivial⟩
def zt101 : Fact := ⟨120, [.c (.pv (.int .i64 3))], [], (.c (zf), [])⟩
theorem zt101_ok : Holds (ev X E0) [zt101] := ⟨ev_tab (n := 400) (x := xf120) rfl (t := []) (by kernel_rfl) trivial, trivial⟩
def zt102 : Fact := ⟨143, [.c (.pv (zw28)), .c (.fn 120 [])], [], (.c (.pv (.int .i64 (-1))), [])⟩
theorem zt102_ok : Holds (ev X E0) [zt102] := ⟨ev_tab (n := 400) (x := xf143) rfl (t := [zt101]) (by kernel_rfl) ⟨zt101_ok.1, trivial⟩, trivial⟩
def zt103 : Fact := ⟨119, [.c (.pv (zw28)), .c (.fn 120 [])], [], (.c (zf), [])⟩
theorem zt103_ok : Holds (ev X E0) [zt103] := ⟨ev_tab (n := 400) (x := xf119) rfl (t := [zt102]) (by kernel_rfl) ⟨zt102_ok.1, trivial⟩, trivial⟩
def zt104 : Fact := ⟨80, [.c (.pv (zw28))], [], (.c (zt), [])⟩
theorem zt104_ok : Holds (ev X E0) [zt104] := ⟨ev_tab (n := 400) (x := xf80) rfl (t := [zt103]) (by kernel_rfl) ⟨zt103_ok.1, trivial⟩, trivial⟩
def zt105 : Fact := ⟨92, [.c (.ptr 0 0), .c (.pv (.int .i64 16))], [zb49, zb48], (.c (.pv (.int .i32 3)), [zb49, zb50])⟩
theorem zt105_ok : Holds (ev X E0) [zt105] := ⟨ev_tab (n := 400) (x := xf92) rfl (t := [zt100, zt104]) (by kernel_rfl) ⟨zt100_ok.1, zt104_ok.1, trivial⟩, trivial⟩
def zt106 : Fact := ⟨123, [.c (.pv (.str [1, 120, 1, 2, 2, 3]))], [], (.tup [.c (.pv (.int .u64 1)), .c (.pv (.int .i64 1)), .c (zi)], [])⟩
theorem zt106_ok : Holds (ev X E0) [zt106] := ⟨ev_tab (n := 400) (x := xf123) rfl (t := []) (by kernel_rfl) trivial, trivial⟩
def zt107 : Fact := ⟨133, [.c (.pv (.str [1, 120, 1, 2, 2, 3])), .c (.ptr 0 0)], [zb51], (.tup [.c (.pv (.str [120])), .c (.pv (.int .i64 2)), .c (zi)], [zb51])⟩
theorem zt107_ok : Holds (ev X E0) [zt107] := ⟨ev_tab (n := 400) (x := xf133) rfl (t := [zt106]) (by kernel_rfl) ⟨zt106_ok.1, trivial⟩, trivial⟩
def zt108 : Fact := ⟨132, [.c (.ptr 0 0), .c (.fn 133 [1])], [zb50, zb51], (.c (.pv (.str [120])), [zb52, zb51])⟩
theorem zt108_ok : Holds (ev X E0) [zt108] := ⟨ev_tab (n := 400) (x := xf132) rfl (t := [zt107]) (by kernel_rfl) ⟨zt107_ok.1, trivial⟩, trivial⟩
def zt109 : Fact := ⟨97, [.c (.ptr 0 0), .c (.pv (.int .i64 32))], [zb50], (.c (.pv (.str [120])), [zb52])⟩
theorem zt109_ok : Holds (ev X E0) [zt109] := ⟨ev_tab (n := 400) (x := xf97) rfl (t := [zt108]) (by kernel_rfl) ⟨zt108_ok.1, trivial⟩, trivial⟩
def zt110 : Fact := ⟨91, [.c (.ptr 0 0), .c (.pv (.int .i64 32)), .c (.pv (.int .i64 32))], [zb49, zb50], (.c (.pv (.str [120])), [zb49, zb52])⟩
theorem zt110_ok : Holds (ev X E0) [zt110] := ⟨ev_tab (n := 400) (x := xf91) rfl (t := [zt42, zt109]) (by kernel_rfl) ⟨zt42_ok.1, zt109_ok.1, trivial⟩, trivial⟩
def zt111 : Fact := ⟨123, [.c (.pv (.str [1, 2, 2, 3]))], [], (.tup [.c (.pv (.int .u64 1)), .c (.pv (.int .i64 1)), .c (zi)], [])⟩
theorem zt111_ok : Holds (ev X E0) [zt111] := ⟨ev_tab (n := 400) (x := xf123) rfl (t := []) (by kernel_rfl) trivial, trivial⟩
def zt112 : Fact := ⟨126, [.c (.pv (.str [1, 2, 2, 3])), .c (.ptr 0 0)], [zb53], (.tup [.c (.pv (.int .i64 1)), .c (.pv (.int .i64 1)), .c (zi)], [zb53])⟩
theorem zt112_ok : Holds (ev X E0) [zt112] := ⟨ev_tab (n := 400) (x := xf126) rfl (t := [zt111]) (by kernel_rfl) ⟨zt111_ok.1, trivial⟩, trivial⟩
def zt113 : Fact := ⟨125, [.c (.ptr 0 0), .c (.fn 126 [1])], [zb52, zb53], (.c (.pv (.int .i64 1)), [zb54, zb53])⟩
theorem zt113_ok : Holds (ev X E0) [zt113] := ⟨ev_tab (n := 400) (x := xf125) rfl (t := [zt112]) (by kernel_rfl) ⟨zt112_ok.1, trivial⟩, trivial⟩
def zt114 : Fact := ⟨93, [.c (.ptr 0 0), .c (.pv (.int .i64 16))], [zb52], (.c (.pv (.int .i64 1)), [zb54])⟩
theorem zt114_ok : Holds (ev X E0) [zt114] := ⟨ev_tab (n := 400) (x := xf93) rfl (t := [zt113]) (by kernel_rfl) ⟨zt113_ok.1, trivial⟩, trivial⟩
def zt115 : Fact := ⟨123, [.c (.pv (.str [2, 2, 3]))], [], (.tup [.c (.pv (.int .u64 2)), .c (.pv (.int .i64 1)), .c (zi)], [])⟩
theorem zt115_ok : Holds (ev X E0) [zt115] := ⟨ev_tab (n := 400) (x := xf123) rfl (t := []) (by kernel_rfl) trivial, trivial⟩
def zt116 : Fact := ⟨122, [.c (.ptr 0 0), .c (.fn 123 [])], [zb54], (.c (.pv (.int .u64 2)), [zb55])⟩
theorem zt116_ok : Holds (ev X E0) [zt116] := ⟨ev_tab (n := 400) (x := xf122) rfl (t := [zt115]) (by kernel_rfl) ⟨zt115_ok.1, trivial⟩, trivial⟩
def zt117 : Fact := ⟨129, [.c (.pv (.int .u64 2))], [], (.c (.pv (.int .i64 1)), [])⟩
theorem zt117_ok : Holds (ev X E0) [zt117] := ⟨ev_tab (n := 400) (x := xf129) rfl (t := []) (by kernel_rfl) trivial, trivial⟩
def zt118 : Fact := ⟨124, [.c (.ptr 0 0)], [zb54], (.c (.pv (.int .i64 1)), [zb55])⟩
theorem zt118_ok : Holds (ev X E0) [zt118] := ⟨ev_tab (n := 400) (x := xf124) rfl (t := [zt116, zt117]) (by kernel_rfl) ⟨zt116_ok.1, zt117_ok.1, trivial⟩, trivial⟩
def zt119 : Fact := ⟨90, [.c (.ptr 0 0), .c (.pv (.int .i64 64))], [zb49, zb54], (.c (.pv (.int .i64 1)), [zb49, zb55])⟩
theorem zt119_ok : Holds (ev X E0) [zt119] := ⟨ev_tab (n := 400) (x := xf90) rfl (t := [zt43, zt118]) (by kernel_rfl) ⟨zt43_ok.1, zt118_ok.1, trivial⟩, trivial⟩
def zt120 : Fact := ⟨123, [.c (.pv (.str [2, 3]))], [], (.tup [.c (.pv (.int .u64 2)), .c (.pv (.int .i64 1)), .c (zi)], [])⟩
theorem zt120_ok : Holds (ev X E0) [zt120] := ⟨ev_tab (n := 400) (x := xf123) rfl (t := []) (by kernel_rfl) trivial, trivial⟩
def zt121 : Fact := ⟨123, [.c (.pv (.str [3]))], [], (.tup [.c (.pv (.int .u64 3)), .c (.pv (.int .i64 1)), .c (zi)], [])⟩
theorem zt121_ok : Holds (ev X E0) [zt121] := ⟨ev_tab (n := 400) (x := xf123) rfl (t := []) (by kernel_rfl) trivial, trivial⟩
def zt122 : Fact := ⟨129, [.c (.pv (.int .u64 3))], [], (.c (.pv (.int .i64 (-2))), [])⟩
theorem zt122_ok : Holds (ev X E0) [zt122] := ⟨ev_tab (n := 400) (x := xf129) rfl (t := []) (by kernel_rfl) trivial, trivial⟩
def zt123 : Fact := ⟨128, [.c (.pv (.str [2, 3]))], [], (.tup [zu44, .c (.pv (.int .i64 2)), .c (zi)], [])⟩
theorem zt123_ok : Holds (ev X E0) [zt123] := ⟨ev_tab (n := 400) (x := xf128) rfl (t := [zt120, zt121, zt117, zt122]) (by kernel_rfl) ⟨zt120_ok.1, zt121_ok.1, zt117_ok.1, zt122_ok.1, trivial⟩, trivial⟩
def zt124 : Fact := ⟨127, [.c (.ptr 0 0), .c (.fn 128 [])], [zb55], (zu44, [zb56])⟩
theorem zt124_ok : Holds (ev X E0) [zt124] := ⟨ev_tab (n := 400) (x := xf127) rfl (t := [zt123]) (by kernel_rfl) ⟨zt123_ok.1, trivial⟩, trivial⟩
def zt125 : Fact := ⟨94, [.c (.ptr 0 0)], [zb55], (zu44, [zb56])⟩
theorem zt125_ok : Holds (ev X E0) [zt125] := ⟨ev_tab (n := 400) (x := xf94) rfl (t := [zt124]) (by kernel_rfl) ⟨zt124_ok.1, trivial⟩, trivial⟩
def zt126 : Fact := ⟨90, [.c (.ptr 0 0), .c (.pv (.int .i64 256))], [zb49, zb56], (.c (zi), [zb49, zb56])⟩
theorem zt126_ok : Holds (ev X E0) [zt126] := ⟨ev_tab (n := 400) (x := xf90) rfl (t := [zt76]) (by kernel_rfl) ⟨zt76_ok.1, trivial⟩, trivial⟩
def zt127 : Fact := ⟨90, [.c (.ptr 0 0), .c (.pv (.int .i64 512))], [zb49, zb56], (.c (zi), [zb49, zb56])⟩
theorem zt127_ok : Holds (ev X E0) [zt127] := ⟨ev_tab (n := 400) (x := xf90) rfl (t := [zt78]) (by kernel_rfl) ⟨zt78_ok.1, trivial⟩, trivial⟩
def zt128 : Fact := ⟨92, [.c (.ptr 0 0), .c (.pv (.int .i64 512))], [zb49, zb56], (.c (zd), [zb49, zb56])⟩
theorem zt128_ok : Holds (ev X E0) [zt128] := ⟨ev_tab (n := 400) (x := xf92) rfl (t := [zt127, zt92]) (by kernel_rfl) ⟨zt127_ok.1, zt92_ok.1, trivial⟩, trivial⟩
def zt129 : Fact := ⟨91, [.c (.ptr 0 0), .c (.pv (.int .i64 2048)), .c (.pv (.int .i64 2000))], [zb49, zb56], (.c (zs), [zb49, zb56])⟩
theorem zt129_ok : Holds (ev X E0) [zt129] := ⟨ev_tab (n := 400) (x := xf91) rfl (t := [zt46]) (by kernel_rfl) ⟨zt46_ok.1, trivial⟩, trivial⟩
def zt130 : Fact := ⟨89, [.c (.ptr 0 0)], [zb56], (.c (zi), [zb56])⟩
theorem zt130_ok : Holds (ev X E0) [zt130] := ⟨ev_tab (n := 400) (x := xf89) rfl (t := []) (by kernel_rfl) trivial, trivial⟩
def zt131 : Fact := ⟨96, [.c (.ptr 0 0)], [zb56], (.c (zi), [zb56])⟩
theorem zt131_ok : Holds (ev X E0) [zt131] := ⟨ev_tab (n := 400) (x := xf96) rfl (t := [zt130]) (by kernel_rfl) ⟨zt130_ok.1, trivial⟩, trivial⟩
def zt132 : Fact := ⟨78, [zu58], [], (zu58, [])⟩
theorem zt132_ok : Holds (ev X E0) [zt132] := ⟨ev_tab (n := 400) (x := xf78) rfl (t := [zt37, zt38, zt39, zt40, zt41, zt42, zt43, zt44, zt45, zt46]) (by kernel_rfl) ⟨zt37_ok.1, zt38_ok.1, zt39_ok.1, zt40_ok.1, zt41_ok.1, zt42_ok.1, zt43_ok.1, zt44_ok.1, zt45_ok.1, zt46_ok.1, trivial⟩, trivial⟩
def zt133 : Fact := ⟨86, [.c (.pv (zw57)), .c (.pv (zw57))], [], (.c (zt), [])⟩
theorem zt133_ok : Holds (ev X E0) [zt133] := ⟨ev_tab (n := 400) (x := xf86) rfl (t := []) (by kernel_rfl) trivial, trivial⟩
def zt134 : Fact := ⟨42, [zu58, zu58], [], (.c (zt), [])⟩
theorem zt134_ok : Holds (ev X E0) [zt134] := ⟨ev_tab (n := 400) (x := xf42) rfl (t := [zt133]) (by kernel_rfl) ⟨zt133_ok.1, trivial⟩, trivial⟩
def zt135 : Fact := ⟨40, [zu58], [], (.c (zi), [])⟩
theorem zt135_ok : Holds (ev X E0) [zt135] := ⟨ev_tab (n := 400) (x := xf40) rfl (t := [zt132, zt48, zt52, zt134]) (by kernel_rfl) ⟨zt132_ok.1, zt48_ok.1, zt52_ok.1, zt134_ok.1, trivial⟩, trivial⟩
def zt136 : Fact := ⟨45, [.c (.pv (.str [4, 6, 1, 120, 1, 2, 2, 3]))], [], (.tup [zu59, .c (zi)], [])⟩
theorem zt136_ok : Holds (ev X E0) [zt136] := ⟨ev_tab (n := 400) (x := xf45) rfl (t := [zt82, zt85, zt86, zt87, zt88, zt89, zt93, zt94, zt95, zt105, zt110, zt43, zt114, zt119, zt125, zt44, zt126, zt128, zt45, zt129, zt131, zt135]) (by kernel_rfl) ⟨zt82_ok.1, zt85_ok.1, zt86_ok.1, zt87_ok.1, zt88_ok.1, zt89_ok.1, zt93_ok.1, zt94_ok.1, zt95_ok.1, zt105_ok.1, zt110_ok.1, zt43_ok.1, zt114_ok.1, zt119_ok.1, zt125_ok.1, zt44_ok.1, zt126_ok.1, zt128_ok.1, zt45_ok.1, zt129_ok.1, zt131_ok.1, zt135_ok.1, trivial⟩, trivial⟩
def zt137 : Fact := ⟨87, [.c (.pv (.str [5]))], [], (.c (.ptr 0 0), [zb60])⟩
theorem zt137_ok : Holds (ev X E0) [zt137] := ⟨ev_tab (n := 400) (x := xf87) rfl (t := []) (by kernel_rfl) trivial, trivial⟩
def zt138 : Fact := ⟨123, [.c (.pv (.str [5]))], [], (.tup [.c (.pv (.int .u64 5)), .c (.pv (.int .i64 1)), .c (zi)], [])⟩
theorem zt138_ok : Holds (ev X E0) [zt138] := ⟨ev_tab (n := 400) (x := xf123) rfl (t := []) (by kernel_rfl) trivial, trivial⟩
def zt139 : Fact := ⟨122, [.c (.ptr 0 0), .c (.fn 123 [])], [zb60], (.c (.pv (.int .u64 5)), [zb56])⟩
theorem zt139_ok : Holds (ev X E0) [zt139] := ⟨ev_tab (n := 400) (x := xf122) rfl (t := [zt138]) (by kernel_rfl) ⟨zt138_ok.1, trivial⟩, trivial⟩
def zt140 : Fact := ⟨88, [.c (.ptr 0 0)], [zb60], (.c (.pv (.int .u64 5)), [zb56])⟩
theorem zt140_ok : Holds (ev X E0) [zt140] := ⟨ev_tab (n := 400) (x := xf88) rfl (t := [zt139]) (by kernel_rfl) ⟨zt139_ok.1, trivial⟩, trivial⟩
def zt141 : Fact := ⟨90, [.c (.ptr 0 0), .c (.pv (.int .i64 1))], [zb61, zb56], (.c (zi), [zb61, zb56])⟩
theorem zt141_ok : Holds (ev X E0) [zt141] := ⟨ev_tab (n := 400) (x := xf90) rfl (t := [zt0]) (by kernel_rfl) ⟨zt0_ok.1, trivial⟩, trivial⟩
def zt142 : Fact := ⟨91, [.c (.ptr 0 0), .c (.pv (.int .i64 1)), .c (.pv (.int .i64 32))], [zb61, zb56], (.c (zs), [zb61, zb56])⟩
theorem zt142_ok : Holds (ev X E0) [zt142] := ⟨ev_tab (n := 400) (x := xf91) rfl (t := [zt0]) (by kernel_rfl) ⟨zt0_ok.1, trivial⟩, trivial⟩
def zt143 : Fact := ⟨90, [.c (.ptr 0 0), .c (.pv (.int .i64 2))], [zb61, zb56], (.c (zi), [zb61, zb56])⟩
theorem zt143_ok : Holds (ev X E0) [zt143] := ⟨ev_tab (n := 400) (x := xf90) rfl (t := [zt1]) (by kernel_rfl) ⟨zt1_ok.1, trivial⟩, trivial⟩
def zt144 : Fact := ⟨92, [.c (.ptr 0 0), .c (.pv (.int .i64 2))], [zb61, zb56], (.c (zd), [zb61, zb56])⟩
theorem zt144_ok : Holds (ev X E0) [zt144] := ⟨ev_tab (n := 400) (x := xf92) rfl (t := [zt143, zt92]) (by kernel_rfl) ⟨zt143_ok.1, zt92_ok.1, trivial⟩, trivial⟩
def zt145 : Fact := ⟨90, [.c (.ptr 0 0), .c (.pv (.int .i64 4))], [zb61, zb56], (.c (zi), [zb61, zb56])⟩
theorem zt145_ok : Holds (ev X E0) [zt145] := ⟨ev_tab (n := 400) (x := xf90) rfl (t := [zt2]) (by kernel_rfl) ⟨zt2_ok.1, trivial⟩, trivial⟩
def zt146 : Fact := ⟨123, [.c (zs)], [], (.tup [.c (.pv (.int .u64 0)), .c (zi), .c (.pv (.int .i64 2))], [])⟩
theorem zt146_ok : Holds (ev X E0) [zt146] := ⟨ev_tab (n := 400) (x := xf123) rfl (t := []) (by kernel_rfl) trivial, trivial⟩
def zt147 : Fact := ⟨122, [.c (.ptr 0 0), .c (.fn 123 [])], [zb56], (.c (.pv (.int .u64 0)), [zb62])⟩
theorem zt147_ok : Holds (ev X E0) [zt147] := ⟨ev_tab (n := 400) (x := xf122) rfl (t := [zt146]) (by kernel_rfl) ⟨zt146_ok.1, trivial⟩, trivial⟩
def zt148 : Fact := ⟨129, [.c (.pv (.int .u64 0))], [], (.c (zi), [])⟩
theorem zt148_ok : Holds (ev X E0) [zt148] := ⟨ev_tab (n := 400) (x := xf129) rfl (t := []) (by kernel_rfl) trivial, trivial⟩
def zt149 : Fact := ⟨124, [.c (.ptr 0 0)], [zb56], (.c (zi), [zb62])⟩
theorem zt149_ok : Holds (ev X E0) [zt149] := ⟨ev_tab (n := 400) (x := xf124) rfl (t := [zt147, zt148]) (by kernel_rfl) ⟨zt147_ok.1, zt148_ok.1, trivial⟩, trivial⟩
def zt150 : Fact := ⟨90, [.c (.ptr 0 0), .c (.pv (.int .i64 8))], [zb61, zb56], (.c (zi), [zb61, zb62])⟩
theorem zt150_ok : Holds (ev X E0) [zt150] := ⟨ev_tab (n := 400) (x := xf90) rfl (t := [zt25, zt149]) (by kernel_rfl) ⟨zt25_ok.1, zt149_ok.1, trivial⟩, trivial⟩
def zt151 : Fact := ⟨90, [.c (.ptr 0 0), .c (.pv (.int .i64 16))], [zb61, zb62], (.c (zi), [zb61, zb62])⟩
theorem zt151_ok : Holds (ev X E0) [zt151] := ⟨ev_tab (n := 400) (x := xf90) rfl (t := [zt29]) (by kernel_rfl) ⟨zt29_ok.1, trivial⟩, trivial⟩
def zt152 : Fact := ⟨92, [.c (.ptr 0 0), .c (.pv (.int .i64 16))], [zb61, zb62], (.c (zd), [zb61, zb62])⟩
theorem zt152_ok : Holds (ev X E0) [zt152] := ⟨ev_tab (n := 400) (x := xf92) rfl (t := [zt151, zt92]) (by kernel_rfl) ⟨zt151_ok.1, zt92_ok.1, trivial⟩, trivial⟩
def zt153 : Fact := ⟨91, [.c (.ptr 0 0), .c (.pv (.int .i64 32)), .c (.pv (.int .i64 32))], [zb61, zb62], (.c (zs), [zb61, zb62])⟩
theorem zt153_ok : Holds (ev X E0) [zt153] := ⟨ev_tab (n := 400) (x := xf91) rfl (t := [zt5]) (by kernel_rfl) ⟨zt5_ok.1, trivial⟩, trivial⟩
def zt154 : Fact := ⟨90, [.c (.ptr 0 0), .c (.pv (.int .i64 256))], [zb61, zb62], (.c (zi), [zb61, zb62])⟩
theorem zt154_ok : Holds (ev X E0) [zt154] := ⟨ev_tab (n := 400) (x := xf90) rfl (t := [zt31]) (by kernel_rfl) ⟨zt31_ok.1, trivial⟩, trivial⟩
def zt155 : Fact := ⟨90, [.c (.ptr 0 0), .c (.pv (.int .i64 512))], [zb61, zb62], (.c (zi), [zb61, zb62])⟩
theorem zt155_ok : Holds (ev X E0) [zt155] := ⟨ev_tab (n := 400) (x := xf90) rfl (t := [zt33]) (by kernel_rfl) ⟨zt33_ok.1, trivial⟩, trivial⟩
def zt156 : Fact := ⟨92, [.c (.ptr 0 0), .c (.pv (.int .i64 512))], [zb61, zb62], (.c (zd), [zb61, zb62])⟩
theorem zt156_ok : Holds (ev X E0) [zt156] := ⟨ev_tab (n := 400) (x := xf92) rfl (t := [zt155, zt92]) (by kernel_rfl) ⟨zt155_ok.1, zt92_ok.1, trivial⟩, trivial⟩
def zt157 : Fact := ⟨91, [.c (.ptr 0 0), .c (.pv (.int .i64 2048)), .c (.pv (.int .i64 2000))], [zb61, zb62], (.c (zs), [zb61, zb62])⟩
theorem zt157_ok : Holds (ev X E0) [zt157] := ⟨ev_tab (n := 400) (x := xf91) rfl (t := [zt9]) (by kernel_rfl) ⟨zt9_ok.1, trivial⟩, trivial⟩
def zt158 : Fact := ⟨89, [.c (.ptr 0 0)], [zb62], (.c (.pv (.int .i64 2)), [zb62])⟩
theorem zt158_ok : Holds (ev X E0) [zt158] := ⟨ev_tab (n := 400) (x := xf89) rfl (t := []) (by kernel_rfl) trivial, trivial⟩
def zt159 : Fact := ⟨96, [.c (.ptr 0 0)], [zb62], (.c (.pv (.int .i64 2)), [zb62])⟩
theorem zt159_ok : Holds (ev X E0) [zt159] := ⟨ev_tab (n := 400) (x := xf96) rfl (t := [zt158]) (by kernel_rfl) ⟨zt158_ok.1, trivial⟩, trivial⟩
def zt160 : Fact := ⟨45, [.c (.pv (.str [5]))], [], (.tup [zu63, .c (.pv (.int .i64 2))], [])⟩
theorem zt160_ok : Holds (ev X E0) [zt160] := ⟨ev_tab (n := 400) (x := xf45) rfl (t := [zt137, zt140, zt130, zt141, zt142, zt143, zt144, zt145, zt150, zt152, zt153, zt6, zt7, zt154, zt156, zt8, zt157, zt159]) (by kernel_rfl) ⟨zt137_ok.1, zt140_ok.1, zt130_ok.1, zt141_ok.1, zt142_ok.1, zt143_ok.1, zt144_ok.1, zt145_ok.1, zt150_ok.1, zt152_ok.1, zt153_ok.1, zt6_ok.1, zt7_ok.1, zt154_ok.1, zt156_ok.1, zt8_ok.1, zt157_ok.1, zt159_ok.1, trivial⟩, trivial⟩
def zt161 : Fact := ⟨87, [.c (.pv (.str [11]))], [], (.c (.ptr 0 0), [zb64])⟩
theorem zt161_ok : Holds (ev X E0) [zt161] := ⟨ev_tab (n := 400) (x := xf87) rfl (t := []) (by kernel_rfl) trivial, trivial⟩
def zt162 : Fact := ⟨123, [.c (.pv (.str [11]))], [], (.tup [.c (.pv (.int .u64 11)), .c (.pv (.int .i64 1)), .c (zi)], [])⟩
theorem zt162_ok : Holds (ev X E0) [zt162] := ⟨ev_tab (n := 400) (x := xf123) rfl (t := []) (by kernel_rfl) trivial, trivial⟩
def zt163 : Fact := ⟨122, [.c (.ptr 0 0), .c (.fn 123 [])], [zb64], (.c (.pv (.int .u64 11)), [zb56])⟩
theorem zt163_ok : Holds (ev X E0) [zt163] := ⟨ev_tab (n := 400) (x := xf122) rfl (t := [zt162]) (by kernel_rfl) ⟨zt162_ok.1, trivial⟩, trivial⟩
def zt164 : Fact := ⟨88, [.c (.ptr 0 0)], [zb64], (.c (.pv (.int .u64 11)), [zb56])⟩
theorem zt164_ok : Holds (ev X E0) [zt164] := ⟨ev_tab (n := 400) (x := xf88) rfl (t := [zt163]) (by kernel_rfl) ⟨zt163_ok.1, trivial⟩, trivial⟩
def zt165 : Fact := ⟨45, [.c (.pv (.str [11]))], [], (.tup [zu63, .c (.pv (.int .i64 3))], [])⟩
theorem zt165_ok : Holds (ev X E0) [zt165] := ⟨ev_tab (n := 400) (x := xf45) rfl (t := [zt161, zt164, zt130]) (by kernel_rfl) ⟨zt161_ok.1, zt164_ok.1, zt130_ok.1, trivial⟩, trivial⟩
def zt166 : Fact := ⟨87, [.c (.pv (.str [5, 10, 0]))], [], (.c (.ptr 0 0), [zb65])⟩
theorem zt166_ok : Holds (ev X E0) [zt166] := ⟨ev_tab (n := 400) (x := xf87) rfl (t := []) (by kernel_rfl) trivial, trivial⟩
def zt167 : Fact := ⟨123, [.c (.pv (.str [5, 10, 0]))], [], (.tup [.c (.pv (.int .u64 5)), .c (.pv (.int .i64 1)), .c (zi)], [])⟩
theorem zt167_ok : Holds (ev X E0) [zt167] := ⟨ev_tab (n := 400) (x := xf123) rfl (t := []) (by kernel_rfl) trivial, trivial⟩
def zt168 : Fact := ⟨122, [.c (.ptr 0 0), .c (.fn 123 [])], [zb65], (.c (.pv (.int .u64 5)), [zb66])⟩
theorem zt168_ok : Holds (ev X E0) [zt168] := ⟨ev_tab (n := 400) (x := xf122) rfl (t := [zt167]) (by kernel_rfl) ⟨zt167_ok.1, trivial⟩, trivial⟩
def zt169 : Fact := ⟨88, [.c (.ptr 0 0)], [zb65], (.c (.pv (.int .u64 5)), [zb66])⟩
theorem zt169_ok : Holds (ev X E0) [zt169] := ⟨ev_tab (n := 400) (x := xf88) rfl (t := [zt168]) (by kernel_rfl) ⟨zt168_ok.1, trivial⟩, trivial⟩
def zt170 : Fact := ⟨89, [.c (.ptr 0 0)], [zb66], (.c (zi), [zb66])⟩
theorem zt170_ok : Holds (ev X E0) [zt170] := ⟨ev_tab (n := 400) (x := xf89) rfl (t := []) (by kernel_rfl) trivial, trivial⟩
def zt171 : Fact := ⟨90, [.c (.ptr 0 0), .c (.pv (.int .i64 1))], [zb61, zb66], (.c (zi), [zb61, zb66])⟩
theorem zt171_ok : Holds (ev X E0) [zt171] := ⟨ev_tab (n := 400) (x := xf90) rfl (t := [zt0]) (by kernel_rfl) ⟨zt0_ok.1, trivial⟩, trivial⟩
def zt172 : Fact := ⟨91, [.c (.ptr 0 0), .c (.pv (.int .i64 1)), .c (.pv (.int .i64 32))], [zb61, zb66], (.c (zs), [zb61, zb66])⟩
theorem zt172_ok : Holds (ev X E0) [zt172] := ⟨ev_tab (n := 400) (x := xf91) rfl (t := [zt0]) (by kernel_rfl) ⟨zt0_ok.1, trivial⟩, trivial⟩
def zt173 : Fact := ⟨90, [.c (.ptr 0 0), .c (.pv (.int .i64 2))], [zb61, zb66], (.c (zi), [zb61, zb66])⟩
theorem zt173_ok : Holds (ev X E0) [zt173] := ⟨ev_tab (n := 400) (x := xf90) rfl (t := [zt1]) (by kernel_rfl) ⟨zt1_ok.1, trivial⟩, trivial⟩
def zt174 : Fact := ⟨92, [.c (.ptr 0 0), .c (.pv (.int .i64 2))], [zb61, zb66], (.c (zd), [zb61, zb66])⟩
theorem zt174_ok : Holds (ev X E0) [zt174] := ⟨ev_tab (n := 400) (x := xf92) rfl (t := [zt173, zt92]) (by kernel_rfl) ⟨zt173_ok.1, zt92_ok.1, trivial⟩, trivial⟩
def zt175 : Fact := ⟨90, [.c (.ptr 0 0), .c (.pv (.int .i64 4))], [zb61, zb66], (.c (zi), [zb61, zb66])⟩
theorem zt175_ok : Holds (ev X E0) [zt175] := ⟨ev_tab (n := 400) (x := xf90) rfl (t := [zt2]) (by kernel_rfl) ⟨zt2_ok.1, trivial⟩, trivial⟩
def zt176 : Fact := ⟨123, [.c (.pv (.str [10, 0]))], [], (.tup [.c (.pv (.int .u64 10)), .c (.pv (.int .i64 1)), .c (zi)], [])⟩
theorem zt176_ok : Holds (ev X E0) [zt176] := ⟨ev_tab (n := 400) (x := xf123) rfl (t := []) (by kernel_rfl) trivial, trivial⟩
def zt177 : Fact := ⟨122, [.c (.ptr 0 0), .c (.fn 123 [])], [zb66], (.c (.pv (.int .u64 10)), [zb67])⟩
theorem zt177_ok : Holds (ev X E0) [zt177] := ⟨ev_tab (n := 400) (x := xf122) rfl (t := [zt176]) (by kernel_rfl) ⟨zt176_ok.1, trivial⟩, trivial⟩
def zt178 : Fact := ⟨129, [.c (.pv (.int .u64 10))], [], (.c (.pv (.int .i64 5)), [])⟩
theorem zt178_ok : Holds (ev X E0) [zt178] := ⟨ev_tab (n := 400) (x := xf129) rfl (t := []) (by kernel_rfl) trivial, trivial⟩
def zt179 : Fact := ⟨124, [.c (.ptr 0 0)], [zb66], (.c (.pv (.int .i64 5)), [zb67])⟩
theorem zt179_ok : Holds (ev X E0) [zt179] := ⟨ev_tab (n := 400) (x := xf124) rfl (t := [zt177, zt178]) (by kernel_rfl) ⟨zt177_ok.1, zt178_ok.1, trivial⟩, trivial⟩
def zt180 : Fact := ⟨90, [.c (.ptr 0 0), .c (.pv (.int .i64 8))], [zb61, zb66], (.c (.pv (.int .i64 5)), [zb61, zb67])⟩
theorem zt180_ok : Holds (ev X E0) [zt180] := ⟨ev_tab (n := 400) (x := xf90) rfl (t := [zt25, zt179]) (by kernel_rfl) ⟨zt25_ok.1, zt179_ok.1, trivial⟩, trivial⟩
def zt181 : Fact := ⟨90, [.c (.ptr 0 0), .c (.pv (.int .i64 16))], [zb61, zb67], (.c (zi), [zb61, zb67])⟩
theorem zt181_ok : Holds (ev X E0) [zt181] := ⟨ev_tab (n := 400) (x := xf90) rfl (t := [zt29]) (by kernel_rfl) ⟨zt29_ok.1, trivial⟩, trivial⟩
def zt182 : Fact := ⟨92, [.c (.ptr 0 0), .c (.pv (.int .i64 16))], [zb61, zb67], (.c (zd), [zb61, zb67])⟩
theorem zt182_ok : Holds (ev X E0) [zt182] := ⟨ev_tab (n := 400) (x := xf92) rfl (t := [zt181, zt92]) (by kernel_rfl) ⟨zt181_ok.1, zt92_ok.1, trivial⟩, trivial⟩
def zt183 : Fact := ⟨91, [.c (.ptr 0 0), .c (.pv (.int .i64 32)), .c (.pv (.int .i64 32))], [zb61, zb67], (.c (zs), [zb61, zb67])⟩
theorem zt183_ok : Holds (ev X E0) [zt183] := ⟨ev_tab (n := 400) (x := xf91) rfl (t := [zt5]) (by kernel_rfl) ⟨zt5_ok.1, trivial⟩, trivial⟩
def zt184 : Fact := ⟨90, [.c (.ptr 0 0), .c (.pv (.int .i64 256))], [zb61, zb67], (.c (zi), [zb61, zb67])⟩
theorem zt184_ok : Holds (ev X E0) [zt184] := ⟨ev_tab (n := 400) (x := xf90) rfl (t := [zt31]) (by kernel_rfl) ⟨zt31_ok.1, trivial⟩, trivial⟩
def zt185 : Fact := ⟨90, [.c (.ptr 0 0), .c (.pv (.int .i64 512))], [zb61, zb67], (.c (zi), [zb61, zb67])⟩
theorem zt185_ok : Holds (ev X E0) [zt185] := ⟨ev_tab (n := 400) (x := xf90) rfl (t := [zt33]) (by kernel_rfl) ⟨zt33_ok.1, trivial⟩, trivial⟩
def zt186 : Fact := ⟨92, [.c (.ptr 0 0), .c (.pv (.int .i64 512))], [zb61, zb67], (.c (zd), [zb61, zb67])⟩
theorem zt186_ok : Holds (ev X E0) [zt186] := ⟨ev_tab (n := 400) (x := xf92) rfl (t := [zt185, zt92]) (by kernel_rfl) ⟨zt185_ok.1, zt92_ok.1, trivial⟩, trivial⟩
def zt187 : Fact := ⟨91, [.c (.ptr 0 0), .c (.pv (.int .i64 2048)), .c (.pv (.int .i64 2000))], [zb61, zb67], (.c (zs), [zb61, zb67])⟩
theorem zt187_ok : Holds (ev X E0) [zt187] := ⟨ev_tab (n := 400) (x := xf91) rfl (t := [zt9]) (by kernel_rfl) ⟨zt9_ok.1, trivial⟩, trivial⟩
def zt188 : Fact := ⟨89, [.c (.ptr 0 0)], [zb67], (.c (zi), [zb67])⟩
theorem zt188_ok : Holds (ev X E0) [zt188] := ⟨ev_tab (n := 400) (x := xf89) rfl (t := []) (by kernel_rfl) trivial, trivial⟩
def zt189 : Fact := ⟨96, [.c (.ptr 0 0)], [zb67], (.c (.pv (.int .i64 3)), [zb67])⟩
theorem zt189_ok : Holds (ev X E0) [zt189] := ⟨ev_tab (n := 400) (x := xf96) rfl (t := [zt188]) (by kernel_rfl) ⟨zt188_ok.1, trivial⟩, trivial⟩
def zt190 : Fact := ⟨45, [.c (.pv (.str [5, 10, 0]))], [], (.tup [zu63, .c (.pv (.int .i64 3))], [])⟩
theorem zt190_ok : Holds (ev X E0) [zt190] := ⟨ev_tab (n := 400) (x := xf45) rfl (t := [zt166, zt169, zt170, zt171, zt172, zt173, zt174, zt175, zt180, zt182, zt183, zt6, zt7, zt184, zt186, zt8, zt187, zt189]) (by kernel_rfl) ⟨zt166_ok.1, zt169_ok.1, zt170_ok.1, zt171_ok.1, zt172_ok.1, zt173_ok.1, zt174_ok.1, zt175_ok.1, zt180_ok.1, zt182_ok.1, zt183_ok.1, zt6_ok.1, zt7_ok.1, zt184_ok.1, zt186_ok.1, zt8_ok.1, zt187_ok.1, zt189_ok.1, trivial⟩, trivial⟩
def zt191 : Fact := ⟨87, [.c (.pv (.str [5, 128, 128, 128, 128, 16]))], [], (.c (.ptr 0 0), [zb68])⟩
theorem zt191_ok : Holds (ev X E0) [zt191] := ⟨ev_tab (n := 400) (x := xf87) rfl (t := []) (by kernel_rfl) trivial, trivial⟩
def zt192 : Fact := ⟨123, [.c (.pv (.str [5, 128, 128, 128, 128, 16]))], [], (.tup [.c (.pv (.int .u64 5)), .c (.pv (.int .i64 1)), .c (zi)], [])⟩
theorem zt192_ok : Holds (ev X E0) [zt192] := ⟨ev_tab (n := 400) (x := xf123) rfl (t := []) (by kernel_rfl) trivial, trivial⟩
def zt193 : Fact := ⟨122, [.c (.ptr 0 0), .c (.fn 123 [])], [zb68], (.c (.pv (.int .u64 5)), [zb69])⟩
theorem zt193_ok : Holds (ev X E0) [zt193] := ⟨ev_tab (n := 400) (x := xf122) rfl (t := [zt192]) (by kernel_rfl) ⟨zt192_ok.1, trivial⟩, trivial⟩
def zt194 : Fact := ⟨88, [.c (.ptr 0 0)], [zb68], (.c (.pv (.int .u64 5)), [zb69])⟩
theorem zt194_ok : Holds (ev X E0) [zt194] := ⟨ev_tab (n := 400) (x := xf88) rfl (t := [zt193]) (by kernel_rfl) ⟨zt193_ok.1, trivial⟩, trivial⟩
def zt195 : Fact := ⟨89, [.c (.ptr 0 0)], [zb69], (.c (zi), [zb69])⟩
theorem zt195_ok : Holds (ev X E0) [zt195] := ⟨ev_tab (n := 400) (x := xf89) rfl (t := []) (by kernel_rfl) trivial, trivial⟩
def zt196 : Fact := ⟨90, [.c (.ptr 0 0), .c (.pv (.int .i64 1))], [zb61, zb69], (.c (zi), [zb61, zb69])⟩
theorem zt196_ok : Holds (ev X E0) [zt196] := ⟨ev_tab (n := 400) (x := xf90) rfl (t := [zt0]) (by kernel_rfl) ⟨zt0_ok.1, trivial⟩, trivial⟩
def zt197 : Fact := ⟨91, [.c (.ptr 0 0), .c (.pv (.int .i64 1)), .c (.pv (.int .i64 32))], [zb61, zb69], (.c (zs), [zb61, zb69])⟩
theorem zt197_ok : Holds (ev X E0) [zt197] := ⟨ev_tab (n := 400) (x := xf91) rfl (t := [zt0]) (by kernel_rfl) ⟨zt0_ok.1, trivial⟩, trivial⟩
def zt198 : Fact := ⟨90, [.c (.ptr 0 0), .c (.pv (.int .i64 2))], [zb61, zb69], (.c (zi), [zb61, zb69])⟩
theorem zt198_ok : Holds (ev X E0) [zt198] := ⟨ev_tab (n := 400) (x := xf90) rfl (t := [zt1]) (by kernel_rfl) ⟨zt1_ok.1, trivial⟩, trivial⟩
def zt199 : Fact := ⟨92, [.c (.ptr 0 0), .c (.pv (.int .i64 2))], [zb61, zb69], (.c (zd), [zb61, zb69])⟩
theorem zt199_ok : Holds (ev X E0) [zt199] := ⟨ev_tab (n := 400) (x := xf92) rfl (t := [zt198, zt92]) (by kernel_rfl) ⟨zt198_ok.1, zt92_ok.1, trivial⟩, trivial⟩
def zt200 : Fact := ⟨90, [.c (.ptr 0 0), .c (.pv (.int .i64 4))], [zb61, zb69], (.c (zi), [zb61, zb69])⟩
theorem zt200_ok : Holds (ev X E0) [zt200] := ⟨ev_tab (n := 400) (x := xf90) rfl (t := [zt2]) (by kernel_rfl) ⟨zt2_ok.1, trivial⟩, trivial⟩
def zt201 : Fact := ⟨123, [.c (.pv (.str [128, 128, 128, 128, 16]))], [], (.tup [.c (.pv (.int .u64 4294967296)), .c (.pv (.int .i64 5)), .c (zi)], [])⟩
theorem zt201_ok : Holds (ev X E0) [zt201] := ⟨ev_tab (n := 400) (x := xf123) rfl (t := []) (by kernel_rfl) trivial, trivial⟩
def zt202 : Fact := ⟨122, [.c (.ptr 0 0), .c (.fn 123 [])], [zb69], (.c (.pv (.int .u64 4294967296)), [zb56])⟩
theorem zt202_ok : Holds (ev X E0) [zt202] := ⟨ev_tab (n := 400) (x := xf122) rfl (t := [zt201]) (by kernel_rfl) ⟨zt201_ok.1, trivial⟩, trivial⟩
def zt203 : Fact := ⟨129, [.c (.pv (.int .u64 4294967296))], [], (.c (.pv (.int .i64 2147483648)), [])⟩
theorem zt203_ok : Holds (ev X E0) [zt203] := ⟨ev_tab (n := 400) (x := xf129) rfl (t := []) (by kernel_rfl) trivial, trivial⟩
def zt204 : Fact := ⟨124, [.c (.ptr 0 0)], [zb69], (.c (.pv (.int .i64 2147483648)), [zb56])⟩
theorem zt204_ok : Holds (ev X E0) [zt204] := ⟨ev_tab (n := 400) (x := xf124) rfl (t := [zt202, zt203]) (by kernel_rfl) ⟨zt202_ok.1, zt203_ok.1, trivial⟩, trivial⟩
def zt205 : Fact := ⟨90, [.c (.ptr 0 0), .c (.pv (.int .i64 8))], [zb61, zb69], (.c (.pv (.int .i64 2147483648)), [zb61, zb56])⟩
theorem zt205_ok : Holds (ev X E0) [zt205] := ⟨ev_tab (n := 400) (x := xf90) rfl (t := [zt25, zt204]) (by kernel_rfl) ⟨zt25_ok.1, zt204_ok.1, trivial⟩, trivial⟩
def zt206 : Fact := ⟨90, [.c (.ptr 0 0), .c (.pv (.int .i64 16))], [zb61, zb56], (.c (zi), [zb61, zb56])⟩
theorem zt206_ok : Holds (ev X E0) [zt206] := ⟨ev_tab (n := 400) (x := xf90) rfl (t := [zt29]) (by kernel_rfl) ⟨zt29_ok.1, trivial⟩, trivial⟩
def zt207 : Fact := ⟨92, [.c (.ptr 0 0), .c (.pv (.int .i64 16))], [zb61, zb56], (.c (zd), [zb61, zb56])⟩
theorem zt207_ok : Holds (ev X E0) [zt207] := ⟨ev_tab (n := 400) (x := xf92) rfl (t := [zt206, zt92]) (by kernel_rfl) ⟨zt206_ok.1, zt92_ok.1, trivial⟩, trivial⟩
def zt208 : Fact := ⟨91, [.c (.ptr 0 0), .c (.pv (.int .i64 32)), .c (.pv (.int .i64 32))], [zb61, zb56], (.c (zs), [zb61, zb56])⟩
theorem zt208_ok : Holds (ev X E0) [zt208] := ⟨ev_tab (n := 400) (x := xf91) rfl (t := [zt5]) (by kernel_rfl) ⟨zt5_ok.1, trivial⟩, trivial⟩
def zt209 : Fact := ⟨90, [.c (.ptr 0 0), .c (.pv (.int .i64 256))], [zb61, zb56], (.c (zi), [zb61, zb56])⟩
theorem zt209_ok : Holds (ev X E0) [zt209] := ⟨ev_tab (n := 400) (x := xf90) rfl (t := [zt31]) (by kernel_rfl) ⟨zt31_ok.1, trivial⟩, trivial⟩
def zt210 : Fact := ⟨90, [.c (.ptr 0 0), .c (.pv (.int .i64 512))], [zb61, zb56], (.c (zi), [zb61, zb56])⟩
theorem zt210_ok : Holds (ev X E0) [zt210] := ⟨ev_tab (n := 400) (x := xf90) rfl (t := [zt33]) (by kernel_rfl) ⟨zt33_ok.1, trivial⟩, trivial⟩
def zt211 : Fact := ⟨92, [.c (.ptr 0 0), .c (.pv (.int .i64 512))], [zb61, zb56], (.c (zd), [zb61, zb56])⟩
theorem zt211_ok : Holds (ev X E0) [zt211] := ⟨ev_tab (n := 400) (x := xf92) rfl (t := [zt210, zt92]) (by kernel_rfl) ⟨zt210_ok.1, zt92_ok.1, trivial⟩, trivial⟩
def zt212 : Fact := ⟨91, [.c (.ptr 0 0), .c (.pv (.int .i64 2048)), .c (.pv (.int .i64 2000))], [zb61, zb56], (.c (zs), [zb61, zb56])⟩
theorem zt212_ok : Holds (ev X E0) [zt212] := ⟨ev_tab (n := 400) (x := xf91) rfl (t := [zt9]) (by kernel_rfl) ⟨zt9_ok.1, trivial⟩, trivial⟩
def zt213 : Fact := ⟨78, [zu70], [], (zu70, [])⟩
theorem zt213_ok : Holds (ev X E0) [zt213] := ⟨ev_tab (n := 400) (x := xf78) rfl (t := [zt0, zt1, zt2, zt3, zt4, zt5, zt6, zt7, zt8, zt9]) (by kernel_rfl) ⟨zt0_ok.1, zt1_ok.1, zt2_ok.1, zt3_ok.1, zt4_ok.1, zt5_ok.1, zt6_ok.1, zt7_ok.1, zt8_ok.1, zt9_ok.1, trivial⟩, trivial⟩
def zt214 : Fact := ⟨120, [.c (.pv (.int .i64 2147483648))], [], (.c (zt), [])⟩
theorem zt214_ok : Holds (ev X E0) [zt214] := ⟨ev_tab (n := 400) (x := xf120) rfl (t := []) (by kernel_rfl) trivial, trivial⟩
def zt215 : Fact := ⟨143, [.c (.pv (zw71)), .c (.fn 120 [])], [], (.c (.pv (.int .i64 1)), [])⟩
theorem zt215_ok : Holds (ev X E0) [zt215] := ⟨ev_tab (n := 400) (x := xf143) rfl (t := [zt12, zt214]) (by kernel_rfl) ⟨zt12_ok.1, zt214_ok.1, trivial⟩, trivial⟩
def zt216 : Fact := ⟨119, [.c (.pv (zw71)), .c (.fn 120 [])], [], (.c (zt), [])⟩
theorem zt216_ok : Holds (ev X E0) [zt216] := ⟨ev_tab (n := 400) (x := xf119) rfl (t := [zt215]) (by kernel_rfl) ⟨zt215_ok.1, trivial⟩, trivial⟩
def zt217 : Fact := ⟨80, [.c (.pv (zw71))], [], (.c (zf), [])⟩
theorem zt217_ok : Holds (ev X E0) [zt217] := ⟨ev_tab (n := 400) (x := xf80) rfl (t := [zt216]) (by kernel_rfl) ⟨zt216_ok.1, trivial⟩, trivial⟩
def zt218 : Fact := ⟨40, [zu70], [], (.c (.pv (.int .i64 9)), [])⟩
theorem zt218_ok : Holds (ev X E0) [zt218] := ⟨ev_tab (n := 400) (x := xf40) rfl (t := [zt213, zt11, zt217]) (by kernel_rfl) ⟨zt213_ok.1, zt11_ok.1, zt217_ok.1, trivial⟩, trivial⟩
def zt219 : Fact := ⟨45, [.c (.pv (.str [5, 128, 128, 128, 128, 16]))], [], (.tup [zu63, .c (.pv (.int .i64 9))], [])⟩
theorem zt219_ok : Holds (ev X E0) [zt219] := ⟨ev_tab (n := 400) (x := xf45) rfl (t := [zt191, zt194, zt195, zt196, zt197, zt198, zt199, zt200, zt205, zt207, zt208, zt6, zt7, zt209, zt211, zt8, zt212, zt131, zt218]) (by kernel_rfl) ⟨zt191_ok.1, zt194_ok.1, zt195_ok.1, zt196_ok.1, zt197_ok.1, zt198_ok.1, zt199_ok.1, zt200_ok.1, zt205_ok.1, zt207_ok.1, zt208_ok.1, zt6_ok.1, zt7_ok.1, zt209_ok.1, zt211_ok.1, zt8_ok.1, zt212_ok.1, zt131_ok.1, zt218_ok.1, trivial⟩, trivial⟩
def zt220 : Fact := ⟨49, [.c (.ptr 0 0), .c (.pv (.int .u64 2))], [zb5], (.tup [], [zb72])⟩
theorem zt220_ok : Holds (ev X E0) [zt220] := ⟨ev_tab (n := 400) (x := xf49) rfl (t := []) (by kernel_rfl) trivial, trivial⟩
def zt221 : Fact := ⟨49, [.c (.ptr 0 0), .c (.pv (.int .u64 2))], [zb73], (.tup [], [zb74])⟩
theorem zt221_ok : Holds (ev X E0) [zt221] := ⟨ev_tab (n := 400) (x := xf49) rfl (t := []) (by kernel_rfl) trivial, trivial⟩
def zt222 : Fact := ⟨50, [.c (.ptr 0 0), .c (.pv (.str [5, 10]))], [zb73], (.tup [], [zb75])⟩
theorem zt222_ok : Holds (ev X E0) [zt222] := ⟨ev_tab (n := 400) (x := xf50) rfl (t := [zt221]) (by kernel_rfl) ⟨zt221_ok.1, trivial⟩, trivial⟩
def zt223 : Fact := ⟨74, [.c (.pv (.int .i64 10)), .c (.pv (.int .i64 1))], [], (.c (zf), [])⟩
theorem zt223_ok : Holds (ev X E0) [zt223] := ⟨ev_tab (n := 400) (x := xf74) rfl (t := []) (by kernel_rfl) trivial, trivial⟩
def zt224 : Fact := ⟨74, [.c (.pv (.int .i64 10)), .c (.pv (.int .i64 2))], [], (.c (zf), [])⟩
theorem zt224_ok : Holds (ev X E0) [zt224] := ⟨ev_tab (n := 400) (x := xf74) rfl (t := []) (by kernel_rfl) trivial, trivial⟩
def zt225 : Fact := ⟨74, [.c (.pv (.int .i64 10)), .c (.pv (.int .i64 4))], [], (.c (zf), [])⟩
theorem zt225_ok : Holds (ev X E0) [zt225] := ⟨ev_tab (n := 400) (x := xf74) rfl (t := []) (by kernel_rfl) trivial, trivial⟩
def zt226 : Fact := ⟨74, [.c (.pv (.int .i64 10)), .c (.pv (.int .i64 264))], [], (.c (zf), [])⟩
theorem zt226_ok : Holds (ev X E0) [zt226] := ⟨ev_tab (n := 400) (x := xf74) rfl (t := []) (by kernel_rfl) trivial, trivial⟩
def zt227 : Fact := ⟨74, [.c (.pv (.int .i64 10)), .c (.pv (.int .i64 528))], [], (.c (zf), [])⟩
theorem zt227_ok : Holds (ev X E0) [zt227] := ⟨ev_tab (n := 400) (x := xf74) rfl (t := []) (by kernel_rfl) trivial, trivial⟩
def zt228 : Fact := ⟨74, [.c (.pv (.int .i64 10)), .c (.pv (.int .i64 32))], [], (.c (zf), [])⟩
theorem zt228_ok : Holds (ev X E0) [zt228] := ⟨ev_tab (n := 400) (x := xf74) rfl (t := []) (by kernel_rfl) trivial, trivial⟩
def zt229 : Fact := ⟨74, [.c (.pv (.int .i64 10)), .c (.pv (.int .i64 64))], [], (.c (zf), [])⟩
theorem zt229_ok : Holds (ev X E0) [zt229] := ⟨ev_tab (n := 400) (x := xf74) rfl (t := []) (by kernel_rfl) trivial, trivial⟩
def zt230 : Fact := ⟨74, [.c (.pv (.int .i64 10)), .c (.pv (.int .i64 128))], [], (.c (zf), [])⟩
theorem zt230_ok : Holds (ev X E0) [zt230] := ⟨ev_tab (n := 400) (x := xf74) rfl (t := []) (by kernel_rfl) trivial, trivial⟩
def zt231 : Fact := ⟨74, [.c (.pv (.int .i64 10)), .c (.pv (.int .i64 1024))], [], (.c (zf), [])⟩
theorem zt231_ok : Holds (ev X E0) [zt231] := ⟨ev_tab (n := 400) (x := xf74) rfl (t := []) (by kernel_rfl) trivial, trivial⟩
def zt232 : Fact := ⟨74, [.c (.pv (.int .i64 10)), .c (.pv (.int .i64 2048))], [], (.c (zf), [])⟩
theorem zt232_ok : Holds (ev X E0) [zt232] := ⟨ev_tab (n := 400) (x := xf74) rfl (t := []) (by kernel_rfl) trivial, trivial⟩
def zt233 : Fact := ⟨78, [zu76], [], (zu76, [])⟩
theorem zt233_ok : Holds (ev X E0) [zt233] := ⟨ev_tab (n := 400) (x := xf78) rfl (t := [zt223, zt224, zt225, zt226, zt227, zt228, zt229, zt230, zt231, zt232]) (by kernel_rfl) ⟨zt223_ok.1, zt224_ok.1, zt225_ok.1, zt226_ok.1, zt227_ok.1, zt228_ok.1, zt229_ok.1, zt230_ok.1, zt231_ok.1, zt232_ok.1, trivial⟩, trivial⟩
def zt234 : Fact := ⟨143, [.c (.pv (zw77)), .c (.fn 120 [])], [], (.c (.pv (.int .i64 (-1))), [])⟩
theorem zt234_ok : Holds (ev X E0) [zt234] := ⟨ev_tab (n := 400) (x := xf143) rfl (t := [zt12]) (by kernel_rfl) ⟨zt12_ok.1, trivial⟩, trivial⟩
def zt235 : Fact := ⟨119, [.c (.pv (zw77)), .c (.fn 120 [])], [], (.c (zf), [])⟩
theorem zt235_ok : Holds (ev X E0) [zt235] := ⟨ev_tab (n := 400) (x := xf119) rfl (t := [zt234]) (by kernel_rfl) ⟨zt234_ok.1, trivial⟩, trivial⟩
def zt236 : Fact := ⟨80, [.c (.pv (zw77))], [], (.c (zt), [])⟩
theorem zt236_ok : Holds (ev X E0) [zt236] := ⟨ev_tab (n := 400) (x := xf80) rfl (t := [zt235]) (by kernel_rfl) ⟨zt235_ok.1, trivial⟩, trivial⟩
def zt237 : Fact := ⟨42, [zu76, zu76], [], (.c (zt), [])⟩
theorem zt237_ok : Holds (ev X E0) [zt237] := ⟨ev_tab (n := 400) (x := xf42) rfl (t := [zt17]) (by kernel_rfl) ⟨zt17_ok.1, trivial⟩, trivial⟩
def zt238 : Fact := ⟨40, [zu76], [], (.c (zi), [])⟩
theorem zt238_ok : Holds (ev X E0) [zt238] := ⟨ev_tab (n := 400) (x := xf40) rfl (t := [zt233, zt11, zt236, zt237]) (by kernel_rfl) ⟨zt233_ok.1, zt11_ok.1, zt236_ok.1, zt237_ok.1, trivial⟩, trivial⟩
def zt239 : Fact := ⟨49, [.c (.ptr 0 0), .c (.pv (.int .u64 10))], [zb5], (.tup [], [zb78])⟩
theorem zt239_ok : Holds (ev X E0) [zt239] := ⟨ev_tab (n := 400) (x := xf49) rfl (t := []) (by kernel_rfl) trivial, trivial⟩
def zt240 : Fact := ⟨73, [.c (.pv (.int .i64 1)), .c (.pv (zw7)), .c (.ptr 0 0), .c (.ptr 1 0)], [zb79, zb9, zb80], (.tup [], [zb79, zb9, zb80])⟩
theorem zt240_ok : Holds (ev X E0) [zt240] := ⟨ev_tab (n := 400) (x := xf73) rfl (t := [zt223]) (by kernel_rfl) ⟨zt223_ok.1, trivial⟩, trivial⟩
def zt241 : Fact := ⟨73, [.c (.pv (.int .i64 2)), .c (.pv (zw11)), .c (.ptr 0 0), .c (.ptr 1 0)], [zb79, zb9, zb80], (.tup [], [zb79, zb9, zb80])⟩
theorem zt241_ok : Holds (ev X E0) [zt241] := ⟨ev_tab (n := 400) (x := xf73) rfl (t := [zt224]) (by kernel_rfl) ⟨zt224_ok.1, trivial⟩, trivial⟩
def zt242 : Fact := ⟨73, [.c (.pv (.int .i64 4)), .c (.pv (zw7)), .c (.ptr 0 0), .c (.ptr 1 0)], [zb79, zb9, zb80], (.tup [], [zb79, zb9, zb80])⟩
theorem zt242_ok : Holds (ev X E0) [zt242] := ⟨ev_tab (n := 400) (x := xf73) rfl (t := [zt225]) (by kernel_rfl) ⟨zt225_ok.1, trivial⟩, trivial⟩
def zt243 : Fact := ⟨74, [.c (.pv (.int .i64 10)), .c (.pv (.int .i64 8))], [], (.c (zf), [])⟩
theorem zt243_ok : Holds (ev X E0) [zt243] := ⟨ev_tab (n := 400) (x := xf74) rfl (t := []) (by kernel_rfl) trivial, trivial⟩
def zt244 : Fact := ⟨73, [.c (.pv (.int .i64 8)), .c (.pv (zw7)), .c (.ptr 0 0), .c (.ptr 1 0)], [zb79, zb9, zb80], (.tup [], [zb79, zb9, zb80])⟩
theorem zt244_ok : Holds (ev X E0) [zt244] := ⟨ev_tab (n := 400) (x := xf73) rfl (t := [zt243]) (by kernel_rfl) ⟨zt243_ok.1, trivial⟩, trivial⟩
def zt245 : Fact := ⟨74, [.c (.pv (.int .i64 10)), .c (.pv (.int .i64 16))], [], (.c (zf), [])⟩
theorem zt245_ok : Holds (ev X E0) [zt245] := ⟨ev_tab (n := 400) (x := xf74) rfl (t := []) (by kernel_rfl) trivial, trivial⟩
def zt246 : Fact := ⟨73, [.c (.pv (.int .i64 16)), .c (.pv (zw7)), .c (.ptr 0 0), .c (.ptr 1 0)], [zb79, zb9, zb80], (.tup [], [zb79, zb9, zb80])⟩
theorem zt246_ok : Holds (ev X E0) [zt246] := ⟨ev_tab (n := 400) (x := xf73) rfl (t := [zt245]) (by kernel_rfl) ⟨zt245_ok.1, trivial⟩, trivial⟩
def zt247 : Fact := ⟨74, [.c (.pv (.int .i64 10)), .c (.pv (.int .i64 256))], [], (.c (zf), [])⟩
theorem zt247_ok : Holds (ev X E0) [zt247] := ⟨ev_tab (n := 400) (x := xf74) rfl (t := []) (by kernel_rfl) trivial, trivial⟩
def zt248 : Fact := ⟨73, [.c (.pv (.int .i64 256)), .c (.pv (zw7)), .c (.ptr 0 0), .c (.ptr 1 0)], [zb79, zb9, zb80], (.tup [], [zb79, zb9, zb80])⟩
theorem zt248_ok : Holds (ev X E0) [zt248] := ⟨ev_tab (n := 400) (x := xf73) rfl (t := [zt247]) (by kernel_rfl) ⟨zt247_ok.1, trivial⟩, trivial⟩
def zt249 : Fact := ⟨74, [.c (.pv (.int .i64 10)), .c (.pv (.int .i64 512))], [], (.c (zf), [])⟩
theorem zt249_ok : Holds (ev X E0) [zt249] := ⟨ev_tab (n := 400) (x := xf74) rfl (t := []) (by kernel_rfl) trivial, trivial⟩
def zt250 : Fact := ⟨73, [.c (.pv (.int .i64 512)), .c (.pv (zw7)), .c (.ptr 0 0), .c (.ptr 1 0)], [zb79, zb9, zb80], (.tup [], [zb79, zb9, zb80])⟩
theorem zt250_ok : Holds (ev X E0) [zt250] := ⟨ev_tab (n := 400) (x := xf73) rfl (t := [zt249]) (by kernel_rfl) ⟨zt249_ok.1, trivial⟩, trivial⟩
def zt251 : Fact := ⟨51, [.c (.ptr 0 0)], [zb80], (.c (.pv (.str [10])), [zb80])⟩
theorem zt251_ok : Holds (ev X E0) [zt251] := ⟨ev_tab (n := 400) (x := xf51) rfl (t := []) (by kernel_rfl) trivial, trivial⟩
def zt252 : Fact := ⟨38, [zu76], [], (.tup [.c (.pv (.str [10])), .c (zi)], [])⟩
theorem zt252_ok : Holds (ev X E0) [zt252] := ⟨ev_tab (n := 400) (x := xf38) rfl (t := [zt238, zt20, zt239, zt240, zt223, zt241, zt242, zt244, zt246, zt228, zt229, zt230, zt248, zt250, zt231, zt232, zt251]) (by kernel_rfl) ⟨zt238_ok.1, zt20_ok.1, zt239_ok.1, zt240_ok.1, zt223_ok.1, zt241_ok.1, zt242_ok.1, zt244_ok.1, zt246_ok.1, zt228_ok.1, zt229_ok.1, zt230_ok.1, zt248_ok.1, zt250_ok.1, zt231_ok.1, zt232_ok.1, zt251_ok.1, trivial⟩, trivial⟩
def zt253 : Fact := ⟨49, [.c (.ptr 0 0), .c (.pv (.int .u64 1))], [zb81], (.tup [], [zb82])⟩
theorem zt253_ok : Holds (ev X E0) [zt253] := ⟨ev_tab (n := 400) (x := xf49) rfl (t := []) (by kernel_rfl) trivial, trivial⟩
def zt254 : Fact := ⟨50, [.c (.ptr 0 0), .c (.pv (.str [10]))], [zb81], (.tup [], [zb83])⟩
theorem zt254_ok : Holds (ev X E0) [zt254] := ⟨ev_tab (n := 400) (x := xf50) rfl (t := [zt253]) (by kernel_rfl) ⟨zt253_ok.1, trivial⟩, trivial⟩
def zt255 : Fact := ⟨51, [.c (.ptr 0 0)], [zb84], (.c (.pv (.str [2, 2, 5, 10, 1, 10])), [zb84])⟩
theorem zt255_ok : Holds (ev X E0) [zt255] := ⟨ev_tab (n := 400) (x := xf51) rfl (t := []) (by kernel_rfl) trivial, trivial⟩
def zt256 : Fact := ⟨39, [.c (.pv (zw87))], [], (.tup [.c (.pv (.str [2, 2, 5, 10, 1, 10])), .c (zi)], [])⟩
theorem zt256_ok : Holds (ev X E0) [zt256] := ⟨ev_tab (n := 400) (x := xf39) rfl (t := [zt20, zt220, zt36, zt222, zt252, zt254, zt255]) (by kernel_rfl) ⟨zt20_ok.1, zt220_ok.1, zt36_ok.1, zt222_ok.1, zt252_ok.1, zt254_ok.1, zt255_ok.1, trivial⟩, trivial⟩
def zt257 : Fact := ⟨87, [.c (.pv (.str [2, 2, 5, 10, 1, 10]))], [], (.c (.ptr 0 0), [zb88])⟩
theorem zt257_ok : Holds (ev X E0) [zt257] := ⟨ev_tab (n := 400) (x := xf87) rfl (t := []) (by kernel_rfl) trivial, trivial⟩
def zt258 : Fact := ⟨123, [.c (.pv (.str [2, 2, 5, 10, 1, 10]))], [], (.tup [.c (.pv (.int .u64 2)), .c (.pv (.int .i64 1)), .c (zi)], [])⟩
theorem zt258_ok : Holds (ev X E0) [zt258] := ⟨ev_tab (n := 400) (x := xf123) rfl (t := []) (by kernel_rfl) trivial, trivial⟩
def zt259 : Fact := ⟨126, [.c (.pv (.str [2, 2, 5, 10, 1, 10])), .c (.ptr 0 0)], [zb89], (.tup [.c (.pv (.int .i64 2)), .c (.pv (.int .i64 1)), .c (zi)], [zb89])⟩
theorem zt259_ok : Holds (ev X E0) [zt259] := ⟨ev_tab (n := 400) (x := xf126) rfl (t := [zt258]) (by kernel_rfl) ⟨zt258_ok.1, trivial⟩, trivial⟩
def zt260 : Fact := ⟨125, [.c (.ptr 0 0), .c (.fn 126 [1])], [zb88, zb89], (.c (.pv (.int .i64 2)), [zb90, zb89])⟩
theorem zt260_ok : Holds (ev X E0) [zt260] := ⟨ev_tab (n := 400) (x := xf125) rfl (t := [zt259]) (by kernel_rfl) ⟨zt259_ok.1, trivial⟩, trivial⟩
def zt261 : Fact := ⟨93, [.c (.ptr 0 0), .c (.pv (.int .i64 200))], [zb88], (.c (.pv (.int .i64 2)), [zb90])⟩
theorem zt261_ok : Holds (ev X E0) [zt261] := ⟨ev_tab (n := 400) (x := xf93) rfl (t := [zt260]) (by kernel_rfl) ⟨zt260_ok.1, trivial⟩, trivial⟩
def zt262 : Fact := ⟨123, [.c (.pv (.str [2, 5, 10, 1, 10]))], [], (.tup [.c (.pv (.int .u64 2)), .c (.pv (.int .i64 1)), .c (zi)], [])⟩
theorem zt262_ok : Holds (ev X E0) [zt262] := ⟨ev_tab (n := 400) (x := xf123) rfl (t := []) (by kernel_rfl) trivial, trivial⟩
def zt263 : Fact := ⟨133, [.c (.pv (.str [2, 5, 10, 1, 10])), .c (.ptr 0 0)], [zb91], (.tup [.c (.pv (.str [5, 10])), .c (.pv (.int .i64 3)), .c (zi)], [zb91])⟩
theorem zt263_ok : Holds (ev X E0) [zt263] := ⟨ev_tab (n := 400) (x := xf133) rfl (t := [zt262]) (by kernel_rfl) ⟨zt262_ok.1, trivial⟩, trivial⟩
def zt264 : Fact := ⟨132, [.c (.ptr 0 0), .c (.fn 133 [1])], [zb90, zb91], (.c (.pv (.str [5, 10])), [zb92, zb91])⟩
theorem zt264_ok : Holds (ev X E0) [zt264] := ⟨ev_tab (n := 400) (x := xf132) rfl (t := [zt263]) (by kernel_rfl) ⟨zt263_ok.1, trivial⟩, trivial⟩
def zt265 : Fact := ⟨97, [.c (.ptr 0 0), .c (.pv (.int .i64 2400))], [zb90], (.c (.pv (.str [5, 10])), [zb92])⟩
theorem zt265_ok : Holds (ev X E0) [zt265] := ⟨ev_tab (n := 400) (x := xf97) rfl (t := [zt264]) (by kernel_rfl) ⟨zt264_ok.1, trivial⟩, trivial⟩
def zt266 : Fact := ⟨89, [.c (.ptr 0 0)], [zb92], (.c (zi), [zb92])⟩
theorem zt266_ok : Holds (ev X E0) [zt266] := ⟨ev_tab (n := 400) (x := xf89) rfl (t := []) (by kernel_rfl) trivial, trivial⟩
def zt267 : Fact := ⟨87, [.c (.pv (.str [5, 10]))], [], (.c (.ptr 0 0), [zb93])⟩
theorem zt267_ok : Holds (ev X E0) [zt267] := ⟨ev_tab (n := 400) (x := xf87) rfl (t := []) (by kernel_rfl) trivial, trivial⟩
def zt268 : Fact := ⟨123, [.c (.pv (.str [5, 10]))], [], (.tup [.c (.pv (.int .u64 5)), .c (.pv (.int .i64 1)), .c (zi)], [])⟩
theorem zt268_ok : Holds (ev X E0) [zt268] := ⟨ev_tab (n := 400) (x := xf123) rfl (t := []) (by kernel_rfl) trivial, trivial⟩
def zt269 : Fact := ⟨122, [.c (.ptr 0 0), .c (.fn 123 [])], [zb93], (.c (.pv (.int .u64 5)), [zb94])⟩
theorem zt269_ok : Holds (ev X E0) [zt269] := ⟨ev_tab (n := 400) (x := xf122) rfl (t := [zt268]) (by kernel_rfl) ⟨zt268_ok.1, trivial⟩, trivial⟩
def zt270 : Fact := ⟨88, [.c (.ptr 0 0)], [zb93], (.c (.pv (.int .u64 5)), [zb94])⟩
theorem zt270_ok : Holds (ev X E0) [zt270] := ⟨ev_tab (n := 400) (x := xf88) rfl (t := [zt269]) (by kernel_rfl) ⟨zt269_ok.1, trivial⟩, trivial⟩
def zt271 : Fact := ⟨89, [.c (.ptr 0 0)], [zb94], (.c (zi), [zb94])⟩
theorem zt271_ok : Holds (ev X E0) [zt271] := ⟨ev_tab (n := 400) (x := xf89) rfl (t := []) (by kernel_rfl) trivial, trivial⟩
def zt272 : Fact := ⟨90, [.c (.ptr 0 0), .c (.pv (.int .i64 1))], [zb61, zb94], (.c (zi), [zb61, zb94])⟩
theorem zt272_ok : Holds (ev X E0) [zt272] := ⟨ev_tab (n := 400) (x := xf90) rfl (t := [zt0]) (by kernel_rfl) ⟨zt0_ok.1, trivial⟩, trivial⟩
def zt273 : Fact := ⟨91, [.c (.ptr 0 0), .c (.pv (.int .i64 1)), .c (.pv (.int .i64 32))], [zb61, zb94], (.c (zs), [zb61, zb94])⟩
theorem zt273_ok : Holds (ev X E0) [zt273] := ⟨ev_tab (n := 400) (x := xf91) rfl (t := [zt0]) (by kernel_rfl) ⟨zt0_ok.1, trivial⟩, trivial⟩
def zt274 : Fact := ⟨90, [.c (.ptr 0 0), .c (.pv (.int .i64 2))], [zb61, zb94], (.c (zi), [zb61, zb94])⟩
theorem zt274_ok : Holds (ev X E0) [zt274] := ⟨ev_tab (n := 400) (x := xf90) rfl (t := [zt1]) (by kernel_rfl) ⟨zt1_ok.1, trivial⟩, trivial⟩
def zt275 : Fact := ⟨92, [.c (.ptr 0 0), .c (.pv (.int .i64 2))], [zb61, zb94], (.c (zd), [zb61, zb94])⟩
theorem zt275_ok : Holds (ev X E0) [zt275] := ⟨ev_tab (n := 400) (x := xf92) rfl (t := [zt274, zt92]) (by kernel_rfl) ⟨zt274_ok.1, zt92_ok.1, trivial⟩, trivial⟩
def zt276 : Fact := ⟨90, [.c (.ptr 0 0), .c (.pv (.int .i64 4))], [zb61, zb94], (.c (zi), [zb61, zb94])⟩
theorem zt276_ok : Holds (ev X E0) [zt276] := ⟨ev_tab (n := 400) (x := xf90) rfl (t := [zt2]) (by kernel_rfl) ⟨zt2_ok.1, trivial⟩, trivial⟩
def zt277 : Fact := ⟨123, [.c (.pv (.str [10]))], [], (.tup [.c (.pv (.int .u64 10)), .c (.pv (.int .i64 1)), .c (zi)], [])⟩
theorem zt277_ok : Holds (ev X E0) [zt277] := ⟨ev_tab (n := 400) (x := xf123) rfl (t := []) (by kernel_rfl) trivial, trivial⟩
def zt278 : Fact := ⟨122, [.c (.ptr 0 0), .c (.fn 123 [])], [zb94], (.c (.pv (.int .u64 10)), [zb56])⟩
theorem zt278_ok : Holds (ev X E0) [zt278] := ⟨ev_tab (n := 400) (x := xf122) rfl (t := [zt277]) (by kernel_rfl) ⟨zt277_ok.1, trivial⟩, trivial⟩
def zt279 : Fact := ⟨124, [.c (.ptr 0 0)], [zb94], (.c (.pv (.int .i64 5)), [zb56])⟩
theorem zt279_ok : Holds (ev X E0) [zt279] := ⟨ev_tab (n := 400) (x := xf124) rfl (t := [zt278, zt178]) (by kernel_rfl) ⟨zt278_ok.1, zt178_ok.1, trivial⟩, trivial⟩
def zt280 : Fact := ⟨90, [.c (.ptr 0 0), .c (.pv (.int .i64 8))], [zb61, zb94], (.c (.pv (.int .i64 5)), [zb61, zb56])⟩
theorem zt280_ok : Holds (ev X E0) [zt280] := ⟨ev_tab (n := 400) (x := xf90) rfl (t := [zt25, zt279]) (by kernel_rfl) ⟨zt25_ok.1, zt279_ok.1, trivial⟩, trivial⟩
def zt281 : Fact := ⟨45, [.c (.pv (.str [5, 10]))], [], (.tup [zu1, .c (zi)], [])⟩
theorem zt281_ok : Holds (ev X E0) [zt281] := ⟨ev_tab (n := 400) (x := xf45) rfl (t := [zt267, zt270, zt271, zt272, zt273, zt274, zt275, zt276, zt280, zt207, zt208, zt6, zt7, zt209, zt211, zt8, zt212, zt131, zt19]) (by kernel_rfl) ⟨zt267_ok.1, zt270_ok.1, zt271_ok.1, zt272_ok.1, zt273_ok.1, zt274_ok.1, zt275_ok.1, zt276_ok.1, zt280_ok.1, zt207_ok.1, zt208_ok.1, zt6_ok.1, zt7_ok.1, zt209_ok.1, zt211_ok.1, zt8_ok.1, zt212_ok.1, zt131_ok.1, zt19_ok.1, trivial⟩, trivial⟩
def zt282 : Fact := ⟨123, [.c (.pv (.str [1, 10]))], [], (.tup [.c (.pv (.int .u64 1)), .c (.pv (.int .i64 1)), .c (zi)], [])⟩
theorem zt282_ok : Holds (ev X E0) [zt282] := ⟨ev_tab (n := 400) (x := xf123) rfl (t := []) (by kernel_rfl) trivial, trivial⟩
def zt283 : Fact := ⟨133, [.c (.pv (.str [1, 10])), .c (.ptr 0 0)], [zb91], (.tup [.c (.pv (.str [10])), .c (.pv (.int .i64 2)), .c (zi)], [zb91])⟩
theorem zt283_ok : Holds (ev X E0) [zt283] := ⟨ev_tab (n := 400) (x := xf133) rfl (t := [zt282]) (by kernel_rfl) ⟨zt282_ok.1, trivial⟩, trivial⟩
def zt284 : Fact := ⟨132, [.c (.ptr 0 0), .c (.fn 133 [1])], [zb92, zb91], (.c (.pv (.str [10])), [zb56, zb91])⟩
theorem zt284_ok : Holds (ev X E0) [zt284] := ⟨ev_tab (n := 400) (x := xf132) rfl (t := [zt283]) (by kernel_rfl) ⟨zt283_ok.1, trivial⟩, trivial⟩
def zt285 : Fact := ⟨97, [.c (.ptr 0 0), .c (.pv (.int .i64 2400))], [zb92], (.c (.pv (.str [10])), [zb56])⟩
theorem zt285_ok : Holds (ev X E0) [zt285] := ⟨ev_tab (n := 400) (x := xf97) rfl (t := [zt284]) (by kernel_rfl) ⟨zt284_ok.1, trivial⟩, trivial⟩
def zt286 : Fact := ⟨87, [.c (.pv (.str [10]))], [], (.c (.ptr 0 0), [zb94])⟩
theorem zt286_ok : Holds (ev X E0) [zt286] := ⟨ev_tab (n := 400) (x := xf87) rfl (t := []) (by kernel_rfl) trivial, trivial⟩
def zt287 : Fact := ⟨88, [.c (.ptr 0 0)], [zb94], (.c (.pv (.int .u64 10)), [zb56])⟩
theorem zt287_ok : Holds (ev X E0) [zt287] := ⟨ev_tab (n := 400) (x := xf88) rfl (t := [zt278]) (by kernel_rfl) ⟨zt278_ok.1, trivial⟩, trivial⟩
def zt288 : Fact := ⟨90, [.c (.ptr 0 0), .c (.pv (.int .i64 1))], [zb95, zb56], (.c (zi), [zb95, zb56])⟩
theorem zt288_ok : Holds (ev X E0) [zt288] := ⟨ev_tab (n := 400) (x := xf90) rfl (t := [zt223]) (by kernel_rfl) ⟨zt223_ok.1, trivial⟩, trivial⟩
def zt289 : Fact := ⟨91, [.c (.ptr 0 0), .c (.pv (.int .i64 1)), .c (.pv (.int .i64 32))], [zb95, zb56], (.c (zs), [zb95, zb56])⟩
theorem zt289_ok : Holds (ev X E0) [zt289] := ⟨ev_tab (n := 400) (x := xf91) rfl (t := [zt223]) (by kernel_rfl) ⟨zt223_ok.1, trivial⟩, trivial⟩
def zt290 : Fact := ⟨90, [.c (.ptr 0 0), .c (.pv (.int .i64 2))], [zb95, zb56], (.c (zi), [zb95, zb56])⟩
theorem zt290_ok : Holds (ev X E0) [zt290] := ⟨ev_tab (n := 400) (x := xf90) rfl (t := [zt224]) (by kernel_rfl) ⟨zt224_ok.1, trivial⟩, trivial⟩
def zt291 : Fact := ⟨92, [.c (.ptr 0 0), .c (.pv (.int .i64 2))], [zb95, zb56], (.c (zd), [zb95, zb56])⟩
theorem zt291_ok : Holds (ev X E0) [zt291] := ⟨ev_tab (n := 400) (x := xf92) rfl (t := [zt290, zt92]) (by kernel_rfl) ⟨zt290_ok.1, zt92_ok.1, trivial⟩, trivial⟩
def zt292 : Fact := ⟨90, [.c (.ptr 0 0), .c (.pv (.int .i64 4))], [zb95, zb56], (.c (zi), [zb95, zb56])⟩
theorem zt292_ok : Holds (ev X E0) [zt292] := ⟨ev_tab (n := 400) (x := xf90) rfl (t := [zt225]) (by kernel_rfl) ⟨zt225_ok.1, trivial⟩, trivial⟩
def zt293 : Fact := ⟨90, [.c (.ptr 0 0), .c (.pv (.int .i64 8))], [zb95, zb56], (.c (zi), [zb95, zb56])⟩
theorem zt293_ok : Holds (ev X E0) [zt293] := ⟨ev_tab (n := 400) (x := xf90) rfl (t := [zt243]) (by kernel_rfl) ⟨zt243_ok.1, trivial⟩, trivial⟩
def zt294 : Fact := ⟨90, [.c (.ptr 0 0), .c (.pv (.int .i64 16))], [zb95, zb56], (.c (zi), [zb95, zb56])⟩
theorem zt294_ok : Holds (ev X E0) [zt294] := ⟨ev_tab (n := 400) (x := xf90) rfl (t := [zt245]) (by kernel_rfl) ⟨zt245_ok.1, trivial⟩, trivial⟩
def zt295 : Fact := ⟨92, [.c (.ptr 0 0), .c (.pv (.int .i64 16))], [zb95, zb56], (.c (zd), [zb95, zb56])⟩
theorem zt295_ok : Holds (ev X E0) [zt295] := ⟨ev_tab (n := 400) (x := xf92) rfl (t := [zt294, zt92]) (by kernel_rfl) ⟨zt294_ok.1, zt92_ok.1, trivial⟩, trivial⟩
def zt296 : Fact := ⟨91, [.c (.ptr 0 0), .c (.pv (.int .i64 32)), .c (.pv (.int .i64 32))], [zb95, zb56], (.c (zs), [zb95, zb56])⟩
theorem zt296_ok : Holds (ev X E0) [zt296] := ⟨ev_tab (n := 400) (x := xf91) rfl (t := [zt228]) (by kernel_rfl) ⟨zt228_ok.1, trivial⟩, trivial⟩
def zt297 : Fact := ⟨90, [.c (.ptr 0 0), .c (.pv (.int .i64 256))], [zb95, zb56], (.c (zi), [zb95, zb56])⟩
theorem zt297_ok : Holds (ev X E0) [zt297] := ⟨ev_tab (n := 400) (x := xf90) rfl (t := [zt247]) (by kernel_rfl) ⟨zt247_ok.1, trivial⟩, trivial⟩
def zt298 : Fact := ⟨90, [.c (.ptr 0 0), .c (.pv (.int .i64 512))], [zb95, zb56], (.c (zi), [zb95, zb56])⟩
theorem zt298_ok : Holds (ev X E0) [zt298] := ⟨ev_tab (n := 400) (x := xf90) rfl (t := [zt249]) (by kernel_rfl) ⟨zt249_ok.1, trivial⟩, trivial⟩
def zt299 : Fact := ⟨92, [.c (.ptr 0 0), .c (.pv (.int .i64 512))], [zb95, zb56], (.c (zd), [zb95, zb56])⟩
theorem zt299_ok : Holds (ev X E0) [zt299] := ⟨ev_tab (n := 400) (x := xf92) rfl (t := [zt298, zt92]) (by kernel_rfl) ⟨zt298_ok.1, zt92_ok.1, trivial⟩, trivial⟩
def zt300 : Fact := ⟨91, [.c (.ptr 0 0), .c (.pv (.int .i64 2048)), .c (.pv (.int .i64 2000))], [zb95, zb56], (.c (zs), [zb95, zb56])⟩
theorem zt300_ok : Holds (ev X E0) [zt300] := ⟨ev_tab (n := 400) (x := xf91) rfl (t := [zt232]) (by kernel_rfl) ⟨zt232_ok.1, trivial⟩, trivial⟩
def zt301 : Fact := ⟨45, [.c (.pv (.str [10]))], [], (.tup [zu76, .c (zi)], [])⟩
theorem zt301_ok : Holds (ev X E0) [zt301] := ⟨ev_tab (n := 400) (x := xf45) rfl (t := [zt286, zt287, zt130, zt288, zt289, zt290, zt291, zt292, zt293, zt295, zt296, zt229, zt230, zt297, zt299, zt231, zt300, zt131, zt238]) (by kernel_rfl) ⟨zt286_ok.1, zt287_ok.1, zt130_ok.1, zt288_ok.1, zt289_ok.1, zt290_ok.1, zt291_ok.1, zt292_ok.1, zt293_ok.1, zt295_ok.1, zt296_ok.1, zt229_ok.1, zt230_ok.1, zt297_ok.1, zt299_ok.1, zt231_ok.1, zt300_ok.1, zt131_ok.1, zt238_ok.1, trivial⟩, trivial⟩
def zt302 : Fact := ⟨46, [.c (.pv (.str [2, 2, 5, 10, 1, 10]))], [], (.tup [.c (.own 2367 21 [zw85, zw86]), .c (zi)], [])⟩
theorem zt302_ok : Holds (ev X E0) [zt302] := ⟨ev_tab (n := 400) (x := xf46) rfl (t := [zt257, zt261, zt265, zt266, zt281, zt285, zt130, zt301, zt131]) (by kernel_rfl) ⟨zt257_ok.1, zt261_ok.1, zt265_ok.1, zt266_ok.1, zt281_ok.1, zt285_ok.1, zt130_ok.1, zt301_ok.1, zt131_ok.1, trivial⟩, trivial⟩
def zt303 : Fact := ⟨86, [.c (.pv (zw57)), .c (.pv (zw18))], [], (.c (zt), [])⟩
theorem zt303_ok : Holds (ev X E0) [zt303] := ⟨ev_tab (n := 400) (x := xf86) rfl (t := []) (by kernel_rfl) trivial, trivial⟩
def zt304 : Fact := ⟨42, [zu58, zu19], [], (.c (zt), [])⟩
theorem zt304_ok : Holds (ev X E0) [zt304] := ⟨ev_tab (n := 400) (x := xf42) rfl (t := [zt303]) (by kernel_rfl) ⟨zt303_ok.1, trivial⟩, trivial⟩
def zt305 : Fact := ⟨78, [zu96], [], (zu97, [])⟩
theorem zt305_ok : Holds (ev X E0) [zt305] := ⟨ev_tab (n := 400) (x := xf78) rfl (t := [zt0, zt1, zt2, zt3, zt4, zt5, zt6, zt7, zt8, zt9]) (by kernel_rfl) ⟨zt0_ok.1, zt1_ok.1, zt2_ok.1, zt3_ok.1, zt4_ok.1, zt5_ok.1, zt6_ok.1, zt7_ok.1, zt8_ok.1, zt9_ok.1, trivial⟩, trivial⟩
def zt306 : Fact := ⟨42, [zu97, zu96], [], (.c (zf), [])⟩
theorem zt306_ok : Holds (ev X E0) [zt306] := ⟨ev_tab (n := 400) (x := xf42) rfl (t := []) (by kernel_rfl) trivial, trivial⟩
def zt307 : Fact := ⟨40, [zu96], [], (.c (.pv (.int .i64 1)), [])⟩
theorem zt307_ok : Holds (ev X E0) [zt307] := ⟨ev_tab (n := 400) (x := xf40) rfl (t := [zt305, zt11, zt236, zt306]) (by kernel_rfl) ⟨zt305_ok.1, zt11_ok.1, zt236_ok.1, zt306_ok.1, trivial⟩, trivial⟩
def zt308 : Fact := ⟨40, [zu98], [], (.c (.pv (.int .i64 3)), [])⟩
theorem zt308_ok : Holds (ev X E0) [zt308] := ⟨ev_tab (n := 400) (x := xf40) rfl (t := []) (by kernel_rfl) trivial, trivial⟩
def zt309 : Fact := ⟨42, [zu1, zu19], [], (.c (zf), [])⟩
theorem zt309_ok : Holds (ev X E0) [zt309] := ⟨ev_tab (n := 400) (x := xf42) rfl (t := []) (by kernel_rfl) trivial, trivial⟩
def zt310 : Fact := ⟨36, [], [], (.c (zt), [])⟩
theorem zt310_ok : Holds (ev X E0) [zt310] := ⟨ev_tab (n := 400) (x := xf36) rfl (t := [zt36, zt81, zt136, zt160, zt165, zt190, zt219, zt256, zt302, zt304, zt307, zt308, zt309]) (by kernel_rfl) ⟨zt36_ok.1, zt81_ok.1, zt136_ok.1, zt160_ok.1, zt165_ok.1, zt190_ok.1, zt219_ok.1, zt256_ok.1, zt302_ok.1, zt304_ok.1, zt307_ok.1, zt308_ok.1, zt309_ok.1, trivial⟩, trivial⟩
theorem alive36 : ev X E0 36 [] [] = some (.c (zt), []) := zt310_ok.1
end Go.Sx.Tryd.Calive36
