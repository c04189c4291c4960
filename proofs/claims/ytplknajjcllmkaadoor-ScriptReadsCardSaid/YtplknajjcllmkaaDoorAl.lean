/- Closed calls, each out of those that it makes. Printed by closed.py. -/
import Derived.Test.YtplknajjcllmkaaDoorSxLim
import Derived.Test.YtplknajjcllmkaaDoorXS
namespace Go.Sx.Tryd.Calive36
open Go Go.Sx Go.Sx.Tryd
abbrev H1 (z : Fact) : Prop := Holds (ev X E0) [z]
theorem t0 {f : Nat} {x : XFunc} (hx : X f = some x) {a : List AV} {b : List Box} {r : AV × List Box} (h : runF (tabOr []) 400 x a b = some r) : ev X E0 f a b = some r := ev_tab hx (t := []) h trivial
theorem t1 {f : Nat} {x : XFunc} (hx : X f = some x) {a : List AV} {b : List Box} {r : AV × List Box} {t : List Fact} (h : runF (tabOr t) 400 x a b = some r) (ht : Holds (ev X E0) t) : ev X E0 f a b = some r := ev_tab hx h ht
abbrev h74 (a b : Int) (r : CV) : Fact := ⟨74, [.c (.pv (.int .i64 a)), .c (.pv (.int .i64 b))], [], (.c r, [])⟩
abbrev zi : CV := .pv (.int .i64 0)
abbrev zd : CV := .pv (.int .i32 0)
abbrev zs : CV := .pv (.str [])
abbrev zf : CV := .pv (.bool false)
abbrev zt : CV := .pv (.bool true)
abbrev zj : PV := .int .i64 0
abbrev zk : PV := .int .i32 0
def zw0 : PV := .sl .nil 0 []
def zu1 : AV := .agg [.pv (.int .i64 5), zi, zs, zi, zi, zi, zi, zi, zi, zi, zd, zd, zi, .pv (.int .i64 5), zd, zi, zi, zf, .pv (zw0), zs, zs]
def zb5 : Box := .cells [.pv (zw0)]
def zb6 : Box := .cells [.own 1983 1 [.int .u8 5]]
def zw7 : PV := .sl .full 1 [zj]
def zb8 : Box := .cells [.pv (.int .i64 5), zi, zs, zi, zi, zi, zi, zi, zi, zi, zd, zd, zi, .pv (.int .i64 5), zd, zi, zi, zf, .pv (zw0), zs, zs]
def zb9 : Box := .cells [.ptr 2 0]
def zb10 : Box := .cells [.own 0 1 [.int .u8 5]]
def zw11 : PV := .sl .full 1 [zj, zj, zj, zj, zj, zj, zj, zj]
def zw14 : PV := .sl .full 1 [.int .i64 5]
def zb15 : Box := .cells [.own 1280 1 [.int .u8 5, .int .u8 10]]
def zb16 : Box := .cells [.own 0 1 [.int .u8 5, .int .u8 10]]
def zw17 : PV := .agg [.int .i64 1, .int .i64 1, .int .i64 (-2)]
def zw18 : PV := .sl .full 3 [zw17]
def zu19 : AV := .agg [.pv (.int .i64 4), zi, zs, zi, zi, zi, zi, zi, zi, zi, zd, zd, zi, zi, .pv (.int .i32 3), zi, zi, zf, .pv (zw18), .pv (.str [120]), zs]
def zb23 : Box := .cells [.own 1983 1 [.int .u8 4]]
def zb24 : Box := .cells [.pv (.int .i64 4), zi, zs, zi, zi, zi, zi, zi, zi, zi, zd, zd, zi, zi, .pv (.int .i32 3), zi, zi, zf, .pv (zw18), .pv (.str [120]), zs]
def zb25 : Box := .cells [.own 0 1 [.int .u8 4]]
def zw28 : PV := .sl .full 1 [.int .i64 3]
def zb29 : Box := .cells [.own 1280 1 [.int .u8 4, .int .u8 6]]
def zb30 : Box := .cells [.own 0 1 [.int .u8 4, .int .u8 6]]
def zb32 : Box := .cells [.own 1151 1 [.int .u8 4, .int .u8 6, .int .u8 1, .int .u8 120]]
def zb33 : Box := .cells [.own 0 1 [.int .u8 4, .int .u8 6, .int .u8 1, .int .u8 120]]
def zb34 : Box := .cells [.own 1983 1 [.int .u8 4, .int .u8 6, .int .u8 1, .int .u8 120, .int .u8 1]]
def zb35 : Box := .cells [.own 0 1 [.int .u8 4, .int .u8 6, .int .u8 1, .int .u8 120, .int .u8 1]]
def zb37 : Box := .cells [.own 768 1 [.int .u8 4, .int .u8 6, .int .u8 1, .int .u8 120, .int .u8 1, .int .u8 2]]
def zb38 : Box := .cells [.own 0 1 [.int .u8 4, .int .u8 6, .int .u8 1, .int .u8 120, .int .u8 1, .int .u8 2]]
def zu44 : AV := .agg [.pv (.int .i64 1), .pv (.int .i64 (-2))]
def zb45 : Box := .cells [.own 704 1 [.int .u8 4, .int .u8 6, .int .u8 1, .int .u8 120, .int .u8 1, .int .u8 2, .int .u8 2, .int .u8 3]]
def zb46 : Box := .cells [.own 0 1 [.int .u8 4, .int .u8 6, .int .u8 1, .int .u8 120, .int .u8 1, .int .u8 2, .int .u8 2, .int .u8 3]]
def zb47 : Box := .cells [.pv (.str [4, 6, 1, 120, 1, 2, 2, 3]), zi]
def zb48 : Box := .cells [.pv (.str [6, 1, 120, 1, 2, 2, 3]), zi]
def zb49 : Box := .cells [.ptr 1 0, .pv (.int .i64 4), zi]
def zb50 : Box := .cells [.pv (.str [1, 120, 1, 2, 2, 3]), zi]
def zb52 : Box := .cells [.pv (.str [1, 2, 2, 3]), zi]
def zb54 : Box := .cells [.pv (.str [2, 2, 3]), zi]
def zb55 : Box := .cells [.pv (.str [2, 3]), zi]
def zb56 : Box := .cells [zs, zi]
def zw57 : PV := .sl .shut 3 [zw17]
def zu58 : AV := .agg [.pv (.int .i64 4), zi, zs, zi, zi, zi, zi, zi, zi, zi, zd, zd, zi, zi, .pv (.int .i32 3), zi, zi, zf, .pv (zw57), .pv (.str [120]), zs]
def zu59 : AV := .agg [.pv (.int .i64 4), zi, zs, zi, zi, zi, zi, zi, zi, zi, zd, zd, zi, zi, .pv (.int .i32 3), zi, zi, zf, .own 8767 3 [zw17], .pv (.str [120]), zs]
def zb60 : Box := .cells [.pv (.str [5]), zi]
def zb61 : Box := .cells [.ptr 1 0, .pv (.int .i64 5), zi]
def zb62 : Box := .cells [zs, .pv (.int .i64 2)]
def zu63 : AV := .agg [zi, zi, zs, zi, zi, zi, zi, zi, zi, zi, zd, zd, zi, zi, zd, zi, zi, zf, .pv (zw0), zs, zs]
def zb65 : Box := .cells [.pv (.str [5, 10, 0]), zi]
def zb66 : Box := .cells [.pv (.str [10, 0]), zi]
def zb67 : Box := .cells [.pv (.str [0]), zi]
def zb68 : Box := .cells [.pv (.str [5, 128, 128, 128, 128, 16]), zi]
def zb69 : Box := .cells [.pv (.str [128, 128, 128, 128, 16]), zi]
def zu70 : AV := .agg [.pv (.int .i64 5), zi, zs, zi, zi, zi, zi, zi, zi, zi, zd, zd, zi, .pv (.int .i64 2147483648), zd, zi, zi, zf, .pv (zw0), zs, zs]
def zb72 : Box := .cells [.own 1983 1 [.int .u8 2]]
def zb73 : Box := .cells [.own 0 1 [.int .u8 2]]
def zb75 : Box := .cells [.own 1151 1 [.int .u8 2, .int .u8 2, .int .u8 5, .int .u8 10]]
def zu76 : AV := .agg [.pv (.int .i64 10), zi, zs, zi, zi, zi, zi, zi, zi, zi, zd, zd, zi, zi, zd, zi, zi, zf, .pv (zw0), zs, zs]
def zb78 : Box := .cells [.own 1983 1 [.int .u8 10]]
def zb79 : Box := .cells [.pv (.int .i64 10), zi, zs, zi, zi, zi, zi, zi, zi, zi, zd, zd, zi, zi, zd, zi, zi, zf, .pv (zw0), zs, zs]
def zb80 : Box := .cells [.own 0 1 [.int .u8 10]]
def zb81 : Box := .cells [.own 0 1 [.int .u8 2, .int .u8 2, .int .u8 5, .int .u8 10]]
def zb83 : Box := .cells [.own 1151 1 [.int .u8 2, .int .u8 2, .int .u8 5, .int .u8 10, .int .u8 1, .int .u8 10]]
def zb84 : Box := .cells [.own 0 1 [.int .u8 2, .int .u8 2, .int .u8 5, .int .u8 10, .int .u8 1, .int .u8 10]]
def zw85 : PV := .agg [.int .i64 5, zj, .str [], zj, zj, zj, zj, zj, zj, zj, zk, zk, zj, .int .i64 5, zk, zj, zj, .bool false, zw0, .str [], .str []]
def zw86 : PV := .agg [.int .i64 10, zj, .str [], zj, zj, zj, zj, zj, zj, zj, zk, zk, zj, zj, zk, zj, zj, .bool false, zw0, .str [], .str []]
def zw87 : PV := .sl .full 21 [zw85, zw86]
def zb88 : Box := .cells [.pv (.str [2, 2, 5, 10, 1, 10]), zi]
def zb90 : Box := .cells [.pv (.str [2, 5, 10, 1, 10]), zi]
def zb92 : Box := .cells [.pv (.str [1, 10]), zi]
def zb93 : Box := .cells [.pv (.str [5, 10]), zi]
def zb94 : Box := .cells [.pv (.str [10]), zi]
def zb95 : Box := .cells [.ptr 1 0, .pv (.int .i64 10), zi]
def zu96 : AV := .agg [.pv (.int .i64 5), zi, zs, zi, zi, zi, zi, zi, zi, zi, zd, zd, .pv (.int .i64 1), zi, zd, zi, zi, zf, .pv (zw0), zs, zs]
def zu98 : AV := .agg [.pv (.int .i64 11), zi, zs, zi, zi, zi, zi, zi, zi, zi, zd, zd, zi, zi, zd, zi, zi, zf, .pv (zw0), zs, zs]
def zt0 : Fact := h74 5 1 (zf)
theorem zt0_ok : H1 zt0 := ⟨t0 (x := xf74) rfl (by kernel_rfl), trivial⟩
def zt5 : Fact := h74 5 32 (zf)
theorem zt5_ok : H1 zt5 := ⟨t0 (x := xf74) rfl (by kernel_rfl), trivial⟩
def zt6 : Fact := h74 5 64 (zf)
theorem zt6_ok : H1 zt6 := ⟨t0 (x := xf74) rfl (by kernel_rfl), trivial⟩
def zt7 : Fact := h74 5 128 (zf)
theorem zt7_ok : H1 zt7 := ⟨t0 (x := xf74) rfl (by kernel_rfl), trivial⟩
def zt8 : Fact := h74 5 1024 (zf)
theorem zt8_ok : H1 zt8 := ⟨t0 (x := xf74) rfl (by kernel_rfl), trivial⟩
def zt9 : Fact := h74 5 2048 (zf)
theorem zt9_ok : H1 zt9 := ⟨t0 (x := xf74) rfl (by kernel_rfl), trivial⟩
def zt19 : Fact := ⟨40, [zu1], [], (.c (zi), [])⟩
theorem zt19_ok : H1 zt19 := ⟨ev_of (n := 60) (by kernel_rfl), trivial⟩
def zt20 : Fact := ⟨48, [], [], (.c (.ptr 0 0), [zb5])⟩
theorem zt20_ok : H1 zt20 := ⟨t0 (x := xf48) rfl (by kernel_rfl), trivial⟩
def zt21 : Fact := ⟨49, [.c (.ptr 0 0), .c (.pv (.int .u64 5))], [zb5], (.tup [], [zb6])⟩
theorem zt21_ok : H1 zt21 := ⟨t0 (x := xf49) rfl (by kernel_rfl), trivial⟩
def zt22 : Fact := ⟨73, [.c (.pv (.int .i64 1)), .c (.pv (zw7)), .c (.ptr 0 0), .c (.ptr 1 0)], [zb8, zb9, zb10], (.tup [], [zb8, zb9, zb10])⟩
theorem zt22_ok : H1 zt22 := ⟨ev_of (n := 60) (by kernel_rfl), trivial⟩
def zt23 : Fact := ⟨73, [.c (.pv (.int .i64 2)), .c (.pv (zw11)), .c (.ptr 0 0), .c (.ptr 1 0)], [zb8, zb9, zb10], (.tup [], [zb8, zb9, zb10])⟩
theorem zt23_ok : H1 zt23 := ⟨ev_of (n := 60) (by kernel_rfl), trivial⟩
def zt24 : Fact := ⟨73, [.c (.pv (.int .i64 4)), .c (.pv (zw7)), .c (.ptr 0 0), .c (.ptr 1 0)], [zb8, zb9, zb10], (.tup [], [zb8, zb9, zb10])⟩
theorem zt24_ok : H1 zt24 := ⟨ev_of (n := 60) (by kernel_rfl), trivial⟩
def zt28 : Fact := ⟨73, [.c (.pv (.int .i64 8)), .c (.pv (zw14)), .c (.ptr 0 0), .c (.ptr 1 0)], [zb8, zb9, zb10], (.tup [], [zb8, zb9, zb15])⟩
theorem zt28_ok : H1 zt28 := ⟨ev_of (n := 60) (by kernel_rfl), trivial⟩
def zt30 : Fact := ⟨73, [.c (.pv (.int .i64 16)), .c (.pv (zw7)), .c (.ptr 0 0), .c (.ptr 1 0)], [zb8, zb9, zb16], (.tup [], [zb8, zb9, zb16])⟩
theorem zt30_ok : H1 zt30 := ⟨ev_of (n := 60) (by kernel_rfl), trivial⟩
def zt32 : Fact := ⟨73, [.c (.pv (.int .i64 256)), .c (.pv (zw14)), .c (.ptr 0 0), .c (.ptr 1 0)], [zb8, zb9, zb16], (.tup [], [zb8, zb9, zb16])⟩
theorem zt32_ok : H1 zt32 := ⟨ev_of (n := 60) (by kernel_rfl), trivial⟩
def zt34 : Fact := ⟨73, [.c (.pv (.int .i64 512)), .c (.pv (zw7)), .c (.ptr 0 0), .c (.ptr 1 0)], [zb8, zb9, zb16], (.tup [], [zb8, zb9, zb16])⟩
theorem zt34_ok : H1 zt34 := ⟨ev_of (n := 60) (by kernel_rfl), trivial⟩
def zt35 : Fact := ⟨51, [.c (.ptr 0 0)], [zb16], (.c (.pv (.str [5, 10])), [zb16])⟩
theorem zt35_ok : H1 zt35 := ⟨t0 (x := xf51) rfl (by kernel_rfl), trivial⟩
def zt36 : Fact := ⟨38, [zu1], [], (.tup [.c (.pv (.str [5, 10])), .c (zi)], [])⟩
theorem zt36_ok : H1 zt36 := ⟨t1 (x := xf38) rfl (t := [zt19, zt20, zt21, zt22, zt0, zt23, zt24, zt28, zt30, zt5, zt6, zt7, zt32, zt34, zt8, zt9, zt35]) (by kernel_rfl) ⟨zt19_ok.1, zt20_ok.1, zt21_ok.1, zt22_ok.1, zt0_ok.1, zt23_ok.1, zt24_ok.1, zt28_ok.1, zt30_ok.1, zt5_ok.1, zt6_ok.1, zt7_ok.1, zt32_ok.1, zt34_ok.1, zt8_ok.1, zt9_ok.1, zt35_ok.1, trivial⟩, trivial⟩
def zt37 : Fact := h74 4 1 (zf)
theorem zt37_ok : H1 zt37 := ⟨t0 (x := xf74) rfl (by kernel_rfl), trivial⟩
def zt42 : Fact := h74 4 32 (zt)
theorem zt42_ok : H1 zt42 := ⟨t0 (x := xf74) rfl (by kernel_rfl), trivial⟩
def zt43 : Fact := h74 4 64 (zt)
theorem zt43_ok : H1 zt43 := ⟨t0 (x := xf74) rfl (by kernel_rfl), trivial⟩
def zt44 : Fact := h74 4 128 (zf)
theorem zt44_ok : H1 zt44 := ⟨t0 (x := xf74) rfl (by kernel_rfl), trivial⟩
def zt45 : Fact := h74 4 1024 (zf)
theorem zt45_ok : H1 zt45 := ⟨t0 (x := xf74) rfl (by kernel_rfl), trivial⟩
def zt46 : Fact := h74 4 2048 (zf)
theorem zt46_ok : H1 zt46 := ⟨t0 (x := xf74) rfl (by kernel_rfl), trivial⟩
def zt55 : Fact := ⟨40, [zu19], [], (.c (zi), [])⟩
theorem zt55_ok : H1 zt55 := ⟨ev_of (n := 60) (by kernel_rfl), trivial⟩
def zt56 : Fact := ⟨49, [.c (.ptr 0 0), .c (.pv (.int .u64 4))], [zb5], (.tup [], [zb23])⟩
theorem zt56_ok : H1 zt56 := ⟨t0 (x := xf49) rfl (by kernel_rfl), trivial⟩
def zt57 : Fact := ⟨73, [.c (.pv (.int .i64 1)), .c (.pv (zw7)), .c (.ptr 0 0), .c (.ptr 1 0)], [zb24, zb9, zb25], (.tup [], [zb24, zb9, zb25])⟩
theorem zt57_ok : H1 zt57 := ⟨ev_of (n := 60) (by kernel_rfl), trivial⟩
def zt58 : Fact := ⟨73, [.c (.pv (.int .i64 2)), .c (.pv (zw11)), .c (.ptr 0 0), .c (.ptr 1 0)], [zb24, zb9, zb25], (.tup [], [zb24, zb9, zb25])⟩
theorem zt58_ok : H1 zt58 := ⟨ev_of (n := 60) (by kernel_rfl), trivial⟩
def zt59 : Fact := ⟨73, [.c (.pv (.int .i64 4)), .c (.pv (zw7)), .c (.ptr 0 0), .c (.ptr 1 0)], [zb24, zb9, zb25], (.tup [], [zb24, zb9, zb25])⟩
theorem zt59_ok : H1 zt59 := ⟨ev_of (n := 60) (by kernel_rfl), trivial⟩
def zt61 : Fact := ⟨73, [.c (.pv (.int .i64 8)), .c (.pv (zw7)), .c (.ptr 0 0), .c (.ptr 1 0)], [zb24, zb9, zb25], (.tup [], [zb24, zb9, zb25])⟩
theorem zt61_ok : H1 zt61 := ⟨ev_of (n := 60) (by kernel_rfl), trivial⟩
def zt65 : Fact := ⟨73, [.c (.pv (.int .i64 16)), .c (.pv (zw28)), .c (.ptr 0 0), .c (.ptr 1 0)], [zb24, zb9, zb25], (.tup [], [zb24, zb9, zb29])⟩
theorem zt65_ok : H1 zt65 := ⟨ev_of (n := 60) (by kernel_rfl), trivial⟩
def zt67 : Fact := ⟨50, [.c (.ptr 0 0), .c (.pv (.str [120]))], [zb30], (.tup [], [zb32])⟩
theorem zt67_ok : H1 zt67 := ⟨ev_of (n := 60) (by kernel_rfl), trivial⟩
def zt68 : Fact := ⟨49, [.c (.ptr 0 0), .c (.pv (.int .u64 1))], [zb33], (.tup [], [zb34])⟩
theorem zt68_ok : H1 zt68 := ⟨t0 (x := xf49) rfl (by kernel_rfl), trivial⟩
def zt70 : Fact := ⟨75, [.c (.ptr 0 0), .c (.pv (.int .i64 1))], [zb35], (.tup [], [zb37])⟩
theorem zt70_ok : H1 zt70 := ⟨ev_of (n := 60) (by kernel_rfl), trivial⟩
def zt75 : Fact := ⟨76, [.c (.ptr 0 0), zu44], [zb38], (.tup [], [zb45])⟩
theorem zt75_ok : H1 zt75 := ⟨ev_of (n := 60) (by kernel_rfl), trivial⟩
def zt77 : Fact := ⟨73, [.c (.pv (.int .i64 256)), .c (.pv (zw7)), .c (.ptr 0 0), .c (.ptr 1 0)], [zb24, zb9, zb46], (.tup [], [zb24, zb9, zb46])⟩
theorem zt77_ok : H1 zt77 := ⟨ev_of (n := 60) (by kernel_rfl), trivial⟩
def zt79 : Fact := ⟨73, [.c (.pv (.int .i64 512)), .c (.pv (zw28)), .c (.ptr 0 0), .c (.ptr 1 0)], [zb24, zb9, zb46], (.tup [], [zb24, zb9, zb46])⟩
theorem zt79_ok : H1 zt79 := ⟨ev_of (n := 60) (by kernel_rfl), trivial⟩
def zt80 : Fact := ⟨51, [.c (.ptr 0 0)], [zb46], (.c (.pv (.str [4, 6, 1, 120, 1, 2, 2, 3])), [zb46])⟩
theorem zt80_ok : H1 zt80 := ⟨t0 (x := xf51) rfl (by kernel_rfl), trivial⟩
def zt81 : Fact := ⟨38, [zu19], [], (.tup [.c (.pv (.str [4, 6, 1, 120, 1, 2, 2, 3])), .c (zi)], [])⟩
theorem zt81_ok : H1 zt81 := ⟨t1 (x := xf38) rfl (t := [zt55, zt20, zt56, zt57, zt37, zt58, zt59, zt61, zt65, zt42, zt67, zt43, zt68, zt70, zt75, zt44, zt77, zt79, zt45, zt46, zt80]) (by kernel_rfl) ⟨zt55_ok.1, zt20_ok.1, zt56_ok.1, zt57_ok.1, zt37_ok.1, zt58_ok.1, zt59_ok.1, zt61_ok.1, zt65_ok.1, zt42_ok.1, zt67_ok.1, zt43_ok.1, zt68_ok.1, zt70_ok.1, zt75_ok.1, zt44_ok.1, zt77_ok.1, zt79_ok.1, zt45_ok.1, zt46_ok.1, zt80_ok.1, trivial⟩, trivial⟩
def zt82 : Fact := ⟨87, [.c (.pv (.str [4, 6, 1, 120, 1, 2, 2, 3]))], [], (.c (.ptr 0 0), [zb47])⟩
theorem zt82_ok : H1 zt82 := ⟨t0 (x := xf87) rfl (by kernel_rfl), trivial⟩
def zt85 : Fact := ⟨88, [.c (.ptr 0 0)], [zb47], (.c (.pv (.int .u64 4)), [zb48])⟩
theorem zt85_ok : H1 zt85 := ⟨ev_of (n := 60) (by kernel_rfl), trivial⟩
def zt86 : Fact := ⟨89, [.c (.ptr 0 0)], [zb48], (.c (zi), [zb48])⟩
theorem zt86_ok : H1 zt86 := ⟨t0 (x := xf89) rfl (by kernel_rfl), trivial⟩
def zt87 : Fact := ⟨90, [.c (.ptr 0 0), .c (.pv (.int .i64 1))], [zb49, zb48], (.c (zi), [zb49, zb48])⟩
theorem zt87_ok : H1 zt87 := ⟨ev_of (n := 60) (by kernel_rfl), trivial⟩
def zt88 : Fact := ⟨91, [.c (.ptr 0 0), .c (.pv (.int .i64 1)), .c (.pv (.int .i64 32))], [zb49, zb48], (.c (zs), [zb49, zb48])⟩
theorem zt88_ok : H1 zt88 := ⟨ev_of (n := 60) (by kernel_rfl), trivial⟩
def zt89 : Fact := ⟨90, [.c (.ptr 0 0), .c (.pv (.int .i64 2))], [zb49, zb48], (.c (zi), [zb49, zb48])⟩
theorem zt89_ok : H1 zt89 := ⟨ev_of (n := 60) (by kernel_rfl), trivial⟩
def zt93 : Fact := ⟨92, [.c (.ptr 0 0), .c (.pv (.int .i64 2))], [zb49, zb48], (.c (zd), [zb49, zb48])⟩
theorem zt93_ok : H1 zt93 := ⟨ev_of (n := 60) (by kernel_rfl), trivial⟩
def zt94 : Fact := ⟨90, [.c (.ptr 0 0), .c (.pv (.int .i64 4))], [zb49, zb48], (.c (zi), [zb49, zb48])⟩
theorem zt94_ok : H1 zt94 := ⟨ev_of (n := 60) (by kernel_rfl), trivial⟩
def zt95 : Fact := ⟨90, [.c (.ptr 0 0), .c (.pv (.int .i64 8))], [zb49, zb48], (.c (zi), [zb49, zb48])⟩
theorem zt95_ok : H1 zt95 := ⟨ev_of (n := 60) (by kernel_rfl), trivial⟩
def zt105 : Fact := ⟨92, [.c (.ptr 0 0), .c (.pv (.int .i64 16))], [zb49, zb48], (.c (.pv (.int .i32 3)), [zb49, zb50])⟩
theorem zt105_ok : H1 zt105 := ⟨ev_of (n := 60) (by kernel_rfl), trivial⟩
def zt110 : Fact := ⟨91, [.c (.ptr 0 0), .c (.pv (.int .i64 32)), .c (.pv (.int .i64 32))], [zb49, zb50], (.c (.pv (.str [120])), [zb49, zb52])⟩
theorem zt110_ok : H1 zt110 := ⟨ev_of (n := 60) (by kernel_rfl), trivial⟩
def zt114 : Fact := ⟨93, [.c (.ptr 0 0), .c (.pv (.int .i64 16))], [zb52], (.c (.pv (.int .i64 1)), [zb54])⟩
theorem zt114_ok : H1 zt114 := ⟨ev_of (n := 60) (by kernel_rfl), trivial⟩
def zt119 : Fact := ⟨90, [.c (.ptr 0 0), .c (.pv (.int .i64 64))], [zb49, zb54], (.c (.pv (.int .i64 1)), [zb49, zb55])⟩
theorem zt119_ok : H1 zt119 := ⟨ev_of (n := 60) (by kernel_rfl), trivial⟩
def zt125 : Fact := ⟨94, [.c (.ptr 0 0)], [zb55], (zu44, [zb56])⟩
theorem zt125_ok : H1 zt125 := ⟨ev_of (n := 60) (by kernel_rfl), trivial⟩
def zt126 : Fact := ⟨90, [.c (.ptr 0 0), .c (.pv (.int .i64 256))], [zb49, zb56], (.c (zi), [zb49, zb56])⟩
theorem zt126_ok : H1 zt126 := ⟨ev_of (n := 60) (by kernel_rfl), trivial⟩
def zt128 : Fact := ⟨92, [.c (.ptr 0 0), .c (.pv (.int .i64 512))], [zb49, zb56], (.c (zd), [zb49, zb56])⟩
theorem zt128_ok : H1 zt128 := ⟨ev_of (n := 60) (by kernel_rfl), trivial⟩
def zt129 : Fact := ⟨91, [.c (.ptr 0 0), .c (.pv (.int .i64 2048)), .c (.pv (.int .i64 2000))], [zb49, zb56], (.c (zs), [zb49, zb56])⟩
theorem zt129_ok : H1 zt129 := ⟨ev_of (n := 60) (by kernel_rfl), trivial⟩
def zt130 : Fact := ⟨89, [.c (.ptr 0 0)], [zb56], (.c (zi), [zb56])⟩
theorem zt130_ok : H1 zt130 := ⟨t0 (x := xf89) rfl (by kernel_rfl), trivial⟩
def zt131 : Fact := ⟨96, [.c (.ptr 0 0)], [zb56], (.c (zi), [zb56])⟩
theorem zt131_ok : H1 zt131 := ⟨ev_of (n := 60) (by kernel_rfl), trivial⟩
def zt135 : Fact := ⟨40, [zu58], [], (.c (zi), [])⟩
theorem zt135_ok : H1 zt135 := ⟨ev_of (n := 60) (by kernel_rfl), trivial⟩
def zt136 : Fact := ⟨45, [.c (.pv (.str [4, 6, 1, 120, 1, 2, 2, 3]))], [], (.tup [zu59, .c (zi)], [])⟩
theorem zt136_ok : H1 zt136 := ⟨t1 (x := xf45) rfl (t := [zt82, zt85, zt86, zt87, zt88, zt89, zt93, zt94, zt95, zt105, zt110, zt43, zt114, zt119, zt125, zt44, zt126, zt128, zt45, zt129, zt131, zt135]) (by kernel_rfl) ⟨zt82_ok.1, zt85_ok.1, zt86_ok.1, zt87_ok.1, zt88_ok.1, zt89_ok.1, zt93_ok.1, zt94_ok.1, zt95_ok.1, zt105_ok.1, zt110_ok.1, zt43_ok.1, zt114_ok.1, zt119_ok.1, zt125_ok.1, zt44_ok.1, zt126_ok.1, zt128_ok.1, zt45_ok.1, zt129_ok.1, zt131_ok.1, zt135_ok.1, trivial⟩, trivial⟩
def zt137 : Fact := ⟨87, [.c (.pv (.str [5]))], [], (.c (.ptr 0 0), [zb60])⟩
theorem zt137_ok : H1 zt137 := ⟨t0 (x := xf87) rfl (by kernel_rfl), trivial⟩
def zt140 : Fact := ⟨88, [.c (.ptr 0 0)], [zb60], (.c (.pv (.int .u64 5)), [zb56])⟩
theorem zt140_ok : H1 zt140 := ⟨ev_of (n := 60) (by kernel_rfl), trivial⟩
def zt141 : Fact := ⟨90, [.c (.ptr 0 0), .c (.pv (.int .i64 1))], [zb61, zb56], (.c (zi), [zb61, zb56])⟩
theorem zt141_ok : H1 zt141 := ⟨ev_of (n := 60) (by kernel_rfl), trivial⟩
def zt142 : Fact := ⟨91, [.c (.ptr 0 0), .c (.pv (.int .i64 1)), .c (.pv (.int .i64 32))], [zb61, zb56], (.c (zs), [zb61, zb56])⟩
theorem zt142_ok : H1 zt142 := ⟨ev_of (n := 60) (by kernel_rfl), trivial⟩
def zt143 : Fact := ⟨90, [.c (.ptr 0 0), .c (.pv (.int .i64 2))], [zb61, zb56], (.c (zi), [zb61, zb56])⟩
theorem zt143_ok : H1 zt143 := ⟨ev_of (n := 60) (by kernel_rfl), trivial⟩
def zt144 : Fact := ⟨92, [.c (.ptr 0 0), .c (.pv (.int .i64 2))], [zb61, zb56], (.c (zd), [zb61, zb56])⟩
theorem zt144_ok : H1 zt144 := ⟨ev_of (n := 60) (by kernel_rfl), trivial⟩
def zt145 : Fact := ⟨90, [.c (.ptr 0 0), .c (.pv (.int .i64 4))], [zb61, zb56], (.c (zi), [zb61, zb56])⟩
theorem zt145_ok : H1 zt145 := ⟨ev_of (n := 60) (by kernel_rfl), trivial⟩
def zt150 : Fact := ⟨90, [.c (.ptr 0 0), .c (.pv (.int .i64 8))], [zb61, zb56], (.c (zi), [zb61, zb62])⟩
theorem zt150_ok : H1 zt150 := ⟨ev_of (n := 60) (by kernel_rfl), trivial⟩
def zt152 : Fact := ⟨92, [.c (.ptr 0 0), .c (.pv (.int .i64 16))], [zb61, zb62], (.c (zd), [zb61, zb62])⟩
theorem zt152_ok : H1 zt152 := ⟨ev_of (n := 60) (by kernel_rfl), trivial⟩
def zt153 : Fact := ⟨91, [.c (.ptr 0 0), .c (.pv (.int .i64 32)), .c (.pv (.int .i64 32))], [zb61, zb62], (.c (zs), [zb61, zb62])⟩
theorem zt153_ok : H1 zt153 := ⟨ev_of (n := 60) (by kernel_rfl), trivial⟩
def zt154 : Fact := ⟨90, [.c (.ptr 0 0), .c (.pv (.int .i64 256))], [zb61, zb62], (.c (zi), [zb61, zb62])⟩
theorem zt154_ok : H1 zt154 := ⟨ev_of (n := 60) (by kernel_rfl), trivial⟩
def zt156 : Fact := ⟨92, [.c (.ptr 0 0), .c (.pv (.int .i64 512))], [zb61, zb62], (.c (zd), [zb61, zb62])⟩
theorem zt156_ok : H1 zt156 := ⟨ev_of (n := 60) (by kernel_rfl), trivial⟩
def zt157 : Fact := ⟨91, [.c (.ptr 0 0), .c (.pv (.int .i64 2048)), .c (.pv (.int .i64 2000))], [zb61, zb62], (.c (zs), [zb61, zb62])⟩
theorem zt157_ok : H1 zt157 := ⟨ev_of (n := 60) (by kernel_rfl), trivial⟩
def zt159 : Fact := ⟨96, [.c (.ptr 0 0)], [zb62], (.c (.pv (.int .i64 2)), [zb62])⟩
theorem zt159_ok : H1 zt159 := ⟨ev_of (n := 60) (by kernel_rfl), trivial⟩
def zt160 : Fact := ⟨45, [.c (.pv (.str [5]))], [], (.tup [zu63, .c (.pv (.int .i64 2))], [])⟩
theorem zt160_ok : H1 zt160 := ⟨t1 (x := xf45) rfl (t := [zt137, zt140, zt130, zt141, zt142, zt143, zt144, zt145, zt150, zt152, zt153, zt6, zt7, zt154, zt156, zt8, zt157, zt159]) (by kernel_rfl) ⟨zt137_ok.1, zt140_ok.1, zt130_ok.1, zt141_ok.1, zt142_ok.1, zt143_ok.1, zt144_ok.1, zt145_ok.1, zt150_ok.1, zt152_ok.1, zt153_ok.1, zt6_ok.1, zt7_ok.1, zt154_ok.1, zt156_ok.1, zt8_ok.1, zt157_ok.1, zt159_ok.1, trivial⟩, trivial⟩
def zt165 : Fact := ⟨45, [.c (.pv (.str [11]))], [], (.tup [zu63, .c (.pv (.int .i64 3))], [])⟩
theorem zt165_ok : H1 zt165 := ⟨ev_of (n := 60) (by kernel_rfl), trivial⟩
def zt166 : Fact := ⟨87, [.c (.pv (.str [5, 10, 0]))], [], (.c (.ptr 0 0), [zb65])⟩
theorem zt166_ok : H1 zt166 := ⟨t0 (x := xf87) rfl (by kernel_rfl), trivial⟩
def zt169 : Fact := ⟨88, [.c (.ptr 0 0)], [zb65], (.c (.pv (.int .u64 5)), [zb66])⟩
theorem zt169_ok : H1 zt169 := ⟨ev_of (n := 60) (by kernel_rfl), trivial⟩
def zt170 : Fact := ⟨89, [.c (.ptr 0 0)], [zb66], (.c (zi), [zb66])⟩
theorem zt170_ok : H1 zt170 := ⟨t0 (x := xf89) rfl (by kernel_rfl), trivial⟩
def zt171 : Fact := ⟨90, [.c (.ptr 0 0), .c (.pv (.int .i64 1))], [zb61, zb66], (.c (zi), [zb61, zb66])⟩
theorem zt171_ok : H1 zt171 := ⟨ev_of (n := 60) (by kernel_rfl), trivial⟩
def zt172 : Fact := ⟨91, [.c (.ptr 0 0), .c (.pv (.int .i64 1)), .c (.pv (.int .i64 32))], [zb61, zb66], (.c (zs), [zb61, zb66])⟩
theorem zt172_ok : H1 zt172 := ⟨ev_of (n := 60) (by kernel_rfl), trivial⟩
def zt173 : Fact := ⟨90, [.c (.ptr 0 0), .c (.pv (.int .i64 2))], [zb61, zb66], (.c (zi), [zb61, zb66])⟩
theorem zt173_ok : H1 zt173 := ⟨ev_of (n := 60) (by kernel_rfl), trivial⟩
def zt174 : Fact := ⟨92, [.c (.ptr 0 0), .c (.pv (.int .i64 2))], [zb61, zb66], (.c (zd), [zb61, zb66])⟩
theorem zt174_ok : H1 zt174 := ⟨ev_of (n := 60) (by kernel_rfl), trivial⟩
def zt175 : Fact := ⟨90, [.c (.ptr 0 0), .c (.pv (.int .i64 4))], [zb61, zb66], (.c (zi), [zb61, zb66])⟩
theorem zt175_ok : H1 zt175 := ⟨ev_of (n := 60) (by kernel_rfl), trivial⟩
def zt180 : Fact := ⟨90, [.c (.ptr 0 0), .c (.pv (.int .i64 8))], [zb61, zb66], (.c (.pv (.int .i64 5)), [zb61, zb67])⟩
theorem zt180_ok : H1 zt180 := ⟨ev_of (n := 60) (by kernel_rfl), trivial⟩
def zt182 : Fact := ⟨92, [.c (.ptr 0 0), .c (.pv (.int .i64 16))], [zb61, zb67], (.c (zd), [zb61, zb67])⟩
theorem zt182_ok : H1 zt182 := ⟨ev_of (n := 60) (by kernel_rfl), trivial⟩
def zt183 : Fact := ⟨91, [.c (.ptr 0 0), .c (.pv (.int .i64 32)), .c (.pv (.int .i64 32))], [zb61, zb67], (.c (zs), [zb61, zb67])⟩
theorem zt183_ok : H1 zt183 := ⟨ev_of (n := 60) (by kernel_rfl), trivial⟩
def zt184 : Fact := ⟨90, [.c (.ptr 0 0), .c (.pv (.int .i64 256))], [zb61, zb67], (.c (zi), [zb61, zb67])⟩
theorem zt184_ok : H1 zt184 := ⟨ev_of (n := 60) (by kernel_rfl), trivial⟩
def zt186 : Fact := ⟨92, [.c (.ptr 0 0), .c (.pv (.int .i64 512))], [zb61, zb67], (.c (zd), [zb61, zb67])⟩
theorem zt186_ok : H1 zt186 := ⟨ev_of (n := 60) (by kernel_rfl), trivial⟩
def zt187 : Fact := ⟨91, [.c (.ptr 0 0), .c (.pv (.int .i64 2048)), .c (.pv (.int .i64 2000))], [zb61, zb67], (.c (zs), [zb61, zb67])⟩
theorem zt187_ok : H1 zt187 := ⟨ev_of (n := 60) (by kernel_rfl), trivial⟩
def zt189 : Fact := ⟨96, [.c (.ptr 0 0)], [zb67], (.c (.pv (.int .i64 3)), [zb67])⟩
theorem zt189_ok : H1 zt189 := ⟨ev_of (n := 60) (by kernel_rfl), trivial⟩
def zt190 : Fact := ⟨45, [.c (.pv (.str [5, 10, 0]))], [], (.tup [zu63, .c (.pv (.int .i64 3))], [])⟩
theorem zt190_ok : H1 zt190 := ⟨t1 (x := xf45) rfl (t := [zt166, zt169, zt170, zt171, zt172, zt173, zt174, zt175, zt180, zt182, zt183, zt6, zt7, zt184, zt186, zt8, zt187, zt189]) (by kernel_rfl) ⟨zt166_ok.1, zt169_ok.1, zt170_ok.1, zt171_ok.1, zt172_ok.1, zt173_ok.1, zt174_ok.1, zt175_ok.1, zt180_ok.1, zt182_ok.1, zt183_ok.1, zt6_ok.1, zt7_ok.1, zt184_ok.1, zt186_ok.1, zt8_ok.1, zt187_ok.1, zt189_ok.1, trivial⟩, trivial⟩
def zt191 : Fact := ⟨87, [.c (.pv (.str [5, 128, 128, 128, 128, 16]))], [], (.c (.ptr 0 0), [zb68])⟩
theorem zt191_ok : H1 zt191 := ⟨t0 (x := xf87) rfl (by kernel_rfl), trivial⟩
def zt194 : Fact := ⟨88, [.c (.ptr 0 0)], [zb68], (.c (.pv (.int .u64 5)), [zb69])⟩
theorem zt194_ok : H1 zt194 := ⟨ev_of (n := 60) (by kernel_rfl), trivial⟩
def zt195 : Fact := ⟨89, [.c (.ptr 0 0)], [zb69], (.c (zi), [zb69])⟩
theorem zt195_ok : H1 zt195 := ⟨t0 (x := xf89) rfl (by kernel_rfl), trivial⟩
def zt196 : Fact := ⟨90, [.c (.ptr 0 0), .c (.pv (.int .i64 1))], [zb61, zb69], (.c (zi), [zb61, zb69])⟩
theorem zt196_ok : H1 zt196 := ⟨ev_of (n := 60) (by kernel_rfl), trivial⟩
def zt197 : Fact := ⟨91, [.c (.ptr 0 0), .c (.pv (.int .i64 1)), .c (.pv (.int .i64 32))], [zb61, zb69], (.c (zs), [zb61, zb69])⟩
theorem zt197_ok : H1 zt197 := ⟨ev_of (n := 60) (by kernel_rfl), trivial⟩
def zt198 : Fact := ⟨90, [.c (.ptr 0 0), .c (.pv (.int .i64 2))], [zb61, zb69], (.c (zi), [zb61, zb69])⟩
theorem zt198_ok : H1 zt198 := ⟨ev_of (n := 60) (by kernel_rfl), trivial⟩
def zt199 : Fact := ⟨92, [.c (.ptr 0 0), .c (.pv (.int .i64 2))], [zb61, zb69], (.c (zd), [zb61, zb69])⟩
theorem zt199_ok : H1 zt199 := ⟨ev_of (n := 60) (by kernel_rfl), trivial⟩
def zt200 : Fact := ⟨90, [.c (.ptr 0 0), .c (.pv (.int .i64 4))], [zb61, zb69], (.c (zi), [zb61, zb69])⟩
theorem zt200_ok : H1 zt200 := ⟨ev_of (n := 60) (by kernel_rfl), trivial⟩
def zt205 : Fact := ⟨90, [.c (.ptr 0 0), .c (.pv (.int .i64 8))], [zb61, zb69], (.c (.pv (.int .i64 2147483648)), [zb61, zb56])⟩
theorem zt205_ok : H1 zt205 := ⟨ev_of (n := 60) (by kernel_rfl), trivial⟩
def zt207 : Fact := ⟨92, [.c (.ptr 0 0), .c (.pv (.int .i64 16))], [zb61, zb56], (.c (zd), [zb61, zb56])⟩
theorem zt207_ok : H1 zt207 := ⟨ev_of (n := 60) (by kernel_rfl), trivial⟩
def zt208 : Fact := ⟨91, [.c (.ptr 0 0), .c (.pv (.int .i64 32)), .c (.pv (.int .i64 32))], [zb61, zb56], (.c (zs), [zb61, zb56])⟩
theorem zt208_ok : H1 zt208 := ⟨ev_of (n := 60) (by kernel_rfl), trivial⟩
def zt209 : Fact := ⟨90, [.c (.ptr 0 0), .c (.pv (.int .i64 256))], [zb61, zb56], (.c (zi), [zb61, zb56])⟩
theorem zt209_ok : H1 zt209 := ⟨ev_of (n := 60) (by kernel_rfl), trivial⟩
def zt211 : Fact := ⟨92, [.c (.ptr 0 0), .c (.pv (.int .i64 512))], [zb61, zb56], (.c (zd), [zb61, zb56])⟩
theorem zt211_ok : H1 zt211 := ⟨ev_of (n := 60) (by kernel_rfl), trivial⟩
def zt212 : Fact := ⟨91, [.c (.ptr 0 0), .c (.pv (.int .i64 2048)), .c (.pv (.int .i64 2000))], [zb61, zb56], (.c (zs), [zb61, zb56])⟩
theorem zt212_ok : H1 zt212 := ⟨ev_of (n := 60) (by kernel_rfl), trivial⟩
def zt218 : Fact := ⟨40, [zu70], [], (.c (.pv (.int .i64 9)), [])⟩
theorem zt218_ok : H1 zt218 := ⟨ev_of (n := 60) (by kernel_rfl), trivial⟩
def zt219 : Fact := ⟨45, [.c (.pv (.str [5, 128, 128, 128, 128, 16]))], [], (.tup [zu63, .c (.pv (.int .i64 9))], [])⟩
theorem zt219_ok : H1 zt219 := ⟨t1 (x := xf45) rfl (t := [zt191, zt194, zt195, zt196, zt197, zt198, zt199, zt200, zt205, zt207, zt208, zt6, zt7, zt209, zt211, zt8, zt212, zt131, zt218]) (by kernel_rfl) ⟨zt191_ok.1, zt194_ok.1, zt195_ok.1, zt196_ok.1, zt197_ok.1, zt198_ok.1, zt199_ok.1, zt200_ok.1, zt205_ok.1, zt207_ok.1, zt208_ok.1, zt6_ok.1, zt7_ok.1, zt209_ok.1, zt211_ok.1, zt8_ok.1, zt212_ok.1, zt131_ok.1, zt218_ok.1, trivial⟩, trivial⟩
def zt220 : Fact := ⟨49, [.c (.ptr 0 0), .c (.pv (.int .u64 2))], [zb5], (.tup [], [zb72])⟩
theorem zt220_ok : H1 zt220 := ⟨t0 (x := xf49) rfl (by kernel_rfl), trivial⟩
def zt222 : Fact := ⟨50, [.c (.ptr 0 0), .c (.pv (.str [5, 10]))], [zb73], (.tup [], [zb75])⟩
theorem zt222_ok : H1 zt222 := ⟨ev_of (n := 60) (by kernel_rfl), trivial⟩
def zt223 : Fact := h74 10 1 (zf)
theorem zt223_ok : H1 zt223 := ⟨t0 (x := xf74) rfl (by kernel_rfl), trivial⟩
def zt228 : Fact := h74 10 32 (zf)
theorem zt228_ok : H1 zt228 := ⟨t0 (x := xf74) rfl (by kernel_rfl), trivial⟩
def zt229 : Fact := h74 10 64 (zf)
theorem zt229_ok : H1 zt229 := ⟨t0 (x := xf74) rfl (by kernel_rfl), trivial⟩
def zt230 : Fact := h74 10 128 (zf)
theorem zt230_ok : H1 zt230 := ⟨t0 (x := xf74) rfl (by kernel_rfl), trivial⟩
def zt231 : Fact := h74 10 1024 (zf)
theorem zt231_ok : H1 zt231 := ⟨t0 (x := xf74) rfl (by kernel_rfl), trivial⟩
def zt232 : Fact := h74 10 2048 (zf)
theorem zt232_ok : H1 zt232 := ⟨t0 (x := xf74) rfl (by kernel_rfl), trivial⟩
def zt238 : Fact := ⟨40, [zu76], [], (.c (zi), [])⟩
theorem zt238_ok : H1 zt238 := ⟨ev_of (n := 60) (by kernel_rfl), trivial⟩
def zt239 : Fact := ⟨49, [.c (.ptr 0 0), .c (.pv (.int .u64 10))], [zb5], (.tup [], [zb78])⟩
theorem zt239_ok : H1 zt239 := ⟨t0 (x := xf49) rfl (by kernel_rfl), trivial⟩
def zt240 : Fact := ⟨73, [.c (.pv (.int .i64 1)), .c (.pv (zw7)), .c (.ptr 0 0), .c (.ptr 1 0)], [zb79, zb9, zb80], (.tup [], [zb79, zb9, zb80])⟩
theorem zt240_ok : H1 zt240 := ⟨ev_of (n := 60) (by kernel_rfl), trivial⟩
def zt241 : Fact := ⟨73, [.c (.pv (.int .i64 2)), .c (.pv (zw11)), .c (.ptr 0 0), .c (.ptr 1 0)], [zb79, zb9, zb80], (.tup [], [zb79, zb9, zb80])⟩
theorem zt241_ok : H1 zt241 := ⟨ev_of (n := 60) (by kernel_rfl), trivial⟩
def zt242 : Fact := ⟨73, [.c (.pv (.int .i64 4)), .c (.pv (zw7)), .c (.ptr 0 0), .c (.ptr 1 0)], [zb79, zb9, zb80], (.tup [], [zb79, zb9, zb80])⟩
theorem zt242_ok : H1 zt242 := ⟨ev_of (n := 60) (by kernel_rfl), trivial⟩
def zt244 : Fact := ⟨73, [.c (.pv (.int .i64 8)), .c (.pv (zw7)), .c (.ptr 0 0), .c (.ptr 1 0)], [zb79, zb9, zb80], (.tup [], [zb79, zb9, zb80])⟩
theorem zt244_ok : H1 zt244 := ⟨ev_of (n := 60) (by kernel_rfl), trivial⟩
def zt246 : Fact := ⟨73, [.c (.pv (.int .i64 16)), .c (.pv (zw7)), .c (.ptr 0 0), .c (.ptr 1 0)], [zb79, zb9, zb80], (.tup [], [zb79, zb9, zb80])⟩
theorem zt246_ok : H1 zt246 := ⟨ev_of (n := 60) (by kernel_rfl), trivial⟩
def zt248 : Fact := ⟨73, [.c (.pv (.int .i64 256)), .c (.pv (zw7)), .c (.ptr 0 0), .c (.ptr 1 0)], [zb79, zb9, zb80], (.tup [], [zb79, zb9, zb80])⟩
theorem zt248_ok : H1 zt248 := ⟨ev_of (n := 60) (by kernel_rfl), trivial⟩
def zt250 : Fact := ⟨73, [.c (.pv (.int .i64 512)), .c (.pv (zw7)), .c (.ptr 0 0), .c (.ptr 1 0)], [zb79, zb9, zb80], (.tup [], [zb79, zb9, zb80])⟩
theorem zt250_ok : H1 zt250 := ⟨ev_of (n := 60) (by kernel_rfl), trivial⟩
def zt251 : Fact := ⟨51, [.c (.ptr 0 0)], [zb80], (.c (.pv (.str [10])), [zb80])⟩
theorem zt251_ok : H1 zt251 := ⟨t0 (x := xf51) rfl (by kernel_rfl), trivial⟩
def zt252 : Fact := ⟨38, [zu76], [], (.tup [.c (.pv (.str [10])), .c (zi)], [])⟩
theorem zt252_ok : H1 zt252 := ⟨t1 (x := xf38) rfl (t := [zt238, zt20, zt239, zt240, zt223, zt241, zt242, zt244, zt246, zt228, zt229, zt230, zt248, zt250, zt231, zt232, zt251]) (by kernel_rfl) ⟨zt238_ok.1, zt20_ok.1, zt239_ok.1, zt240_ok.1, zt223_ok.1, zt241_ok.1, zt242_ok.1, zt244_ok.1, zt246_ok.1, zt228_ok.1, zt229_ok.1, zt230_ok.1, zt248_ok.1, zt250_ok.1, zt231_ok.1, zt232_ok.1, zt251_ok.1, trivial⟩, trivial⟩
def zt254 : Fact := ⟨50, [.c (.ptr 0 0), .c (.pv (.str [10]))], [zb81], (.tup [], [zb83])⟩
theorem zt254_ok : H1 zt254 := ⟨ev_of (n := 60) (by kernel_rfl), trivial⟩
def zt255 : Fact := ⟨51, [.c (.ptr 0 0)], [zb84], (.c (.pv (.str [2, 2, 5, 10, 1, 10])), [zb84])⟩
theorem zt255_ok : H1 zt255 := ⟨t0 (x := xf51) rfl (by kernel_rfl), trivial⟩
def zt256 : Fact := ⟨39, [.c (.pv (zw87))], [], (.tup [.c (.pv (.str [2, 2, 5, 10, 1, 10])), .c (zi)], [])⟩
theorem zt256_ok : H1 zt256 := ⟨t1 (x := xf39) rfl (t := [zt20, zt220, zt36, zt222, zt252, zt254, zt255]) (by kernel_rfl) ⟨zt20_ok.1, zt220_ok.1, zt36_ok.1, zt222_ok.1, zt252_ok.1, zt254_ok.1, zt255_ok.1, trivial⟩, trivial⟩
def zt257 : Fact := ⟨87, [.c (.pv (.str [2, 2, 5, 10, 1, 10]))], [], (.c (.ptr 0 0), [zb88])⟩
theorem zt257_ok : H1 zt257 := ⟨t0 (x := xf87) rfl (by kernel_rfl), trivial⟩
def zt261 : Fact := ⟨93, [.c (.ptr 0 0), .c (.pv (.int .i64 200))], [zb88], (.c (.pv (.int .i64 2)), [zb90])⟩
theorem zt261_ok : H1 zt261 := ⟨ev_of (n := 60) (by kernel_rfl), trivial⟩
def zt265 : Fact := ⟨97, [.c (.ptr 0 0), .c (.pv (.int .i64 2400))], [zb90], (.c (.pv (.str [5, 10])), [zb92])⟩
theorem zt265_ok : H1 zt265 := ⟨ev_of (n := 60) (by kernel_rfl), trivial⟩
def zt266 : Fact := ⟨89, [.c (.ptr 0 0)], [zb92], (.c (zi), [zb92])⟩
theorem zt266_ok : H1 zt266 := ⟨t0 (x := xf89) rfl (by kernel_rfl), trivial⟩
def zt267 : Fact := ⟨87, [.c (.pv (.str [5, 10]))], [], (.c (.ptr 0 0), [zb93])⟩
theorem zt267_ok : H1 zt267 := ⟨t0 (x := xf87) rfl (by kernel_rfl), trivial⟩
def zt270 : Fact := ⟨88, [.c (.ptr 0 0)], [zb93], (.c (.pv (.int .u64 5)), [zb94])⟩
theorem zt270_ok : H1 zt270 := ⟨ev_of (n := 60) (by kernel_rfl), trivial⟩
def zt271 : Fact := ⟨89, [.c (.ptr 0 0)], [zb94], (.c (zi), [zb94])⟩
theorem zt271_ok : H1 zt271 := ⟨t0 (x := xf89) rfl (by kernel_rfl), trivial⟩
def zt272 : Fact := ⟨90, [.c (.ptr 0 0), .c (.pv (.int .i64 1))], [zb61, zb94], (.c (zi), [zb61, zb94])⟩
theorem zt272_ok : H1 zt272 := ⟨ev_of (n := 60) (by kernel_rfl), trivial⟩
def zt273 : Fact := ⟨91, [.c (.ptr 0 0), .c (.pv (.int .i64 1)), .c (.pv (.int .i64 32))], [zb61, zb94], (.c (zs), [zb61, zb94])⟩
theorem zt273_ok : H1 zt273 := ⟨ev_of (n := 60) (by kernel_rfl), trivial⟩
def zt274 : Fact := ⟨90, [.c (.ptr 0 0), .c (.pv (.int .i64 2))], [zb61, zb94], (.c (zi), [zb61, zb94])⟩
theorem zt274_ok : H1 zt274 := ⟨ev_of (n := 60) (by kernel_rfl), trivial⟩
def zt275 : Fact := ⟨92, [.c (.ptr 0 0), .c (.pv (.int .i64 2))], [zb61, zb94], (.c (zd), [zb61, zb94])⟩
theorem zt275_ok : H1 zt275 := ⟨ev_of (n := 60) (by kernel_rfl), trivial⟩
def zt276 : Fact := ⟨90, [.c (.ptr 0 0), .c (.pv (.int .i64 4))], [zb61, zb94], (.c (zi), [zb61, zb94])⟩
theorem zt276_ok : H1 zt276 := ⟨ev_of (n := 60) (by kernel_rfl), trivial⟩
def zt280 : Fact := ⟨90, [.c (.ptr 0 0), .c (.pv (.int .i64 8))], [zb61, zb94], (.c (.pv (.int .i64 5)), [zb61, zb56])⟩
theorem zt280_ok : H1 zt280 := ⟨ev_of (n := 60) (by kernel_rfl), trivial⟩
def zt281 : Fact := ⟨45, [.c (.pv (.str [5, 10]))], [], (.tup [zu1, .c (zi)], [])⟩
theorem zt281_ok : H1 zt281 := ⟨t1 (x := xf45) rfl (t := [zt267, zt270, zt271, zt272, zt273, zt274, zt275, zt276, zt280, zt207, zt208, zt6, zt7, zt209, zt211, zt8, zt212, zt131, zt19]) (by kernel_rfl) ⟨zt267_ok.1, zt270_ok.1, zt271_ok.1, zt272_ok.1, zt273_ok.1, zt274_ok.1, zt275_ok.1, zt276_ok.1, zt280_ok.1, zt207_ok.1, zt208_ok.1, zt6_ok.1, zt7_ok.1, zt209_ok.1, zt211_ok.1, zt8_ok.1, zt212_ok.1, zt131_ok.1, zt19_ok.1, trivial⟩, trivial⟩
def zt285 : Fact := ⟨97, [.c (.ptr 0 0), .c (.pv (.int .i64 2400))], [zb92], (.c (.pv (.str [10])), [zb56])⟩
theorem zt285_ok : H1 zt285 := ⟨ev_of (n := 60) (by kernel_rfl), trivial⟩
def zt286 : Fact := ⟨87, [.c (.pv (.str [10]))], [], (.c (.ptr 0 0), [zb94])⟩
theorem zt286_ok : H1 zt286 := ⟨t0 (x := xf87) rfl (by kernel_rfl), trivial⟩
def zt287 : Fact := ⟨88, [.c (.ptr 0 0)], [zb94], (.c (.pv (.int .u64 10)), [zb56])⟩
theorem zt287_ok : H1 zt287 := ⟨ev_of (n := 60) (by kernel_rfl), trivial⟩
def zt288 : Fact := ⟨90, [.c (.ptr 0 0), .c (.pv (.int .i64 1))], [zb95, zb56], (.c (zi), [zb95, zb56])⟩
theorem zt288_ok : H1 zt288 := ⟨ev_of (n := 60) (by kernel_rfl), trivial⟩
def zt289 : Fact := ⟨91, [.c (.ptr 0 0), .c (.pv (.int .i64 1)), .c (.pv (.int .i64 32))], [zb95, zb56], (.c (zs), [zb95, zb56])⟩
theorem zt289_ok : H1 zt289 := ⟨ev_of (n := 60) (by kernel_rfl), trivial⟩
def zt290 : Fact := ⟨90, [.c (.ptr 0 0), .c (.pv (.int .i64 2))], [zb95, zb56], (.c (zi), [zb95, zb56])⟩
theorem zt290_ok : H1 zt290 := ⟨ev_of (n := 60) (by kernel_rfl), trivial⟩
def zt291 : Fact := ⟨92, [.c (.ptr 0 0), .c (.pv (.int .i64 2))], [zb95, zb56], (.c (zd), [zb95, zb56])⟩
theorem zt291_ok : H1 zt291 := ⟨ev_of (n := 60) (by kernel_rfl), trivial⟩
def zt292 : Fact := ⟨90, [.c (.ptr 0 0), .c (.pv (.int .i64 4))], [zb95, zb56], (.c (zi), [zb95, zb56])⟩
theorem zt292_ok : H1 zt292 := ⟨ev_of (n := 60) (by kernel_rfl), trivial⟩
def zt293 : Fact := ⟨90, [.c (.ptr 0 0), .c (.pv (.int .i64 8))], [zb95, zb56], (.c (zi), [zb95, zb56])⟩
theorem zt293_ok : H1 zt293 := ⟨ev_of (n := 60) (by kernel_rfl), trivial⟩
def zt295 : Fact := ⟨92, [.c (.ptr 0 0), .c (.pv (.int .i64 16))], [zb95, zb56], (.c (zd), [zb95, zb56])⟩
theorem zt295_ok : H1 zt295 := ⟨ev_of (n := 60) (by kernel_rfl), trivial⟩
def zt296 : Fact := ⟨91, [.c (.ptr 0 0), .c (.pv (.int .i64 32)), .c (.pv (.int .i64 32))], [zb95, zb56], (.c (zs), [zb95, zb56])⟩
theorem zt296_ok : H1 zt296 := ⟨ev_of (n := 60) (by kernel_rfl), trivial⟩
def zt297 : Fact := ⟨90, [.c (.ptr 0 0), .c (.pv (.int .i64 256))], [zb95, zb56], (.c (zi), [zb95, zb56])⟩
theorem zt297_ok : H1 zt297 := ⟨ev_of (n := 60) (by kernel_rfl), trivial⟩
def zt299 : Fact := ⟨92, [.c (.ptr 0 0), .c (.pv (.int .i64 512))], [zb95, zb56], (.c (zd), [zb95, zb56])⟩
theorem zt299_ok : H1 zt299 := ⟨ev_of (n := 60) (by kernel_rfl), trivial⟩
def zt300 : Fact := ⟨91, [.c (.ptr 0 0), .c (.pv (.int .i64 2048)), .c (.pv (.int .i64 2000))], [zb95, zb56], (.c (zs), [zb95, zb56])⟩
theorem zt300_ok : H1 zt300 := ⟨ev_of (n := 60) (by kernel_rfl), trivial⟩
def zt301 : Fact := ⟨45, [.c (.pv (.str [10]))], [], (.tup [zu76, .c (zi)], [])⟩
theorem zt301_ok : H1 zt301 := ⟨t1 (x := xf45) rfl (t := [zt286, zt287, zt130, zt288, zt289, zt290, zt291, zt292, zt293, zt295, zt296, zt229, zt230, zt297, zt299, zt231, zt300, zt131, zt238]) (by kernel_rfl) ⟨zt286_ok.1, zt287_ok.1, zt130_ok.1, zt288_ok.1, zt289_ok.1, zt290_ok.1, zt291_ok.1, zt292_ok.1, zt293_ok.1, zt295_ok.1, zt296_ok.1, zt229_ok.1, zt230_ok.1, zt297_ok.1, zt299_ok.1, zt231_ok.1, zt300_ok.1, zt131_ok.1, zt238_ok.1, trivial⟩, trivial⟩
def zt302 : Fact := ⟨46, [.c (.pv (.str [2, 2, 5, 10, 1, 10]))], [], (.tup [.c (.own 2367 21 [zw85, zw86]), .c (zi)], [])⟩
theorem zt302_ok : H1 zt302 := ⟨t1 (x := xf46) rfl (t := [zt257, zt261, zt265, zt266, zt281, zt285, zt130, zt301, zt131]) (by kernel_rfl) ⟨zt257_ok.1, zt261_ok.1, zt265_ok.1, zt266_ok.1, zt281_ok.1, zt285_ok.1, zt130_ok.1, zt301_ok.1, zt131_ok.1, trivial⟩, trivial⟩
def zt304 : Fact := ⟨42, [zu58, zu19], [], (.c (zt), [])⟩
theorem zt304_ok : H1 zt304 := ⟨ev_of (n := 60) (by kernel_rfl), trivial⟩
def zt307 : Fact := ⟨40, [zu96], [], (.c (.pv (.int .i64 1)), [])⟩
theorem zt307_ok : H1 zt307 := ⟨ev_of (n := 60) (by kernel_rfl), trivial⟩
def zt308 : Fact := ⟨40, [zu98], [], (.c (.pv (.int .i64 3)), [])⟩
theorem zt308_ok : H1 zt308 := ⟨t0 (x := xf40) rfl (by kernel_rfl), trivial⟩
def zt309 : Fact := ⟨42, [zu1, zu19], [], (.c (zf), [])⟩
theorem zt309_ok : H1 zt309 := ⟨t0 (x := xf42) rfl (by kernel_rfl), trivial⟩
def zt310 : Fact := ⟨36, [], [], (.c (zt), [])⟩
theorem zt310_ok : H1 zt310 := ⟨t1 (x := xf36) rfl (t := [zt36, zt81, zt136, zt160, zt165, zt190, zt219, zt256, zt302, zt304, zt307, zt308, zt309]) (by kernel_rfl) ⟨zt36_ok.1, zt81_ok.1, zt136_ok.1, zt160_ok.1, zt165_ok.1, zt190_ok.1, zt219_ok.1, zt256_ok.1, zt302_ok.1, zt304_ok.1, zt307_ok.1, zt308_ok.1, zt309_ok.1, trivial⟩, trivial⟩
theorem alive36 : ev X E0 36 [] [] = some (.c (zt), []) := zt310_ok.1
end Go.Sx.Tryd.Calive36
