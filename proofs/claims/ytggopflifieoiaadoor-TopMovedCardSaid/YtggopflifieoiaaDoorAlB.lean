/- Closed calls, each out of those that it makes. Printed by closed.py. -/
import Derived.Test.YtggopflifieoiaaDoorSxTab
import Derived.Test.YtggopflifieoiaaDoorXTp2
namespace Go.Sx.Tryd.CaliveB
open Go Go.Sx Go.Sx.Tryd
abbrev H1 (z : Fact) : Prop := Holds (ev X E0) [z]
theorem t0 {f : Nat} {x : XFunc} (hx : X f = some x) {a : List AV} {b : List Box} {r : AV × List Box} (h : runF (tabOr []) 400 x a b = some r) : ev X E0 f a b = some r := ev_tab hx (t := []) h trivial
theorem t1 {f : Nat} {x : XFunc} (hx : X f = some x) {a : List AV} {b : List Box} {r : AV × List Box} {t : List Fact} (h : runF (tabOr t) 400 x a b = some r) (ht : Holds (ev X E0) t) : ev X E0 f a b = some r := ev_tab hx h ht
abbrev h74 (a b : Int) (r : CV) : Fact := ⟨74, [.c (.pv (.int .i64 a)), .c (.pv (.int .i64 b))], [], (.c r, [])⟩
abbrev zi : CV := .pv (.int .i64 0)
abbrev zd : CV := .pv (.int .i32 0)
abbrev zs : CV := .pv (.str [])
abbrev zf : CV := .pv (.bool false)
abbrev zt : CV := .pv (.bool true)
abbrev zj : PV := .int .i64 0
abbrev zk : PV := .int .i32 0
def zu1 : AV := .agg [.pv (.int .i64 3), .pv (.int .i64 2), .pv (.int .i64 1), .pv (.int .i64 2), zi, .pv (.int .i64 100), .pv (.int .i32 2), .pv (.int .i64 1), .pv (.int .i64 2), zi]
def zw2 : PV := .agg [.int .i32 5, .int .i32 2, .bool false]
def zw3 : PV := .sl .full 3 [zw2]
def zw6 : PV := .agg [.int .i64 1, zj, .int .i64 100]
def zw7 : PV := .agg [.int .i64 2, zj, .int .i64 (-100)]
def zw8 : PV := .sl .full 3 [zw6, zw7]
def zu9 : AV := .agg [.pv (.int .i64 1), .pv (.int .i32 5), .pv (.int .i32 3), .pv (zw8), zi, zi, .pv (.str [100, 101, 98, 105, 116, 32, 51, 46, 48])]
def zu10 : AV := .agg [.pv (.int .i64 1), zi, .pv (.int .i64 100)]
def zu11 : AV := .agg [.pv (.int .i64 2), zi, .pv (.int .i64 (-100))]
def zb12 : Box := .cells [.pv (.int .i64 1), .pv (.int .i32 5), .pv (.int .i32 3), .pv (zw8), zi, zi, .pv (.str [100, 101, 98, 105, 116, 32, 51, 46, 48])]
def zw14 : PV := .sl .nil 0 []
def zu15 : AV := .agg [.pv (zw14)]
def zw16 : PV := .sl .shut 3 [zw6, zw7]
def zu17 : AV := .agg [.pv (.int .i64 1), .pv (.int .i32 5), .pv (.int .i32 3), .pv (zw16), zi, zi, .pv (.str [100, 101, 98, 105, 116, 32, 51, 46, 48])]
def zw18 : PV := .agg [.int .i64 1, .int .i32 5, .int .i32 3, zw16, zj, zj, .str [100, 101, 98, 105, 116, 32, 51, 46, 48]]
def zu19 : AV := .agg [.own 2431 7 [zw18]]
def zb20 : Box := .cells [.pv (.int .i64 1), .pv (.int .i32 5), .pv (.int .i32 3), .pv (zw16), zi, zi, .pv (.str [100, 101, 98, 105, 116, 32, 51, 46, 48])]
def zb21 : Box := .cells [.pv (.int .i64 1)]
def zb22 : Box := .cells [zi]
def zw23 : PV := .sl .shut 7 [zw18]
def zw24 : PV := .sl .full 1 [.int .i32 9, .int .i32 3, .int .i32 9]
def zw25 : PV := .agg [.int .i64 1, zj, .int .i64 (-100)]
def zw26 : PV := .agg [.int .i64 2, zj, .int .i64 100]
def zw27 : PV := .sl .shut 3 [zw25, zw26]
def zu28 : AV := .agg [.pv (.int .i64 2), .pv (.int .i32 9), .pv (.int .i32 3), .pv (zw27), .pv (.int .i64 1), zi, .pv (.str [100, 101, 98, 105, 116, 32, 51, 46, 48])]
def zu29 : AV := .agg [.pv (.int .i64 1), zi, .pv (.int .i64 (-100))]
def zu30 : AV := .agg [.pv (.int .i64 2), zi, .pv (.int .i64 100)]
def zb31 : Box := .cells [.pv (.int .i64 2), .pv (.int .i32 9), .pv (.int .i32 3), .pv (zw27), .pv (.int .i64 1), zi, .pv (.str [100, 101, 98, 105, 116, 32, 51, 46, 48])]
def zw32 : PV := .sl .shut 7 []
def zu33 : AV := .agg [.pv (zw23)]
def zw34 : PV := .agg [.int .i64 2, .int .i32 9, .int .i32 3, zw27, .int .i64 1, zj, .str [100, 101, 98, 105, 116, 32, 51, 46, 48]]
def zu35 : AV := .agg [.own 2431 7 [zw18, zw34]]
def zw36 : PV := .sl .shut 7 [zw18, zw34]
def zt10 : Fact := ⟨51, [zu1], [], (.c (zt), [])⟩
theorem zt10_ok : H1 zt10 := ⟨ev_of (n := 60) (by kernel_rfl), trivial⟩
def zt11 : Fact := ⟨56, [.c (zi), .c (zi), .c (.pv (.int .i64 1))], [], (.c (zt), [])⟩
theorem zt11_ok : H1 zt11 := ⟨t0 (x := xf56) rfl (by kernel_rfl), trivial⟩
def zt16 : Fact := ⟨22, [.c (.pv (.int .i32 2)), .c (zi)], [], (.tup [.c (.pv (.int .i32 2)), .c (zi)], [])⟩
theorem zt16_ok : H1 zt16 := ⟨ev_of (n := 60) (by kernel_rfl), trivial⟩
def zt17 : Fact := ⟨53, [.c (.pv (.int .i32 5))], [], (.c (zt), [])⟩
theorem zt17_ok : H1 zt17 := ⟨t0 (x := xf53) rfl (by kernel_rfl), trivial⟩
def zt29 : Fact := ⟨57, [.c (.pv (zw3)), .c (.pv (.int .i32 4)), .c (.pv (.int .i32 2)), .c (zi)], [], (.tup [.c (.pv (.int .i32 2)), .c (zi)], [])⟩
theorem zt29_ok : H1 zt29 := ⟨ev_of (n := 60) (by kernel_rfl), trivial⟩
def zt30 : Fact := ⟨21, [zu1, .c (zi), .c (.pv (zw3)), .c (.pv (.int .i32 4))], [], (.tup [.c (.pv (.int .i32 2)), .c (zi)], [])⟩
theorem zt30_ok : H1 zt30 := ⟨t1 (x := xf21) rfl (t := [zt10, zt11, zt16, zt29]) (by kernel_rfl) ⟨zt10_ok.1, zt11_ok.1, zt16_ok.1, zt29_ok.1, trivial⟩, trivial⟩
def zt37 : Fact := ⟨53, [.c (.pv (.int .i32 3))], [], (.c (zt), [])⟩
theorem zt37_ok : H1 zt37 := ⟨t0 (x := xf53) rfl (by kernel_rfl), trivial⟩
def zt41 : Fact := ⟨57, [.c (.pv (zw3)), .c (.pv (.int .i32 5)), .c (.pv (.int .i32 2)), .c (zi)], [], (.tup [.c (.pv (.int .i32 3)), .c (zi)], [])⟩
theorem zt41_ok : H1 zt41 := ⟨ev_of (n := 60) (by kernel_rfl), trivial⟩
def zt42 : Fact := ⟨21, [zu1, .c (zi), .c (.pv (zw3)), .c (.pv (.int .i32 5))], [], (.tup [.c (.pv (.int .i32 3)), .c (zi)], [])⟩
theorem zt42_ok : H1 zt42 := ⟨t1 (x := xf21) rfl (t := [zt10, zt11, zt16, zt41]) (by kernel_rfl) ⟨zt10_ok.1, zt11_ok.1, zt16_ok.1, zt41_ok.1, trivial⟩, trivial⟩
def zt44 : Fact := ⟨98, [zu1, .c (.pv (.int .i64 100))], [], (.tup [.c (.pv (.int .i64 100)), .c (zi)], [])⟩
theorem zt44_ok : H1 zt44 := ⟨ev_of (n := 60) (by kernel_rfl), trivial⟩
def zt48 : Fact := ⟨99, [.c (.pv (.int .i64 3))], [], (.c (.pv (.str [51])), [])⟩
theorem zt48_ok : H1 zt48 := ⟨ev_of (n := 60) (by kernel_rfl), trivial⟩
def zt52 : Fact := ⟨99, [.c (zi)], [], (.c (.pv (.str [48])), [])⟩
theorem zt52_ok : H1 zt52 := ⟨ev_of (n := 60) (by kernel_rfl), trivial⟩
def zt65 : Fact := ⟨85, [zu9], [], (.c (zt), [])⟩
theorem zt65_ok : H1 zt65 := ⟨ev_of (n := 60) (by kernel_rfl), trivial⟩
def zt70 : Fact := ⟨83, [.c (.fn 86 []), .c (.ptr 0 0)], [zb12], (.c (zf), [zb12])⟩
theorem zt70_ok : H1 zt70 := ⟨ev_of (n := 60) (by kernel_rfl), trivial⟩
def zt76 : Fact := ⟨83, [.c (.fn 87 []), .c (.ptr 0 0)], [zb12], (.c (zf), [zb12])⟩
theorem zt76_ok : H1 zt76 := ⟨ev_of (n := 60) (by kernel_rfl), trivial⟩
def zt82 : Fact := ⟨83, [.c (.fn 89 []), .c (.ptr 0 0)], [zb12], (.c (zf), [zb12])⟩
theorem zt82_ok : H1 zt82 := ⟨ev_of (n := 60) (by kernel_rfl), trivial⟩
def zt87 : Fact := ⟨83, [.c (.fn 90 []), .c (.ptr 0 0)], [zb12], (.c (zf), [zb12])⟩
theorem zt87_ok : H1 zt87 := ⟨ev_of (n := 60) (by kernel_rfl), trivial⟩
def zt88 : Fact := ⟨91, [.c (.pv (zw8))], [], (.c (zt), [])⟩
theorem zt88_ok : H1 zt88 := ⟨t0 (x := xf91) rfl (by kernel_rfl), trivial⟩
def zt89 : Fact := ⟨36, [zu9], [], (.c (zi), [])⟩
theorem zt89_ok : H1 zt89 := ⟨t1 (x := xf36) rfl (t := [zt65, zt17, zt37, zt70, zt76, zt82, zt87, zt88]) (by kernel_rfl) ⟨zt65_ok.1, zt17_ok.1, zt37_ok.1, zt70_ok.1, zt76_ok.1, zt82_ok.1, zt87_ok.1, zt88_ok.1, trivial⟩, trivial⟩
def zt90 : Fact := ⟨54, [zu1, .c (zi), .c (.pv (.int .i64 1)), .c (.pv (.int .i32 5)), .c (.pv (.int .i32 3)), .c (.pv (.int .i64 100))], [], (.tup [zu9, .c (zi)], [])⟩
theorem zt90_ok : H1 zt90 := ⟨t1 (x := xf54) rfl (t := [zt44, zt11, zt48, zt52, zt89]) (by kernel_rfl) ⟨zt44_ok.1, zt11_ok.1, zt48_ok.1, zt52_ok.1, zt89_ok.1, trivial⟩, trivial⟩
def zt91 : Fact := ⟨38, [zu15], [], (.c (zt), [])⟩
theorem zt91_ok : H1 zt91 := ⟨t0 (x := xf38) rfl (by kernel_rfl), trivial⟩
def zt92 : Fact := ⟨40, [.c (.pv (zw14))], [], (.c (.mp 0), [.map []])⟩
theorem zt92_ok : H1 zt92 := ⟨t0 (x := xf40) rfl (by kernel_rfl), trivial⟩
def zt93 : Fact := ⟨39, [.c (.pv (zw14)), .c (.mp 0), zu9], [.map []], (.c (zi), [.map []])⟩
theorem zt93_ok : H1 zt93 := ⟨t0 (x := xf39) rfl (by kernel_rfl), trivial⟩
def zt94 : Fact := ⟨42, [.c (.pv (zw14)), .c (.fn 41 [])], [], (.c (.pv (zw14)), [])⟩
theorem zt94_ok : H1 zt94 := ⟨t0 (x := xf42) rfl (by kernel_rfl), trivial⟩
def zt95 : Fact := ⟨37, [.c (.pv (zw8))], [], (.c (.own 511 3 [zw6, zw7]), [])⟩
theorem zt95_ok : H1 zt95 := ⟨t0 (x := xf37) rfl (by kernel_rfl), trivial⟩
def zt96 : Fact := ⟨43, [zu9], [], (zu17, [])⟩
theorem zt96_ok : H1 zt96 := ⟨ev_of (n := 60) (by kernel_rfl), trivial⟩
def zt97 : Fact := ⟨14, [zu15, zu9], [], (.tup [zu19, .c (zi)], [])⟩
theorem zt97_ok : H1 zt97 := ⟨t1 (x := xf14) rfl (t := [zt91, zt89, zt92, zt93, zt94, zt96]) (by kernel_rfl) ⟨zt91_ok.1, zt89_ok.1, zt92_ok.1, zt93_ok.1, zt94_ok.1, zt96_ok.1, trivial⟩, trivial⟩
def zt98 : Fact := ⟨85, [zu17], [], (.c (zt), [])⟩
theorem zt98_ok : H1 zt98 := ⟨ev_of (n := 60) (by kernel_rfl), trivial⟩
def zt101 : Fact := ⟨83, [.c (.fn 86 []), .c (.ptr 0 0)], [zb20], (.c (zf), [zb20])⟩
theorem zt101_ok : H1 zt101 := ⟨ev_of (n := 60) (by kernel_rfl), trivial⟩
def zt104 : Fact := ⟨83, [.c (.fn 87 []), .c (.ptr 0 0)], [zb20], (.c (zf), [zb20])⟩
theorem zt104_ok : H1 zt104 := ⟨ev_of (n := 60) (by kernel_rfl), trivial⟩
def zt107 : Fact := ⟨83, [.c (.fn 89 []), .c (.ptr 0 0)], [zb20], (.c (zf), [zb20])⟩
theorem zt107_ok : H1 zt107 := ⟨ev_of (n := 60) (by kernel_rfl), trivial⟩
def zt110 : Fact := ⟨83, [.c (.fn 90 []), .c (.ptr 0 0)], [zb20], (.c (zf), [zb20])⟩
theorem zt110_ok : H1 zt110 := ⟨ev_of (n := 60) (by kernel_rfl), trivial⟩
def zt111 : Fact := ⟨91, [.c (.pv (zw16))], [], (.c (zt), [])⟩
theorem zt111_ok : H1 zt111 := ⟨t0 (x := xf91) rfl (by kernel_rfl), trivial⟩
def zt112 : Fact := ⟨36, [zu17], [], (.c (zi), [])⟩
theorem zt112_ok : H1 zt112 := ⟨t1 (x := xf36) rfl (t := [zt98, zt17, zt37, zt101, zt104, zt107, zt110, zt111]) (by kernel_rfl) ⟨zt98_ok.1, zt17_ok.1, zt37_ok.1, zt101_ok.1, zt104_ok.1, zt107_ok.1, zt110_ok.1, zt111_ok.1, trivial⟩, trivial⟩
def zt113 : Fact := ⟨117, [zu10, .c (.ptr 0 0), .c (.ptr 1 0)], [zb21, zb22], (.c (zt), [zb21, zb22])⟩
theorem zt113_ok : H1 zt113 := ⟨t0 (x := xf117) rfl (by kernel_rfl), trivial⟩
def zt114 : Fact := ⟨117, [zu11, .c (.ptr 0 0), .c (.ptr 1 0)], [zb21, zb22], (.c (zf), [zb21, zb22])⟩
theorem zt114_ok : H1 zt114 := ⟨t0 (x := xf117) rfl (by kernel_rfl), trivial⟩
def zt115 : Fact := ⟨116, [zu17, .c (.fn 117 [0, 1])], [zb21, zb22], (.tup [.c (.pv (.int .i64 100)), .c (zi)], [zb21, zb22])⟩
theorem zt115_ok : H1 zt115 := ⟨t1 (x := xf116) rfl (t := [zt112, zt113, zt114]) (by kernel_rfl) ⟨zt112_ok.1, zt113_ok.1, zt114_ok.1, trivial⟩, trivial⟩
def zt116 : Fact := ⟨73, [zu17, .c (.pv (.int .i64 1)), .c (zi)], [], (.tup [.c (.pv (.int .i64 100)), .c (zi)], [])⟩
theorem zt116_ok : H1 zt116 := ⟨t1 (x := xf73) rfl (t := [zt115]) (by kernel_rfl) ⟨zt115_ok.1, trivial⟩, trivial⟩
def zt117 : Fact := ⟨27, [.c (.pv (zw23)), .c (.pv (.int .i64 1)), .c (zi), .c (.pv (.int .i32 3))], [], (.tup [.c (.pv (.int .i64 100)), .c (zi)], [])⟩
theorem zt117_ok : H1 zt117 := ⟨t1 (x := xf27) rfl (t := [zt112, zt116]) (by kernel_rfl) ⟨zt112_ok.1, zt116_ok.1, trivial⟩, trivial⟩
def zt119 : Fact := ⟨100, [.c (.pv (.str [100, 101, 98, 105, 116, 32, 51, 46, 48])), .c (.pv (.str [100, 101, 98, 105, 116, 32]))], [], (.c (zt), [])⟩
theorem zt119_ok : H1 zt119 := ⟨ev_of (n := 60) (by kernel_rfl), trivial⟩
def zt120 : Fact := ⟨19, [.c (.pv (zw14))], [], (.c (zt), [])⟩
theorem zt120_ok : H1 zt120 := ⟨t0 (x := xf19) rfl (by kernel_rfl), trivial⟩
def zt121 : Fact := ⟨53, [.c (.pv (.int .i32 9))], [], (.c (zt), [])⟩
theorem zt121_ok : H1 zt121 := ⟨t0 (x := xf53) rfl (by kernel_rfl), trivial⟩
def zt126 : Fact := ⟨61, [.c (.pv (zw14)), .c (.pv (zw24))], [], (.c (zi), [])⟩
theorem zt126_ok : H1 zt126 := ⟨ev_of (n := 60) (by kernel_rfl), trivial⟩
def zt127 : Fact := ⟨62, [.c (.pv (.int .i32 3)), .c (.pv (.int .i32 9))], [], (.c (zi), [])⟩
theorem zt127_ok : H1 zt127 := ⟨t0 (x := xf62) rfl (by kernel_rfl), trivial⟩
def zt128 : Fact := ⟨63, [.c (.pv (zw14)), .c (.pv (.int .i32 9))], [], (.c (.mp 0), [.map []])⟩
theorem zt128_ok : H1 zt128 := ⟨t0 (x := xf63) rfl (by kernel_rfl), trivial⟩
def zt129 : Fact := ⟨64, [.c (.mp 0), .c (.pv (.int .i32 3))], [.map []], (.c (zt), [.map []])⟩
theorem zt129_ok : H1 zt129 := ⟨ev_of (n := 60) (by kernel_rfl), trivial⟩
def zt131 : Fact := ⟨64, [.c (.mp 0), .c (.pv (.int .i32 4))], [.map []], (.c (zt), [.map []])⟩
theorem zt131_ok : H1 zt131 := ⟨ev_of (n := 60) (by kernel_rfl), trivial⟩
def zt133 : Fact := ⟨64, [.c (.mp 0), .c (.pv (.int .i32 5))], [.map []], (.c (zt), [.map []])⟩
theorem zt133_ok : H1 zt133 := ⟨ev_of (n := 60) (by kernel_rfl), trivial⟩
def zt136 : Fact := ⟨64, [.c (.mp 0), .c (.pv (.int .i32 6))], [.map []], (.c (zt), [.map []])⟩
theorem zt136_ok : H1 zt136 := ⟨ev_of (n := 60) (by kernel_rfl), trivial⟩
def zt139 : Fact := ⟨64, [.c (.mp 0), .c (.pv (.int .i32 7))], [.map []], (.c (zf), [.map []])⟩
theorem zt139_ok : H1 zt139 := ⟨ev_of (n := 60) (by kernel_rfl), trivial⟩
def zt142 : Fact := ⟨64, [.c (.mp 0), .c (.pv (.int .i32 8))], [.map []], (.c (zf), [.map []])⟩
theorem zt142_ok : H1 zt142 := ⟨ev_of (n := 60) (by kernel_rfl), trivial⟩
def zt143 : Fact := ⟨101, [.c (.pv (zw14)), .c (.pv (.int .i32 9)), .c (.pv (.int .i32 3)), .c (.pv (.int .i32 9))], [], (.tup [.c (.pv (.int .i64 4)), .c (zi)], [])⟩
theorem zt143_ok : H1 zt143 := ⟨t1 (x := xf101) rfl (t := [zt126, zt127, zt128, zt129, zt131, zt133, zt136, zt139, zt142]) (by kernel_rfl) ⟨zt126_ok.1, zt127_ok.1, zt128_ok.1, zt129_ok.1, zt131_ok.1, zt133_ok.1, zt136_ok.1, zt139_ok.1, zt142_ok.1, trivial⟩, trivial⟩
def zt144 : Fact := ⟨85, [zu28], [], (.c (zt), [])⟩
theorem zt144_ok : H1 zt144 := ⟨ev_of (n := 60) (by kernel_rfl), trivial⟩
def zt149 : Fact := ⟨83, [.c (.fn 86 []), .c (.ptr 0 0)], [zb31], (.c (zf), [zb31])⟩
theorem zt149_ok : H1 zt149 := ⟨ev_of (n := 60) (by kernel_rfl), trivial⟩
def zt154 : Fact := ⟨83, [.c (.fn 87 []), .c (.ptr 0 0)], [zb31], (.c (zf), [zb31])⟩
theorem zt154_ok : H1 zt154 := ⟨ev_of (n := 60) (by kernel_rfl), trivial⟩
def zt159 : Fact := ⟨83, [.c (.fn 89 []), .c (.ptr 0 0)], [zb31], (.c (zf), [zb31])⟩
theorem zt159_ok : H1 zt159 := ⟨ev_of (n := 60) (by kernel_rfl), trivial⟩
def zt164 : Fact := ⟨83, [.c (.fn 90 []), .c (.ptr 0 0)], [zb31], (.c (zf), [zb31])⟩
theorem zt164_ok : H1 zt164 := ⟨ev_of (n := 60) (by kernel_rfl), trivial⟩
def zt165 : Fact := ⟨91, [.c (.pv (zw27))], [], (.c (zt), [])⟩
theorem zt165_ok : H1 zt165 := ⟨t0 (x := xf91) rfl (by kernel_rfl), trivial⟩
def zt166 : Fact := ⟨36, [zu28], [], (.c (zi), [])⟩
theorem zt166_ok : H1 zt166 := ⟨t1 (x := xf36) rfl (t := [zt144, zt121, zt37, zt149, zt154, zt159, zt164, zt165]) (by kernel_rfl) ⟨zt144_ok.1, zt121_ok.1, zt37_ok.1, zt149_ok.1, zt154_ok.1, zt159_ok.1, zt164_ok.1, zt165_ok.1, trivial⟩, trivial⟩
def zt167 : Fact := ⟨13, [zu9, .c (.pv (.int .i64 2)), .c (.pv (.int .i32 9))], [], (.tup [zu28, .c (zi)], [])⟩
theorem zt167_ok : H1 zt167 := ⟨t1 (x := xf13) rfl (t := [zt89, zt95, zt166]) (by kernel_rfl) ⟨zt89_ok.1, zt95_ok.1, zt166_ok.1, trivial⟩, trivial⟩
def zt168 : Fact := ⟨55, [zu9, .c (.pv (.int .i64 2)), .c (.pv (.int .i32 9)), .c (.pv (zw14))], [], (.tup [zu28, .c (zi)], [])⟩
theorem zt168_ok : H1 zt168 := ⟨t1 (x := xf55) rfl (t := [zt89, zt119, zt120, zt121, zt143, zt167]) (by kernel_rfl) ⟨zt89_ok.1, zt119_ok.1, zt120_ok.1, zt121_ok.1, zt143_ok.1, zt167_ok.1, trivial⟩, trivial⟩
def zt169 : Fact := ⟨39, [.c (.pv (zw32)), .c (.mp 0), zu17], [.map []], (.c (zi), [.map []])⟩
theorem zt169_ok : H1 zt169 := ⟨t0 (x := xf39) rfl (by kernel_rfl), trivial⟩
def zt170 : Fact := ⟨38, [zu33], [], (.c (zt), [])⟩
theorem zt170_ok : H1 zt170 := ⟨t1 (x := xf38) rfl (t := [zt112, zt169]) (by kernel_rfl) ⟨zt112_ok.1, zt169_ok.1, trivial⟩, trivial⟩
def zt171 : Fact := ⟨40, [.c (.pv (zw23))], [], (.c (.mp 0), [.map [(zj, .bool true)]])⟩
theorem zt171_ok : H1 zt171 := ⟨t0 (x := xf40) rfl (by kernel_rfl), trivial⟩
def zt172 : Fact := ⟨37, [.c (.pv (zw16))], [], (.c (.own 511 3 [zw6, zw7]), [])⟩
theorem zt172_ok : H1 zt172 := ⟨t0 (x := xf37) rfl (by kernel_rfl), trivial⟩
def zt173 : Fact := ⟨13, [zu17, .c (.pv (.int .i64 2)), .c (.pv (.int .i32 9))], [], (.tup [zu28, .c (zi)], [])⟩
theorem zt173_ok : H1 zt173 := ⟨t1 (x := xf13) rfl (t := [zt112, zt172, zt166]) (by kernel_rfl) ⟨zt112_ok.1, zt172_ok.1, zt166_ok.1, trivial⟩, trivial⟩
def zt175 : Fact := ⟨92, [zu28, zu28], [], (.c (zt), [])⟩
theorem zt175_ok : H1 zt175 := ⟨ev_of (n := 60) (by kernel_rfl), trivial⟩
def zt176 : Fact := ⟨39, [.c (.pv (zw23)), .c (.mp 0), zu28], [.map [(zj, .bool true)]], (.c (zi), [.map [(zj, .bool true)]])⟩
theorem zt176_ok : H1 zt176 := ⟨t1 (x := xf39) rfl (t := [zt173, zt175]) (by kernel_rfl) ⟨zt173_ok.1, zt175_ok.1, trivial⟩, trivial⟩
def zt179 : Fact := ⟨42, [.c (.pv (zw23)), .c (.fn 41 [])], [], (.c (.own 1407 7 [zw18]), [])⟩
theorem zt179_ok : H1 zt179 := ⟨ev_of (n := 60) (by kernel_rfl), trivial⟩
def zt181 : Fact := ⟨43, [zu28], [], (zu28, [])⟩
theorem zt181_ok : H1 zt181 := ⟨ev_of (n := 60) (by kernel_rfl), trivial⟩
def zt182 : Fact := ⟨14, [zu33, zu28], [], (.tup [zu35, .c (zi)], [])⟩
theorem zt182_ok : H1 zt182 := ⟨t1 (x := xf14) rfl (t := [zt170, zt166, zt171, zt176, zt179, zt181]) (by kernel_rfl) ⟨zt170_ok.1, zt166_ok.1, zt171_ok.1, zt176_ok.1, zt179_ok.1, zt181_ok.1, trivial⟩, trivial⟩
def zt183 : Fact := ⟨117, [zu29, .c (.ptr 0 0), .c (.ptr 1 0)], [zb21, zb22], (.c (zt), [zb21, zb22])⟩
theorem zt183_ok : H1 zt183 := ⟨t0 (x := xf117) rfl (by kernel_rfl), trivial⟩
def zt184 : Fact := ⟨117, [zu30, .c (.ptr 0 0), .c (.ptr 1 0)], [zb21, zb22], (.c (zf), [zb21, zb22])⟩
theorem zt184_ok : H1 zt184 := ⟨t0 (x := xf117) rfl (by kernel_rfl), trivial⟩
def zt185 : Fact := ⟨116, [zu28, .c (.fn 117 [0, 1])], [zb21, zb22], (.tup [.c (.pv (.int .i64 (-100))), .c (zi)], [zb21, zb22])⟩
theorem zt185_ok : H1 zt185 := ⟨t1 (x := xf116) rfl (t := [zt166, zt183, zt184]) (by kernel_rfl) ⟨zt166_ok.1, zt183_ok.1, zt184_ok.1, trivial⟩, trivial⟩
def zt186 : Fact := ⟨73, [zu28, .c (.pv (.int .i64 1)), .c (zi)], [], (.tup [.c (.pv (.int .i64 (-100))), .c (zi)], [])⟩
theorem zt186_ok : H1 zt186 := ⟨t1 (x := xf73) rfl (t := [zt185]) (by kernel_rfl) ⟨zt185_ok.1, trivial⟩, trivial⟩
def zt187 : Fact := ⟨27, [.c (.pv (zw36)), .c (.pv (.int .i64 1)), .c (zi), .c (.pv (.int .i32 3))], [], (.tup [.c (zi), .c (zi)], [])⟩
theorem zt187_ok : H1 zt187 := ⟨t1 (x := xf27) rfl (t := [zt112, zt166, zt116, zt186]) (by kernel_rfl) ⟨zt112_ok.1, zt166_ok.1, zt116_ok.1, zt186_ok.1, trivial⟩, trivial⟩
def zt188 : Fact := ⟨20, [], [], (.c (zt), [])⟩
theorem zt188_ok : H1 zt188 := ⟨t1 (x := xf20) rfl (t := [zt30, zt42, zt90, zt97, zt117, zt168, zt182, zt187]) (by kernel_rfl) ⟨zt30_ok.1, zt42_ok.1, zt90_ok.1, zt97_ok.1, zt117_ok.1, zt168_ok.1, zt182_ok.1, zt187_ok.1, trivial⟩, trivial⟩
theorem aliveB : ev X E0 20 [] [] = some (.c (zt), []) := zt188_ok.1
end Go.Sx.Tryd.CaliveB
