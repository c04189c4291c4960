/- Closed calls, each out of those that it makes. Printed by closed.py. -/
import Derived.Test.YtdhefhnlagnkdaaDoorSxTab
import Derived.Test.YtdhefhnlagnkdaaDoorXS
namespace Go.Sx.Tryd.Calive19
open Go Go.Sx Go.Sx.Tryd
def zw0 : PV := .agg [.int .i64 1, .int .i64 0, .int .i64 (-100)]
def zw1 : PV := .agg [.int .i64 2, .int .i64 0, .int .i64 60]
def zw2 : PV := .agg [.int .i64 2, .int .i64 0, .int .i64 40]
def zw3 : PV := .agg [.int .i64 1, .int .i64 1, .int .i64 5]
def zw4 : PV := .agg [.int .i64 2, .int .i64 1, .int .i64 (-5)]
def zw5 : PV := .sl .full 3 [zw0, zw1, zw2, zw3, zw4]
def zu6 : AV := .agg [.pv (.int .i64 7), .pv (.int .i32 10), .pv (.int .i32 3), .pv (zw5), .pv (.int .i64 0), .pv (.int .i64 2), .pv (.str [102, 101, 101])]
def zu7 : AV := .agg [.pv (.int .i64 1), .pv (.int .i64 0), .pv (.int .i64 (-100))]
def zu8 : AV := .agg [.pv (.int .i64 2), .pv (.int .i64 0), .pv (.int .i64 60)]
def zu9 : AV := .agg [.pv (.int .i64 2), .pv (.int .i64 0), .pv (.int .i64 40)]
def zu10 : AV := .agg [.pv (.int .i64 1), .pv (.int .i64 1), .pv (.int .i64 5)]
def zu11 : AV := .agg [.pv (.int .i64 2), .pv (.int .i64 1), .pv (.int .i64 (-5))]
def zb12 : Box := .cells [.pv (.int .i64 7), .pv (.int .i32 10), .pv (.int .i32 3), .pv (zw5), .pv (.int .i64 0), .pv (.int .i64 2), .pv (.str [102, 101, 101])]
def zu13 : AV := .agg [.pv (.int .i64 0), .pv (.int .i64 (-100))]
def zu14 : AV := .agg [.pv (.int .i64 0), .pv (.int .i64 60)]
def zu15 : AV := .agg [.pv (.int .i64 0), .pv (.int .i64 40)]
def zu16 : AV := .agg [.pv (.int .i64 1), .pv (.int .i64 5)]
def zu17 : AV := .agg [.pv (.int .i64 1), .pv (.int .i64 (-5))]
def zw18 : PV := .agg [.int .i64 1, .int .i64 0, .int .i64 100]
def zw19 : PV := .agg [.int .i64 2, .int .i64 0, .int .i64 (-60)]
def zw20 : PV := .agg [.int .i64 2, .int .i64 0, .int .i64 (-40)]
def zw21 : PV := .agg [.int .i64 1, .int .i64 1, .int .i64 (-5)]
def zw22 : PV := .agg [.int .i64 2, .int .i64 1, .int .i64 5]
def zw23 : PV := .sl .shut 3 [zw18, zw19, zw20, zw21, zw22]
def zu24 : AV := .agg [.pv (.int .i64 9), .pv (.int .i32 10), .pv (.int .i32 3), .pv (zw23), .pv (.int .i64 7), .pv (.int .i64 2), .pv (.str [102, 101, 101])]
def zu25 : AV := .agg [.pv (.int .i64 1), .pv (.int .i64 0), .pv (.int .i64 100)]
def zu26 : AV := .agg [.pv (.int .i64 2), .pv (.int .i64 0), .pv (.int .i64 (-60))]
def zu27 : AV := .agg [.pv (.int .i64 2), .pv (.int .i64 0), .pv (.int .i64 (-40))]
def zu28 : AV := .agg [.pv (.int .i64 1), .pv (.int .i64 1), .pv (.int .i64 (-5))]
def zu29 : AV := .agg [.pv (.int .i64 2), .pv (.int .i64 1), .pv (.int .i64 5)]
def zb30 : Box := .cells [.pv (.int .i64 9), .pv (.int .i32 10), .pv (.int .i32 3), .pv (zw23), .pv (.int .i64 7), .pv (.int .i64 2), .pv (.str [102, 101, 101])]
def zu31 : AV := .agg [.pv (.int .i64 0), .pv (.int .i64 100)]
def zu32 : AV := .agg [.pv (.int .i64 0), .pv (.int .i64 (-60))]
def zu33 : AV := .agg [.pv (.int .i64 0), .pv (.int .i64 (-40))]
def zb34 : Box := .cells [.pv (.int .i64 2)]
def zb35 : Box := .cells [.pv (.int .i64 0)]
def zw36 : PV := .sl .nil 0 []
def zb37 : Box := .cells [.pv (zw36)]
def zb38 : Box := .cells [.own 1983 1 [.int .u8 7]]
def zb39 : Box := .cells [.own 0 1 [.int .u8 7]]
def zb40 : Box := .cells [.own 1983 1 [.int .u8 7, .int .u8 20]]
def zb41 : Box := .cells [.own 768 1 [.int .u8 7, .int .u8 20]]
def zb42 : Box := .cells [.own 0 1 [.int .u8 7, .int .u8 20]]
def zb43 : Box := .cells [.own 1983 1 [.int .u8 7, .int .u8 20, .int .u8 6]]
def zb44 : Box := .cells [.own 768 1 [.int .u8 7, .int .u8 20, .int .u8 6]]
def zb45 : Box := .cells [.own 0 1 [.int .u8 7, .int .u8 20, .int .u8 6]]
def zb46 : Box := .cells [.own 1983 1 [.int .u8 7, .int .u8 20, .int .u8 6, .int .u8 2]]
def zb47 : Box := .cells [.own 0 1 [.int .u8 7, .int .u8 20, .int .u8 6, .int .u8 2]]
def zb48 : Box := .cells [.own 1983 1 [.int .u8 7, .int .u8 20, .int .u8 6, .int .u8 2, .int .u8 0]]
def zb49 : Box := .cells [.own 0 1 [.int .u8 7, .int .u8 20, .int .u8 6, .int .u8 2, .int .u8 0]]
def zb50 : Box := .cells [.own 1983 1 [.int .u8 7, .int .u8 20, .int .u8 6, .int .u8 2, .int .u8 0, .int .u8 3]]
def zb51 : Box := .cells [.own 1151 1 [.int .u8 7, .int .u8 20, .int .u8 6, .int .u8 2, .int .u8 0, .int .u8 3, .int .u8 102, .int .u8 101, .int .u8 101]]
def zb52 : Box := .cells [.own 0 1 [.int .u8 7, .int .u8 20, .int .u8 6, .int .u8 2, .int .u8 0, .int .u8 3, .int .u8 102, .int .u8 101, .int .u8 101]]
def zb53 : Box := .cells [.own 1983 1 [.int .u8 7, .int .u8 20, .int .u8 6, .int .u8 2, .int .u8 0, .int .u8 3, .int .u8 102, .int .u8 101, .int .u8 101, .int .u8 5]]
def zb54 : Box := .cells [.own 0 1 [.int .u8 7, .int .u8 20, .int .u8 6, .int .u8 2, .int .u8 0, .int .u8 3, .int .u8 102, .int .u8 101, .int .u8 101, .int .u8 5]]
def zb55 : Box := .cells [.own 1983 1 [.int .u8 7, .int .u8 20, .int .u8 6, .int .u8 2, .int .u8 0, .int .u8 3, .int .u8 102, .int .u8 101, .int .u8 101, .int .u8 5, .int .u8 1]]
def zb56 : Box := .cells [.own 0 1 [.int .u8 7, .int .u8 20, .int .u8 6, .int .u8 2, .int .u8 0, .int .u8 3, .int .u8 102, .int .u8 101, .int .u8 101, .int .u8 5, .int .u8 1]]
def zb57 : Box := .cells [.own 1983 1 [.int .u8 7, .int .u8 20, .int .u8 6, .int .u8 2, .int .u8 0, .int .u8 3, .int .u8 102, .int .u8 101, .int .u8 101, .int .u8 5, .int .u8 1, .int .u8 0]]
def zb58 : Box := .cells [.own 768 1 [.int .u8 7, .int .u8 20, .int .u8 6, .int .u8 2, .int .u8 0, .int .u8 3, .int .u8 102, .int .u8 101, .int .u8 101, .int .u8 5, .int .u8 1, .int .u8 0]]
def zb59 : Box := .cells [.own 0 1 [.int .u8 7, .int .u8 20, .int .u8 6, .int .u8 2, .int .u8 0, .int .u8 3, .int .u8 102, .int .u8 101, .int .u8 101, .int .u8 5, .int .u8 1, .int .u8 0]]
def zb60 : Box := .cells [.own 1983 1 [.int .u8 7, .int .u8 20, .int .u8 6, .int .u8 2, .int .u8 0, .int .u8 3, .int .u8 102, .int .u8 101, .int .u8 101, .int .u8 5, .int .u8 1, .int .u8 0, .int .u8 199, .int .u8 1]]
def zb61 : Box := .cells [.own 768 1 [.int .u8 7, .int .u8 20, .int .u8 6, .int .u8 2, .int .u8 0, .int .u8 3, .int .u8 102, .int .u8 101, .int .u8 101, .int .u8 5, .int .u8 1, .int .u8 0, .int .u8 199, .int .u8 1]]
def zb62 : Box := .cells [.own 704 1 [.int .u8 7, .int .u8 20, .int .u8 6, .int .u8 2, .int .u8 0, .int .u8 3, .int .u8 102, .int .u8 101, .int .u8 101, .int .u8 5, .int .u8 1, .int .u8 0, .int .u8 199, .int .u8 1]]
def zb63 : Box := .cells [.own 0 1 [.int .u8 7, .int .u8 20, .int .u8 6, .int .u8 2, .int .u8 0, .int .u8 3, .int .u8 102, .int .u8 101, .int .u8 101, .int .u8 5, .int .u8 1, .int .u8 0, .int .u8 199, .int .u8 1]]
def zb64 : Box := .cells [.own 1983 1 [.int .u8 7, .int .u8 20, .int .u8 6, .int .u8 2, .int .u8 0, .int .u8 3, .int .u8 102, .int .u8 101, .int .u8 101, .int .u8 5, .int .u8 1, .int .u8 0, .int .u8 199, .int .u8 1, .int .u8 2]]
def zb65 : Box := .cells [.own 0 1 [.int .u8 7, .int .u8 20, .int .u8 6, .int .u8 2, .int .u8 0, .int .u8 3, .int .u8 102, .int .u8 101, .int .u8 101, .int .u8 5, .int .u8 1, .int .u8 0, .int .u8 199, .int .u8 1, .int .u8 2]]
def zb66 : Box := .cells [.own 1983 1 [.int .u8 7, .int .u8 20, .int .u8 6, .int .u8 2, .int .u8 0, .int .u8 3, .int .u8 102, .int .u8 101, .int .u8 101, .int .u8 5, .int .u8 1, .int .u8 0, .int .u8 199, .int .u8 1, .int .u8 2, .int .u8 0]]
def zb67 : Box := .cells [.own 768 1 [.int .u8 7, .int .u8 20, .int .u8 6, .int .u8 2, .int .u8 0, .int .u8 3, .int .u8 102, .int .u8 101, .int .u8 101, .int .u8 5, .int .u8 1, .int .u8 0, .int .u8 199, .int .u8 1, .int .u8 2, .int .u8 0]]
def zb68 : Box := .cells [.own 0 1 [.int .u8 7, .int .u8 20, .int .u8 6, .int .u8 2, .int .u8 0, .int .u8 3, .int .u8 102, .int .u8 101, .int .u8 101, .int .u8 5, .int .u8 1, .int .u8 0, .int .u8 199, .int .u8 1, .int .u8 2, .int .u8 0]]
def zb69 : Box := .cells [.own 1983 1 [.int .u8 7, .int .u8 20, .int .u8 6, .int .u8 2, .int .u8 0, .int .u8 3, .int .u8 102, .int .u8 101, .int .u8 101, .int .u8 5, .int .u8 1, .int .u8 0, .int .u8 199, .int .u8 1, .int .u8 2, .int .u8 0, .int .u8 120]]
def zb70 : Box := .cells [.own 768 1 [.int .u8 7, .int .u8 20, .int .u8 6, .int .u8 2, .int .u8 0, .int .u8 3, .int .u8 102, .int .u8 101, .int .u8 101, .int .u8 5, .int .u8 1, .int .u8 0, .int .u8 199, .int .u8 1, .int .u8 2, .int .u8 0, .int .u8 120]]
def zb71 : Box := .cells [.own 704 1 [.int .u8 7, .int .u8 20, .int .u8 6, .int .u8 2, .int .u8 0, .int .u8 3, .int .u8 102, .int .u8 101, .int .u8 101, .int .u8 5, .int .u8 1, .int .u8 0, .int .u8 199, .int .u8 1, .int .u8 2, .int .u8 0, .int .u8 120]]
def zb72 : Box := .cells [.own 0 1 [.int .u8 7, .int .u8 20, .int .u8 6, .int .u8 2, .int .u8 0, .int .u8 3, .int .u8 102, .int .u8 101, .int .u8 101, .int .u8 5, .int .u8 1, .int .u8 0, .int .u8 199, .int .u8 1, .int .u8 2, .int .u8 0, .int .u8 120]]
def zb73 : Box := .cells [.own 1983 1 [.int .u8 7, .int .u8 20, .int .u8 6, .int .u8 2, .int .u8 0, .int .u8 3, .int .u8 102, .int .u8 101, .int .u8 101, .int .u8 5, .int .u8 1, .int .u8 0, .int .u8 199, .int .u8 1, .int .u8 2, .int .u8 0, .int .u8 120, .int .u8 2]]
def zb74 : Box := .cells [.own 0 1 [.int .u8 7, .int .u8 20, .int .u8 6, .int .u8 2, .int .u8 0, .int .u8 3, .int .u8 102, .int .u8 101, .int .u8 101, .int .u8 5, .int .u8 1, .int .u8 0, .int .u8 199, .int .u8 1, .int .u8 2, .int .u8 0, .int .u8 120, .int .u8 2]]
def zb75 : Box := .cells [.own 1983 1 [.int .u8 7, .int .u8 20, .int .u8 6, .int .u8 2, .int .u8 0, .int .u8 3, .int .u8 102, .int .u8 101, .int .u8 101, .int .u8 5, .int .u8 1, .int .u8 0, .int .u8 199, .int .u8 1, .int .u8 2, .int .u8 0, .int .u8 120, .int .u8 2, .int .u8 0]]
def zb76 : Box := .cells [.own 768 1 [.int .u8 7, .int .u8 20, .int .u8 6, .int .u8 2, .int .u8 0, .int .u8 3, .int .u8 102, .int .u8 101, .int .u8 101, .int .u8 5, .int .u8 1, .int .u8 0, .int .u8 199, .int .u8 1, .int .u8 2, .int .u8 0, .int .u8 120, .int .u8 2, .int .u8 0]]
def zb77 : Box := .cells [.own 0 1 [.int .u8 7, .int .u8 20, .int .u8 6, .int .u8 2, .int .u8 0, .int .u8 3, .int .u8 102, .int .u8 101, .int .u8 101, .int .u8 5, .int .u8 1, .int .u8 0, .int .u8 199, .int .u8 1, .int .u8 2, .int .u8 0, .int .u8 120, .int .u8 2, .int .u8 0]]
def zb78 : Box := .cells [.own 1983 1 [.int .u8 7, .int .u8 20, .int .u8 6, .int .u8 2, .int .u8 0, .int .u8 3, .int .u8 102, .int .u8 101, .int .u8 101, .int .u8 5, .int .u8 1, .int .u8 0, .int .u8 199, .int .u8 1, .int .u8 2, .int .u8 0, .int .u8 120, .int .u8 2, .int .u8 0, .int .u8 80]]
def zb79 : Box := .cells [.own 768 1 [.int .u8 7, .int .u8 20, .int .u8 6, .int .u8 2, .int .u8 0, .int .u8 3, .int .u8 102, .int .u8 101, .int .u8 101, .int .u8 5, .int .u8 1, .int .u8 0, .int .u8 199, .int .u8 1, .int .u8 2, .int .u8 0, .int .u8 120, .int .u8 2, .int .u8 0, .int .u8 80]]
def zb80 : Box := .cells [.own 704 1 [.int .u8 7, .int .u8 20, .int .u8 6, .int .u8 2, .int .u8 0, .int .u8 3, .int .u8 102, .int .u8 101, .int .u8 101, .int .u8 5, .int .u8 1, .int .u8 0, .int .u8 199, .int .u8 1, .int .u8 2, .int .u8 0, .int .u8 120, .int .u8 2, .int .u8 0, .int .u8 80]]
def zb81 : Box := .cells [.own 0 1 [.int .u8 7, .int .u8 20, .int .u8 6, .int .u8 2, .int .u8 0, .int .u8 3, .int .u8 102, .int .u8 101, .int .u8 101, .int .u8 5, .int .u8 1, .int .u8 0, .int .u8 199, .int .u8 1, .int .u8 2, .int .u8 0, .int .u8 120, .int .u8 2, .int .u8 0, .int .u8 80]]
def zb82 : Box := .cells [.own 1983 1 [.int .u8 7, .int .u8 20, .int .u8 6, .int .u8 2, .int .u8 0, .int .u8 3, .int .u8 102, .int .u8 101, .int .u8 101, .int .u8 5, .int .u8 1, .int .u8 0, .int .u8 199, .int .u8 1, .int .u8 2, .int .u8 0, .int .u8 120, .int .u8 2, .int .u8 0, .int .u8 80, .int .u8 1]]
def zb83 : Box := .cells [.own 0 1 [.int .u8 7, .int .u8 20, .int .u8 6, .int .u8 2, .int .u8 0, .int .u8 3, .int .u8 102, .int .u8 101, .int .u8 101, .int .u8 5, .int .u8 1, .int .u8 0, .int .u8 199, .int .u8 1, .int .u8 2, .int .u8 0, .int .u8 120, .int .u8 2, .int .u8 0, .int .u8 80, .int .u8 1]]
def zb84 : Box := .cells [.own 1983 1 [.int .u8 7, .int .u8 20, .int .u8 6, .int .u8 2, .int .u8 0, .int .u8 3, .int .u8 102, .int .u8 101, .int .u8 101, .int .u8 5, .int .u8 1, .int .u8 0, .int .u8 199, .int .u8 1, .int .u8 2, .int .u8 0, .int .u8 120, .int .u8 2, .int .u8 0, .int .u8 80, .int .u8 1, .int .u8 2]]
def zb85 : Box := .cells [.own 768 1 [.int .u8 7, .int .u8 20, .int .u8 6, .int .u8 2, .int .u8 0, .int .u8 3, .int .u8 102, .int .u8 101, .int .u8 101, .int .u8 5, .int .u8 1, .int .u8 0, .int .u8 199, .int .u8 1, .int .u8 2, .int .u8 0, .int .u8 120, .int .u8 2, .int .u8 0, .int .u8 80, .int .u8 1, .int .u8 2]]
def zb86 : Box := .cells [.own 0 1 [.int .u8 7, .int .u8 20, .int .u8 6, .int .u8 2, .int .u8 0, .int .u8 3, .int .u8 102, .int .u8 101, .int .u8 101, .int .u8 5, .int .u8 1, .int .u8 0, .int .u8 199, .int .u8 1, .int .u8 2, .int .u8 0, .int .u8 120, .int .u8 2, .int .u8 0, .int .u8 80, .int .u8 1, .int .u8 2]]
def zb87 : Box := .cells [.own 1983 1 [.int .u8 7, .int .u8 20, .int .u8 6, .int .u8 2, .int .u8 0, .int .u8 3, .int .u8 102, .int .u8 101, .int .u8 101, .int .u8 5, .int .u8 1, .int .u8 0, .int .u8 199, .int .u8 1, .int .u8 2, .int .u8 0, .int .u8 120, .int .u8 2, .int .u8 0, .int .u8 80, .int .u8 1, .int .u8 2, .int .u8 10]]
def zb88 : Box := .cells [.own 768 1 [.int .u8 7, .int .u8 20, .int .u8 6, .int .u8 2, .int .u8 0, .int .u8 3, .int .u8 102, .int .u8 101, .int .u8 101, .int .u8 5, .int .u8 1, .int .u8 0, .int .u8 199, .int .u8 1, .int .u8 2, .int .u8 0, .int .u8 120, .int .u8 2, .int .u8 0, .int .u8 80, .int .u8 1, .int .u8 2, .int .u8 10]]
def zb89 : Box := .cells [.own 704 1 [.int .u8 7, .int .u8 20, .int .u8 6, .int .u8 2, .int .u8 0, .int .u8 3, .int .u8 102, .int .u8 101, .int .u8 101, .int .u8 5, .int .u8 1, .int .u8 0, .int .u8 199, .int .u8 1, .int .u8 2, .int .u8 0, .int .u8 120, .int .u8 2, .int .u8 0, .int .u8 80, .int .u8 1, .int .u8 2, .int .u8 10]]
def zb90 : Box := .cells [.own 0 1 [.int .u8 7, .int .u8 20, .int .u8 6, .int .u8 2, .int .u8 0, .int .u8 3, .int .u8 102, .int .u8 101, .int .u8 101, .int .u8 5, .int .u8 1, .int .u8 0, .int .u8 199, .int .u8 1, .int .u8 2, .int .u8 0, .int .u8 120, .int .u8 2, .int .u8 0, .int .u8 80, .int .u8 1, .int .u8 2, .int .u8 10]]
def zb91 : Box := .cells [.own 1983 1 [.int .u8 7, .int .u8 20, .int .u8 6, .int .u8 2, .int .u8 0, .int .u8 3, .int .u8 102, .int .u8 101, .int .u8 101, .int .u8 5, .int .u8 1, .int .u8 0, .int .u8 199, .int .u8 1, .int .u8 2, .int .u8 0, .int .u8 120, .int .u8 2, .int .u8 0, .int .u8 80, .int .u8 1, .int .u8 2, .int .u8 10, .int .u8 2]]
def zb92 : Box := .cells [.own 0 1 [.int .u8 7, .int .u8 20, .int .u8 6, .int .u8 2, .int .u8 0, .int .u8 3, .int .u8 102, .int .u8 101, .int .u8 101, .int .u8 5, .int .u8 1, .int .u8 0, .int .u8 199, .int .u8 1, .int .u8 2, .int .u8 0, .int .u8 120, .int .u8 2, .int .u8 0, .int .u8 80, .int .u8 1, .int .u8 2, .int .u8 10, .int .u8 2]]
def zb93 : Box := .cells [.own 1983 1 [.int .u8 7, .int .u8 20, .int .u8 6, .int .u8 2, .int .u8 0, .int .u8 3, .int .u8 102, .int .u8 101, .int .u8 101, .int .u8 5, .int .u8 1, .int .u8 0, .int .u8 199, .int .u8 1, .int .u8 2, .int .u8 0, .int .u8 120, .int .u8 2, .int .u8 0, .int .u8 80, .int .u8 1, .int .u8 2, .int .u8 10, .int .u8 2, .int .u8 2]]
def zb94 : Box := .cells [.own 768 1 [.int .u8 7, .int .u8 20, .int .u8 6, .int .u8 2, .int .u8 0, .int .u8 3, .int .u8 102, .int .u8 101, .int .u8 101, .int .u8 5, .int .u8 1, .int .u8 0, .int .u8 199, .int .u8 1, .int .u8 2, .int .u8 0, .int .u8 120, .int .u8 2, .int .u8 0, .int .u8 80, .int .u8 1, .int .u8 2, .int .u8 10, .int .u8 2, .int .u8 2]]
def zb95 : Box := .cells [.own 0 1 [.int .u8 7, .int .u8 20, .int .u8 6, .int .u8 2, .int .u8 0, .int .u8 3, .int .u8 102, .int .u8 101, .int .u8 101, .int .u8 5, .int .u8 1, .int .u8 0, .int .u8 199, .int .u8 1, .int .u8 2, .int .u8 0, .int .u8 120, .int .u8 2, .int .u8 0, .int .u8 80, .int .u8 1, .int .u8 2, .int .u8 10, .int .u8 2, .int .u8 2]]
def zb96 : Box := .cells [.own 1983 1 [.int .u8 7, .int .u8 20, .int .u8 6, .int .u8 2, .int .u8 0, .int .u8 3, .int .u8 102, .int .u8 101, .int .u8 101, .int .u8 5, .int .u8 1, .int .u8 0, .int .u8 199, .int .u8 1, .int .u8 2, .int .u8 0, .int .u8 120, .int .u8 2, .int .u8 0, .int .u8 80, .int .u8 1, .int .u8 2, .int .u8 10, .int .u8 2, .int .u8 2, .int .u8 9]]
def zb97 : Box := .cells [.own 768 1 [.int .u8 7, .int .u8 20, .int .u8 6, .int .u8 2, .int .u8 0, .int .u8 3, .int .u8 102, .int .u8 101, .int .u8 101, .int .u8 5, .int .u8 1, .int .u8 0, .int .u8 199, .int .u8 1, .int .u8 2, .int .u8 0, .int .u8 120, .int .u8 2, .int .u8 0, .int .u8 80, .int .u8 1, .int .u8 2, .int .u8 10, .int .u8 2, .int .u8 2, .int .u8 9]]
def zb98 : Box := .cells [.own 704 1 [.int .u8 7, .int .u8 20, .int .u8 6, .int .u8 2, .int .u8 0, .int .u8 3, .int .u8 102, .int .u8 101, .int .u8 101, .int .u8 5, .int .u8 1, .int .u8 0, .int .u8 199, .int .u8 1, .int .u8 2, .int .u8 0, .int .u8 120, .int .u8 2, .int .u8 0, .int .u8 80, .int .u8 1, .int .u8 2, .int .u8 10, .int .u8 2, .int .u8 2, .int .u8 9]]
def zb99 : Box := .cells [.own 0 1 [.int .u8 7, .int .u8 20, .int .u8 6, .int .u8 2, .int .u8 0, .int .u8 3, .int .u8 102, .int .u8 101, .int .u8 101, .int .u8 5, .int .u8 1, .int .u8 0, .int .u8 199, .int .u8 1, .int .u8 2, .int .u8 0, .int .u8 120, .int .u8 2, .int .u8 0, .int .u8 80, .int .u8 1, .int .u8 2, .int .u8 10, .int .u8 2, .int .u8 2, .int .u8 9]]
def zb100 : Box := .cells [.pv (.str [7, 20, 6, 2, 0, 3, 102, 101, 101, 5, 1, 0, 199, 1, 2, 0, 120, 2, 0, 80, 1, 2, 10, 2, 2, 9]), .pv (.int .i64 0)]
def zb101 : Box := .cells [.pv (.str [20, 6, 2, 0, 3, 102, 101, 101, 5, 1, 0, 199, 1, 2, 0, 120, 2, 0, 80, 1, 2, 10, 2, 2, 9]), .pv (.int .i64 0)]
def zb102 : Box := .cells [.pv (.str [6, 2, 0, 3, 102, 101, 101, 5, 1, 0, 199, 1, 2, 0, 120, 2, 0, 80, 1, 2, 10, 2, 2, 9]), .pv (.int .i64 0)]
def zb103 : Box := .cells [.pv (.str [2, 0, 3, 102, 101, 101, 5, 1, 0, 199, 1, 2, 0, 120, 2, 0, 80, 1, 2, 10, 2, 2, 9]), .pv (.int .i64 0)]
def zb104 : Box := .cells [.pv (.str [0, 3, 102, 101, 101, 5, 1, 0, 199, 1, 2, 0, 120, 2, 0, 80, 1, 2, 10, 2, 2, 9]), .pv (.int .i64 0)]
def zb105 : Box := .cells [.pv (.str [3, 102, 101, 101, 5, 1, 0, 199, 1, 2, 0, 120, 2, 0, 80, 1, 2, 10, 2, 2, 9]), .pv (.int .i64 0)]
def zb106 : Box := .cells [.pv (.int .i64 32)]
def zb107 : Box := .cells [.pv (.str [5, 1, 0, 199, 1, 2, 0, 120, 2, 0, 80, 1, 2, 10, 2, 2, 9]), .pv (.int .i64 0)]
def zb108 : Box := .cells [.pv (.int .i64 16)]
def zb109 : Box := .cells [.pv (.str [1, 0, 199, 1, 2, 0, 120, 2, 0, 80, 1, 2, 10, 2, 2, 9]), .pv (.int .i64 0)]
def zb110 : Box := .cells [.pv (.str [0, 199, 1, 2, 0, 120, 2, 0, 80, 1, 2, 10, 2, 2, 9]), .pv (.int .i64 0)]
def zb111 : Box := .cells [.pv (.str [2, 0, 120, 2, 0, 80, 1, 2, 10, 2, 2, 9]), .pv (.int .i64 0)]
def zb112 : Box := .cells [.pv (.str [0, 120, 2, 0, 80, 1, 2, 10, 2, 2, 9]), .pv (.int .i64 0)]
def zb113 : Box := .cells [.pv (.str [2, 0, 80, 1, 2, 10, 2, 2, 9]), .pv (.int .i64 0)]
def zb114 : Box := .cells [.pv (.str [0, 80, 1, 2, 10, 2, 2, 9]), .pv (.int .i64 0)]
def zb115 : Box := .cells [.pv (.str [1, 2, 10, 2, 2, 9]), .pv (.int .i64 0)]
def zb116 : Box := .cells [.pv (.str [2, 10, 2, 2, 9]), .pv (.int .i64 0)]
def zb117 : Box := .cells [.pv (.str [2, 2, 9]), .pv (.int .i64 0)]
def zb118 : Box := .cells [.pv (.str [2, 9]), .pv (.int .i64 0)]
def zb119 : Box := .cells [.pv (.str []), .pv (.int .i64 0)]
def zw120 : PV := .sl .shut 3 [zw0, zw1, zw2, zw3, zw4]
def zu121 : AV := .agg [.pv (.int .i64 7), .pv (.int .i32 10), .pv (.int .i32 3), .pv (zw120), .pv (.int .i64 0), .pv (.int .i64 2), .pv (.str [102, 101, 101])]
def zb122 : Box := .cells [.pv (.int .i64 7), .pv (.int .i32 10), .pv (.int .i32 3), .pv (zw120), .pv (.int .i64 0), .pv (.int .i64 2), .pv (.str [102, 101, 101])]
def zu123 : AV := .agg [.pv (.int .i64 7), .pv (.int .i32 10), .pv (.int .i32 3), .own 2751 3 [zw0, zw1, zw2, zw3, zw4], .pv (.int .i64 0), .pv (.int .i64 2), .pv (.str [102, 101, 101])]
def zu124 : AV := .agg [.pv (.int .i64 0), .pv (.int .i32 0), .pv (.int .i32 0), .pv (zw36), .pv (.int .i64 0), .pv (.int .i64 0), .pv (.str [])]
def zb125 : Box := .cells [.pv (.str [7, 20, 6, 2, 0, 3, 102, 101, 101, 5, 1, 0, 199, 1, 2, 0, 120, 2, 0, 80, 1, 2, 10, 2, 2, 9, 97]), .pv (.int .i64 0)]
def zb126 : Box := .cells [.pv (.str [20, 6, 2, 0, 3, 102, 101, 101, 5, 1, 0, 199, 1, 2, 0, 120, 2, 0, 80, 1, 2, 10, 2, 2, 9, 97]), .pv (.int .i64 0)]
def zb127 : Box := .cells [.pv (.str [6, 2, 0, 3, 102, 101, 101, 5, 1, 0, 199, 1, 2, 0, 120, 2, 0, 80, 1, 2, 10, 2, 2, 9, 97]), .pv (.int .i64 0)]
def zb128 : Box := .cells [.pv (.str [2, 0, 3, 102, 101, 101, 5, 1, 0, 199, 1, 2, 0, 120, 2, 0, 80, 1, 2, 10, 2, 2, 9, 97]), .pv (.int .i64 0)]
def zb129 : Box := .cells [.pv (.str [0, 3, 102, 101, 101, 5, 1, 0, 199, 1, 2, 0, 120, 2, 0, 80, 1, 2, 10, 2, 2, 9, 97]), .pv (.int .i64 0)]
def zb130 : Box := .cells [.pv (.str [3, 102, 101, 101, 5, 1, 0, 199, 1, 2, 0, 120, 2, 0, 80, 1, 2, 10, 2, 2, 9, 97]), .pv (.int .i64 0)]
def zb131 : Box := .cells [.pv (.str [5, 1, 0, 199, 1, 2, 0, 120, 2, 0, 80, 1, 2, 10, 2, 2, 9, 97]), .pv (.int .i64 0)]
def zb132 : Box := .cells [.pv (.str [1, 0, 199, 1, 2, 0, 120, 2, 0, 80, 1, 2, 10, 2, 2, 9, 97]), .pv (.int .i64 0)]
def zb133 : Box := .cells [.pv (.str [0, 199, 1, 2, 0, 120, 2, 0, 80, 1, 2, 10, 2, 2, 9, 97]), .pv (.int .i64 0)]
def zb134 : Box := .cells [.pv (.str [2, 0, 120, 2, 0, 80, 1, 2, 10, 2, 2, 9, 97]), .pv (.int .i64 0)]
def zb135 : Box := .cells [.pv (.str [0, 120, 2, 0, 80, 1, 2, 10, 2, 2, 9, 97]), .pv (.int .i64 0)]
def zb136 : Box := .cells [.pv (.str [2, 0, 80, 1, 2, 10, 2, 2, 9, 97]), .pv (.int .i64 0)]
def zb137 : Box := .cells [.pv (.str [0, 80, 1, 2, 10, 2, 2, 9, 97]), .pv (.int .i64 0)]
def zb138 : Box := .cells [.pv (.str [1, 2, 10, 2, 2, 9, 97]), .pv (.int .i64 0)]
def zb139 : Box := .cells [.pv (.str [2, 10, 2, 2, 9, 97]), .pv (.int .i64 0)]
def zb140 : Box := .cells [.pv (.str [2, 2, 9, 97]), .pv (.int .i64 0)]
def zb141 : Box := .cells [.pv (.str [2, 9, 97]), .pv (.int .i64 0)]
def zb142 : Box := .cells [.pv (.str [97]), .pv (.int .i64 0)]
def zw143 : PV := .sl .shut 3 [zw0, zw1, zw2, zw3]
def zu144 : AV := .agg [.pv (.int .i64 7), .pv (.int .i32 10), .pv (.int .i32 3), .pv (zw143), .pv (.int .i64 0), .pv (.int .i64 2), .pv (.str [102, 101, 101])]
def zb145 : Box := .cells [.pv (.int .i64 7), .pv (.int .i32 10), .pv (.int .i32 3), .pv (zw143), .pv (.int .i64 0), .pv (.int .i64 2), .pv (.str [102, 101, 101])]
def zt0 : Fact := ⟨86, [], [], (zu6, [])⟩
theorem zt0_ok : Holds (ev X E0) [zt0] := ⟨ev_tab (n := 400) (x := xf86) rfl (t := []) (by kernel_rfl) trivial, trivial⟩
def zt1 : Fact := ⟨128, [.c (.pv (.int .i32 102))], [], (.c (.pv (.bool false)), [])⟩
theorem zt1_ok : Holds (ev X E0) [zt1] := ⟨ev_tab (n := 400) (x := xf128) rfl (t := []) (by kernel_rfl) trivial, trivial⟩
def zt2 : Fact := ⟨128, [.c (.pv (.int .i32 101))], [], (.c (.pv (.bool false)), [])⟩
theorem zt2_ok : Holds (ev X E0) [zt2] := ⟨ev_tab (n := 400) (x := xf128) rfl (t := []) (by kernel_rfl) trivial, trivial⟩
def zt3 : Fact := ⟨154, [.c (.pv (.str [102, 101, 101])), .c (.fn 128 []), .c (.pv (.bool true))], [], (.c (.pv (.int .i64 (-1))), [])⟩
theorem zt3_ok : Holds (ev X E0) [zt3] := ⟨ev_tab (n := 400) (x := xf154) rfl (t := [zt1, zt2]) (by kernel_rfl) ⟨zt1_ok.1, zt2_ok.1, trivial⟩, trivial⟩
def zt4 : Fact := ⟨151, [.c (.pv (.str [102, 101, 101])), .c (.fn 128 [])], [], (.c (.pv (.int .i64 (-1))), [])⟩
theorem zt4_ok : Holds (ev X E0) [zt4] := ⟨ev_tab (n := 400) (x := xf151) rfl (t := [zt3]) (by kernel_rfl) ⟨zt3_ok.1, trivial⟩, trivial⟩
def zt5 : Fact := ⟨129, [.c (.pv (.str [102, 101, 101])), .c (.fn 128 [])], [], (.c (.pv (.bool false)), [])⟩
theorem zt5_ok : Holds (ev X E0) [zt5] := ⟨ev_tab (n := 400) (x := xf129) rfl (t := [zt4]) (by kernel_rfl) ⟨zt4_ok.1, trivial⟩, trivial⟩
def zt6 : Fact := ⟨76, [zu6], [], (.c (.pv (.bool true)), [])⟩
theorem zt6_ok : Holds (ev X E0) [zt6] := ⟨ev_tab (n := 400) (x := xf76) rfl (t := [zt5]) (by kernel_rfl) ⟨zt5_ok.1, trivial⟩, trivial⟩
def zt7 : Fact := ⟨77, [.c (.pv (.int .i32 10))], [], (.c (.pv (.bool true)), [])⟩
theorem zt7_ok : Holds (ev X E0) [zt7] := ⟨ev_tab (n := 400) (x := xf77) rfl (t := []) (by kernel_rfl) trivial, trivial⟩
def zt8 : Fact := ⟨77, [.c (.pv (.int .i32 3))], [], (.c (.pv (.bool true)), [])⟩
theorem zt8_ok : Holds (ev X E0) [zt8] := ⟨ev_tab (n := 400) (x := xf77) rfl (t := []) (by kernel_rfl) trivial, trivial⟩
def zt9 : Fact := ⟨78, [zu7], [], (.c (.pv (.bool false)), [])⟩
theorem zt9_ok : Holds (ev X E0) [zt9] := ⟨ev_tab (n := 400) (x := xf78) rfl (t := []) (by kernel_rfl) trivial, trivial⟩
def zt10 : Fact := ⟨78, [zu8], [], (.c (.pv (.bool false)), [])⟩
theorem zt10_ok : Holds (ev X E0) [zt10] := ⟨ev_tab (n := 400) (x := xf78) rfl (t := []) (by kernel_rfl) trivial, trivial⟩
def zt11 : Fact := ⟨78, [zu9], [], (.c (.pv (.bool false)), [])⟩
theorem zt11_ok : Holds (ev X E0) [zt11] := ⟨ev_tab (n := 400) (x := xf78) rfl (t := []) (by kernel_rfl) trivial, trivial⟩
def zt12 : Fact := ⟨78, [zu10], [], (.c (.pv (.bool false)), [])⟩
theorem zt12_ok : Holds (ev X E0) [zt12] := ⟨ev_tab (n := 400) (x := xf78) rfl (t := []) (by kernel_rfl) trivial, trivial⟩
def zt13 : Fact := ⟨78, [zu11], [], (.c (.pv (.bool false)), [])⟩
theorem zt13_ok : Holds (ev X E0) [zt13] := ⟨ev_tab (n := 400) (x := xf78) rfl (t := []) (by kernel_rfl) trivial, trivial⟩
def zt14 : Fact := ⟨127, [.c (.pv (zw5)), .c (.fn 78 [])], [], (.c (.pv (.int .i64 (-1))), [])⟩
theorem zt14_ok : Holds (ev X E0) [zt14] := ⟨ev_tab (n := 400) (x := xf127) rfl (t := [zt9, zt10, zt11, zt12, zt13]) (by kernel_rfl) ⟨zt9_ok.1, zt10_ok.1, zt11_ok.1, zt12_ok.1, zt13_ok.1, trivial⟩, trivial⟩
def zt15 : Fact := ⟨75, [.c (.pv (zw5)), .c (.fn 78 [])], [], (.c (.pv (.bool false)), [])⟩
theorem zt15_ok : Holds (ev X E0) [zt15] := ⟨ev_tab (n := 400) (x := xf75) rfl (t := [zt14]) (by kernel_rfl) ⟨zt14_ok.1, trivial⟩, trivial⟩
def zt16 : Fact := ⟨74, [.c (.fn 78 []), .c (.ptr 0 0)], [zb12], (.c (.pv (.bool false)), [zb12])⟩
theorem zt16_ok : Holds (ev X E0) [zt16] := ⟨ev_tab (n := 400) (x := xf74) rfl (t := [zt15]) (by kernel_rfl) ⟨zt15_ok.1, trivial⟩, trivial⟩
def zt17 : Fact := ⟨130, [.c (.pv (.int .i64 0))], [], (.c (.pv (.bool true)), [])⟩
theorem zt17_ok : Holds (ev X E0) [zt17] := ⟨ev_tab (n := 400) (x := xf130) rfl (t := []) (by kernel_rfl) trivial, trivial⟩
def zt18 : Fact := ⟨80, [.c (.pv (.int .i64 0))], [], (.c (.pv (.str [69, 85, 82])), [])⟩
theorem zt18_ok : Holds (ev X E0) [zt18] := ⟨ev_tab (n := 400) (x := xf80) rfl (t := [zt17]) (by kernel_rfl) ⟨zt17_ok.1, trivial⟩, trivial⟩
def zt19 : Fact := ⟨79, [zu7], [], (.c (.pv (.bool false)), [])⟩
theorem zt19_ok : Holds (ev X E0) [zt19] := ⟨ev_tab (n := 400) (x := xf79) rfl (t := [zt18]) (by kernel_rfl) ⟨zt18_ok.1, trivial⟩, trivial⟩
def zt20 : Fact := ⟨79, [zu8], [], (.c (.pv (.bool false)), [])⟩
theorem zt20_ok : Holds (ev X E0) [zt20] := ⟨ev_tab (n := 400) (x := xf79) rfl (t := [zt18]) (by kernel_rfl) ⟨zt18_ok.1, trivial⟩, trivial⟩
def zt21 : Fact := ⟨79, [zu9], [], (.c (.pv (.bool false)), [])⟩
theorem zt21_ok : Holds (ev X E0) [zt21] := ⟨ev_tab (n := 400) (x := xf79) rfl (t := [zt18]) (by kernel_rfl) ⟨zt18_ok.1, trivial⟩, trivial⟩
def zt22 : Fact := ⟨130, [.c (.pv (.int .i64 1))], [], (.c (.pv (.bool true)), [])⟩
theorem zt22_ok : Holds (ev X E0) [zt22] := ⟨ev_tab (n := 400) (x := xf130) rfl (t := []) (by kernel_rfl) trivial, trivial⟩
def zt23 : Fact := ⟨80, [.c (.pv (.int .i64 1))], [], (.c (.pv (.str [74, 80, 89])), [])⟩
theorem zt23_ok : Holds (ev X E0) [zt23] := ⟨ev_tab (n := 400) (x := xf80) rfl (t := [zt22]) (by kernel_rfl) ⟨zt22_ok.1, trivial⟩, trivial⟩
def zt24 : Fact := ⟨79, [zu10], [], (.c (.pv (.bool false)), [])⟩
theorem zt24_ok : Holds (ev X E0) [zt24] := ⟨ev_tab (n := 400) (x := xf79) rfl (t := [zt23]) (by kernel_rfl) ⟨zt23_ok.1, trivial⟩, trivial⟩
def zt25 : Fact := ⟨79, [zu11], [], (.c (.pv (.bool false)), [])⟩
theorem zt25_ok : Holds (ev X E0) [zt25] := ⟨ev_tab (n := 400) (x := xf79) rfl (t := [zt23]) (by kernel_rfl) ⟨zt23_ok.1, trivial⟩, trivial⟩
def zt26 : Fact := ⟨127, [.c (.pv (zw5)), .c (.fn 79 [])], [], (.c (.pv (.int .i64 (-1))), [])⟩
theorem zt26_ok : Holds (ev X E0) [zt26] := ⟨ev_tab (n := 400) (x := xf127) rfl (t := [zt19, zt20, zt21, zt24, zt25]) (by kernel_rfl) ⟨zt19_ok.1, zt20_ok.1, zt21_ok.1, zt24_ok.1, zt25_ok.1, trivial⟩, trivial⟩
def zt27 : Fact := ⟨75, [.c (.pv (zw5)), .c (.fn 79 [])], [], (.c (.pv (.bool false)), [])⟩
theorem zt27_ok : Holds (ev X E0) [zt27] := ⟨ev_tab (n := 400) (x := xf75) rfl (t := [zt26]) (by kernel_rfl) ⟨zt26_ok.1, trivial⟩, trivial⟩
def zt28 : Fact := ⟨74, [.c (.fn 79 []), .c (.ptr 0 0)], [zb12], (.c (.pv (.bool false)), [zb12])⟩
theorem zt28_ok : Holds (ev X E0) [zt28] := ⟨ev_tab (n := 400) (x := xf74) rfl (t := [zt27]) (by kernel_rfl) ⟨zt27_ok.1, trivial⟩, trivial⟩
def zt29 : Fact := ⟨82, [zu13], [], (.c (.pv (.bool true)), [])⟩
theorem zt29_ok : Holds (ev X E0) [zt29] := ⟨ev_tab (n := 400) (x := xf82) rfl (t := [zt17]) (by kernel_rfl) ⟨zt17_ok.1, trivial⟩, trivial⟩
def zt30 : Fact := ⟨81, [zu7], [], (.c (.pv (.bool false)), [])⟩
theorem zt30_ok : Holds (ev X E0) [zt30] := ⟨ev_tab (n := 400) (x := xf81) rfl (t := [zt29]) (by kernel_rfl) ⟨zt29_ok.1, trivial⟩, trivial⟩
def zt31 : Fact := ⟨82, [zu14], [], (.c (.pv (.bool true)), [])⟩
theorem zt31_ok : Holds (ev X E0) [zt31] := ⟨ev_tab (n := 400) (x := xf82) rfl (t := [zt17]) (by kernel_rfl) ⟨zt17_ok.1, trivial⟩, trivial⟩
def zt32 : Fact := ⟨81, [zu8], [], (.c (.pv (.bool false)), [])⟩
theorem zt32_ok : Holds (ev X E0) [zt32] := ⟨ev_tab (n := 400) (x := xf81) rfl (t := [zt31]) (by kernel_rfl) ⟨zt31_ok.1, trivial⟩, trivial⟩
def zt33 : Fact := ⟨82, [zu15], [], (.c (.pv (.bool true)), [])⟩
theorem zt33_ok : Holds (ev X E0) [zt33] := ⟨ev_tab (n := 400) (x := xf82) rfl (t := [zt17]) (by kernel_rfl) ⟨zt17_ok.1, trivial⟩, trivial⟩
def zt34 : Fact := ⟨81, [zu9], [], (.c (.pv (.bool false)), [])⟩
theorem zt34_ok : Holds (ev X E0) [zt34] := ⟨ev_tab (n := 400) (x := xf81) rfl (t := [zt33]) (by kernel_rfl) ⟨zt33_ok.1, trivial⟩, trivial⟩
def zt35 : Fact := ⟨82, [zu16], [], (.c (.pv (.bool true)), [])⟩
theorem zt35_ok : Holds (ev X E0) [zt35] := ⟨ev_tab (n := 400) (x := xf82) rfl (t := [zt22]) (by kernel_rfl) ⟨zt22_ok.1, trivial⟩, trivial⟩
def zt36 : Fact := ⟨81, [zu10], [], (.c (.pv (.bool false)), [])⟩
theorem zt36_ok : Holds (ev X E0) [zt36] := ⟨ev_tab (n := 400) (x := xf81) rfl (t := [zt35]) (by kernel_rfl) ⟨zt35_ok.1, trivial⟩, trivial⟩
def zt37 : Fact := ⟨82, [zu17], [], (.c (.pv (.bool true)), [])⟩
theorem zt37_ok : Holds (ev X E0) [zt37] := ⟨ev_tab (n := 400) (x := xf82) rfl (t := [zt22]) (by kernel_rfl) ⟨zt22_ok.1, trivial⟩, trivial⟩
def zt38 : Fact := ⟨81, [zu11], [], (.c (.pv (.bool false)), [])⟩
theorem zt38_ok : Holds (ev X E0) [zt38] := ⟨ev_tab (n := 400) (x := xf81) rfl (t := [zt37]) (by kernel_rfl) ⟨zt37_ok.1, trivial⟩, trivial⟩
def zt39 : Fact := ⟨127, [.c (.pv (zw5)), .c (.fn 81 [])], [], (.c (.pv (.int .i64 (-1))), [])⟩
theorem zt39_ok : Holds (ev X E0) [zt39] := ⟨ev_tab (n := 400) (x := xf127) rfl (t := [zt30, zt32, zt34, zt36, zt38]) (by kernel_rfl) ⟨zt30_ok.1, zt32_ok.1, zt34_ok.1, zt36_ok.1, zt38_ok.1, trivial⟩, trivial⟩
def zt40 : Fact := ⟨75, [.c (.pv (zw5)), .c (.fn 81 [])], [], (.c (.pv (.bool false)), [])⟩
theorem zt40_ok : Holds (ev X E0) [zt40] := ⟨ev_tab (n := 400) (x := xf75) rfl (t := [zt39]) (by kernel_rfl) ⟨zt39_ok.1, trivial⟩, trivial⟩
def zt41 : Fact := ⟨74, [.c (.fn 81 []), .c (.ptr 0 0)], [zb12], (.c (.pv (.bool false)), [zb12])⟩
theorem zt41_ok : Holds (ev X E0) [zt41] := ⟨ev_tab (n := 400) (x := xf74) rfl (t := [zt40]) (by kernel_rfl) ⟨zt40_ok.1, trivial⟩, trivial⟩
def zt42 : Fact := ⟨83, [zu7], [], (.c (.pv (.bool false)), [])⟩
theorem zt42_ok : Holds (ev X E0) [zt42] := ⟨ev_tab (n := 400) (x := xf83) rfl (t := []) (by kernel_rfl) trivial, trivial⟩
def zt43 : Fact := ⟨83, [zu8], [], (.c (.pv (.bool false)), [])⟩
theorem zt43_ok : Holds (ev X E0) [zt43] := ⟨ev_tab (n := 400) (x := xf83) rfl (t := []) (by kernel_rfl) trivial, trivial⟩
def zt44 : Fact := ⟨83, [zu9], [], (.c (.pv (.bool false)), [])⟩
theorem zt44_ok : Holds (ev X E0) [zt44] := ⟨ev_tab (n := 400) (x := xf83) rfl (t := []) (by kernel_rfl) trivial, trivial⟩
def zt45 : Fact := ⟨83, [zu10], [], (.c (.pv (.bool false)), [])⟩
theorem zt45_ok : Holds (ev X E0) [zt45] := ⟨ev_tab (n := 400) (x := xf83) rfl (t := []) (by kernel_rfl) trivial, trivial⟩
def zt46 : Fact := ⟨83, [zu11], [], (.c (.pv (.bool false)), [])⟩
theorem zt46_ok : Holds (ev X E0) [zt46] := ⟨ev_tab (n := 400) (x := xf83) rfl (t := []) (by kernel_rfl) trivial, trivial⟩
def zt47 : Fact := ⟨127, [.c (.pv (zw5)), .c (.fn 83 [])], [], (.c (.pv (.int .i64 (-1))), [])⟩
theorem zt47_ok : Holds (ev X E0) [zt47] := ⟨ev_tab (n := 400) (x := xf127) rfl (t := [zt42, zt43, zt44, zt45, zt46]) (by kernel_rfl) ⟨zt42_ok.1, zt43_ok.1, zt44_ok.1, zt45_ok.1, zt46_ok.1, trivial⟩, trivial⟩
def zt48 : Fact := ⟨75, [.c (.pv (zw5)), .c (.fn 83 [])], [], (.c (.pv (.bool false)), [])⟩
theorem zt48_ok : Holds (ev X E0) [zt48] := ⟨ev_tab (n := 400) (x := xf75) rfl (t := [zt47]) (by kernel_rfl) ⟨zt47_ok.1, trivial⟩, trivial⟩
def zt49 : Fact := ⟨74, [.c (.fn 83 []), .c (.ptr 0 0)], [zb12], (.c (.pv (.bool false)), [zb12])⟩
theorem zt49_ok : Holds (ev X E0) [zt49] := ⟨ev_tab (n := 400) (x := xf74) rfl (t := [zt48]) (by kernel_rfl) ⟨zt48_ok.1, trivial⟩, trivial⟩
def zt50 : Fact := ⟨84, [.c (.pv (zw5))], [], (.c (.pv (.bool true)), [])⟩
theorem zt50_ok : Holds (ev X E0) [zt50] := ⟨ev_tab (n := 400) (x := xf84) rfl (t := []) (by kernel_rfl) trivial, trivial⟩
def zt51 : Fact := ⟨37, [zu6], [], (.c (.pv (.int .i64 0)), [])⟩
theorem zt51_ok : Holds (ev X E0) [zt51] := ⟨ev_tab (n := 400) (x := xf37) rfl (t := [zt6, zt7, zt8, zt16, zt28, zt41, zt49, zt50]) (by kernel_rfl) ⟨zt6_ok.1, zt7_ok.1, zt8_ok.1, zt16_ok.1, zt28_ok.1, zt41_ok.1, zt49_ok.1, zt50_ok.1, trivial⟩, trivial⟩
def zt52 : Fact := ⟨85, [.c (.pv (zw5))], [], (.c (.own 511 3 [zw0, zw1, zw2, zw3, zw4]), [])⟩
theorem zt52_ok : Holds (ev X E0) [zt52] := ⟨ev_tab (n := 400) (x := xf85) rfl (t := []) (by kernel_rfl) trivial, trivial⟩
def zt53 : Fact := ⟨76, [zu24], [], (.c (.pv (.bool true)), [])⟩
theorem zt53_ok : Holds (ev X E0) [zt53] := ⟨ev_tab (n := 400) (x := xf76) rfl (t := [zt5]) (by kernel_rfl) ⟨zt5_ok.1, trivial⟩, trivial⟩
def zt54 : Fact := ⟨78, [zu25], [], (.c (.pv (.bool false)), [])⟩
theorem zt54_ok : Holds (ev X E0) [zt54] := ⟨ev_tab (n := 400) (x := xf78) rfl (t := []) (by kernel_rfl) trivial, trivial⟩
def zt55 : Fact := ⟨78, [zu26], [], (.c (.pv (.bool false)), [])⟩
theorem zt55_ok : Holds (ev X E0) [zt55] := ⟨ev_tab (n := 400) (x := xf78) rfl (t := []) (by kernel_rfl) trivial, trivial⟩
def zt56 : Fact := ⟨78, [zu27], [], (.c (.pv (.bool false)), [])⟩
theorem zt56_ok : Holds (ev X E0) [zt56] := ⟨ev_tab (n := 400) (x := xf78) rfl (t := []) (by kernel_rfl) trivial, trivial⟩
def zt57 : Fact := ⟨78, [zu28], [], (.c (.pv (.bool false)), [])⟩
theorem zt57_ok : Holds (ev X E0) [zt57] := ⟨ev_tab (n := 400) (x := xf78) rfl (t := []) (by kernel_rfl) trivial, trivial⟩
def zt58 : Fact := ⟨78, [zu29], [], (.c (.pv (.bool false)), [])⟩
theorem zt58_ok : Holds (ev X E0) [zt58] := ⟨ev_tab (n := 400) (x := xf78) rfl (t := []) (by kernel_rfl) trivial, trivial⟩
def zt59 : Fact := ⟨127, [.c (.pv (zw23)), .c (.fn 78 [])], [], (.c (.pv (.int .i64 (-1))), [])⟩
theorem zt59_ok : Holds (ev X E0) [zt59] := ⟨ev_tab (n := 400) (x := xf127) rfl (t := [zt54, zt55, zt56, zt57, zt58]) (by kernel_rfl) ⟨zt54_ok.1, zt55_ok.1, zt56_ok.1, zt57_ok.1, zt58_ok.1, trivial⟩, trivial⟩
def zt60 : Fact := ⟨75, [.c (.pv (zw23)), .c (.fn 78 [])], [], (.c (.pv (.bool false)), [])⟩
theorem zt60_ok : Holds (ev X E0) [zt60] := ⟨ev_tab (n := 400) (x := xf75) rfl (t := [zt59]) (by kernel_rfl) ⟨zt59_ok.1, trivial⟩, trivial⟩
def zt61 : Fact := ⟨74, [.c (.fn 78 []), .c (.ptr 0 0)], [zb30], (.c (.pv (.bool false)), [zb30])⟩
theorem zt61_ok : Holds (ev X E0) [zt61] := ⟨ev_tab (n := 400) (x := xf74) rfl (t := [zt60]) (by kernel_rfl) ⟨zt60_ok.1, trivial⟩, trivial⟩
def zt62 : Fact := ⟨79, [zu25], [], (.c (.pv (.bool false)), [])⟩
theorem zt62_ok : Holds (ev X E0) [zt62] := ⟨ev_tab (n := 400) (x := xf79) rfl (t := [zt18]) (by kernel_rfl) ⟨zt18_ok.1, trivial⟩, trivial⟩
def zt63 : Fact := ⟨79, [zu26], [], (.c (.pv (.bool false)), [])⟩
theorem zt63_ok : Holds (ev X E0) [zt63] := ⟨ev_tab (n := 400) (x := xf79) rfl (t := [zt18]) (by kernel_rfl) ⟨zt18_ok.1, trivial⟩, trivial⟩
def zt64 : Fact := ⟨79, [zu27], [], (.c (.pv (.bool false)), [])⟩
theorem zt64_ok : Holds (ev X E0) [zt64] := ⟨ev_tab (n := 400) (x := xf79) rfl (t := [zt18]) (by kernel_rfl) ⟨zt18_ok.1, trivial⟩, trivial⟩
def zt65 : Fact := ⟨79, [zu28], [], (.c (.pv (.bool false)), [])⟩
theorem zt65_ok : Holds (ev X E0) [zt65] := ⟨ev_tab (n := 400) (x := xf79) rfl (t := [zt23]) (by kernel_rfl) ⟨zt23_ok.1, trivial⟩, trivial⟩
def zt66 : Fact := ⟨79, [zu29], [], (.c (.pv (.bool false)), [])⟩
theorem zt66_ok : Holds (ev X E0) [zt66] := ⟨ev_tab (n := 400) (x := xf79) rfl (t := [zt23]) (by kernel_rfl) ⟨zt23_ok.1, trivial⟩, trivial⟩
def zt67 : Fact := ⟨127, [.c (.pv (zw23)), .c (.fn 79 [])], [], (.c (.pv (.int .i64 (-1))), [])⟩
theorem zt67_ok : Holds (ev X E0) [zt67] := ⟨ev_tab (n := 400) (x := xf127) rfl (t := [zt62, zt63, zt64, zt65, zt66]) (by kernel_rfl) ⟨zt62_ok.1, zt63_ok.1, zt64_ok.1, zt65_ok.1, zt66_ok.1, trivial⟩, trivial⟩
def zt68 : Fact := ⟨75, [.c (.pv (zw23)), .c (.fn 79 [])], [], (.c (.pv (.bool false)), [])⟩
theorem zt68_ok : Holds (ev X E0) [zt68] := ⟨ev_tab (n := 400) (x := xf75) rfl (t := [zt67]) (by kernel_rfl) ⟨zt67_ok.1, trivial⟩, trivial⟩
def zt69 : Fact := ⟨74, [.c (.fn 79 []), .c (.ptr 0 0)], [zb30], (.c (.pv (.bool false)), [zb30])⟩
theorem zt69_ok : Holds (ev X E0) [zt69] := ⟨ev_tab (n := 400) (x := xf74) rfl (t := [zt68]) (by kernel_rfl) ⟨zt68_ok.1, trivial⟩, trivial⟩
def zt70 : Fact := ⟨82, [zu31], [], (.c (.pv (.bool true)), [])⟩
theorem zt70_ok : Holds (ev X E0) [zt70] := ⟨ev_tab (n := 400) (x := xf82) rfl (t := [zt17]) (by kernel_rfl) ⟨zt17_ok.1, trivial⟩, trivial⟩
def zt71 : Fact := ⟨81, [zu25], [], (.c (.pv (.bool false)), [])⟩
theorem zt71_ok : Holds (ev X E0) [zt71] := ⟨ev_tab (n := 400) (x := xf81) rfl (t := [zt70]) (by kernel_rfl) ⟨zt70_ok.1, trivial⟩, trivial⟩
def zt72 : Fact := ⟨82, [zu32], [], (.c (.pv (.bool true)), [])⟩
theorem zt72_ok : Holds (ev X E0) [zt72] := ⟨ev_tab (n := 400) (x := xf82) rfl (t := [zt17]) (by kernel_rfl) ⟨zt17_ok.1, trivial⟩, trivial⟩
def zt73 : Fact := ⟨81, [zu26], [], (.c (.pv (.bool false)), [])⟩
theorem zt73_ok : Holds (ev X E0) [zt73] := ⟨ev_tab (n := 400) (x := xf81) rfl (t := [zt72]) (by kernel_rfl) ⟨zt72_ok.1, trivial⟩, trivial⟩
def zt74 : Fact := ⟨82, [zu33], [], (.c (.pv (.bool true)), [])⟩
theorem zt74_ok : Holds (ev X E0) [zt74] := ⟨ev_tab (n := 400) (x := xf82) rfl (t := [zt17]) (by kernel_rfl) ⟨zt17_ok.1, trivial⟩, trivial⟩
def zt75 : Fact := ⟨81, [zu27], [], (.c (.pv (.bool false)), [])⟩
theorem zt75_ok : Holds (ev X E0) [zt75] := ⟨ev_tab (n := 400) (x := xf81) rfl (t := [zt74]) (by kernel_rfl) ⟨zt74_ok.1, trivial⟩, trivial⟩
def zt76 : Fact := ⟨81, [zu28], [], (.c (.pv (.bool false)), [])⟩
theorem zt76_ok : Holds (ev X E0) [zt76] := ⟨ev_tab (n := 400) (x := xf81) rfl (t := [zt37]) (by kernel_rfl) ⟨zt37_ok.1, trivial⟩, trivial⟩
def zt77 : Fact := ⟨81, [zu29], [], (.c (.pv (.bool false)), [])⟩
theorem zt77_ok : Holds (ev X E0) [zt77] := ⟨ev_tab (n := 400) (x := xf81) rfl (t := [zt35]) (by kernel_rfl) ⟨zt35_ok.1, trivial⟩, trivial⟩
def zt78 : Fact := ⟨127, [.c (.pv (zw23)), .c (.fn 81 [])], [], (.c (.pv (.int .i64 (-1))), [])⟩
theorem zt78_ok : Holds (ev X E0) [zt78] := ⟨ev_tab (n := 400) (x := xf127) rfl (t := [zt71, zt73, zt75, zt76, zt77]) (by kernel_rfl) ⟨zt71_ok.1, zt73_ok.1, zt75_ok.1, zt76_ok.1, zt77_ok.1, trivial⟩, trivial⟩
def zt79 : Fact := ⟨75, [.c (.pv (zw23)), .c (.fn 81 [])], [], (.c (.pv (.bool false)), [])⟩
theorem zt79_ok : Holds (ev X E0) [zt79] := ⟨ev_tab (n := 400) (x := xf75) rfl (t := [zt78]) (by kernel_rfl) ⟨zt78_ok.1, trivial⟩, trivial⟩
def zt80 : Fact := ⟨74, [.c (.fn 81 []), .c (.ptr 0 0)], [zb30], (.c (.pv (.bool false)), [zb30])⟩
theorem zt80_ok : Holds (ev X E0) [zt80] := ⟨ev_tab (n := 400) (x := xf74) rfl (t := [zt79]) (by kernel_rfl) ⟨zt79_ok.1, trivial⟩, trivial⟩
def zt81 : Fact := ⟨83, [zu25], [], (.c (.pv (.bool false)), [])⟩
theorem zt81_ok : Holds (ev X E0) [zt81] := ⟨ev_tab (n := 400) (x := xf83) rfl (t := []) (by kernel_rfl) trivial, trivial⟩
def zt82 : Fact := ⟨83, [zu26], [], (.c (.pv (.bool false)), [])⟩
theorem zt82_ok : Holds (ev X E0) [zt82] := ⟨ev_tab (n := 400) (x := xf83) rfl (t := []) (by kernel_rfl) trivial, trivial⟩
def zt83 : Fact := ⟨83, [zu27], [], (.c (.pv (.bool false)), [])⟩
theorem zt83_ok : Holds (ev X E0) [zt83] := ⟨ev_tab (n := 400) (x := xf83) rfl (t := []) (by kernel_rfl) trivial, trivial⟩
def zt84 : Fact := ⟨83, [zu28], [], (.c (.pv (.bool false)), [])⟩
theorem zt84_ok : Holds (ev X E0) [zt84] := ⟨ev_tab (n := 400) (x := xf83) rfl (t := []) (by kernel_rfl) trivial, trivial⟩
def zt85 : Fact := ⟨83, [zu29], [], (.c (.pv (.bool false)), [])⟩
theorem zt85_ok : Holds (ev X E0) [zt85] := ⟨ev_tab (n := 400) (x := xf83) rfl (t := []) (by kernel_rfl) trivial, trivial⟩
def zt86 : Fact := ⟨127, [.c (.pv (zw23)), .c (.fn 83 [])], [], (.c (.pv (.int .i64 (-1))), [])⟩
theorem zt86_ok : Holds (ev X E0) [zt86] := ⟨ev_tab (n := 400) (x := xf127) rfl (t := [zt81, zt82, zt83, zt84, zt85]) (by kernel_rfl) ⟨zt81_ok.1, zt82_ok.1, zt83_ok.1, zt84_ok.1, zt85_ok.1, trivial⟩, trivial⟩
def zt87 : Fact := ⟨75, [.c (.pv (zw23)), .c (.fn 83 [])], [], (.c (.pv (.bool false)), [])⟩
theorem zt87_ok : Holds (ev X E0) [zt87] := ⟨ev_tab (n := 400) (x := xf75) rfl (t := [zt86]) (by kernel_rfl) ⟨zt86_ok.1, trivial⟩, trivial⟩
def zt88 : Fact := ⟨74, [.c (.fn 83 []), .c (.ptr 0 0)], [zb30], (.c (.pv (.bool false)), [zb30])⟩
theorem zt88_ok : Holds (ev X E0) [zt88] := ⟨ev_tab (n := 400) (x := xf74) rfl (t := [zt87]) (by kernel_rfl) ⟨zt87_ok.1, trivial⟩, trivial⟩
def zt89 : Fact := ⟨84, [.c (.pv (zw23))], [], (.c (.pv (.bool true)), [])⟩
theorem zt89_ok : Holds (ev X E0) [zt89] := ⟨ev_tab (n := 400) (x := xf84) rfl (t := []) (by kernel_rfl) trivial, trivial⟩
def zt90 : Fact := ⟨37, [zu24], [], (.c (.pv (.int .i64 0)), [])⟩
theorem zt90_ok : Holds (ev X E0) [zt90] := ⟨ev_tab (n := 400) (x := xf37) rfl (t := [zt53, zt7, zt8, zt61, zt69, zt80, zt88, zt89]) (by kernel_rfl) ⟨zt53_ok.1, zt7_ok.1, zt8_ok.1, zt61_ok.1, zt69_ok.1, zt80_ok.1, zt88_ok.1, zt89_ok.1, trivial⟩, trivial⟩
def zt91 : Fact := ⟨38, [zu6, .c (.pv (.int .i64 9)), .c (.pv (.int .i32 10))], [], (.tup [zu24, .c (.pv (.int .i64 0))], [])⟩
theorem zt91_ok : Holds (ev X E0) [zt91] := ⟨ev_tab (n := 400) (x := xf38) rfl (t := [zt51, zt52, zt90]) (by kernel_rfl) ⟨zt51_ok.1, zt52_ok.1, zt90_ok.1, trivial⟩, trivial⟩
def zt92 : Fact := ⟨88, [zu7, .c (.ptr 0 0), .c (.ptr 1 0)], [zb34, zb35], (.c (.pv (.bool false)), [zb34, zb35])⟩
theorem zt92_ok : Holds (ev X E0) [zt92] := ⟨ev_tab (n := 400) (x := xf88) rfl (t := []) (by kernel_rfl) trivial, trivial⟩
def zt93 : Fact := ⟨88, [zu8, .c (.ptr 0 0), .c (.ptr 1 0)], [zb34, zb35], (.c (.pv (.bool true)), [zb34, zb35])⟩
theorem zt93_ok : Holds (ev X E0) [zt93] := ⟨ev_tab (n := 400) (x := xf88) rfl (t := []) (by kernel_rfl) trivial, trivial⟩
def zt94 : Fact := ⟨88, [zu9, .c (.ptr 0 0), .c (.ptr 1 0)], [zb34, zb35], (.c (.pv (.bool true)), [zb34, zb35])⟩
theorem zt94_ok : Holds (ev X E0) [zt94] := ⟨ev_tab (n := 400) (x := xf88) rfl (t := []) (by kernel_rfl) trivial, trivial⟩
def zt95 : Fact := ⟨88, [zu10, .c (.ptr 0 0), .c (.ptr 1 0)], [zb34, zb35], (.c (.pv (.bool false)), [zb34, zb35])⟩
theorem zt95_ok : Holds (ev X E0) [zt95] := ⟨ev_tab (n := 400) (x := xf88) rfl (t := []) (by kernel_rfl) trivial, trivial⟩
def zt96 : Fact := ⟨88, [zu11, .c (.ptr 0 0), .c (.ptr 1 0)], [zb34, zb35], (.c (.pv (.bool false)), [zb34, zb35])⟩
theorem zt96_ok : Holds (ev X E0) [zt96] := ⟨ev_tab (n := 400) (x := xf88) rfl (t := []) (by kernel_rfl) trivial, trivial⟩
def zt97 : Fact := ⟨87, [zu6, .c (.fn 88 [0, 1])], [zb34, zb35], (.tup [.c (.pv (.int .i64 100)), .c (.pv (.int .i64 0))], [zb34, zb35])⟩
theorem zt97_ok : Holds (ev X E0) [zt97] := ⟨ev_tab (n := 400) (x := xf87) rfl (t := [zt51, zt92, zt93, zt94, zt95, zt96]) (by kernel_rfl) ⟨zt51_ok.1, zt92_ok.1, zt93_ok.1, zt94_ok.1, zt95_ok.1, zt96_ok.1, trivial⟩, trivial⟩
def zt98 : Fact := ⟨40, [zu6, .c (.pv (.int .i64 2)), .c (.pv (.int .i64 0))], [], (.tup [.c (.pv (.int .i64 100)), .c (.pv (.int .i64 0))], [])⟩
theorem zt98_ok : Holds (ev X E0) [zt98] := ⟨ev_tab (n := 400) (x := xf40) rfl (t := [zt97]) (by kernel_rfl) ⟨zt97_ok.1, trivial⟩, trivial⟩
def zt99 : Fact := ⟨89, [zu7, .c (.ptr 0 0)], [zb35], (.c (.pv (.bool false)), [zb35])⟩
theorem zt99_ok : Holds (ev X E0) [zt99] := ⟨ev_tab (n := 400) (x := xf89) rfl (t := []) (by kernel_rfl) trivial, trivial⟩
def zt100 : Fact := ⟨89, [zu8, .c (.ptr 0 0)], [zb35], (.c (.pv (.bool true)), [zb35])⟩
theorem zt100_ok : Holds (ev X E0) [zt100] := ⟨ev_tab (n := 400) (x := xf89) rfl (t := []) (by kernel_rfl) trivial, trivial⟩
def zt101 : Fact := ⟨89, [zu9, .c (.ptr 0 0)], [zb35], (.c (.pv (.bool true)), [zb35])⟩
theorem zt101_ok : Holds (ev X E0) [zt101] := ⟨ev_tab (n := 400) (x := xf89) rfl (t := []) (by kernel_rfl) trivial, trivial⟩
def zt102 : Fact := ⟨89, [zu10, .c (.ptr 0 0)], [zb35], (.c (.pv (.bool false)), [zb35])⟩
theorem zt102_ok : Holds (ev X E0) [zt102] := ⟨ev_tab (n := 400) (x := xf89) rfl (t := []) (by kernel_rfl) trivial, trivial⟩
def zt103 : Fact := ⟨89, [zu11, .c (.ptr 0 0)], [zb35], (.c (.pv (.bool false)), [zb35])⟩
theorem zt103_ok : Holds (ev X E0) [zt103] := ⟨ev_tab (n := 400) (x := xf89) rfl (t := []) (by kernel_rfl) trivial, trivial⟩
def zt104 : Fact := ⟨87, [zu6, .c (.fn 89 [0])], [zb35], (.tup [.c (.pv (.int .i64 100)), .c (.pv (.int .i64 0))], [zb35])⟩
theorem zt104_ok : Holds (ev X E0) [zt104] := ⟨ev_tab (n := 400) (x := xf87) rfl (t := [zt51, zt99, zt100, zt101, zt102, zt103]) (by kernel_rfl) ⟨zt51_ok.1, zt99_ok.1, zt100_ok.1, zt101_ok.1, zt102_ok.1, zt103_ok.1, trivial⟩, trivial⟩
def zt105 : Fact := ⟨41, [zu6, .c (.pv (.int .i64 0))], [], (.tup [.c (.pv (.int .i64 100)), .c (.pv (.int .i64 0))], [])⟩
theorem zt105_ok : Holds (ev X E0) [zt105] := ⟨ev_tab (n := 400) (x := xf41) rfl (t := [zt104]) (by kernel_rfl) ⟨zt104_ok.1, trivial⟩, trivial⟩
def zt106 : Fact := ⟨90, [], [], (.c (.ptr 0 0), [zb37])⟩
theorem zt106_ok : Holds (ev X E0) [zt106] := ⟨ev_tab (n := 400) (x := xf90) rfl (t := []) (by kernel_rfl) trivial, trivial⟩
def zt107 : Fact := ⟨91, [.c (.ptr 0 0), .c (.pv (.int .u64 7))], [zb37], (.tup [], [zb38])⟩
theorem zt107_ok : Holds (ev X E0) [zt107] := ⟨ev_tab (n := 400) (x := xf91) rfl (t := []) (by kernel_rfl) trivial, trivial⟩
def zt108 : Fact := ⟨91, [.c (.ptr 0 0), .c (.pv (.int .u64 20))], [zb39], (.tup [], [zb40])⟩
theorem zt108_ok : Holds (ev X E0) [zt108] := ⟨ev_tab (n := 400) (x := xf91) rfl (t := []) (by kernel_rfl) trivial, trivial⟩
def zt109 : Fact := ⟨92, [.c (.ptr 0 0), .c (.pv (.int .i64 10))], [zb39], (.tup [], [zb41])⟩
theorem zt109_ok : Holds (ev X E0) [zt109] := ⟨ev_tab (n := 400) (x := xf92) rfl (t := [zt108]) (by kernel_rfl) ⟨zt108_ok.1, trivial⟩, trivial⟩
def zt110 : Fact := ⟨91, [.c (.ptr 0 0), .c (.pv (.int .u64 6))], [zb42], (.tup [], [zb43])⟩
theorem zt110_ok : Holds (ev X E0) [zt110] := ⟨ev_tab (n := 400) (x := xf91) rfl (t := []) (by kernel_rfl) trivial, trivial⟩
def zt111 : Fact := ⟨92, [.c (.ptr 0 0), .c (.pv (.int .i64 3))], [zb42], (.tup [], [zb44])⟩
theorem zt111_ok : Holds (ev X E0) [zt111] := ⟨ev_tab (n := 400) (x := xf92) rfl (t := [zt110]) (by kernel_rfl) ⟨zt110_ok.1, trivial⟩, trivial⟩
def zt112 : Fact := ⟨91, [.c (.ptr 0 0), .c (.pv (.int .u64 2))], [zb45], (.tup [], [zb46])⟩
theorem zt112_ok : Holds (ev X E0) [zt112] := ⟨ev_tab (n := 400) (x := xf91) rfl (t := []) (by kernel_rfl) trivial, trivial⟩
def zt113 : Fact := ⟨91, [.c (.ptr 0 0), .c (.pv (.int .u64 0))], [zb47], (.tup [], [zb48])⟩
theorem zt113_ok : Holds (ev X E0) [zt113] := ⟨ev_tab (n := 400) (x := xf91) rfl (t := []) (by kernel_rfl) trivial, trivial⟩
def zt114 : Fact := ⟨91, [.c (.ptr 0 0), .c (.pv (.int .u64 3))], [zb49], (.tup [], [zb50])⟩
theorem zt114_ok : Holds (ev X E0) [zt114] := ⟨ev_tab (n := 400) (x := xf91) rfl (t := []) (by kernel_rfl) trivial, trivial⟩
def zt115 : Fact := ⟨93, [.c (.ptr 0 0), .c (.pv (.str [102, 101, 101]))], [zb49], (.tup [], [zb51])⟩
theorem zt115_ok : Holds (ev X E0) [zt115] := ⟨ev_tab (n := 400) (x := xf93) rfl (t := [zt114]) (by kernel_rfl) ⟨zt114_ok.1, trivial⟩, trivial⟩
def zt116 : Fact := ⟨91, [.c (.ptr 0 0), .c (.pv (.int .u64 5))], [zb52], (.tup [], [zb53])⟩
theorem zt116_ok : Holds (ev X E0) [zt116] := ⟨ev_tab (n := 400) (x := xf91) rfl (t := []) (by kernel_rfl) trivial, trivial⟩
def zt117 : Fact := ⟨91, [.c (.ptr 0 0), .c (.pv (.int .u64 1))], [zb54], (.tup [], [zb55])⟩
theorem zt117_ok : Holds (ev X E0) [zt117] := ⟨ev_tab (n := 400) (x := xf91) rfl (t := []) (by kernel_rfl) trivial, trivial⟩
def zt118 : Fact := ⟨91, [.c (.ptr 0 0), .c (.pv (.int .u64 0))], [zb56], (.tup [], [zb57])⟩
theorem zt118_ok : Holds (ev X E0) [zt118] := ⟨ev_tab (n := 400) (x := xf91) rfl (t := []) (by kernel_rfl) trivial, trivial⟩
def zt119 : Fact := ⟨92, [.c (.ptr 0 0), .c (.pv (.int .i64 0))], [zb56], (.tup [], [zb58])⟩
theorem zt119_ok : Holds (ev X E0) [zt119] := ⟨ev_tab (n := 400) (x := xf92) rfl (t := [zt118]) (by kernel_rfl) ⟨zt118_ok.1, trivial⟩, trivial⟩
def zt120 : Fact := ⟨91, [.c (.ptr 0 0), .c (.pv (.int .u64 199))], [zb59], (.tup [], [zb60])⟩
theorem zt120_ok : Holds (ev X E0) [zt120] := ⟨ev_tab (n := 400) (x := xf91) rfl (t := []) (by kernel_rfl) trivial, trivial⟩
def zt121 : Fact := ⟨92, [.c (.ptr 0 0), .c (.pv (.int .i64 (-100)))], [zb59], (.tup [], [zb61])⟩
theorem zt121_ok : Holds (ev X E0) [zt121] := ⟨ev_tab (n := 400) (x := xf92) rfl (t := [zt120]) (by kernel_rfl) ⟨zt120_ok.1, trivial⟩, trivial⟩
def zt122 : Fact := ⟨94, [.c (.ptr 0 0), zu13], [zb56], (.tup [], [zb62])⟩
theorem zt122_ok : Holds (ev X E0) [zt122] := ⟨ev_tab (n := 400) (x := xf94) rfl (t := [zt119, zt121]) (by kernel_rfl) ⟨zt119_ok.1, zt121_ok.1, trivial⟩, trivial⟩
def zt123 : Fact := ⟨91, [.c (.ptr 0 0), .c (.pv (.int .u64 2))], [zb63], (.tup [], [zb64])⟩
theorem zt123_ok : Holds (ev X E0) [zt123] := ⟨ev_tab (n := 400) (x := xf91) rfl (t := []) (by kernel_rfl) trivial, trivial⟩
def zt124 : Fact := ⟨91, [.c (.ptr 0 0), .c (.pv (.int .u64 0))], [zb65], (.tup [], [zb66])⟩
theorem zt124_ok : Holds (ev X E0) [zt124] := ⟨ev_tab (n := 400) (x := xf91) rfl (t := []) (by kernel_rfl) trivial, trivial⟩
def zt125 : Fact := ⟨92, [.c (.ptr 0 0), .c (.pv (.int .i64 0))], [zb65], (.tup [], [zb67])⟩
theorem zt125_ok : Holds (ev X E0) [zt125] := ⟨ev_tab (n := 400) (x := xf92) rfl (t := [zt124]) (by kernel_rfl) ⟨zt124_ok.1, trivial⟩, trivial⟩
def zt126 : Fact := ⟨91, [.c (.ptr 0 0), .c (.pv (.int .u64 120))], [zb68], (.tup [], [zb69])⟩
theorem zt126_ok : Holds (ev X E0) [zt126] := ⟨ev_tab (n := 400) (x := xf91) rfl (t := []) (by kernel_rfl) trivial, trivial⟩
def zt127 : Fact := ⟨92, [.c (.ptr 0 0), .c (.pv (.int .i64 60))], [zb68], (.tup [], [zb70])⟩
theorem zt127_ok : Holds (ev X E0) [zt127] := ⟨ev_tab (n := 400) (x := xf92) rfl (t := [zt126]) (by kernel_rfl) ⟨zt126_ok.1, trivial⟩, trivial⟩
def zt128 : Fact := ⟨94, [.c (.ptr 0 0), zu14], [zb65], (.tup [], [zb71])⟩
theorem zt128_ok : Holds (ev X E0) [zt128] := ⟨ev_tab (n := 400) (x := xf94) rfl (t := [zt125, zt127]) (by kernel_rfl) ⟨zt125_ok.1, zt127_ok.1, trivial⟩, trivial⟩
def zt129 : Fact := ⟨91, [.c (.ptr 0 0), .c (.pv (.int .u64 2))], [zb72], (.tup [], [zb73])⟩
theorem zt129_ok : Holds (ev X E0) [zt129] := ⟨ev_tab (n := 400) (x := xf91) rfl (t := []) (by kernel_rfl) trivial, trivial⟩
def zt130 : Fact := ⟨91, [.c (.ptr 0 0), .c (.pv (.int .u64 0))], [zb74], (.tup [], [zb75])⟩
theorem zt130_ok : Holds (ev X E0) [zt130] := ⟨ev_tab (n := 400) (x := xf91) rfl (t := []) (by kernel_rfl) trivial, trivial⟩
def zt131 : Fact := ⟨92, [.c (.ptr 0 0), .c (.pv (.int .i64 0))], [zb74], (.tup [], [zb76])⟩
theorem zt131_ok : Holds (ev X E0) [zt131] := ⟨ev_tab (n := 400) (x := xf92) rfl (t := [zt130]) (by kernel_rfl) ⟨zt130_ok.1, trivial⟩, trivial⟩
def zt132 : Fact := ⟨91, [.c (.ptr 0 0), .c (.pv (.int .u64 80))], [zb77], (.tup [], [zb78])⟩
theorem zt132_ok : Holds (ev X E0) [zt132] := ⟨ev_tab (n := 400) (x := xf91) rfl (t := []) (by kernel_rfl) trivial, trivial⟩
def zt133 : Fact := ⟨92, [.c (.ptr 0 0), .c (.pv (.int .i64 40))], [zb77], (.tup [], [zb79])⟩
theorem zt133_ok : Holds (ev X E0) [zt133] := ⟨ev_tab (n := 400) (x := xf92) rfl (t := [zt132]) (by kernel_rfl) ⟨zt132_ok.1, trivial⟩, trivial⟩
def zt134 : Fact := ⟨94, [.c (.ptr 0 0), zu15], [zb74], (.tup [], [zb80])⟩
theorem zt134_ok : Holds (ev X E0) [zt134] := ⟨ev_tab (n := 400) (x := xf94) rfl (t := [zt131, zt133]) (by kernel_rfl) ⟨zt131_ok.1, zt133_ok.1, trivial⟩, trivial⟩
def zt135 : Fact := ⟨91, [.c (.ptr 0 0), .c (.pv (.int .u64 1))], [zb81], (.tup [], [zb82])⟩
theorem zt135_ok : Holds (ev X E0) [zt135] := ⟨ev_tab (n := 400) (x := xf91) rfl (t := []) (by kernel_rfl) trivial, trivial⟩
def zt136 : Fact := ⟨91, [.c (.ptr 0 0), .c (.pv (.int .u64 2))], [zb83], (.tup [], [zb84])⟩
theorem zt136_ok : Holds (ev X E0) [zt136] := ⟨ev_tab (n := 400) (x := xf91) rfl (t := []) (by kernel_rfl) trivial, trivial⟩
def zt137 : Fact := ⟨92, [.c (.ptr 0 0), .c (.pv (.int .i64 1))], [zb83], (.tup [], [zb85])⟩
theorem zt137_ok : Holds (ev X E0) [zt137] := ⟨ev_tab (n := 400) (x := xf92) rfl (t := [zt136]) (by kernel_rfl) ⟨zt136_ok.1, trivial⟩, trivial⟩
def zt138 : Fact := ⟨91, [.c (.ptr 0 0), .c (.pv (.int .u64 10))], [zb86], (.tup [], [zb87])⟩
theorem zt138_ok : Holds (ev X E0) [zt138] := ⟨ev_tab (n := 400) (x := xf91) rfl (t := []) (by kernel_rfl) trivial, trivial⟩
def zt139 : Fact := ⟨92, [.c (.ptr 0 0), .c (.pv (.int .i64 5))], [zb86], (.tup [], [zb88])⟩
theorem zt139_ok : Holds (ev X E0) [zt139] := ⟨ev_tab (n := 400) (x := xf92) rfl (t := [zt138]) (by kernel_rfl) ⟨zt138_ok.1, trivial⟩, trivial⟩
def zt140 : Fact := ⟨94, [.c (.ptr 0 0), zu16], [zb83], (.tup [], [zb89])⟩
theorem zt140_ok : Holds (ev X E0) [zt140] := ⟨ev_tab (n := 400) (x := xf94) rfl (t := [zt137, zt139]) (by kernel_rfl) ⟨zt137_ok.1, zt139_ok.1, trivial⟩, trivial⟩
def zt141 : Fact := ⟨91, [.c (.ptr 0 0), .c (.pv (.int .u64 2))], [zb90], (.tup [], [zb91])⟩
theorem zt141_ok : Holds (ev X E0) [zt141] := ⟨ev_tab (n := 400) (x := xf91) rfl (t := []) (by kernel_rfl) trivial, trivial⟩
def zt142 : Fact := ⟨91, [.c (.ptr 0 0), .c (.pv (.int .u64 2))], [zb92], (.tup [], [zb93])⟩
theorem zt142_ok : Holds (ev X E0) [zt142] := ⟨ev_tab (n := 400) (x := xf91) rfl (t := []) (by kernel_rfl) trivial, trivial⟩
def zt143 : Fact := ⟨92, [.c (.ptr 0 0), .c (.pv (.int .i64 1))], [zb92], (.tup [], [zb94])⟩
theorem zt143_ok : Holds (ev X E0) [zt143] := ⟨ev_tab (n := 400) (x := xf92) rfl (t := [zt142]) (by kernel_rfl) ⟨zt142_ok.1, trivial⟩, trivial⟩
def zt144 : Fact := ⟨91, [.c (.ptr 0 0), .c (.pv (.int .u64 9))], [zb95], (.tup [], [zb96])⟩
theorem zt144_ok : Holds (ev X E0) [zt144] := ⟨ev_tab (n := 400) (x := xf91) rfl (t := []) (by kernel_rfl) trivial, trivial⟩
def zt145 : Fact := ⟨92, [.c (.ptr 0 0), .c (.pv (.int .i64 (-5)))], [zb95], (.tup [], [zb97])⟩
theorem zt145_ok : Holds (ev X E0) [zt145] := ⟨ev_tab (n := 400) (x := xf92) rfl (t := [zt144]) (by kernel_rfl) ⟨zt144_ok.1, trivial⟩, trivial⟩
def zt146 : Fact := ⟨94, [.c (.ptr 0 0), zu17], [zb92], (.tup [], [zb98])⟩
theorem zt146_ok : Holds (ev X E0) [zt146] := ⟨ev_tab (n := 400) (x := xf94) rfl (t := [zt143, zt145]) (by kernel_rfl) ⟨zt143_ok.1, zt145_ok.1, trivial⟩, trivial⟩
def zt147 : Fact := ⟨95, [.c (.ptr 0 0)], [zb99], (.c (.pv (.str [7, 20, 6, 2, 0, 3, 102, 101, 101, 5, 1, 0, 199, 1, 2, 0, 120, 2, 0, 80, 1, 2, 10, 2, 2, 9])), [zb99])⟩
theorem zt147_ok : Holds (ev X E0) [zt147] := ⟨ev_tab (n := 400) (x := xf95) rfl (t := []) (by kernel_rfl) trivial, trivial⟩
def zt148 : Fact := ⟨42, [zu6], [], (.tup [.c (.pv (.str [7, 20, 6, 2, 0, 3, 102, 101, 101, 5, 1, 0, 199, 1, 2, 0, 120, 2, 0, 80, 1, 2, 10, 2, 2, 9])), .c (.pv (.int .i64 0))], [])⟩
theorem zt148_ok : Holds (ev X E0) [zt148] := ⟨ev_tab (n := 400) (x := xf42) rfl (t := [zt51, zt106, zt107, zt109, zt111, zt112, zt113, zt115, zt116, zt117, zt122, zt123, zt128, zt129, zt134, zt135, zt140, zt141, zt146, zt147]) (by kernel_rfl) ⟨zt51_ok.1, zt106_ok.1, zt107_ok.1, zt109_ok.1, zt111_ok.1, zt112_ok.1, zt113_ok.1, zt115_ok.1, zt116_ok.1, zt117_ok.1, zt122_ok.1, zt123_ok.1, zt128_ok.1, zt129_ok.1, zt134_ok.1, zt135_ok.1, zt140_ok.1, zt141_ok.1, zt146_ok.1, zt147_ok.1, trivial⟩, trivial⟩
def zt149 : Fact := ⟨101, [.c (.pv (.str [7, 20, 6, 2, 0, 3, 102, 101, 101, 5, 1, 0, 199, 1, 2, 0, 120, 2, 0, 80, 1, 2, 10, 2, 2, 9]))], [], (.c (.ptr 0 0), [zb100])⟩
theorem zt149_ok : Holds (ev X E0) [zt149] := ⟨ev_tab (n := 400) (x := xf101) rfl (t := []) (by kernel_rfl) trivial, trivial⟩
def zt150 : Fact := ⟨132, [.c (.pv (.str [7, 20, 6, 2, 0, 3, 102, 101, 101, 5, 1, 0, 199, 1, 2, 0, 120, 2, 0, 80, 1, 2, 10, 2, 2, 9]))], [], (.tup [.c (.pv (.int .u64 7)), .c (.pv (.int .i64 1)), .c (.pv (.int .i64 0))], [])⟩
theorem zt150_ok : Holds (ev X E0) [zt150] := ⟨ev_tab (n := 400) (x := xf132) rfl (t := []) (by kernel_rfl) trivial, trivial⟩
def zt151 : Fact := ⟨131, [.c (.ptr 0 0), .c (.fn 132 [])], [zb100], (.c (.pv (.int .u64 7)), [zb101])⟩
theorem zt151_ok : Holds (ev X E0) [zt151] := ⟨ev_tab (n := 400) (x := xf131) rfl (t := [zt150]) (by kernel_rfl) ⟨zt150_ok.1, trivial⟩, trivial⟩
def zt152 : Fact := ⟨103, [.c (.ptr 0 0)], [zb100], (.c (.pv (.int .u64 7)), [zb101])⟩
theorem zt152_ok : Holds (ev X E0) [zt152] := ⟨ev_tab (n := 400) (x := xf103) rfl (t := [zt151]) (by kernel_rfl) ⟨zt151_ok.1, trivial⟩, trivial⟩
def zt153 : Fact := ⟨102, [.c (.pv (.int .u64 7))], [], (.c (.pv (.int .i64 7)), [])⟩
theorem zt153_ok : Holds (ev X E0) [zt153] := ⟨ev_tab (n := 400) (x := xf102) rfl (t := []) (by kernel_rfl) trivial, trivial⟩
def zt154 : Fact := ⟨132, [.c (.pv (.str [20, 6, 2, 0, 3, 102, 101, 101, 5, 1, 0, 199, 1, 2, 0, 120, 2, 0, 80, 1, 2, 10, 2, 2, 9]))], [], (.tup [.c (.pv (.int .u64 20)), .c (.pv (.int .i64 1)), .c (.pv (.int .i64 0))], [])⟩
theorem zt154_ok : Holds (ev X E0) [zt154] := ⟨ev_tab (n := 400) (x := xf132) rfl (t := []) (by kernel_rfl) trivial, trivial⟩
def zt155 : Fact := ⟨131, [.c (.ptr 0 0), .c (.fn 132 [])], [zb101], (.c (.pv (.int .u64 20)), [zb102])⟩
theorem zt155_ok : Holds (ev X E0) [zt155] := ⟨ev_tab (n := 400) (x := xf131) rfl (t := [zt154]) (by kernel_rfl) ⟨zt154_ok.1, trivial⟩, trivial⟩
def zt156 : Fact := ⟨133, [.c (.pv (.int .u64 20))], [], (.c (.pv (.int .i64 10)), [])⟩
theorem zt156_ok : Holds (ev X E0) [zt156] := ⟨ev_tab (n := 400) (x := xf133) rfl (t := []) (by kernel_rfl) trivial, trivial⟩
def zt157 : Fact := ⟨105, [.c (.ptr 0 0)], [zb101], (.c (.pv (.int .i64 10)), [zb102])⟩
theorem zt157_ok : Holds (ev X E0) [zt157] := ⟨ev_tab (n := 400) (x := xf105) rfl (t := [zt155, zt156]) (by kernel_rfl) ⟨zt155_ok.1, zt156_ok.1, trivial⟩, trivial⟩
def zt158 : Fact := ⟨104, [.c (.pv (.int .i64 10))], [], (.c (.pv (.int .i32 10)), [])⟩
theorem zt158_ok : Holds (ev X E0) [zt158] := ⟨ev_tab (n := 400) (x := xf104) rfl (t := []) (by kernel_rfl) trivial, trivial⟩
def zt159 : Fact := ⟨132, [.c (.pv (.str [6, 2, 0, 3, 102, 101, 101, 5, 1, 0, 199, 1, 2, 0, 120, 2, 0, 80, 1, 2, 10, 2, 2, 9]))], [], (.tup [.c (.pv (.int .u64 6)), .c (.pv (.int .i64 1)), .c (.pv (.int .i64 0))], [])⟩
theorem zt159_ok : Holds (ev X E0) [zt159] := ⟨ev_tab (n := 400) (x := xf132) rfl (t := []) (by kernel_rfl) trivial, trivial⟩
def zt160 : Fact := ⟨131, [.c (.ptr 0 0), .c (.fn 132 [])], [zb102], (.c (.pv (.int .u64 6)), [zb103])⟩
theorem zt160_ok : Holds (ev X E0) [zt160] := ⟨ev_tab (n := 400) (x := xf131) rfl (t := [zt159]) (by kernel_rfl) ⟨zt159_ok.1, trivial⟩, trivial⟩
def zt161 : Fact := ⟨133, [.c (.pv (.int .u64 6))], [], (.c (.pv (.int .i64 3)), [])⟩
theorem zt161_ok : Holds (ev X E0) [zt161] := ⟨ev_tab (n := 400) (x := xf133) rfl (t := []) (by kernel_rfl) trivial, trivial⟩
def zt162 : Fact := ⟨105, [.c (.ptr 0 0)], [zb102], (.c (.pv (.int .i64 3)), [zb103])⟩
theorem zt162_ok : Holds (ev X E0) [zt162] := ⟨ev_tab (n := 400) (x := xf105) rfl (t := [zt160, zt161]) (by kernel_rfl) ⟨zt160_ok.1, zt161_ok.1, trivial⟩, trivial⟩
def zt163 : Fact := ⟨104, [.c (.pv (.int .i64 3))], [], (.c (.pv (.int .i32 3)), [])⟩
theorem zt163_ok : Holds (ev X E0) [zt163] := ⟨ev_tab (n := 400) (x := xf104) rfl (t := []) (by kernel_rfl) trivial, trivial⟩
def zt164 : Fact := ⟨132, [.c (.pv (.str [2, 0, 3, 102, 101, 101, 5, 1, 0, 199, 1, 2, 0, 120, 2, 0, 80, 1, 2, 10, 2, 2, 9]))], [], (.tup [.c (.pv (.int .u64 2)), .c (.pv (.int .i64 1)), .c (.pv (.int .i64 0))], [])⟩
theorem zt164_ok : Holds (ev X E0) [zt164] := ⟨ev_tab (n := 400) (x := xf132) rfl (t := []) (by kernel_rfl) trivial, trivial⟩
def zt165 : Fact := ⟨131, [.c (.ptr 0 0), .c (.fn 132 [])], [zb103], (.c (.pv (.int .u64 2)), [zb104])⟩
theorem zt165_ok : Holds (ev X E0) [zt165] := ⟨ev_tab (n := 400) (x := xf131) rfl (t := [zt164]) (by kernel_rfl) ⟨zt164_ok.1, trivial⟩, trivial⟩
def zt166 : Fact := ⟨103, [.c (.ptr 0 0)], [zb103], (.c (.pv (.int .u64 2)), [zb104])⟩
theorem zt166_ok : Holds (ev X E0) [zt166] := ⟨ev_tab (n := 400) (x := xf103) rfl (t := [zt165]) (by kernel_rfl) ⟨zt165_ok.1, trivial⟩, trivial⟩
def zt167 : Fact := ⟨102, [.c (.pv (.int .u64 2))], [], (.c (.pv (.int .i64 2)), [])⟩
theorem zt167_ok : Holds (ev X E0) [zt167] := ⟨ev_tab (n := 400) (x := xf102) rfl (t := []) (by kernel_rfl) trivial, trivial⟩
def zt168 : Fact := ⟨132, [.c (.pv (.str [0, 3, 102, 101, 101, 5, 1, 0, 199, 1, 2, 0, 120, 2, 0, 80, 1, 2, 10, 2, 2, 9]))], [], (.tup [.c (.pv (.int .u64 0)), .c (.pv (.int .i64 1)), .c (.pv (.int .i64 0))], [])⟩
theorem zt168_ok : Holds (ev X E0) [zt168] := ⟨ev_tab (n := 400) (x := xf132) rfl (t := []) (by kernel_rfl) trivial, trivial⟩
def zt169 : Fact := ⟨131, [.c (.ptr 0 0), .c (.fn 132 [])], [zb104], (.c (.pv (.int .u64 0)), [zb105])⟩
theorem zt169_ok : Holds (ev X E0) [zt169] := ⟨ev_tab (n := 400) (x := xf131) rfl (t := [zt168]) (by kernel_rfl) ⟨zt168_ok.1, trivial⟩, trivial⟩
def zt170 : Fact := ⟨103, [.c (.ptr 0 0)], [zb104], (.c (.pv (.int .u64 0)), [zb105])⟩
theorem zt170_ok : Holds (ev X E0) [zt170] := ⟨ev_tab (n := 400) (x := xf103) rfl (t := [zt169]) (by kernel_rfl) ⟨zt169_ok.1, trivial⟩, trivial⟩
def zt171 : Fact := ⟨102, [.c (.pv (.int .u64 0))], [], (.c (.pv (.int .i64 0)), [])⟩
theorem zt171_ok : Holds (ev X E0) [zt171] := ⟨ev_tab (n := 400) (x := xf102) rfl (t := []) (by kernel_rfl) trivial, trivial⟩
def zt172 : Fact := ⟨132, [.c (.pv (.str [3, 102, 101, 101, 5, 1, 0, 199, 1, 2, 0, 120, 2, 0, 80, 1, 2, 10, 2, 2, 9]))], [], (.tup [.c (.pv (.int .u64 3)), .c (.pv (.int .i64 1)), .c (.pv (.int .i64 0))], [])⟩
theorem zt172_ok : Holds (ev X E0) [zt172] := ⟨ev_tab (n := 400) (x := xf132) rfl (t := []) (by kernel_rfl) trivial, trivial⟩
def zt173 : Fact := ⟨135, [.c (.pv (.str [3, 102, 101, 101, 5, 1, 0, 199, 1, 2, 0, 120, 2, 0, 80, 1, 2, 10, 2, 2, 9])), .c (.ptr 0 0)], [zb106], (.tup [.c (.pv (.str [102, 101, 101])), .c (.pv (.int .i64 4)), .c (.pv (.int .i64 0))], [zb106])⟩
theorem zt173_ok : Holds (ev X E0) [zt173] := ⟨ev_tab (n := 400) (x := xf135) rfl (t := [zt172]) (by kernel_rfl) ⟨zt172_ok.1, trivial⟩, trivial⟩
def zt174 : Fact := ⟨134, [.c (.ptr 0 0), .c (.fn 135 [1])], [zb105, zb106], (.c (.pv (.str [102, 101, 101])), [zb107, zb106])⟩
theorem zt174_ok : Holds (ev X E0) [zt174] := ⟨ev_tab (n := 400) (x := xf134) rfl (t := [zt173]) (by kernel_rfl) ⟨zt173_ok.1, trivial⟩, trivial⟩
def zt175 : Fact := ⟨106, [.c (.ptr 0 0), .c (.pv (.int .i64 32))], [zb105], (.c (.pv (.str [102, 101, 101])), [zb107])⟩
theorem zt175_ok : Holds (ev X E0) [zt175] := ⟨ev_tab (n := 400) (x := xf106) rfl (t := [zt174]) (by kernel_rfl) ⟨zt174_ok.1, trivial⟩, trivial⟩
def zt176 : Fact := ⟨132, [.c (.pv (.str [5, 1, 0, 199, 1, 2, 0, 120, 2, 0, 80, 1, 2, 10, 2, 2, 9]))], [], (.tup [.c (.pv (.int .u64 5)), .c (.pv (.int .i64 1)), .c (.pv (.int .i64 0))], [])⟩
theorem zt176_ok : Holds (ev X E0) [zt176] := ⟨ev_tab (n := 400) (x := xf132) rfl (t := []) (by kernel_rfl) trivial, trivial⟩
def zt177 : Fact := ⟨137, [.c (.pv (.str [5, 1, 0, 199, 1, 2, 0, 120, 2, 0, 80, 1, 2, 10, 2, 2, 9])), .c (.ptr 0 0)], [zb108], (.tup [.c (.pv (.int .i64 5)), .c (.pv (.int .i64 1)), .c (.pv (.int .i64 0))], [zb108])⟩
theorem zt177_ok : Holds (ev X E0) [zt177] := ⟨ev_tab (n := 400) (x := xf137) rfl (t := [zt176]) (by kernel_rfl) ⟨zt176_ok.1, trivial⟩, trivial⟩
def zt178 : Fact := ⟨136, [.c (.ptr 0 0), .c (.fn 137 [1])], [zb107, zb108], (.c (.pv (.int .i64 5)), [zb109, zb108])⟩
theorem zt178_ok : Holds (ev X E0) [zt178] := ⟨ev_tab (n := 400) (x := xf136) rfl (t := [zt177]) (by kernel_rfl) ⟨zt177_ok.1, trivial⟩, trivial⟩
def zt179 : Fact := ⟨107, [.c (.ptr 0 0), .c (.pv (.int .i64 16))], [zb107], (.c (.pv (.int .i64 5)), [zb109])⟩
theorem zt179_ok : Holds (ev X E0) [zt179] := ⟨ev_tab (n := 400) (x := xf107) rfl (t := [zt178]) (by kernel_rfl) ⟨zt178_ok.1, trivial⟩, trivial⟩
def zt180 : Fact := ⟨132, [.c (.pv (.str [1, 0, 199, 1, 2, 0, 120, 2, 0, 80, 1, 2, 10, 2, 2, 9]))], [], (.tup [.c (.pv (.int .u64 1)), .c (.pv (.int .i64 1)), .c (.pv (.int .i64 0))], [])⟩
theorem zt180_ok : Holds (ev X E0) [zt180] := ⟨ev_tab (n := 400) (x := xf132) rfl (t := []) (by kernel_rfl) trivial, trivial⟩
def zt181 : Fact := ⟨131, [.c (.ptr 0 0), .c (.fn 132 [])], [zb109], (.c (.pv (.int .u64 1)), [zb110])⟩
theorem zt181_ok : Holds (ev X E0) [zt181] := ⟨ev_tab (n := 400) (x := xf131) rfl (t := [zt180]) (by kernel_rfl) ⟨zt180_ok.1, trivial⟩, trivial⟩
def zt182 : Fact := ⟨103, [.c (.ptr 0 0)], [zb109], (.c (.pv (.int .u64 1)), [zb110])⟩
theorem zt182_ok : Holds (ev X E0) [zt182] := ⟨ev_tab (n := 400) (x := xf103) rfl (t := [zt181]) (by kernel_rfl) ⟨zt181_ok.1, trivial⟩, trivial⟩
def zt183 : Fact := ⟨102, [.c (.pv (.int .u64 1))], [], (.c (.pv (.int .i64 1)), [])⟩
theorem zt183_ok : Holds (ev X E0) [zt183] := ⟨ev_tab (n := 400) (x := xf102) rfl (t := []) (by kernel_rfl) trivial, trivial⟩
def zt184 : Fact := ⟨132, [.c (.pv (.str [0, 199, 1, 2, 0, 120, 2, 0, 80, 1, 2, 10, 2, 2, 9]))], [], (.tup [.c (.pv (.int .u64 0)), .c (.pv (.int .i64 1)), .c (.pv (.int .i64 0))], [])⟩
theorem zt184_ok : Holds (ev X E0) [zt184] := ⟨ev_tab (n := 400) (x := xf132) rfl (t := []) (by kernel_rfl) trivial, trivial⟩
def zt185 : Fact := ⟨132, [.c (.pv (.str [199, 1, 2, 0, 120, 2, 0, 80, 1, 2, 10, 2, 2, 9]))], [], (.tup [.c (.pv (.int .u64 199)), .c (.pv (.int .i64 2)), .c (.pv (.int .i64 0))], [])⟩
theorem zt185_ok : Holds (ev X E0) [zt185] := ⟨ev_tab (n := 400) (x := xf132) rfl (t := []) (by kernel_rfl) trivial, trivial⟩
def zt186 : Fact := ⟨133, [.c (.pv (.int .u64 0))], [], (.c (.pv (.int .i64 0)), [])⟩
theorem zt186_ok : Holds (ev X E0) [zt186] := ⟨ev_tab (n := 400) (x := xf133) rfl (t := []) (by kernel_rfl) trivial, trivial⟩
def zt187 : Fact := ⟨133, [.c (.pv (.int .u64 199))], [], (.c (.pv (.int .i64 (-100))), [])⟩
theorem zt187_ok : Holds (ev X E0) [zt187] := ⟨ev_tab (n := 400) (x := xf133) rfl (t := []) (by kernel_rfl) trivial, trivial⟩
def zt188 : Fact := ⟨139, [.c (.pv (.str [0, 199, 1, 2, 0, 120, 2, 0, 80, 1, 2, 10, 2, 2, 9]))], [], (.tup [zu13, .c (.pv (.int .i64 3)), .c (.pv (.int .i64 0))], [])⟩
theorem zt188_ok : Holds (ev X E0) [zt188] := ⟨ev_tab (n := 400) (x := xf139) rfl (t := [zt184, zt185, zt186, zt187]) (by kernel_rfl) ⟨zt184_ok.1, zt185_ok.1, zt186_ok.1, zt187_ok.1, trivial⟩, trivial⟩
def zt189 : Fact := ⟨138, [.c (.ptr 0 0), .c (.fn 139 [])], [zb110], (zu13, [zb111])⟩
theorem zt189_ok : Holds (ev X E0) [zt189] := ⟨ev_tab (n := 400) (x := xf138) rfl (t := [zt188]) (by kernel_rfl) ⟨zt188_ok.1, trivial⟩, trivial⟩
def zt190 : Fact := ⟨108, [.c (.ptr 0 0)], [zb110], (zu13, [zb111])⟩
theorem zt190_ok : Holds (ev X E0) [zt190] := ⟨ev_tab (n := 400) (x := xf108) rfl (t := [zt189]) (by kernel_rfl) ⟨zt189_ok.1, trivial⟩, trivial⟩
def zt191 : Fact := ⟨132, [.c (.pv (.str [2, 0, 120, 2, 0, 80, 1, 2, 10, 2, 2, 9]))], [], (.tup [.c (.pv (.int .u64 2)), .c (.pv (.int .i64 1)), .c (.pv (.int .i64 0))], [])⟩
theorem zt191_ok : Holds (ev X E0) [zt191] := ⟨ev_tab (n := 400) (x := xf132) rfl (t := []) (by kernel_rfl) trivial, trivial⟩
def zt192 : Fact := ⟨131, [.c (.ptr 0 0), .c (.fn 132 [])], [zb111], (.c (.pv (.int .u64 2)), [zb112])⟩
theorem zt192_ok : Holds (ev X E0) [zt192] := ⟨ev_tab (n := 400) (x := xf131) rfl (t := [zt191]) (by kernel_rfl) ⟨zt191_ok.1, trivial⟩, trivial⟩
def zt193 : Fact := ⟨103, [.c (.ptr 0 0)], [zb111], (.c (.pv (.int .u64 2)), [zb112])⟩
theorem zt193_ok : Holds (ev X E0) [zt193] := ⟨ev_tab (n := 400) (x := xf103) rfl (t := [zt192]) (by kernel_rfl) ⟨zt192_ok.1, trivial⟩, trivial⟩
def zt194 : Fact := ⟨132, [.c (.pv (.str [0, 120, 2, 0, 80, 1, 2, 10, 2, 2, 9]))], [], (.tup [.c (.pv (.int .u64 0)), .c (.pv (.int .i64 1)), .c (.pv (.int .i64 0))], [])⟩
theorem zt194_ok : Holds (ev X E0) [zt194] := ⟨ev_tab (n := 400) (x := xf132) rfl (t := []) (by kernel_rfl) trivial, trivial⟩
def zt195 : Fact := ⟨132, [.c (.pv (.str [120, 2, 0, 80, 1, 2, 10, 2, 2, 9]))], [], (.tup [.c (.pv (.int .u64 120)), .c (.pv (.int .i64 1)), .c (.pv (.int .i64 0))], [])⟩
theorem zt195_ok : Holds (ev X E0) [zt195] := ⟨ev_tab (n := 400) (x := xf132) rfl (t := []) (by kernel_rfl) trivial, trivial⟩
def zt196 : Fact := ⟨133, [.c (.pv (.int .u64 120))], [], (.c (.pv (.int .i64 60)), [])⟩
theorem zt196_ok : Holds (ev X E0) [zt196] := ⟨ev_tab (n := 400) (x := xf133) rfl (t := []) (by kernel_rfl) trivial, trivial⟩
def zt197 : Fact := ⟨139, [.c (.pv (.str [0, 120, 2, 0, 80, 1, 2, 10, 2, 2, 9]))], [], (.tup [zu14, .c (.pv (.int .i64 2)), .c (.pv (.int .i64 0))], [])⟩
theorem zt197_ok : Holds (ev X E0) [zt197] := ⟨ev_tab (n := 400) (x := xf139) rfl (t := [zt194, zt195, zt186, zt196]) (by kernel_rfl) ⟨zt194_ok.1, zt195_ok.1, zt186_ok.1, zt196_ok.1, trivial⟩, trivial⟩
def zt198 : Fact := ⟨138, [.c (.ptr 0 0), .c (.fn 139 [])], [zb112], (zu14, [zb113])⟩
theorem zt198_ok : Holds (ev X E0) [zt198] := ⟨ev_tab (n := 400) (x := xf138) rfl (t := [zt197]) (by kernel_rfl) ⟨zt197_ok.1, trivial⟩, trivial⟩
def zt199 : Fact := ⟨108, [.c (.ptr 0 0)], [zb112], (zu14, [zb113])⟩
theorem zt199_ok : Holds (ev X E0) [zt199] := ⟨ev_tab (n := 400) (x := xf108) rfl (t := [zt198]) (by kernel_rfl) ⟨zt198_ok.1, trivial⟩, trivial⟩
def zt200 : Fact := ⟨132, [.c (.pv (.str [2, 0, 80, 1, 2, 10, 2, 2, 9]))], [], (.tup [.c (.pv (.int .u64 2)), .c (.pv (.int .i64 1)), .c (.pv (.int .i64 0))], [])⟩
theorem zt200_ok : Holds (ev X E0) [zt200] := ⟨ev_tab (n := 400) (x := xf132) rfl (t := []) (by kernel_rfl) trivial, trivial⟩
def zt201 : Fact := ⟨131, [.c (.ptr 0 0), .c (.fn 132 [])], [zb113], (.c (.pv (.int .u64 2)), [zb114])⟩
theorem zt201_ok : Holds (ev X E0) [zt201] := ⟨ev_tab (n := 400) (x := xf131) rfl (t := [zt200]) (by kernel_rfl) ⟨zt200_ok.1, trivial⟩, trivial⟩
def zt202 : Fact := ⟨103, [.c (.ptr 0 0)], [zb113], (.c (.pv (.int .u64 2)), [zb114])⟩
theorem zt202_ok : Holds (ev X E0) [zt202] := ⟨ev_tab (n := 400) (x := xf103) rfl (t := [zt201]) (by kernel_rfl) ⟨zt201_ok.1, trivial⟩, trivial⟩
def zt203 : Fact := ⟨132, [.c (.pv (.str [0, 80, 1, 2, 10, 2, 2, 9]))], [], (.tup [.c (.pv (.int .u64 0)), .c (.pv (.int .i64 1)), .c (.pv (.int .i64 0))], [])⟩
theorem zt203_ok : Holds (ev X E0) [zt203] := ⟨ev_tab (n := 400) (x := xf132) rfl (t := []) (by kernel_rfl) trivial, trivial⟩
def zt204 : Fact := ⟨132, [.c (.pv (.str [80, 1, 2, 10, 2, 2, 9]))], [], (.tup [.c (.pv (.int .u64 80)), .c (.pv (.int .i64 1)), .c (.pv (.int .i64 0))], [])⟩
theorem zt204_ok : Holds (ev X E0) [zt204] := ⟨ev_tab (n := 400) (x := xf132) rfl (t := []) (by kernel_rfl) trivial, trivial⟩
def zt205 : Fact := ⟨133, [.c (.pv (.int .u64 80))], [], (.c (.pv (.int .i64 40)), [])⟩
theorem zt205_ok : Holds (ev X E0) [zt205] := ⟨ev_tab (n := 400) (x := xf133) rfl (t := []) (by kernel_rfl) trivial, trivial⟩
def zt206 : Fact := ⟨139, [.c (.pv (.str [0, 80, 1, 2, 10, 2, 2, 9]))], [], (.tup [zu15, .c (.pv (.int .i64 2)), .c (.pv (.int .i64 0))], [])⟩
theorem zt206_ok : Holds (ev X E0) [zt206] := ⟨ev_tab (n := 400) (x := xf139) rfl (t := [zt203, zt204, zt186, zt205]) (by kernel_rfl) ⟨zt203_ok.1, zt204_ok.1, zt186_ok.1, zt205_ok.1, trivial⟩, trivial⟩
def zt207 : Fact := ⟨138, [.c (.ptr 0 0), .c (.fn 139 [])], [zb114], (zu15, [zb115])⟩
theorem zt207_ok : Holds (ev X E0) [zt207] := ⟨ev_tab (n := 400) (x := xf138) rfl (t := [zt206]) (by kernel_rfl) ⟨zt206_ok.1, trivial⟩, trivial⟩
def zt208 : Fact := ⟨108, [.c (.ptr 0 0)], [zb114], (zu15, [zb115])⟩
theorem zt208_ok : Holds (ev X E0) [zt208] := ⟨ev_tab (n := 400) (x := xf108) rfl (t := [zt207]) (by kernel_rfl) ⟨zt207_ok.1, trivial⟩, trivial⟩
def zt209 : Fact := ⟨132, [.c (.pv (.str [1, 2, 10, 2, 2, 9]))], [], (.tup [.c (.pv (.int .u64 1)), .c (.pv (.int .i64 1)), .c (.pv (.int .i64 0))], [])⟩
theorem zt209_ok : Holds (ev X E0) [zt209] := ⟨ev_tab (n := 400) (x := xf132) rfl (t := []) (by kernel_rfl) trivial, trivial⟩
def zt210 : Fact := ⟨131, [.c (.ptr 0 0), .c (.fn 132 [])], [zb115], (.c (.pv (.int .u64 1)), [zb116])⟩
theorem zt210_ok : Holds (ev X E0) [zt210] := ⟨ev_tab (n := 400) (x := xf131) rfl (t := [zt209]) (by kernel_rfl) ⟨zt209_ok.1, trivial⟩, trivial⟩
def zt211 : Fact := ⟨103, [.c (.ptr 0 0)], [zb115], (.c (.pv (.int .u64 1)), [zb116])⟩
theorem zt211_ok : Holds (ev X E0) [zt211] := ⟨ev_tab (n := 400) (x := xf103) rfl (t := [zt210]) (by kernel_rfl) ⟨zt210_ok.1, trivial⟩, trivial⟩
def zt212 : Fact := ⟨132, [.c (.pv (.str [2, 10, 2, 2, 9]))], [], (.tup [.c (.pv (.int .u64 2)), .c (.pv (.int .i64 1)), .c (.pv (.int .i64 0))], [])⟩
theorem zt212_ok : Holds (ev X E0) [zt212] := ⟨ev_tab (n := 400) (x := xf132) rfl (t := []) (by kernel_rfl) trivial, trivial⟩
def zt213 : Fact := ⟨132, [.c (.pv (.str [10, 2, 2, 9]))], [], (.tup [.c (.pv (.int .u64 10)), .c (.pv (.int .i64 1)), .c (.pv (.int .i64 0))], [])⟩
theorem zt213_ok : Holds (ev X E0) [zt213] := ⟨ev_tab (n := 400) (x := xf132) rfl (t := []) (by kernel_rfl) trivial, trivial⟩
def zt214 : Fact := ⟨133, [.c (.pv (.int .u64 2))], [], (.c (.pv (.int .i64 1)), [])⟩
theorem zt214_ok : Holds (ev X E0) [zt214] := ⟨ev_tab (n := 400) (x := xf133) rfl (t := []) (by kernel_rfl) trivial, trivial⟩
def zt215 : Fact := ⟨133, [.c (.pv (.int .u64 10))], [], (.c (.pv (.int .i64 5)), [])⟩
theorem zt215_ok : Holds (ev X E0) [zt215] := ⟨ev_tab (n := 400) (x := xf133) rfl (t := []) (by kernel_rfl) trivial, trivial⟩
def zt216 : Fact := ⟨139, [.c (.pv (.str [2, 10, 2, 2, 9]))], [], (.tup [zu16, .c (.pv (.int .i64 2)), .c (.pv (.int .i64 0))], [])⟩
theorem zt216_ok : Holds (ev X E0) [zt216] := ⟨ev_tab (n := 400) (x := xf139) rfl (t := [zt212, zt213, zt214, zt215]) (by kernel_rfl) ⟨zt212_ok.1, zt213_ok.1, zt214_ok.1, zt215_ok.1, trivial⟩, trivial⟩
def zt217 : Fact := ⟨138, [.c (.ptr 0 0), .c (.fn 139 [])], [zb116], (zu16, [zb117])⟩
theorem zt217_ok : Holds (ev X E0) [zt217] := ⟨ev_tab (n := 400) (x := xf138) rfl (t := [zt216]) (by kernel_rfl) ⟨zt216_ok.1, trivial⟩, trivial⟩
def zt218 : Fact := ⟨108, [.c (.ptr 0 0)], [zb116], (zu16, [zb117])⟩
theorem zt218_ok : Holds (ev X E0) [zt218] := ⟨ev_tab (n := 400) (x := xf108) rfl (t := [zt217]) (by kernel_rfl) ⟨zt217_ok.1, trivial⟩, trivial⟩
def zt219 : Fact := ⟨132, [.c (.pv (.str [2, 2, 9]))], [], (.tup [.c (.pv (.int .u64 2)), .c (.pv (.int .i64 1)), .c (.pv (.int .i64 0))], [])⟩
theorem zt219_ok : Holds (ev X E0) [zt219] := ⟨ev_tab (n := 400) (x := xf132) rfl (t := []) (by kernel_rfl) trivial, trivial⟩
def zt220 : Fact := ⟨131, [.c (.ptr 0 0), .c (.fn 132 [])], [zb117], (.c (.pv (.int .u64 2)), [zb118])⟩
theorem zt220_ok : Holds (ev X E0) [zt220] := ⟨ev_tab (n := 400) (x := xf131) rfl (t := [zt219]) (by kernel_rfl) ⟨zt219_ok.1, trivial⟩, trivial⟩
def zt221 : Fact := ⟨103, [.c (.ptr 0 0)], [zb117], (.c (.pv (.int .u64 2)), [zb118])⟩
theorem zt221_ok : Holds (ev X E0) [zt221] := ⟨ev_tab (n := 400) (x := xf103) rfl (t := [zt220]) (by kernel_rfl) ⟨zt220_ok.1, trivial⟩, trivial⟩
def zt222 : Fact := ⟨132, [.c (.pv (.str [2, 9]))], [], (.tup [.c (.pv (.int .u64 2)), .c (.pv (.int .i64 1)), .c (.pv (.int .i64 0))], [])⟩
theorem zt222_ok : Holds (ev X E0) [zt222] := ⟨ev_tab (n := 400) (x := xf132) rfl (t := []) (by kernel_rfl) trivial, trivial⟩
def zt223 : Fact := ⟨132, [.c (.pv (.str [9]))], [], (.tup [.c (.pv (.int .u64 9)), .c (.pv (.int .i64 1)), .c (.pv (.int .i64 0))], [])⟩
theorem zt223_ok : Holds (ev X E0) [zt223] := ⟨ev_tab (n := 400) (x := xf132) rfl (t := []) (by kernel_rfl) trivial, trivial⟩
def zt224 : Fact := ⟨133, [.c (.pv (.int .u64 9))], [], (.c (.pv (.int .i64 (-5))), [])⟩
theorem zt224_ok : Holds (ev X E0) [zt224] := ⟨ev_tab (n := 400) (x := xf133) rfl (t := []) (by kernel_rfl) trivial, trivial⟩
def zt225 : Fact := ⟨139, [.c (.pv (.str [2, 9]))], [], (.tup [zu17, .c (.pv (.int .i64 2)), .c (.pv (.int .i64 0))], [])⟩
theorem zt225_ok : Holds (ev X E0) [zt225] := ⟨ev_tab (n := 400) (x := xf139) rfl (t := [zt222, zt223, zt214, zt224]) (by kernel_rfl) ⟨zt222_ok.1, zt223_ok.1, zt214_ok.1, zt224_ok.1, trivial⟩, trivial⟩
def zt226 : Fact := ⟨138, [.c (.ptr 0 0), .c (.fn 139 [])], [zb118], (zu17, [zb119])⟩
theorem zt226_ok : Holds (ev X E0) [zt226] := ⟨ev_tab (n := 400) (x := xf138) rfl (t := [zt225]) (by kernel_rfl) ⟨zt225_ok.1, trivial⟩, trivial⟩
def zt227 : Fact := ⟨108, [.c (.ptr 0 0)], [zb118], (zu17, [zb119])⟩
theorem zt227_ok : Holds (ev X E0) [zt227] := ⟨ev_tab (n := 400) (x := xf108) rfl (t := [zt226]) (by kernel_rfl) ⟨zt226_ok.1, trivial⟩, trivial⟩
def zt228 : Fact := ⟨140, [.c (.ptr 0 0)], [zb119], (.c (.pv (.int .i64 0)), [zb119])⟩
theorem zt228_ok : Holds (ev X E0) [zt228] := ⟨ev_tab (n := 400) (x := xf140) rfl (t := []) (by kernel_rfl) trivial, trivial⟩
def zt229 : Fact := ⟨109, [.c (.ptr 0 0)], [zb119], (.c (.pv (.int .i64 0)), [zb119])⟩
theorem zt229_ok : Holds (ev X E0) [zt229] := ⟨ev_tab (n := 400) (x := xf109) rfl (t := [zt228]) (by kernel_rfl) ⟨zt228_ok.1, trivial⟩, trivial⟩
def zt230 : Fact := ⟨76, [zu121], [], (.c (.pv (.bool true)), [])⟩
theorem zt230_ok : Holds (ev X E0) [zt230] := ⟨ev_tab (n := 400) (x := xf76) rfl (t := [zt5]) (by kernel_rfl) ⟨zt5_ok.1, trivial⟩, trivial⟩
def zt231 : Fact := ⟨127, [.c (.pv (zw120)), .c (.fn 78 [])], [], (.c (.pv (.int .i64 (-1))), [])⟩
theorem zt231_ok : Holds (ev X E0) [zt231] := ⟨ev_tab (n := 400) (x := xf127) rfl (t := [zt9, zt10, zt11, zt12, zt13]) (by kernel_rfl) ⟨zt9_ok.1, zt10_ok.1, zt11_ok.1, zt12_ok.1, zt13_ok.1, trivial⟩, trivial⟩
def zt232 : Fact := ⟨75, [.c (.pv (zw120)), .c (.fn 78 [])], [], (.c (.pv (.bool false)), [])⟩
theorem zt232_ok : Holds (ev X E0) [zt232] := ⟨ev_tab (n := 400) (x := xf75) rfl (t := [zt231]) (by kernel_rfl) ⟨zt231_ok.1, trivial⟩, trivial⟩
def zt233 : Fact := ⟨74, [.c (.fn 78 []), .c (.ptr 0 0)], [zb122], (.c (.pv (.bool false)), [zb122])⟩
theorem zt233_ok : Holds (ev X E0) [zt233] := ⟨ev_tab (n := 400) (x := xf74) rfl (t := [zt232]) (by kernel_rfl) ⟨zt232_ok.1, trivial⟩, trivial⟩
def zt234 : Fact := ⟨127, [.c (.pv (zw120)), .c (.fn 79 [])], [], (.c (.pv (.int .i64 (-1))), [])⟩
theorem zt234_ok : Holds (ev X E0) [zt234] := ⟨ev_tab (n := 400) (x := xf127) rfl (t := [zt19, zt20, zt21, zt24, zt25]) (by kernel_rfl) ⟨zt19_ok.1, zt20_ok.1, zt21_ok.1, zt24_ok.1, zt25_ok.1, trivial⟩, trivial⟩
def zt235 : Fact := ⟨75, [.c (.pv (zw120)), .c (.fn 79 [])], [], (.c (.pv (.bool false)), [])⟩
theorem zt235_ok : Holds (ev X E0) [zt235] := ⟨ev_tab (n := 400) (x := xf75) rfl (t := [zt234]) (by kernel_rfl) ⟨zt234_ok.1, trivial⟩, trivial⟩
def zt236 : Fact := ⟨74, [.c (.fn 79 []), .c (.ptr 0 0)], [zb122], (.c (.pv (.bool false)), [zb122])⟩
theorem zt236_ok : Holds (ev X E0) [zt236] := ⟨ev_tab (n := 400) (x := xf74) rfl (t := [zt235]) (by kernel_rfl) ⟨zt235_ok.1, trivial⟩, trivial⟩
def zt237 : Fact := ⟨127, [.c (.pv (zw120)), .c (.fn 81 [])], [], (.c (.pv (.int .i64 (-1))), [])⟩
theorem zt237_ok : Holds (ev X E0) [zt237] := ⟨ev_tab (n := 400) (x := xf127) rfl (t := [zt30, zt32, zt34, zt36, zt38]) (by kernel_rfl) ⟨zt30_ok.1, zt32_ok.1, zt34_ok.1, zt36_ok.1, zt38_ok.1, trivial⟩, trivial⟩
def zt238 : Fact := ⟨75, [.c (.pv (zw120)), .c (.fn 81 [])], [], (.c (.pv (.bool false)), [])⟩
theorem zt238_ok : Holds (ev X E0) [zt238] := ⟨ev_tab (n := 400) (x := xf75) rfl (t := [zt237]) (by kernel_rfl) ⟨zt237_ok.1, trivial⟩, trivial⟩
def zt239 : Fact := ⟨74, [.c (.fn 81 []), .c (.ptr 0 0)], [zb122], (.c (.pv (.bool false)), [zb122])⟩
theorem zt239_ok : Holds (ev X E0) [zt239] := ⟨ev_tab (n := 400) (x := xf74) rfl (t := [zt238]) (by kernel_rfl) ⟨zt238_ok.1, trivial⟩, trivial⟩
def zt240 : Fact := ⟨127, [.c (.pv (zw120)), .c (.fn 83 [])], [], (.c (.pv (.int .i64 (-1))), [])⟩
theorem zt240_ok : Holds (ev X E0) [zt240] := ⟨ev_tab (n := 400) (x := xf127) rfl (t := [zt42, zt43, zt44, zt45, zt46]) (by kernel_rfl) ⟨zt42_ok.1, zt43_ok.1, zt44_ok.1, zt45_ok.1, zt46_ok.1, trivial⟩, trivial⟩
def zt241 : Fact := ⟨75, [.c (.pv (zw120)), .c (.fn 83 [])], [], (.c (.pv (.bool false)), [])⟩
theorem zt241_ok : Holds (ev X E0) [zt241] := ⟨ev_tab (n := 400) (x := xf75) rfl (t := [zt240]) (by kernel_rfl) ⟨zt240_ok.1, trivial⟩, trivial⟩
def zt242 : Fact := ⟨74, [.c (.fn 83 []), .c (.ptr 0 0)], [zb122], (.c (.pv (.bool false)), [zb122])⟩
theorem zt242_ok : Holds (ev X E0) [zt242] := ⟨ev_tab (n := 400) (x := xf74) rfl (t := [zt241]) (by kernel_rfl) ⟨zt241_ok.1, trivial⟩, trivial⟩
def zt243 : Fact := ⟨84, [.c (.pv (zw120))], [], (.c (.pv (.bool true)), [])⟩
theorem zt243_ok : Holds (ev X E0) [zt243] := ⟨ev_tab (n := 400) (x := xf84) rfl (t := []) (by kernel_rfl) trivial, trivial⟩
def zt244 : Fact := ⟨37, [zu121], [], (.c (.pv (.int .i64 0)), [])⟩
theorem zt244_ok : Holds (ev X E0) [zt244] := ⟨ev_tab (n := 400) (x := xf37) rfl (t := [zt230, zt7, zt8, zt233, zt236, zt239, zt242, zt243]) (by kernel_rfl) ⟨zt230_ok.1, zt7_ok.1, zt8_ok.1, zt233_ok.1, zt236_ok.1, zt239_ok.1, zt242_ok.1, zt243_ok.1, trivial⟩, trivial⟩
def zt245 : Fact := ⟨49, [.c (.pv (.str [7, 20, 6, 2, 0, 3, 102, 101, 101, 5, 1, 0, 199, 1, 2, 0, 120, 2, 0, 80, 1, 2, 10, 2, 2, 9]))], [], (.tup [zu123, .c (.pv (.int .i64 0))], [])⟩
theorem zt245_ok : Holds (ev X E0) [zt245] := ⟨ev_tab (n := 400) (x := xf49) rfl (t := [zt149, zt152, zt153, zt157, zt158, zt162, zt163, zt166, zt167, zt170, zt171, zt175, zt179, zt182, zt183, zt190, zt193, zt199, zt202, zt208, zt211, zt218, zt221, zt227, zt229, zt244]) (by kernel_rfl) ⟨zt149_ok.1, zt152_ok.1, zt153_ok.1, zt157_ok.1, zt158_ok.1, zt162_ok.1, zt163_ok.1, zt166_ok.1, zt167_ok.1, zt170_ok.1, zt171_ok.1, zt175_ok.1, zt179_ok.1, zt182_ok.1, zt183_ok.1, zt190_ok.1, zt193_ok.1, zt199_ok.1, zt202_ok.1, zt208_ok.1, zt211_ok.1, zt218_ok.1, zt221_ok.1, zt227_ok.1, zt229_ok.1, zt244_ok.1, trivial⟩, trivial⟩
def zt246 : Fact := ⟨38, [zu6, .c (.pv (.int .i64 7)), .c (.pv (.int .i32 10))], [], (.tup [zu124, .c (.pv (.int .i64 20))], [])⟩
theorem zt246_ok : Holds (ev X E0) [zt246] := ⟨ev_tab (n := 400) (x := xf38) rfl (t := [zt51]) (by kernel_rfl) ⟨zt51_ok.1, trivial⟩, trivial⟩
def zt247 : Fact := ⟨101, [.c (.pv (.str [7, 20, 6, 2, 0, 3, 102, 101, 101, 5, 1, 0, 199, 1, 2, 0, 120, 2, 0, 80, 1, 2, 10, 2, 2, 9, 97]))], [], (.c (.ptr 0 0), [zb125])⟩
theorem zt247_ok : Holds (ev X E0) [zt247] := ⟨ev_tab (n := 400) (x := xf101) rfl (t := []) (by kernel_rfl) trivial, trivial⟩
def zt248 : Fact := ⟨132, [.c (.pv (.str [7, 20, 6, 2, 0, 3, 102, 101, 101, 5, 1, 0, 199, 1, 2, 0, 120, 2, 0, 80, 1, 2, 10, 2, 2, 9, 97]))], [], (.tup [.c (.pv (.int .u64 7)), .c (.pv (.int .i64 1)), .c (.pv (.int .i64 0))], [])⟩
theorem zt248_ok : Holds (ev X E0) [zt248] := ⟨ev_tab (n := 400) (x := xf132) rfl (t := []) (by kernel_rfl) trivial, trivial⟩
def zt249 : Fact := ⟨131, [.c (.ptr 0 0), .c (.fn 132 [])], [zb125], (.c (.pv (.int .u64 7)), [zb126])⟩
theorem zt249_ok : Holds (ev X E0) [zt249] := ⟨ev_tab (n := 400) (x := xf131) rfl (t := [zt248]) (by kernel_rfl) ⟨zt248_ok.1, trivial⟩, trivial⟩
def zt250 : Fact := ⟨103, [.c (.ptr 0 0)], [zb125], (.c (.pv (.int .u64 7)), [zb126])⟩
theorem zt250_ok : Holds (ev X E0) [zt250] := ⟨ev_tab (n := 400) (x := xf103) rfl (t := [zt249]) (by kernel_rfl) ⟨zt249_ok.1, trivial⟩, trivial⟩
def zt251 : Fact := ⟨132, [.c (.pv (.str [20, 6, 2, 0, 3, 102, 101, 101, 5, 1, 0, 199, 1, 2, 0, 120, 2, 0, 80, 1, 2, 10, 2, 2, 9, 97]))], [], (.tup [.c (.pv (.int .u64 20)), .c (.pv (.int .i64 1)), .c (.pv (.int .i64 0))], [])⟩
theorem zt251_ok : Holds (ev X E0) [zt251] := ⟨ev_tab (n := 400) (x := xf132) rfl (t := []) (by kernel_rfl) trivial, trivial⟩
def zt252 : Fact := ⟨131, [.c (.ptr 0 0), .c (.fn 132 [])], [zb126], (.c (.pv (.int .u64 20)), [zb127])⟩
theorem zt252_ok : Holds (ev X E0) [zt252] := ⟨ev_tab (n := 400) (x := xf131) rfl (t := [zt251]) (by kernel_rfl) ⟨zt251_ok.1, trivial⟩, trivial⟩
def zt253 : Fact := ⟨105, [.c (.ptr 0 0)], [zb126], (.c (.pv (.int .i64 10)), [zb127])⟩
theorem zt253_ok : Holds (ev X E0) [zt253] := ⟨ev_tab (n := 400) (x := xf105) rfl (t := [zt252, zt156]) (by kernel_rfl) ⟨zt252_ok.1, zt156_ok.1, trivial⟩, trivial⟩
def zt254 : Fact := ⟨132, [.c (.pv (.str [6, 2, 0, 3, 102, 101, 101, 5, 1, 0, 199, 1, 2, 0, 120, 2, 0, 80, 1, 2, 10, 2, 2, 9, 97]))], [], (.tup [.c (.pv (.int .u64 6)), .c (.pv (.int .i64 1)), .c (.pv (.int .i64 0))], [])⟩
theorem zt254_ok : Holds (ev X E0) [zt254] := ⟨ev_tab (n := 400) (x := xf132) rfl (t := []) (by kernel_rfl) trivial, trivial⟩
def zt255 : Fact := ⟨131, [.c (.ptr 0 0), .c (.fn 132 [])], [zb127], (.c (.pv (.int .u64 6)), [zb128])⟩
theorem zt255_ok : Holds (ev X E0) [zt255] := ⟨ev_tab (n := 400) (x := xf131) rfl (t := [zt254]) (by kernel_rfl) ⟨zt254_ok.1, trivial⟩, trivial⟩
def zt256 : Fact := ⟨105, [.c (.ptr 0 0)], [zb127], (.c (.pv (.int .i64 3)), [zb128])⟩
theorem zt256_ok : Holds (ev X E0) [zt256] := ⟨ev_tab (n := 400) (x := xf105) rfl (t := [zt255, zt161]) (by kernel_rfl) ⟨zt255_ok.1, zt161_ok.1, trivial⟩, trivial⟩
def zt257 : Fact := ⟨132, [.c (.pv (.str [2, 0, 3, 102, 101, 101, 5, 1, 0, 199, 1, 2, 0, 120, 2, 0, 80, 1, 2, 10, 2, 2, 9, 97]))], [], (.tup [.c (.pv (.int .u64 2)), .c (.pv (.int .i64 1)), .c (.pv (.int .i64 0))], [])⟩
theorem zt257_ok : Holds (ev X E0) [zt257] := ⟨ev_tab (n := 400) (x := xf132) rfl (t := []) (by kernel_rfl) trivial, trivial⟩
def zt258 : Fact := ⟨131, [.c (.ptr 0 0), .c (.fn 132 [])], [zb128], (.c (.pv (.int .u64 2)), [zb129])⟩
theorem zt258_ok : Holds (ev X E0) [zt258] := ⟨ev_tab (n := 400) (x := xf131) rfl (t := [zt257]) (by kernel_rfl) ⟨zt257_ok.1, trivial⟩, trivial⟩
def zt259 : Fact := ⟨103, [.c (.ptr 0 0)], [zb128], (.c (.pv (.int .u64 2)), [zb129])⟩
theorem zt259_ok : Holds (ev X E0) [zt259] := ⟨ev_tab (n := 400) (x := xf103) rfl (t := [zt258]) (by kernel_rfl) ⟨zt258_ok.1, trivial⟩, trivial⟩
def zt260 : Fact := ⟨132, [.c (.pv (.str [0, 3, 102, 101, 101, 5, 1, 0, 199, 1, 2, 0, 120, 2, 0, 80, 1, 2, 10, 2, 2, 9, 97]))], [], (.tup [.c (.pv (.int .u64 0)), .c (.pv (.int .i64 1)), .c (.pv (.int .i64 0))], [])⟩
theorem zt260_ok : Holds (ev X E0) [zt260] := ⟨ev_tab (n := 400) (x := xf132) rfl (t := []) (by kernel_rfl) trivial, trivial⟩
def zt261 : Fact := ⟨131, [.c (.ptr 0 0), .c (.fn 132 [])], [zb129], (.c (.pv (.int .u64 0)), [zb130])⟩
theorem zt261_ok : Holds (ev X E0) [zt261] := ⟨ev_tab (n := 400) (x := xf131) rfl (t := [zt260]) (by kernel_rfl) ⟨zt260_ok.1, trivial⟩, trivial⟩
def zt262 : Fact := ⟨103, [.c (.ptr 0 0)], [zb129], (.c (.pv (.int .u64 0)), [zb130])⟩
theorem zt262_ok : Holds (ev X E0) [zt262] := ⟨ev_tab (n := 400) (x := xf103) rfl (t := [zt261]) (by kernel_rfl) ⟨zt261_ok.1, trivial⟩, trivial⟩
def zt263 : Fact := ⟨132, [.c (.pv (.str [3, 102, 101, 101, 5, 1, 0, 199, 1, 2, 0, 120, 2, 0, 80, 1, 2, 10, 2, 2, 9, 97]))], [], (.tup [.c (.pv (.int .u64 3)), .c (.pv (.int .i64 1)), .c (.pv (.int .i64 0))], [])⟩
theorem zt263_ok : Holds (ev X E0) [zt263] := ⟨ev_tab (n := 400) (x := xf132) rfl (t := []) (by kernel_rfl) trivial, trivial⟩
def zt264 : Fact := ⟨135, [.c (.pv (.str [3, 102, 101, 101, 5, 1, 0, 199, 1, 2, 0, 120, 2, 0, 80, 1, 2, 10, 2, 2, 9, 97])), .c (.ptr 0 0)], [zb106], (.tup [.c (.pv (.str [102, 101, 101])), .c (.pv (.int .i64 4)), .c (.pv (.int .i64 0))], [zb106])⟩
theorem zt264_ok : Holds (ev X E0) [zt264] := ⟨ev_tab (n := 400) (x := xf135) rfl (t := [zt263]) (by kernel_rfl) ⟨zt263_ok.1, trivial⟩, trivial⟩
def zt265 : Fact := ⟨134, [.c (.ptr 0 0), .c (.fn 135 [1])], [zb130, zb106], (.c (.pv (.str [102, 101, 101])), [zb131, zb106])⟩
theorem zt265_ok : Holds (ev X E0) [zt265] := ⟨ev_tab (n := 400) (x := xf134) rfl (t := [zt264]) (by kernel_rfl) ⟨zt264_ok.1, trivial⟩, trivial⟩
def zt266 : Fact := ⟨106, [.c (.ptr 0 0), .c (.pv (.int .i64 32))], [zb130], (.c (.pv (.str [102, 101, 101])), [zb131])⟩
theorem zt266_ok : Holds (ev X E0) [zt266] := ⟨ev_tab (n := 400) (x := xf106) rfl (t := [zt265]) (by kernel_rfl) ⟨zt265_ok.1, trivial⟩, trivial⟩
def zt267 : Fact := ⟨132, [.c (.pv (.str [5, 1, 0, 199, 1, 2, 0, 120, 2, 0, 80, 1, 2, 10, 2, 2, 9, 97]))], [], (.tup [.c (.pv (.int .u64 5)), .c (.pv (.int .i64 1)), .c (.pv (.int .i64 0))], [])⟩
theorem zt267_ok : Holds (ev X E0) [zt267] := ⟨ev_tab (n := 400) (x := xf132) rfl (t := []) (by kernel_rfl) trivial, trivial⟩
def zt268 : Fact := ⟨137, [.c (.pv (.str [5, 1, 0, 199, 1, 2, 0, 120, 2, 0, 80, 1, 2, 10, 2, 2, 9, 97])), .c (.ptr 0 0)], [zb108], (.tup [.c (.pv (.int .i64 5)), .c (.pv (.int .i64 1)), .c (.pv (.int .i64 0))], [zb108])⟩
theorem zt268_ok : Holds (ev X E0) [zt268] := ⟨ev_tab (n := 400) (x := xf137) rfl (t := [zt267]) (by kernel_rfl) ⟨zt267_ok.1, trivial⟩, trivial⟩
def zt269 : Fact := ⟨136, [.c (.ptr 0 0), .c (.fn 137 [1])], [zb131, zb108], (.c (.pv (.int .i64 5)), [zb132, zb108])⟩
theorem zt269_ok : Holds (ev X E0) [zt269] := ⟨ev_tab (n := 400) (x := xf136) rfl (t := [zt268]) (by kernel_rfl) ⟨zt268_ok.1, trivial⟩, trivial⟩
def zt270 : Fact := ⟨107, [.c (.ptr 0 0), .c (.pv (.int .i64 16))], [zb131], (.c (.pv (.int .i64 5)), [zb132])⟩
theorem zt270_ok : Holds (ev X E0) [zt270] := ⟨ev_tab (n := 400) (x := xf107) rfl (t := [zt269]) (by kernel_rfl) ⟨zt269_ok.1, trivial⟩, trivial⟩
def zt271 : Fact := ⟨132, [.c (.pv (.str [1, 0, 199, 1, 2, 0, 120, 2, 0, 80, 1, 2, 10, 2, 2, 9, 97]))], [], (.tup [.c (.pv (.int .u64 1)), .c (.pv (.int .i64 1)), .c (.pv (.int .i64 0))], [])⟩
theorem zt271_ok : Holds (ev X E0) [zt271] := ⟨ev_tab (n := 400) (x := xf132) rfl (t := []) (by kernel_rfl) trivial, trivial⟩
def zt272 : Fact := ⟨131, [.c (.ptr 0 0), .c (.fn 132 [])], [zb132], (.c (.pv (.int .u64 1)), [zb133])⟩
theorem zt272_ok : Holds (ev X E0) [zt272] := ⟨ev_tab (n := 400) (x := xf131) rfl (t := [zt271]) (by kernel_rfl) ⟨zt271_ok.1, trivial⟩, trivial⟩
def zt273 : Fact := ⟨103, [.c (.ptr 0 0)], [zb132], (.c (.pv (.int .u64 1)), [zb133])⟩
theorem zt273_ok : Holds (ev X E0) [zt273] := ⟨ev_tab (n := 400) (x := xf103) rfl (t := [zt272]) (by kernel_rfl) ⟨zt272_ok.1, trivial⟩, trivial⟩
def zt274 : Fact := ⟨132, [.c (.pv (.str [0, 199, 1, 2, 0, 120, 2, 0, 80, 1, 2, 10, 2, 2, 9, 97]))], [], (.tup [.c (.pv (.int .u64 0)), .c (.pv (.int .i64 1)), .c (.pv (.int .i64 0))], [])⟩
theorem zt274_ok : Holds (ev X E0) [zt274] := ⟨ev_tab (n := 400) (x := xf132) rfl (t := []) (by kernel_rfl) trivial, trivial⟩
def zt275 : Fact := ⟨132, [.c (.pv (.str [199, 1, 2, 0, 120, 2, 0, 80, 1, 2, 10, 2, 2, 9, 97]))], [], (.tup [.c (.pv (.int .u64 199)), .c (.pv (.int .i64 2)), .c (.pv (.int .i64 0))], [])⟩
theorem zt275_ok : Holds (ev X E0) [zt275] := ⟨ev_tab (n := 400) (x := xf132) rfl (t := []) (by kernel_rfl) trivial, trivial⟩
def zt276 : Fact := ⟨139, [.c (.pv (.str [0, 199, 1, 2, 0, 120, 2, 0, 80, 1, 2, 10, 2, 2, 9, 97]))], [], (.tup [zu13, .c (.pv (.int .i64 3)), .c (.pv (.int .i64 0))], [])⟩
theorem zt276_ok : Holds (ev X E0) [zt276] := ⟨ev_tab (n := 400) (x := xf139) rfl (t := [zt274, zt275, zt186, zt187]) (by kernel_rfl) ⟨zt274_ok.1, zt275_ok.1, zt186_ok.1, zt187_ok.1, trivial⟩, trivial⟩
def zt277 : Fact := ⟨138, [.c (.ptr 0 0), .c (.fn 139 [])], [zb133], (zu13, [zb134])⟩
theorem zt277_ok : Holds (ev X E0) [zt277] := ⟨ev_tab (n := 400) (x := xf138) rfl (t := [zt276]) (by kernel_rfl) ⟨zt276_ok.1, trivial⟩, trivial⟩
def zt278 : Fact := ⟨108, [.c (.ptr 0 0)], [zb133], (zu13, [zb134])⟩
theorem zt278_ok : Holds (ev X E0) [zt278] := ⟨ev_tab (n := 400) (x := xf108) rfl (t := [zt277]) (by kernel_rfl) ⟨zt277_ok.1, trivial⟩, trivial⟩
def zt279 : Fact := ⟨132, [.c (.pv (.str [2, 0, 120, 2, 0, 80, 1, 2, 10, 2, 2, 9, 97]))], [], (.tup [.c (.pv (.int .u64 2)), .c (.pv (.int .i64 1)), .c (.pv (.int .i64 0))], [])⟩
theorem zt279_ok : Holds (ev X E0) [zt279] := ⟨ev_tab (n := 400) (x := xf132) rfl (t := []) (by kernel_rfl) trivial, trivial⟩
def zt280 : Fact := ⟨131, [.c (.ptr 0 0), .c (.fn 132 [])], [zb134], (.c (.pv (.int .u64 2)), [zb135])⟩
theorem zt280_ok : Holds (ev X E0) [zt280] := ⟨ev_tab (n := 400) (x := xf131) rfl (t := [zt279]) (by kernel_rfl) ⟨zt279_ok.1, trivial⟩, trivial⟩
def zt281 : Fact := ⟨103, [.c (.ptr 0 0)], [zb134], (.c (.pv (.int .u64 2)), [zb135])⟩
theorem zt281_ok : Holds (ev X E0) [zt281] := ⟨ev_tab (n := 400) (x := xf103) rfl (t := [zt280]) (by kernel_rfl) ⟨zt280_ok.1, trivial⟩, trivial⟩
def zt282 : Fact := ⟨132, [.c (.pv (.str [0, 120, 2, 0, 80, 1, 2, 10, 2, 2, 9, 97]))], [], (.tup [.c (.pv (.int .u64 0)), .c (.pv (.int .i64 1)), .c (.pv (.int .i64 0))], [])⟩
theorem zt282_ok : Holds (ev X E0) [zt282] := ⟨ev_tab (n := 400) (x := xf132) rfl (t := []) (by kernel_rfl) trivial, trivial⟩
def zt283 : Fact := ⟨132, [.c (.pv (.str [120, 2, 0, 80, 1, 2, 10, 2, 2, 9, 97]))], [], (.tup [.c (.pv (.int .u64 120)), .c (.pv (.int .i64 1)), .c (.pv (.int .i64 0))], [])⟩
theorem zt283_ok : Holds (ev X E0) [zt283] := ⟨ev_tab (n := 400) (x := xf132) rfl (t := []) (by kernel_rfl) trivial, trivial⟩
def zt284 : Fact := ⟨139, [.c (.pv (.str [0, 120, 2, 0, 80, 1, 2, 10, 2, 2, 9, 97]))], [], (.tup [zu14, .c (.pv (.int .i64 2)), .c (.pv (.int .i64 0))], [])⟩
theorem zt284_ok : Holds (ev X E0) [zt284] := ⟨ev_tab (n := 400) (x := xf139) rfl (t := [zt282, zt283, zt186, zt196]) (by kernel_rfl) ⟨zt282_ok.1, zt283_ok.1, zt186_ok.1, zt196_ok.1, trivial⟩, trivial⟩
def zt285 : Fact := ⟨138, [.c (.ptr 0 0), .c (.fn 139 [])], [zb135], (zu14, [zb136])⟩
theorem zt285_ok : Holds (ev X E0) [zt285] := ⟨ev_tab (n := 400) (x := xf138) rfl (t := [zt284]) (by kernel_rfl) ⟨zt284_ok.1, trivial⟩, trivial⟩
def zt286 : Fact := ⟨108, [.c (.ptr 0 0)], [zb135], (zu14, [zb136])⟩
theorem zt286_ok : Holds (ev X E0) [zt286] := ⟨ev_tab (n := 400) (x := xf108) rfl (t := [zt285]) (by kernel_rfl) ⟨zt285_ok.1, trivial⟩, trivial⟩
def zt287 : Fact := ⟨132, [.c (.pv (.str [2, 0, 80, 1, 2, 10, 2, 2, 9, 97]))], [], (.tup [.c (.pv (.int .u64 2)), .c (.pv (.int .i64 1)), .c (.pv (.int .i64 0))], [])⟩
theorem zt287_ok : Holds (ev X E0) [zt287] := ⟨ev_tab (n := 400) (x := xf132) rfl (t := []) (by kernel_rfl) trivial, trivial⟩
def zt288 : Fact := ⟨131, [.c (.ptr 0 0), .c (.fn 132 [])], [zb136], (.c (.pv (.int .u64 2)), [zb137])⟩
theorem zt288_ok : Holds (ev X E0) [zt288] := ⟨ev_tab (n := 400) (x := xf131) rfl (t := [zt287]) (by kernel_rfl) ⟨zt287_ok.1, trivial⟩, trivial⟩
def zt289 : Fact := ⟨103, [.c (.ptr 0 0)], [zb136], (.c (.pv (.int .u64 2)), [zb137])⟩
theorem zt289_ok : Holds (ev X E0) [zt289] := ⟨ev_tab (n := 400) (x := xf103) rfl (t := [zt288]) (by kernel_rfl) ⟨zt288_ok.1, trivial⟩, trivial⟩
def zt290 : Fact := ⟨132, [.c (.pv (.str [0, 80, 1, 2, 10, 2, 2, 9, 97]))], [], (.tup [.c (.pv (.int .u64 0)), .c (.pv (.int .i64 1)), .c (.pv (.int .i64 0))], [])⟩
theorem zt290_ok : Holds (ev X E0) [zt290] := ⟨ev_tab (n := 400) (x := xf132) rfl (t := []) (by kernel_rfl) trivial, trivial⟩
def zt291 : Fact := ⟨132, [.c (.pv (.str [80, 1, 2, 10, 2, 2, 9, 97]))], [], (.tup [.c (.pv (.int .u64 80)), .c (.pv (.int .i64 1)), .c (.pv (.int .i64 0))], [])⟩
theorem zt291_ok : Holds (ev X E0) [zt291] := ⟨ev_tab (n := 400) (x := xf132) rfl (t := []) (by kernel_rfl) trivial, trivial⟩
def zt292 : Fact := ⟨139, [.c (.pv (.str [0, 80, 1, 2, 10, 2, 2, 9, 97]))], [], (.tup [zu15, .c (.pv (.int .i64 2)), .c (.pv (.int .i64 0))], [])⟩
theorem zt292_ok : Holds (ev X E0) [zt292] := ⟨ev_tab (n := 400) (x := xf139) rfl (t := [zt290, zt291, zt186, zt205]) (by kernel_rfl) ⟨zt290_ok.1, zt291_ok.1, zt186_ok.1, zt205_ok.1, trivial⟩, trivial⟩
def zt293 : Fact := ⟨138, [.c (.ptr 0 0), .c (.fn 139 [])], [zb137], (zu15, [zb138])⟩
theorem zt293_ok : Holds (ev X E0) [zt293] := ⟨ev_tab (n := 400) (x := xf138) rfl (t := [zt292]) (by kernel_rfl) ⟨zt292_ok.1, trivial⟩, trivial⟩
def zt294 : Fact := ⟨108, [.c (.ptr 0 0)], [zb137], (zu15, [zb138])⟩
theorem zt294_ok : Holds (ev X E0) [zt294] := ⟨ev_tab (n := 400) (x := xf108) rfl (t := [zt293]) (by kernel_rfl) ⟨zt293_ok.1, trivial⟩, trivial⟩
def zt295 : Fact := ⟨132, [.c (.pv (.str [1, 2, 10, 2, 2, 9, 97]))], [], (.tup [.c (.pv (.int .u64 1)), .c (.pv (.int .i64 1)), .c (.pv (.int .i64 0))], [])⟩
theorem zt295_ok : Holds (ev X E0) [zt295] := ⟨ev_tab (n := 400) (x := xf132) rfl (t := []) (by kernel_rfl) trivial, trivial⟩
def zt296 : Fact := ⟨131, [.c (.ptr 0 0), .c (.fn 132 [])], [zb138], (.c (.pv (.int .u64 1)), [zb139])⟩
theorem zt296_ok : Holds (ev X E0) [zt296] := ⟨ev_tab (n := 400) (x := xf131) rfl (t := [zt295]) (by kernel_rfl) ⟨zt295_ok.1, trivial⟩, trivial⟩
def zt297 : Fact := ⟨103, [.c (.ptr 0 0)], [zb138], (.c (.pv (.int .u64 1)), [zb139])⟩
theorem zt297_ok : Holds (ev X E0) [zt297] := ⟨ev_tab (n := 400) (x := xf103) rfl (t := [zt296]) (by kernel_rfl) ⟨zt296_ok.1, trivial⟩, trivial⟩
def zt298 : Fact := ⟨132, [.c (.pv (.str [2, 10, 2, 2, 9, 97]))], [], (.tup [.c (.pv (.int .u64 2)), .c (.pv (.int .i64 1)), .c (.pv (.int .i64 0))], [])⟩
theorem zt298_ok : Holds (ev X E0) [zt298] := ⟨ev_tab (n := 400) (x := xf132) rfl (t := []) (by kernel_rfl) trivial, trivial⟩
def zt299 : Fact := ⟨132, [.c (.pv (.str [10, 2, 2, 9, 97]))], [], (.tup [.c (.pv (.int .u64 10)), .c (.pv (.int .i64 1)), .c (.pv (.int .i64 0))], [])⟩
theorem zt299_ok : Holds (ev X E0) [zt299] := ⟨ev_tab (n := 400) (x := xf132) rfl (t := []) (by kernel_rfl) trivial, trivial⟩
def zt300 : Fact := ⟨139, [.c (.pv (.str [2, 10, 2, 2, 9, 97]))], [], (.tup [zu16, .c (.pv (.int .i64 2)), .c (.pv (.int .i64 0))], [])⟩
theorem zt300_ok : Holds (ev X E0) [zt300] := ⟨ev_tab (n := 400) (x := xf139) rfl (t := [zt298, zt299, zt214, zt215]) (by kernel_rfl) ⟨zt298_ok.1, zt299_ok.1, zt214_ok.1, zt215_ok.1, trivial⟩, trivial⟩
def zt301 : Fact := ⟨138, [.c (.ptr 0 0), .c (.fn 139 [])], [zb139], (zu16, [zb140])⟩
theorem zt301_ok : Holds (ev X E0) [zt301] := ⟨ev_tab (n := 400) (x := xf138) rfl (t := [zt300]) (by kernel_rfl) ⟨zt300_ok.1, trivial⟩, trivial⟩
def zt302 : Fact := ⟨108, [.c (.ptr 0 0)], [zb139], (zu16, [zb140])⟩
theorem zt302_ok : Holds (ev X E0) [zt302] := ⟨ev_tab (n := 400) (x := xf108) rfl (t := [zt301]) (by kernel_rfl) ⟨zt301_ok.1, trivial⟩, trivial⟩
def zt303 : Fact := ⟨132, [.c (.pv (.str [2, 2, 9, 97]))], [], (.tup [.c (.pv (.int .u64 2)), .c (.pv (.int .i64 1)), .c (.pv (.int .i64 0))], [])⟩
theorem zt303_ok : Holds (ev X E0) [zt303] := ⟨ev_tab (n := 400) (x := xf132) rfl (t := []) (by kernel_rfl) trivial, trivial⟩
def zt304 : Fact := ⟨131, [.c (.ptr 0 0), .c (.fn 132 [])], [zb140], (.c (.pv (.int .u64 2)), [zb141])⟩
theorem zt304_ok : Holds (ev X E0) [zt304] := ⟨ev_tab (n := 400) (x := xf131) rfl (t := [zt303]) (by kernel_rfl) ⟨zt303_ok.1, trivial⟩, trivial⟩
def zt305 : Fact := ⟨103, [.c (.ptr 0 0)], [zb140], (.c (.pv (.int .u64 2)), [zb141])⟩
theorem zt305_ok : Holds (ev X E0) [zt305] := ⟨ev_tab (n := 400) (x := xf103) rfl (t := [zt304]) (by kernel_rfl) ⟨zt304_ok.1, trivial⟩, trivial⟩
def zt306 : Fact := ⟨132, [.c (.pv (.str [2, 9, 97]))], [], (.tup [.c (.pv (.int .u64 2)), .c (.pv (.int .i64 1)), .c (.pv (.int .i64 0))], [])⟩
theorem zt306_ok : Holds (ev X E0) [zt306] := ⟨ev_tab (n := 400) (x := xf132) rfl (t := []) (by kernel_rfl) trivial, trivial⟩
def zt307 : Fact := ⟨132, [.c (.pv (.str [9, 97]))], [], (.tup [.c (.pv (.int .u64 9)), .c (.pv (.int .i64 1)), .c (.pv (.int .i64 0))], [])⟩
theorem zt307_ok : Holds (ev X E0) [zt307] := ⟨ev_tab (n := 400) (x := xf132) rfl (t := []) (by kernel_rfl) trivial, trivial⟩
def zt308 : Fact := ⟨139, [.c (.pv (.str [2, 9, 97]))], [], (.tup [zu17, .c (.pv (.int .i64 2)), .c (.pv (.int .i64 0))], [])⟩
theorem zt308_ok : Holds (ev X E0) [zt308] := ⟨ev_tab (n := 400) (x := xf139) rfl (t := [zt306, zt307, zt214, zt224]) (by kernel_rfl) ⟨zt306_ok.1, zt307_ok.1, zt214_ok.1, zt224_ok.1, trivial⟩, trivial⟩
def zt309 : Fact := ⟨138, [.c (.ptr 0 0), .c (.fn 139 [])], [zb141], (zu17, [zb142])⟩
theorem zt309_ok : Holds (ev X E0) [zt309] := ⟨ev_tab (n := 400) (x := xf138) rfl (t := [zt308]) (by kernel_rfl) ⟨zt308_ok.1, trivial⟩, trivial⟩
def zt310 : Fact := ⟨108, [.c (.ptr 0 0)], [zb141], (zu17, [zb142])⟩
theorem zt310_ok : Holds (ev X E0) [zt310] := ⟨ev_tab (n := 400) (x := xf108) rfl (t := [zt309]) (by kernel_rfl) ⟨zt309_ok.1, trivial⟩, trivial⟩
def zt311 : Fact := ⟨140, [.c (.ptr 0 0)], [zb142], (.c (.pv (.int .i64 0)), [zb142])⟩
theorem zt311_ok : Holds (ev X E0) [zt311] := ⟨ev_tab (n := 400) (x := xf140) rfl (t := []) (by kernel_rfl) trivial, trivial⟩
def zt312 : Fact := ⟨109, [.c (.ptr 0 0)], [zb142], (.c (.pv (.int .i64 3)), [zb142])⟩
theorem zt312_ok : Holds (ev X E0) [zt312] := ⟨ev_tab (n := 400) (x := xf109) rfl (t := [zt311]) (by kernel_rfl) ⟨zt311_ok.1, trivial⟩, trivial⟩
def zt313 : Fact := ⟨49, [.c (.pv (.str [7, 20, 6, 2, 0, 3, 102, 101, 101, 5, 1, 0, 199, 1, 2, 0, 120, 2, 0, 80, 1, 2, 10, 2, 2, 9, 97]))], [], (.tup [zu124, .c (.pv (.int .i64 3))], [])⟩
theorem zt313_ok : Holds (ev X E0) [zt313] := ⟨ev_tab (n := 400) (x := xf49) rfl (t := [zt247, zt250, zt153, zt253, zt158, zt256, zt163, zt259, zt167, zt262, zt171, zt266, zt270, zt273, zt183, zt278, zt281, zt286, zt289, zt294, zt297, zt302, zt305, zt310, zt312]) (by kernel_rfl) ⟨zt247_ok.1, zt250_ok.1, zt153_ok.1, zt253_ok.1, zt158_ok.1, zt256_ok.1, zt163_ok.1, zt259_ok.1, zt167_ok.1, zt262_ok.1, zt171_ok.1, zt266_ok.1, zt270_ok.1, zt273_ok.1, zt183_ok.1, zt278_ok.1, zt281_ok.1, zt286_ok.1, zt289_ok.1, zt294_ok.1, zt297_ok.1, zt302_ok.1, zt305_ok.1, zt310_ok.1, zt312_ok.1, trivial⟩, trivial⟩
def zt314 : Fact := ⟨88, [zu25, .c (.ptr 0 0), .c (.ptr 1 0)], [zb34, zb35], (.c (.pv (.bool false)), [zb34, zb35])⟩
theorem zt314_ok : Holds (ev X E0) [zt314] := ⟨ev_tab (n := 400) (x := xf88) rfl (t := []) (by kernel_rfl) trivial, trivial⟩
def zt315 : Fact := ⟨88, [zu26, .c (.ptr 0 0), .c (.ptr 1 0)], [zb34, zb35], (.c (.pv (.bool true)), [zb34, zb35])⟩
theorem zt315_ok : Holds (ev X E0) [zt315] := ⟨ev_tab (n := 400) (x := xf88) rfl (t := []) (by kernel_rfl) trivial, trivial⟩
def zt316 : Fact := ⟨88, [zu27, .c (.ptr 0 0), .c (.ptr 1 0)], [zb34, zb35], (.c (.pv (.bool true)), [zb34, zb35])⟩
theorem zt316_ok : Holds (ev X E0) [zt316] := ⟨ev_tab (n := 400) (x := xf88) rfl (t := []) (by kernel_rfl) trivial, trivial⟩
def zt317 : Fact := ⟨88, [zu28, .c (.ptr 0 0), .c (.ptr 1 0)], [zb34, zb35], (.c (.pv (.bool false)), [zb34, zb35])⟩
theorem zt317_ok : Holds (ev X E0) [zt317] := ⟨ev_tab (n := 400) (x := xf88) rfl (t := []) (by kernel_rfl) trivial, trivial⟩
def zt318 : Fact := ⟨88, [zu29, .c (.ptr 0 0), .c (.ptr 1 0)], [zb34, zb35], (.c (.pv (.bool false)), [zb34, zb35])⟩
theorem zt318_ok : Holds (ev X E0) [zt318] := ⟨ev_tab (n := 400) (x := xf88) rfl (t := []) (by kernel_rfl) trivial, trivial⟩
def zt319 : Fact := ⟨87, [zu24, .c (.fn 88 [0, 1])], [zb34, zb35], (.tup [.c (.pv (.int .i64 (-100))), .c (.pv (.int .i64 0))], [zb34, zb35])⟩
theorem zt319_ok : Holds (ev X E0) [zt319] := ⟨ev_tab (n := 400) (x := xf87) rfl (t := [zt90, zt314, zt315, zt316, zt317, zt318]) (by kernel_rfl) ⟨zt90_ok.1, zt314_ok.1, zt315_ok.1, zt316_ok.1, zt317_ok.1, zt318_ok.1, trivial⟩, trivial⟩
def zt320 : Fact := ⟨40, [zu24, .c (.pv (.int .i64 2)), .c (.pv (.int .i64 0))], [], (.tup [.c (.pv (.int .i64 (-100))), .c (.pv (.int .i64 0))], [])⟩
theorem zt320_ok : Holds (ev X E0) [zt320] := ⟨ev_tab (n := 400) (x := xf40) rfl (t := [zt319]) (by kernel_rfl) ⟨zt319_ok.1, trivial⟩, trivial⟩
def zt321 : Fact := ⟨96, [.c (.pv (zw120)), .c (.pv (zw5))], [], (.c (.pv (.bool true)), [])⟩
theorem zt321_ok : Holds (ev X E0) [zt321] := ⟨ev_tab (n := 400) (x := xf96) rfl (t := []) (by kernel_rfl) trivial, trivial⟩
def zt322 : Fact := ⟨43, [zu121, zu6], [], (.c (.pv (.bool true)), [])⟩
theorem zt322_ok : Holds (ev X E0) [zt322] := ⟨ev_tab (n := 400) (x := xf43) rfl (t := [zt321]) (by kernel_rfl) ⟨zt321_ok.1, trivial⟩, trivial⟩
def zt323 : Fact := ⟨76, [zu144], [], (.c (.pv (.bool true)), [])⟩
theorem zt323_ok : Holds (ev X E0) [zt323] := ⟨ev_tab (n := 400) (x := xf76) rfl (t := [zt5]) (by kernel_rfl) ⟨zt5_ok.1, trivial⟩, trivial⟩
def zt324 : Fact := ⟨127, [.c (.pv (zw143)), .c (.fn 78 [])], [], (.c (.pv (.int .i64 (-1))), [])⟩
theorem zt324_ok : Holds (ev X E0) [zt324] := ⟨ev_tab (n := 400) (x := xf127) rfl (t := [zt9, zt10, zt11, zt12]) (by kernel_rfl) ⟨zt9_ok.1, zt10_ok.1, zt11_ok.1, zt12_ok.1, trivial⟩, trivial⟩
def zt325 : Fact := ⟨75, [.c (.pv (zw143)), .c (.fn 78 [])], [], (.c (.pv (.bool false)), [])⟩
theorem zt325_ok : Holds (ev X E0) [zt325] := ⟨ev_tab (n := 400) (x := xf75) rfl (t := [zt324]) (by kernel_rfl) ⟨zt324_ok.1, trivial⟩, trivial⟩
def zt326 : Fact := ⟨74, [.c (.fn 78 []), .c (.ptr 0 0)], [zb145], (.c (.pv (.bool false)), [zb145])⟩
theorem zt326_ok : Holds (ev X E0) [zt326] := ⟨ev_tab (n := 400) (x := xf74) rfl (t := [zt325]) (by kernel_rfl) ⟨zt325_ok.1, trivial⟩, trivial⟩
def zt327 : Fact := ⟨127, [.c (.pv (zw143)), .c (.fn 79 [])], [], (.c (.pv (.int .i64 (-1))), [])⟩
theorem zt327_ok : Holds (ev X E0) [zt327] := ⟨ev_tab (n := 400) (x := xf127) rfl (t := [zt19, zt20, zt21, zt24]) (by kernel_rfl) ⟨zt19_ok.1, zt20_ok.1, zt21_ok.1, zt24_ok.1, trivial⟩, trivial⟩
def zt328 : Fact := ⟨75, [.c (.pv (zw143)), .c (.fn 79 [])], [], (.c (.pv (.bool false)), [])⟩
theorem zt328_ok : Holds (ev X E0) [zt328] := ⟨ev_tab (n := 400) (x := xf75) rfl (t := [zt327]) (by kernel_rfl) ⟨zt327_ok.1, trivial⟩, trivial⟩
def zt329 : Fact := ⟨74, [.c (.fn 79 []), .c (.ptr 0 0)], [zb145], (.c (.pv (.bool false)), [zb145])⟩
theorem zt329_ok : Holds (ev X E0) [zt329] := ⟨ev_tab (n := 400) (x := xf74) rfl (t := [zt328]) (by kernel_rfl) ⟨zt328_ok.1, trivial⟩, trivial⟩
def zt330 : Fact := ⟨127, [.c (.pv (zw143)), .c (.fn 81 [])], [], (.c (.pv (.int .i64 (-1))), [])⟩
theorem zt330_ok : Holds (ev X E0) [zt330] := ⟨ev_tab (n := 400) (x := xf127) rfl (t := [zt30, zt32, zt34, zt36]) (by kernel_rfl) ⟨zt30_ok.1, zt32_ok.1, zt34_ok.1, zt36_ok.1, trivial⟩, trivial⟩
def zt331 : Fact := ⟨75, [.c (.pv (zw143)), .c (.fn 81 [])], [], (.c (.pv (.bool false)), [])⟩
theorem zt331_ok : Holds (ev X E0) [zt331] := ⟨ev_tab (n := 400) (x := xf75) rfl (t := [zt330]) (by kernel_rfl) ⟨zt330_ok.1, trivial⟩, trivial⟩
def zt332 : Fact := ⟨74, [.c (.fn 81 []), .c (.ptr 0 0)], [zb145], (.c (.pv (.bool false)), [zb145])⟩
theorem zt332_ok : Holds (ev X E0) [zt332] := ⟨ev_tab (n := 400) (x := xf74) rfl (t := [zt331]) (by kernel_rfl) ⟨zt331_ok.1, trivial⟩, trivial⟩
def zt333 : Fact := ⟨127, [.c (.pv (zw143)), .c (.fn 83 [])], [], (.c (.pv (.int .i64 (-1))), [])⟩
theorem zt333_ok : Holds (ev X E0) [zt333] := ⟨ev_tab (n := 400) (x := xf127) rfl (t := [zt42, zt43, zt44, zt45]) (by kernel_rfl) ⟨zt42_ok.1, zt43_ok.1, zt44_ok.1, zt45_ok.1, trivial⟩, trivial⟩
def zt334 : Fact := ⟨75, [.c (.pv (zw143)), .c (.fn 83 [])], [], (.c (.pv (.bool false)), [])⟩
theorem zt334_ok : Holds (ev X E0) [zt334] := ⟨ev_tab (n := 400) (x := xf75) rfl (t := [zt333]) (by kernel_rfl) ⟨zt333_ok.1, trivial⟩, trivial⟩
def zt335 : Fact := ⟨74, [.c (.fn 83 []), .c (.ptr 0 0)], [zb145], (.c (.pv (.bool false)), [zb145])⟩
theorem zt335_ok : Holds (ev X E0) [zt335] := ⟨ev_tab (n := 400) (x := xf74) rfl (t := [zt334]) (by kernel_rfl) ⟨zt334_ok.1, trivial⟩, trivial⟩
def zt336 : Fact := ⟨84, [.c (.pv (zw143))], [], (.c (.pv (.bool false)), [])⟩
theorem zt336_ok : Holds (ev X E0) [zt336] := ⟨ev_tab (n := 400) (x := xf84) rfl (t := []) (by kernel_rfl) trivial, trivial⟩
def zt337 : Fact := ⟨37, [zu144], [], (.c (.pv (.int .i64 15)), [])⟩
theorem zt337_ok : Holds (ev X E0) [zt337] := ⟨ev_tab (n := 400) (x := xf37) rfl (t := [zt323, zt7, zt8, zt326, zt329, zt332, zt335, zt336]) (by kernel_rfl) ⟨zt323_ok.1, zt7_ok.1, zt8_ok.1, zt326_ok.1, zt329_ok.1, zt332_ok.1, zt335_ok.1, zt336_ok.1, trivial⟩, trivial⟩
def zt338 : Fact := ⟨76, [zu124], [], (.c (.pv (.bool false)), [])⟩
theorem zt338_ok : Holds (ev X E0) [zt338] := ⟨ev_tab (n := 400) (x := xf76) rfl (t := []) (by kernel_rfl) trivial, trivial⟩
def zt339 : Fact := ⟨37, [zu124], [], (.c (.pv (.int .i64 1)), [])⟩
theorem zt339_ok : Holds (ev X E0) [zt339] := ⟨ev_tab (n := 400) (x := xf37) rfl (t := [zt338]) (by kernel_rfl) ⟨zt338_ok.1, trivial⟩, trivial⟩
def zt340 : Fact := ⟨96, [.c (.pv (zw143)), .c (.pv (zw120))], [], (.c (.pv (.bool false)), [])⟩
theorem zt340_ok : Holds (ev X E0) [zt340] := ⟨ev_tab (n := 400) (x := xf96) rfl (t := []) (by kernel_rfl) trivial, trivial⟩
def zt341 : Fact := ⟨43, [zu144, zu121], [], (.c (.pv (.bool false)), [])⟩
theorem zt341_ok : Holds (ev X E0) [zt341] := ⟨ev_tab (n := 400) (x := xf43) rfl (t := [zt340]) (by kernel_rfl) ⟨zt340_ok.1, trivial⟩, trivial⟩
def zt342 : Fact := ⟨39, [], [], (.c (.pv (.bool true)), [])⟩
theorem zt342_ok : Holds (ev X E0) [zt342] := ⟨ev_tab (n := 400) (x := xf39) rfl (t := [zt0, zt91, zt98, zt105, zt148, zt245, zt246, zt313, zt320, zt322, zt337, zt51, zt339, zt341]) (by kernel_rfl) ⟨zt0_ok.1, zt91_ok.1, zt98_ok.1, zt105_ok.1, zt148_ok.1, zt245_ok.1, zt246_ok.1, zt313_ok.1, zt320_ok.1, zt322_ok.1, zt337_ok.1, zt51_ok.1, zt339_ok.1, zt341_ok.1, trivial⟩, trivial⟩
theorem alive19 : ev X E0 39 [] [] = some (.c (.pv (.bool true)), []) := zt342_ok.1
end Go.Sx.Tryd.Calive19
