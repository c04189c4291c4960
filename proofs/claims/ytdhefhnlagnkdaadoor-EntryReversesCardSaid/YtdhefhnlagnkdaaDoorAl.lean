/- Closed calls, each out of those that it makes. Printed by closed.py. -/
import Derived.Test.YtdhefhnlagnkdaaDoorSxTab
import Derived.Test.YtdhefhnlagnkdaaDoorXS
namespace Go.Sx.Tryd.Calive19
open Go Go.Sx Go.Sx.Tryd
def w0 : PV := .agg [.int .i64 1, .int .i64 0, .int .i64 (-100)]
def w1 : PV := .agg [.int .i64 2, .int .i64 0, .int .i64 60]
def w2 : PV := .agg [.int .i64 2, .int .i64 0, .int .i64 40]
def w3 : PV := .agg [.int .i64 1, .int .i64 1, .int .i64 5]
def w4 : PV := .agg [.int .i64 2, .int .i64 1, .int .i64 (-5)]
def w5 : PV := .sl .full 3 [w0, w1, w2, w3, w4]
def u6 : AV := .agg [.pv (.int .i64 7), .pv (.int .i32 10), .pv (.int .i32 3), .pv (w5), .pv (.int .i64 0), .pv (.int .i64 2), .pv (.str [102, 101, 101])]
def u7 : AV := .agg [.pv (.int .i64 1), .pv (.int .i64 0), .pv (.int .i64 (-100))]
def u8 : AV := .agg [.pv (.int .i64 2), .pv (.int .i64 0), .pv (.int .i64 60)]
def u9 : AV := .agg [.pv (.int .i64 2), .pv (.int .i64 0), .pv (.int .i64 40)]
def u10 : AV := .agg [.pv (.int .i64 1), .pv (.int .i64 1), .pv (.int .i64 5)]
def u11 : AV := .agg [.pv (.int .i64 2), .pv (.int .i64 1), .pv (.int .i64 (-5))]
def b12 : Box := .cells [.pv (.int .i64 7), .pv (.int .i32 10), .pv (.int .i32 3), .pv (w5), .pv (.int .i64 0), .pv (.int .i64 2), .pv (.str [102, 101, 101])]
def u13 : AV := .agg [.pv (.int .i64 0), .pv (.int .i64 (-100))]
def u14 : AV := .agg [.pv (.int .i64 0), .pv (.int .i64 60)]
def u15 : AV := .agg [.pv (.int .i64 0), .pv (.int .i64 40)]
def u16 : AV := .agg [.pv (.int .i64 1), .pv (.int .i64 5)]
def u17 : AV := .agg [.pv (.int .i64 1), .pv (.int .i64 (-5))]
def w18 : PV := .agg [.int .i64 1, .int .i64 0, .int .i64 100]
def w19 : PV := .agg [.int .i64 2, .int .i64 0, .int .i64 (-60)]
def w20 : PV := .agg [.int .i64 2, .int .i64 0, .int .i64 (-40)]
def w21 : PV := .agg [.int .i64 1, .int .i64 1, .int .i64 (-5)]
def w22 : PV := .agg [.int .i64 2, .int .i64 1, .int .i64 5]
def w23 : PV := .sl .shut 3 [w18, w19, w20, w21, w22]
def u24 : AV := .agg [.pv (.int .i64 9), .pv (.int .i32 10), .pv (.int .i32 3), .pv (w23), .pv (.int .i64 7), .pv (.int .i64 2), .pv (.str [102, 101, 101])]
def u25 : AV := .agg [.pv (.int .i64 1), .pv (.int .i64 0), .pv (.int .i64 100)]
def u26 : AV := .agg [.pv (.int .i64 2), .pv (.int .i64 0), .pv (.int .i64 (-60))]
def u27 : AV := .agg [.pv (.int .i64 2), .pv (.int .i64 0), .pv (.int .i64 (-40))]
def u28 : AV := .agg [.pv (.int .i64 1), .pv (.int .i64 1), .pv (.int .i64 (-5))]
def u29 : AV := .agg [.pv (.int .i64 2), .pv (.int .i64 1), .pv (.int .i64 5)]
def b30 : Box := .cells [.pv (.int .i64 9), .pv (.int .i32 10), .pv (.int .i32 3), .pv (w23), .pv (.int .i64 7), .pv (.int .i64 2), .pv (.str [102, 101, 101])]
def u31 : AV := .agg [.pv (.int .i64 0), .pv (.int .i64 100)]
def u32 : AV := .agg [.pv (.int .i64 0), .pv (.int .i64 (-60))]
def u33 : AV := .agg [.pv (.int .i64 0), .pv (.int .i64 (-40))]
def b34 : Box := .cells [.pv (.int .i64 2)]
def b35 : Box := .cells [.pv (.int .i64 0)]
def w36 : PV := .sl .nil 0 []
def b37 : Box := .cells [.pv (w36)]
def b38 : Box := .cells [.own 1983 1 [.int .u8 7]]
def b39 : Box := .cells [.own 0 1 [.int .u8 7]]
def b40 : Box := .cells [.own 1983 1 [.int .u8 7, .int .u8 20]]
def b41 : Box := .cells [.own 768 1 [.int .u8 7, .int .u8 20]]
def b42 : Box := .cells [.own 0 1 [.int .u8 7, .int .u8 20]]
def b43 : Box := .cells [.own 1983 1 [.int .u8 7, .int .u8 20, .int .u8 6]]
def b44 : Box := .cells [.own 768 1 [.int .u8 7, .int .u8 20, .int .u8 6]]
def b45 : Box := .cells [.own 0 1 [.int .u8 7, .int .u8 20, .int .u8 6]]
def b46 : Box := .cells [.own 1983 1 [.int .u8 7, .int .u8 20, .int .u8 6, .int .u8 2]]
def b47 : Box := .cells [.own 0 1 [.int .u8 7, .int .u8 20, .int .u8 6, .int .u8 2]]
def b48 : Box := .cells [.own 1983 1 [.int .u8 7, .int .u8 20, .int .u8 6, .int .u8 2, .int .u8 0]]
def b49 : Box := .cells [.own 0 1 [.int .u8 7, .int .u8 20, .int .u8 6, .int .u8 2, .int .u8 0]]
def b50 : Box := .cells [.own 1983 1 [.int .u8 7, .int .u8 20, .int .u8 6, .int .u8 2, .int .u8 0, .int .u8 3]]
def b51 : Box := .cells [.own 1151 1 [.int .u8 7, .int .u8 20, .int .u8 6, .int .u8 2, .int .u8 0, .int .u8 3, .int .u8 102, .int .u8 101, .int .u8 101]]
def b52 : Box := .cells [.own 0 1 [.int .u8 7, .int .u8 20, .int .u8 6, .int .u8 2, .int .u8 0, .int .u8 3, .int .u8 102, .int .u8 101, .int .u8 101]]
def b53 : Box := .cells [.own 1983 1 [.int .u8 7, .int .u8 20, .int .u8 6, .int .u8 2, .int .u8 0, .int .u8 3, .int .u8 102, .int .u8 101, .int .u8 101, .int .u8 5]]
def b54 : Box := .cells [.own 0 1 [.int .u8 7, .int .u8 20, .int .u8 6, .int .u8 2, .int .u8 0, .int .u8 3, .int .u8 102, .int .u8 101, .int .u8 101, .int .u8 5]]
def b55 : Box := .cells [.own 1983 1 [.int .u8 7, .int .u8 20, .int .u8 6, .int .u8 2, .int .u8 0, .int .u8 3, .int .u8 102, .int .u8 101, .int .u8 101, .int .u8 5, .int .u8 1]]
def b56 : Box := .cells [.own 0 1 [.int .u8 7, .int .u8 20, .int .u8 6, .int .u8 2, .int .u8 0, .int .u8 3, .int .u8 102, .int .u8 101, .int .u8 101, .int .u8 5, .int .u8 1]]
def b57 : Box := .cells [.own 1983 1 [.int .u8 7, .int .u8 20, .int .u8 6, .int .u8 2, .int .u8 0, .int .u8 3, .int .u8 102, .int .u8 101, .int .u8 101, .int .u8 5, .int .u8 1, .int .u8 0]]
def b58 : Box := .cells [.own 768 1 [.int .u8 7, .int .u8 20, .int .u8 6, .int .u8 2, .int .u8 0, .int .u8 3, .int .u8 102, .int .u8 101, .int .u8 101, .int .u8 5, .int .u8 1, .int .u8 0]]
def b59 : Box := .cells [.own 0 1 [.int .u8 7, .int .u8 20, .int .u8 6, .int .u8 2, .int .u8 0, .int .u8 3, .int .u8 102, .int .u8 101, .int .u8 101, .int .u8 5, .int .u8 1, .int .u8 0]]
def b60 : Box := .cells [.own 1983 1 [.int .u8 7, .int .u8 20, .int .u8 6, .int .u8 2, .int .u8 0, .int .u8 3, .int .u8 102, .int .u8 101, .int .u8 101, .int .u8 5, .int .u8 1, .int .u8 0, .int .u8 199, .int .u8 1]]
def b61 : Box := .cells [.own 768 1 [.int .u8 7, .int .u8 20, .int .u8 6, .int .u8 2, .int .u8 0, .int .u8 3, .int .u8 102, .int .u8 101, .int .u8 101, .int .u8 5, .int .u8 1, .int .u8 0, .int .u8 199, .int .u8 1]]
def b62 : Box := .cells [.own 704 1 [.int .u8 7, .int .u8 20, .int .u8 6, .int .u8 2, .int .u8 0, .int .u8 3, .int .u8 102, .int .u8 101, .int .u8 101, .int .u8 5, .int .u8 1, .int .u8 0, .int .u8 199, .int .u8 1]]
def b63 : Box := .cells [.own 0 1 [.int .u8 7, .int .u8 20, .int .u8 6, .int .u8 2, .int .u8 0, .int .u8 3, .int .u8 102, .int .u8 101, .int .u8 101, .int .u8 5, .int .u8 1, .int .u8 0, .int .u8 199, .int .u8 1]]
def b64 : Box := .cells [.own 1983 1 [.int .u8 7, .int .u8 20, .int .u8 6, .int .u8 2, .int .u8 0, .int .u8 3, .int .u8 102, .int .u8 101, .int .u8 101, .int .u8 5, .int .u8 1, .int .u8 0, .int .u8 199, .int .u8 1, .int .u8 2]]
def b65 : Box := .cells [.own 0 1 [.int .u8 7, .int .u8 20, .int .u8 6, .int .u8 2, .int .u8 0, .int .u8 3, .int .u8 102, .int .u8 101, .int .u8 101, .int .u8 5, .int .u8 1, .int .u8 0, .int .u8 199, .int .u8 1, .int .u8 2]]
def b66 : Box := .cells [.own 1983 1 [.int .u8 7, .int .u8 20, .int .u8 6, .int .u8 2, .int .u8 0, .int .u8 3, .int .u8 102, .int .u8 101, .int .u8 101, .int .u8 5, .int .u8 1, .int .u8 0, .int .u8 199, .int .u8 1, .int .u8 2, .int .u8 0]]
def b67 : Box := .cells [.own 768 1 [.int .u8 7, .int .u8 20, .int .u8 6, .int .u8 2, .int .u8 0, .int .u8 3, .int .u8 102, .int .u8 101, .int .u8 101, .int .u8 5, .int .u8 1, .int .u8 0, .int .u8 199, .int .u8 1, .int .u8 2, .int .u8 0]]
def b68 : Box := .cells [.own 0 1 [.int .u8 7, .int .u8 20, .int .u8 6, .int .u8 2, .int .u8 0, .int .u8 3, .int .u8 102, .int .u8 101, .int .u8 101, .int .u8 5, .int .u8 1, .int .u8 0, .int .u8 199, .int .u8 1, .int .u8 2, .int .u8 0]]
def b69 : Box := .cells [.own 1983 1 [.int .u8 7, .int .u8 20, .int .u8 6, .int .u8 2, .int .u8 0, .int .u8 3, .int .u8 102, .int .u8 101, .int .u8 101, .int .u8 5, .int .u8 1, .int .u8 0, .int .u8 199, .int .u8 1, .int .u8 2, .int .u8 0, .int .u8 120]]
def b70 : Box := .cells [.own 768 1 [.int .u8 7, .int .u8 20, .int .u8 6, .int .u8 2, .int .u8 0, .int .u8 3, .int .u8 102, .int .u8 101, .int .u8 101, .int .u8 5, .int .u8 1, .int .u8 0, .int .u8 199, .int .u8 1, .int .u8 2, .int .u8 0, .int .u8 120]]
def b71 : Box := .cells [.own 704 1 [.int .u8 7, .int .u8 20, .int .u8 6, .int .u8 2, .int .u8 0, .int .u8 3, .int .u8 102, .int .u8 101, .int .u8 101, .int .u8 5, .int .u8 1, .int .u8 0, .int .u8 199, .int .u8 1, .int .u8 2, .int .u8 0, .int .u8 120]]
def b72 : Box := .cells [.own 0 1 [.int .u8 7, .int .u8 20, .int .u8 6, .int .u8 2, .int .u8 0, .int .u8 3, .int .u8 102, .int .u8 101, .int .u8 101, .int .u8 5, .int .u8 1, .int .u8 0, .int .u8 199, .int .u8 1, .int .u8 2, .int .u8 0, .int .u8 120]]
def b73 : Box := .cells [.own 1983 1 [.int .u8 7, .int .u8 20, .int .u8 6, .int .u8 2, .int .u8 0, .int .u8 3, .int .u8 102, .int .u8 101, .int .u8 101, .int .u8 5, .int .u8 1, .int .u8 0, .int .u8 199, .int .u8 1, .int .u8 2, .int .u8 0, .int .u8 120, .int .u8 2]]
def b74 : Box := .cells [.own 0 1 [.int .u8 7, .int .u8 20, .int .u8 6, .int .u8 2, .int .u8 0, .int .u8 3, .int .u8 102, .int .u8 101, .int .u8 101, .int .u8 5, .int .u8 1, .int .u8 0, .int .u8 199, .int .u8 1, .int .u8 2, .int .u8 0, .int .u8 120, .int .u8 2]]
def b75 : Box := .cells [.own 1983 1 [.int .u8 7, .int .u8 20, .int .u8 6, .int .u8 2, .int .u8 0, .int .u8 3, .int .u8 102, .int .u8 101, .int .u8 101, .int .u8 5, .int .u8 1, .int .u8 0, .int .u8 199, .int .u8 1, .int .u8 2, .int .u8 0, .int .u8 120, .int .u8 2, .int .u8 0]]
def b76 : Box := .cells [.own 768 1 [.int .u8 7, .int .u8 20, .int .u8 6, .int .u8 2, .int .u8 0, .int .u8 3, .int .u8 102, .int .u8 101, .int .u8 101, .int .u8 5, .int .u8 1, .int .u8 0, .int .u8 199, .int .u8 1, .int .u8 2, .int .u8 0, .int .u8 120, .int .u8 2, .int .u8 0]]
def b77 : Box := .cells [.own 0 1 [.int .u8 7, .int .u8 20, .int .u8 6, .int .u8 2, .int .u8 0, .int .u8 3, .int .u8 102, .int .u8 101, .int .u8 101, .int .u8 5, .int .u8 1, .int .u8 0, .int .u8 199, .int .u8 1, .int .u8 2, .int .u8 0, .int .u8 120, .int .u8 2, .int .u8 0]]
def b78 : Box := .cells [.own 1983 1 [.int .u8 7, .int .u8 20, .int .u8 6, .int .u8 2, .int .u8 0, .int .u8 3, .int .u8 102, .int .u8 101, .int .u8 101, .int .u8 5, .int .u8 1, .int .u8 0, .int .u8 199, .int .u8 1, .int .u8 2, .int .u8 0, .int .u8 120, .int .u8 2, .int .u8 0, .int .u8 80]]
def b79 : Box := .cells [.own 768 1 [.int .u8 7, .int .u8 20, .int .u8 6, .int .u8 2, .int .u8 0, .int .u8 3, .int .u8 102, .int .u8 101, .int .u8 101, .int .u8 5, .int .u8 1, .int .u8 0, .int .u8 199, .int .u8 1, .int .u8 2, .int .u8 0, .int .u8 120, .int .u8 2, .int .u8 0, .int .u8 80]]
def b80 : Box := .cells [.own 704 1 [.int .u8 7, .int .u8 20, .int .u8 6, .int .u8 2, .int .u8 0, .int .u8 3, .int .u8 102, .int .u8 101, .int .u8 101, .int .u8 5, .int .u8 1, .int .u8 0, .int .u8 199, .int .u8 1, .int .u8 2, .int .u8 0, .int .u8 120, .int .u8 2, .int .u8 0, .int .u8 80]]
def b81 : Box := .cells [.own 0 1 [.int .u8 7, .int .u8 20, .int .u8 6, .int .u8 2, .int .u8 0, .int .u8 3, .int .u8 102, .int .u8 101, .int .u8 101, .int .u8 5, .int .u8 1, .int .u8 0, .int .u8 199, .int .u8 1, .int .u8 2, .int .u8 0, .int .u8 120, .int .u8 2, .int .u8 0, .int .u8 80]]
def b82 : Box := .cells [.own 1983 1 [.int .u8 7, .int .u8 20, .int .u8 6, .int .u8 2, .int .u8 0, .int .u8 3, .int .u8 102, .int .u8 101, .int .u8 101, .int .u8 5, .int .u8 1, .int .u8 0, .int .u8 199, .int .u8 1, .int .u8 2, .int .u8 0, .int .u8 120, .int .u8 2, .int .u8 0, .int .u8 80, .int .u8 1]]
def b83 : Box := .cells [.own 0 1 [.int .u8 7, .int .u8 20, .int .u8 6, .int .u8 2, .int .u8 0, .int .u8 3, .int .u8 102, .int .u8 101, .int .u8 101, .int .u8 5, .int .u8 1, .int .u8 0, .int .u8 199, .int .u8 1, .int .u8 2, .int .u8 0, .int .u8 120, .int .u8 2, .int .u8 0, .int .u8 80, .int .u8 1]]
def b84 : Box := .cells [.own 1983 1 [.int .u8 7, .int .u8 20, .int .u8 6, .int .u8 2, .int .u8 0, .int .u8 3, .int .u8 102, .int .u8 101, .int .u8 101, .int .u8 5, .int .u8 1, .int .u8 0, .int .u8 199, .int .u8 1, .int .u8 2, .int .u8 0, .int .u8 120, .int .u8 2, .int .u8 0, .int .u8 80, .int .u8 1, .int .u8 2]]
def b85 : Box := .cells [.own 768 1 [.int .u8 7, .int .u8 20, .int .u8 6, .int .u8 2, .int .u8 0, .int .u8 3, .int .u8 102, .int .u8 101, .int .u8 101, .int .u8 5, .int .u8 1, .int .u8 0, .int .u8 199, .int .u8 1, .int .u8 2, .int .u8 0, .int .u8 120, .int .u8 2, .int .u8 0, .int .u8 80, .int .u8 1, .int .u8 2]]
def b86 : Box := .cells [.own 0 1 [.int .u8 7, .int .u8 20, .int .u8 6, .int .u8 2, .int .u8 0, .int .u8 3, .int .u8 102, .int .u8 101, .int .u8 101, .int .u8 5, .int .u8 1, .int .u8 0, .int .u8 199, .int .u8 1, .int .u8 2, .int .u8 0, .int .u8 120, .int .u8 2, .int .u8 0, .int .u8 80, .int .u8 1, .int .u8 2]]
def b87 : Box := .cells [.own 1983 1 [.int .u8 7, .int .u8 20, .int .u8 6, .int .u8 2, .int .u8 0, .int .u8 3, .int .u8 102, .int .u8 101, .int .u8 101, .int .u8 5, .int .u8 1, .int .u8 0, .int .u8 199, .int .u8 1, .int .u8 2, .int .u8 0, .int .u8 120, .int .u8 2, .int .u8 0, .int .u8 80, .int .u8 1, .int .u8 2, .int .u8 10]]
def b88 : Box := .cells [.own 768 1 [.int .u8 7, .int .u8 20, .int .u8 6, .int .u8 2, .int .u8 0, .int .u8 3, .int .u8 102, .int .u8 101, .int .u8 101, .int .u8 5, .int .u8 1, .int .u8 0, .int .u8 199, .int .u8 1, .int .u8 2, .int .u8 0, .int .u8 120, .int .u8 2, .int .u8 0, .int .u8 80, .int .u8 1, .int .u8 2, .int .u8 10]]
def b89 : Box := .cells [.own 704 1 [.int .u8 7, .int .u8 20, .int .u8 6, .int .u8 2, .int .u8 0, .int .u8 3, .int .u8 102, .int .u8 101, .int .u8 101, .int .u8 5, .int .u8 1, .int .u8 0, .int .u8 199, .int .u8 1, .int .u8 2, .int .u8 0, .int .u8 120, .int .u8 2, .int .u8 0, .int .u8 80, .int .u8 1, .int .u8 2, .int .u8 10]]
def b90 : Box := .cells [.own 0 1 [.int .u8 7, .int .u8 20, .int .u8 6, .int .u8 2, .int .u8 0, .int .u8 3, .int .u8 102, .int .u8 101, .int .u8 101, .int .u8 5, .int .u8 1, .int .u8 0, .int .u8 199, .int .u8 1, .int .u8 2, .int .u8 0, .int .u8 120, .int .u8 2, .int .u8 0, .int .u8 80, .int .u8 1, .int .u8 2, .int .u8 10]]
def b91 : Box := .cells [.own 1983 1 [.int .u8 7, .int .u8 20, .int .u8 6, .int .u8 2, .int .u8 0, .int .u8 3, .int .u8 102, .int .u8 101, .int .u8 101, .int .u8 5, .int .u8 1, .int .u8 0, .int .u8 199, .int .u8 1, .int .u8 2, .int .u8 0, .int .u8 120, .int .u8 2, .int .u8 0, .int .u8 80, .int .u8 1, .int .u8 2, .int .u8 10, .int .u8 2]]
def b92 : Box := .cells [.own 0 1 [.int .u8 7, .int .u8 20, .int .u8 6, .int .u8 2, .int .u8 0, .int .u8 3, .int .u8 102, .int .u8 101, .int .u8 101, .int .u8 5, .int .u8 1, .int .u8 0, .int .u8 199, .int .u8 1, .int .u8 2, .int .u8 0, .int .u8 120, .int .u8 2, .int .u8 0, .int .u8 80, .int .u8 1, .int .u8 2, .int .u8 10, .int .u8 2]]
def b93 : Box := .cells [.own 1983 1 [.int .u8 7, .int .u8 20, .int .u8 6, .int .u8 2, .int .u8 0, .int .u8 3, .int .u8 102, .int .u8 101, .int .u8 101, .int .u8 5, .int .u8 1, .int .u8 0, .int .u8 199, .int .u8 1, .int .u8 2, .int .u8 0, .int .u8 120, .int .u8 2, .int .u8 0, .int .u8 80, .int .u8 1, .int .u8 2, .int .u8 10, .int .u8 2, .int .u8 2]]
def b94 : Box := .cells [.own 768 1 [.int .u8 7, .int .u8 20, .int .u8 6, .int .u8 2, .int .u8 0, .int .u8 3, .int .u8 102, .int .u8 101, .int .u8 101, .int .u8 5, .int .u8 1, .int .u8 0, .int .u8 199, .int .u8 1, .int .u8 2, .int .u8 0, .int .u8 120, .int .u8 2, .int .u8 0, .int .u8 80, .int .u8 1, .int .u8 2, .int .u8 10, .int .u8 2, .int .u8 2]]
def b95 : Box := .cells [.own 0 1 [.int .u8 7, .int .u8 20, .int .u8 6, .int .u8 2, .int .u8 0, .int .u8 3, .int .u8 102, .int .u8 101, .int .u8 101, .int .u8 5, .int .u8 1, .int .u8 0, .int .u8 199, .int .u8 1, .int .u8 2, .int .u8 0, .int .u8 120, .int .u8 2, .int .u8 0, .int .u8 80, .int .u8 1, .int .u8 2, .int .u8 10, .int .u8 2, .int .u8 2]]
def b96 : Box := .cells [.own 1983 1 [.int .u8 7, .int .u8 20, .int .u8 6, .int .u8 2, .int .u8 0, .int .u8 3, .int .u8 102, .int .u8 101, .int .u8 101, .int .u8 5, .int .u8 1, .int .u8 0, .int .u8 199, .int .u8 1, .int .u8 2, .int .u8 0, .int .u8 120, .int .u8 2, .int .u8 0, .int .u8 80, .int .u8 1, .int .u8 2, .int .u8 10, .int .u8 2, .int .u8 2, .int .u8 9]]
def b97 : Box := .cells [.own 768 1 [.int .u8 7, .int .u8 20, .int .u8 6, .int .u8 2, .int .u8 0, .int .u8 3, .int .u8 102, .int .u8 101, .int .u8 101, .int .u8 5, .int .u8 1, .int .u8 0, .int .u8 199, .int .u8 1, .int .u8 2, .int .u8 0, .int .u8 120, .int .u8 2, .int .u8 0, .int .u8 80, .int .u8 1, .int .u8 2, .int .u8 10, .int .u8 2, .int .u8 2, .int .u8 9]]
def b98 : Box := .cells [.own 704 1 [.int .u8 7, .int .u8 20, .int .u8 6, .int .u8 2, .int .u8 0, .int .u8 3, .int .u8 102, .int .u8 101, .int .u8 101, .int .u8 5, .int .u8 1, .int .u8 0, .int .u8 199, .int .u8 1, .int .u8 2, .int .u8 0, .int .u8 120, .int .u8 2, .int .u8 0, .int .u8 80, .int .u8 1, .int .u8 2, .int .u8 10, .int .u8 2, .int .u8 2, .int .u8 9]]
def b99 : Box := .cells [.own 0 1 [.int .u8 7, .int .u8 20, .int .u8 6, .int .u8 2, .int .u8 0, .int .u8 3, .int .u8 102, .int .u8 101, .int .u8 101, .int .u8 5, .int .u8 1, .int .u8 0, .int .u8 199, .int .u8 1, .int .u8 2, .int .u8 0, .int .u8 120, .int .u8 2, .int .u8 0, .int .u8 80, .int .u8 1, .int .u8 2, .int .u8 10, .int .u8 2, .int .u8 2, .int .u8 9]]
def b100 : Box := .cells [.pv (.str [7, 20, 6, 2, 0, 3, 102, 101, 101, 5, 1, 0, 199, 1, 2, 0, 120, 2, 0, 80, 1, 2, 10, 2, 2, 9]), .pv (.int .i64 0)]
def b101 : Box := .cells [.pv (.str [20, 6, 2, 0, 3, 102, 101, 101, 5, 1, 0, 199, 1, 2, 0, 120, 2, 0, 80, 1, 2, 10, 2, 2, 9]), .pv (.int .i64 0)]
def b102 : Box := .cells [.pv (.str [6, 2, 0, 3, 102, 101, 101, 5, 1, 0, 199, 1, 2, 0, 120, 2, 0, 80, 1, 2, 10, 2, 2, 9]), .pv (.int .i64 0)]
def b103 : Box := .cells [.pv (.str [2, 0, 3, 102, 101, 101, 5, 1, 0, 199, 1, 2, 0, 120, 2, 0, 80, 1, 2, 10, 2, 2, 9]), .pv (.int .i64 0)]
def b104 : Box := .cells [.pv (.str [0, 3, 102, 101, 101, 5, 1, 0, 199, 1, 2, 0, 120, 2, 0, 80, 1, 2, 10, 2, 2, 9]), .pv (.int .i64 0)]
def b105 : Box := .cells [.pv (.str [3, 102, 101, 101, 5, 1, 0, 199, 1, 2, 0, 120, 2, 0, 80, 1, 2, 10, 2, 2, 9]), .pv (.int .i64 0)]
def b106 : Box := .cells [.pv (.int .i64 32)]
def b107 : Box := .cells [.pv (.str [5, 1, 0, 199, 1, 2, 0, 120, 2, 0, 80, 1, 2, 10, 2, 2, 9]), .pv (.int .i64 0)]
def b108 : Box := .cells [.pv (.int .i64 16)]
def b109 : Box := .cells [.pv (.str [1, 0, 199, 1, 2, 0, 120, 2, 0, 80, 1, 2, 10, 2, 2, 9]), .pv (.int .i64 0)]
def b110 : Box := .cells [.pv (.str [0, 199, 1, 2, 0, 120, 2, 0, 80, 1, 2, 10, 2, 2, 9]), .pv (.int .i64 0)]
def b111 : Box := .cells [.pv (.str [2, 0, 120, 2, 0, 80, 1, 2, 10, 2, 2, 9]), .pv (.int .i64 0)]
def b112 : Box := .cells [.pv (.str [0, 120, 2, 0, 80, 1, 2, 10, 2, 2, 9]), .pv (.int .i64 0)]
def b113 : Box := .cells [.pv (.str [2, 0, 80, 1, 2, 10, 2, 2, 9]), .pv (.int .i64 0)]
def b114 : Box := .cells [.pv (.str [0, 80, 1, 2, 10, 2, 2, 9]), .pv (.int .i64 0)]
def b115 : Box := .cells [.pv (.str [1, 2, 10, 2, 2, 9]), .pv (.int .i64 0)]
def b116 : Box := .cells [.pv (.str [2, 10, 2, 2, 9]), .pv (.int .i64 0)]
def b117 : Box := .cells [.pv (.str [2, 2, 9]), .pv (.int .i64 0)]
def b118 : Box := .cells [.pv (.str [2, 9]), .pv (.int .i64 0)]
def b119 : Box := .cells [.pv (.str []), .pv (.int .i64 0)]
def w120 : PV := .sl .shut 3 [w0, w1, w2, w3, w4]
def u121 : AV := .agg [.pv (.int .i64 7), .pv (.int .i32 10), .pv (.int .i32 3), .pv (w120), .pv (.int .i64 0), .pv (.int .i64 2), .pv (.str [102, 101, 101])]
def b122 : Box := .cells [.pv (.int .i64 7), .pv (.int .i32 10), .pv (.int .i32 3), .pv (w120), .pv (.int .i64 0), .pv (.int .i64 2), .pv (.str [102, 101, 101])]
def u123 : AV := .agg [.pv (.int .i64 7), .pv (.int .i32 10), .pv (.int .i32 3), .own 2751 3 [w0, w1, w2, w3, w4], .pv (.int .i64 0), .pv (.int .i64 2), .pv (.str [102, 101, 101])]
def u124 : AV := .agg [.pv (.int .i64 0), .pv (.int .i32 0), .pv (.int .i32 0), .pv (w36), .pv (.int .i64 0), .pv (.int .i64 0), .pv (.str [])]
def b125 : Box := .cells [.pv (.str [7, 20, 6, 2, 0, 3, 102, 101, 101, 5, 1, 0, 199, 1, 2, 0, 120, 2, 0, 80, 1, 2, 10, 2, 2, 9, 97]), .pv (.int .i64 0)]
def b126 : Box := .cells [.pv (.str [20, 6, 2, 0, 3, 102, 101, 101, 5, 1, 0, 199, 1, 2, 0, 120, 2, 0, 80, 1, 2, 10, 2, 2, 9, 97]), .pv (.int .i64 0)]
def b127 : Box := .cells [.pv (.str [6, 2, 0, 3, 102, 101, 101, 5, 1, 0, 199, 1, 2, 0, 120, 2, 0, 80, 1, 2, 10, 2, 2, 9, 97]), .pv (.int .i64 0)]
def b128 : Box := .cells [.pv (.str [2, 0, 3, 102, 101, 101, 5, 1, 0, 199, 1, 2, 0, 120, 2, 0, 80, 1, 2, 10, 2, 2, 9, 97]), .pv (.int .i64 0)]
def b129 : Box := .cells [.pv (.str [0, 3, 102, 101, 101, 5, 1, 0, 199, 1, 2, 0, 120, 2, 0, 80, 1, 2, 10, 2, 2, 9, 97]), .pv (.int .i64 0)]
def b130 : Box := .cells [.pv (.str [3, 102, 101, 101, 5, 1, 0, 199, 1, 2, 0, 120, 2, 0, 80, 1, 2, 10, 2, 2, 9, 97]), .pv (.int .i64 0)]
def b131 : Box := .cells [.pv (.str [5, 1, 0, 199, 1, 2, 0, 120, 2, 0, 80, 1, 2, 10, 2, 2, 9, 97]), .pv (.int .i64 0)]
def b132 : Box := .cells [.pv (.str [1, 0, 199, 1, 2, 0, 120, 2, 0, 80, 1, 2, 10, 2, 2, 9, 97]), .pv (.int .i64 0)]
def b133 : Box := .cells [.pv (.str [0, 199, 1, 2, 0, 120, 2, 0, 80, 1, 2, 10, 2, 2, 9, 97]), .pv (.int .i64 0)]
def b134 : Box := .cells [.pv (.str [2, 0, 120, 2, 0, 80, 1, 2, 10, 2, 2, 9, 97]), .pv (.int .i64 0)]
def b135 : Box := .cells [.pv (.str [0, 120, 2, 0, 80, 1, 2, 10, 2, 2, 9, 97]), .pv (.int .i64 0)]
def b136 : Box := .cells [.pv (.str [2, 0, 80, 1, 2, 10, 2, 2, 9, 97]), .pv (.int .i64 0)]
def b137 : Box := .cells [.pv (.str [0, 80, 1, 2, 10, 2, 2, 9, 97]), .pv (.int .i64 0)]
def b138 : Box := .cells [.pv (.str [1, 2, 10, 2, 2, 9, 97]), .pv (.int .i64 0)]
def b139 : Box := .cells [.pv (.str [2, 10, 2, 2, 9, 97]), .pv (.int .i64 0)]
def b140 : Box := .cells [.pv (.str [2, 2, 9, 97]), .pv (.int .i64 0)]
def b141 : Box := .cells [.pv (.str [2, 9, 97]), .pv (.int .i64 0)]
def b142 : Box := .cells [.pv (.str [97]), .pv (.int .i64 0)]
def w143 : PV := .sl .shut 3 [w0, w1, w2, w3]
def u144 : AV := .agg [.pv (.int .i64 7), .pv (.int .i32 10), .pv (.int .i32 3), .pv (w143), .pv (.int .i64 0), .pv (.int .i64 2), .pv (.str [102, 101, 101])]
def b145 : Box := .cells [.pv (.int .i64 7), .pv (.int .i32 10), .pv (.int .i32 3), .pv (w143), .pv (.int .i64 0), .pv (.int .i64 2), .pv (.str [102, 101, 101])]
def t0 : Fact := ⟨86, [], [], (u6, [])⟩
theorem t0_ok : Holds (ev X E0) [t0] := ⟨ev_tab (n := 400) (x := xf86) rfl (t := []) (by kernel_rfl) trivial, trivial⟩
def t1 : Fact := ⟨128, [.c (.pv (.int .i32 102))], [], (.c (.pv (.bool false)), [])⟩
theorem t1_ok : Holds (ev X E0) [t1] := ⟨ev_tab (n := 400) (x := xf128) rfl (t := []) (by kernel_rfl) trivial, trivial⟩
def t2 : Fact := ⟨128, [.c (.pv (.int .i32 101))], [], (.c (.pv (.bool false)), [])⟩
theorem t2_ok : Holds (ev X E0) [t2] := ⟨ev_tab (n := 400) (x := xf128) rfl (t := []) (by kernel_rfl) trivial, trivial⟩
def t3 : Fact := ⟨154, [.c (.pv (.str [102, 101, 101])), .c (.fn 128 []), .c (.pv (.bool true))], [], (.c (.pv (.int .i64 (-1))), [])⟩
theorem t3_ok : Holds (ev X E0) [t3] := ⟨ev_tab (n := 400) (x := xf154) rfl (t := [t1, t2]) (by kernel_rfl) ⟨t1_ok.1, t2_ok.1, trivial⟩, trivial⟩
def t4 : Fact := ⟨151, [.c (.pv (.str [102, 101, 101])), .c (.fn 128 [])], [], (.c (.pv (.int .i64 (-1))), [])⟩
theorem t4_ok : Holds (ev X E0) [t4] := ⟨ev_tab (n := 400) (x := xf151) rfl (t := [t3]) (by kernel_rfl) ⟨t3_ok.1, trivial⟩, trivial⟩
def t5 : Fact := ⟨129, [.c (.pv (.str [102, 101, 101])), .c (.fn 128 [])], [], (.c (.pv (.bool false)), [])⟩
theorem t5_ok : Holds (ev X E0) [t5] := ⟨ev_tab (n := 400) (x := xf129) rfl (t := [t4]) (by kernel_rfl) ⟨t4_ok.1, trivial⟩, trivial⟩
def t6 : Fact := ⟨76, [u6], [], (.c (.pv (.bool true)), [])⟩
theorem t6_ok : Holds (ev X E0) [t6] := ⟨ev_tab (n := 400) (x := xf76) rfl (t := [t5]) (by kernel_rfl) ⟨t5_ok.1, trivial⟩, trivial⟩
def t7 : Fact := ⟨77, [.c (.pv (.int .i32 10))], [], (.c (.pv (.bool true)), [])⟩
theorem t7_ok : Holds (ev X E0) [t7] := ⟨ev_tab (n := 400) (x := xf77) rfl (t := []) (by kernel_rfl) trivial, trivial⟩
def t8 : Fact := ⟨77, [.c (.pv (.int .i32 3))], [], (.c (.pv (.bool true)), [])⟩
theorem t8_ok : Holds (ev X E0) [t8] := ⟨ev_tab (n := 400) (x := xf77) rfl (t := []) (by kernel_rfl) trivial, trivial⟩
def t9 : Fact := ⟨78, [u7], [], (.c (.pv (.bool false)), [])⟩
theorem t9_ok : Holds (ev X E0) [t9] := ⟨ev_tab (n := 400) (x := xf78) rfl (t := []) (by kernel_rfl) trivial, trivial⟩
def t10 : Fact := ⟨78, [u8], [], (.c (.pv (.bool false)), [])⟩
theorem t10_ok : Holds (ev X E0) [t10] := ⟨ev_tab (n := 400) (x := xf78) rfl (t := []) (by kernel_rfl) trivial, trivial⟩
def t11 : Fact := ⟨78, [u9], [], (.c (.pv (.bool false)), [])⟩
theorem t11_ok : Holds (ev X E0) [t11] := ⟨ev_tab (n := 400) (x := xf78) rfl (t := []) (by kernel_rfl) trivial, trivial⟩
def t12 : Fact := ⟨78, [u10], [], (.c (.pv (.bool false)), [])⟩
theorem t12_ok : Holds (ev X E0) [t12] := ⟨ev_tab (n := 400) (x := xf78) rfl (t := []) (by kernel_rfl) trivial, trivial⟩
def t13 : Fact := ⟨78, [u11], [], (.c (.pv (.bool false)), [])⟩
theorem t13_ok : Holds (ev X E0) [t13] := ⟨ev_tab (n := 400) (x := xf78) rfl (t := []) (by kernel_rfl) trivial, trivial⟩
def t14 : Fact := ⟨127, [.c (.pv (w5)), .c (.fn 78 [])], [], (.c (.pv (.int .i64 (-1))), [])⟩
theorem t14_ok : Holds (ev X E0) [t14] := ⟨ev_tab (n := 400) (x := xf127) rfl (t := [t9, t10, t11, t12, t13]) (by kernel_rfl) ⟨t9_ok.1, t10_ok.1, t11_ok.1, t12_ok.1, t13_ok.1, trivial⟩, trivial⟩
def t15 : Fact := ⟨75, [.c (.pv (w5)), .c (.fn 78 [])], [], (.c (.pv (.bool false)), [])⟩
theorem t15_ok : Holds (ev X E0) [t15] := ⟨ev_tab (n := 400) (x := xf75) rfl (t := [t14]) (by kernel_rfl) ⟨t14_ok.1, trivial⟩, trivial⟩
def t16 : Fact := ⟨74, [.c (.fn 78 []), .c (.ptr 0 0)], [b12], (.c (.pv (.bool false)), [b12])⟩
theorem t16_ok : Holds (ev X E0) [t16] := ⟨ev_tab (n := 400) (x := xf74) rfl (t := [t15]) (by kernel_rfl) ⟨t15_ok.1, trivial⟩, trivial⟩
def t17 : Fact := ⟨130, [.c (.pv (.int .i64 0))], [], (.c (.pv (.bool true)), [])⟩
theorem t17_ok : Holds (ev X E0) [t17] := ⟨ev_tab (n := 400) (x := xf130) rfl (t := []) (by kernel_rfl) trivial, trivial⟩
def t18 : Fact := ⟨80, [.c (.pv (.int .i64 0))], [], (.c (.pv (.str [69, 85, 82])), [])⟩
theorem t18_ok : Holds (ev X E0) [t18] := ⟨ev_tab (n := 400) (x := xf80) rfl (t := [t17]) (by kernel_rfl) ⟨t17_ok.1, trivial⟩, trivial⟩
def t19 : Fact := ⟨79, [u7], [], (.c (.pv (.bool false)), [])⟩
theorem t19_ok : Holds (ev X E0) [t19] := ⟨ev_tab (n := 400) (x := xf79) rfl (t := [t18]) (by kernel_rfl) ⟨t18_ok.1, trivial⟩, trivial⟩
def t20 : Fact := ⟨79, [u8], [], (.c (.pv (.bool false)), [])⟩
theorem t20_ok : Holds (ev X E0) [t20] := ⟨ev_tab (n := 400) (x := xf79) rfl (t := [t18]) (by kernel_rfl) ⟨t18_ok.1, trivial⟩, trivial⟩
def t21 : Fact := ⟨79, [u9], [], (.c (.pv (.bool false)), [])⟩
theorem t21_ok : Holds (ev X E0) [t21] := ⟨ev_tab (n := 400) (x := xf79) rfl (t := [t18]) (by kernel_rfl) ⟨t18_ok.1, trivial⟩, trivial⟩
def t22 : Fact := ⟨130, [.c (.pv (.int .i64 1))], [], (.c (.pv (.bool true)), [])⟩
theorem t22_ok : Holds (ev X E0) [t22] := ⟨ev_tab (n := 400) (x := xf130) rfl (t := []) (by kernel_rfl) trivial, trivial⟩
def t23 : Fact := ⟨80, [.c (.pv (.int .i64 1))], [], (.c (.pv (.str [74, 80, 89])), [])⟩
theorem t23_ok : Holds (ev X E0) [t23] := ⟨ev_tab (n := 400) (x := xf80) rfl (t := [t22]) (by kernel_rfl) ⟨t22_ok.1, trivial⟩, trivial⟩
def t24 : Fact := ⟨79, [u10], [], (.c (.pv (.bool false)), [])⟩
theorem t24_ok : Holds (ev X E0) [t24] := ⟨ev_tab (n := 400) (x := xf79) rfl (t := [t23]) (by kernel_rfl) ⟨t23_ok.1, trivial⟩, trivial⟩
def t25 : Fact := ⟨79, [u11], [], (.c (.pv (.bool false)), [])⟩
theorem t25_ok : Holds (ev X E0) [t25] := ⟨ev_tab (n := 400) (x := xf79) rfl (t := [t23]) (by kernel_rfl) ⟨t23_ok.1, trivial⟩, trivial⟩
def t26 : Fact := ⟨127, [.c (.pv (w5)), .c (.fn 79 [])], [], (.c (.pv (.int .i64 (-1))), [])⟩
theorem t26_ok : Holds (ev X E0) [t26] := ⟨ev_tab (n := 400) (x := xf127) rfl (t := [t19, t20, t21, t24, t25]) (by kernel_rfl) ⟨t19_ok.1, t20_ok.1, t21_ok.1, t24_ok.1, t25_ok.1, trivial⟩, trivial⟩
def t27 : Fact := ⟨75, [.c (.pv (w5)), .c (.fn 79 [])], [], (.c (.pv (.bool false)), [])⟩
theorem t27_ok : Holds (ev X E0) [t27] := ⟨ev_tab (n := 400) (x := xf75) rfl (t := [t26]) (by kernel_rfl) ⟨t26_ok.1, trivial⟩, trivial⟩
def t28 : Fact := ⟨74, [.c (.fn 79 []), .c (.ptr 0 0)], [b12], (.c (.pv (.bool false)), [b12])⟩
theorem t28_ok : Holds (ev X E0) [t28] := ⟨ev_tab (n := 400) (x := xf74) rfl (t := [t27]) (by kernel_rfl) ⟨t27_ok.1, trivial⟩, trivial⟩
def t29 : Fact := ⟨82, [u13], [], (.c (.pv (.bool true)), [])⟩
theorem t29_ok : Holds (ev X E0) [t29] := ⟨ev_tab (n := 400) (x := xf82) rfl (t := [t17]) (by kernel_rfl) ⟨t17_ok.1, trivial⟩, trivial⟩
def t30 : Fact := ⟨81, [u7], [], (.c (.pv (.bool false)), [])⟩
theorem t30_ok : Holds (ev X E0) [t30] := ⟨ev_tab (n := 400) (x := xf81) rfl (t := [t29]) (by kernel_rfl) ⟨t29_ok.1, trivial⟩, trivial⟩
def t31 : Fact := ⟨82, [u14], [], (.c (.pv (.bool true)), [])⟩
theorem t31_ok : Holds (ev X E0) [t31] := ⟨ev_tab (n := 400) (x := xf82) rfl (t := [t17]) (by kernel_rfl) ⟨t17_ok.1, trivial⟩, trivial⟩
def t32 : Fact := ⟨81, [u8], [], (.c (.pv (.bool false)), [])⟩
theorem t32_ok : Holds (ev X E0) [t32] := ⟨ev_tab (n := 400) (x := xf81) rfl (t := [t31]) (by kernel_rfl) ⟨t31_ok.1, trivial⟩, trivial⟩
def t33 : Fact := ⟨82, [u15], [], (.c (.pv (.bool true)), [])⟩
theorem t33_ok : Holds (ev X E0) [t33] := ⟨ev_tab (n := 400) (x := xf82) rfl (t := [t17]) (by kernel_rfl) ⟨t17_ok.1, trivial⟩, trivial⟩
def t34 : Fact := ⟨81, [u9], [], (.c (.pv (.bool false)), [])⟩
theorem t34_ok : Holds (ev X E0) [t34] := ⟨ev_tab (n := 400) (x := xf81) rfl (t := [t33]) (by kernel_rfl) ⟨t33_ok.1, trivial⟩, trivial⟩
def t35 : Fact := ⟨82, [u16], [], (.c (.pv (.bool true)), [])⟩
theorem t35_ok : Holds (ev X E0) [t35] := ⟨ev_tab (n := 400) (x := xf82) rfl (t := [t22]) (by kernel_rfl) ⟨t22_ok.1, trivial⟩, trivial⟩
def t36 : Fact := ⟨81, [u10], [], (.c (.pv (.bool false)), [])⟩
theorem t36_ok : Holds (ev X E0) [t36] := ⟨ev_tab (n := 400) (x := xf81) rfl (t := [t35]) (by kernel_rfl) ⟨t35_ok.1, trivial⟩, trivial⟩
def t37 : Fact := ⟨82, [u17], [], (.c (.pv (.bool true)), [])⟩
theorem t37_ok : Holds (ev X E0) [t37] := ⟨ev_tab (n := 400) (x := xf82) rfl (t := [t22]) (by kernel_rfl) ⟨t22_ok.1, trivial⟩, trivial⟩
def t38 : Fact := ⟨81, [u11], [], (.c (.pv (.bool false)), [])⟩
theorem t38_ok : Holds (ev X E0) [t38] := ⟨ev_tab (n := 400) (x := xf81) rfl (t := [t37]) (by kernel_rfl) ⟨t37_ok.1, trivial⟩, trivial⟩
def t39 : Fact := ⟨127, [.c (.pv (w5)), .c (.fn 81 [])], [], (.c (.pv (.int .i64 (-1))), [])⟩
theorem t39_ok : Holds (ev X E0) [t39] := ⟨ev_tab (n := 400) (x := xf127) rfl (t := [t30, t32, t34, t36, t38]) (by kernel_rfl) ⟨t30_ok.1, t32_ok.1, t34_ok.1, t36_ok.1, t38_ok.1, trivial⟩, trivial⟩
def t40 : Fact := ⟨75, [.c (.pv (w5)), .c (.fn 81 [])], [], (.c (.pv (.bool false)), [])⟩
theorem t40_ok : Holds (ev X E0) [t40] := ⟨ev_tab (n := 400) (x := xf75) rfl (t := [t39]) (by kernel_rfl) ⟨t39_ok.1, trivial⟩, trivial⟩
def t41 : Fact := ⟨74, [.c (.fn 81 []), .c (.ptr 0 0)], [b12], (.c (.pv (.bool false)), [b12])⟩
theorem t41_ok : Holds (ev X E0) [t41] := ⟨ev_tab (n := 400) (x := xf74) rfl (t := [t40]) (by kernel_rfl) ⟨t40_ok.1, trivial⟩, trivial⟩
def t42 : Fact := ⟨83, [u7], [], (.c (.pv (.bool false)), [])⟩
theorem t42_ok : Holds (ev X E0) [t42] := ⟨ev_tab (n := 400) (x := xf83) rfl (t := []) (by kernel_rfl) trivial, trivial⟩
def t43 : Fact := ⟨83, [u8], [], (.c (.pv (.bool false)), [])⟩
theorem t43_ok : Holds (ev X E0) [t43] := ⟨ev_tab (n := 400) (x := xf83) rfl (t := []) (by kernel_rfl) trivial, trivial⟩
def t44 : Fact := ⟨83, [u9], [], (.c (.pv (.bool false)), [])⟩
theorem t44_ok : Holds (ev X E0) [t44] := ⟨ev_tab (n := 400) (x := xf83) rfl (t := []) (by kernel_rfl) trivial, trivial⟩
def t45 : Fact := ⟨83, [u10], [], (.c (.pv (.bool false)), [])⟩
theorem t45_ok : Holds (ev X E0) [t45] := ⟨ev_tab (n := 400) (x := xf83) rfl (t := []) (by kernel_rfl) trivial, trivial⟩
def t46 : Fact := ⟨83, [u11], [], (.c (.pv (.bool false)), [])⟩
theorem t46_ok : Holds (ev X E0) [t46] := ⟨ev_tab (n := 400) (x := xf83) rfl (t := []) (by kernel_rfl) trivial, trivial⟩
def t47 : Fact := ⟨127, [.c (.pv (w5)), .c (.fn 83 [])], [], (.c (.pv (.int .i64 (-1))), [])⟩
theorem t47_ok : Holds (ev X E0) [t47] := ⟨ev_tab (n := 400) (x := xf127) rfl (t := [t42, t43, t44, t45, t46]) (by kernel_rfl) ⟨t42_ok.1, t43_ok.1, t44_ok.1, t45_ok.1, t46_ok.1, trivial⟩, trivial⟩
def t48 : Fact := ⟨75, [.c (.pv (w5)), .c (.fn 83 [])], [], (.c (.pv (.bool false)), [])⟩
theorem t48_ok : Holds (ev X E0) [t48] := ⟨ev_tab (n := 400) (x := xf75) rfl (t := [t47]) (by kernel_rfl) ⟨t47_ok.1, trivial⟩, trivial⟩
def t49 : Fact := ⟨74, [.c (.fn 83 []), .c (.ptr 0 0)], [b12], (.c (.pv (.bool false)), [b12])⟩
theorem t49_ok : Holds (ev X E0) [t49] := ⟨ev_tab (n := 400) (x := xf74) rfl (t := [t48]) (by kernel_rfl) ⟨t48_ok.1, trivial⟩, trivial⟩
def t50 : Fact := ⟨84, [.c (.pv (w5))], [], (.c (.pv (.bool true)), [])⟩
theorem t50_ok : Holds (ev X E0) [t50] := ⟨ev_tab (n := 400) (x := xf84) rfl (t := []) (by kernel_rfl) trivial, trivial⟩
def t51 : Fact := ⟨37, [u6], [], (.c (.pv (.int .i64 0)), [])⟩
theorem t51_ok : Holds (ev X E0) [t51] := ⟨ev_tab (n := 400) (x := xf37) rfl (t := [t6, t7, t8, t16, t28, t41, t49, t50]) (by kernel_rfl) ⟨t6_ok.1, t7_ok.1, t8_ok.1, t16_ok.1, t28_ok.1, t41_ok.1, t49_ok.1, t50_ok.1, trivial⟩, trivial⟩
def t52 : Fact := ⟨85, [.c (.pv (w5))], [], (.c (.own 511 3 [w0, w1, w2, w3, w4]), [])⟩
theorem t52_ok : Holds (ev X E0) [t52] := ⟨ev_tab (n := 400) (x := xf85) rfl (t := []) (by kernel_rfl) trivial, trivial⟩
def t53 : Fact := ⟨76, [u24], [], (.c (.pv (.bool true)), [])⟩
theorem t53_ok : Holds (ev X E0) [t53] := ⟨ev_tab (n := 400) (x := xf76) rfl (t := [t5]) (by kernel_rfl) ⟨t5_ok.1, trivial⟩, trivial⟩
def t54 : Fact := ⟨78, [u25], [], (.c (.pv (.bool false)), [])⟩
theorem t54_ok : Holds (ev X E0) [t54] := ⟨ev_tab (n := 400) (x := xf78) rfl (t := []) (by kernel_rfl) trivial, trivial⟩
def t55 : Fact := ⟨78, [u26], [], (.c (.pv (.bool false)), [])⟩
theorem t55_ok : Holds (ev X E0) [t55] := ⟨ev_tab (n := 400) (x := xf78) rfl (t := []) (by kernel_rfl) trivial, trivial⟩
def t56 : Fact := ⟨78, [u27], [], (.c (.pv (.bool false)), [])⟩
theorem t56_ok : Holds (ev X E0) [t56] := ⟨ev_tab (n := 400) (x := xf78) rfl (t := []) (by kernel_rfl) trivial, trivial⟩
def t57 : Fact := ⟨78, [u28], [], (.c (.pv (.bool false)), [])⟩
theorem t57_ok : Holds (ev X E0) [t57] := ⟨ev_tab (n := 400) (x := xf78) rfl (t := []) (by kernel_rfl) trivial, trivial⟩
def t58 : Fact := ⟨78, [u29], [], (.c (.pv (.bool false)), [])⟩
theorem t58_ok : Holds (ev X E0) [t58] := ⟨ev_tab (n := 400) (x := xf78) rfl (t := []) (by kernel_rfl) trivial, trivial⟩
def t59 : Fact := ⟨127, [.c (.pv (w23)), .c (.fn 78 [])], [], (.c (.pv (.int .i64 (-1))), [])⟩
theorem t59_ok : Holds (ev X E0) [t59] := ⟨ev_tab (n := 400) (x := xf127) rfl (t := [t54, t55, t56, t57, t58]) (by kernel_rfl) ⟨t54_ok.1, t55_ok.1, t56_ok.1, t57_ok.1, t58_ok.1, trivial⟩, trivial⟩
def t60 : Fact := ⟨75, [.c (.pv (w23)), .c (.fn 78 [])], [], (.c (.pv (.bool false)), [])⟩
theorem t60_ok : Holds (ev X E0) [t60] := ⟨ev_tab (n := 400) (x := xf75) rfl (t := [t59]) (by kernel_rfl) ⟨t59_ok.1, trivial⟩, trivial⟩
def t61 : Fact := ⟨74, [.c (.fn 78 []), .c (.ptr 0 0)], [b30], (.c (.pv (.bool false)), [b30])⟩
theorem t61_ok : Holds (ev X E0) [t61] := ⟨ev_tab (n := 400) (x := xf74) rfl (t := [t60]) (by kernel_rfl) ⟨t60_ok.1, trivial⟩, trivial⟩
def t62 : Fact := ⟨79, [u25], [], (.c (.pv (.bool false)), [])⟩
theorem t62_ok : Holds (ev X E0) [t62] := ⟨ev_tab (n := 400) (x := xf79) rfl (t := [t18]) (by kernel_rfl) ⟨t18_ok.1, trivial⟩, trivial⟩
def t63 : Fact := ⟨79, [u26], [], (.c (.pv (.bool false)), [])⟩
theorem t63_ok : Holds (ev X E0) [t63] := ⟨ev_tab (n := 400) (x := xf79) rfl (t := [t18]) (by kernel_rfl) ⟨t18_ok.1, trivial⟩, trivial⟩
def t64 : Fact := ⟨79, [u27], [], (.c (.pv (.bool false)), [])⟩
theorem t64_ok : Holds (ev X E0) [t64] := ⟨ev_tab (n := 400) (x := xf79) rfl (t := [t18]) (by kernel_rfl) ⟨t18_ok.1, trivial⟩, trivial⟩
def t65 : Fact := ⟨79, [u28], [], (.c (.pv (.bool false)), [])⟩
theorem t65_ok : Holds (ev X E0) [t65] := ⟨ev_tab (n := 400) (x := xf79) rfl (t := [t23]) (by kernel_rfl) ⟨t23_ok.1, trivial⟩, trivial⟩
def t66 : Fact := ⟨79, [u29], [], (.c (.pv (.bool false)), [])⟩
theorem t66_ok : Holds (ev X E0) [t66] := ⟨ev_tab (n := 400) (x := xf79) rfl (t := [t23]) (by kernel_rfl) ⟨t23_ok.1, trivial⟩, trivial⟩
def t67 : Fact := ⟨127, [.c (.pv (w23)), .c (.fn 79 [])], [], (.c (.pv (.int .i64 (-1))), [])⟩
theorem t67_ok : Holds (ev X E0) [t67] := ⟨ev_tab (n := 400) (x := xf127) rfl (t := [t62, t63, t64, t65, t66]) (by kernel_rfl) ⟨t62_ok.1, t63_ok.1, t64_ok.1, t65_ok.1, t66_ok.1, trivial⟩, trivial⟩
def t68 : Fact := ⟨75, [.c (.pv (w23)), .c (.fn 79 [])], [], (.c (.pv (.bool false)), [])⟩
theorem t68_ok : Holds (ev X E0) [t68] := ⟨ev_tab (n := 400) (x := xf75) rfl (t := [t67]) (by kernel_rfl) ⟨t67_ok.1, trivial⟩, trivial⟩
def t69 : Fact := ⟨74, [.c (.fn 79 []), .c (.ptr 0 0)], [b30], (.c (.pv (.bool false)), [b30])⟩
theorem t69_ok : Holds (ev X E0) [t69] := ⟨ev_tab (n := 400) (x := xf74) rfl (t := [t68]) (by kernel_rfl) ⟨t68_ok.1, trivial⟩, trivial⟩
def t70 : Fact := ⟨82, [u31], [], (.c (.pv (.bool true)), [])⟩
theorem t70_ok : Holds (ev X E0) [t70] := ⟨ev_tab (n := 400) (x := xf82) rfl (t := [t17]) (by kernel_rfl) ⟨t17_ok.1, trivial⟩, trivial⟩
def t71 : Fact := ⟨81, [u25], [], (.c (.pv (.bool false)), [])⟩
theorem t71_ok : Holds (ev X E0) [t71] := ⟨ev_tab (n := 400) (x := xf81) rfl (t := [t70]) (by kernel_rfl) ⟨t70_ok.1, trivial⟩, trivial⟩
def t72 : Fact := ⟨82, [u32], [], (.c (.pv (.bool true)), [])⟩
theorem t72_ok : Holds (ev X E0) [t72] := ⟨ev_tab (n := 400) (x := xf82) rfl (t := [t17]) (by kernel_rfl) ⟨t17_ok.1, trivial⟩, trivial⟩
def t73 : Fact := ⟨81, [u26], [], (.c (.pv (.bool false)), [])⟩
theorem t73_ok : Holds (ev X E0) [t73] := ⟨ev_tab (n := 400) (x := xf81) rfl (t := [t72]) (by kernel_rfl) ⟨t72_ok.1, trivial⟩, trivial⟩
def t74 : Fact := ⟨82, [u33], [], (.c (.pv (.bool true)), [])⟩
theorem t74_ok : Holds (ev X E0) [t74] := ⟨ev_tab (n := 400) (x := xf82) rfl (t := [t17]) (by kernel_rfl) ⟨t17_ok.1, trivial⟩, trivial⟩
def t75 : Fact := ⟨81, [u27], [], (.c (.pv (.bool false)), [])⟩
theorem t75_ok : Holds (ev X E0) [t75] := ⟨ev_tab (n := 400) (x := xf81) rfl (t := [t74]) (by kernel_rfl) ⟨t74_ok.1, trivial⟩, trivial⟩
def t76 : Fact := ⟨81, [u28], [], (.c (.pv (.bool false)), [])⟩
theorem t76_ok : Holds (ev X E0) [t76] := ⟨ev_tab (n := 400) (x := xf81) rfl (t := [t37]) (by kernel_rfl) ⟨t37_ok.1, trivial⟩, trivial⟩
def t77 : Fact := ⟨81, [u29], [], (.c (.pv (.bool false)), [])⟩
theorem t77_ok : Holds (ev X E0) [t77] := ⟨ev_tab (n := 400) (x := xf81) rfl (t := [t35]) (by kernel_rfl) ⟨t35_ok.1, trivial⟩, trivial⟩
def t78 : Fact := ⟨127, [.c (.pv (w23)), .c (.fn 81 [])], [], (.c (.pv (.int .i64 (-1))), [])⟩
theorem t78_ok : Holds (ev X E0) [t78] := ⟨ev_tab (n := 400) (x := xf127) rfl (t := [t71, t73, t75, t76, t77]) (by kernel_rfl) ⟨t71_ok.1, t73_ok.1, t75_ok.1, t76_ok.1, t77_ok.1, trivial⟩, trivial⟩
def t79 : Fact := ⟨75, [.c (.pv (w23)), .c (.fn 81 [])], [], (.c (.pv (.bool false)), [])⟩
theorem t79_ok : Holds (ev X E0) [t79] := ⟨ev_tab (n := 400) (x := xf75) rfl (t := [t78]) (by kernel_rfl) ⟨t78_ok.1, trivial⟩, trivial⟩
def t80 : Fact := ⟨74, [.c (.fn 81 []), .c (.ptr 0 0)], [b30], (.c (.pv (.bool false)), [b30])⟩
theorem t80_ok : Holds (ev X E0) [t80] := ⟨ev_tab (n := 400) (x := xf74) rfl (t := [t79]) (by kernel_rfl) ⟨t79_ok.1, trivial⟩, trivial⟩
def t81 : Fact := ⟨83, [u25], [], (.c (.pv (.bool false)), [])⟩
theorem t81_ok : Holds (ev X E0) [t81] := ⟨ev_tab (n := 400) (x := xf83) rfl (t := []) (by kernel_rfl) trivial, trivial⟩
def t82 : Fact := ⟨83, [u26], [], (.c (.pv (.bool false)), [])⟩
theorem t82_ok : Holds (ev X E0) [t82] := ⟨ev_tab (n := 400) (x := xf83) rfl (t := []) (by kernel_rfl) trivial, trivial⟩
def t83 : Fact := ⟨83, [u27], [], (.c (.pv (.bool false)), [])⟩
theorem t83_ok : Holds (ev X E0) [t83] := ⟨ev_tab (n := 400) (x := xf83) rfl (t := []) (by kernel_rfl) trivial, trivial⟩
def t84 : Fact := ⟨83, [u28], [], (.c (.pv (.bool false)), [])⟩
theorem t84_ok : Holds (ev X E0) [t84] := ⟨ev_tab (n := 400) (x := xf83) rfl (t := []) (by kernel_rfl) trivial, trivial⟩
def t85 : Fact := ⟨83, [u29], [], (.c (.pv (.bool false)), [])⟩
theorem t85_ok : Holds (ev X E0) [t85] := ⟨ev_tab (n := 400) (x := xf83) rfl (t := []) (by kernel_rfl) trivial, trivial⟩
def t86 : Fact := ⟨127, [.c (.pv (w23)), .c (.fn 83 [])], [], (.c (.pv (.int .i64 (-1))), [])⟩
theorem t86_ok : Holds (ev X E0) [t86] := ⟨ev_tab (n := 400) (x := xf127) rfl (t := [t81, t82, t83, t84, t85]) (by kernel_rfl) ⟨t81_ok.1, t82_ok.1, t83_ok.1, t84_ok.1, t85_ok.1, trivial⟩, trivial⟩
def t87 : Fact := ⟨75, [.c (.pv (w23)), .c (.fn 83 [])], [], (.c (.pv (.bool false)), [])⟩
theorem t87_ok : Holds (ev X E0) [t87] := ⟨ev_tab (n := 400) (x := xf75) rfl (t := [t86]) (by kernel_rfl) ⟨t86_ok.1, trivial⟩, trivial⟩
def t88 : Fact := ⟨74, [.c (.fn 83 []), .c (.ptr 0 0)], [b30], (.c (.pv (.bool false)), [b30])⟩
theorem t88_ok : Holds (ev X E0) [t88] := ⟨ev_tab (n := 400) (x := xf74) rfl (t := [t87]) (by kernel_rfl) ⟨t87_ok.1, trivial⟩, trivial⟩
def t89 : Fact := ⟨84, [.c (.pv (w23))], [], (.c (.pv (.bool true)), [])⟩
theorem t89_ok : Holds (ev X E0) [t89] := ⟨ev_tab (n := 400) (x := xf84) rfl (t := []) (by kernel_rfl) trivial, trivial⟩
def t90 : Fact := ⟨37, [u24], [], (.c (.pv (.int .i64 0)), [])⟩
theorem t90_ok : Holds (ev X E0) [t90] := ⟨ev_tab (n := 400) (x := xf37) rfl (t := [t53, t7, t8, t61, t69, t80, t88, t89]) (by kernel_rfl) ⟨t53_ok.1, t7_ok.1, t8_ok.1, t61_ok.1, t69_ok.1, t80_ok.1, t88_ok.1, t89_ok.1, trivial⟩, trivial⟩
def t91 : Fact := ⟨38, [u6, .c (.pv (.int .i64 9)), .c (.pv (.int .i32 10))], [], (.tup [u24, .c (.pv (.int .i64 0))], [])⟩
theorem t91_ok : Holds (ev X E0) [t91] := ⟨ev_tab (n := 400) (x := xf38) rfl (t := [t51, t52, t90]) (by kernel_rfl) ⟨t51_ok.1, t52_ok.1, t90_ok.1, trivial⟩, trivial⟩
def t92 : Fact := ⟨88, [u7, .c (.ptr 0 0), .c (.ptr 1 0)], [b34, b35], (.c (.pv (.bool false)), [b34, b35])⟩
theorem t92_ok : Holds (ev X E0) [t92] := ⟨ev_tab (n := 400) (x := xf88) rfl (t := []) (by kernel_rfl) trivial, trivial⟩
def t93 : Fact := ⟨88, [u8, .c (.ptr 0 0), .c (.ptr 1 0)], [b34, b35], (.c (.pv (.bool true)), [b34, b35])⟩
theorem t93_ok : Holds (ev X E0) [t93] := ⟨ev_tab (n := 400) (x := xf88) rfl (t := []) (by kernel_rfl) trivial, trivial⟩
def t94 : Fact := ⟨88, [u9, .c (.ptr 0 0), .c (.ptr 1 0)], [b34, b35], (.c (.pv (.bool true)), [b34, b35])⟩
theorem t94_ok : Holds (ev X E0) [t94] := ⟨ev_tab (n := 400) (x := xf88) rfl (t := []) (by kernel_rfl) trivial, trivial⟩
def t95 : Fact := ⟨88, [u10, .c (.ptr 0 0), .c (.ptr 1 0)], [b34, b35], (.c (.pv (.bool false)), [b34, b35])⟩
theorem t95_ok : Holds (ev X E0) [t95] := ⟨ev_tab (n := 400) (x := xf88) rfl (t := []) (by kernel_rfl) trivial, trivial⟩
def t96 : Fact := ⟨88, [u11, .c (.ptr 0 0), .c (.ptr 1 0)], [b34, b35], (.c (.pv (.bool false)), [b34, b35])⟩
theorem t96_ok : Holds (ev X E0) [t96] := ⟨ev_tab (n := 400) (x := xf88) rfl (t := []) (by kernel_rfl) trivial, trivial⟩
def t97 : Fact := ⟨87, [u6, .c (.fn 88 [0, 1])], [b34, b35], (.tup [.c (.pv (.int .i64 100)), .c (.pv (.int .i64 0))], [b34, b35])⟩
theorem t97_ok : Holds (ev X E0) [t97] := ⟨ev_tab (n := 400) (x := xf87) rfl (t := [t51, t92, t93, t94, t95, t96]) (by kernel_rfl) ⟨t51_ok.1, t92_ok.1, t93_ok.1, t94_ok.1, t95_ok.1, t96_ok.1, trivial⟩, trivial⟩
def t98 : Fact := ⟨40, [u6, .c (.pv (.int .i64 2)), .c (.pv (.int .i64 0))], [], (.tup [.c (.pv (.int .i64 100)), .c (.pv (.int .i64 0))], [])⟩
theorem t98_ok : Holds (ev X E0) [t98] := ⟨ev_tab (n := 400) (x := xf40) rfl (t := [t97]) (by kernel_rfl) ⟨t97_ok.1, trivial⟩, trivial⟩
def t99 : Fact := ⟨89, [u7, .c (.ptr 0 0)], [b35], (.c (.pv (.bool false)), [b35])⟩
theorem t99_ok : Holds (ev X E0) [t99] := ⟨ev_tab (n := 400) (x := xf89) rfl (t := []) (by kernel_rfl) trivial, trivial⟩
def t100 : Fact := ⟨89, [u8, .c (.ptr 0 0)], [b35], (.c (.pv (.bool true)), [b35])⟩
theorem t100_ok : Holds (ev X E0) [t100] := ⟨ev_tab (n := 400) (x := xf89) rfl (t := []) (by kernel_rfl) trivial, trivial⟩
def t101 : Fact := ⟨89, [u9, .c (.ptr 0 0)], [b35], (.c (.pv (.bool true)), [b35])⟩
theorem t101_ok : Holds (ev X E0) [t101] := ⟨ev_tab (n := 400) (x := xf89) rfl (t := []) (by kernel_rfl) trivial, trivial⟩
def t102 : Fact := ⟨89, [u10, .c (.ptr 0 0)], [b35], (.c (.pv (.bool false)), [b35])⟩
theorem t102_ok : Holds (ev X E0) [t102] := ⟨ev_tab (n := 400) (x := xf89) rfl (t := []) (by kernel_rfl) trivial, trivial⟩
def t103 : Fact := ⟨89, [u11, .c (.ptr 0 0)], [b35], (.c (.pv (.bool false)), [b35])⟩
theorem t103_ok : Holds (ev X E0) [t103] := ⟨ev_tab (n := 400) (x := xf89) rfl (t := []) (by kernel_rfl) trivial, trivial⟩
def t104 : Fact := ⟨87, [u6, .c (.fn 89 [0])], [b35], (.tup [.c (.pv (.int .i64 100)), .c (.pv (.int .i64 0))], [b35])⟩
theorem t104_ok : Holds (ev X E0) [t104] := ⟨ev_tab (n := 400) (x := xf87) rfl (t := [t51, t99, t100, t101, t102, t103]) (by kernel_rfl) ⟨t51_ok.1, t99_ok.1, t100_ok.1, t101_ok.1, t102_ok.1, t103_ok.1, trivial⟩, trivial⟩
def t105 : Fact := ⟨41, [u6, .c (.pv (.int .i64 0))], [], (.tup [.c (.pv (.int .i64 100)), .c (.pv (.int .i64 0))], [])⟩
theorem t105_ok : Holds (ev X E0) [t105] := ⟨ev_tab (n := 400) (x := xf41) rfl (t := [t104]) (by kernel_rfl) ⟨t104_ok.1, trivial⟩, trivial⟩
def t106 : Fact := ⟨90, [], [], (.c (.ptr 0 0), [b37])⟩
theorem t106_ok : Holds (ev X E0) [t106] := ⟨ev_tab (n := 400) (x := xf90) rfl (t := []) (by kernel_rfl) trivial, trivial⟩
def t107 : Fact := ⟨91, [.c (.ptr 0 0), .c (.pv (.int .u64 7))], [b37], (.tup [], [b38])⟩
theorem t107_ok : Holds (ev X E0) [t107] := ⟨ev_tab (n := 400) (x := xf91) rfl (t := []) (by kernel_rfl) trivial, trivial⟩
def t108 : Fact := ⟨91, [.c (.ptr 0 0), .c (.pv (.int .u64 20))], [b39], (.tup [], [b40])⟩
theorem t108_ok : Holds (ev X E0) [t108] := ⟨ev_tab (n := 400) (x := xf91) rfl (t := []) (by kernel_rfl) trivial, trivial⟩
def t109 : Fact := ⟨92, [.c (.ptr 0 0), .c (.pv (.int .i64 10))], [b39], (.tup [], [b41])⟩
theorem t109_ok : Holds (ev X E0) [t109] := ⟨ev_tab (n := 400) (x := xf92) rfl (t := [t108]) (by kernel_rfl) ⟨t108_ok.1, trivial⟩, trivial⟩
def t110 : Fact := ⟨91, [.c (.ptr 0 0), .c (.pv (.int .u64 6))], [b42], (.tup [], [b43])⟩
theorem t110_ok : Holds (ev X E0) [t110] := ⟨ev_tab (n := 400) (x := xf91) rfl (t := []) (by kernel_rfl) trivial, trivial⟩
def t111 : Fact := ⟨92, [.c (.ptr 0 0), .c (.pv (.int .i64 3))], [b42], (.tup [], [b44])⟩
theorem t111_ok : Holds (ev X E0) [t111] := ⟨ev_tab (n := 400) (x := xf92) rfl (t := [t110]) (by kernel_rfl) ⟨t110_ok.1, trivial⟩, trivial⟩
def t112 : Fact := ⟨91, [.c (.ptr 0 0), .c (.pv (.int .u64 2))], [b45], (.tup [], [b46])⟩
theorem t112_ok : Holds (ev X E0) [t112] := ⟨ev_tab (n := 400) (x := xf91) rfl (t := []) (by kernel_rfl) trivial, trivial⟩
def t113 : Fact := ⟨91, [.c (.ptr 0 0), .c (.pv (.int .u64 0))], [b47], (.tup [], [b48])⟩
theorem t113_ok : Holds (ev X E0) [t113] := ⟨ev_tab (n := 400) (x := xf91) rfl (t := []) (by kernel_rfl) trivial, trivial⟩
def t114 : Fact := ⟨91, [.c (.ptr 0 0), .c (.pv (.int .u64 3))], [b49], (.tup [], [b50])⟩
theorem t114_ok : Holds (ev X E0) [t114] := ⟨ev_tab (n := 400) (x := xf91) rfl (t := []) (by kernel_rfl) trivial, trivial⟩
def t115 : Fact := ⟨93, [.c (.ptr 0 0), .c (.pv (.str [102, 101, 101]))], [b49], (.tup [], [b51])⟩
theorem t115_ok : Holds (ev X E0) [t115] := ⟨ev_tab (n := 400) (x := xf93) rfl (t := [t114]) (by kernel_rfl) ⟨t114_ok.1, trivial⟩, trivial⟩
def t116 : Fact := ⟨91, [.c (.ptr 0 0), .c (.pv (.int .u64 5))], [b52], (.tup [], [b53])⟩
theorem t116_ok : Holds (ev X E0) [t116] := ⟨ev_tab (n := 400) (x := xf91) rfl (t := []) (by kernel_rfl) trivial, trivial⟩
def t117 : Fact := ⟨91, [.c (.ptr 0 0), .c (.pv (.int .u64 1))], [b54], (.tup [], [b55])⟩
theorem t117_ok : Holds (ev X E0) [t117] := ⟨ev_tab (n := 400) (x := xf91) rfl (t := []) (by kernel_rfl) trivial, trivial⟩
def t118 : Fact := ⟨91, [.c (.ptr 0 0), .c (.pv (.int .u64 0))], [b56], (.tup [], [b57])⟩
theorem t118_ok : Holds (ev X E0) [t118] := ⟨ev_tab (n := 400) (x := xf91) rfl (t := []) (by kernel_rfl) trivial, trivial⟩
def t119 : Fact := ⟨92, [.c (.ptr 0 0), .c (.pv (.int .i64 0))], [b56], (.tup [], [b58])⟩
theorem t119_ok : Holds (ev X E0) [t119] := ⟨ev_tab (n := 400) (x := xf92) rfl (t := [t118]) (by kernel_rfl) ⟨t118_ok.1, trivial⟩, trivial⟩
def t120 : Fact := ⟨91, [.c (.ptr 0 0), .c (.pv (.int .u64 199))], [b59], (.tup [], [b60])⟩
theorem t120_ok : Holds (ev X E0) [t120] := ⟨ev_tab (n := 400) (x := xf91) rfl (t := []) (by kernel_rfl) trivial, trivial⟩
def t121 : Fact := ⟨92, [.c (.ptr 0 0), .c (.pv (.int .i64 (-100)))], [b59], (.tup [], [b61])⟩
theorem t121_ok : Holds (ev X E0) [t121] := ⟨ev_tab (n := 400) (x := xf92) rfl (t := [t120]) (by kernel_rfl) ⟨t120_ok.1, trivial⟩, trivial⟩
def t122 : Fact := ⟨94, [.c (.ptr 0 0), u13], [b56], (.tup [], [b62])⟩
theorem t122_ok : Holds (ev X E0) [t122] := ⟨ev_tab (n := 400) (x := xf94) rfl (t := [t119, t121]) (by kernel_rfl) ⟨t119_ok.1, t121_ok.1, trivial⟩, trivial⟩
def t123 : Fact := ⟨91, [.c (.ptr 0 0), .c (.pv (.int .u64 2))], [b63], (.tup [], [b64])⟩
theorem t123_ok : Holds (ev X E0) [t123] := ⟨ev_tab (n := 400) (x := xf91) rfl (t := []) (by kernel_rfl) trivial, trivial⟩
def t124 : Fact := ⟨91, [.c (.ptr 0 0), .c (.pv (.int .u64 0))], [b65], (.tup [], [b66])⟩
theorem t124_ok : Holds (ev X E0) [t124] := ⟨ev_tab (n := 400) (x := xf91) rfl (t := []) (by kernel_rfl) trivial, trivial⟩
def t125 : Fact := ⟨92, [.c (.ptr 0 0), .c (.pv (.int .i64 0))], [b65], (.tup [], [b67])⟩
theorem t125_ok : Holds (ev X E0) [t125] := ⟨ev_tab (n := 400) (x := xf92) rfl (t := [t124]) (by kernel_rfl) ⟨t124_ok.1, trivial⟩, trivial⟩
def t126 : Fact := ⟨91, [.c (.ptr 0 0), .c (.pv (.int .u64 120))], [b68], (.tup [], [b69])⟩
theorem t126_ok : Holds (ev X E0) [t126] := ⟨ev_tab (n := 400) (x := xf91) rfl (t := []) (by kernel_rfl) trivial, trivial⟩
def t127 : Fact := ⟨92, [.c (.ptr 0 0), .c (.pv (.int .i64 60))], [b68], (.tup [], [b70])⟩
theorem t127_ok : Holds (ev X E0) [t127] := ⟨ev_tab (n := 400) (x := xf92) rfl (t := [t126]) (by kernel_rfl) ⟨t126_ok.1, trivial⟩, trivial⟩
def t128 : Fact := ⟨94, [.c (.ptr 0 0), u14], [b65], (.tup [], [b71])⟩
theorem t128_ok : Holds (ev X E0) [t128] := ⟨ev_tab (n := 400) (x := xf94) rfl (t := [t125, t127]) (by kernel_rfl) ⟨t125_ok.1, t127_ok.1, trivial⟩, trivial⟩
def t129 : Fact := ⟨91, [.c (.ptr 0 0), .c (.pv (.int .u64 2))], [b72], (.tup [], [b73])⟩
theorem t129_ok : Holds (ev X E0) [t129] := ⟨ev_tab (n := 400) (x := xf91) rfl (t := []) (by kernel_rfl) trivial, trivial⟩
def t130 : Fact := ⟨91, [.c (.ptr 0 0), .c (.pv (.int .u64 0))], [b74], (.tup [], [b75])⟩
theorem t130_ok : Holds (ev X E0) [t130] := ⟨ev_tab (n := 400) (x := xf91) rfl (t := []) (by kernel_rfl) trivial, trivial⟩
def t131 : Fact := ⟨92, [.c (.ptr 0 0), .c (.pv (.int .i64 0))], [b74], (.tup [], [b76])⟩
theorem t131_ok : Holds (ev X E0) [t131] := ⟨ev_tab (n := 400) (x := xf92) rfl (t := [t130]) (by kernel_rfl) ⟨t130_ok.1, trivial⟩, trivial⟩
def t132 : Fact := ⟨91, [.c (.ptr 0 0), .c (.pv (.int .u64 80))], [b77], (.tup [], [b78])⟩
theorem t132_ok : Holds (ev X E0) [t132] := ⟨ev_tab (n := 400) (x := xf91) rfl (t := []) (by kernel_rfl) trivial, trivial⟩
def t133 : Fact := ⟨92, [.c (.ptr 0 0), .c (.pv (.int .i64 40))], [b77], (.tup [], [b79])⟩
theorem t133_ok : Holds (ev X E0) [t133] := ⟨ev_tab (n := 400) (x := xf92) rfl (t := [t132]) (by kernel_rfl) ⟨t132_ok.1, trivial⟩, trivial⟩
def t134 : Fact := ⟨94, [.c (.ptr 0 0), u15], [b74], (.tup [], [b80])⟩
theorem t134_ok : Holds (ev X E0) [t134] := ⟨ev_tab (n := 400) (x := xf94) rfl (t := [t131, t133]) (by kernel_rfl) ⟨t131_ok.1, t133_ok.1, trivial⟩, trivial⟩
def t135 : Fact := ⟨91, [.c (.ptr 0 0), .c (.pv (.int .u64 1))], [b81], (.tup [], [b82])⟩
theorem t135_ok : Holds (ev X E0) [t135] := ⟨ev_tab (n := 400) (x := xf91) rfl (t := []) (by kernel_rfl) trivial, trivial⟩
def t136 : Fact := ⟨91, [.c (.ptr 0 0), .c (.pv (.int .u64 2))], [b83], (.tup [], [b84])⟩
theorem t136_ok : Holds (ev X E0) [t136] := ⟨ev_tab (n := 400) (x := xf91) rfl (t := []) (by kernel_rfl) trivial, trivial⟩
def t137 : Fact := ⟨92, [.c (.ptr 0 0), .c (.pv (.int .i64 1))], [b83], (.tup [], [b85])⟩
theorem t137_ok : Holds (ev X E0) [t137] := ⟨ev_tab (n := 400) (x := xf92) rfl (t := [t136]) (by kernel_rfl) ⟨t136_ok.1, trivial⟩, trivial⟩
def t138 : Fact := ⟨91, [.c (.ptr 0 0), .c (.pv (.int .u64 10))], [b86], (.tup [], [b87])⟩
theorem t138_ok : Holds (ev X E0) [t138] := ⟨ev_tab (n := 400) (x := xf91) rfl (t := []) (by kernel_rfl) trivial, trivial⟩
def t139 : Fact := ⟨92, [.c (.ptr 0 0), .c (.pv (.int .i64 5))], [b86], (.tup [], [b88])⟩
theorem t139_ok : Holds (ev X E0) [t139] := ⟨ev_tab (n := 400) (x := xf92) rfl (t := [t138]) (by kernel_rfl) ⟨t138_ok.1, trivial⟩, trivial⟩
def t140 : Fact := ⟨94, [.c (.ptr 0 0), u16], [b83], (.tup [], [b89])⟩
theorem t140_ok : Holds (ev X E0) [t140] := ⟨ev_tab (n := 400) (x := xf94) rfl (t := [t137, t139]) (by kernel_rfl) ⟨t137_ok.1, t139_ok.1, trivial⟩, trivial⟩
def t141 : Fact := ⟨91, [.c (.ptr 0 0), .c (.pv (.int .u64 2))], [b90], (.tup [], [b91])⟩
theorem t141_ok : Holds (ev X E0) [t141] := ⟨ev_tab (n := 400) (x := xf91) rfl (t := []) (by kernel_rfl) trivial, trivial⟩
def t142 : Fact := ⟨91, [.c (.ptr 0 0), .c (.pv (.int .u64 2))], [b92], (.tup [], [b93])⟩
theorem t142_ok : Holds (ev X E0) [t142] := ⟨ev_tab (n := 400) (x := xf91) rfl (t := []) (by kernel_rfl) trivial, trivial⟩
def t143 : Fact := ⟨92, [.c (.ptr 0 0), .c (.pv (.int .i64 1))], [b92], (.tup [], [b94])⟩
theorem t143_ok : Holds (ev X E0) [t143] := ⟨ev_tab (n := 400) (x := xf92) rfl (t := [t142]) (by kernel_rfl) ⟨t142_ok.1, trivial⟩, trivial⟩
def t144 : Fact := ⟨91, [.c (.ptr 0 0), .c (.pv (.int .u64 9))], [b95], (.tup [], [b96])⟩
theorem t144_ok : Holds (ev X E0) [t144] := ⟨ev_tab (n := 400) (x := xf91) rfl (t := []) (by kernel_rfl) trivial, trivial⟩
def t145 : Fact := ⟨92, [.c (.ptr 0 0), .c (.pv (.int .i64 (-5)))], [b95], (.tup [], [b97])⟩
theorem t145_ok : Holds (ev X E0) [t145] := ⟨ev_tab (n := 400) (x := xf92) rfl (t := [t144]) (by kernel_rfl) ⟨t144_ok.1, trivial⟩, trivial⟩
def t146 : Fact := ⟨94, [.c (.ptr 0 0), u17], [b92], (.tup [], [b98])⟩
theorem t146_ok : Holds (ev X E0) [t146] := ⟨ev_tab (n := 400) (x := xf94) rfl (t := [t143, t145]) (by kernel_rfl) ⟨t143_ok.1, t145_ok.1, trivial⟩, trivial⟩
def t147 : Fact := ⟨95, [.c (.ptr 0 0)], [b99], (.c (.pv (.str [7, 20, 6, 2, 0, 3, 102, 101, 101, 5, 1, 0, 199, 1, 2, 0, 120, 2, 0, 80, 1, 2, 10, 2, 2, 9])), [b99])⟩
theorem t147_ok : Holds (ev X E0) [t147] := ⟨ev_tab (n := 400) (x := xf95) rfl (t := []) (by kernel_rfl) trivial, trivial⟩
def t148 : Fact := ⟨42, [u6], [], (.tup [.c (.pv (.str [7, 20, 6, 2, 0, 3, 102, 101, 101, 5, 1, 0, 199, 1, 2, 0, 120, 2, 0, 80, 1, 2, 10, 2, 2, 9])), .c (.pv (.int .i64 0))], [])⟩
theorem t148_ok : Holds (ev X E0) [t148] := ⟨ev_tab (n := 400) (x := xf42) rfl (t := [t51, t106, t107, t109, t111, t112, t113, t115, t116, t117, t122, t123, t128, t129, t134, t135, t140, t141, t146, t147]) (by kernel_rfl) ⟨t51_ok.1, t106_ok.1, t107_ok.1, t109_ok.1, t111_ok.1, t112_ok.1, t113_ok.1, t115_ok.1, t116_ok.1, t117_ok.1, t122_ok.1, t123_ok.1, t128_ok.1, t129_ok.1, t134_ok.1, t135_ok.1, t140_ok.1, t141_ok.1, t146_ok.1, t147_ok.1, trivial⟩, trivial⟩
def t149 : Fact := ⟨101, [.c (.pv (.str [7, 20, 6, 2, 0, 3, 102, 101, 101, 5, 1, 0, 199, 1, 2, 0, 120, 2, 0, 80, 1, 2, 10, 2, 2, 9]))], [], (.c (.ptr 0 0), [b100])⟩
theorem t149_ok : Holds (ev X E0) [t149] := ⟨ev_tab (n := 400) (x := xf101) rfl (t := []) (by kernel_rfl) trivial, trivial⟩
def t150 : Fact := ⟨132, [.c (.pv (.str [7, 20, 6, 2, 0, 3, 102, 101, 101, 5, 1, 0, 199, 1, 2, 0, 120, 2, 0, 80, 1, 2, 10, 2, 2, 9]))], [], (.tup [.c (.pv (.int .u64 7)), .c (.pv (.int .i64 1)), .c (.pv (.int .i64 0))], [])⟩
theorem t150_ok : Holds (ev X E0) [t150] := ⟨ev_tab (n := 400) (x := xf132) rfl (t := []) (by kernel_rfl) trivial, trivial⟩
def t151 : Fact := ⟨131, [.c (.ptr 0 0), .c (.fn 132 [])], [b100], (.c (.pv (.int .u64 7)), [b101])⟩
theorem t151_ok : Holds (ev X E0) [t151] := ⟨ev_tab (n := 400) (x := xf131) rfl (t := [t150]) (by kernel_rfl) ⟨t150_ok.1, trivial⟩, trivial⟩
def t152 : Fact := ⟨103, [.c (.ptr 0 0)], [b100], (.c (.pv (.int .u64 7)), [b101])⟩
theorem t152_ok : Holds (ev X E0) [t152] := ⟨ev_tab (n := 400) (x := xf103) rfl (t := [t151]) (by kernel_rfl) ⟨t151_ok.1, trivial⟩, trivial⟩
def t153 : Fact := ⟨102, [.c (.pv (.int .u64 7))], [], (.c (.pv (.int .i64 7)), [])⟩
theorem t153_ok : Holds (ev X E0) [t153] := ⟨ev_tab (n := 400) (x := xf102) rfl (t := []) (by kernel_rfl) trivial, trivial⟩
def t154 : Fact := ⟨132, [.c (.pv (.str [20, 6, 2, 0, 3, 102, 101, 101, 5, 1, 0, 199, 1, 2, 0, 120, 2, 0, 80, 1, 2, 10, 2, 2, 9]))], [], (.tup [.c (.pv (.int .u64 20)), .c (.pv (.int .i64 1)), .c (.pv (.int .i64 0))], [])⟩
theorem t154_ok : Holds (ev X E0) [t154] := ⟨ev_tab (n := 400) (x := xf132) rfl (t := []) (by kernel_rfl) trivial, trivial⟩
def t155 : Fact := ⟨131, [.c (.ptr 0 0), .c (.fn 132 [])], [b101], (.c (.pv (.int .u64 20)), [b102])⟩
theorem t155_ok : Holds (ev X E0) [t155] := ⟨ev_tab (n := 400) (x := xf131) rfl (t := [t154]) (by kernel_rfl) ⟨t154_ok.1, trivial⟩, trivial⟩
def t156 : Fact := ⟨133, [.c (.pv (.int .u64 20))], [], (.c (.pv (.int .i64 10)), [])⟩
theorem t156_ok : Holds (ev X E0) [t156] := ⟨ev_tab (n := 400) (x := xf133) rfl (t := []) (by kernel_rfl) trivial, trivial⟩
def t157 : Fact := ⟨105, [.c (.ptr 0 0)], [b101], (.c (.pv (.int .i64 10)), [b102])⟩
theorem t157_ok : Holds (ev X E0) [t157] := ⟨ev_tab (n := 400) (x := xf105) rfl (t := [t155, t156]) (by kernel_rfl) ⟨t155_ok.1, t156_ok.1, trivial⟩, trivial⟩
def t158 : Fact := ⟨104, [.c (.pv (.int .i64 10))], [], (.c (.pv (.int .i32 10)), [])⟩
theorem t158_ok : Holds (ev X E0) [t158] := ⟨ev_tab (n := 400) (x := xf104) rfl (t := []) (by kernel_rfl) trivial, trivial⟩
def t159 : Fact := ⟨132, [.c (.pv (.str [6, 2, 0, 3, 102, 101, 101, 5, 1, 0, 199, 1, 2, 0, 120, 2, 0, 80, 1, 2, 10, 2, 2, 9]))], [], (.tup [.c (.pv (.int .u64 6)), .c (.pv (.int .i64 1)), .c (.pv (.int .i64 0))], [])⟩
theorem t159_ok : Holds (ev X E0) [t159] := ⟨ev_tab (n := 400) (x := xf132) rfl (t := []) (by kernel_rfl) trivial, trivial⟩
def t160 : Fact := ⟨131, [.c (.ptr 0 0), .c (.fn 132 [])], [b102], (.c (.pv (.int .u64 6)), [b103])⟩
theorem t160_ok : Holds (ev X E0) [t160] := ⟨ev_tab (n := 400) (x := xf131) rfl (t := [t159]) (by kernel_rfl) ⟨t159_ok.1, trivial⟩, trivial⟩
def t161 : Fact := ⟨133, [.c (.pv (.int .u64 6))], [], (.c (.pv (.int .i64 3)), [])⟩
theorem t161_ok : Holds (ev X E0) [t161] := ⟨ev_tab (n := 400) (x := xf133) rfl (t := []) (by kernel_rfl) trivial, trivial⟩
def t162 : Fact := ⟨105, [.c (.ptr 0 0)], [b102], (.c (.pv (.int .i64 3)), [b103])⟩
theorem t162_ok : Holds (ev X E0) [t162] := ⟨ev_tab (n := 400) (x := xf105) rfl (t := [t160, t161]) (by kernel_rfl) ⟨t160_ok.1, t161_ok.1, trivial⟩, trivial⟩
def t163 : Fact := ⟨104, [.c (.pv (.int .i64 3))], [], (.c (.pv (.int .i32 3)), [])⟩
theorem t163_ok : Holds (ev X E0) [t163] := ⟨ev_tab (n := 400) (x := xf104) rfl (t := []) (by kernel_rfl) trivial, trivial⟩
def t164 : Fact := ⟨132, [.c (.pv (.str [2, 0, 3, 102, 101, 101, 5, 1, 0, 199, 1, 2, 0, 120, 2, 0, 80, 1, 2, 10, 2, 2, 9]))], [], (.tup [.c (.pv (.int .u64 2)), .c (.pv (.int .i64 1)), .c (.pv (.int .i64 0))], [])⟩
theorem t164_ok : Holds (ev X E0) [t164] := ⟨ev_tab (n := 400) (x := xf132) rfl (t := []) (by kernel_rfl) trivial, trivial⟩
def t165 : Fact := ⟨131, [.c (.ptr 0 0), .c (.fn 132 [])], [b103], (.c (.pv (.int .u64 2)), [b104])⟩
theorem t165_ok : Holds (ev X E0) [t165] := ⟨ev_tab (n := 400) (x := xf131) rfl (t := [t164]) (by kernel_rfl) ⟨t164_ok.1, trivial⟩, trivial⟩
def t166 : Fact := ⟨103, [.c (.ptr 0 0)], [b103], (.c (.pv (.int .u64 2)), [b104])⟩
theorem t166_ok : Holds (ev X E0) [t166] := ⟨ev_tab (n := 400) (x := xf103) rfl (t := [t165]) (by kernel_rfl) ⟨t165_ok.1, trivial⟩, trivial⟩
def t167 : Fact := ⟨102, [.c (.pv (.int .u64 2))], [], (.c (.pv (.int .i64 2)), [])⟩
theorem t167_ok : Holds (ev X E0) [t167] := ⟨ev_tab (n := 400) (x := xf102) rfl (t := []) (by kernel_rfl) trivial, trivial⟩
def t168 : Fact := ⟨132, [.c (.pv (.str [0, 3, 102, 101, 101, 5, 1, 0, 199, 1, 2, 0, 120, 2, 0, 80, 1, 2, 10, 2, 2, 9]))], [], (.tup [.c (.pv (.int .u64 0)), .c (.pv (.int .i64 1)), .c (.pv (.int .i64 0))], [])⟩
theorem t168_ok : Holds (ev X E0) [t168] := ⟨ev_tab (n := 400) (x := xf132) rfl (t := []) (by kernel_rfl) trivial, trivial⟩
def t169 : Fact := ⟨131, [.c (.ptr 0 0), .c (.fn 132 [])], [b104], (.c (.pv (.int .u64 0)), [b105])⟩
theorem t169_ok : Holds (ev X E0) [t169] := ⟨ev_tab (n := 400) (x := xf131) rfl (t := [t168]) (by kernel_rfl) ⟨t168_ok.1, trivial⟩, trivial⟩
def t170 : Fact := ⟨103, [.c (.ptr 0 0)], [b104], (.c (.pv (.int .u64 0)), [b105])⟩
theorem t170_ok : Holds (ev X E0) [t170] := ⟨ev_tab (n := 400) (x := xf103) rfl (t := [t169]) (by kernel_rfl) ⟨t169_ok.1, trivial⟩, trivial⟩
def t171 : Fact := ⟨102, [.c (.pv (.int .u64 0))], [], (.c (.pv (.int .i64 0)), [])⟩
theorem t171_ok : Holds (ev X E0) [t171] := ⟨ev_tab (n := 400) (x := xf102) rfl (t := []) (by kernel_rfl) trivial, trivial⟩
def t172 : Fact := ⟨132, [.c (.pv (.str [3, 102, 101, 101, 5, 1, 0, 199, 1, 2, 0, 120, 2, 0, 80, 1, 2, 10, 2, 2, 9]))], [], (.tup [.c (.pv (.int .u64 3)), .c (.pv (.int .i64 1)), .c (.pv (.int .i64 0))], [])⟩
theorem t172_ok : Holds (ev X E0) [t172] := ⟨ev_tab (n := 400) (x := xf132) rfl (t := []) (by kernel_rfl) trivial, trivial⟩
def t173 : Fact := ⟨135, [.c (.pv (.str [3, 102, 101, 101, 5, 1, 0, 199, 1, 2, 0, 120, 2, 0, 80, 1, 2, 10, 2, 2, 9])), .c (.ptr 0 0)], [b106], (.tup [.c (.pv (.str [102, 101, 101])), .c (.pv (.int .i64 4)), .c (.pv (.int .i64 0))], [b106])⟩
theorem t173_ok : Holds (ev X E0) [t173] := ⟨ev_tab (n := 400) (x := xf135) rfl (t := [t172]) (by kernel_rfl) ⟨t172_ok.1, trivial⟩, trivial⟩
def t174 : Fact := ⟨134, [.c (.ptr 0 0), .c (.fn 135 [1])], [b105, b106], (.c (.pv (.str [102, 101, 101])), [b107, b106])⟩
theorem t174_ok : Holds (ev X E0) [t174] := ⟨ev_tab (n := 400) (x := xf134) rfl (t := [t173]) (by kernel_rfl) ⟨t173_ok.1, trivial⟩, trivial⟩
def t175 : Fact := ⟨106, [.c (.ptr 0 0), .c (.pv (.int .i64 32))], [b105], (.c (.pv (.str [102, 101, 101])), [b107])⟩
theorem t175_ok : Holds (ev X E0) [t175] := ⟨ev_tab (n := 400) (x := xf106) rfl (t := [t174]) (by kernel_rfl) ⟨t174_ok.1, trivial⟩, trivial⟩
def t176 : Fact := ⟨132, [.c (.pv (.str [5, 1, 0, 199, 1, 2, 0, 120, 2, 0, 80, 1, 2, 10, 2, 2, 9]))], [], (.tup [.c (.pv (.int .u64 5)), .c (.pv (.int .i64 1)), .c (.pv (.int .i64 0))], [])⟩
theorem t176_ok : Holds (ev X E0) [t176] := ⟨ev_tab (n := 400) (x := xf132) rfl (t := []) (by kernel_rfl) trivial, trivial⟩
def t177 : Fact := ⟨137, [.c (.pv (.str [5, 1, 0, 199, 1, 2, 0, 120, 2, 0, 80, 1, 2, 10, 2, 2, 9])), .c (.ptr 0 0)], [b108], (.tup [.c (.pv (.int .i64 5)), .c (.pv (.int .i64 1)), .c (.pv (.int .i64 0))], [b108])⟩
theorem t177_ok : Holds (ev X E0) [t177] := ⟨ev_tab (n := 400) (x := xf137) rfl (t := [t176]) (by kernel_rfl) ⟨t176_ok.1, trivial⟩, trivial⟩
def t178 : Fact := ⟨136, [.c (.ptr 0 0), .c (.fn 137 [1])], [b107, b108], (.c (.pv (.int .i64 5)), [b109, b108])⟩
theorem t178_ok : Holds (ev X E0) [t178] := ⟨ev_tab (n := 400) (x := xf136) rfl (t := [t177]) (by kernel_rfl) ⟨t177_ok.1, trivial⟩, trivial⟩
def t179 : Fact := ⟨107, [.c (.ptr 0 0), .c (.pv (.int .i64 16))], [b107], (.c (.pv (.int .i64 5)), [b109])⟩
theorem t179_ok : Holds (ev X E0) [t179] := ⟨ev_tab (n := 400) (x := xf107) rfl (t := [t178]) (by kernel_rfl) ⟨t178_ok.1, trivial⟩, trivial⟩
def t180 : Fact := ⟨132, [.c (.pv (.str [1, 0, 199, 1, 2, 0, 120, 2, 0, 80, 1, 2, 10, 2, 2, 9]))], [], (.tup [.c (.pv (.int .u64 1)), .c (.pv (.int .i64 1)), .c (.pv (.int .i64 0))], [])⟩
theorem t180_ok : Holds (ev X E0) [t180] := ⟨ev_tab (n := 400) (x := xf132) rfl (t := []) (by kernel_rfl) trivial, trivial⟩
def t181 : Fact := ⟨131, [.c (.ptr 0 0), .c (.fn 132 [])], [b109], (.c (.pv (.int .u64 1)), [b110])⟩
theorem t181_ok : Holds (ev X E0) [t181] := ⟨ev_tab (n := 400) (x := xf131) rfl (t := [t180]) (by kernel_rfl) ⟨t180_ok.1, trivial⟩, trivial⟩
def t182 : Fact := ⟨103, [.c (.ptr 0 0)], [b109], (.c (.pv (.int .u64 1)), [b110])⟩
theorem t182_ok : Holds (ev X E0) [t182] := ⟨ev_tab (n := 400) (x := xf103) rfl (t := [t181]) (by kernel_rfl) ⟨t181_ok.1, trivial⟩, trivial⟩
def t183 : Fact := ⟨102, [.c (.pv (.int .u64 1))], [], (.c (.pv (.int .i64 1)), [])⟩
theorem t183_ok : Holds (ev X E0) [t183] := ⟨ev_tab (n := 400) (x := xf102) rfl (t := []) (by kernel_rfl) trivial, trivial⟩
def t184 : Fact := ⟨132, [.c (.pv (.str [0, 199, 1, 2, 0, 120, 2, 0, 80, 1, 2, 10, 2, 2, 9]))], [], (.tup [.c (.pv (.int .u64 0)), .c (.pv (.int .i64 1)), .c (.pv (.int .i64 0))], [])⟩
theorem t184_ok : Holds (ev X E0) [t184] := ⟨ev_tab (n := 400) (x := xf132) rfl (t := []) (by kernel_rfl) trivial, trivial⟩
def t185 : Fact := ⟨132, [.c (.pv (.str [199, 1, 2, 0, 120, 2, 0, 80, 1, 2, 10, 2, 2, 9]))], [], (.tup [.c (.pv (.int .u64 199)), .c (.pv (.int .i64 2)), .c (.pv (.int .i64 0))], [])⟩
theorem t185_ok : Holds (ev X E0) [t185] := ⟨ev_tab (n := 400) (x := xf132) rfl (t := []) (by kernel_rfl) trivial, trivial⟩
def t186 : Fact := ⟨133, [.c (.pv (.int .u64 0))], [], (.c (.pv (.int .i64 0)), [])⟩
theorem t186_ok : Holds (ev X E0) [t186] := ⟨ev_tab (n := 400) (x := xf133) rfl (t := []) (by kernel_rfl) trivial, trivial⟩
def t187 : Fact := ⟨133, [.c (.pv (.int .u64 199))], [], (.c (.pv (.int .i64 (-100))), [])⟩
theorem t187_ok : Holds (ev X E0) [t187] := ⟨ev_tab (n := 400) (x := xf133) rfl (t := []) (by kernel_rfl) trivial, trivial⟩
def t188 : Fact := ⟨139, [.c (.pv (.str [0, 199, 1, 2, 0, 120, 2, 0, 80, 1, 2, 10, 2, 2, 9]))], [], (.tup [u13, .c (.pv (.int .i64 3)), .c (.pv (.int .i64 0))], [])⟩
theorem t188_ok : Holds (ev X E0) [t188] := ⟨ev_tab (n := 400) (x := xf139) rfl (t := [t184, t185, t186, t187]) (by kernel_rfl) ⟨t184_ok.1, t185_ok.1, t186_ok.1, t187_ok.1, trivial⟩, trivial⟩
def t189 : Fact := ⟨138, [.c (.ptr 0 0), .c (.fn 139 [])], [b110], (u13, [b111])⟩
theorem t189_ok : Holds (ev X E0) [t189] := ⟨ev_tab (n := 400) (x := xf138) rfl (t := [t188]) (by kernel_rfl) ⟨t188_ok.1, trivial⟩, trivial⟩
def t190 : Fact := ⟨108, [.c (.ptr 0 0)], [b110], (u13, [b111])⟩
theorem t190_ok : Holds (ev X E0) [t190] := ⟨ev_tab (n := 400) (x := xf108) rfl (t := [t189]) (by kernel_rfl) ⟨t189_ok.1, trivial⟩, trivial⟩
def t191 : Fact := ⟨132, [.c (.pv (.str [2, 0, 120, 2, 0, 80, 1, 2, 10, 2, 2, 9]))], [], (.tup [.c (.pv (.int .u64 2)), .c (.pv (.int .i64 1)), .c (.pv (.int .i64 0))], [])⟩
theorem t191_ok : Holds (ev X E0) [t191] := ⟨ev_tab (n := 400) (x := xf132) rfl (t := []) (by kernel_rfl) trivial, trivial⟩
def t192 : Fact := ⟨131, [.c (.ptr 0 0), .c (.fn 132 [])], [b111], (.c (.pv (.int .u64 2)), [b112])⟩
theorem t192_ok : Holds (ev X E0) [t192] := ⟨ev_tab (n := 400) (x := xf131) rfl (t := [t191]) (by kernel_rfl) ⟨t191_ok.1, trivial⟩, trivial⟩
def t193 : Fact := ⟨103, [.c (.ptr 0 0)], [b111], (.c (.pv (.int .u64 2)), [b112])⟩
theorem t193_ok : Holds (ev X E0) [t193] := ⟨ev_tab (n := 400) (x := xf103) rfl (t := [t192]) (by kernel_rfl) ⟨t192_ok.1, trivial⟩, trivial⟩
def t194 : Fact := ⟨132, [.c (.pv (.str [0, 120, 2, 0, 80, 1, 2, 10, 2, 2, 9]))], [], (.tup [.c (.pv (.int .u64 0)), .c (.pv (.int .i64 1)), .c (.pv (.int .i64 0))], [])⟩
theorem t194_ok : Holds (ev X E0) [t194] := ⟨ev_tab (n := 400) (x := xf132) rfl (t := []) (by kernel_rfl) trivial, trivial⟩
def t195 : Fact := ⟨132, [.c (.pv (.str [120, 2, 0, 80, 1, 2, 10, 2, 2, 9]))], [], (.tup [.c (.pv (.int .u64 120)), .c (.pv (.int .i64 1)), .c (.pv (.int .i64 0))], [])⟩
theorem t195_ok : Holds (ev X E0) [t195] := ⟨ev_tab (n := 400) (x := xf132) rfl (t := []) (by kernel_rfl) trivial, trivial⟩
def t196 : Fact := ⟨133, [.c (.pv (.int .u64 120))], [], (.c (.pv (.int .i64 60)), [])⟩
theorem t196_ok : Holds (ev X E0) [t196] := ⟨ev_tab (n := 400) (x := xf133) rfl (t := []) (by kernel_rfl) trivial, trivial⟩
def t197 : Fact := ⟨139, [.c (.pv (.str [0, 120, 2, 0, 80, 1, 2, 10, 2, 2, 9]))], [], (.tup [u14, .c (.pv (.int .i64 2)), .c (.pv (.int .i64 0))], [])⟩
theorem t197_ok : Holds (ev X E0) [t197] := ⟨ev_tab (n := 400) (x := xf139) rfl (t := [t194, t195, t186, t196]) (by kernel_rfl) ⟨t194_ok.1, t195_ok.1, t186_ok.1, t196_ok.1, trivial⟩, trivial⟩
def t198 : Fact := ⟨138, [.c (.ptr 0 0), .c (.fn 139 [])], [b112], (u14, [b113])⟩
theorem t198_ok : Holds (ev X E0) [t198] := ⟨ev_tab (n := 400) (x := xf138) rfl (t := [t197]) (by kernel_rfl) ⟨t197_ok.1, trivial⟩, trivial⟩
def t199 : Fact := ⟨108, [.c (.ptr 0 0)], [b112], (u14, [b113])⟩
theorem t199_ok : Holds (ev X E0) [t199] := ⟨ev_tab (n := 400) (x := xf108) rfl (t := [t198]) (by kernel_rfl) ⟨t198_ok.1, trivial⟩, trivial⟩
def t200 : Fact := ⟨132, [.c (.pv (.str [2, 0, 80, 1, 2, 10, 2, 2, 9]))], [], (.tup [.c (.pv (.int .u64 2)), .c (.pv (.int .i64 1)), .c (.pv (.int .i64 0))], [])⟩
theorem t200_ok : Holds (ev X E0) [t200] := ⟨ev_tab (n := 400) (x := xf132) rfl (t := []) (by kernel_rfl) trivial, trivial⟩
def t201 : Fact := ⟨131, [.c (.ptr 0 0), .c (.fn 132 [])], [b113], (.c (.pv (.int .u64 2)), [b114])⟩
theorem t201_ok : Holds (ev X E0) [t201] := ⟨ev_tab (n := 400) (x := xf131) rfl (t := [t200]) (by kernel_rfl) ⟨t200_ok.1, trivial⟩, trivial⟩
def t202 : Fact := ⟨103, [.c (.ptr 0 0)], [b113], (.c (.pv (.int .u64 2)), [b114])⟩
theorem t202_ok : Holds (ev X E0) [t202] := ⟨ev_tab (n := 400) (x := xf103) rfl (t := [t201]) (by kernel_rfl) ⟨t201_ok.1, trivial⟩, trivial⟩
def t203 : Fact := ⟨132, [.c (.pv (.str [0, 80, 1, 2, 10, 2, 2, 9]))], [], (.tup [.c (.pv (.int .u64 0)), .c (.pv (.int .i64 1)), .c (.pv (.int .i64 0))], [])⟩
theorem t203_ok : Holds (ev X E0) [t203] := ⟨ev_tab (n := 400) (x := xf132) rfl (t := []) (by kernel_rfl) trivial, trivial⟩
def t204 : Fact := ⟨132, [.c (.pv (.str [80, 1, 2, 10, 2, 2, 9]))], [], (.tup [.c (.pv (.int .u64 80)), .c (.pv (.int .i64 1)), .c (.pv (.int .i64 0))], [])⟩
theorem t204_ok : Holds (ev X E0) [t204] := ⟨ev_tab (n := 400) (x := xf132) rfl (t := []) (by kernel_rfl) trivial, trivial⟩
def t205 : Fact := ⟨133, [.c (.pv (.int .u64 80))], [], (.c (.pv (.int .i64 40)), [])⟩
theorem t205_ok : Holds (ev X E0) [t205] := ⟨ev_tab (n := 400) (x := xf133) rfl (t := []) (by kernel_rfl) trivial, trivial⟩
def t206 : Fact := ⟨139, [.c (.pv (.str [0, 80, 1, 2, 10, 2, 2, 9]))], [], (.tup [u15, .c (.pv (.int .i64 2)), .c (.pv (.int .i64 0))], [])⟩
theorem t206_ok : Holds (ev X E0) [t206] := ⟨ev_tab (n := 400) (x := xf139) rfl (t := [t203, t204, t186, t205]) (by kernel_rfl) ⟨t203_ok.1, t204_ok.1, t186_ok.1, t205_ok.1, trivial⟩, trivial⟩
def t207 : Fact := ⟨138, [.c (.ptr 0 0), .c (.fn 139 [])], [b114], (u15, [b115])⟩
theorem t207_ok : Holds (ev X E0) [t207] := ⟨ev_tab (n := 400) (x := xf138) rfl (t := [t206]) (by kernel_rfl) ⟨t206_ok.1, trivial⟩, trivial⟩
def t208 : Fact := ⟨108, [.c (.ptr 0 0)], [b114], (u15, [b115])⟩
theorem t208_ok : Holds (ev X E0) [t208] := ⟨ev_tab (n := 400) (x := xf108) rfl (t := [t207]) (by kernel_rfl) ⟨t207_ok.1, trivial⟩, trivial⟩
def t209 : Fact := ⟨132, [.c (.pv (.str [1, 2, 10, 2, 2, 9]))], [], (.tup [.c (.pv (.int .u64 1)), .c (.pv (.int .i64 1)), .c (.pv (.int .i64 0))], [])⟩
theorem t209_ok : Holds (ev X E0) [t209] := ⟨ev_tab (n := 400) (x := xf132) rfl (t := []) (by kernel_rfl) trivial, trivial⟩
def t210 : Fact := ⟨131, [.c (.ptr 0 0), .c (.fn 132 [])], [b115], (.c (.pv (.int .u64 1)), [b116])⟩
theorem t210_ok : Holds (ev X E0) [t210] := ⟨ev_tab (n := 400) (x := xf131) rfl (t := [t209]) (by kernel_rfl) ⟨t209_ok.1, trivial⟩, trivial⟩
def t211 : Fact := ⟨103, [.c (.ptr 0 0)], [b115], (.c (.pv (.int .u64 1)), [b116])⟩
theorem t211_ok : Holds (ev X E0) [t211] := ⟨ev_tab (n := 400) (x := xf103) rfl (t := [t210]) (by kernel_rfl) ⟨t210_ok.1, trivial⟩, trivial⟩
def t212 : Fact := ⟨132, [.c (.pv (.str [2, 10, 2, 2, 9]))], [], (.tup [.c (.pv (.int .u64 2)), .c (.pv (.int .i64 1)), .c (.pv (.int .i64 0))], [])⟩
theorem t212_ok : Holds (ev X E0) [t212] := ⟨ev_tab (n := 400) (x := xf132) rfl (t := []) (by kernel_rfl) trivial, trivial⟩
def t213 : Fact := ⟨132, [.c (.pv (.str [10, 2, 2, 9]))], [], (.tup [.c (.pv (.int .u64 10)), .c (.pv (.int .i64 1)), .c (.pv (.int .i64 0))], [])⟩
theorem t213_ok : Holds (ev X E0) [t213] := ⟨ev_tab (n := 400) (x := xf132) rfl (t := []) (by kernel_rfl) trivial, trivial⟩
def t214 : Fact := ⟨133, [.c (.pv (.int .u64 2))], [], (.c (.pv (.int .i64 1)), [])⟩
theorem t214_ok : Holds (ev X E0) [t214] := ⟨ev_tab (n := 400) (x := xf133) rfl (t := []) (by kernel_rfl) trivial, trivial⟩
def t215 : Fact := ⟨133, [.c (.pv (.int .u64 10))], [], (.c (.pv (.int .i64 5)), [])⟩
theorem t215_ok : Holds (ev X E0) [t215] := ⟨ev_tab (n := 400) (x := xf133) rfl (t := []) (by kernel_rfl) trivial, trivial⟩
def t216 : Fact := ⟨139, [.c (.pv (.str [2, 10, 2, 2, 9]))], [], (.tup [u16, .c (.pv (.int .i64 2)), .c (.pv (.int .i64 0))], [])⟩
theorem t216_ok : Holds (ev X E0) [t216] := ⟨ev_tab (n := 400) (x := xf139) rfl (t := [t212, t213, t214, t215]) (by kernel_rfl) ⟨t212_ok.1, t213_ok.1, t214_ok.1, t215_ok.1, trivial⟩, trivial⟩
def t217 : Fact := ⟨138, [.c (.ptr 0 0), .c (.fn 139 [])], [b116], (u16, [b117])⟩
theorem t217_ok : Holds (ev X E0) [t217] := ⟨ev_tab (n := 400) (x := xf138) rfl (t := [t216]) (by kernel_rfl) ⟨t216_ok.1, trivial⟩, trivial⟩
def t218 : Fact := ⟨108, [.c (.ptr 0 0)], [b116], (u16, [b117])⟩
theorem t218_ok : Holds (ev X E0) [t218] := ⟨ev_tab (n := 400) (x := xf108) rfl (t := [t217]) (by kernel_rfl) ⟨t217_ok.1, trivial⟩, trivial⟩
def t219 : Fact := ⟨132, [.c (.pv (.str [2, 2, 9]))], [], (.tup [.c (.pv (.int .u64 2)), .c (.pv (.int .i64 1)), .c (.pv (.int .i64 0))], [])⟩
theorem t219_ok : Holds (ev X E0) [t219] := ⟨ev_tab (n := 400) (x := xf132) rfl (t := []) (by kernel_rfl) trivial, trivial⟩
def t220 : Fact := ⟨131, [.c (.ptr 0 0), .c (.fn 132 [])], [b117], (.c (.pv (.int .u64 2)), [b118])⟩
theorem t220_ok : Holds (ev X E0) [t220] := ⟨ev_tab (n := 400) (x := xf131) rfl (t := [t219]) (by kernel_rfl) ⟨t219_ok.1, trivial⟩, trivial⟩
def t221 : Fact := ⟨103, [.c (.ptr 0 0)], [b117], (.c (.pv (.int .u64 2)), [b118])⟩
theorem t221_ok : Holds (ev X E0) [t221] := ⟨ev_tab (n := 400) (x := xf103) rfl (t := [t220]) (by kernel_rfl) ⟨t220_ok.1, trivial⟩, trivial⟩
def t222 : Fact := ⟨132, [.c (.pv (.str [2, 9]))], [], (.tup [.c (.pv (.int .u64 2)), .c (.pv (.int .i64 1)), .c (.pv (.int .i64 0))], [])⟩
theorem t222_ok : Holds (ev X E0) [t222] := ⟨ev_tab (n := 400) (x := xf132) rfl (t := []) (by kernel_rfl) trivial, trivial⟩
def t223 : Fact := ⟨132, [.c (.pv (.str [9]))], [], (.tup [.c (.pv (.int .u64 9)), .c (.pv (.int .i64 1)), .c (.pv (.int .i64 0))], [])⟩
theorem t223_ok : Holds (ev X E0) [t223] := ⟨ev_tab (n := 400) (x := xf132) rfl (t := []) (by kernel_rfl) trivial, trivial⟩
def t224 : Fact := ⟨133, [.c (.pv (.int .u64 9))], [], (.c (.pv (.int .i64 (-5))), [])⟩
theorem t224_ok : Holds (ev X E0) [t224] := ⟨ev_tab (n := 400) (x := xf133) rfl (t := []) (by kernel_rfl) trivial, trivial⟩
def t225 : Fact := ⟨139, [.c (.pv (.str [2, 9]))], [], (.tup [u17, .c (.pv (.int .i64 2)), .c (.pv (.int .i64 0))], [])⟩
theorem t225_ok : Holds (ev X E0) [t225] := ⟨ev_tab (n := 400) (x := xf139) rfl (t := [t222, t223, t214, t224]) (by kernel_rfl) ⟨t222_ok.1, t223_ok.1, t214_ok.1, t224_ok.1, trivial⟩, trivial⟩
def t226 : Fact := ⟨138, [.c (.ptr 0 0), .c (.fn 139 [])], [b118], (u17, [b119])⟩
theorem t226_ok : Holds (ev X E0) [t226] := ⟨ev_tab (n := 400) (x := xf138) rfl (t := [t225]) (by kernel_rfl) ⟨t225_ok.1, trivial⟩, trivial⟩
def t227 : Fact := ⟨108, [.c (.ptr 0 0)], [b118], (u17, [b119])⟩
theorem t227_ok : Holds (ev X E0) [t227] := ⟨ev_tab (n := 400) (x := xf108) rfl (t := [t226]) (by kernel_rfl) ⟨t226_ok.1, trivial⟩, trivial⟩
def t228 : Fact := ⟨140, [.c (.ptr 0 0)], [b119], (.c (.pv (.int .i64 0)), [b119])⟩
theorem t228_ok : Holds (ev X E0) [t228] := ⟨ev_tab (n := 400) (x := xf140) rfl (t := []) (by kernel_rfl) trivial, trivial⟩
def t229 : Fact := ⟨109, [.c (.ptr 0 0)], [b119], (.c (.pv (.int .i64 0)), [b119])⟩
theorem t229_ok : Holds (ev X E0) [t229] := ⟨ev_tab (n := 400) (x := xf109) rfl (t := [t228]) (by kernel_rfl) ⟨t228_ok.1, trivial⟩, trivial⟩
def t230 : Fact := ⟨76, [u121], [], (.c (.pv (.bool true)), [])⟩
theorem t230_ok : Holds (ev X E0) [t230] := ⟨ev_tab (n := 400) (x := xf76) rfl (t := [t5]) (by kernel_rfl) ⟨t5_ok.1, trivial⟩, trivial⟩
def t231 : Fact := ⟨127, [.c (.pv (w120)), .c (.fn 78 [])], [], (.c (.pv (.int .i64 (-1))), [])⟩
theorem t231_ok : Holds (ev X E0) [t231] := ⟨ev_tab (n := 400) (x := xf127) rfl (t := [t9, t10, t11, t12, t13]) (by kernel_rfl) ⟨t9_ok.1, t10_ok.1, t11_ok.1, t12_ok.1, t13_ok.1, trivial⟩, trivial⟩
def t232 : Fact := ⟨75, [.c (.pv (w120)), .c (.fn 78 [])], [], (.c (.pv (.bool false)), [])⟩
theorem t232_ok : Holds (ev X E0) [t232] := ⟨ev_tab (n := 400) (x := xf75) rfl (t := [t231]) (by kernel_rfl) ⟨t231_ok.1, trivial⟩, trivial⟩
def t233 : Fact := ⟨74, [.c (.fn 78 []), .c (.ptr 0 0)], [b122], (.c (.pv (.bool false)), [b122])⟩
theorem t233_ok : Holds (ev X E0) [t233] := ⟨ev_tab (n := 400) (x := xf74) rfl (t := [t232]) (by kernel_rfl) ⟨t232_ok.1, trivial⟩, trivial⟩
def t234 : Fact := ⟨127, [.c (.pv (w120)), .c (.fn 79 [])], [], (.c (.pv (.int .i64 (-1))), [])⟩
theorem t234_ok : Holds (ev X E0) [t234] := ⟨ev_tab (n := 400) (x := xf127) rfl (t := [t19, t20, t21, t24, t25]) (by kernel_rfl) ⟨t19_ok.1, t20_ok.1, t21_ok.1, t24_ok.1, t25_ok.1, trivial⟩, trivial⟩
def t235 : Fact := ⟨75, [.c (.pv (w120)), .c (.fn 79 [])], [], (.c (.pv (.bool false)), [])⟩
theorem t235_ok : Holds (ev X E0) [t235] := ⟨ev_tab (n := 400) (x := xf75) rfl (t := [t234]) (by kernel_rfl) ⟨t234_ok.1, trivial⟩, trivial⟩
def t236 : Fact := ⟨74, [.c (.fn 79 []), .c (.ptr 0 0)], [b122], (.c (.pv (.bool false)), [b122])⟩
theorem t236_ok : Holds (ev X E0) [t236] := ⟨ev_tab (n := 400) (x := xf74) rfl (t := [t235]) (by kernel_rfl) ⟨t235_ok.1, trivial⟩, trivial⟩
def t237 : Fact := ⟨127, [.c (.pv (w120)), .c (.fn 81 [])], [], (.c (.pv (.int .i64 (-1))), [])⟩
theorem t237_ok : Holds (ev X E0) [t237] := ⟨ev_tab (n := 400) (x := xf127) rfl (t := [t30, t32, t34, t36, t38]) (by kernel_rfl) ⟨t30_ok.1, t32_ok.1, t34_ok.1, t36_ok.1, t38_ok.1, trivial⟩, trivial⟩
def t238 : Fact := ⟨75, [.c (.pv (w120)), .c (.fn 81 [])], [], (.c (.pv (.bool false)), [])⟩
theorem t238_ok : Holds (ev X E0) [t238] := ⟨ev_tab (n := 400) (x := xf75) rfl (t := [t237]) (by kernel_rfl) ⟨t237_ok.1, trivial⟩, trivial⟩
def t239 : Fact := ⟨74, [.c (.fn 81 []), .c (.ptr 0 0)], [b122], (.c (.pv (.bool false)), [b122])⟩
theorem t239_ok : Holds (ev X E0) [t239] := ⟨ev_tab (n := 400) (x := xf74) rfl (t := [t238]) (by kernel_rfl) ⟨t238_ok.1, trivial⟩, trivial⟩
def t240 : Fact := ⟨127, [.c (.pv (w120)), .c (.fn 83 [])], [], (.c (.pv (.int .i64 (-1))), [])⟩
theorem t240_ok : Holds (ev X E0) [t240] := ⟨ev_tab (n := 400) (x := xf127) rfl (t := [t42, t43, t44, t45, t46]) (by kernel_rfl) ⟨t42_ok.1, t43_ok.1, t44_ok.1, t45_ok.1, t46_ok.1, trivial⟩, trivial⟩
def t241 : Fact := ⟨75, [.c (.pv (w120)), .c (.fn 83 [])], [], (.c (.pv (.bool false)), [])⟩
theorem t241_ok : Holds (ev X E0) [t241] := ⟨ev_tab (n := 400) (x := xf75) rfl (t := [t240]) (by kernel_rfl) ⟨t240_ok.1, trivial⟩, trivial⟩
def t242 : Fact := ⟨74, [.c (.fn 83 []), .c (.ptr 0 0)], [b122], (.c (.pv (.bool false)), [b122])⟩
theorem t242_ok : Holds (ev X E0) [t242] := ⟨ev_tab (n := 400) (x := xf74) rfl (t := [t241]) (by kernel_rfl) ⟨t241_ok.1, trivial⟩, trivial⟩
def t243 : Fact := ⟨84, [.c (.pv (w120))], [], (.c (.pv (.bool true)), [])⟩
theorem t243_ok : Holds (ev X E0) [t243] := ⟨ev_tab (n := 400) (x := xf84) rfl (t := []) (by kernel_rfl) trivial, trivial⟩
def t244 : Fact := ⟨37, [u121], [], (.c (.pv (.int .i64 0)), [])⟩
theorem t244_ok : Holds (ev X E0) [t244] := ⟨ev_tab (n := 400) (x := xf37) rfl (t := [t230, t7, t8, t233, t236, t239, t242, t243]) (by kernel_rfl) ⟨t230_ok.1, t7_ok.1, t8_ok.1, t233_ok.1, t236_ok.1, t239_ok.1, t242_ok.1, t243_ok.1, trivial⟩, trivial⟩
def t245 : Fact := ⟨49, [.c (.pv (.str [7, 20, 6, 2, 0, 3, 102, 101, 101, 5, 1, 0, 199, 1, 2, 0, 120, 2, 0, 80, 1, 2, 10, 2, 2, 9]))], [], (.tup [u123, .c (.pv (.int .i64 0))], [])⟩
theorem t245_ok : Holds (ev X E0) [t245] := ⟨ev_tab (n := 400) (x := xf49) rfl (t := [t149, t152, t153, t157, t158, t162, t163, t166, t167, t170, t171, t175, t179, t182, t183, t190, t193, t199, t202, t208, t211, t218, t221, t227, t229, t244]) (by kernel_rfl) ⟨t149_ok.1, t152_ok.1, t153_ok.1, t157_ok.1, t158_ok.1, t162_ok.1, t163_ok.1, t166_ok.1, t167_ok.1, t170_ok.1, t171_ok.1, t175_ok.1, t179_ok.1, t182_ok.1, t183_ok.1, t190_ok.1, t193_ok.1, t199_ok.1, t202_ok.1, t208_ok.1, t211_ok.1, t218_ok.1, t221_ok.1, t227_ok.1, t229_ok.1, t244_ok.1, trivial⟩, trivial⟩
def t246 : Fact := ⟨38, [u6, .c (.pv (.int .i64 7)), .c (.pv (.int .i32 10))], [], (.tup [u124, .c (.pv (.int .i64 20))], [])⟩
theorem t246_ok : Holds (ev X E0) [t246] := ⟨ev_tab (n := 400) (x := xf38) rfl (t := [t51]) (by kernel_rfl) ⟨t51_ok.1, trivial⟩, trivial⟩
def t247 : Fact := ⟨101, [.c (.pv (.str [7, 20, 6, 2, 0, 3, 102, 101, 101, 5, 1, 0, 199, 1, 2, 0, 120, 2, 0, 80, 1, 2, 10, 2, 2, 9, 97]))], [], (.c (.ptr 0 0), [b125])⟩
theorem t247_ok : Holds (ev X E0) [t247] := ⟨ev_tab (n := 400) (x := xf101) rfl (t := []) (by kernel_rfl) trivial, trivial⟩
def t248 : Fact := ⟨132, [.c (.pv (.str [7, 20, 6, 2, 0, 3, 102, 101, 101, 5, 1, 0, 199, 1, 2, 0, 120, 2, 0, 80, 1, 2, 10, 2, 2, 9, 97]))], [], (.tup [.c (.pv (.int .u64 7)), .c (.pv (.int .i64 1)), .c (.pv (.int .i64 0))], [])⟩
theorem t248_ok : Holds (ev X E0) [t248] := ⟨ev_tab (n := 400) (x := xf132) rfl (t := []) (by kernel_rfl) trivial, trivial⟩
def t249 : Fact := ⟨131, [.c (.ptr 0 0), .c (.fn 132 [])], [b125], (.c (.pv (.int .u64 7)), [b126])⟩
theorem t249_ok : Holds (ev X E0) [t249] := ⟨ev_tab (n := 400) (x := xf131) rfl (t := [t248]) (by kernel_rfl) ⟨t248_ok.1, trivial⟩, trivial⟩
def t250 : Fact := ⟨103, [.c (.ptr 0 0)], [b125], (.c (.pv (.int .u64 7)), [b126])⟩
theorem t250_ok : Holds (ev X E0) [t250] := ⟨ev_tab (n := 400) (x := xf103) rfl (t := [t249]) (by kernel_rfl) ⟨t249_ok.1, trivial⟩, trivial⟩
def t251 : Fact := ⟨132, [.c (.pv (.str [20, 6, 2, 0, 3, 102, 101, 101, 5, 1, 0, 199, 1, 2, 0, 120, 2, 0, 80, 1, 2, 10, 2, 2, 9, 97]))], [], (.tup [.c (.pv (.int .u64 20)), .c (.pv (.int .i64 1)), .c (.pv (.int .i64 0))], [])⟩
theorem t251_ok : Holds (ev X E0) [t251] := ⟨ev_tab (n := 400) (x := xf132) rfl (t := []) (by kernel_rfl) trivial, trivial⟩
def t252 : Fact := ⟨131, [.c (.ptr 0 0), .c (.fn 132 [])], [b126], (.c (.pv (.int .u64 20)), [b127])⟩
theorem t252_ok : Holds (ev X E0) [t252] := ⟨ev_tab (n := 400) (x := xf131) rfl (t := [t251]) (by kernel_rfl) ⟨t251_ok.1, trivial⟩, trivial⟩
def t253 : Fact := ⟨105, [.c (.ptr 0 0)], [b126], (.c (.pv (.int .i64 10)), [b127])⟩
theorem t253_ok : Holds (ev X E0) [t253] := ⟨ev_tab (n := 400) (x := xf105) rfl (t := [t252, t156]) (by kernel_rfl) ⟨t252_ok.1, t156_ok.1, trivial⟩, trivial⟩
def t254 : Fact := ⟨132, [.c (.pv (.str [6, 2, 0, 3, 102, 101, 101, 5, 1, 0, 199, 1, 2, 0, 120, 2, 0, 80, 1, 2, 10, 2, 2, 9, 97]))], [], (.tup [.c (.pv (.int .u64 6)), .c (.pv (.int .i64 1)), .c (.pv (.int .i64 0))], [])⟩
theorem t254_ok : Holds (ev X E0) [t254] := ⟨ev_tab (n := 400) (x := xf132) rfl (t := []) (by kernel_rfl) trivial, trivial⟩
def t255 : Fact := ⟨131, [.c (.ptr 0 0), .c (.fn 132 [])], [b127], (.c (.pv (.int .u64 6)), [b128])⟩
theorem t255_ok : Holds (ev X E0) [t255] := ⟨ev_tab (n := 400) (x := xf131) rfl (t := [t254]) (by kernel_rfl) ⟨t254_ok.1, trivial⟩, trivial⟩
def t256 : Fact := ⟨105, [.c (.ptr 0 0)], [b127], (.c (.pv (.int .i64 3)), [b128])⟩
theorem t256_ok : Holds (ev X E0) [t256] := ⟨ev_tab (n := 400) (x := xf105) rfl (t := [t255, t161]) (by kernel_rfl) ⟨t255_ok.1, t161_ok.1, trivial⟩, trivial⟩
def t257 : Fact := ⟨132, [.c (.pv (.str [2, 0, 3, 102, 101, 101, 5, 1, 0, 199, 1, 2, 0, 120, 2, 0, 80, 1, 2, 10, 2, 2, 9, 97]))], [], (.tup [.c (.pv (.int .u64 2)), .c (.pv (.int .i64 1)), .c (.pv (.int .i64 0))], [])⟩
theorem t257_ok : Holds (ev X E0) [t257] := ⟨ev_tab (n := 400) (x := xf132) rfl (t := []) (by kernel_rfl) trivial, trivial⟩
def t258 : Fact := ⟨131, [.c (.ptr 0 0), .c (.fn 132 [])], [b128], (.c (.pv (.int .u64 2)), [b129])⟩
theorem t258_ok : Holds (ev X E0) [t258] := ⟨ev_tab (n := 400) (x := xf131) rfl (t := [t257]) (by kernel_rfl) ⟨t257_ok.1, trivial⟩, trivial⟩
def t259 : Fact := ⟨103, [.c (.ptr 0 0)], [b128], (.c (.pv (.int .u64 2)), [b129])⟩
theorem t259_ok : Holds (ev X E0) [t259] := ⟨ev_tab (n := 400) (x := xf103) rfl (t := [t258]) (by kernel_rfl) ⟨t258_ok.1, trivial⟩, trivial⟩
def t260 : Fact := ⟨132, [.c (.pv (.str [0, 3, 102, 101, 101, 5, 1, 0, 199, 1, 2, 0, 120, 2, 0, 80, 1, 2, 10, 2, 2, 9, 97]))], [], (.tup [.c (.pv (.int .u64 0)), .c (.pv (.int .i64 1)), .c (.pv (.int .i64 0))], [])⟩
theorem t260_ok : Holds (ev X E0) [t260] := ⟨ev_tab (n := 400) (x := xf132) rfl (t := []) (by kernel_rfl) trivial, trivial⟩
def t261 : Fact := ⟨131, [.c (.ptr 0 0), .c (.fn 132 [])], [b129], (.c (.pv (.int .u64 0)), [b130])⟩
theorem t261_ok : Holds (ev X E0) [t261] := ⟨ev_tab (n := 400) (x := xf131) rfl (t := [t260]) (by kernel_rfl) ⟨t260_ok.1, trivial⟩, trivial⟩
def t262 : Fact := ⟨103, [.c (.ptr 0 0)], [b129], (.c (.pv (.int .u64 0)), [b130])⟩
theorem t262_ok : Holds (ev X E0) [t262] := ⟨ev_tab (n := 400) (x := xf103) rfl (t := [t261]) (by kernel_rfl) ⟨t261_ok.1, trivial⟩, trivial⟩
def t263 : Fact := ⟨132, [.c (.pv (.str [3, 102, 101, 101, 5, 1, 0, 199, 1, 2, 0, 120, 2, 0, 80, 1, 2, 10, 2, 2, 9, 97]))], [], (.tup [.c (.pv (.int .u64 3)), .c (.pv (.int .i64 1)), .c (.pv (.int .i64 0))], [])⟩
theorem t263_ok : Holds (ev X E0) [t263] := ⟨ev_tab (n := 400) (x := xf132) rfl (t := []) (by kernel_rfl) trivial, trivial⟩
def t264 : Fact := ⟨135, [.c (.pv (.str [3, 102, 101, 101, 5, 1, 0, 199, 1, 2, 0, 120, 2, 0, 80, 1, 2, 10, 2, 2, 9, 97])), .c (.ptr 0 0)], [b106], (.tup [.c (.pv (.str [102, 101, 101])), .c (.pv (.int .i64 4)), .c (.pv (.int .i64 0))], [b106])⟩
theorem t264_ok : Holds (ev X E0) [t264] := ⟨ev_tab (n := 400) (x := xf135) rfl (t := [t263]) (by kernel_rfl) ⟨t263_ok.1, trivial⟩, trivial⟩
def t265 : Fact := ⟨134, [.c (.ptr 0 0), .c (.fn 135 [1])], [b130, b106], (.c (.pv (.str [102, 101, 101])), [b131, b106])⟩
theorem t265_ok : Holds (ev X E0) [t265] := ⟨ev_tab (n := 400) (x := xf134) rfl (t := [t264]) (by kernel_rfl) ⟨t264_ok.1, trivial⟩, trivial⟩
def t266 : Fact := ⟨106, [.c (.ptr 0 0), .c (.pv (.int .i64 32))], [b130], (.c (.pv (.str [102, 101, 101])), [b131])⟩
theorem t266_ok : Holds (ev X E0) [t266] := ⟨ev_tab (n := 400) (x := xf106) rfl (t := [t265]) (by kernel_rfl) ⟨t265_ok.1, trivial⟩, trivial⟩
def t267 : Fact := ⟨132, [.c (.pv (.str [5, 1, 0, 199, 1, 2, 0, 120, 2, 0, 80, 1, 2, 10, 2, 2, 9, 97]))], [], (.tup [.c (.pv (.int .u64 5)), .c (.pv (.int .i64 1)), .c (.pv (.int .i64 0))], [])⟩
theorem t267_ok : Holds (ev X E0) [t267] := ⟨ev_tab (n := 400) (x := xf132) rfl (t := []) (by kernel_rfl) trivial, trivial⟩
def t268 : Fact := ⟨137, [.c (.pv (.str [5, 1, 0, 199, 1, 2, 0, 120, 2, 0, 80, 1, 2, 10, 2, 2, 9, 97])), .c (.ptr 0 0)], [b108], (.tup [.c (.pv (.int .i64 5)), .c (.pv (.int .i64 1)), .c (.pv (.int .i64 0))], [b108])⟩
theorem t268_ok : Holds (ev X E0) [t268] := ⟨ev_tab (n := 400) (x := xf137) rfl (t := [t267]) (by kernel_rfl) ⟨t267_ok.1, trivial⟩, trivial⟩
def t269 : Fact := ⟨136, [.c (.ptr 0 0), .c (.fn 137 [1])], [b131, b108], (.c (.pv (.int .i64 5)), [b132, b108])⟩
theorem t269_ok : Holds (ev X E0) [t269] := ⟨ev_tab (n := 400) (x := xf136) rfl (t := [t268]) (by kernel_rfl) ⟨t268_ok.1, trivial⟩, trivial⟩
def t270 : Fact := ⟨107, [.c (.ptr 0 0), .c (.pv (.int .i64 16))], [b131], (.c (.pv (.int .i64 5)), [b132])⟩
theorem t270_ok : Holds (ev X E0) [t270] := ⟨ev_tab (n := 400) (x := xf107) rfl (t := [t269]) (by kernel_rfl) ⟨t269_ok.1, trivial⟩, trivial⟩
def t271 : Fact := ⟨132, [.c (.pv (.str [1, 0, 199, 1, 2, 0, 120, 2, 0, 80, 1, 2, 10, 2, 2, 9, 97]))], [], (.tup [.c (.pv (.int .u64 1)), .c (.pv (.int .i64 1)), .c (.pv (.int .i64 0))], [])⟩
theorem t271_ok : Holds (ev X E0) [t271] := ⟨ev_tab (n := 400) (x := xf132) rfl (t := []) (by kernel_rfl) trivial, trivial⟩
def t272 : Fact := ⟨131, [.c (.ptr 0 0), .c (.fn 132 [])], [b132], (.c (.pv (.int .u64 1)), [b133])⟩
theorem t272_ok : Holds (ev X E0) [t272] := ⟨ev_tab (n := 400) (x := xf131) rfl (t := [t271]) (by kernel_rfl) ⟨t271_ok.1, trivial⟩, trivial⟩
def t273 : Fact := ⟨103, [.c (.ptr 0 0)], [b132], (.c (.pv (.int .u64 1)), [b133])⟩
theorem t273_ok : Holds (ev X E0) [t273] := ⟨ev_tab (n := 400) (x := xf103) rfl (t := [t272]) (by kernel_rfl) ⟨t272_ok.1, trivial⟩, trivial⟩
def t274 : Fact := ⟨132, [.c (.pv (.str [0, 199, 1, 2, 0, 120, 2, 0, 80, 1, 2, 10, 2, 2, 9, 97]))], [], (.tup [.c (.pv (.int .u64 0)), .c (.pv (.int .i64 1)), .c (.pv (.int .i64 0))], [])⟩
theorem t274_ok : Holds (ev X E0) [t274] := ⟨ev_tab (n := 400) (x := xf132) rfl (t := []) (by kernel_rfl) trivial, trivial⟩
def t275 : Fact := ⟨132, [.c (.pv (.str [199, 1, 2, 0, 120, 2, 0, 80, 1, 2, 10, 2, 2, 9, 97]))], [], (.tup [.c (.pv (.int .u64 199)), .c (.pv (.int .i64 2)), .c (.pv (.int .i64 0))], [])⟩
theorem t275_ok : Holds (ev X E0) [t275] := ⟨ev_tab (n := 400) (x := xf132) rfl (t := []) (by kernel_rfl) trivial, trivial⟩
def t276 : Fact := ⟨139, [.c (.pv (.str [0, 199, 1, 2, 0, 120, 2, 0, 80, 1, 2, 10, 2, 2, 9, 97]))], [], (.tup [u13, .c (.pv (.int .i64 3)), .c (.pv (.int .i64 0))], [])⟩
theorem t276_ok : Holds (ev X E0) [t276] := ⟨ev_tab (n := 400) (x := xf139) rfl (t := [t274, t275, t186, t187]) (by kernel_rfl) ⟨t274_ok.1, t275_ok.1, t186_ok.1, t187_ok.1, trivial⟩, trivial⟩
def t277 : Fact := ⟨138, [.c (.ptr 0 0), .c (.fn 139 [])], [b133], (u13, [b134])⟩
theorem t277_ok : Holds (ev X E0) [t277] := ⟨ev_tab (n := 400) (x := xf138) rfl (t := [t276]) (by kernel_rfl) ⟨t276_ok.1, trivial⟩, trivial⟩
def t278 : Fact := ⟨108, [.c (.ptr 0 0)], [b133], (u13, [b134])⟩
theorem t278_ok : Holds (ev X E0) [t278] := ⟨ev_tab (n := 400) (x := xf108) rfl (t := [t277]) (by kernel_rfl) ⟨t277_ok.1, trivial⟩, trivial⟩
def t279 : Fact := ⟨132, [.c (.pv (.str [2, 0, 120, 2, 0, 80, 1, 2, 10, 2, 2, 9, 97]))], [], (.tup [.c (.pv (.int .u64 2)), .c (.pv (.int .i64 1)), .c (.pv (.int .i64 0))], [])⟩
theorem t279_ok : Holds (ev X E0) [t279] := ⟨ev_tab (n := 400) (x := xf132) rfl (t := []) (by kernel_rfl) trivial, trivial⟩
def t280 : Fact := ⟨131, [.c (.ptr 0 0), .c (.fn 132 [])], [b134], (.c (.pv (.int .u64 2)), [b135])⟩
theorem t280_ok : Holds (ev X E0) [t280] := ⟨ev_tab (n := 400) (x := xf131) rfl (t := [t279]) (by kernel_rfl) ⟨t279_ok.1, trivial⟩, trivial⟩
def t281 : Fact := ⟨103, [.c (.ptr 0 0)], [b134], (.c (.pv (.int .u64 2)), [b135])⟩
theorem t281_ok : Holds (ev X E0) [t281] := ⟨ev_tab (n := 400) (x := xf103) rfl (t := [t280]) (by kernel_rfl) ⟨t280_ok.1, trivial⟩, trivial⟩
def t282 : Fact := ⟨132, [.c (.pv (.str [0, 120, 2, 0, 80, 1, 2, 10, 2, 2, 9, 97]))], [], (.tup [.c (.pv (.int .u64 0)), .c (.pv (.int .i64 1)), .c (.pv (.int .i64 0))], [])⟩
theorem t282_ok : Holds (ev X E0) [t282] := ⟨ev_tab (n := 400) (x := xf132) rfl (t := []) (by kernel_rfl) trivial, trivial⟩
def t283 : Fact := ⟨132, [.c (.pv (.str [120, 2, 0, 80, 1, 2, 10, 2, 2, 9, 97]))], [], (.tup [.c (.pv (.int .u64 120)), .c (.pv (.int .i64 1)), .c (.pv (.int .i64 0))], [])⟩
theorem t283_ok : Holds (ev X E0) [t283] := ⟨ev_tab (n := 400) (x := xf132) rfl (t := []) (by kernel_rfl) trivial, trivial⟩
def t284 : Fact := ⟨139, [.c (.pv (.str [0, 120, 2, 0, 80, 1, 2, 10, 2, 2, 9, 97]))], [], (.tup [u14, .c (.pv (.int .i64 2)), .c (.pv (.int .i64 0))], [])⟩
theorem t284_ok : Holds (ev X E0) [t284] := ⟨ev_tab (n := 400) (x := xf139) rfl (t := [t282, t283, t186, t196]) (by kernel_rfl) ⟨t282_ok.1, t283_ok.1, t186_ok.1, t196_ok.1, trivial⟩, trivial⟩
def t285 : Fact := ⟨138, [.c (.ptr 0 0), .c (.fn 139 [])], [b135], (u14, [b136])⟩
theorem t285_ok : Holds (ev X E0) [t285] := ⟨ev_tab (n := 400) (x := xf138) rfl (t := [t284]) (by kernel_rfl) ⟨t284_ok.1, trivial⟩, trivial⟩
def t286 : Fact := ⟨108, [.c (.ptr 0 0)], [b135], (u14, [b136])⟩
theorem t286_ok : Holds (ev X E0) [t286] := ⟨ev_tab (n := 400) (x := xf108) rfl (t := [t285]) (by kernel_rfl) ⟨t285_ok.1, trivial⟩, trivial⟩
def t287 : Fact := ⟨132, [.c (.pv (.str [2, 0, 80, 1, 2, 10, 2, 2, 9, 97]))], [], (.tup [.c (.pv (.int .u64 2)), .c (.pv (.int .i64 1)), .c (.pv (.int .i64 0))], [])⟩
theorem t287_ok : Holds (ev X E0) [t287] := ⟨ev_tab (n := 400) (x := xf132) rfl (t := []) (by kernel_rfl) trivial, trivial⟩
def t288 : Fact := ⟨131, [.c (.ptr 0 0), .c (.fn 132 [])], [b136], (.c (.pv (.int .u64 2)), [b137])⟩
theorem t288_ok : Holds (ev X E0) [t288] := ⟨ev_tab (n := 400) (x := xf131) rfl (t := [t287]) (by kernel_rfl) ⟨t287_ok.1, trivial⟩, trivial⟩
def t289 : Fact := ⟨103, [.c (.ptr 0 0)], [b136], (.c (.pv (.int .u64 2)), [b137])⟩
theorem t289_ok : Holds (ev X E0) [t289] := ⟨ev_tab (n := 400) (x := xf103) rfl (t := [t288]) (by kernel_rfl) ⟨t288_ok.1, trivial⟩, trivial⟩
def t290 : Fact := ⟨132, [.c (.pv (.str [0, 80, 1, 2, 10, 2, 2, 9, 97]))], [], (.tup [.c (.pv (.int .u64 0)), .c (.pv (.int .i64 1)), .c (.pv (.int .i64 0))], [])⟩
theorem t290_ok : Holds (ev X E0) [t290] := ⟨ev_tab (n := 400) (x := xf132) rfl (t := []) (by kernel_rfl) trivial, trivial⟩
def t291 : Fact := ⟨132, [.c (.pv (.str [80, 1, 2, 10, 2, 2, 9, 97]))], [], (.tup [.c (.pv (.int .u64 80)), .c (.pv (.int .i64 1)), .c (.pv (.int .i64 0))], [])⟩
theorem t291_ok : Holds (ev X E0) [t291] := ⟨ev_tab (n := 400) (x := xf132) rfl (t := []) (by kernel_rfl) trivial, trivial⟩
def t292 : Fact := ⟨139, [.c (.pv (.str [0, 80, 1, 2, 10, 2, 2, 9, 97]))], [], (.tup [u15, .c (.pv (.int .i64 2)), .c (.pv (.int .i64 0))], [])⟩
theorem t292_ok : Holds (ev X E0) [t292] := ⟨ev_tab (n := 400) (x := xf139) rfl (t := [t290, t291, t186, t205]) (by kernel_rfl) ⟨t290_ok.1, t291_ok.1, t186_ok.1, t205_ok.1, trivial⟩, trivial⟩
def t293 : Fact := ⟨138, [.c (.ptr 0 0), .c (.fn 139 [])], [b137], (u15, [b138])⟩
theorem t293_ok : Holds (ev X E0) [t293] := ⟨ev_tab (n := 400) (x := xf138) rfl (t := [t292]) (by kernel_rfl) ⟨t292_ok.1, trivial⟩, trivial⟩
def t294 : Fact := ⟨108, [.c (.ptr 0 0)], [b137], (u15, [b138])⟩
theorem t294_ok : Holds (ev X E0) [t294] := ⟨ev_tab (n := 400) (x := xf108) rfl (t := [t293]) (by kernel_rfl) ⟨t293_ok.1, trivial⟩, trivial⟩
def t295 : Fact := ⟨132, [.c (.pv (.str [1, 2, 10, 2, 2, 9, 97]))], [], (.tup [.c (.pv (.int .u64 1)), .c (.pv (.int .i64 1)), .c (.pv (.int .i64 0))], [])⟩
theorem t295_ok : Holds (ev X E0) [t295] := ⟨ev_tab (n := 400) (x := xf132) rfl (t := []) (by kernel_rfl) trivial, trivial⟩
def t296 : Fact := ⟨131, [.c (.ptr 0 0), .c (.fn 132 [])], [b138], (.c (.pv (.int .u64 1)), [b139])⟩
theorem t296_ok : Holds (ev X E0) [t296] := ⟨ev_tab (n := 400) (x := xf131) rfl (t := [t295]) (by kernel_rfl) ⟨t295_ok.1, trivial⟩, trivial⟩
def t297 : Fact := ⟨103, [.c (.ptr 0 0)], [b138], (.c (.pv (.int .u64 1)), [b139])⟩
theorem t297_ok : Holds (ev X E0) [t297] := ⟨ev_tab (n := 400) (x := xf103) rfl (t := [t296]) (by kernel_rfl) ⟨t296_ok.1, trivial⟩, trivial⟩
def t298 : Fact := ⟨132, [.c (.pv (.str [2, 10, 2, 2, 9, 97]))], [], (.tup [.c (.pv (.int .u64 2)), .c (.pv (.int .i64 1)), .c (.pv (.int .i64 0))], [])⟩
theorem t298_ok : Holds (ev X E0) [t298] := ⟨ev_tab (n := 400) (x := xf132) rfl (t := []) (by kernel_rfl) trivial, trivial⟩
def t299 : Fact := ⟨132, [.c (.pv (.str [10, 2, 2, 9, 97]))], [], (.tup [.c (.pv (.int .u64 10)), .c (.pv (.int .i64 1)), .c (.pv (.int .i64 0))], [])⟩
theorem t299_ok : Holds (ev X E0) [t299] := ⟨ev_tab (n := 400) (x := xf132) rfl (t := []) (by kernel_rfl) trivial, trivial⟩
def t300 : Fact := ⟨139, [.c (.pv (.str [2, 10, 2, 2, 9, 97]))], [], (.tup [u16, .c (.pv (.int .i64 2)), .c (.pv (.int .i64 0))], [])⟩
theorem t300_ok : Holds (ev X E0) [t300] := ⟨ev_tab (n := 400) (x := xf139) rfl (t := [t298, t299, t214, t215]) (by kernel_rfl) ⟨t298_ok.1, t299_ok.1, t214_ok.1, t215_ok.1, trivial⟩, trivial⟩
def t301 : Fact := ⟨138, [.c (.ptr 0 0), .c (.fn 139 [])], [b139], (u16, [b140])⟩
theorem t301_ok : Holds (ev X E0) [t301] := ⟨ev_tab (n := 400) (x := xf138) rfl (t := [t300]) (by kernel_rfl) ⟨t300_ok.1, trivial⟩, trivial⟩
def t302 : Fact := ⟨108, [.c (.ptr 0 0)], [b139], (u16, [b140])⟩
theorem t302_ok : Holds (ev X E0) [t302] := ⟨ev_tab (n := 400) (x := xf108) rfl (t := [t301]) (by kernel_rfl) ⟨t301_ok.1, trivial⟩, trivial⟩
def t303 : Fact := ⟨132, [.c (.pv (.str [2, 2, 9, 97]))], [], (.tup [.c (.pv (.int .u64 2)), .c (.pv (.int .i64 1)), .c (.pv (.int .i64 0))], [])⟩
theorem t303_ok : Holds (ev X E0) [t303] := ⟨ev_tab (n := 400) (x := xf132) rfl (t := []) (by kernel_rfl) trivial, trivial⟩
def t304 : Fact := ⟨131, [.c (.ptr 0 0), .c (.fn 132 [])], [b140], (.c (.pv (.int .u64 2)), [b141])⟩
theorem t304_ok : Holds (ev X E0) [t304] := ⟨ev_tab (n := 400) (x := xf131) rfl (t := [t303]) (by kernel_rfl) ⟨t303_ok.1, trivial⟩, trivial⟩
def t305 : Fact := ⟨103, [.c (.ptr 0 0)], [b140], (.c (.pv (.int .u64 2)), [b141])⟩
theorem t305_ok : Holds (ev X E0) [t305] := ⟨ev_tab (n := 400) (x := xf103) rfl (t := [t304]) (by kernel_rfl) ⟨t304_ok.1, trivial⟩, trivial⟩
def t306 : Fact := ⟨132, [.c (.pv (.str [2, 9, 97]))], [], (.tup [.c (.pv (.int .u64 2)), .c (.pv (.int .i64 1)), .c (.pv (.int .i64 0))], [])⟩
theorem t306_ok : Holds (ev X E0) [t306] := ⟨ev_tab (n := 400) (x := xf132) rfl (t := []) (by kernel_rfl) trivial, trivial⟩
def t307 : Fact := ⟨132, [.c (.pv (.str [9, 97]))], [], (.tup [.c (.pv (.int .u64 9)), .c (.pv (.int .i64 1)), .c (.pv (.int .i64 0))], [])⟩
theorem t307_ok : Holds (ev X E0) [t307] := ⟨ev_tab (n := 400) (x := xf132) rfl (t := []) (by kernel_rfl) trivial, trivial⟩
def t308 : Fact := ⟨139, [.c (.pv (.str [2, 9, 97]))], [], (.tup [u17, .c (.pv (.int .i64 2)), .c (.pv (.int .i64 0))], [])⟩
theorem t308_ok : Holds (ev X E0) [t308] := ⟨ev_tab (n := 400) (x := xf139) rfl (t := [t306, t307, t214, t224]) (by kernel_rfl) ⟨t306_ok.1, t307_ok.1, t214_ok.1, t224_ok.1, trivial⟩, trivial⟩
def t309 : Fact := ⟨138, [.c (.ptr 0 0), .c (.fn 139 [])], [b141], (u17, [b142])⟩
theorem t309_ok : Holds (ev X E0) [t309] := ⟨ev_tab (n := 400) (x := xf138) rfl (t := [t308]) (by kernel_rfl) ⟨t308_ok.1, trivial⟩, trivial⟩
def t310 : Fact := ⟨108, [.c (.ptr 0 0)], [b141], (u17, [b142])⟩
theorem t310_ok : Holds (ev X E0) [t310] := ⟨ev_tab (n := 400) (x := xf108) rfl (t := [t309]) (by kernel_rfl) ⟨t309_ok.1, trivial⟩, trivial⟩
def t311 : Fact := ⟨140, [.c (.ptr 0 0)], [b142], (.c (.pv (.int .i64 0)), [b142])⟩
theorem t311_ok : Holds (ev X E0) [t311] := ⟨ev_tab (n := 400) (x := xf140) rfl (t := []) (by kernel_rfl) trivial, trivial⟩
def t312 : Fact := ⟨109, [.c (.ptr 0 0)], [b142], (.c (.pv (.int .i64 3)), [b142])⟩
theorem t312_ok : Holds (ev X E0) [t312] := ⟨ev_tab (n := 400) (x := xf109) rfl (t := [t311]) (by kernel_rfl) ⟨t311_ok.1, trivial⟩, trivial⟩
def t313 : Fact := ⟨49, [.c (.pv (.str [7, 20, 6, 2, 0, 3, 102, 101, 101, 5, 1, 0, 199, 1, 2, 0, 120, 2, 0, 80, 1, 2, 10, 2, 2, 9, 97]))], [], (.tup [u124, .c (.pv (.int .i64 3))], [])⟩
theorem t313_ok : Holds (ev X E0) [t313] := ⟨ev_tab (n := 400) (x := xf49) rfl (t := [t247, t250, t153, t253, t158, t256, t163, t259, t167, t262, t171, t266, t270, t273, t183, t278, t281, t286, t289, t294, t297, t302, t305, t310, t312]) (by kernel_rfl) ⟨t247_ok.1, t250_ok.1, t153_ok.1, t253_ok.1, t158_ok.1, t256_ok.1, t163_ok.1, t259_ok.1, t167_ok.1, t262_ok.1, t171_ok.1, t266_ok.1, t270_ok.1, t273_ok.1, t183_ok.1, t278_ok.1, t281_ok.1, t286_ok.1, t289_ok.1, t294_ok.1, t297_ok.1, t302_ok.1, t305_ok.1, t310_ok.1, t312_ok.1, trivial⟩, trivial⟩
def t314 : Fact := ⟨88, [u25, .c (.ptr 0 0), .c (.ptr 1 0)], [b34, b35], (.c (.pv (.bool false)), [b34, b35])⟩
theorem t314_ok : Holds (ev X E0) [t314] := ⟨ev_tab (n := 400) (x := xf88) rfl (t := []) (by kernel_rfl) trivial, trivial⟩
def t315 : Fact := ⟨88, [u26, .c (.ptr 0 0), .c (.ptr 1 0)], [b34, b35], (.c (.pv (.bool true)), [b34, b35])⟩
theorem t315_ok : Holds (ev X E0) [t315] := ⟨ev_tab (n := 400) (x := xf88) rfl (t := []) (by kernel_rfl) trivial, trivial⟩
def t316 : Fact := ⟨88, [u27, .c (.ptr 0 0), .c (.ptr 1 0)], [b34, b35], (.c (.pv (.bool true)), [b34, b35])⟩
theorem t316_ok : Holds (ev X E0) [t316] := ⟨ev_tab (n := 400) (x := xf88) rfl (t := []) (by kernel_rfl) trivial, trivial⟩
def t317 : Fact := ⟨88, [u28, .c (.ptr 0 0), .c (.ptr 1 0)], [b34, b35], (.c (.pv (.bool false)), [b34, b35])⟩
theorem t317_ok : Holds (ev X E0) [t317] := ⟨ev_tab (n := 400) (x := xf88) rfl (t := []) (by kernel_rfl) trivial, trivial⟩
def t318 : Fact := ⟨88, [u29, .c (.ptr 0 0), .c (.ptr 1 0)], [b34, b35], (.c (.pv (.bool false)), [b34, b35])⟩
theorem t318_ok : Holds (ev X E0) [t318] := ⟨ev_tab (n := 400) (x := xf88) rfl (t := []) (by kernel_rfl) trivial, trivial⟩
def t319 : Fact := ⟨87, [u24, .c (.fn 88 [0, 1])], [b34, b35], (.tup [.c (.pv (.int .i64 (-100))), .c (.pv (.int .i64 0))], [b34, b35])⟩
theorem t319_ok : Holds (ev X E0) [t319] := ⟨ev_tab (n := 400) (x := xf87) rfl (t := [t90, t314, t315, t316, t317, t318]) (by kernel_rfl) ⟨t90_ok.1, t314_ok.1, t315_ok.1, t316_ok.1, t317_ok.1, t318_ok.1, trivial⟩, trivial⟩
def t320 : Fact := ⟨40, [u24, .c (.pv (.int .i64 2)), .c (.pv (.int .i64 0))], [], (.tup [.c (.pv (.int .i64 (-100))), .c (.pv (.int .i64 0))], [])⟩
theorem t320_ok : Holds (ev X E0) [t320] := ⟨ev_tab (n := 400) (x := xf40) rfl (t := [t319]) (by kernel_rfl) ⟨t319_ok.1, trivial⟩, trivial⟩
def t321 : Fact := ⟨96, [.c (.pv (w120)), .c (.pv (w5))], [], (.c (.pv (.bool true)), [])⟩
theorem t321_ok : Holds (ev X E0) [t321] := ⟨ev_tab (n := 400) (x := xf96) rfl (t := []) (by kernel_rfl) trivial, trivial⟩
def t322 : Fact := ⟨43, [u121, u6], [], (.c (.pv (.bool true)), [])⟩
theorem t322_ok : Holds (ev X E0) [t322] := ⟨ev_tab (n := 400) (x := xf43) rfl (t := [t321]) (by kernel_rfl) ⟨t321_ok.1, trivial⟩, trivial⟩
def t323 : Fact := ⟨76, [u144], [], (.c (.pv (.bool true)), [])⟩
theorem t323_ok : Holds (ev X E0) [t323] := ⟨ev_tab (n := 400) (x := xf76) rfl (t := [t5]) (by kernel_rfl) ⟨t5_ok.1, trivial⟩, trivial⟩
def t324 : Fact := ⟨127, [.c (.pv (w143)), .c (.fn 78 [])], [], (.c (.pv (.int .i64 (-1))), [])⟩
theorem t324_ok : Holds (ev X E0) [t324] := ⟨ev_tab (n := 400) (x := xf127) rfl (t := [t9, t10, t11, t12]) (by kernel_rfl) ⟨t9_ok.1, t10_ok.1, t11_ok.1, t12_ok.1, trivial⟩, trivial⟩
def t325 : Fact := ⟨75, [.c (.pv (w143)), .c (.fn 78 [])], [], (.c (.pv (.bool false)), [])⟩
theorem t325_ok : Holds (ev X E0) [t325] := ⟨ev_tab (n := 400) (x := xf75) rfl (t := [t324]) (by kernel_rfl) ⟨t324_ok.1, trivial⟩, trivial⟩
def t326 : Fact := ⟨74, [.c (.fn 78 []), .c (.ptr 0 0)], [b145], (.c (.pv (.bool false)), [b145])⟩
theorem t326_ok : Holds (ev X E0) [t326] := ⟨ev_tab (n := 400) (x := xf74) rfl (t := [t325]) (by kernel_rfl) ⟨t325_ok.1, trivial⟩, trivial⟩
def t327 : Fact := ⟨127, [.c (.pv (w143)), .c (.fn 79 [])], [], (.c (.pv (.int .i64 (-1))), [])⟩
theorem t327_ok : Holds (ev X E0) [t327] := ⟨ev_tab (n := 400) (x := xf127) rfl (t := [t19, t20, t21, t24]) (by kernel_rfl) ⟨t19_ok.1, t20_ok.1, t21_ok.1, t24_ok.1, trivial⟩, trivial⟩
def t328 : Fact := ⟨75, [.c (.pv (w143)), .c (.fn 79 [])], [], (.c (.pv (.bool false)), [])⟩
theorem t328_ok : Holds (ev X E0) [t328] := ⟨ev_tab (n := 400) (x := xf75) rfl (t := [t327]) (by kernel_rfl) ⟨t327_ok.1, trivial⟩, trivial⟩
def t329 : Fact := ⟨74, [.c (.fn 79 []), .c (.ptr 0 0)], [b145], (.c (.pv (.bool false)), [b145])⟩
theorem t329_ok : Holds (ev X E0) [t329] := ⟨ev_tab (n := 400) (x := xf74) rfl (t := [t328]) (by kernel_rfl) ⟨t328_ok.1, trivial⟩, trivial⟩
def t330 : Fact := ⟨127, [.c (.pv (w143)), .c (.fn 81 [])], [], (.c (.pv (.int .i64 (-1))), [])⟩
theorem t330_ok : Holds (ev X E0) [t330] := ⟨ev_tab (n := 400) (x := xf127) rfl (t := [t30, t32, t34, t36]) (by kernel_rfl) ⟨t30_ok.1, t32_ok.1, t34_ok.1, t36_ok.1, trivial⟩, trivial⟩
def t331 : Fact := ⟨75, [.c (.pv (w143)), .c (.fn 81 [])], [], (.c (.pv (.bool false)), [])⟩
theorem t331_ok : Holds (ev X E0) [t331] := ⟨ev_tab (n := 400) (x := xf75) rfl (t := [t330]) (by kernel_rfl) ⟨t330_ok.1, trivial⟩, trivial⟩
def t332 : Fact := ⟨74, [.c (.fn 81 []), .c (.ptr 0 0)], [b145], (.c (.pv (.bool false)), [b145])⟩
theorem t332_ok : Holds (ev X E0) [t332] := ⟨ev_tab (n := 400) (x := xf74) rfl (t := [t331]) (by kernel_rfl) ⟨t331_ok.1, trivial⟩, trivial⟩
def t333 : Fact := ⟨127, [.c (.pv (w143)), .c (.fn 83 [])], [], (.c (.pv (.int .i64 (-1))), [])⟩
theorem t333_ok : Holds (ev X E0) [t333] := ⟨ev_tab (n := 400) (x := xf127) rfl (t := [t42, t43, t44, t45]) (by kernel_rfl) ⟨t42_ok.1, t43_ok.1, t44_ok.1, t45_ok.1, trivial⟩, trivial⟩
def t334 : Fact := ⟨75, [.c (.pv (w143)), .c (.fn 83 [])], [], (.c (.pv (.bool false)), [])⟩
theorem t334_ok : Holds (ev X E0) [t334] := ⟨ev_tab (n := 400) (x := xf75) rfl (t := [t333]) (by kernel_rfl) ⟨t333_ok.1, trivial⟩, trivial⟩
def t335 : Fact := ⟨74, [.c (.fn 83 []), .c (.ptr 0 0)], [b145], (.c (.pv (.bool false)), [b145])⟩
theorem t335_ok : Holds (ev X E0) [t335] := ⟨ev_tab (n := 400) (x := xf74) rfl (t := [t334]) (by kernel_rfl) ⟨t334_ok.1, trivial⟩, trivial⟩
def t336 : Fact := ⟨84, [.c (.pv (w143))], [], (.c (.pv (.bool false)), [])⟩
theorem t336_ok : Holds (ev X E0) [t336] := ⟨ev_tab (n := 400) (x := xf84) rfl (t := []) (by kernel_rfl) trivial, trivial⟩
def t337 : Fact := ⟨37, [u144], [], (.c (.pv (.int .i64 15)), [])⟩
theorem t337_ok : Holds (ev X E0) [t337] := ⟨ev_tab (n := 400) (x := xf37) rfl (t := [t323, t7, t8, t326, t329, t332, t335, t336]) (by kernel_rfl) ⟨t323_ok.1, t7_ok.1, t8_ok.1, t326_ok.1, t329_ok.1, t332_ok.1, t335_ok.1, t336_ok.1, trivial⟩, trivial⟩
def t338 : Fact := ⟨76, [u124], [], (.c (.pv (.bool false)), [])⟩
theorem t338_ok : Holds (ev X E0) [t338] := ⟨ev_tab (n := 400) (x := xf76) rfl (t := []) (by kernel_rfl) trivial, trivial⟩
def t339 : Fact := ⟨37, [u124], [], (.c (.pv (.int .i64 1)), [])⟩
theorem t339_ok : Holds (ev X E0) [t339] := ⟨ev_tab (n := 400) (x := xf37) rfl (t := [t338]) (by kernel_rfl) ⟨t338_ok.1, trivial⟩, trivial⟩
def t340 : Fact := ⟨96, [.c (.pv (w143)), .c (.pv (w120))], [], (.c (.pv (.bool false)), [])⟩
theorem t340_ok : Holds (ev X E0) [t340] := ⟨ev_tab (n := 400) (x := xf96) rfl (t := []) (by kernel_rfl) trivial, trivial⟩
def t341 : Fact := ⟨43, [u144, u121], [], (.c (.pv (.bool false)), [])⟩
theorem t341_ok : Holds (ev X E0) [t341] := ⟨ev_tab (n := 400) (x := xf43) rfl (t := [t340]) (by kernel_rfl) ⟨t340_ok.1, trivial⟩, trivial⟩
def t342 : Fact := ⟨39, [], [], (.c (.pv (.bool true)), [])⟩
theorem t342_ok : Holds (ev X E0) [t342] := ⟨ev_tab (n := 400) (x := xf39) rfl (t := [t0, t91, t98, t105, t148, t245, t246, t313, t320, t322, t337, t51, t339, t341]) (by kernel_rfl) ⟨t0_ok.1, t91_ok.1, t98_ok.1, t105_ok.1, t148_ok.1, t245_ok.1, t246_ok.1, t313_ok.1, t320_ok.1, t322_ok.1, t337_ok.1, t51_ok.1, t339_ok.1, t341_ok.1, trivial⟩, trivial⟩
theorem alive19 : ev X E0 39 [] [] = some (.c (.pv (.bool true)), []) := t342_ok.1
end Go.Sx.Tryd.Calive19
