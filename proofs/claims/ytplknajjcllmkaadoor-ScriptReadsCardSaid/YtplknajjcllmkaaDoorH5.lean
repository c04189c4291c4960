/- A request with just what its kind tells, of the program and of the document. -/
import Derived.Test.YtplknajjcllmkaaDoorH3
import Derived.Test.YtplknajjcllmkaaDoorSxLem
namespace Go.Sx.Tryd
open Go Go.Sx
abbrev Req.csD (d : Int) (p : Req) : List CV := CV.pv (PV.int .i64 d) :: [CV.pv (PV.int .i64 p.cid), CV.pv (PV.str p.cname), CV.pv (PV.int .i64 p.ckind), CV.pv (PV.int .i64 p.racc), CV.pv (PV.int .i64 p.rkind), CV.pv (PV.int .i64 p.rcur), CV.pv (PV.int .i64 p.rcust), CV.pv (PV.int .i64 p.rprod), CV.pv (PV.int .i64 p.rpart), CV.pv (PV.int .i32 p.rfrom), CV.pv (PV.int .i32 p.rto), CV.pv (PV.int .i64 p.acc), CV.pv (PV.int .i64 p.id), CV.pv (PV.int .i32 p.day), CV.pv (PV.int .i64 p.cur), CV.pv (PV.int .i64 p.minor), CV.pv (PV.bool p.last), CV.pv (PV.sl p.so p.sz (List.map Leg.pv p.legs)), CV.pv (PV.str p.memo), CV.pv (PV.str p.text)]
abbrev q74 (a b : Int) (r : Bool) : Prop := cc (ev X E0) 74 [AV.i a, AV.i b] [] = some (AV.b r, [])
abbrev bq (b : Bool) : Prop := b = b
def ib : List Bool → List Go.Sx.It
  | [] => []
  | b :: l => .call (AV.b b) [] :: .br b :: ib l
theorem o0_1 (p : Req) :
    cc (ev X E0) 78 [AV.agg (Req.csD 0 p)] [] = some (AV.agg [vi 0, vi (Req.cid p), .pv (.str (Req.cname p)), vi (Req.ckind p), vi 0, vi 0, vi 0, vi 0, vi 0, vi 0, vw 0, vw 0, vi 0, vi 0, vw 0, vi 0, vi 0, .pv (.bool false), .pv (.sl SO.nil 0 []), .pv (.str []), .pv (.str [])], []) :=
  cc_path (x := xf78) rfl (ib [true, false, false, false, false, false, false, false, false, false])
    (c := [q74 0 1 true, bq true, q74 0 2 false, bq false, q74 0 4 false, bq false, q74 0 264 false, bq false, q74 0 528 false, bq false, q74 0 32 false, bq false, q74 0 64 false, bq false, q74 0 128 false, bq false, q74 0 1024 false, bq false, q74 0 2048 false, bq false]) (by kernel_rfl)
    ⟨(has0_1 _), rfl, (has0_1 _), rfl, (has0_1 _), rfl, (has0_1 _), rfl, (has0_1 _), rfl, (has0_1 _), rfl, (has0_1 _), rfl, (has0_1 _), rfl, (has0_1 _), rfl, (has0_1 _), rfl, trivial⟩
theorem o1_1 (p : Req) :
    cc (ev X E0) 78 [AV.agg (Req.csD 1 p)] [] = some (AV.agg [vi 1, vi 0, .pv (.str []), vi 0, vi (Req.racc p), vi (Req.rkind p), vi (Req.rcur p), vi (Req.rcust p), vi (Req.rprod p), vi (Req.rpart p), vw (Req.rfrom p), vw (Req.rto p), vi 0, vi 0, vw 0, vi 0, vi 0, .pv (.bool false), .pv (.sl SO.nil 0 []), .pv (.str []), .pv (.str [])], []) :=
  cc_path (x := xf78) rfl (ib [false, true, false, false, false, false, false, false, false, false])
    (c := [q74 1 1 false, bq false, q74 1 2 true, bq true, q74 1 4 false, bq false, q74 1 264 false, bq false, q74 1 528 false, bq false, q74 1 32 false, bq false, q74 1 64 false, bq false, q74 1 128 false, bq false, q74 1 1024 false, bq false, q74 1 2048 false, bq false]) (by kernel_rfl)
    ⟨(has1_1 _), rfl, (has1_1 _), rfl, (has1_1 _), rfl, (has1_1 _), rfl, (has1_1 _), rfl, (has1_1 _), rfl, (has1_1 _), rfl, (has1_1 _), rfl, (has1_1 _), rfl, (has1_1 _), rfl, trivial⟩
theorem o2_1 (p : Req) :
    cc (ev X E0) 78 [AV.agg (Req.csD 2 p)] [] = some (AV.agg [vi 2, vi 0, .pv (.str []), vi 0, vi 0, vi 0, vi 0, vi 0, vi 0, vi 0, vw 0, vw 0, vi (Req.acc p), vi 0, vw (Req.day p), vi 0, vi 0, .pv (.bool false), .pv (.sl SO.nil 0 []), .pv (.str []), .pv (.str [])], []) :=
  cc_path (x := xf78) rfl (ib [false, false, true, false, true, false, false, false, false, false])
    (c := [q74 2 1 false, bq false, q74 2 2 false, bq false, q74 2 4 true, bq true, q74 2 264 false, bq false, q74 2 528 true, bq true, q74 2 32 false, bq false, q74 2 64 false, bq false, q74 2 128 false, bq false, q74 2 1024 false, bq false, q74 2 2048 false, bq false]) (by kernel_rfl)
    ⟨(has2_1 _), rfl, (has2_1 _), rfl, (has2_1 _), rfl, (has2_1 _), rfl, (has2_1 _), rfl, (has2_1 _), rfl, (has2_1 _), rfl, (has2_1 _), rfl, (has2_1 _), rfl, (has2_1 _), rfl, trivial⟩
theorem o3_1 (p : Req) :
    cc (ev X E0) 78 [AV.agg (Req.csD 3 p)] [] = some (AV.agg [vi 3, vi 0, .pv (.str []), vi 0, vi 0, vi 0, vi 0, vi 0, vi 0, vi 0, vw 0, vw 0, vi 0, vi 0, vw 0, vi 0, vi 0, .pv (.bool false), .pv (.sl SO.nil 0 []), .pv (.str []), .pv (.str (Req.text p))], []) :=
  cc_path (x := xf78) rfl (ib [false, false, false, false, false, false, false, false, false, true])
    (c := [q74 3 1 false, bq false, q74 3 2 false, bq false, q74 3 4 false, bq false, q74 3 264 false, bq false, q74 3 528 false, bq false, q74 3 32 false, bq false, q74 3 64 false, bq false, q74 3 128 false, bq false, q74 3 1024 false, bq false, q74 3 2048 true, bq true]) (by kernel_rfl)
    ⟨(has3_1 _), rfl, (has3_1 _), rfl, (has3_1 _), rfl, (has3_1 _), rfl, (has3_1 _), rfl, (has3_1 _), rfl, (has3_1 _), rfl, (has3_1 _), rfl, (has3_1 _), rfl, (has3_1 _), rfl, trivial⟩
theorem o4_1 (p : Req) :
    cc (ev X E0) 78 [AV.agg (Req.csD 4 p)] [] = some (AV.agg [vi 4, vi 0, .pv (.str []), vi 0, vi 0, vi 0, vi 0, vi 0, vi 0, vi 0, vw 0, vw 0, vi 0, vi 0, vw (Req.day p), vi 0, vi 0, .pv (.bool false), .pv (.sl (Req.so p) (Req.sz p) (List.map Leg.pv (Req.legs p))), .pv (.str (Req.memo p)), .pv (.str [])], []) :=
  cc_path (x := xf78) rfl (ib [false, false, false, false, true, true, true, false, false, false])
    (c := [q74 4 1 false, bq false, q74 4 2 false, bq false, q74 4 4 false, bq false, q74 4 264 false, bq false, q74 4 528 true, bq true, q74 4 32 true, bq true, q74 4 64 true, bq true, q74 4 128 false, bq false, q74 4 1024 false, bq false, q74 4 2048 false, bq false]) (by kernel_rfl)
    ⟨(has4_1 _), rfl, (has4_1 _), rfl, (has4_1 _), rfl, (has4_1 _), rfl, (has4_1 _), rfl, (has4_1 _), rfl, (has4_1 _), rfl, (has4_1 _), rfl, (has4_1 _), rfl, (has4_1 _), rfl, trivial⟩
theorem o5_1 (p : Req) :
    cc (ev X E0) 78 [AV.agg (Req.csD 5 p)] [] = some (AV.agg [vi 5, vi 0, .pv (.str []), vi 0, vi 0, vi 0, vi 0, vi 0, vi 0, vi 0, vw 0, vw 0, vi 0, vi (Req.id p), vw 0, vi 0, vi 0, .pv (.bool false), .pv (.sl SO.nil 0 []), .pv (.str []), .pv (.str [])], []) :=
  cc_path (x := xf78) rfl (ib [false, false, false, true, false, false, false, false, false, false])
    (c := [q74 5 1 false, bq false, q74 5 2 false, bq false, q74 5 4 false, bq false, q74 5 264 true, bq true, q74 5 528 false, bq false, q74 5 32 false, bq false, q74 5 64 false, bq false, q74 5 128 false, bq false, q74 5 1024 false, bq false, q74 5 2048 false, bq false]) (by kernel_rfl)
    ⟨(has5_1 _), rfl, (has5_1 _), rfl, (has5_1 _), rfl, (has5_1 _), rfl, (has5_1 _), rfl, (has5_1 _), rfl, (has5_1 _), rfl, (has5_1 _), rfl, (has5_1 _), rfl, (has5_1 _), rfl, trivial⟩
theorem o6_1 (p : Req) :
    cc (ev X E0) 78 [AV.agg (Req.csD 6 p)] [] = some (AV.agg [vi 6, vi 0, .pv (.str []), vi 0, vi 0, vi 0, vi 0, vi 0, vi 0, vi 0, vw 0, vw 0, vi (Req.acc p), vi (Req.id p), vw (Req.day p), vi (Req.cur p), vi (Req.minor p), .pv (.bool false), .pv (.sl SO.nil 0 []), .pv (.str []), .pv (.str [])], []) :=
  cc_path (x := xf78) rfl (ib [false, false, true, true, true, false, false, true, false, false])
    (c := [q74 6 1 false, bq false, q74 6 2 false, bq false, q74 6 4 true, bq true, q74 6 264 true, bq true, q74 6 528 true, bq true, q74 6 32 false, bq false, q74 6 64 false, bq false, q74 6 128 true, bq true, q74 6 1024 false, bq false, q74 6 2048 false, bq false]) (by kernel_rfl)
    ⟨(has6_1 _), rfl, (has6_1 _), rfl, (has6_1 _), rfl, (has6_1 _), rfl, (has6_1 _), rfl, (has6_1 _), rfl, (has6_1 _), rfl, (has6_1 _), rfl, (has6_1 _), rfl, (has6_1 _), rfl, trivial⟩
theorem o7_1 (p : Req) :
    cc (ev X E0) 78 [AV.agg (Req.csD 7 p)] [] = some (AV.agg [vi 7, vi 0, .pv (.str []), vi 0, vi 0, vi 0, vi 0, vi 0, vi 0, vi 0, vw 0, vw 0, vi 0, vi (Req.id p), vw 0, vi (Req.cur p), vi (Req.minor p), .pv (.bool (Req.last p)), .pv (.sl SO.nil 0 []), .pv (.str []), .pv (.str [])], []) :=
  cc_path (x := xf78) rfl (ib [false, false, false, true, false, false, false, true, true, false])
    (c := [q74 7 1 false, bq false, q74 7 2 false, bq false, q74 7 4 false, bq false, q74 7 264 true, bq true, q74 7 528 false, bq false, q74 7 32 false, bq false, q74 7 64 false, bq false, q74 7 128 true, bq true, q74 7 1024 true, bq true, q74 7 2048 false, bq false]) (by kernel_rfl)
    ⟨(has7_1 _), rfl, (has7_1 _), rfl, (has7_1 _), rfl, (has7_1 _), rfl, (has7_1 _), rfl, (has7_1 _), rfl, (has7_1 _), rfl, (has7_1 _), rfl, (has7_1 _), rfl, (has7_1 _), rfl, trivial⟩
theorem o8_1 (p : Req) :
    cc (ev X E0) 78 [AV.agg (Req.csD 8 p)] [] = some (AV.agg [vi 8, vi 0, .pv (.str []), vi 0, vi 0, vi 0, vi 0, vi 0, vi 0, vi 0, vw 0, vw 0, vi 0, vi (Req.id p), vw 0, vi 0, vi 0, .pv (.bool false), .pv (.sl SO.nil 0 []), .pv (.str []), .pv (.str [])], []) :=
  cc_path (x := xf78) rfl (ib [false, false, false, true, false, false, false, false, false, false])
    (c := [q74 8 1 false, bq false, q74 8 2 false, bq false, q74 8 4 false, bq false, q74 8 264 true, bq true, q74 8 528 false, bq false, q74 8 32 false, bq false, q74 8 64 false, bq false, q74 8 128 false, bq false, q74 8 1024 false, bq false, q74 8 2048 false, bq false]) (by kernel_rfl)
    ⟨(has8_1 _), rfl, (has8_1 _), rfl, (has8_1 _), rfl, (has8_1 _), rfl, (has8_1 _), rfl, (has8_1 _), rfl, (has8_1 _), rfl, (has8_1 _), rfl, (has8_1 _), rfl, (has8_1 _), rfl, trivial⟩
theorem o9_1 (p : Req) :
    cc (ev X E0) 78 [AV.agg (Req.csD 9 p)] [] = some (AV.agg [vi 9, vi 0, .pv (.str []), vi 0, vi 0, vi 0, vi 0, vi 0, vi 0, vi 0, vw 0, vw 0, vi 0, vi 0, vw (Req.day p), vi 0, vi 0, .pv (.bool (Req.last p)), .pv (.sl SO.nil 0 []), .pv (.str []), .pv (.str [])], []) :=
  cc_path (x := xf78) rfl (ib [false, false, false, false, true, false, false, false, true, false])
    (c := [q74 9 1 false, bq false, q74 9 2 false, bq false, q74 9 4 false, bq false, q74 9 264 false, bq false, q74 9 528 true, bq true, q74 9 32 false, bq false, q74 9 64 false, bq false, q74 9 128 false, bq false, q74 9 1024 true, bq true, q74 9 2048 false, bq false]) (by kernel_rfl)
    ⟨(has9_1 _), rfl, (has9_1 _), rfl, (has9_1 _), rfl, (has9_1 _), rfl, (has9_1 _), rfl, (has9_1 _), rfl, (has9_1 _), rfl, (has9_1 _), rfl, (has9_1 _), rfl, (has9_1 _), rfl, trivial⟩
theorem o10_1 (p : Req) :
    cc (ev X E0) 78 [AV.agg (Req.csD 10 p)] [] = some (AV.agg [vi 10, vi 0, .pv (.str []), vi 0, vi 0, vi 0, vi 0, vi 0, vi 0, vi 0, vw 0, vw 0, vi 0, vi 0, vw 0, vi 0, vi 0, .pv (.bool false), .pv (.sl SO.nil 0 []), .pv (.str []), .pv (.str [])], []) :=
  cc_path (x := xf78) rfl (ib [false, false, false, false, false, false, false, false, false, false])
    (c := [q74 10 1 false, bq false, q74 10 2 false, bq false, q74 10 4 false, bq false, q74 10 264 false, bq false, q74 10 528 false, bq false, q74 10 32 false, bq false, q74 10 64 false, bq false, q74 10 128 false, bq false, q74 10 1024 false, bq false, q74 10 2048 false, bq false]) (by kernel_rfl)
    ⟨(has10_1 _), rfl, (has10_1 _), rfl, (has10_1 _), rfl, (has10_1 _), rfl, (has10_1 _), rfl, (has10_1 _), rfl, (has10_1 _), rfl, (has10_1 _), rfl, (has10_1 _), rfl, (has10_1 _), rfl, trivial⟩
theorem r0_1 (p : Req) :
    cc (ev X E0) 71 [AV.agg (Req.csD 0 p)] [] = some (AV.agg [vi 0, vi (Req.cid p), .pv (.str (Req.cname p)), vi (Req.ckind p), vi 0, vi 0, vi 0, vi 0, vi 0, vi 0, vw 0, vw 0, vi 0, vi 0, vw 0, vi 0, vi 0, .pv (.bool false), .pv (.sl SO.nil 0 []), .pv (.str []), .pv (.str [])], []) :=
  cc_path (x := xf71) rfl [.br true]
    (c := [true = true]) (by kernel_rfl)
    ⟨rfl, trivial⟩
theorem r1_1 (p : Req) :
    cc (ev X E0) 71 [AV.agg (Req.csD 1 p)] [] = some (AV.agg [vi 1, vi 0, .pv (.str []), vi 0, vi (Req.racc p), vi (Req.rkind p), vi (Req.rcur p), vi (Req.rcust p), vi (Req.rprod p), vi (Req.rpart p), vw (Req.rfrom p), vw (Req.rto p), vi 0, vi 0, vw 0, vi 0, vi 0, .pv (.bool false), .pv (.sl SO.nil 0 []), .pv (.str []), .pv (.str [])], []) :=
  cc_path (x := xf71) rfl [.br false, .br true]
    (c := [false = false, true = true]) (by kernel_rfl)
    ⟨rfl, rfl, trivial⟩
theorem r2_1 (p : Req) :
    cc (ev X E0) 71 [AV.agg (Req.csD 2 p)] [] = some (AV.agg [vi 2, vi 0, .pv (.str []), vi 0, vi 0, vi 0, vi 0, vi 0, vi 0, vi 0, vw 0, vw 0, vi (Req.acc p), vi 0, vw (Req.day p), vi 0, vi 0, .pv (.bool false), .pv (.sl SO.nil 0 []), .pv (.str []), .pv (.str [])], []) :=
  cc_path (x := xf71) rfl [.br false, .br false, .br true]
    (c := [false = false, false = false, true = true]) (by kernel_rfl)
    ⟨rfl, rfl, rfl, trivial⟩
theorem r3_1 (p : Req) :
    cc (ev X E0) 71 [AV.agg (Req.csD 3 p)] [] = some (AV.agg [vi 3, vi 0, .pv (.str []), vi 0, vi 0, vi 0, vi 0, vi 0, vi 0, vi 0, vw 0, vw 0, vi 0, vi 0, vw 0, vi 0, vi 0, .pv (.bool false), .pv (.sl SO.nil 0 []), .pv (.str []), .pv (.str (Req.text p))], []) :=
  cc_path (x := xf71) rfl (bs 3 false ++ [.br true])
    (c := rq [(3, false = false), (1, true = true)]) (by kernel_rfl)
    (aq ⟨rfl, rfl, trivial⟩)
theorem r4_1 (p : Req) :
    cc (ev X E0) 71 [AV.agg (Req.csD 4 p)] [] = some (AV.agg [vi 4, vi 0, .pv (.str []), vi 0, vi 0, vi 0, vi 0, vi 0, vi 0, vi 0, vw 0, vw 0, vi 0, vi 0, vw (Req.day p), vi 0, vi 0, .pv (.bool false), .pv (.sl (Req.so p) (Req.sz p) (List.map Leg.pv (Req.legs p))), .pv (.str (Req.memo p)), .pv (.str [])], []) :=
  cc_path (x := xf71) rfl (bs 4 false ++ [.br true])
    (c := rq [(4, false = false), (1, true = true)]) (by kernel_rfl)
    (aq ⟨rfl, rfl, trivial⟩)
theorem r5_1 (p : Req) :
    cc (ev X E0) 71 [AV.agg (Req.csD 5 p)] [] = some (AV.agg [vi 5, vi 0, .pv (.str []), vi 0, vi 0, vi 0, vi 0, vi 0, vi 0, vi 0, vw 0, vw 0, vi 0, vi (Req.id p), vw 0, vi 0, vi 0, .pv (.bool false), .pv (.sl SO.nil 0 []), .pv (.str []), .pv (.str [])], []) :=
  cc_path (x := xf71) rfl (bs 9 false)
    (c := rq [(9, false = false)]) (by kernel_rfl)
    (aq ⟨rfl, trivial⟩)
theorem r6_1 (p : Req) :
    cc (ev X E0) 71 [AV.agg (Req.csD 6 p)] [] = some (AV.agg [vi 6, vi 0, .pv (.str []), vi 0, vi 0, vi 0, vi 0, vi 0, vi 0, vi 0, vw 0, vw 0, vi (Req.acc p), vi (Req.id p), vw (Req.day p), vi (Req.cur p), vi (Req.minor p), .pv (.bool false), .pv (.sl SO.nil 0 []), .pv (.str []), .pv (.str [])], []) :=
  cc_path (x := xf71) rfl (bs 5 false ++ [.br true])
    (c := rq [(5, false = false), (1, true = true)]) (by kernel_rfl)
    (aq ⟨rfl, rfl, trivial⟩)
theorem r7_1 (p : Req) :
    cc (ev X E0) 71 [AV.agg (Req.csD 7 p)] [] = some (AV.agg [vi 7, vi 0, .pv (.str []), vi 0, vi 0, vi 0, vi 0, vi 0, vi 0, vi 0, vw 0, vw 0, vi 0, vi (Req.id p), vw 0, vi (Req.cur p), vi (Req.minor p), .pv (.bool (Req.last p)), .pv (.sl SO.nil 0 []), .pv (.str []), .pv (.str [])], []) :=
  cc_path (x := xf71) rfl (bs 6 false ++ [.br true])
    (c := rq [(6, false = false), (1, true = true)]) (by kernel_rfl)
    (aq ⟨rfl, rfl, trivial⟩)
theorem r8_1 (p : Req) :
    cc (ev X E0) 71 [AV.agg (Req.csD 8 p)] [] = some (AV.agg [vi 8, vi 0, .pv (.str []), vi 0, vi 0, vi 0, vi 0, vi 0, vi 0, vi 0, vw 0, vw 0, vi 0, vi (Req.id p), vw 0, vi 0, vi 0, .pv (.bool false), .pv (.sl SO.nil 0 []), .pv (.str []), .pv (.str [])], []) :=
  cc_path (x := xf71) rfl (bs 9 false)
    (c := rq [(9, false = false)]) (by kernel_rfl)
    (aq ⟨rfl, trivial⟩)
theorem r9_1 (p : Req) :
    cc (ev X E0) 71 [AV.agg (Req.csD 9 p)] [] = some (AV.agg [vi 9, vi 0, .pv (.str []), vi 0, vi 0, vi 0, vi 0, vi 0, vi 0, vi 0, vw 0, vw 0, vi 0, vi 0, vw (Req.day p), vi 0, vi 0, .pv (.bool (Req.last p)), .pv (.sl SO.nil 0 []), .pv (.str []), .pv (.str [])], []) :=
  cc_path (x := xf71) rfl (bs 7 false ++ [.br true])
    (c := rq [(7, false = false), (1, true = true)]) (by kernel_rfl)
    (aq ⟨rfl, rfl, trivial⟩)
theorem r10_1 (p : Req) :
    cc (ev X E0) 71 [AV.agg (Req.csD 10 p)] [] = some (AV.agg [vi 10, vi 0, .pv (.str []), vi 0, vi 0, vi 0, vi 0, vi 0, vi 0, vi 0, vw 0, vw 0, vi 0, vi 0, vw 0, vi 0, vi 0, .pv (.bool false), .pv (.sl SO.nil 0 []), .pv (.str []), .pv (.str [])], []) :=
  cc_path (x := xf71) rfl (bs 8 false ++ [.br true])
    (c := rq [(8, false = false), (1, true = true)]) (by kernel_rfl)
    (aq ⟨rfl, rfl, trivial⟩)
theorem s78 (p : Req) (h0 : 0 ≤ p.kd) (h1 : p.kd ≤ 10) : cc (ev X E0) 78 [Req.av p] [] = some (Req.av (onlyR p), []) := by
  obtain ⟨kd, cid, cname, ckind, racc, rkind, rcur, rcust, rprod, rpart, rfrom, rto, acc, id, day, cur, minor, last, so, sz, legs, memo, text⟩ := p
  rcases kd_cases h0 h1 with h | h | h | h | h | h | h | h | h | h | h <;> dsimp only at h <;> subst h
  · simp only [onlyR, Req.av, Req.cs, hb0, if_true, if_false, Bool.false_eq_true, List.map_nil]; exact o0_1 ⟨0, cid, cname, ckind, racc, rkind, rcur, rcust, rprod, rpart, rfrom, rto, acc, id, day, cur, minor, last, so, sz, legs, memo, text⟩
  · simp only [onlyR, Req.av, Req.cs, hb1, if_true, if_false, Bool.false_eq_true, List.map_nil]; exact o1_1 ⟨1, cid, cname, ckind, racc, rkind, rcur, rcust, rprod, rpart, rfrom, rto, acc, id, day, cur, minor, last, so, sz, legs, memo, text⟩
  · simp only [onlyR, Req.av, Req.cs, hb2, if_true, if_false, Bool.false_eq_true, List.map_nil]; exact o2_1 ⟨2, cid, cname, ckind, racc, rkind, rcur, rcust, rprod, rpart, rfrom, rto, acc, id, day, cur, minor, last, so, sz, legs, memo, text⟩
  · simp only [onlyR, Req.av, Req.cs, hb3, if_true, if_false, Bool.false_eq_true, List.map_nil]; exact o3_1 ⟨3, cid, cname, ckind, racc, rkind, rcur, rcust, rprod, rpart, rfrom, rto, acc, id, day, cur, minor, last, so, sz, legs, memo, text⟩
  · simp only [onlyR, Req.av, Req.cs, hb4, if_true, if_false, Bool.false_eq_true, List.map_nil]; exact o4_1 ⟨4, cid, cname, ckind, racc, rkind, rcur, rcust, rprod, rpart, rfrom, rto, acc, id, day, cur, minor, last, so, sz, legs, memo, text⟩
  · simp only [onlyR, Req.av, Req.cs, hb5, if_true, if_false, Bool.false_eq_true, List.map_nil]; exact o5_1 ⟨5, cid, cname, ckind, racc, rkind, rcur, rcust, rprod, rpart, rfrom, rto, acc, id, day, cur, minor, last, so, sz, legs, memo, text⟩
  · simp only [onlyR, Req.av, Req.cs, hb6, if_true, if_false, Bool.false_eq_true, List.map_nil]; exact o6_1 ⟨6, cid, cname, ckind, racc, rkind, rcur, rcust, rprod, rpart, rfrom, rto, acc, id, day, cur, minor, last, so, sz, legs, memo, text⟩
  · simp only [onlyR, Req.av, Req.cs, hb7, if_true, if_false, Bool.false_eq_true, List.map_nil]; exact o7_1 ⟨7, cid, cname, ckind, racc, rkind, rcur, rcust, rprod, rpart, rfrom, rto, acc, id, day, cur, minor, last, so, sz, legs, memo, text⟩
  · simp only [onlyR, Req.av, Req.cs, hb8, if_true, if_false, Bool.false_eq_true, List.map_nil]; exact o8_1 ⟨8, cid, cname, ckind, racc, rkind, rcur, rcust, rprod, rpart, rfrom, rto, acc, id, day, cur, minor, last, so, sz, legs, memo, text⟩
  · simp only [onlyR, Req.av, Req.cs, hb9, if_true, if_false, Bool.false_eq_true, List.map_nil]; exact o9_1 ⟨9, cid, cname, ckind, racc, rkind, rcur, rcust, rprod, rpart, rfrom, rto, acc, id, day, cur, minor, last, so, sz, legs, memo, text⟩
  · simp only [onlyR, Req.av, Req.cs, hb10, if_true, if_false, Bool.false_eq_true, List.map_nil]; exact o10_1 ⟨10, cid, cname, ckind, racc, rkind, rcur, rcust, rprod, rpart, rfrom, rto, acc, id, day, cur, minor, last, so, sz, legs, memo, text⟩
theorem s71 (p : Req) (h0 : 0 ≤ p.kd) (h1 : p.kd ≤ 10) : cc (ev X E0) 71 [Req.av p] [] = some (Req.av (onlyR p), []) := by
  obtain ⟨kd, cid, cname, ckind, racc, rkind, rcur, rcust, rprod, rpart, rfrom, rto, acc, id, day, cur, minor, last, so, sz, legs, memo, text⟩ := p
  rcases kd_cases h0 h1 with h | h | h | h | h | h | h | h | h | h | h <;> dsimp only at h <;> subst h
  · simp only [onlyR, Req.av, Req.cs, hb0, if_true, if_false, Bool.false_eq_true, List.map_nil]; exact r0_1 ⟨0, cid, cname, ckind, racc, rkind, rcur, rcust, rprod, rpart, rfrom, rto, acc, id, day, cur, minor, last, so, sz, legs, memo, text⟩
  · simp only [onlyR, Req.av, Req.cs, hb1, if_true, if_false, Bool.false_eq_true, List.map_nil]; exact r1_1 ⟨1, cid, cname, ckind, racc, rkind, rcur, rcust, rprod, rpart, rfrom, rto, acc, id, day, cur, minor, last, so, sz, legs, memo, text⟩
  · simp only [onlyR, Req.av, Req.cs, hb2, if_true, if_false, Bool.false_eq_true, List.map_nil]; exact r2_1 ⟨2, cid, cname, ckind, racc, rkind, rcur, rcust, rprod, rpart, rfrom, rto, acc, id, day, cur, minor, last, so, sz, legs, memo, text⟩
  · simp only [onlyR, Req.av, Req.cs, hb3, if_true, if_false, Bool.false_eq_true, List.map_nil]; exact r3_1 ⟨3, cid, cname, ckind, racc, rkind, rcur, rcust, rprod, rpart, rfrom, rto, acc, id, day, cur, minor, last, so, sz, legs, memo, text⟩
  · simp only [onlyR, Req.av, Req.cs, hb4, if_true, if_false, Bool.false_eq_true, List.map_nil]; exact r4_1 ⟨4, cid, cname, ckind, racc, rkind, rcur, rcust, rprod, rpart, rfrom, rto, acc, id, day, cur, minor, last, so, sz, legs, memo, text⟩
  · simp only [onlyR, Req.av, Req.cs, hb5, if_true, if_false, Bool.false_eq_true, List.map_nil]; exact r5_1 ⟨5, cid, cname, ckind, racc, rkind, rcur, rcust, rprod, rpart, rfrom, rto, acc, id, day, cur, minor, last, so, sz, legs, memo, text⟩
  · simp only [onlyR, Req.av, Req.cs, hb6, if_true, if_false, Bool.false_eq_true, List.map_nil]; exact r6_1 ⟨6, cid, cname, ckind, racc, rkind, rcur, rcust, rprod, rpart, rfrom, rto, acc, id, day, cur, minor, last, so, sz, legs, memo, text⟩
  · simp only [onlyR, Req.av, Req.cs, hb7, if_true, if_false, Bool.false_eq_true, List.map_nil]; exact r7_1 ⟨7, cid, cname, ckind, racc, rkind, rcur, rcust, rprod, rpart, rfrom, rto, acc, id, day, cur, minor, last, so, sz, legs, memo, text⟩
  · simp only [onlyR, Req.av, Req.cs, hb8, if_true, if_false, Bool.false_eq_true, List.map_nil]; exact r8_1 ⟨8, cid, cname, ckind, racc, rkind, rcur, rcust, rprod, rpart, rfrom, rto, acc, id, day, cur, minor, last, so, sz, legs, memo, text⟩
  · simp only [onlyR, Req.av, Req.cs, hb9, if_true, if_false, Bool.false_eq_true, List.map_nil]; exact r9_1 ⟨9, cid, cname, ckind, racc, rkind, rcur, rcust, rprod, rpart, rfrom, rto, acc, id, day, cur, minor, last, so, sz, legs, memo, text⟩
  · simp only [onlyR, Req.av, Req.cs, hb10, if_true, if_false, Bool.false_eq_true, List.map_nil]; exact r10_1 ⟨10, cid, cname, ckind, racc, rkind, rcur, rcust, rprod, rpart, rfrom, rto, acc, id, day, cur, minor, last, so, sz, legs, memo, text⟩
end Go.Sx.Tryd
