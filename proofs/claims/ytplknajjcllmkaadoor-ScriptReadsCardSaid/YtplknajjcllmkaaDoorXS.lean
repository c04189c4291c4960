/- Functions of the program in the evaluator's form, each checked by the kernel. Printed by genx.py. -/
import Derived.Test.YtplknajjcllmkaaDoorSxLem
import Derived.Test.YtplknajjcllmkaaDoorProg
import Derived.KernelRfl
namespace Go.Sx.Tryd
open Go Go.Sx
abbrev zxsq (l : List Nat) (c : XCode) : XCode := .tr (rl l) false c
abbrev zxsh (l : List Nat) (c : Hints) : Hints := .tr (rl l) false c
abbrev zxsc (f : Nat) (l : List XArg) : XOp := .call false [] (.lit (.c (.fn f []))) l
abbrev zxsg (d g : Nat) (b : Bool) (o : XOp) : XOper := .mk (some d) o (some (g, b)) .p
abbrev zxsm (a b : Nat) : XOper := oP a (.mv (T b))
abbrev zxsr (l : List XOper) : XCode := .region false l
abbrev zxsi : CV := .pv (.int .i64 0)
abbrev zxsd : CV := .pv (.int .i32 0)
abbrev zxss : CV := .pv (.str [])
abbrev zxst : CV := .pv (.bool true)
abbrev zxsf : CV := .pv (.bool false)
def xf8 : XFunc :=
(.mk 108 [(.tmp 8)] (.seq (zxsq [0, 1, 0, 1] (zxsr [(oW 5 (.box (T 1) 21)), (oP 8 (.mv (.lit (.c zxsf))))])) (.seq (.seq (zxsq [0, 1, 0, 1, 19] (zxsr [(zxsm 17 0), (oP 18 (.lenS (T 17))), (oP 19 (.bin .gtr (T 18) (tI 6000))), (zxsm 20 19), (.mk
  (some 21) (.load true 21 (T 5)) (some (20, false)) .r), (zxsg 22 20 false (.buildSl [zxsi, zxsi, zxss, (.pv (.int .i64
  0)), zxsi, zxsi, zxsi, zxsi, zxsi, zxsi, zxsd, (.pv
  (.int .i32 0)), zxsi, zxsi, zxsd, zxsi, zxsi, zxsf, (.pv (.sl .nil 0
  [])), zxss, zxss] 1 21 [(0, (21, (T 21)))])), (zxsg 23 20 false (zxsc 35 [(T 22)])), (zxsg 24 20 false (.un .not (T 23))), (oP 25 (.pick (T 20) (.lit (.c zxst)) (T 24)))])) (zxsq [0, 1, 0, 1, 2] (.cond (T 25) (.seq (zxsq [8] (zxsr [(oP 26 (zxsc 36 [])), (zxsm 8 26)])) (zxsq [8] .ret)) .skip))) (.seq (zxsq [0, 1, 0, 1, 3, 0] (zxsr [(zxsm 28 0), (oP 29 (zxsc 45
  [(T 28)])), (zxsm 27 29), (oP 30 (.extr 0 (T 27))), (oP 31 (.extr 1 (T 27))), (oW 9 (.alloc [zxsi, zxsi, (.pv (.str
  [])), zxsi, zxsi, zxsi, zxsi, zxsi, zxsi, zxsi, (.pv
  (.int .i32 0)), zxsd, zxsi, zxsi, zxsd, zxsi, zxsi, (.pv (.bool
  false)), (.pv (.sl .nil 0 [])), zxss, zxss])), (sW (.store 21 (T 9) (T 30))), (zxsm 10 31)])) (.seq (.seq (zxsq [2, 0, 1, 48] (zxsr [(zxsm 32 10), (oP 33 (.bin .eql (T 32) (tI 0))), (zxsm 34 33), (.mk (some 35) (.load true 21 (T 9)) (some (34,
  true)) .r), (zxsg 36 34 true (zxsc 37 [(T 35)])), (zxsg 37 34 true (.bin .neq (T 36) (tI 0))), (zxsg 38 34 true (.mv (T 37))), (.mk (some 39) (.load true 21 (T 9)) (some (38, false)) .r), (zxsg 40 38 false (zxsc 41 [(T 39)])), (zxsg 41 38 false (.mv (T 0))), (zxsg 42 38 false (.bin .neq (T 40) (T 41))), (zxsg 43 34 true (.pick (T 38) (.lit (.c zxst)) (T 42))), (oP 44 (.pick (T 34) (T 43) (.lit (.c zxsf)))),
  (zxsm 45 44), (zxsg 46 45 false (.mv (T 10))), (zxsg 47 45 false (.bin .neq (T 46) (tI 0))), (zxsg 48 45 false (.mv
  (T 47))), (.mk (some 49) (.load true 21 (T 9)) (some (48, true)) .r), (zxsg 50 48 true (.build [zxsi, zxsi,
  zxss, zxsi, zxsi, zxsi, zxsi, zxsi, zxsi, (.pv (.int .i64
  0)), zxsd, zxsd, zxsi, zxsi, zxsd, zxsi, zxsi, (.pv
  (.bool false)), (.pv (.sl .nil 0 [])), zxss, zxss] [])), (zxsg 51 48 true (zxsc 43 [(T
  49), (T 50)])), (zxsg 52 48 true (.un .not (T 51))), (zxsg 53 45 false (.pick (T 48) (T 52) (.lit (.c (.pv (.bool
  false)))))), (oP 54 (.pick (T 45) (.lit (.c zxst)) (T 53)))])) (zxsq [2, 0, 1, 2] (.cond (T 54) (.seq (.region
  false [(oP 8 (.mv (.lit (.c zxsf))))]) (zxsq [8] .ret)) .skip))) (.seq (.seq (zxsq [2, 0, 1, 51] (zxsr [(oR 55
  (.load true 21 (T 5))), (oP 56 (zxsc 37 [(T 55)])), (oP 57 (.bin .neq (T 56) (tI 0)))])) (zxsq [2, 0, 1, 2] (.cond (T
  57) (.seq (zxsq [8] (zxsr [(oP 58 (zxsc 36 [])), (zxsm 8 58)])) (zxsq [8] .ret)) .skip)))
  (.seq (zxsq [2, 0, 1, 5] (zxsr [(oR 59 (.load true 21 (T 5))), (oP 60 (zxsc 41 [(T 59)])), (oW 61 (.sbytes
  (T 60))), (zxsm 11 61)])) (.seq (zxsq [2, 0, 1, 5, 0, 0] (zxsr [(zxsm 63 11), (oR 64 (.bytesM (T 63))), (oP 65 (zxsc 45 [(T 64)])), (zxsm 62 65), (oP 66 (.extr 0 (T 62))), (oP 67 (.extr 1 (T 62))), (oW 12 (.alloc [zxsi, (.pv
  (.int .i64 0)), zxss, zxsi, zxsi, zxsi, zxsi, zxsi, zxsi,
  zxsi, zxsd, zxsd, zxsi, zxsi, zxsd, zxsi, (.pv (.int
  .i64 0)), zxsf, (.pv (.sl .nil 0 [])), zxss, zxss])), (sW (.store 21 (T 12) (T 66))), (zxsm 13 67)])) (.seq (.seq
  (zxsq [2, 0, 7, 63] (zxsr [(zxsm 68 13), (oP 69 (.bin .neq (T 68) (tI 0))), (zxsm 70 69), (.mk (some 71) (.load true 21 (T
  12)) (some (70, false)) .r), (.mk (some 72) (.load true 21 (T 5)) (some (70, false)) .r), (zxsg 73 70 false (zxsc 43 [(T 71), (T
  72)])), (zxsg 74 70 false (.un .not (T 73))), (oP 75 (.pick (T 70) (.lit (.c zxst)) (T 74)))])) (zxsq [2, 0, 4, 2] (.cond (T 75) (.seq (zxsr [(oP 8 (.mv (.lit (.c zxsf))))]) (zxsq [8] .ret)) .skip))) (.seq (zxsq [3, 7, 2] (zxsr [(zxsm 76 2), (oP 77 (.convI .i64 (T 76))), (zxsm 78 11), (oP 79 (.len (T 78))), (oP 80 (.bin .rem (T 77) (T
  79))), (zxsm 14 80)])) (.seq (zxsq [11] (zxsr [(zxsm 81 11), (zxsm 82 14), (zxsm 83 3), (oP 84 (.iaddrS 1
  (T 81) (T 82))), (sW (.store 1 (T 84) (T 83)))])) (.seq (zxsq [11, 3, 0] (zxsr [(zxsm 86 11), (oR 87 (.bytesM (T 86))), (oP 88
  (zxsc 45 [(T 87)])), (zxsm 85 88), (oP 89 (.extr 0 (T 85))), (oP 90 (.extr 1 (T 85))), (oW 15 (.alloc [(.pv (.int .i64
  0)), zxsi, zxss, zxsi, zxsi, zxsi, zxsi, zxsi, (.pv (.int
  .i64 0)), zxsi, zxsd, zxsd, zxsi, zxsi, zxsd, zxsi,
  zxsi, zxsf, (.pv (.sl .nil 0 [])), zxss, zxss])), (sW (.store 21 (T 15) (T 89))), (zxsm 16 90)]))
  (.seq (zxsq [8] (.region true [(oP 91 (zxsc 36 [])), (zxsm 92 91), (zxsg 93 92 true (.mv (T 16))), (zxsg 94 92 true (.bin .neq (T 93) (tI 0))), (zxsg 95 92 true (.mv (T 94))), (.mk (some 96) (.load true 21
  (T 15)) (some (95, false)) .r), (zxsg 97 95 false (zxsc 37 [(T 96)])), (zxsg 98 95 false (.bin .eql (T 97) (tI
  0))), (zxsg 99 95 false (.mv (T 98))), (.mk (some 100) (.load true 21 (T 15)) (some (99, true)) .r), (zxsg 101 99 true (zxsc 41 [(T 100)])), (zxsg 102 99 true (.mv (T 11))), (.mk (some 103) (.bytesM (T
  102)) (some (99, true)) .r), (zxsg 104 99 true (.bin .eql (T 101) (T 103))), (zxsg 105 95 false (.pick (T 99) (T 104) (.lit (.c (.pv (.bool
  false)))))), (zxsg 106 92 true (.pick (T 95) (.lit (.c zxst)) (T 105))), (oP 107 (.pick (T 92) (T 106)
  (.lit (.c zxsf)))), (zxsm 8 107)])) (zxsq [8] .ret))))))))))))))
theorem xf8_ok : cmpFunc Go.Proofs.Tryd.prog 8 ((.two (zxsh [0, 1, 0, 1] .no) (.two (.two (zxsh [0, 1, 0, 1, 19] (.ops [{}, {}, {}, {}, {}, {}, { cls := some .p }])) (zxsh [0, 1, 0, 1, 2] (.two (.two (zxsh [8] (.ops [{ cls := some .p }])) (zxsh [8] .no)) .no))) (.two (zxsh [0, 1, 0, 1, 3, 0] (.ops [{}, { cls := some .p }])) (.two (.two (zxsh [2, 0, 1, 48] (.ops [{}, {}, {}, {}, { cls := some .p }, {}, {}, {}, { cls := some .p }, {}, {}, {}, {}, {}, {}, {}, {}, {}, {}, { cls := some .p }])) (zxsh [2, 0, 1, 2] (.two (.two .no (zxsh [8] .no)) .no))) (.two (.two (zxsh [2, 0, 1, 51] (.ops [{}, { cls := some .p }])) (zxsh [2, 0, 1, 2] (.two (.two (zxsh [8] (.ops [{ cls := some .p }])) (zxsh [8] .no)) .no))) (.two (zxsh [2, 0, 1, 5] (.ops [{}, { cls := some .p }])) (.two (zxsh [2, 0, 1, 5, 0, 0] (.ops [{}, { cls := some .r, own := true }, { cls := some .p }])) (.two (.two (zxsh [2, 0, 7, 63] (.ops [{}, {}, {}, {}, {}, { cls := some .p }])) (zxsh [2, 0, 4, 2] (.two (.two .no (zxsh [8] .no)) .no))) (.two (zxsh [3, 7, 2] .no) (.two (zxsh [11] .no) (.two (zxsh [11, 3, 0] (.ops [{}, { cls := some .r, own := true }, { cls := some .p }])) (.two (zxsh [8] (.draw [0, 1, 2, 3, 4, 5, 6, 7, 8, 9, 10, 11, 12, 13, 14, 15, 16, 17] [{ cls := some .p }, {}, {}, {}, {}, {}, { cls := some .p }, {}, {}, {}, { cls := some .p }, {}, { cls := some .r, own := true }])) (zxsh [8] .no)))))))))))))) = some xf8 := by kernel_rfl
def xf35_l0 : XCode :=
(.seq (zxsr [(oP 11 (.bin .lss (T 10) (T 9)))]) (.seq (zxsq [8, 0, 0] (.cond (T 11) .skip (zxsq [] (.exit 0)))) (.seq (zxsq [2, 5, 0, 0] (.block 1 (.seq (zxsq [4, 3, 0, 0] (zxsr [(oP 12 (.iaddrS 21 (T 8) (T 10))), (oR 13 (.load true 21 (T 12))), (oW 4 (.alloc [(.pv
  (.int .i64 0)), zxsi, zxss, zxsi, zxsi, zxsi, zxsi, zxsi,
  zxsi, zxsi, zxsd, zxsd, zxsi, zxsi, zxsd, (.pv (.int
  .i64 0)), zxsi, zxsf, (.pv (.sl .nil 0 [])), zxss, zxss])), (sW (.store 21 (T 4) (T 13)))])) (.seq (zxsq [8, 0, 0, 25] (zxsr [(oP 14 (.faddr 20 (T 4))), (oR 15 (.load false 1 (T 14))), (oP 16 (.lenS (T 15))), (oP 17 (.bin .gtr (T 16) (tI
  6000))), (zxsm 18 17), (zxsg 19 18 false (.faddr 19 (T 4))), (.mk (some 20) (.load false 1 (T 19)) (some (18, false)) .r), (zxsg 21 18 false (.lenS (T 20))), (zxsg 22 18 false (.bin .gtr (T 21) (tI 6000))), (oP 23 (.pick (T 18) (.lit (.c (.pv
  (.bool true)))) (T 22))), (zxsm 24 23), (zxsg 25 24 false (.faddr 1 (T 4))), (zxsg 26 24 false (.faddr 1 (T 25))), (.mk (some 27) (.load false 1 (T 26)) (some (24, false)) .r), (zxsg 28 24 false (.lenS (T 27))), (zxsg 29 24 false (.bin .gtr (T 28) (tI
  6000))), (oP 30 (.pick (T 24) (.lit (.c zxst)) (T 29))), (zxsm 31 30), (zxsg 32 31 false (.faddr 18 (T 4))), (.mk (some 33) (.load false 1 (T 32)) (some (31, false)) .r), (zxsg 34 31 false (.len (T 33))), (zxsg 35 31 false (.bin .gtr (T
  34) (tI 40))), (oP 36 (.pick (T 31) (.lit (.c zxst)) (T 35)))])) (zxsq [2, 5, 0, 0] (.cond (T 36) (.seq (.region
  false [(oP 2 (.mv (.lit (.c zxsf))))]) (zxsq [2] .ret)) .skip)))))) (zxsq [8, 0, 0] (zxsr [(oP 37 (.bin .add (T
  10) (tI 1))), (zxsm 10 37)])))))
def xf35 : XFunc :=
(.mk 38 [(.tmp 2)] (.seq (zxsq [0] (zxsr [(oP 2 (.mv (.lit (.c zxsf))))])) (.seq (.seq (zxsq [0, 6] (.region false
  [(zxsm 5 0), (oP 6 (.len (T 5))), (oP 7 (.bin .gtr (T 6) (tI 210)))])) (zxsq [0, 1] (.cond (T 7) (.seq (zxsr [(oP 2 (.mv (.lit (.c
  zxsf))))]) (zxsq [2] .ret)) .skip))) (.seq (.seq (zxsq [8, 0, 0] (zxsr [(zxsm 8 0), (oP 9 (.len (T 8))),
  (oP 10 (.mv (tI 0)))])) (zxsq [2] (.block 0 (.loop (rl [8, 0, 0]) xf35_l0)))) (.seq (zxsr [(oP 2 (.mv (.lit (.c zxst))))])
  (zxsq [2] .ret))))))
theorem xf35_ok : cmpFunc Go.Proofs.Tryd.prog 35 ((.two (zxsh [0] .no) (.two (.two (zxsh [0, 6] .no) (zxsh [0, 1] (.two (.two .no (zxsh [2] .no)) .no))) (.two (.two (zxsh [8, 0, 0] .no) (zxsh [2] (.loop (rl [8, 0, 0]) (.two .no (.two (zxsh [8, 0, 0] (.two .no (zxsh [] .no))) (.two (zxsh [2, 5, 0, 0] (.two (zxsh [4, 3, 0, 0] .no) (.two (zxsh [8, 0, 0, 25] .no) (zxsh [2, 5, 0, 0] (.two (.two .no (zxsh [2] .no)) .no))))) (zxsh [8, 0, 0] .no))))))) (.two .no (zxsh [2] .no)))))) = some xf35 := by kernel_rfl
def xf36 : XFunc :=
(.mk 141 [(.tmp 0)] (.seq (zxsq [] (zxsr [(oP 0 (.mv (.lit (.c zxsf))))])) (.seq (zxsq [1] (zxsr [(oP 21 (.build
  [zxsi, zxsi, zxss, zxsi, zxsi, zxsi, zxsi, (.pv (.int
  .i64 0)), zxsi, zxsi, zxsd, zxsd, zxsi, zxsi, zxsd,
  zxsi, zxsi, zxsf, (.pv (.sl .nil 0 [])), zxss, zxss] [(0, (1, (tI 5))), (13, (1, (tI
  5)))])), (oW 1 (.alloc [zxsi, zxsi, zxss, zxsi, zxsi, zxsi, (.pv (.int
  .i64 0)), zxsi, zxsi, zxsi, zxsd, zxsd, zxsi, zxsi,
  zxsd, zxsi, zxsi, zxsf, (.pv (.sl .nil 0 [])), zxss, zxss])), (sW (.store 21
  (T 1) (T 21)))])) (.seq (zxsq [1, 0] (zxsr [(oP 22 (.build [zxsi, zxsi] [(0, (1, (tI 1))), (1, (1, (.lit (.c
  (.pv (.int .i64 (-2)))))))])), (oP 23 (.build [zxsi, zxsi, zxsi] [(0, (1, (tI 1))), (1, (2, (T 22)))])), (oP 24
  (.buildSl [zxsi, zxsi, zxsi] 1 3 [(0, (3, (T 23)))])), (oP 25 (.build [zxsi, zxsi,
  zxss, zxsi, zxsi, zxsi, zxsi, zxsi, zxsi, (.pv (.int .i64
  0)), zxsd, zxsd, zxsi, zxsi, zxsd, zxsi, zxsi, (.pv
  (.bool false)), (.pv (.sl .nil 0 [])), zxss, zxss] [(0, (1, (tI 4))), (14, (1, (.lit (.c (.pv (.int .i32 3)))))), (19, (1, (.lit (.c
  (.pv (.str [120])))))), (18, (1, (T 24)))])), (oW 2 (.alloc [zxsi, zxsi, zxss, zxsi, (.pv (.int .i64
  0)), zxsi, zxsi, zxsi, zxsi, zxsi, zxsd, zxsd, (.pv
  (.int .i64 0)), zxsi, zxsd, zxsi, zxsi, zxsf, (.pv (.sl .nil 0 [])), (.pv (.str
  [])), zxss])), (sW (.store 21 (T 2) (T 25)))])) (.seq (zxsq [1, 0, 0, 0] (zxsr [(oR 27 (.load true 21 (T 1))), (oP 28 (zxsc 38 [(T 27)])), (zxsm 26 28), (oP 29 (.extr 0 (T 26))), (oP 30 (.extr 1 (T 26))), (zxsm 3 29), (zxsm 4 30)])) (.seq (zxsq [1, 0, 0, 0, 0, 0] (zxsr [(oR 32 (.load true 21 (T 2))), (oP 33 (zxsc 38 [(T 32)])),
  (zxsm 31 33), (oP 34 (.extr 0 (T 31))), (oP 35 (.extr 1 (T 31))), (zxsm 5 34), (zxsm 6 35)])) (.seq (zxsq [1, 0, 0, 0, 0, 0, 0, 0] (zxsr [(zxsm 37 5), (oP 38 (zxsc 45 [(T 37)])), (zxsm 36 38), (oP 39 (.extr 0 (T 36))), (oP 40
  (.extr 1 (T 36))), (oW 7 (.alloc [zxsi, zxsi, zxss, zxsi, zxsi, zxsi,
  zxsi, zxsi, zxsi, zxsi, zxsd, zxsd, zxsi, (.pv (.int
  .i64 0)), zxsd, zxsi, zxsi, zxsf, (.pv (.sl .nil 0 [])), zxss, zxss])), (sW
  (.store 21 (T 7) (T 39))), (zxsm 8 40)])) (.seq (zxsq [1, 0, 0, 0, 0, 0, 0, 0, 1] (zxsr [(oP 42 (zxsc 45 [(.lit (.c (.pv (.str [5]))))])), (zxsm 41 42), (oP 43 (.extr 0 (T 41))), (oP 44 (.extr 1 (T 41))), (oW 9 (.alloc [zxsi, (.pv
  (.int .i64 0)), zxss, zxsi, zxsi, zxsi, zxsi, zxsi, zxsi,
  zxsi, zxsd, zxsd, zxsi, zxsi, zxsd, zxsi, (.pv (.int
  .i64 0)), zxsf, (.pv (.sl .nil 0 [])), zxss, zxss])), (sW (.store 21 (T 9) (T 43))), (zxsm 10 44)])) (.seq (zxsq [1, 0, 0, 0, 0, 0, 0, 0, 1, 1] (zxsr [(oP 46 (zxsc 45 [(.lit (.c (.pv (.str [11]))))])), (zxsm 45 46), (oP 47 (.extr 0 (T 45))), (oP 48 (.extr 1 (T 45))), (oW 11 (.alloc [zxsi, zxsi, zxss, zxsi,
  zxsi, zxsi, zxsi, zxsi, zxsi, zxsi, zxsd, (.pv (.int
  .i32 0)), zxsi, zxsi, zxsd, zxsi, zxsi, zxsf, (.pv (.sl .nil 0 [])),
  zxss, zxss])), (sW (.store 21 (T 11) (T 47))), (zxsm 12 48)])) (.seq (zxsq [1, 0, 0, 0, 0, 0, 0, 0, 1, 1, 1] (.region
  false [(oP 50 (zxsc 45 [(.lit (.c (.pv (.str [5, 10, 0]))))])), (zxsm 49 50), (oP 51 (.extr 0 (T 49))), (oP 52 (.extr 1
  (T 49))), (oW 13 (.alloc [zxsi, zxsi, zxss, zxsi, zxsi, zxsi, (.pv (.int
  .i64 0)), zxsi, zxsi, zxsi, zxsd, zxsd, zxsi, zxsi,
  zxsd, zxsi, zxsi, zxsf, (.pv (.sl .nil 0 [])), zxss, zxss])), (sW (.store 21
  (T 13) (T 51))), (zxsm 14 52)])) (.seq (zxsq [1, 0, 0, 0, 0, 0, 0, 0, 1, 1, 1, 1] (zxsr [(oP 54 (zxsc 45 [(.lit (.c (.pv (.str [5, 128, 128, 128, 128, 16]))))])), (zxsm 53 54), (oP 55 (.extr 0 (T 53))), (oP 56 (.extr 1 (T 53))), (oW 15 (.alloc [(.pv
  (.int .i64 0)), zxsi, zxss, zxsi, zxsi, zxsi, zxsi, zxsi,
  zxsi, zxsi, zxsd, zxsd, zxsi, zxsi, zxsd, (.pv (.int
  .i64 0)), zxsi, zxsf, (.pv (.sl .nil 0 [])), zxss, zxss])), (sW (.store 21 (T 15) (T 55))), (zxsm 16 56)])) (.seq (zxsq [1, 0, 0, 0, 0, 0, 0, 0, 1, 1, 1, 1, 0, 0] (zxsr [(oR 58 (.load true 21 (T 1))), (oP 59 (.build [zxsi,
  zxsi, zxss, zxsi, zxsi, zxsi, zxsi, zxsi, (.pv (.int .i64
  0)), zxsi, zxsd, zxsd, zxsi, zxsi, zxsd, zxsi, (.pv
  (.int .i64 0)), zxsf, (.pv (.sl .nil 0 [])), zxss, zxss] [(0, (1, (tI 10)))])), (oP 60 (.buildSl [zxsi,
  zxsi, zxss, zxsi, zxsi, zxsi, zxsi, zxsi, (.pv (.int .i64
  0)), zxsi, zxsd, zxsd, zxsi, zxsi, zxsd, zxsi, (.pv
  (.int .i64 0)), zxsf, (.pv (.sl .nil 0 [])), zxss, zxss] 2 21 [(0, (21, (T 58))), (21, (21, (T 59)))])), (oP 61 (zxsc 39 [(T 60)])), (zxsm 57 61), (oP 62 (.extr 0 (T 57))), (oP 63 (.extr 1 (T 57))), (zxsm 17 62), (zxsm 18 63)])) (.seq (zxsq [1, 0, 0, 0, 0, 0, 0, 0, 1, 1, 1, 1, 0, 0, 0, 0] (zxsr [(zxsm 65 17), (oP 66 (zxsc 46 [(T 65)])), (zxsm 64 66), (oP 67 (.extr 0 (T 64))), (oP 68 (.extr 1 (T 64))), (zxsm 19 67), (zxsm 20 68)])) (.seq (zxsq [0] (zxsr [(zxsm 69 3), (oP 70 (.bin .eql (T 69) (.lit (.c (.pv (.str [5, 10])))))), (zxsm 71 70), (zxsg 72 71 true (.mv (T 4))), (zxsg 73 71 true (.bin .eql (T 72) (tI 0))), (oP 74 (.pick (T 71) (T 73) (.lit (.c zxsf)))), (zxsm 75 74), (zxsg 76 75 true (.mv (T 5))), (zxsg 77 75 true (.bin .eql (T 76) (.lit (.c (.pv (.str [4, 6, 1, 120, 1, 2, 2, 3])))))), (oP 78 (.pick (T 75) (T 77) (.lit (.c zxsf)))), (zxsm 79 78), (zxsg 80 79 true (.mv (T 6))), (zxsg 81 79 true (.bin .eql (T 80) (tI 0))), (oP 82 (.pick (T 79) (T 81) (.lit (.c zxsf)))), (zxsm 83 82), (.mk (some 84)
  (.load true 21 (T 7)) (some (83, true)) .r), (.mk (some 85) (.load true 21 (T 2)) (some (83, true)) .r), (zxsg 86 83 true (zxsc 42 [(T 84), (T 85)])), (oP 87 (.pick (T 83) (T 86) (.lit (.c zxsf)))), (zxsm 88 87), (zxsg 89 88 true (.mv (T 8))), (zxsg 90 88 true (.bin .eql (T 89) (tI 0))), (oP 91 (.pick (T 88) (T 90) (.lit (.c zxsf)))), (zxsm 92 91), (zxsg 93 92 true (.mv (T 10))), (zxsg 94 92 true (.bin .eql (T 93) (tI 2))), (oP 95 (.pick (T 92) (T 94)
  (.lit (.c zxsf)))), (zxsm 96 95), (zxsg 97 96 true (.mv (T 12))), (zxsg 98 96 true (.bin .eql (T 97) (tI 3))), (oP 99 (.pick (T 96) (T 98) (.lit (.c zxsf)))), (zxsm 100 99), (zxsg 101 100 true (.mv (T 14))),
  (zxsg 102 100 true (.bin .eql (T 101) (tI 3))), (oP 103 (.pick (T 100) (T 102) (.lit (.c zxsf)))), (zxsm 104 103),
  (zxsg 105 104 true (.mv (T 16))), (zxsg 106 104 true (.bin .eql (T 105) (tI 9))), (oP 107 (.pick (T 104) (T 106) (.lit
  (.c zxsf)))), (zxsm 108 107), (zxsg 109 108 true (.mv (T 17))), (zxsg 110 108 true (.bin .eql (T 109) (.lit (.c (.pv
  (.str [2, 2, 5, 10, 1, 10])))))), (oP 111 (.pick (T 108) (T 110) (.lit (.c zxsf)))), (zxsm 112 111), (zxsg 113 112 true (.mv (T 18))), (zxsg 114 112 true (.bin .eql (T 113) (tI 0))), (oP 115 (.pick (T 112) (T 114) (.lit (.c (.pv
  (.bool false)))))), (zxsm 116 115), (zxsg 117 116 true (.mv (T 19))), (zxsg 118 116 true (.len (T 117))), (zxsg 119 116 true (.bin .eql (T 118) (tI 2))), (oP 120 (.pick (T 116) (T 119) (.lit (.c zxsf)))), (zxsm 121 120), (zxsg 122 121 true (.mv (T 20))), (zxsg 123 121 true (.bin .eql (T 122) (tI 0))), (oP 124 (.pick (T 121) (T 123) (.lit (.c
  zxsf)))), (zxsm 125 124), (zxsg 126 125 true (.build [zxsi, zxsi, zxss, zxsi, (.pv
  (.int .i64 0)), zxsi, zxsi, zxsi, zxsi, zxsi, zxsd, (.pv (.int .i32
  0)), zxsi, zxsi, zxsd, zxsi, zxsi, zxsf, (.pv (.sl .nil 0 [])), (.pv
  (.str [])), zxss] [(0, (1, (tI 5))), (12, (1, (tI 1)))])), (zxsg 127 125 true (zxsc 40 [(T 126)])), (zxsg 128 125 true (.bin .eql (T 127) (tI 1))), (oP 129 (.pick (T 125) (T 128) (.lit (.c zxsf)))),
  (zxsm 130 129), (zxsg 131 130 true (.build [zxsi, zxsi, zxss, zxsi, zxsi, (.pv
  (.int .i64 0)), zxsi, zxsi, zxsi, zxsi, zxsd, zxsd, (.pv (.int .i64
  0)), zxsi, zxsd, zxsi, zxsi, zxsf, (.pv (.sl .nil 0 [])), zxss, (.pv
  (.str []))] [(0, (1, (tI 11)))])), (zxsg 132 130 true (zxsc 40 [(T 131)])), (zxsg 133 130 true (.bin .eql (T 132) (tI 3))), (oP 134 (.pick (T 130) (T 133) (.lit (.c zxsf)))), (zxsm 135 134), (.mk (some
  136) (.load true 21 (T 1)) (some (135, true)) .r), (.mk (some 137) (.load true 21 (T 2)) (some (135, true)) .r), (zxsg 138 135 true (zxsc 42 [(T 136), (T 137)])), (zxsg 139 135 true (.un .not (T 138))), (oP 140 (.pick (T 135) (T 139) (.lit (.c
  zxsf)))), (zxsm 0 140)])) (zxsq [0] .ret)))))))))))))))
theorem xf36_ok : cmpFunc Go.Proofs.Tryd.prog 36 ((.two (zxsh [] .no) (.two (zxsh [1] .no) (.two (zxsh [1, 0] .no) (.two (zxsh [1, 0, 0, 0] (.ops [{}, { cls := some .p }])) (.two (zxsh [1, 0, 0, 0, 0, 0] (.ops [{}, { cls := some .p }])) (.two (zxsh [1, 0, 0, 0, 0, 0, 0, 0] (.ops [{}, { cls := some .p }])) (.two (zxsh [1, 0, 0, 0, 0, 0, 0, 0, 1] (.ops [{ cls := some .p }])) (.two (zxsh [1, 0, 0, 0, 0, 0, 0, 0, 1, 1] (.ops [{ cls := some .p }])) (.two (zxsh [1, 0, 0, 0, 0, 0, 0, 0, 1, 1, 1] (.ops [{ cls := some .p }])) (.two (zxsh [1, 0, 0, 0, 0, 0, 0, 0, 1, 1, 1, 1] (.ops [{ cls := some .p }])) (.two (zxsh [1, 0, 0, 0, 0, 0, 0, 0, 1, 1, 1, 1, 0, 0] (.ops [{}, {}, {}, { cls := some .p }])) (.two (zxsh [1, 0, 0, 0, 0, 0, 0, 0, 1, 1, 1, 1, 0, 0, 0, 0] (.ops [{}, { cls := some .p }])) (.two (zxsh [0] (.ops [{}, {}, {}, {}, {}, {}, {}, {}, {}, {}, {}, {}, {}, {}, {}, {}, {}, { cls := some .p }, {}, {}, {}, {}, {}, {}, {}, {}, {}, {}, {}, {}, {}, {}, {}, {}, {}, {}, {}, {}, {}, {}, {}, {}, {}, {}, {}, {}, {}, {}, {}, {}, {}, {}, {}, {}, {}, {}, {}, {}, { cls := some .p }, {}, {}, {}, {}, { cls := some .p }, {}, {}, {}, {}, {}, { cls := some .p }])) (zxsh [0] .no))))))))))))))) = some xf36 := by kernel_rfl
def xf37_l0 : XCode :=
(.seq (.seq (zxsq [1, 1, 0, 0, 0, 69] (zxsr [(zxsm 72 6), (oP 73 (.faddr 18 (T 3))), (oR 74 (.load false 1 (T 73))), (oP 75 (.len (T
  74))), (oP 76 (.bin .lss (T 72) (T 75)))])) (zxsq [1, 1, 0, 0, 0] (.cond (T 76) .skip (zxsq [1, 1, 0, 0] (.exit 0))))) (.seq (zxsq [1, 1, 0, 0, 0] (.block 1 (.seq (zxsq [1, 1, 0, 0, 0] (zxsr [(zxsm 79 4), (oP 80 (.faddr 18 (T 3))), (oR 81 (.load false 1 (T
  80))), (zxsm 82 6), (oP 83 (.iaddrS 3 (T 81) (T 82))), (oP 84 (.faddr 1 (T 83))), (oR 85 (.load true 2 (T 84))), (oP 86 (.buildSl [(.pv (.int .i64
  0)), zxsi] 1 2 [(0, (2, (T 85)))])), (oW 87 (.app 2 16 (T 79) (T 86))), (zxsm 4 87)])) (zxsq [1, 1, 0, 0, 0] (.region false
  [(zxsm 88 5), (oP 89 (.faddr 18 (T 3))), (oR 90 (.load false 1 (T 89))), (zxsm 91 6), (oP 92 (.iaddrS 3 (T 90) (T 91))), (oP 93 (.faddr 0 (T
  92))), (oR 94 (.load false 1 (T 93))), (oP 95 (.buildSl [zxsi] 1 1 [(0, (1, (T 94)))])), (oW 96 (.app 1 8 (T 88) (T 95))), (zxsm 5 96)]))))) (zxsq [1, 1, 0, 0, 0] (zxsr [(zxsm 77 6), (oP 78 (.bin .add (T 77) (tI 1))), (zxsm 6 78)]))))
def xf37_l1 : XCode :=
(.seq (.seq (zxsq [1, 1, 0, 0, 1, 102] (zxsr [(zxsm 107 7), (zxsm 108 4), (oP 109 (.len (T 108))), (oP 110 (.bin .lss (T 107)
  (T 109)))])) (zxsq [1, 1, 0, 0, 1] (.cond (T 110) .skip (zxsq [1, 1, 0, 0] (.exit 2))))) (.seq (zxsq [1, 0, 0, 0, 0, 1] (.block
  3 (.seq (zxsq [1, 1, 0, 0, 1, 118] (zxsr [(zxsm 113 4), (zxsm 114 7), (oP 115 (.iaddrS 2 (T 113) (T 114))), (oP 116 (.faddr
  0 (T 115))), (oR 117 (.load false 1 (T 116))), (oP 118 (.bin .lss (T 117) (tI 0))), (zxsm 119 118), (zxsg 120 119 false (.mv (T 4))), (zxsg 121 119 false (.mv (T 7))), (zxsg 122 119 false (.iaddrS 2 (T 120) (T 121))), (zxsg 123 119 false (.faddr 0 (T
  122))), (.mk (some 124) (.load false 1 (T 123)) (some (119, false)) .r), (zxsg 125 119 false (.bin .gtr (T 124) (tI 3))), (oP 126 (.pick (T 119) (.lit (.c zxst)) (T 125)))])) (zxsq [1, 0, 0, 0, 0, 1] (.cond (T 126) (.seq (zxsr [(oP 2 (.mv (tI
  12)))]) (zxsq [2] .ret)) .skip))))) (zxsq [1, 1, 0, 0, 1] (zxsr [(zxsm 111 7), (oP 112 (.bin .add (T 111) (tI 1))), (zxsm 7 112)]))))
def xf37_l2 : XCode :=
(.seq (.seq (zxsq [1, 1, 0, 0, 2, 121] (zxsr [(zxsm 127 8), (zxsm 128 4), (oP 129 (.len (T 128))), (oP 130 (.bin .lss (T 127)
  (T 129)))])) (zxsq [1, 1, 0, 0, 2] (.cond (T 130) .skip (zxsq [1, 1, 1] (.exit 4))))) (.seq (zxsq [1, 0, 0, 0, 0, 2] (.block 5
  (.seq (zxsq [1, 1, 0, 0, 2, 137] (zxsr [(zxsm 133 4), (zxsm 134 8), (oP 135 (.iaddrS 2 (T 133) (T 134))), (oP 136 (.faddr 1
  (T 135))), (oR 137 (.load false 1 (T 136))), (oP 138 (.bin .gtr (T 137) (tI 1000000000000000))), (zxsm 139 138), (zxsg 140 139 false (.mv (T 4))), (zxsg 141 139 false (.mv (T 8))), (zxsg 142 139 false (.iaddrS 2 (T 140) (T 141))), (zxsg 143 139 false (.faddr 1 (T 142))), (.mk (some 144) (.load false 1 (T 143)) (some (139, false)) .r), (zxsg 145 139 false (.bin .lss (T 144) (.lit (.c (.pv
  (.int .i64 (-1000000000000000))))))), (oP 146 (.pick (T 139) (.lit (.c zxst)) (T 145)))])) (zxsq [1, 0, 0, 0, 0, 2] (.cond (T 146) (.seq (zxsr [(oP 2 (.mv (tI 9)))]) (zxsq [2] .ret)) .skip))))) (zxsq [1, 1, 0, 0, 2] (zxsr [(zxsm 131 8), (oP 132 (.bin .add (T 131) (tI 1))), (zxsm 8 132)]))))
def xf37_l3 : XCode :=
(.seq (.seq (zxsq [1, 1, 1, 3, 140] (zxsr [(zxsm 147 9), (zxsm 148 5), (oP 149 (.len (T 148))), (oP 150 (.bin .lss (T 147) (T
  149)))])) (zxsq [1, 1, 1, 3] (.cond (T 150) .skip (zxsq [1, 1] (.exit 6))))) (.seq (zxsq [1, 0, 0, 1, 3] (.block 7 (.seq (zxsq [1, 1, 1, 3, 148] (zxsr [(zxsm 153 5), (zxsm 154 9), (oP 155 (.iaddrS 1 (T 153) (T 154))), (oR 156 (.load false 1 (T
  155))), (oP 157 (zxsc 72 [(T 156)])), (oP 158 (.un .not (T 157)))])) (zxsq [1, 0, 0, 1, 3] (.cond (T 158) (.seq
  (zxsr [(oP 2 (.mv (tI 9)))]) (zxsq [2] .ret)) .skip))))) (zxsq [1, 1, 1, 3] (zxsr [(zxsm 151 9), (oP 152 (.bin
  .add (T 151) (tI 1))), (zxsm 9 152)]))))
def xf37 : XFunc :=
(.mk 163 [(.tmp 2)] (.seq (zxsq [1] (zxsr [(oW 1 (.box (T 0) 21)), (oP 2 (.mv (tI 0)))])) (.seq (.seq (zxsq [1, 15] (.region false
  [(oP 10 (.faddr 0 (T 1))), (oR 11 (.load false 1 (T 10))), (oP 12 (.bin .lss (T 11) (tI 0))), (zxsm 13 12), (zxsg 14 13 false (.faddr 0 (T 1))), (.mk (some 15) (.load false 1 (T 14)) (some (13, false)) .r), (zxsg 16 13 false (.bin .gtr (T 15) (tI 10))), (oP 17 (.pick (T
  13) (.lit (.c zxst)) (T 16)))])) (zxsq [1, 0] (.cond (T 17) (.seq (zxsr [(oP 2 (.mv (tI 3)))]) (zxsq [2] .ret))
  .skip))) (.seq (.seq (zxsq [1, 38] (zxsr [(oP 18 (.faddr 1 (T 1))), (oP 19 (.faddr 1 (T 18))), (oR 20 (.load false 1 (T 19))), (oP 21
  (.lenS (T 20))), (oP 22 (.bin .gtr (T 21) (tI 32))), (zxsm 23 22), (zxsg 24 23 false (.faddr 19 (T 1))), (.mk (some 25) (.load
  false 1 (T 24)) (some (23, false)) .r), (zxsg 26 23 false (.lenS (T 25))), (zxsg 27 23 false (.bin .gtr (T 26) (tI 32))), (oP 28 (.pick (T 23) (.lit (.c zxst)) (T 27))), (zxsm 29 28), (zxsg 30 29 false (.faddr 20 (T 1))), (.mk (some
  31) (.load false 1 (T 30)) (some (29, false)) .r), (zxsg 32 29 false (.lenS (T 31))), (zxsg 33 29 false (.bin .gtr (T 32) (tI 2000))), (oP 34 (.pick (T 29) (.lit (.c zxst)) (T 33))), (zxsm 35 34), (zxsg 36 35 false (.faddr 18 (T 1))),
  (.mk (some 37) (.load false 1 (T 36)) (some (35, false)) .r), (zxsg 38 35 false (.len (T 37))), (zxsg 39 35 false (.bin .gtr (T 38) (tI 16))), (oP 40 (.pick (T 35) (.lit (.c zxst)) (T 39)))])) (zxsq [1, 0] (.cond (T 40) (.seq (zxsr [(oP 2 (.mv
  (tI 4)))]) (zxsq [2] .ret)) .skip))) (.seq (zxsq [1, 1] (zxsr [(oR 41 (.load true 21 (T 1))), (oP 42 (zxsc 71 [(T 41)])), (oW 3 (.alloc [zxsi, zxsi, zxss, zxsi, zxsi, (.pv (.int .i64
  0)), zxsi, zxsi, zxsi, zxsi, zxsd, zxsd, zxsi, (.pv
  (.int .i64 0)), zxsd, zxsi, zxsi, zxsf, (.pv (.sl .nil 0 [])), zxss, (.pv (.str
  []))])), (sW (.store 21 (T 3) (T 42)))])) (.seq (zxsq [1, 1, 0] (zxsr [(oP 43 (.faddr 15 (T 3))), (oR 44 (.load true 2 (T 43))), (oP 45
  (.buildSl [zxsi, zxsi] 1 2 [(0, (2, (T 44)))])), (zxsm 4 45)])) (.seq (zxsq [1, 1, 0, 0] (zxsr [(oP
  46 (.faddr 12 (T 3))), (oR 47 (.load false 1 (T 46))), (oP 48 (.faddr 13 (T 3))), (oR 49 (.load false 1 (T 48))), (oP 50 (.faddr 1 (T 3))), (oP 51 (.faddr 0
  (T 50))), (oR 52 (.load false 1 (T 51))), (oP 53 (.faddr 1 (T 3))), (oP 54 (.faddr 2 (T 53))), (oR 55 (.load false 1 (T 54))), (oP 56 (.faddr 4 (T 3))), (oP
  57 (.faddr 0 (T 56))), (oR 58 (.load false 1 (T 57))), (oP 59 (.faddr 4 (T 3))), (oP 60 (.faddr 1 (T 59))), (oR 61 (.load false 1 (T 60))), (oP 62 (.faddr 4
  (T 3))), (oP 63 (.faddr 3 (T 62))), (oR 64 (.load false 1 (T 63))), (oP 65 (.faddr 4 (T 3))), (oP 66 (.faddr 4 (T 65))), (oR 67 (.load false 1 (T 66))), (oP
  68 (.faddr 4 (T 3))), (oP 69 (.faddr 5 (T 68))), (oR 70 (.load false 1 (T 69))), (oP 71 (.buildSl [zxsi] 9 1 [(0, (1, (T 47))), (1, (1, (T
  49))), (2, (1, (T 52))), (3, (1, (T 55))), (4, (1, (T 58))), (5, (1, (T 61))), (6, (1, (T 64))), (7, (1, (T 67))), (8, (1, (T 70)))])), (zxsm 5 71)]))
  (.seq (.seq (zxsr [(oP 6 (.mv (tI 0)))]) (zxsq [1, 1, 0, 0] (.block 0 (.loop (rl [1, 1, 0, 0, 0]) xf37_l0)))) (.seq (.seq (zxsq [1, 1, 0, 0, 100] (zxsr [(oP 97 (.faddr 4 (T 3))), (oP 98 (.faddr 2 (T 97))), (oR 99 (.load false 1 (T 98))), (oP 100 (.bin .lss (T 99) (tI 0))), (zxsm 101 100), (zxsg 102 101 false (.faddr 4 (T 3))), (zxsg 103 101 false (.faddr 2 (T 102))), (.mk (some 104)
  (.load false 1 (T 103)) (some (101, false)) .r), (zxsg 105 101 false (.bin .gtr (T 104) (tI 3))), (oP 106 (.pick (T 101) (.lit (.c (.pv
  (.bool true)))) (T 105)))])) (zxsq [1, 0, 0, 0, 0] (.cond (T 106) (.seq (zxsr [(oP 2 (.mv (tI 12)))]) (zxsq [2] .ret)) .skip)))
  (.seq (.seq (zxsr [(oP 7 (.mv (tI 0)))]) (zxsq [1, 0, 0, 0, 0] (.block 2 (.loop (rl [1, 1, 0, 0, 1]) xf37_l1)))) (.seq (.seq (.region false
  [(oP 8 (.mv (tI 0)))]) (zxsq [1, 0, 0, 1] (.block 4 (.loop (rl [1, 1, 0, 0, 2]) xf37_l2)))) (.seq (.seq (zxsr [(oP 9 (.mv (tI 0)))]) (zxsq [1, 0, 0] (.block 6 (.loop (rl [1, 1, 1, 3]) xf37_l3)))) (.seq (.seq (zxsq [162] (zxsr [(oR 159 (.load true 21 (T 3))), (oR 160
  (.load true 21 (T 1))), (oP 161 (zxsc 43 [(T 159), (T 160)])), (oP 162 (.un .not (T 161)))])) (zxsq [2] (.cond (T
  162) (.seq (zxsr [(oP 2 (.mv (tI 1)))]) (zxsq [2] .ret)) .skip))) (.seq (zxsr [(oP 2 (.mv (tI 0)))]) (zxsq [2]
  .ret)))))))))))))))
theorem xf37_ok : cmpFunc Go.Proofs.Tryd.prog 37 ((.two (zxsh [1] .no) (.two (.two (zxsh [1, 15] .no) (zxsh [1, 0] (.two (.two .no (zxsh [2] .no)) .no))) (.two (.two (zxsh [1, 38] .no) (zxsh [1, 0] (.two (.two .no (zxsh [2] .no)) .no))) (.two (zxsh [1, 1] (.ops [{}, { cls := some .p }])) (.two (zxsh [1, 1, 0] .no) (.two (zxsh [1, 1, 0, 0] .no) (.two (.two .no (zxsh [1, 1, 0, 0] (.loop (rl [1, 1, 0, 0, 0]) (.two (.two (zxsh [1, 1, 0, 0, 0, 69] .no) (zxsh [1, 1, 0, 0, 0] (.two .no (zxsh [1, 1, 0, 0] .no)))) (.two (zxsh [1, 1, 0, 0, 0] (.two (zxsh [1, 1, 0, 0, 0] .no) (zxsh [1, 1, 0, 0, 0] .no))) (zxsh [1, 1, 0, 0, 0] .no)))))) (.two (.two (zxsh [1, 1, 0, 0, 100] .no) (zxsh [1, 0, 0, 0, 0] (.two (.two .no (zxsh [2] .no)) .no))) (.two (.two .no (zxsh [1, 0, 0, 0, 0] (.loop (rl [1, 1, 0, 0, 1]) (.two (.two (zxsh [1, 1, 0, 0, 1, 102] .no) (zxsh [1, 1, 0, 0, 1] (.two .no (zxsh [1, 1, 0, 0] .no)))) (.two (zxsh [1, 0, 0, 0, 0, 1] (.two (zxsh [1, 1, 0, 0, 1, 118] .no) (zxsh [1, 0, 0, 0, 0, 1] (.two (.two .no (zxsh [2] .no)) .no)))) (zxsh [1, 1, 0, 0, 1] .no)))))) (.two (.two .no (zxsh [1, 0, 0, 1] (.loop (rl [1, 1, 0, 0, 2]) (.two (.two (zxsh [1, 1, 0, 0, 2, 121] .no) (zxsh [1, 1, 0, 0, 2] (.two .no (zxsh [1, 1, 1] .no)))) (.two (zxsh [1, 0, 0, 0, 0, 2] (.two (zxsh [1, 1, 0, 0, 2, 137] .no) (zxsh [1, 0, 0, 0, 0, 2] (.two (.two .no (zxsh [2] .no)) .no)))) (zxsh [1, 1, 0, 0, 2] .no)))))) (.two (.two .no (zxsh [1, 0, 0] (.loop (rl [1, 1, 1, 3]) (.two (.two (zxsh [1, 1, 1, 3, 140] .no) (zxsh [1, 1, 1, 3] (.two .no (zxsh [1, 1] .no)))) (.two (zxsh [1, 0, 0, 1, 3] (.two (zxsh [1, 1, 1, 3, 148] (.ops [{}, {}, {}, {}, { cls := some .p }])) (zxsh [1, 0, 0, 1, 3] (.two (.two .no (zxsh [2] .no)) .no)))) (zxsh [1, 1, 1, 3] .no)))))) (.two (.two (zxsh [162] (.ops [{}, {}, { cls := some .p }])) (zxsh [2] (.two (.two .no (zxsh [2] .no)) .no))) (.two .no (zxsh [2] .no))))))))))))))) = some xf37 := by kernel_rfl
def xf38_l0 : XCode :=
(.seq (zxsr [(oP 101 (.bin .lss (T 100) (T 99)))]) (.seq (zxsq [1, 3, 0, 91, 0, 0] (.cond (T 101) .skip (zxsq [1, 3, 0] (.exit
  0)))) (.seq (zxsq [1, 3, 0, 91, 0, 0] (.block 1 (.seq (zxsq [1, 3, 0, 2, 88, 0, 0] (zxsr [(oP 102 (.iaddrS 3 (T 98) (T 100))),
  (oR 103 (.load true 3 (T 102))), (oW 9 (.alloc [zxsi, zxsi, zxsi])), (sW (.store 3 (T 9) (T 103)))])) (.seq (zxsq [1, 3, 0, 2, 88, 0, 0] (zxsr [(oR 104 (.load false 1 (T 5))), (oP 105 (.faddr 0 (T 9))), (oR 106 (.load false 1 (T 105))), (oW 107 (zxsc 75 [(T 104), (T 106)]))])) (zxsq [1, 3, 0, 91, 0, 0] (zxsr [(oR 108 (.load false 1 (T 5))), (oP 109 (.faddr 1
  (T 9))), (oR 110 (.load true 2 (T 109))), (oW 111 (zxsc 76 [(T 108), (T 110)]))])))))) (zxsq [1, 3, 0, 91, 0, 0]
  (zxsr [(oP 112 (.bin .add (T 100) (tI 1))), (zxsm 100 112)])))))
def xf38 : XFunc :=
(.mk 147 [(.tmp 2), (.tmp 3)] (.seq (zxsq [1] (zxsr [(oW 1 (.box (T 0) 21)), (oP 2 (.mv (.lit (.c zxss)))), (oP 3 (.mv (tI 0)))]))
  (.seq (.seq (zxsq [1, 2] (zxsr [(oR 10 (.load true 21 (T 1))), (oP 11 (zxsc 40 [(T 10)])), (zxsm 4 11)])) (.seq (zxsq [1, 2, 8] (zxsr [(zxsm 12 4), (oP 13 (.bin .neq (T 12) (tI 0)))])) (zxsq [1, 0, 0] (.cond (T 13)
  (.seq (zxsq [2, 0] (zxsr [(zxsm 14 4), (oP 2 (.mv (.lit (.c zxss)))), (zxsm 3 14)])) (zxsq [2, 0]
  .ret)) .skip)))) (.seq (zxsq [1, 3] (zxsr [(oW 15 (zxsc 48 [])), (oW 5 (.alloc [.nilp])), (sW (.store 1 (T
  5) (T 15)))])) (.seq (zxsq [1, 3, 0] (zxsr [(oP 16 (.mkfn 73 [(T 1), (T 5)])), (zxsm 6 16)])) (.seq (zxsq [1, 3, 0]
  (zxsr [(oR 17 (.load false 1 (T 5))), (oP 18 (.faddr 0 (T 1))), (oR 19 (.load false 1 (T 18))), (oP 20 (.convI .u64 (T 19))), (oW 21 (zxsc 49 [(T 17), (T 20)]))])) (.seq (zxsq [1, 3, 0] (zxsr [(zxsm 22 6), (oP 23 (.faddr 1 (T 1))), (oP 24 (.faddr 0
  (T 23))), (oR 25 (.load false 1 (T 24))), (oP 26 (.buildSl [zxsi] 1 1 [(0, (1, (T 25)))])), (oW 27 (.call false [] (T 22) [(tI 1), (T 26)]))]))
  (.seq (.seq (zxsq [1, 3, 0, 23] (zxsr [(oP 28 (.faddr 0 (T 1))), (oR 29 (.load false 1 (T 28))), (oP 30 (zxsc 74 [(T 29), (tI 1)]))])) (zxsq [1, 3, 0] (.cond (T 30) (zxsq [1, 3, 0] (zxsr [(oR 31 (.load false 1 (T 5))), (oP 32 (.faddr 1
  (T 1))), (oP 33 (.faddr 1 (T 32))), (oR 34 (.load false 1 (T 33))), (oW 35 (zxsc 50 [(T 31), (T 34)]))])) .skip))) (.seq (zxsq [1, 3, 0] (zxsr [(zxsm 36 6), (oP 37 (.faddr 1 (T 1))), (oP 38 (.faddr 2 (T 37))), (oR 39 (.load false 1 (T 38))), (oP 40
  (.buildSl [zxsi] 1 1 [(0, (1, (T 39)))])), (oW 41 (.call false [] (T 36) [(tI 1), (T 40)]))])) (.seq (zxsq [1, 3, 0, 0] (.region
  false [(oP 42 (.faddr 4 (T 1))), (oR 43 (.load true 8 (T 42))), (oW 7 (.alloc [zxsi, zxsi, zxsi, (.pv (.int .i64
  0)), zxsi, zxsi, zxsd, zxsd])), (sW (.store 8 (T 7) (T 43)))])) (.seq (zxsq [1, 3, 0]
  (zxsr [(zxsm 44 6), (oP 45 (.faddr 0 (T 7))), (oR 46 (.load false 1 (T 45))), (oP 47 (.faddr 1 (T 7))), (oR 48 (.load false 1 (T 47))), (oP
  49 (.faddr 2 (T 7))), (oR 50 (.load false 1 (T 49))), (oP 51 (.faddr 3 (T 7))), (oR 52 (.load false 1 (T 51))), (oP 53 (.faddr 4 (T 7))), (oR 54 (.load false
  1 (T 53))), (oP 55 (.faddr 5 (T 7))), (oR 56 (.load false 1 (T 55))), (oP 57 (.faddr 6 (T 7))), (oR 58 (.load false 1 (T 57))), (oP 59 (.convI .i64 (T 58))),
  (oP 60 (.faddr 7 (T 7))), (oR 61 (.load false 1 (T 60))), (oP 62 (.convI .i64 (T 61))), (oP 63 (.buildSl [zxsi] 8 1 [(0, (1, (T 46))), (1, (1,
  (T 48))), (2, (1, (T 50))), (3, (1, (T 52))), (4, (1, (T 54))), (5, (1, (T 56))), (6, (1, (T 59))), (7, (1, (T 62)))])), (oW 64 (.call false [] (T 44) [(tI
  2), (T 63)]))])) (.seq (zxsq [1, 3, 0] (zxsr [(zxsm 65 6), (oP 66 (.faddr 12 (T 1))), (oR 67 (.load false 1 (T 66))), (oP 68
  (.buildSl [zxsi] 1 1 [(0, (1, (T 67)))])), (oW 69 (.call false [] (T 65) [(tI 4), (T 68)]))])) (.seq (zxsq [1, 3, 0] (.region false
  [(zxsm 70 6), (oP 71 (.faddr 13 (T 1))), (oR 72 (.load false 1 (T 71))), (oP 73 (.buildSl [zxsi] 1 1 [(0, (1, (T 72)))])), (oW 74
  (.call false [] (T 70) [(tI 8), (T 73)]))])) (.seq (zxsq [1, 3, 0] (zxsr [(zxsm 75 6), (oP 76 (.faddr 14 (T 1))), (oR 77 (.load
  false 1 (T 76))), (oP 78 (.convI .i64 (T 77))), (oP 79 (.buildSl [zxsi] 1 1 [(0, (1, (T 78)))])), (oW 80 (.call false [] (T 75) [(tI 16), (T
  79)]))])) (.seq (.seq (zxsq [1, 3, 0, 76] (zxsr [(oP 81 (.faddr 0 (T 1))), (oR 82 (.load false 1 (T 81))), (oP 83 (zxsc 74 [(T 82), (tI 32)]))])) (zxsq [1, 3, 0] (.cond (T 83) (zxsq [1, 3, 0] (zxsr [(oR 84 (.load false 1 (T 5))), (oP 85
  (.faddr 19 (T 1))), (oR 86 (.load false 1 (T 85))), (oW 87 (zxsc 50 [(T 84), (T 86)]))])) .skip))) (.seq (.seq (zxsq [1, 3, 0, 83] (zxsr [(oP 88 (.faddr 0 (T 1))), (oR 89 (.load false 1 (T 88))), (oP 90 (zxsc 74 [(T 89), (tI 64)]))]))
  (zxsq [1, 3, 0] (.cond (T 90) (.seq (zxsq [1, 3, 0] (zxsr [(oR 91 (.load false 1 (T 5))), (oP 92 (.faddr 18 (T 1))), (oR 93
  (.load false 1 (T 92))), (oP 94 (.len (T 93))), (oP 95 (.convI .u64 (T 94))), (oW 96 (zxsc 49 [(T 91), (T 95)]))])) (.seq (zxsq [1, 3, 0, 91, 0, 0] (zxsr [(oP 97 (.faddr 18 (T 1))), (oR 98 (.load false 1 (T 97))), (oP 99 (.len (T 98))), (oP 100 (.mv (tI 0)))])) (zxsq [1, 3, 0] (.block 0 (.loop (rl [1, 3, 0, 91, 0, 0]) xf38_l0))))) .skip))) (.seq (.seq (zxsq [1, 3, 0, 108] (zxsr [(oP 113
  (.faddr 0 (T 1))), (oR 114 (.load false 1 (T 113))), (oP 115 (zxsc 74 [(T 114), (tI 128)]))])) (zxsq [1, 3, 0] (.cond
  (T 115) (zxsq [1, 3, 0] (zxsr [(oR 116 (.load false 1 (T 5))), (oP 117 (.faddr 15 (T 1))), (oR 118 (.load true 2 (T 117))), (oW 119 (zxsc 76 [(T 116), (T 118)]))])) .skip))) (.seq (zxsq [1, 3, 0] (zxsr [(zxsm 120 6), (oP 121 (.faddr 13 (T
  1))), (oR 122 (.load false 1 (T 121))), (oP 123 (.buildSl [zxsi] 1 1 [(0, (1, (T 122)))])), (oW 124 (.call false [] (T 120) [(tI 256), (T
  123)]))])) (.seq (zxsq [1, 3] (zxsr [(zxsm 125 6), (oP 126 (.faddr 14 (T 1))), (oR 127 (.load false 1 (T 126))), (oP 128 (.convI
  .i64 (T 127))), (oP 129 (.buildSl [zxsi] 1 1 [(0, (1, (T 128)))])), (oW 130 (.call false [] (T 125) [(tI 512), (T 129)]))])) (.seq (.seq (zxsq [1, 3, 127] (zxsr [(oP 131 (.faddr 0 (T 1))), (oR 132 (.load false 1 (T 131))), (oP 133 (zxsc 74 [(T 132),
  (tI 1024)]))])) (zxsq [1, 3] (.cond (T 133) (zxsq [1, 3] (zxsr [(oR 134 (.load false 1 (T 5))), (oP 135 (.faddr 17 (T 1))), (oR
  136 (.load false 1 (T 135))), (oW 137 (zxsc 77 [(T 134), (T 136)]))])) .skip))) (.seq (.seq (zxsq [1, 3, 134]
  (zxsr [(oP 138 (.faddr 0 (T 1))), (oR 139 (.load false 1 (T 138))), (oP 140 (zxsc 74 [(T 139), (tI 2048)]))])) (zxsq [5] (.cond (T 140) (zxsq [5] (zxsr [(oR 141 (.load false 1 (T 5))), (oP 142 (.faddr 20 (T 1))), (oR 143 (.load false 1 (T
  142))), (oW 144 (zxsc 50 [(T 141), (T 143)]))])) .skip))) (.seq (zxsq [2, 0] (zxsr [(oR 145 (.load false 1
  (T 5))), (oW 146 (zxsc 51 [(T 145)])), (zxsm 2 146), (oP 3 (.mv (tI 0)))])) (zxsq [2, 0]
  .ret)))))))))))))))))))))))
theorem xf38_ok : cmpFunc Go.Proofs.Tryd.prog 38 ((.two (zxsh [1] .no) (.two (.two (zxsh [1, 2] (.ops [{}, { cls := some .p }])) (.two (zxsh [1, 2, 8] .no) (zxsh [1, 0, 0] (.two (.two (zxsh [2, 0] .no) (zxsh [2, 0] .no)) .no)))) (.two (zxsh [1, 3] .no) (.two (zxsh [1, 3, 0] .no) (.two (zxsh [1, 3, 0] .no) (.two (zxsh [1, 3, 0] .no) (.two (.two (zxsh [1, 3, 0, 23] (.ops [{}, {}, { cls := some .p }])) (zxsh [1, 3, 0] (.two (zxsh [1, 3, 0] .no) .no))) (.two (zxsh [1, 3, 0] .no) (.two (zxsh [1, 3, 0, 0] .no) (.two (zxsh [1, 3, 0] .no) (.two (zxsh [1, 3, 0] .no) (.two (zxsh [1, 3, 0] .no) (.two (zxsh [1, 3, 0] .no) (.two (.two (zxsh [1, 3, 0, 76] (.ops [{}, {}, { cls := some .p }])) (zxsh [1, 3, 0] (.two (zxsh [1, 3, 0] .no) .no))) (.two (.two (zxsh [1, 3, 0, 83] (.ops [{}, {}, { cls := some .p }])) (zxsh [1, 3, 0] (.two (.two (zxsh [1, 3, 0] .no) (.two (zxsh [1, 3, 0, 91, 0, 0] .no) (zxsh [1, 3, 0] (.loop (rl [1, 3, 0, 91, 0, 0]) (.two .no (.two (zxsh [1, 3, 0, 91, 0, 0] (.two .no (zxsh [1, 3, 0] .no))) (.two (zxsh [1, 3, 0, 91, 0, 0] (.two (zxsh [1, 3, 0, 2, 88, 0, 0] .no) (.two (zxsh [1, 3, 0, 2, 88, 0, 0] .no) (zxsh [1, 3, 0, 91, 0, 0] .no)))) (zxsh [1, 3, 0, 91, 0, 0] .no)))))))) .no))) (.two (.two (zxsh [1, 3, 0, 108] (.ops [{}, {}, { cls := some .p }])) (zxsh [1, 3, 0] (.two (zxsh [1, 3, 0] .no) .no))) (.two (zxsh [1, 3, 0] .no) (.two (zxsh [1, 3] .no) (.two (.two (zxsh [1, 3, 127] (.ops [{}, {}, { cls := some .p }])) (zxsh [1, 3] (.two (zxsh [1, 3] .no) .no))) (.two (.two (zxsh [1, 3, 134] (.ops [{}, {}, { cls := some .p }])) (zxsh [5] (.two (zxsh [5] .no) .no))) (.two (zxsh [2, 0] .no) (zxsh [2, 0] .no))))))))))))))))))))))) = some xf38 := by kernel_rfl
def xf39_l0 : XCode :=
(.seq (zxsr [(oP 21 (.bin .lss (T 20) (T 19)))]) (.seq (zxsq [4, 13, 0, 0] (.cond (T 21) .skip (zxsq [4] (.exit 0)))) (.seq (zxsq [2, 0, 0, 13, 0, 0] (.block 1 (.seq (zxsq [4, 1, 11, 0, 0] (zxsr [(oP 22 (.iaddrS 21 (T 18) (T 20))), (oR 23 (.load true 21 (T
  22))), (oW 6 (.alloc [zxsi, zxsi, zxss, zxsi, zxsi, zxsi, (.pv (.int
  .i64 0)), zxsi, zxsi, zxsi, zxsd, zxsd, zxsi, zxsi,
  zxsd, zxsi, zxsi, zxsf, (.pv (.sl .nil 0 [])), zxss, zxss])), (sW (.store 21
  (T 6) (T 23)))])) (.seq (zxsq [4, 2, 0, 9, 0, 0] (zxsr [(oR 25 (.load true 21 (T 6))), (oP 26 (zxsc 38 [(T
  25)])), (zxsm 24 26), (oP 27 (.extr 0 (T 24))), (oP 28 (.extr 1 (T 24))), (zxsm 7 27), (zxsm 8 28)])) (.seq (.seq (zxsq [4, 2, 0, 9, 0, 0, 9] (zxsr [(zxsm 29 8), (oP 30 (.bin .neq (T 29) (tI 0)))])) (zxsq [2, 0, 0, 2, 10, 0, 0] (.cond (T 30) (.seq (zxsq [2, 0] (zxsr [(zxsm 31 8), (oP 2 (.mv (.lit (.c zxss)))), (zxsm 3 31)])) (zxsq [2, 0] .ret)) .skip)))
  (zxsq [4, 13, 0, 0] (zxsr [(zxsm 32 4), (zxsm 33 7), (oW 34 (zxsc 50 [(T 32), (T
  33)]))]))))))) (zxsq [4, 13, 0, 0] (zxsr [(oP 35 (.bin .add (T 20) (tI 1))), (zxsm 20 35)])))))
def xf39 : XFunc :=
(.mk 38 [(.tmp 2), (.tmp 3)] (.seq (zxsq [0] (zxsr [(oP 2 (.mv (.lit (.c zxss)))), (oP 3 (.mv (tI 0)))])) (.seq (.seq (zxsq [0, 10] (zxsr [(zxsm 9 0), (oP 10 (.len (T 9))), (oP 11 (.bin .gtr (T 10) (tI 200)))])) (zxsq [0, 1, 0] (.cond (T 11) (.seq
  (zxsr [(oP 2 (.mv (.lit (.c zxss)))), (oP 3 (.mv (tI 4)))]) (zxsq [2, 0] .ret)) .skip))) (.seq (zxsq [0, 3] (.region
  false [(oW 12 (zxsc 48 [])), (zxsm 4 12)])) (.seq (zxsq [0, 3] (zxsr [(zxsm 13 4), (zxsm 14 0), (oP 15 (.len (T 14))), (oP 16 (.convI .u64 (T 15))), (oW 17 (zxsc 49 [(T 13), (T 16)]))])) (.seq (.seq (zxsq [4, 13, 0, 0] (zxsr [(zxsm 18 0), (oP 19 (.len (T 18))), (oP 20 (.mv (tI 0)))])) (zxsq [2, 0, 0] (.block 0 (.loop (rl [4,
  13, 0, 0]) xf39_l0)))) (.seq (zxsq [2, 0] (zxsr [(zxsm 36 4), (oW 37 (zxsc 51 [(T 36)])), (zxsm 2 37), (oP 3 (.mv (tI 0)))])) (zxsq [2, 0] .ret))))))))
theorem xf39_ok : cmpFunc Go.Proofs.Tryd.prog 39 ((.two (zxsh [0] .no) (.two (.two (zxsh [0, 10] .no) (zxsh [0, 1, 0] (.two (.two .no (zxsh [2, 0] .no)) .no))) (.two (zxsh [0, 3] .no) (.two (zxsh [0, 3] .no) (.two (.two (zxsh [4, 13, 0, 0] .no) (zxsh [2, 0, 0] (.loop (rl [4, 13, 0, 0]) (.two .no (.two (zxsh [4, 13, 0, 0] (.two .no (zxsh [4] .no))) (.two (zxsh [2, 0, 0, 13, 0, 0] (.two (zxsh [4, 1, 11, 0, 0] .no) (.two (zxsh [4, 2, 0, 9, 0, 0] (.ops [{}, { cls := some .p }])) (.two (.two (zxsh [4, 2, 0, 9, 0, 0, 9] .no) (zxsh [2, 0, 0, 2, 10, 0, 0] (.two (.two (zxsh [2, 0] .no) (zxsh [2, 0] .no)) .no))) (zxsh [4, 13, 0, 0] .no))))) (zxsh [4, 13, 0, 0] .no))))))) (.two (zxsh [2, 0] .no) (zxsh [2, 0] .no)))))))) = some xf39 := by kernel_rfl
def xf40_l0 : XCode :=
(.seq (zxsr [(oP 38 (.bin .lss (T 37) (T 36)))]) (.seq (zxsq [1, 1, 0, 0, 29, 0, 0] (.cond (T 38) .skip (zxsq [1, 1, 0, 0] (.exit
  0)))) (.seq (zxsq [1, 1, 0, 0, 29, 0, 0] (.block 1 (.seq (zxsq [1, 1, 0, 0, 1, 27, 0, 0] (zxsr [(oP 39 (.iaddrS 3 (T 35) (T
  37))), (oR 40 (.load true 3 (T 39))), (oW 7 (.alloc [zxsi, zxsi, zxsi])), (sW (.store 3 (T 7) (T 40)))])) (zxsq [1, 1, 0, 0, 29, 0, 0] (.region true [(zxsm 41 4), (oP 42 (.faddr 1 (T 7))), (oR 43 (.load true 2 (T 42))), (oP 44 (.buildSl [(.pv (.int
  .i64 0)), zxsi] 1 2 [(0, (2, (T 43)))])), (zxsm 46 5), (oP 47 (.faddr 0 (T 7))), (oR 48 (.load false 1 (T 47))), (oP 49 (.buildSl [(.pv
  (.int .i64 0))] 1 1 [(0, (1, (T 48)))])), (oW 45 (.app 2 16 (T 41) (T 44))), (oW 50 (.app 1 8 (T 46) (T 49))), (zxsm 4 45), (zxsm 5 50)])))))
  (zxsq [1, 1, 0, 0, 29, 0, 0] (zxsr [(oP 51 (.bin .add (T 37) (tI 1))), (zxsm 37 51)])))))
def xf40 : XFunc :=
(.mk 119 [(.tmp 2)] (.seq (zxsq [1] (zxsr [(oW 1 (.box (T 0) 21)), (oP 2 (.mv (tI 0)))])) (.seq (.seq (zxsq [1, 15] (.region false
  [(oP 10 (.faddr 0 (T 1))), (oR 11 (.load false 1 (T 10))), (oP 12 (.bin .lss (T 11) (tI 0))), (zxsm 13 12), (zxsg 14 13 false (.faddr 0 (T 1))), (.mk (some 15) (.load false 1 (T 14)) (some (13, false)) .r), (zxsg 16 13 false (.bin .geq (T 15) (tI 11))), (oP 17 (.pick (T
  13) (.lit (.c zxst)) (T 16)))])) (zxsq [1, 0] (.cond (T 17) (.seq (zxsr [(oP 2 (.mv (tI 3)))]) (zxsq [2] .ret))
  .skip))) (.seq (zxsq [1, 1] (zxsr [(oR 18 (.load true 21 (T 1))), (oP 19 (zxsc 78 [(T 18)])), (oW 3 (.alloc
  [zxsi, zxsi, zxss, zxsi, zxsi, zxsi, zxsi, (.pv (.int
  .i64 0)), zxsi, zxsi, zxsd, zxsd, zxsi, zxsi, zxsd,
  zxsi, zxsi, zxsf, (.pv (.sl .nil 0 [])), zxss, zxss])), (sW (.store 21 (T 3) (T 19)))]))
  (.seq (zxsq [1, 1, 0, 0] (.region true [(oP 20 (.faddr 15 (T 3))), (oR 21 (.load true 2 (T 20))), (oP 22 (.buildSl [zxsi, (.pv (.int
  .i64 0))] 1 2 [(0, (2, (T 21)))])), (oP 23 (.faddr 12 (T 3))), (oR 24 (.load false 1 (T 23))), (oP 25 (.faddr 13 (T 3))), (oR 26 (.load false 1 (T 25))), (oP
  27 (.faddr 1 (T 3))), (oP 28 (.faddr 0 (T 27))), (oR 29 (.load false 1 (T 28))), (oP 30 (.faddr 1 (T 3))), (oP 31 (.faddr 2 (T 30))), (oR 32 (.load false 1 (T
  31))), (oP 33 (.buildSl [zxsi] 4 1 [(0, (1, (T 24))), (1, (1, (T 26))), (2, (1, (T 29))), (3, (1, (T 32)))])), (zxsm 4 22), (zxsm 5 33)])) (.seq (.seq (zxsq [1, 1, 0, 0, 29, 0, 0] (zxsr [(oP 34 (.faddr 18 (T 3))), (oR 35 (.load false 1 (T 34))), (oP 36 (.len (T
  35))), (oP 37 (.mv (tI 0)))])) (zxsq [1, 1, 0, 0] (.block 0 (.loop (rl [1, 1, 0, 0, 29, 0, 0]) xf40_l0)))) (.seq (zxsq [1, 1, 0, 0, 2]
  (zxsr [(oP 52 (.faddr 4 (T 3))), (oR 53 (.load true 8 (T 52))), (oW 8 (.alloc [zxsi, zxsi, zxsi, (.pv
  (.int .i64 0)), zxsi, zxsi, zxsd, zxsd])), (sW (.store 8 (T 8) (T 53)))])) (.seq (zxsq [1, 1, 0, 0, 2] (zxsr [(zxsm 54 5), (oP 55 (.faddr 0 (T 8))), (oR 56 (.load false 1 (T 55))), (oP 57 (.faddr 1 (T 8))), (oR 58 (.load false 1
  (T 57))), (oP 59 (.faddr 3 (T 8))), (oR 60 (.load false 1 (T 59))), (oP 61 (.faddr 4 (T 8))), (oR 62 (.load false 1 (T 61))), (oP 63 (.faddr 5 (T 8))), (oR 64
  (.load false 1 (T 63))), (oP 65 (.buildSl [zxsi] 5 1 [(0, (1, (T 56))), (1, (1, (T 58))), (2, (1, (T 60))), (3, (1, (T 62))), (4, (1, (T
  64)))])), (oW 66 (.app 1 8 (T 54) (T 65))), (zxsm 5 66)])) (.seq (zxsq [1, 1, 1, 2, 0] (zxsr [(zxsm 67 4), (oP 68 (zxsc 79 [(T 67)])), (zxsm 9 68)])) (.seq (zxsq [2] (.block 2 (.seq (zxsq [1, 1, 1, 2, 0, 59] (.region
  false [(oP 70 (.faddr 1 (T 1))), (oP 71 (.faddr 1 (T 70))), (oR 72 (.load false 1 (T 71))), (oP 73 (.lenS (T 72))), (oP 74 (.bin .gtr (T 73) (tI 32))), (zxsm 75 74), (zxsg 76 75 false (.faddr 19 (T 1))), (.mk (some 77) (.load false 1 (T 76)) (some (75, false)) .r), (zxsg 78 75 false (.lenS (T
  77))), (zxsg 79 75 false (.bin .gtr (T 78) (tI 32))), (oP 80 (.pick (T 75) (.lit (.c zxst)) (T 79))),
  (zxsm 81 80), (zxsg 82 81 false (.faddr 20 (T 1))), (.mk (some 83) (.load false 1 (T 82)) (some (81, false)) .r), (zxsg 84 81 false (.lenS (T 83))), (zxsg 85 81 false (.bin .gtr (T 84) (tI 2000))), (oP 86 (.pick (T 81) (.lit (.c zxst))
  (T 85))), (zxsm 87 86), (zxsg 88 87 false (.faddr 18 (T 1))), (.mk (some 89) (.load false 1 (T 88)) (some (87, false)) .r), (zxsg 90 87 false (.len (T 89))), (zxsg 91 87 false (.bin .gtr (T 90) (tI 16))), (oP 92 (.pick (T 87) (.lit (.c (.pv (.bool
  true)))) (T 91))), (zxsm 69 92)])) (zxsq [2] (.cond (T 69) (.seq (zxsr [(oP 2 (.mv (tI 4)))]) (zxsq [2] .ret)) (.seq (zxsq [1, 1, 1, 3, 83] (zxsr [(oP 94 (.faddr 2 (T 8))), (oR 95 (.load false 1 (T 94))), (oP 96 (.bin .lss (T 95) (tI 0))), (zxsm 97 96),
  (zxsg 98 97 false (.faddr 2 (T 8))), (.mk (some 99) (.load false 1 (T 98)) (some (97, false)) .r), (zxsg 100 97 false (.bin .geq (T 99) (tI
  4))), (oP 101 (.pick (T 97) (.lit (.c zxst)) (T 100))), (zxsm 102 101), (zxsg 103 102 false (.mv (T 9))), (zxsg 104 102 false (.bin .eql (T 103) (tI 12))), (oP 105 (.pick (T 102) (.lit (.c zxst)) (T 104))), (zxsm 93 105)])) (zxsq [2] (.cond (T 93) (.seq (zxsr [(oP 2 (.mv (tI 12)))]) (zxsq [2] .ret)) (.seq (zxsq [1, 1, 102]
  (zxsr [(zxsm 107 9), (oP 108 (.bin .neq (T 107) (tI 0))), (zxsm 109 108), (zxsg 110 109 false (.mv (T 5))), (zxsg 111 109 false (zxsc 80 [(T 110)])), (zxsg 112 109 false (.un .not (T 111))), (oP 113
  (.pick (T 109) (.lit (.c zxst)) (T 112))), (zxsm 106 113)])) (zxsq [2] (.cond (T 106) (.seq (zxsr [(oP 2 (.mv (tI
  9)))]) (zxsq [2] .ret)) (.seq (zxsq [114] (zxsr [(oR 115 (.load true 21 (T 3))), (oR 116 (.load true 21 (T 1))), (oP 117 (zxsc 42 [(T 115), (T 116)])), (oP 118 (.un .not (T 117))), (zxsm 114 118)])) (zxsq [2] (.cond (T 114) (.seq
  (zxsr [(oP 2 (.mv (tI 1)))]) (zxsq [2] .ret)) .skip)))))))))))))) (.seq (zxsr [(oP 2 (.mv (tI 0)))]) (zxsq [2]
  .ret))))))))))))
theorem xf40_ok : cmpFunc Go.Proofs.Tryd.prog 40 ((.two (zxsh [1] .no) (.two (.two (zxsh [1, 15] .no) (zxsh [1, 0] (.two (.two .no (zxsh [2] .no)) .no))) (.two (zxsh [1, 1] (.ops [{}, { cls := some .p }])) (.two (zxsh [1, 1, 0, 0] (.draw [0, 1, 2, 3, 4, 5, 6, 7, 8, 9, 10, 11, 12, 13, 14, 15] [])) (.two (.two (zxsh [1, 1, 0, 0, 29, 0, 0] .no) (zxsh [1, 1, 0, 0] (.loop (rl [1, 1, 0, 0, 29, 0, 0]) (.two .no (.two (zxsh [1, 1, 0, 0, 29, 0, 0] (.two .no (zxsh [1, 1, 0, 0] .no))) (.two (zxsh [1, 1, 0, 0, 29, 0, 0] (.two (zxsh [1, 1, 0, 0, 1, 27, 0, 0] .no) (zxsh [1, 1, 0, 0, 29, 0, 0] (.draw [0, 1, 2, 3, 5, 6, 7, 8, 4, 9, 10, 11] [])))) (zxsh [1, 1, 0, 0, 29, 0, 0] .no))))))) (.two (zxsh [1, 1, 0, 0, 2] .no) (.two (zxsh [1, 1, 0, 0, 2] .no) (.two (zxsh [1, 1, 1, 2, 0] (.ops [{}, { cls := some .p }])) (.two (zxsh [2] (.two (zxsh [1, 1, 1, 2, 0, 59] .no) (zxsh [2] (.two (.two .no (zxsh [2] .no)) (.two (zxsh [1, 1, 1, 3, 83] .no) (zxsh [2] (.two (.two .no (zxsh [2] .no)) (.two (zxsh [1, 1, 102] (.ops [{}, {}, {}, {}, { cls := some .p }])) (zxsh [2] (.two (.two .no (zxsh [2] .no)) (.two (zxsh [114] (.ops [{}, {}, { cls := some .p }])) (zxsh [2] (.two (.two .no (zxsh [2] .no)) .no))))))))))))) (.two .no (zxsh [2] .no)))))))))))) = some xf40 := by kernel_rfl
def xf41_l0 : XCode :=
(.seq (.seq (zxsq [1, 1, 1, 98] (zxsr [(zxsm 100 5), (oP 101 (.faddr 18 (T 1))), (oR 102 (.load false 1 (T 101))), (oP 103 (.len (T
  102))), (oP 104 (.bin .lss (T 100) (T 103)))])) (zxsq [1, 1, 1] (.cond (T 104) .skip (zxsq [3] (.exit 1))))) (.seq (zxsq [1, 1, 1] (.block 2 (zxsq [1, 1, 1] (.region true [(zxsm 107 3), (oP 108 (.faddr 18 (T 1))), (oR 109 (.load false 1 (T 108))), (zxsm 110 5), (oP 111 (.iaddrS 3 (T 109) (T 110))), (oP 112 (.faddr 0 (T 111))), (oR 113 (.load false 1 (T 112))), (oP 114 (.buildSl [zxsi] 1 1 [(0,
  (1, (T 113)))])), (oP 115 (zxsc 82 [(T 114)])), (oP 116 (.bin .add (T 107) (T 115))), (oP 117 (.faddr 18 (T 1))), (oR 118
  (.load false 1 (T 117))), (zxsm 119 5), (oP 120 (.iaddrS 3 (T 118) (T 119))), (oP 121 (.faddr 1 (T 120))), (oR 122 (.load true 2 (T 121))), (oP 123
  (zxsc 84 [(T 122)])), (oP 124 (.bytesS (T 123))), (oP 125 (.bin .add (T 116) (T 124))), (zxsm 3 125)])))) (zxsq [1, 1, 1] (zxsr [(zxsm 105 5), (oP 106 (.bin .add (T 105) (tI 1))), (zxsm 5 106)]))))
def xf41 : XFunc :=
(.mk 194 [(.tmp 2)] (.seq (zxsq [1] (zxsr [(oW 1 (.box (T 0) 21)), (oP 2 (.mv (.lit (.c zxss))))])) (.seq (zxsq [1, 1]
  (zxsr [(oP 6 (.faddr 0 (T 1))), (oR 7 (.load false 1 (T 6))), (oP 8 (.convI .u64 (T 7))), (oP 9 (zxsc 81 [(T 8)])),
  (oP 10 (.bytesS (T 9))), (zxsm 3 10)])) (.seq (zxsq [1, 1, 0] (zxsr [(oP 11 (.faddr 4 (T 1))), (oR 12 (.load true 8 (T 11))), (oW 4
  (.alloc [zxsi, zxsi, zxsi, zxsi, zxsi, zxsi, zxsd,
  zxsd])), (sW (.store 8 (T 4) (T 12)))])) (.seq (.seq (zxsq [1, 1, 0, 9] (zxsr [(oP 13 (.faddr 0 (T 1))), (oR 14 (.load false
  1 (T 13)))])) (zxsq [3] (.block 0 (.seq (zxsq [1, 1, 0, 9, 0] (zxsr [(oP 16 (.bin .eql (T 14) (tI 0))), (zxsm 15 16)]))
  (zxsq [3] (.cond (T 15) (zxsq [3] (.region true [(zxsm 17 3), (oP 18 (.faddr 1 (T 1))), (oP 19 (.faddr 0 (T 18))), (oR 20 (.load
  false 1 (T 19))), (oP 21 (.buildSl [zxsi] 1 1 [(0, (1, (T 20)))])), (oP 22 (zxsc 82 [(T 21)])), (oP 23 (.bin
  .add (T 17) (T 22))), (oP 24 (.faddr 1 (T 1))), (oP 25 (.faddr 1 (T 24))), (oR 26 (.load false 1 (T 25))), (oP 27 (zxsc 83 [(T
  26)])), (oP 28 (.bytesS (T 27))), (oP 29 (.bin .add (T 23) (T 28))), (oP 30 (.faddr 1 (T 1))), (oP 31 (.faddr 2 (T 30))), (oR 32 (.load false 1 (T 31))), (oP
  33 (.buildSl [zxsi] 1 1 [(0, (1, (T 32)))])), (oP 34 (zxsc 82 [(T 33)])), (oP 35 (.bin .add (T 29) (T 34))), (zxsm 3 35)])) (.seq (zxsq [1, 1, 0, 9, 21] (zxsr [(oP 37 (.bin .eql (T 14) (tI 1))), (zxsm 36 37)])) (zxsq [3]
  (.cond (T 36) (zxsq [3] (zxsr [(zxsm 38 3), (oP 39 (.faddr 0 (T 4))), (oR 40 (.load false 1 (T 39))), (oP 41 (.faddr 1 (T 4))), (oR
  42 (.load false 1 (T 41))), (oP 43 (.faddr 2 (T 4))), (oR 44 (.load false 1 (T 43))), (oP 45 (.faddr 3 (T 4))), (oR 46 (.load false 1 (T 45))), (oP 47 (.faddr
  4 (T 4))), (oR 48 (.load false 1 (T 47))), (oP 49 (.faddr 5 (T 4))), (oR 50 (.load false 1 (T 49))), (oP 51 (.faddr 6 (T 4))), (oR 52 (.load false 1 (T 51))),
  (oP 53 (.convI .i64 (T 52))), (oP 54 (.faddr 7 (T 4))), (oR 55 (.load false 1 (T 54))), (oP 56 (.convI .i64 (T 55))), (oP 57 (.buildSl [zxsi] 8
  1 [(0, (1, (T 40))), (1, (1, (T 42))), (2, (1, (T 44))), (3, (1, (T 46))), (4, (1, (T 48))), (5, (1, (T 50))), (6, (1, (T 53))), (7, (1, (T 56)))])), (oP 58
  (zxsc 82 [(T 57)])), (oP 59 (.bin .add (T 38) (T 58))), (zxsm 3 59)])) (.seq (zxsq [1, 1, 10, 45] (.region
  false [(oP 61 (.bin .eql (T 14) (tI 2))), (zxsm 60 61)])) (zxsq [3] (.cond (T 60) (zxsq [3] (zxsr [(zxsm 62 3),
  (oP 63 (.faddr 12 (T 1))), (oR 64 (.load false 1 (T 63))), (oP 65 (.faddr 14 (T 1))), (oR 66 (.load false 1 (T 65))), (oP 67 (.convI .i64 (T 66))), (oP 68
  (.buildSl [zxsi] 2 1 [(0, (1, (T 64))), (1, (1, (T 67)))])), (oP 69 (zxsc 82 [(T 68)])), (oP 70 (.bin .add (T
  62) (T 69))), (zxsm 3 70)])) (.seq (zxsq [1, 1, 10, 56] (zxsr [(oP 72 (.bin .eql (T 14) (tI 3))), (zxsm 71 72)])) (zxsq [3] (.cond (T 71) (zxsq [3] (zxsr [(zxsm 73 3), (oP 74 (.faddr 20 (T 1))), (oR 75 (.load false 1 (T 74))), (oP 76 (zxsc 83 [(T 75)])), (oP 77 (.bytesS (T 76))), (oP 78 (.bin .add (T 73) (T 77))), (zxsm 3 78)])) (.seq (zxsq [1, 1, 10, 64] (zxsr [(oP 80 (.bin .eql (T 14) (tI 4))), (zxsm 79 80)])) (zxsq [3] (.cond (T 79) (.seq (zxsq [1, 1] (.region
  true [(zxsm 81 3), (oP 82 (.faddr 14 (T 1))), (oR 83 (.load false 1 (T 82))), (oP 84 (.convI .i64 (T 83))), (oP 85 (.buildSl [zxsi] 1 1
  [(0, (1, (T 84)))])), (oP 86 (zxsc 82 [(T 85)])), (oP 87 (.bin .add (T 81) (T 86))), (oP 88 (.faddr 19 (T 1))), (oR 89 (.load
  false 1 (T 88))), (oP 90 (zxsc 83 [(T 89)])), (oP 91 (.bytesS (T 90))), (oP 92 (.bin .add (T 87) (T 91))), (oP 93 (.faddr 18 (T
  1))), (oR 94 (.load false 1 (T 93))), (oP 95 (.len (T 94))), (oP 96 (.convI .u64 (T 95))), (oP 97 (zxsc 81 [(T 96)])), (oP 98
  (.bytesS (T 97))), (oP 99 (.bin .add (T 92) (T 98))), (zxsm 3 99)])) (.seq (zxsr [(oP 5 (.mv (tI 0)))]) (zxsq [3] (.block 1 (.loop
  (rl [1, 1, 1]) xf41_l0))))) (.seq (zxsq [1, 1, 10, 111] (zxsr [(oP 127 (.bin .eql (T 14) (tI 5))), (zxsm 126 127)])) (zxsq [3] (.cond (T 126) (zxsq [3] (zxsr [(zxsm 128 3), (oP 129 (.faddr 13 (T 1))), (oR 130 (.load false 1 (T 129))), (oP 131 (.buildSl
  [zxsi] 1 1 [(0, (1, (T 130)))])), (oP 132 (zxsc 82 [(T 131)])), (oP 133 (.bin .add (T 128) (T 132))), (zxsm 3 133)])) (.seq (zxsq [1, 1, 10, 119] (zxsr [(oP 135 (.bin .eql (T 14) (tI 6))), (zxsm 134 135)])) (zxsq [3] (.cond (T
  134) (zxsq [3] (.region true [(zxsm 136 3), (oP 137 (.faddr 12 (T 1))), (oR 138 (.load false 1 (T 137))), (oP 139 (.buildSl [(.pv (.int .i64
  0))] 1 1 [(0, (1, (T 138)))])), (oP 140 (zxsc 82 [(T 139)])), (oP 141 (.bin .add (T 136) (T 140))), (oP 142 (.faddr 15 (T 1))),
  (oR 143 (.load true 2 (T 142))), (oP 144 (zxsc 84 [(T 143)])), (oP 145 (.bytesS (T 144))), (oP 146 (.bin .add (T 141) (T
  145))), (oP 147 (.faddr 13 (T 1))), (oR 148 (.load false 1 (T 147))), (oP 149 (.faddr 14 (T 1))), (oR 150 (.load false 1 (T 149))), (oP 151 (.convI .i64 (T
  150))), (oP 152 (.buildSl [zxsi] 2 1 [(0, (1, (T 148))), (1, (1, (T 151)))])), (oP 153 (zxsc 82 [(T 152)])), (oP
  154 (.bin .add (T 146) (T 153))), (zxsm 3 154)])) (.seq (zxsq [1, 1, 10, 140] (zxsr [(oP 156 (.bin .eql (T 14) (tI 7))), (zxsm 155 156)])) (zxsq [3] (.cond (T 155) (zxsq [3] (.region true [(zxsm 157 3), (oP 158 (.faddr 13 (T 1))), (oR 159 (.load false
  1 (T 158))), (oP 160 (.buildSl [zxsi] 1 1 [(0, (1, (T 159)))])), (oP 161 (zxsc 82 [(T 160)])), (oP 162 (.bin
  .add (T 157) (T 161))), (oP 163 (.faddr 15 (T 1))), (oR 164 (.load true 2 (T 163))), (oP 165 (zxsc 84 [(T 164)])), (oP 166
  (.bytesS (T 165))), (oP 167 (.bin .add (T 162) (T 166))), (oP 168 (.faddr 17 (T 1))), (oR 169 (.load false 1 (T 168))), (oP 170 (zxsc 85 [(T 169)])), (oP 171 (.bin .add (T 167) (T 170))), (zxsm 3 171)])) (.seq (zxsq [1, 1, 10, 157] (zxsr [(oP 173 (.bin .eql
  (T 14) (tI 8))), (zxsm 172 173)])) (zxsq [3] (.cond (T 172) (zxsq [3] (zxsr [(zxsm 174 3), (oP 175 (.faddr 13 (T
  1))), (oR 176 (.load false 1 (T 175))), (oP 177 (.buildSl [zxsi] 1 1 [(0, (1, (T 176)))])), (oP 178 (zxsc 82 [(T
  177)])), (oP 179 (.bin .add (T 174) (T 178))), (zxsm 3 179)])) (.seq (zxsq [1, 1, 176] (zxsr [(oP 181 (.bin .eql (T 14) (tI 9))),
  (zxsm 180 181)])) (zxsq [3] (.cond (T 180) (zxsq [3] (.region true [(zxsm 182 3), (oP 183 (.faddr 14 (T 1))), (oR 184
  (.load false 1 (T 183))), (oP 185 (.convI .i64 (T 184))), (oP 186 (.buildSl [zxsi] 1 1 [(0, (1, (T 185)))])), (oP 187 (zxsc 82 [(T 186)])), (oP 188 (.bin .add (T 182) (T 187))), (oP 189 (.faddr 17 (T 1))), (oR 190 (.load false 1 (T 189))), (oP 191 (zxsc 85 [(T 190)])), (oP 192 (.bin .add (T 188) (T 191))), (zxsm 3 192)])) .skip))))))))))))))))))))))))))))))))) (.seq (zxsq [2]
  (zxsr [(zxsm 193 3), (zxsm 2 193)])) (zxsq [2] .ret)))))))
theorem xf41_ok : cmpFunc Go.Proofs.Tryd.prog 41 ((.two (zxsh [1] .no) (.two (zxsh [1, 1] (.ops [{}, {}, {}, { cls := some .p }])) (.two (zxsh [1, 1, 0] .no) (.two (.two (zxsh [1, 1, 0, 9] .no) (zxsh [3] (.two (zxsh [1, 1, 0, 9, 0] .no) (zxsh [3] (.two (zxsh [3] (.draw [0, 1, 2, 3, 4, 5, 6, 7, 8, 9, 10, 11, 12, 13, 14, 15, 16, 17, 18, 19] [{}, {}, {}, {}, {}, { cls := some .p }, {}, {}, {}, {}, { cls := some .p }, {}, {}, {}, {}, {}, {}, { cls := some .p }])) (.two (zxsh [1, 1, 0, 9, 21] .no) (zxsh [3] (.two (zxsh [3] (.ops [{}, {}, {}, {}, {}, {}, {}, {}, {}, {}, {}, {}, {}, {}, {}, {}, {}, {}, {}, {}, { cls := some .p }])) (.two (zxsh [1, 1, 10, 45] .no) (zxsh [3] (.two (zxsh [3] (.ops [{}, {}, {}, {}, {}, {}, {}, { cls := some .p }])) (.two (zxsh [1, 1, 10, 56] .no) (zxsh [3] (.two (zxsh [3] (.ops [{}, {}, {}, { cls := some .p }])) (.two (zxsh [1, 1, 10, 64] .no) (zxsh [3] (.two (.two (zxsh [1, 1] (.draw [0, 1, 2, 3, 4, 5, 6, 7, 8, 9, 10, 11, 12, 13, 14, 15, 16, 17, 18, 19] [{}, {}, {}, {}, {}, { cls := some .p }, {}, {}, {}, { cls := some .p }, {}, {}, {}, {}, {}, {}, { cls := some .p }])) (.two .no (zxsh [3] (.loop (rl [1, 1, 1]) (.two (.two (zxsh [1, 1, 1, 98] .no) (zxsh [1, 1, 1] (.two .no (zxsh [3] .no)))) (.two (zxsh [1, 1, 1] (zxsh [1, 1, 1] (.draw [0, 1, 2, 3, 4, 5, 6, 7, 8, 9, 10, 11, 12, 13, 14, 15, 16, 17, 18, 19] [{}, {}, {}, {}, {}, {}, {}, {}, { cls := some .p }, {}, {}, {}, {}, {}, {}, {}, { cls := some .p }]))) (zxsh [1, 1, 1] .no))))))) (.two (zxsh [1, 1, 10, 111] .no) (zxsh [3] (.two (zxsh [3] (.ops [{}, {}, {}, {}, { cls := some .p }])) (.two (zxsh [1, 1, 10, 119] .no) (zxsh [3] (.two (zxsh [3] (.draw [0, 1, 2, 3, 4, 5, 6, 7, 8, 9, 10, 11, 12, 13, 14, 15, 16, 17, 18, 19] [{}, {}, {}, {}, { cls := some .p }, {}, {}, {}, { cls := some .p }, {}, {}, {}, {}, {}, {}, {}, {}, { cls := some .p }])) (.two (zxsh [1, 1, 10, 140] .no) (zxsh [3] (.two (zxsh [3] (.draw [0, 1, 2, 3, 4, 5, 6, 7, 8, 9, 10, 11, 12, 13, 14, 15] [{}, {}, {}, {}, { cls := some .p }, {}, {}, {}, { cls := some .p }, {}, {}, {}, {}, { cls := some .p }])) (.two (zxsh [1, 1, 10, 157] .no) (zxsh [3] (.two (zxsh [3] (.ops [{}, {}, {}, {}, { cls := some .p }])) (.two (zxsh [1, 1, 176] .no) (zxsh [3] (.two (zxsh [3] (.draw [0, 1, 2, 3, 4, 5, 6, 7, 8, 9, 10, 11] [{}, {}, {}, {}, {}, { cls := some .p }, {}, {}, {}, { cls := some .p }])) .no)))))))))))))))))))))))))))))))) (.two (zxsh [2] .no) (zxsh [2] .no))))))) = some xf41 := by kernel_rfl
def xf42 : XFunc :=
(.mk 80 [(.tmp 4)] (.seq (zxsq [2, 0] (zxsr [(oW 2 (.box (T 0) 21)), (oW 3 (.box (T 1) 21)), (oP 4 (.mv (.lit (.c zxsf))))]))
  (.seq (zxsq [4] (zxsr [(oP 5 (.faddr 0 (T 2))), (oR 6 (.load false 1 (T 5))), (oP 7 (.faddr 0 (T 3))), (oR 8 (.load false 1 (T 7))), (oP 9
  (.bin .eql (T 6) (T 8))), (zxsm 10 9), (zxsg 11 10 true (.faddr 1 (T 2))), (.mk (some 12) (.load true 3 (T 11)) (some (10, true))
  .r), (zxsg 13 10 true (.faddr 1 (T 3))), (.mk (some 14) (.load true 3 (T 13)) (some (10, true)) .r), (zxsg 15 10 true (.eqA false [0, 2, 0]
  (T 12) (T 14))), (oP 16 (.pick (T 10) (T 15) (.lit (.c zxsf)))), (zxsm 17 16), (zxsg 18 17 true (.faddr 4 (T 2))), (.mk (some 19) (.load true 8 (T 18)) (some (17, true)) .r), (zxsg 20 17 true (.faddr 4 (T 3))), (.mk (some 21)
  (.load true 8 (T 20)) (some (17, true)) .r), (zxsg 22 17 true (.eqA false [0, 0, 0, 0, 0, 0, 0, 0] (T 19) (T 21))), (oP 23 (.pick (T 17) (T
  22) (.lit (.c zxsf)))), (zxsm 24 23), (zxsg 25 24 true (.faddr 12 (T 2))), (.mk (some 26) (.load false 1 (T 25))
  (some (24, true)) .r), (zxsg 27 24 true (.faddr 12 (T 3))), (.mk (some 28) (.load false 1 (T 27)) (some (24, true)) .r), (zxsg 29 24 true (.bin .eql (T 26) (T 28))), (oP 30 (.pick (T 24) (T 29) (.lit (.c zxsf)))), (zxsm 31 30), (zxsg 32 31 true (.faddr
  13 (T 2))), (.mk (some 33) (.load false 1 (T 32)) (some (31, true)) .r), (zxsg 34 31 true (.faddr 13 (T 3))), (.mk
  (some 35) (.load false 1 (T 34)) (some (31, true)) .r), (zxsg 36 31 true (.bin .eql (T 33) (T 35))), (oP 37 (.pick (T 31) (T 36) (.lit (.c
  zxsf)))), (zxsm 38 37), (zxsg 39 38 true (.faddr 14 (T 2))), (.mk (some 40) (.load false 1 (T 39)) (some (38, true))
  .r), (zxsg 41 38 true (.faddr 14 (T 3))), (.mk (some 42) (.load false 1 (T 41)) (some (38, true)) .r), (zxsg 43 38 true (.bin .eql (T 40) (T
  42))), (oP 44 (.pick (T 38) (T 43) (.lit (.c zxsf)))), (zxsm 45 44), (zxsg 46 45 true (.faddr 15 (T 2))), (.mk (some 47) (.load true 2 (T 46)) (some (45, true)) .r), (zxsg 48 45 true (.faddr 15 (T 3))), (.mk (some 49) (.load true 2
  (T 48)) (some (45, true)) .r), (zxsg 50 45 true (.eqA false [0, 0] (T 47) (T 49))), (oP 51 (.pick (T 45) (T 50) (.lit (.c (.pv (.bool
  false)))))), (zxsm 52 51), (zxsg 53 52 true (.faddr 17 (T 2))), (.mk (some 54) (.load false 1 (T 53)) (some (52, true)) .r), (zxsg 55 52 true (.faddr 17 (T 3))), (.mk (some 56) (.load false 1 (T 55)) (some (52, true)) .r), (zxsg 57 52 true (.eqB false (T 54) (T 56))), (oP 58 (.pick (T 52) (T 57) (.lit (.c zxsf)))), (zxsm 59 58), (zxsg 60 59 true (.faddr 18 (T 2))), (.mk (some 61) (.load false 1 (T 60)) (some (59, true)) .r), (zxsg 62 59 true (.faddr 18 (T 3))), (.mk (some 63) (.load false 1 (T
  62)) (some (59, true)) .r), (zxsg 64 59 true (zxsc 86 [(T 61), (T 63)])), (oP 65 (.pick (T 59) (T 64) (.lit
  (.c zxsf)))), (zxsm 66 65), (zxsg 67 66 true (.faddr 19 (T 2))), (.mk (some 68) (.load false 1 (T 67)) (some (66,
  true)) .r), (zxsg 69 66 true (.faddr 19 (T 3))), (.mk (some 70) (.load false 1 (T 69)) (some (66, true)) .r), (zxsg 71 66 true (.bin .eql (T
  68) (T 70))), (oP 72 (.pick (T 66) (T 71) (.lit (.c zxsf)))), (zxsm 73 72), (zxsg 74 73 true (.faddr 20 (T 2))), (.mk (some 75) (.load false 1 (T 74)) (some (73, true)) .r), (zxsg 76 73 true (.faddr 20 (T 3))), (.mk (some 77) (.load
  false 1 (T 76)) (some (73, true)) .r), (zxsg 78 73 true (.bin .eql (T 75) (T 77))), (oP 79 (.pick (T 73) (T 78) (.lit (.c (.pv (.bool
  false)))))), (zxsm 4 79)])) (zxsq [4] .ret))))
theorem xf42_ok : cmpFunc Go.Proofs.Tryd.prog 42 ((.two (zxsh [2, 0] .no) (.two (zxsh [4] (.ops [{}, {}, {}, {}, {}, {}, {}, {}, {}, {}, {}, {}, {}, {}, {}, {}, {}, {}, {}, {}, {}, {}, {}, {}, {}, {}, {}, {}, {}, {}, {}, {}, {}, {}, {}, {}, {}, {}, {}, {}, {}, {}, {}, {}, {}, {}, {}, {}, {}, {}, {}, {}, {}, {}, {}, {}, {}, {}, {}, { cls := some .p }])) (zxsh [4] .no)))) = some xf42 := by kernel_rfl
def xf43_l0 : XCode :=
(.seq (.seq (zxsq [2, 0, 1, 81] (zxsr [(zxsm 83 5), (oP 84 (.faddr 18 (T 2))), (oR 85 (.load false 1 (T 84))), (oP 86 (.len (T 85))),
  (oP 87 (.bin .lss (T 83) (T 86)))])) (zxsq [2, 0, 1] (.cond (T 87) .skip (zxsq [] (.exit 0))))) (.seq (zxsq [2, 0, 0, 0] (.block 1
  (.seq (zxsq [2, 0, 1, 94] (.region true [(oP 90 (.faddr 18 (T 2))), (oR 91 (.load false 1 (T 90))), (zxsm 92 5), (oP 93 (.iaddrS 3 (T 91) (T
  92))), (oR 94 (.load true 3 (T 93))), (oP 95 (.faddr 18 (T 3))), (oR 96 (.load false 1 (T 95))), (zxsm 97 5), (oP 98 (.iaddrS 3 (T 96) (T 97))), (oR
  99 (.load true 3 (T 98))), (oP 100 (.eqA true [0, 0, 0] (T 94) (T 99)))])) (zxsq [2, 0, 0, 0] (.cond (T 100) (.seq (zxsr [(oP 4 (.mv (.lit
  (.c zxsf))))]) (zxsq [4] .ret)) .skip))))) (zxsq [2, 0, 1] (zxsr [(zxsm 88 5), (oP 89 (.bin .add (T 88)
  (tI 1))), (zxsm 5 89)]))))
def xf43 : XFunc :=
(.mk 101 [(.tmp 4)] (.seq (zxsq [2, 0] (zxsr [(oW 2 (.box (T 0) 21)), (oW 3 (.box (T 1) 21)), (oP 4 (.mv (.lit (.c zxsf))))]))
  (.seq (.seq (zxsq [2, 0, 78] (zxsr [(oP 6 (.faddr 0 (T 2))), (oR 7 (.load false 1 (T 6))), (oP 8 (.faddr 0 (T 3))), (oR 9 (.load false 1 (T
  8))), (oP 10 (.bin .neq (T 7) (T 9))), (zxsm 11 10), (zxsg 12 11 false (.faddr 1 (T 2))), (.mk (some 13) (.load true 3 (T 12))
  (some (11, false)) .r), (zxsg 14 11 false (.faddr 1 (T 3))), (.mk (some 15) (.load true 3 (T 14)) (some (11, false)) .r), (zxsg 16 11 false (.eqA true [0, 2, 0] (T 13) (T 15))), (oP 17 (.pick (T 11) (.lit (.c zxst)) (T 16))), (zxsm 18 17), (zxsg 19 18 false (.faddr 4 (T 2))), (.mk (some 20) (.load true 8 (T 19)) (some (18, false)) .r), (zxsg 21 18 false (.faddr 4 (T 3))),
  (.mk (some 22) (.load true 8 (T 21)) (some (18, false)) .r), (zxsg 23 18 false (.eqA true [0, 0, 0, 0, 0, 0, 0, 0] (T 20) (T 22))), (oP 24
  (.pick (T 18) (.lit (.c zxst)) (T 23))), (zxsm 25 24), (zxsg 26 25 false (.faddr 12 (T 2))), (.mk (some 27) (.load
  false 1 (T 26)) (some (25, false)) .r), (zxsg 28 25 false (.faddr 12 (T 3))), (.mk (some 29) (.load false 1 (T 28)) (some (25, false)) .r),
  (zxsg 30 25 false (.bin .neq (T 27) (T 29))), (oP 31 (.pick (T 25) (.lit (.c zxst)) (T 30))), (zxsm 32 31), (zxsg 33 32 false (.faddr 13 (T 2))), (.mk (some 34) (.load false 1 (T 33)) (some (32, false)) .r), (zxsg 35 32 false (.faddr 13 (T 3))), (.mk (some 36) (.load false 1 (T 35)) (some (32, false)) .r), (zxsg 37 32 false (.bin .neq (T 34) (T 36))), (oP 38 (.pick (T
  32) (.lit (.c zxst)) (T 37))), (zxsm 39 38), (zxsg 40 39 false (.faddr 14 (T 2))), (.mk (some 41) (.load false 1 (T
  40)) (some (39, false)) .r), (zxsg 42 39 false (.faddr 14 (T 3))), (.mk (some 43) (.load false 1 (T 42)) (some (39, false)) .r), (zxsg 44 39 false (.bin .neq (T 41) (T 43))), (oP 45 (.pick (T 39) (.lit (.c zxst)) (T 44))), (zxsm 46 45), (zxsg 47 46 false (.faddr 15 (T 2))), (.mk (some 48) (.load true 2 (T 47)) (some (46, false)) .r), (zxsg 49 46 false (.faddr 15 (T 3))), (.mk (some 50) (.load true 2 (T 49)) (some (46, false)) .r), (zxsg 51 46 false (.eqA true [0, 0] (T 48) (T 50))), (oP 52 (.pick (T 46)
  (.lit (.c zxst)) (T 51))), (zxsm 53 52), (zxsg 54 53 false (.faddr 17 (T 2))), (.mk (some 55) (.load false 1 (T 54))
  (some (53, false)) .r), (zxsg 56 53 false (.faddr 17 (T 3))), (.mk (some 57) (.load false 1 (T 56)) (some (53, false)) .r), (zxsg 58 53 false (.eqB true (T 55) (T 57))), (oP 59 (.pick (T 53) (.lit (.c zxst)) (T 58))), (zxsm 60 59), (zxsg 61 60 false (.faddr
  19 (T 2))), (.mk (some 62) (.load false 1 (T 61)) (some (60, false)) .r), (zxsg 63 60 false (.faddr 19 (T 3))), (.mk
  (some 64) (.load false 1 (T 63)) (some (60, false)) .r), (zxsg 65 60 false (.bin .neq (T 62) (T 64))), (oP 66 (.pick (T 60) (.lit (.c (.pv
  (.bool true)))) (T 65))), (zxsm 67 66), (zxsg 68 67 false (.faddr 20 (T 2))), (.mk (some 69) (.load false 1 (T 68)) (some (67,
  false)) .r), (zxsg 70 67 false (.faddr 20 (T 3))), (.mk (some 71) (.load false 1 (T 70)) (some (67, false)) .r), (zxsg 72 67 false (.bin .neq
  (T 69) (T 71))), (oP 73 (.pick (T 67) (.lit (.c zxst)) (T 72))), (zxsm 74 73), (zxsg 75 74 false (.faddr 18 (T 2))), (.mk (some 76) (.load false 1 (T 75)) (some (74, false)) .r), (zxsg 77 74 false (.len (T 76))), (zxsg 78 74 false (.faddr 18 (T 3))), (.mk (some 79) (.load false 1 (T 78)) (some (74, false)) .r), (zxsg 80 74 false (.len (T 79))),
  (zxsg 81 74 false (.bin .neq (T 77) (T 80))), (oP 82 (.pick (T 74) (.lit (.c zxst)) (T 81)))])) (zxsq [2, 0, 0]
  (.cond (T 82) (.seq (zxsr [(oP 4 (.mv (.lit (.c zxsf))))]) (zxsq [4] .ret)) .skip))) (.seq (.seq (zxsr [(oP 5 (.mv
  (tI 0)))]) (zxsq [4] (.block 0 (.loop (rl [2, 0, 1]) xf43_l0)))) (.seq (zxsr [(oP 4 (.mv (.lit (.c zxst))))]) (zxsq [4] .ret))))))
theorem xf43_ok : cmpFunc Go.Proofs.Tryd.prog 43 ((.two (zxsh [2, 0] .no) (.two (.two (zxsh [2, 0, 78] .no) (zxsh [2, 0, 0] (.two (.two .no (zxsh [4] .no)) .no))) (.two (.two .no (zxsh [4] (.loop (rl [2, 0, 1]) (.two (.two (zxsh [2, 0, 1, 81] .no) (zxsh [2, 0, 1] (.two .no (zxsh [] .no)))) (.two (zxsh [2, 0, 0, 0] (.two (zxsh [2, 0, 1, 94] (.draw [0, 1, 2, 3, 4, 5, 6, 7, 8, 9, 10] [])) (zxsh [2, 0, 0, 0] (.two (.two .no (zxsh [4] .no)) .no)))) (zxsh [2, 0, 1] .no)))))) (.two .no (zxsh [4] .no)))))) = some xf43 := by kernel_rfl
def xf45_l0 : XCode :=
(.seq (zxsr [(oP 123 (.bin .lss (T 122) (T 121)))]) (.seq (zxsq [2, 1, 1, 114, 0] (.cond (T 123) .skip (zxsq [2, 1, 1] (.exit 1))))
  (.seq (zxsq [2, 1, 1, 114, 0] (.block 2 (.seq (zxsq [2, 1, 1, 1, 112, 0] (zxsr [(zxsm 124 4), (oW 125 (zxsc 90 [(T 124), (tI 64)])), (zxsm 8 125)])) (zxsq [2, 1, 1, 114, 0] (.region true [(oP 126 (.faddr 18 (T 6))), (oR 127
  (.loadR false 1 (T 126) (T 6))), (zxsm 128 8), (zxsm 129 4), (oP 130 (.nilc (T 129))), (oP 131 (.faddr 0 (T 130))), (oR 132 (.load false 1 (T
  131))), (oW 133 (.call false [(T 6)] (.lit (.c (.fn 94 []))) [(T 132)])), (oP 134 (.build [zxsi, zxsi, zxsi] [(0,
  (1, (T 128))), (1, (2, (T 133)))])), (oP 135 (.buildSl [zxsi, zxsi, zxsi] 1 3 [(0, (3, (T 134)))])), (oW 136
  (.app 3 24 (T 127) (T 135))), (oP 137 (.faddr 18 (T 6))), (sW (.store 1 (T 137) (T 136)))]))))) (zxsq [2, 1, 1, 114, 0] (zxsr [(oP 138
  (.bin .add (T 122) (tI 1))), (zxsm 122 138)])))))
def xf45 : XFunc :=
(.mk 205 [(.cell 2 true 21), (.tmp 3)] (.seq (zxsq [0, 1] (zxsr [(oW 2 (.alloc [zxsi, zxsi, zxss,
  zxsi, zxsi, zxsi, zxsi, zxsi, zxsi, zxsi, (.pv (.int
  .i32 0)), zxsd, zxsi, zxsi, zxsd, zxsi, zxsi, zxsf,
  (.pv (.sl .nil 0 [])), zxss, zxss])), (oP 3 (.mv (tI 0)))])) (.seq (zxsq [2, 1] (zxsr [(zxsm 11 0), (oW 12
  (zxsc 87 [(T 11)])), (oP 13 (.build [.nilp, zxsi, zxsi] [(0, (1, (T 12)))])), (oW 14 (.box (T 13)
  3)), (zxsm 4 14)])) (.seq (zxsq [2, 1, 0] (zxsr [(zxsm 15 4), (oP 16 (.nilc (T 15))), (oP 17 (.faddr 0 (T 16))), (oR 18
  (.load false 1 (T 17))), (oW 19 (zxsc 88 [(T 18)])), (zxsm 5 19)])) (.seq (zxsq [2, 0, 0, 0] (.block 0 (.seq
  (zxsq [2, 1, 0, 14] (zxsr [(zxsm 21 4), (oP 22 (.nilc (T 21))), (oP 23 (.faddr 0 (T 22))), (oR 24 (.load false 1 (T 23))), (oW 25
  (zxsc 89 [(T 24)])), (oP 26 (.bin .neq (T 25) (tI 0))), (zxsm 20 26)])) (zxsq [2, 0, 0, 0] (.cond (T 20)
  (.seq (zxsq [2, 0] (zxsr [(oP 27 (.build [zxsi, zxsi, zxss, zxsi, (.pv (.int .i64
  0)), zxsi, zxsi, zxsi, zxsi, zxsi, zxsd, zxsd, (.pv
  (.int .i64 0)), zxsi, zxsd, zxsi, zxsi, zxsf, (.pv (.sl .nil 0 [])), (.pv (.str
  [])), zxss] [])), (zxsm 28 4), (oP 29 (.nilc (T 28))), (oP 30 (.faddr 0 (T 29))), (oR 31 (.load false 1 (T 30))), (oW 32 (zxsc 89 [(T 31)])), (sW (.store 21 (T 2) (T 27))), (zxsm 3 32)])) (zxsq [2, 0] .ret)) (.seq (zxsq [2, 1, 0, 27]
  (zxsr [(zxsm 34 5), (oP 35 (.bin .geq (T 34) (.lit (.c (.pv (.int .u64 11)))))), (zxsm 33 35)])) (zxsq [2, 0, 0, 0] (.cond
  (T 33) (.seq (zxsq [2, 0] (zxsr [(oP 36 (.build [zxsi, zxsi, zxss, zxsi, (.pv (.int
  .i64 0)), zxsi, zxsi, zxsi, zxsi, zxsi, zxsd, zxsd,
  zxsi, zxsi, zxsd, zxsi, zxsi, zxsf, (.pv (.sl .nil 0 [])), (.pv
  (.str [])), zxss] [])), (sW (.store 21 (T 2) (T 36))), (oP 3 (.mv (tI 3)))])) (zxsq [2, 0] .ret)) .skip)))))))) (.seq (zxsq [2, 1] (zxsr [(zxsm 37 4), (zxsm 38 5), (oP 39 (.convI .i64 (T 38))), (oP 40 (.nilc (T 37))), (oP 41 (.faddr 1 (T 40))), (sW (.store 1
  (T 41) (T 39)))])) (.seq (zxsq [2, 1, 1] (zxsr [(zxsm 42 4), (oP 43 (.nilc (T 42))), (oP 44 (.faddr 1 (T 43))), (oR 45 (.load false
  1 (T 44))), (oP 46 (.build [zxsi, zxsi, zxss, zxsi, zxsi, zxsi, (.pv
  (.int .i64 0)), zxsi, zxsi, zxsi, zxsd, zxsd, zxsi, (.pv (.int .i64
  0)), zxsd, zxsi, zxsi, zxsf, (.pv (.sl .nil 0 [])), zxss, zxss] [(0, (1, (T
  45)))])), (oW 6 (.alloc [zxsi, zxsi, zxss, zxsi, zxsi, zxsi, (.pv (.int
  .i64 0)), zxsi, zxsi, zxsi, zxsd, zxsd, zxsi, zxsi,
  zxsd, zxsi, zxsi, zxsf, (.pv (.sl .nil 0 [])), zxss, zxss])), (sW (.store 21
  (T 6) (T 46)))])) (.seq (zxsq [2, 1, 1] (zxsr [(zxsm 47 4), (oW 48 (zxsc 90 [(T 47), (tI 1)])), (oP
  49 (.faddr 1 (T 6))), (oP 50 (.faddr 0 (T 49))), (sW (.store 1 (T 50) (T 48)))])) (.seq (zxsq [2, 1, 1] (zxsr [(zxsm 51 4), (oW 52
  (zxsc 91 [(T 51), (tI 1), (tI 32)])), (oP 53 (.faddr 1 (T 6))), (oP 54 (.faddr 1 (T 53))), (sW (.store 1 (T 54) (T 52)))]))
  (.seq (zxsq [2, 1, 1] (zxsr [(zxsm 55 4), (oW 56 (zxsc 90 [(T 55), (tI 1)])), (oP 57 (.faddr 1 (T
  6))), (oP 58 (.faddr 2 (T 57))), (sW (.store 1 (T 58) (T 56)))])) (.seq (zxsq [2, 1, 1, 0] (zxsr [(oP 59 (.faddr 4 (T 6))), (zxsm 7 59)])) (.seq (zxsq [2, 1, 1, 0] (zxsr [(zxsm 60 7), (zxsm 61 7), (zxsm 62 4), (oW 63 (zxsc 90 [(T 62), (tI 2)])), (zxsm 64 4), (oW 65 (zxsc 90 [(T 64), (tI 2)])), (oP 66 (.nilc (T 60))), (oP 67
  (.faddr 0 (T 66))), (sW (.store 1 (T 67) (T 63))), (oP 68 (.nilc (T 61))), (oP 69 (.faddr 1 (T 68))), (sW (.store 1 (T 69) (T 65)))])) (.seq (zxsq [2, 1, 1, 0] (zxsr [(zxsm 70 7), (zxsm 71 7), (zxsm 72 4), (oW 73 (zxsc 90 [(T 72), (tI 2)])),
  (zxsm 74 4), (oW 75 (zxsc 90 [(T 74), (tI 2)])), (oP 76 (.nilc (T 70))), (oP 77 (.faddr 2 (T 76))), (sW (.store 1 (T
  77) (T 73))), (oP 78 (.nilc (T 71))), (oP 79 (.faddr 3 (T 78))), (sW (.store 1 (T 79) (T 75)))])) (.seq (zxsq [2, 1, 1, 0] (zxsr [(zxsm 80 7), (zxsm 81 7), (zxsm 82 4), (oW 83 (zxsc 90 [(T 82), (tI 2)])), (zxsm 84 4), (oW 85 (zxsc 90 [(T 84), (tI 2)])), (oP 86 (.nilc (T 80))), (oP 87 (.faddr 4 (T 86))), (sW (.store 1 (T 87) (T 83))), (oP 88 (.nilc (T 81))),
  (oP 89 (.faddr 5 (T 88))), (sW (.store 1 (T 89) (T 85)))])) (.seq (zxsq [2, 1, 1] (zxsr [(zxsm 90 7), (zxsm 91 7), (zxsm 92 4), (oW 93 (zxsc 92 [(T 92), (tI 2)])), (zxsm 94 4), (oW 95 (zxsc 92 [(T 94),
  (tI 2)])), (oP 96 (.nilc (T 90))), (oP 97 (.faddr 6 (T 96))), (sW (.store 1 (T 97) (T 93))), (oP 98 (.nilc (T 91))), (oP 99 (.faddr 7 (T 98))), (sW (.store 1
  (T 99) (T 95)))])) (.seq (zxsq [2, 1, 1] (zxsr [(zxsm 100 4), (oW 101 (zxsc 90 [(T 100), (tI 4)])),
  (oP 102 (.faddr 12 (T 6))), (sW (.store 1 (T 102) (T 101)))])) (.seq (zxsq [2, 1, 1] (zxsr [(zxsm 103 4), (oW 104 (zxsc 90 [(T 103), (tI 8)])), (oP 105 (.faddr 13 (T 6))), (sW (.store 1 (T 105) (T 104)))])) (.seq (zxsq [2, 1, 1] (.region false
  [(zxsm 106 4), (oW 107 (zxsc 92 [(T 106), (tI 16)])), (oP 108 (.faddr 14 (T 6))), (sW (.store 1 (T 108) (T 107)))]))
  (.seq (zxsq [2, 1, 1] (zxsr [(zxsm 109 4), (oW 110 (zxsc 91 [(T 109), (tI 32), (tI 32)])), (oP 111
  (.faddr 19 (T 6))), (sW (.store 1 (T 111) (T 110)))])) (.seq (.seq (zxsq [2, 1, 1, 109] (zxsr [(zxsm 112 4), (oP 113 (.nilc (T
  112))), (oP 114 (.faddr 1 (T 113))), (oR 115 (.load false 1 (T 114))), (oP 116 (zxsc 74 [(T 115), (tI 64)]))])) (zxsq [2, 1, 1] (.cond (T 116) (.seq (zxsq [2, 1, 1, 114, 0] (zxsr [(zxsm 117 4), (oP 118 (.nilc (T 117))), (oP 119 (.faddr 0 (T 118))),
  (oR 120 (.load false 1 (T 119))), (oW 121 (zxsc 93 [(T 120), (tI 16)])), (oP 122 (.mv (tI 0)))])) (zxsq [2, 1, 1]
  (.block 1 (.loop (rl [2, 1, 1, 114, 0]) xf45_l0)))) .skip))) (.seq (.seq (zxsq [2, 1, 1, 136] (zxsr [(zxsm 139 4), (oP 140 (.nilc
  (T 139))), (oP 141 (.faddr 1 (T 140))), (oR 142 (.load false 1 (T 141))), (oP 143 (zxsc 74 [(T 142), (tI 128)]))])) (zxsq [2, 1, 1] (.cond (T 143) (zxsq [2, 1, 1] (zxsr [(zxsm 144 4), (oP 145 (.nilc (T 144))), (oP 146 (.faddr 0 (T 145))), (oR 147
  (.load false 1 (T 146))), (oW 148 (zxsc 94 [(T 147)])), (oP 149 (.faddr 15 (T 6))), (sW (.store 2 (T 149) (T 148)))])) .skip)))
  (.seq (zxsq [2, 1, 1] (.region true [(oP 150 (.faddr 13 (T 6))), (oR 151 (.loadR false 1 (T 150) (T 6))), (zxsm 152 4), (oW 153 (.call false
  [(T 6)] (.lit (.c (.fn 90 []))) [(T 152), (tI 256)])), (oP 154 (.bin .add (T 151) (T 153))), (oP 155 (.faddr 13 (T 6))), (sW (.store 1 (T 155) (T 154)))]))
  (.seq (zxsq [2, 1, 1] (.region true [(oP 156 (.faddr 14 (T 6))), (oR 157 (.loadR false 1 (T 156) (T 6))), (zxsm 158 4), (oW 159 (.call false
  [(T 6)] (.lit (.c (.fn 92 []))) [(T 158), (tI 512)])), (oP 160 (.bin .add (T 157) (T 159))), (oP 161 (.faddr 14 (T 6))), (sW (.store 1 (T 161) (T 160)))]))
  (.seq (.seq (zxsq [2, 1, 1, 159] (zxsr [(zxsm 162 4), (oP 163 (.nilc (T 162))), (oP 164 (.faddr 1 (T 163))), (oR 165 (.load false 1
  (T 164))), (oP 166 (zxsc 74 [(T 165), (tI 1024)]))])) (zxsq [2, 1, 1] (.cond (T 166) (zxsq [2, 1, 1]
  (zxsr [(zxsm 167 4), (oP 168 (.nilc (T 167))), (oP 169 (.faddr 0 (T 168))), (oR 170 (.load false 1 (T 169))), (oW 171 (zxsc 95 [(T 170)])), (oP 172 (.faddr 17 (T 6))), (sW (.store 1 (T 172) (T 171)))])) .skip))) (.seq (zxsq [2, 1, 1] (zxsr [(zxsm 173 4), (oW 174 (zxsc 91 [(T 173), (tI 2048), (tI 2000)])), (oP 175 (.faddr 20 (T 6))), (sW (.store 1 (T 175) (T
  174)))])) (.seq (.seq (zxsq [2, 1, 1, 2] (zxsr [(zxsm 176 4), (oP 177 (.nilc (T 176))), (oP 178 (.faddr 0 (T 177))), (oR 179 (.load
  false 1 (T 178))), (oW 180 (zxsc 96 [(T 179)])), (zxsm 9 180)])) (.seq (zxsq [2, 1, 1, 2, 172] (.region false
  [(zxsm 181 9), (oP 182 (.bin .neq (T 181) (tI 0)))])) (zxsq [2, 0, 0, 1] (.cond (T 182) (.seq (zxsq [2, 0] (zxsr [(oP 183
  (.build [zxsi, zxsi, zxss, zxsi, zxsi, zxsi, zxsi, (.pv
  (.int .i64 0)), zxsi, zxsi, zxsd, zxsd, zxsi, zxsi, (.pv (.int .i32
  0)), zxsi, zxsi, zxsf, (.pv (.sl .nil 0 [])), zxss, zxss] [])), (zxsm 184 9), (sW
  (.store 21 (T 2) (T 183))), (zxsm 3 184)])) (zxsq [2, 0] .ret)) .skip)))) (.seq (zxsq [2, 1, 1, 3] (zxsr [(oR 185 (.load
  true 21 (T 6))), (oP 186 (zxsc 40 [(T 185)])), (zxsm 10 186)])) (.seq (.seq (zxsq [2, 1, 1, 3, 184] (.region
  false [(zxsm 187 10), (oP 188 (.bin .neq (T 187) (tI 12))), (zxsm 189 188), (zxsg 190 189 true (.mv (T 4))), (zxsg 191 189 true (.nilc (T 190))), (zxsg 192 189 true (.faddr 2 (T 191))), (.mk (some 193) (.load false 1 (T 192)) (some (189,
  true)) .r), (zxsg 194 189 true (.bin .neq (T 193) (tI 0))), (oP 195 (.pick (T 189) (T 194) (.lit (.c zxsf))))])) (zxsq [2, 3, 3] (.cond (T 195) (zxsq [2, 3, 3] (zxsr [(zxsm 196 4), (oP 197 (.nilc (T 196))), (oP 198 (.faddr 2 (T 197))), (oR 199
  (.load false 1 (T 198))), (zxsm 10 199)])) .skip))) (.seq (.seq (zxsq [2, 3, 3, 190] (zxsr [(zxsm 200 10), (oP 201 (.bin
  .neq (T 200) (tI 0)))])) (zxsq [2, 0, 2] (.cond (T 201) (.seq (zxsq [2, 0] (zxsr [(oP 202 (.build [zxsi, (.pv
  (.int .i64 0)), zxss, zxsi, zxsi, zxsi, zxsi, zxsi, zxsi,
  zxsi, zxsd, zxsd, zxsi, zxsi, zxsd, zxsi, (.pv (.int
  .i64 0)), zxsf, (.pv (.sl .nil 0 [])), zxss, zxss] [])), (zxsm 203 10), (sW (.store 21 (T 2) (T 202))), (zxsm 3 203)])) (zxsq [2, 0] .ret)) .skip))) (.seq (zxsq [2, 0] (zxsr [(oR 204 (.load true 21 (T 6))), (sW (.store 21 (T 2) (T
  204))), (oP 3 (.mv (tI 0)))])) (zxsq [2, 0] .ret)))))))))))))))))))))))))))))))
theorem xf45_ok : cmpFunc Go.Proofs.Tryd.prog 45 ((.two (zxsh [0, 1] .no) (.two (zxsh [2, 1] .no) (.two (zxsh [2, 1, 0] .no) (.two (zxsh [2, 0, 0, 0] (.two (zxsh [2, 1, 0, 14] .no) (zxsh [2, 0, 0, 0] (.two (.two (zxsh [2, 0] .no) (zxsh [2, 0] .no)) (.two (zxsh [2, 1, 0, 27] .no) (zxsh [2, 0, 0, 0] (.two (.two (zxsh [2, 0] .no) (zxsh [2, 0] .no)) .no))))))) (.two (zxsh [2, 1] .no) (.two (zxsh [2, 1, 1] .no) (.two (zxsh [2, 1, 1] .no) (.two (zxsh [2, 1, 1] .no) (.two (zxsh [2, 1, 1] .no) (.two (zxsh [2, 1, 1, 0] .no) (.two (zxsh [2, 1, 1, 0] .no) (.two (zxsh [2, 1, 1, 0] .no) (.two (zxsh [2, 1, 1, 0] .no) (.two (zxsh [2, 1, 1] .no) (.two (zxsh [2, 1, 1] .no) (.two (zxsh [2, 1, 1] .no) (.two (zxsh [2, 1, 1] .no) (.two (zxsh [2, 1, 1] .no) (.two (.two (zxsh [2, 1, 1, 109] (.ops [{}, {}, {}, {}, { cls := some .p }])) (zxsh [2, 1, 1] (.two (.two (zxsh [2, 1, 1, 114, 0] .no) (zxsh [2, 1, 1] (.loop (rl [2, 1, 1, 114, 0]) (.two .no (.two (zxsh [2, 1, 1, 114, 0] (.two .no (zxsh [2, 1, 1] .no))) (.two (zxsh [2, 1, 1, 114, 0] (.two (zxsh [2, 1, 1, 1, 112, 0] .no) (zxsh [2, 1, 1, 114, 0] (.draw [0, 1, 2, 3, 4, 5, 6, 7, 8, 9, 10, 11, 12] [{}, { root := some 6 }, {}, {}, {}, {}, {}, { ap := [6] }])))) (zxsh [2, 1, 1, 114, 0] .no))))))) .no))) (.two (.two (zxsh [2, 1, 1, 136] (.ops [{}, {}, {}, {}, { cls := some .p }])) (zxsh [2, 1, 1] (.two (zxsh [2, 1, 1] .no) .no))) (.two (zxsh [2, 1, 1] (.draw [0, 1, 2, 3, 4, 5, 6] [{}, { root := some 6 }, {}, { ap := [6] }])) (.two (zxsh [2, 1, 1] (.draw [0, 1, 2, 3, 4, 5, 6] [{}, { root := some 6 }, {}, { ap := [6] }])) (.two (.two (zxsh [2, 1, 1, 159] (.ops [{}, {}, {}, {}, { cls := some .p }])) (zxsh [2, 1, 1] (.two (zxsh [2, 1, 1] .no) .no))) (.two (zxsh [2, 1, 1] .no) (.two (.two (zxsh [2, 1, 1, 2] .no) (.two (zxsh [2, 1, 1, 2, 172] .no) (zxsh [2, 0, 0, 1] (.two (.two (zxsh [2, 0] .no) (zxsh [2, 0] .no)) .no)))) (.two (zxsh [2, 1, 1, 3] (.ops [{}, { cls := some .p }])) (.two (.two (zxsh [2, 1, 1, 3, 184] .no) (zxsh [2, 3, 3] (.two (zxsh [2, 3, 3] .no) .no))) (.two (.two (zxsh [2, 3, 3, 190] .no) (zxsh [2, 0, 2] (.two (.two (zxsh [2, 0] .no) (zxsh [2, 0] .no)) .no))) (.two (zxsh [2, 0] .no) (zxsh [2, 0] .no))))))))))))))))))))))))))))))) = some xf45 := by kernel_rfl
def xf46_l0 : XCode :=
(.seq (zxsr [(oP 17 (.bin .lss (T 16) (T 15)))]) (.seq (zxsq [4, 0, 9, 0] (.cond (T 17) .skip (zxsq [4, 0] (.exit 0)))) (.seq (zxsq [2, 0, 0, 0, 9, 0] (.block 1 (.seq (zxsq [4, 0, 1, 7, 0] (zxsr [(zxsm 18 4), (oW 19 (zxsc 97 [(T 18), (tI 2400)])), (zxsm 7 19)])) (.seq (.seq (zxsq [4, 0, 1, 7, 0, 5] (zxsr [(zxsm 20 4), (oW 21 (zxsc 89 [(T 20)])), (oP 22 (.bin .neq (T 21) (tI 0)))])) (zxsq [2, 0, 0, 0, 1, 7, 0] (.cond (T 22) (.seq (zxsq [2, 0]
  (zxsr [(zxsm 23 4), (oW 24 (zxsc 89 [(T 23)])), (oP 2 (.mv (.lit (.c (.pv (.sl .nil 0 [])))))), (zxsm 3 24)])) (zxsq [2, 0] .ret)) .skip))) (.seq (zxsq [4, 0, 2, 0, 5, 0] (zxsr [(zxsm 26 7), (oP 27 (zxsc 45 [(T 26)])), (zxsm 25 27), (oP 28 (.extr 0 (T 25))), (oP 29 (.extr 1 (T 25))), (oW 8 (.alloc [zxsi, zxsi,
  zxss, zxsi, zxsi, zxsi, zxsi, zxsi, zxsi, (.pv (.int .i64
  0)), zxsd, zxsd, zxsi, zxsi, zxsd, zxsi, zxsi, (.pv
  (.bool false)), (.pv (.sl .nil 0 [])), zxss, zxss])), (sW (.store 21 (T 8) (T 28))), (zxsm 9 29)])) (.seq (.seq (zxsq [4, 0, 2, 0, 5, 0, 14] (zxsr [(zxsm 30 9), (oP 31 (.bin .neq (T 30) (tI 0)))])) (zxsq [2, 0, 0, 0, 2, 6, 0] (.cond (T 31) (.seq
  (zxsq [2, 0] (zxsr [(zxsm 32 9), (oP 2 (.mv (.lit (.c (.pv (.sl .nil 0 [])))))), (zxsm 3 32)])) (zxsq [2, 0]
  .ret)) .skip))) (zxsq [4, 0, 9, 0] (zxsr [(zxsm 33 5), (oR 34 (.load true 21 (T 8))), (oP 35 (.buildSl [zxsi, (.pv
  (.int .i64 0)), zxss, zxsi, zxsi, zxsi, zxsi, zxsi, zxsi,
  zxsi, zxsd, zxsd, zxsi, zxsi, zxsd, zxsi, (.pv (.int
  .i64 0)), zxsf, (.pv (.sl .nil 0 [])), zxss, zxss] 1 21 [(0, (21, (T 34)))])), (oW 36 (.app 21 200 (T 33) (T 35))), (zxsm 5 36)])))))))) (zxsq [4, 0, 9, 0] (zxsr [(oP 37 (.bin .add (T 16) (tI 1))), (zxsm 16 37)])))))
def xf46 : XFunc :=
(.mk 44 [(.tmp 2), (.tmp 3)] (.seq (zxsq [0] (zxsr [(oP 2 (.mv (.lit (.c (.pv (.sl .nil 0 [])))))), (oP 3 (.mv (tI 0)))])) (.seq (zxsq [4] (zxsr [(zxsm 11 0), (oW 12 (zxsc 87 [(T 11)])), (zxsm 4 12)])) (.seq (zxsr [(oP 5
  (.mv (.lit (.c (.pv (.sl .nil 0 []))))))]) (.seq (zxsq [4, 0, 0] (zxsr [(zxsm 13 4), (oW 14 (zxsc 93
  [(T 13), (tI 200)])), (zxsm 6 14)])) (.seq (.seq (zxsq [4, 0, 9, 0] (zxsr [(zxsm 15 6), (oP 16 (.mv (tI 0)))])) (zxsq [2, 0, 0, 0] (.block 0 (.loop (rl [4, 0, 9, 0]) xf46_l0)))) (.seq (.seq (zxsq [5, 4] (zxsr [(zxsm 38 4), (oW 39 (zxsc 96 [(T 38)])), (zxsm 10 39)])) (.seq (zxsq [5, 4, 30] (zxsr [(zxsm 40 10), (oP 41 (.bin .neq (T 40)
  (tI 0)))])) (zxsq [2, 0, 1] (.cond (T 41) (.seq (zxsq [2, 0] (zxsr [(zxsm 42 10), (oP 2 (.mv (.lit (.c (.pv (.sl .nil 0
  [])))))), (zxsm 3 42)])) (zxsq [2, 0] .ret)) .skip)))) (.seq (zxsq [2, 0] (zxsr [(zxsm 43 5), (zxsm 2 43), (oP 3 (.mv (tI 0)))])) (zxsq [2, 0] .ret)))))))))
theorem xf46_ok : cmpFunc Go.Proofs.Tryd.prog 46 ((.two (zxsh [0] .no) (.two (zxsh [4] .no) (.two .no (.two (zxsh [4, 0, 0] .no) (.two (.two (zxsh [4, 0, 9, 0] .no) (zxsh [2, 0, 0, 0] (.loop (rl [4, 0, 9, 0]) (.two .no (.two (zxsh [4, 0, 9, 0] (.two .no (zxsh [4, 0] .no))) (.two (zxsh [2, 0, 0, 0, 9, 0] (.two (zxsh [4, 0, 1, 7, 0] .no) (.two (.two (zxsh [4, 0, 1, 7, 0, 5] .no) (zxsh [2, 0, 0, 0, 1, 7, 0] (.two (.two (zxsh [2, 0] .no) (zxsh [2, 0] .no)) .no))) (.two (zxsh [4, 0, 2, 0, 5, 0] (.ops [{}, { cls := some .p }])) (.two (.two (zxsh [4, 0, 2, 0, 5, 0, 14] .no) (zxsh [2, 0, 0, 0, 2, 6, 0] (.two (.two (zxsh [2, 0] .no) (zxsh [2, 0] .no)) .no))) (zxsh [4, 0, 9, 0] .no)))))) (zxsh [4, 0, 9, 0] .no))))))) (.two (.two (zxsh [5, 4] .no) (.two (zxsh [5, 4, 30] .no) (zxsh [2, 0, 1] (.two (.two (zxsh [2, 0] .no) (zxsh [2, 0] .no)) .no)))) (.two (zxsh [2, 0] .no) (zxsh [2, 0] .no))))))))) = some xf46 := by kernel_rfl
def xf48 : XFunc :=
(.mk 3 [(.tmp 0)] (.seq (zxsq [] (zxsr [(oP 0 (.mv (.lit (.c .nilp))))])) (.seq (zxsq [0] (zxsr [(oP 1 (.build [(.pv (.sl .nil
  0 []))] [])), (oW 2 (.box (T 1) 1)), (zxsm 0 2)])) (zxsq [0] .ret))))
theorem xf48_ok : cmpFunc Go.Proofs.Tryd.prog 48 ((.two (zxsh [] .no) (.two (zxsh [0] .no) (zxsh [0] .no)))) = some xf48 := by kernel_rfl
def xf49_l0 : XCode :=
(.seq (.seq (zxsq [0, 0, 5] (zxsr [(zxsm 6 1), (oP 7 (.bin .geq (T 6) (.lit (.c (.pv (.int .u64 128))))))])) (zxsq [0, 0]
  (.cond (T 7) .skip (zxsq [0, 0] (.exit 0))))) (.seq (zxsq [0, 0] (.block 1 (zxsq [0, 0] (zxsr [(zxsm 10 0), (zxsm 11 0), (oP 12 (.nilc (T 11))), (oP 13 (.faddr 0 (T 12))), (oR 14 (.load false 1 (T 13))), (zxsm 15 1), (oP 16 (.convI .u8 (T 15))), (oP 17
  (.bin .or (T 16) (.lit (.c (.pv (.int .u8 128)))))), (oP 18 (.buildSl [(.pv (.int .u8 0))] 1 1 [(0, (1, (T 17)))])), (oW 19 (.app 1 1 (T 14) (T 18))), (oP 20
  (.nilc (T 10))), (oP 21 (.faddr 0 (T 20))), (sW (.store 1 (T 21) (T 19)))])))) (zxsq [0, 0] (zxsr [(zxsm 8 1), (oP 9 (.bin .shr (T
  8) (.lit (.c (.pv (.int .u64 7)))))), (zxsm 1 9)]))))
def xf49 : XFunc :=
(.mk 33 [] (.seq (.seq (zxsq [0, 0, 3] (zxsr [(zxsm 4 0), (oP 5 (.eqN 1 false (T 4) (.lit (.c .nilp))))])) (zxsq [0, 0]
  (.cond (T 5) (zxsq [] .ret) .skip))) (.seq (zxsq [0, 0] (.block 0 (.loop (rl [0, 0]) xf49_l0))) (zxsq [] (zxsr [(zxsm 22 0), (zxsm 23 0), (oP 24 (.nilc (T 23))), (oP 25 (.faddr 0 (T 24))), (oR 26 (.load false 1 (T 25))), (zxsm 27 1), (oP 28 (.convI .u8 (T
  27))), (oP 29 (.buildSl [(.pv (.int .u8 0))] 1 1 [(0, (1, (T 28)))])), (oW 30 (.app 1 1 (T 26) (T 29))), (oP 31 (.nilc (T 22))), (oP 32 (.faddr 0 (T 31))),
  (sW (.store 1 (T 32) (T 30)))])))))
theorem xf49_ok : cmpFunc Go.Proofs.Tryd.prog 49 ((.two (.two (zxsh [0, 0, 3] .no) (zxsh [0, 0] (.two (zxsh [] .no) .no))) (.two (zxsh [0, 0] (.loop (rl [0, 0]) (.two (.two (zxsh [0, 0, 5] .no) (zxsh [0, 0] (.two .no (zxsh [0, 0] .no)))) (.two (zxsh [0, 0] (zxsh [0, 0] .no)) (zxsh [0, 0] .no))))) (zxsh [] .no)))) = some xf49 := by kernel_rfl
def xf50 : XFunc :=
(.mk 20 [] (.seq (zxsq [0, 0, 3] (zxsr [(zxsm 4 0), (oP 5 (.eqN 1 true (T 4) (.lit (.c .nilp))))])) (zxsq [] (.cond (T 5) (.seq
  (zxsq [0, 0] (zxsr [(zxsm 6 0), (zxsm 7 1), (oP 8 (.lenS (T 7))), (oP 9 (.convI .u64 (T 8))), (oW 10 (zxsc 49 [(T 6), (T 9)]))])) (zxsq [] (zxsr [(zxsm 11 0), (zxsm 12 0), (oP 13 (.nilc (T 12))), (oP 14 (.faddr 0 (T
  13))), (oR 15 (.load false 1 (T 14))), (zxsm 16 1), (oW 17 (.app 1 1 (T 15) (T 16))), (oP 18 (.nilc (T 11))), (oP 19 (.faddr 0 (T 18))), (sW (.store 1
  (T 19) (T 17)))]))) .skip))))
theorem xf50_ok : cmpFunc Go.Proofs.Tryd.prog 50 ((.two (zxsh [0, 0, 3] .no) (zxsh [] (.two (.two (zxsh [0, 0] .no) (zxsh [] .no)) .no)))) = some xf50 := by kernel_rfl
def xf51 : XFunc :=
(.mk 10 [(.tmp 2)] (.seq (zxsq [0] (zxsr [(oP 2 (.mv (.lit (.c zxss))))])) (.seq (.seq (zxsq [0, 3] (zxsr [(zxsm 3 0), (oP 4 (.eqN 1 false (T 3) (.lit (.c .nilp))))])) (zxsq [0, 1] (.cond (T 4) (.seq (zxsr [(oP 2 (.mv (.lit (.c (.pv (.str
  []))))))]) (zxsq [2] .ret)) .skip))) (.seq (zxsq [2] (zxsr [(zxsm 5 0), (oP 6 (.nilc (T 5))), (oP 7 (.faddr 0 (T 6))),
  (oR 8 (.load false 1 (T 7))), (oP 9 (.bytesS (T 8))), (zxsm 2 9)])) (zxsq [2] .ret)))))
theorem xf51_ok : cmpFunc Go.Proofs.Tryd.prog 51 ((.two (zxsh [0] .no) (.two (.two (zxsh [0, 3] .no) (zxsh [0, 1] (.two (.two .no (zxsh [2] .no)) .no))) (.two (zxsh [2] .no) (zxsh [2] .no))))) = some xf51 := by kernel_rfl
def xf71 : XFunc :=
(.mk 71 [(.cell 2 true 21)] (.seq (zxsq [1, 0] (zxsr [(oW 1 (.box (T 0) 21)), (oW 2 (.alloc [zxsi, zxsi, (.pv
  (.str [])), zxsi, zxsi, zxsi, zxsi, zxsi, zxsi, zxsi,
  zxsd, zxsd, zxsi, zxsi, zxsd, zxsi, zxsi, (.pv (.bool
  false)), (.pv (.sl .nil 0 [])), zxss, zxss]))])) (.seq (.seq (zxsq [1, 0, 1] (zxsr [(oP 3 (.faddr 0 (T 1))), (oR 4
  (.load false 1 (T 3)))])) (zxsq [1, 0] (.block 0 (.seq (zxsq [1, 0, 1, 0] (zxsr [(oP 6 (.bin .eql (T 4) (tI 0))), (zxsm 5 6)])) (zxsq [1, 0] (.cond (T 5) (.seq (zxsq [2] (zxsr [(oP 7 (.faddr 1 (T 1))), (oR 8 (.load true 3 (T 7))), (oP 9 (.build
  [zxsi, zxsi, zxss, zxsi, zxsi, zxsi, zxsi, (.pv (.int
  .i64 0)), zxsi, zxsi, zxsd, zxsd, zxsi, zxsi, zxsd,
  zxsi, zxsi, zxsf, (.pv (.sl .nil 0 [])), zxss, zxss] [(0, (1, (tI 0))), (1, (3, (T 8)))])),
  (sW (.store 21 (T 2) (T 9)))])) (zxsq [2] .ret)) (.seq (zxsq [1, 0, 1, 5] (zxsr [(oP 11 (.bin .eql (T 4) (tI 1))), (zxsm 10 11)])) (zxsq [1, 0] (.cond (T 10) (.seq (zxsq [2] (zxsr [(oP 12 (.faddr 4 (T 1))), (oR 13 (.load true 8 (T 12))), (oP 14
  (.build [zxsi, zxsi, zxss, zxsi, zxsi, zxsi, zxsi, (.pv
  (.int .i64 0)), zxsi, zxsi, zxsd, zxsd, zxsi, zxsi, (.pv (.int .i32
  0)), zxsi, zxsi, zxsf, (.pv (.sl .nil 0 [])), zxss, zxss] [(0, (1, (tI 1))), (4, (8, (T
  13)))])), (sW (.store 21 (T 2) (T 14)))])) (zxsq [2] .ret)) (.seq (zxsq [1, 0, 1, 10] (zxsr [(oP 16 (.bin .eql (T 4) (tI 2))),
  (zxsm 15 16)])) (zxsq [1, 0] (.cond (T 15) (.seq (zxsq [2] (zxsr [(oP 17 (.faddr 12 (T 1))), (oR 18 (.load false 1 (T
  17))), (oP 19 (.faddr 14 (T 1))), (oR 20 (.load false 1 (T 19))), (oP 21 (.build [zxsi, zxsi, zxss, (.pv (.int .i64
  0)), zxsi, zxsi, zxsi, zxsi, zxsi, zxsi, zxsd, (.pv
  (.int .i32 0)), zxsi, zxsi, zxsd, zxsi, zxsi, zxsf, (.pv (.sl .nil 0
  [])), zxss, zxss] [(0, (1, (tI 2))), (12, (1, (T 18))), (14, (1, (T 20)))])), (sW (.store 21 (T 2) (T 21)))])) (zxsq [2]
  .ret)) (.seq (zxsq [1, 0, 1, 17] (zxsr [(oP 23 (.bin .eql (T 4) (tI 3))), (zxsm 22 23)])) (zxsq [1, 0] (.cond (T 22)
  (.seq (zxsq [2] (zxsr [(oP 24 (.faddr 20 (T 1))), (oR 25 (.load false 1 (T 24))), (oP 26 (.build [zxsi, zxsi,
  zxss, zxsi, zxsi, zxsi, zxsi, zxsi, zxsi, (.pv (.int .i64
  0)), zxsd, zxsd, zxsi, zxsi, zxsd, zxsi, zxsi, (.pv
  (.bool false)), (.pv (.sl .nil 0 [])), zxss, zxss] [(0, (1, (tI 3))), (20, (1, (T 25)))])), (sW (.store 21 (T 2) (T 26)))])) (zxsq [2] .ret)) (.seq (zxsq [1, 0, 1, 22] (zxsr [(oP 28 (.bin .eql (T 4) (tI 4))), (zxsm 27 28)])) (zxsq [1, 0] (.cond
  (T 27) (.seq (zxsq [2] (zxsr [(oP 29 (.faddr 14 (T 1))), (oR 30 (.load false 1 (T 29))), (oP 31 (.faddr 19 (T 1))), (oR 32 (.load false 1
  (T 31))), (oP 33 (.faddr 18 (T 1))), (oR 34 (.load false 1 (T 33))), (oP 35 (.build [zxsi, zxsi, zxss, (.pv (.int
  .i64 0)), zxsi, zxsi, zxsi, zxsi, zxsi, zxsi, zxsd,
  zxsd, zxsi, zxsi, zxsd, zxsi, zxsi, zxsf, (.pv (.sl
  .nil 0 [])), zxss, zxss] [(0, (1, (tI 4))), (14, (1, (T 30))), (19, (1, (T 32))), (18, (1, (T 34)))])), (sW (.store 21 (T 2) (T 35)))]))
  (zxsq [2] .ret)) (.seq (zxsq [1, 0, 1, 31] (zxsr [(oP 37 (.bin .eql (T 4) (tI 6))), (zxsm 36 37)])) (zxsq [1, 0] (.cond (T 36) (.seq (zxsq [2] (zxsr [(oP 38 (.faddr 12 (T 1))), (oR 39 (.load false 1 (T 38))), (oP 40 (.faddr 15 (T 1))), (oR 41
  (.load true 2 (T 40))), (oP 42 (.faddr 13 (T 1))), (oR 43 (.load false 1 (T 42))), (oP 44 (.faddr 14 (T 1))), (oR 45 (.load false 1 (T 44))), (oP 46 (.build
  [zxsi, zxsi, zxss, zxsi, zxsi, zxsi, zxsi, (.pv (.int
  .i64 0)), zxsi, zxsi, zxsd, zxsd, zxsi, zxsi, zxsd,
  zxsi, zxsi, zxsf, (.pv (.sl .nil 0 [])), zxss, zxss] [(0, (1, (tI 6))), (12, (1, (T 39))),
  (15, (2, (T 41))), (13, (1, (T 43))), (14, (1, (T 45)))])), (sW (.store 21 (T 2) (T 46)))])) (zxsq [2] .ret)) (.seq (zxsq [1, 0, 1, 42]
  (zxsr [(oP 48 (.bin .eql (T 4) (tI 7))), (zxsm 47 48)])) (zxsq [1, 0] (.cond (T 47) (.seq (zxsq [2] (zxsr [(oP
  49 (.faddr 13 (T 1))), (oR 50 (.load false 1 (T 49))), (oP 51 (.faddr 15 (T 1))), (oR 52 (.load true 2 (T 51))), (oP 53 (.faddr 17 (T 1))), (oR 54 (.load
  false 1 (T 53))), (oP 55 (.build [zxsi, zxsi, zxss, zxsi, zxsi, zxsi,
  zxsi, zxsi, zxsi, zxsi, zxsd, zxsd, zxsi, (.pv (.int
  .i64 0)), zxsd, zxsi, zxsi, zxsf, (.pv (.sl .nil 0 [])), zxss, zxss] [(0,
  (1, (tI 7))), (13, (1, (T 50))), (15, (2, (T 52))), (17, (1, (T 54)))])), (sW (.store 21 (T 2) (T 55)))])) (zxsq [2] .ret)) (.seq (zxsq [1, 0, 1, 51] (zxsr [(oP 57 (.bin .eql (T 4) (tI 9))), (zxsm 56 57)])) (zxsq [1, 0] (.cond (T 56) (.seq (zxsq [2] (.region
  false [(oP 58 (.faddr 14 (T 1))), (oR 59 (.load false 1 (T 58))), (oP 60 (.faddr 17 (T 1))), (oR 61 (.load false 1 (T 60))), (oP 62 (.build [(.pv (.int .i64
  0)), zxsi, zxss, zxsi, zxsi, zxsi, zxsi, zxsi, (.pv (.int
  .i64 0)), zxsi, zxsd, zxsd, zxsi, zxsi, zxsd, zxsi,
  zxsi, zxsf, (.pv (.sl .nil 0 [])), zxss, zxss] [(0, (1, (tI 9))), (14, (1, (T 59))), (17, (1, (T 61)))])),
  (sW (.store 21 (T 2) (T 62)))])) (zxsq [2] .ret)) (.seq (zxsq [1, 0, 60] (zxsr [(oP 64 (.bin .eql (T 4) (tI 10))), (zxsm 63 64)])) (zxsq [1, 0] (.cond (T 63) (.seq (zxsq [2] (zxsr [(oP 65 (.build [zxsi, zxsi, (.pv (.str
  [])), zxsi, zxsi, zxsi, zxsi, zxsi, zxsi, zxsi, (.pv
  (.int .i32 0)), zxsd, zxsi, zxsi, zxsd, zxsi, zxsi, (.pv (.bool
  false)), (.pv (.sl .nil 0 [])), zxss, zxss] [(0, (1, (tI 10)))])), (sW (.store 21 (T 2) (T 65)))])) (zxsq [2] .ret))
  .skip)))))))))))))))))))))))))))))) (.seq (zxsq [2] (zxsr [(oP 66 (.faddr 0 (T 1))), (oR 67 (.load false 1 (T 66))), (oP 68 (.faddr 13 (T
  1))), (oR 69 (.load false 1 (T 68))), (oP 70 (.build [zxsi, zxsi, zxss, zxsi, zxsi,
  zxsi, zxsi, zxsi, zxsi, zxsi, zxsd, zxsd, (.pv (.int
  .i64 0)), zxsi, zxsd, zxsi, zxsi, zxsf, (.pv (.sl .nil 0 [])), zxss,
  zxss] [(0, (1, (T 67))), (13, (1, (T 69)))])), (sW (.store 21 (T 2) (T 70)))])) (zxsq [2] .ret)))))
theorem xf71_ok : cmpFunc Go.Proofs.Tryd.prog 71 ((.two (zxsh [1, 0] .no) (.two (.two (zxsh [1, 0, 1] .no) (zxsh [1, 0] (.two (zxsh [1, 0, 1, 0] .no) (zxsh [1, 0] (.two (.two (zxsh [2] .no) (zxsh [2] .no)) (.two (zxsh [1, 0, 1, 5] .no) (zxsh [1, 0] (.two (.two (zxsh [2] .no) (zxsh [2] .no)) (.two (zxsh [1, 0, 1, 10] .no) (zxsh [1, 0] (.two (.two (zxsh [2] .no) (zxsh [2] .no)) (.two (zxsh [1, 0, 1, 17] .no) (zxsh [1, 0] (.two (.two (zxsh [2] .no) (zxsh [2] .no)) (.two (zxsh [1, 0, 1, 22] .no) (zxsh [1, 0] (.two (.two (zxsh [2] .no) (zxsh [2] .no)) (.two (zxsh [1, 0, 1, 31] .no) (zxsh [1, 0] (.two (.two (zxsh [2] .no) (zxsh [2] .no)) (.two (zxsh [1, 0, 1, 42] .no) (zxsh [1, 0] (.two (.two (zxsh [2] .no) (zxsh [2] .no)) (.two (zxsh [1, 0, 1, 51] .no) (zxsh [1, 0] (.two (.two (zxsh [2] .no) (zxsh [2] .no)) (.two (zxsh [1, 0, 60] .no) (zxsh [1, 0] (.two (.two (zxsh [2] .no) (zxsh [2] .no)) .no))))))))))))))))))))))))))))) (.two (zxsh [2] .no) (zxsh [2] .no))))) = some xf71 := by kernel_rfl
def xf72 : XFunc :=
(.mk 9 [(.tmp 2)] (.seq (zxsq [0] (zxsr [(oP 2 (.mv (.lit (.c zxsf))))])) (.seq (zxsq [2] (zxsr [(zxsm 3 0), (oP 4 (.bin .geq (T 3) (.lit (.c (.pv (.int .i64 (-2147483648))))))), (zxsm 5 4), (zxsg 6 5 true (.mv (T 0))), (zxsg 7 5 true (.bin .leq (T 6) (tI 2147483647))), (oP 8 (.pick (T 5) (T 7) (.lit (.c zxsf)))), (zxsm 2 8)])) (zxsq [2] .ret))))
theorem xf72_ok : cmpFunc Go.Proofs.Tryd.prog 72 ((.two (zxsh [0] .no) (.two (zxsh [2] .no) (zxsh [2] .no)))) = some xf72 := by kernel_rfl
def xf73_l0 : XCode :=
(.seq (zxsr [(oP 11 (.bin .lss (T 10) (T 9)))]) (.seq (zxsq [0, 1, 0, 4, 0, 0] (.cond (T 11) .skip (zxsq [] (.exit 0)))) (.seq (zxsq [0, 1, 0, 4, 0, 0] (.block 1 (.seq (zxsq [0, 1, 0, 3, 0, 0, 0] (zxsr [(oP 12 (.iaddrS 1 (T 8) (T 10))), (oR 13 (.load false 1 (T
  12))), (zxsm 7 13)])) (.seq (zxsq [0, 1, 0, 3, 0, 0, 0, 6] (zxsr [(oP 14 (.faddr 0 (T 2))), (oR 15 (.load false 1 (T 14))), (zxsm 16 0), (oP 17 (zxsc 74 [(T 15), (T 16)]))])) (zxsq [0, 1, 0, 4, 0, 0] (.cond (T 17) (zxsq [0, 1, 0, 4, 0, 0] (zxsr [(oR 18 (.load false 1 (T 3))), (zxsm 19 7), (oW 20 (zxsc 75 [(T 18), (T 19)]))])) .skip))))))
  (zxsq [0, 1, 0, 4, 0, 0] (zxsr [(oP 21 (.bin .add (T 10) (tI 1))), (zxsm 10 21)])))))
def xf73 : XFunc :=
(.mk 22 [] (.seq (zxsq [0, 1, 0, 4, 0, 0] (zxsr [(zxsm 8 1), (oP 9 (.len (T 8))), (oP 10 (.mv (tI 0)))])) (zxsq [] (.block 0
  (.loop (rl [0, 1, 0, 4, 0, 0]) xf73_l0)))))
theorem xf73_ok : cmpFunc Go.Proofs.Tryd.prog 73 ((.two (zxsh [0, 1, 0, 4, 0, 0] .no) (zxsh [] (.loop (rl [0, 1, 0, 4, 0, 0]) (.two .no (.two (zxsh [0, 1, 0, 4, 0, 0] (.two .no (zxsh [] .no))) (.two (zxsh [0, 1, 0, 4, 0, 0] (.two (zxsh [0, 1, 0, 3, 0, 0, 0] .no) (.two (zxsh [0, 1, 0, 3, 0, 0, 0, 6] (.ops [{}, {}, {}, { cls := some .p }])) (zxsh [0, 1, 0, 4, 0, 0] (.two (zxsh [0, 1, 0, 4, 0, 0] .no) .no))))) (zxsh [0, 1, 0, 4, 0, 0] .no)))))))) = some xf73 := by kernel_rfl
def xf74 : XFunc :=
(.mk 11 [(.tmp 4)] (.seq (zxsq [0, 0] (zxsr [(oP 4 (.mv (.lit (.c zxsf))))])) (.seq (zxsq [4] (zxsr [(zxsm 5 0), (oP 6 (.iaddrA 11 1 (.lit (.c (.cptr [(.int .i64 1), (.int .i64 2), (.int .i64 516), (.int .i64 2048), (.int .i64 112), (.int .i64 8), (.int
  .i64 900), (.int .i64 1160), (.int .i64 8), (.int .i64 1536), (.int .i64 0)] 0))) (T 5))), (oR 7 (.load false 1 (T 6))), (zxsm 8 1), (oP 9 (.bin .and
  (T 7) (T 8))), (oP 10 (.bin .neq (T 9) (tI 0))), (zxsm 4 10)])) (zxsq [4] .ret))))
theorem xf74_ok : cmpFunc Go.Proofs.Tryd.prog 74 ((.two (zxsh [0, 0] .no) (.two (zxsh [4] .no) (zxsh [4] .no)))) = some xf74 := by kernel_rfl
def xf75 : XFunc :=
(.mk 13 [] (zxsq [] (zxsr [(zxsm 4 0), (zxsm 5 1), (oP 6 (.convI .u64 (T 5))), (oP 7 (.bin .shl (T 6) (.lit (.c (.pv (.int .u64
  1)))))), (zxsm 8 1), (oP 9 (.bin .shr (T 8) (.lit (.c (.pv (.int .u64 63)))))), (oP 10 (.convI .u64 (T 9))), (oP 11 (.bin .xor (T 7) (T 10))), (oW 12
  (zxsc 49 [(T 4), (T 11)]))])))
theorem xf75_ok : cmpFunc Go.Proofs.Tryd.prog 75 ((zxsh [] .no)) = some xf75 := by kernel_rfl
def xf76 : XFunc :=
(.mk 12 [] (.seq (zxsq [0, 2] (zxsr [(oW 3 (.box (T 1) 2))])) (.seq (zxsq [0, 2] (zxsr [(zxsm 4 0), (oP 5 (.faddr
  0 (T 3))), (oR 6 (.load false 1 (T 5))), (oW 7 (zxsc 75 [(T 4), (T 6)]))])) (zxsq [] (zxsr [(zxsm 8 0),
  (oP 9 (.faddr 1 (T 3))), (oR 10 (.load false 1 (T 9))), (oW 11 (zxsc 75 [(T 8), (T 10)]))])))))
theorem xf76_ok : cmpFunc Go.Proofs.Tryd.prog 76 ((.two (zxsh [0, 2] .no) (.two (zxsh [0, 2] .no) (zxsh [] .no)))) = some xf76 := by kernel_rfl
def xf77 : XFunc :=
(.mk 9 [] (.seq (zxsr [(oP 4 (.mv (.lit (.c (.pv (.int .u64 0))))))]) (.seq (.seq (zxsq [0, 3, 0] (zxsr [(zxsm 5 1)])) (zxsq [0, 3] (.cond (T 5) (zxsr [(oP 4 (.mv (.lit (.c (.pv (.int .u64 1))))))]) .skip))) (zxsq [] (zxsr [(zxsm 6 0), (zxsm 7 4), (oW 8 (zxsc 49 [(T 6), (T 7)]))])))))
theorem xf77_ok : cmpFunc Go.Proofs.Tryd.prog 77 ((.two .no (.two (.two (zxsh [0, 3, 0] .no) (zxsh [0, 3] .no)) (zxsh [] .no)))) = some xf77 := by kernel_rfl
def xf78 : XFunc :=
(.mk 68 [(.cell 2 true 21)] (.seq (zxsq [1, 0] (zxsr [(oW 1 (.box (T 0) 21)), (oW 2 (.alloc [zxsi, zxsi, (.pv
  (.str [])), zxsi, zxsi, zxsi, zxsi, zxsi, zxsi, zxsi,
  zxsd, zxsd, zxsi, zxsi, zxsd, zxsi, zxsi, (.pv (.bool
  false)), (.pv (.sl .nil 0 [])), zxss, zxss]))])) (.seq (zxsq [1, 0, 0] (zxsr [(oP 4 (.faddr 0 (T 1))), (oR 5 (.load
  false 1 (T 4))), (oP 6 (.build [zxsi, zxsi, zxss, zxsi, zxsi, zxsi, (.pv
  (.int .i64 0)), zxsi, zxsi, zxsi, zxsd, zxsd, zxsi, (.pv (.int .i64
  0)), zxsd, zxsi, zxsi, zxsf, (.pv (.sl .nil 0 [])), zxss, zxss] [(0, (1, (T
  5)))])), (oW 3 (.alloc [zxsi, zxsi, zxss, zxsi, zxsi, zxsi, (.pv (.int
  .i64 0)), zxsi, zxsi, zxsi, zxsd, zxsd, zxsi, zxsi,
  zxsd, zxsi, zxsi, zxsf, (.pv (.sl .nil 0 [])), zxss, zxss])), (sW (.store 21
  (T 3) (T 6)))])) (.seq (.seq (zxsq [1, 0, 0, 5] (zxsr [(oP 7 (.faddr 0 (T 1))), (oR 8 (.load false 1 (T 7))), (oP 9 (zxsc 74 [(T 8), (tI 1)]))])) (zxsq [1, 0, 0] (.cond (T 9) (zxsq [1, 0, 0] (zxsr [(oP 10 (.faddr 1 (T 1))), (oR 11
  (.load true 3 (T 10))), (oP 12 (.faddr 1 (T 3))), (sW (.store 3 (T 12) (T 11)))])) .skip))) (.seq (.seq (zxsq [1, 0, 0, 11] (zxsr [(oP 13
  (.faddr 0 (T 1))), (oR 14 (.load false 1 (T 13))), (oP 15 (zxsc 74 [(T 14), (tI 2)]))])) (zxsq [1, 0, 0] (.cond (T
  15) (zxsq [1, 0, 0] (zxsr [(oP 16 (.faddr 4 (T 1))), (oR 17 (.load true 8 (T 16))), (oP 18 (.faddr 4 (T 3))), (sW (.store 8 (T 18) (T
  17)))])) .skip))) (.seq (.seq (zxsq [1, 0, 0, 17] (zxsr [(oP 19 (.faddr 0 (T 1))), (oR 20 (.load false 1 (T 19))), (oP 21 (zxsc 74 [(T 20), (tI 4)]))])) (zxsq [1, 0, 0] (.cond (T 21) (zxsq [1, 0, 0] (zxsr [(oP 22 (.faddr 12 (T 1))), (oR
  23 (.load false 1 (T 22))), (oP 24 (.faddr 12 (T 3))), (sW (.store 1 (T 24) (T 23)))])) .skip))) (.seq (.seq (zxsq [1, 0, 0, 23] (zxsr [(oP
  25 (.faddr 0 (T 1))), (oR 26 (.load false 1 (T 25))), (oP 27 (zxsc 74 [(T 26), (tI 264)]))])) (zxsq [1, 0, 0] (.cond
  (T 27) (zxsq [1, 0, 0] (zxsr [(oP 28 (.faddr 13 (T 1))), (oR 29 (.load false 1 (T 28))), (oP 30 (.faddr 13 (T 3))), (sW (.store 1 (T 30) (T
  29)))])) .skip))) (.seq (.seq (zxsq [1, 0, 0, 29] (zxsr [(oP 31 (.faddr 0 (T 1))), (oR 32 (.load false 1 (T 31))), (oP 33 (zxsc 74 [(T 32), (tI 528)]))])) (zxsq [1, 0, 0] (.cond (T 33) (zxsq [1, 0, 0] (zxsr [(oP 34 (.faddr 14 (T 1))),
  (oR 35 (.load false 1 (T 34))), (oP 36 (.faddr 14 (T 3))), (sW (.store 1 (T 36) (T 35)))])) .skip))) (.seq (.seq (zxsq [1, 0, 0, 35] (.region false
  [(oP 37 (.faddr 0 (T 1))), (oR 38 (.load false 1 (T 37))), (oP 39 (zxsc 74 [(T 38), (tI 32)]))])) (zxsq [1, 0, 0]
  (.cond (T 39) (zxsq [1, 0, 0] (zxsr [(oP 40 (.faddr 19 (T 1))), (oR 41 (.load false 1 (T 40))), (oP 42 (.faddr 19 (T 3))), (sW (.store 1 (T
  42) (T 41)))])) .skip))) (.seq (.seq (zxsq [1, 0, 0, 41] (zxsr [(oP 43 (.faddr 0 (T 1))), (oR 44 (.load false 1 (T 43))), (oP 45 (zxsc 74 [(T 44), (tI 64)]))])) (zxsq [1, 0, 0] (.cond (T 45) (zxsq [1, 0, 0] (zxsr [(oP 46 (.faddr 18 (T
  1))), (oR 47 (.load false 1 (T 46))), (oP 48 (.faddr 18 (T 3))), (sW (.store 1 (T 48) (T 47)))])) .skip))) (.seq (.seq (zxsq [1, 0, 0, 47] (.region
  false [(oP 49 (.faddr 0 (T 1))), (oR 50 (.load false 1 (T 49))), (oP 51 (zxsc 74 [(T 50), (tI 128)]))])) (zxsq [1, 0, 0] (.cond (T 51) (zxsq [1, 0, 0] (zxsr [(oP 52 (.faddr 15 (T 1))), (oR 53 (.load true 2 (T 52))), (oP 54 (.faddr 15 (T 3))), (sW (.store
  2 (T 54) (T 53)))])) .skip))) (.seq (.seq (zxsq [1, 0, 0, 53] (zxsr [(oP 55 (.faddr 0 (T 1))), (oR 56 (.load false 1 (T 55))), (oP 57
  (zxsc 74 [(T 56), (tI 1024)]))])) (zxsq [1, 0, 0] (.cond (T 57) (zxsq [1, 0, 0] (zxsr [(oP 58
  (.faddr 17 (T 1))), (oR 59 (.load false 1 (T 58))), (oP 60 (.faddr 17 (T 3))), (sW (.store 1 (T 60) (T 59)))])) .skip))) (.seq (.seq (zxsq [1, 0, 0, 59] (zxsr [(oP 61 (.faddr 0 (T 1))), (oR 62 (.load false 1 (T 61))), (oP 63 (zxsc 74 [(T 62), (tI 2048)]))])) (zxsq [2, 0] (.cond (T 63) (zxsq [2, 0] (zxsr [(oP 64 (.faddr 20 (T 1))), (oR 65 (.load false 1 (T 64))), (oP 66 (.faddr 20 (T 3))),
  (sW (.store 1 (T 66) (T 65)))])) .skip))) (.seq (zxsq [2] (zxsr [(oR 67 (.load true 21 (T 3))), (sW (.store 21 (T 2) (T 67)))])) (zxsq [2] .ret)))))))))))))))
theorem xf78_ok : cmpFunc Go.Proofs.Tryd.prog 78 ((.two (zxsh [1, 0] .no) (.two (zxsh [1, 0, 0] .no) (.two (.two (zxsh [1, 0, 0, 5] (.ops [{}, {}, { cls := some .p }])) (zxsh [1, 0, 0] (.two (zxsh [1, 0, 0] .no) .no))) (.two (.two (zxsh [1, 0, 0, 11] (.ops [{}, {}, { cls := some .p }])) (zxsh [1, 0, 0] (.two (zxsh [1, 0, 0] .no) .no))) (.two (.two (zxsh [1, 0, 0, 17] (.ops [{}, {}, { cls := some .p }])) (zxsh [1, 0, 0] (.two (zxsh [1, 0, 0] .no) .no))) (.two (.two (zxsh [1, 0, 0, 23] (.ops [{}, {}, { cls := some .p }])) (zxsh [1, 0, 0] (.two (zxsh [1, 0, 0] .no) .no))) (.two (.two (zxsh [1, 0, 0, 29] (.ops [{}, {}, { cls := some .p }])) (zxsh [1, 0, 0] (.two (zxsh [1, 0, 0] .no) .no))) (.two (.two (zxsh [1, 0, 0, 35] (.ops [{}, {}, { cls := some .p }])) (zxsh [1, 0, 0] (.two (zxsh [1, 0, 0] .no) .no))) (.two (.two (zxsh [1, 0, 0, 41] (.ops [{}, {}, { cls := some .p }])) (zxsh [1, 0, 0] (.two (zxsh [1, 0, 0] .no) .no))) (.two (.two (zxsh [1, 0, 0, 47] (.ops [{}, {}, { cls := some .p }])) (zxsh [1, 0, 0] (.two (zxsh [1, 0, 0] .no) .no))) (.two (.two (zxsh [1, 0, 0, 53] (.ops [{}, {}, { cls := some .p }])) (zxsh [1, 0, 0] (.two (zxsh [1, 0, 0] .no) .no))) (.two (.two (zxsh [1, 0, 0, 59] (.ops [{}, {}, { cls := some .p }])) (zxsh [2, 0] (.two (zxsh [2, 0] .no) .no))) (.two (zxsh [2] .no) (zxsh [2] .no))))))))))))))) = some xf78 := by kernel_rfl
def xf79_l0 : XCode :=
(.seq (zxsr [(oP 9 (.bin .lss (T 8) (T 7)))]) (.seq (zxsq [3, 2, 0, 0] (.cond (T 9) .skip (zxsq [3] (.exit 0)))) (.seq (zxsq [2, 0, 2, 0, 0] (.block 1 (.seq (zxsq [3, 1, 0, 0, 0] (zxsr [(oP 10 (.iaddrS 2 (T 6) (T 8))), (oR 11 (.load true 2 (T 10))), (oW 5
  (.alloc [zxsi, zxsi])), (sW (.store 2 (T 5) (T 11)))])) (zxsq [2, 0, 2, 0, 0] (.block 2 (.seq (zxsq [3, 1, 0, 0, 0, 3] (zxsr [(oP 13 (.faddr 0 (T 5))), (oR 14 (.load false 1 (T 13))), (oP 15 (.bin .lss (T 14) (tI 0))), (zxsm 16 15), (zxsg 17 16 false (.faddr 0 (T 5))), (.mk (some 18) (.load false 1 (T 17)) (some (16, false)) .r), (zxsg 19 16 false (.bin .geq (T 18) (tI 4))), (oP 20 (.pick (T 16) (.lit (.c zxst)) (T 19))), (zxsm 12 20)])) (zxsq [2, 0, 2, 0, 0] (.cond (T 12) (.seq
  (zxsr [(oP 2 (.mv (tI 12)))]) (zxsq [2] .ret)) (.seq (zxsq [3, 2, 0, 0, 12] (zxsr [(oP 22 (.faddr 1 (T 5))), (oR 23
  (.load false 1 (T 22))), (oP 24 (.bin .lss (T 23) (.lit (.c (.pv (.int .i64 (-1000000000000000))))))), (zxsm 25 24), (zxsg 26 25 false (.faddr 1 (T 5))), (.mk (some 27) (.load false 1 (T 26)) (some (25, false)) .r), (zxsg 28 25 false (.bin .gtr (T 27) (tI 1000000000000000))), (oP 29 (.pick (T 25) (.lit (.c zxst)) (T 28))), (zxsm 21 29)])) (zxsq [3, 2, 0, 0] (.cond (T 21) (.region false
  [(oP 3 (.mv (tI 9)))]) .skip))))))))))) (zxsq [3, 2, 0, 0] (zxsr [(oP 30 (.bin .add (T 8) (tI 1))), (zxsm 8 30)])))))
def xf79 : XFunc :=
(.mk 32 [(.tmp 2)] (.seq (zxsq [0] (zxsr [(oP 2 (.mv (tI 0)))])) (.seq (zxsr [(oP 3 (.mv (tI 0)))]) (.seq (.seq (zxsq [3, 2, 0, 0] (zxsr [(zxsm 6 0), (oP 7 (.len (T 6))), (oP 8 (.mv (tI 0)))])) (zxsq [2, 0] (.block 0 (.loop (rl [3, 2, 0, 0])
  xf79_l0)))) (.seq (zxsq [2] (zxsr [(zxsm 31 3), (zxsm 2 31)])) (zxsq [2] .ret))))))
theorem xf79_ok : cmpFunc Go.Proofs.Tryd.prog 79 ((.two (zxsh [0] .no) (.two .no (.two (.two (zxsh [3, 2, 0, 0] .no) (zxsh [2, 0] (.loop (rl [3, 2, 0, 0]) (.two .no (.two (zxsh [3, 2, 0, 0] (.two .no (zxsh [3] .no))) (.two (zxsh [2, 0, 2, 0, 0] (.two (zxsh [3, 1, 0, 0, 0] .no) (zxsh [2, 0, 2, 0, 0] (.two (zxsh [3, 1, 0, 0, 0, 3] .no) (zxsh [2, 0, 2, 0, 0] (.two (.two .no (zxsh [2] .no)) (.two (zxsh [3, 2, 0, 0, 12] .no) (zxsh [3, 2, 0, 0] .no)))))))) (zxsh [3, 2, 0, 0] .no))))))) (.two (zxsh [2] .no) (zxsh [2] .no)))))) = some xf79 := by kernel_rfl
def xf80 : XFunc :=
(.mk 6 [(.tmp 2)] (.seq (zxsq [0] (zxsr [(oP 2 (.mv (.lit (.c zxsf))))])) (.seq (zxsq [2] (zxsr [(zxsm 3 0), (oW 4 (zxsc 119 [(T 3), (.lit (.c (.fn 120 [])))])), (oP 5 (.un .not (T 4))), (zxsm 2 5)])) (zxsq [2] .ret))))
theorem xf80_ok : cmpFunc Go.Proofs.Tryd.prog 80 ((.two (zxsh [0] .no) (.two (zxsh [2] .no) (zxsh [2] .no)))) = some xf80 := by kernel_rfl
def xf81_l0 : XCode :=
(.seq (.seq (zxsq [3, 0, 2] (zxsr [(zxsm 6 4), (oP 7 (.bin .gtr (T 6) (.lit (.c (.pv (.int .u64 127))))))])) (zxsq [3, 0]
  (.cond (T 7) .skip (zxsq [3, 0] (.exit 0))))) (zxsq [3, 0] (.block 1 (.seq (zxsq [3, 0] (zxsr [(zxsm 8 3), (zxsm 9 4), (oP 10 (.bin .rem (T 9) (.lit (.c (.pv (.int .u64 128)))))), (oP 11 (.bin .add (T 10) (.lit (.c (.pv (.int .u64 128)))))), (oP 12 (.convI .u8
  (T 11))), (oP 13 (.buildSl [(.pv (.int .u8 0))] 1 1 [(0, (1, (T 12)))])), (oW 14 (.app 1 1 (T 8) (T 13))), (zxsm 3 14)])) (zxsq [3, 0]
  (zxsr [(zxsm 15 4), (oP 16 (.bin .quo (T 15) (.lit (.c (.pv (.int .u64 128)))))), (zxsm 4 16)]))))))
def xf81 : XFunc :=
(.mk 22 [(.tmp 2)] (.seq (zxsq [0] (zxsr [(oP 2 (.mv (.lit (.c (.pv (.sl .nil 0 []))))))])) (.seq (zxsr [(oP 3 (.mv (.lit (.c (.pv
  (.sl .nil 0 []))))))]) (.seq (zxsq [3, 0] (zxsr [(zxsm 5 0), (zxsm 4 5)])) (.seq (zxsq [3, 0] (.block 0 (.loop
  (rl [3, 0]) xf81_l0))) (.seq (zxsq [2] (zxsr [(zxsm 17 3), (zxsm 18 4), (oP 19 (.convI .u8 (T 18))), (oP 20 (.buildSl [(.pv
  (.int .u8 0))] 1 1 [(0, (1, (T 19)))])), (oW 21 (.app 1 1 (T 17) (T 20))), (zxsm 2 21)])) (zxsq [2] .ret)))))))
theorem xf81_ok : cmpFunc Go.Proofs.Tryd.prog 81 ((.two (zxsh [0] .no) (.two .no (.two (zxsh [3, 0] .no) (.two (zxsh [3, 0] (.loop (rl [3, 0]) (.two (.two (zxsh [3, 0, 2] .no) (zxsh [3, 0] (.two .no (zxsh [3, 0] .no)))) (zxsh [3, 0] (.two (zxsh [3, 0] .no) (zxsh [3, 0] .no)))))) (.two (zxsh [2] .no) (zxsh [2] .no))))))) = some xf81 := by kernel_rfl
def xf82_l0 : XCode :=
(.seq (.seq (zxsq [0, 2, 0, 4] (zxsr [(zxsm 6 4), (zxsm 7 0), (oP 8 (.len (T 7))), (oP 9 (.bin .lss (T 6) (T 8)))])) (zxsq [0, 2, 0] (.cond (T 9) .skip (zxsq [3] (.exit 0))))) (.seq (zxsq [0, 2, 0] (.block 1 (zxsq [0, 2, 0] (zxsr [(zxsm 12 3), (zxsm 13 0), (zxsm 14 4), (oP 15 (.iaddrS 1 (T 13) (T 14))), (oR 16 (.load false 1 (T 15))), (oP 17 (zxsc 121 [(T 16)])), (oP 18 (zxsc 81 [(T 17)])), (oW 19 (.app 1 1 (T 12) (T 18))), (zxsm 3 19)])))) (zxsq [0, 2, 0] (zxsr [(zxsm 10 4), (oP 11 (.bin .add (T 10) (tI 1))), (zxsm 4 11)]))))
def xf82 : XFunc :=
(.mk 22 [(.tmp 2)] (.seq (zxsq [0] (zxsr [(oP 2 (.mv (.lit (.c zxss))))])) (.seq (zxsq [0, 2] (zxsr [(oP 5
  (.buildSl [(.pv (.int .u8 0))] 0 1 [])), (zxsm 3 5)])) (.seq (.seq (zxsr [(oP 4 (.mv (tI 0)))]) (zxsq [3] (.block 0 (.loop (rl [0,
  2, 0]) xf82_l0)))) (.seq (zxsq [2] (zxsr [(zxsm 20 3), (oP 21 (.bytesS (T 20))), (zxsm 2 21)])) (zxsq [2]
  .ret))))))
theorem xf82_ok : cmpFunc Go.Proofs.Tryd.prog 82 ((.two (zxsh [0] .no) (.two (zxsh [0, 2] .no) (.two (.two .no (zxsh [3] (.loop (rl [0, 2, 0]) (.two (.two (zxsh [0, 2, 0, 4] .no) (zxsh [0, 2, 0] (.two .no (zxsh [3] .no)))) (.two (zxsh [0, 2, 0] (zxsh [0, 2, 0] (.ops [{}, {}, {}, {}, {}, { cls := some .p }, { cls := some .p }]))) (zxsh [0, 2, 0] .no)))))) (.two (zxsh [2] .no) (zxsh [2] .no)))))) = some xf82 := by kernel_rfl
def xf83 : XFunc :=
(.mk 13 [(.tmp 2)] (.seq (zxsq [0] (zxsr [(oP 2 (.mv (.lit (.c (.pv (.sl .nil 0 []))))))])) (.seq (zxsq [0, 2] (zxsr [(zxsm 4 0), (oP 5 (.lenS (T 4))), (oP 6 (.convI .u64 (T 5))), (oP 7 (zxsc 81 [(T 6)])), (zxsm 3 7)])) (.seq (zxsq [2] (zxsr [(oP 8 (.buildSl [(.pv (.int .u8 0))] 0 1 [])), (zxsm 9 3), (oW 10 (.app 1 1 (T 8) (T 9))), (zxsm 11 0), (oW 12
  (.app 1 1 (T 10) (T 11))), (zxsm 2 12)])) (zxsq [2] .ret)))))
theorem xf83_ok : cmpFunc Go.Proofs.Tryd.prog 83 ((.two (zxsh [0] .no) (.two (zxsh [0, 2] (.ops [{}, {}, {}, { cls := some .p }])) (.two (zxsh [2] .no) (zxsh [2] .no))))) = some xf83 := by kernel_rfl
def xf84 : XFunc :=
(.mk 16 [(.tmp 2)] (.seq (zxsq [1] (zxsr [(oW 1 (.box (T 0) 2)), (oP 2 (.mv (.lit (.c (.pv (.sl .nil 0 []))))))])) (.seq (zxsq [1, 1] (zxsr [(oP 4 (.faddr 0 (T 1))), (oR 5 (.load false 1 (T 4))), (oP 6 (zxsc 121 [(T 5)])), (oP 7 (zxsc 81 [(T 6)])), (zxsm 3 7)])) (.seq (zxsq [2] (.region true [(oP 8 (.buildSl [(.pv (.int .u8 0))] 0 1 [])), (zxsm 9 3), (oP 11 (.faddr 1 (T 1))), (oR 12 (.load false 1 (T 11))), (oW 10 (.app 1 1 (T 8) (T 9))), (oP 13 (zxsc 121 [(T 12)])),
  (oP 14 (zxsc 81 [(T 13)])), (oW 15 (.app 1 1 (T 10) (T 14))), (zxsm 2 15)])) (zxsq [2] .ret)))))
theorem xf84_ok : cmpFunc Go.Proofs.Tryd.prog 84 ((.two (zxsh [1] .no) (.two (zxsh [1, 1] (.ops [{}, {}, { cls := some .p }, { cls := some .p }])) (.two (zxsh [2] (.draw [0, 1, 3, 4, 2, 5, 6, 7, 8] [{}, {}, {}, {}, {}, { cls := some .p }, { cls := some .p }])) (zxsh [2] .no))))) = some xf84 := by kernel_rfl
def xf85 : XFunc :=
(.mk 4 [(.tmp 2)] (.seq (zxsq [0] (zxsr [(oP 2 (.mv (.lit (.c zxss))))])) (.seq (.seq (zxsq [3] (zxsr [(zxsm 3 0)])) (zxsq [2] (.cond (T 3) (.seq (zxsr [(oP 2 (.mv (.lit (.c (.pv (.str [1]))))))]) (zxsq [2] .ret)) .skip))) (.seq
  (zxsr [(oP 2 (.mv (.lit (.c (.pv (.str [0]))))))]) (zxsq [2] .ret)))))
theorem xf85_ok : cmpFunc Go.Proofs.Tryd.prog 85 ((.two (zxsh [0] .no) (.two (.two (zxsh [3] .no) (zxsh [2] (.two (.two .no (zxsh [2] .no)) .no))) (.two .no (zxsh [2] .no))))) = some xf85 := by kernel_rfl
def xf86_l0 : XCode :=
(.seq (zxsr [(oP 14 (.bin .lss (T 13) (T 12)))]) (.seq (zxsq [0, 0, 10, 0] (.cond (T 14) .skip (zxsq [] (.exit 0)))) (.seq (zxsq [0, 0, 2, 7, 0] (.block 1 (.seq (zxsq [0, 0, 3, 6, 0] (zxsr [(zxsm 15 13), (zxsm 5 15)])) (.seq (zxsq [0, 0, 10, 0, 10] (.region true [(zxsm 16 0), (zxsm 17 5), (oP 18 (.iaddrS 3 (T 16) (T 17))), (oR 19 (.load true 3 (T 18))), (zxsm 20 1), (zxsm 21 5), (oP 22 (.iaddrS 3 (T 20) (T 21))), (oR 23 (.load true 3 (T 22))), (oP 24 (.eqA true [0, 0, 0] (T 19) (T 23)))])) (zxsq [0, 0, 2, 7, 0] (.cond (T 24) (.seq (zxsr [(oP 4 (.mv (.lit (.c zxsf))))]) (zxsq [4] .ret)) .skip)))))) (zxsq [0, 0, 10, 0]
  (zxsr [(oP 25 (.bin .add (T 13) (tI 1))), (zxsm 13 25)])))))
def xf86 : XFunc :=
(.mk 26 [(.tmp 4)] (.seq (zxsq [0, 0] (zxsr [(oP 4 (.mv (.lit (.c zxsf))))])) (.seq (.seq (zxsq [0, 0, 8] (.region
  false [(zxsm 6 0), (oP 7 (.len (T 6))), (zxsm 8 1), (oP 9 (.len (T 8))), (oP 10 (.bin .neq (T 7) (T 9)))])) (zxsq [0, 0, 2] (.cond
  (T 10) (.seq (zxsr [(oP 4 (.mv (.lit (.c zxsf))))]) (zxsq [4] .ret)) .skip))) (.seq (.seq (zxsq [0, 0, 10, 0]
  (zxsr [(zxsm 11 0), (oP 12 (.len (T 11))), (oP 13 (.mv (tI 0)))])) (zxsq [4] (.block 0 (.loop (rl [0, 0, 10, 0]) xf86_l0)))) (.seq
  (zxsr [(oP 4 (.mv (.lit (.c zxst))))]) (zxsq [4] .ret))))))
theorem xf86_ok : cmpFunc Go.Proofs.Tryd.prog 86 ((.two (zxsh [0, 0] .no) (.two (.two (zxsh [0, 0, 8] .no) (zxsh [0, 0, 2] (.two (.two .no (zxsh [4] .no)) .no))) (.two (.two (zxsh [0, 0, 10, 0] .no) (zxsh [4] (.loop (rl [0, 0, 10, 0]) (.two .no (.two (zxsh [0, 0, 10, 0] (.two .no (zxsh [] .no))) (.two (zxsh [0, 0, 2, 7, 0] (.two (zxsh [0, 0, 3, 6, 0] .no) (.two (zxsh [0, 0, 10, 0, 10] (.draw [0, 1, 2, 3, 4, 5, 6, 7, 8] [])) (zxsh [0, 0, 2, 7, 0] (.two (.two .no (zxsh [4] .no)) .no))))) (zxsh [0, 0, 10, 0] .no))))))) (.two .no (zxsh [4] .no)))))) = some xf86 := by kernel_rfl
def xf87 : XFunc :=
(.mk 6 [(.tmp 2)] (.seq (zxsq [0] (zxsr [(oP 2 (.mv (.lit (.c .nilp))))])) (.seq (zxsq [2] (zxsr [(zxsm 3 0), (oP
  4 (.build [zxss, zxsi] [(0, (1, (T 3)))])), (oW 5 (.box (T 4) 2)), (zxsm 2 5)])) (zxsq [2] .ret))))
theorem xf87_ok : cmpFunc Go.Proofs.Tryd.prog 87 ((.two (zxsh [0] .no) (.two (zxsh [2] .no) (zxsh [2] .no)))) = some xf87 := by kernel_rfl
def xf88 : XFunc :=
(.mk 5 [(.tmp 2)] (.seq (zxsq [0] (zxsr [(oP 2 (.mv (.lit (.c (.pv (.int .u64 0))))))])) (.seq (zxsq [2] (zxsr [(zxsm 3 0), (oW 4 (zxsc 122 [(T 3), (.lit (.c (.fn 123 [])))])), (zxsm 2 4)])) (zxsq [2] .ret))))
theorem xf88_ok : cmpFunc Go.Proofs.Tryd.prog 88 ((.two (zxsh [0] .no) (.two (zxsh [2] .no) (zxsh [2] .no)))) = some xf88 := by kernel_rfl
def xf89 : XFunc :=
(.mk 9 [(.tmp 2)] (.seq (zxsq [0] (zxsr [(oP 2 (.mv (tI 0)))])) (.seq (.seq (zxsq [0, 3] (zxsr [(zxsm 3 0), (oP 4
  (.eqN 1 false (T 3) (.lit (.c .nilp))))])) (zxsq [0, 1] (.cond (T 4) (.seq (zxsr [(oP 2 (.mv (tI 1)))]) (zxsq [2] .ret)) .skip)))
  (.seq (zxsq [2] (zxsr [(zxsm 5 0), (oP 6 (.nilc (T 5))), (oP 7 (.faddr 1 (T 6))), (oR 8 (.load false 1 (T 7))), (zxsm 2 8)])) (zxsq [2] .ret)))))
theorem xf89_ok : cmpFunc Go.Proofs.Tryd.prog 89 ((.two (zxsh [0] .no) (.two (.two (zxsh [0, 3] .no) (zxsh [0, 1] (.two (.two .no (zxsh [2] .no)) .no))) (.two (zxsh [2] .no) (zxsh [2] .no))))) = some xf89 := by kernel_rfl
def xf90 : XFunc :=
(.mk 17 [(.tmp 4)] (.seq (zxsq [0, 0] (zxsr [(oP 4 (.mv (tI 0)))])) (.seq (.seq (zxsq [0, 10] (zxsr [(zxsm 5 0),
  (oP 6 (.nilc (T 5))), (oP 7 (.faddr 1 (T 6))), (oR 8 (.load false 1 (T 7))), (zxsm 9 1), (oP 10 (zxsc 74 [(T 8), (T
  9)])), (oP 11 (.un .not (T 10)))])) (zxsq [0, 3] (.cond (T 11) (.seq (zxsr [(oP 4 (.mv (tI 0)))]) (zxsq [4] .ret)) .skip))) (.seq
  (zxsq [4] (zxsr [(zxsm 12 0), (oP 13 (.nilc (T 12))), (oP 14 (.faddr 0 (T 13))), (oR 15 (.load false 1 (T 14))), (oW 16 (zxsc 124 [(T 15)])), (zxsm 4 16)])) (zxsq [4] .ret)))))
theorem xf90_ok : cmpFunc Go.Proofs.Tryd.prog 90 ((.two (zxsh [0, 0] .no) (.two (.two (zxsh [0, 10] (.ops [{}, {}, {}, {}, {}, { cls := some .p }])) (zxsh [0, 3] (.two (.two .no (zxsh [4] .no)) .no))) (.two (zxsh [4] .no) (zxsh [4] .no))))) = some xf90 := by kernel_rfl
def xf91 : XFunc :=
(.mk 20 [(.tmp 6)] (.seq (zxsq [0, 0, 0] (zxsr [(oP 6 (.mv (.lit (.c zxss))))])) (.seq (.seq (zxsq [0, 1, 10] (.region
  false [(zxsm 7 0), (oP 8 (.nilc (T 7))), (oP 9 (.faddr 1 (T 8))), (oR 10 (.load false 1 (T 9))), (zxsm 11 1), (oP 12 (zxsc 74 [(T 10), (T 11)])), (oP 13 (.un .not (T 12)))])) (zxsq [0, 1, 3] (.cond (T 13) (.seq (zxsr [(oP 6 (.mv (.lit (.c (.pv (.str
  []))))))]) (zxsq [6] .ret)) .skip))) (.seq (zxsq [6] (zxsr [(zxsm 14 0), (oP 15 (.nilc (T 14))), (oP 16 (.faddr 0 (T
  15))), (oR 17 (.load false 1 (T 16))), (zxsm 18 2), (oW 19 (zxsc 97 [(T 17), (T 18)])), (zxsm 6 19)])) (zxsq [6] .ret)))))
theorem xf91_ok : cmpFunc Go.Proofs.Tryd.prog 91 ((.two (zxsh [0, 0, 0] .no) (.two (.two (zxsh [0, 1, 10] (.ops [{}, {}, {}, {}, {}, { cls := some .p }])) (zxsh [0, 1, 3] (.two (.two .no (zxsh [6] .no)) .no))) (.two (zxsh [6] .no) (zxsh [6] .no))))) = some xf91 := by kernel_rfl
def xf92 : XFunc :=
(.mk 18 [(.tmp 4)] (.seq (zxsq [0, 0] (zxsr [(oP 4 (.mv (.lit (.c zxsd))))])) (.seq (zxsq [0, 4] (zxsr [(zxsm 6 0), (zxsm 7 1), (oW 8 (zxsc 90 [(T 6), (T 7)])), (zxsm 5 8)])) (.seq (.seq (zxsq [0, 4, 6] (zxsr [(zxsm 9 5), (oP 10 (.buildSl [zxsi] 1 1 [(0, (1, (T 9)))])), (oP 11 (zxsc 80 [(T
  10)])), (oP 12 (.un .not (T 11)))])) (zxsq [5] (.cond (T 12) (zxsq [5] (zxsr [(zxsm 13 0), (oP 14 (.nilc (T 13))), (oP 15
  (.faddr 2 (T 14))), (sW (.store 1 (T 15) (tI 9))), (oP 5 (.mv (tI 0)))])) .skip))) (.seq (zxsq [4] (zxsr [(zxsm 16 5), (oP 17
  (.convI .i32 (T 16))), (zxsm 4 17)])) (zxsq [4] .ret))))))
theorem xf92_ok : cmpFunc Go.Proofs.Tryd.prog 92 ((.two (zxsh [0, 0] .no) (.two (zxsh [0, 4] .no) (.two (.two (zxsh [0, 4, 6] (.ops [{}, {}, { cls := some .p }])) (zxsh [5] (.two (zxsh [5] .no) .no))) (.two (zxsh [4] .no) (zxsh [4] .no)))))) = some xf92 := by kernel_rfl
def xf93 : XFunc :=
(.mk 8 [(.tmp 4)] (.seq (zxsq [0, 2] (zxsr [(oW 3 (.box (T 1) 1)), (oP 4 (.mv (tI 0)))])) (.seq (zxsq [4] (zxsr [(zxsm 5 0), (oP 6 (.mkfn 126 [(T 3)])), (oW 7 (zxsc 125 [(T 5), (T 6)])), (zxsm 4 7)])) (zxsq [4] .ret))))
theorem xf93_ok : cmpFunc Go.Proofs.Tryd.prog 93 ((.two (zxsh [0, 2] .no) (.two (zxsh [4] .no) (zxsh [4] .no)))) = some xf93 := by kernel_rfl
def xf94 : XFunc :=
(.mk 5 [(.cell 2 true 2)] (.seq (zxsr [(oW 2 (.alloc [zxsi, zxsi]))]) (.seq (zxsq [2] (zxsr [(zxsm 3 0), (oW 4 (zxsc 127 [(T 3), (.lit (.c (.fn 128 [])))])), (sW (.store 2 (T 2) (T 4)))])) (zxsq [2] .ret))))
theorem xf94_ok : cmpFunc Go.Proofs.Tryd.prog 94 ((.two .no (.two (zxsh [2] .no) (zxsh [2] .no)))) = some xf94 := by kernel_rfl
def xf95 : XFunc :=
(.mk 5 [(.tmp 2)] (.seq (zxsq [0] (zxsr [(oP 2 (.mv (.lit (.c zxsf))))])) (.seq (zxsq [2] (zxsr [(zxsm 3 0), (oW 4 (zxsc 130 [(T 3), (.lit (.c (.fn 131 [])))])), (zxsm 2 4)])) (zxsq [2] .ret))))
theorem xf95_ok : cmpFunc Go.Proofs.Tryd.prog 95 ((.two (zxsh [0] .no) (.two (zxsh [2] .no) (zxsh [2] .no)))) = some xf95 := by kernel_rfl
def xf96 : XFunc :=
(.mk 15 [(.tmp 2)] (.seq (zxsq [0] (zxsr [(oP 2 (.mv (tI 0)))])) (.seq (.seq (zxsq [0, 2] (zxsr [(zxsm 4 0), (oW 5
  (zxsc 89 [(T 4)])), (zxsm 3 5)])) (.seq (zxsq [0, 2, 3] (zxsr [(zxsm 6 3), (oP 7 (.bin .neq
  (T 6) (tI 0)))])) (zxsq [0, 1] (.cond (T 7) (.seq (zxsq [2] (zxsr [(zxsm 8 3), (zxsm 2 8)])) (zxsq [2]
  .ret)) .skip)))) (.seq (.seq (zxsq [14] (zxsr [(zxsm 9 0), (oP 10 (.nilc (T 9))), (oP 11 (.faddr 0 (T 10))), (oR 12 (.load false 1
  (T 11))), (oP 13 (.lenS (T 12))), (oP 14 (.bin .gtr (T 13) (tI 0)))])) (zxsq [2] (.cond (T 14) (.seq (zxsr [(oP 2 (.mv (tI 3)))]) (zxsq [2] .ret)) .skip))) (.seq (zxsr [(oP 2 (.mv (tI 0)))]) (zxsq [2] .ret))))))
theorem xf96_ok : cmpFunc Go.Proofs.Tryd.prog 96 ((.two (zxsh [0] .no) (.two (.two (zxsh [0, 2] .no) (.two (zxsh [0, 2, 3] .no) (zxsh [0, 1] (.two (.two (zxsh [2] .no) (zxsh [2] .no)) .no)))) (.two (.two (zxsh [14] .no) (zxsh [2] (.two (.two .no (zxsh [2] .no)) .no))) (.two .no (zxsh [2] .no)))))) = some xf96 := by kernel_rfl
def xf97 : XFunc :=
(.mk 8 [(.tmp 4)] (.seq (zxsq [0, 2] (zxsr [(oW 3 (.box (T 1) 1)), (oP 4 (.mv (.lit (.c zxss))))])) (.seq (zxsq [4]
  (zxsr [(zxsm 5 0), (oP 6 (.mkfn 133 [(T 3)])), (oW 7 (zxsc 132 [(T 5), (T 6)])), (zxsm 4 7)])) (zxsq [4] .ret))))
theorem xf97_ok : cmpFunc Go.Proofs.Tryd.prog 97 ((.two (zxsh [0, 2] .no) (.two (zxsh [4] .no) (zxsh [4] .no)))) = some xf97 := by kernel_rfl
def xf119 : XFunc :=
(.mk 9 [(.tmp 4)] (.seq (zxsq [0, 0] (zxsr [(oP 4 (.mv (.lit (.c zxsf))))])) (.seq (zxsq [4] (zxsr [(zxsm 5 0), (zxsm 6 1), (oW 7 (zxsc 143 [(T 5), (T 6)])), (oP 8 (.bin .geq (T 7) (tI 0))), (zxsm 4 8)])) (zxsq [4] .ret))))
theorem xf119_ok : cmpFunc Go.Proofs.Tryd.prog 119 ((.two (zxsh [0, 0] .no) (.two (zxsh [4] .no) (zxsh [4] .no)))) = some xf119 := by kernel_rfl
def xf120 : XFunc :=
(.mk 9 [(.tmp 2)] (.seq (zxsq [0] (zxsr [(oP 2 (.mv (.lit (.c zxsf))))])) (.seq (zxsq [2] (zxsr [(zxsm 3 0), (oP 4 (.bin .lss (T 3) (.lit (.c (.pv (.int .i64 (-2147483648))))))), (zxsm 5 4), (zxsg 6 5 false (.mv (T 0))), (zxsg 7 5 false (.bin .gtr (T 6) (tI 2147483647))), (oP 8 (.pick (T 5) (.lit (.c zxst)) (T 7))), (zxsm 2 8)])) (zxsq [2] .ret))))
theorem xf120_ok : cmpFunc Go.Proofs.Tryd.prog 120 ((.two (zxsh [0] .no) (.two (zxsh [2] .no) (zxsh [2] .no)))) = some xf120 := by kernel_rfl
def xf121 : XFunc :=
(.mk 14 [(.tmp 2)] (.seq (zxsq [0] (zxsr [(oP 2 (.mv (.lit (.c (.pv (.int .u64 0))))))])) (.seq (.seq (zxsq [0, 3] (.region false
  [(zxsm 3 0), (oP 4 (.bin .geq (T 3) (tI 0)))])) (zxsq [0, 1] (.cond (T 4) (.seq (zxsq [2] (zxsr [(zxsm 5 0), (oP
  6 (.convI .u64 (T 5))), (oP 7 (.bin .mul (.lit (.c (.pv (.int .u64 2)))) (T 6))), (zxsm 2 7)])) (zxsq [2] .ret)) .skip))) (.seq (zxsq [2] (zxsr [(zxsm 8 0), (oP 9 (.bin .add (T 8) (tI 1))), (oP 10 (.un .neg (T 9))), (oP 11 (.convI .u64 (T 10))), (oP 12 (.bin .mul
  (.lit (.c (.pv (.int .u64 2)))) (T 11))), (oP 13 (.bin .add (T 12) (.lit (.c (.pv (.int .u64 1)))))), (zxsm 2 13)])) (zxsq [2] .ret)))))
theorem xf121_ok : cmpFunc Go.Proofs.Tryd.prog 121 ((.two (zxsh [0] .no) (.two (.two (zxsh [0, 3] .no) (zxsh [0, 1] (.two (.two (zxsh [2] .no) (zxsh [2] .no)) .no))) (.two (zxsh [2] .no) (zxsh [2] .no))))) = some xf121 := by kernel_rfl
def xf122 : XFunc :=
(.mk 46 [(.tmp 4)] (.seq (zxsq [0, 0] (zxsr [(oP 4 (.mv (.lit (.c (.pv (.int .u64 0))))))])) (.seq (zxsr [(oP 5 (.mv (.lit (.c (.pv
  (.int .u64 0))))))]) (.seq (.seq (zxsq [0, 0, 3, 11] (zxsr [(zxsm 9 0), (oP 10 (.eqN 1 false (T 9) (.lit (.c .nilp)))), (zxsm 11 10), (zxsg 12 11 false (.mv (T 0))), (zxsg 13 11 false (.nilc (T 12))), (zxsg 14 11 false (.faddr 1 (T 13))), (.mk (some 15) (.load false 1 (T 14)) (some (11, false)) .r), (zxsg 16 11 false (.bin .neq (T 15) (tI 0))), (oP 17 (.pick (T
  11) (.lit (.c zxst)) (T 16)))])) (zxsq [0, 0, 2, 0] (.cond (T 17) (.seq (zxsq [4] (zxsr [(zxsm 18 5), (zxsm 4 18)])) (zxsq [4] .ret)) .skip))) (.seq (zxsq [0, 4, 0, 0, 0] (zxsr [(zxsm 20 1), (zxsm 21 0), (oP 22
  (.nilc (T 21))), (oP 23 (.faddr 0 (T 22))), (oR 24 (.load false 1 (T 23))), (oW 25 (.call false [] (T 20) [(T 24)])), (zxsm 19 25), (oP 26 (.extr 0 (T
  19))), (oP 27 (.extr 1 (T 19))), (oP 28 (.extr 2 (T 19))), (zxsm 6 26), (zxsm 7 27), (zxsm 8 28)])) (.seq (.seq (zxsq [0, 4, 0, 0, 0, 21] (zxsr [(zxsm 29 8), (oP 30 (.bin .neq (T 29) (tI 0)))])) (zxsq [0, 3, 1, 0] (.cond (T 30) (.seq (zxsq [5]
  (zxsr [(zxsm 31 0), (zxsm 32 8), (oP 33 (.nilc (T 31))), (oP 34 (.faddr 1 (T 33))), (sW (.store 1 (T 34) (T 32)))])) (.seq (zxsq [4] (zxsr [(zxsm 35 5), (zxsm 4 35)])) (zxsq [4] .ret))) .skip))) (.seq (zxsq [6] (zxsr [(zxsm 36 0), (zxsm 37 0), (oP 38 (.nilc (T 37))), (oP 39 (.faddr 0 (T 38))), (oR 40 (.load false 1 (T 39))), (zxsm 41 7), (oP 42 (.sliceS (T
  40) (some (T 41)) none)), (oP 43 (.nilc (T 36))), (oP 44 (.faddr 0 (T 43))), (sW (.store 1 (T 44) (T 42)))])) (.seq (zxsq [4] (zxsr [(zxsm 45 6), (zxsm 4 45)])) (zxsq [4] .ret)))))))))
theorem xf122_ok : cmpFunc Go.Proofs.Tryd.prog 122 ((.two (zxsh [0, 0] .no) (.two .no (.two (.two (zxsh [0, 0, 3, 11] .no) (zxsh [0, 0, 2, 0] (.two (.two (zxsh [4] .no) (zxsh [4] .no)) .no))) (.two (zxsh [0, 4, 0, 0, 0] .no) (.two (.two (zxsh [0, 4, 0, 0, 0, 21] .no) (zxsh [0, 3, 1, 0] (.two (.two (zxsh [5] .no) (.two (zxsh [4] .no) (zxsh [4] .no))) .no))) (.two (zxsh [6] .no) (.two (zxsh [4] .no) (zxsh [4] .no))))))))) = some xf122 := by kernel_rfl
def xf123_l0 : XCode :=
(.seq (zxsr [(oP 13 (.bin .lss (T 12) (T 11)))]) (.seq (zxsq [0, 4, 0, 0, 3, 0] (.cond (T 13) .skip (zxsq [5, 0, 0] (.exit 0))))
  (.seq (zxsq [0, 4, 0, 0, 3, 0] (.block 1 (.seq (zxsq [0, 4, 0, 0, 0, 2, 0] (zxsr [(zxsm 14 12), (zxsm 8 14)]))
  (.seq (zxsq [0, 4, 0, 0, 0, 0, 1, 0] (zxsr [(zxsm 15 0), (zxsm 16 8), (oP 17 (.idxS (T 15) (T 16))), (zxsm 9 17)]))
  (.seq (zxsq [0, 4, 0, 0, 0, 0, 1, 0] (.block 2 (.seq (zxsq [0, 4, 0, 0, 0, 0, 1, 0, 5] (zxsr [(zxsm 19 8), (oP 20 (.bin
  .eql (T 19) (tI 9))), (zxsm 21 20), (zxsg 22 21 true (.mv (T 9))), (zxsg 23 21 true (.bin .gtr (T 22) (.lit (.c (.pv (.int .u8 1)))))), (oP 24 (.pick (T 21) (T 23) (.lit (.c zxsf)))), (zxsm 25 24), (zxsg 26 25 false (.mv (T 8))),
  (zxsg 27 25 false (.bin .gtr (T 26) (tI 0))), (zxsg 28 25 false (.mv (T 27))), (zxsg 29 28 true (.mv (T 9))), (zxsg 30 28 true (.bin .eql (T 29) (.lit (.c (.pv (.int .u8 0)))))), (zxsg 31 25 false (.pick (T 28) (T 30) (.lit (.c (.pv (.bool
  false)))))), (oP 32 (.pick (T 25) (.lit (.c zxst)) (T 31))), (zxsm 18 32)])) (zxsq [0, 4, 0, 0, 0, 0, 1, 0] (.cond (T 18) (.seq (zxsr [(oP 7 (.mv (tI 3)))]) (zxsq [5, 0, 0] (.exit 0))) (.seq (zxsq [0, 4, 0, 0, 0, 0, 1, 0, 20]
  (zxsr [(zxsm 34 9), (oP 35 (.bin .lss (T 34) (.lit (.c (.pv (.int .u8 128)))))), (zxsm 33 35)])) (zxsq [0, 4, 0, 0, 0, 0, 1, 0] (.cond (T 33) (.seq (zxsq [5, 0, 0] (zxsr [(zxsm 36 5), (zxsm 37 9), (oP 38 (.convI .u64 (T 37))), (zxsm 39 8), (oP 40 (.bin .mul (tI 7) (T 39))), (oP 41 (.bin .shl (T 38) (T 40))), (oP 42 (.bin .or (T 36) (T 41))), (zxsm 43 8), (oP 44 (.bin .add (T 43)
  (tI 1))), (zxsm 5 42), (zxsm 6 44), (oP 7 (.mv (tI 0)))])) (zxsq [5, 0, 0] (.exit 0))) .skip)))))))) (zxsq [0, 4, 0, 0, 3, 0] (zxsr [(zxsm 45 5), (zxsm 46 9), (oP 47 (.bin .and (T 46) (.lit (.c (.pv (.int .u8 127)))))), (oP 48 (.convI .u64 (T 47))), (zxsm 49 8), (oP 50 (.bin .mul (tI 7) (T 49))), (oP 51 (.bin .shl (T 48) (T 50))), (oP 52 (.bin .or (T 45) (T 51))), (zxsm 5 52)]))))))) (zxsq [0, 4, 0, 0, 3, 0] (zxsr [(oP 53 (.bin .add (T 12) (tI 1))), (zxsm 12 53)])))))
def xf123 : XFunc :=
(.mk 57 [(.tmp 2), (.tmp 3), (.tmp 4)] (.seq (zxsq [0] (zxsr [(oP 2 (.mv (.lit (.c (.pv (.int .u64 0)))))), (oP 3 (.mv (tI 0))), (oP 4 (.mv
  (tI 0)))])) (.scope (.seq (zxsr [(oP 5 (.mv (.lit (.c (.pv (.int .u64 0)))))), (oP 6 (.mv (tI 0)))]) (.seq (zxsr [(oP 7 (.mv (tI 2)))])
  (.seq .label (.seq (.seq (zxsq [0, 4, 0, 0, 3, 0] (zxsr [(zxsm 10 0), (oP 11 (.lenS (T 10))), (oP 12 (.mv (tI 0)))])) (zxsq [5, 0, 0] (.block 0 (.loop (rl [0, 4, 0, 0, 3, 0]) xf123_l0)))) (.seq (zxsq [2, 0, 0] (zxsr [(zxsm 54 5), (zxsm 55 6),
  (zxsm 56 7), (zxsm 2 54), (zxsm 3 55), (zxsm 4 56)])) (zxsq [2, 0, 0] .ret)))))))))
theorem xf123_ok : cmpFunc Go.Proofs.Tryd.prog 123 ((.two (zxsh [0] .no) (.two .no (.two .no (.two .no (.two (.two (zxsh [0, 4, 0, 0, 3, 0] .no) (zxsh [5, 0, 0] (.loop (rl [0, 4, 0, 0, 3, 0]) (.two .no (.two (zxsh [0, 4, 0, 0, 3, 0] (.two .no (zxsh [5, 0, 0] .no))) (.two (zxsh [0, 4, 0, 0, 3, 0] (.two (zxsh [0, 4, 0, 0, 0, 2, 0] .no) (.two (zxsh [0, 4, 0, 0, 0, 0, 1, 0] .no) (.two (zxsh [0, 4, 0, 0, 0, 0, 1, 0] (.two (zxsh [0, 4, 0, 0, 0, 0, 1, 0, 5] .no) (zxsh [0, 4, 0, 0, 0, 0, 1, 0] (.two (.two .no (zxsh [5, 0, 0] .no)) (.two (zxsh [0, 4, 0, 0, 0, 0, 1, 0, 20] .no) (zxsh [0, 4, 0, 0, 0, 0, 1, 0] (.two (.two (zxsh [5, 0, 0] .no) (zxsh [5, 0, 0] .no)) .no))))))) (zxsh [0, 4, 0, 0, 3, 0] .no))))) (zxsh [0, 4, 0, 0, 3, 0] .no))))))) (.two (zxsh [2, 0, 0] .no) (zxsh [2, 0, 0] .no)))))))) = some xf123 := by kernel_rfl
def xf124 : XFunc :=
(.mk 6 [(.tmp 2)] (.seq (zxsq [0] (zxsr [(oP 2 (.mv (tI 0)))])) (.seq (zxsq [2] (zxsr [(zxsm 3 0), (oW 4 (zxsc 122 [(T 3), (.lit (.c (.fn 123 [])))])), (oP 5 (zxsc 129 [(T 4)])), (zxsm 2 5)])) (zxsq [2] .ret))))
theorem xf124_ok : cmpFunc Go.Proofs.Tryd.prog 124 ((.two (zxsh [0] .no) (.two (zxsh [2] (.ops [{}, {}, { cls := some .p }])) (zxsh [2] .no)))) = some xf124 := by kernel_rfl
def xf125 : XFunc :=
(.mk 46 [(.tmp 4)] (.seq (zxsq [0, 0] (zxsr [(oP 4 (.mv (tI 0)))])) (.seq (zxsr [(oP 5 (.mv (tI 0)))]) (.seq (.seq (zxsq [0, 0, 3, 11] (zxsr [(zxsm 9 0), (oP 10 (.eqN 1 false (T 9) (.lit (.c .nilp)))), (zxsm 11 10), (zxsg 12 11 false (.mv (T 0))), (zxsg 13 11 false (.nilc (T 12))), (zxsg 14 11 false (.faddr 1 (T 13))), (.mk (some 15) (.load false 1 (T
  14)) (some (11, false)) .r), (zxsg 16 11 false (.bin .neq (T 15) (tI 0))), (oP 17 (.pick (T 11) (.lit (.c zxst)) (T 16)))]))
  (zxsq [0, 0, 2, 0] (.cond (T 17) (.seq (zxsq [4] (zxsr [(zxsm 18 5), (zxsm 4 18)])) (zxsq [4] .ret))
  .skip))) (.seq (zxsq [0, 4, 0, 0, 0] (zxsr [(zxsm 20 1), (zxsm 21 0), (oP 22 (.nilc (T 21))), (oP 23 (.faddr 0 (T 22))),
  (oR 24 (.load false 1 (T 23))), (oW 25 (.call false [] (T 20) [(T 24)])), (zxsm 19 25), (oP 26 (.extr 0 (T 19))), (oP 27 (.extr 1 (T 19))), (oP 28
  (.extr 2 (T 19))), (zxsm 6 26), (zxsm 7 27), (zxsm 8 28)])) (.seq (.seq (zxsq [0, 4, 0, 0, 0, 21] (zxsr [(zxsm 29 8), (oP 30 (.bin .neq (T 29) (tI 0)))])) (zxsq [0, 3, 1, 0] (.cond (T 30) (.seq (zxsq [5] (zxsr [(zxsm 31 0),
  (zxsm 32 8), (oP 33 (.nilc (T 31))), (oP 34 (.faddr 1 (T 33))), (sW (.store 1 (T 34) (T 32)))])) (.seq (zxsq [4] (zxsr [(zxsm 35 5), (zxsm 4 35)])) (zxsq [4] .ret))) .skip))) (.seq (zxsq [6] (zxsr [(zxsm 36 0), (zxsm 37 0), (oP
  38 (.nilc (T 37))), (oP 39 (.faddr 0 (T 38))), (oR 40 (.load false 1 (T 39))), (zxsm 41 7), (oP 42 (.sliceS (T 40) (some (T 41)) none)), (oP 43 (.nilc
  (T 36))), (oP 44 (.faddr 0 (T 43))), (sW (.store 1 (T 44) (T 42)))])) (.seq (zxsq [4] (zxsr [(zxsm 45 6), (zxsm 4 45)]))
  (zxsq [4] .ret)))))))))
theorem xf125_ok : cmpFunc Go.Proofs.Tryd.prog 125 ((.two (zxsh [0, 0] .no) (.two .no (.two (.two (zxsh [0, 0, 3, 11] .no) (zxsh [0, 0, 2, 0] (.two (.two (zxsh [4] .no) (zxsh [4] .no)) .no))) (.two (zxsh [0, 4, 0, 0, 0] .no) (.two (.two (zxsh [0, 4, 0, 0, 0, 21] .no) (zxsh [0, 3, 1, 0] (.two (.two (zxsh [5] .no) (.two (zxsh [4] .no) (zxsh [4] .no))) .no))) (.two (zxsh [6] .no) (.two (zxsh [4] .no) (zxsh [4] .no))))))))) = some xf125 := by kernel_rfl
def xf126 : XFunc :=
(.mk 31 [(.tmp 3), (.tmp 4), (.tmp 5)] (.seq (zxsq [0, 0] (zxsr [(oP 3 (.mv (tI 0))), (oP 4 (.mv (tI 0))), (oP 5 (.mv (tI 0)))])) (.seq (zxsq [1, 4, 0, 0] (zxsr [(zxsm 10 0), (oP 11 (zxsc 123 [(T 10)])), (zxsm 9 11), (oP 12 (.extr 0
  (T 9))), (oP 13 (.extr 1 (T 9))), (oP 14 (.extr 2 (T 9))), (zxsm 6 12), (zxsm 7 13), (zxsm 8 14)])) (.seq (.seq (zxsq [6, 0, 0, 17] (zxsr [(zxsm 15 8), (oP 16 (.bin .eql (T 15) (tI 0))), (zxsm 17 16), (.mk (some 18) (.load false 1 (T 1)) (some (17,
  true)) .r), (zxsg 19 17 true (.bin .lss (T 18) (tI 0))), (zxsg 20 17 true (.mv (T 19))), (zxsg 21 20 false (.mv (T 6))), (.mk (some 22) (.load false 1 (T 1)) (some (20, false)) .r), (zxsg 23 20 false (.convI .u64 (T 22))), (zxsg 24 20 false (.bin .gtr (T 21) (T 23))), (zxsg 25 17 true (.pick (T 20) (.lit (.c zxst)) (T 24))), (oP 26 (.pick
  (T 17) (T 25) (.lit (.c zxsf))))])) (zxsq [6, 0, 0] (.cond (T 26) (zxsr [(oP 8 (.mv (tI 4)))]) .skip))) (.seq (zxsq [3, 0, 0] (zxsr [(zxsm 27 6), (oP 28 (.convI .i64 (T 27))), (zxsm 29 7), (zxsm 30 8), (zxsm 3 28), (zxsm 4 29), (zxsm 5 30)])) (zxsq [3, 0, 0] .ret))))))
theorem xf126_ok : cmpFunc Go.Proofs.Tryd.prog 126 ((.two (zxsh [0, 0] .no) (.two (zxsh [1, 4, 0, 0] (.ops [{}, { cls := some .p }])) (.two (.two (zxsh [6, 0, 0, 17] .no) (zxsh [6, 0, 0] .no)) (.two (zxsh [3, 0, 0] .no) (zxsh [3, 0, 0] .no)))))) = some xf126 := by kernel_rfl
def xf127 : XFunc :=
(.mk 46 [(.cell 4 true 2)] (.seq (zxsr [(oW 4 (.alloc [zxsi, zxsi]))]) (.seq (zxsr [(oW 5 (.alloc [(.pv (.int
  .i64 0)), zxsi]))]) (.seq (.seq (zxsq [0, 0, 2, 0, 11] (zxsr [(zxsm 9 0), (oP 10 (.eqN 1 false (T 9) (.lit (.c
  .nilp)))), (zxsm 11 10), (zxsg 12 11 false (.mv (T 0))), (zxsg 13 11 false (.nilc (T 12))), (zxsg 14 11 false (.faddr 1 (T 13))), (.mk (some 15) (.load false 1 (T 14)) (some (11, false)) .r), (zxsg 16 11 false (.bin .neq (T 15) (tI 0))), (oP 17 (.pick (T 11) (.lit (.c zxst)) (T 16)))])) (zxsq [0, 0, 2, 0] (.cond (T 17) (.seq (zxsq [4] (.region
  false [(oR 18 (.load true 2 (T 5))), (sW (.store 2 (T 4) (T 18)))])) (zxsq [4] .ret)) .skip))) (.seq (zxsq [0, 3, 0, 0, 0, 0] (.region
  false [(zxsm 20 1), (zxsm 21 0), (oP 22 (.nilc (T 21))), (oP 23 (.faddr 0 (T 22))), (oR 24 (.load false 1 (T 23))), (oW 25 (.call false [] (T
  20) [(T 24)])), (zxsm 19 25), (oP 26 (.extr 0 (T 19))), (oP 27 (.extr 1 (T 19))), (oP 28 (.extr 2 (T 19))), (oW 6 (.alloc [zxsi, (.pv
  (.int .i64 0))])), (sW (.store 2 (T 6) (T 26))), (zxsm 7 27), (zxsm 8 28)])) (.seq (.seq (zxsq [0, 3, 0, 0, 0, 0, 21] (.region false
  [(zxsm 29 8), (oP 30 (.bin .neq (T 29) (tI 0)))])) (zxsq [0, 3, 1, 0] (.cond (T 30) (.seq (zxsq [4, 0] (zxsr [(zxsm 31 0), (zxsm 32 8), (oP 33 (.nilc (T 31))), (oP 34 (.faddr 1 (T 33))), (sW (.store 1 (T 34) (T 32)))])) (.seq (zxsq [4] (.region false
  [(oR 35 (.load true 2 (T 5))), (sW (.store 2 (T 4) (T 35)))])) (zxsq [4] .ret))) .skip))) (.seq (zxsq [4, 1] (zxsr [(zxsm 36 0), (zxsm 37 0), (oP 38 (.nilc (T 37))), (oP 39 (.faddr 0 (T 38))), (oR 40 (.load false 1 (T 39))), (zxsm 41 7), (oP 42 (.sliceS (T 40)
  (some (T 41)) none)), (oP 43 (.nilc (T 36))), (oP 44 (.faddr 0 (T 43))), (sW (.store 1 (T 44) (T 42)))])) (.seq (zxsq [4] (zxsr [(oR 45
  (.load true 2 (T 6))), (sW (.store 2 (T 4) (T 45)))])) (zxsq [4] .ret)))))))))
theorem xf127_ok : cmpFunc Go.Proofs.Tryd.prog 127 ((.two .no (.two .no (.two (.two (zxsh [0, 0, 2, 0, 11] .no) (zxsh [0, 0, 2, 0] (.two (.two (zxsh [4] .no) (zxsh [4] .no)) .no))) (.two (zxsh [0, 3, 0, 0, 0, 0] .no) (.two (.two (zxsh [0, 3, 0, 0, 0, 0, 21] .no) (zxsh [0, 3, 1, 0] (.two (.two (zxsh [4, 0] .no) (.two (zxsh [4] .no) (zxsh [4] .no))) .no))) (.two (zxsh [4, 1] .no) (.two (zxsh [4] .no) (zxsh [4] .no))))))))) = some xf127 := by kernel_rfl
def xf128 : XFunc :=
(.mk 61 [(.cell 2 true 2), (.tmp 3), (.tmp 4)] (.seq (zxsq [0, 1] (zxsr [(oW 2 (.alloc [zxsi, zxsi])), (oP 3
  (.mv (tI 0))), (oP 4 (.mv (tI 0)))])) (.seq (zxsq [0, 1, 2, 0, 0] (zxsr [(zxsm 13 0), (oP 14 (zxsc 123 [(T 13)])), (zxsm 12 14), (oP 15 (.extr 0 (T 12))), (oP 16 (.extr 1 (T 12))), (oP 17 (.extr 2 (T 12))), (zxsm 5 15), (zxsm 6 16), (zxsm 7 17)])) (.seq (.seq (zxsq [0, 1, 2, 0, 0, 11] (zxsr [(zxsm 18 7), (oP 19 (.bin .neq (T 18) (tI 0)))])) (zxsq [0, 1, 0, 0, 0, 0] (.cond (T 19) (.seq (zxsq [2, 0, 0] (zxsr [(oP 20 (.build [zxsi, zxsi] [])),
  (zxsm 21 7), (sW (.store 2 (T 2) (T 20))), (oP 3 (.mv (tI 0))), (zxsm 4 21)])) (zxsq [2, 0, 0] .ret)) .skip))) (.seq (zxsq [2, 2, 0, 0, 0, 0] (zxsr [(zxsm 23 0), (zxsm 24 6), (oP 25 (.sliceS (T 23) (some (T 24)) none)), (oP 26 (zxsc 123 [(T 25)])), (zxsm 22 26), (oP 27 (.extr 0 (T 22))), (oP 28 (.extr 1 (T 22))), (oP 29 (.extr 2 (T 22))), (zxsm 8 27), (zxsm 9 28), (zxsm 7 29)])) (.seq (zxsq [2, 3, 0, 1, 0, 0] (zxsr [(zxsm 30 5), (oP 31 (zxsc 129
  [(T 30)])), (zxsm 32 8), (oP 33 (zxsc 129 [(T 32)])), (zxsm 10 31), (zxsm 11 33)])) (.seq (zxsq [2, 0, 0, 1, 2, 0, 0] (.block 0 (.seq (zxsq [2, 3, 0, 1, 0, 0, 22] (zxsr [(zxsm 35 7), (oP 36 (.bin .neq (T 35) (tI 0))), (zxsm 34 36)])) (zxsq [2, 0, 0, 1, 2, 0, 0] (.cond (T 34) (.seq (zxsq [2, 0, 0] (zxsr [(oP 37 (.build [zxsi, (.pv
  (.int .i64 0))] [])), (zxsm 38 7), (sW (.store 2 (T 2) (T 37))), (oP 3 (.mv (tI 0))), (zxsm 4 38)])) (zxsq [2, 0, 0] .ret)) (.seq
  (zxsq [2, 3, 2, 0, 0, 27] (zxsr [(zxsm 40 10), (oP 41 (.bin .lss (T 40) (tI 0))), (zxsm 42 41), (zxsg 43 42 false (.mv (T 10))), (zxsg 44 42 false (.bin .gtr (T 43) (tI 3))), (oP 45 (.pick (T 42) (.lit (.c zxst)) (T 44))), (zxsm 39 45)])) (zxsq [2, 0, 0, 1, 2, 0, 0] (.cond (T 39) (.seq (zxsq [2, 0, 0] (zxsr [(oP 46 (.build [zxsi, (.pv
  (.int .i64 0))] [])), (sW (.store 2 (T 2) (T 46))), (oP 3 (.mv (tI 0))), (oP 4 (.mv (tI 12)))])) (zxsq [2, 0, 0] .ret)) (.seq (zxsq [2, 3, 2, 0, 0, 35] (zxsr [(zxsm 48 11), (oP 49 (.bin .lss (T 48) (.lit (.c (.pv (.int .i64 (-1000000000000000))))))), (zxsm 50 49), (zxsg 51 50 false (.mv (T 11))), (zxsg 52 50 false (.bin .gtr (T 51) (tI 1000000000000000))), (oP 53 (.pick (T 50) (.lit (.c
  zxst)) (T 52))), (zxsm 47 53)])) (zxsq [2, 0, 0, 1, 2, 0, 0] (.cond (T 47) (.seq (zxsq [2, 0, 0] (zxsr [(oP
  54 (.build [zxsi, zxsi] [])), (sW (.store 2 (T 2) (T 54))), (oP 3 (.mv (tI 0))), (oP 4 (.mv (tI 9)))])) (zxsq [2, 0, 0] .ret)) .skip))))))))))) (.seq (zxsq [2, 0, 0] (zxsr [(zxsm 55 10), (zxsm 56 11), (oP 57 (.build [zxsi,
  zxsi] [(0, (1, (T 55))), (1, (1, (T 56)))])), (zxsm 58 6), (zxsm 59 9), (oP 60 (.bin .add (T 58) (T 59))), (sW (.store 2 (T 2)
  (T 57))), (zxsm 3 60), (oP 4 (.mv (tI 0)))])) (zxsq [2, 0, 0] .ret)))))))))
theorem xf128_ok : cmpFunc Go.Proofs.Tryd.prog 128 ((.two (zxsh [0, 1] .no) (.two (zxsh [0, 1, 2, 0, 0] (.ops [{}, { cls := some .p }])) (.two (.two (zxsh [0, 1, 2, 0, 0, 11] .no) (zxsh [0, 1, 0, 0, 0, 0] (.two (.two (zxsh [2, 0, 0] .no) (zxsh [2, 0, 0] .no)) .no))) (.two (zxsh [2, 2, 0, 0, 0, 0] (.ops [{}, {}, {}, { cls := some .p }])) (.two (zxsh [2, 3, 0, 1, 0, 0] (.ops [{}, { cls := some .p }, {}, { cls := some .p }])) (.two (zxsh [2, 0, 0, 1, 2, 0, 0] (.two (zxsh [2, 3, 0, 1, 0, 0, 22] .no) (zxsh [2, 0, 0, 1, 2, 0, 0] (.two (.two (zxsh [2, 0, 0] .no) (zxsh [2, 0, 0] .no)) (.two (zxsh [2, 3, 2, 0, 0, 27] .no) (zxsh [2, 0, 0, 1, 2, 0, 0] (.two (.two (zxsh [2, 0, 0] .no) (zxsh [2, 0, 0] .no)) (.two (zxsh [2, 3, 2, 0, 0, 35] .no) (zxsh [2, 0, 0, 1, 2, 0, 0] (.two (.two (zxsh [2, 0, 0] .no) (zxsh [2, 0, 0] .no)) .no)))))))))) (.two (zxsh [2, 0, 0] .no) (zxsh [2, 0, 0] .no))))))))) = some xf128 := by kernel_rfl
def xf129 : XFunc :=
(.mk 11 [(.tmp 2)] (.seq (zxsq [0] (zxsr [(oP 2 (.mv (tI 0)))])) (.seq (zxsq [2] (zxsr [(zxsm 3 0), (oP 4 (.bin
  .shr (T 3) (.lit (.c (.pv (.int .u64 1)))))), (oP 5 (.convI .i64 (T 4))), (zxsm 6 0), (oP 7 (.bin .and (T 6) (.lit (.c (.pv (.int .u64 1)))))), (oP 8
  (.convI .i64 (T 7))), (oP 9 (.un .neg (T 8))), (oP 10 (.bin .xor (T 5) (T 9))), (zxsm 2 10)])) (zxsq [2] .ret))))
theorem xf129_ok : cmpFunc Go.Proofs.Tryd.prog 129 ((.two (zxsh [0] .no) (.two (zxsh [2] .no) (zxsh [2] .no)))) = some xf129 := by kernel_rfl
def xf130 : XFunc :=
(.mk 46 [(.tmp 4)] (.seq (zxsq [0, 0] (zxsr [(oP 4 (.mv (.lit (.c zxsf))))])) (.seq (zxsr [(oP 5 (.mv (.lit (.c (.pv
  (.bool false))))))]) (.seq (.seq (zxsq [0, 0, 3, 11] (zxsr [(zxsm 9 0), (oP 10 (.eqN 1 false (T 9) (.lit (.c .nilp)))), (zxsm 11 10), (zxsg 12 11 false (.mv (T 0))), (zxsg 13 11 false (.nilc (T 12))), (zxsg 14 11 false (.faddr 1 (T 13))), (.mk (some 15) (.load false 1 (T 14)) (some (11, false)) .r), (zxsg 16 11 false (.bin .neq (T 15) (tI 0))), (oP 17 (.pick (T
  11) (.lit (.c zxst)) (T 16)))])) (zxsq [0, 0, 2, 0] (.cond (T 17) (.seq (zxsq [4] (zxsr [(zxsm 18 5), (zxsm 4 18)])) (zxsq [4] .ret)) .skip))) (.seq (zxsq [0, 4, 0, 0, 0] (zxsr [(zxsm 20 1), (zxsm 21 0), (oP 22
  (.nilc (T 21))), (oP 23 (.faddr 0 (T 22))), (oR 24 (.load false 1 (T 23))), (oW 25 (.call false [] (T 20) [(T 24)])), (zxsm 19 25), (oP 26 (.extr 0 (T
  19))), (oP 27 (.extr 1 (T 19))), (oP 28 (.extr 2 (T 19))), (zxsm 6 26), (zxsm 7 27), (zxsm 8 28)])) (.seq (.seq (zxsq [0, 4, 0, 0, 0, 21] (zxsr [(zxsm 29 8), (oP 30 (.bin .neq (T 29) (tI 0)))])) (zxsq [0, 3, 1, 0] (.cond (T 30) (.seq (zxsq [5]
  (zxsr [(zxsm 31 0), (zxsm 32 8), (oP 33 (.nilc (T 31))), (oP 34 (.faddr 1 (T 33))), (sW (.store 1 (T 34) (T 32)))])) (.seq (zxsq [4] (zxsr [(zxsm 35 5), (zxsm 4 35)])) (zxsq [4] .ret))) .skip))) (.seq (zxsq [6] (zxsr [(zxsm 36 0), (zxsm 37 0), (oP 38 (.nilc (T 37))), (oP 39 (.faddr 0 (T 38))), (oR 40 (.load false 1 (T 39))), (zxsm 41 7), (oP 42 (.sliceS (T
  40) (some (T 41)) none)), (oP 43 (.nilc (T 36))), (oP 44 (.faddr 0 (T 43))), (sW (.store 1 (T 44) (T 42)))])) (.seq (zxsq [4] (zxsr [(zxsm 45 6), (zxsm 4 45)])) (zxsq [4] .ret)))))))))
theorem xf130_ok : cmpFunc Go.Proofs.Tryd.prog 130 ((.two (zxsh [0, 0] .no) (.two .no (.two (.two (zxsh [0, 0, 3, 11] .no) (zxsh [0, 0, 2, 0] (.two (.two (zxsh [4] .no) (zxsh [4] .no)) .no))) (.two (zxsh [0, 4, 0, 0, 0] .no) (.two (.two (zxsh [0, 4, 0, 0, 0, 21] .no) (zxsh [0, 3, 1, 0] (.two (.two (zxsh [5] .no) (.two (zxsh [4] .no) (zxsh [4] .no))) .no))) (.two (zxsh [6] .no) (.two (zxsh [4] .no) (zxsh [4] .no))))))))) = some xf130 := by kernel_rfl
def xf131 : XFunc :=
(.mk 16 [(.tmp 2), (.tmp 3), (.tmp 4)] (.seq (zxsq [0] (zxsr [(oP 2 (.mv (.lit (.c zxsf)))), (oP 3 (.mv (tI 0))), (oP 4 (.mv
  (tI 0)))])) (.seq (zxsq [0, 1, 0, 0] (.block 0 (.seq (zxsq [0, 4] (zxsr [(zxsm 6 0), (oP 7 (.lenS (T 6))), (oP 8 (.bin
  .eql (T 7) (tI 0))), (zxsm 5 8)])) (zxsq [0, 1, 0, 0] (.cond (T 5) (.seq (zxsr [(oP 2 (.mv (.lit (.c zxsf)))), (oP 3
  (.mv (tI 0))), (oP 4 (.mv (tI 2)))]) (zxsq [2, 0, 0] .ret)) (.seq (zxsq [0, 8] (zxsr [(zxsm 10 0), (oP 11 (.idxS (T 10)
  (tI 0))), (oP 12 (.bin .gtr (T 11) (.lit (.c (.pv (.int .u8 1)))))), (zxsm 9 12)])) (zxsq [0, 1, 0, 0] (.cond (T 9) (.seq (.region false
  [(oP 2 (.mv (.lit (.c zxsf)))), (oP 3 (.mv (tI 0))), (oP 4 (.mv (tI 3)))]) (zxsq [2, 0, 0] .ret)) .skip)))))))) (.seq (zxsq [2, 0, 0] (zxsr [(zxsm 13 0), (oP 14 (.idxS (T 13) (tI 0))), (oP 15 (.bin .eql (T 14) (.lit (.c (.pv (.int .u8 1)))))), (zxsm 2 15),
  (oP 3 (.mv (tI 1))), (oP 4 (.mv (tI 0)))])) (zxsq [2, 0, 0] .ret)))))
theorem xf131_ok : cmpFunc Go.Proofs.Tryd.prog 131 ((.two (zxsh [0] .no) (.two (zxsh [0, 1, 0, 0] (.two (zxsh [0, 4] .no) (zxsh [0, 1, 0, 0] (.two (.two .no (zxsh [2, 0, 0] .no)) (.two (zxsh [0, 8] .no) (zxsh [0, 1, 0, 0] (.two (.two .no (zxsh [2, 0, 0] .no)) .no))))))) (.two (zxsh [2, 0, 0] .no) (zxsh [2, 0, 0] .no))))) = some xf131 := by kernel_rfl
def xf132 : XFunc :=
(.mk 46 [(.tmp 4)] (.seq (zxsq [0, 0] (zxsr [(oP 4 (.mv (.lit (.c zxss))))])) (.seq (zxsr [(oP 5 (.mv (.lit (.c (.pv
  (.str []))))))]) (.seq (.seq (zxsq [0, 0, 3, 11] (zxsr [(zxsm 9 0), (oP 10 (.eqN 1 false (T 9) (.lit (.c .nilp)))), (zxsm 11 10), (zxsg 12 11 false (.mv (T 0))), (zxsg 13 11 false (.nilc (T 12))), (zxsg 14 11 false (.faddr 1 (T 13))), (.mk (some 15) (.load false 1 (T 14)) (some (11, false)) .r), (zxsg 16 11 false (.bin .neq (T 15) (tI 0))), (oP 17 (.pick (T
  11) (.lit (.c zxst)) (T 16)))])) (zxsq [0, 0, 2, 0] (.cond (T 17) (.seq (zxsq [4] (zxsr [(zxsm 18 5), (zxsm 4 18)])) (zxsq [4] .ret)) .skip))) (.seq (zxsq [0, 4, 0, 0, 0] (zxsr [(zxsm 20 1), (zxsm 21 0), (oP 22
  (.nilc (T 21))), (oP 23 (.faddr 0 (T 22))), (oR 24 (.load false 1 (T 23))), (oW 25 (.call false [] (T 20) [(T 24)])), (zxsm 19 25), (oP 26 (.extr 0 (T
  19))), (oP 27 (.extr 1 (T 19))), (oP 28 (.extr 2 (T 19))), (zxsm 6 26), (zxsm 7 27), (zxsm 8 28)])) (.seq (.seq (zxsq [0, 4, 0, 0, 0, 21] (zxsr [(zxsm 29 8), (oP 30 (.bin .neq (T 29) (tI 0)))])) (zxsq [0, 3, 1, 0] (.cond (T 30) (.seq (zxsq [5]
  (zxsr [(zxsm 31 0), (zxsm 32 8), (oP 33 (.nilc (T 31))), (oP 34 (.faddr 1 (T 33))), (sW (.store 1 (T 34) (T 32)))])) (.seq (zxsq [4] (zxsr [(zxsm 35 5), (zxsm 4 35)])) (zxsq [4] .ret))) .skip))) (.seq (zxsq [6] (zxsr [(zxsm 36 0), (zxsm 37 0), (oP 38 (.nilc (T 37))), (oP 39 (.faddr 0 (T 38))), (oR 40 (.load false 1 (T 39))), (zxsm 41 7), (oP 42 (.sliceS (T
  40) (some (T 41)) none)), (oP 43 (.nilc (T 36))), (oP 44 (.faddr 0 (T 43))), (sW (.store 1 (T 44) (T 42)))])) (.seq (zxsq [4] (zxsr [(zxsm 45 6), (zxsm 4 45)])) (zxsq [4] .ret)))))))))
theorem xf132_ok : cmpFunc Go.Proofs.Tryd.prog 132 ((.two (zxsh [0, 0] .no) (.two .no (.two (.two (zxsh [0, 0, 3, 11] .no) (zxsh [0, 0, 2, 0] (.two (.two (zxsh [4] .no) (zxsh [4] .no)) .no))) (.two (zxsh [0, 4, 0, 0, 0] .no) (.two (.two (zxsh [0, 4, 0, 0, 0, 21] .no) (zxsh [0, 3, 1, 0] (.two (.two (zxsh [5] .no) (.two (zxsh [4] .no) (zxsh [4] .no))) .no))) (.two (zxsh [6] .no) (.two (zxsh [4] .no) (zxsh [4] .no))))))))) = some xf132 := by kernel_rfl
def xf133 : XFunc :=
(.mk 47 [(.tmp 3), (.tmp 4), (.tmp 5)] (.seq (zxsq [0, 0] (zxsr [(oP 3 (.mv (.lit (.c zxss)))), (oP 4 (.mv (tI 0))), (oP 5 (.mv
  (tI 0)))])) (.seq (zxsq [0, 0, 4, 0, 0] (zxsr [(zxsm 10 0), (oP 11 (zxsc 123 [(T 10)])), (zxsm 9 11), (oP 12 (.extr 0 (T 9))), (oP 13 (.extr 1 (T 9))), (oP 14 (.extr 2 (T 9))), (zxsm 6 12), (zxsm 7 13), (zxsm 8 14)])) (.seq
  (zxsq [0, 2, 0, 0, 0, 0] (.block 0 (.seq (zxsq [0, 0, 4, 0, 0, 6] (zxsr [(zxsm 16 8), (oP 17 (.bin .neq (T 16) (tI 0))),
  (zxsm 15 17)])) (zxsq [0, 2, 0, 0, 0, 0] (.cond (T 15) (.seq (zxsq [3, 0, 0] (zxsr [(zxsm 18 8), (oP 3 (.mv (.lit
  (.c zxss)))), (oP 4 (.mv (tI 0))), (zxsm 5 18)])) (zxsq [3, 0, 0] .ret)) (.seq (zxsq [0, 5, 0, 11] (zxsr [(oR
  20 (.load false 1 (T 1))), (oP 21 (.bin .lss (T 20) (tI 0))), (zxsm 22 21), (zxsg 23 22 false (.mv (T 6))), (.mk (some 24) (.load
  false 1 (T 1)) (some (22, false)) .r), (zxsg 25 22 false (.convI .u64 (T 24))), (zxsg 26 22 false (.bin .gtr (T 23) (T 25))), (oP 27 (.pick (T 22) (.lit (.c zxst)) (T 26))), (zxsm 19 27)])) (zxsq [0, 2, 0, 0, 0, 0] (.cond (T 19) (.seq (.region
  false [(oP 3 (.mv (.lit (.c zxss)))), (oP 4 (.mv (tI 0))), (oP 5 (.mv (tI 4)))]) (zxsq [3, 0, 0] .ret)) (.seq (zxsq [0, 5, 0, 20] (zxsr [(zxsm 29 6), (zxsm 30 0), (oP 31 (.lenS (T 30))), (zxsm 32 7), (oP 33 (.bin .sub (T 31) (T 32))), (oP 34 (.convI
  .u64 (T 33))), (oP 35 (.bin .gtr (T 29) (T 34))), (zxsm 28 35)])) (zxsq [0, 2, 0, 0, 0, 0] (.cond (T 28) (.seq (zxsr [(oP 3 (.mv
  (.lit (.c zxss)))), (oP 4 (.mv (tI 0))), (oP 5 (.mv (tI 2)))]) (zxsq [3, 0, 0] .ret)) .skip))))))))))) (.seq (zxsq [3, 0, 0]
  (zxsr [(zxsm 36 0), (zxsm 37 7), (zxsm 38 7), (zxsm 39 6), (oP 40 (.convI .i64 (T 39))), (oP 41 (.bin .add (T 38) (T
  40))), (oP 42 (.sliceS (T 36) (some (T 37)) (some (T 41)))), (zxsm 43 7), (zxsm 44 6), (oP 45 (.convI .i64 (T 44))), (oP 46 (.bin .add (T 43)
  (T 45))), (zxsm 3 42), (zxsm 4 46), (oP 5 (.mv (tI 0)))])) (zxsq [3, 0, 0] .ret))))))
theorem xf133_ok : cmpFunc Go.Proofs.Tryd.prog 133 ((.two (zxsh [0, 0] .no) (.two (zxsh [0, 0, 4, 0, 0] (.ops [{}, { cls := some .p }])) (.two (zxsh [0, 2, 0, 0, 0, 0] (.two (zxsh [0, 0, 4, 0, 0, 6] .no) (zxsh [0, 2, 0, 0, 0, 0] (.two (.two (zxsh [3, 0, 0] .no) (zxsh [3, 0, 0] .no)) (.two (zxsh [0, 5, 0, 11] .no) (zxsh [0, 2, 0, 0, 0, 0] (.two (.two .no (zxsh [3, 0, 0] .no)) (.two (zxsh [0, 5, 0, 20] .no) (zxsh [0, 2, 0, 0, 0, 0] (.two (.two .no (zxsh [3, 0, 0] .no)) .no)))))))))) (.two (zxsh [3, 0, 0] .no) (zxsh [3, 0, 0] .no)))))) = some xf133 := by kernel_rfl
def xf143_l0 : XCode :=
(.seq (zxsr [(oP 9 (.bin .lss (T 8) (T 7)))]) (.seq (zxsq [0, 0, 5, 0] (.cond (T 9) .skip (zxsq [] (.exit 0)))) (.seq (zxsq [0, 0, 2, 2, 0] (.block 1 (.seq (zxsq [0, 0, 3, 1, 0] (zxsr [(zxsm 10 8), (zxsm 5 10)])) (.seq (zxsq [0, 0, 3, 1, 0, 7] (zxsr [(zxsm 11 1), (zxsm 12 0), (zxsm 13 5), (oP 14 (.iaddrS 1 (T 12) (T 13))), (oR 15 (.load false 1 (T 14))), (oW 16
  (.call false [] (T 11) [(T 15)]))])) (zxsq [0, 0, 2, 2, 0] (.cond (T 16) (.seq (zxsq [4] (zxsr [(zxsm 17 5), (zxsm 4 17)])) (zxsq [4] .ret)) .skip)))))) (zxsq [0, 0, 5, 0] (zxsr [(oP 18 (.bin .add (T 8) (tI 1))), (zxsm 8 18)])))))
def xf143 : XFunc :=
(.mk 19 [(.tmp 4)] (.seq (zxsq [0, 0] (zxsr [(oP 4 (.mv (tI 0)))])) (.seq (.seq (zxsq [0, 0, 5, 0] (zxsr [(zxsm 6 0), (oP 7 (.len (T 6))), (oP 8 (.mv (tI 0)))])) (zxsq [4] (.block 0 (.loop (rl [0, 0, 5, 0]) xf143_l0)))) (.seq (zxsr [(oP 4 (.mv (.lit
  (.c (.pv (.int .i64 (-1)))))))]) (zxsq [4] .ret)))))
theorem xf143_ok : cmpFunc Go.Proofs.Tryd.prog 143 ((.two (zxsh [0, 0] .no) (.two (.two (zxsh [0, 0, 5, 0] .no) (zxsh [4] (.loop (rl [0, 0, 5, 0]) (.two .no (.two (zxsh [0, 0, 5, 0] (.two .no (zxsh [] .no))) (.two (zxsh [0, 0, 2, 2, 0] (.two (zxsh [0, 0, 3, 1, 0] .no) (.two (zxsh [0, 0, 3, 1, 0, 7] .no) (zxsh [0, 0, 2, 2, 0] (.two (.two (zxsh [4] .no) (zxsh [4] .no)) .no))))) (zxsh [0, 0, 5, 0] .no))))))) (.two .no (zxsh [4] .no))))) = some xf143 := by kernel_rfl
def X : Nat → Option XFunc
  | 8 => some xf8
  | 35 => some xf35
  | 36 => some xf36
  | 37 => some xf37
  | 38 => some xf38
  | 39 => some xf39
  | 40 => some xf40
  | 41 => some xf41
  | 42 => some xf42
  | 43 => some xf43
  | 45 => some xf45
  | 46 => some xf46
  | 48 => some xf48
  | 49 => some xf49
  | 50 => some xf50
  | 51 => some xf51
  | 71 => some xf71
  | 72 => some xf72
  | 73 => some xf73
  | 74 => some xf74
  | 75 => some xf75
  | 76 => some xf76
  | 77 => some xf77
  | 78 => some xf78
  | 79 => some xf79
  | 80 => some xf80
  | 81 => some xf81
  | 82 => some xf82
  | 83 => some xf83
  | 84 => some xf84
  | 85 => some xf85
  | 86 => some xf86
  | 87 => some xf87
  | 88 => some xf88
  | 89 => some xf89
  | 90 => some xf90
  | 91 => some xf91
  | 92 => some xf92
  | 93 => some xf93
  | 94 => some xf94
  | 95 => some xf95
  | 96 => some xf96
  | 97 => some xf97
  | 119 => some xf119
  | 120 => some xf120
  | 121 => some xf121
  | 122 => some xf122
  | 123 => some xf123
  | 124 => some xf124
  | 125 => some xf125
  | 126 => some xf126
  | 127 => some xf127
  | 128 => some xf128
  | 129 => some xf129
  | 130 => some xf130
  | 131 => some xf131
  | 132 => some xf132
  | 133 => some xf133
  | 143 => some xf143
  | _ => none
def E0 : Oracle := fun _ _ _ => none
theorem X_ok : ∀ f x, X f = some x → ∃ h, cmpFunc Go.Proofs.Tryd.prog f h = some x := by
  intro f x h
  unfold X at h
  split at h <;> cases h
  · exact ⟨_, xf8_ok⟩
  · exact ⟨_, xf35_ok⟩
  · exact ⟨_, xf36_ok⟩
  · exact ⟨_, xf37_ok⟩
  · exact ⟨_, xf38_ok⟩
  · exact ⟨_, xf39_ok⟩
  · exact ⟨_, xf40_ok⟩
  · exact ⟨_, xf41_ok⟩
  · exact ⟨_, xf42_ok⟩
  · exact ⟨_, xf43_ok⟩
  · exact ⟨_, xf45_ok⟩
  · exact ⟨_, xf46_ok⟩
  · exact ⟨_, xf48_ok⟩
  · exact ⟨_, xf49_ok⟩
  · exact ⟨_, xf50_ok⟩
  · exact ⟨_, xf51_ok⟩
  · exact ⟨_, xf71_ok⟩
  · exact ⟨_, xf72_ok⟩
  · exact ⟨_, xf73_ok⟩
  · exact ⟨_, xf74_ok⟩
  · exact ⟨_, xf75_ok⟩
  · exact ⟨_, xf76_ok⟩
  · exact ⟨_, xf77_ok⟩
  · exact ⟨_, xf78_ok⟩
  · exact ⟨_, xf79_ok⟩
  · exact ⟨_, xf80_ok⟩
  · exact ⟨_, xf81_ok⟩
  · exact ⟨_, xf82_ok⟩
  · exact ⟨_, xf83_ok⟩
  · exact ⟨_, xf84_ok⟩
  · exact ⟨_, xf85_ok⟩
  · exact ⟨_, xf86_ok⟩
  · exact ⟨_, xf87_ok⟩
  · exact ⟨_, xf88_ok⟩
  · exact ⟨_, xf89_ok⟩
  · exact ⟨_, xf90_ok⟩
  · exact ⟨_, xf91_ok⟩
  · exact ⟨_, xf92_ok⟩
  · exact ⟨_, xf93_ok⟩
  · exact ⟨_, xf94_ok⟩
  · exact ⟨_, xf95_ok⟩
  · exact ⟨_, xf96_ok⟩
  · exact ⟨_, xf97_ok⟩
  · exact ⟨_, xf119_ok⟩
  · exact ⟨_, xf120_ok⟩
  · exact ⟨_, xf121_ok⟩
  · exact ⟨_, xf122_ok⟩
  · exact ⟨_, xf123_ok⟩
  · exact ⟨_, xf124_ok⟩
  · exact ⟨_, xf125_ok⟩
  · exact ⟨_, xf126_ok⟩
  · exact ⟨_, xf127_ok⟩
  · exact ⟨_, xf128_ok⟩
  · exact ⟨_, xf129_ok⟩
  · exact ⟨_, xf130_ok⟩
  · exact ⟨_, xf131_ok⟩
  · exact ⟨_, xf132_ok⟩
  · exact ⟨_, xf133_ok⟩
  · exact ⟨_, xf143_ok⟩
theorem ok : OkOr Go.Proofs.Tryd.prog (ev X E0) := ev_ok X_ok (fun _ _ _ _ _ h => by cases h) (by kernel_rfl)
end Go.Sx.Tryd
