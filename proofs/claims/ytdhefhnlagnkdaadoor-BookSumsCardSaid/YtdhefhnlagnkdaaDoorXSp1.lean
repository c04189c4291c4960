/- Functions of the program in the evaluator's form, each checked by the kernel. Printed by genx.py. -/
import Derived.Test.YtdhefhnlagnkdaaDoorSxLem
import Derived.Test.YtdhefhnlagnkdaaDoorProg
import Derived.KernelRfl
namespace Go.Sx.Tryd
open Go Go.Sx
def xf4_l0 : XCode :=
(.seq (.seq (.tr (rl [0, 0, 0, 0, 5, 0, 0, 0, 16]) false (.region false [(.mk (some 28) (.mv (.tmp 12)) none .p), (.mk (some 29) (.bin .geq (.tmp 28) (.lit (.c
  (.pv (.int .i64 0))))) none .p)])) (.tr (rl [0, 0, 0, 0, 5, 0, 0, 0]) false (.cond (.tmp 29) .skip (.tr (rl [0, 0, 0, 0, 5, 0, 0]) false (.exit 0))))) (.seq
  (.tr (rl [0, 0, 0, 0, 5, 0, 0, 0]) false (.block 1 (.seq (.tr (rl [0, 0, 0, 0, 5, 0, 0, 0, 24]) false (.region false [(.mk (some 32) (.mv (.tmp 0)) none .p),
  (.mk (some 33) (.mv (.tmp 12)) none .p), (.mk (some 34) (.iaddrS 7 (.tmp 32) (.tmp 33)) none .p), (.mk (some 35) (.load true 7 (.tmp 34)) none .r), (.mk (some
  36) (.call false [] (.lit (.c (.fn 34 []))) [(.tmp 35)]) none .p), (.mk (some 37) (.bin .neq (.tmp 36) (.lit (.c (.pv (.int .i64 0))))) none .p)])) (.tr (rl
  [0, 0, 0, 0, 5, 0, 0, 0]) false (.cond (.tmp 37) (.tr (rl [0, 0, 0, 0, 5, 0, 0, 0]) false (.region false [(.mk (some 38) (.mv (.tmp 0)) none .p), (.mk (some
  39) (.mv (.tmp 12)) none .p), (.mk (some 40) (.iaddrS 7 (.tmp 38) (.tmp 39)) none .p), (.mk (some 41) (.load true 7 (.tmp 40)) none .r), (.mk (some 42) (.call
  false [] (.lit (.c (.fn 34 []))) [(.tmp 41)]) none .p), (.mk (some 11) (.mv (.tmp 42)) none .p)])) .skip))))) (.tr (rl [0, 0, 0, 0, 5, 0, 0, 0]) false
  (.region false [(.mk (some 30) (.mv (.tmp 12)) none .p), (.mk (some 31) (.bin .sub (.tmp 30) (.lit (.c (.pv (.int .i64 1))))) none .p), (.mk (some 12) (.mv
  (.tmp 31)) none .p)]))))
def xf4 : XFunc :=
(.mk 79 [(.tmp 8)] (.seq (.tr (rl [0, 0, 0, 0]) false (.region false [(.mk (some 8) (.mv (.lit (.c (.pv (.bool false))))) none .p)])) (.seq (.seq (.tr (rl [0,
  0, 0, 0, 11]) false (.region false [(.mk (some 13) (.mv (.tmp 0)) none .p), (.mk (some 14) (.call false [] (.lit (.c (.fn 15 []))) [(.tmp 13)]) none .p), (.mk
  (some 15) (.un .not (.tmp 14)) none .p)])) (.tr (rl [0, 0, 0, 0, 4]) false (.cond (.tmp 15) (.seq (.tr (rl [8]) false (.region false [(.mk (some 16) (.call
  false [] (.lit (.c (.fn 17 []))) []) none .p), (.mk (some 8) (.mv (.tmp 16)) none .p)])) (.tr (rl [8]) false .ret)) .skip))) (.seq (.tr (rl [0, 0, 0, 0, 5,
  0]) false (.region false [(.mk (some 18) (.mv (.tmp 0)) none .p), (.mk (some 19) (.mv (.tmp 1)) none .p), (.mk (some 20) (.mv (.tmp 2)) none .p), (.mk (some
  21) (.mv (.tmp 3)) none .p), (.mk (some 22) (.call false [] (.lit (.c (.fn 33 []))) [(.tmp 18), (.tmp 19), (.tmp 20), (.tmp 21)]) none .p), (.mk (some 17)
  (.mv (.tmp 22)) none .p), (.mk (some 23) (.extr 0 (.tmp 17)) none .p), (.mk (some 24) (.extr 1 (.tmp 17)) none .p), (.mk (some 9) (.mv (.tmp 23)) none .p),
  (.mk (some 10) (.mv (.tmp 24)) none .p)])) (.seq (.region false [(.mk (some 11) (.mv (.lit (.c (.pv (.int .i64 0))))) none .p)]) (.seq (.seq (.tr (rl [0, 0,
  0, 0, 5, 0, 0, 0]) false (.region false [(.mk (some 25) (.mv (.tmp 0)) none .p), (.mk (some 26) (.len (.tmp 25)) none .p), (.mk (some 27) (.bin .sub (.tmp 26)
  (.lit (.c (.pv (.int .i64 1))))) none .p), (.mk (some 12) (.mv (.tmp 27)) none .p)])) (.tr (rl [0, 0, 0, 0, 5, 0, 0]) false (.block 0 (.loop (rl [0, 0, 0, 0,
  5, 0, 0, 0]) xf4_l0)))) (.seq (.seq (.tr (rl [0, 0, 0, 0, 5, 0, 0, 40]) false (.region false [(.mk (some 43) (.mv (.tmp 11)) none .p), (.mk (some 44) (.bin
  .eql (.tmp 43) (.lit (.c (.pv (.int .i64 0))))) none .p), (.mk (some 45) (.mv (.tmp 44)) none .p), (.mk (some 46) (.mv (.tmp 2)) (some (45, true)) .p), (.mk
  (some 47) (.bin .lss (.tmp 46) (.lit (.c (.pv (.int .i64 0))))) (some (45, true)) .p), (.mk (some 48) (.mv (.tmp 47)) (some (45, true)) .p), (.mk (some 49)
  (.mv (.tmp 2)) (some (48, false)) .p), (.mk (some 50) (.bin .gtr (.tmp 49) (.lit (.c (.pv (.int .i64 3))))) (some (48, false)) .p), (.mk (some 51) (.pick
  (.tmp 48) (.lit (.c (.pv (.bool true)))) (.tmp 50)) (some (45, true)) .p), (.mk (some 52) (.pick (.tmp 45) (.tmp 51) (.lit (.c (.pv (.bool false))))) none
  .p)])) (.tr (rl [0, 0, 0, 0, 5, 0, 0]) false (.cond (.tmp 52) (.region false [(.mk (some 11) (.mv (.lit (.c (.pv (.int .i64 12))))) none .p)]) .skip))) (.seq
  (.seq (.tr (rl [0, 0, 0, 0, 5, 0, 0, 42]) false (.region false [(.mk (some 53) (.mv (.tmp 11)) none .p), (.mk (some 54) (.bin .neq (.tmp 53) (.lit (.c (.pv
  (.int .i64 0))))) none .p)])) (.tr (rl [0, 0, 0, 0, 4, 0, 0]) false (.cond (.tmp 54) (.seq (.tr (rl [8]) false (.region false [(.mk (some 55) (.call false []
  (.lit (.c (.fn 17 []))) []) none .p), (.mk (some 56) (.mv (.tmp 55)) none .p), (.mk (some 57) (.mv (.tmp 10)) (some (56, true)) .p), (.mk (some 58) (.mv (.tmp
  11)) (some (56, true)) .p), (.mk (some 59) (.bin .eql (.tmp 57) (.tmp 58)) (some (56, true)) .p), (.mk (some 60) (.pick (.tmp 56) (.tmp 59) (.lit (.c (.pv
  (.bool false))))) none .p), (.mk (some 61) (.mv (.tmp 60)) none .p), (.mk (some 62) (.mv (.tmp 9)) (some (61, true)) .p), (.mk (some 63) (.bin .eql (.tmp 62)
  (.lit (.c (.pv (.int .i64 0))))) (some (61, true)) .p), (.mk (some 64) (.pick (.tmp 61) (.tmp 63) (.lit (.c (.pv (.bool false))))) none .p), (.mk (some 8)
  (.mv (.tmp 64)) none .p)])) (.tr (rl [8]) false .ret)) .skip))) (.seq (.tr (rl [8]) false (.region false [(.mk (some 65) (.call false [] (.lit (.c (.fn 17
  []))) []) none .p), (.mk (some 66) (.mv (.tmp 65)) none .p), (.mk (some 67) (.mv (.tmp 10)) (some (66, true)) .p), (.mk (some 68) (.bin .eql (.tmp 67) (.lit
  (.c (.pv (.int .i64 0))))) (some (66, true)) .p), (.mk (some 69) (.pick (.tmp 66) (.tmp 68) (.lit (.c (.pv (.bool false))))) none .p), (.mk (some 70) (.mv
  (.tmp 69)) none .p), (.mk (some 71) (.mv (.tmp 9)) (some (70, true)) .p), (.mk (some 72) (.mv (.tmp 0)) (some (70, true)) .p), (.mk (some 73) (.mv (.tmp 1))
  (some (70, true)) .p), (.mk (some 74) (.mv (.tmp 2)) (some (70, true)) .p), (.mk (some 75) (.mv (.tmp 3)) (some (70, true)) .p), (.mk (some 76) (.call false
  [] (.lit (.c (.fn 35 []))) [(.tmp 72), (.tmp 73), (.tmp 74), (.tmp 75)]) (some (70, true)) .p), (.mk (some 77) (.bin .eql (.tmp 71) (.tmp 76)) (some (70,
  true)) .p), (.mk (some 78) (.pick (.tmp 70) (.tmp 77) (.lit (.c (.pv (.bool false))))) none .p), (.mk (some 8) (.mv (.tmp 78)) none .p)])) (.tr (rl [8]) false
  .ret))))))))))
theorem xf4_ok : cmpFunc Go.Proofs.Tryd.prog 4 ((.two (.tr (rl [0, 0, 0, 0]) false .no) (.two (.two (.tr (rl [0, 0, 0, 0, 11]) false (.ops [{}, { cls := some .p }])) (.tr (rl [0, 0, 0, 0, 4]) false (.two (.two (.tr (rl [8]) false (.ops [{ cls := some .p }])) (.tr (rl [8]) false .no)) .no))) (.two (.tr (rl [0, 0, 0, 0, 5, 0]) false (.ops [{}, {}, {}, {}, { cls := some .p }])) (.two .no (.two (.two (.tr (rl [0, 0, 0, 0, 5, 0, 0, 0]) false .no) (.tr (rl [0, 0, 0, 0, 5, 0, 0]) false (.loop (rl [0, 0, 0, 0, 5, 0, 0, 0]) (.two (.two (.tr (rl [0, 0, 0, 0, 5, 0, 0, 0, 16]) false .no) (.tr (rl [0, 0, 0, 0, 5, 0, 0, 0]) false (.two .no (.tr (rl [0, 0, 0, 0, 5, 0, 0]) false .no)))) (.two (.tr (rl [0, 0, 0, 0, 5, 0, 0, 0]) false (.two (.tr (rl [0, 0, 0, 0, 5, 0, 0, 0, 24]) false (.ops [{}, {}, {}, {}, { cls := some .p }])) (.tr (rl [0, 0, 0, 0, 5, 0, 0, 0]) false (.two (.tr (rl [0, 0, 0, 0, 5, 0, 0, 0]) false (.ops [{}, {}, {}, {}, { cls := some .p }])) .no)))) (.tr (rl [0, 0, 0, 0, 5, 0, 0, 0]) false .no)))))) (.two (.two (.tr (rl [0, 0, 0, 0, 5, 0, 0, 40]) false .no) (.tr (rl [0, 0, 0, 0, 5, 0, 0]) false .no)) (.two (.two (.tr (rl [0, 0, 0, 0, 5, 0, 0, 42]) false .no) (.tr (rl [0, 0, 0, 0, 4, 0, 0]) false (.two (.two (.tr (rl [8]) false (.ops [{ cls := some .p }])) (.tr (rl [8]) false .no)) .no))) (.two (.tr (rl [8]) false (.ops [{ cls := some .p }, {}, {}, {}, {}, {}, {}, {}, {}, {}, {}, { cls := some .p }])) (.tr (rl [8]) false .no)))))))))) = some xf4 := by kernel_rfl
def xf5_l0 : XCode :=
(.seq (.region false [(.mk (some 38) (.bin .lss (.tmp 37) (.tmp 36)) none .p)]) (.seq (.tr (rl [2, 4, 0, 0, 0, 24, 0, 0]) false (.cond (.tmp 38) .skip (.tr (rl
  [2, 4, 0, 0, 0]) false (.exit 0)))) (.seq (.tr (rl [2, 4, 0, 0, 0, 24, 0, 0]) false (.block 1 (.seq (.tr (rl [2, 4, 0, 0, 0, 1, 22, 0, 0]) false (.region
  false [(.mk (some 39) (.iaddrS 7 (.tmp 35) (.tmp 37)) none .p), (.mk (some 40) (.load true 7 (.tmp 39)) none .r), (.mk (some 12) (.alloc [(.pv (.int .i64 0)),
  (.pv (.int .i32 0)), (.pv (.int .i32 0)), (.pv (.sl .nil 0 [])), (.pv (.int .i64 0)), (.pv (.int .i64 0)), (.pv (.str []))]) none .w), (.mk none (.store 7
  (.tmp 12) (.tmp 40)) none .w)])) (.seq (.tr (rl [2, 4, 0, 0, 0, 1, 22, 0, 0]) false (.region false [(.mk (some 41) (.faddr 0 (.tmp 10)) none .p), (.mk (some
  42) (.load false 1 (.tmp 41)) none .r), (.mk (some 43) (.len (.tmp 42)) none .p), (.mk (some 44) (.bin .add (.tmp 43) (.lit (.c (.pv (.int .i64 1))))) none
  .p), (.mk (some 45) (.faddr 0 (.tmp 12)) none .p), (.mk none (.store 1 (.tmp 45) (.tmp 44)) none .w)])) (.seq (.seq (.tr (rl [2, 4, 0, 0, 0, 1, 22, 0, 0, 11])
  false (.region false [(.mk (some 46) (.faddr 1 (.tmp 12)) none .p), (.mk (some 47) (.load false 1 (.tmp 46)) none .r), (.mk (some 48) (.mv (.tmp 2)) none .p),
  (.mk (some 49) (.bin .leq (.tmp 47) (.tmp 48)) none .p)])) (.tr (rl [2, 4, 0, 0, 0, 1, 22, 0, 0]) false (.cond (.tmp 49) (.tr (rl [2, 4, 0, 0, 0, 24, 0, 0])
  false (.exit 1)) .skip))) (.seq (.tr (rl [2, 4, 0, 0, 0, 2, 0, 20, 0, 0]) false (.region false [(.mk (some 51) (.load true 1 (.tmp 10)) none .r), (.mk (some
  52) (.load true 7 (.tmp 12)) none .r), (.mk (some 53) (.call false [] (.lit (.c (.fn 19 []))) [(.tmp 51), (.tmp 52)]) none .p), (.mk (some 50) (.mv (.tmp 53))
  none .p), (.mk (some 54) (.extr 0 (.tmp 50)) none .p), (.mk (some 55) (.extr 1 (.tmp 50)) none .p), (.mk (some 13) (.alloc [(.pv (.sl .nil 0 []))]) none .w),
  (.mk none (.store 1 (.tmp 13) (.tmp 54)) none .w), (.mk (some 14) (.mv (.tmp 55)) none .p)])) (.seq (.tr (rl [2, 4, 0, 0, 0, 2, 21, 0, 0, 19]) false (.region
  false [(.mk (some 56) (.mv (.tmp 14)) none .p), (.mk (some 57) (.bin .eql (.tmp 56) (.lit (.c (.pv (.int .i64 0))))) none .p)])) (.tr (rl [2, 4, 0, 0, 0, 24,
  0, 0]) false (.cond (.tmp 57) (.tr (rl [2, 4, 0, 0, 0, 24, 0, 0]) false (.region false [(.mk (some 58) (.load true 1 (.tmp 13)) none .r), (.mk none (.store 1
  (.tmp 10) (.tmp 58)) none .w)])) .skip))))))))) (.tr (rl [2, 4, 0, 0, 0, 24, 0, 0]) false (.region false [(.mk (some 59) (.bin .add (.tmp 37) (.lit (.c (.pv
  (.int .i64 1))))) none .p), (.mk (some 37) (.mv (.tmp 59)) none .p)])))))
def xf5 : XFunc :=
(.mk 126 [(.tmp 6)] (.seq (.tr (rl [0, 0, 0]) false (.region false [(.mk (some 6) (.mv (.lit (.c (.pv (.bool false))))) none .p)])) (.seq (.seq (.tr (rl [0, 0,
  0, 21]) false (.region false [(.mk (some 17) (.mv (.tmp 0)) none .p), (.mk (some 18) (.call false [] (.lit (.c (.fn 15 []))) [(.tmp 17)]) none .p), (.mk (some
  19) (.un .not (.tmp 18)) none .p), (.mk (some 20) (.mv (.tmp 19)) none .p), (.mk (some 21) (.mv (.tmp 1)) (some (20, false)) .p), (.mk (some 22) (.call false
  [] (.lit (.c (.fn 15 []))) [(.tmp 21)]) (some (20, false)) .p), (.mk (some 23) (.un .not (.tmp 22)) (some (20, false)) .p), (.mk (some 24) (.pick (.tmp 20)
  (.lit (.c (.pv (.bool true)))) (.tmp 23)) none .p)])) (.tr (rl [0, 0, 0, 3]) false (.cond (.tmp 24) (.seq (.tr (rl [6]) false (.region false [(.mk (some 25)
  (.call false [] (.lit (.c (.fn 17 []))) []) none .p), (.mk (some 6) (.mv (.tmp 25)) none .p)])) (.tr (rl [6]) false .ret)) .skip))) (.seq (.tr (rl [1, 0, 4])
  false (.region false [(.mk (some 26) (.mv (.tmp 0)) none .p), (.mk (some 27) (.call false [] (.lit (.c (.fn 36 []))) [(.tmp 26)]) none .p), (.mk (some 7)
  (.alloc [(.pv (.sl .nil 0 []))]) none .w), (.mk none (.store 1 (.tmp 7) (.tmp 27)) none .w)])) (.seq (.tr (rl [1, 0, 4, 0, 0]) false (.region false [(.mk
  (some 29) (.load true 1 (.tmp 7)) none .r), (.mk (some 30) (.mv (.tmp 2)) none .p), (.mk (some 31) (.call false [] (.lit (.c (.fn 20 []))) [(.tmp 29), (.tmp
  30)]) none .p), (.mk (some 28) (.mv (.tmp 31)) none .p), (.mk (some 32) (.extr 0 (.tmp 28)) none .p), (.mk (some 33) (.extr 1 (.tmp 28)) none .p), (.mk (some
  8) (.alloc [(.pv (.sl .nil 0 []))]) none .w), (.mk none (.store 1 (.tmp 8) (.tmp 32)) none .w), (.mk (some 9) (.mv (.tmp 33)) none .p)])) (.seq (.tr (rl [1,
  0, 4, 0, 0, 0]) false (.region false [(.mk (some 34) (.load true 1 (.tmp 7)) none .r), (.mk (some 10) (.alloc [(.pv (.sl .nil 0 []))]) none .w), (.mk none
  (.store 1 (.tmp 10) (.tmp 34)) none .w)])) (.seq (.seq (.tr (rl [2, 4, 0, 0, 0, 24, 0, 0]) false (.region false [(.mk (some 35) (.mv (.tmp 1)) none .p), (.mk
  (some 36) (.len (.tmp 35)) none .p), (.mk (some 37) (.mv (.lit (.c (.pv (.int .i64 0))))) none .p)])) (.tr (rl [2, 4, 0, 0, 0]) false (.block 0 (.loop (rl [2,
  4, 0, 0, 0, 24, 0, 0]) xf5_l0)))) (.seq (.tr (rl [7, 0, 0, 0, 4, 0]) false (.region false [(.mk (some 61) (.load true 1 (.tmp 10)) none .r), (.mk (some 62)
  (.mv (.tmp 2)) none .p), (.mk (some 63) (.call false [] (.lit (.c (.fn 20 []))) [(.tmp 61), (.tmp 62)]) none .p), (.mk (some 60) (.mv (.tmp 63)) none .p),
  (.mk (some 64) (.extr 0 (.tmp 60)) none .p), (.mk (some 65) (.extr 1 (.tmp 60)) none .p), (.mk (some 15) (.alloc [(.pv (.sl .nil 0 []))]) none .w), (.mk none
  (.store 1 (.tmp 15) (.tmp 64)) none .w), (.mk (some 16) (.mv (.tmp 65)) none .p)])) (.seq (.tr (rl [6]) false (.region true [(.mk (some 66) (.call false []
  (.lit (.c (.fn 17 []))) []) none .p), (.mk (some 67) (.mv (.tmp 66)) none .p), (.mk (some 68) (.mv (.tmp 9)) (some (67, true)) .p), (.mk (some 69) (.bin .eql
  (.tmp 68) (.lit (.c (.pv (.int .i64 0))))) (some (67, true)) .p), (.mk (some 70) (.pick (.tmp 67) (.tmp 69) (.lit (.c (.pv (.bool false))))) none .p), (.mk
  (some 71) (.mv (.tmp 70)) none .p), (.mk (some 72) (.mv (.tmp 16)) (some (71, true)) .p), (.mk (some 73) (.bin .eql (.tmp 72) (.lit (.c (.pv (.int .i64 0)))))
  (some (71, true)) .p), (.mk (some 74) (.pick (.tmp 71) (.tmp 73) (.lit (.c (.pv (.bool false))))) none .p), (.mk (some 75) (.mv (.tmp 74)) none .p), (.mk
  (some 76) (.faddr 0 (.tmp 8)) (some (75, true)) .p), (.mk (some 77) (.load false 1 (.tmp 76)) (some (75, true)) .r), (.mk (some 78) (.faddr 0 (.tmp 15)) (some
  (75, true)) .p), (.mk (some 79) (.load false 1 (.tmp 78)) (some (75, true)) .r), (.mk (some 80) (.call false [] (.lit (.c (.fn 27 []))) [(.tmp 77), (.tmp
  79)]) (some (75, true)) .p), (.mk (some 81) (.pick (.tmp 75) (.tmp 80) (.lit (.c (.pv (.bool false))))) none .p), (.mk (some 82) (.mv (.tmp 81)) none .p),
  (.mk (some 83) (.load true 1 (.tmp 15)) (some (82, true)) .r), (.mk (some 84) (.call false [] (.lit (.c (.fn 25 []))) [(.tmp 83)]) (some (82, true)) .p), (.mk
  (some 85) (.pick (.tmp 82) (.tmp 84) (.lit (.c (.pv (.bool false))))) none .p), (.mk (some 86) (.mv (.tmp 85)) none .p), (.mk (some 87) (.faddr 0 (.tmp 15))
  (some (86, true)) .p), (.mk (some 88) (.load false 1 (.tmp 87)) (some (86, true)) .r), (.mk (some 89) (.len (.tmp 88)) (some (86, true)) .p), (.mk (some 90)
  (.faddr 0 (.tmp 7)) (some (86, true)) .p), (.mk (some 91) (.load false 1 (.tmp 90)) (some (86, true)) .r), (.mk (some 92) (.len (.tmp 91)) (some (86, true))
  .p), (.mk (some 93) (.bin .leq (.tmp 89) (.tmp 92)) (some (86, true)) .p), (.mk (some 94) (.pick (.tmp 86) (.tmp 93) (.lit (.c (.pv (.bool false))))) none
  .p), (.mk (some 95) (.mv (.tmp 94)) none .p), (.mk (some 96) (.faddr 0 (.tmp 15)) (some (95, true)) .p), (.mk (some 97) (.load false 1 (.tmp 96)) (some (95,
  true)) .r), (.mk (some 98) (.faddr 0 (.tmp 7)) (some (95, true)) .p), (.mk (some 99) (.load false 1 (.tmp 98)) (some (95, true)) .r), (.mk (some 100) (.faddr
  0 (.tmp 15)) (some (95, true)) .p), (.mk (some 101) (.load false 1 (.tmp 100)) (some (95, true)) .r), (.mk (some 102) (.len (.tmp 101)) (some (95, true)) .p),
  (.mk (some 103) (.sliceV 7 (.tmp 99) none (some (.tmp 102)) none) (some (95, true)) .p), (.mk (some 104) (.call false [] (.lit (.c (.fn 27 []))) [(.tmp 97),
  (.tmp 103)]) (some (95, true)) .p), (.mk (some 105) (.pick (.tmp 95) (.tmp 104) (.lit (.c (.pv (.bool false))))) none .p), (.mk (some 106) (.mv (.tmp 105))
  none .p), (.mk (some 107) (.faddr 0 (.tmp 10)) (some (106, true)) .p), (.mk (some 108) (.load false 1 (.tmp 107)) (some (106, true)) .r), (.mk (some 109)
  (.len (.tmp 108)) (some (106, true)) .p), (.mk (some 110) (.faddr 0 (.tmp 7)) (some (106, true)) .p), (.mk (some 111) (.load false 1 (.tmp 110)) (some (106,
  true)) .r), (.mk (some 112) (.len (.tmp 111)) (some (106, true)) .p), (.mk (some 113) (.bin .geq (.tmp 109) (.tmp 112)) (some (106, true)) .p), (.mk (some
  114) (.pick (.tmp 106) (.tmp 113) (.lit (.c (.pv (.bool false))))) none .p), (.mk (some 115) (.mv (.tmp 114)) none .p), (.mk (some 116) (.faddr 0 (.tmp 10))
  (some (115, true)) .p), (.mk (some 117) (.load false 1 (.tmp 116)) (some (115, true)) .r), (.mk (some 118) (.faddr 0 (.tmp 7)) (some (115, true)) .p), (.mk
  (some 119) (.load false 1 (.tmp 118)) (some (115, true)) .r), (.mk (some 120) (.len (.tmp 119)) (some (115, true)) .p), (.mk (some 121) (.sliceV 7 (.tmp 117)
  none (some (.tmp 120)) none) (some (115, true)) .p), (.mk (some 122) (.faddr 0 (.tmp 7)) (some (115, true)) .p), (.mk (some 123) (.load false 1 (.tmp 122))
  (some (115, true)) .r), (.mk (some 124) (.call false [] (.lit (.c (.fn 27 []))) [(.tmp 121), (.tmp 123)]) (some (115, true)) .p), (.mk (some 125) (.pick (.tmp
  115) (.tmp 124) (.lit (.c (.pv (.bool false))))) none .p), (.mk (some 6) (.mv (.tmp 125)) none .p)])) (.tr (rl [6]) false .ret))))))))))
theorem xf5_ok : cmpFunc Go.Proofs.Tryd.prog 5 ((.two (.tr (rl [0, 0, 0]) false .no) (.two (.two (.tr (rl [0, 0, 0, 21]) false (.ops [{}, { cls := some .p }, {}, {}, {}, { cls := some .p }])) (.tr (rl [0, 0, 0, 3]) false (.two (.two (.tr (rl [6]) false (.ops [{ cls := some .p }])) (.tr (rl [6]) false .no)) .no))) (.two (.tr (rl [1, 0, 4]) false (.ops [{}, { cls := some .p }])) (.two (.tr (rl [1, 0, 4, 0, 0]) false (.ops [{}, {}, { cls := some .p }])) (.two (.tr (rl [1, 0, 4, 0, 0, 0]) false .no) (.two (.two (.tr (rl [2, 4, 0, 0, 0, 24, 0, 0]) false .no) (.tr (rl [2, 4, 0, 0, 0]) false (.loop (rl [2, 4, 0, 0, 0, 24, 0, 0]) (.two .no (.two (.tr (rl [2, 4, 0, 0, 0, 24, 0, 0]) false (.two .no (.tr (rl [2, 4, 0, 0, 0]) false .no))) (.two (.tr (rl [2, 4, 0, 0, 0, 24, 0, 0]) false (.two (.tr (rl [2, 4, 0, 0, 0, 1, 22, 0, 0]) false .no) (.two (.tr (rl [2, 4, 0, 0, 0, 1, 22, 0, 0]) false .no) (.two (.two (.tr (rl [2, 4, 0, 0, 0, 1, 22, 0, 0, 11]) false .no) (.tr (rl [2, 4, 0, 0, 0, 1, 22, 0, 0]) false (.two (.tr (rl [2, 4, 0, 0, 0, 24, 0, 0]) false .no) .no))) (.two (.tr (rl [2, 4, 0, 0, 0, 2, 0, 20, 0, 0]) false (.ops [{}, {}, { cls := some .p }])) (.two (.tr (rl [2, 4, 0, 0, 0, 2, 21, 0, 0, 19]) false .no) (.tr (rl [2, 4, 0, 0, 0, 24, 0, 0]) false (.two (.tr (rl [2, 4, 0, 0, 0, 24, 0, 0]) false .no) .no)))))))) (.tr (rl [2, 4, 0, 0, 0, 24, 0, 0]) false .no))))))) (.two (.tr (rl [7, 0, 0, 0, 4, 0]) false (.ops [{}, {}, { cls := some .p }])) (.two (.tr (rl [6]) false (.draw [0, 1, 2, 3, 4, 5, 6, 7, 8, 9, 10, 11, 12, 13, 14, 15, 16, 17, 18, 19, 20, 21, 22, 23, 24, 25, 26, 27, 28, 29, 30, 31, 32, 33, 34, 35, 36, 37, 38, 39, 40, 41, 42, 43, 44, 45, 46, 47, 48, 49, 50, 51, 52, 53, 54, 55, 56, 57, 58, 59, 60] [{ cls := some .p }, {}, {}, {}, {}, {}, {}, {}, {}, {}, {}, {}, {}, {}, { cls := some .p }, {}, {}, {}, { cls := some .p }, {}, {}, {}, {}, {}, {}, {}, {}, {}, {}, {}, {}, {}, {}, {}, {}, {}, {}, {}, { cls := some .p }, {}, {}, {}, {}, {}, {}, {}, {}, {}, {}, {}, {}, {}, {}, {}, {}, {}, {}, {}, { cls := some .p }])) (.tr (rl [6]) false .no)))))))))) = some xf5 := by kernel_rfl
def xf6_l0 : XCode :=
(.seq (.region false [(.mk (some 33) (.bin .lss (.tmp 32) (.tmp 31)) none .p)]) (.seq (.tr (rl [1, 0, 0, 5, 0, 19, 0, 0]) false (.cond (.tmp 33) .skip (.tr (rl
  [1, 0, 0, 5, 0]) false (.exit 0)))) (.seq (.tr (rl [1, 0, 0, 5, 0, 19, 0, 0]) false (.block 1 (.seq (.tr (rl [1, 0, 0, 5, 0, 1, 17, 0, 0]) false (.region
  false [(.mk (some 34) (.iaddrS 7 (.tmp 30) (.tmp 32)) none .p), (.mk (some 35) (.load true 7 (.tmp 34)) none .r), (.mk (some 12) (.alloc [(.pv (.int .i64 0)),
  (.pv (.int .i32 0)), (.pv (.int .i32 0)), (.pv (.sl .nil 0 [])), (.pv (.int .i64 0)), (.pv (.int .i64 0)), (.pv (.str []))]) none .w), (.mk none (.store 7
  (.tmp 12) (.tmp 35)) none .w)])) (.seq (.tr (rl [1, 0, 0, 5, 0, 1, 17, 0, 0]) false (.region false [(.mk (some 36) (.faddr 4 (.tmp 12)) none .p), (.mk none
  (.store 1 (.tmp 36) (.lit (.c (.pv (.int .i64 0))))) none .w), (.mk (some 37) (.faddr 1 (.tmp 12)) none .p), (.mk none (.store 1 (.tmp 37) (.lit (.c (.pv
  (.int .i32 7))))) none .w), (.mk (some 38) (.faddr 0 (.tmp 12)) none .p), (.mk none (.store 1 (.tmp 38) (.lit (.c (.pv (.int .i64 1))))) none .w)])) (.seq
  (.tr (rl [1, 0, 0, 5, 0, 1, 17, 0, 0, 8]) false (.region false [(.mk (some 39) (.load true 7 (.tmp 12)) none .r), (.mk (some 40) (.call false [] (.lit (.c
  (.fn 37 []))) [(.tmp 39)]) none .p), (.mk (some 41) (.bin .eql (.tmp 40) (.lit (.c (.pv (.int .i64 0))))) none .p)])) (.tr (rl [1, 0, 0, 5, 0, 19, 0, 0])
  false (.cond (.tmp 41) (.tr (rl [1, 0, 0, 5, 0, 19, 0, 0]) false (.region false [(.mk (some 42) (.mv (.tmp 9)) none .p), (.mk (some 43) (.load true 7 (.tmp
  12)) none .r), (.mk (some 44) (.buildSl [(.pv (.int .i64 0)), (.pv (.int .i32 0)), (.pv (.int .i32 0)), (.pv (.sl .nil 0 [])), (.pv (.int .i64 0)), (.pv (.int
  .i64 0)), (.pv (.str []))] 1 7 [(0, (7, (.tmp 43)))]) none .p), (.mk (some 45) (.app 7 72 (.tmp 42) (.tmp 44)) none .w), (.mk (some 9) (.mv (.tmp 45)) none
  .p)])) .skip))))))) (.tr (rl [1, 0, 0, 5, 0, 19, 0, 0]) false (.region false [(.mk (some 46) (.bin .add (.tmp 32) (.lit (.c (.pv (.int .i64 1))))) none .p),
  (.mk (some 32) (.mv (.tmp 46)) none .p)])))))
def xf6_l1 : XCode :=
(.seq (.region false [(.mk (some 50) (.bin .lss (.tmp 49) (.tmp 48)) none .p)]) (.seq (.tr (rl [1, 0, 0, 5, 0, 37, 0]) false (.cond (.tmp 50) .skip (.tr (rl [1,
  0, 0, 5, 0]) false (.exit 2)))) (.seq (.tr (rl [1, 0, 0, 5, 0, 37, 0]) false (.block 3 (.seq (.tr (rl [1, 0, 0, 5, 0, 2, 34, 0]) false (.region false [(.mk
  (some 51) (.mv (.tmp 49)) none .p), (.mk (some 13) (.mv (.tmp 51)) none .p)])) (.tr (rl [1, 0, 0, 5, 0, 37, 0]) false (.region false [(.mk (some 52) (.mv
  (.tmp 10)) none .p), (.mk (some 53) (.mv (.tmp 9)) none .p), (.mk (some 54) (.mv (.tmp 9)) none .p), (.mk (some 55) (.len (.tmp 54)) none .p), (.mk (some 56)
  (.bin .sub (.tmp 55) (.lit (.c (.pv (.int .i64 1))))) none .p), (.mk (some 57) (.mv (.tmp 13)) none .p), (.mk (some 58) (.bin .sub (.tmp 56) (.tmp 57)) none
  .p), (.mk (some 59) (.iaddrS 7 (.tmp 53) (.tmp 58)) none .p), (.mk (some 60) (.load true 7 (.tmp 59)) none .r), (.mk (some 61) (.buildSl [(.pv (.int .i64 0)),
  (.pv (.int .i32 0)), (.pv (.int .i32 0)), (.pv (.sl .nil 0 [])), (.pv (.int .i64 0)), (.pv (.int .i64 0)), (.pv (.str []))] 1 7 [(0, (7, (.tmp 60)))]) none
  .p), (.mk (some 62) (.app 7 72 (.tmp 52) (.tmp 61)) none .w), (.mk (some 10) (.mv (.tmp 62)) none .p)]))))) (.tr (rl [1, 0, 0, 5, 0, 37, 0]) false (.region
  false [(.mk (some 63) (.bin .add (.tmp 49) (.lit (.c (.pv (.int .i64 1))))) none .p), (.mk (some 49) (.mv (.tmp 63)) none .p)])))))
def xf6 : XFunc :=
(.mk 138 [(.tmp 8)] (.seq (.tr (rl [0, 0, 0, 0]) false (.region false [(.mk (some 8) (.mv (.lit (.c (.pv (.bool false))))) none .p)])) (.seq (.seq (.tr (rl [0,
  0, 0, 0, 22]) false (.region false [(.mk (some 24) (.mv (.tmp 0)) none .p), (.mk (some 25) (.call false [] (.lit (.c (.fn 15 []))) [(.tmp 24)]) none .p), (.mk
  (some 26) (.un .not (.tmp 25)) none .p)])) (.tr (rl [0, 0, 0, 0, 4]) false (.cond (.tmp 26) (.seq (.tr (rl [8]) false (.region false [(.mk (some 27) (.call
  false [] (.lit (.c (.fn 17 []))) []) none .p), (.mk (some 8) (.mv (.tmp 27)) none .p)])) (.tr (rl [8]) false .ret)) .skip))) (.seq (.tr (rl [0, 0, 0, 0, 5,
  0]) false (.region false [(.mk (some 28) (.buildSl [(.pv (.int .i64 0)), (.pv (.int .i32 0)), (.pv (.int .i32 0)), (.pv (.sl .nil 0 [])), (.pv (.int .i64 0)),
  (.pv (.int .i64 0)), (.pv (.str []))] 0 7 []) none .p), (.mk (some 29) (.buildSl [(.pv (.int .i64 0)), (.pv (.int .i32 0)), (.pv (.int .i32 0)), (.pv (.sl
  .nil 0 [])), (.pv (.int .i64 0)), (.pv (.int .i64 0)), (.pv (.str []))] 0 7 []) none .p), (.mk (some 9) (.mv (.tmp 28)) none .p), (.mk (some 10) (.mv (.tmp
  29)) none .p)])) (.seq (.seq (.tr (rl [1, 0, 0, 5, 0, 19, 0, 0]) false (.region false [(.mk (some 30) (.mv (.tmp 0)) none .p), (.mk (some 31) (.len (.tmp 30))
  none .p), (.mk (some 32) (.mv (.lit (.c (.pv (.int .i64 0))))) none .p)])) (.tr (rl [1, 0, 0, 5, 0]) false (.block 0 (.loop (rl [1, 0, 0, 5, 0, 19, 0, 0])
  xf6_l0)))) (.seq (.seq (.tr (rl [1, 0, 0, 5, 0, 37, 0]) false (.region false [(.mk (some 47) (.mv (.tmp 9)) none .p), (.mk (some 48) (.len (.tmp 47)) none
  .p), (.mk (some 49) (.mv (.lit (.c (.pv (.int .i64 0))))) none .p)])) (.tr (rl [1, 0, 0, 5, 0]) false (.block 2 (.loop (rl [1, 0, 0, 5, 0, 37, 0]) xf6_l1))))
  (.seq (.tr (rl [1, 0, 0, 5, 4, 0]) false (.region false [(.mk (some 64) (.mv (.tmp 9)) none .p), (.mk (some 65) (.call false [] (.lit (.c (.fn 36 []))) [(.tmp
  64)]) none .p), (.mk (some 66) (.mv (.tmp 10)) none .p), (.mk (some 67) (.call false [] (.lit (.c (.fn 36 []))) [(.tmp 66)]) none .p), (.mk (some 14) (.alloc
  [(.pv (.sl .nil 0 []))]) none .w), (.mk (some 15) (.alloc [(.pv (.sl .nil 0 []))]) none .w), (.mk none (.store 1 (.tmp 14) (.tmp 65)) none .w), (.mk none
  (.store 1 (.tmp 15) (.tmp 67)) none .w)])) (.seq (.tr (rl [1, 0, 0, 5, 4, 0, 0, 0]) false (.region false [(.mk (some 69) (.load true 1 (.tmp 14)) none .r),
  (.mk (some 70) (.mv (.tmp 3)) none .p), (.mk (some 71) (.call false [] (.lit (.c (.fn 21 []))) [(.tmp 69), (.lit (.c (.pv (.int .i32 7)))), (.tmp 70)]) none
  .p), (.mk (some 68) (.mv (.tmp 71)) none .p), (.mk (some 72) (.extr 0 (.tmp 68)) none .p), (.mk (some 73) (.extr 1 (.tmp 68)) none .p), (.mk (some 16) (.mv
  (.tmp 72)) none .p), (.mk (some 17) (.mv (.tmp 73)) none .p)])) (.seq (.tr (rl [1, 0, 0, 5, 4, 0, 0, 0, 0, 0]) false (.region false [(.mk (some 75) (.load
  true 1 (.tmp 15)) none .r), (.mk (some 76) (.mv (.tmp 3)) none .p), (.mk (some 77) (.call false [] (.lit (.c (.fn 21 []))) [(.tmp 75), (.lit (.c (.pv (.int
  .i32 7)))), (.tmp 76)]) none .p), (.mk (some 74) (.mv (.tmp 77)) none .p), (.mk (some 78) (.extr 0 (.tmp 74)) none .p), (.mk (some 79) (.extr 1 (.tmp 74))
  none .p), (.mk (some 18) (.mv (.tmp 78)) none .p), (.mk (some 19) (.mv (.tmp 79)) none .p)])) (.seq (.tr (rl [1, 0, 0, 5, 4, 0, 0, 0, 0, 0, 0, 0]) false
  (.region false [(.mk (some 81) (.mv (.tmp 16)) none .p), (.mk (some 82) (.mv (.tmp 1)) none .p), (.mk (some 83) (.mv (.tmp 2)) none .p), (.mk (some 84) (.mv
  (.tmp 3)) none .p), (.mk (some 85) (.call false [] (.lit (.c (.fn 33 []))) [(.tmp 81), (.tmp 82), (.tmp 83), (.tmp 84)]) none .p), (.mk (some 80) (.mv (.tmp
  85)) none .p), (.mk (some 86) (.extr 0 (.tmp 80)) none .p), (.mk (some 87) (.extr 1 (.tmp 80)) none .p), (.mk (some 20) (.mv (.tmp 86)) none .p), (.mk (some
  21) (.mv (.tmp 87)) none .p)])) (.seq (.tr (rl [9, 4, 0, 0, 0, 0, 0, 0, 0, 0, 0]) false (.region false [(.mk (some 89) (.mv (.tmp 18)) none .p), (.mk (some
  90) (.mv (.tmp 1)) none .p), (.mk (some 91) (.mv (.tmp 2)) none .p), (.mk (some 92) (.mv (.tmp 3)) none .p), (.mk (some 93) (.call false [] (.lit (.c (.fn 33
  []))) [(.tmp 89), (.tmp 90), (.tmp 91), (.tmp 92)]) none .p), (.mk (some 88) (.mv (.tmp 93)) none .p), (.mk (some 94) (.extr 0 (.tmp 88)) none .p), (.mk (some
  95) (.extr 1 (.tmp 88)) none .p), (.mk (some 22) (.mv (.tmp 94)) none .p), (.mk (some 23) (.mv (.tmp 95)) none .p)])) (.seq (.tr (rl [8]) false (.region false
  [(.mk (some 96) (.call false [] (.lit (.c (.fn 17 []))) []) none .p), (.mk (some 97) (.mv (.tmp 96)) none .p), (.mk (some 98) (.faddr 0 (.tmp 14)) (some (97,
  true)) .p), (.mk (some 99) (.load false 1 (.tmp 98)) (some (97, true)) .r), (.mk (some 100) (.len (.tmp 99)) (some (97, true)) .p), (.mk (some 101) (.mv (.tmp
  9)) (some (97, true)) .p), (.mk (some 102) (.len (.tmp 101)) (some (97, true)) .p), (.mk (some 103) (.bin .eql (.tmp 100) (.tmp 102)) (some (97, true)) .p),
  (.mk (some 104) (.pick (.tmp 97) (.tmp 103) (.lit (.c (.pv (.bool false))))) none .p), (.mk (some 105) (.mv (.tmp 104)) none .p), (.mk (some 106) (.faddr 0
  (.tmp 15)) (some (105, true)) .p), (.mk (some 107) (.load false 1 (.tmp 106)) (some (105, true)) .r), (.mk (some 108) (.len (.tmp 107)) (some (105, true))
  .p), (.mk (some 109) (.mv (.tmp 9)) (some (105, true)) .p), (.mk (some 110) (.len (.tmp 109)) (some (105, true)) .p), (.mk (some 111) (.bin .eql (.tmp 108)
  (.tmp 110)) (some (105, true)) .p), (.mk (some 112) (.pick (.tmp 105) (.tmp 111) (.lit (.c (.pv (.bool false))))) none .p), (.mk (some 113) (.mv (.tmp 112))
  none .p), (.mk (some 114) (.mv (.tmp 17)) (some (113, true)) .p), (.mk (some 115) (.bin .eql (.tmp 114) (.lit (.c (.pv (.int .i64 0))))) (some (113, true))
  .p), (.mk (some 116) (.pick (.tmp 113) (.tmp 115) (.lit (.c (.pv (.bool false))))) none .p), (.mk (some 117) (.mv (.tmp 116)) none .p), (.mk (some 118) (.mv
  (.tmp 19)) (some (117, true)) .p), (.mk (some 119) (.bin .eql (.tmp 118) (.lit (.c (.pv (.int .i64 0))))) (some (117, true)) .p), (.mk (some 120) (.pick (.tmp
  117) (.tmp 119) (.lit (.c (.pv (.bool false))))) none .p), (.mk (some 121) (.mv (.tmp 120)) none .p), (.mk (some 122) (.mv (.tmp 21)) (some (121, true)) .p),
  (.mk (some 123) (.mv (.tmp 23)) (some (121, true)) .p), (.mk (some 124) (.bin .eql (.tmp 122) (.tmp 123)) (some (121, true)) .p), (.mk (some 125) (.pick (.tmp
  121) (.tmp 124) (.lit (.c (.pv (.bool false))))) none .p), (.mk (some 126) (.mv (.tmp 125)) none .p), (.mk (some 127) (.mv (.tmp 20)) (some (126, true)) .p),
  (.mk (some 128) (.mv (.tmp 22)) (some (126, true)) .p), (.mk (some 129) (.bin .eql (.tmp 127) (.tmp 128)) (some (126, true)) .p), (.mk (some 130) (.pick (.tmp
  126) (.tmp 129) (.lit (.c (.pv (.bool false))))) none .p), (.mk (some 131) (.mv (.tmp 130)) none .p), (.mk (some 132) (.mv (.tmp 16)) (some (131, true)) .p),
  (.mk (some 133) (.len (.tmp 132)) (some (131, true)) .p), (.mk (some 134) (.mv (.tmp 18)) (some (131, true)) .p), (.mk (some 135) (.len (.tmp 134)) (some
  (131, true)) .p), (.mk (some 136) (.bin .eql (.tmp 133) (.tmp 135)) (some (131, true)) .p), (.mk (some 137) (.pick (.tmp 131) (.tmp 136) (.lit (.c (.pv (.bool
  false))))) none .p), (.mk (some 8) (.mv (.tmp 137)) none .p)])) (.tr (rl [8]) false .ret)))))))))))))
theorem xf6_ok : cmpFunc Go.Proofs.Tryd.prog 6 ((.two (.tr (rl [0, 0, 0, 0]) false .no) (.two (.two (.tr (rl [0, 0, 0, 0, 22]) false (.ops [{}, { cls := some .p }])) (.tr (rl [0, 0, 0, 0, 4]) false (.two (.two (.tr (rl [8]) false (.ops [{ cls := some .p }])) (.tr (rl [8]) false .no)) .no))) (.two (.tr (rl [0, 0, 0, 0, 5, 0]) false .no) (.two (.two (.tr (rl [1, 0, 0, 5, 0, 19, 0, 0]) false .no) (.tr (rl [1, 0, 0, 5, 0]) false (.loop (rl [1, 0, 0, 5, 0, 19, 0, 0]) (.two .no (.two (.tr (rl [1, 0, 0, 5, 0, 19, 0, 0]) false (.two .no (.tr (rl [1, 0, 0, 5, 0]) false .no))) (.two (.tr (rl [1, 0, 0, 5, 0, 19, 0, 0]) false (.two (.tr (rl [1, 0, 0, 5, 0, 1, 17, 0, 0]) false .no) (.two (.tr (rl [1, 0, 0, 5, 0, 1, 17, 0, 0]) false .no) (.two (.tr (rl [1, 0, 0, 5, 0, 1, 17, 0, 0, 8]) false (.ops [{}, { cls := some .p }])) (.tr (rl [1, 0, 0, 5, 0, 19, 0, 0]) false (.two (.tr (rl [1, 0, 0, 5, 0, 19, 0, 0]) false .no) .no)))))) (.tr (rl [1, 0, 0, 5, 0, 19, 0, 0]) false .no))))))) (.two (.two (.tr (rl [1, 0, 0, 5, 0, 37, 0]) false .no) (.tr (rl [1, 0, 0, 5, 0]) false (.loop (rl [1, 0, 0, 5, 0, 37, 0]) (.two .no (.two (.tr (rl [1, 0, 0, 5, 0, 37, 0]) false (.two .no (.tr (rl [1, 0, 0, 5, 0]) false .no))) (.two (.tr (rl [1, 0, 0, 5, 0, 37, 0]) false (.two (.tr (rl [1, 0, 0, 5, 0, 2, 34, 0]) false .no) (.tr (rl [1, 0, 0, 5, 0, 37, 0]) false .no))) (.tr (rl [1, 0, 0, 5, 0, 37, 0]) false .no))))))) (.two (.tr (rl [1, 0, 0, 5, 4, 0]) false (.ops [{}, { cls := some .p }, {}, { cls := some .p }])) (.two (.tr (rl [1, 0, 0, 5, 4, 0, 0, 0]) false (.ops [{}, {}, { cls := some .p }])) (.two (.tr (rl [1, 0, 0, 5, 4, 0, 0, 0, 0, 0]) false (.ops [{}, {}, { cls := some .p }])) (.two (.tr (rl [1, 0, 0, 5, 4, 0, 0, 0, 0, 0, 0, 0]) false (.ops [{}, {}, {}, {}, { cls := some .p }])) (.two (.tr (rl [9, 4, 0, 0, 0, 0, 0, 0, 0, 0, 0]) false (.ops [{}, {}, {}, {}, { cls := some .p }])) (.two (.tr (rl [8]) false (.ops [{ cls := some .p }])) (.tr (rl [8]) false .no))))))))))))) = some xf6 := by kernel_rfl
def xf7_l0 : XCode :=
(.seq (.region false [(.mk (some 57) (.bin .lss (.tmp 56) (.tmp 55)) none .p)]) (.seq (.tr (rl [2, 0, 5, 0, 0, 0, 34, 0, 0, 4, 0, 0]) false (.cond (.tmp 57)
  .skip (.tr (rl [2, 0, 5, 0, 0, 0, 34, 0, 0]) false (.exit 2)))) (.seq (.tr (rl [2, 0, 4, 0, 0, 0, 0, 34, 0, 0, 4, 0, 0]) false (.block 3 (.seq (.tr (rl [2, 0,
  5, 0, 0, 0, 3, 30, 0, 0, 4, 0, 0]) false (.region false [(.mk (some 58) (.iaddrS 3 (.tmp 54) (.tmp 56)) none .p), (.mk (some 59) (.load true 3 (.tmp 58)) none
  .r), (.mk (some 16) (.alloc [(.pv (.int .i64 0)), (.pv (.int .i64 0)), (.pv (.int .i64 0))]) none .w), (.mk none (.store 3 (.tmp 16) (.tmp 59)) none .w)]))
  (.seq (.seq (.tr (rl [2, 0, 5, 0, 0, 0, 3, 30, 0, 0, 4, 0, 0, 7]) false (.region false [(.mk (some 60) (.mv (.tmp 12)) none .p), (.mk (some 61) (.faddr 0
  (.tmp 16)) none .p), (.mk (some 62) (.load false 1 (.tmp 61)) none .r), (.mk (some 63) (.mlook (.int .i64 0) false (.tmp 60) (.tmp 62)) none .r), (.mk (some
  64) (.bin .gtr (.tmp 63) (.lit (.c (.pv (.int .i64 0))))) none .p)])) (.tr (rl [2, 0, 5, 0, 0, 0, 3, 30, 0, 0, 4, 0, 0]) false (.cond (.tmp 64) (.tr (rl [2,
  0, 5, 0, 0, 0, 34, 0, 0, 4, 0, 0]) false (.exit 3)) .skip))) (.seq (.tr (rl [2, 0, 5, 0, 0, 0, 3, 30, 0, 0, 4, 0, 0]) false (.region false [(.mk (some 65)
  (.mv (.tmp 12)) none .p), (.mk (some 66) (.faddr 0 (.tmp 16)) none .p), (.mk (some 67) (.load false 1 (.tmp 66)) none .r), (.mk none (.mupd (.tmp 65) (.tmp
  67) (.lit (.c (.pv (.int .i64 1))))) none .w)])) (.seq (.tr (rl [2, 0, 5, 0, 0, 0, 4, 0, 28, 0, 0, 4, 0, 0]) false (.region false [(.mk (some 69) (.faddr 0
  (.tmp 9)) none .p), (.mk (some 70) (.load false 1 (.tmp 69)) none .r), (.mk (some 71) (.faddr 0 (.tmp 16)) none .p), (.mk (some 72) (.load false 1 (.tmp 71))
  none .r), (.mk (some 73) (.mv (.tmp 10)) none .p), (.mk (some 74) (.mv (.tmp 2)) none .p), (.mk (some 75) (.call false [] (.lit (.c (.fn 33 []))) [(.tmp 70),
  (.tmp 72), (.tmp 73), (.tmp 74)]) none .p), (.mk (some 68) (.mv (.tmp 75)) none .p), (.mk (some 76) (.extr 0 (.tmp 68)) none .p), (.mk (some 77) (.extr 1
  (.tmp 68)) none .p), (.mk (some 17) (.mv (.tmp 76)) none .p), (.mk (some 18) (.mv (.tmp 77)) none .p)])) (.seq (.seq (.tr (rl [2, 0, 5, 0, 0, 0, 4, 29, 0, 0,
  4, 0, 0, 22]) false (.region false [(.mk (some 78) (.mv (.tmp 18)) none .p), (.mk (some 79) (.bin .neq (.tmp 78) (.lit (.c (.pv (.int .i64 0))))) none .p)]))
  (.tr (rl [2, 0, 4, 0, 0, 0, 0, 4, 29, 0, 0, 4, 0, 0]) false (.cond (.tmp 79) (.seq (.region false [(.mk (some 8) (.mv (.lit (.c (.pv (.bool false))))) none
  .p)]) (.tr (rl [8]) false .ret)) .skip))) (.tr (rl [2, 0, 5, 0, 0, 0, 34, 0, 0, 4, 0, 0]) false (.region false [(.mk (some 80) (.mv (.tmp 11)) none .p), (.mk
  (some 81) (.mv (.tmp 17)) none .p), (.mk (some 82) (.bin .add (.tmp 80) (.tmp 81)) none .p), (.mk (some 11) (.mv (.tmp 82)) none .p)]))))))))) (.tr (rl [2, 0,
  5, 0, 0, 0, 34, 0, 0, 4, 0, 0]) false (.region false [(.mk (some 83) (.bin .add (.tmp 56) (.lit (.c (.pv (.int .i64 1))))) none .p), (.mk (some 56) (.mv (.tmp
  83)) none .p)])))))
def xf7_l1 : XCode :=
(.seq (.region false [(.mk (some 50) (.bin .lss (.tmp 49) (.tmp 48)) none .p)]) (.seq (.tr (rl [2, 0, 5, 0, 0, 0, 34, 0, 0]) false (.cond (.tmp 50) .skip (.tr
  (rl [2, 0, 5, 0, 0]) false (.exit 0)))) (.seq (.tr (rl [2, 0, 4, 0, 0, 0, 0, 34, 0, 0]) false (.block 1 (.seq (.tr (rl [2, 0, 5, 0, 0, 0, 1, 32, 0, 0]) false
  (.region false [(.mk (some 51) (.iaddrS 7 (.tmp 47) (.tmp 49)) none .p), (.mk (some 52) (.load true 7 (.tmp 51)) none .r), (.mk (some 14) (.alloc [(.pv (.int
  .i64 0)), (.pv (.int .i32 0)), (.pv (.int .i32 0)), (.pv (.sl .nil 0 [])), (.pv (.int .i64 0)), (.pv (.int .i64 0)), (.pv (.str []))]) none .w), (.mk none
  (.store 7 (.tmp 14) (.tmp 52)) none .w)])) (.seq (.tr (rl [2, 0, 5, 0, 0, 0, 34, 0, 0, 4, 0, 0]) false (.region false [(.mk (some 53) (.faddr 3 (.tmp 14))
  none .p), (.mk (some 54) (.load false 1 (.tmp 53)) none .r), (.mk (some 55) (.len (.tmp 54)) none .p), (.mk (some 56) (.mv (.lit (.c (.pv (.int .i64 0)))))
  none .p)])) (.tr (rl [2, 0, 4, 0, 0, 0, 0, 34, 0, 0]) false (.block 2 (.loop (rl [2, 0, 5, 0, 0, 0, 34, 0, 0, 4, 0, 0]) xf7_l0))))))) (.tr (rl [2, 0, 5, 0, 0,
  0, 34, 0, 0]) false (.region false [(.mk (some 84) (.bin .add (.tmp 49) (.lit (.c (.pv (.int .i64 1))))) none .p), (.mk (some 49) (.mv (.tmp 84)) none
  .p)])))))
def xf7_l2 : XCode :=
(.seq (.region false [(.mk (some 90) (.bin .lss (.tmp 89) (.tmp 88)) none .p)]) (.seq (.tr (rl [2, 0, 5, 0, 0, 7, 67, 0, 0]) false (.cond (.tmp 90) .skip (.tr
  (rl [2, 0, 5, 0, 0, 7]) false (.exit 4)))) (.seq (.tr (rl [2, 0, 5, 0, 0, 7, 67, 0, 0]) false (.block 5 (.seq (.tr (rl [2, 0, 5, 0, 0, 7, 1, 65, 0, 0]) false
  (.region false [(.mk (some 91) (.iaddrS 7 (.tmp 87) (.tmp 89)) none .p), (.mk (some 92) (.load true 7 (.tmp 91)) none .r), (.mk (some 21) (.alloc [(.pv (.int
  .i64 0)), (.pv (.int .i32 0)), (.pv (.int .i32 0)), (.pv (.sl .nil 0 [])), (.pv (.int .i64 0)), (.pv (.int .i64 0)), (.pv (.str []))]) none .w), (.mk none
  (.store 7 (.tmp 21) (.tmp 92)) none .w)])) (.seq (.tr (rl [2, 0, 5, 0, 0, 7, 1, 65, 0, 0, 6]) false (.region false [(.mk (some 93) (.faddr 2 (.tmp 21)) none
  .p), (.mk (some 94) (.load false 1 (.tmp 93)) none .r), (.mk (some 95) (.mv (.tmp 2)) none .p), (.mk (some 96) (.bin .eql (.tmp 94) (.tmp 95)) none .p)]))
  (.tr (rl [2, 0, 5, 0, 0, 7, 67, 0, 0]) false (.cond (.tmp 96) (.tr (rl [2, 0, 5, 0, 0, 7, 67, 0, 0]) false (.region false [(.mk (some 97) (.mv (.tmp 19)) none
  .p), (.mk (some 98) (.load true 7 (.tmp 21)) none .r), (.mk (some 99) (.buildSl [(.pv (.int .i64 0)), (.pv (.int .i32 0)), (.pv (.int .i32 0)), (.pv (.sl .nil
  0 [])), (.pv (.int .i64 0)), (.pv (.int .i64 0)), (.pv (.str []))] 1 7 [(0, (7, (.tmp 98)))]) none .p), (.mk (some 100) (.app 7 72 (.tmp 97) (.tmp 99)) none
  .w), (.mk (some 19) (.mv (.tmp 100)) none .p)])) .skip)))))) (.tr (rl [2, 0, 5, 0, 0, 7, 67, 0, 0]) false (.region false [(.mk (some 101) (.bin .add (.tmp 89)
  (.lit (.c (.pv (.int .i64 1))))) none .p), (.mk (some 89) (.mv (.tmp 101)) none .p)])))))
def xf7 : XFunc :=
(.mk 153 [(.tmp 8)] (.seq (.tr (rl [0, 0, 0, 0]) false (.region false [(.mk (some 8) (.mv (.lit (.c (.pv (.bool false))))) none .p)])) (.seq (.seq (.tr (rl [0,
  0, 0, 0, 34]) false (.region false [(.mk (some 28) (.mv (.tmp 0)) none .p), (.mk (some 29) (.call false [] (.lit (.c (.fn 15 []))) [(.tmp 28)]) none .p), (.mk
  (some 30) (.un .not (.tmp 29)) none .p), (.mk (some 31) (.mv (.tmp 30)) none .p), (.mk (some 32) (.mv (.tmp 2)) (some (31, false)) .p), (.mk (some 33) (.bin
  .lss (.tmp 32) (.lit (.c (.pv (.int .i32 (-49999)))))) (some (31, false)) .p), (.mk (some 34) (.pick (.tmp 31) (.lit (.c (.pv (.bool true)))) (.tmp 33)) none
  .p), (.mk (some 35) (.mv (.tmp 34)) none .p), (.mk (some 36) (.mv (.tmp 2)) (some (35, false)) .p), (.mk (some 37) (.bin .gtr (.tmp 36) (.lit (.c (.pv (.int
  .i32 50000))))) (some (35, false)) .p), (.mk (some 38) (.pick (.tmp 35) (.lit (.c (.pv (.bool true)))) (.tmp 37)) none .p)])) (.tr (rl [0, 0, 0, 0, 4]) false
  (.cond (.tmp 38) (.seq (.tr (rl [8]) false (.region false [(.mk (some 39) (.call false [] (.lit (.c (.fn 17 []))) []) none .p), (.mk (some 8) (.mv (.tmp 39))
  none .p)])) (.tr (rl [8]) false .ret)) .skip))) (.seq (.tr (rl [1, 0, 0, 5]) false (.region false [(.mk (some 40) (.mv (.tmp 0)) none .p), (.mk (some 41)
  (.call false [] (.lit (.c (.fn 36 []))) [(.tmp 40)]) none .p), (.mk (some 9) (.alloc [(.pv (.sl .nil 0 []))]) none .w), (.mk none (.store 1 (.tmp 9) (.tmp
  41)) none .w)])) (.seq (.tr (rl [2, 0, 5, 0]) false (.region false [(.mk (some 42) (.mv (.tmp 1)) none .p), (.mk (some 43) (.bin .rem (.tmp 42) (.lit (.c (.pv
  (.int .u8 4))))) none .p), (.mk (some 44) (.convI .i64 (.tmp 43)) none .p), (.mk (some 10) (.mv (.tmp 44)) none .p)])) (.seq (.region false [(.mk (some 11)
  (.mv (.lit (.c (.pv (.int .i64 0))))) none .p)]) (.seq (.tr (rl [2, 0, 5, 0, 0, 0]) false (.region false [(.mk (some 45) .mkmap none .w), (.mk (some 12) (.mv
  (.tmp 45)) none .p)])) (.seq (.seq (.tr (rl [2, 0, 5, 0, 0, 0, 34, 0, 0]) false (.region false [(.mk (some 46) (.faddr 0 (.tmp 9)) none .p), (.mk (some 47)
  (.load false 1 (.tmp 46)) none .r), (.mk (some 48) (.len (.tmp 47)) none .p), (.mk (some 49) (.mv (.lit (.c (.pv (.int .i64 0))))) none .p)])) (.tr (rl [2, 0,
  4, 0, 0, 0]) false (.block 0 (.loop (rl [2, 0, 5, 0, 0, 0, 34, 0, 0]) xf7_l1)))) (.seq (.tr (rl [2, 0, 5, 0, 0, 7]) false (.region false [(.mk (some 85)
  (.buildSl [(.pv (.int .i64 0)), (.pv (.int .i32 0)), (.pv (.int .i32 0)), (.pv (.sl .nil 0 [])), (.pv (.int .i64 0)), (.pv (.int .i64 0)), (.pv (.str []))] 0
  7 []) none .p), (.mk (some 19) (.mv (.tmp 85)) none .p)])) (.seq (.seq (.tr (rl [2, 0, 5, 0, 0, 7, 67, 0, 0]) false (.region false [(.mk (some 86) (.faddr 0
  (.tmp 9)) none .p), (.mk (some 87) (.load false 1 (.tmp 86)) none .r), (.mk (some 88) (.len (.tmp 87)) none .p), (.mk (some 89) (.mv (.lit (.c (.pv (.int .i64
  0))))) none .p)])) (.tr (rl [2, 0, 5, 0, 0, 7]) false (.block 4 (.loop (rl [2, 0, 5, 0, 0, 7, 67, 0, 0]) xf7_l2)))) (.seq (.tr (rl [2, 0, 5, 0, 0, 7, 2, 0])
  false (.region false [(.mk (some 103) (.faddr 0 (.tmp 9)) none .p), (.mk (some 104) (.load false 1 (.tmp 103)) none .r), (.mk (some 105) (.mv (.tmp 3)) none
  .p), (.mk (some 106) (.mv (.tmp 10)) none .p), (.mk (some 107) (.mv (.tmp 2)) none .p), (.mk (some 108) (.call false [] (.lit (.c (.fn 33 []))) [(.tmp 104),
  (.tmp 105), (.tmp 106), (.tmp 107)]) none .p), (.mk (some 102) (.mv (.tmp 108)) none .p), (.mk (some 109) (.extr 0 (.tmp 102)) none .p), (.mk (some 110)
  (.extr 1 (.tmp 102)) none .p), (.mk (some 22) (.mv (.tmp 109)) none .p), (.mk (some 23) (.mv (.tmp 110)) none .p)])) (.seq (.tr (rl [2, 0, 6, 0, 7, 2, 0, 0,
  0]) false (.region false [(.mk (some 112) (.faddr 0 (.tmp 9)) none .p), (.mk (some 113) (.load false 1 (.tmp 112)) none .r), (.mk (some 114) (.mv (.tmp 3))
  none .p), (.mk (some 115) (.mv (.tmp 10)) none .p), (.mk (some 116) (.mv (.tmp 2)) none .p), (.mk (some 117) (.bin .sub (.tmp 116) (.lit (.c (.pv (.int .i32
  1))))) none .p), (.mk (some 118) (.call false [] (.lit (.c (.fn 33 []))) [(.tmp 113), (.tmp 114), (.tmp 115), (.tmp 117)]) none .p), (.mk (some 111) (.mv
  (.tmp 118)) none .p), (.mk (some 119) (.extr 0 (.tmp 111)) none .p), (.mk (some 120) (.extr 1 (.tmp 111)) none .p), (.mk (some 24) (.mv (.tmp 119)) none .p),
  (.mk (some 25) (.mv (.tmp 120)) none .p)])) (.seq (.tr (rl [11, 10, 0, 0, 0, 0, 0]) false (.region false [(.mk (some 122) (.mv (.tmp 19)) none .p), (.mk (some
  123) (.mv (.tmp 3)) none .p), (.mk (some 124) (.mv (.tmp 10)) none .p), (.mk (some 125) (.mv (.tmp 2)) none .p), (.mk (some 126) (.call false [] (.lit (.c
  (.fn 33 []))) [(.tmp 122), (.tmp 123), (.tmp 124), (.tmp 125)]) none .p), (.mk (some 121) (.mv (.tmp 126)) none .p), (.mk (some 127) (.extr 0 (.tmp 121)) none
  .p), (.mk (some 128) (.extr 1 (.tmp 121)) none .p), (.mk (some 26) (.mv (.tmp 127)) none .p), (.mk (some 27) (.mv (.tmp 128)) none .p)])) (.seq (.tr (rl [8])
  false (.region false [(.mk (some 129) (.call false [] (.lit (.c (.fn 17 []))) []) none .p), (.mk (some 130) (.mv (.tmp 129)) none .p), (.mk (some 131) (.mv
  (.tmp 11)) (some (130, true)) .p), (.mk (some 132) (.bin .eql (.tmp 131) (.lit (.c (.pv (.int .i64 0))))) (some (130, true)) .p), (.mk (some 133) (.pick (.tmp
  130) (.tmp 132) (.lit (.c (.pv (.bool false))))) none .p), (.mk (some 134) (.mv (.tmp 133)) none .p), (.mk (some 135) (.mv (.tmp 23)) (some (134, true)) .p),
  (.mk (some 136) (.bin .eql (.tmp 135) (.lit (.c (.pv (.int .i64 0))))) (some (134, true)) .p), (.mk (some 137) (.pick (.tmp 134) (.tmp 136) (.lit (.c (.pv
  (.bool false))))) none .p), (.mk (some 138) (.mv (.tmp 137)) none .p), (.mk (some 139) (.mv (.tmp 25)) (some (138, true)) .p), (.mk (some 140) (.bin .eql
  (.tmp 139) (.lit (.c (.pv (.int .i64 0))))) (some (138, true)) .p), (.mk (some 141) (.pick (.tmp 138) (.tmp 140) (.lit (.c (.pv (.bool false))))) none .p),
  (.mk (some 142) (.mv (.tmp 141)) none .p), (.mk (some 143) (.mv (.tmp 27)) (some (142, true)) .p), (.mk (some 144) (.bin .eql (.tmp 143) (.lit (.c (.pv (.int
  .i64 0))))) (some (142, true)) .p), (.mk (some 145) (.pick (.tmp 142) (.tmp 144) (.lit (.c (.pv (.bool false))))) none .p), (.mk (some 146) (.mv (.tmp 145))
  none .p), (.mk (some 147) (.mv (.tmp 22)) (some (146, true)) .p), (.mk (some 148) (.mv (.tmp 24)) (some (146, true)) .p), (.mk (some 149) (.mv (.tmp 26))
  (some (146, true)) .p), (.mk (some 150) (.bin .add (.tmp 148) (.tmp 149)) (some (146, true)) .p), (.mk (some 151) (.bin .eql (.tmp 147) (.tmp 150)) (some
  (146, true)) .p), (.mk (some 152) (.pick (.tmp 146) (.tmp 151) (.lit (.c (.pv (.bool false))))) none .p), (.mk (some 8) (.mv (.tmp 152)) none .p)])) (.tr (rl
  [8]) false .ret)))))))))))))))
theorem xf7_ok : cmpFunc Go.Proofs.Tryd.prog 7 ((.two (.tr (rl [0, 0, 0, 0]) false .no) (.two (.two (.tr (rl [0, 0, 0, 0, 34]) false (.ops [{}, { cls := some .p }])) (.tr (rl [0, 0, 0, 0, 4]) false (.two (.two (.tr (rl [8]) false (.ops [{ cls := some .p }])) (.tr (rl [8]) false .no)) .no))) (.two (.tr (rl [1, 0, 0, 5]) false (.ops [{}, { cls := some .p }])) (.two (.tr (rl [2, 0, 5, 0]) false .no) (.two .no (.two (.tr (rl [2, 0, 5, 0, 0, 0]) false .no) (.two (.two (.tr (rl [2, 0, 5, 0, 0, 0, 34, 0, 0]) false .no) (.tr (rl [2, 0, 4, 0, 0, 0]) false (.loop (rl [2, 0, 5, 0, 0, 0, 34, 0, 0]) (.two .no (.two (.tr (rl [2, 0, 5, 0, 0, 0, 34, 0, 0]) false (.two .no (.tr (rl [2, 0, 5, 0, 0]) false .no))) (.two (.tr (rl [2, 0, 4, 0, 0, 0, 0, 34, 0, 0]) false (.two (.tr (rl [2, 0, 5, 0, 0, 0, 1, 32, 0, 0]) false .no) (.two (.tr (rl [2, 0, 5, 0, 0, 0, 34, 0, 0, 4, 0, 0]) false .no) (.tr (rl [2, 0, 4, 0, 0, 0, 0, 34, 0, 0]) false (.loop (rl [2, 0, 5, 0, 0, 0, 34, 0, 0, 4, 0, 0]) (.two .no (.two (.tr (rl [2, 0, 5, 0, 0, 0, 34, 0, 0, 4, 0, 0]) false (.two .no (.tr (rl [2, 0, 5, 0, 0, 0, 34, 0, 0]) false .no))) (.two (.tr (rl [2, 0, 4, 0, 0, 0, 0, 34, 0, 0, 4, 0, 0]) false (.two (.tr (rl [2, 0, 5, 0, 0, 0, 3, 30, 0, 0, 4, 0, 0]) false .no) (.two (.two (.tr (rl [2, 0, 5, 0, 0, 0, 3, 30, 0, 0, 4, 0, 0, 7]) false .no) (.tr (rl [2, 0, 5, 0, 0, 0, 3, 30, 0, 0, 4, 0, 0]) false (.two (.tr (rl [2, 0, 5, 0, 0, 0, 34, 0, 0, 4, 0, 0]) false .no) .no))) (.two (.tr (rl [2, 0, 5, 0, 0, 0, 3, 30, 0, 0, 4, 0, 0]) false .no) (.two (.tr (rl [2, 0, 5, 0, 0, 0, 4, 0, 28, 0, 0, 4, 0, 0]) false (.ops [{}, {}, {}, {}, {}, {}, { cls := some .p }])) (.two (.two (.tr (rl [2, 0, 5, 0, 0, 0, 4, 29, 0, 0, 4, 0, 0, 22]) false .no) (.tr (rl [2, 0, 4, 0, 0, 0, 0, 4, 29, 0, 0, 4, 0, 0]) false (.two (.two .no (.tr (rl [8]) false .no)) .no))) (.tr (rl [2, 0, 5, 0, 0, 0, 34, 0, 0, 4, 0, 0]) false .no))))))) (.tr (rl [2, 0, 5, 0, 0, 0, 34, 0, 0, 4, 0, 0]) false .no))))))))) (.tr (rl [2, 0, 5, 0, 0, 0, 34, 0, 0]) false .no))))))) (.two (.tr (rl [2, 0, 5, 0, 0, 7]) false .no) (.two (.two (.tr (rl [2, 0, 5, 0, 0, 7, 67, 0, 0]) false .no) (.tr (rl [2, 0, 5, 0, 0, 7]) false (.loop (rl [2, 0, 5, 0, 0, 7, 67, 0, 0]) (.two .no (.two (.tr (rl [2, 0, 5, 0, 0, 7, 67, 0, 0]) false (.two .no (.tr (rl [2, 0, 5, 0, 0, 7]) false .no))) (.two (.tr (rl [2, 0, 5, 0, 0, 7, 67, 0, 0]) false (.two (.tr (rl [2, 0, 5, 0, 0, 7, 1, 65, 0, 0]) false .no) (.two (.tr (rl [2, 0, 5, 0, 0, 7, 1, 65, 0, 0, 6]) false .no) (.tr (rl [2, 0, 5, 0, 0, 7, 67, 0, 0]) false (.two (.tr (rl [2, 0, 5, 0, 0, 7, 67, 0, 0]) false .no) .no))))) (.tr (rl [2, 0, 5, 0, 0, 7, 67, 0, 0]) false .no))))))) (.two (.tr (rl [2, 0, 5, 0, 0, 7, 2, 0]) false (.ops [{}, {}, {}, {}, {}, { cls := some .p }])) (.two (.tr (rl [2, 0, 6, 0, 7, 2, 0, 0, 0]) false (.ops [{}, {}, {}, {}, {}, {}, { cls := some .p }])) (.two (.tr (rl [11, 10, 0, 0, 0, 0, 0]) false (.ops [{}, {}, {}, {}, { cls := some .p }])) (.two (.tr (rl [8]) false (.ops [{ cls := some .p }])) (.tr (rl [8]) false .no))))))))))))))) = some xf7 := by kernel_rfl
def xf15_l0 : XCode :=
(.seq (.region false [(.mk (some 11) (.bin .lss (.tmp 10) (.tmp 9)) none .p)]) (.seq (.tr (rl [8, 0, 0]) false (.cond (.tmp 11) .skip (.tr [] false (.exit 0))))
  (.seq (.tr (rl [2, 5, 0, 0]) false (.block 1 (.seq (.tr (rl [4, 3, 0, 0]) false (.region false [(.mk (some 12) (.iaddrS 7 (.tmp 8) (.tmp 10)) none .p), (.mk
  (some 13) (.load true 7 (.tmp 12)) none .r), (.mk (some 4) (.alloc [(.pv (.int .i64 0)), (.pv (.int .i32 0)), (.pv (.int .i32 0)), (.pv (.sl .nil 0 [])), (.pv
  (.int .i64 0)), (.pv (.int .i64 0)), (.pv (.str []))]) none .w), (.mk none (.store 7 (.tmp 4) (.tmp 13)) none .w)])) (.seq (.tr (rl [8, 0, 0, 5]) false
  (.region false [(.mk (some 14) (.load true 7 (.tmp 4)) none .r), (.mk (some 15) (.call false [] (.lit (.c (.fn 16 []))) [(.tmp 14)]) none .p), (.mk (some 16)
  (.un .not (.tmp 15)) none .p)])) (.tr (rl [2, 5, 0, 0]) false (.cond (.tmp 16) (.seq (.region false [(.mk (some 2) (.mv (.lit (.c (.pv (.bool false))))) none
  .p)]) (.tr (rl [2]) false .ret)) .skip)))))) (.tr (rl [8, 0, 0]) false (.region false [(.mk (some 17) (.bin .add (.tmp 10) (.lit (.c (.pv (.int .i64 1)))))
  none .p), (.mk (some 10) (.mv (.tmp 17)) none .p)])))))
def xf15 : XFunc :=
(.mk 18 [(.tmp 2)] (.seq (.tr (rl [0]) false (.region false [(.mk (some 2) (.mv (.lit (.c (.pv (.bool false))))) none .p)])) (.seq (.seq (.tr (rl [0, 6]) false
  (.region false [(.mk (some 5) (.mv (.tmp 0)) none .p), (.mk (some 6) (.len (.tmp 5)) none .p), (.mk (some 7) (.bin .gtr (.tmp 6) (.lit (.c (.pv (.int .i64
  60))))) none .p)])) (.tr (rl [0, 1]) false (.cond (.tmp 7) (.seq (.region false [(.mk (some 2) (.mv (.lit (.c (.pv (.bool false))))) none .p)]) (.tr (rl [2])
  false .ret)) .skip))) (.seq (.seq (.tr (rl [8, 0, 0]) false (.region false [(.mk (some 8) (.mv (.tmp 0)) none .p), (.mk (some 9) (.len (.tmp 8)) none .p),
  (.mk (some 10) (.mv (.lit (.c (.pv (.int .i64 0))))) none .p)])) (.tr (rl [2]) false (.block 0 (.loop (rl [8, 0, 0]) xf15_l0)))) (.seq (.region false [(.mk
  (some 2) (.mv (.lit (.c (.pv (.bool true))))) none .p)]) (.tr (rl [2]) false .ret))))))
theorem xf15_ok : cmpFunc Go.Proofs.Tryd.prog 15 ((.two (.tr (rl [0]) false .no) (.two (.two (.tr (rl [0, 6]) false .no) (.tr (rl [0, 1]) false (.two (.two .no (.tr (rl [2]) false .no)) .no))) (.two (.two (.tr (rl [8, 0, 0]) false .no) (.tr (rl [2]) false (.loop (rl [8, 0, 0]) (.two .no (.two (.tr (rl [8, 0, 0]) false (.two .no (.tr [] false .no))) (.two (.tr (rl [2, 5, 0, 0]) false (.two (.tr (rl [4, 3, 0, 0]) false .no) (.two (.tr (rl [8, 0, 0, 5]) false (.ops [{}, { cls := some .p }])) (.tr (rl [2, 5, 0, 0]) false (.two (.two .no (.tr (rl [2]) false .no)) .no))))) (.tr (rl [8, 0, 0]) false .no))))))) (.two .no (.tr (rl [2]) false .no)))))) = some xf15 := by kernel_rfl
def xf16 : XFunc :=
(.mk 13 [(.tmp 2)] (.seq (.tr (rl [1]) false (.region false [(.mk (some 1) (.box (.tmp 0) 7) none .w), (.mk (some 2) (.mv (.lit (.c (.pv (.bool false))))) none
  .p)])) (.seq (.tr (rl [2]) false (.region false [(.mk (some 3) (.faddr 3 (.tmp 1)) none .p), (.mk (some 4) (.load false 1 (.tmp 3)) none .r), (.mk (some 5)
  (.len (.tmp 4)) none .p), (.mk (some 6) (.bin .leq (.tmp 5) (.lit (.c (.pv (.int .i64 40))))) none .p), (.mk (some 7) (.mv (.tmp 6)) none .p), (.mk (some 8)
  (.faddr 6 (.tmp 1)) (some (7, true)) .p), (.mk (some 9) (.load false 1 (.tmp 8)) (some (7, true)) .r), (.mk (some 10) (.lenS (.tmp 9)) (some (7, true)) .p),
  (.mk (some 11) (.bin .leq (.tmp 10) (.lit (.c (.pv (.int .i64 400))))) (some (7, true)) .p), (.mk (some 12) (.pick (.tmp 7) (.tmp 11) (.lit (.c (.pv (.bool
  false))))) none .p), (.mk (some 2) (.mv (.tmp 12)) none .p)])) (.tr (rl [2]) false .ret))))
theorem xf16_ok : cmpFunc Go.Proofs.Tryd.prog 16 ((.two (.tr (rl [1]) false .no) (.two (.tr (rl [2]) false .no) (.tr (rl [2]) false .no)))) = some xf16 := by kernel_rfl
def xf17 : XFunc :=
(.mk 206 [(.tmp 0)] (.seq (.tr [] false (.region false [(.mk (some 0) (.mv (.lit (.c (.pv (.bool false))))) none .p)])) (.seq (.tr (rl [1, 0]) false (.region
  false [(.mk (some 30) (.build [(.pv (.sl .nil 0 []))] []) none .p), (.mk (some 31) (.call false [] (.lit (.c (.fn 58 []))) [(.lit (.c (.pv (.int .i64 1)))),
  (.lit (.c (.pv (.int .i32 5)))), (.lit (.c (.pv (.int .i32 3)))), (.lit (.c (.pv (.int .i64 100))))]) none .p), (.mk (some 32) (.call false [] (.lit (.c (.fn
  19 []))) [(.tmp 30), (.tmp 31)]) none .p), (.mk (some 29) (.mv (.tmp 32)) none .p), (.mk (some 33) (.extr 0 (.tmp 29)) none .p), (.mk (some 34) (.extr 1 (.tmp
  29)) none .p), (.mk (some 1) (.alloc [(.pv (.sl .nil 0 []))]) none .w), (.mk none (.store 1 (.tmp 1) (.tmp 33)) none .w), (.mk (some 2) (.mv (.tmp 34)) none
  .p)])) (.seq (.tr (rl [2, 0, 0]) false (.region true [(.mk (some 36) (.load true 1 (.tmp 1)) none .r), (.mk (some 37) (.call false [] (.lit (.c (.fn 58 [])))
  [(.lit (.c (.pv (.int .i64 2)))), (.lit (.c (.pv (.int .i32 9)))), (.lit (.c (.pv (.int .i32 4)))), (.lit (.c (.pv (.int .i64 7))))]) none .p), (.mk (some 38)
  (.call false [] (.lit (.c (.fn 19 []))) [(.tmp 36), (.tmp 37)]) none .p), (.mk (some 35) (.mv (.tmp 38)) none .p), (.mk (some 39) (.extr 0 (.tmp 35)) none
  .p), (.mk (some 40) (.extr 1 (.tmp 35)) none .p), (.mk (some 3) (.alloc [(.pv (.sl .nil 0 []))]) none .w), (.mk none (.store 1 (.tmp 3) (.tmp 39)) none .w),
  (.mk (some 4) (.mv (.tmp 40)) none .p)])) (.seq (.tr (rl [2, 0, 0, 1]) false (.region true [(.mk (some 42) (.load true 1 (.tmp 3)) none .r), (.mk (some 43)
  (.call false [] (.lit (.c (.fn 58 []))) [(.lit (.c (.pv (.int .i64 2)))), (.lit (.c (.pv (.int .i32 9)))), (.lit (.c (.pv (.int .i32 4)))), (.lit (.c (.pv
  (.int .i64 7))))]) none .p), (.mk (some 44) (.call false [] (.lit (.c (.fn 19 []))) [(.tmp 42), (.tmp 43)]) none .p), (.mk (some 41) (.mv (.tmp 44)) none .p),
  (.mk (some 45) (.extr 0 (.tmp 41)) none .p), (.mk (some 46) (.extr 1 (.tmp 41)) none .p), (.mk (some 5) (.alloc [(.pv (.sl .nil 0 []))]) none .w), (.mk none
  (.store 1 (.tmp 5) (.tmp 45)) none .w), (.mk (some 6) (.mv (.tmp 46)) none .p)])) (.seq (.tr (rl [2, 0, 0, 1, 1]) false (.region true [(.mk (some 48) (.load
  true 1 (.tmp 3)) none .r), (.mk (some 49) (.call false [] (.lit (.c (.fn 58 []))) [(.lit (.c (.pv (.int .i64 3)))), (.lit (.c (.pv (.int .i32 8)))), (.lit (.c
  (.pv (.int .i32 4)))), (.lit (.c (.pv (.int .i64 7))))]) none .p), (.mk (some 50) (.call false [] (.lit (.c (.fn 19 []))) [(.tmp 48), (.tmp 49)]) none .p),
  (.mk (some 47) (.mv (.tmp 50)) none .p), (.mk (some 51) (.extr 0 (.tmp 47)) none .p), (.mk (some 52) (.extr 1 (.tmp 47)) none .p), (.mk (some 7) (.alloc [(.pv
  (.sl .nil 0 []))]) none .w), (.mk none (.store 1 (.tmp 7) (.tmp 51)) none .w), (.mk (some 8) (.mv (.tmp 52)) none .p)])) (.seq (.tr (rl [2, 0, 0, 1, 1, 0])
  false (.region false [(.mk (some 54) (.call false [] (.lit (.c (.fn 58 []))) [(.lit (.c (.pv (.int .i64 1)))), (.lit (.c (.pv (.int .i32 5)))), (.lit (.c (.pv
  (.int .i32 3)))), (.lit (.c (.pv (.int .i64 100))))]) none .p), (.mk (some 55) (.call false [] (.lit (.c (.fn 38 []))) [(.tmp 54), (.lit (.c (.pv (.int .i64
  3)))), (.lit (.c (.pv (.int .i32 10))))]) none .p), (.mk (some 53) (.mv (.tmp 55)) none .p), (.mk (some 56) (.extr 0 (.tmp 53)) none .p), (.mk (some 57)
  (.extr 1 (.tmp 53)) none .p), (.mk (some 9) (.alloc [(.pv (.int .i64 0)), (.pv (.int .i32 0)), (.pv (.int .i32 0)), (.pv (.sl .nil 0 [])), (.pv (.int .i64
  0)), (.pv (.int .i64 0)), (.pv (.str []))]) none .w), (.mk none (.store 7 (.tmp 9) (.tmp 56)) none .w), (.mk (some 10) (.mv (.tmp 57)) none .p)])) (.seq (.tr
  (rl [2, 0, 0, 1, 1, 0, 1, 0]) false (.region false [(.mk (some 59) (.load true 1 (.tmp 3)) none .r), (.mk (some 60) (.load true 7 (.tmp 9)) none .r), (.mk
  (some 61) (.call false [] (.lit (.c (.fn 19 []))) [(.tmp 59), (.tmp 60)]) none .p), (.mk (some 58) (.mv (.tmp 61)) none .p), (.mk (some 62) (.extr 0 (.tmp
  58)) none .p), (.mk (some 63) (.extr 1 (.tmp 58)) none .p), (.mk (some 11) (.alloc [(.pv (.sl .nil 0 []))]) none .w), (.mk none (.store 1 (.tmp 11) (.tmp 62))
  none .w), (.mk (some 12) (.mv (.tmp 63)) none .p)])) (.seq (.tr (rl [2, 0, 0, 1, 1, 0, 1, 0]) false (.region false [(.mk (some 64) (.faddr 0 (.tmp 9)) none
  .p), (.mk none (.store 1 (.tmp 64) (.lit (.c (.pv (.int .i64 4))))) none .w)])) (.seq (.tr (rl [2, 0, 0, 1, 1, 2, 0, 1]) false (.region false [(.mk (some 66)
  (.load true 1 (.tmp 11)) none .r), (.mk (some 67) (.load true 7 (.tmp 9)) none .r), (.mk (some 68) (.call false [] (.lit (.c (.fn 19 []))) [(.tmp 66), (.tmp
  67)]) none .p), (.mk (some 65) (.mv (.tmp 68)) none .p), (.mk (some 69) (.extr 0 (.tmp 65)) none .p), (.mk (some 70) (.extr 1 (.tmp 65)) none .p), (.mk (some
  13) (.alloc [(.pv (.sl .nil 0 []))]) none .w), (.mk none (.store 1 (.tmp 13) (.tmp 69)) none .w), (.mk (some 14) (.mv (.tmp 70)) none .p)])) (.seq (.tr (rl
  [2, 0, 0, 1, 1, 2, 0, 1, 0, 0]) false (.region false [(.mk (some 72) (.load true 1 (.tmp 3)) none .r), (.mk (some 73) (.call false [] (.lit (.c (.fn 20 [])))
  [(.tmp 72), (.lit (.c (.pv (.int .i32 5))))]) none .p), (.mk (some 71) (.mv (.tmp 73)) none .p), (.mk (some 74) (.extr 0 (.tmp 71)) none .p), (.mk (some 75)
  (.extr 1 (.tmp 71)) none .p), (.mk (some 15) (.alloc [(.pv (.sl .nil 0 []))]) none .w), (.mk none (.store 1 (.tmp 15) (.tmp 74)) none .w), (.mk (some 16) (.mv
  (.tmp 75)) none .p)])) (.seq (.tr (rl [2, 0, 0, 1, 1, 2, 0, 1, 0, 0, 0, 0]) false (.region false [(.mk (some 77) (.load true 1 (.tmp 3)) none .r), (.mk (some
  78) (.call false [] (.lit (.c (.fn 21 []))) [(.tmp 77), (.lit (.c (.pv (.int .i32 9)))), (.lit (.c (.pv (.int .i32 3))))]) none .p), (.mk (some 76) (.mv (.tmp
  78)) none .p), (.mk (some 79) (.extr 0 (.tmp 76)) none .p), (.mk (some 80) (.extr 1 (.tmp 76)) none .p), (.mk (some 17) (.mv (.tmp 79)) none .p), (.mk (some
  18) (.mv (.tmp 80)) none .p)])) (.seq (.tr (rl [2, 0, 0, 1, 1, 2, 0, 1, 0, 0, 0, 0, 0, 0]) false (.region false [(.mk (some 82) (.load true 1 (.tmp 11)) none
  .r), (.mk (some 83) (.call false [] (.lit (.c (.fn 24 []))) [(.tmp 82)]) none .p), (.mk (some 81) (.mv (.tmp 83)) none .p), (.mk (some 84) (.extr 0 (.tmp 81))
  none .p), (.mk (some 85) (.extr 1 (.tmp 81)) none .p), (.mk (some 19) (.mv (.tmp 84)) none .p), (.mk (some 20) (.mv (.tmp 85)) none .p)])) (.seq (.tr (rl [2,
  0, 0, 1, 1, 2, 0, 1, 0, 0, 0, 0, 0, 0, 0, 0]) false (.region false [(.mk (some 87) (.faddr 0 (.tmp 11)) none .p), (.mk (some 88) (.load false 1 (.tmp 87))
  none .r), (.mk (some 89) (.call false [] (.lit (.c (.fn 33 []))) [(.tmp 88), (.lit (.c (.pv (.int .i64 2)))), (.lit (.c (.pv (.int .i64 0)))), (.lit (.c (.pv
  (.int .i32 9))))]) none .p), (.mk (some 86) (.mv (.tmp 89)) none .p), (.mk (some 90) (.extr 0 (.tmp 86)) none .p), (.mk (some 91) (.extr 1 (.tmp 86)) none
  .p), (.mk (some 21) (.mv (.tmp 90)) none .p), (.mk (some 22) (.mv (.tmp 91)) none .p)])) (.seq (.tr (rl [2, 1, 1, 1, 2, 0, 1, 0, 0, 0, 0, 0, 0, 0, 0, 0, 0])
  false (.region false [(.mk (some 93) (.faddr 0 (.tmp 3)) none .p), (.mk (some 94) (.load false 1 (.tmp 93)) none .r), (.mk (some 95) (.call false [] (.lit (.c
  (.fn 33 []))) [(.tmp 94), (.lit (.c (.pv (.int .i64 2)))), (.lit (.c (.pv (.int .i64 0)))), (.lit (.c (.pv (.int .i32 3))))]) none .p), (.mk (some 92) (.mv
  (.tmp 95)) none .p), (.mk (some 96) (.extr 0 (.tmp 92)) none .p), (.mk (some 97) (.extr 1 (.tmp 92)) none .p), (.mk (some 23) (.mv (.tmp 96)) none .p), (.mk
  (some 24) (.mv (.tmp 97)) none .p)])) (.seq (.tr (rl [2, 1, 1, 1, 2, 0, 1, 0, 0, 0, 0, 0, 0, 0, 0, 0, 0, 0, 0]) false (.region false [(.mk (some 99) (.load
  true 1 (.tmp 11)) none .r), (.mk (some 100) (.call false [] (.lit (.c (.fn 23 []))) [(.tmp 99), (.lit (.c (.pv (.int .i64 1))))]) none .p), (.mk (some 98)
  (.mv (.tmp 100)) none .p), (.mk (some 101) (.extr 0 (.tmp 98)) none .p), (.mk (some 102) (.extr 1 (.tmp 98)) none .p), (.mk (some 25) (.mv (.tmp 101)) none
  .p), (.mk (some 26) (.mv (.tmp 102)) none .p)])) (.seq (.tr (rl [2, 1, 1, 1, 2, 0, 1, 0, 0, 0, 0, 0, 0, 0, 0, 0, 0, 0, 0, 0, 0]) false (.region false [(.mk
  (some 104) (.load true 1 (.tmp 11)) none .r), (.mk (some 105) (.call false [] (.lit (.c (.fn 22 []))) [(.tmp 104)]) none .p), (.mk (some 103) (.mv (.tmp 105))
  none .p), (.mk (some 106) (.extr 0 (.tmp 103)) none .p), (.mk (some 107) (.extr 1 (.tmp 103)) none .p), (.mk (some 27) (.mv (.tmp 106)) none .p), (.mk (some
  28) (.mv (.tmp 107)) none .p)])) (.seq (.seq (.tr (rl [2, 1, 1, 1, 2, 0, 1, 0, 0, 0, 0, 0, 0, 0, 0, 0, 0, 0, 0, 0, 0, 82]) false (.region false [(.mk (some
  108) (.faddr 0 (.tmp 11)) none .p), (.mk (some 109) (.load false 1 (.tmp 108)) none .r), (.mk (some 110) (.len (.tmp 109)) none .p), (.mk (some 111) (.bin
  .neq (.tmp 110) (.lit (.c (.pv (.int .i64 3))))) none .p)])) (.tr (rl [0, 1, 1, 1, 1, 2, 0, 1, 0, 0, 0, 0, 0, 0, 0, 0, 0, 0, 0, 0, 0, 0]) false (.cond (.tmp
  111) (.seq (.region false [(.mk (some 0) (.mv (.lit (.c (.pv (.bool false))))) none .p)]) (.tr (rl [0]) false .ret)) .skip))) (.seq (.tr (rl [0]) false
  (.region false [(.mk (some 112) (.mv (.tmp 2)) none .p), (.mk (some 113) (.bin .eql (.tmp 112) (.lit (.c (.pv (.int .i64 0))))) none .p), (.mk (some 114) (.mv
  (.tmp 113)) none .p), (.mk (some 115) (.mv (.tmp 4)) (some (114, true)) .p), (.mk (some 116) (.bin .eql (.tmp 115) (.lit (.c (.pv (.int .i64 0))))) (some
  (114, true)) .p), (.mk (some 117) (.pick (.tmp 114) (.tmp 116) (.lit (.c (.pv (.bool false))))) none .p), (.mk (some 118) (.mv (.tmp 117)) none .p), (.mk
  (some 119) (.mv (.tmp 6)) (some (118, true)) .p), (.mk (some 120) (.bin .eql (.tmp 119) (.lit (.c (.pv (.int .i64 25))))) (some (118, true)) .p), (.mk (some
  121) (.pick (.tmp 118) (.tmp 120) (.lit (.c (.pv (.bool false))))) none .p), (.mk (some 122) (.mv (.tmp 121)) none .p), (.mk (some 123) (.mv (.tmp 8)) (some
  (122, true)) .p), (.mk (some 124) (.bin .eql (.tmp 123) (.lit (.c (.pv (.int .i64 20))))) (some (122, true)) .p), (.mk (some 125) (.pick (.tmp 122) (.tmp 124)
  (.lit (.c (.pv (.bool false))))) none .p), (.mk (some 126) (.mv (.tmp 125)) none .p), (.mk (some 127) (.mv (.tmp 12)) (some (126, true)) .p), (.mk (some 128)
  (.bin .eql (.tmp 127) (.lit (.c (.pv (.int .i64 0))))) (some (126, true)) .p), (.mk (some 129) (.pick (.tmp 126) (.tmp 128) (.lit (.c (.pv (.bool false)))))
  none .p), (.mk (some 130) (.mv (.tmp 129)) none .p), (.mk (some 131) (.mv (.tmp 14)) (some (130, true)) .p), (.mk (some 132) (.bin .eql (.tmp 131) (.lit (.c
  (.pv (.int .i64 23))))) (some (130, true)) .p), (.mk (some 133) (.pick (.tmp 130) (.tmp 132) (.lit (.c (.pv (.bool false))))) none .p), (.mk (some 134) (.mv
  (.tmp 133)) none .p), (.mk (some 135) (.faddr 0 (.tmp 15)) (some (134, true)) .p), (.mk (some 136) (.load false 1 (.tmp 135)) (some (134, true)) .r), (.mk
  (some 137) (.len (.tmp 136)) (some (134, true)) .p), (.mk (some 138) (.bin .eql (.tmp 137) (.lit (.c (.pv (.int .i64 1))))) (some (134, true)) .p), (.mk (some
  139) (.pick (.tmp 134) (.tmp 138) (.lit (.c (.pv (.bool false))))) none .p), (.mk (some 140) (.mv (.tmp 139)) none .p), (.mk (some 141) (.mv (.tmp 16)) (some
  (140, true)) .p), (.mk (some 142) (.bin .eql (.tmp 141) (.lit (.c (.pv (.int .i64 0))))) (some (140, true)) .p), (.mk (some 143) (.pick (.tmp 140) (.tmp 142)
  (.lit (.c (.pv (.bool false))))) none .p), (.mk (some 144) (.mv (.tmp 143)) none .p), (.mk (some 145) (.mv (.tmp 17)) (some (144, true)) .p), (.mk (some 146)
  (.len (.tmp 145)) (some (144, true)) .p), (.mk (some 147) (.bin .eql (.tmp 146) (.lit (.c (.pv (.int .i64 1))))) (some (144, true)) .p), (.mk (some 148)
  (.pick (.tmp 144) (.tmp 147) (.lit (.c (.pv (.bool false))))) none .p), (.mk (some 149) (.mv (.tmp 148)) none .p), (.mk (some 150) (.mv (.tmp 18)) (some (149,
  true)) .p), (.mk (some 151) (.bin .eql (.tmp 150) (.lit (.c (.pv (.int .i64 0))))) (some (149, true)) .p), (.mk (some 152) (.pick (.tmp 149) (.tmp 151) (.lit
  (.c (.pv (.bool false))))) none .p), (.mk (some 153) (.mv (.tmp 152)) none .p), (.mk (some 154) (.mv (.tmp 19)) (some (153, true)) .p), (.mk (some 155)
  (.buildSl [(.pv (.int .i64 0))] 1 1 [(0, (1, (.lit (.c (.pv (.int .i64 2))))))]) (some (153, true)) .p), (.mk (some 156) (.call false [] (.lit (.c (.fn 31
  []))) [(.tmp 154), (.tmp 155)]) (some (153, true)) .p), (.mk (some 157) (.pick (.tmp 153) (.tmp 156) (.lit (.c (.pv (.bool false))))) none .p), (.mk (some
  158) (.mv (.tmp 157)) none .p), (.mk (some 159) (.mv (.tmp 20)) (some (158, true)) .p), (.mk (some 160) (.bin .eql (.tmp 159) (.lit (.c (.pv (.int .i64 0)))))
  (some (158, true)) .p), (.mk (some 161) (.pick (.tmp 158) (.tmp 160) (.lit (.c (.pv (.bool false))))) none .p), (.mk (some 162) (.mv (.tmp 161)) none .p),
  (.mk (some 163) (.mv (.tmp 21)) (some (162, true)) .p), (.mk (some 164) (.bin .eql (.tmp 163) (.lit (.c (.pv (.int .i64 7))))) (some (162, true)) .p), (.mk
  (some 165) (.pick (.tmp 162) (.tmp 164) (.lit (.c (.pv (.bool false))))) none .p), (.mk (some 166) (.mv (.tmp 165)) none .p), (.mk (some 167) (.mv (.tmp 22))
  (some (166, true)) .p), (.mk (some 168) (.bin .eql (.tmp 167) (.lit (.c (.pv (.int .i64 0))))) (some (166, true)) .p), (.mk (some 169) (.pick (.tmp 166) (.tmp
  168) (.lit (.c (.pv (.bool false))))) none .p), (.mk (some 170) (.mv (.tmp 169)) none .p), (.mk (some 171) (.mv (.tmp 23)) (some (170, true)) .p), (.mk (some
  172) (.bin .eql (.tmp 171) (.lit (.c (.pv (.int .i64 100))))) (some (170, true)) .p), (.mk (some 173) (.pick (.tmp 170) (.tmp 172) (.lit (.c (.pv (.bool
  false))))) none .p), (.mk (some 174) (.mv (.tmp 173)) none .p), (.mk (some 175) (.mv (.tmp 24)) (some (174, true)) .p), (.mk (some 176) (.bin .eql (.tmp 175)
  (.lit (.c (.pv (.int .i64 0))))) (some (174, true)) .p), (.mk (some 177) (.pick (.tmp 174) (.tmp 176) (.lit (.c (.pv (.bool false))))) none .p), (.mk (some
  178) (.mv (.tmp 177)) none .p), (.mk (some 179) (.mv (.tmp 25)) (some (178, true)) .p), (.mk (some 180) (.bin .eql (.tmp 179) (.lit (.c (.pv (.int .i32 3)))))
  (some (178, true)) .p), (.mk (some 181) (.pick (.tmp 178) (.tmp 180) (.lit (.c (.pv (.bool false))))) none .p), (.mk (some 182) (.mv (.tmp 181)) none .p),
  (.mk (some 183) (.mv (.tmp 26)) (some (182, true)) .p), (.mk (some 184) (.pick (.tmp 182) (.tmp 183) (.lit (.c (.pv (.bool false))))) none .p), (.mk (some
  185) (.mv (.tmp 184)) none .p), (.mk (some 186) (.mv (.tmp 27)) (some (185, true)) .p), (.mk (some 187) (.len (.tmp 186)) (some (185, true)) .p), (.mk (some
  188) (.bin .eql (.tmp 187) (.lit (.c (.pv (.int .i64 3))))) (some (185, true)) .p), (.mk (some 189) (.pick (.tmp 185) (.tmp 188) (.lit (.c (.pv (.bool
  false))))) none .p), (.mk (some 190) (.mv (.tmp 189)) none .p), (.mk (some 191) (.mv (.tmp 28)) (some (190, true)) .p), (.mk (some 192) (.bin .eql (.tmp 191)
  (.lit (.c (.pv (.int .i64 0))))) (some (190, true)) .p), (.mk (some 193) (.pick (.tmp 190) (.tmp 192) (.lit (.c (.pv (.bool false))))) none .p), (.mk (some
  194) (.mv (.tmp 193)) none .p), (.mk (some 195) (.load true 1 (.tmp 11)) (some (194, true)) .r), (.mk (some 196) (.call false [] (.lit (.c (.fn 25 [])))
  [(.tmp 195)]) (some (194, true)) .p), (.mk (some 197) (.pick (.tmp 194) (.tmp 196) (.lit (.c (.pv (.bool false))))) none .p), (.mk (some 198) (.mv (.tmp 197))
  none .p), (.mk (some 199) (.faddr 0 (.tmp 11)) (some (198, true)) .p), (.mk (some 200) (.load false 1 (.tmp 199)) (some (198, true)) .r), (.mk (some 201)
  (.sliceV 7 (.tmp 200) (some (.lit (.c (.pv (.int .i64 1))))) none none) (some (198, true)) .p), (.mk (some 202) (.build [(.pv (.sl .nil 0 []))] [(0, (1, (.tmp
  201)))]) (some (198, true)) .p), (.mk (some 203) (.call false [] (.lit (.c (.fn 25 []))) [(.tmp 202)]) (some (198, true)) .p), (.mk (some 204) (.un .not (.tmp
  203)) (some (198, true)) .p), (.mk (some 205) (.pick (.tmp 198) (.tmp 204) (.lit (.c (.pv (.bool false))))) none .p), (.mk (some 0) (.mv (.tmp 205)) none
  .p)])) (.tr (rl [0]) false .ret))))))))))))))))))))
theorem xf17_ok : cmpFunc Go.Proofs.Tryd.prog 17 ((.two (.tr [] false .no) (.two (.tr (rl [1, 0]) false (.ops [{}, { cls := some .p }, { cls := some .p }])) (.two (.tr (rl [2, 0, 0]) false (.draw [0, 1, 2, 3, 4, 5, 6, 7, 8] [{}, { cls := some .p }, { cls := some .p }])) (.two (.tr (rl [2, 0, 0, 1]) false (.draw [0, 1, 2, 3, 4, 5, 6, 7, 8] [{}, { cls := some .p }, { cls := some .p }])) (.two (.tr (rl [2, 0, 0, 1, 1]) false (.draw [0, 1, 2, 3, 4, 5, 6, 7, 8] [{}, { cls := some .p }, { cls := some .p }])) (.two (.tr (rl [2, 0, 0, 1, 1, 0]) false (.ops [{ cls := some .p }, { cls := some .p }])) (.two (.tr (rl [2, 0, 0, 1, 1, 0, 1, 0]) false (.ops [{}, {}, { cls := some .p }])) (.two (.tr (rl [2, 0, 0, 1, 1, 0, 1, 0]) false .no) (.two (.tr (rl [2, 0, 0, 1, 1, 2, 0, 1]) false (.ops [{}, {}, { cls := some .p }])) (.two (.tr (rl [2, 0, 0, 1, 1, 2, 0, 1, 0, 0]) false (.ops [{}, { cls := some .p }])) (.two (.tr (rl [2, 0, 0, 1, 1, 2, 0, 1, 0, 0, 0, 0]) false (.ops [{}, { cls := some .p }])) (.two (.tr (rl [2, 0, 0, 1, 1, 2, 0, 1, 0, 0, 0, 0, 0, 0]) false (.ops [{}, { cls := some .p }])) (.two (.tr (rl [2, 0, 0, 1, 1, 2, 0, 1, 0, 0, 0, 0, 0, 0, 0, 0]) false (.ops [{}, {}, { cls := some .p }])) (.two (.tr (rl [2, 1, 1, 1, 2, 0, 1, 0, 0, 0, 0, 0, 0, 0, 0, 0, 0]) false (.ops [{}, {}, { cls := some .p }])) (.two (.tr (rl [2, 1, 1, 1, 2, 0, 1, 0, 0, 0, 0, 0, 0, 0, 0, 0, 0, 0, 0]) false (.ops [{}, { cls := some .p }])) (.two (.tr (rl [2, 1, 1, 1, 2, 0, 1, 0, 0, 0, 0, 0, 0, 0, 0, 0, 0, 0, 0, 0, 0]) false (.ops [{}, { cls := some .p }])) (.two (.two (.tr (rl [2, 1, 1, 1, 2, 0, 1, 0, 0, 0, 0, 0, 0, 0, 0, 0, 0, 0, 0, 0, 0, 82]) false .no) (.tr (rl [0, 1, 1, 1, 1, 2, 0, 1, 0, 0, 0, 0, 0, 0, 0, 0, 0, 0, 0, 0, 0, 0]) false (.two (.two .no (.tr (rl [0]) false .no)) .no))) (.two (.tr (rl [0]) false (.ops [{}, {}, {}, {}, {}, {}, {}, {}, {}, {}, {}, {}, {}, {}, {}, {}, {}, {}, {}, {}, {}, {}, {}, {}, {}, {}, {}, {}, {}, {}, {}, {}, {}, {}, {}, {}, {}, {}, {}, {}, {}, {}, {}, {}, { cls := some .p }, {}, {}, {}, {}, {}, {}, {}, {}, {}, {}, {}, {}, {}, {}, {}, {}, {}, {}, {}, {}, {}, {}, {}, {}, {}, {}, {}, {}, {}, {}, {}, {}, {}, {}, {}, {}, {}, {}, {}, { cls := some .p }, {}, {}, {}, {}, {}, {}, { cls := some .p }])) (.tr (rl [0]) false .no)))))))))))))))))))) = some xf17 := by kernel_rfl
def xf18_l0 : XCode :=
(.seq (.seq (.tr (rl [1, 1, 4]) false (.region false [(.mk (some 4) (.mv (.tmp 3)) none .p), (.mk (some 5) (.faddr 0 (.tmp 1)) none .p), (.mk (some 6) (.load
  false 1 (.tmp 5)) none .r), (.mk (some 7) (.len (.tmp 6)) none .p), (.mk (some 8) (.bin .lss (.tmp 4) (.tmp 7)) none .p)])) (.tr (rl [1, 1]) false (.cond
  (.tmp 8) .skip (.tr [] false (.exit 0))))) (.seq (.tr (rl [1, 0, 0]) false (.block 1 (.seq (.tr (rl [1, 1, 17]) false (.region true [(.mk (some 11) (.faddr 0
  (.tmp 1)) none .p), (.mk (some 12) (.load false 1 (.tmp 11)) none .r), (.mk (some 13) (.mv (.tmp 3)) none .p), (.mk (some 14) (.sliceV 7 (.tmp 12) none (some
  (.tmp 13)) none) none .p), (.mk (some 15) (.faddr 0 (.tmp 1)) none .p), (.mk (some 16) (.load false 1 (.tmp 15)) none .r), (.mk (some 17) (.mv (.tmp 3)) none
  .p), (.mk (some 18) (.iaddrS 7 (.tmp 16) (.tmp 17)) none .p), (.mk (some 19) (.load true 7 (.tmp 18)) none .r), (.mk (some 20) (.call false [] (.lit (.c (.fn
  26 []))) [(.tmp 14), (.tmp 19)]) none .p), (.mk (some 21) (.bin .neq (.tmp 20) (.lit (.c (.pv (.int .i64 0))))) none .p)])) (.tr (rl [1, 0, 0]) false (.cond
  (.tmp 21) (.seq (.region false [(.mk (some 2) (.mv (.lit (.c (.pv (.bool false))))) none .p)]) (.tr (rl [2]) false .ret)) .skip))))) (.tr (rl [1, 1]) false
  (.region false [(.mk (some 9) (.mv (.tmp 3)) none .p), (.mk (some 10) (.bin .add (.tmp 9) (.lit (.c (.pv (.int .i64 1))))) none .p), (.mk (some 3) (.mv (.tmp
  10)) none .p)]))))
def xf18 : XFunc :=
(.mk 22 [(.tmp 2)] (.seq (.tr (rl [1]) false (.region false [(.mk (some 1) (.box (.tmp 0) 1) none .w), (.mk (some 2) (.mv (.lit (.c (.pv (.bool false))))) none
  .p)])) (.seq (.seq (.region false [(.mk (some 3) (.mv (.lit (.c (.pv (.int .i64 0))))) none .p)]) (.tr (rl [2]) false (.block 0 (.loop (rl [1, 1]) xf18_l0))))
  (.seq (.region false [(.mk (some 2) (.mv (.lit (.c (.pv (.bool true))))) none .p)]) (.tr (rl [2]) false .ret)))))
theorem xf18_ok : cmpFunc Go.Proofs.Tryd.prog 18 ((.two (.tr (rl [1]) false .no) (.two (.two .no (.tr (rl [2]) false (.loop (rl [1, 1]) (.two (.two (.tr (rl [1, 1, 4]) false .no) (.tr (rl [1, 1]) false (.two .no (.tr [] false .no)))) (.two (.tr (rl [1, 0, 0]) false (.two (.tr (rl [1, 1, 17]) false (.draw [0, 1, 2, 3, 4, 5, 6, 7, 8, 9, 10] [{}, {}, {}, {}, {}, {}, {}, {}, {}, { cls := some .p }])) (.tr (rl [1, 0, 0]) false (.two (.two .no (.tr (rl [2]) false .no)) .no)))) (.tr (rl [1, 1]) false .no)))))) (.two .no (.tr (rl [2]) false .no))))) = some xf18 := by kernel_rfl
def xf19 : XFunc :=
(.mk 39 [(.cell 4 true 1), (.tmp 5)] (.seq (.tr (rl [2, 0, 0]) false (.region false [(.mk (some 2) (.box (.tmp 0) 1) none .w), (.mk (some 3) (.box (.tmp 1) 7)
  none .w), (.mk (some 4) (.alloc [(.pv (.sl .nil 0 []))]) none .w), (.mk (some 5) (.mv (.lit (.c (.pv (.int .i64 0))))) none .p)])) (.seq (.seq (.tr (rl [2, 0,
  0, 6]) false (.region false [(.mk (some 9) (.load true 1 (.tmp 2)) none .r), (.mk (some 10) (.call false [] (.lit (.c (.fn 25 []))) [(.tmp 9)]) none .p), (.mk
  (some 11) (.un .not (.tmp 10)) none .p)])) (.tr (rl [2, 0, 0, 0]) false (.cond (.tmp 11) (.seq (.tr (rl [4, 0]) false (.region false [(.mk (some 12) (.build
  [(.pv (.sl .nil 0 []))] []) none .p), (.mk none (.store 1 (.tmp 4) (.tmp 12)) none .w), (.mk (some 5) (.mv (.lit (.c (.pv (.int .i64 1))))) none .p)])) (.tr
  (rl [4, 0]) false .ret)) .skip))) (.seq (.seq (.tr (rl [2, 0, 0, 1]) false (.region false [(.mk (some 13) (.load true 7 (.tmp 3)) none .r), (.mk (some 14)
  (.call false [] (.lit (.c (.fn 37 []))) [(.tmp 13)]) none .p), (.mk (some 6) (.mv (.tmp 14)) none .p)])) (.seq (.tr (rl [2, 0, 0, 1, 9]) false (.region false
  [(.mk (some 15) (.mv (.tmp 6)) none .p), (.mk (some 16) (.bin .neq (.tmp 15) (.lit (.c (.pv (.int .i64 0))))) none .p)])) (.tr (rl [2, 0, 0, 0]) false (.cond
  (.tmp 16) (.seq (.tr (rl [4, 0]) false (.region false [(.mk (some 17) (.build [(.pv (.sl .nil 0 []))] []) none .p), (.mk (some 18) (.mv (.tmp 6)) none .p),
  (.mk none (.store 1 (.tmp 4) (.tmp 17)) none .w), (.mk (some 5) (.mv (.tmp 18)) none .p)])) (.tr (rl [4, 0]) false .ret)) .skip)))) (.seq (.seq (.tr (rl [2,
  0, 0, 2]) false (.region true [(.mk (some 19) (.faddr 0 (.tmp 2)) none .p), (.mk (some 20) (.loadR false 1 (.tmp 19) (.tmp 2)) none .r), (.mk (some 21)
  (.faddr 0 (.tmp 2)) none .p), (.mk (some 22) (.load false 1 (.tmp 21)) none .r), (.mk (some 24) (.loadR true 7 (.tmp 3) (.tmp 3)) none .r), (.mk (some 23)
  (.call false [(.tmp 2), (.tmp 3)] (.lit (.c (.fn 60 []))) [(.tmp 22)]) none .w), (.mk (some 25) (.call false [] (.lit (.c (.fn 59 []))) [(.tmp 20), (.tmp 23),
  (.tmp 24)]) none .w), (.mk (some 7) (.mv (.tmp 25)) none .p)])) (.seq (.tr (rl [2, 0, 0, 2, 19]) false (.region false [(.mk (some 26) (.mv (.tmp 7)) none .p),
  (.mk (some 27) (.bin .neq (.tmp 26) (.lit (.c (.pv (.int .i64 0))))) none .p)])) (.tr (rl [2, 0, 0, 0]) false (.cond (.tmp 27) (.seq (.tr (rl [4, 0]) false
  (.region false [(.mk (some 28) (.build [(.pv (.sl .nil 0 []))] []) none .p), (.mk (some 29) (.mv (.tmp 7)) none .p), (.mk none (.store 1 (.tmp 4) (.tmp 28))
  none .w), (.mk (some 5) (.mv (.tmp 29)) none .p)])) (.tr (rl [4, 0]) false .ret)) .skip)))) (.seq (.region false [(.mk (some 8) (.mv (.lit (.c (.fn 61 []))))
  none .p)]) (.seq (.tr (rl [4, 0]) false (.region true [(.mk (some 30) (.faddr 0 (.tmp 2)) none .p), (.mk (some 31) (.load false 1 (.tmp 30)) none .r), (.mk
  (some 32) (.mv (.tmp 8)) none .p), (.mk (some 34) (.loadR true 7 (.tmp 3) (.tmp 3)) none .r), (.mk (some 33) (.call false [(.tmp 3)] (.lit (.c (.fn 62 [])))
  [(.tmp 31), (.tmp 32)]) none .w), (.mk (some 35) (.call false [] (.lit (.c (.fn 63 []))) [(.tmp 34)]) none .p), (.mk (some 36) (.buildSl [(.pv (.int .i64 0)),
  (.pv (.int .i32 0)), (.pv (.int .i32 0)), (.pv (.sl .nil 0 [])), (.pv (.int .i64 0)), (.pv (.int .i64 0)), (.pv (.str []))] 1 7 [(0, (7, (.tmp 35)))]) none
  .p), (.mk (some 37) (.app 7 72 (.tmp 33) (.tmp 36)) none .w), (.mk (some 38) (.build [(.pv (.sl .nil 0 []))] [(0, (1, (.tmp 37)))]) none .p), (.mk none
  (.store 1 (.tmp 4) (.tmp 38)) none .w), (.mk (some 5) (.mv (.lit (.c (.pv (.int .i64 0))))) none .p)])) (.tr (rl [4, 0]) false .ret))))))))
theorem xf19_ok : cmpFunc Go.Proofs.Tryd.prog 19 ((.two (.tr (rl [2, 0, 0]) false .no) (.two (.two (.tr (rl [2, 0, 0, 6]) false (.ops [{}, { cls := some .p }])) (.tr (rl [2, 0, 0, 0]) false (.two (.two (.tr (rl [4, 0]) false .no) (.tr (rl [4, 0]) false .no)) .no))) (.two (.two (.tr (rl [2, 0, 0, 1]) false (.ops [{}, { cls := some .p }])) (.two (.tr (rl [2, 0, 0, 1, 9]) false .no) (.tr (rl [2, 0, 0, 0]) false (.two (.two (.tr (rl [4, 0]) false .no) (.tr (rl [4, 0]) false .no)) .no)))) (.two (.two (.tr (rl [2, 0, 0, 2]) false (.draw [0, 1, 2, 3, 5, 4, 6, 7] [{}, { root := some 2 }, {}, {}, { ap := [2, 3] }, { root := some 3 }])) (.two (.tr (rl [2, 0, 0, 2, 19]) false .no) (.tr (rl [2, 0, 0, 0]) false (.two (.two (.tr (rl [4, 0]) false .no) (.tr (rl [4, 0]) false .no)) .no)))) (.two .no (.two (.tr (rl [4, 0]) false (.draw [0, 1, 2, 4, 3, 5, 6, 7, 8, 9, 10] [{}, {}, {}, { ap := [3] }, { root := some 3 }, { cls := some .p }])) (.tr (rl [4, 0]) false .no)))))))) = some xf19 := by kernel_rfl
def xf20 : XFunc :=
(.mk 17 [(.cell 4 true 1), (.tmp 5)] (.seq (.tr (rl [2, 0, 0]) false (.region false [(.mk (some 2) (.box (.tmp 0) 1) none .w), (.mk (some 3) (.box (.tmp 1) 1)
  none .w), (.mk (some 4) (.alloc [(.pv (.sl .nil 0 []))]) none .w), (.mk (some 5) (.mv (.lit (.c (.pv (.int .i64 0))))) none .p)])) (.seq (.tr (rl [4, 1, 0])
  false (.region false [(.mk (some 9) (.load true 1 (.tmp 2)) none .r), (.mk (some 10) (.mkfn 65 [(.tmp 3)]) none .p), (.mk (some 11) (.call false [] (.lit (.c
  (.fn 64 []))) [(.tmp 9), (.tmp 10)]) none .w), (.mk (some 8) (.mv (.tmp 11)) none .p), (.mk (some 12) (.extr 0 (.tmp 8)) none .p), (.mk (some 13) (.extr 1
  (.tmp 8)) none .p), (.mk (some 6) (.mv (.tmp 12)) none .p), (.mk (some 7) (.mv (.tmp 13)) none .p)])) (.seq (.tr (rl [4, 0]) false (.region false [(.mk (some
  14) (.mv (.tmp 6)) none .p), (.mk (some 15) (.build [(.pv (.sl .nil 0 []))] [(0, (1, (.tmp 14)))]) none .p), (.mk (some 16) (.mv (.tmp 7)) none .p), (.mk none
  (.store 1 (.tmp 4) (.tmp 15)) none .w), (.mk (some 5) (.mv (.tmp 16)) none .p)])) (.tr (rl [4, 0]) false .ret)))))
theorem xf20_ok : cmpFunc Go.Proofs.Tryd.prog 20 ((.two (.tr (rl [2, 0, 0]) false .no) (.two (.tr (rl [4, 1, 0]) false .no) (.two (.tr (rl [4, 0]) false .no) (.tr (rl [4, 0]) false .no))))) = some xf20 := by kernel_rfl
def xf21 : XFunc :=
(.mk 13 [(.tmp 6), (.tmp 7)] (.seq (.tr (rl [3, 0, 0]) false (.region false [(.mk (some 3) (.box (.tmp 0) 1) none .w), (.mk (some 4) (.box (.tmp 1) 1) none .w),
  (.mk (some 5) (.box (.tmp 2) 1) none .w), (.mk (some 6) (.mv (.lit (.c (.pv (.sl .nil 0 []))))) none .p), (.mk (some 7) (.mv (.lit (.c (.pv (.int .i64 0)))))
  none .p)])) (.seq (.tr (rl [6, 0]) false (.region false [(.mk (some 8) (.load true 1 (.tmp 3)) none .r), (.mk (some 9) (.mkfn 66 [(.tmp 4), (.tmp 5)]) none
  .p), (.mk (some 10) (.call false [] (.lit (.c (.fn 64 []))) [(.tmp 8), (.tmp 9)]) none .w), (.mk (some 11) (.extr 0 (.tmp 10)) none .p), (.mk (some 12) (.extr
  1 (.tmp 10)) none .p), (.mk (some 6) (.mv (.tmp 11)) none .p), (.mk (some 7) (.mv (.tmp 12)) none .p)])) (.tr (rl [6, 0]) false .ret))))
theorem xf21_ok : cmpFunc Go.Proofs.Tryd.prog 21 ((.two (.tr (rl [3, 0, 0]) false .no) (.two (.tr (rl [6, 0]) false .no) (.tr (rl [6, 0]) false .no)))) = some xf21 := by kernel_rfl
def xf22 : XFunc :=
(.mk 8 [(.tmp 2), (.tmp 3)] (.seq (.tr (rl [1]) false (.region false [(.mk (some 1) (.box (.tmp 0) 1) none .w), (.mk (some 2) (.mv (.lit (.c (.pv (.sl .nil 0
  []))))) none .p), (.mk (some 3) (.mv (.lit (.c (.pv (.int .i64 0))))) none .p)])) (.seq (.tr (rl [2, 0]) false (.region false [(.mk (some 4) (.load true 1
  (.tmp 1)) none .r), (.mk (some 5) (.call false [] (.lit (.c (.fn 64 []))) [(.tmp 4), (.lit (.c (.fn 67 [])))]) none .w), (.mk (some 6) (.extr 0 (.tmp 5)) none
  .p), (.mk (some 7) (.extr 1 (.tmp 5)) none .p), (.mk (some 2) (.mv (.tmp 6)) none .p), (.mk (some 3) (.mv (.tmp 7)) none .p)])) (.tr (rl [2, 0]) false
  .ret))))
theorem xf22_ok : cmpFunc Go.Proofs.Tryd.prog 22 ((.two (.tr (rl [1]) false .no) (.two (.tr (rl [2, 0]) false .no) (.tr (rl [2, 0]) false .no)))) = some xf22 := by kernel_rfl
def xf23 : XFunc :=
(.mk 26 [(.tmp 4), (.tmp 5)] (.seq (.tr (rl [2, 0]) false (.region false [(.mk (some 2) (.box (.tmp 0) 1) none .w), (.mk (some 3) (.box (.tmp 1) 1) none .w),
  (.mk (some 4) (.mv (.lit (.c (.pv (.int .i32 0))))) none .p), (.mk (some 5) (.mv (.lit (.c (.pv (.bool false))))) none .p)])) (.seq (.tr (rl [6, 0]) false
  (.region false [(.mk (some 10) (.load true 1 (.tmp 2)) none .r), (.mk (some 11) (.mkfn 68 [(.tmp 3)]) none .p), (.mk (some 12) (.call false [] (.lit (.c (.fn
  64 []))) [(.tmp 10), (.tmp 11)]) none .w), (.mk (some 9) (.mv (.tmp 12)) none .p), (.mk (some 13) (.extr 0 (.tmp 9)) none .p), (.mk (some 14) (.extr 1 (.tmp
  9)) none .p), (.mk (some 6) (.mv (.tmp 13)) none .p), (.mk (some 7) (.mv (.tmp 14)) none .p)])) (.seq (.seq (.tr (rl [6, 14]) false (.region false [(.mk (some
  15) (.mv (.tmp 7)) none .p), (.mk (some 16) (.bin .neq (.tmp 15) (.lit (.c (.pv (.int .i64 0))))) none .p), (.mk (some 17) (.mv (.tmp 16)) none .p), (.mk
  (some 18) (.mv (.tmp 6)) (some (17, false)) .p), (.mk (some 19) (.len (.tmp 18)) (some (17, false)) .p), (.mk (some 20) (.bin .eql (.tmp 19) (.lit (.c (.pv
  (.int .i64 0))))) (some (17, false)) .p), (.mk (some 21) (.pick (.tmp 17) (.lit (.c (.pv (.bool true)))) (.tmp 20)) none .p)])) (.tr (rl [4, 0, 0]) false
  (.cond (.tmp 21) (.seq (.region false [(.mk (some 4) (.mv (.lit (.c (.pv (.int .i32 0))))) none .p), (.mk (some 5) (.mv (.lit (.c (.pv (.bool false))))) none
  .p)]) (.tr (rl [4, 0]) false .ret)) .skip))) (.seq (.tr (rl [8]) false (.region false [(.mk (some 22) (.mv (.tmp 6)) none .p), (.mk (some 23) (.call false []
  (.lit (.c (.fn 69 []))) [(.tmp 22), (.lit (.c (.fn 70 [])))]) none .w), (.mk (some 8) (.alloc [(.pv (.int .i64 0)), (.pv (.int .i32 0)), (.pv (.int .i32 0)),
  (.pv (.sl .nil 0 [])), (.pv (.int .i64 0)), (.pv (.int .i64 0)), (.pv (.str []))]) none .w), (.mk none (.store 7 (.tmp 8) (.tmp 23)) none .w)])) (.seq (.tr
  (rl [4, 0]) false (.region false [(.mk (some 24) (.faddr 2 (.tmp 8)) none .p), (.mk (some 25) (.load false 1 (.tmp 24)) none .r), (.mk (some 4) (.mv (.tmp
  25)) none .p), (.mk (some 5) (.mv (.lit (.c (.pv (.bool true))))) none .p)])) (.tr (rl [4, 0]) false .ret)))))))
theorem xf23_ok : cmpFunc Go.Proofs.Tryd.prog 23 ((.two (.tr (rl [2, 0]) false .no) (.two (.tr (rl [6, 0]) false .no) (.two (.two (.tr (rl [6, 14]) false .no) (.tr (rl [4, 0, 0]) false (.two (.two .no (.tr (rl [4, 0]) false .no)) .no))) (.two (.tr (rl [8]) false .no) (.two (.tr (rl [4, 0]) false .no) (.tr (rl [4, 0]) false .no))))))) = some xf23 := by kernel_rfl
def xf24_l0 : XCode :=
(.seq (.region false [(.mk (some 22) (.bin .lss (.tmp 21) (.tmp 20)) none .p)]) (.seq (.tr (rl [6, 0, 11, 0, 0]) false (.cond (.tmp 22) .skip (.tr (rl [6, 0])
  false (.exit 0)))) (.seq (.tr (rl [6, 0, 11, 0, 0]) false (.block 1 (.seq (.tr (rl [6, 0, 1, 9, 0, 0]) false (.region false [(.mk (some 23) (.iaddrS 7 (.tmp
  19) (.tmp 21)) none .p), (.mk (some 24) (.load true 7 (.tmp 23)) none .r), (.mk (some 9) (.alloc [(.pv (.int .i64 0)), (.pv (.int .i32 0)), (.pv (.int .i32
  0)), (.pv (.sl .nil 0 [])), (.pv (.int .i64 0)), (.pv (.int .i64 0)), (.pv (.str []))]) none .w), (.mk none (.store 7 (.tmp 9) (.tmp 24)) none .w)])) (.tr (rl
  [6, 0, 11, 0, 0]) false (.region false [(.mk (some 25) (.mv (.tmp 7)) none .p), (.mk (some 26) (.faddr 0 (.tmp 9)) none .p), (.mk (some 27) (.load false 1
  (.tmp 26)) none .r), (.mk (some 28) (.buildSl [(.pv (.int .i64 0))] 1 1 [(0, (1, (.tmp 27)))]) none .p), (.mk (some 29) (.app 1 8 (.tmp 25) (.tmp 28)) none
  .w), (.mk (some 7) (.mv (.tmp 29)) none .p)]))))) (.tr (rl [6, 0, 11, 0, 0]) false (.region false [(.mk (some 30) (.bin .add (.tmp 21) (.lit (.c (.pv (.int
  .i64 1))))) none .p), (.mk (some 21) (.mv (.tmp 30)) none .p)])))))
def xf24 : XFunc :=
(.mk 33 [(.tmp 2), (.tmp 3)] (.seq (.tr (rl [1]) false (.region false [(.mk (some 1) (.box (.tmp 0) 1) none .w), (.mk (some 2) (.mv (.lit (.c (.pv (.sl .nil 0
  []))))) none .p), (.mk (some 3) (.mv (.lit (.c (.pv (.int .i64 0))))) none .p)])) (.seq (.tr (rl [1, 2]) false (.region false [(.mk (some 10) (.faddr 0 (.tmp
  1)) none .p), (.mk (some 11) (.load false 1 (.tmp 10)) none .r), (.mk (some 12) (.call false [] (.lit (.c (.fn 60 []))) [(.tmp 11)]) none .w), (.mk (some 4)
  (.alloc [.nilm]) none .w), (.mk none (.store 1 (.tmp 4) (.tmp 12)) none .w)])) (.seq (.tr (rl [5, 0]) false (.region false [(.mk (some 14) (.load true 1 (.tmp
  1)) none .r), (.mk (some 15) (.mkfn 71 [(.tmp 4)]) none .p), (.mk (some 16) (.call false [] (.lit (.c (.fn 64 []))) [(.tmp 14), (.tmp 15)]) none .w), (.mk
  (some 13) (.mv (.tmp 16)) none .p), (.mk (some 17) (.extr 0 (.tmp 13)) none .p), (.mk (some 18) (.extr 1 (.tmp 13)) none .p), (.mk (some 5) (.mv (.tmp 17))
  none .p), (.mk (some 6) (.mv (.tmp 18)) none .p)])) (.seq (.region false [(.mk (some 7) (.mv (.lit (.c (.pv (.sl .nil 0 []))))) none .p)]) (.seq (.seq (.tr
  (rl [6, 0, 11, 0, 0]) false (.region false [(.mk (some 19) (.mv (.tmp 5)) none .p), (.mk (some 20) (.len (.tmp 19)) none .p), (.mk (some 21) (.mv (.lit (.c
  (.pv (.int .i64 0))))) none .p)])) (.tr (rl [6, 0]) false (.block 0 (.loop (rl [6, 0, 11, 0, 0]) xf24_l0)))) (.seq (.tr (rl [2, 0]) false (.region false [(.mk
  (some 31) (.mv (.tmp 7)) none .p), (.mk (some 32) (.mv (.tmp 6)) none .p), (.mk (some 2) (.mv (.tmp 31)) none .p), (.mk (some 3) (.mv (.tmp 32)) none .p)]))
  (.tr (rl [2, 0]) false .ret))))))))
theorem xf24_ok : cmpFunc Go.Proofs.Tryd.prog 24 ((.two (.tr (rl [1]) false .no) (.two (.tr (rl [1, 2]) false .no) (.two (.tr (rl [5, 0]) false .no) (.two .no (.two (.two (.tr (rl [6, 0, 11, 0, 0]) false .no) (.tr (rl [6, 0]) false (.loop (rl [6, 0, 11, 0, 0]) (.two .no (.two (.tr (rl [6, 0, 11, 0, 0]) false (.two .no (.tr (rl [6, 0]) false .no))) (.two (.tr (rl [6, 0, 11, 0, 0]) false (.two (.tr (rl [6, 0, 1, 9, 0, 0]) false .no) (.tr (rl [6, 0, 11, 0, 0]) false .no))) (.tr (rl [6, 0, 11, 0, 0]) false .no))))))) (.two (.tr (rl [2, 0]) false .no) (.tr (rl [2, 0]) false .no)))))))) = some xf24 := by kernel_rfl
def xf25_l0 : XCode :=
(.seq (.region false [(.mk (some 11) (.bin .lss (.tmp 10) (.tmp 9)) none .p)]) (.seq (.tr (rl [1, 1, 4, 0, 0]) false (.cond (.tmp 11) .skip (.tr [] false (.exit
  0)))) (.seq (.tr (rl [1, 0, 0, 4, 0, 0]) false (.block 1 (.seq (.tr (rl [1, 1, 0, 0, 2, 0, 0]) false (.region false [(.mk (some 12) (.mv (.tmp 10)) none .p),
  (.mk (some 13) (.iaddrS 7 (.tmp 8) (.tmp 10)) none .p), (.mk (some 14) (.load true 7 (.tmp 13)) none .r), (.mk (some 5) (.alloc [(.pv (.int .i64 0)), (.pv
  (.int .i32 0)), (.pv (.int .i32 0)), (.pv (.sl .nil 0 [])), (.pv (.int .i64 0)), (.pv (.int .i64 0)), (.pv (.str []))]) none .w), (.mk (some 4) (.mv (.tmp
  12)) none .p), (.mk none (.store 7 (.tmp 5) (.tmp 14)) none .w)])) (.seq (.seq (.tr (rl [1, 1, 1, 2, 0, 0, 16]) false (.region true [(.mk (some 15) (.load
  true 7 (.tmp 5)) none .r), (.mk (some 16) (.call false [] (.lit (.c (.fn 37 []))) [(.tmp 15)]) none .p), (.mk (some 17) (.bin .neq (.tmp 16) (.lit (.c (.pv
  (.int .i64 0))))) none .p), (.mk (some 18) (.mv (.tmp 17)) none .p), (.mk (some 19) (.faddr 0 (.tmp 1)) (some (18, false)) .p), (.mk (some 20) (.load false 1
  (.tmp 19)) (some (18, false)) .r), (.mk (some 21) (.mv (.tmp 4)) (some (18, false)) .p), (.mk (some 22) (.sliceV 7 (.tmp 20) none (some (.tmp 21)) none) (some
  (18, false)) .p), (.mk (some 23) (.mv (.tmp 3)) (some (18, false)) .p), (.mk (some 24) (.load true 7 (.tmp 5)) (some (18, false)) .r), (.mk (some 25) (.call
  false [] (.lit (.c (.fn 59 []))) [(.tmp 22), (.tmp 23), (.tmp 24)]) (some (18, false)) .w), (.mk (some 26) (.bin .neq (.tmp 25) (.lit (.c (.pv (.int .i64
  0))))) (some (18, false)) .p), (.mk (some 27) (.pick (.tmp 18) (.lit (.c (.pv (.bool true)))) (.tmp 26)) none .p)])) (.tr (rl [1, 0, 0, 1, 2, 0, 0]) false
  (.cond (.tmp 27) (.seq (.region false [(.mk (some 2) (.mv (.lit (.c (.pv (.bool false))))) none .p)]) (.tr (rl [2]) false .ret)) .skip))) (.tr (rl [1, 1, 4,
  0, 0]) false (.region false [(.mk (some 28) (.mv (.tmp 3)) none .p), (.mk (some 29) (.faddr 4 (.tmp 5)) none .p), (.mk (some 30) (.load false 1 (.tmp 29))
  none .r), (.mk none (.mupd (.tmp 28) (.tmp 30) (.lit (.c (.pv (.bool true))))) none .w)])))))) (.tr (rl [1, 1, 4, 0, 0]) false (.region false [(.mk (some 31)
  (.bin .add (.tmp 10) (.lit (.c (.pv (.int .i64 1))))) none .p), (.mk (some 10) (.mv (.tmp 31)) none .p)])))))
def xf25 : XFunc :=
(.mk 32 [(.tmp 2)] (.seq (.tr (rl [1]) false (.region false [(.mk (some 1) (.box (.tmp 0) 1) none .w), (.mk (some 2) (.mv (.lit (.c (.pv (.bool false))))) none
  .p)])) (.seq (.tr (rl [1, 1]) false (.region false [(.mk (some 6) .mkmap none .w), (.mk (some 3) (.mv (.tmp 6)) none .p)])) (.seq (.seq (.tr (rl [1, 1, 4, 0,
  0]) false (.region false [(.mk (some 7) (.faddr 0 (.tmp 1)) none .p), (.mk (some 8) (.load false 1 (.tmp 7)) none .r), (.mk (some 9) (.len (.tmp 8)) none .p),
  (.mk (some 10) (.mv (.lit (.c (.pv (.int .i64 0))))) none .p)])) (.tr (rl [2]) false (.block 0 (.loop (rl [1, 1, 4, 0, 0]) xf25_l0)))) (.seq (.region false
  [(.mk (some 2) (.mv (.lit (.c (.pv (.bool true))))) none .p)]) (.tr (rl [2]) false .ret))))))
theorem xf25_ok : cmpFunc Go.Proofs.Tryd.prog 25 ((.two (.tr (rl [1]) false .no) (.two (.tr (rl [1, 1]) false .no) (.two (.two (.tr (rl [1, 1, 4, 0, 0]) false .no) (.tr (rl [2]) false (.loop (rl [1, 1, 4, 0, 0]) (.two .no (.two (.tr (rl [1, 1, 4, 0, 0]) false (.two .no (.tr [] false .no))) (.two (.tr (rl [1, 0, 0, 4, 0, 0]) false (.two (.tr (rl [1, 1, 0, 0, 2, 0, 0]) false .no) (.two (.two (.tr (rl [1, 1, 1, 2, 0, 0, 16]) false (.draw [0, 1, 2, 3, 4, 5, 6, 7, 8, 9, 10, 11, 12] [{}, { cls := some .p }])) (.tr (rl [1, 0, 0, 1, 2, 0, 0]) false (.two (.two .no (.tr (rl [2]) false .no)) .no))) (.tr (rl [1, 1, 4, 0, 0]) false .no)))) (.tr (rl [1, 1, 4, 0, 0]) false .no))))))) (.two .no (.tr (rl [2]) false .no)))))) = some xf25 := by kernel_rfl
def xf26_l0 : XCode :=
(.seq (.seq (.tr (rl [0, 2, 1, 0, 42]) false (.region false [(.mk (some 47) (.mv (.tmp 6)) none .p), (.mk (some 48) (.mv (.tmp 5)) none .p), (.mk (some 49)
  (.bin .lss (.tmp 47) (.tmp 48)) none .p)])) (.tr (rl [0, 2, 1, 0]) false (.cond (.tmp 49) .skip (.tr (rl [0, 2]) false (.exit 0))))) (.seq (.tr (rl [0, 2, 0,
  0, 0]) false (.block 1 (.seq (.tr (rl [0, 2, 1, 0, 52]) false (.region true [(.mk (some 52) (.mv (.tmp 0)) none .p), (.mk (some 53) (.mv (.tmp 6)) none .p),
  (.mk (some 54) (.iaddrS 7 (.tmp 52) (.tmp 53)) none .p), (.mk (some 55) (.faddr 4 (.tmp 54)) none .p), (.mk (some 56) (.load false 1 (.tmp 55)) none .r), (.mk
  (some 57) (.faddr 4 (.tmp 3)) none .p), (.mk (some 58) (.load false 1 (.tmp 57)) none .r), (.mk (some 59) (.bin .eql (.tmp 56) (.tmp 58)) none .p)])) (.tr (rl
  [0, 2, 0, 0, 0]) false (.cond (.tmp 59) (.seq (.region false [(.mk (some 4) (.mv (.lit (.c (.pv (.int .i64 23))))) none .p)]) (.tr (rl [4]) false .ret))
  .skip))))) (.tr (rl [0, 2, 1, 0]) false (.region false [(.mk (some 50) (.mv (.tmp 6)) none .p), (.mk (some 51) (.bin .add (.tmp 50) (.lit (.c (.pv (.int .i64
  1))))) none .p), (.mk (some 6) (.mv (.tmp 51)) none .p)]))))
def xf26 : XFunc :=
(.mk 82 [(.tmp 4)] (.seq (.tr (rl [0, 2]) false (.region false [(.mk (some 3) (.box (.tmp 1) 7) none .w), (.mk (some 4) (.mv (.lit (.c (.pv (.int .i64 0)))))
  none .p)])) (.seq (.seq (.tr (rl [0, 2, 7]) false (.region false [(.mk (some 9) (.load true 7 (.tmp 3)) none .r), (.mk (some 10) (.call false [] (.lit (.c
  (.fn 34 []))) [(.tmp 9)]) none .p), (.mk (some 11) (.bin .neq (.tmp 10) (.lit (.c (.pv (.int .i64 0))))) none .p)])) (.tr (rl [0, 2, 0]) false (.cond (.tmp
  11) (.seq (.tr (rl [4]) false (.region false [(.mk (some 12) (.load true 7 (.tmp 3)) none .r), (.mk (some 13) (.call false [] (.lit (.c (.fn 34 []))) [(.tmp
  12)]) none .p), (.mk (some 4) (.mv (.tmp 13)) none .p)])) (.tr (rl [4]) false .ret)) .skip))) (.seq (.tr (rl [0, 2, 1]) false (.region false [(.mk (some 14)
  (.mv (.tmp 0)) none .p), (.mk (some 15) (.len (.tmp 14)) none .p), (.mk (some 5) (.mv (.tmp 15)) none .p)])) (.seq (.seq (.tr (rl [0, 2, 1, 11]) false
  (.region false [(.mk (some 16) (.mv (.tmp 5)) none .p), (.mk (some 17) (.bin .geq (.tmp 16) (.lit (.c (.pv (.int .i64 400))))) none .p)])) (.tr (rl [0, 2, 0,
  0]) false (.cond (.tmp 17) (.seq (.region false [(.mk (some 4) (.mv (.lit (.c (.pv (.int .i64 6))))) none .p)]) (.tr (rl [4]) false .ret)) .skip))) (.seq
  (.seq (.tr (rl [0, 2, 1, 16]) false (.region false [(.mk (some 18) (.faddr 0 (.tmp 3)) none .p), (.mk (some 19) (.load false 1 (.tmp 18)) none .r), (.mk (some
  20) (.mv (.tmp 5)) none .p), (.mk (some 21) (.bin .add (.tmp 20) (.lit (.c (.pv (.int .i64 1))))) none .p), (.mk (some 22) (.bin .neq (.tmp 19) (.tmp 21))
  none .p)])) (.tr (rl [0, 2, 0, 0]) false (.cond (.tmp 22) (.seq (.region false [(.mk (some 4) (.mv (.lit (.c (.pv (.int .i64 25))))) none .p)]) (.tr (rl [4])
  false .ret)) .skip))) (.seq (.seq (.tr (rl [0, 2, 1, 29]) false (.region true [(.mk (some 23) (.mv (.tmp 5)) none .p), (.mk (some 24) (.bin .gtr (.tmp 23)
  (.lit (.c (.pv (.int .i64 0))))) none .p), (.mk (some 25) (.mv (.tmp 24)) none .p), (.mk (some 26) (.faddr 1 (.tmp 3)) (some (25, true)) .p), (.mk (some 27)
  (.load false 1 (.tmp 26)) (some (25, true)) .r), (.mk (some 28) (.mv (.tmp 0)) (some (25, true)) .p), (.mk (some 29) (.mv (.tmp 5)) (some (25, true)) .p),
  (.mk (some 30) (.bin .sub (.tmp 29) (.lit (.c (.pv (.int .i64 1))))) (some (25, true)) .p), (.mk (some 31) (.iaddrS 7 (.tmp 28) (.tmp 30)) (some (25, true))
  .p), (.mk (some 32) (.faddr 1 (.tmp 31)) (some (25, true)) .p), (.mk (some 33) (.load false 1 (.tmp 32)) (some (25, true)) .r), (.mk (some 34) (.bin .lss
  (.tmp 27) (.tmp 33)) (some (25, true)) .p), (.mk (some 35) (.pick (.tmp 25) (.tmp 34) (.lit (.c (.pv (.bool false))))) none .p)])) (.tr (rl [0, 2, 0, 0])
  false (.cond (.tmp 35) (.seq (.region false [(.mk (some 4) (.mv (.lit (.c (.pv (.int .i64 20))))) none .p)]) (.tr (rl [4]) false .ret)) .skip))) (.seq (.seq
  (.tr (rl [0, 2, 1, 32]) false (.region false [(.mk (some 36) (.faddr 4 (.tmp 3)) none .p), (.mk (some 37) (.load false 1 (.tmp 36)) none .r), (.mk (some 38)
  (.bin .eql (.tmp 37) (.lit (.c (.pv (.int .i64 0))))) none .p)])) (.tr (rl [0, 2, 0, 0]) false (.cond (.tmp 38) (.seq (.region false [(.mk (some 4) (.mv (.lit
  (.c (.pv (.int .i64 0))))) none .p)]) (.tr (rl [4]) false .ret)) .skip))) (.seq (.seq (.tr (rl [0, 2, 1, 40]) false (.region false [(.mk (some 39) (.mv (.tmp
  0)) none .p), (.mk (some 40) (.faddr 4 (.tmp 3)) none .p), (.mk (some 41) (.load false 1 (.tmp 40)) none .r), (.mk (some 42) (.bin .sub (.tmp 41) (.lit (.c
  (.pv (.int .i64 1))))) none .p), (.mk (some 43) (.iaddrS 7 (.tmp 39) (.tmp 42)) none .p), (.mk (some 44) (.faddr 4 (.tmp 43)) none .p), (.mk (some 45) (.load
  false 1 (.tmp 44)) none .r), (.mk (some 46) (.bin .gtr (.tmp 45) (.lit (.c (.pv (.int .i64 0))))) none .p)])) (.tr (rl [0, 2, 0, 0]) false (.cond (.tmp 46)
  (.seq (.region false [(.mk (some 4) (.mv (.lit (.c (.pv (.int .i64 27))))) none .p)]) (.tr (rl [4]) false .ret)) .skip))) (.seq (.seq (.region false [(.mk
  (some 6) (.mv (.lit (.c (.pv (.int .i64 0))))) none .p)]) (.tr (rl [0, 2, 0]) false (.block 0 (.loop (rl [0, 2, 1, 0]) xf26_l0)))) (.seq (.tr (rl [3, 3, 0])
  false (.region true [(.mk (some 61) (.mv (.tmp 0)) none .p), (.mk (some 62) (.faddr 4 (.tmp 3)) none .p), (.mk (some 63) (.load false 1 (.tmp 62)) none .r),
  (.mk (some 64) (.bin .sub (.tmp 63) (.lit (.c (.pv (.int .i64 1))))) none .p), (.mk (some 65) (.iaddrS 7 (.tmp 61) (.tmp 64)) none .p), (.mk (some 66) (.load
  true 7 (.tmp 65)) none .r), (.mk (some 67) (.faddr 0 (.tmp 3)) none .p), (.mk (some 68) (.load false 1 (.tmp 67)) none .r), (.mk (some 69) (.faddr 1 (.tmp 3))
  none .p), (.mk (some 70) (.load false 1 (.tmp 69)) none .r), (.mk (some 71) (.call false [] (.lit (.c (.fn 48 []))) [(.tmp 66), (.tmp 68), (.tmp 70)]) none
  .p), (.mk (some 60) (.mv (.tmp 71)) none .p), (.mk (some 72) (.extr 0 (.tmp 60)) none .p), (.mk (some 73) (.extr 1 (.tmp 60)) none .p), (.mk (some 7) (.alloc
  [(.pv (.int .i64 0)), (.pv (.int .i32 0)), (.pv (.int .i32 0)), (.pv (.sl .nil 0 [])), (.pv (.int .i64 0)), (.pv (.int .i64 0)), (.pv (.str []))]) none .w),
  (.mk none (.store 7 (.tmp 7) (.tmp 72)) none .w), (.mk (some 8) (.mv (.tmp 73)) none .p)])) (.seq (.seq (.tr (rl [81]) false (.region false [(.mk (some 74)
  (.mv (.tmp 8)) none .p), (.mk (some 75) (.bin .neq (.tmp 74) (.lit (.c (.pv (.int .i64 0))))) none .p), (.mk (some 76) (.mv (.tmp 75)) none .p), (.mk (some
  77) (.load true 7 (.tmp 7)) (some (76, false)) .r), (.mk (some 78) (.load true 7 (.tmp 3)) (some (76, false)) .r), (.mk (some 79) (.call false [] (.lit (.c
  (.fn 44 []))) [(.tmp 77), (.tmp 78)]) (some (76, false)) .p), (.mk (some 80) (.un .not (.tmp 79)) (some (76, false)) .p), (.mk (some 81) (.pick (.tmp 76)
  (.lit (.c (.pv (.bool true)))) (.tmp 80)) none .p)])) (.tr (rl [4]) false (.cond (.tmp 81) (.seq (.region false [(.mk (some 4) (.mv (.lit (.c (.pv (.int .i64
  3))))) none .p)]) (.tr (rl [4]) false .ret)) .skip))) (.seq (.region false [(.mk (some 4) (.mv (.lit (.c (.pv (.int .i64 0))))) none .p)]) (.tr (rl [4]) false
  .ret))))))))))))))
theorem xf26_ok : cmpFunc Go.Proofs.Tryd.prog 26 ((.two (.tr (rl [0, 2]) false .no) (.two (.two (.tr (rl [0, 2, 7]) false (.ops [{}, { cls := some .p }])) (.tr (rl [0, 2, 0]) false (.two (.two (.tr (rl [4]) false (.ops [{}, { cls := some .p }])) (.tr (rl [4]) false .no)) .no))) (.two (.tr (rl [0, 2, 1]) false .no) (.two (.two (.tr (rl [0, 2, 1, 11]) false .no) (.tr (rl [0, 2, 0, 0]) false (.two (.two .no (.tr (rl [4]) false .no)) .no))) (.two (.two (.tr (rl [0, 2, 1, 16]) false .no) (.tr (rl [0, 2, 0, 0]) false (.two (.two .no (.tr (rl [4]) false .no)) .no))) (.two (.two (.tr (rl [0, 2, 1, 29]) false (.draw [0, 1, 2, 3, 4, 5, 6, 7, 8, 9, 10, 11, 12] [])) (.tr (rl [0, 2, 0, 0]) false (.two (.two .no (.tr (rl [4]) false .no)) .no))) (.two (.two (.tr (rl [0, 2, 1, 32]) false .no) (.tr (rl [0, 2, 0, 0]) false (.two (.two .no (.tr (rl [4]) false .no)) .no))) (.two (.two (.tr (rl [0, 2, 1, 40]) false .no) (.tr (rl [0, 2, 0, 0]) false (.two (.two .no (.tr (rl [4]) false .no)) .no))) (.two (.two .no (.tr (rl [0, 2, 0]) false (.loop (rl [0, 2, 1, 0]) (.two (.two (.tr (rl [0, 2, 1, 0, 42]) false .no) (.tr (rl [0, 2, 1, 0]) false (.two .no (.tr (rl [0, 2]) false .no)))) (.two (.tr (rl [0, 2, 0, 0, 0]) false (.two (.tr (rl [0, 2, 1, 0, 52]) false (.draw [0, 1, 2, 3, 4, 5, 6, 7] [])) (.tr (rl [0, 2, 0, 0, 0]) false (.two (.two .no (.tr (rl [4]) false .no)) .no)))) (.tr (rl [0, 2, 1, 0]) false .no)))))) (.two (.tr (rl [3, 3, 0]) false (.draw [0, 1, 2, 3, 4, 5, 6, 7, 8, 9, 10, 11, 12, 13, 14, 15, 16] [{}, {}, {}, {}, {}, {}, {}, {}, {}, {}, { cls := some .p }])) (.two (.two (.tr (rl [81]) false (.ops [{}, {}, {}, {}, {}, { cls := some .p }])) (.tr (rl [4]) false (.two (.two .no (.tr (rl [4]) false .no)) .no))) (.two .no (.tr (rl [4]) false .no)))))))))))))) = some xf26 := by kernel_rfl
def xf27_l0 : XCode :=
(.seq (.seq (.tr (rl [0, 0, 3, 8]) false (.region false [(.mk (some 11) (.mv (.tmp 5)) none .p), (.mk (some 12) (.mv (.tmp 0)) none .p), (.mk (some 13) (.len
  (.tmp 12)) none .p), (.mk (some 14) (.bin .lss (.tmp 11) (.tmp 13)) none .p)])) (.tr (rl [0, 0, 3]) false (.cond (.tmp 14) .skip (.tr [] false (.exit 0)))))
  (.seq (.tr (rl [0, 0, 2, 0]) false (.block 1 (.seq (.tr (rl [0, 0, 3, 20]) false (.region true [(.mk (some 17) (.mv (.tmp 0)) none .p), (.mk (some 18) (.mv
  (.tmp 5)) none .p), (.mk (some 19) (.iaddrS 7 (.tmp 17) (.tmp 18)) none .p), (.mk (some 20) (.load true 7 (.tmp 19)) none .r), (.mk (some 21) (.mv (.tmp 1))
  none .p), (.mk (some 22) (.mv (.tmp 5)) none .p), (.mk (some 23) (.iaddrS 7 (.tmp 21) (.tmp 22)) none .p), (.mk (some 24) (.load true 7 (.tmp 23)) none .r),
  (.mk (some 25) (.call false [] (.lit (.c (.fn 44 []))) [(.tmp 20), (.tmp 24)]) none .p), (.mk (some 26) (.un .not (.tmp 25)) none .p)])) (.tr (rl [0, 0, 2,
  0]) false (.cond (.tmp 26) (.seq (.region false [(.mk (some 4) (.mv (.lit (.c (.pv (.bool false))))) none .p)]) (.tr (rl [4]) false .ret)) .skip))))) (.tr (rl
  [0, 0, 3]) false (.region false [(.mk (some 15) (.mv (.tmp 5)) none .p), (.mk (some 16) (.bin .add (.tmp 15) (.lit (.c (.pv (.int .i64 1))))) none .p), (.mk
  (some 5) (.mv (.tmp 16)) none .p)]))))
def xf27 : XFunc :=
(.mk 27 [(.tmp 4)] (.seq (.tr (rl [0, 0]) false (.region false [(.mk (some 4) (.mv (.lit (.c (.pv (.bool false))))) none .p)])) (.seq (.seq (.tr (rl [0, 0, 8])
  false (.region false [(.mk (some 6) (.mv (.tmp 0)) none .p), (.mk (some 7) (.len (.tmp 6)) none .p), (.mk (some 8) (.mv (.tmp 1)) none .p), (.mk (some 9)
  (.len (.tmp 8)) none .p), (.mk (some 10) (.bin .neq (.tmp 7) (.tmp 9)) none .p)])) (.tr (rl [0, 0, 2]) false (.cond (.tmp 10) (.seq (.region false [(.mk (some
  4) (.mv (.lit (.c (.pv (.bool false))))) none .p)]) (.tr (rl [4]) false .ret)) .skip))) (.seq (.seq (.region false [(.mk (some 5) (.mv (.lit (.c (.pv (.int
  .i64 0))))) none .p)]) (.tr (rl [4]) false (.block 0 (.loop (rl [0, 0, 3]) xf27_l0)))) (.seq (.region false [(.mk (some 4) (.mv (.lit (.c (.pv (.bool
  true))))) none .p)]) (.tr (rl [4]) false .ret))))))
theorem xf27_ok : cmpFunc Go.Proofs.Tryd.prog 27 ((.two (.tr (rl [0, 0]) false .no) (.two (.two (.tr (rl [0, 0, 8]) false .no) (.tr (rl [0, 0, 2]) false (.two (.two .no (.tr (rl [4]) false .no)) .no))) (.two (.two .no (.tr (rl [4]) false (.loop (rl [0, 0, 3]) (.two (.two (.tr (rl [0, 0, 3, 8]) false .no) (.tr (rl [0, 0, 3]) false (.two .no (.tr [] false .no)))) (.two (.tr (rl [0, 0, 2, 0]) false (.two (.tr (rl [0, 0, 3, 20]) false (.draw [0, 1, 2, 3, 4, 5, 6, 7, 8, 9] [{}, {}, {}, {}, {}, {}, {}, {}, { cls := some .p }])) (.tr (rl [0, 0, 2, 0]) false (.two (.two .no (.tr (rl [4]) false .no)) .no)))) (.tr (rl [0, 0, 3]) false .no)))))) (.two .no (.tr (rl [4]) false .no)))))) = some xf27 := by kernel_rfl
def xf28_l0 : XCode :=
(.seq (.seq (.tr (rl [0, 0, 4, 0, 0, 3]) false (.region false [(.mk (some 9) (.mv (.tmp 8)) none .p), (.mk (some 10) (.mv (.tmp 0)) none .p), (.mk (some 11)
  (.len (.tmp 10)) none .p), (.mk (some 12) (.bin .lss (.tmp 9) (.tmp 11)) none .p)])) (.tr (rl [0, 0, 4, 0, 0]) false (.cond (.tmp 12) .skip (.tr (rl [6, 0])
  false (.exit 0))))) (.seq (.tr (rl [0, 0, 4, 0, 0]) false (.block 1 (.seq (.tr (rl [0, 0, 4, 0, 0, 25]) false (.region false [(.mk (some 15) (.mv (.tmp 0))
  none .p), (.mk (some 16) (.mv (.tmp 8)) none .p), (.mk (some 17) (.iaddrS 7 (.tmp 15) (.tmp 16)) none .p), (.mk (some 18) (.faddr 0 (.tmp 17)) none .p), (.mk
  (some 19) (.load false 1 (.tmp 18)) none .r), (.mk (some 20) (.mv (.tmp 1)) none .p), (.mk (some 21) (.bin .gtr (.tmp 19) (.tmp 20)) none .p), (.mk (some 22)
  (.mv (.tmp 21)) none .p), (.mk (some 23) (.mv (.tmp 7)) (some (22, true)) .p), (.mk (some 24) (.un .not (.tmp 23)) (some (22, true)) .p), (.mk (some 25) (.mv
  (.tmp 24)) (some (22, true)) .p), (.mk (some 26) (.mv (.tmp 0)) (some (25, false)) .p), (.mk (some 27) (.mv (.tmp 8)) (some (25, false)) .p), (.mk (some 28)
  (.iaddrS 7 (.tmp 26) (.tmp 27)) (some (25, false)) .p), (.mk (some 29) (.faddr 2 (.tmp 28)) (some (25, false)) .p), (.mk (some 30) (.load false 1 (.tmp 29))
  (some (25, false)) .r), (.mk (some 31) (.mv (.tmp 6)) (some (25, false)) .p), (.mk (some 32) (.bin .lss (.tmp 30) (.tmp 31)) (some (25, false)) .p), (.mk
  (some 33) (.pick (.tmp 25) (.lit (.c (.pv (.bool true)))) (.tmp 32)) (some (22, true)) .p), (.mk (some 34) (.pick (.tmp 22) (.tmp 33) (.lit (.c (.pv (.bool
  false))))) none .p)])) (.tr (rl [0, 0, 4, 0, 0]) false (.cond (.tmp 34) (.seq (.tr (rl [0, 0, 4, 1]) false (.region false [(.mk (some 35) (.mv (.tmp 0)) none
  .p), (.mk (some 36) (.mv (.tmp 8)) none .p), (.mk (some 37) (.iaddrS 7 (.tmp 35) (.tmp 36)) none .p), (.mk (some 38) (.faddr 2 (.tmp 37)) none .p), (.mk (some
  39) (.load false 1 (.tmp 38)) none .r), (.mk (some 6) (.mv (.tmp 39)) none .p)])) (.region false [(.mk (some 7) (.mv (.lit (.c (.pv (.bool true))))) none
  .p)])) .skip))))) (.tr (rl [0, 0, 4, 0, 0]) false (.region false [(.mk (some 13) (.mv (.tmp 8)) none .p), (.mk (some 14) (.bin .add (.tmp 13) (.lit (.c (.pv
  (.int .i64 1))))) none .p), (.mk (some 8) (.mv (.tmp 14)) none .p)]))))
def xf28 : XFunc :=
(.mk 42 [(.tmp 4), (.tmp 5)] (.seq (.tr (rl [0, 0]) false (.region false [(.mk (some 4) (.mv (.lit (.c (.pv (.int .i32 0))))) none .p), (.mk (some 5) (.mv (.lit
  (.c (.pv (.bool false))))) none .p)])) (.seq (.region false [(.mk (some 6) (.mv (.lit (.c (.pv (.int .i32 0))))) none .p)]) (.seq (.region false [(.mk (some
  7) (.mv (.lit (.c (.pv (.bool false))))) none .p)]) (.seq (.seq (.region false [(.mk (some 8) (.mv (.lit (.c (.pv (.int .i64 0))))) none .p)]) (.tr (rl [6,
  0]) false (.block 0 (.loop (rl [0, 0, 4, 0, 0]) xf28_l0)))) (.seq (.tr (rl [4, 0]) false (.region false [(.mk (some 40) (.mv (.tmp 6)) none .p), (.mk (some
  41) (.mv (.tmp 7)) none .p), (.mk (some 4) (.mv (.tmp 40)) none .p), (.mk (some 5) (.mv (.tmp 41)) none .p)])) (.tr (rl [4, 0]) false .ret)))))))
theorem xf28_ok : cmpFunc Go.Proofs.Tryd.prog 28 ((.two (.tr (rl [0, 0]) false .no) (.two .no (.two .no (.two (.two .no (.tr (rl [6, 0]) false (.loop (rl [0, 0, 4, 0, 0]) (.two (.two (.tr (rl [0, 0, 4, 0, 0, 3]) false .no) (.tr (rl [0, 0, 4, 0, 0]) false (.two .no (.tr (rl [6, 0]) false .no)))) (.two (.tr (rl [0, 0, 4, 0, 0]) false (.two (.tr (rl [0, 0, 4, 0, 0, 25]) false .no) (.tr (rl [0, 0, 4, 0, 0]) false (.two (.two (.tr (rl [0, 0, 4, 1]) false .no) .no) .no)))) (.tr (rl [0, 0, 4, 0, 0]) false .no)))))) (.two (.tr (rl [4, 0]) false .no) (.tr (rl [4, 0]) false .no))))))) = some xf28 := by kernel_rfl
def xf29_l0 : XCode :=
(.seq (.seq (.tr (rl [0, 0, 0, 4, 0, 4]) false (.region false [(.mk (some 10) (.mv (.tmp 8)) none .p), (.mk (some 11) (.mv (.tmp 0)) none .p), (.mk (some 12)
  (.len (.tmp 11)) none .p), (.mk (some 13) (.bin .lss (.tmp 10) (.tmp 12)) none .p)])) (.tr (rl [0, 0, 0, 4, 0]) false (.cond (.tmp 13) .skip (.tr (rl [7])
  false (.exit 0))))) (.seq (.tr (rl [0, 0, 0, 4, 0]) false (.block 1 (.seq (.tr (rl [0, 0, 0, 4, 0, 22]) false (.region false [(.mk (some 16) (.mv (.tmp 0))
  none .p), (.mk (some 17) (.mv (.tmp 8)) none .p), (.mk (some 18) (.iaddrS 7 (.tmp 16) (.tmp 17)) none .p), (.mk (some 19) (.faddr 1 (.tmp 18)) none .p), (.mk
  (some 20) (.load false 1 (.tmp 19)) none .r), (.mk (some 21) (.mv (.tmp 1)) none .p), (.mk (some 22) (.bin .leq (.tmp 20) (.tmp 21)) none .p), (.mk (some 23)
  (.mv (.tmp 22)) none .p), (.mk (some 24) (.mv (.tmp 0)) (some (23, true)) .p), (.mk (some 25) (.mv (.tmp 8)) (some (23, true)) .p), (.mk (some 26) (.iaddrS 7
  (.tmp 24) (.tmp 25)) (some (23, true)) .p), (.mk (some 27) (.faddr 2 (.tmp 26)) (some (23, true)) .p), (.mk (some 28) (.load false 1 (.tmp 27)) (some (23,
  true)) .r), (.mk (some 29) (.mv (.tmp 2)) (some (23, true)) .p), (.mk (some 30) (.bin .leq (.tmp 28) (.tmp 29)) (some (23, true)) .p), (.mk (some 31) (.pick
  (.tmp 23) (.tmp 30) (.lit (.c (.pv (.bool false))))) none .p)])) (.tr (rl [0, 0, 0, 4, 0]) false (.cond (.tmp 31) (.tr (rl [0, 0, 0, 4, 0]) false (.region
  false [(.mk (some 32) (.mv (.tmp 7)) none .p), (.mk (some 33) (.mv (.tmp 0)) none .p), (.mk (some 34) (.mv (.tmp 8)) none .p), (.mk (some 35) (.iaddrS 7 (.tmp
  33) (.tmp 34)) none .p), (.mk (some 36) (.load true 7 (.tmp 35)) none .r), (.mk (some 37) (.buildSl [(.pv (.int .i64 0)), (.pv (.int .i32 0)), (.pv (.int .i32
  0)), (.pv (.sl .nil 0 [])), (.pv (.int .i64 0)), (.pv (.int .i64 0)), (.pv (.str []))] 1 7 [(0, (7, (.tmp 36)))]) none .p), (.mk (some 38) (.app 7 72 (.tmp
  32) (.tmp 37)) none .w), (.mk (some 7) (.mv (.tmp 38)) none .p)])) .skip))))) (.tr (rl [0, 0, 0, 4, 0]) false (.region false [(.mk (some 14) (.mv (.tmp 8))
  none .p), (.mk (some 15) (.bin .add (.tmp 14) (.lit (.c (.pv (.int .i64 1))))) none .p), (.mk (some 8) (.mv (.tmp 15)) none .p)]))))
def xf29 : XFunc :=
(.mk 40 [(.tmp 6)] (.seq (.tr (rl [0, 0, 0]) false (.region false [(.mk (some 6) (.mv (.lit (.c (.pv (.sl .nil 0 []))))) none .p)])) (.seq (.tr (rl [0, 0, 0,
  4]) false (.region false [(.mk (some 9) (.buildSl [(.pv (.int .i64 0)), (.pv (.int .i32 0)), (.pv (.int .i32 0)), (.pv (.sl .nil 0 [])), (.pv (.int .i64 0)),
  (.pv (.int .i64 0)), (.pv (.str []))] 0 7 []) none .p), (.mk (some 7) (.mv (.tmp 9)) none .p)])) (.seq (.seq (.region false [(.mk (some 8) (.mv (.lit (.c (.pv
  (.int .i64 0))))) none .p)]) (.tr (rl [7]) false (.block 0 (.loop (rl [0, 0, 0, 4, 0]) xf29_l0)))) (.seq (.tr (rl [6]) false (.region false [(.mk (some 39)
  (.mv (.tmp 7)) none .p), (.mk (some 6) (.mv (.tmp 39)) none .p)])) (.tr (rl [6]) false .ret))))))
theorem xf29_ok : cmpFunc Go.Proofs.Tryd.prog 29 ((.two (.tr (rl [0, 0, 0]) false .no) (.two (.tr (rl [0, 0, 0, 4]) false .no) (.two (.two .no (.tr (rl [7]) false (.loop (rl [0, 0, 0, 4, 0]) (.two (.two (.tr (rl [0, 0, 0, 4, 0, 4]) false .no) (.tr (rl [0, 0, 0, 4, 0]) false (.two .no (.tr (rl [7]) false .no)))) (.two (.tr (rl [0, 0, 0, 4, 0]) false (.two (.tr (rl [0, 0, 0, 4, 0, 22]) false .no) (.tr (rl [0, 0, 0, 4, 0]) false (.two (.tr (rl [0, 0, 0, 4, 0]) false .no) .no)))) (.tr (rl [0, 0, 0, 4, 0]) false .no)))))) (.two (.tr (rl [6]) false .no) (.tr (rl [6]) false .no)))))) = some xf29 := by kernel_rfl
def xf30_l0 : XCode :=
(.seq (.seq (.tr (rl [0, 2, 0, 4]) false (.region false [(.mk (some 6) (.mv (.tmp 4)) none .p), (.mk (some 7) (.mv (.tmp 0)) none .p), (.mk (some 8) (.len (.tmp
  7)) none .p), (.mk (some 9) (.bin .lss (.tmp 6) (.tmp 8)) none .p)])) (.tr (rl [0, 2, 0]) false (.cond (.tmp 9) .skip (.tr (rl [3]) false (.exit 0))))) (.seq
  (.tr (rl [0, 2, 0]) false (.block 1 (.seq (.tr (rl [0, 2, 0, 12]) false (.region false [(.mk (some 12) (.mv (.tmp 0)) none .p), (.mk (some 13) (.mv (.tmp 4))
  none .p), (.mk (some 14) (.iaddrS 7 (.tmp 12) (.tmp 13)) none .p), (.mk (some 15) (.faddr 5 (.tmp 14)) none .p), (.mk (some 16) (.load false 1 (.tmp 15)) none
  .r), (.mk (some 17) (.bin .eql (.tmp 16) (.lit (.c (.pv (.int .i64 0))))) none .p)])) (.tr (rl [0, 2, 0]) false (.cond (.tmp 17) (.tr (rl [0, 2, 0]) false
  (.region false [(.mk (some 18) (.mv (.tmp 3)) none .p), (.mk (some 19) (.mv (.tmp 0)) none .p), (.mk (some 20) (.mv (.tmp 4)) none .p), (.mk (some 21)
  (.iaddrS 7 (.tmp 19) (.tmp 20)) none .p), (.mk (some 22) (.load true 7 (.tmp 21)) none .r), (.mk (some 23) (.buildSl [(.pv (.int .i64 0)), (.pv (.int .i32
  0)), (.pv (.int .i32 0)), (.pv (.sl .nil 0 [])), (.pv (.int .i64 0)), (.pv (.int .i64 0)), (.pv (.str []))] 1 7 [(0, (7, (.tmp 22)))]) none .p), (.mk (some
  24) (.app 7 72 (.tmp 18) (.tmp 23)) none .w), (.mk (some 3) (.mv (.tmp 24)) none .p)])) .skip))))) (.tr (rl [0, 2, 0]) false (.region false [(.mk (some 10)
  (.mv (.tmp 4)) none .p), (.mk (some 11) (.bin .add (.tmp 10) (.lit (.c (.pv (.int .i64 1))))) none .p), (.mk (some 4) (.mv (.tmp 11)) none .p)]))))
def xf30 : XFunc :=
(.mk 26 [(.tmp 2)] (.seq (.tr (rl [0]) false (.region false [(.mk (some 2) (.mv (.lit (.c (.pv (.sl .nil 0 []))))) none .p)])) (.seq (.tr (rl [0, 2]) false
  (.region false [(.mk (some 5) (.buildSl [(.pv (.int .i64 0)), (.pv (.int .i32 0)), (.pv (.int .i32 0)), (.pv (.sl .nil 0 [])), (.pv (.int .i64 0)), (.pv (.int
  .i64 0)), (.pv (.str []))] 0 7 []) none .p), (.mk (some 3) (.mv (.tmp 5)) none .p)])) (.seq (.seq (.region false [(.mk (some 4) (.mv (.lit (.c (.pv (.int .i64
  0))))) none .p)]) (.tr (rl [3]) false (.block 0 (.loop (rl [0, 2, 0]) xf30_l0)))) (.seq (.tr (rl [2]) false (.region false [(.mk (some 25) (.mv (.tmp 3)) none
  .p), (.mk (some 2) (.mv (.tmp 25)) none .p)])) (.tr (rl [2]) false .ret))))))
theorem xf30_ok : cmpFunc Go.Proofs.Tryd.prog 30 ((.two (.tr (rl [0]) false .no) (.two (.tr (rl [0, 2]) false .no) (.two (.two .no (.tr (rl [3]) false (.loop (rl [0, 2, 0]) (.two (.two (.tr (rl [0, 2, 0, 4]) false .no) (.tr (rl [0, 2, 0]) false (.two .no (.tr (rl [3]) false .no)))) (.two (.tr (rl [0, 2, 0]) false (.two (.tr (rl [0, 2, 0, 12]) false .no) (.tr (rl [0, 2, 0]) false (.two (.tr (rl [0, 2, 0]) false .no) .no)))) (.tr (rl [0, 2, 0]) false .no)))))) (.two (.tr (rl [2]) false .no) (.tr (rl [2]) false .no)))))) = some xf30 := by kernel_rfl
def xf31_l0 : XCode :=
(.seq (.seq (.tr (rl [0, 0, 3, 8]) false (.region false [(.mk (some 11) (.mv (.tmp 5)) none .p), (.mk (some 12) (.mv (.tmp 0)) none .p), (.mk (some 13) (.len
  (.tmp 12)) none .p), (.mk (some 14) (.bin .lss (.tmp 11) (.tmp 13)) none .p)])) (.tr (rl [0, 0, 3]) false (.cond (.tmp 14) .skip (.tr [] false (.exit 0)))))
  (.seq (.tr (rl [0, 0, 2, 0]) false (.block 1 (.seq (.tr (rl [0, 0, 3, 19]) false (.region true [(.mk (some 17) (.mv (.tmp 0)) none .p), (.mk (some 18) (.mv
  (.tmp 5)) none .p), (.mk (some 19) (.iaddrS 1 (.tmp 17) (.tmp 18)) none .p), (.mk (some 20) (.load false 1 (.tmp 19)) none .r), (.mk (some 21) (.mv (.tmp 1))
  none .p), (.mk (some 22) (.mv (.tmp 5)) none .p), (.mk (some 23) (.iaddrS 1 (.tmp 21) (.tmp 22)) none .p), (.mk (some 24) (.load false 1 (.tmp 23)) none .r),
  (.mk (some 25) (.bin .neq (.tmp 20) (.tmp 24)) none .p)])) (.tr (rl [0, 0, 2, 0]) false (.cond (.tmp 25) (.seq (.region false [(.mk (some 4) (.mv (.lit (.c
  (.pv (.bool false))))) none .p)]) (.tr (rl [4]) false .ret)) .skip))))) (.tr (rl [0, 0, 3]) false (.region false [(.mk (some 15) (.mv (.tmp 5)) none .p), (.mk
  (some 16) (.bin .add (.tmp 15) (.lit (.c (.pv (.int .i64 1))))) none .p), (.mk (some 5) (.mv (.tmp 16)) none .p)]))))
def xf31 : XFunc :=
(.mk 26 [(.tmp 4)] (.seq (.tr (rl [0, 0]) false (.region false [(.mk (some 4) (.mv (.lit (.c (.pv (.bool false))))) none .p)])) (.seq (.seq (.tr (rl [0, 0, 8])
  false (.region false [(.mk (some 6) (.mv (.tmp 0)) none .p), (.mk (some 7) (.len (.tmp 6)) none .p), (.mk (some 8) (.mv (.tmp 1)) none .p), (.mk (some 9)
  (.len (.tmp 8)) none .p), (.mk (some 10) (.bin .neq (.tmp 7) (.tmp 9)) none .p)])) (.tr (rl [0, 0, 2]) false (.cond (.tmp 10) (.seq (.region false [(.mk (some
  4) (.mv (.lit (.c (.pv (.bool false))))) none .p)]) (.tr (rl [4]) false .ret)) .skip))) (.seq (.seq (.region false [(.mk (some 5) (.mv (.lit (.c (.pv (.int
  .i64 0))))) none .p)]) (.tr (rl [4]) false (.block 0 (.loop (rl [0, 0, 3]) xf31_l0)))) (.seq (.region false [(.mk (some 4) (.mv (.lit (.c (.pv (.bool
  true))))) none .p)]) (.tr (rl [4]) false .ret))))))
theorem xf31_ok : cmpFunc Go.Proofs.Tryd.prog 31 ((.two (.tr (rl [0, 0]) false .no) (.two (.two (.tr (rl [0, 0, 8]) false .no) (.tr (rl [0, 0, 2]) false (.two (.two .no (.tr (rl [4]) false .no)) .no))) (.two (.two .no (.tr (rl [4]) false (.loop (rl [0, 0, 3]) (.two (.two (.tr (rl [0, 0, 3, 8]) false .no) (.tr (rl [0, 0, 3]) false (.two .no (.tr [] false .no)))) (.two (.tr (rl [0, 0, 2, 0]) false (.two (.tr (rl [0, 0, 3, 19]) false (.draw [0, 1, 2, 3, 4, 5, 6, 7, 8] [])) (.tr (rl [0, 0, 2, 0]) false (.two (.two .no (.tr (rl [4]) false .no)) .no)))) (.tr (rl [0, 0, 3]) false .no)))))) (.two .no (.tr (rl [4]) false .no)))))) = some xf31 := by kernel_rfl
def xf32_l0 : XCode :=
(.seq (.seq (.tr (rl [0, 2, 0, 0, 0, 16]) false (.region false [(.mk (some 20) (.mv (.tmp 6)) none .p), (.mk (some 21) (.mv (.tmp 0)) none .p), (.mk (some 22)
  (.len (.tmp 21)) none .p), (.mk (some 23) (.bin .lss (.tmp 20) (.tmp 22)) none .p)])) (.tr (rl [0, 2, 0, 0, 0]) false (.cond (.tmp 23) .skip (.tr (rl [0, 2,
  0, 0]) false (.exit 2))))) (.seq (.tr (rl [0, 2, 0, 0, 0]) false (.block 3 (.tr (rl [0, 2, 0, 0, 0]) false (.region true [(.mk (some 26) (.mv (.tmp 5)) none
  .p), (.mk (some 27) (.mv (.tmp 26)) none .p), (.mk (some 28) (.mv (.tmp 0)) (some (27, false)) .p), (.mk (some 29) (.mv (.tmp 6)) (some (27, false)) .p), (.mk
  (some 30) (.iaddrS 7 (.tmp 28) (.tmp 29)) (some (27, false)) .p), (.mk (some 31) (.faddr 4 (.tmp 30)) (some (27, false)) .p), (.mk (some 32) (.load false 1
  (.tmp 31)) (some (27, false)) .r), (.mk (some 33) (.mv (.tmp 0)) (some (27, false)) .p), (.mk (some 34) (.mv (.tmp 4)) (some (27, false)) .p), (.mk (some 35)
  (.iaddrS 7 (.tmp 33) (.tmp 34)) (some (27, false)) .p), (.mk (some 36) (.faddr 0 (.tmp 35)) (some (27, false)) .p), (.mk (some 37) (.load false 1 (.tmp 36))
  (some (27, false)) .r), (.mk (some 38) (.bin .eql (.tmp 32) (.tmp 37)) (some (27, false)) .p), (.mk (some 39) (.pick (.tmp 27) (.lit (.c (.pv (.bool true))))
  (.tmp 38)) none .p), (.mk (some 5) (.mv (.tmp 39)) none .p)])))) (.tr (rl [0, 2, 0, 0, 0]) false (.region false [(.mk (some 24) (.mv (.tmp 6)) none .p), (.mk
  (some 25) (.bin .add (.tmp 24) (.lit (.c (.pv (.int .i64 1))))) none .p), (.mk (some 6) (.mv (.tmp 25)) none .p)]))))
def xf32_l1 : XCode :=
(.seq (.seq (.tr (rl [0, 2, 0, 6]) false (.region false [(.mk (some 8) (.mv (.tmp 4)) none .p), (.mk (some 9) (.mv (.tmp 0)) none .p), (.mk (some 10) (.len
  (.tmp 9)) none .p), (.mk (some 11) (.bin .lss (.tmp 8) (.tmp 10)) none .p)])) (.tr (rl [0, 2, 0]) false (.cond (.tmp 11) .skip (.tr (rl [3]) false (.exit
  0))))) (.seq (.tr (rl [0, 2, 0]) false (.block 1 (.seq (.tr (rl [0, 2, 0, 0]) false (.region false [(.mk (some 14) (.mv (.tmp 0)) none .p), (.mk (some 15)
  (.mv (.tmp 4)) none .p), (.mk (some 16) (.iaddrS 7 (.tmp 14) (.tmp 15)) none .p), (.mk (some 17) (.faddr 4 (.tmp 16)) none .p), (.mk (some 18) (.load false 1
  (.tmp 17)) none .r), (.mk (some 19) (.bin .gtr (.tmp 18) (.lit (.c (.pv (.int .i64 0))))) none .p), (.mk (some 5) (.mv (.tmp 19)) none .p)])) (.seq (.seq
  (.region false [(.mk (some 6) (.mv (.lit (.c (.pv (.int .i64 0))))) none .p)]) (.tr (rl [0, 2, 0, 0]) false (.block 2 (.loop (rl [0, 2, 0, 0, 0]) xf32_l0))))
  (.seq (.tr (rl [0, 2, 0, 36]) false (.region false [(.mk (some 40) (.mv (.tmp 5)) none .p), (.mk (some 41) (.un .not (.tmp 40)) none .p)])) (.tr (rl [0, 2,
  0]) false (.cond (.tmp 41) (.tr (rl [0, 2, 0]) false (.region false [(.mk (some 42) (.mv (.tmp 3)) none .p), (.mk (some 43) (.mv (.tmp 0)) none .p), (.mk
  (some 44) (.mv (.tmp 4)) none .p), (.mk (some 45) (.iaddrS 7 (.tmp 43) (.tmp 44)) none .p), (.mk (some 46) (.faddr 0 (.tmp 45)) none .p), (.mk (some 47)
  (.load false 1 (.tmp 46)) none .r), (.mk (some 48) (.buildSl [(.pv (.int .i64 0))] 1 1 [(0, (1, (.tmp 47)))]) none .p), (.mk (some 49) (.app 1 8 (.tmp 42)
  (.tmp 48)) none .w), (.mk (some 3) (.mv (.tmp 49)) none .p)])) .skip))))))) (.tr (rl [0, 2, 0]) false (.region false [(.mk (some 12) (.mv (.tmp 4)) none .p),
  (.mk (some 13) (.bin .add (.tmp 12) (.lit (.c (.pv (.int .i64 1))))) none .p), (.mk (some 4) (.mv (.tmp 13)) none .p)]))))
def xf32 : XFunc :=
(.mk 51 [(.tmp 2)] (.seq (.tr (rl [0]) false (.region false [(.mk (some 2) (.mv (.lit (.c (.pv (.sl .nil 0 []))))) none .p)])) (.seq (.tr (rl [0, 2]) false
  (.region false [(.mk (some 7) (.buildSl [(.pv (.int .i64 0))] 0 1 []) none .p), (.mk (some 3) (.mv (.tmp 7)) none .p)])) (.seq (.seq (.region false [(.mk
  (some 4) (.mv (.lit (.c (.pv (.int .i64 0))))) none .p)]) (.tr (rl [3]) false (.block 0 (.loop (rl [0, 2, 0]) xf32_l1)))) (.seq (.tr (rl [2]) false (.region
  false [(.mk (some 50) (.mv (.tmp 3)) none .p), (.mk (some 2) (.mv (.tmp 50)) none .p)])) (.tr (rl [2]) false .ret))))))
theorem xf32_ok : cmpFunc Go.Proofs.Tryd.prog 32 ((.two (.tr (rl [0]) false .no) (.two (.tr (rl [0, 2]) false .no) (.two (.two .no (.tr (rl [3]) false (.loop (rl [0, 2, 0]) (.two (.two (.tr (rl [0, 2, 0, 6]) false .no) (.tr (rl [0, 2, 0]) false (.two .no (.tr (rl [3]) false .no)))) (.two (.tr (rl [0, 2, 0]) false (.two (.tr (rl [0, 2, 0, 0]) false .no) (.two (.two .no (.tr (rl [0, 2, 0, 0]) false (.loop (rl [0, 2, 0, 0, 0]) (.two (.two (.tr (rl [0, 2, 0, 0, 0, 16]) false .no) (.tr (rl [0, 2, 0, 0, 0]) false (.two .no (.tr (rl [0, 2, 0, 0]) false .no)))) (.two (.tr (rl [0, 2, 0, 0, 0]) false (.tr (rl [0, 2, 0, 0, 0]) false (.draw [0, 1, 2, 3, 4, 5, 6, 7, 8, 9, 10, 11, 12, 13, 14] []))) (.tr (rl [0, 2, 0, 0, 0]) false .no)))))) (.two (.tr (rl [0, 2, 0, 36]) false .no) (.tr (rl [0, 2, 0]) false (.two (.tr (rl [0, 2, 0]) false .no) .no)))))) (.tr (rl [0, 2, 0]) false .no)))))) (.two (.tr (rl [2]) false .no) (.tr (rl [2]) false .no)))))) = some xf32 := by kernel_rfl
def xf33_l0 : XCode :=
(.seq (.region false [(.mk (some 24) (.bin .lss (.tmp 23) (.tmp 22)) none .p)]) (.seq (.tr (rl [0, 0, 0, 0, 17, 0, 0]) false (.cond (.tmp 24) .skip (.tr (rl [0,
  0, 0, 0]) false (.exit 0)))) (.seq (.tr (rl [0, 0, 0, 0, 4, 0, 11, 0, 0]) false (.block 1 (.seq (.tr (rl [0, 0, 0, 0, 7, 9, 0, 0]) false (.region false [(.mk
  (some 25) (.iaddrS 7 (.tmp 21) (.tmp 23)) none .p), (.mk (some 26) (.load true 7 (.tmp 25)) none .r), (.mk (some 11) (.alloc [(.pv (.int .i64 0)), (.pv (.int
  .i32 0)), (.pv (.int .i32 0)), (.pv (.sl .nil 0 [])), (.pv (.int .i64 0)), (.pv (.int .i64 0)), (.pv (.str []))]) none .w), (.mk none (.store 7 (.tmp 11)
  (.tmp 26)) none .w)])) (.seq (.tr (rl [0, 0, 0, 0, 8, 8, 0, 0]) false (.region false [(.mk (some 27) (.load true 7 (.tmp 11)) none .r), (.mk (some 28) (.call
  false [] (.lit (.c (.fn 37 []))) [(.tmp 27)]) none .p), (.mk (some 12) (.mv (.tmp 28)) none .p)])) (.seq (.tr (rl [0, 0, 0, 0, 8, 8, 0, 0, 6]) false (.region
  false [(.mk (some 29) (.mv (.tmp 12)) none .p), (.mk (some 30) (.bin .neq (.tmp 29) (.lit (.c (.pv (.int .i64 0))))) none .p)])) (.tr (rl [0, 0, 0, 0, 4, 0,
  11, 0, 0]) false (.cond (.tmp 30) (.seq (.tr (rl [8, 0]) false (.region false [(.mk (some 31) (.mv (.tmp 12)) none .p), (.mk (some 8) (.mv (.lit (.c (.pv
  (.int .i64 0))))) none .p), (.mk (some 9) (.mv (.tmp 31)) none .p)])) (.tr (rl [8, 0]) false .ret)) .skip))))))) (.tr (rl [0, 0, 0, 0, 17, 0, 0]) false
  (.region false [(.mk (some 32) (.bin .add (.tmp 23) (.lit (.c (.pv (.int .i64 1))))) none .p), (.mk (some 23) (.mv (.tmp 32)) none .p)])))))
def xf33_l1 : XCode :=
(.seq (.region false [(.mk (some 42) (.bin .lss (.tmp 41) (.tmp 40)) none .p)]) (.seq (.tr (rl [1, 0, 0, 9, 25, 0, 0]) false (.cond (.tmp 42) .skip (.tr (rl
  [13]) false (.exit 2)))) (.seq (.tr (rl [1, 0, 0, 9, 25, 0, 0]) false (.block 3 (.seq (.tr (rl [1, 0, 0, 9, 1, 23, 0, 0]) false (.region false [(.mk (some 43)
  (.iaddrS 7 (.tmp 39) (.tmp 41)) none .p), (.mk (some 44) (.load true 7 (.tmp 43)) none .r), (.mk (some 15) (.alloc [(.pv (.int .i64 0)), (.pv (.int .i32 0)),
  (.pv (.int .i32 0)), (.pv (.sl .nil 0 [])), (.pv (.int .i64 0)), (.pv (.int .i64 0)), (.pv (.str []))]) none .w), (.mk none (.store 7 (.tmp 15) (.tmp 44))
  none .w)])) (.seq (.tr (rl [1, 0, 0, 9, 1, 0, 22, 0, 0]) false (.region false [(.mk (some 46) (.load true 7 (.tmp 15)) none .r), (.mk (some 47) (.mv (.tmp 1))
  none .p), (.mk (some 48) (.mv (.tmp 2)) none .p), (.mk (some 49) (.call false [] (.lit (.c (.fn 40 []))) [(.tmp 46), (.tmp 47), (.tmp 48)]) none .p), (.mk
  (some 45) (.mv (.tmp 49)) none .p), (.mk (some 50) (.extr 0 (.tmp 45)) none .p), (.mk (some 51) (.extr 1 (.tmp 45)) none .p), (.mk (some 16) (.mv (.tmp 50))
  none .p), (.mk (some 17) (.mv (.tmp 51)) none .p)])) (.seq (.tr (rl [1, 0, 0, 9, 2, 22, 0, 0, 13]) false (.region false [(.mk (some 52) (.faddr 2 (.tmp 15))
  none .p), (.mk (some 53) (.load false 1 (.tmp 52)) none .r), (.mk (some 54) (.mv (.tmp 3)) none .p), (.mk (some 55) (.bin .leq (.tmp 53) (.tmp 54)) none
  .p)])) (.tr (rl [1, 0, 0, 9, 25, 0, 0]) false (.cond (.tmp 55) (.tr (rl [1, 0, 0, 9, 25, 0, 0]) false (.region false [(.mk (some 56) (.mv (.tmp 13)) none .p),
  (.mk (some 57) (.mv (.tmp 16)) none .p), (.mk (some 58) (.bin .add (.tmp 56) (.tmp 57)) none .p), (.mk (some 13) (.mv (.tmp 58)) none .p)])) .skip))))))) (.tr
  (rl [1, 0, 0, 9, 25, 0, 0]) false (.region false [(.mk (some 59) (.bin .add (.tmp 41) (.lit (.c (.pv (.int .i64 1))))) none .p), (.mk (some 41) (.mv (.tmp
  59)) none .p)])))))
def xf33 : XFunc :=
(.mk 61 [(.tmp 8), (.tmp 9)] (.seq (.tr (rl [0, 0, 0, 0]) false (.region false [(.mk (some 8) (.mv (.lit (.c (.pv (.int .i64 0))))) none .p), (.mk (some 9) (.mv
  (.lit (.c (.pv (.int .i64 0))))) none .p)])) (.seq (.seq (.tr (rl [0, 0, 0, 0, 16]) false (.region false [(.mk (some 18) (.mv (.tmp 0)) none .p), (.mk (some
  19) (.len (.tmp 18)) none .p), (.mk (some 20) (.bin .gtr (.tmp 19) (.lit (.c (.pv (.int .i64 400))))) none .p)])) (.tr (rl [0, 0, 0, 0, 4, 0]) false (.cond
  (.tmp 20) (.seq (.region false [(.mk (some 8) (.mv (.lit (.c (.pv (.int .i64 0))))) none .p), (.mk (some 9) (.mv (.lit (.c (.pv (.int .i64 4))))) none .p)])
  (.tr (rl [8, 0]) false .ret)) .skip))) (.seq (.seq (.region false [(.mk (some 21) (.mv (.tmp 0)) none .p), (.mk (some 22) (.len (.tmp 21)) none .p), (.mk
  (some 23) (.mv (.lit (.c (.pv (.int .i64 0))))) none .p)]) (.tr (rl [0, 0, 0, 0, 4, 0]) false (.block 0 (.loop (rl [0, 0, 0, 0, 17, 0, 0]) xf33_l0)))) (.seq
  (.seq (.tr (rl [0, 0, 0, 0, 34]) false (.region false [(.mk (some 33) (.mv (.tmp 2)) none .p), (.mk (some 34) (.bin .lss (.tmp 33) (.lit (.c (.pv (.int .i64
  0))))) none .p), (.mk (some 35) (.mv (.tmp 34)) none .p), (.mk (some 36) (.mv (.tmp 2)) (some (35, false)) .p), (.mk (some 37) (.bin .geq (.tmp 36) (.lit (.c
  (.pv (.int .i64 4))))) (some (35, false)) .p), (.mk (some 38) (.pick (.tmp 35) (.lit (.c (.pv (.bool true)))) (.tmp 37)) none .p)])) (.tr (rl [0, 0, 0, 0, 4,
  0]) false (.cond (.tmp 38) (.seq (.region false [(.mk (some 8) (.mv (.lit (.c (.pv (.int .i64 0))))) none .p), (.mk (some 9) (.mv (.lit (.c (.pv (.int .i64
  12))))) none .p)]) (.tr (rl [8, 0]) false .ret)) .skip))) (.seq (.region false [(.mk (some 13) (.mv (.lit (.c (.pv (.int .i64 0))))) none .p)]) (.seq (.seq
  (.tr (rl [1, 0, 0, 9, 25, 0, 0]) false (.region false [(.mk (some 39) (.mv (.tmp 0)) none .p), (.mk (some 40) (.len (.tmp 39)) none .p), (.mk (some 41) (.mv
  (.lit (.c (.pv (.int .i64 0))))) none .p)])) (.tr (rl [13]) false (.block 2 (.loop (rl [1, 0, 0, 9, 25, 0, 0]) xf33_l1)))) (.seq (.tr (rl [8, 0]) false
  (.region false [(.mk (some 60) (.mv (.tmp 13)) none .p), (.mk (some 8) (.mv (.tmp 60)) none .p), (.mk (some 9) (.mv (.lit (.c (.pv (.int .i64 0))))) none
  .p)])) (.tr (rl [8, 0]) false .ret)))))))))
theorem xf33_ok : cmpFunc Go.Proofs.Tryd.prog 33 ((.two (.tr (rl [0, 0, 0, 0]) false .no) (.two (.two (.tr (rl [0, 0, 0, 0, 16]) false .no) (.tr (rl [0, 0, 0, 0, 4, 0]) false (.two (.two .no (.tr (rl [8, 0]) false .no)) .no))) (.two (.two .no (.tr (rl [0, 0, 0, 0, 4, 0]) false (.loop (rl [0, 0, 0, 0, 17, 0, 0]) (.two .no (.two (.tr (rl [0, 0, 0, 0, 17, 0, 0]) false (.two .no (.tr (rl [0, 0, 0, 0]) false .no))) (.two (.tr (rl [0, 0, 0, 0, 4, 0, 11, 0, 0]) false (.two (.tr (rl [0, 0, 0, 0, 7, 9, 0, 0]) false .no) (.two (.tr (rl [0, 0, 0, 0, 8, 8, 0, 0]) false (.ops [{}, { cls := some .p }])) (.two (.tr (rl [0, 0, 0, 0, 8, 8, 0, 0, 6]) false .no) (.tr (rl [0, 0, 0, 0, 4, 0, 11, 0, 0]) false (.two (.two (.tr (rl [8, 0]) false .no) (.tr (rl [8, 0]) false .no)) .no)))))) (.tr (rl [0, 0, 0, 0, 17, 0, 0]) false .no))))))) (.two (.two (.tr (rl [0, 0, 0, 0, 34]) false .no) (.tr (rl [0, 0, 0, 0, 4, 0]) false (.two (.two .no (.tr (rl [8, 0]) false .no)) .no))) (.two .no (.two (.two (.tr (rl [1, 0, 0, 9, 25, 0, 0]) false .no) (.tr (rl [13]) false (.loop (rl [1, 0, 0, 9, 25, 0, 0]) (.two .no (.two (.tr (rl [1, 0, 0, 9, 25, 0, 0]) false (.two .no (.tr (rl [13]) false .no))) (.two (.tr (rl [1, 0, 0, 9, 25, 0, 0]) false (.two (.tr (rl [1, 0, 0, 9, 1, 23, 0, 0]) false .no) (.two (.tr (rl [1, 0, 0, 9, 1, 0, 22, 0, 0]) false (.ops [{}, {}, {}, { cls := some .p }])) (.two (.tr (rl [1, 0, 0, 9, 2, 22, 0, 0, 13]) false .no) (.tr (rl [1, 0, 0, 9, 25, 0, 0]) false (.two (.tr (rl [1, 0, 0, 9, 25, 0, 0]) false .no) .no)))))) (.tr (rl [1, 0, 0, 9, 25, 0, 0]) false .no))))))) (.two (.tr (rl [8, 0]) false .no) (.tr (rl [8, 0]) false .no))))))))) = some xf33 := by kernel_rfl
def xf34_l0 : XCode :=
(.seq (.seq (.tr (rl [1, 1, 42]) false (.region false [(.mk (some 42) (.mv (.tmp 3)) none .p), (.mk (some 43) (.faddr 6 (.tmp 1)) none .p), (.mk (some 44)
  (.load false 1 (.tmp 43)) none .r), (.mk (some 45) (.lenS (.tmp 44)) none .p), (.mk (some 46) (.bin .lss (.tmp 42) (.tmp 45)) none .p)])) (.tr (rl [1, 1])
  false (.cond (.tmp 46) .skip (.tr (rl [1]) false (.exit 0))))) (.seq (.tr (rl [1, 0, 0]) false (.block 1 (.seq (.tr (rl [1, 1, 56]) false (.region false [(.mk
  (some 49) (.faddr 6 (.tmp 1)) none .p), (.mk (some 50) (.load false 1 (.tmp 49)) none .r), (.mk (some 51) (.mv (.tmp 3)) none .p), (.mk (some 52) (.idxS (.tmp
  50) (.tmp 51)) none .p), (.mk (some 53) (.bin .lss (.tmp 52) (.lit (.c (.pv (.int .u8 32))))) none .p), (.mk (some 54) (.mv (.tmp 53)) none .p), (.mk (some
  55) (.faddr 6 (.tmp 1)) (some (54, false)) .p), (.mk (some 56) (.load false 1 (.tmp 55)) (some (54, false)) .r), (.mk (some 57) (.mv (.tmp 3)) (some (54,
  false)) .p), (.mk (some 58) (.idxS (.tmp 56) (.tmp 57)) (some (54, false)) .p), (.mk (some 59) (.bin .gtr (.tmp 58) (.lit (.c (.pv (.int .u8 126))))) (some
  (54, false)) .p), (.mk (some 60) (.pick (.tmp 54) (.lit (.c (.pv (.bool true)))) (.tmp 59)) none .p)])) (.tr (rl [1, 0, 0]) false (.cond (.tmp 60) (.seq
  (.region false [(.mk (some 2) (.mv (.lit (.c (.pv (.int .i64 1))))) none .p)]) (.tr (rl [2]) false .ret)) .skip))))) (.tr (rl [1, 1]) false (.region false
  [(.mk (some 47) (.mv (.tmp 3)) none .p), (.mk (some 48) (.bin .add (.tmp 47) (.lit (.c (.pv (.int .i64 1))))) none .p), (.mk (some 3) (.mv (.tmp 48)) none
  .p)]))))
def xf34 : XFunc :=
(.mk 84 [(.tmp 2)] (.seq (.tr (rl [1]) false (.region false [(.mk (some 1) (.box (.tmp 0) 7) none .w), (.mk (some 2) (.mv (.lit (.c (.pv (.int .i64 0))))) none
  .p)])) (.seq (.seq (.tr (rl [1, 39]) false (.region false [(.mk (some 6) (.faddr 0 (.tmp 1)) none .p), (.mk (some 7) (.load false 1 (.tmp 6)) none .r), (.mk
  (some 8) (.bin .lss (.tmp 7) (.lit (.c (.pv (.int .i64 1))))) none .p), (.mk (some 9) (.mv (.tmp 8)) none .p), (.mk (some 10) (.faddr 0 (.tmp 1)) (some (9,
  false)) .p), (.mk (some 11) (.load false 1 (.tmp 10)) (some (9, false)) .r), (.mk (some 12) (.bin .gtr (.tmp 11) (.lit (.c (.pv (.int .i64 1000000))))) (some
  (9, false)) .p), (.mk (some 13) (.pick (.tmp 9) (.lit (.c (.pv (.bool true)))) (.tmp 12)) none .p), (.mk (some 14) (.mv (.tmp 13)) none .p), (.mk (some 15)
  (.faddr 4 (.tmp 1)) (some (14, false)) .p), (.mk (some 16) (.load false 1 (.tmp 15)) (some (14, false)) .r), (.mk (some 17) (.bin .lss (.tmp 16) (.lit (.c
  (.pv (.int .i64 0))))) (some (14, false)) .p), (.mk (some 18) (.pick (.tmp 14) (.lit (.c (.pv (.bool true)))) (.tmp 17)) none .p), (.mk (some 19) (.mv (.tmp
  18)) none .p), (.mk (some 20) (.faddr 4 (.tmp 1)) (some (19, false)) .p), (.mk (some 21) (.load false 1 (.tmp 20)) (some (19, false)) .r), (.mk (some 22)
  (.faddr 0 (.tmp 1)) (some (19, false)) .p), (.mk (some 23) (.load false 1 (.tmp 22)) (some (19, false)) .r), (.mk (some 24) (.bin .geq (.tmp 21) (.tmp 23))
  (some (19, false)) .p), (.mk (some 25) (.pick (.tmp 19) (.lit (.c (.pv (.bool true)))) (.tmp 24)) none .p), (.mk (some 26) (.mv (.tmp 25)) none .p), (.mk
  (some 27) (.faddr 5 (.tmp 1)) (some (26, false)) .p), (.mk (some 28) (.load false 1 (.tmp 27)) (some (26, false)) .r), (.mk (some 29) (.bin .lss (.tmp 28)
  (.lit (.c (.pv (.int .i64 0))))) (some (26, false)) .p), (.mk (some 30) (.pick (.tmp 26) (.lit (.c (.pv (.bool true)))) (.tmp 29)) none .p), (.mk (some 31)
  (.mv (.tmp 30)) none .p), (.mk (some 32) (.faddr 5 (.tmp 1)) (some (31, false)) .p), (.mk (some 33) (.load false 1 (.tmp 32)) (some (31, false)) .r), (.mk
  (some 34) (.bin .gtr (.tmp 33) (.lit (.c (.pv (.int .i64 4))))) (some (31, false)) .p), (.mk (some 35) (.pick (.tmp 31) (.lit (.c (.pv (.bool true)))) (.tmp
  34)) none .p), (.mk (some 36) (.mv (.tmp 35)) none .p), (.mk (some 37) (.faddr 6 (.tmp 1)) (some (36, false)) .p), (.mk (some 38) (.load false 1 (.tmp 37))
  (some (36, false)) .r), (.mk (some 39) (.lenS (.tmp 38)) (some (36, false)) .p), (.mk (some 40) (.bin .gtr (.tmp 39) (.lit (.c (.pv (.int .i64 32))))) (some
  (36, false)) .p), (.mk (some 41) (.pick (.tmp 36) (.lit (.c (.pv (.bool true)))) (.tmp 40)) none .p)])) (.tr (rl [1, 0]) false (.cond (.tmp 41) (.seq (.region
  false [(.mk (some 2) (.mv (.lit (.c (.pv (.int .i64 1))))) none .p)]) (.tr (rl [2]) false .ret)) .skip))) (.seq (.seq (.region false [(.mk (some 3) (.mv (.lit
  (.c (.pv (.int .i64 0))))) none .p)]) (.tr (rl [1, 0]) false (.block 0 (.loop (rl [1, 1]) xf34_l0)))) (.seq (.tr (rl [1, 2]) false (.region false [(.mk (some
  61) (.faddr 1 (.tmp 1)) none .p), (.mk (some 62) (.load false 1 (.tmp 61)) none .r), (.mk (some 63) (.call false [] (.lit (.c (.fn 72 []))) [(.tmp 62)]) none
  .p), (.mk (some 4) (.mv (.tmp 63)) none .p)])) (.seq (.tr (rl [1, 2, 0]) false (.region false [(.mk (some 64) (.faddr 2 (.tmp 1)) none .p), (.mk (some 65)
  (.load false 1 (.tmp 64)) none .r), (.mk (some 66) (.call false [] (.lit (.c (.fn 72 []))) [(.tmp 65)]) none .p), (.mk (some 5) (.mv (.tmp 66)) none .p)]))
  (.seq (.seq (.tr (rl [1, 70]) false (.region false [(.mk (some 67) (.mv (.tmp 4)) none .p), (.mk (some 68) (.un .not (.tmp 67)) none .p), (.mk (some 69) (.mv
  (.tmp 68)) none .p), (.mk (some 70) (.mv (.tmp 5)) (some (69, false)) .p), (.mk (some 71) (.un .not (.tmp 70)) (some (69, false)) .p), (.mk (some 72) (.pick
  (.tmp 69) (.lit (.c (.pv (.bool true)))) (.tmp 71)) none .p)])) (.tr (rl [1, 0]) false (.cond (.tmp 72) (.seq (.region false [(.mk (some 2) (.mv (.lit (.c
  (.pv (.int .i64 11))))) none .p)]) (.tr (rl [2]) false .ret)) .skip))) (.seq (.seq (.tr (rl [1, 74]) false (.region false [(.mk (some 73) (.faddr 3 (.tmp 1))
  none .p), (.mk (some 74) (.load false 1 (.tmp 73)) none .r), (.mk (some 75) (.len (.tmp 74)) none .p), (.mk (some 76) (.bin .lss (.tmp 75) (.lit (.c (.pv
  (.int .i64 2))))) none .p)])) (.tr (rl [1, 0]) false (.cond (.tmp 76) (.seq (.region false [(.mk (some 2) (.mv (.lit (.c (.pv (.int .i64 2))))) none .p)])
  (.tr (rl [2]) false .ret)) .skip))) (.seq (.seq (.tr (rl [1, 78]) false (.region false [(.mk (some 77) (.faddr 3 (.tmp 1)) none .p), (.mk (some 78) (.load
  false 1 (.tmp 77)) none .r), (.mk (some 79) (.len (.tmp 78)) none .p), (.mk (some 80) (.bin .gtr (.tmp 79) (.lit (.c (.pv (.int .i64 16))))) none .p)])) (.tr
  (rl [1, 0]) false (.cond (.tmp 80) (.seq (.region false [(.mk (some 2) (.mv (.lit (.c (.pv (.int .i64 4))))) none .p)]) (.tr (rl [2]) false .ret)) .skip)))
  (.seq (.tr (rl [2]) false (.region false [(.mk (some 81) (.faddr 3 (.tmp 1)) none .p), (.mk (some 82) (.load false 1 (.tmp 81)) none .r), (.mk (some 83)
  (.call false [] (.lit (.c (.fn 73 []))) [(.tmp 82)]) none .p), (.mk (some 2) (.mv (.tmp 83)) none .p)])) (.tr (rl [2]) false .ret)))))))))))
theorem xf34_ok : cmpFunc Go.Proofs.Tryd.prog 34 ((.two (.tr (rl [1]) false .no) (.two (.two (.tr (rl [1, 39]) false .no) (.tr (rl [1, 0]) false (.two (.two .no (.tr (rl [2]) false .no)) .no))) (.two (.two .no (.tr (rl [1, 0]) false (.loop (rl [1, 1]) (.two (.two (.tr (rl [1, 1, 42]) false .no) (.tr (rl [1, 1]) false (.two .no (.tr (rl [1]) false .no)))) (.two (.tr (rl [1, 0, 0]) false (.two (.tr (rl [1, 1, 56]) false .no) (.tr (rl [1, 0, 0]) false (.two (.two .no (.tr (rl [2]) false .no)) .no)))) (.tr (rl [1, 1]) false .no)))))) (.two (.tr (rl [1, 2]) false (.ops [{}, {}, { cls := some .p }])) (.two (.tr (rl [1, 2, 0]) false (.ops [{}, {}, { cls := some .p }])) (.two (.two (.tr (rl [1, 70]) false .no) (.tr (rl [1, 0]) false (.two (.two .no (.tr (rl [2]) false .no)) .no))) (.two (.two (.tr (rl [1, 74]) false .no) (.tr (rl [1, 0]) false (.two (.two .no (.tr (rl [2]) false .no)) .no))) (.two (.two (.tr (rl [1, 78]) false .no) (.tr (rl [1, 0]) false (.two (.two .no (.tr (rl [2]) false .no)) .no))) (.two (.tr (rl [2]) false (.ops [{}, {}, { cls := some .p }])) (.tr (rl [2]) false .no))))))))))) = some xf34 := by kernel_rfl
def xf35_l0 : XCode :=
(.seq (.seq (.tr (rl [0, 0, 0, 0, 5, 0, 3]) false (.region false [(.mk (some 11) (.mv (.tmp 10)) none .p), (.mk (some 12) (.mv (.tmp 0)) none .p), (.mk (some
  13) (.len (.tmp 12)) none .p), (.mk (some 14) (.bin .lss (.tmp 11) (.tmp 13)) none .p)])) (.tr (rl [0, 0, 0, 0, 5, 0]) false (.cond (.tmp 14) .skip (.tr (rl
  [9]) false (.exit 0))))) (.seq (.tr (rl [0, 0, 0, 0, 5, 0]) false (.block 1 (.seq (.tr (rl [0, 0, 0, 0, 5, 0, 12]) false (.region false [(.mk (some 17) (.mv
  (.tmp 0)) none .p), (.mk (some 18) (.mv (.tmp 10)) none .p), (.mk (some 19) (.iaddrS 7 (.tmp 17) (.tmp 18)) none .p), (.mk (some 20) (.faddr 2 (.tmp 19)) none
  .p), (.mk (some 21) (.load false 1 (.tmp 20)) none .r), (.mk (some 22) (.mv (.tmp 3)) none .p), (.mk (some 23) (.bin .leq (.tmp 21) (.tmp 22)) none .p)]))
  (.tr (rl [0, 0, 0, 0, 5, 0]) false (.cond (.tmp 23) (.tr (rl [0, 0, 0, 0, 5, 0]) false (.region false [(.mk (some 24) (.mv (.tmp 9)) none .p), (.mk (some 25)
  (.mv (.tmp 0)) none .p), (.mk (some 26) (.mv (.tmp 10)) none .p), (.mk (some 27) (.iaddrS 7 (.tmp 25) (.tmp 26)) none .p), (.mk (some 28) (.load true 7 (.tmp
  27)) none .r), (.mk (some 29) (.mv (.tmp 1)) none .p), (.mk (some 30) (.mv (.tmp 2)) none .p), (.mk (some 31) (.call false [] (.lit (.c (.fn 45 []))) [(.tmp
  28), (.tmp 29), (.tmp 30)]) none .p), (.mk (some 32) (.bin .add (.tmp 24) (.tmp 31)) none .p), (.mk (some 9) (.mv (.tmp 32)) none .p)])) .skip))))) (.tr (rl
  [0, 0, 0, 0, 5, 0]) false (.region false [(.mk (some 15) (.mv (.tmp 10)) none .p), (.mk (some 16) (.bin .add (.tmp 15) (.lit (.c (.pv (.int .i64 1))))) none
  .p), (.mk (some 10) (.mv (.tmp 16)) none .p)]))))
def xf35 : XFunc :=
(.mk 34 [(.tmp 8)] (.seq (.tr (rl [0, 0, 0, 0]) false (.region false [(.mk (some 8) (.mv (.lit (.c (.pv (.int .i64 0))))) none .p)])) (.seq (.region false [(.mk
  (some 9) (.mv (.lit (.c (.pv (.int .i64 0))))) none .p)]) (.seq (.seq (.region false [(.mk (some 10) (.mv (.lit (.c (.pv (.int .i64 0))))) none .p)]) (.tr (rl
  [9]) false (.block 0 (.loop (rl [0, 0, 0, 0, 5, 0]) xf35_l0)))) (.seq (.tr (rl [8]) false (.region false [(.mk (some 33) (.mv (.tmp 9)) none .p), (.mk (some
  8) (.mv (.tmp 33)) none .p)])) (.tr (rl [8]) false .ret))))))
theorem xf35_ok : cmpFunc Go.Proofs.Tryd.prog 35 ((.two (.tr (rl [0, 0, 0, 0]) false .no) (.two .no (.two (.two .no (.tr (rl [9]) false (.loop (rl [0, 0, 0, 0, 5, 0]) (.two (.two (.tr (rl [0, 0, 0, 0, 5, 0, 3]) false .no) (.tr (rl [0, 0, 0, 0, 5, 0]) false (.two .no (.tr (rl [9]) false .no)))) (.two (.tr (rl [0, 0, 0, 0, 5, 0]) false (.two (.tr (rl [0, 0, 0, 0, 5, 0, 12]) false .no) (.tr (rl [0, 0, 0, 0, 5, 0]) false (.two (.tr (rl [0, 0, 0, 0, 5, 0]) false (.ops [{}, {}, {}, {}, {}, {}, {}, { cls := some .p }])) .no)))) (.tr (rl [0, 0, 0, 0, 5, 0]) false .no)))))) (.two (.tr (rl [8]) false .no) (.tr (rl [8]) false .no)))))) = some xf35 := by kernel_rfl
def xf36_l0 : XCode :=
(.seq (.region false [(.mk (some 12) (.bin .lss (.tmp 11) (.tmp 10)) none .p)]) (.seq (.tr (rl [2, 0, 5, 0, 0]) false (.cond (.tmp 12) .skip (.tr (rl [2, 0])
  false (.exit 0)))) (.seq (.tr (rl [2, 0, 5, 0, 0]) false (.block 1 (.seq (.tr (rl [2, 0, 1, 3, 0, 0]) false (.region false [(.mk (some 13) (.iaddrS 7 (.tmp 9)
  (.tmp 11)) none .p), (.mk (some 14) (.load true 7 (.tmp 13)) none .r), (.mk (some 5) (.alloc [(.pv (.int .i64 0)), (.pv (.int .i32 0)), (.pv (.int .i32 0)),
  (.pv (.sl .nil 0 [])), (.pv (.int .i64 0)), (.pv (.int .i64 0)), (.pv (.str []))]) none .w), (.mk none (.store 7 (.tmp 5) (.tmp 14)) none .w)])) (.seq (.tr
  (rl [2, 0, 1, 3, 0, 0]) false (.region false [(.mk (some 15) (.faddr 0 (.tmp 3)) none .p), (.mk (some 16) (.load false 1 (.tmp 15)) none .r), (.mk (some 17)
  (.len (.tmp 16)) none .p), (.mk (some 18) (.bin .add (.tmp 17) (.lit (.c (.pv (.int .i64 1))))) none .p), (.mk (some 19) (.faddr 0 (.tmp 5)) none .p), (.mk
  none (.store 1 (.tmp 19) (.tmp 18)) none .w)])) (.seq (.tr (rl [2, 0, 2, 0, 1, 0, 0]) false (.region false [(.mk (some 21) (.load true 1 (.tmp 3)) none .r),
  (.mk (some 22) (.load true 7 (.tmp 5)) none .r), (.mk (some 23) (.call false [] (.lit (.c (.fn 19 []))) [(.tmp 21), (.tmp 22)]) none .p), (.mk (some 20) (.mv
  (.tmp 23)) none .p), (.mk (some 24) (.extr 0 (.tmp 20)) none .p), (.mk (some 25) (.extr 1 (.tmp 20)) none .p), (.mk (some 6) (.alloc [(.pv (.sl .nil 0 []))])
  none .w), (.mk none (.store 1 (.tmp 6) (.tmp 24)) none .w), (.mk (some 7) (.mv (.tmp 25)) none .p)])) (.seq (.tr (rl [2, 0, 2, 2, 0, 0, 15]) false (.region
  false [(.mk (some 26) (.mv (.tmp 7)) none .p), (.mk (some 27) (.bin .eql (.tmp 26) (.lit (.c (.pv (.int .i64 0))))) none .p)])) (.tr (rl [2, 0, 5, 0, 0])
  false (.cond (.tmp 27) (.tr (rl [2, 0, 5, 0, 0]) false (.region false [(.mk (some 28) (.load true 1 (.tmp 6)) none .r), (.mk none (.store 1 (.tmp 3) (.tmp
  28)) none .w)])) .skip)))))))) (.tr (rl [2, 0, 5, 0, 0]) false (.region false [(.mk (some 29) (.bin .add (.tmp 11) (.lit (.c (.pv (.int .i64 1))))) none .p),
  (.mk (some 11) (.mv (.tmp 29)) none .p)])))))
def xf36 : XFunc :=
(.mk 31 [(.cell 2 true 1)] (.seq (.region false [(.mk (some 2) (.alloc [(.pv (.sl .nil 0 []))]) none .w)]) (.seq (.tr (rl [0, 1, 0]) false (.region false [(.mk
  (some 8) (.build [(.pv (.sl .nil 0 []))] []) none .p), (.mk (some 3) (.alloc [(.pv (.sl .nil 0 []))]) none .w), (.mk none (.store 1 (.tmp 3) (.tmp 8)) none
  .w)])) (.seq (.seq (.tr (rl [2, 0, 5, 0, 0]) false (.region false [(.mk (some 9) (.mv (.tmp 0)) none .p), (.mk (some 10) (.len (.tmp 9)) none .p), (.mk (some
  11) (.mv (.lit (.c (.pv (.int .i64 0))))) none .p)])) (.tr (rl [2, 0]) false (.block 0 (.loop (rl [2, 0, 5, 0, 0]) xf36_l0)))) (.seq (.tr (rl [2]) false
  (.region false [(.mk (some 30) (.load true 1 (.tmp 3)) none .r), (.mk none (.store 1 (.tmp 2) (.tmp 30)) none .w)])) (.tr (rl [2]) false .ret))))))
theorem xf36_ok : cmpFunc Go.Proofs.Tryd.prog 36 ((.two .no (.two (.tr (rl [0, 1, 0]) false .no) (.two (.two (.tr (rl [2, 0, 5, 0, 0]) false .no) (.tr (rl [2, 0]) false (.loop (rl [2, 0, 5, 0, 0]) (.two .no (.two (.tr (rl [2, 0, 5, 0, 0]) false (.two .no (.tr (rl [2, 0]) false .no))) (.two (.tr (rl [2, 0, 5, 0, 0]) false (.two (.tr (rl [2, 0, 1, 3, 0, 0]) false .no) (.two (.tr (rl [2, 0, 1, 3, 0, 0]) false .no) (.two (.tr (rl [2, 0, 2, 0, 1, 0, 0]) false (.ops [{}, {}, { cls := some .p }])) (.two (.tr (rl [2, 0, 2, 2, 0, 0, 15]) false .no) (.tr (rl [2, 0, 5, 0, 0]) false (.two (.tr (rl [2, 0, 5, 0, 0]) false .no) .no))))))) (.tr (rl [2, 0, 5, 0, 0]) false .no))))))) (.two (.tr (rl [2]) false .no) (.tr (rl [2]) false .no)))))) = some xf36 := by kernel_rfl
def xf37 : XFunc :=
(.mk 47 [(.tmp 2)] (.seq (.tr (rl [1]) false (.region false [(.mk (some 1) (.box (.tmp 0) 7) none .w), (.mk (some 2) (.mv (.lit (.c (.pv (.int .i64 0))))) none
  .p)])) (.seq (.tr (rl [1, 1]) false (.region false [(.mk (some 4) (.mkfn 74 [(.tmp 1)]) none .p), (.mk (some 3) (.mv (.tmp 4)) none .p)])) (.seq (.tr (rl [2])
  false (.block 0 (.seq (.tr (rl [1, 1, 1]) false (.region false [(.mk (some 6) (.load true 7 (.tmp 1)) none .r), (.mk (some 7) (.call false [] (.lit (.c (.fn
  76 []))) [(.tmp 6)]) none .p), (.mk (some 8) (.un .not (.tmp 7)) none .p), (.mk (some 5) (.mv (.tmp 8)) none .p)])) (.tr (rl [2]) false (.cond (.tmp 5) (.seq
  (.region false [(.mk (some 2) (.mv (.lit (.c (.pv (.int .i64 1))))) none .p)]) (.tr (rl [2]) false .ret)) (.seq (.tr (rl [1, 1, 5]) false (.region false [(.mk
  (some 10) (.faddr 1 (.tmp 1)) none .p), (.mk (some 11) (.load false 1 (.tmp 10)) none .r), (.mk (some 12) (.call false [] (.lit (.c (.fn 77 []))) [(.tmp 11)])
  none .p), (.mk (some 13) (.un .not (.tmp 12)) none .p), (.mk (some 14) (.mv (.tmp 13)) none .p), (.mk (some 15) (.faddr 2 (.tmp 1)) (some (14, false)) .p),
  (.mk (some 16) (.load false 1 (.tmp 15)) (some (14, false)) .r), (.mk (some 17) (.call false [] (.lit (.c (.fn 77 []))) [(.tmp 16)]) (some (14, false)) .p),
  (.mk (some 18) (.un .not (.tmp 17)) (some (14, false)) .p), (.mk (some 19) (.pick (.tmp 14) (.lit (.c (.pv (.bool true)))) (.tmp 18)) none .p), (.mk (some 9)
  (.mv (.tmp 19)) none .p)])) (.tr (rl [2]) false (.cond (.tmp 9) (.seq (.region false [(.mk (some 2) (.mv (.lit (.c (.pv (.int .i64 11))))) none .p)]) (.tr (rl
  [2]) false .ret)) (.seq (.tr (rl [1, 1, 16]) false (.region false [(.mk (some 21) (.faddr 3 (.tmp 1)) none .p), (.mk (some 22) (.load false 1 (.tmp 21)) none
  .r), (.mk (some 23) (.len (.tmp 22)) none .p), (.mk (some 24) (.bin .lss (.tmp 23) (.lit (.c (.pv (.int .i64 2))))) none .p), (.mk (some 20) (.mv (.tmp 24))
  none .p)])) (.tr (rl [2]) false (.cond (.tmp 20) (.seq (.region false [(.mk (some 2) (.mv (.lit (.c (.pv (.int .i64 2))))) none .p)]) (.tr (rl [2]) false
  .ret)) (.seq (.tr (rl [1, 1, 21]) false (.region false [(.mk (some 26) (.faddr 3 (.tmp 1)) none .p), (.mk (some 27) (.load false 1 (.tmp 26)) none .r), (.mk
  (some 28) (.len (.tmp 27)) none .p), (.mk (some 29) (.bin .gtr (.tmp 28) (.lit (.c (.pv (.int .i64 16))))) none .p), (.mk (some 25) (.mv (.tmp 29)) none
  .p)])) (.tr (rl [2]) false (.cond (.tmp 25) (.seq (.region false [(.mk (some 2) (.mv (.lit (.c (.pv (.int .i64 4))))) none .p)]) (.tr (rl [2]) false .ret))
  (.seq (.tr (rl [1, 1, 26]) false (.region false [(.mk (some 31) (.mv (.tmp 3)) none .p), (.mk (some 32) (.call false [] (.tmp 31) [(.lit (.c (.fn 78 [])))])
  none .w), (.mk (some 30) (.mv (.tmp 32)) none .p)])) (.tr (rl [2]) false (.cond (.tmp 30) (.seq (.region false [(.mk (some 2) (.mv (.lit (.c (.pv (.int .i64
  8))))) none .p)]) (.tr (rl [2]) false .ret)) (.seq (.tr (rl [1, 1, 29]) false (.region false [(.mk (some 34) (.mv (.tmp 3)) none .p), (.mk (some 35) (.call
  false [] (.tmp 34) [(.lit (.c (.fn 79 [])))]) none .w), (.mk (some 33) (.mv (.tmp 35)) none .p)])) (.tr (rl [2]) false (.cond (.tmp 33) (.seq (.region false
  [(.mk (some 2) (.mv (.lit (.c (.pv (.int .i64 12))))) none .p)]) (.tr (rl [2]) false .ret)) (.seq (.tr (rl [1, 1, 32]) false (.region false [(.mk (some 37)
  (.mv (.tmp 3)) none .p), (.mk (some 38) (.call false [] (.tmp 37) [(.lit (.c (.fn 81 [])))]) none .w), (.mk (some 36) (.mv (.tmp 38)) none .p)])) (.tr (rl
  [2]) false (.cond (.tmp 36) (.seq (.region false [(.mk (some 2) (.mv (.lit (.c (.pv (.int .i64 9))))) none .p)]) (.tr (rl [2]) false .ret)) (.seq (.tr (rl [1,
  37]) false (.region false [(.mk (some 40) (.mv (.tmp 3)) none .p), (.mk (some 41) (.call false [] (.tmp 40) [(.lit (.c (.fn 83 [])))]) none .w), (.mk (some
  39) (.mv (.tmp 41)) none .p)])) (.tr (rl [2]) false (.cond (.tmp 39) (.seq (.region false [(.mk (some 2) (.mv (.lit (.c (.pv (.int .i64 10))))) none .p)])
  (.tr (rl [2]) false .ret)) (.seq (.tr (rl [42]) false (.region false [(.mk (some 43) (.faddr 3 (.tmp 1)) none .p), (.mk (some 44) (.load false 1 (.tmp 43))
  none .r), (.mk (some 45) (.call false [] (.lit (.c (.fn 84 []))) [(.tmp 44)]) none .p), (.mk (some 46) (.un .not (.tmp 45)) none .p), (.mk (some 42) (.mv
  (.tmp 46)) none .p)])) (.tr (rl [2]) false (.cond (.tmp 42) (.seq (.region false [(.mk (some 2) (.mv (.lit (.c (.pv (.int .i64 15))))) none .p)]) (.tr (rl
  [2]) false .ret)) .skip))))))))))))))))))))))))))))) (.seq (.region false [(.mk (some 2) (.mv (.lit (.c (.pv (.int .i64 0))))) none .p)]) (.tr (rl [2]) false
  .ret))))))
theorem xf37_ok : cmpFunc Go.Proofs.Tryd.prog 37 ((.two (.tr (rl [1]) false .no) (.two (.tr (rl [1, 1]) false .no) (.two (.tr (rl [2]) false (.two (.tr (rl [1, 1, 1]) false (.ops [{}, { cls := some .p }])) (.tr (rl [2]) false (.two (.two .no (.tr (rl [2]) false .no)) (.two (.tr (rl [1, 1, 5]) false (.ops [{}, {}, { cls := some .p }, {}, {}, {}, {}, { cls := some .p }])) (.tr (rl [2]) false (.two (.two .no (.tr (rl [2]) false .no)) (.two (.tr (rl [1, 1, 16]) false .no) (.tr (rl [2]) false (.two (.two .no (.tr (rl [2]) false .no)) (.two (.tr (rl [1, 1, 21]) false .no) (.tr (rl [2]) false (.two (.two .no (.tr (rl [2]) false .no)) (.two (.tr (rl [1, 1, 26]) false .no) (.tr (rl [2]) false (.two (.two .no (.tr (rl [2]) false .no)) (.two (.tr (rl [1, 1, 29]) false .no) (.tr (rl [2]) false (.two (.two .no (.tr (rl [2]) false .no)) (.two (.tr (rl [1, 1, 32]) false .no) (.tr (rl [2]) false (.two (.two .no (.tr (rl [2]) false .no)) (.two (.tr (rl [1, 37]) false .no) (.tr (rl [2]) false (.two (.two .no (.tr (rl [2]) false .no)) (.two (.tr (rl [42]) false (.ops [{}, {}, { cls := some .p }])) (.tr (rl [2]) false (.two (.two .no (.tr (rl [2]) false .no)) .no)))))))))))))))))))))))))))) (.two .no (.tr (rl [2]) false .no)))))) = some xf37 := by kernel_rfl
def xf38_l0 : XCode :=
(.seq (.region false [(.mk (some 45) (.bin .lss (.tmp 44) (.tmp 43)) none .p)]) (.seq (.tr (rl [6, 2, 33, 0]) false (.cond (.tmp 45) .skip (.tr (rl [6, 2])
  false (.exit 0)))) (.seq (.tr (rl [6, 2, 33, 0]) false (.block 1 (.seq (.tr (rl [6, 2, 0, 32, 0]) false (.region false [(.mk (some 46) (.mv (.tmp 44)) none
  .p), (.mk (some 10) (.mv (.tmp 46)) none .p)])) (.tr (rl [6, 2, 33, 0]) false (.region true [(.mk (some 47) (.faddr 3 (.tmp 9)) none .p), (.mk (some 48)
  (.load false 1 (.tmp 47)) none .r), (.mk (some 49) (.mv (.tmp 10)) none .p), (.mk (some 50) (.faddr 3 (.tmp 9)) none .p), (.mk (some 51) (.load false 1 (.tmp
  50)) none .r), (.mk (some 52) (.mv (.tmp 10)) none .p), (.mk (some 53) (.iaddrS 3 (.tmp 51) (.tmp 52)) none .p), (.mk (some 54) (.faddr 1 (.tmp 53)) none .p),
  (.mk (some 55) (.faddr 1 (.tmp 54)) none .p), (.mk (some 56) (.load false 1 (.tmp 55)) none .r), (.mk (some 57) (.un .neg (.tmp 56)) none .p), (.mk (some 58)
  (.iaddrS 3 (.tmp 48) (.tmp 49)) none .p), (.mk (some 59) (.faddr 1 (.tmp 58)) none .p), (.mk (some 60) (.faddr 1 (.tmp 59)) none .p), (.mk none (.store 1
  (.tmp 60) (.tmp 57)) none .w)]))))) (.tr (rl [6, 2, 33, 0]) false (.region false [(.mk (some 61) (.bin .add (.tmp 44) (.lit (.c (.pv (.int .i64 1))))) none
  .p), (.mk (some 44) (.mv (.tmp 61)) none .p)])))))
def xf38 : XFunc :=
(.mk 69 [(.cell 6 true 7), (.tmp 7)] (.seq (.tr (rl [1, 0, 0, 2]) false (.region false [(.mk (some 3) (.box (.tmp 0) 7) none .w), (.mk (some 6) (.alloc [(.pv
  (.int .i64 0)), (.pv (.int .i32 0)), (.pv (.int .i32 0)), (.pv (.sl .nil 0 [])), (.pv (.int .i64 0)), (.pv (.int .i64 0)), (.pv (.str []))]) none .w), (.mk
  (some 7) (.mv (.lit (.c (.pv (.int .i64 0))))) none .p)])) (.seq (.seq (.tr (rl [1, 0, 0, 2, 1]) false (.region false [(.mk (some 12) (.load true 7 (.tmp 3))
  none .r), (.mk (some 13) (.call false [] (.lit (.c (.fn 37 []))) [(.tmp 12)]) none .p), (.mk (some 8) (.mv (.tmp 13)) none .p)])) (.seq (.tr (rl [1, 0, 0, 2,
  1, 6]) false (.region false [(.mk (some 14) (.mv (.tmp 8)) none .p), (.mk (some 15) (.bin .neq (.tmp 14) (.lit (.c (.pv (.int .i64 0))))) none .p)])) (.tr (rl
  [1, 0, 0, 2, 0]) false (.cond (.tmp 15) (.seq (.tr (rl [6, 0]) false (.region false [(.mk (some 16) (.build [(.pv (.int .i64 0)), (.pv (.int .i32 0)), (.pv
  (.int .i32 0)), (.pv (.sl .nil 0 [])), (.pv (.int .i64 0)), (.pv (.int .i64 0)), (.pv (.str []))] []) none .p), (.mk (some 17) (.mv (.tmp 8)) none .p), (.mk
  none (.store 7 (.tmp 6) (.tmp 16)) none .w), (.mk (some 7) (.mv (.tmp 17)) none .p)])) (.tr (rl [6, 0]) false .ret)) .skip)))) (.seq (.seq (.tr (rl [1, 0, 0,
  2, 20]) false (.region false [(.mk (some 18) (.mv (.tmp 1)) none .p), (.mk (some 19) (.faddr 0 (.tmp 3)) none .p), (.mk (some 20) (.load false 1 (.tmp 19))
  none .r), (.mk (some 21) (.bin .leq (.tmp 18) (.tmp 20)) none .p), (.mk (some 22) (.mv (.tmp 21)) none .p), (.mk (some 23) (.mv (.tmp 2)) (some (22, false))
  .p), (.mk (some 24) (.faddr 1 (.tmp 3)) (some (22, false)) .p), (.mk (some 25) (.load false 1 (.tmp 24)) (some (22, false)) .r), (.mk (some 26) (.bin .lss
  (.tmp 23) (.tmp 25)) (some (22, false)) .p), (.mk (some 27) (.pick (.tmp 22) (.lit (.c (.pv (.bool true)))) (.tmp 26)) none .p)])) (.tr (rl [1, 0, 0, 2, 0])
  false (.cond (.tmp 27) (.seq (.tr (rl [6, 0]) false (.region false [(.mk (some 28) (.build [(.pv (.int .i64 0)), (.pv (.int .i32 0)), (.pv (.int .i32 0)),
  (.pv (.sl .nil 0 [])), (.pv (.int .i64 0)), (.pv (.int .i64 0)), (.pv (.str []))] []) none .p), (.mk none (.store 7 (.tmp 6) (.tmp 28)) none .w), (.mk (some
  7) (.mv (.lit (.c (.pv (.int .i64 20))))) none .p)])) (.tr (rl [6, 0]) false .ret)) .skip))) (.seq (.tr (rl [1, 0, 0, 2, 2]) false (.region false [(.mk (some
  29) (.load true 7 (.tmp 3)) none .r), (.mk (some 9) (.alloc [(.pv (.int .i64 0)), (.pv (.int .i32 0)), (.pv (.int .i32 0)), (.pv (.sl .nil 0 [])), (.pv (.int
  .i64 0)), (.pv (.int .i64 0)), (.pv (.str []))]) none .w), (.mk none (.store 7 (.tmp 9) (.tmp 29)) none .w)])) (.seq (.tr (rl [6, 2]) false (.region true
  [(.mk (some 30) (.mv (.tmp 1)) none .p), (.mk (some 31) (.mv (.tmp 2)) none .p), (.mk (some 32) (.faddr 0 (.tmp 3)) none .p), (.mk (some 33) (.loadR false 1
  (.tmp 32) (.tmp 3)) none .r), (.mk (some 34) (.faddr 3 (.tmp 3)) none .p), (.mk (some 35) (.load false 1 (.tmp 34)) none .r), (.mk (some 37) (.faddr 0 (.tmp
  9)) none .p), (.mk (some 36) (.callM (.lit (.c (.fn 85 []))) [(.tmp 35)]) none .w), (.mk none (.storeO 1 (.tmp 37) (.tmp 30) (.tmp 3)) none .w), (.mk (some
  38) (.faddr 1 (.tmp 9)) none .p), (.mk none (.storeO 1 (.tmp 38) (.tmp 31) (.tmp 3)) none .w), (.mk (some 39) (.faddr 4 (.tmp 9)) none .p), (.mk none (.store
  1 (.tmp 39) (.tmp 33)) none .w), (.mk (some 40) (.faddr 3 (.tmp 9)) none .p), (.mk none (.store 1 (.tmp 40) (.tmp 36)) none .w)])) (.seq (.seq (.tr (rl [6, 2,
  33, 0]) false (.region false [(.mk (some 41) (.faddr 3 (.tmp 9)) none .p), (.mk (some 42) (.load false 1 (.tmp 41)) none .r), (.mk (some 43) (.len (.tmp 42))
  none .p), (.mk (some 44) (.mv (.lit (.c (.pv (.int .i64 0))))) none .p)])) (.tr (rl [6, 2]) false (.block 0 (.loop (rl [6, 2, 33, 0]) xf38_l0)))) (.seq (.seq
  (.tr (rl [6, 2, 1]) false (.region false [(.mk (some 62) (.load true 7 (.tmp 9)) none .r), (.mk (some 63) (.call true [] (.lit (.c (.fn 37 []))) [(.tmp 62)])
  none .w), (.mk (some 11) (.mv (.tmp 63)) none .p)])) (.seq (.tr (rl [6, 2, 1, 53]) false (.region false [(.mk (some 64) (.mv (.tmp 11)) none .p), (.mk (some
  65) (.bin .neq (.tmp 64) (.lit (.c (.pv (.int .i64 0))))) none .p)])) (.tr (rl [6, 0, 1]) false (.cond (.tmp 65) (.seq (.tr (rl [6, 0]) false (.region false
  [(.mk (some 66) (.build [(.pv (.int .i64 0)), (.pv (.int .i32 0)), (.pv (.int .i32 0)), (.pv (.sl .nil 0 [])), (.pv (.int .i64 0)), (.pv (.int .i64 0)), (.pv
  (.str []))] []) none .p), (.mk (some 67) (.mv (.tmp 11)) none .p), (.mk none (.store 7 (.tmp 6) (.tmp 66)) none .w), (.mk (some 7) (.mv (.tmp 67)) none .p)]))
  (.tr (rl [6, 0]) false .ret)) .skip)))) (.seq (.tr (rl [6, 0]) false (.region false [(.mk (some 68) (.load true 7 (.tmp 9)) none .r), (.mk none (.store 7
  (.tmp 6) (.tmp 68)) none .w), (.mk (some 7) (.mv (.lit (.c (.pv (.int .i64 0))))) none .p)])) (.tr (rl [6, 0]) false .ret))))))))))
theorem xf38_ok : cmpFunc Go.Proofs.Tryd.prog 38 ((.two (.tr (rl [1, 0, 0, 2]) false .no) (.two (.two (.tr (rl [1, 0, 0, 2, 1]) false (.ops [{}, { cls := some .p }])) (.two (.tr (rl [1, 0, 0, 2, 1, 6]) false .no) (.tr (rl [1, 0, 0, 2, 0]) false (.two (.two (.tr (rl [6, 0]) false .no) (.tr (rl [6, 0]) false .no)) .no)))) (.two (.two (.tr (rl [1, 0, 0, 2, 20]) false .no) (.tr (rl [1, 0, 0, 2, 0]) false (.two (.two (.tr (rl [6, 0]) false .no) (.tr (rl [6, 0]) false .no)) .no))) (.two (.tr (rl [1, 0, 0, 2, 2]) false .no) (.two (.tr (rl [6, 2]) false (.draw [0, 1, 2, 3, 4, 5, 7, 6, 8, 9, 10, 11, 12, 13, 14] [{}, {}, {}, { root := some 3 }, {}, {}, { own := true }, {}, { root := some 3 }, {}, { root := some 3 }])) (.two (.two (.tr (rl [6, 2, 33, 0]) false .no) (.tr (rl [6, 2]) false (.loop (rl [6, 2, 33, 0]) (.two .no (.two (.tr (rl [6, 2, 33, 0]) false (.two .no (.tr (rl [6, 2]) false .no))) (.two (.tr (rl [6, 2, 33, 0]) false (.two (.tr (rl [6, 2, 0, 32, 0]) false .no) (.tr (rl [6, 2, 33, 0]) false (.draw [0, 1, 2, 3, 4, 5, 6, 7, 8, 9, 10, 11, 12, 13, 14] [])))) (.tr (rl [6, 2, 33, 0]) false .no))))))) (.two (.two (.tr (rl [6, 2, 1]) false (.ops [{}, { fz := true }])) (.two (.tr (rl [6, 2, 1, 53]) false .no) (.tr (rl [6, 0, 1]) false (.two (.two (.tr (rl [6, 0]) false .no) (.tr (rl [6, 0]) false .no)) .no)))) (.two (.tr (rl [6, 0]) false .no) (.tr (rl [6, 0]) false .no)))))))))) = some xf38 := by kernel_rfl
def xf40 : XFunc :=
(.mk 13 [(.tmp 6), (.tmp 7)] (.seq (.tr (rl [3, 0, 0]) false (.region false [(.mk (some 3) (.box (.tmp 0) 7) none .w), (.mk (some 4) (.box (.tmp 1) 1) none .w),
  (.mk (some 5) (.box (.tmp 2) 1) none .w), (.mk (some 6) (.mv (.lit (.c (.pv (.int .i64 0))))) none .p), (.mk (some 7) (.mv (.lit (.c (.pv (.int .i64 0)))))
  none .p)])) (.seq (.tr (rl [6, 0]) false (.region false [(.mk (some 8) (.load true 7 (.tmp 3)) none .r), (.mk (some 9) (.mkfn 88 [(.tmp 4), (.tmp 5)]) none
  .p), (.mk (some 10) (.call false [] (.lit (.c (.fn 87 []))) [(.tmp 8), (.tmp 9)]) none .w), (.mk (some 11) (.extr 0 (.tmp 10)) none .p), (.mk (some 12) (.extr
  1 (.tmp 10)) none .p), (.mk (some 6) (.mv (.tmp 11)) none .p), (.mk (some 7) (.mv (.tmp 12)) none .p)])) (.tr (rl [6, 0]) false .ret))))
theorem xf40_ok : cmpFunc Go.Proofs.Tryd.prog 40 ((.two (.tr (rl [3, 0, 0]) false .no) (.two (.tr (rl [6, 0]) false .no) (.tr (rl [6, 0]) false .no)))) = some xf40 := by kernel_rfl
def xf43 : XFunc :=
(.mk 52 [(.tmp 4)] (.seq (.tr (rl [2, 0]) false (.region false [(.mk (some 2) (.box (.tmp 0) 7) none .w), (.mk (some 3) (.box (.tmp 1) 7) none .w), (.mk (some
  4) (.mv (.lit (.c (.pv (.bool false))))) none .p)])) (.seq (.tr (rl [4]) false (.region false [(.mk (some 5) (.faddr 3 (.tmp 2)) none .p), (.mk (some 6)
  (.load false 1 (.tmp 5)) none .r), (.mk (some 7) (.faddr 3 (.tmp 3)) none .p), (.mk (some 8) (.load false 1 (.tmp 7)) none .r), (.mk (some 9) (.call false []
  (.lit (.c (.fn 96 []))) [(.tmp 6), (.tmp 8)]) none .p), (.mk (some 10) (.mv (.tmp 9)) none .p), (.mk (some 11) (.faddr 0 (.tmp 2)) (some (10, true)) .p), (.mk
  (some 12) (.load false 1 (.tmp 11)) (some (10, true)) .r), (.mk (some 13) (.faddr 0 (.tmp 3)) (some (10, true)) .p), (.mk (some 14) (.load false 1 (.tmp 13))
  (some (10, true)) .r), (.mk (some 15) (.bin .eql (.tmp 12) (.tmp 14)) (some (10, true)) .p), (.mk (some 16) (.pick (.tmp 10) (.tmp 15) (.lit (.c (.pv (.bool
  false))))) none .p), (.mk (some 17) (.mv (.tmp 16)) none .p), (.mk (some 18) (.faddr 1 (.tmp 2)) (some (17, true)) .p), (.mk (some 19) (.load false 1 (.tmp
  18)) (some (17, true)) .r), (.mk (some 20) (.faddr 1 (.tmp 3)) (some (17, true)) .p), (.mk (some 21) (.load false 1 (.tmp 20)) (some (17, true)) .r), (.mk
  (some 22) (.bin .eql (.tmp 19) (.tmp 21)) (some (17, true)) .p), (.mk (some 23) (.pick (.tmp 17) (.tmp 22) (.lit (.c (.pv (.bool false))))) none .p), (.mk
  (some 24) (.mv (.tmp 23)) none .p), (.mk (some 25) (.faddr 2 (.tmp 2)) (some (24, true)) .p), (.mk (some 26) (.load false 1 (.tmp 25)) (some (24, true)) .r),
  (.mk (some 27) (.faddr 2 (.tmp 3)) (some (24, true)) .p), (.mk (some 28) (.load false 1 (.tmp 27)) (some (24, true)) .r), (.mk (some 29) (.bin .eql (.tmp 26)
  (.tmp 28)) (some (24, true)) .p), (.mk (some 30) (.pick (.tmp 24) (.tmp 29) (.lit (.c (.pv (.bool false))))) none .p), (.mk (some 31) (.mv (.tmp 30)) none
  .p), (.mk (some 32) (.faddr 4 (.tmp 2)) (some (31, true)) .p), (.mk (some 33) (.load false 1 (.tmp 32)) (some (31, true)) .r), (.mk (some 34) (.faddr 4 (.tmp
  3)) (some (31, true)) .p), (.mk (some 35) (.load false 1 (.tmp 34)) (some (31, true)) .r), (.mk (some 36) (.bin .eql (.tmp 33) (.tmp 35)) (some (31, true))
  .p), (.mk (some 37) (.pick (.tmp 31) (.tmp 36) (.lit (.c (.pv (.bool false))))) none .p), (.mk (some 38) (.mv (.tmp 37)) none .p), (.mk (some 39) (.faddr 5
  (.tmp 2)) (some (38, true)) .p), (.mk (some 40) (.load false 1 (.tmp 39)) (some (38, true)) .r), (.mk (some 41) (.faddr 5 (.tmp 3)) (some (38, true)) .p),
  (.mk (some 42) (.load false 1 (.tmp 41)) (some (38, true)) .r), (.mk (some 43) (.bin .eql (.tmp 40) (.tmp 42)) (some (38, true)) .p), (.mk (some 44) (.pick
  (.tmp 38) (.tmp 43) (.lit (.c (.pv (.bool false))))) none .p), (.mk (some 45) (.mv (.tmp 44)) none .p), (.mk (some 46) (.faddr 6 (.tmp 2)) (some (45, true))
  .p), (.mk (some 47) (.load false 1 (.tmp 46)) (some (45, true)) .r), (.mk (some 48) (.faddr 6 (.tmp 3)) (some (45, true)) .p), (.mk (some 49) (.load false 1
  (.tmp 48)) (some (45, true)) .r), (.mk (some 50) (.bin .eql (.tmp 47) (.tmp 49)) (some (45, true)) .p), (.mk (some 51) (.pick (.tmp 45) (.tmp 50) (.lit (.c
  (.pv (.bool false))))) none .p), (.mk (some 4) (.mv (.tmp 51)) none .p)])) (.tr (rl [4]) false .ret))))
theorem xf43_ok : cmpFunc Go.Proofs.Tryd.prog 43 ((.two (.tr (rl [2, 0]) false .no) (.two (.tr (rl [4]) false (.ops [{}, {}, {}, {}, { cls := some .p }])) (.tr (rl [4]) false .no)))) = some xf43 := by kernel_rfl
def xf44_l0 : XCode :=
(.seq (.seq (.tr (rl [2, 0, 1, 11]) false (.region false [(.mk (some 13) (.mv (.tmp 5)) none .p), (.mk (some 14) (.faddr 3 (.tmp 2)) none .p), (.mk (some 15)
  (.load false 1 (.tmp 14)) none .r), (.mk (some 16) (.len (.tmp 15)) none .p), (.mk (some 17) (.bin .lss (.tmp 13) (.tmp 16)) none .p)])) (.tr (rl [2, 0, 1])
  false (.cond (.tmp 17) .skip (.tr (rl [2, 0]) false (.exit 0))))) (.seq (.tr (rl [2, 0, 0, 0]) false (.block 1 (.seq (.tr (rl [2, 0, 1, 24]) false (.region
  true [(.mk (some 20) (.faddr 3 (.tmp 2)) none .p), (.mk (some 21) (.load false 1 (.tmp 20)) none .r), (.mk (some 22) (.mv (.tmp 5)) none .p), (.mk (some 23)
  (.iaddrS 3 (.tmp 21) (.tmp 22)) none .p), (.mk (some 24) (.load true 3 (.tmp 23)) none .r), (.mk (some 25) (.faddr 3 (.tmp 3)) none .p), (.mk (some 26) (.load
  false 1 (.tmp 25)) none .r), (.mk (some 27) (.mv (.tmp 5)) none .p), (.mk (some 28) (.iaddrS 3 (.tmp 26) (.tmp 27)) none .p), (.mk (some 29) (.load true 3
  (.tmp 28)) none .r), (.mk (some 30) (.eqA true [0, 0, 0] (.tmp 24) (.tmp 29)) none .p)])) (.tr (rl [2, 0, 0, 0]) false (.cond (.tmp 30) (.seq (.region false
  [(.mk (some 4) (.mv (.lit (.c (.pv (.bool false))))) none .p)]) (.tr (rl [4]) false .ret)) .skip))))) (.tr (rl [2, 0, 1]) false (.region false [(.mk (some 18)
  (.mv (.tmp 5)) none .p), (.mk (some 19) (.bin .add (.tmp 18) (.lit (.c (.pv (.int .i64 1))))) none .p), (.mk (some 5) (.mv (.tmp 19)) none .p)]))))
def xf44 : XFunc :=
(.mk 71 [(.tmp 4)] (.seq (.tr (rl [2, 0]) false (.region false [(.mk (some 2) (.box (.tmp 0) 7) none .w), (.mk (some 3) (.box (.tmp 1) 7) none .w), (.mk (some
  4) (.mv (.lit (.c (.pv (.bool false))))) none .p)])) (.seq (.seq (.tr (rl [2, 0, 8]) false (.region false [(.mk (some 6) (.faddr 3 (.tmp 2)) none .p), (.mk
  (some 7) (.load false 1 (.tmp 6)) none .r), (.mk (some 8) (.len (.tmp 7)) none .p), (.mk (some 9) (.faddr 3 (.tmp 3)) none .p), (.mk (some 10) (.load false 1
  (.tmp 9)) none .r), (.mk (some 11) (.len (.tmp 10)) none .p), (.mk (some 12) (.bin .neq (.tmp 8) (.tmp 11)) none .p)])) (.tr (rl [2, 0, 0]) false (.cond (.tmp
  12) (.seq (.region false [(.mk (some 4) (.mv (.lit (.c (.pv (.bool false))))) none .p)]) (.tr (rl [4]) false .ret)) .skip))) (.seq (.seq (.region false [(.mk
  (some 5) (.mv (.lit (.c (.pv (.int .i64 0))))) none .p)]) (.tr (rl [2, 0, 0]) false (.block 0 (.loop (rl [2, 0, 1]) xf44_l0)))) (.seq (.tr (rl [4]) false
  (.region false [(.mk (some 31) (.faddr 0 (.tmp 2)) none .p), (.mk (some 32) (.load false 1 (.tmp 31)) none .r), (.mk (some 33) (.faddr 0 (.tmp 3)) none .p),
  (.mk (some 34) (.load false 1 (.tmp 33)) none .r), (.mk (some 35) (.bin .eql (.tmp 32) (.tmp 34)) none .p), (.mk (some 36) (.mv (.tmp 35)) none .p), (.mk
  (some 37) (.faddr 1 (.tmp 2)) (some (36, true)) .p), (.mk (some 38) (.load false 1 (.tmp 37)) (some (36, true)) .r), (.mk (some 39) (.faddr 1 (.tmp 3)) (some
  (36, true)) .p), (.mk (some 40) (.load false 1 (.tmp 39)) (some (36, true)) .r), (.mk (some 41) (.bin .eql (.tmp 38) (.tmp 40)) (some (36, true)) .p), (.mk
  (some 42) (.pick (.tmp 36) (.tmp 41) (.lit (.c (.pv (.bool false))))) none .p), (.mk (some 43) (.mv (.tmp 42)) none .p), (.mk (some 44) (.faddr 2 (.tmp 2))
  (some (43, true)) .p), (.mk (some 45) (.load false 1 (.tmp 44)) (some (43, true)) .r), (.mk (some 46) (.faddr 2 (.tmp 3)) (some (43, true)) .p), (.mk (some
  47) (.load false 1 (.tmp 46)) (some (43, true)) .r), (.mk (some 48) (.bin .eql (.tmp 45) (.tmp 47)) (some (43, true)) .p), (.mk (some 49) (.pick (.tmp 43)
  (.tmp 48) (.lit (.c (.pv (.bool false))))) none .p), (.mk (some 50) (.mv (.tmp 49)) none .p), (.mk (some 51) (.faddr 4 (.tmp 2)) (some (50, true)) .p), (.mk
  (some 52) (.load false 1 (.tmp 51)) (some (50, true)) .r), (.mk (some 53) (.faddr 4 (.tmp 3)) (some (50, true)) .p), (.mk (some 54) (.load false 1 (.tmp 53))
  (some (50, true)) .r), (.mk (some 55) (.bin .eql (.tmp 52) (.tmp 54)) (some (50, true)) .p), (.mk (some 56) (.pick (.tmp 50) (.tmp 55) (.lit (.c (.pv (.bool
  false))))) none .p), (.mk (some 57) (.mv (.tmp 56)) none .p), (.mk (some 58) (.faddr 5 (.tmp 2)) (some (57, true)) .p), (.mk (some 59) (.load false 1 (.tmp
  58)) (some (57, true)) .r), (.mk (some 60) (.faddr 5 (.tmp 3)) (some (57, true)) .p), (.mk (some 61) (.load false 1 (.tmp 60)) (some (57, true)) .r), (.mk
  (some 62) (.bin .eql (.tmp 59) (.tmp 61)) (some (57, true)) .p), (.mk (some 63) (.pick (.tmp 57) (.tmp 62) (.lit (.c (.pv (.bool false))))) none .p), (.mk
  (some 64) (.mv (.tmp 63)) none .p), (.mk (some 65) (.faddr 6 (.tmp 2)) (some (64, true)) .p), (.mk (some 66) (.load false 1 (.tmp 65)) (some (64, true)) .r),
  (.mk (some 67) (.faddr 6 (.tmp 3)) (some (64, true)) .p), (.mk (some 68) (.load false 1 (.tmp 67)) (some (64, true)) .r), (.mk (some 69) (.bin .eql (.tmp 66)
  (.tmp 68)) (some (64, true)) .p), (.mk (some 70) (.pick (.tmp 64) (.tmp 69) (.lit (.c (.pv (.bool false))))) none .p), (.mk (some 4) (.mv (.tmp 70)) none
  .p)])) (.tr (rl [4]) false .ret))))))
theorem xf44_ok : cmpFunc Go.Proofs.Tryd.prog 44 ((.two (.tr (rl [2, 0]) false .no) (.two (.two (.tr (rl [2, 0, 8]) false .no) (.tr (rl [2, 0, 0]) false (.two (.two .no (.tr (rl [4]) false .no)) .no))) (.two (.two .no (.tr (rl [2, 0, 0]) false (.loop (rl [2, 0, 1]) (.two (.two (.tr (rl [2, 0, 1, 11]) false .no) (.tr (rl [2, 0, 1]) false (.two .no (.tr (rl [2, 0]) false .no)))) (.two (.tr (rl [2, 0, 0, 0]) false (.two (.tr (rl [2, 0, 1, 24]) false (.draw [0, 1, 2, 3, 4, 5, 6, 7, 8, 9, 10] [])) (.tr (rl [2, 0, 0, 0]) false (.two (.two .no (.tr (rl [4]) false .no)) .no)))) (.tr (rl [2, 0, 1]) false .no)))))) (.two (.tr (rl [4]) false .no) (.tr (rl [4]) false .no)))))) = some xf44 := by kernel_rfl
def xf45_l0 : XCode :=
(.seq (.seq (.tr (rl [1, 0, 0, 3, 0, 4]) false (.region false [(.mk (some 9) (.mv (.tmp 8)) none .p), (.mk (some 10) (.faddr 3 (.tmp 3)) none .p), (.mk (some
  11) (.load false 1 (.tmp 10)) none .r), (.mk (some 12) (.len (.tmp 11)) none .p), (.mk (some 13) (.bin .lss (.tmp 9) (.tmp 12)) none .p)])) (.tr (rl [1, 0, 0,
  3, 0]) false (.cond (.tmp 13) .skip (.tr (rl [7]) false (.exit 0))))) (.seq (.tr (rl [1, 0, 0, 3, 0]) false (.block 1 (.seq (.tr (rl [1, 0, 0, 3, 0, 25])
  false (.region false [(.mk (some 16) (.faddr 3 (.tmp 3)) none .p), (.mk (some 17) (.load false 1 (.tmp 16)) none .r), (.mk (some 18) (.mv (.tmp 8)) none .p),
  (.mk (some 19) (.iaddrS 3 (.tmp 17) (.tmp 18)) none .p), (.mk (some 20) (.faddr 0 (.tmp 19)) none .p), (.mk (some 21) (.load false 1 (.tmp 20)) none .r), (.mk
  (some 22) (.mv (.tmp 1)) none .p), (.mk (some 23) (.bin .eql (.tmp 21) (.tmp 22)) none .p), (.mk (some 24) (.mv (.tmp 23)) none .p), (.mk (some 25) (.faddr 3
  (.tmp 3)) (some (24, true)) .p), (.mk (some 26) (.load false 1 (.tmp 25)) (some (24, true)) .r), (.mk (some 27) (.mv (.tmp 8)) (some (24, true)) .p), (.mk
  (some 28) (.iaddrS 3 (.tmp 26) (.tmp 27)) (some (24, true)) .p), (.mk (some 29) (.faddr 1 (.tmp 28)) (some (24, true)) .p), (.mk (some 30) (.faddr 0 (.tmp
  29)) (some (24, true)) .p), (.mk (some 31) (.load false 1 (.tmp 30)) (some (24, true)) .r), (.mk (some 32) (.mv (.tmp 2)) (some (24, true)) .p), (.mk (some
  33) (.bin .eql (.tmp 31) (.tmp 32)) (some (24, true)) .p), (.mk (some 34) (.pick (.tmp 24) (.tmp 33) (.lit (.c (.pv (.bool false))))) none .p)])) (.tr (rl [1,
  0, 0, 3, 0]) false (.cond (.tmp 34) (.tr (rl [1, 0, 0, 3, 0]) false (.region false [(.mk (some 35) (.mv (.tmp 7)) none .p), (.mk (some 36) (.faddr 3 (.tmp 3))
  none .p), (.mk (some 37) (.load false 1 (.tmp 36)) none .r), (.mk (some 38) (.mv (.tmp 8)) none .p), (.mk (some 39) (.iaddrS 3 (.tmp 37) (.tmp 38)) none .p),
  (.mk (some 40) (.faddr 1 (.tmp 39)) none .p), (.mk (some 41) (.faddr 1 (.tmp 40)) none .p), (.mk (some 42) (.load false 1 (.tmp 41)) none .r), (.mk (some 43)
  (.bin .add (.tmp 35) (.tmp 42)) none .p), (.mk (some 7) (.mv (.tmp 43)) none .p)])) .skip))))) (.tr (rl [1, 0, 0, 3, 0]) false (.region false [(.mk (some 14)
  (.mv (.tmp 8)) none .p), (.mk (some 15) (.bin .add (.tmp 14) (.lit (.c (.pv (.int .i64 1))))) none .p), (.mk (some 8) (.mv (.tmp 15)) none .p)]))))
def xf45 : XFunc :=
(.mk 45 [(.tmp 6)] (.seq (.tr (rl [1, 0, 0]) false (.region false [(.mk (some 3) (.box (.tmp 0) 7) none .w), (.mk (some 6) (.mv (.lit (.c (.pv (.int .i64 0)))))
  none .p)])) (.seq (.region false [(.mk (some 7) (.mv (.lit (.c (.pv (.int .i64 0))))) none .p)]) (.seq (.seq (.region false [(.mk (some 8) (.mv (.lit (.c (.pv
  (.int .i64 0))))) none .p)]) (.tr (rl [7]) false (.block 0 (.loop (rl [1, 0, 0, 3, 0]) xf45_l0)))) (.seq (.tr (rl [6]) false (.region false [(.mk (some 44)
  (.mv (.tmp 7)) none .p), (.mk (some 6) (.mv (.tmp 44)) none .p)])) (.tr (rl [6]) false .ret))))))
theorem xf45_ok : cmpFunc Go.Proofs.Tryd.prog 45 ((.two (.tr (rl [1, 0, 0]) false .no) (.two .no (.two (.two .no (.tr (rl [7]) false (.loop (rl [1, 0, 0, 3, 0]) (.two (.two (.tr (rl [1, 0, 0, 3, 0, 4]) false .no) (.tr (rl [1, 0, 0, 3, 0]) false (.two .no (.tr (rl [7]) false .no)))) (.two (.tr (rl [1, 0, 0, 3, 0]) false (.two (.tr (rl [1, 0, 0, 3, 0, 25]) false .no) (.tr (rl [1, 0, 0, 3, 0]) false (.two (.tr (rl [1, 0, 0, 3, 0]) false .no) .no)))) (.tr (rl [1, 0, 0, 3, 0]) false .no)))))) (.two (.tr (rl [6]) false .no) (.tr (rl [6]) false .no)))))) = some xf45 := by kernel_rfl
def xf46_l0 : XCode :=
(.seq (.seq (.tr (rl [1, 0, 2, 0, 4]) false (.region false [(.mk (some 7) (.mv (.tmp 6)) none .p), (.mk (some 8) (.faddr 3 (.tmp 2)) none .p), (.mk (some 9)
  (.load false 1 (.tmp 8)) none .r), (.mk (some 10) (.len (.tmp 9)) none .p), (.mk (some 11) (.bin .lss (.tmp 7) (.tmp 10)) none .p)])) (.tr (rl [1, 0, 2, 0])
  false (.cond (.tmp 11) .skip (.tr (rl [5]) false (.exit 0))))) (.seq (.tr (rl [1, 0, 2, 0]) false (.block 1 (.seq (.tr (rl [1, 0, 2, 0, 15]) false (.region
  false [(.mk (some 14) (.faddr 3 (.tmp 2)) none .p), (.mk (some 15) (.load false 1 (.tmp 14)) none .r), (.mk (some 16) (.mv (.tmp 6)) none .p), (.mk (some 17)
  (.iaddrS 3 (.tmp 15) (.tmp 16)) none .p), (.mk (some 18) (.faddr 1 (.tmp 17)) none .p), (.mk (some 19) (.faddr 0 (.tmp 18)) none .p), (.mk (some 20) (.load
  false 1 (.tmp 19)) none .r), (.mk (some 21) (.mv (.tmp 1)) none .p), (.mk (some 22) (.bin .eql (.tmp 20) (.tmp 21)) none .p)])) (.tr (rl [1, 0, 2, 0]) false
  (.cond (.tmp 22) (.tr (rl [1, 0, 2, 0]) false (.region false [(.mk (some 23) (.mv (.tmp 5)) none .p), (.mk (some 24) (.faddr 3 (.tmp 2)) none .p), (.mk (some
  25) (.load false 1 (.tmp 24)) none .r), (.mk (some 26) (.mv (.tmp 6)) none .p), (.mk (some 27) (.iaddrS 3 (.tmp 25) (.tmp 26)) none .p), (.mk (some 28)
  (.faddr 1 (.tmp 27)) none .p), (.mk (some 29) (.faddr 1 (.tmp 28)) none .p), (.mk (some 30) (.load false 1 (.tmp 29)) none .r), (.mk (some 31) (.maxI [(.lit
  (.c (.pv (.int .i64 0)))), (.tmp 30)]) none .p), (.mk (some 32) (.bin .add (.tmp 23) (.tmp 31)) none .p), (.mk (some 5) (.mv (.tmp 32)) none .p)])) .skip)))))
  (.tr (rl [1, 0, 2, 0]) false (.region false [(.mk (some 12) (.mv (.tmp 6)) none .p), (.mk (some 13) (.bin .add (.tmp 12) (.lit (.c (.pv (.int .i64 1))))) none
  .p), (.mk (some 6) (.mv (.tmp 13)) none .p)]))))
def xf46 : XFunc :=
(.mk 34 [(.tmp 4)] (.seq (.tr (rl [1, 0]) false (.region false [(.mk (some 2) (.box (.tmp 0) 7) none .w), (.mk (some 4) (.mv (.lit (.c (.pv (.int .i64 0)))))
  none .p)])) (.seq (.region false [(.mk (some 5) (.mv (.lit (.c (.pv (.int .i64 0))))) none .p)]) (.seq (.seq (.region false [(.mk (some 6) (.mv (.lit (.c (.pv
  (.int .i64 0))))) none .p)]) (.tr (rl [5]) false (.block 0 (.loop (rl [1, 0, 2, 0]) xf46_l0)))) (.seq (.tr (rl [4]) false (.region false [(.mk (some 33) (.mv
  (.tmp 5)) none .p), (.mk (some 4) (.mv (.tmp 33)) none .p)])) (.tr (rl [4]) false .ret))))))
theorem xf46_ok : cmpFunc Go.Proofs.Tryd.prog 46 ((.two (.tr (rl [1, 0]) false .no) (.two .no (.two (.two .no (.tr (rl [5]) false (.loop (rl [1, 0, 2, 0]) (.two (.two (.tr (rl [1, 0, 2, 0, 4]) false .no) (.tr (rl [1, 0, 2, 0]) false (.two .no (.tr (rl [5]) false .no)))) (.two (.tr (rl [1, 0, 2, 0]) false (.two (.tr (rl [1, 0, 2, 0, 15]) false .no) (.tr (rl [1, 0, 2, 0]) false (.two (.tr (rl [1, 0, 2, 0]) false .no) .no)))) (.tr (rl [1, 0, 2, 0]) false .no)))))) (.two (.tr (rl [4]) false .no) (.tr (rl [4]) false .no)))))) = some xf46 := by kernel_rfl
def xf48_l0 : XCode :=
(.seq (.seq (.tr (rl [3, 2, 2, 0, 33]) false (.region false [(.mk (some 40) (.mv (.tmp 10)) none .p), (.mk (some 41) (.faddr 3 (.tmp 3)) none .p), (.mk (some
  42) (.load false 1 (.tmp 41)) none .r), (.mk (some 43) (.len (.tmp 42)) none .p), (.mk (some 44) (.bin .lss (.tmp 40) (.tmp 43)) none .p)])) (.tr (rl [3, 2,
  2, 0]) false (.cond (.tmp 44) .skip (.tr (rl [6, 2]) false (.exit 0))))) (.seq (.tr (rl [3, 2, 2, 0]) false (.block 1 (.tr (rl [3, 2, 2, 0]) false (.region
  true [(.mk (some 47) (.faddr 3 (.tmp 9)) none .p), (.mk (some 48) (.load false 1 (.tmp 47)) none .r), (.mk (some 49) (.faddr 3 (.tmp 3)) none .p), (.mk (some
  50) (.load false 1 (.tmp 49)) none .r), (.mk (some 51) (.mv (.tmp 10)) none .p), (.mk (some 52) (.iaddrS 3 (.tmp 50) (.tmp 51)) none .p), (.mk (some 53)
  (.faddr 0 (.tmp 52)) none .p), (.mk (some 54) (.load false 1 (.tmp 53)) none .r), (.mk (some 55) (.faddr 3 (.tmp 3)) none .p), (.mk (some 56) (.load false 1
  (.tmp 55)) none .r), (.mk (some 57) (.mv (.tmp 10)) none .p), (.mk (some 58) (.iaddrS 3 (.tmp 56) (.tmp 57)) none .p), (.mk (some 59) (.faddr 1 (.tmp 58))
  none .p), (.mk (some 60) (.faddr 0 (.tmp 59)) none .p), (.mk (some 61) (.load false 1 (.tmp 60)) none .r), (.mk (some 62) (.faddr 3 (.tmp 3)) none .p), (.mk
  (some 63) (.load false 1 (.tmp 62)) none .r), (.mk (some 64) (.mv (.tmp 10)) none .p), (.mk (some 65) (.iaddrS 3 (.tmp 63) (.tmp 64)) none .p), (.mk (some 66)
  (.faddr 1 (.tmp 65)) none .p), (.mk (some 67) (.faddr 1 (.tmp 66)) none .p), (.mk (some 68) (.load false 1 (.tmp 67)) none .r), (.mk (some 69) (.un .neg (.tmp
  68)) none .p), (.mk (some 70) (.build [(.pv (.int .i64 0)), (.pv (.int .i64 0))] [(0, (1, (.tmp 61))), (1, (1, (.tmp 69)))]) none .p), (.mk (some 71) (.build
  [(.pv (.int .i64 0)), (.pv (.int .i64 0)), (.pv (.int .i64 0))] [(0, (1, (.tmp 54))), (1, (2, (.tmp 70)))]) none .p), (.mk (some 72) (.buildSl [(.pv (.int
  .i64 0)), (.pv (.int .i64 0)), (.pv (.int .i64 0))] 1 3 [(0, (3, (.tmp 71)))]) none .p), (.mk (some 73) (.app 3 24 (.tmp 48) (.tmp 72)) none .w), (.mk (some
  74) (.faddr 3 (.tmp 9)) none .p), (.mk none (.store 1 (.tmp 74) (.tmp 73)) none .w)])))) (.tr (rl [3, 2, 2, 0]) false (.region false [(.mk (some 45) (.mv
  (.tmp 10)) none .p), (.mk (some 46) (.bin .add (.tmp 45) (.lit (.c (.pv (.int .i64 1))))) none .p), (.mk (some 10) (.mv (.tmp 46)) none .p)]))))
def xf48 : XFunc :=
(.mk 82 [(.cell 6 true 7), (.tmp 7)] (.seq (.tr (rl [1, 0, 0, 2]) false (.region false [(.mk (some 3) (.box (.tmp 0) 7) none .w), (.mk (some 6) (.alloc [(.pv
  (.int .i64 0)), (.pv (.int .i32 0)), (.pv (.int .i32 0)), (.pv (.sl .nil 0 [])), (.pv (.int .i64 0)), (.pv (.int .i64 0)), (.pv (.str []))]) none .w), (.mk
  (some 7) (.mv (.lit (.c (.pv (.int .i64 0))))) none .p)])) (.seq (.tr (rl [1, 0, 0, 2, 1]) false (.region false [(.mk (some 12) (.load true 7 (.tmp 3)) none
  .r), (.mk (some 13) (.call false [] (.lit (.c (.fn 34 []))) [(.tmp 12)]) none .p), (.mk (some 8) (.mv (.tmp 13)) none .p)])) (.seq (.seq (.tr (rl [1, 0, 0, 2,
  1, 6]) false (.region false [(.mk (some 14) (.mv (.tmp 8)) none .p), (.mk (some 15) (.bin .neq (.tmp 14) (.lit (.c (.pv (.int .i64 0))))) none .p)])) (.tr (rl
  [1, 0, 0, 2, 0]) false (.cond (.tmp 15) (.seq (.tr (rl [6, 0]) false (.region false [(.mk (some 16) (.build [(.pv (.int .i64 0)), (.pv (.int .i32 0)), (.pv
  (.int .i32 0)), (.pv (.sl .nil 0 [])), (.pv (.int .i64 0)), (.pv (.int .i64 0)), (.pv (.str []))] []) none .p), (.mk (some 17) (.mv (.tmp 8)) none .p), (.mk
  none (.store 7 (.tmp 6) (.tmp 16)) none .w), (.mk (some 7) (.mv (.tmp 17)) none .p)])) (.tr (rl [6, 0]) false .ret)) .skip))) (.seq (.seq (.tr (rl [1, 0, 0,
  2, 20]) false (.region false [(.mk (some 18) (.mv (.tmp 1)) none .p), (.mk (some 19) (.faddr 0 (.tmp 3)) none .p), (.mk (some 20) (.load false 1 (.tmp 19))
  none .r), (.mk (some 21) (.bin .leq (.tmp 18) (.tmp 20)) none .p), (.mk (some 22) (.mv (.tmp 21)) none .p), (.mk (some 23) (.mv (.tmp 2)) (some (22, false))
  .p), (.mk (some 24) (.faddr 1 (.tmp 3)) (some (22, false)) .p), (.mk (some 25) (.load false 1 (.tmp 24)) (some (22, false)) .r), (.mk (some 26) (.bin .lss
  (.tmp 23) (.tmp 25)) (some (22, false)) .p), (.mk (some 27) (.pick (.tmp 22) (.lit (.c (.pv (.bool true)))) (.tmp 26)) none .p)])) (.tr (rl [1, 0, 0, 2, 0])
  false (.cond (.tmp 27) (.seq (.tr (rl [6, 0]) false (.region false [(.mk (some 28) (.build [(.pv (.int .i64 0)), (.pv (.int .i32 0)), (.pv (.int .i32 0)),
  (.pv (.sl .nil 0 [])), (.pv (.int .i64 0)), (.pv (.int .i64 0)), (.pv (.str []))] []) none .p), (.mk none (.store 7 (.tmp 6) (.tmp 28)) none .w), (.mk (some
  7) (.mv (.lit (.c (.pv (.int .i64 20))))) none .p)])) (.tr (rl [6, 0]) false .ret)) .skip))) (.seq (.tr (rl [3, 2, 2]) false (.region false [(.mk (some 29)
  (.mv (.tmp 1)) none .p), (.mk (some 30) (.mv (.tmp 2)) none .p), (.mk (some 31) (.faddr 2 (.tmp 3)) none .p), (.mk (some 32) (.load false 1 (.tmp 31)) none
  .r), (.mk (some 33) (.faddr 0 (.tmp 3)) none .p), (.mk (some 34) (.load false 1 (.tmp 33)) none .r), (.mk (some 35) (.faddr 5 (.tmp 3)) none .p), (.mk (some
  36) (.load false 1 (.tmp 35)) none .r), (.mk (some 37) (.faddr 6 (.tmp 3)) none .p), (.mk (some 38) (.load false 1 (.tmp 37)) none .r), (.mk (some 39) (.build
  [(.pv (.int .i64 0)), (.pv (.int .i32 0)), (.pv (.int .i32 0)), (.pv (.sl .nil 0 [])), (.pv (.int .i64 0)), (.pv (.int .i64 0)), (.pv (.str []))] [(0, (1,
  (.tmp 29))), (1, (1, (.tmp 30))), (2, (1, (.tmp 32))), (4, (1, (.tmp 34))), (5, (1, (.tmp 36))), (6, (1, (.tmp 38)))]) none .p), (.mk (some 9) (.alloc [(.pv
  (.int .i64 0)), (.pv (.int .i32 0)), (.pv (.int .i32 0)), (.pv (.sl .nil 0 [])), (.pv (.int .i64 0)), (.pv (.int .i64 0)), (.pv (.str []))]) none .w), (.mk
  none (.store 7 (.tmp 9) (.tmp 39)) none .w)])) (.seq (.seq (.region false [(.mk (some 10) (.mv (.lit (.c (.pv (.int .i64 0))))) none .p)]) (.tr (rl [6, 2])
  false (.block 0 (.loop (rl [3, 2, 2, 0]) xf48_l0)))) (.seq (.tr (rl [6, 2, 1]) false (.region false [(.mk (some 75) (.load true 7 (.tmp 9)) none .r), (.mk
  (some 76) (.call false [] (.lit (.c (.fn 34 []))) [(.tmp 75)]) none .p), (.mk (some 11) (.mv (.tmp 76)) none .p)])) (.seq (.seq (.tr (rl [6, 2, 1, 66]) false
  (.region false [(.mk (some 77) (.mv (.tmp 11)) none .p), (.mk (some 78) (.bin .neq (.tmp 77) (.lit (.c (.pv (.int .i64 0))))) none .p)])) (.tr (rl [6, 0, 1])
  false (.cond (.tmp 78) (.seq (.tr (rl [6, 0]) false (.region false [(.mk (some 79) (.build [(.pv (.int .i64 0)), (.pv (.int .i32 0)), (.pv (.int .i32 0)),
  (.pv (.sl .nil 0 [])), (.pv (.int .i64 0)), (.pv (.int .i64 0)), (.pv (.str []))] []) none .p), (.mk (some 80) (.mv (.tmp 11)) none .p), (.mk none (.store 7
  (.tmp 6) (.tmp 79)) none .w), (.mk (some 7) (.mv (.tmp 80)) none .p)])) (.tr (rl [6, 0]) false .ret)) .skip))) (.seq (.tr (rl [6, 0]) false (.region false
  [(.mk (some 81) (.load true 7 (.tmp 9)) none .r), (.mk none (.store 7 (.tmp 6) (.tmp 81)) none .w), (.mk (some 7) (.mv (.lit (.c (.pv (.int .i64 0))))) none
  .p)])) (.tr (rl [6, 0]) false .ret)))))))))))
theorem xf48_ok : cmpFunc Go.Proofs.Tryd.prog 48 ((.two (.tr (rl [1, 0, 0, 2]) false .no) (.two (.tr (rl [1, 0, 0, 2, 1]) false (.ops [{}, { cls := some .p }])) (.two (.two (.tr (rl [1, 0, 0, 2, 1, 6]) false .no) (.tr (rl [1, 0, 0, 2, 0]) false (.two (.two (.tr (rl [6, 0]) false .no) (.tr (rl [6, 0]) false .no)) .no))) (.two (.two (.tr (rl [1, 0, 0, 2, 20]) false .no) (.tr (rl [1, 0, 0, 2, 0]) false (.two (.two (.tr (rl [6, 0]) false .no) (.tr (rl [6, 0]) false .no)) .no))) (.two (.tr (rl [3, 2, 2]) false .no) (.two (.two .no (.tr (rl [6, 2]) false (.loop (rl [3, 2, 2, 0]) (.two (.two (.tr (rl [3, 2, 2, 0, 33]) false .no) (.tr (rl [3, 2, 2, 0]) false (.two .no (.tr (rl [6, 2]) false .no)))) (.two (.tr (rl [3, 2, 2, 0]) false (.tr (rl [3, 2, 2, 0]) false (.draw [0, 1, 2, 3, 4, 5, 6, 7, 8, 9, 10, 11, 12, 13, 14, 15, 16, 17, 18, 19, 20, 21, 22, 23, 24, 25, 26, 27, 28] []))) (.tr (rl [3, 2, 2, 0]) false .no)))))) (.two (.tr (rl [6, 2, 1]) false (.ops [{}, { cls := some .p }])) (.two (.two (.tr (rl [6, 2, 1, 66]) false .no) (.tr (rl [6, 0, 1]) false (.two (.two (.tr (rl [6, 0]) false .no) (.tr (rl [6, 0]) false .no)) .no))) (.two (.tr (rl [6, 0]) false .no) (.tr (rl [6, 0]) false .no))))))))))) = some xf48 := by kernel_rfl
def xf58 : XFunc :=
(.mk 21 [(.cell 8 true 7)] (.seq (.region false [(.mk (some 8) (.alloc [(.pv (.int .i64 0)), (.pv (.int .i32 0)), (.pv (.int .i32 0)), (.pv (.sl .nil 0 [])),
  (.pv (.int .i64 0)), (.pv (.int .i64 0)), (.pv (.str []))]) none .w)]) (.seq (.tr (rl [8]) false (.region false [(.mk (some 9) (.mv (.tmp 0)) none .p), (.mk
  (some 10) (.mv (.tmp 1)) none .p), (.mk (some 11) (.mv (.tmp 2)) none .p), (.mk (some 12) (.mv (.tmp 3)) none .p), (.mk (some 13) (.build [(.pv (.int .i64
  0)), (.pv (.int .i64 0))] [(1, (1, (.tmp 12)))]) none .p), (.mk (some 14) (.build [(.pv (.int .i64 0)), (.pv (.int .i64 0)), (.pv (.int .i64 0))] [(0, (1,
  (.lit (.c (.pv (.int .i64 2)))))), (1, (2, (.tmp 13)))]) none .p), (.mk (some 15) (.mv (.tmp 3)) none .p), (.mk (some 16) (.un .neg (.tmp 15)) none .p), (.mk
  (some 17) (.build [(.pv (.int .i64 0)), (.pv (.int .i64 0))] [(1, (1, (.tmp 16)))]) none .p), (.mk (some 18) (.build [(.pv (.int .i64 0)), (.pv (.int .i64
  0)), (.pv (.int .i64 0))] [(0, (1, (.lit (.c (.pv (.int .i64 1)))))), (1, (2, (.tmp 17)))]) none .p), (.mk (some 19) (.buildSl [(.pv (.int .i64 0)), (.pv
  (.int .i64 0)), (.pv (.int .i64 0))] 2 3 [(0, (3, (.tmp 14))), (3, (3, (.tmp 18)))]) none .p), (.mk (some 20) (.build [(.pv (.int .i64 0)), (.pv (.int .i32
  0)), (.pv (.int .i32 0)), (.pv (.sl .nil 0 [])), (.pv (.int .i64 0)), (.pv (.int .i64 0)), (.pv (.str []))] [(0, (1, (.tmp 9))), (1, (1, (.tmp 10))), (2, (1,
  (.tmp 11))), (3, (1, (.tmp 19)))]) none .p), (.mk none (.store 7 (.tmp 8) (.tmp 20)) none .w)])) (.tr (rl [8]) false .ret))))
theorem xf58_ok : cmpFunc Go.Proofs.Tryd.prog 58 ((.two .no (.two (.tr (rl [8]) false .no) (.tr (rl [8]) false .no)))) = some xf58 := by kernel_rfl
def xf59 : XFunc :=
(.mk 73 [(.tmp 6)] (.seq (.tr (rl [0, 0, 3]) false (.region false [(.mk (some 5) (.box (.tmp 2) 7) none .w), (.mk (some 6) (.mv (.lit (.c (.pv (.int .i64 0)))))
  none .p)])) (.seq (.tr (rl [0, 0, 3, 1]) false (.region false [(.mk (some 11) (.mv (.tmp 0)) none .p), (.mk (some 12) (.len (.tmp 11)) none .p), (.mk (some 7)
  (.mv (.tmp 12)) none .p)])) (.seq (.tr (rl [0, 0, 3, 0]) false (.block 0 (.seq (.tr (rl [0, 0, 3, 1, 5]) false (.region false [(.mk (some 14) (.mv (.tmp 7))
  none .p), (.mk (some 15) (.bin .eql (.tmp 14) (.lit (.c (.pv (.int .i64 400))))) none .p), (.mk (some 13) (.mv (.tmp 15)) none .p)])) (.tr (rl [0, 0, 3, 0])
  false (.cond (.tmp 13) (.seq (.region false [(.mk (some 6) (.mv (.lit (.c (.pv (.int .i64 6))))) none .p)]) (.tr (rl [6]) false .ret)) (.seq (.tr (rl [0, 0,
  3, 1, 8]) false (.region false [(.mk (some 17) (.faddr 0 (.tmp 5)) none .p), (.mk (some 18) (.load false 1 (.tmp 17)) none .r), (.mk (some 19) (.mv (.tmp 7))
  none .p), (.mk (some 20) (.bin .add (.tmp 19) (.lit (.c (.pv (.int .i64 1))))) none .p), (.mk (some 21) (.bin .neq (.tmp 18) (.tmp 20)) none .p), (.mk (some
  16) (.mv (.tmp 21)) none .p)])) (.tr (rl [0, 0, 3, 0]) false (.cond (.tmp 16) (.seq (.region false [(.mk (some 6) (.mv (.lit (.c (.pv (.int .i64 25))))) none
  .p)]) (.tr (rl [6]) false .ret)) (.seq (.tr (rl [0, 0, 3, 16]) false (.region true [(.mk (some 23) (.mv (.tmp 7)) none .p), (.mk (some 24) (.bin .gtr (.tmp
  23) (.lit (.c (.pv (.int .i64 0))))) none .p), (.mk (some 25) (.mv (.tmp 24)) none .p), (.mk (some 26) (.faddr 1 (.tmp 5)) (some (25, true)) .p), (.mk (some
  27) (.load false 1 (.tmp 26)) (some (25, true)) .r), (.mk (some 28) (.mv (.tmp 0)) (some (25, true)) .p), (.mk (some 29) (.mv (.tmp 7)) (some (25, true)) .p),
  (.mk (some 30) (.bin .sub (.tmp 29) (.lit (.c (.pv (.int .i64 1))))) (some (25, true)) .p), (.mk (some 31) (.iaddrS 7 (.tmp 28) (.tmp 30)) (some (25, true))
  .p), (.mk (some 32) (.faddr 1 (.tmp 31)) (some (25, true)) .p), (.mk (some 33) (.load false 1 (.tmp 32)) (some (25, true)) .r), (.mk (some 34) (.bin .lss
  (.tmp 27) (.tmp 33)) (some (25, true)) .p), (.mk (some 35) (.pick (.tmp 25) (.tmp 34) (.lit (.c (.pv (.bool false))))) none .p), (.mk (some 22) (.mv (.tmp
  35)) none .p)])) (.tr (rl [0, 0, 3, 0]) false (.cond (.tmp 22) (.seq (.region false [(.mk (some 6) (.mv (.lit (.c (.pv (.int .i64 20))))) none .p)]) (.tr (rl
  [6]) false .ret)) (.seq (.tr (rl [0, 0, 3, 30]) false (.region false [(.mk (some 37) (.faddr 4 (.tmp 5)) none .p), (.mk (some 38) (.load false 1 (.tmp 37))
  none .r), (.mk (some 39) (.bin .eql (.tmp 38) (.lit (.c (.pv (.int .i64 0))))) none .p), (.mk (some 36) (.mv (.tmp 39)) none .p)])) (.tr (rl [0, 0, 3, 0])
  false (.cond (.tmp 36) (.seq (.region false [(.mk (some 6) (.mv (.lit (.c (.pv (.int .i64 0))))) none .p)]) (.tr (rl [6]) false .ret)) .skip))))))))))))))
  (.seq (.tr (rl [1, 3, 2]) false (.region false [(.mk (some 40) (.mv (.tmp 0)) none .p), (.mk (some 41) (.faddr 4 (.tmp 5)) none .p), (.mk (some 42) (.load
  false 1 (.tmp 41)) none .r), (.mk (some 43) (.bin .sub (.tmp 42) (.lit (.c (.pv (.int .i64 1))))) none .p), (.mk (some 44) (.iaddrS 7 (.tmp 40) (.tmp 43))
  none .p), (.mk (some 45) (.load true 7 (.tmp 44)) none .r), (.mk (some 8) (.alloc [(.pv (.int .i64 0)), (.pv (.int .i32 0)), (.pv (.int .i32 0)), (.pv (.sl
  .nil 0 [])), (.pv (.int .i64 0)), (.pv (.int .i64 0)), (.pv (.str []))]) none .w), (.mk none (.store 7 (.tmp 8) (.tmp 45)) none .w)])) (.seq (.tr (rl [1, 3,
  2, 0, 0]) false (.region false [(.mk (some 47) (.load true 7 (.tmp 8)) none .r), (.mk (some 48) (.faddr 0 (.tmp 5)) none .p), (.mk (some 49) (.load false 1
  (.tmp 48)) none .r), (.mk (some 50) (.faddr 1 (.tmp 5)) none .p), (.mk (some 51) (.load false 1 (.tmp 50)) none .r), (.mk (some 52) (.call false [] (.lit (.c
  (.fn 38 []))) [(.tmp 47), (.tmp 49), (.tmp 51)]) none .p), (.mk (some 46) (.mv (.tmp 52)) none .p), (.mk (some 53) (.extr 0 (.tmp 46)) none .p), (.mk (some
  54) (.extr 1 (.tmp 46)) none .p), (.mk (some 9) (.alloc [(.pv (.int .i64 0)), (.pv (.int .i32 0)), (.pv (.int .i32 0)), (.pv (.sl .nil 0 [])), (.pv (.int .i64
  0)), (.pv (.int .i64 0)), (.pv (.str []))]) none .w), (.mk none (.store 7 (.tmp 9) (.tmp 53)) none .w), (.mk (some 10) (.mv (.tmp 54)) none .p)])) (.seq (.tr
  (rl [6]) false (.block 1 (.seq (.tr (rl [1, 3, 3, 0, 44]) false (.region false [(.mk (some 56) (.faddr 4 (.tmp 8)) none .p), (.mk (some 57) (.load false 1
  (.tmp 56)) none .r), (.mk (some 58) (.bin .gtr (.tmp 57) (.lit (.c (.pv (.int .i64 0))))) none .p), (.mk (some 55) (.mv (.tmp 58)) none .p)])) (.tr (rl [6])
  false (.cond (.tmp 55) (.seq (.region false [(.mk (some 6) (.mv (.lit (.c (.pv (.int .i64 27))))) none .p)]) (.tr (rl [6]) false .ret)) (.seq (.tr (rl [5, 3,
  0, 48]) false (.region false [(.mk (some 60) (.mv (.tmp 1)) none .p), (.mk (some 61) (.faddr 4 (.tmp 5)) none .p), (.mk (some 62) (.load false 1 (.tmp 61))
  none .r), (.mk (some 63) (.mlook (.bool false) false (.tmp 60) (.tmp 62)) none .r), (.mk (some 59) (.mv (.tmp 63)) none .p)])) (.tr (rl [6]) false (.cond
  (.tmp 59) (.seq (.region false [(.mk (some 6) (.mv (.lit (.c (.pv (.int .i64 23))))) none .p)]) (.tr (rl [6]) false .ret)) (.seq (.tr (rl [64]) false (.region
  false [(.mk (some 65) (.mv (.tmp 10)) none .p), (.mk (some 66) (.bin .neq (.tmp 65) (.lit (.c (.pv (.int .i64 0))))) none .p), (.mk (some 67) (.mv (.tmp 66))
  none .p), (.mk (some 68) (.load true 7 (.tmp 9)) (some (67, false)) .r), (.mk (some 69) (.load true 7 (.tmp 5)) (some (67, false)) .r), (.mk (some 70) (.call
  false [] (.lit (.c (.fn 43 []))) [(.tmp 68), (.tmp 69)]) (some (67, false)) .p), (.mk (some 71) (.un .not (.tmp 70)) (some (67, false)) .p), (.mk (some 72)
  (.pick (.tmp 67) (.lit (.c (.pv (.bool true)))) (.tmp 71)) none .p), (.mk (some 64) (.mv (.tmp 72)) none .p)])) (.tr (rl [6]) false (.cond (.tmp 64) (.seq
  (.region false [(.mk (some 6) (.mv (.lit (.c (.pv (.int .i64 3))))) none .p)]) (.tr (rl [6]) false .ret)) .skip))))))))))) (.seq (.region false [(.mk (some 6)
  (.mv (.lit (.c (.pv (.int .i64 0))))) none .p)]) (.tr (rl [6]) false .ret)))))))))
theorem xf59_ok : cmpFunc Go.Proofs.Tryd.prog 59 ((.two (.tr (rl [0, 0, 3]) false .no) (.two (.tr (rl [0, 0, 3, 1]) false .no) (.two (.tr (rl [0, 0, 3, 0]) false (.two (.tr (rl [0, 0, 3, 1, 5]) false .no) (.tr (rl [0, 0, 3, 0]) false (.two (.two .no (.tr (rl [6]) false .no)) (.two (.tr (rl [0, 0, 3, 1, 8]) false .no) (.tr (rl [0, 0, 3, 0]) false (.two (.two .no (.tr (rl [6]) false .no)) (.two (.tr (rl [0, 0, 3, 16]) false (.draw [0, 1, 2, 3, 4, 5, 6, 7, 8, 9, 10, 11, 12, 13] [])) (.tr (rl [0, 0, 3, 0]) false (.two (.two .no (.tr (rl [6]) false .no)) (.two (.tr (rl [0, 0, 3, 30]) false .no) (.tr (rl [0, 0, 3, 0]) false (.two (.two .no (.tr (rl [6]) false .no)) .no))))))))))))) (.two (.tr (rl [1, 3, 2]) false .no) (.two (.tr (rl [1, 3, 2, 0, 0]) false (.ops [{}, {}, {}, {}, {}, { cls := some .p }])) (.two (.tr (rl [6]) false (.two (.tr (rl [1, 3, 3, 0, 44]) false .no) (.tr (rl [6]) false (.two (.two .no (.tr (rl [6]) false .no)) (.two (.tr (rl [5, 3, 0, 48]) false .no) (.tr (rl [6]) false (.two (.two .no (.tr (rl [6]) false .no)) (.two (.tr (rl [64]) false (.ops [{}, {}, {}, {}, {}, { cls := some .p }])) (.tr (rl [6]) false (.two (.two .no (.tr (rl [6]) false .no)) .no)))))))))) (.two .no (.tr (rl [6]) false .no))))))))) = some xf59 := by kernel_rfl
def xf60_l0 : XCode :=
(.seq (.region false [(.mk (some 10) (.bin .lss (.tmp 9) (.tmp 8)) none .p)]) (.seq (.tr (rl [3, 3, 0, 0]) false (.cond (.tmp 10) .skip (.tr (rl [3]) false
  (.exit 0)))) (.seq (.tr (rl [3, 3, 0, 0]) false (.block 1 (.seq (.tr (rl [3, 1, 1, 0, 0]) false (.region false [(.mk (some 11) (.iaddrS 7 (.tmp 7) (.tmp 9))
  none .p), (.mk (some 12) (.load true 7 (.tmp 11)) none .r), (.mk (some 5) (.alloc [(.pv (.int .i64 0)), (.pv (.int .i32 0)), (.pv (.int .i32 0)), (.pv (.sl
  .nil 0 [])), (.pv (.int .i64 0)), (.pv (.int .i64 0)), (.pv (.str []))]) none .w), (.mk none (.store 7 (.tmp 5) (.tmp 12)) none .w)])) (.tr (rl [3, 3, 0, 0])
  false (.region false [(.mk (some 13) (.mv (.tmp 3)) none .p), (.mk (some 14) (.faddr 4 (.tmp 5)) none .p), (.mk (some 15) (.load false 1 (.tmp 14)) none .r),
  (.mk none (.mupd (.tmp 13) (.tmp 15) (.lit (.c (.pv (.bool true))))) none .w)]))))) (.tr (rl [3, 3, 0, 0]) false (.region false [(.mk (some 16) (.bin .add
  (.tmp 9) (.lit (.c (.pv (.int .i64 1))))) none .p), (.mk (some 9) (.mv (.tmp 16)) none .p)])))))
def xf60 : XFunc :=
(.mk 18 [(.tmp 2)] (.seq (.tr (rl [0]) false (.region false [(.mk (some 2) (.mv (.lit (.c .nilm))) none .p)])) (.seq (.tr (rl [0, 2]) false (.region false [(.mk
  (some 6) .mkmap none .w), (.mk (some 3) (.mv (.tmp 6)) none .p)])) (.seq (.seq (.tr (rl [3, 3, 0, 0]) false (.region false [(.mk (some 7) (.mv (.tmp 0)) none
  .p), (.mk (some 8) (.len (.tmp 7)) none .p), (.mk (some 9) (.mv (.lit (.c (.pv (.int .i64 0))))) none .p)])) (.tr (rl [3]) false (.block 0 (.loop (rl [3, 3,
  0, 0]) xf60_l0)))) (.seq (.tr (rl [2]) false (.region false [(.mk (some 17) (.mv (.tmp 3)) none .p), (.mk (some 2) (.mv (.tmp 17)) none .p)])) (.tr (rl [2])
  false .ret))))))
theorem xf60_ok : cmpFunc Go.Proofs.Tryd.prog 60 ((.two (.tr (rl [0]) false .no) (.two (.tr (rl [0, 2]) false .no) (.two (.two (.tr (rl [3, 3, 0, 0]) false .no) (.tr (rl [3]) false (.loop (rl [3, 3, 0, 0]) (.two .no (.two (.tr (rl [3, 3, 0, 0]) false (.two .no (.tr (rl [3]) false .no))) (.two (.tr (rl [3, 3, 0, 0]) false (.two (.tr (rl [3, 1, 1, 0, 0]) false .no) (.tr (rl [3, 3, 0, 0]) false .no))) (.tr (rl [3, 3, 0, 0]) false .no))))))) (.two (.tr (rl [2]) false .no) (.tr (rl [2]) false .no)))))) = some xf60 := by kernel_rfl
def xf61 : XFunc :=
(.mk 3 [(.tmp 2)] (.seq (.tr [] false (.region false [(.mk (some 1) (.box (.tmp 0) 7) none .w), (.mk (some 2) (.mv (.lit (.c (.pv (.bool false))))) none .p)]))
  (.seq (.region false [(.mk (some 2) (.mv (.lit (.c (.pv (.bool true))))) none .p)]) (.tr (rl [2]) false .ret))))
theorem xf61_ok : cmpFunc Go.Proofs.Tryd.prog 61 ((.two (.tr [] false .no) (.two .no (.tr (rl [2]) false .no)))) = some xf61 := by kernel_rfl
def xf62_l0 : XCode :=
(.seq (.region false [(.mk (some 11) (.bin .lss (.tmp 10) (.tmp 9)) none .p)]) (.seq (.tr (rl [1, 3, 2, 0, 0]) false (.cond (.tmp 11) .skip (.tr (rl [5]) false
  (.exit 0)))) (.seq (.tr (rl [1, 3, 2, 0, 0]) false (.block 1 (.seq (.tr (rl [1, 3, 1, 0, 0, 0]) false (.region false [(.mk (some 12) (.iaddrS 7 (.tmp 8) (.tmp
  10)) none .p), (.mk (some 13) (.load true 7 (.tmp 12)) none .r), (.mk (some 7) (.alloc [(.pv (.int .i64 0)), (.pv (.int .i32 0)), (.pv (.int .i32 0)), (.pv
  (.sl .nil 0 [])), (.pv (.int .i64 0)), (.pv (.int .i64 0)), (.pv (.str []))]) none .w), (.mk none (.store 7 (.tmp 7) (.tmp 13)) none .w)])) (.seq (.tr (rl [1,
  3, 1, 0, 0, 0, 5]) false (.region false [(.mk (some 14) (.mv (.tmp 1)) none .p), (.mk (some 15) (.load true 7 (.tmp 7)) none .r), (.mk (some 16) (.call false
  [] (.tmp 14) [(.tmp 15)]) none .w)])) (.tr (rl [1, 3, 2, 0, 0]) false (.cond (.tmp 16) (.tr (rl [1, 3, 2, 0, 0]) false (.region false [(.mk (some 17) (.mv
  (.tmp 5)) none .p), (.mk (some 18) (.load true 7 (.tmp 7)) none .r), (.mk (some 19) (.call false [] (.lit (.c (.fn 63 []))) [(.tmp 18)]) none .p), (.mk (some
  20) (.buildSl [(.pv (.int .i64 0)), (.pv (.int .i32 0)), (.pv (.int .i32 0)), (.pv (.sl .nil 0 [])), (.pv (.int .i64 0)), (.pv (.int .i64 0)), (.pv (.str
  []))] 1 7 [(0, (7, (.tmp 19)))]) none .p), (.mk (some 21) (.app 7 72 (.tmp 17) (.tmp 20)) none .w), (.mk (some 5) (.mv (.tmp 21)) none .p)])) .skip)))))) (.tr
  (rl [1, 3, 2, 0, 0]) false (.region false [(.mk (some 22) (.bin .add (.tmp 10) (.lit (.c (.pv (.int .i64 1))))) none .p), (.mk (some 10) (.mv (.tmp 22)) none
  .p)])))))
def xf62 : XFunc :=
(.mk 24 [(.tmp 4)] (.seq (.tr (rl [0, 0]) false (.region false [(.mk (some 4) (.mv (.lit (.c (.pv (.sl .nil 0 []))))) none .p)])) (.seq (.region false [(.mk
  (some 5) (.mv (.lit (.c (.pv (.sl .nil 0 []))))) none .p)]) (.seq (.seq (.tr (rl [1, 3, 2, 0, 0]) false (.region false [(.mk (some 8) (.mv (.tmp 0)) none .p),
  (.mk (some 9) (.len (.tmp 8)) none .p), (.mk (some 10) (.mv (.lit (.c (.pv (.int .i64 0))))) none .p)])) (.tr (rl [5]) false (.block 0 (.loop (rl [1, 3, 2, 0,
  0]) xf62_l0)))) (.seq (.tr (rl [4]) false (.region false [(.mk (some 23) (.mv (.tmp 5)) none .p), (.mk (some 4) (.mv (.tmp 23)) none .p)])) (.tr (rl [4])
  false .ret))))))
theorem xf62_ok : cmpFunc Go.Proofs.Tryd.prog 62 ((.two (.tr (rl [0, 0]) false .no) (.two .no (.two (.two (.tr (rl [1, 3, 2, 0, 0]) false .no) (.tr (rl [5]) false (.loop (rl [1, 3, 2, 0, 0]) (.two .no (.two (.tr (rl [1, 3, 2, 0, 0]) false (.two .no (.tr (rl [5]) false .no))) (.two (.tr (rl [1, 3, 2, 0, 0]) false (.two (.tr (rl [1, 3, 1, 0, 0, 0]) false .no) (.two (.tr (rl [1, 3, 1, 0, 0, 0, 5]) false .no) (.tr (rl [1, 3, 2, 0, 0]) false (.two (.tr (rl [1, 3, 2, 0, 0]) false (.ops [{}, {}, { cls := some .p }])) .no))))) (.tr (rl [1, 3, 2, 0, 0]) false .no))))))) (.two (.tr (rl [4]) false .no) (.tr (rl [4]) false .no)))))) = some xf62 := by kernel_rfl
def xf63 : XFunc :=
(.mk 8 [(.cell 2 true 7)] (.seq (.tr (rl [1, 0]) false (.region false [(.mk (some 1) (.box (.tmp 0) 7) none .w), (.mk (some 2) (.alloc [(.pv (.int .i64 0)),
  (.pv (.int .i32 0)), (.pv (.int .i32 0)), (.pv (.sl .nil 0 [])), (.pv (.int .i64 0)), (.pv (.int .i64 0)), (.pv (.str []))]) none .w)])) (.seq (.tr (rl [1,
  0]) false (.region false [(.mk (some 3) (.faddr 3 (.tmp 1)) none .p), (.mk (some 4) (.load false 1 (.tmp 3)) none .r), (.mk (some 5) (.call false [] (.lit (.c
  (.fn 85 []))) [(.tmp 4)]) none .p), (.mk (some 6) (.faddr 3 (.tmp 1)) none .p), (.mk none (.store 1 (.tmp 6) (.tmp 5)) none .w)])) (.seq (.tr (rl [2]) false
  (.region false [(.mk (some 7) (.load true 7 (.tmp 1)) none .r), (.mk none (.store 7 (.tmp 2) (.tmp 7)) none .w)])) (.tr (rl [2]) false .ret)))))
theorem xf63_ok : cmpFunc Go.Proofs.Tryd.prog 63 ((.two (.tr (rl [1, 0]) false .no) (.two (.tr (rl [1, 0]) false (.ops [{}, {}, { cls := some .p }])) (.two (.tr (rl [2]) false .no) (.tr (rl [2]) false .no))))) = some xf63 := by kernel_rfl
def xf64 : XFunc :=
(.mk 13 [(.tmp 4), (.tmp 5)] (.seq (.tr (rl [1, 0]) false (.region false [(.mk (some 2) (.box (.tmp 0) 1) none .w), (.mk (some 4) (.mv (.lit (.c (.pv (.sl .nil
  0 []))))) none .p), (.mk (some 5) (.mv (.lit (.c (.pv (.int .i64 0))))) none .p)])) (.seq (.seq (.tr (rl [1, 0, 5]) false (.region false [(.mk (some 6) (.load
  true 1 (.tmp 2)) none .r), (.mk (some 7) (.call false [] (.lit (.c (.fn 25 []))) [(.tmp 6)]) none .p), (.mk (some 8) (.un .not (.tmp 7)) none .p)])) (.tr (rl
  [1, 0, 1, 0]) false (.cond (.tmp 8) (.seq (.region false [(.mk (some 4) (.mv (.lit (.c (.pv (.sl .nil 0 []))))) none .p), (.mk (some 5) (.mv (.lit (.c (.pv
  (.int .i64 1))))) none .p)]) (.tr (rl [4, 0]) false .ret)) .skip))) (.seq (.tr (rl [4, 0]) false (.region false [(.mk (some 9) (.faddr 0 (.tmp 2)) none .p),
  (.mk (some 10) (.load false 1 (.tmp 9)) none .r), (.mk (some 11) (.mv (.tmp 1)) none .p), (.mk (some 12) (.call false [] (.lit (.c (.fn 62 []))) [(.tmp 10),
  (.tmp 11)]) none .w), (.mk (some 4) (.mv (.tmp 12)) none .p), (.mk (some 5) (.mv (.lit (.c (.pv (.int .i64 0))))) none .p)])) (.tr (rl [4, 0]) false .ret)))))
theorem xf64_ok : cmpFunc Go.Proofs.Tryd.prog 64 ((.two (.tr (rl [1, 0]) false .no) (.two (.two (.tr (rl [1, 0, 5]) false (.ops [{}, { cls := some .p }])) (.tr (rl [1, 0, 1, 0]) false (.two (.two .no (.tr (rl [4, 0]) false .no)) .no))) (.two (.tr (rl [4, 0]) false .no) (.tr (rl [4, 0]) false .no))))) = some xf64 := by kernel_rfl
def xf65 : XFunc :=
(.mk 8 [(.tmp 3)] (.seq (.tr (rl [1, 0]) false (.region false [(.mk (some 2) (.box (.tmp 0) 7) none .w), (.mk (some 3) (.mv (.lit (.c (.pv (.bool false)))))
  none .p)])) (.seq (.tr (rl [3]) false (.region false [(.mk (some 4) (.faddr 1 (.tmp 2)) none .p), (.mk (some 5) (.load false 1 (.tmp 4)) none .r), (.mk (some
  6) (.load false 1 (.tmp 1)) none .r), (.mk (some 7) (.bin .leq (.tmp 5) (.tmp 6)) none .p), (.mk (some 3) (.mv (.tmp 7)) none .p)])) (.tr (rl [3]) false
  .ret))))
theorem xf65_ok : cmpFunc Go.Proofs.Tryd.prog 65 ((.two (.tr (rl [1, 0]) false .no) (.two (.tr (rl [3]) false .no) (.tr (rl [3]) false .no)))) = some xf65 := by kernel_rfl
def xf66 : XFunc :=
(.mk 15 [(.tmp 4)] (.seq (.tr (rl [1, 0, 0]) false (.region false [(.mk (some 3) (.box (.tmp 0) 7) none .w), (.mk (some 4) (.mv (.lit (.c (.pv (.bool false)))))
  none .p)])) (.seq (.tr (rl [4]) false (.region false [(.mk (some 5) (.faddr 1 (.tmp 3)) none .p), (.mk (some 6) (.load false 1 (.tmp 5)) none .r), (.mk (some
  7) (.load false 1 (.tmp 1)) none .r), (.mk (some 8) (.bin .leq (.tmp 6) (.tmp 7)) none .p), (.mk (some 9) (.mv (.tmp 8)) none .p), (.mk (some 10) (.faddr 2
  (.tmp 3)) (some (9, true)) .p), (.mk (some 11) (.load false 1 (.tmp 10)) (some (9, true)) .r), (.mk (some 12) (.load false 1 (.tmp 2)) (some (9, true)) .r),
  (.mk (some 13) (.bin .leq (.tmp 11) (.tmp 12)) (some (9, true)) .p), (.mk (some 14) (.pick (.tmp 9) (.tmp 13) (.lit (.c (.pv (.bool false))))) none .p), (.mk
  (some 4) (.mv (.tmp 14)) none .p)])) (.tr (rl [4]) false .ret))))
theorem xf66_ok : cmpFunc Go.Proofs.Tryd.prog 66 ((.two (.tr (rl [1, 0, 0]) false .no) (.two (.tr (rl [4]) false .no) (.tr (rl [4]) false .no)))) = some xf66 := by kernel_rfl
def xf67 : XFunc :=
(.mk 6 [(.tmp 2)] (.seq (.tr (rl [1]) false (.region false [(.mk (some 1) (.box (.tmp 0) 7) none .w), (.mk (some 2) (.mv (.lit (.c (.pv (.bool false))))) none
  .p)])) (.seq (.tr (rl [2]) false (.region false [(.mk (some 3) (.faddr 5 (.tmp 1)) none .p), (.mk (some 4) (.load false 1 (.tmp 3)) none .r), (.mk (some 5)
  (.bin .eql (.tmp 4) (.lit (.c (.pv (.int .i64 0))))) none .p), (.mk (some 2) (.mv (.tmp 5)) none .p)])) (.tr (rl [2]) false .ret))))
theorem xf67_ok : cmpFunc Go.Proofs.Tryd.prog 67 ((.two (.tr (rl [1]) false .no) (.two (.tr (rl [2]) false .no) (.tr (rl [2]) false .no)))) = some xf67 := by kernel_rfl
end Go.Sx.Tryd
