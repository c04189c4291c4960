/- Functions of the program in the evaluator's form, each checked by the kernel. Printed by genx.py. -/
import Derived.Test.YtdhefhnlagnkdaaDoorSxLem
import Derived.Test.YtdhefhnlagnkdaaDoorProg
import Derived.KernelRfl
namespace Go.Sx.Tryd
open Go Go.Sx
def xf68 : XFunc :=
(.mk 8 [(.tmp 3)] (.seq (.tr (rl [1, 0]) false (.region false [(.mk (some 2) (.box (.tmp 0) 7) none .w), (.mk (some 3) (.mv (.lit (.c (.pv (.bool false)))))
  none .p)])) (.seq (.tr (rl [3]) false (.region false [(.mk (some 4) (.faddr 0 (.tmp 2)) none .p), (.mk (some 5) (.load false 1 (.tmp 4)) none .r), (.mk (some
  6) (.load false 1 (.tmp 1)) none .r), (.mk (some 7) (.bin .gtr (.tmp 5) (.tmp 6)) none .p), (.mk (some 3) (.mv (.tmp 7)) none .p)])) (.tr (rl [3]) false
  .ret))))
theorem xf68_ok : cmpFunc Go.Proofs.Tryd.prog 68 ((.two (.tr (rl [1, 0]) false .no) (.two (.tr (rl [3]) false .no) (.tr (rl [3]) false .no)))) = some xf68 := by kernel_rfl
def xf69_l0 : XCode :=
(.seq (.seq (.tr (rl [0, 0, 2, 0, 0, 10]) false (.region false [(.mk (some 14) (.mv (.tmp 6)) none .p), (.mk (some 15) (.mv (.tmp 0)) none .p), (.mk (some 16)
  (.len (.tmp 15)) none .p), (.mk (some 17) (.bin .lss (.tmp 14) (.tmp 16)) none .p)])) (.tr (rl [0, 0, 2, 0, 0]) false (.cond (.tmp 17) .skip (.tr (rl [4, 0])
  false (.exit 0))))) (.seq (.tr (rl [0, 0, 2, 0, 0]) false (.block 1 (.seq (.tr (rl [0, 0, 2, 0, 0, 20]) false (.region true [(.mk (some 20) (.mv (.tmp 1))
  none .p), (.mk (some 21) (.mv (.tmp 0)) none .p), (.mk (some 22) (.mv (.tmp 6)) none .p), (.mk (some 23) (.iaddrS 7 (.tmp 21) (.tmp 22)) none .p), (.mk (some
  24) (.load true 7 (.tmp 23)) none .r), (.mk (some 25) (.load true 7 (.tmp 5)) none .r), (.mk (some 26) (.call false [] (.tmp 20) [(.tmp 24), (.tmp 25)]) none
  .w), (.mk (some 27) (.bin .lss (.tmp 26) (.lit (.c (.pv (.int .i64 0))))) none .p)])) (.tr (rl [0, 0, 2, 0, 0]) false (.cond (.tmp 27) (.tr (rl [0, 0, 2, 0,
  0]) false (.region false [(.mk (some 28) (.mv (.tmp 0)) none .p), (.mk (some 29) (.mv (.tmp 6)) none .p), (.mk (some 30) (.iaddrS 7 (.tmp 28) (.tmp 29)) none
  .p), (.mk (some 31) (.load true 7 (.tmp 30)) none .r), (.mk none (.store 7 (.tmp 5) (.tmp 31)) none .w)])) .skip))))) (.tr (rl [0, 0, 2, 0, 0]) false (.region
  false [(.mk (some 18) (.mv (.tmp 6)) none .p), (.mk (some 19) (.bin .add (.tmp 18) (.lit (.c (.pv (.int .i64 1))))) none .p), (.mk (some 6) (.mv (.tmp 19))
  none .p)]))))
def xf69 : XFunc :=
(.mk 33 [(.cell 4 true 7)] (.seq (.region false [(.mk (some 4) (.alloc [(.pv (.int .i64 0)), (.pv (.int .i32 0)), (.pv (.int .i32 0)), (.pv (.sl .nil 0 [])),
  (.pv (.int .i64 0)), (.pv (.int .i64 0)), (.pv (.str []))]) none .w)]) (.seq (.seq (.tr (rl [0, 0, 2, 4]) false (.region false [(.mk (some 7) (.mv (.tmp 0))
  none .p), (.mk (some 8) (.len (.tmp 7)) none .p), (.mk (some 9) (.bin .lss (.tmp 8) (.lit (.c (.pv (.int .i64 1))))) none .p)])) (.tr (rl [0, 0, 2]) false
  (.cond (.tmp 9) (.tr (rl [0, 0, 2]) false (.region false [(.mk (some 10) .stuck none .p), (.mk none .stuck none .p)])) .skip))) (.seq (.tr (rl [0, 0, 2, 0])
  false (.region false [(.mk (some 11) (.mv (.tmp 0)) none .p), (.mk (some 12) (.iaddrS 7 (.tmp 11) (.lit (.c (.pv (.int .i64 0))))) none .p), (.mk (some 13)
  (.load true 7 (.tmp 12)) none .r), (.mk (some 5) (.alloc [(.pv (.int .i64 0)), (.pv (.int .i32 0)), (.pv (.int .i32 0)), (.pv (.sl .nil 0 [])), (.pv (.int
  .i64 0)), (.pv (.int .i64 0)), (.pv (.str []))]) none .w), (.mk none (.store 7 (.tmp 5) (.tmp 13)) none .w)])) (.seq (.seq (.region false [(.mk (some 6) (.mv
  (.lit (.c (.pv (.int .i64 1))))) none .p)]) (.tr (rl [4, 0]) false (.block 0 (.loop (rl [0, 0, 2, 0, 0]) xf69_l0)))) (.seq (.tr (rl [4]) false (.region false
  [(.mk (some 32) (.load true 7 (.tmp 5)) none .r), (.mk none (.store 7 (.tmp 4) (.tmp 32)) none .w)])) (.tr (rl [4]) false .ret)))))))
theorem xf69_ok : cmpFunc Go.Proofs.Tryd.prog 69 ((.two .no (.two (.two (.tr (rl [0, 0, 2, 4]) false .no) (.tr (rl [0, 0, 2]) false (.two (.tr (rl [0, 0, 2]) false .no) .no))) (.two (.tr (rl [0, 0, 2, 0]) false .no) (.two (.two .no (.tr (rl [4, 0]) false (.loop (rl [0, 0, 2, 0, 0]) (.two (.two (.tr (rl [0, 0, 2, 0, 0, 10]) false .no) (.tr (rl [0, 0, 2, 0, 0]) false (.two .no (.tr (rl [4, 0]) false .no)))) (.two (.tr (rl [0, 0, 2, 0, 0]) false (.two (.tr (rl [0, 0, 2, 0, 0, 20]) false (.draw [0, 1, 2, 3, 4, 5, 6, 7] [])) (.tr (rl [0, 0, 2, 0, 0]) false (.two (.tr (rl [0, 0, 2, 0, 0]) false .no) .no)))) (.tr (rl [0, 0, 2, 0, 0]) false .no)))))) (.two (.tr (rl [4]) false .no) (.tr (rl [4]) false .no))))))) = some xf69 := by kernel_rfl
def xf70 : XFunc :=
(.mk 12 [(.tmp 4)] (.seq (.tr (rl [2, 0]) false (.region false [(.mk (some 2) (.box (.tmp 0) 7) none .w), (.mk (some 3) (.box (.tmp 1) 7) none .w), (.mk (some
  4) (.mv (.lit (.c (.pv (.int .i64 0))))) none .p)])) (.seq (.tr (rl [4]) false (.region false [(.mk (some 5) (.faddr 2 (.tmp 2)) none .p), (.mk (some 6)
  (.load false 1 (.tmp 5)) none .r), (.mk (some 7) (.convI .i64 (.tmp 6)) none .p), (.mk (some 8) (.faddr 2 (.tmp 3)) none .p), (.mk (some 9) (.load false 1
  (.tmp 8)) none .r), (.mk (some 10) (.convI .i64 (.tmp 9)) none .p), (.mk (some 11) (.bin .sub (.tmp 7) (.tmp 10)) none .p), (.mk (some 4) (.mv (.tmp 11)) none
  .p)])) (.tr (rl [4]) false .ret))))
theorem xf70_ok : cmpFunc Go.Proofs.Tryd.prog 70 ((.two (.tr (rl [2, 0]) false .no) (.two (.tr (rl [4]) false .no) (.tr (rl [4]) false .no)))) = some xf70 := by kernel_rfl
def xf71 : XFunc :=
(.mk 14 [(.tmp 3)] (.seq (.tr (rl [1, 0]) false (.region false [(.mk (some 2) (.box (.tmp 0) 7) none .w), (.mk (some 3) (.mv (.lit (.c (.pv (.bool false)))))
  none .p)])) (.seq (.tr (rl [3]) false (.region false [(.mk (some 4) (.faddr 4 (.tmp 2)) none .p), (.mk (some 5) (.load false 1 (.tmp 4)) none .r), (.mk (some
  6) (.bin .eql (.tmp 5) (.lit (.c (.pv (.int .i64 0))))) none .p), (.mk (some 7) (.mv (.tmp 6)) none .p), (.mk (some 8) (.load false 1 (.tmp 1)) (some (7,
  true)) .r), (.mk (some 9) (.faddr 0 (.tmp 2)) (some (7, true)) .p), (.mk (some 10) (.load false 1 (.tmp 9)) (some (7, true)) .r), (.mk (some 11) (.mlook
  (.bool false) false (.tmp 8) (.tmp 10)) (some (7, true)) .r), (.mk (some 12) (.un .not (.tmp 11)) (some (7, true)) .p), (.mk (some 13) (.pick (.tmp 7) (.tmp
  12) (.lit (.c (.pv (.bool false))))) none .p), (.mk (some 3) (.mv (.tmp 13)) none .p)])) (.tr (rl [3]) false .ret))))
theorem xf71_ok : cmpFunc Go.Proofs.Tryd.prog 71 ((.two (.tr (rl [1, 0]) false .no) (.two (.tr (rl [3]) false .no) (.tr (rl [3]) false .no)))) = some xf71 := by kernel_rfl
def xf72 : XFunc :=
(.mk 9 [(.tmp 2)] (.seq (.tr (rl [0]) false (.region false [(.mk (some 2) (.mv (.lit (.c (.pv (.bool false))))) none .p)])) (.seq (.tr (rl [2]) false (.region
  false [(.mk (some 3) (.mv (.tmp 0)) none .p), (.mk (some 4) (.bin .geq (.tmp 3) (.lit (.c (.pv (.int .i32 (-50000)))))) none .p), (.mk (some 5) (.mv (.tmp 4))
  none .p), (.mk (some 6) (.mv (.tmp 0)) (some (5, true)) .p), (.mk (some 7) (.bin .leq (.tmp 6) (.lit (.c (.pv (.int .i32 50000))))) (some (5, true)) .p), (.mk
  (some 8) (.pick (.tmp 5) (.tmp 7) (.lit (.c (.pv (.bool false))))) none .p), (.mk (some 2) (.mv (.tmp 8)) none .p)])) (.tr (rl [2]) false .ret))))
theorem xf72_ok : cmpFunc Go.Proofs.Tryd.prog 72 ((.two (.tr (rl [0]) false .no) (.two (.tr (rl [2]) false .no) (.tr (rl [2]) false .no)))) = some xf72 := by kernel_rfl
def xf73_l0 : XCode :=
(.seq (.seq (.tr (rl [0, 2, 10]) false (.region false [(.mk (some 11) (.mv (.tmp 3)) none .p), (.mk (some 12) (.mv (.tmp 0)) none .p), (.mk (some 13) (.len
  (.tmp 12)) none .p), (.mk (some 14) (.bin .lss (.tmp 11) (.tmp 13)) none .p)])) (.tr (rl [0, 2]) false (.cond (.tmp 14) .skip (.tr (rl [0]) false (.exit
  0))))) (.seq (.tr (rl [0, 1, 0]) false (.block 1 (.seq (.tr (rl [0, 2, 26]) false (.region false [(.mk (some 17) (.mv (.tmp 0)) none .p), (.mk (some 18) (.mv
  (.tmp 3)) none .p), (.mk (some 19) (.iaddrS 3 (.tmp 17) (.tmp 18)) none .p), (.mk (some 20) (.faddr 0 (.tmp 19)) none .p), (.mk (some 21) (.load false 1 (.tmp
  20)) none .r), (.mk (some 22) (.bin .lss (.tmp 21) (.lit (.c (.pv (.int .i64 1))))) none .p), (.mk (some 23) (.mv (.tmp 22)) none .p), (.mk (some 24) (.mv
  (.tmp 0)) (some (23, false)) .p), (.mk (some 25) (.mv (.tmp 3)) (some (23, false)) .p), (.mk (some 26) (.iaddrS 3 (.tmp 24) (.tmp 25)) (some (23, false)) .p),
  (.mk (some 27) (.faddr 0 (.tmp 26)) (some (23, false)) .p), (.mk (some 28) (.load false 1 (.tmp 27)) (some (23, false)) .r), (.mk (some 29) (.bin .gtr (.tmp
  28) (.lit (.c (.pv (.int .i64 999))))) (some (23, false)) .p), (.mk (some 30) (.pick (.tmp 23) (.lit (.c (.pv (.bool true)))) (.tmp 29)) none .p)])) (.tr (rl
  [0, 1, 0]) false (.cond (.tmp 30) (.seq (.region false [(.mk (some 2) (.mv (.lit (.c (.pv (.int .i64 8))))) none .p)]) (.tr (rl [2]) false .ret)) .skip)))))
  (.tr (rl [0, 2]) false (.region false [(.mk (some 15) (.mv (.tmp 3)) none .p), (.mk (some 16) (.bin .add (.tmp 15) (.lit (.c (.pv (.int .i64 1))))) none .p),
  (.mk (some 3) (.mv (.tmp 16)) none .p)]))))
def xf73_l1 : XCode :=
(.seq (.seq (.tr (rl [0, 3, 29]) false (.region false [(.mk (some 31) (.mv (.tmp 4)) none .p), (.mk (some 32) (.mv (.tmp 0)) none .p), (.mk (some 33) (.len
  (.tmp 32)) none .p), (.mk (some 34) (.bin .lss (.tmp 31) (.tmp 33)) none .p)])) (.tr (rl [0, 3]) false (.cond (.tmp 34) .skip (.tr (rl [0]) false (.exit
  2))))) (.seq (.tr (rl [0, 1, 1]) false (.block 3 (.seq (.tr (rl [0, 3, 47]) false (.region false [(.mk (some 37) (.mv (.tmp 0)) none .p), (.mk (some 38) (.mv
  (.tmp 4)) none .p), (.mk (some 39) (.iaddrS 3 (.tmp 37) (.tmp 38)) none .p), (.mk (some 40) (.faddr 1 (.tmp 39)) none .p), (.mk (some 41) (.faddr 0 (.tmp 40))
  none .p), (.mk (some 42) (.load false 1 (.tmp 41)) none .r), (.mk (some 43) (.bin .lss (.tmp 42) (.lit (.c (.pv (.int .i64 0))))) none .p), (.mk (some 44)
  (.mv (.tmp 43)) none .p), (.mk (some 45) (.mv (.tmp 0)) (some (44, false)) .p), (.mk (some 46) (.mv (.tmp 4)) (some (44, false)) .p), (.mk (some 47) (.iaddrS
  3 (.tmp 45) (.tmp 46)) (some (44, false)) .p), (.mk (some 48) (.faddr 1 (.tmp 47)) (some (44, false)) .p), (.mk (some 49) (.faddr 0 (.tmp 48)) (some (44,
  false)) .p), (.mk (some 50) (.load false 1 (.tmp 49)) (some (44, false)) .r), (.mk (some 51) (.bin .gtr (.tmp 50) (.lit (.c (.pv (.int .i64 3))))) (some (44,
  false)) .p), (.mk (some 52) (.pick (.tmp 44) (.lit (.c (.pv (.bool true)))) (.tmp 51)) none .p)])) (.tr (rl [0, 1, 1]) false (.cond (.tmp 52) (.seq (.region
  false [(.mk (some 2) (.mv (.lit (.c (.pv (.int .i64 12))))) none .p)]) (.tr (rl [2]) false .ret)) .skip))))) (.tr (rl [0, 3]) false (.region false [(.mk (some
  35) (.mv (.tmp 4)) none .p), (.mk (some 36) (.bin .add (.tmp 35) (.lit (.c (.pv (.int .i64 1))))) none .p), (.mk (some 4) (.mv (.tmp 36)) none .p)]))))
def xf73_l2 : XCode :=
(.seq (.seq (.tr (rl [0, 4, 50]) false (.region false [(.mk (some 53) (.mv (.tmp 5)) none .p), (.mk (some 54) (.mv (.tmp 0)) none .p), (.mk (some 55) (.len
  (.tmp 54)) none .p), (.mk (some 56) (.bin .lss (.tmp 53) (.tmp 55)) none .p)])) (.tr (rl [0, 4]) false (.cond (.tmp 56) .skip (.tr (rl [0]) false (.exit
  4))))) (.seq (.tr (rl [0, 1, 2]) false (.block 5 (.seq (.tr (rl [0, 4, 0]) false (.region false [(.mk (some 59) (.mv (.tmp 0)) none .p), (.mk (some 60) (.mv
  (.tmp 5)) none .p), (.mk (some 61) (.iaddrS 3 (.tmp 59) (.tmp 60)) none .p), (.mk (some 62) (.faddr 1 (.tmp 61)) none .p), (.mk (some 63) (.load true 2 (.tmp
  62)) none .r), (.mk (some 64) (.call false [] (.lit (.c (.fn 126 []))) [(.tmp 63)]) none .p), (.mk (some 6) (.mv (.tmp 64)) none .p)])) (.seq (.tr (rl [0, 4,
  60]) false (.region false [(.mk (some 65) (.mv (.tmp 6)) none .p), (.mk (some 66) (.un .not (.tmp 65)) none .p)])) (.tr (rl [0, 1, 2]) false (.cond (.tmp 66)
  (.seq (.region false [(.mk (some 2) (.mv (.lit (.c (.pv (.int .i64 9))))) none .p)]) (.tr (rl [2]) false .ret)) .skip)))))) (.tr (rl [0, 4]) false (.region
  false [(.mk (some 57) (.mv (.tmp 5)) none .p), (.mk (some 58) (.bin .add (.tmp 57) (.lit (.c (.pv (.int .i64 1))))) none .p), (.mk (some 5) (.mv (.tmp 58))
  none .p)]))))
def xf73_l3 : XCode :=
(.seq (.seq (.tr (rl [0, 6, 62]) false (.region false [(.mk (some 67) (.mv (.tmp 7)) none .p), (.mk (some 68) (.mv (.tmp 0)) none .p), (.mk (some 69) (.len
  (.tmp 68)) none .p), (.mk (some 70) (.bin .lss (.tmp 67) (.tmp 69)) none .p)])) (.tr (rl [0, 6]) false (.cond (.tmp 70) .skip (.tr (rl [0]) false (.exit
  6))))) (.seq (.tr (rl [0, 1, 4]) false (.block 7 (.seq (.tr (rl [0, 6, 71]) false (.region false [(.mk (some 73) (.mv (.tmp 0)) none .p), (.mk (some 74) (.mv
  (.tmp 7)) none .p), (.mk (some 75) (.iaddrS 3 (.tmp 73) (.tmp 74)) none .p), (.mk (some 76) (.faddr 1 (.tmp 75)) none .p), (.mk (some 77) (.faddr 1 (.tmp 76))
  none .p), (.mk (some 78) (.load false 1 (.tmp 77)) none .r), (.mk (some 79) (.bin .eql (.tmp 78) (.lit (.c (.pv (.int .i64 0))))) none .p)])) (.tr (rl [0, 1,
  4]) false (.cond (.tmp 79) (.seq (.region false [(.mk (some 2) (.mv (.lit (.c (.pv (.int .i64 10))))) none .p)]) (.tr (rl [2]) false .ret)) .skip))))) (.tr
  (rl [0, 6]) false (.region false [(.mk (some 71) (.mv (.tmp 7)) none .p), (.mk (some 72) (.bin .add (.tmp 71) (.lit (.c (.pv (.int .i64 1))))) none .p), (.mk
  (some 7) (.mv (.tmp 72)) none .p)]))))
def xf73_l4 : XCode :=
(.seq (.seq (.tr (rl [0, 7, 0, 0, 76]) false (.region false [(.mk (some 84) (.mv (.tmp 10)) none .p), (.mk (some 85) (.mv (.tmp 0)) none .p), (.mk (some 86)
  (.len (.tmp 85)) none .p), (.mk (some 87) (.bin .lss (.tmp 84) (.tmp 86)) none .p)])) (.tr (rl [0, 7, 0, 0]) false (.cond (.tmp 87) .skip (.tr (rl [0, 7, 0])
  false (.exit 10))))) (.seq (.tr (rl [0, 7, 0, 0]) false (.block 11 (.seq (.tr (rl [0, 7, 0, 0, 86]) false (.region false [(.mk (some 90) (.mv (.tmp 0)) none
  .p), (.mk (some 91) (.mv (.tmp 10)) none .p), (.mk (some 92) (.iaddrS 3 (.tmp 90) (.tmp 91)) none .p), (.mk (some 93) (.faddr 1 (.tmp 92)) none .p), (.mk
  (some 94) (.faddr 0 (.tmp 93)) none .p), (.mk (some 95) (.load false 1 (.tmp 94)) none .r), (.mk (some 96) (.mv (.tmp 8)) none .p), (.mk (some 97) (.bin .eql
  (.tmp 95) (.tmp 96)) none .p)])) (.tr (rl [0, 7, 0, 0]) false (.cond (.tmp 97) (.tr (rl [0, 7, 0, 0]) false (.region false [(.mk (some 98) (.mv (.tmp 9)) none
  .p), (.mk (some 99) (.mv (.tmp 0)) none .p), (.mk (some 100) (.mv (.tmp 10)) none .p), (.mk (some 101) (.iaddrS 3 (.tmp 99) (.tmp 100)) none .p), (.mk (some
  102) (.faddr 1 (.tmp 101)) none .p), (.mk (some 103) (.faddr 1 (.tmp 102)) none .p), (.mk (some 104) (.load false 1 (.tmp 103)) none .r), (.mk (some 105)
  (.bin .add (.tmp 98) (.tmp 104)) none .p), (.mk (some 9) (.mv (.tmp 105)) none .p)])) .skip))))) (.tr (rl [0, 7, 0, 0]) false (.region false [(.mk (some 88)
  (.mv (.tmp 10)) none .p), (.mk (some 89) (.bin .add (.tmp 88) (.lit (.c (.pv (.int .i64 1))))) none .p), (.mk (some 10) (.mv (.tmp 89)) none .p)]))))
def xf73_l5 : XCode :=
(.seq (.seq (.tr (rl [0, 7, 72]) false (.region false [(.mk (some 80) (.mv (.tmp 8)) none .p), (.mk (some 81) (.bin .lss (.tmp 80) (.lit (.c (.pv (.int .i64
  4))))) none .p)])) (.tr (rl [0, 7]) false (.cond (.tmp 81) .skip (.tr [] false (.exit 8))))) (.seq (.tr (rl [0, 1, 5]) false (.block 9 (.seq (.region false
  [(.mk (some 9) (.mv (.lit (.c (.pv (.int .i64 0))))) none .p)]) (.seq (.seq (.region false [(.mk (some 10) (.mv (.lit (.c (.pv (.int .i64 0))))) none .p)])
  (.tr (rl [0, 7, 0]) false (.block 10 (.loop (rl [0, 7, 0, 0]) xf73_l4)))) (.seq (.tr (rl [0, 7, 98]) false (.region false [(.mk (some 106) (.mv (.tmp 9)) none
  .p), (.mk (some 107) (.bin .neq (.tmp 106) (.lit (.c (.pv (.int .i64 0))))) none .p)])) (.tr (rl [0, 1, 5]) false (.cond (.tmp 107) (.seq (.region false [(.mk
  (some 2) (.mv (.lit (.c (.pv (.int .i64 15))))) none .p)]) (.tr (rl [2]) false .ret)) .skip))))))) (.tr (rl [0, 7]) false (.region false [(.mk (some 82) (.mv
  (.tmp 8)) none .p), (.mk (some 83) (.bin .add (.tmp 82) (.lit (.c (.pv (.int .i64 1))))) none .p), (.mk (some 8) (.mv (.tmp 83)) none .p)]))))
def xf73 : XFunc :=
(.mk 108 [(.tmp 2)] (.seq (.tr (rl [0]) false (.region false [(.mk (some 2) (.mv (.lit (.c (.pv (.int .i64 0))))) none .p)])) (.seq (.seq (.region false [(.mk
  (some 3) (.mv (.lit (.c (.pv (.int .i64 0))))) none .p)]) (.tr (rl [0, 1]) false (.block 0 (.loop (rl [0, 2]) xf73_l0)))) (.seq (.seq (.region false [(.mk
  (some 4) (.mv (.lit (.c (.pv (.int .i64 0))))) none .p)]) (.tr (rl [0, 1]) false (.block 2 (.loop (rl [0, 3]) xf73_l1)))) (.seq (.seq (.region false [(.mk
  (some 5) (.mv (.lit (.c (.pv (.int .i64 0))))) none .p)]) (.tr (rl [0, 1]) false (.block 4 (.loop (rl [0, 4]) xf73_l2)))) (.seq (.seq (.region false [(.mk
  (some 7) (.mv (.lit (.c (.pv (.int .i64 0))))) none .p)]) (.tr (rl [0, 1]) false (.block 6 (.loop (rl [0, 6]) xf73_l3)))) (.seq (.seq (.region false [(.mk
  (some 8) (.mv (.lit (.c (.pv (.int .i64 0))))) none .p)]) (.tr (rl [2]) false (.block 8 (.loop (rl [0, 7]) xf73_l5)))) (.seq (.region false [(.mk (some 2)
  (.mv (.lit (.c (.pv (.int .i64 0))))) none .p)]) (.tr (rl [2]) false .ret)))))))))
theorem xf73_ok : cmpFunc Go.Proofs.Tryd.prog 73 ((.two (.tr (rl [0]) false .no) (.two (.two .no (.tr (rl [0, 1]) false (.loop (rl [0, 2]) (.two (.two (.tr (rl [0, 2, 10]) false .no) (.tr (rl [0, 2]) false (.two .no (.tr (rl [0]) false .no)))) (.two (.tr (rl [0, 1, 0]) false (.two (.tr (rl [0, 2, 26]) false .no) (.tr (rl [0, 1, 0]) false (.two (.two .no (.tr (rl [2]) false .no)) .no)))) (.tr (rl [0, 2]) false .no)))))) (.two (.two .no (.tr (rl [0, 1]) false (.loop (rl [0, 3]) (.two (.two (.tr (rl [0, 3, 29]) false .no) (.tr (rl [0, 3]) false (.two .no (.tr (rl [0]) false .no)))) (.two (.tr (rl [0, 1, 1]) false (.two (.tr (rl [0, 3, 47]) false .no) (.tr (rl [0, 1, 1]) false (.two (.two .no (.tr (rl [2]) false .no)) .no)))) (.tr (rl [0, 3]) false .no)))))) (.two (.two .no (.tr (rl [0, 1]) false (.loop (rl [0, 4]) (.two (.two (.tr (rl [0, 4, 50]) false .no) (.tr (rl [0, 4]) false (.two .no (.tr (rl [0]) false .no)))) (.two (.tr (rl [0, 1, 2]) false (.two (.tr (rl [0, 4, 0]) false (.ops [{}, {}, {}, {}, {}, { cls := some .p }])) (.two (.tr (rl [0, 4, 60]) false .no) (.tr (rl [0, 1, 2]) false (.two (.two .no (.tr (rl [2]) false .no)) .no))))) (.tr (rl [0, 4]) false .no)))))) (.two (.two .no (.tr (rl [0, 1]) false (.loop (rl [0, 6]) (.two (.two (.tr (rl [0, 6, 62]) false .no) (.tr (rl [0, 6]) false (.two .no (.tr (rl [0]) false .no)))) (.two (.tr (rl [0, 1, 4]) false (.two (.tr (rl [0, 6, 71]) false .no) (.tr (rl [0, 1, 4]) false (.two (.two .no (.tr (rl [2]) false .no)) .no)))) (.tr (rl [0, 6]) false .no)))))) (.two (.two .no (.tr (rl [2]) false (.loop (rl [0, 7]) (.two (.two (.tr (rl [0, 7, 72]) false .no) (.tr (rl [0, 7]) false (.two .no (.tr [] false .no)))) (.two (.tr (rl [0, 1, 5]) false (.two .no (.two (.two .no (.tr (rl [0, 7, 0]) false (.loop (rl [0, 7, 0, 0]) (.two (.two (.tr (rl [0, 7, 0, 0, 76]) false .no) (.tr (rl [0, 7, 0, 0]) false (.two .no (.tr (rl [0, 7, 0]) false .no)))) (.two (.tr (rl [0, 7, 0, 0]) false (.two (.tr (rl [0, 7, 0, 0, 86]) false .no) (.tr (rl [0, 7, 0, 0]) false (.two (.tr (rl [0, 7, 0, 0]) false .no) .no)))) (.tr (rl [0, 7, 0, 0]) false .no)))))) (.two (.tr (rl [0, 7, 98]) false .no) (.tr (rl [0, 1, 5]) false (.two (.two .no (.tr (rl [2]) false .no)) .no)))))) (.tr (rl [0, 7]) false .no)))))) (.two .no (.tr (rl [2]) false .no))))))))) = some xf73 := by kernel_rfl
def xf74 : XFunc :=
(.mk 8 [(.tmp 3)] (.seq (.tr (rl [0, 0]) false (.region false [(.mk (some 3) (.mv (.lit (.c (.pv (.bool false))))) none .p)])) (.seq (.tr (rl [3]) false
  (.region false [(.mk (some 4) (.faddr 3 (.tmp 1)) none .p), (.mk (some 5) (.load false 1 (.tmp 4)) none .r), (.mk (some 6) (.mv (.tmp 0)) none .p), (.mk (some
  7) (.call false [] (.lit (.c (.fn 75 []))) [(.tmp 5), (.tmp 6)]) none .w), (.mk (some 3) (.mv (.tmp 7)) none .p)])) (.tr (rl [3]) false .ret))))
theorem xf74_ok : cmpFunc Go.Proofs.Tryd.prog 74 ((.two (.tr (rl [0, 0]) false .no) (.two (.tr (rl [3]) false .no) (.tr (rl [3]) false .no)))) = some xf74 := by kernel_rfl
def xf75 : XFunc :=
(.mk 9 [(.tmp 4)] (.seq (.tr (rl [0, 0]) false (.region false [(.mk (some 4) (.mv (.lit (.c (.pv (.bool false))))) none .p)])) (.seq (.tr (rl [4]) false
  (.region false [(.mk (some 5) (.mv (.tmp 0)) none .p), (.mk (some 6) (.mv (.tmp 1)) none .p), (.mk (some 7) (.call false [] (.lit (.c (.fn 127 []))) [(.tmp
  5), (.tmp 6)]) none .w), (.mk (some 8) (.bin .geq (.tmp 7) (.lit (.c (.pv (.int .i64 0))))) none .p), (.mk (some 4) (.mv (.tmp 8)) none .p)])) (.tr (rl [4])
  false .ret))))
theorem xf75_ok : cmpFunc Go.Proofs.Tryd.prog 75 ((.two (.tr (rl [0, 0]) false .no) (.two (.tr (rl [4]) false .no) (.tr (rl [4]) false .no)))) = some xf75 := by kernel_rfl
def xf76 : XFunc :=
(.mk 47 [(.tmp 2)] (.seq (.tr (rl [1]) false (.region false [(.mk (some 1) (.box (.tmp 0) 7) none .w), (.mk (some 2) (.mv (.lit (.c (.pv (.bool false))))) none
  .p)])) (.seq (.region false [(.mk (some 3) (.mv (.lit (.c (.fn 128 [])))) none .p)]) (.seq (.tr (rl [2]) false (.region false [(.mk (some 4) (.faddr 0 (.tmp
  1)) none .p), (.mk (some 5) (.load false 1 (.tmp 4)) none .r), (.mk (some 6) (.bin .geq (.tmp 5) (.lit (.c (.pv (.int .i64 1))))) none .p), (.mk (some 7) (.mv
  (.tmp 6)) none .p), (.mk (some 8) (.faddr 0 (.tmp 1)) (some (7, true)) .p), (.mk (some 9) (.load false 1 (.tmp 8)) (some (7, true)) .r), (.mk (some 10) (.bin
  .leq (.tmp 9) (.lit (.c (.pv (.int .i64 1000000))))) (some (7, true)) .p), (.mk (some 11) (.pick (.tmp 7) (.tmp 10) (.lit (.c (.pv (.bool false))))) none .p),
  (.mk (some 12) (.mv (.tmp 11)) none .p), (.mk (some 13) (.faddr 4 (.tmp 1)) (some (12, true)) .p), (.mk (some 14) (.load false 1 (.tmp 13)) (some (12, true))
  .r), (.mk (some 15) (.bin .geq (.tmp 14) (.lit (.c (.pv (.int .i64 0))))) (some (12, true)) .p), (.mk (some 16) (.pick (.tmp 12) (.tmp 15) (.lit (.c (.pv
  (.bool false))))) none .p), (.mk (some 17) (.mv (.tmp 16)) none .p), (.mk (some 18) (.faddr 4 (.tmp 1)) (some (17, true)) .p), (.mk (some 19) (.load false 1
  (.tmp 18)) (some (17, true)) .r), (.mk (some 20) (.faddr 0 (.tmp 1)) (some (17, true)) .p), (.mk (some 21) (.load false 1 (.tmp 20)) (some (17, true)) .r),
  (.mk (some 22) (.bin .lss (.tmp 19) (.tmp 21)) (some (17, true)) .p), (.mk (some 23) (.pick (.tmp 17) (.tmp 22) (.lit (.c (.pv (.bool false))))) none .p),
  (.mk (some 24) (.mv (.tmp 23)) none .p), (.mk (some 25) (.faddr 5 (.tmp 1)) (some (24, true)) .p), (.mk (some 26) (.load false 1 (.tmp 25)) (some (24, true))
  .r), (.mk (some 27) (.bin .geq (.tmp 26) (.lit (.c (.pv (.int .i64 0))))) (some (24, true)) .p), (.mk (some 28) (.pick (.tmp 24) (.tmp 27) (.lit (.c (.pv
  (.bool false))))) none .p), (.mk (some 29) (.mv (.tmp 28)) none .p), (.mk (some 30) (.faddr 5 (.tmp 1)) (some (29, true)) .p), (.mk (some 31) (.load false 1
  (.tmp 30)) (some (29, true)) .r), (.mk (some 32) (.bin .leq (.tmp 31) (.lit (.c (.pv (.int .i64 4))))) (some (29, true)) .p), (.mk (some 33) (.pick (.tmp 29)
  (.tmp 32) (.lit (.c (.pv (.bool false))))) none .p), (.mk (some 34) (.mv (.tmp 33)) none .p), (.mk (some 35) (.faddr 6 (.tmp 1)) (some (34, true)) .p), (.mk
  (some 36) (.load false 1 (.tmp 35)) (some (34, true)) .r), (.mk (some 37) (.lenS (.tmp 36)) (some (34, true)) .p), (.mk (some 38) (.bin .leq (.tmp 37) (.lit
  (.c (.pv (.int .i64 32))))) (some (34, true)) .p), (.mk (some 39) (.pick (.tmp 34) (.tmp 38) (.lit (.c (.pv (.bool false))))) none .p), (.mk (some 40) (.mv
  (.tmp 39)) none .p), (.mk (some 41) (.faddr 6 (.tmp 1)) (some (40, true)) .p), (.mk (some 42) (.load false 1 (.tmp 41)) (some (40, true)) .r), (.mk (some 43)
  (.mv (.tmp 3)) (some (40, true)) .p), (.mk (some 44) (.call false [] (.lit (.c (.fn 129 []))) [(.tmp 42), (.tmp 43)]) (some (40, true)) .w), (.mk (some 45)
  (.un .not (.tmp 44)) (some (40, true)) .p), (.mk (some 46) (.pick (.tmp 40) (.tmp 45) (.lit (.c (.pv (.bool false))))) none .p), (.mk (some 2) (.mv (.tmp 46))
  none .p)])) (.tr (rl [2]) false .ret)))))
theorem xf76_ok : cmpFunc Go.Proofs.Tryd.prog 76 ((.two (.tr (rl [1]) false .no) (.two .no (.two (.tr (rl [2]) false .no) (.tr (rl [2]) false .no))))) = some xf76 := by kernel_rfl
def xf77 : XFunc :=
(.mk 9 [(.tmp 2)] (.seq (.tr (rl [0]) false (.region false [(.mk (some 2) (.mv (.lit (.c (.pv (.bool false))))) none .p)])) (.seq (.tr (rl [2]) false (.region
  false [(.mk (some 3) (.mv (.tmp 0)) none .p), (.mk (some 4) (.bin .geq (.tmp 3) (.lit (.c (.pv (.int .i32 (-50000)))))) none .p), (.mk (some 5) (.mv (.tmp 4))
  none .p), (.mk (some 6) (.mv (.tmp 0)) (some (5, true)) .p), (.mk (some 7) (.bin .leq (.tmp 6) (.lit (.c (.pv (.int .i32 50000))))) (some (5, true)) .p), (.mk
  (some 8) (.pick (.tmp 5) (.tmp 7) (.lit (.c (.pv (.bool false))))) none .p), (.mk (some 2) (.mv (.tmp 8)) none .p)])) (.tr (rl [2]) false .ret))))
theorem xf77_ok : cmpFunc Go.Proofs.Tryd.prog 77 ((.two (.tr (rl [0]) false .no) (.two (.tr (rl [2]) false .no) (.tr (rl [2]) false .no)))) = some xf77 := by kernel_rfl
def xf78 : XFunc :=
(.mk 11 [(.tmp 2)] (.seq (.tr (rl [1]) false (.region false [(.mk (some 1) (.box (.tmp 0) 3) none .w), (.mk (some 2) (.mv (.lit (.c (.pv (.bool false))))) none
  .p)])) (.seq (.tr (rl [2]) false (.region false [(.mk (some 3) (.faddr 0 (.tmp 1)) none .p), (.mk (some 4) (.load false 1 (.tmp 3)) none .r), (.mk (some 5)
  (.bin .lss (.tmp 4) (.lit (.c (.pv (.int .i64 1))))) none .p), (.mk (some 6) (.mv (.tmp 5)) none .p), (.mk (some 7) (.faddr 0 (.tmp 1)) (some (6, false)) .p),
  (.mk (some 8) (.load false 1 (.tmp 7)) (some (6, false)) .r), (.mk (some 9) (.bin .gtr (.tmp 8) (.lit (.c (.pv (.int .i64 999))))) (some (6, false)) .p), (.mk
  (some 10) (.pick (.tmp 6) (.lit (.c (.pv (.bool true)))) (.tmp 9)) none .p), (.mk (some 2) (.mv (.tmp 10)) none .p)])) (.tr (rl [2]) false .ret))))
theorem xf78_ok : cmpFunc Go.Proofs.Tryd.prog 78 ((.two (.tr (rl [1]) false .no) (.two (.tr (rl [2]) false .no) (.tr (rl [2]) false .no)))) = some xf78 := by kernel_rfl
def xf79 : XFunc :=
(.mk 8 [(.tmp 2)] (.seq (.tr (rl [1]) false (.region false [(.mk (some 1) (.box (.tmp 0) 3) none .w), (.mk (some 2) (.mv (.lit (.c (.pv (.bool false))))) none
  .p)])) (.seq (.tr (rl [2]) false (.region false [(.mk (some 3) (.faddr 1 (.tmp 1)) none .p), (.mk (some 4) (.faddr 0 (.tmp 3)) none .p), (.mk (some 5) (.load
  false 1 (.tmp 4)) none .r), (.mk (some 6) (.call false [] (.lit (.c (.fn 80 []))) [(.tmp 5)]) none .p), (.mk (some 7) (.bin .eql (.tmp 6) (.lit (.c (.pv (.str
  []))))) none .p), (.mk (some 2) (.mv (.tmp 7)) none .p)])) (.tr (rl [2]) false .ret))))
theorem xf79_ok : cmpFunc Go.Proofs.Tryd.prog 79 ((.two (.tr (rl [1]) false .no) (.two (.tr (rl [2]) false (.ops [{}, {}, {}, { cls := some .p }])) (.tr (rl [2]) false .no)))) = some xf79 := by kernel_rfl
def xf80 : XFunc :=
(.mk 10 [(.tmp 2)] (.seq (.tr (rl [0]) false (.region false [(.mk (some 2) (.mv (.lit (.c (.pv (.str []))))) none .p)])) (.seq (.seq (.tr (rl [0, 4]) false
  (.region false [(.mk (some 3) (.mv (.tmp 0)) none .p), (.mk (some 4) (.call false [] (.lit (.c (.fn 130 []))) [(.tmp 3)]) none .p), (.mk (some 5) (.un .not
  (.tmp 4)) none .p)])) (.tr (rl [0, 1]) false (.cond (.tmp 5) (.seq (.region false [(.mk (some 2) (.mv (.lit (.c (.pv (.str []))))) none .p)]) (.tr (rl [2])
  false .ret)) .skip))) (.seq (.tr (rl [2]) false (.region false [(.mk (some 6) (.mv (.tmp 0)) none .p), (.mk (some 7) (.iaddrA 4 3 (.lit (.c (.cptr [(.str [69,
  85, 82]), (.int .i64 2), (.int .i64 100), (.str [74, 80, 89]), (.int .i64 0), (.int .i64 1), (.str [66, 72, 68]), (.int .i64 3), (.int .i64 1000), (.str [85,
  83, 68]), (.int .i64 2), (.int .i64 100)] 0))) (.tmp 6)) none .p), (.mk (some 8) (.faddr 0 (.tmp 7)) none .p), (.mk (some 9) (.load false 1 (.tmp 8)) none
  .r), (.mk (some 2) (.mv (.tmp 9)) none .p)])) (.tr (rl [2]) false .ret)))))
theorem xf80_ok : cmpFunc Go.Proofs.Tryd.prog 80 ((.two (.tr (rl [0]) false .no) (.two (.two (.tr (rl [0, 4]) false (.ops [{}, { cls := some .p }])) (.tr (rl [0, 1]) false (.two (.two .no (.tr (rl [2]) false .no)) .no))) (.two (.tr (rl [2]) false .no) (.tr (rl [2]) false .no))))) = some xf80 := by kernel_rfl
def xf81 : XFunc :=
(.mk 7 [(.tmp 2)] (.seq (.tr (rl [1]) false (.region false [(.mk (some 1) (.box (.tmp 0) 3) none .w), (.mk (some 2) (.mv (.lit (.c (.pv (.bool false))))) none
  .p)])) (.seq (.tr (rl [2]) false (.region false [(.mk (some 3) (.faddr 1 (.tmp 1)) none .p), (.mk (some 4) (.load true 2 (.tmp 3)) none .r), (.mk (some 5)
  (.call false [] (.lit (.c (.fn 82 []))) [(.tmp 4)]) none .p), (.mk (some 6) (.un .not (.tmp 5)) none .p), (.mk (some 2) (.mv (.tmp 6)) none .p)])) (.tr (rl
  [2]) false .ret))))
theorem xf81_ok : cmpFunc Go.Proofs.Tryd.prog 81 ((.two (.tr (rl [1]) false .no) (.two (.tr (rl [2]) false (.ops [{}, {}, { cls := some .p }])) (.tr (rl [2]) false .no)))) = some xf81 := by kernel_rfl
def xf82 : XFunc :=
(.mk 16 [(.tmp 2)] (.seq (.tr (rl [1]) false (.region false [(.mk (some 1) (.box (.tmp 0) 2) none .w), (.mk (some 2) (.mv (.lit (.c (.pv (.bool false))))) none
  .p)])) (.seq (.tr (rl [2]) false (.region false [(.mk (some 3) (.faddr 0 (.tmp 1)) none .p), (.mk (some 4) (.load false 1 (.tmp 3)) none .r), (.mk (some 5)
  (.call false [] (.lit (.c (.fn 130 []))) [(.tmp 4)]) none .p), (.mk (some 6) (.mv (.tmp 5)) none .p), (.mk (some 7) (.faddr 1 (.tmp 1)) (some (6, true)) .p),
  (.mk (some 8) (.load false 1 (.tmp 7)) (some (6, true)) .r), (.mk (some 9) (.bin .geq (.tmp 8) (.lit (.c (.pv (.int .i64 (-1000000000000000)))))) (some (6,
  true)) .p), (.mk (some 10) (.pick (.tmp 6) (.tmp 9) (.lit (.c (.pv (.bool false))))) none .p), (.mk (some 11) (.mv (.tmp 10)) none .p), (.mk (some 12) (.faddr
  1 (.tmp 1)) (some (11, true)) .p), (.mk (some 13) (.load false 1 (.tmp 12)) (some (11, true)) .r), (.mk (some 14) (.bin .leq (.tmp 13) (.lit (.c (.pv (.int
  .i64 1000000000000000))))) (some (11, true)) .p), (.mk (some 15) (.pick (.tmp 11) (.tmp 14) (.lit (.c (.pv (.bool false))))) none .p), (.mk (some 2) (.mv
  (.tmp 15)) none .p)])) (.tr (rl [2]) false .ret))))
theorem xf82_ok : cmpFunc Go.Proofs.Tryd.prog 82 ((.two (.tr (rl [1]) false .no) (.two (.tr (rl [2]) false (.ops [{}, {}, { cls := some .p }])) (.tr (rl [2]) false .no)))) = some xf82 := by kernel_rfl
def xf83 : XFunc :=
(.mk 7 [(.tmp 2)] (.seq (.tr (rl [1]) false (.region false [(.mk (some 1) (.box (.tmp 0) 3) none .w), (.mk (some 2) (.mv (.lit (.c (.pv (.bool false))))) none
  .p)])) (.seq (.tr (rl [2]) false (.region false [(.mk (some 3) (.faddr 1 (.tmp 1)) none .p), (.mk (some 4) (.faddr 1 (.tmp 3)) none .p), (.mk (some 5) (.load
  false 1 (.tmp 4)) none .r), (.mk (some 6) (.bin .eql (.tmp 5) (.lit (.c (.pv (.int .i64 0))))) none .p), (.mk (some 2) (.mv (.tmp 6)) none .p)])) (.tr (rl
  [2]) false .ret))))
theorem xf83_ok : cmpFunc Go.Proofs.Tryd.prog 83 ((.two (.tr (rl [1]) false .no) (.two (.tr (rl [2]) false .no) (.tr (rl [2]) false .no)))) = some xf83 := by kernel_rfl
def xf84_l0 : XCode :=
(.seq (.region false [(.mk (some 9) (.bin .lss (.tmp 8) (.tmp 7)) none .p)]) (.seq (.tr (rl [3, 2, 0, 0]) false (.cond (.tmp 9) .skip (.tr (rl [3]) false (.exit
  0)))) (.seq (.tr (rl [3, 2, 0, 0]) false (.block 1 (.seq (.tr (rl [3, 1, 0, 0, 0]) false (.region false [(.mk (some 10) (.iaddrS 3 (.tmp 6) (.tmp 8)) none
  .p), (.mk (some 11) (.load true 3 (.tmp 10)) none .r), (.mk (some 5) (.alloc [(.pv (.int .i64 0)), (.pv (.int .i64 0)), (.pv (.int .i64 0))]) none .w), (.mk
  none (.store 3 (.tmp 5) (.tmp 11)) none .w)])) (.tr (rl [3, 2, 0, 0]) false (.region true [(.mk (some 12) (.faddr 1 (.tmp 5)) none .p), (.mk (some 13) (.faddr
  0 (.tmp 12)) none .p), (.mk (some 14) (.load false 1 (.tmp 13)) none .r), (.mk (some 15) (.iaddrA 4 1 (.tmp 3) (.tmp 14)) none .p), (.mk (some 16) (.load
  false 1 (.tmp 15)) none .r), (.mk (some 17) (.faddr 1 (.tmp 5)) none .p), (.mk (some 18) (.faddr 1 (.tmp 17)) none .p), (.mk (some 19) (.load false 1 (.tmp
  18)) none .r), (.mk (some 20) (.bin .add (.tmp 16) (.tmp 19)) none .p), (.mk (some 21) (.iaddrA 4 1 (.tmp 3) (.tmp 14)) none .p), (.mk none (.store 1 (.tmp
  21) (.tmp 20)) none .w)]))))) (.tr (rl [3, 2, 0, 0]) false (.region false [(.mk (some 22) (.bin .add (.tmp 8) (.lit (.c (.pv (.int .i64 1))))) none .p), (.mk
  (some 8) (.mv (.tmp 22)) none .p)])))))
def xf84 : XFunc :=
(.mk 26 [(.tmp 2)] (.seq (.tr (rl [0]) false (.region false [(.mk (some 2) (.mv (.lit (.c (.pv (.bool false))))) none .p)])) (.seq (.region false [(.mk (some 3)
  (.alloc [(.pv (.int .i64 0)), (.pv (.int .i64 0)), (.pv (.int .i64 0)), (.pv (.int .i64 0))]) none .w)]) (.seq (.seq (.tr (rl [3, 2, 0, 0]) false (.region
  false [(.mk (some 6) (.mv (.tmp 0)) none .p), (.mk (some 7) (.len (.tmp 6)) none .p), (.mk (some 8) (.mv (.lit (.c (.pv (.int .i64 0))))) none .p)])) (.tr (rl
  [3]) false (.block 0 (.loop (rl [3, 2, 0, 0]) xf84_l0)))) (.seq (.tr (rl [2]) false (.region false [(.mk (some 23) (.load true 4 (.tmp 3)) none .r), (.mk
  (some 24) (.build [(.pv (.int .i64 0)), (.pv (.int .i64 0)), (.pv (.int .i64 0)), (.pv (.int .i64 0))] []) none .p), (.mk (some 25) (.eqA false [0, 0, 0, 0]
  (.tmp 23) (.tmp 24)) none .p), (.mk (some 2) (.mv (.tmp 25)) none .p)])) (.tr (rl [2]) false .ret))))))
theorem xf84_ok : cmpFunc Go.Proofs.Tryd.prog 84 ((.two (.tr (rl [0]) false .no) (.two .no (.two (.two (.tr (rl [3, 2, 0, 0]) false .no) (.tr (rl [3]) false (.loop (rl [3, 2, 0, 0]) (.two .no (.two (.tr (rl [3, 2, 0, 0]) false (.two .no (.tr (rl [3]) false .no))) (.two (.tr (rl [3, 2, 0, 0]) false (.two (.tr (rl [3, 1, 0, 0, 0]) false .no) (.tr (rl [3, 2, 0, 0]) false (.draw [0, 1, 2, 3, 4, 5, 6, 7, 8, 9, 10] [])))) (.tr (rl [3, 2, 0, 0]) false .no))))))) (.two (.tr (rl [2]) false .no) (.tr (rl [2]) false .no)))))) = some xf84 := by kernel_rfl
def xf85 : XFunc :=
(.mk 8 [(.tmp 2)] (.seq (.tr (rl [0]) false (.region false [(.mk (some 2) (.mv (.lit (.c (.pv (.sl .nil 0 []))))) none .p)])) (.seq (.seq (.tr (rl [0, 3]) false
  (.region false [(.mk (some 3) (.mv (.tmp 0)) none .p), (.mk (some 4) (.eqN 0 false (.tmp 3) (.lit (.c (.pv (.sl .nil 0 []))))) none .p)])) (.tr (rl [0, 1])
  false (.cond (.tmp 4) (.seq (.region false [(.mk (some 2) (.mv (.lit (.c (.pv (.sl .nil 0 []))))) none .p)]) (.tr (rl [2]) false .ret)) .skip))) (.seq (.tr
  (rl [2]) false (.region false [(.mk (some 5) (.buildSl [(.pv (.int .i64 0)), (.pv (.int .i64 0)), (.pv (.int .i64 0))] 0 3 []) none .p), (.mk (some 6) (.mv
  (.tmp 0)) none .p), (.mk (some 7) (.app 3 24 (.tmp 5) (.tmp 6)) none .w), (.mk (some 2) (.mv (.tmp 7)) none .p)])) (.tr (rl [2]) false .ret)))))
theorem xf85_ok : cmpFunc Go.Proofs.Tryd.prog 85 ((.two (.tr (rl [0]) false .no) (.two (.two (.tr (rl [0, 3]) false .no) (.tr (rl [0, 1]) false (.two (.two .no (.tr (rl [2]) false .no)) .no))) (.two (.tr (rl [2]) false .no) (.tr (rl [2]) false .no))))) = some xf85 := by kernel_rfl
def xf87_l0 : XCode :=
(.seq (.region false [(.mk (some 19) (.bin .lss (.tmp 18) (.tmp 17)) none .p)]) (.seq (.tr (rl [1, 5, 8, 0, 0]) false (.cond (.tmp 19) .skip (.tr (rl [7]) false
  (.exit 0)))) (.seq (.tr (rl [1, 5, 8, 0, 0]) false (.block 1 (.seq (.tr (rl [1, 5, 1, 6, 0, 0]) false (.region false [(.mk (some 20) (.iaddrS 3 (.tmp 16)
  (.tmp 18)) none .p), (.mk (some 21) (.load true 3 (.tmp 20)) none .r), (.mk (some 9) (.alloc [(.pv (.int .i64 0)), (.pv (.int .i64 0)), (.pv (.int .i64 0))])
  none .w), (.mk none (.store 3 (.tmp 9) (.tmp 21)) none .w)])) (.seq (.tr (rl [1, 5, 1, 6, 0, 0, 5]) false (.region false [(.mk (some 22) (.mv (.tmp 1)) none
  .p), (.mk (some 23) (.load true 3 (.tmp 9)) none .r), (.mk (some 24) (.call false [] (.tmp 22) [(.tmp 23)]) none .w)])) (.tr (rl [1, 5, 8, 0, 0]) false (.cond
  (.tmp 24) (.tr (rl [1, 5, 8, 0, 0]) false (.region false [(.mk (some 25) (.mv (.tmp 7)) none .p), (.mk (some 26) (.faddr 1 (.tmp 9)) none .p), (.mk (some 27)
  (.faddr 1 (.tmp 26)) none .p), (.mk (some 28) (.load false 1 (.tmp 27)) none .r), (.mk (some 29) (.bin .add (.tmp 25) (.tmp 28)) none .p), (.mk (some 7) (.mv
  (.tmp 29)) none .p)])) .skip)))))) (.tr (rl [1, 5, 8, 0, 0]) false (.region false [(.mk (some 30) (.bin .add (.tmp 18) (.lit (.c (.pv (.int .i64 1))))) none
  .p), (.mk (some 18) (.mv (.tmp 30)) none .p)])))))
def xf87 : XFunc :=
(.mk 32 [(.tmp 4), (.tmp 5)] (.seq (.tr (rl [1, 0]) false (.region false [(.mk (some 2) (.box (.tmp 0) 7) none .w), (.mk (some 4) (.mv (.lit (.c (.pv (.int .i64
  0))))) none .p), (.mk (some 5) (.mv (.lit (.c (.pv (.int .i64 0))))) none .p)])) (.seq (.seq (.tr (rl [1, 0, 3]) false (.region false [(.mk (some 10) (.load
  true 7 (.tmp 2)) none .r), (.mk (some 11) (.call false [] (.lit (.c (.fn 37 []))) [(.tmp 10)]) none .p), (.mk (some 6) (.mv (.tmp 11)) none .p)])) (.seq (.tr
  (rl [1, 0, 3, 6]) false (.region false [(.mk (some 12) (.mv (.tmp 6)) none .p), (.mk (some 13) (.bin .neq (.tmp 12) (.lit (.c (.pv (.int .i64 0))))) none
  .p)])) (.tr (rl [1, 0, 1, 0]) false (.cond (.tmp 13) (.seq (.tr (rl [4, 0]) false (.region false [(.mk (some 14) (.mv (.tmp 6)) none .p), (.mk (some 4) (.mv
  (.lit (.c (.pv (.int .i64 0))))) none .p), (.mk (some 5) (.mv (.tmp 14)) none .p)])) (.tr (rl [4, 0]) false .ret)) .skip)))) (.seq (.region false [(.mk (some
  7) (.mv (.lit (.c (.pv (.int .i64 0))))) none .p)]) (.seq (.seq (.tr (rl [1, 5, 8, 0, 0]) false (.region false [(.mk (some 15) (.faddr 3 (.tmp 2)) none .p),
  (.mk (some 16) (.load false 1 (.tmp 15)) none .r), (.mk (some 17) (.len (.tmp 16)) none .p), (.mk (some 18) (.mv (.lit (.c (.pv (.int .i64 0))))) none .p)]))
  (.tr (rl [7]) false (.block 0 (.loop (rl [1, 5, 8, 0, 0]) xf87_l0)))) (.seq (.tr (rl [4, 0]) false (.region false [(.mk (some 31) (.mv (.tmp 7)) none .p),
  (.mk (some 4) (.mv (.tmp 31)) none .p), (.mk (some 5) (.mv (.lit (.c (.pv (.int .i64 0))))) none .p)])) (.tr (rl [4, 0]) false .ret)))))))
theorem xf87_ok : cmpFunc Go.Proofs.Tryd.prog 87 ((.two (.tr (rl [1, 0]) false .no) (.two (.two (.tr (rl [1, 0, 3]) false (.ops [{}, { cls := some .p }])) (.two (.tr (rl [1, 0, 3, 6]) false .no) (.tr (rl [1, 0, 1, 0]) false (.two (.two (.tr (rl [4, 0]) false .no) (.tr (rl [4, 0]) false .no)) .no)))) (.two .no (.two (.two (.tr (rl [1, 5, 8, 0, 0]) false .no) (.tr (rl [7]) false (.loop (rl [1, 5, 8, 0, 0]) (.two .no (.two (.tr (rl [1, 5, 8, 0, 0]) false (.two .no (.tr (rl [7]) false .no))) (.two (.tr (rl [1, 5, 8, 0, 0]) false (.two (.tr (rl [1, 5, 1, 6, 0, 0]) false .no) (.two (.tr (rl [1, 5, 1, 6, 0, 0, 5]) false .no) (.tr (rl [1, 5, 8, 0, 0]) false (.two (.tr (rl [1, 5, 8, 0, 0]) false .no) .no))))) (.tr (rl [1, 5, 8, 0, 0]) false .no))))))) (.two (.tr (rl [4, 0]) false .no) (.tr (rl [4, 0]) false .no))))))) = some xf87 := by kernel_rfl
def xf88 : XFunc :=
(.mk 16 [(.tmp 4)] (.seq (.tr (rl [1, 0, 0]) false (.region false [(.mk (some 3) (.box (.tmp 0) 3) none .w), (.mk (some 4) (.mv (.lit (.c (.pv (.bool false)))))
  none .p)])) (.seq (.tr (rl [4]) false (.region false [(.mk (some 5) (.faddr 0 (.tmp 3)) none .p), (.mk (some 6) (.load false 1 (.tmp 5)) none .r), (.mk (some
  7) (.load false 1 (.tmp 1)) none .r), (.mk (some 8) (.bin .eql (.tmp 6) (.tmp 7)) none .p), (.mk (some 9) (.mv (.tmp 8)) none .p), (.mk (some 10) (.faddr 1
  (.tmp 3)) (some (9, true)) .p), (.mk (some 11) (.faddr 0 (.tmp 10)) (some (9, true)) .p), (.mk (some 12) (.load false 1 (.tmp 11)) (some (9, true)) .r), (.mk
  (some 13) (.load false 1 (.tmp 2)) (some (9, true)) .r), (.mk (some 14) (.bin .eql (.tmp 12) (.tmp 13)) (some (9, true)) .p), (.mk (some 15) (.pick (.tmp 9)
  (.tmp 14) (.lit (.c (.pv (.bool false))))) none .p), (.mk (some 4) (.mv (.tmp 15)) none .p)])) (.tr (rl [4]) false .ret))))
theorem xf88_ok : cmpFunc Go.Proofs.Tryd.prog 88 ((.two (.tr (rl [1, 0, 0]) false .no) (.two (.tr (rl [4]) false .no) (.tr (rl [4]) false .no)))) = some xf88 := by kernel_rfl
def xf96_l0 : XCode :=
(.seq (.region false [(.mk (some 14) (.bin .lss (.tmp 13) (.tmp 12)) none .p)]) (.seq (.tr (rl [0, 0, 10, 0]) false (.cond (.tmp 14) .skip (.tr [] false (.exit
  0)))) (.seq (.tr (rl [0, 0, 2, 7, 0]) false (.block 1 (.seq (.tr (rl [0, 0, 3, 6, 0]) false (.region false [(.mk (some 15) (.mv (.tmp 13)) none .p), (.mk
  (some 5) (.mv (.tmp 15)) none .p)])) (.seq (.tr (rl [0, 0, 10, 0, 10]) false (.region true [(.mk (some 16) (.mv (.tmp 0)) none .p), (.mk (some 17) (.mv (.tmp
  5)) none .p), (.mk (some 18) (.iaddrS 3 (.tmp 16) (.tmp 17)) none .p), (.mk (some 19) (.load true 3 (.tmp 18)) none .r), (.mk (some 20) (.mv (.tmp 1)) none
  .p), (.mk (some 21) (.mv (.tmp 5)) none .p), (.mk (some 22) (.iaddrS 3 (.tmp 20) (.tmp 21)) none .p), (.mk (some 23) (.load true 3 (.tmp 22)) none .r), (.mk
  (some 24) (.eqA true [0, 0, 0] (.tmp 19) (.tmp 23)) none .p)])) (.tr (rl [0, 0, 2, 7, 0]) false (.cond (.tmp 24) (.seq (.region false [(.mk (some 4) (.mv
  (.lit (.c (.pv (.bool false))))) none .p)]) (.tr (rl [4]) false .ret)) .skip)))))) (.tr (rl [0, 0, 10, 0]) false (.region false [(.mk (some 25) (.bin .add
  (.tmp 13) (.lit (.c (.pv (.int .i64 1))))) none .p), (.mk (some 13) (.mv (.tmp 25)) none .p)])))))
def xf96 : XFunc :=
(.mk 26 [(.tmp 4)] (.seq (.tr (rl [0, 0]) false (.region false [(.mk (some 4) (.mv (.lit (.c (.pv (.bool false))))) none .p)])) (.seq (.seq (.tr (rl [0, 0, 8])
  false (.region false [(.mk (some 6) (.mv (.tmp 0)) none .p), (.mk (some 7) (.len (.tmp 6)) none .p), (.mk (some 8) (.mv (.tmp 1)) none .p), (.mk (some 9)
  (.len (.tmp 8)) none .p), (.mk (some 10) (.bin .neq (.tmp 7) (.tmp 9)) none .p)])) (.tr (rl [0, 0, 2]) false (.cond (.tmp 10) (.seq (.region false [(.mk (some
  4) (.mv (.lit (.c (.pv (.bool false))))) none .p)]) (.tr (rl [4]) false .ret)) .skip))) (.seq (.seq (.tr (rl [0, 0, 10, 0]) false (.region false [(.mk (some
  11) (.mv (.tmp 0)) none .p), (.mk (some 12) (.len (.tmp 11)) none .p), (.mk (some 13) (.mv (.lit (.c (.pv (.int .i64 0))))) none .p)])) (.tr (rl [4]) false
  (.block 0 (.loop (rl [0, 0, 10, 0]) xf96_l0)))) (.seq (.region false [(.mk (some 4) (.mv (.lit (.c (.pv (.bool true))))) none .p)]) (.tr (rl [4]) false
  .ret))))))
theorem xf96_ok : cmpFunc Go.Proofs.Tryd.prog 96 ((.two (.tr (rl [0, 0]) false .no) (.two (.two (.tr (rl [0, 0, 8]) false .no) (.tr (rl [0, 0, 2]) false (.two (.two .no (.tr (rl [4]) false .no)) .no))) (.two (.two (.tr (rl [0, 0, 10, 0]) false .no) (.tr (rl [4]) false (.loop (rl [0, 0, 10, 0]) (.two .no (.two (.tr (rl [0, 0, 10, 0]) false (.two .no (.tr [] false .no))) (.two (.tr (rl [0, 0, 2, 7, 0]) false (.two (.tr (rl [0, 0, 3, 6, 0]) false .no) (.two (.tr (rl [0, 0, 10, 0, 10]) false (.draw [0, 1, 2, 3, 4, 5, 6, 7, 8] [])) (.tr (rl [0, 0, 2, 7, 0]) false (.two (.two .no (.tr (rl [4]) false .no)) .no))))) (.tr (rl [0, 0, 10, 0]) false .no))))))) (.two .no (.tr (rl [4]) false .no)))))) = some xf96 := by kernel_rfl
def xf126 : XFunc :=
(.mk 17 [(.tmp 2)] (.seq (.tr (rl [1]) false (.region false [(.mk (some 1) (.box (.tmp 0) 2) none .w), (.mk (some 2) (.mv (.lit (.c (.pv (.bool false))))) none
  .p)])) (.seq (.tr (rl [2]) false (.region false [(.mk (some 3) (.faddr 0 (.tmp 1)) none .p), (.mk (some 4) (.load false 1 (.tmp 3)) none .r), (.mk (some 5)
  (.call false [] (.lit (.c (.fn 150 []))) [(.tmp 4)]) none .p), (.mk (some 6) (.bin .neq (.tmp 5) (.lit (.c (.pv (.str []))))) none .p), (.mk (some 7) (.mv
  (.tmp 6)) none .p), (.mk (some 8) (.faddr 1 (.tmp 1)) (some (7, true)) .p), (.mk (some 9) (.load false 1 (.tmp 8)) (some (7, true)) .r), (.mk (some 10) (.bin
  .geq (.tmp 9) (.lit (.c (.pv (.int .i64 (-1000000000000000)))))) (some (7, true)) .p), (.mk (some 11) (.pick (.tmp 7) (.tmp 10) (.lit (.c (.pv (.bool
  false))))) none .p), (.mk (some 12) (.mv (.tmp 11)) none .p), (.mk (some 13) (.faddr 1 (.tmp 1)) (some (12, true)) .p), (.mk (some 14) (.load false 1 (.tmp
  13)) (some (12, true)) .r), (.mk (some 15) (.bin .leq (.tmp 14) (.lit (.c (.pv (.int .i64 1000000000000000))))) (some (12, true)) .p), (.mk (some 16) (.pick
  (.tmp 12) (.tmp 15) (.lit (.c (.pv (.bool false))))) none .p), (.mk (some 2) (.mv (.tmp 16)) none .p)])) (.tr (rl [2]) false .ret))))
theorem xf126_ok : cmpFunc Go.Proofs.Tryd.prog 126 ((.two (.tr (rl [1]) false .no) (.two (.tr (rl [2]) false (.ops [{}, {}, { cls := some .p }])) (.tr (rl [2]) false .no)))) = some xf126 := by kernel_rfl
def xf127_l0 : XCode :=
(.seq (.region false [(.mk (some 9) (.bin .lss (.tmp 8) (.tmp 7)) none .p)]) (.seq (.tr (rl [0, 0, 5, 0]) false (.cond (.tmp 9) .skip (.tr [] false (.exit 0))))
  (.seq (.tr (rl [0, 0, 2, 2, 0]) false (.block 1 (.seq (.tr (rl [0, 0, 3, 1, 0]) false (.region false [(.mk (some 10) (.mv (.tmp 8)) none .p), (.mk (some 5)
  (.mv (.tmp 10)) none .p)])) (.seq (.tr (rl [0, 0, 3, 1, 0, 7]) false (.region false [(.mk (some 11) (.mv (.tmp 1)) none .p), (.mk (some 12) (.mv (.tmp 0))
  none .p), (.mk (some 13) (.mv (.tmp 5)) none .p), (.mk (some 14) (.iaddrS 3 (.tmp 12) (.tmp 13)) none .p), (.mk (some 15) (.load true 3 (.tmp 14)) none .r),
  (.mk (some 16) (.call false [] (.tmp 11) [(.tmp 15)]) none .w)])) (.tr (rl [0, 0, 2, 2, 0]) false (.cond (.tmp 16) (.seq (.tr (rl [4]) false (.region false
  [(.mk (some 17) (.mv (.tmp 5)) none .p), (.mk (some 4) (.mv (.tmp 17)) none .p)])) (.tr (rl [4]) false .ret)) .skip)))))) (.tr (rl [0, 0, 5, 0]) false
  (.region false [(.mk (some 18) (.bin .add (.tmp 8) (.lit (.c (.pv (.int .i64 1))))) none .p), (.mk (some 8) (.mv (.tmp 18)) none .p)])))))
def xf127 : XFunc :=
(.mk 19 [(.tmp 4)] (.seq (.tr (rl [0, 0]) false (.region false [(.mk (some 4) (.mv (.lit (.c (.pv (.int .i64 0))))) none .p)])) (.seq (.seq (.tr (rl [0, 0, 5,
  0]) false (.region false [(.mk (some 6) (.mv (.tmp 0)) none .p), (.mk (some 7) (.len (.tmp 6)) none .p), (.mk (some 8) (.mv (.lit (.c (.pv (.int .i64 0)))))
  none .p)])) (.tr (rl [4]) false (.block 0 (.loop (rl [0, 0, 5, 0]) xf127_l0)))) (.seq (.region false [(.mk (some 4) (.mv (.lit (.c (.pv (.int .i64 (-1))))))
  none .p)]) (.tr (rl [4]) false .ret)))))
theorem xf127_ok : cmpFunc Go.Proofs.Tryd.prog 127 ((.two (.tr (rl [0, 0]) false .no) (.two (.two (.tr (rl [0, 0, 5, 0]) false .no) (.tr (rl [4]) false (.loop (rl [0, 0, 5, 0]) (.two .no (.two (.tr (rl [0, 0, 5, 0]) false (.two .no (.tr [] false .no))) (.two (.tr (rl [0, 0, 2, 2, 0]) false (.two (.tr (rl [0, 0, 3, 1, 0]) false .no) (.two (.tr (rl [0, 0, 3, 1, 0, 7]) false .no) (.tr (rl [0, 0, 2, 2, 0]) false (.two (.two (.tr (rl [4]) false .no) (.tr (rl [4]) false .no)) .no))))) (.tr (rl [0, 0, 5, 0]) false .no))))))) (.two .no (.tr (rl [4]) false .no))))) = some xf127 := by kernel_rfl
def xf128 : XFunc :=
(.mk 9 [(.tmp 2)] (.seq (.tr (rl [0]) false (.region false [(.mk (some 2) (.mv (.lit (.c (.pv (.bool false))))) none .p)])) (.seq (.tr (rl [2]) false (.region
  false [(.mk (some 3) (.mv (.tmp 0)) none .p), (.mk (some 4) (.bin .lss (.tmp 3) (.lit (.c (.pv (.int .i32 32))))) none .p), (.mk (some 5) (.mv (.tmp 4)) none
  .p), (.mk (some 6) (.mv (.tmp 0)) (some (5, false)) .p), (.mk (some 7) (.bin .gtr (.tmp 6) (.lit (.c (.pv (.int .i32 126))))) (some (5, false)) .p), (.mk
  (some 8) (.pick (.tmp 5) (.lit (.c (.pv (.bool true)))) (.tmp 7)) none .p), (.mk (some 2) (.mv (.tmp 8)) none .p)])) (.tr (rl [2]) false .ret))))
theorem xf128_ok : cmpFunc Go.Proofs.Tryd.prog 128 ((.two (.tr (rl [0]) false .no) (.two (.tr (rl [2]) false .no) (.tr (rl [2]) false .no)))) = some xf128 := by kernel_rfl
def xf129 : XFunc :=
(.mk 9 [(.tmp 4)] (.seq (.tr (rl [0, 0]) false (.region false [(.mk (some 4) (.mv (.lit (.c (.pv (.bool false))))) none .p)])) (.seq (.tr (rl [4]) false
  (.region false [(.mk (some 5) (.mv (.tmp 0)) none .p), (.mk (some 6) (.mv (.tmp 1)) none .p), (.mk (some 7) (.call false [] (.lit (.c (.fn 151 []))) [(.tmp
  5), (.tmp 6)]) none .w), (.mk (some 8) (.bin .geq (.tmp 7) (.lit (.c (.pv (.int .i64 0))))) none .p), (.mk (some 4) (.mv (.tmp 8)) none .p)])) (.tr (rl [4])
  false .ret))))
theorem xf129_ok : cmpFunc Go.Proofs.Tryd.prog 129 ((.two (.tr (rl [0, 0]) false .no) (.two (.tr (rl [4]) false .no) (.tr (rl [4]) false .no)))) = some xf129 := by kernel_rfl
def xf130 : XFunc :=
(.mk 9 [(.tmp 2)] (.seq (.tr (rl [0]) false (.region false [(.mk (some 2) (.mv (.lit (.c (.pv (.bool false))))) none .p)])) (.seq (.tr (rl [2]) false (.region
  false [(.mk (some 3) (.mv (.tmp 0)) none .p), (.mk (some 4) (.bin .geq (.tmp 3) (.lit (.c (.pv (.int .i64 0))))) none .p), (.mk (some 5) (.mv (.tmp 4)) none
  .p), (.mk (some 6) (.mv (.tmp 0)) (some (5, true)) .p), (.mk (some 7) (.bin .lss (.tmp 6) (.lit (.c (.pv (.int .i64 4))))) (some (5, true)) .p), (.mk (some 8)
  (.pick (.tmp 5) (.tmp 7) (.lit (.c (.pv (.bool false))))) none .p), (.mk (some 2) (.mv (.tmp 8)) none .p)])) (.tr (rl [2]) false .ret))))
theorem xf130_ok : cmpFunc Go.Proofs.Tryd.prog 130 ((.two (.tr (rl [0]) false .no) (.two (.tr (rl [2]) false .no) (.tr (rl [2]) false .no)))) = some xf130 := by kernel_rfl
def xf150 : XFunc :=
(.mk 12 [(.tmp 2)] (.seq (.tr (rl [0]) false (.region false [(.mk (some 2) (.mv (.lit (.c (.pv (.str []))))) none .p)])) (.seq (.seq (.tr (rl [3]) false
  (.region false [(.mk (some 3) (.mv (.tmp 0)) none .p)])) (.tr (rl [2]) false (.block 0 (.seq (.tr (rl [3, 0]) false (.region false [(.mk (some 5) (.bin .eql
  (.tmp 3) (.lit (.c (.pv (.int .i64 0))))) none .p), (.mk (some 4) (.mv (.tmp 5)) none .p)])) (.tr (rl [2]) false (.cond (.tmp 4) (.seq (.region false [(.mk
  (some 2) (.mv (.lit (.c (.pv (.str [69, 85, 82]))))) none .p)]) (.tr (rl [2]) false .ret)) (.seq (.tr (rl [3, 2]) false (.region false [(.mk (some 7) (.bin
  .eql (.tmp 3) (.lit (.c (.pv (.int .i64 1))))) none .p), (.mk (some 6) (.mv (.tmp 7)) none .p)])) (.tr (rl [2]) false (.cond (.tmp 6) (.seq (.region false
  [(.mk (some 2) (.mv (.lit (.c (.pv (.str [74, 80, 89]))))) none .p)]) (.tr (rl [2]) false .ret)) (.seq (.tr (rl [3, 4]) false (.region false [(.mk (some 9)
  (.bin .eql (.tmp 3) (.lit (.c (.pv (.int .i64 2))))) none .p), (.mk (some 8) (.mv (.tmp 9)) none .p)])) (.tr (rl [2]) false (.cond (.tmp 8) (.seq (.region
  false [(.mk (some 2) (.mv (.lit (.c (.pv (.str [66, 72, 68]))))) none .p)]) (.tr (rl [2]) false .ret)) (.seq (.tr (rl [10]) false (.region false [(.mk (some
  11) (.bin .eql (.tmp 3) (.lit (.c (.pv (.int .i64 3))))) none .p), (.mk (some 10) (.mv (.tmp 11)) none .p)])) (.tr (rl [2]) false (.cond (.tmp 10) (.seq
  (.region false [(.mk (some 2) (.mv (.lit (.c (.pv (.str [85, 83, 68]))))) none .p)]) (.tr (rl [2]) false .ret)) .skip))))))))))))))) (.seq (.region false
  [(.mk (some 2) (.mv (.lit (.c (.pv (.str []))))) none .p)]) (.tr (rl [2]) false .ret)))))
theorem xf150_ok : cmpFunc Go.Proofs.Tryd.prog 150 ((.two (.tr (rl [0]) false .no) (.two (.two (.tr (rl [3]) false .no) (.tr (rl [2]) false (.two (.tr (rl [3, 0]) false .no) (.tr (rl [2]) false (.two (.two .no (.tr (rl [2]) false .no)) (.two (.tr (rl [3, 2]) false .no) (.tr (rl [2]) false (.two (.two .no (.tr (rl [2]) false .no)) (.two (.tr (rl [3, 4]) false .no) (.tr (rl [2]) false (.two (.two .no (.tr (rl [2]) false .no)) (.two (.tr (rl [10]) false .no) (.tr (rl [2]) false (.two (.two .no (.tr (rl [2]) false .no)) .no)))))))))))))) (.two .no (.tr (rl [2]) false .no))))) = some xf150 := by kernel_rfl
def xf151 : XFunc :=
(.mk 8 [(.tmp 4)] (.seq (.tr (rl [0, 0]) false (.region false [(.mk (some 4) (.mv (.lit (.c (.pv (.int .i64 0))))) none .p)])) (.seq (.tr (rl [4]) false
  (.region false [(.mk (some 5) (.mv (.tmp 0)) none .p), (.mk (some 6) (.mv (.tmp 1)) none .p), (.mk (some 7) (.call false [] (.lit (.c (.fn 154 []))) [(.tmp
  5), (.tmp 6), (.lit (.c (.pv (.bool true))))]) none .w), (.mk (some 4) (.mv (.tmp 7)) none .p)])) (.tr (rl [4]) false .ret))))
theorem xf151_ok : cmpFunc Go.Proofs.Tryd.prog 151 ((.two (.tr (rl [0, 0]) false .no) (.two (.tr (rl [4]) false .no) (.tr (rl [4]) false .no)))) = some xf151 := by kernel_rfl
def xf154_l0 : XCode :=
(.seq (.region false [(.mk (some 11) (.nxt (.tmp 10)) none .w), (.mk (some 12) (.extr 0 (.tmp 11)) none .p)]) (.seq (.tr (rl [1, 0, 7, 0]) false (.cond (.tmp
  12) .skip (.tr [] false (.exit 0)))) (.tr (rl [1, 0, 3, 3]) false (.block 1 (.seq (.tr (rl [1, 0, 4, 0, 1]) false (.region false [(.mk (some 13) (.extr 1
  (.tmp 11)) none .p), (.mk (some 14) (.extr 2 (.tmp 11)) none .p), (.mk (some 7) (.mv (.tmp 13)) none .p), (.mk (some 8) (.mv (.tmp 14)) none .p)])) (.seq (.tr
  (rl [1, 0, 4, 2, 8]) false (.region false [(.mk (some 15) (.mv (.tmp 1)) none .p), (.mk (some 16) (.mv (.tmp 8)) none .p), (.mk (some 17) (.call false []
  (.tmp 15) [(.tmp 16)]) none .w), (.mk (some 18) (.mv (.tmp 2)) none .p), (.mk (some 19) (.eqB false (.tmp 17) (.tmp 18)) none .p)])) (.tr (rl [1, 0, 3, 3])
  false (.cond (.tmp 19) (.seq (.tr (rl [6]) false (.region false [(.mk (some 20) (.mv (.tmp 7)) none .p), (.mk (some 6) (.mv (.tmp 20)) none .p)])) (.tr (rl
  [6]) false .ret)) .skip))))))))
def xf154 : XFunc :=
(.mk 21 [(.tmp 6)] (.seq (.tr (rl [0, 0, 0]) false (.region false [(.mk (some 6) (.mv (.lit (.c (.pv (.int .i64 0))))) none .p)])) (.seq (.seq (.tr (rl [1, 0,
  7]) false (.region false [(.mk (some 9) (.mv (.tmp 0)) none .p), (.mk (some 10) (.rng (.tmp 9)) none .w)])) (.tr (rl [6]) false (.block 0 (.loop (rl [1, 0,
  7]) xf154_l0)))) (.seq (.region false [(.mk (some 6) (.mv (.lit (.c (.pv (.int .i64 (-1)))))) none .p)]) (.tr (rl [6]) false .ret)))))
theorem xf154_ok : cmpFunc Go.Proofs.Tryd.prog 154 ((.two (.tr (rl [0, 0, 0]) false .no) (.two (.two (.tr (rl [1, 0, 7]) false .no) (.tr (rl [6]) false (.loop (rl [1, 0, 7]) (.two .no (.two (.tr (rl [1, 0, 7, 0]) false (.two .no (.tr [] false .no))) (.tr (rl [1, 0, 3, 3]) false (.two (.tr (rl [1, 0, 4, 0, 1]) false .no) (.two (.tr (rl [1, 0, 4, 2, 8]) false .no) (.tr (rl [1, 0, 3, 3]) false (.two (.two (.tr (rl [6]) false .no) (.tr (rl [6]) false .no)) .no)))))))))) (.two .no (.tr (rl [6]) false .no))))) = some xf154 := by kernel_rfl
end Go.Sx.Tryd
