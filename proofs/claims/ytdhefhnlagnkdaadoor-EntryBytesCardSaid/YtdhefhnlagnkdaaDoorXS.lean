/- Functions of the program in the evaluator's form, each checked by the kernel. Printed by genx.py. -/
import Derived.Test.YtdhefhnlagnkdaaDoorSxLem
import Derived.Test.YtdhefhnlagnkdaaDoorProg
import Derived.KernelRfl
namespace Go.Sx.Tryd
open Go Go.Sx
def xf13 : XFunc :=
(.mk 116 [(.tmp 4)] (.seq (.tr (rl [1, 0]) false (.region false [(oW 2 (.box (T 0) 7)), (oP 4 (.mv (.lit (.c (.pv (.bool false))))))])) (.seq (.seq (.tr (rl [1,
  0, 22]) false (.region false [(oR 18 (.load true 7 (T 2))), (oP 19 (.call false [] (.lit (.c (.fn 16 []))) [(T 18)])), (oP 20 (.un .not (T 19))), (oP 21 (.mv
  (T 20))), (.mk (some 22) (.mv (T 1)) (some (21, false)) .p), (.mk (some 23) (.lenS (T 22)) (some (21, false)) .p), (.mk (some 24) (.bin .gtr (T 23) (tI 400))
  (some (21, false)) .p), (oP 25 (.pick (T 21) (.lit (.c (.pv (.bool true)))) (T 24)))])) (.tr (rl [1, 0, 1]) false (.cond (T 25) (.seq (.tr (rl [4]) false
  (.region false [(oP 26 (.call false [] (.lit (.c (.fn 39 []))) [])), (oP 4 (.mv (T 26)))])) (.tr (rl [4]) false .ret)) .skip))) (.seq (.tr (rl [1, 0, 2, 0])
  false (.region false [(oR 28 (.load true 7 (T 2))), (oP 29 (.call false [] (.lit (.c (.fn 42 []))) [(T 28)])), (oP 27 (.mv (T 29))), (oP 30 (.extr 0 (T 27))),
  (oP 31 (.extr 1 (T 27))), (oP 5 (.mv (T 30))), (oP 6 (.mv (T 31)))])) (.seq (.seq (.tr (rl [1, 0, 2, 0, 30]) false (.region false [(oP 32 (.mv (T 6))), (oP 33
  (.bin .eql (T 32) (tI 0))), (oR 34 (.load true 7 (T 2))), (oP 35 (.call false [] (.lit (.c (.fn 37 []))) [(T 34)])), (oP 36 (.bin .eql (T 35) (tI 0))), (oP 37
  (.eqB true (T 33) (T 36)))])) (.tr (rl [1, 0, 1, 0, 0]) false (.cond (T 37) (.seq (.region false [(oP 4 (.mv (.lit (.c (.pv (.bool false))))))]) (.tr (rl [4])
  false .ret)) .skip))) (.seq (.seq (.tr (rl [1, 0, 2, 33]) false (.region false [(oP 38 (.mv (T 6))), (oP 39 (.bin .eql (T 38) (tI 0)))])) (.tr (rl [1, 2])
  false (.cond (T 39) (.seq (.tr (rl [1, 0, 2, 1, 0]) false (.region false [(oP 41 (.mv (T 5))), (oP 42 (.call false [] (.lit (.c (.fn 49 []))) [(T 41)])), (oP
  40 (.mv (T 42))), (oP 43 (.extr 0 (T 40))), (oP 44 (.extr 1 (T 40))), (oW 7 (.alloc [(.pv (.int .i64 0)), (.pv (.int .i32 0)), (.pv (.int .i32 0)), (.pv (.sl
  .nil 0 [])), (.pv (.int .i64 0)), (.pv (.int .i64 0)), (.pv (.str []))])), (sW (.store 7 (T 7) (T 43))), (oP 8 (.mv (T 44)))])) (.seq (.tr (rl [1, 3, 2, 0])
  false (.region false [(oR 45 (.load true 7 (T 2))), (oR 46 (.load true 7 (T 7))), (oP 47 (.call false [] (.lit (.c (.fn 44 []))) [(T 45), (T 46)])), (oP 9
  (.mv (T 47)))])) (.seq (.tr (rl [1, 3, 2, 0, 1]) false (.region false [(oP 49 (.mv (T 5))), (oP 50 (.mv (T 5))), (oP 51 (.lenS (T 50))), (oP 52 (.bin .sub (T
  51) (tI 1))), (oP 53 (.maxI [(tI 0), (T 52)])), (oP 54 (.sliceS (T 49) none (some (T 53)))), (oP 55 (.call false [] (.lit (.c (.fn 49 []))) [(T 54)])), (oP 48
  (.mv (T 55))), (oP 56 (.extr 0 (T 48))), (oP 57 (.extr 1 (T 48))), (oW 10 (.alloc [(.pv (.int .i64 0)), (.pv (.int .i32 0)), (.pv (.int .i32 0)), (.pv (.sl
  .nil 0 [])), (.pv (.int .i64 0)), (.pv (.int .i64 0)), (.pv (.str []))])), (sW (.store 7 (T 10) (T 56))), (oP 11 (.mv (T 57)))])) (.seq (.tr (rl [1, 3, 2, 0,
  1, 1]) false (.region false [(oP 59 (.mv (T 5))), (oP 60 (.bin .add (T 59) (.lit (.c (.pv (.str [97])))))), (oP 61 (.call false [] (.lit (.c (.fn 49 []))) [(T
  60)])), (oP 58 (.mv (T 61))), (oP 62 (.extr 0 (T 58))), (oP 63 (.extr 1 (T 58))), (oW 12 (.alloc [(.pv (.int .i64 0)), (.pv (.int .i32 0)), (.pv (.int .i32
  0)), (.pv (.sl .nil 0 [])), (.pv (.int .i64 0)), (.pv (.int .i64 0)), (.pv (.str []))])), (sW (.store 7 (T 12) (T 62))), (oP 13 (.mv (T 63)))])) (.seq (.tr
  (rl [1, 80]) false (.region false [(oP 64 (.mv (T 8))), (oP 65 (.bin .neq (T 64) (tI 0))), (oP 66 (.mv (T 65))), (.mk (some 67) (.mv (T 9)) (some (66, false))
  .p), (.mk (some 68) (.un .not (T 67)) (some (66, false)) .p), (oP 69 (.pick (T 66) (.lit (.c (.pv (.bool true)))) (T 68))), (oP 70 (.mv (T 69))), (.mk (some
  71) (.mv (T 11)) (some (70, false)) .p), (.mk (some 72) (.bin .eql (T 71) (tI 0)) (some (70, false)) .p), (oP 73 (.pick (T 70) (.lit (.c (.pv (.bool true))))
  (T 72))), (oP 74 (.mv (T 73))), (.mk (some 75) (.mv (T 13)) (some (74, false)) .p), (.mk (some 76) (.bin .eql (T 75) (tI 0)) (some (74, false)) .p), (oP 77
  (.pick (T 74) (.lit (.c (.pv (.bool true)))) (T 76))), (oP 78 (.mv (T 77))), (.mk (some 79) (.mv (T 5)) (some (78, false)) .p), (.mk (some 80) (.lenS (T 79))
  (some (78, false)) .p), (.mk (some 81) (.bin .eql (T 80) (tI 0)) (some (78, false)) .p), (oP 82 (.pick (T 78) (.lit (.c (.pv (.bool true)))) (T 81)))])) (.tr
  (rl [1, 2]) false (.cond (T 82) (.seq (.region false [(oP 4 (.mv (.lit (.c (.pv (.bool false))))))]) (.tr (rl [4]) false .ret)) .skip))))))) .skip))) (.seq
  (.tr (rl [1, 12, 0]) false (.region false [(oP 84 (.mv (T 1))), (oP 85 (.call false [] (.lit (.c (.fn 49 []))) [(T 84)])), (oP 83 (.mv (T 85))), (oP 86 (.extr
  0 (T 83))), (oP 87 (.extr 1 (T 83))), (oW 14 (.alloc [(.pv (.int .i64 0)), (.pv (.int .i32 0)), (.pv (.int .i32 0)), (.pv (.sl .nil 0 [])), (.pv (.int .i64
  0)), (.pv (.int .i64 0)), (.pv (.str []))])), (sW (.store 7 (T 14) (T 86))), (oP 15 (.mv (T 87)))])) (.seq (.seq (.tr (rl [1, 12, 74]) false (.region false
  [(oP 88 (.mv (T 15))), (oP 89 (.bin .neq (T 88) (tI 0)))])) (.tr (rl [1, 2, 9]) false (.cond (T 89) (.seq (.tr (rl [4]) false (.region false [(oP 90 (.call
  false [] (.lit (.c (.fn 39 []))) [])), (oP 91 (.mv (T 90))), (.mk (some 92) (.load true 7 (T 14)) (some (91, true)) .r), (.mk (some 93) (.build [(.pv (.int
  .i64 0)), (.pv (.int .i32 0)), (.pv (.int .i32 0)), (.pv (.sl .nil 0 [])), (.pv (.int .i64 0)), (.pv (.int .i64 0)), (.pv (.str []))] []) (some (91, true))
  .p), (.mk (some 94) (.call false [] (.lit (.c (.fn 44 []))) [(T 92), (T 93)]) (some (91, true)) .p), (oP 95 (.pick (T 91) (T 94) (.lit (.c (.pv (.bool
  false)))))), (oP 4 (.mv (T 95)))])) (.tr (rl [4]) false .ret)) .skip))) (.seq (.tr (rl [1, 12, 1, 0]) false (.region false [(oR 97 (.load true 7 (T 14))), (oP
  98 (.call false [] (.lit (.c (.fn 42 []))) [(T 97)])), (oP 96 (.mv (T 98))), (oP 99 (.extr 0 (T 96))), (oP 100 (.extr 1 (T 96))), (oP 16 (.mv (T 99))), (oP 17
  (.mv (T 100)))])) (.seq (.tr (rl [4]) false (.region false [(oP 101 (.call false [] (.lit (.c (.fn 39 []))) [])), (oP 102 (.mv (T 101))), (.mk (some 103) (.mv
  (T 17)) (some (102, true)) .p), (.mk (some 104) (.bin .eql (T 103) (tI 0)) (some (102, true)) .p), (oP 105 (.pick (T 102) (T 104) (.lit (.c (.pv (.bool
  false)))))), (oP 106 (.mv (T 105))), (.mk (some 107) (.mv (T 16)) (some (106, true)) .p), (.mk (some 108) (.mv (T 1)) (some (106, true)) .p), (.mk (some 109)
  (.bin .eql (T 107) (T 108)) (some (106, true)) .p), (oP 110 (.pick (T 106) (T 109) (.lit (.c (.pv (.bool false)))))), (oP 111 (.mv (T 110))), (.mk (some 112)
  (.load true 7 (T 14)) (some (111, true)) .r), (.mk (some 113) (.call false [] (.lit (.c (.fn 37 []))) [(T 112)]) (some (111, true)) .p), (.mk (some 114) (.bin
  .eql (T 113) (tI 0)) (some (111, true)) .p), (oP 115 (.pick (T 111) (T 114) (.lit (.c (.pv (.bool false)))))), (oP 4 (.mv (T 115)))])) (.tr (rl [4]) false
  .ret)))))))))))
theorem xf13_ok : cmpFunc Go.Proofs.Tryd.prog 13 ((.two (.tr (rl [1, 0]) false .no) (.two (.two (.tr (rl [1, 0, 22]) false (.ops [{}, { cls := some .p }])) (.tr (rl [1, 0, 1]) false (.two (.two (.tr (rl [4]) false (.ops [{ cls := some .p }])) (.tr (rl [4]) false .no)) .no))) (.two (.tr (rl [1, 0, 2, 0]) false (.ops [{}, { cls := some .p }])) (.two (.two (.tr (rl [1, 0, 2, 0, 30]) false (.ops [{}, {}, {}, { cls := some .p }])) (.tr (rl [1, 0, 1, 0, 0]) false (.two (.two .no (.tr (rl [4]) false .no)) .no))) (.two (.two (.tr (rl [1, 0, 2, 33]) false .no) (.tr (rl [1, 2]) false (.two (.two (.tr (rl [1, 0, 2, 1, 0]) false (.ops [{}, { cls := some .p }])) (.two (.tr (rl [1, 3, 2, 0]) false (.ops [{}, {}, { cls := some .p }])) (.two (.tr (rl [1, 3, 2, 0, 1]) false (.ops [{}, {}, {}, {}, {}, {}, { cls := some .p }])) (.two (.tr (rl [1, 3, 2, 0, 1, 1]) false (.ops [{}, {}, { cls := some .p }])) (.two (.tr (rl [1, 80]) false .no) (.tr (rl [1, 2]) false (.two (.two .no (.tr (rl [4]) false .no)) .no))))))) .no))) (.two (.tr (rl [1, 12, 0]) false (.ops [{}, { cls := some .p }])) (.two (.two (.tr (rl [1, 12, 74]) false .no) (.tr (rl [1, 2, 9]) false (.two (.two (.tr (rl [4]) false (.ops [{ cls := some .p }, {}, {}, {}, { cls := some .p }])) (.tr (rl [4]) false .no)) .no))) (.two (.tr (rl [1, 12, 1, 0]) false (.ops [{}, { cls := some .p }])) (.two (.tr (rl [4]) false (.ops [{ cls := some .p }, {}, {}, {}, {}, {}, {}, {}, {}, {}, {}, {}, { cls := some .p }])) (.tr (rl [4]) false .no))))))))))) = some xf13 := by kernel_rfl
def xf16 : XFunc :=
(.mk 13 [(.tmp 2)] (.seq (.tr (rl [1]) false (.region false [(oW 1 (.box (T 0) 7)), (oP 2 (.mv (.lit (.c (.pv (.bool false))))))])) (.seq (.tr (rl [2]) false
  (.region false [(oP 3 (.faddr 3 (T 1))), (oR 4 (.load false 1 (T 3))), (oP 5 (.len (T 4))), (oP 6 (.bin .leq (T 5) (tI 40))), (oP 7 (.mv (T 6))), (.mk (some
  8) (.faddr 6 (T 1)) (some (7, true)) .p), (.mk (some 9) (.load false 1 (T 8)) (some (7, true)) .r), (.mk (some 10) (.lenS (T 9)) (some (7, true)) .p), (.mk
  (some 11) (.bin .leq (T 10) (tI 400)) (some (7, true)) .p), (oP 12 (.pick (T 7) (T 11) (.lit (.c (.pv (.bool false)))))), (oP 2 (.mv (T 12)))])) (.tr (rl [2])
  false .ret))))
theorem xf16_ok : cmpFunc Go.Proofs.Tryd.prog 16 ((.two (.tr (rl [1]) false .no) (.two (.tr (rl [2]) false .no) (.tr (rl [2]) false .no)))) = some xf16 := by kernel_rfl
def xf37 : XFunc :=
(.mk 47 [(.tmp 2)] (.seq (.tr (rl [1]) false (.region false [(oW 1 (.box (T 0) 7)), (oP 2 (.mv (tI 0)))])) (.seq (.tr (rl [1, 1]) false (.region false [(oP 4
  (.mkfn 74 [(T 1)])), (oP 3 (.mv (T 4)))])) (.seq (.tr (rl [2]) false (.block 0 (.seq (.tr (rl [1, 1, 1]) false (.region false [(oR 6 (.load true 7 (T 1))),
  (oP 7 (.call false [] (.lit (.c (.fn 76 []))) [(T 6)])), (oP 8 (.un .not (T 7))), (oP 5 (.mv (T 8)))])) (.tr (rl [2]) false (.cond (T 5) (.seq (.region false
  [(oP 2 (.mv (tI 1)))]) (.tr (rl [2]) false .ret)) (.seq (.tr (rl [1, 1, 5]) false (.region false [(oP 10 (.faddr 1 (T 1))), (oR 11 (.load false 1 (T 10))),
  (oP 12 (.call false [] (.lit (.c (.fn 77 []))) [(T 11)])), (oP 13 (.un .not (T 12))), (oP 14 (.mv (T 13))), (.mk (some 15) (.faddr 2 (T 1)) (some (14, false))
  .p), (.mk (some 16) (.load false 1 (T 15)) (some (14, false)) .r), (.mk (some 17) (.call false [] (.lit (.c (.fn 77 []))) [(T 16)]) (some (14, false)) .p),
  (.mk (some 18) (.un .not (T 17)) (some (14, false)) .p), (oP 19 (.pick (T 14) (.lit (.c (.pv (.bool true)))) (T 18))), (oP 9 (.mv (T 19)))])) (.tr (rl [2])
  false (.cond (T 9) (.seq (.region false [(oP 2 (.mv (tI 11)))]) (.tr (rl [2]) false .ret)) (.seq (.tr (rl [1, 1, 16]) false (.region false [(oP 21 (.faddr 3
  (T 1))), (oR 22 (.load false 1 (T 21))), (oP 23 (.len (T 22))), (oP 24 (.bin .lss (T 23) (tI 2))), (oP 20 (.mv (T 24)))])) (.tr (rl [2]) false (.cond (T 20)
  (.seq (.region false [(oP 2 (.mv (tI 2)))]) (.tr (rl [2]) false .ret)) (.seq (.tr (rl [1, 1, 21]) false (.region false [(oP 26 (.faddr 3 (T 1))), (oR 27
  (.load false 1 (T 26))), (oP 28 (.len (T 27))), (oP 29 (.bin .gtr (T 28) (tI 16))), (oP 25 (.mv (T 29)))])) (.tr (rl [2]) false (.cond (T 25) (.seq (.region
  false [(oP 2 (.mv (tI 4)))]) (.tr (rl [2]) false .ret)) (.seq (.tr (rl [1, 1, 26]) false (.region false [(oP 31 (.mv (T 3))), (oW 32 (.call false [] (T 31)
  [(.lit (.c (.fn 78 [])))])), (oP 30 (.mv (T 32)))])) (.tr (rl [2]) false (.cond (T 30) (.seq (.region false [(oP 2 (.mv (tI 8)))]) (.tr (rl [2]) false .ret))
  (.seq (.tr (rl [1, 1, 29]) false (.region false [(oP 34 (.mv (T 3))), (oW 35 (.call false [] (T 34) [(.lit (.c (.fn 79 [])))])), (oP 33 (.mv (T 35)))])) (.tr
  (rl [2]) false (.cond (T 33) (.seq (.region false [(oP 2 (.mv (tI 12)))]) (.tr (rl [2]) false .ret)) (.seq (.tr (rl [1, 1, 32]) false (.region false [(oP 37
  (.mv (T 3))), (oW 38 (.call false [] (T 37) [(.lit (.c (.fn 81 [])))])), (oP 36 (.mv (T 38)))])) (.tr (rl [2]) false (.cond (T 36) (.seq (.region false [(oP 2
  (.mv (tI 9)))]) (.tr (rl [2]) false .ret)) (.seq (.tr (rl [1, 37]) false (.region false [(oP 40 (.mv (T 3))), (oW 41 (.call false [] (T 40) [(.lit (.c (.fn 83
  [])))])), (oP 39 (.mv (T 41)))])) (.tr (rl [2]) false (.cond (T 39) (.seq (.region false [(oP 2 (.mv (tI 10)))]) (.tr (rl [2]) false .ret)) (.seq (.tr (rl
  [42]) false (.region false [(oP 43 (.faddr 3 (T 1))), (oR 44 (.load false 1 (T 43))), (oP 45 (.call false [] (.lit (.c (.fn 84 []))) [(T 44)])), (oP 46 (.un
  .not (T 45))), (oP 42 (.mv (T 46)))])) (.tr (rl [2]) false (.cond (T 42) (.seq (.region false [(oP 2 (.mv (tI 15)))]) (.tr (rl [2]) false .ret))
  .skip))))))))))))))))))))))))))))) (.seq (.region false [(oP 2 (.mv (tI 0)))]) (.tr (rl [2]) false .ret))))))
theorem xf37_ok : cmpFunc Go.Proofs.Tryd.prog 37 ((.two (.tr (rl [1]) false .no) (.two (.tr (rl [1, 1]) false .no) (.two (.tr (rl [2]) false (.two (.tr (rl [1, 1, 1]) false (.ops [{}, { cls := some .p }])) (.tr (rl [2]) false (.two (.two .no (.tr (rl [2]) false .no)) (.two (.tr (rl [1, 1, 5]) false (.ops [{}, {}, { cls := some .p }, {}, {}, {}, {}, { cls := some .p }])) (.tr (rl [2]) false (.two (.two .no (.tr (rl [2]) false .no)) (.two (.tr (rl [1, 1, 16]) false .no) (.tr (rl [2]) false (.two (.two .no (.tr (rl [2]) false .no)) (.two (.tr (rl [1, 1, 21]) false .no) (.tr (rl [2]) false (.two (.two .no (.tr (rl [2]) false .no)) (.two (.tr (rl [1, 1, 26]) false .no) (.tr (rl [2]) false (.two (.two .no (.tr (rl [2]) false .no)) (.two (.tr (rl [1, 1, 29]) false .no) (.tr (rl [2]) false (.two (.two .no (.tr (rl [2]) false .no)) (.two (.tr (rl [1, 1, 32]) false .no) (.tr (rl [2]) false (.two (.two .no (.tr (rl [2]) false .no)) (.two (.tr (rl [1, 37]) false .no) (.tr (rl [2]) false (.two (.two .no (.tr (rl [2]) false .no)) (.two (.tr (rl [42]) false (.ops [{}, {}, { cls := some .p }])) (.tr (rl [2]) false (.two (.two .no (.tr (rl [2]) false .no)) .no)))))))))))))))))))))))))))) (.two .no (.tr (rl [2]) false .no)))))) = some xf37 := by kernel_rfl
def xf38_l0 : XCode :=
(.seq (.region false [(oP 45 (.bin .lss (T 44) (T 43)))]) (.seq (.tr (rl [6, 2, 33, 0]) false (.cond (T 45) .skip (.tr (rl [6, 2]) false (.exit 0)))) (.seq (.tr
  (rl [6, 2, 33, 0]) false (.block 1 (.seq (.tr (rl [6, 2, 0, 32, 0]) false (.region false [(oP 46 (.mv (T 44))), (oP 10 (.mv (T 46)))])) (.tr (rl [6, 2, 33,
  0]) false (.region true [(oP 47 (.faddr 3 (T 9))), (oR 48 (.load false 1 (T 47))), (oP 49 (.mv (T 10))), (oP 50 (.faddr 3 (T 9))), (oR 51 (.load false 1 (T
  50))), (oP 52 (.mv (T 10))), (oP 53 (.iaddrS 3 (T 51) (T 52))), (oP 54 (.faddr 1 (T 53))), (oP 55 (.faddr 1 (T 54))), (oR 56 (.load false 1 (T 55))), (oP 57
  (.un .neg (T 56))), (oP 58 (.iaddrS 3 (T 48) (T 49))), (oP 59 (.faddr 1 (T 58))), (oP 60 (.faddr 1 (T 59))), (sW (.store 1 (T 60) (T 57)))]))))) (.tr (rl [6,
  2, 33, 0]) false (.region false [(oP 61 (.bin .add (T 44) (tI 1))), (oP 44 (.mv (T 61)))])))))
def xf38 : XFunc :=
(.mk 69 [(.cell 6 true 7), (.tmp 7)] (.seq (.tr (rl [1, 0, 0, 2]) false (.region false [(oW 3 (.box (T 0) 7)), (oW 6 (.alloc [(.pv (.int .i64 0)), (.pv (.int
  .i32 0)), (.pv (.int .i32 0)), (.pv (.sl .nil 0 [])), (.pv (.int .i64 0)), (.pv (.int .i64 0)), (.pv (.str []))])), (oP 7 (.mv (tI 0)))])) (.seq (.seq (.tr
  (rl [1, 0, 0, 2, 1]) false (.region false [(oR 12 (.load true 7 (T 3))), (oP 13 (.call false [] (.lit (.c (.fn 37 []))) [(T 12)])), (oP 8 (.mv (T 13)))]))
  (.seq (.tr (rl [1, 0, 0, 2, 1, 6]) false (.region false [(oP 14 (.mv (T 8))), (oP 15 (.bin .neq (T 14) (tI 0)))])) (.tr (rl [1, 0, 0, 2, 0]) false (.cond (T
  15) (.seq (.tr (rl [6, 0]) false (.region false [(oP 16 (.build [(.pv (.int .i64 0)), (.pv (.int .i32 0)), (.pv (.int .i32 0)), (.pv (.sl .nil 0 [])), (.pv
  (.int .i64 0)), (.pv (.int .i64 0)), (.pv (.str []))] [])), (oP 17 (.mv (T 8))), (sW (.store 7 (T 6) (T 16))), (oP 7 (.mv (T 17)))])) (.tr (rl [6, 0]) false
  .ret)) .skip)))) (.seq (.seq (.tr (rl [1, 0, 0, 2, 20]) false (.region false [(oP 18 (.mv (T 1))), (oP 19 (.faddr 0 (T 3))), (oR 20 (.load false 1 (T 19))),
  (oP 21 (.bin .leq (T 18) (T 20))), (oP 22 (.mv (T 21))), (.mk (some 23) (.mv (T 2)) (some (22, false)) .p), (.mk (some 24) (.faddr 1 (T 3)) (some (22, false))
  .p), (.mk (some 25) (.load false 1 (T 24)) (some (22, false)) .r), (.mk (some 26) (.bin .lss (T 23) (T 25)) (some (22, false)) .p), (oP 27 (.pick (T 22) (.lit
  (.c (.pv (.bool true)))) (T 26)))])) (.tr (rl [1, 0, 0, 2, 0]) false (.cond (T 27) (.seq (.tr (rl [6, 0]) false (.region false [(oP 28 (.build [(.pv (.int
  .i64 0)), (.pv (.int .i32 0)), (.pv (.int .i32 0)), (.pv (.sl .nil 0 [])), (.pv (.int .i64 0)), (.pv (.int .i64 0)), (.pv (.str []))] [])), (sW (.store 7 (T
  6) (T 28))), (oP 7 (.mv (tI 20)))])) (.tr (rl [6, 0]) false .ret)) .skip))) (.seq (.tr (rl [1, 0, 0, 2, 2]) false (.region false [(oR 29 (.load true 7 (T
  3))), (oW 9 (.alloc [(.pv (.int .i64 0)), (.pv (.int .i32 0)), (.pv (.int .i32 0)), (.pv (.sl .nil 0 [])), (.pv (.int .i64 0)), (.pv (.int .i64 0)), (.pv
  (.str []))])), (sW (.store 7 (T 9) (T 29)))])) (.seq (.tr (rl [6, 2]) false (.region true [(oP 30 (.mv (T 1))), (oP 31 (.mv (T 2))), (oP 32 (.faddr 0 (T 3))),
  (oR 33 (.loadR false 1 (T 32) (T 3))), (oP 34 (.faddr 3 (T 3))), (oR 35 (.load false 1 (T 34))), (oP 37 (.faddr 0 (T 9))), (oW 36 (.callM (.lit (.c (.fn 85
  []))) [(T 35)])), (sW (.storeO 1 (T 37) (T 30) (T 3))), (oP 38 (.faddr 1 (T 9))), (sW (.storeO 1 (T 38) (T 31) (T 3))), (oP 39 (.faddr 4 (T 9))), (sW (.store
  1 (T 39) (T 33))), (oP 40 (.faddr 3 (T 9))), (sW (.store 1 (T 40) (T 36)))])) (.seq (.seq (.tr (rl [6, 2, 33, 0]) false (.region false [(oP 41 (.faddr 3 (T
  9))), (oR 42 (.load false 1 (T 41))), (oP 43 (.len (T 42))), (oP 44 (.mv (tI 0)))])) (.tr (rl [6, 2]) false (.block 0 (.loop (rl [6, 2, 33, 0]) xf38_l0))))
  (.seq (.seq (.tr (rl [6, 2, 1]) false (.region false [(oR 62 (.load true 7 (T 9))), (oW 63 (.call true [] (.lit (.c (.fn 37 []))) [(T 62)])), (oP 11 (.mv (T
  63)))])) (.seq (.tr (rl [6, 2, 1, 53]) false (.region false [(oP 64 (.mv (T 11))), (oP 65 (.bin .neq (T 64) (tI 0)))])) (.tr (rl [6, 0, 1]) false (.cond (T
  65) (.seq (.tr (rl [6, 0]) false (.region false [(oP 66 (.build [(.pv (.int .i64 0)), (.pv (.int .i32 0)), (.pv (.int .i32 0)), (.pv (.sl .nil 0 [])), (.pv
  (.int .i64 0)), (.pv (.int .i64 0)), (.pv (.str []))] [])), (oP 67 (.mv (T 11))), (sW (.store 7 (T 6) (T 66))), (oP 7 (.mv (T 67)))])) (.tr (rl [6, 0]) false
  .ret)) .skip)))) (.seq (.tr (rl [6, 0]) false (.region false [(oR 68 (.load true 7 (T 9))), (sW (.store 7 (T 6) (T 68))), (oP 7 (.mv (tI 0)))])) (.tr (rl [6,
  0]) false .ret))))))))))
theorem xf38_ok : cmpFunc Go.Proofs.Tryd.prog 38 ((.two (.tr (rl [1, 0, 0, 2]) false .no) (.two (.two (.tr (rl [1, 0, 0, 2, 1]) false (.ops [{}, { cls := some .p }])) (.two (.tr (rl [1, 0, 0, 2, 1, 6]) false .no) (.tr (rl [1, 0, 0, 2, 0]) false (.two (.two (.tr (rl [6, 0]) false .no) (.tr (rl [6, 0]) false .no)) .no)))) (.two (.two (.tr (rl [1, 0, 0, 2, 20]) false .no) (.tr (rl [1, 0, 0, 2, 0]) false (.two (.two (.tr (rl [6, 0]) false .no) (.tr (rl [6, 0]) false .no)) .no))) (.two (.tr (rl [1, 0, 0, 2, 2]) false .no) (.two (.tr (rl [6, 2]) false (.draw [0, 1, 2, 3, 4, 5, 7, 6, 8, 9, 10, 11, 12, 13, 14] [{}, {}, {}, { root := some 3 }, {}, {}, { own := true }, {}, { root := some 3 }, {}, { root := some 3 }])) (.two (.two (.tr (rl [6, 2, 33, 0]) false .no) (.tr (rl [6, 2]) false (.loop (rl [6, 2, 33, 0]) (.two .no (.two (.tr (rl [6, 2, 33, 0]) false (.two .no (.tr (rl [6, 2]) false .no))) (.two (.tr (rl [6, 2, 33, 0]) false (.two (.tr (rl [6, 2, 0, 32, 0]) false .no) (.tr (rl [6, 2, 33, 0]) false (.draw [0, 1, 2, 3, 4, 5, 6, 7, 8, 9, 10, 11, 12, 13, 14] [])))) (.tr (rl [6, 2, 33, 0]) false .no))))))) (.two (.two (.tr (rl [6, 2, 1]) false (.ops [{}, { fz := true }])) (.two (.tr (rl [6, 2, 1, 53]) false .no) (.tr (rl [6, 0, 1]) false (.two (.two (.tr (rl [6, 0]) false .no) (.tr (rl [6, 0]) false .no)) .no)))) (.two (.tr (rl [6, 0]) false .no) (.tr (rl [6, 0]) false .no)))))))))) = some xf38 := by kernel_rfl
def xf39 : XFunc :=
(.mk 160 [(.tmp 0)] (.seq (.tr [] false (.region false [(oP 0 (.mv (.lit (.c (.pv (.bool false))))))])) (.seq (.tr (rl [1]) false (.region false [(oP 18 (.call
  false [] (.lit (.c (.fn 86 []))) [])), (oW 1 (.alloc [(.pv (.int .i64 0)), (.pv (.int .i32 0)), (.pv (.int .i32 0)), (.pv (.sl .nil 0 [])), (.pv (.int .i64
  0)), (.pv (.int .i64 0)), (.pv (.str []))])), (sW (.store 7 (T 1) (T 18)))])) (.seq (.tr (rl [1, 0, 0]) false (.region false [(oR 20 (.load true 7 (T 1))),
  (oP 21 (.call false [] (.lit (.c (.fn 38 []))) [(T 20), (tI 9), (.lit (.c (.pv (.int .i32 10))))])), (oP 19 (.mv (T 21))), (oP 22 (.extr 0 (T 19))), (oP 23
  (.extr 1 (T 19))), (oW 2 (.alloc [(.pv (.int .i64 0)), (.pv (.int .i32 0)), (.pv (.int .i32 0)), (.pv (.sl .nil 0 [])), (.pv (.int .i64 0)), (.pv (.int .i64
  0)), (.pv (.str []))])), (sW (.store 7 (T 2) (T 22))), (oP 3 (.mv (T 23)))])) (.seq (.tr (rl [1, 0, 0, 0, 0]) false (.region false [(oR 25 (.load true 7 (T
  1))), (oP 26 (.call false [] (.lit (.c (.fn 40 []))) [(T 25), (tI 2), (tI 0)])), (oP 24 (.mv (T 26))), (oP 27 (.extr 0 (T 24))), (oP 28 (.extr 1 (T 24))), (oP
  4 (.mv (T 27))), (oP 5 (.mv (T 28)))])) (.seq (.tr (rl [1, 0, 0, 0, 0, 0, 0]) false (.region false [(oR 30 (.load true 7 (T 1))), (oP 31 (.call false [] (.lit
  (.c (.fn 41 []))) [(T 30), (tI 0)])), (oP 29 (.mv (T 31))), (oP 32 (.extr 0 (T 29))), (oP 33 (.extr 1 (T 29))), (oP 6 (.mv (T 32))), (oP 7 (.mv (T 33)))]))
  (.seq (.tr (rl [1, 0, 0, 0, 0, 0, 0, 0, 0]) false (.region false [(oR 35 (.load true 7 (T 1))), (oP 36 (.call false [] (.lit (.c (.fn 42 []))) [(T 35)])), (oP
  34 (.mv (T 36))), (oP 37 (.extr 0 (T 34))), (oP 38 (.extr 1 (T 34))), (oP 8 (.mv (T 37))), (oP 9 (.mv (T 38)))])) (.seq (.tr (rl [1, 0, 0, 0, 0, 0, 0, 0, 0,
  0, 0]) false (.region false [(oP 40 (.mv (T 8))), (oP 41 (.call false [] (.lit (.c (.fn 49 []))) [(T 40)])), (oP 39 (.mv (T 41))), (oP 42 (.extr 0 (T 39))),
  (oP 43 (.extr 1 (T 39))), (oW 10 (.alloc [(.pv (.int .i64 0)), (.pv (.int .i32 0)), (.pv (.int .i32 0)), (.pv (.sl .nil 0 [])), (.pv (.int .i64 0)), (.pv
  (.int .i64 0)), (.pv (.str []))])), (sW (.store 7 (T 10) (T 42))), (oP 11 (.mv (T 43)))])) (.seq (.tr (rl [1, 0, 0, 0, 0, 0, 0, 0, 0, 0, 0, 1]) false (.region
  false [(oR 45 (.load true 7 (T 1))), (oP 46 (.call false [] (.lit (.c (.fn 38 []))) [(T 45), (tI 7), (.lit (.c (.pv (.int .i32 10))))])), (oP 44 (.mv (T
  46))), (oP 47 (.extr 0 (T 44))), (oP 48 (.extr 1 (T 44))), (oW 12 (.alloc [(.pv (.int .i64 0)), (.pv (.int .i32 0)), (.pv (.int .i32 0)), (.pv (.sl .nil 0
  [])), (.pv (.int .i64 0)), (.pv (.int .i64 0)), (.pv (.str []))])), (sW (.store 7 (T 12) (T 47))), (oP 13 (.mv (T 48)))])) (.seq (.tr (rl [1, 0, 0, 0, 0, 0,
  0, 1, 0, 0, 1, 1]) false (.region false [(oP 50 (.mv (T 8))), (oP 51 (.bin .add (T 50) (.lit (.c (.pv (.str [97])))))), (oP 52 (.call false [] (.lit (.c (.fn
  49 []))) [(T 51)])), (oP 49 (.mv (T 52))), (oP 53 (.extr 0 (T 49))), (oP 54 (.extr 1 (T 49))), (oW 14 (.alloc [(.pv (.int .i64 0)), (.pv (.int .i32 0)), (.pv
  (.int .i32 0)), (.pv (.sl .nil 0 [])), (.pv (.int .i64 0)), (.pv (.int .i64 0)), (.pv (.str []))])), (sW (.store 7 (T 14) (T 53))), (oP 15 (.mv (T 54)))]))
  (.seq (.tr (rl [1, 0, 0, 0, 0, 0, 0, 1, 0, 0, 1, 1, 0, 0]) false (.region false [(oR 56 (.load true 7 (T 2))), (oP 57 (.call false [] (.lit (.c (.fn 40 [])))
  [(T 56), (tI 2), (tI 0)])), (oP 55 (.mv (T 57))), (oP 58 (.extr 0 (T 55))), (oP 59 (.extr 1 (T 55))), (oP 16 (.mv (T 58))), (oP 17 (.mv (T 59)))])) (.seq (.tr
  (rl [1, 0, 0, 0, 0, 0, 0, 1, 0, 0, 1, 1, 0, 0]) false (.region false [(oP 60 (.faddr 3 (T 1))), (oR 61 (.load false 1 (T 60))), (oP 62 (.sliceV 3 (T 61) none
  (some (tI 4)) none)), (oP 63 (.faddr 3 (T 1))), (sW (.store 1 (T 63) (T 62)))])) (.seq (.seq (.tr (rl [1, 0, 0, 0, 0, 0, 0, 1, 0, 0, 1, 1, 0, 0, 49]) false
  (.region false [(oP 64 (.faddr 3 (T 2))), (oR 65 (.load false 1 (T 64))), (oP 66 (.len (T 65))), (oP 67 (.bin .neq (T 66) (tI 5)))])) (.tr (rl [0, 0, 0, 0, 0,
  0, 0, 0, 1, 0, 0, 1, 1, 0, 0]) false (.cond (T 67) (.seq (.region false [(oP 0 (.mv (.lit (.c (.pv (.bool false))))))]) (.tr (rl [0]) false .ret)) .skip)))
  (.seq (.tr (rl [0]) false (.region true [(oP 68 (.mv (T 3))), (oP 69 (.bin .eql (T 68) (tI 0))), (oP 70 (.mv (T 69))), (.mk (some 71) (.faddr 0 (T 2)) (some
  (70, true)) .p), (.mk (some 72) (.load false 1 (T 71)) (some (70, true)) .r), (.mk (some 73) (.bin .eql (T 72) (tI 9)) (some (70, true)) .p), (oP 74 (.pick (T
  70) (T 73) (.lit (.c (.pv (.bool false)))))), (oP 75 (.mv (T 74))), (.mk (some 76) (.faddr 4 (T 2)) (some (75, true)) .p), (.mk (some 77) (.load false 1 (T
  76)) (some (75, true)) .r), (.mk (some 78) (.bin .eql (T 77) (tI 7)) (some (75, true)) .p), (oP 79 (.pick (T 75) (T 78) (.lit (.c (.pv (.bool false)))))), (oP
  80 (.mv (T 79))), (.mk (some 81) (.faddr 2 (T 2)) (some (80, true)) .p), (.mk (some 82) (.load false 1 (T 81)) (some (80, true)) .r), (.mk (some 83) (.bin
  .eql (T 82) (.lit (.c (.pv (.int .i32 3))))) (some (80, true)) .p), (oP 84 (.pick (T 80) (T 83) (.lit (.c (.pv (.bool false)))))), (oP 85 (.mv (T 84))), (.mk
  (some 86) (.faddr 3 (T 2)) (some (85, true)) .p), (.mk (some 87) (.load false 1 (T 86)) (some (85, true)) .r), (.mk (some 88) (.iaddrS 3 (T 87) (tI 0)) (some
  (85, true)) .p), (.mk (some 89) (.faddr 1 (T 88)) (some (85, true)) .p), (.mk (some 90) (.faddr 1 (T 89)) (some (85, true)) .p), (.mk (some 91) (.load false 1
  (T 90)) (some (85, true)) .r), (.mk (some 92) (.bin .eql (T 91) (tI 100)) (some (85, true)) .p), (oP 93 (.pick (T 85) (T 92) (.lit (.c (.pv (.bool
  false)))))), (oP 94 (.mv (T 93))), (.mk (some 95) (.mv (T 4)) (some (94, true)) .p), (.mk (some 96) (.bin .eql (T 95) (tI 100)) (some (94, true)) .p), (oP 97
  (.pick (T 94) (T 96) (.lit (.c (.pv (.bool false)))))), (oP 98 (.mv (T 97))), (.mk (some 99) (.mv (T 5)) (some (98, true)) .p), (.mk (some 100) (.bin .eql (T
  99) (tI 0)) (some (98, true)) .p), (oP 101 (.pick (T 98) (T 100) (.lit (.c (.pv (.bool false)))))), (oP 102 (.mv (T 101))), (.mk (some 103) (.mv (T 6)) (some
  (102, true)) .p), (.mk (some 104) (.bin .eql (T 103) (tI 100)) (some (102, true)) .p), (oP 105 (.pick (T 102) (T 104) (.lit (.c (.pv (.bool false)))))), (oP
  106 (.mv (T 105))), (.mk (some 107) (.mv (T 7)) (some (106, true)) .p), (.mk (some 108) (.bin .eql (T 107) (tI 0)) (some (106, true)) .p), (oP 109 (.pick (T
  106) (T 108) (.lit (.c (.pv (.bool false)))))), (oP 110 (.mv (T 109))), (.mk (some 111) (.mv (T 9)) (some (110, true)) .p), (.mk (some 112) (.bin .eql (T 111)
  (tI 0)) (some (110, true)) .p), (oP 113 (.pick (T 110) (T 112) (.lit (.c (.pv (.bool false)))))), (oP 114 (.mv (T 113))), (.mk (some 115) (.load true 7 (T
  10)) (some (114, true)) .r), (.mk (some 116) (.call false [] (.lit (.c (.fn 86 []))) []) (some (114, true)) .p), (.mk (some 117) (.call false [] (.lit (.c
  (.fn 43 []))) [(T 115), (T 116)]) (some (114, true)) .p), (oP 118 (.pick (T 114) (T 117) (.lit (.c (.pv (.bool false)))))), (oP 119 (.mv (T 118))), (.mk (some
  120) (.mv (T 11)) (some (119, true)) .p), (.mk (some 121) (.bin .eql (T 120) (tI 0)) (some (119, true)) .p), (oP 122 (.pick (T 119) (T 121) (.lit (.c (.pv
  (.bool false)))))), (oP 123 (.mv (T 122))), (.mk (some 124) (.mv (T 13)) (some (123, true)) .p), (.mk (some 125) (.bin .eql (T 124) (tI 20)) (some (123,
  true)) .p), (oP 126 (.pick (T 123) (T 125) (.lit (.c (.pv (.bool false)))))), (oP 127 (.mv (T 126))), (.mk (some 128) (.mv (T 15)) (some (127, true)) .p),
  (.mk (some 129) (.bin .eql (T 128) (tI 3)) (some (127, true)) .p), (oP 130 (.pick (T 127) (T 129) (.lit (.c (.pv (.bool false)))))), (oP 131 (.mv (T 130))),
  (.mk (some 132) (.mv (T 16)) (some (131, true)) .p), (.mk (some 133) (.bin .eql (T 132) (.lit (.c (.pv (.int .i64 (-100)))))) (some (131, true)) .p), (oP 134
  (.pick (T 131) (T 133) (.lit (.c (.pv (.bool false)))))), (oP 135 (.mv (T 134))), (.mk (some 136) (.mv (T 17)) (some (135, true)) .p), (.mk (some 137) (.bin
  .eql (T 136) (tI 0)) (some (135, true)) .p), (oP 138 (.pick (T 135) (T 137) (.lit (.c (.pv (.bool false)))))), (oP 139 (.mv (T 138))), (.mk (some 140) (.load
  true 7 (T 1)) (some (139, true)) .r), (.mk (some 141) (.call false [] (.lit (.c (.fn 37 []))) [(T 140)]) (some (139, true)) .p), (.mk (some 142) (.bin .eql (T
  141) (tI 15)) (some (139, true)) .p), (oP 143 (.pick (T 139) (T 142) (.lit (.c (.pv (.bool false)))))), (oP 144 (.mv (T 143))), (.mk (some 145) (.call false
  [] (.lit (.c (.fn 86 []))) []) (some (144, true)) .p), (.mk (some 146) (.call false [] (.lit (.c (.fn 37 []))) [(T 145)]) (some (144, true)) .p), (.mk (some
  147) (.bin .eql (T 146) (tI 0)) (some (144, true)) .p), (oP 148 (.pick (T 144) (T 147) (.lit (.c (.pv (.bool false)))))), (oP 149 (.mv (T 148))), (.mk (some
  150) (.build [(.pv (.int .i64 0)), (.pv (.int .i32 0)), (.pv (.int .i32 0)), (.pv (.sl .nil 0 [])), (.pv (.int .i64 0)), (.pv (.int .i64 0)), (.pv (.str []))]
  []) (some (149, true)) .p), (.mk (some 151) (.call false [] (.lit (.c (.fn 37 []))) [(T 150)]) (some (149, true)) .p), (.mk (some 152) (.bin .eql (T 151) (tI
  1)) (some (149, true)) .p), (oP 153 (.pick (T 149) (T 152) (.lit (.c (.pv (.bool false)))))), (oP 154 (.mv (T 153))), (.mk (some 155) (.load true 7 (T 1))
  (some (154, true)) .r), (.mk (some 156) (.load true 7 (T 10)) (some (154, true)) .r), (.mk (some 157) (.call false [] (.lit (.c (.fn 43 []))) [(T 155), (T
  156)]) (some (154, true)) .p), (.mk (some 158) (.un .not (T 157)) (some (154, true)) .p), (oP 159 (.pick (T 154) (T 158) (.lit (.c (.pv (.bool false)))))),
  (oP 0 (.mv (T 159)))])) (.tr (rl [0]) false .ret)))))))))))))))
theorem xf39_ok : cmpFunc Go.Proofs.Tryd.prog 39 ((.two (.tr [] false .no) (.two (.tr (rl [1]) false (.ops [{ cls := some .p }])) (.two (.tr (rl [1, 0, 0]) false (.ops [{}, { cls := some .p }])) (.two (.tr (rl [1, 0, 0, 0, 0]) false (.ops [{}, { cls := some .p }])) (.two (.tr (rl [1, 0, 0, 0, 0, 0, 0]) false (.ops [{}, { cls := some .p }])) (.two (.tr (rl [1, 0, 0, 0, 0, 0, 0, 0, 0]) false (.ops [{}, { cls := some .p }])) (.two (.tr (rl [1, 0, 0, 0, 0, 0, 0, 0, 0, 0, 0]) false (.ops [{}, { cls := some .p }])) (.two (.tr (rl [1, 0, 0, 0, 0, 0, 0, 0, 0, 0, 0, 1]) false (.ops [{}, { cls := some .p }])) (.two (.tr (rl [1, 0, 0, 0, 0, 0, 0, 1, 0, 0, 1, 1]) false (.ops [{}, {}, { cls := some .p }])) (.two (.tr (rl [1, 0, 0, 0, 0, 0, 0, 1, 0, 0, 1, 1, 0, 0]) false (.ops [{}, { cls := some .p }])) (.two (.tr (rl [1, 0, 0, 0, 0, 0, 0, 1, 0, 0, 1, 1, 0, 0]) false .no) (.two (.two (.tr (rl [1, 0, 0, 0, 0, 0, 0, 1, 0, 0, 1, 1, 0, 0, 49]) false .no) (.tr (rl [0, 0, 0, 0, 0, 0, 0, 0, 1, 0, 0, 1, 1, 0, 0]) false (.two (.two .no (.tr (rl [0]) false .no)) .no))) (.two (.tr (rl [0]) false (.draw [0, 1, 2, 3, 4, 5, 6, 7, 8, 9, 10, 11, 12, 13, 14, 15, 16, 17, 18, 19, 20, 21, 22, 23, 24, 25, 26, 27, 28, 29, 30, 31, 32, 33, 34, 35, 36, 37, 38, 39, 40, 41, 42, 43, 44, 45, 46, 47, 48, 49, 50, 51, 52, 53, 54, 55, 56, 57, 58, 59, 60, 61, 62, 63, 64, 65, 66, 67, 68, 69, 70, 71, 72, 73, 74, 75, 76, 77, 78, 79, 80, 81, 82, 83, 84, 85, 86, 87, 88, 89, 90, 91, 92] [{}, {}, {}, {}, {}, {}, {}, {}, {}, {}, {}, {}, {}, {}, {}, {}, {}, {}, {}, {}, {}, {}, {}, {}, {}, {}, {}, {}, {}, {}, {}, {}, {}, {}, {}, {}, {}, {}, {}, {}, {}, {}, {}, {}, {}, {}, {}, {}, { cls := some .p }, { cls := some .p }, {}, {}, {}, {}, {}, {}, {}, {}, {}, {}, {}, {}, {}, {}, {}, {}, {}, {}, {}, {}, {}, {}, {}, { cls := some .p }, {}, {}, {}, { cls := some .p }, { cls := some .p }, {}, {}, {}, {}, { cls := some .p }, {}, {}, {}, {}, {}, { cls := some .p }])) (.tr (rl [0]) false .no))))))))))))))) = some xf39 := by kernel_rfl
def xf40 : XFunc :=
(.mk 13 [(.tmp 6), (.tmp 7)] (.seq (.tr (rl [3, 0, 0]) false (.region false [(oW 3 (.box (T 0) 7)), (oW 4 (.box (T 1) 1)), (oW 5 (.box (T 2) 1)), (oP 6 (.mv (tI
  0))), (oP 7 (.mv (tI 0)))])) (.seq (.tr (rl [6, 0]) false (.region false [(oR 8 (.load true 7 (T 3))), (oP 9 (.mkfn 88 [(T 4), (T 5)])), (oW 10 (.call false
  [] (.lit (.c (.fn 87 []))) [(T 8), (T 9)])), (oP 11 (.extr 0 (T 10))), (oP 12 (.extr 1 (T 10))), (oP 6 (.mv (T 11))), (oP 7 (.mv (T 12)))])) (.tr (rl [6, 0])
  false .ret))))
theorem xf40_ok : cmpFunc Go.Proofs.Tryd.prog 40 ((.two (.tr (rl [3, 0, 0]) false .no) (.two (.tr (rl [6, 0]) false .no) (.tr (rl [6, 0]) false .no)))) = some xf40 := by kernel_rfl
def xf41 : XFunc :=
(.mk 11 [(.tmp 4), (.tmp 5)] (.seq (.tr (rl [2, 0]) false (.region false [(oW 2 (.box (T 0) 7)), (oW 3 (.box (T 1) 1)), (oP 4 (.mv (tI 0))), (oP 5 (.mv (tI
  0)))])) (.seq (.tr (rl [4, 0]) false (.region false [(oR 6 (.load true 7 (T 2))), (oP 7 (.mkfn 89 [(T 3)])), (oW 8 (.call false [] (.lit (.c (.fn 87 []))) [(T
  6), (T 7)])), (oP 9 (.extr 0 (T 8))), (oP 10 (.extr 1 (T 8))), (oP 4 (.mv (T 9))), (oP 5 (.mv (T 10)))])) (.tr (rl [4, 0]) false .ret))))
theorem xf41_ok : cmpFunc Go.Proofs.Tryd.prog 41 ((.two (.tr (rl [2, 0]) false .no) (.two (.tr (rl [4, 0]) false .no) (.tr (rl [4, 0]) false .no)))) = some xf41 := by kernel_rfl
def xf42_l0 : XCode :=
(.seq (.region false [(oP 53 (.bin .lss (T 52) (T 51)))]) (.seq (.tr (rl [5, 44, 0, 0]) false (.cond (T 53) .skip (.tr (rl [5]) false (.exit 0)))) (.seq (.tr
  (rl [5, 44, 0, 0]) false (.block 1 (.seq (.tr (rl [5, 1, 42, 0, 0]) false (.region false [(oP 54 (.iaddrS 3 (T 50) (T 52))), (oR 55 (.load true 3 (T 54))),
  (oW 7 (.alloc [(.pv (.int .i64 0)), (.pv (.int .i64 0)), (.pv (.int .i64 0))])), (sW (.store 3 (T 7) (T 55)))])) (.seq (.tr (rl [5, 1, 42, 0, 0]) false
  (.region false [(oP 56 (.mv (T 5))), (oP 57 (.faddr 0 (T 7))), (oR 58 (.load false 1 (T 57))), (oP 59 (.convI .u64 (T 58))), (oW 60 (.call false [] (.lit (.c
  (.fn 91 []))) [(T 56), (T 59)]))])) (.tr (rl [5, 44, 0, 0]) false (.region false [(oP 61 (.mv (T 5))), (oP 62 (.faddr 1 (T 7))), (oR 63 (.load true 2 (T
  62))), (oW 64 (.call false [] (.lit (.c (.fn 94 []))) [(T 61), (T 63)]))])))))) (.tr (rl [5, 44, 0, 0]) false (.region false [(oP 65 (.bin .add (T 52) (tI
  1))), (oP 52 (.mv (T 65)))])))))
def xf42 : XFunc :=
(.mk 68 [(.tmp 2), (.tmp 3)] (.seq (.tr (rl [1]) false (.region false [(oW 1 (.box (T 0) 7)), (oP 2 (.mv (.lit (.c (.pv (.str [])))))), (oP 3 (.mv (tI 0)))]))
  (.seq (.seq (.tr (rl [1, 2]) false (.region false [(oR 8 (.load true 7 (T 1))), (oP 9 (.call false [] (.lit (.c (.fn 37 []))) [(T 8)])), (oP 4 (.mv (T 9)))]))
  (.seq (.tr (rl [1, 2, 6]) false (.region false [(oP 10 (.mv (T 4))), (oP 11 (.bin .neq (T 10) (tI 0)))])) (.tr (rl [1, 0, 0]) false (.cond (T 11) (.seq (.tr
  (rl [2, 0]) false (.region false [(oP 12 (.mv (T 4))), (oP 2 (.mv (.lit (.c (.pv (.str [])))))), (oP 3 (.mv (T 12)))])) (.tr (rl [2, 0]) false .ret))
  .skip)))) (.seq (.tr (rl [1, 3]) false (.region false [(oW 13 (.call false [] (.lit (.c (.fn 90 []))) [])), (oP 5 (.mv (T 13)))])) (.seq (.tr (rl [1, 3])
  false (.region false [(oP 14 (.mv (T 5))), (oP 15 (.faddr 0 (T 1))), (oR 16 (.load false 1 (T 15))), (oP 17 (.convI .u64 (T 16))), (oW 18 (.call false []
  (.lit (.c (.fn 91 []))) [(T 14), (T 17)]))])) (.seq (.tr (rl [1, 3]) false (.region false [(oP 19 (.mv (T 5))), (oP 20 (.faddr 1 (T 1))), (oR 21 (.load false
  1 (T 20))), (oP 22 (.convI .i64 (T 21))), (oW 23 (.call false [] (.lit (.c (.fn 92 []))) [(T 19), (T 22)]))])) (.seq (.tr (rl [1, 3]) false (.region false
  [(oP 24 (.mv (T 5))), (oP 25 (.faddr 2 (T 1))), (oR 26 (.load false 1 (T 25))), (oP 27 (.convI .i64 (T 26))), (oW 28 (.call false [] (.lit (.c (.fn 92 [])))
  [(T 24), (T 27)]))])) (.seq (.tr (rl [1, 3]) false (.region false [(oP 29 (.mv (T 5))), (oP 30 (.faddr 5 (T 1))), (oR 31 (.load false 1 (T 30))), (oP 32
  (.convI .u64 (T 31))), (oW 33 (.call false [] (.lit (.c (.fn 91 []))) [(T 29), (T 32)]))])) (.seq (.tr (rl [1, 3]) false (.region false [(oP 34 (.mv (T 5))),
  (oP 35 (.faddr 4 (T 1))), (oR 36 (.load false 1 (T 35))), (oP 37 (.convI .u64 (T 36))), (oW 38 (.call false [] (.lit (.c (.fn 91 []))) [(T 34), (T 37)]))]))
  (.seq (.tr (rl [1, 3]) false (.region false [(oP 39 (.mv (T 5))), (oP 40 (.faddr 6 (T 1))), (oR 41 (.load false 1 (T 40))), (oW 42 (.call false [] (.lit (.c
  (.fn 93 []))) [(T 39), (T 41)]))])) (.seq (.tr (rl [1, 3]) false (.region false [(oP 43 (.mv (T 5))), (oP 44 (.faddr 3 (T 1))), (oR 45 (.load false 1 (T
  44))), (oP 46 (.len (T 45))), (oP 47 (.convI .u64 (T 46))), (oW 48 (.call false [] (.lit (.c (.fn 91 []))) [(T 43), (T 47)]))])) (.seq (.seq (.tr (rl [5, 44,
  0, 0]) false (.region false [(oP 49 (.faddr 3 (T 1))), (oR 50 (.load false 1 (T 49))), (oP 51 (.len (T 50))), (oP 52 (.mv (tI 0)))])) (.tr (rl [5]) false
  (.block 0 (.loop (rl [5, 44, 0, 0]) xf42_l0)))) (.seq (.tr (rl [2, 0]) false (.region false [(oP 66 (.mv (T 5))), (oW 67 (.call false [] (.lit (.c (.fn 95
  []))) [(T 66)])), (oP 2 (.mv (T 67))), (oP 3 (.mv (tI 0)))])) (.tr (rl [2, 0]) false .ret))))))))))))))
theorem xf42_ok : cmpFunc Go.Proofs.Tryd.prog 42 ((.two (.tr (rl [1]) false .no) (.two (.two (.tr (rl [1, 2]) false (.ops [{}, { cls := some .p }])) (.two (.tr (rl [1, 2, 6]) false .no) (.tr (rl [1, 0, 0]) false (.two (.two (.tr (rl [2, 0]) false .no) (.tr (rl [2, 0]) false .no)) .no)))) (.two (.tr (rl [1, 3]) false .no) (.two (.tr (rl [1, 3]) false .no) (.two (.tr (rl [1, 3]) false .no) (.two (.tr (rl [1, 3]) false .no) (.two (.tr (rl [1, 3]) false .no) (.two (.tr (rl [1, 3]) false .no) (.two (.tr (rl [1, 3]) false .no) (.two (.tr (rl [1, 3]) false .no) (.two (.two (.tr (rl [5, 44, 0, 0]) false .no) (.tr (rl [5]) false (.loop (rl [5, 44, 0, 0]) (.two .no (.two (.tr (rl [5, 44, 0, 0]) false (.two .no (.tr (rl [5]) false .no))) (.two (.tr (rl [5, 44, 0, 0]) false (.two (.tr (rl [5, 1, 42, 0, 0]) false .no) (.two (.tr (rl [5, 1, 42, 0, 0]) false .no) (.tr (rl [5, 44, 0, 0]) false .no)))) (.tr (rl [5, 44, 0, 0]) false .no))))))) (.two (.tr (rl [2, 0]) false .no) (.tr (rl [2, 0]) false .no)))))))))))))) = some xf42 := by kernel_rfl
def xf43 : XFunc :=
(.mk 52 [(.tmp 4)] (.seq (.tr (rl [2, 0]) false (.region false [(oW 2 (.box (T 0) 7)), (oW 3 (.box (T 1) 7)), (oP 4 (.mv (.lit (.c (.pv (.bool false))))))]))
  (.seq (.tr (rl [4]) false (.region false [(oP 5 (.faddr 3 (T 2))), (oR 6 (.load false 1 (T 5))), (oP 7 (.faddr 3 (T 3))), (oR 8 (.load false 1 (T 7))), (oP 9
  (.call false [] (.lit (.c (.fn 96 []))) [(T 6), (T 8)])), (oP 10 (.mv (T 9))), (.mk (some 11) (.faddr 0 (T 2)) (some (10, true)) .p), (.mk (some 12) (.load
  false 1 (T 11)) (some (10, true)) .r), (.mk (some 13) (.faddr 0 (T 3)) (some (10, true)) .p), (.mk (some 14) (.load false 1 (T 13)) (some (10, true)) .r),
  (.mk (some 15) (.bin .eql (T 12) (T 14)) (some (10, true)) .p), (oP 16 (.pick (T 10) (T 15) (.lit (.c (.pv (.bool false)))))), (oP 17 (.mv (T 16))), (.mk
  (some 18) (.faddr 1 (T 2)) (some (17, true)) .p), (.mk (some 19) (.load false 1 (T 18)) (some (17, true)) .r), (.mk (some 20) (.faddr 1 (T 3)) (some (17,
  true)) .p), (.mk (some 21) (.load false 1 (T 20)) (some (17, true)) .r), (.mk (some 22) (.bin .eql (T 19) (T 21)) (some (17, true)) .p), (oP 23 (.pick (T 17)
  (T 22) (.lit (.c (.pv (.bool false)))))), (oP 24 (.mv (T 23))), (.mk (some 25) (.faddr 2 (T 2)) (some (24, true)) .p), (.mk (some 26) (.load false 1 (T 25))
  (some (24, true)) .r), (.mk (some 27) (.faddr 2 (T 3)) (some (24, true)) .p), (.mk (some 28) (.load false 1 (T 27)) (some (24, true)) .r), (.mk (some 29)
  (.bin .eql (T 26) (T 28)) (some (24, true)) .p), (oP 30 (.pick (T 24) (T 29) (.lit (.c (.pv (.bool false)))))), (oP 31 (.mv (T 30))), (.mk (some 32) (.faddr 4
  (T 2)) (some (31, true)) .p), (.mk (some 33) (.load false 1 (T 32)) (some (31, true)) .r), (.mk (some 34) (.faddr 4 (T 3)) (some (31, true)) .p), (.mk (some
  35) (.load false 1 (T 34)) (some (31, true)) .r), (.mk (some 36) (.bin .eql (T 33) (T 35)) (some (31, true)) .p), (oP 37 (.pick (T 31) (T 36) (.lit (.c (.pv
  (.bool false)))))), (oP 38 (.mv (T 37))), (.mk (some 39) (.faddr 5 (T 2)) (some (38, true)) .p), (.mk (some 40) (.load false 1 (T 39)) (some (38, true)) .r),
  (.mk (some 41) (.faddr 5 (T 3)) (some (38, true)) .p), (.mk (some 42) (.load false 1 (T 41)) (some (38, true)) .r), (.mk (some 43) (.bin .eql (T 40) (T 42))
  (some (38, true)) .p), (oP 44 (.pick (T 38) (T 43) (.lit (.c (.pv (.bool false)))))), (oP 45 (.mv (T 44))), (.mk (some 46) (.faddr 6 (T 2)) (some (45, true))
  .p), (.mk (some 47) (.load false 1 (T 46)) (some (45, true)) .r), (.mk (some 48) (.faddr 6 (T 3)) (some (45, true)) .p), (.mk (some 49) (.load false 1 (T 48))
  (some (45, true)) .r), (.mk (some 50) (.bin .eql (T 47) (T 49)) (some (45, true)) .p), (oP 51 (.pick (T 45) (T 50) (.lit (.c (.pv (.bool false)))))), (oP 4
  (.mv (T 51)))])) (.tr (rl [4]) false .ret))))
theorem xf43_ok : cmpFunc Go.Proofs.Tryd.prog 43 ((.two (.tr (rl [2, 0]) false .no) (.two (.tr (rl [4]) false (.ops [{}, {}, {}, {}, { cls := some .p }])) (.tr (rl [4]) false .no)))) = some xf43 := by kernel_rfl
def xf44_l0 : XCode :=
(.seq (.seq (.tr (rl [2, 0, 1, 11]) false (.region false [(oP 13 (.mv (T 5))), (oP 14 (.faddr 3 (T 2))), (oR 15 (.load false 1 (T 14))), (oP 16 (.len (T 15))),
  (oP 17 (.bin .lss (T 13) (T 16)))])) (.tr (rl [2, 0, 1]) false (.cond (T 17) .skip (.tr (rl [2, 0]) false (.exit 0))))) (.seq (.tr (rl [2, 0, 0, 0]) false
  (.block 1 (.seq (.tr (rl [2, 0, 1, 24]) false (.region true [(oP 20 (.faddr 3 (T 2))), (oR 21 (.load false 1 (T 20))), (oP 22 (.mv (T 5))), (oP 23 (.iaddrS 3
  (T 21) (T 22))), (oR 24 (.load true 3 (T 23))), (oP 25 (.faddr 3 (T 3))), (oR 26 (.load false 1 (T 25))), (oP 27 (.mv (T 5))), (oP 28 (.iaddrS 3 (T 26) (T
  27))), (oR 29 (.load true 3 (T 28))), (oP 30 (.eqA true [0, 0, 0] (T 24) (T 29)))])) (.tr (rl [2, 0, 0, 0]) false (.cond (T 30) (.seq (.region false [(oP 4
  (.mv (.lit (.c (.pv (.bool false))))))]) (.tr (rl [4]) false .ret)) .skip))))) (.tr (rl [2, 0, 1]) false (.region false [(oP 18 (.mv (T 5))), (oP 19 (.bin
  .add (T 18) (tI 1))), (oP 5 (.mv (T 19)))]))))
def xf44 : XFunc :=
(.mk 71 [(.tmp 4)] (.seq (.tr (rl [2, 0]) false (.region false [(oW 2 (.box (T 0) 7)), (oW 3 (.box (T 1) 7)), (oP 4 (.mv (.lit (.c (.pv (.bool false))))))]))
  (.seq (.seq (.tr (rl [2, 0, 8]) false (.region false [(oP 6 (.faddr 3 (T 2))), (oR 7 (.load false 1 (T 6))), (oP 8 (.len (T 7))), (oP 9 (.faddr 3 (T 3))), (oR
  10 (.load false 1 (T 9))), (oP 11 (.len (T 10))), (oP 12 (.bin .neq (T 8) (T 11)))])) (.tr (rl [2, 0, 0]) false (.cond (T 12) (.seq (.region false [(oP 4 (.mv
  (.lit (.c (.pv (.bool false))))))]) (.tr (rl [4]) false .ret)) .skip))) (.seq (.seq (.region false [(oP 5 (.mv (tI 0)))]) (.tr (rl [2, 0, 0]) false (.block 0
  (.loop (rl [2, 0, 1]) xf44_l0)))) (.seq (.tr (rl [4]) false (.region false [(oP 31 (.faddr 0 (T 2))), (oR 32 (.load false 1 (T 31))), (oP 33 (.faddr 0 (T
  3))), (oR 34 (.load false 1 (T 33))), (oP 35 (.bin .eql (T 32) (T 34))), (oP 36 (.mv (T 35))), (.mk (some 37) (.faddr 1 (T 2)) (some (36, true)) .p), (.mk
  (some 38) (.load false 1 (T 37)) (some (36, true)) .r), (.mk (some 39) (.faddr 1 (T 3)) (some (36, true)) .p), (.mk (some 40) (.load false 1 (T 39)) (some
  (36, true)) .r), (.mk (some 41) (.bin .eql (T 38) (T 40)) (some (36, true)) .p), (oP 42 (.pick (T 36) (T 41) (.lit (.c (.pv (.bool false)))))), (oP 43 (.mv (T
  42))), (.mk (some 44) (.faddr 2 (T 2)) (some (43, true)) .p), (.mk (some 45) (.load false 1 (T 44)) (some (43, true)) .r), (.mk (some 46) (.faddr 2 (T 3))
  (some (43, true)) .p), (.mk (some 47) (.load false 1 (T 46)) (some (43, true)) .r), (.mk (some 48) (.bin .eql (T 45) (T 47)) (some (43, true)) .p), (oP 49
  (.pick (T 43) (T 48) (.lit (.c (.pv (.bool false)))))), (oP 50 (.mv (T 49))), (.mk (some 51) (.faddr 4 (T 2)) (some (50, true)) .p), (.mk (some 52) (.load
  false 1 (T 51)) (some (50, true)) .r), (.mk (some 53) (.faddr 4 (T 3)) (some (50, true)) .p), (.mk (some 54) (.load false 1 (T 53)) (some (50, true)) .r),
  (.mk (some 55) (.bin .eql (T 52) (T 54)) (some (50, true)) .p), (oP 56 (.pick (T 50) (T 55) (.lit (.c (.pv (.bool false)))))), (oP 57 (.mv (T 56))), (.mk
  (some 58) (.faddr 5 (T 2)) (some (57, true)) .p), (.mk (some 59) (.load false 1 (T 58)) (some (57, true)) .r), (.mk (some 60) (.faddr 5 (T 3)) (some (57,
  true)) .p), (.mk (some 61) (.load false 1 (T 60)) (some (57, true)) .r), (.mk (some 62) (.bin .eql (T 59) (T 61)) (some (57, true)) .p), (oP 63 (.pick (T 57)
  (T 62) (.lit (.c (.pv (.bool false)))))), (oP 64 (.mv (T 63))), (.mk (some 65) (.faddr 6 (T 2)) (some (64, true)) .p), (.mk (some 66) (.load false 1 (T 65))
  (some (64, true)) .r), (.mk (some 67) (.faddr 6 (T 3)) (some (64, true)) .p), (.mk (some 68) (.load false 1 (T 67)) (some (64, true)) .r), (.mk (some 69)
  (.bin .eql (T 66) (T 68)) (some (64, true)) .p), (oP 70 (.pick (T 64) (T 69) (.lit (.c (.pv (.bool false)))))), (oP 4 (.mv (T 70)))])) (.tr (rl [4]) false
  .ret))))))
theorem xf44_ok : cmpFunc Go.Proofs.Tryd.prog 44 ((.two (.tr (rl [2, 0]) false .no) (.two (.two (.tr (rl [2, 0, 8]) false .no) (.tr (rl [2, 0, 0]) false (.two (.two .no (.tr (rl [4]) false .no)) .no))) (.two (.two .no (.tr (rl [2, 0, 0]) false (.loop (rl [2, 0, 1]) (.two (.two (.tr (rl [2, 0, 1, 11]) false .no) (.tr (rl [2, 0, 1]) false (.two .no (.tr (rl [2, 0]) false .no)))) (.two (.tr (rl [2, 0, 0, 0]) false (.two (.tr (rl [2, 0, 1, 24]) false (.draw [0, 1, 2, 3, 4, 5, 6, 7, 8, 9, 10] [])) (.tr (rl [2, 0, 0, 0]) false (.two (.two .no (.tr (rl [4]) false .no)) .no)))) (.tr (rl [2, 0, 1]) false .no)))))) (.two (.tr (rl [4]) false .no) (.tr (rl [4]) false .no)))))) = some xf44 := by kernel_rfl
def xf49_l0 : XCode :=
(.seq (.region false [(oP 31 (.bin .lss (T 30) (T 29)))]) (.seq (.tr (rl [2, 1, 0, 23, 0]) false (.cond (T 31) .skip (.tr (rl [2, 1, 0]) false (.exit 0))))
  (.seq (.tr (rl [2, 1, 0, 23, 0]) false (.block 1 (.seq (.tr (rl [2, 1, 0, 0, 22, 0]) false (.region false [(oP 32 (.mv (T 4))), (oW 33 (.call false [] (.lit
  (.c (.fn 103 []))) [(T 32)])), (oP 34 (.call false [] (.lit (.c (.fn 102 []))) [(T 33)])), (oP 6 (.mv (T 34)))])) (.tr (rl [2, 1, 0, 23, 0]) false (.region
  true [(oP 35 (.faddr 3 (T 5))), (oR 36 (.loadR false 1 (T 35) (T 5))), (oP 37 (.mv (T 6))), (oP 38 (.mv (T 4))), (oW 39 (.call false [(T 5)] (.lit (.c (.fn
  108 []))) [(T 38)])), (oP 40 (.build [(.pv (.int .i64 0)), (.pv (.int .i64 0)), (.pv (.int .i64 0))] [(0, (1, (T 37))), (1, (2, (T 39)))])), (oP 41 (.buildSl
  [(.pv (.int .i64 0)), (.pv (.int .i64 0)), (.pv (.int .i64 0))] 1 3 [(0, (3, (T 40)))])), (oW 42 (.app 3 24 (T 36) (T 41))), (oP 43 (.faddr 3 (T 5))), (sW
  (.store 1 (T 43) (T 42)))]))))) (.tr (rl [2, 1, 0, 23, 0]) false (.region false [(oP 44 (.bin .add (T 30) (tI 1))), (oP 30 (.mv (T 44)))])))))
def xf49 : XFunc :=
(.mk 56 [(.cell 2 true 7), (.tmp 3)] (.seq (.tr (rl [0, 1]) false (.region false [(oW 2 (.alloc [(.pv (.int .i64 0)), (.pv (.int .i32 0)), (.pv (.int .i32 0)),
  (.pv (.sl .nil 0 [])), (.pv (.int .i64 0)), (.pv (.int .i64 0)), (.pv (.str []))])), (oP 3 (.mv (tI 0)))])) (.seq (.tr (rl [2, 1]) false (.region false [(oP 8
  (.mv (T 0))), (oW 9 (.call false [] (.lit (.c (.fn 101 []))) [(T 8)])), (oP 4 (.mv (T 9)))])) (.seq (.tr (rl [2, 1, 0]) false (.region false [(oP 10 (.mv (T
  4))), (oW 11 (.call false [] (.lit (.c (.fn 103 []))) [(T 10)])), (oP 12 (.call false [] (.lit (.c (.fn 102 []))) [(T 11)])), (oP 13 (.mv (T 4))), (oW 14
  (.call false [] (.lit (.c (.fn 105 []))) [(T 13)])), (oP 15 (.call false [] (.lit (.c (.fn 104 []))) [(T 14)])), (oP 16 (.mv (T 4))), (oW 17 (.call false []
  (.lit (.c (.fn 105 []))) [(T 16)])), (oP 18 (.call false [] (.lit (.c (.fn 104 []))) [(T 17)])), (oP 19 (.mv (T 4))), (oW 20 (.call false [] (.lit (.c (.fn
  103 []))) [(T 19)])), (oP 21 (.call false [] (.lit (.c (.fn 102 []))) [(T 20)])), (oP 22 (.mv (T 4))), (oW 23 (.call false [] (.lit (.c (.fn 103 []))) [(T
  22)])), (oP 24 (.call false [] (.lit (.c (.fn 102 []))) [(T 23)])), (oP 25 (.mv (T 4))), (oW 26 (.call false [] (.lit (.c (.fn 106 []))) [(T 25), (tI 32)])),
  (oP 27 (.build [(.pv (.int .i64 0)), (.pv (.int .i32 0)), (.pv (.int .i32 0)), (.pv (.sl .nil 0 [])), (.pv (.int .i64 0)), (.pv (.int .i64 0)), (.pv (.str
  []))] [(0, (1, (T 12))), (1, (1, (T 15))), (2, (1, (T 18))), (5, (1, (T 21))), (4, (1, (T 24))), (6, (1, (T 26)))])), (oW 5 (.alloc [(.pv (.int .i64 0)), (.pv
  (.int .i32 0)), (.pv (.int .i32 0)), (.pv (.sl .nil 0 [])), (.pv (.int .i64 0)), (.pv (.int .i64 0)), (.pv (.str []))])), (sW (.store 7 (T 5) (T 27)))]))
  (.seq (.seq (.tr (rl [2, 1, 0, 23, 0]) false (.region false [(oP 28 (.mv (T 4))), (oW 29 (.call false [] (.lit (.c (.fn 107 []))) [(T 28), (tI 16)])), (oP 30
  (.mv (tI 0)))])) (.tr (rl [2, 1, 0]) false (.block 0 (.loop (rl [2, 1, 0, 23, 0]) xf49_l0)))) (.seq (.tr (rl [2, 2, 1]) false (.region false [(oP 45 (.mv (T
  4))), (oW 46 (.call false [] (.lit (.c (.fn 109 []))) [(T 45)])), (oP 7 (.mv (T 46)))])) (.seq (.seq (.tr (rl [2, 2, 1, 40]) false (.region false [(oP 47 (.mv
  (T 7))), (oP 48 (.bin .eql (T 47) (tI 0)))])) (.tr (rl [2, 2, 1]) false (.cond (T 48) (.tr (rl [2, 2, 1]) false (.region false [(oR 49 (.load true 7 (T 5))),
  (oP 50 (.call false [] (.lit (.c (.fn 37 []))) [(T 49)])), (oP 7 (.mv (T 50)))])) .skip))) (.seq (.seq (.tr (rl [2, 2, 1, 44]) false (.region false [(oP 51
  (.mv (T 7))), (oP 52 (.bin .neq (T 51) (tI 0)))])) (.tr (rl [2, 0, 1]) false (.cond (T 52) (.seq (.tr (rl [2, 0]) false (.region false [(oP 53 (.build [(.pv
  (.int .i64 0)), (.pv (.int .i32 0)), (.pv (.int .i32 0)), (.pv (.sl .nil 0 [])), (.pv (.int .i64 0)), (.pv (.int .i64 0)), (.pv (.str []))] [])), (oP 54 (.mv
  (T 7))), (sW (.store 7 (T 2) (T 53))), (oP 3 (.mv (T 54)))])) (.tr (rl [2, 0]) false .ret)) .skip))) (.seq (.tr (rl [2, 0]) false (.region false [(oR 55
  (.load true 7 (T 5))), (sW (.store 7 (T 2) (T 55))), (oP 3 (.mv (tI 0)))])) (.tr (rl [2, 0]) false .ret))))))))))
theorem xf49_ok : cmpFunc Go.Proofs.Tryd.prog 49 ((.two (.tr (rl [0, 1]) false .no) (.two (.tr (rl [2, 1]) false .no) (.two (.tr (rl [2, 1, 0]) false (.ops [{}, {}, { cls := some .p }, {}, {}, { cls := some .p }, {}, {}, { cls := some .p }, {}, {}, { cls := some .p }, {}, {}, { cls := some .p }])) (.two (.two (.tr (rl [2, 1, 0, 23, 0]) false .no) (.tr (rl [2, 1, 0]) false (.loop (rl [2, 1, 0, 23, 0]) (.two .no (.two (.tr (rl [2, 1, 0, 23, 0]) false (.two .no (.tr (rl [2, 1, 0]) false .no))) (.two (.tr (rl [2, 1, 0, 23, 0]) false (.two (.tr (rl [2, 1, 0, 0, 22, 0]) false (.ops [{}, {}, { cls := some .p }])) (.tr (rl [2, 1, 0, 23, 0]) false (.draw [0, 1, 2, 3, 4, 5, 6, 7, 8, 9] [{}, { root := some 5 }, {}, {}, { ap := [5] }])))) (.tr (rl [2, 1, 0, 23, 0]) false .no))))))) (.two (.tr (rl [2, 2, 1]) false .no) (.two (.two (.tr (rl [2, 2, 1, 40]) false .no) (.tr (rl [2, 2, 1]) false (.two (.tr (rl [2, 2, 1]) false (.ops [{}, { cls := some .p }])) .no))) (.two (.two (.tr (rl [2, 2, 1, 44]) false .no) (.tr (rl [2, 0, 1]) false (.two (.two (.tr (rl [2, 0]) false .no) (.tr (rl [2, 0]) false .no)) .no))) (.two (.tr (rl [2, 0]) false .no) (.tr (rl [2, 0]) false .no)))))))))) = some xf49 := by kernel_rfl
def xf74 : XFunc :=
(.mk 8 [(.tmp 3)] (.seq (.tr (rl [0, 0]) false (.region false [(oP 3 (.mv (.lit (.c (.pv (.bool false))))))])) (.seq (.tr (rl [3]) false (.region false [(oP 4
  (.faddr 3 (T 1))), (oR 5 (.load false 1 (T 4))), (oP 6 (.mv (T 0))), (oW 7 (.call false [] (.lit (.c (.fn 75 []))) [(T 5), (T 6)])), (oP 3 (.mv (T 7)))]))
  (.tr (rl [3]) false .ret))))
theorem xf74_ok : cmpFunc Go.Proofs.Tryd.prog 74 ((.two (.tr (rl [0, 0]) false .no) (.two (.tr (rl [3]) false .no) (.tr (rl [3]) false .no)))) = some xf74 := by kernel_rfl
def xf75 : XFunc :=
(.mk 9 [(.tmp 4)] (.seq (.tr (rl [0, 0]) false (.region false [(oP 4 (.mv (.lit (.c (.pv (.bool false))))))])) (.seq (.tr (rl [4]) false (.region false [(oP 5
  (.mv (T 0))), (oP 6 (.mv (T 1))), (oW 7 (.call false [] (.lit (.c (.fn 127 []))) [(T 5), (T 6)])), (oP 8 (.bin .geq (T 7) (tI 0))), (oP 4 (.mv (T 8)))])) (.tr
  (rl [4]) false .ret))))
theorem xf75_ok : cmpFunc Go.Proofs.Tryd.prog 75 ((.two (.tr (rl [0, 0]) false .no) (.two (.tr (rl [4]) false .no) (.tr (rl [4]) false .no)))) = some xf75 := by kernel_rfl
def xf76 : XFunc :=
(.mk 47 [(.tmp 2)] (.seq (.tr (rl [1]) false (.region false [(oW 1 (.box (T 0) 7)), (oP 2 (.mv (.lit (.c (.pv (.bool false))))))])) (.seq (.region false [(oP 3
  (.mv (.lit (.c (.fn 128 [])))))]) (.seq (.tr (rl [2]) false (.region false [(oP 4 (.faddr 0 (T 1))), (oR 5 (.load false 1 (T 4))), (oP 6 (.bin .geq (T 5) (tI
  1))), (oP 7 (.mv (T 6))), (.mk (some 8) (.faddr 0 (T 1)) (some (7, true)) .p), (.mk (some 9) (.load false 1 (T 8)) (some (7, true)) .r), (.mk (some 10) (.bin
  .leq (T 9) (tI 1000000)) (some (7, true)) .p), (oP 11 (.pick (T 7) (T 10) (.lit (.c (.pv (.bool false)))))), (oP 12 (.mv (T 11))), (.mk (some 13) (.faddr 4 (T
  1)) (some (12, true)) .p), (.mk (some 14) (.load false 1 (T 13)) (some (12, true)) .r), (.mk (some 15) (.bin .geq (T 14) (tI 0)) (some (12, true)) .p), (oP 16
  (.pick (T 12) (T 15) (.lit (.c (.pv (.bool false)))))), (oP 17 (.mv (T 16))), (.mk (some 18) (.faddr 4 (T 1)) (some (17, true)) .p), (.mk (some 19) (.load
  false 1 (T 18)) (some (17, true)) .r), (.mk (some 20) (.faddr 0 (T 1)) (some (17, true)) .p), (.mk (some 21) (.load false 1 (T 20)) (some (17, true)) .r),
  (.mk (some 22) (.bin .lss (T 19) (T 21)) (some (17, true)) .p), (oP 23 (.pick (T 17) (T 22) (.lit (.c (.pv (.bool false)))))), (oP 24 (.mv (T 23))), (.mk
  (some 25) (.faddr 5 (T 1)) (some (24, true)) .p), (.mk (some 26) (.load false 1 (T 25)) (some (24, true)) .r), (.mk (some 27) (.bin .geq (T 26) (tI 0)) (some
  (24, true)) .p), (oP 28 (.pick (T 24) (T 27) (.lit (.c (.pv (.bool false)))))), (oP 29 (.mv (T 28))), (.mk (some 30) (.faddr 5 (T 1)) (some (29, true)) .p),
  (.mk (some 31) (.load false 1 (T 30)) (some (29, true)) .r), (.mk (some 32) (.bin .leq (T 31) (tI 4)) (some (29, true)) .p), (oP 33 (.pick (T 29) (T 32) (.lit
  (.c (.pv (.bool false)))))), (oP 34 (.mv (T 33))), (.mk (some 35) (.faddr 6 (T 1)) (some (34, true)) .p), (.mk (some 36) (.load false 1 (T 35)) (some (34,
  true)) .r), (.mk (some 37) (.lenS (T 36)) (some (34, true)) .p), (.mk (some 38) (.bin .leq (T 37) (tI 32)) (some (34, true)) .p), (oP 39 (.pick (T 34) (T 38)
  (.lit (.c (.pv (.bool false)))))), (oP 40 (.mv (T 39))), (.mk (some 41) (.faddr 6 (T 1)) (some (40, true)) .p), (.mk (some 42) (.load false 1 (T 41)) (some
  (40, true)) .r), (.mk (some 43) (.mv (T 3)) (some (40, true)) .p), (.mk (some 44) (.call false [] (.lit (.c (.fn 129 []))) [(T 42), (T 43)]) (some (40, true))
  .w), (.mk (some 45) (.un .not (T 44)) (some (40, true)) .p), (oP 46 (.pick (T 40) (T 45) (.lit (.c (.pv (.bool false)))))), (oP 2 (.mv (T 46)))])) (.tr (rl
  [2]) false .ret)))))
theorem xf76_ok : cmpFunc Go.Proofs.Tryd.prog 76 ((.two (.tr (rl [1]) false .no) (.two .no (.two (.tr (rl [2]) false .no) (.tr (rl [2]) false .no))))) = some xf76 := by kernel_rfl
def xf77 : XFunc :=
(.mk 9 [(.tmp 2)] (.seq (.tr (rl [0]) false (.region false [(oP 2 (.mv (.lit (.c (.pv (.bool false))))))])) (.seq (.tr (rl [2]) false (.region false [(oP 3 (.mv
  (T 0))), (oP 4 (.bin .geq (T 3) (.lit (.c (.pv (.int .i32 (-50000))))))), (oP 5 (.mv (T 4))), (.mk (some 6) (.mv (T 0)) (some (5, true)) .p), (.mk (some 7)
  (.bin .leq (T 6) (.lit (.c (.pv (.int .i32 50000))))) (some (5, true)) .p), (oP 8 (.pick (T 5) (T 7) (.lit (.c (.pv (.bool false)))))), (oP 2 (.mv (T 8)))]))
  (.tr (rl [2]) false .ret))))
theorem xf77_ok : cmpFunc Go.Proofs.Tryd.prog 77 ((.two (.tr (rl [0]) false .no) (.two (.tr (rl [2]) false .no) (.tr (rl [2]) false .no)))) = some xf77 := by kernel_rfl
def xf78 : XFunc :=
(.mk 11 [(.tmp 2)] (.seq (.tr (rl [1]) false (.region false [(oW 1 (.box (T 0) 3)), (oP 2 (.mv (.lit (.c (.pv (.bool false))))))])) (.seq (.tr (rl [2]) false
  (.region false [(oP 3 (.faddr 0 (T 1))), (oR 4 (.load false 1 (T 3))), (oP 5 (.bin .lss (T 4) (tI 1))), (oP 6 (.mv (T 5))), (.mk (some 7) (.faddr 0 (T 1))
  (some (6, false)) .p), (.mk (some 8) (.load false 1 (T 7)) (some (6, false)) .r), (.mk (some 9) (.bin .gtr (T 8) (tI 999)) (some (6, false)) .p), (oP 10
  (.pick (T 6) (.lit (.c (.pv (.bool true)))) (T 9))), (oP 2 (.mv (T 10)))])) (.tr (rl [2]) false .ret))))
theorem xf78_ok : cmpFunc Go.Proofs.Tryd.prog 78 ((.two (.tr (rl [1]) false .no) (.two (.tr (rl [2]) false .no) (.tr (rl [2]) false .no)))) = some xf78 := by kernel_rfl
def xf79 : XFunc :=
(.mk 8 [(.tmp 2)] (.seq (.tr (rl [1]) false (.region false [(oW 1 (.box (T 0) 3)), (oP 2 (.mv (.lit (.c (.pv (.bool false))))))])) (.seq (.tr (rl [2]) false
  (.region false [(oP 3 (.faddr 1 (T 1))), (oP 4 (.faddr 0 (T 3))), (oR 5 (.load false 1 (T 4))), (oP 6 (.call false [] (.lit (.c (.fn 80 []))) [(T 5)])), (oP 7
  (.bin .eql (T 6) (.lit (.c (.pv (.str [])))))), (oP 2 (.mv (T 7)))])) (.tr (rl [2]) false .ret))))
theorem xf79_ok : cmpFunc Go.Proofs.Tryd.prog 79 ((.two (.tr (rl [1]) false .no) (.two (.tr (rl [2]) false (.ops [{}, {}, {}, { cls := some .p }])) (.tr (rl [2]) false .no)))) = some xf79 := by kernel_rfl
def xf80 : XFunc :=
(.mk 10 [(.tmp 2)] (.seq (.tr (rl [0]) false (.region false [(oP 2 (.mv (.lit (.c (.pv (.str []))))))])) (.seq (.seq (.tr (rl [0, 4]) false (.region false [(oP
  3 (.mv (T 0))), (oP 4 (.call false [] (.lit (.c (.fn 130 []))) [(T 3)])), (oP 5 (.un .not (T 4)))])) (.tr (rl [0, 1]) false (.cond (T 5) (.seq (.region false
  [(oP 2 (.mv (.lit (.c (.pv (.str []))))))]) (.tr (rl [2]) false .ret)) .skip))) (.seq (.tr (rl [2]) false (.region false [(oP 6 (.mv (T 0))), (oP 7 (.iaddrA 4
  3 (.lit (.c (.cptr [(.str [69, 85, 82]), (.int .i64 2), (.int .i64 100), (.str [74, 80, 89]), (.int .i64 0), (.int .i64 1), (.str [66, 72, 68]), (.int .i64
  3), (.int .i64 1000), (.str [85, 83, 68]), (.int .i64 2), (.int .i64 100)] 0))) (T 6))), (oP 8 (.faddr 0 (T 7))), (oR 9 (.load false 1 (T 8))), (oP 2 (.mv (T
  9)))])) (.tr (rl [2]) false .ret)))))
theorem xf80_ok : cmpFunc Go.Proofs.Tryd.prog 80 ((.two (.tr (rl [0]) false .no) (.two (.two (.tr (rl [0, 4]) false (.ops [{}, { cls := some .p }])) (.tr (rl [0, 1]) false (.two (.two .no (.tr (rl [2]) false .no)) .no))) (.two (.tr (rl [2]) false .no) (.tr (rl [2]) false .no))))) = some xf80 := by kernel_rfl
def xf81 : XFunc :=
(.mk 7 [(.tmp 2)] (.seq (.tr (rl [1]) false (.region false [(oW 1 (.box (T 0) 3)), (oP 2 (.mv (.lit (.c (.pv (.bool false))))))])) (.seq (.tr (rl [2]) false
  (.region false [(oP 3 (.faddr 1 (T 1))), (oR 4 (.load true 2 (T 3))), (oP 5 (.call false [] (.lit (.c (.fn 82 []))) [(T 4)])), (oP 6 (.un .not (T 5))), (oP 2
  (.mv (T 6)))])) (.tr (rl [2]) false .ret))))
theorem xf81_ok : cmpFunc Go.Proofs.Tryd.prog 81 ((.two (.tr (rl [1]) false .no) (.two (.tr (rl [2]) false (.ops [{}, {}, { cls := some .p }])) (.tr (rl [2]) false .no)))) = some xf81 := by kernel_rfl
def xf82 : XFunc :=
(.mk 16 [(.tmp 2)] (.seq (.tr (rl [1]) false (.region false [(oW 1 (.box (T 0) 2)), (oP 2 (.mv (.lit (.c (.pv (.bool false))))))])) (.seq (.tr (rl [2]) false
  (.region false [(oP 3 (.faddr 0 (T 1))), (oR 4 (.load false 1 (T 3))), (oP 5 (.call false [] (.lit (.c (.fn 130 []))) [(T 4)])), (oP 6 (.mv (T 5))), (.mk
  (some 7) (.faddr 1 (T 1)) (some (6, true)) .p), (.mk (some 8) (.load false 1 (T 7)) (some (6, true)) .r), (.mk (some 9) (.bin .geq (T 8) (.lit (.c (.pv (.int
  .i64 (-1000000000000000)))))) (some (6, true)) .p), (oP 10 (.pick (T 6) (T 9) (.lit (.c (.pv (.bool false)))))), (oP 11 (.mv (T 10))), (.mk (some 12) (.faddr
  1 (T 1)) (some (11, true)) .p), (.mk (some 13) (.load false 1 (T 12)) (some (11, true)) .r), (.mk (some 14) (.bin .leq (T 13) (tI 1000000000000000)) (some
  (11, true)) .p), (oP 15 (.pick (T 11) (T 14) (.lit (.c (.pv (.bool false)))))), (oP 2 (.mv (T 15)))])) (.tr (rl [2]) false .ret))))
theorem xf82_ok : cmpFunc Go.Proofs.Tryd.prog 82 ((.two (.tr (rl [1]) false .no) (.two (.tr (rl [2]) false (.ops [{}, {}, { cls := some .p }])) (.tr (rl [2]) false .no)))) = some xf82 := by kernel_rfl
def xf83 : XFunc :=
(.mk 7 [(.tmp 2)] (.seq (.tr (rl [1]) false (.region false [(oW 1 (.box (T 0) 3)), (oP 2 (.mv (.lit (.c (.pv (.bool false))))))])) (.seq (.tr (rl [2]) false
  (.region false [(oP 3 (.faddr 1 (T 1))), (oP 4 (.faddr 1 (T 3))), (oR 5 (.load false 1 (T 4))), (oP 6 (.bin .eql (T 5) (tI 0))), (oP 2 (.mv (T 6)))])) (.tr
  (rl [2]) false .ret))))
theorem xf83_ok : cmpFunc Go.Proofs.Tryd.prog 83 ((.two (.tr (rl [1]) false .no) (.two (.tr (rl [2]) false .no) (.tr (rl [2]) false .no)))) = some xf83 := by kernel_rfl
def xf84_l0 : XCode :=
(.seq (.region false [(oP 9 (.bin .lss (T 8) (T 7)))]) (.seq (.tr (rl [3, 2, 0, 0]) false (.cond (T 9) .skip (.tr (rl [3]) false (.exit 0)))) (.seq (.tr (rl [3,
  2, 0, 0]) false (.block 1 (.seq (.tr (rl [3, 1, 0, 0, 0]) false (.region false [(oP 10 (.iaddrS 3 (T 6) (T 8))), (oR 11 (.load true 3 (T 10))), (oW 5 (.alloc
  [(.pv (.int .i64 0)), (.pv (.int .i64 0)), (.pv (.int .i64 0))])), (sW (.store 3 (T 5) (T 11)))])) (.tr (rl [3, 2, 0, 0]) false (.region true [(oP 12 (.faddr
  1 (T 5))), (oP 13 (.faddr 0 (T 12))), (oR 14 (.load false 1 (T 13))), (oP 15 (.iaddrA 4 1 (T 3) (T 14))), (oR 16 (.load false 1 (T 15))), (oP 17 (.faddr 1 (T
  5))), (oP 18 (.faddr 1 (T 17))), (oR 19 (.load false 1 (T 18))), (oP 20 (.bin .add (T 16) (T 19))), (oP 21 (.iaddrA 4 1 (T 3) (T 14))), (sW (.store 1 (T 21)
  (T 20)))]))))) (.tr (rl [3, 2, 0, 0]) false (.region false [(oP 22 (.bin .add (T 8) (tI 1))), (oP 8 (.mv (T 22)))])))))
def xf84 : XFunc :=
(.mk 26 [(.tmp 2)] (.seq (.tr (rl [0]) false (.region false [(oP 2 (.mv (.lit (.c (.pv (.bool false))))))])) (.seq (.region false [(oW 3 (.alloc [(.pv (.int
  .i64 0)), (.pv (.int .i64 0)), (.pv (.int .i64 0)), (.pv (.int .i64 0))]))]) (.seq (.seq (.tr (rl [3, 2, 0, 0]) false (.region false [(oP 6 (.mv (T 0))), (oP
  7 (.len (T 6))), (oP 8 (.mv (tI 0)))])) (.tr (rl [3]) false (.block 0 (.loop (rl [3, 2, 0, 0]) xf84_l0)))) (.seq (.tr (rl [2]) false (.region false [(oR 23
  (.load true 4 (T 3))), (oP 24 (.build [(.pv (.int .i64 0)), (.pv (.int .i64 0)), (.pv (.int .i64 0)), (.pv (.int .i64 0))] [])), (oP 25 (.eqA false [0, 0, 0,
  0] (T 23) (T 24))), (oP 2 (.mv (T 25)))])) (.tr (rl [2]) false .ret))))))
theorem xf84_ok : cmpFunc Go.Proofs.Tryd.prog 84 ((.two (.tr (rl [0]) false .no) (.two .no (.two (.two (.tr (rl [3, 2, 0, 0]) false .no) (.tr (rl [3]) false (.loop (rl [3, 2, 0, 0]) (.two .no (.two (.tr (rl [3, 2, 0, 0]) false (.two .no (.tr (rl [3]) false .no))) (.two (.tr (rl [3, 2, 0, 0]) false (.two (.tr (rl [3, 1, 0, 0, 0]) false .no) (.tr (rl [3, 2, 0, 0]) false (.draw [0, 1, 2, 3, 4, 5, 6, 7, 8, 9, 10] [])))) (.tr (rl [3, 2, 0, 0]) false .no))))))) (.two (.tr (rl [2]) false .no) (.tr (rl [2]) false .no)))))) = some xf84 := by kernel_rfl
def xf85 : XFunc :=
(.mk 8 [(.tmp 2)] (.seq (.tr (rl [0]) false (.region false [(oP 2 (.mv (.lit (.c (.pv (.sl .nil 0 []))))))])) (.seq (.seq (.tr (rl [0, 3]) false (.region false
  [(oP 3 (.mv (T 0))), (oP 4 (.eqN 0 false (T 3) (.lit (.c (.pv (.sl .nil 0 []))))))])) (.tr (rl [0, 1]) false (.cond (T 4) (.seq (.region false [(oP 2 (.mv
  (.lit (.c (.pv (.sl .nil 0 []))))))]) (.tr (rl [2]) false .ret)) .skip))) (.seq (.tr (rl [2]) false (.region false [(oP 5 (.buildSl [(.pv (.int .i64 0)), (.pv
  (.int .i64 0)), (.pv (.int .i64 0))] 0 3 [])), (oP 6 (.mv (T 0))), (oW 7 (.app 3 24 (T 5) (T 6))), (oP 2 (.mv (T 7)))])) (.tr (rl [2]) false .ret)))))
theorem xf85_ok : cmpFunc Go.Proofs.Tryd.prog 85 ((.two (.tr (rl [0]) false .no) (.two (.two (.tr (rl [0, 3]) false .no) (.tr (rl [0, 1]) false (.two (.two .no (.tr (rl [2]) false .no)) .no))) (.two (.tr (rl [2]) false .no) (.tr (rl [2]) false .no))))) = some xf85 := by kernel_rfl
def xf86 : XFunc :=
(.mk 13 [(.cell 0 true 7)] (.seq (.region false [(oW 0 (.alloc [(.pv (.int .i64 0)), (.pv (.int .i32 0)), (.pv (.int .i32 0)), (.pv (.sl .nil 0 [])), (.pv (.int
  .i64 0)), (.pv (.int .i64 0)), (.pv (.str []))]))]) (.seq (.tr (rl [0]) false (.region false [(oP 1 (.build [(.pv (.int .i64 0)), (.pv (.int .i64 0))] [(1,
  (1, (.lit (.c (.pv (.int .i64 (-100)))))))])), (oP 2 (.build [(.pv (.int .i64 0)), (.pv (.int .i64 0)), (.pv (.int .i64 0))] [(0, (1, (tI 1))), (1, (2, (T
  1)))])), (oP 3 (.build [(.pv (.int .i64 0)), (.pv (.int .i64 0))] [(1, (1, (tI 60)))])), (oP 4 (.build [(.pv (.int .i64 0)), (.pv (.int .i64 0)), (.pv (.int
  .i64 0))] [(0, (1, (tI 2))), (1, (2, (T 3)))])), (oP 5 (.build [(.pv (.int .i64 0)), (.pv (.int .i64 0))] [(1, (1, (tI 40)))])), (oP 6 (.build [(.pv (.int
  .i64 0)), (.pv (.int .i64 0)), (.pv (.int .i64 0))] [(0, (1, (tI 2))), (1, (2, (T 5)))])), (oP 7 (.build [(.pv (.int .i64 0)), (.pv (.int .i64 0))] [(0, (1,
  (tI 1))), (1, (1, (tI 5)))])), (oP 8 (.build [(.pv (.int .i64 0)), (.pv (.int .i64 0)), (.pv (.int .i64 0))] [(0, (1, (tI 1))), (1, (2, (T 7)))])), (oP 9
  (.build [(.pv (.int .i64 0)), (.pv (.int .i64 0))] [(0, (1, (tI 1))), (1, (1, (.lit (.c (.pv (.int .i64 (-5)))))))])), (oP 10 (.build [(.pv (.int .i64 0)),
  (.pv (.int .i64 0)), (.pv (.int .i64 0))] [(0, (1, (tI 2))), (1, (2, (T 9)))])), (oP 11 (.buildSl [(.pv (.int .i64 0)), (.pv (.int .i64 0)), (.pv (.int .i64
  0))] 5 3 [(0, (3, (T 2))), (3, (3, (T 4))), (6, (3, (T 6))), (9, (3, (T 8))), (12, (3, (T 10)))])), (oP 12 (.build [(.pv (.int .i64 0)), (.pv (.int .i32 0)),
  (.pv (.int .i32 0)), (.pv (.sl .nil 0 [])), (.pv (.int .i64 0)), (.pv (.int .i64 0)), (.pv (.str []))] [(0, (1, (tI 7))), (1, (1, (.lit (.c (.pv (.int .i32
  10)))))), (2, (1, (.lit (.c (.pv (.int .i32 3)))))), (5, (1, (tI 2))), (6, (1, (.lit (.c (.pv (.str [102, 101, 101])))))), (3, (1, (T 11)))])), (sW (.store 7
  (T 0) (T 12)))])) (.tr (rl [0]) false .ret))))
theorem xf86_ok : cmpFunc Go.Proofs.Tryd.prog 86 ((.two .no (.two (.tr (rl [0]) false .no) (.tr (rl [0]) false .no)))) = some xf86 := by kernel_rfl
def xf87_l0 : XCode :=
(.seq (.region false [(oP 19 (.bin .lss (T 18) (T 17)))]) (.seq (.tr (rl [1, 5, 8, 0, 0]) false (.cond (T 19) .skip (.tr (rl [7]) false (.exit 0)))) (.seq (.tr
  (rl [1, 5, 8, 0, 0]) false (.block 1 (.seq (.tr (rl [1, 5, 1, 6, 0, 0]) false (.region false [(oP 20 (.iaddrS 3 (T 16) (T 18))), (oR 21 (.load true 3 (T
  20))), (oW 9 (.alloc [(.pv (.int .i64 0)), (.pv (.int .i64 0)), (.pv (.int .i64 0))])), (sW (.store 3 (T 9) (T 21)))])) (.seq (.tr (rl [1, 5, 1, 6, 0, 0, 5])
  false (.region false [(oP 22 (.mv (T 1))), (oR 23 (.load true 3 (T 9))), (oW 24 (.call false [] (T 22) [(T 23)]))])) (.tr (rl [1, 5, 8, 0, 0]) false (.cond (T
  24) (.tr (rl [1, 5, 8, 0, 0]) false (.region false [(oP 25 (.mv (T 7))), (oP 26 (.faddr 1 (T 9))), (oP 27 (.faddr 1 (T 26))), (oR 28 (.load false 1 (T 27))),
  (oP 29 (.bin .add (T 25) (T 28))), (oP 7 (.mv (T 29)))])) .skip)))))) (.tr (rl [1, 5, 8, 0, 0]) false (.region false [(oP 30 (.bin .add (T 18) (tI 1))), (oP
  18 (.mv (T 30)))])))))
def xf87 : XFunc :=
(.mk 32 [(.tmp 4), (.tmp 5)] (.seq (.tr (rl [1, 0]) false (.region false [(oW 2 (.box (T 0) 7)), (oP 4 (.mv (tI 0))), (oP 5 (.mv (tI 0)))])) (.seq (.seq (.tr
  (rl [1, 0, 3]) false (.region false [(oR 10 (.load true 7 (T 2))), (oP 11 (.call false [] (.lit (.c (.fn 37 []))) [(T 10)])), (oP 6 (.mv (T 11)))])) (.seq
  (.tr (rl [1, 0, 3, 6]) false (.region false [(oP 12 (.mv (T 6))), (oP 13 (.bin .neq (T 12) (tI 0)))])) (.tr (rl [1, 0, 1, 0]) false (.cond (T 13) (.seq (.tr
  (rl [4, 0]) false (.region false [(oP 14 (.mv (T 6))), (oP 4 (.mv (tI 0))), (oP 5 (.mv (T 14)))])) (.tr (rl [4, 0]) false .ret)) .skip)))) (.seq (.region
  false [(oP 7 (.mv (tI 0)))]) (.seq (.seq (.tr (rl [1, 5, 8, 0, 0]) false (.region false [(oP 15 (.faddr 3 (T 2))), (oR 16 (.load false 1 (T 15))), (oP 17
  (.len (T 16))), (oP 18 (.mv (tI 0)))])) (.tr (rl [7]) false (.block 0 (.loop (rl [1, 5, 8, 0, 0]) xf87_l0)))) (.seq (.tr (rl [4, 0]) false (.region false [(oP
  31 (.mv (T 7))), (oP 4 (.mv (T 31))), (oP 5 (.mv (tI 0)))])) (.tr (rl [4, 0]) false .ret)))))))
theorem xf87_ok : cmpFunc Go.Proofs.Tryd.prog 87 ((.two (.tr (rl [1, 0]) false .no) (.two (.two (.tr (rl [1, 0, 3]) false (.ops [{}, { cls := some .p }])) (.two (.tr (rl [1, 0, 3, 6]) false .no) (.tr (rl [1, 0, 1, 0]) false (.two (.two (.tr (rl [4, 0]) false .no) (.tr (rl [4, 0]) false .no)) .no)))) (.two .no (.two (.two (.tr (rl [1, 5, 8, 0, 0]) false .no) (.tr (rl [7]) false (.loop (rl [1, 5, 8, 0, 0]) (.two .no (.two (.tr (rl [1, 5, 8, 0, 0]) false (.two .no (.tr (rl [7]) false .no))) (.two (.tr (rl [1, 5, 8, 0, 0]) false (.two (.tr (rl [1, 5, 1, 6, 0, 0]) false .no) (.two (.tr (rl [1, 5, 1, 6, 0, 0, 5]) false .no) (.tr (rl [1, 5, 8, 0, 0]) false (.two (.tr (rl [1, 5, 8, 0, 0]) false .no) .no))))) (.tr (rl [1, 5, 8, 0, 0]) false .no))))))) (.two (.tr (rl [4, 0]) false .no) (.tr (rl [4, 0]) false .no))))))) = some xf87 := by kernel_rfl
def xf88 : XFunc :=
(.mk 16 [(.tmp 4)] (.seq (.tr (rl [1, 0, 0]) false (.region false [(oW 3 (.box (T 0) 3)), (oP 4 (.mv (.lit (.c (.pv (.bool false))))))])) (.seq (.tr (rl [4])
  false (.region false [(oP 5 (.faddr 0 (T 3))), (oR 6 (.load false 1 (T 5))), (oR 7 (.load false 1 (T 1))), (oP 8 (.bin .eql (T 6) (T 7))), (oP 9 (.mv (T 8))),
  (.mk (some 10) (.faddr 1 (T 3)) (some (9, true)) .p), (.mk (some 11) (.faddr 0 (T 10)) (some (9, true)) .p), (.mk (some 12) (.load false 1 (T 11)) (some (9,
  true)) .r), (.mk (some 13) (.load false 1 (T 2)) (some (9, true)) .r), (.mk (some 14) (.bin .eql (T 12) (T 13)) (some (9, true)) .p), (oP 15 (.pick (T 9) (T
  14) (.lit (.c (.pv (.bool false)))))), (oP 4 (.mv (T 15)))])) (.tr (rl [4]) false .ret))))
theorem xf88_ok : cmpFunc Go.Proofs.Tryd.prog 88 ((.two (.tr (rl [1, 0, 0]) false .no) (.two (.tr (rl [4]) false .no) (.tr (rl [4]) false .no)))) = some xf88 := by kernel_rfl
def xf89 : XFunc :=
(.mk 15 [(.tmp 3)] (.seq (.tr (rl [1, 0]) false (.region false [(oW 2 (.box (T 0) 3)), (oP 3 (.mv (.lit (.c (.pv (.bool false))))))])) (.seq (.tr (rl [3]) false
  (.region false [(oP 4 (.faddr 1 (T 2))), (oP 5 (.faddr 1 (T 4))), (oR 6 (.load false 1 (T 5))), (oP 7 (.bin .gtr (T 6) (tI 0))), (oP 8 (.mv (T 7))), (.mk
  (some 9) (.faddr 1 (T 2)) (some (8, true)) .p), (.mk (some 10) (.faddr 0 (T 9)) (some (8, true)) .p), (.mk (some 11) (.load false 1 (T 10)) (some (8, true))
  .r), (.mk (some 12) (.load false 1 (T 1)) (some (8, true)) .r), (.mk (some 13) (.bin .eql (T 11) (T 12)) (some (8, true)) .p), (oP 14 (.pick (T 8) (T 13)
  (.lit (.c (.pv (.bool false)))))), (oP 3 (.mv (T 14)))])) (.tr (rl [3]) false .ret))))
theorem xf89_ok : cmpFunc Go.Proofs.Tryd.prog 89 ((.two (.tr (rl [1, 0]) false .no) (.two (.tr (rl [3]) false .no) (.tr (rl [3]) false .no)))) = some xf89 := by kernel_rfl
def xf90 : XFunc :=
(.mk 3 [(.tmp 0)] (.seq (.tr [] false (.region false [(oP 0 (.mv (.lit (.c .nilp))))])) (.seq (.tr (rl [0]) false (.region false [(oP 1 (.build [(.pv (.sl .nil
  0 []))] [])), (oW 2 (.box (T 1) 1)), (oP 0 (.mv (T 2)))])) (.tr (rl [0]) false .ret))))
theorem xf90_ok : cmpFunc Go.Proofs.Tryd.prog 90 ((.two (.tr [] false .no) (.two (.tr (rl [0]) false .no) (.tr (rl [0]) false .no)))) = some xf90 := by kernel_rfl
def xf91_l0 : XCode :=
(.seq (.seq (.tr (rl [0, 0, 5]) false (.region false [(oP 6 (.mv (T 1))), (oP 7 (.bin .geq (T 6) (.lit (.c (.pv (.int .u64 128))))))])) (.tr (rl [0, 0]) false
  (.cond (T 7) .skip (.tr (rl [0, 0]) false (.exit 0))))) (.seq (.tr (rl [0, 0]) false (.block 1 (.tr (rl [0, 0]) false (.region false [(oP 10 (.mv (T 0))), (oP
  11 (.mv (T 0))), (oP 12 (.nilc (T 11))), (oP 13 (.faddr 0 (T 12))), (oR 14 (.load false 1 (T 13))), (oP 15 (.mv (T 1))), (oP 16 (.convI .u8 (T 15))), (oP 17
  (.bin .or (T 16) (.lit (.c (.pv (.int .u8 128)))))), (oP 18 (.buildSl [(.pv (.int .u8 0))] 1 1 [(0, (1, (T 17)))])), (oW 19 (.app 1 1 (T 14) (T 18))), (oP 20
  (.nilc (T 10))), (oP 21 (.faddr 0 (T 20))), (sW (.store 1 (T 21) (T 19)))])))) (.tr (rl [0, 0]) false (.region false [(oP 8 (.mv (T 1))), (oP 9 (.bin .shr (T
  8) (.lit (.c (.pv (.int .u64 7)))))), (oP 1 (.mv (T 9)))]))))
def xf91 : XFunc :=
(.mk 33 [] (.seq (.seq (.tr (rl [0, 0, 3]) false (.region false [(oP 4 (.mv (T 0))), (oP 5 (.eqN 1 false (T 4) (.lit (.c .nilp))))])) (.tr (rl [0, 0]) false
  (.cond (T 5) (.tr [] false .ret) .skip))) (.seq (.tr (rl [0, 0]) false (.block 0 (.loop (rl [0, 0]) xf91_l0))) (.tr [] false (.region false [(oP 22 (.mv (T
  0))), (oP 23 (.mv (T 0))), (oP 24 (.nilc (T 23))), (oP 25 (.faddr 0 (T 24))), (oR 26 (.load false 1 (T 25))), (oP 27 (.mv (T 1))), (oP 28 (.convI .u8 (T
  27))), (oP 29 (.buildSl [(.pv (.int .u8 0))] 1 1 [(0, (1, (T 28)))])), (oW 30 (.app 1 1 (T 26) (T 29))), (oP 31 (.nilc (T 22))), (oP 32 (.faddr 0 (T 31))),
  (sW (.store 1 (T 32) (T 30)))])))))
theorem xf91_ok : cmpFunc Go.Proofs.Tryd.prog 91 ((.two (.two (.tr (rl [0, 0, 3]) false .no) (.tr (rl [0, 0]) false (.two (.tr [] false .no) .no))) (.two (.tr (rl [0, 0]) false (.loop (rl [0, 0]) (.two (.two (.tr (rl [0, 0, 5]) false .no) (.tr (rl [0, 0]) false (.two .no (.tr (rl [0, 0]) false .no)))) (.two (.tr (rl [0, 0]) false (.tr (rl [0, 0]) false .no)) (.tr (rl [0, 0]) false .no))))) (.tr [] false .no)))) = some xf91 := by kernel_rfl
def xf92 : XFunc :=
(.mk 13 [] (.tr [] false (.region false [(oP 4 (.mv (T 0))), (oP 5 (.mv (T 1))), (oP 6 (.convI .u64 (T 5))), (oP 7 (.bin .shl (T 6) (.lit (.c (.pv (.int .u64
  1)))))), (oP 8 (.mv (T 1))), (oP 9 (.bin .shr (T 8) (.lit (.c (.pv (.int .u64 63)))))), (oP 10 (.convI .u64 (T 9))), (oP 11 (.bin .xor (T 7) (T 10))), (oW 12
  (.call false [] (.lit (.c (.fn 91 []))) [(T 4), (T 11)]))])))
theorem xf92_ok : cmpFunc Go.Proofs.Tryd.prog 92 ((.tr [] false .no)) = some xf92 := by kernel_rfl
def xf93 : XFunc :=
(.mk 20 [] (.seq (.tr (rl [0, 0, 3]) false (.region false [(oP 4 (.mv (T 0))), (oP 5 (.eqN 1 true (T 4) (.lit (.c .nilp))))])) (.tr [] false (.cond (T 5) (.seq
  (.tr (rl [0, 0]) false (.region false [(oP 6 (.mv (T 0))), (oP 7 (.mv (T 1))), (oP 8 (.lenS (T 7))), (oP 9 (.convI .u64 (T 8))), (oW 10 (.call false [] (.lit
  (.c (.fn 91 []))) [(T 6), (T 9)]))])) (.tr [] false (.region false [(oP 11 (.mv (T 0))), (oP 12 (.mv (T 0))), (oP 13 (.nilc (T 12))), (oP 14 (.faddr 0 (T
  13))), (oR 15 (.load false 1 (T 14))), (oP 16 (.mv (T 1))), (oW 17 (.app 1 1 (T 15) (T 16))), (oP 18 (.nilc (T 11))), (oP 19 (.faddr 0 (T 18))), (sW (.store 1
  (T 19) (T 17)))]))) .skip))))
theorem xf93_ok : cmpFunc Go.Proofs.Tryd.prog 93 ((.two (.tr (rl [0, 0, 3]) false .no) (.tr [] false (.two (.two (.tr (rl [0, 0]) false .no) (.tr [] false .no)) .no)))) = some xf93 := by kernel_rfl
def xf94 : XFunc :=
(.mk 12 [] (.seq (.tr (rl [0, 2]) false (.region false [(oW 3 (.box (T 1) 2))])) (.seq (.tr (rl [0, 2]) false (.region false [(oP 4 (.mv (T 0))), (oP 5 (.faddr
  0 (T 3))), (oR 6 (.load false 1 (T 5))), (oW 7 (.call false [] (.lit (.c (.fn 92 []))) [(T 4), (T 6)]))])) (.tr [] false (.region false [(oP 8 (.mv (T 0))),
  (oP 9 (.faddr 1 (T 3))), (oR 10 (.load false 1 (T 9))), (oW 11 (.call false [] (.lit (.c (.fn 92 []))) [(T 8), (T 10)]))])))))
theorem xf94_ok : cmpFunc Go.Proofs.Tryd.prog 94 ((.two (.tr (rl [0, 2]) false .no) (.two (.tr (rl [0, 2]) false .no) (.tr [] false .no)))) = some xf94 := by kernel_rfl
def xf95 : XFunc :=
(.mk 10 [(.tmp 2)] (.seq (.tr (rl [0]) false (.region false [(oP 2 (.mv (.lit (.c (.pv (.str []))))))])) (.seq (.seq (.tr (rl [0, 3]) false (.region false [(oP
  3 (.mv (T 0))), (oP 4 (.eqN 1 false (T 3) (.lit (.c .nilp))))])) (.tr (rl [0, 1]) false (.cond (T 4) (.seq (.region false [(oP 2 (.mv (.lit (.c (.pv (.str
  []))))))]) (.tr (rl [2]) false .ret)) .skip))) (.seq (.tr (rl [2]) false (.region false [(oP 5 (.mv (T 0))), (oP 6 (.nilc (T 5))), (oP 7 (.faddr 0 (T 6))),
  (oR 8 (.load false 1 (T 7))), (oP 9 (.bytesS (T 8))), (oP 2 (.mv (T 9)))])) (.tr (rl [2]) false .ret)))))
theorem xf95_ok : cmpFunc Go.Proofs.Tryd.prog 95 ((.two (.tr (rl [0]) false .no) (.two (.two (.tr (rl [0, 3]) false .no) (.tr (rl [0, 1]) false (.two (.two .no (.tr (rl [2]) false .no)) .no))) (.two (.tr (rl [2]) false .no) (.tr (rl [2]) false .no))))) = some xf95 := by kernel_rfl
def xf96_l0 : XCode :=
(.seq (.region false [(oP 14 (.bin .lss (T 13) (T 12)))]) (.seq (.tr (rl [0, 0, 10, 0]) false (.cond (T 14) .skip (.tr [] false (.exit 0)))) (.seq (.tr (rl [0,
  0, 2, 7, 0]) false (.block 1 (.seq (.tr (rl [0, 0, 3, 6, 0]) false (.region false [(oP 15 (.mv (T 13))), (oP 5 (.mv (T 15)))])) (.seq (.tr (rl [0, 0, 10, 0,
  10]) false (.region true [(oP 16 (.mv (T 0))), (oP 17 (.mv (T 5))), (oP 18 (.iaddrS 3 (T 16) (T 17))), (oR 19 (.load true 3 (T 18))), (oP 20 (.mv (T 1))), (oP
  21 (.mv (T 5))), (oP 22 (.iaddrS 3 (T 20) (T 21))), (oR 23 (.load true 3 (T 22))), (oP 24 (.eqA true [0, 0, 0] (T 19) (T 23)))])) (.tr (rl [0, 0, 2, 7, 0])
  false (.cond (T 24) (.seq (.region false [(oP 4 (.mv (.lit (.c (.pv (.bool false))))))]) (.tr (rl [4]) false .ret)) .skip)))))) (.tr (rl [0, 0, 10, 0]) false
  (.region false [(oP 25 (.bin .add (T 13) (tI 1))), (oP 13 (.mv (T 25)))])))))
def xf96 : XFunc :=
(.mk 26 [(.tmp 4)] (.seq (.tr (rl [0, 0]) false (.region false [(oP 4 (.mv (.lit (.c (.pv (.bool false))))))])) (.seq (.seq (.tr (rl [0, 0, 8]) false (.region
  false [(oP 6 (.mv (T 0))), (oP 7 (.len (T 6))), (oP 8 (.mv (T 1))), (oP 9 (.len (T 8))), (oP 10 (.bin .neq (T 7) (T 9)))])) (.tr (rl [0, 0, 2]) false (.cond
  (T 10) (.seq (.region false [(oP 4 (.mv (.lit (.c (.pv (.bool false))))))]) (.tr (rl [4]) false .ret)) .skip))) (.seq (.seq (.tr (rl [0, 0, 10, 0]) false
  (.region false [(oP 11 (.mv (T 0))), (oP 12 (.len (T 11))), (oP 13 (.mv (tI 0)))])) (.tr (rl [4]) false (.block 0 (.loop (rl [0, 0, 10, 0]) xf96_l0)))) (.seq
  (.region false [(oP 4 (.mv (.lit (.c (.pv (.bool true))))))]) (.tr (rl [4]) false .ret))))))
theorem xf96_ok : cmpFunc Go.Proofs.Tryd.prog 96 ((.two (.tr (rl [0, 0]) false .no) (.two (.two (.tr (rl [0, 0, 8]) false .no) (.tr (rl [0, 0, 2]) false (.two (.two .no (.tr (rl [4]) false .no)) .no))) (.two (.two (.tr (rl [0, 0, 10, 0]) false .no) (.tr (rl [4]) false (.loop (rl [0, 0, 10, 0]) (.two .no (.two (.tr (rl [0, 0, 10, 0]) false (.two .no (.tr [] false .no))) (.two (.tr (rl [0, 0, 2, 7, 0]) false (.two (.tr (rl [0, 0, 3, 6, 0]) false .no) (.two (.tr (rl [0, 0, 10, 0, 10]) false (.draw [0, 1, 2, 3, 4, 5, 6, 7, 8] [])) (.tr (rl [0, 0, 2, 7, 0]) false (.two (.two .no (.tr (rl [4]) false .no)) .no))))) (.tr (rl [0, 0, 10, 0]) false .no))))))) (.two .no (.tr (rl [4]) false .no)))))) = some xf96 := by kernel_rfl
def xf101 : XFunc :=
(.mk 6 [(.tmp 2)] (.seq (.tr (rl [0]) false (.region false [(oP 2 (.mv (.lit (.c .nilp))))])) (.seq (.tr (rl [2]) false (.region false [(oP 3 (.mv (T 0))), (oP
  4 (.build [(.pv (.str [])), (.pv (.int .i64 0))] [(0, (1, (T 3)))])), (oW 5 (.box (T 4) 2)), (oP 2 (.mv (T 5)))])) (.tr (rl [2]) false .ret))))
theorem xf101_ok : cmpFunc Go.Proofs.Tryd.prog 101 ((.two (.tr (rl [0]) false .no) (.two (.tr (rl [2]) false .no) (.tr (rl [2]) false .no)))) = some xf101 := by kernel_rfl
def xf102 : XFunc :=
(.mk 7 [(.tmp 2)] (.seq (.tr (rl [0]) false (.region false [(oP 2 (.mv (tI 0)))])) (.seq (.seq (.tr (rl [0, 3]) false (.region false [(oP 3 (.mv (T 0))), (oP 4
  (.bin .gtr (T 3) (.lit (.c (.pv (.int .u64 1000000))))))])) (.tr (rl [0, 1]) false (.cond (T 4) (.seq (.region false [(oP 2 (.mv (.lit (.c (.pv (.int .i64
  (-1)))))))]) (.tr (rl [2]) false .ret)) .skip))) (.seq (.tr (rl [2]) false (.region false [(oP 5 (.mv (T 0))), (oP 6 (.convI .i64 (T 5))), (oP 2 (.mv (T
  6)))])) (.tr (rl [2]) false .ret)))))
theorem xf102_ok : cmpFunc Go.Proofs.Tryd.prog 102 ((.two (.tr (rl [0]) false .no) (.two (.two (.tr (rl [0, 3]) false .no) (.tr (rl [0, 1]) false (.two (.two .no (.tr (rl [2]) false .no)) .no))) (.two (.tr (rl [2]) false .no) (.tr (rl [2]) false .no))))) = some xf102 := by kernel_rfl
def xf103 : XFunc :=
(.mk 5 [(.tmp 2)] (.seq (.tr (rl [0]) false (.region false [(oP 2 (.mv (.lit (.c (.pv (.int .u64 0))))))])) (.seq (.tr (rl [2]) false (.region false [(oP 3 (.mv
  (T 0))), (oW 4 (.call false [] (.lit (.c (.fn 131 []))) [(T 3), (.lit (.c (.fn 132 [])))])), (oP 2 (.mv (T 4)))])) (.tr (rl [2]) false .ret))))
theorem xf103_ok : cmpFunc Go.Proofs.Tryd.prog 103 ((.two (.tr (rl [0]) false .no) (.two (.tr (rl [2]) false .no) (.tr (rl [2]) false .no)))) = some xf103 := by kernel_rfl
def xf104 : XFunc :=
(.mk 11 [(.tmp 2)] (.seq (.tr (rl [0]) false (.region false [(oP 2 (.mv (.lit (.c (.pv (.int .i32 0))))))])) (.seq (.seq (.tr (rl [0, 7]) false (.region false
  [(oP 3 (.mv (T 0))), (oP 4 (.bin .lss (T 3) (.lit (.c (.pv (.int .i64 (-50000))))))), (oP 5 (.mv (T 4))), (.mk (some 6) (.mv (T 0)) (some (5, false)) .p),
  (.mk (some 7) (.bin .gtr (T 6) (tI 50000)) (some (5, false)) .p), (oP 8 (.pick (T 5) (.lit (.c (.pv (.bool true)))) (T 7)))])) (.tr (rl [0, 1]) false (.cond
  (T 8) (.seq (.region false [(oP 2 (.mv (.lit (.c (.pv (.int .i32 50001))))))]) (.tr (rl [2]) false .ret)) .skip))) (.seq (.tr (rl [2]) false (.region false
  [(oP 9 (.mv (T 0))), (oP 10 (.convI .i32 (T 9))), (oP 2 (.mv (T 10)))])) (.tr (rl [2]) false .ret)))))
theorem xf104_ok : cmpFunc Go.Proofs.Tryd.prog 104 ((.two (.tr (rl [0]) false .no) (.two (.two (.tr (rl [0, 7]) false .no) (.tr (rl [0, 1]) false (.two (.two .no (.tr (rl [2]) false .no)) .no))) (.two (.tr (rl [2]) false .no) (.tr (rl [2]) false .no))))) = some xf104 := by kernel_rfl
def xf105 : XFunc :=
(.mk 6 [(.tmp 2)] (.seq (.tr (rl [0]) false (.region false [(oP 2 (.mv (tI 0)))])) (.seq (.tr (rl [2]) false (.region false [(oP 3 (.mv (T 0))), (oW 4 (.call
  false [] (.lit (.c (.fn 131 []))) [(T 3), (.lit (.c (.fn 132 [])))])), (oP 5 (.call false [] (.lit (.c (.fn 133 []))) [(T 4)])), (oP 2 (.mv (T 5)))])) (.tr
  (rl [2]) false .ret))))
theorem xf105_ok : cmpFunc Go.Proofs.Tryd.prog 105 ((.two (.tr (rl [0]) false .no) (.two (.tr (rl [2]) false (.ops [{}, {}, { cls := some .p }])) (.tr (rl [2]) false .no)))) = some xf105 := by kernel_rfl
def xf106 : XFunc :=
(.mk 8 [(.tmp 4)] (.seq (.tr (rl [0, 2]) false (.region false [(oW 3 (.box (T 1) 1)), (oP 4 (.mv (.lit (.c (.pv (.str []))))))])) (.seq (.tr (rl [4]) false
  (.region false [(oP 5 (.mv (T 0))), (oP 6 (.mkfn 135 [(T 3)])), (oW 7 (.call false [] (.lit (.c (.fn 134 []))) [(T 5), (T 6)])), (oP 4 (.mv (T 7)))])) (.tr
  (rl [4]) false .ret))))
theorem xf106_ok : cmpFunc Go.Proofs.Tryd.prog 106 ((.two (.tr (rl [0, 2]) false .no) (.two (.tr (rl [4]) false .no) (.tr (rl [4]) false .no)))) = some xf106 := by kernel_rfl
def xf107 : XFunc :=
(.mk 8 [(.tmp 4)] (.seq (.tr (rl [0, 2]) false (.region false [(oW 3 (.box (T 1) 1)), (oP 4 (.mv (tI 0)))])) (.seq (.tr (rl [4]) false (.region false [(oP 5
  (.mv (T 0))), (oP 6 (.mkfn 137 [(T 3)])), (oW 7 (.call false [] (.lit (.c (.fn 136 []))) [(T 5), (T 6)])), (oP 4 (.mv (T 7)))])) (.tr (rl [4]) false .ret))))
theorem xf107_ok : cmpFunc Go.Proofs.Tryd.prog 107 ((.two (.tr (rl [0, 2]) false .no) (.two (.tr (rl [4]) false .no) (.tr (rl [4]) false .no)))) = some xf107 := by kernel_rfl
def xf108 : XFunc :=
(.mk 5 [(.cell 2 true 2)] (.seq (.region false [(oW 2 (.alloc [(.pv (.int .i64 0)), (.pv (.int .i64 0))]))]) (.seq (.tr (rl [2]) false (.region false [(oP 3
  (.mv (T 0))), (oW 4 (.call false [] (.lit (.c (.fn 138 []))) [(T 3), (.lit (.c (.fn 139 [])))])), (sW (.store 2 (T 2) (T 4)))])) (.tr (rl [2]) false .ret))))
theorem xf108_ok : cmpFunc Go.Proofs.Tryd.prog 108 ((.two .no (.two (.tr (rl [2]) false .no) (.tr (rl [2]) false .no)))) = some xf108 := by kernel_rfl
def xf109 : XFunc :=
(.mk 15 [(.tmp 2)] (.seq (.tr (rl [0]) false (.region false [(oP 2 (.mv (tI 0)))])) (.seq (.seq (.tr (rl [0, 2]) false (.region false [(oP 4 (.mv (T 0))), (oW 5
  (.call false [] (.lit (.c (.fn 140 []))) [(T 4)])), (oP 3 (.mv (T 5)))])) (.seq (.tr (rl [0, 2, 3]) false (.region false [(oP 6 (.mv (T 3))), (oP 7 (.bin .neq
  (T 6) (tI 0)))])) (.tr (rl [0, 1]) false (.cond (T 7) (.seq (.tr (rl [2]) false (.region false [(oP 8 (.mv (T 3))), (oP 2 (.mv (T 8)))])) (.tr (rl [2]) false
  .ret)) .skip)))) (.seq (.seq (.tr (rl [14]) false (.region false [(oP 9 (.mv (T 0))), (oP 10 (.nilc (T 9))), (oP 11 (.faddr 0 (T 10))), (oR 12 (.load false 1
  (T 11))), (oP 13 (.lenS (T 12))), (oP 14 (.bin .gtr (T 13) (tI 0)))])) (.tr (rl [2]) false (.cond (T 14) (.seq (.region false [(oP 2 (.mv (tI 3)))]) (.tr (rl
  [2]) false .ret)) .skip))) (.seq (.region false [(oP 2 (.mv (tI 0)))]) (.tr (rl [2]) false .ret))))))
theorem xf109_ok : cmpFunc Go.Proofs.Tryd.prog 109 ((.two (.tr (rl [0]) false .no) (.two (.two (.tr (rl [0, 2]) false .no) (.two (.tr (rl [0, 2, 3]) false .no) (.tr (rl [0, 1]) false (.two (.two (.tr (rl [2]) false .no) (.tr (rl [2]) false .no)) .no)))) (.two (.two (.tr (rl [14]) false .no) (.tr (rl [2]) false (.two (.two .no (.tr (rl [2]) false .no)) .no))) (.two .no (.tr (rl [2]) false .no)))))) = some xf109 := by kernel_rfl
def xf127_l0 : XCode :=
(.seq (.region false [(oP 9 (.bin .lss (T 8) (T 7)))]) (.seq (.tr (rl [0, 0, 5, 0]) false (.cond (T 9) .skip (.tr [] false (.exit 0)))) (.seq (.tr (rl [0, 0, 2,
  2, 0]) false (.block 1 (.seq (.tr (rl [0, 0, 3, 1, 0]) false (.region false [(oP 10 (.mv (T 8))), (oP 5 (.mv (T 10)))])) (.seq (.tr (rl [0, 0, 3, 1, 0, 7])
  false (.region false [(oP 11 (.mv (T 1))), (oP 12 (.mv (T 0))), (oP 13 (.mv (T 5))), (oP 14 (.iaddrS 3 (T 12) (T 13))), (oR 15 (.load true 3 (T 14))), (oW 16
  (.call false [] (T 11) [(T 15)]))])) (.tr (rl [0, 0, 2, 2, 0]) false (.cond (T 16) (.seq (.tr (rl [4]) false (.region false [(oP 17 (.mv (T 5))), (oP 4 (.mv
  (T 17)))])) (.tr (rl [4]) false .ret)) .skip)))))) (.tr (rl [0, 0, 5, 0]) false (.region false [(oP 18 (.bin .add (T 8) (tI 1))), (oP 8 (.mv (T 18)))])))))
def xf127 : XFunc :=
(.mk 19 [(.tmp 4)] (.seq (.tr (rl [0, 0]) false (.region false [(oP 4 (.mv (tI 0)))])) (.seq (.seq (.tr (rl [0, 0, 5, 0]) false (.region false [(oP 6 (.mv (T
  0))), (oP 7 (.len (T 6))), (oP 8 (.mv (tI 0)))])) (.tr (rl [4]) false (.block 0 (.loop (rl [0, 0, 5, 0]) xf127_l0)))) (.seq (.region false [(oP 4 (.mv (.lit
  (.c (.pv (.int .i64 (-1)))))))]) (.tr (rl [4]) false .ret)))))
theorem xf127_ok : cmpFunc Go.Proofs.Tryd.prog 127 ((.two (.tr (rl [0, 0]) false .no) (.two (.two (.tr (rl [0, 0, 5, 0]) false .no) (.tr (rl [4]) false (.loop (rl [0, 0, 5, 0]) (.two .no (.two (.tr (rl [0, 0, 5, 0]) false (.two .no (.tr [] false .no))) (.two (.tr (rl [0, 0, 2, 2, 0]) false (.two (.tr (rl [0, 0, 3, 1, 0]) false .no) (.two (.tr (rl [0, 0, 3, 1, 0, 7]) false .no) (.tr (rl [0, 0, 2, 2, 0]) false (.two (.two (.tr (rl [4]) false .no) (.tr (rl [4]) false .no)) .no))))) (.tr (rl [0, 0, 5, 0]) false .no))))))) (.two .no (.tr (rl [4]) false .no))))) = some xf127 := by kernel_rfl
def xf128 : XFunc :=
(.mk 9 [(.tmp 2)] (.seq (.tr (rl [0]) false (.region false [(oP 2 (.mv (.lit (.c (.pv (.bool false))))))])) (.seq (.tr (rl [2]) false (.region false [(oP 3 (.mv
  (T 0))), (oP 4 (.bin .lss (T 3) (.lit (.c (.pv (.int .i32 32)))))), (oP 5 (.mv (T 4))), (.mk (some 6) (.mv (T 0)) (some (5, false)) .p), (.mk (some 7) (.bin
  .gtr (T 6) (.lit (.c (.pv (.int .i32 126))))) (some (5, false)) .p), (oP 8 (.pick (T 5) (.lit (.c (.pv (.bool true)))) (T 7))), (oP 2 (.mv (T 8)))])) (.tr (rl
  [2]) false .ret))))
theorem xf128_ok : cmpFunc Go.Proofs.Tryd.prog 128 ((.two (.tr (rl [0]) false .no) (.two (.tr (rl [2]) false .no) (.tr (rl [2]) false .no)))) = some xf128 := by kernel_rfl
def xf129 : XFunc :=
(.mk 9 [(.tmp 4)] (.seq (.tr (rl [0, 0]) false (.region false [(oP 4 (.mv (.lit (.c (.pv (.bool false))))))])) (.seq (.tr (rl [4]) false (.region false [(oP 5
  (.mv (T 0))), (oP 6 (.mv (T 1))), (oW 7 (.call false [] (.lit (.c (.fn 151 []))) [(T 5), (T 6)])), (oP 8 (.bin .geq (T 7) (tI 0))), (oP 4 (.mv (T 8)))])) (.tr
  (rl [4]) false .ret))))
theorem xf129_ok : cmpFunc Go.Proofs.Tryd.prog 129 ((.two (.tr (rl [0, 0]) false .no) (.two (.tr (rl [4]) false .no) (.tr (rl [4]) false .no)))) = some xf129 := by kernel_rfl
def xf130 : XFunc :=
(.mk 9 [(.tmp 2)] (.seq (.tr (rl [0]) false (.region false [(oP 2 (.mv (.lit (.c (.pv (.bool false))))))])) (.seq (.tr (rl [2]) false (.region false [(oP 3 (.mv
  (T 0))), (oP 4 (.bin .geq (T 3) (tI 0))), (oP 5 (.mv (T 4))), (.mk (some 6) (.mv (T 0)) (some (5, true)) .p), (.mk (some 7) (.bin .lss (T 6) (tI 4)) (some (5,
  true)) .p), (oP 8 (.pick (T 5) (T 7) (.lit (.c (.pv (.bool false)))))), (oP 2 (.mv (T 8)))])) (.tr (rl [2]) false .ret))))
theorem xf130_ok : cmpFunc Go.Proofs.Tryd.prog 130 ((.two (.tr (rl [0]) false .no) (.two (.tr (rl [2]) false .no) (.tr (rl [2]) false .no)))) = some xf130 := by kernel_rfl
def xf131 : XFunc :=
(.mk 46 [(.tmp 4)] (.seq (.tr (rl [0, 0]) false (.region false [(oP 4 (.mv (.lit (.c (.pv (.int .u64 0))))))])) (.seq (.region false [(oP 5 (.mv (.lit (.c (.pv
  (.int .u64 0))))))]) (.seq (.seq (.tr (rl [0, 0, 3, 11]) false (.region false [(oP 9 (.mv (T 0))), (oP 10 (.eqN 1 false (T 9) (.lit (.c .nilp)))), (oP 11 (.mv
  (T 10))), (.mk (some 12) (.mv (T 0)) (some (11, false)) .p), (.mk (some 13) (.nilc (T 12)) (some (11, false)) .p), (.mk (some 14) (.faddr 1 (T 13)) (some (11,
  false)) .p), (.mk (some 15) (.load false 1 (T 14)) (some (11, false)) .r), (.mk (some 16) (.bin .neq (T 15) (tI 0)) (some (11, false)) .p), (oP 17 (.pick (T
  11) (.lit (.c (.pv (.bool true)))) (T 16)))])) (.tr (rl [0, 0, 2, 0]) false (.cond (T 17) (.seq (.tr (rl [4]) false (.region false [(oP 18 (.mv (T 5))), (oP 4
  (.mv (T 18)))])) (.tr (rl [4]) false .ret)) .skip))) (.seq (.tr (rl [0, 4, 0, 0, 0]) false (.region false [(oP 20 (.mv (T 1))), (oP 21 (.mv (T 0))), (oP 22
  (.nilc (T 21))), (oP 23 (.faddr 0 (T 22))), (oR 24 (.load false 1 (T 23))), (oW 25 (.call false [] (T 20) [(T 24)])), (oP 19 (.mv (T 25))), (oP 26 (.extr 0 (T
  19))), (oP 27 (.extr 1 (T 19))), (oP 28 (.extr 2 (T 19))), (oP 6 (.mv (T 26))), (oP 7 (.mv (T 27))), (oP 8 (.mv (T 28)))])) (.seq (.seq (.tr (rl [0, 4, 0, 0,
  0, 21]) false (.region false [(oP 29 (.mv (T 8))), (oP 30 (.bin .neq (T 29) (tI 0)))])) (.tr (rl [0, 3, 1, 0]) false (.cond (T 30) (.seq (.tr (rl [5]) false
  (.region false [(oP 31 (.mv (T 0))), (oP 32 (.mv (T 8))), (oP 33 (.nilc (T 31))), (oP 34 (.faddr 1 (T 33))), (sW (.store 1 (T 34) (T 32)))])) (.seq (.tr (rl
  [4]) false (.region false [(oP 35 (.mv (T 5))), (oP 4 (.mv (T 35)))])) (.tr (rl [4]) false .ret))) .skip))) (.seq (.tr (rl [6]) false (.region false [(oP 36
  (.mv (T 0))), (oP 37 (.mv (T 0))), (oP 38 (.nilc (T 37))), (oP 39 (.faddr 0 (T 38))), (oR 40 (.load false 1 (T 39))), (oP 41 (.mv (T 7))), (oP 42 (.sliceS (T
  40) (some (T 41)) none)), (oP 43 (.nilc (T 36))), (oP 44 (.faddr 0 (T 43))), (sW (.store 1 (T 44) (T 42)))])) (.seq (.tr (rl [4]) false (.region false [(oP 45
  (.mv (T 6))), (oP 4 (.mv (T 45)))])) (.tr (rl [4]) false .ret)))))))))
theorem xf131_ok : cmpFunc Go.Proofs.Tryd.prog 131 ((.two (.tr (rl [0, 0]) false .no) (.two .no (.two (.two (.tr (rl [0, 0, 3, 11]) false .no) (.tr (rl [0, 0, 2, 0]) false (.two (.two (.tr (rl [4]) false .no) (.tr (rl [4]) false .no)) .no))) (.two (.tr (rl [0, 4, 0, 0, 0]) false .no) (.two (.two (.tr (rl [0, 4, 0, 0, 0, 21]) false .no) (.tr (rl [0, 3, 1, 0]) false (.two (.two (.tr (rl [5]) false .no) (.two (.tr (rl [4]) false .no) (.tr (rl [4]) false .no))) .no))) (.two (.tr (rl [6]) false .no) (.two (.tr (rl [4]) false .no) (.tr (rl [4]) false .no))))))))) = some xf131 := by kernel_rfl
def xf132_l0 : XCode :=
(.seq (.region false [(oP 13 (.bin .lss (T 12) (T 11)))]) (.seq (.tr (rl [0, 4, 0, 0, 3, 0]) false (.cond (T 13) .skip (.tr (rl [5, 0, 0]) false (.exit 0))))
  (.seq (.tr (rl [0, 4, 0, 0, 3, 0]) false (.block 1 (.seq (.tr (rl [0, 4, 0, 0, 0, 2, 0]) false (.region false [(oP 14 (.mv (T 12))), (oP 8 (.mv (T 14)))]))
  (.seq (.tr (rl [0, 4, 0, 0, 0, 0, 1, 0]) false (.region false [(oP 15 (.mv (T 0))), (oP 16 (.mv (T 8))), (oP 17 (.idxS (T 15) (T 16))), (oP 9 (.mv (T 17)))]))
  (.seq (.tr (rl [0, 4, 0, 0, 0, 0, 1, 0]) false (.block 2 (.seq (.tr (rl [0, 4, 0, 0, 0, 0, 1, 0, 5]) false (.region false [(oP 19 (.mv (T 8))), (oP 20 (.bin
  .eql (T 19) (tI 9))), (oP 21 (.mv (T 20))), (.mk (some 22) (.mv (T 9)) (some (21, true)) .p), (.mk (some 23) (.bin .gtr (T 22) (.lit (.c (.pv (.int .u8 1)))))
  (some (21, true)) .p), (oP 24 (.pick (T 21) (T 23) (.lit (.c (.pv (.bool false)))))), (oP 25 (.mv (T 24))), (.mk (some 26) (.mv (T 8)) (some (25, false)) .p),
  (.mk (some 27) (.bin .gtr (T 26) (tI 0)) (some (25, false)) .p), (.mk (some 28) (.mv (T 27)) (some (25, false)) .p), (.mk (some 29) (.mv (T 9)) (some (28,
  true)) .p), (.mk (some 30) (.bin .eql (T 29) (.lit (.c (.pv (.int .u8 0))))) (some (28, true)) .p), (.mk (some 31) (.pick (T 28) (T 30) (.lit (.c (.pv (.bool
  false))))) (some (25, false)) .p), (oP 32 (.pick (T 25) (.lit (.c (.pv (.bool true)))) (T 31))), (oP 18 (.mv (T 32)))])) (.tr (rl [0, 4, 0, 0, 0, 0, 1, 0])
  false (.cond (T 18) (.seq (.region false [(oP 7 (.mv (tI 3)))]) (.tr (rl [5, 0, 0]) false (.exit 0))) (.seq (.tr (rl [0, 4, 0, 0, 0, 0, 1, 0, 20]) false
  (.region false [(oP 34 (.mv (T 9))), (oP 35 (.bin .lss (T 34) (.lit (.c (.pv (.int .u8 128)))))), (oP 33 (.mv (T 35)))])) (.tr (rl [0, 4, 0, 0, 0, 0, 1, 0])
  false (.cond (T 33) (.seq (.tr (rl [5, 0, 0]) false (.region false [(oP 36 (.mv (T 5))), (oP 37 (.mv (T 9))), (oP 38 (.convI .u64 (T 37))), (oP 39 (.mv (T
  8))), (oP 40 (.bin .mul (tI 7) (T 39))), (oP 41 (.bin .shl (T 38) (T 40))), (oP 42 (.bin .or (T 36) (T 41))), (oP 43 (.mv (T 8))), (oP 44 (.bin .add (T 43)
  (tI 1))), (oP 5 (.mv (T 42))), (oP 6 (.mv (T 44))), (oP 7 (.mv (tI 0)))])) (.tr (rl [5, 0, 0]) false (.exit 0))) .skip)))))))) (.tr (rl [0, 4, 0, 0, 3, 0])
  false (.region false [(oP 45 (.mv (T 5))), (oP 46 (.mv (T 9))), (oP 47 (.bin .and (T 46) (.lit (.c (.pv (.int .u8 127)))))), (oP 48 (.convI .u64 (T 47))), (oP
  49 (.mv (T 8))), (oP 50 (.bin .mul (tI 7) (T 49))), (oP 51 (.bin .shl (T 48) (T 50))), (oP 52 (.bin .or (T 45) (T 51))), (oP 5 (.mv (T 52)))]))))))) (.tr (rl
  [0, 4, 0, 0, 3, 0]) false (.region false [(oP 53 (.bin .add (T 12) (tI 1))), (oP 12 (.mv (T 53)))])))))
def xf132 : XFunc :=
(.mk 57 [(.tmp 2), (.tmp 3), (.tmp 4)] (.seq (.tr (rl [0]) false (.region false [(oP 2 (.mv (.lit (.c (.pv (.int .u64 0)))))), (oP 3 (.mv (tI 0))), (oP 4 (.mv
  (tI 0)))])) (.scope (.seq (.region false [(oP 5 (.mv (.lit (.c (.pv (.int .u64 0)))))), (oP 6 (.mv (tI 0)))]) (.seq (.region false [(oP 7 (.mv (tI 2)))])
  (.seq .label (.seq (.seq (.tr (rl [0, 4, 0, 0, 3, 0]) false (.region false [(oP 10 (.mv (T 0))), (oP 11 (.lenS (T 10))), (oP 12 (.mv (tI 0)))])) (.tr (rl [5,
  0, 0]) false (.block 0 (.loop (rl [0, 4, 0, 0, 3, 0]) xf132_l0)))) (.seq (.tr (rl [2, 0, 0]) false (.region false [(oP 54 (.mv (T 5))), (oP 55 (.mv (T 6))),
  (oP 56 (.mv (T 7))), (oP 2 (.mv (T 54))), (oP 3 (.mv (T 55))), (oP 4 (.mv (T 56)))])) (.tr (rl [2, 0, 0]) false .ret)))))))))
theorem xf132_ok : cmpFunc Go.Proofs.Tryd.prog 132 ((.two (.tr (rl [0]) false .no) (.two .no (.two .no (.two .no (.two (.two (.tr (rl [0, 4, 0, 0, 3, 0]) false .no) (.tr (rl [5, 0, 0]) false (.loop (rl [0, 4, 0, 0, 3, 0]) (.two .no (.two (.tr (rl [0, 4, 0, 0, 3, 0]) false (.two .no (.tr (rl [5, 0, 0]) false .no))) (.two (.tr (rl [0, 4, 0, 0, 3, 0]) false (.two (.tr (rl [0, 4, 0, 0, 0, 2, 0]) false .no) (.two (.tr (rl [0, 4, 0, 0, 0, 0, 1, 0]) false .no) (.two (.tr (rl [0, 4, 0, 0, 0, 0, 1, 0]) false (.two (.tr (rl [0, 4, 0, 0, 0, 0, 1, 0, 5]) false .no) (.tr (rl [0, 4, 0, 0, 0, 0, 1, 0]) false (.two (.two .no (.tr (rl [5, 0, 0]) false .no)) (.two (.tr (rl [0, 4, 0, 0, 0, 0, 1, 0, 20]) false .no) (.tr (rl [0, 4, 0, 0, 0, 0, 1, 0]) false (.two (.two (.tr (rl [5, 0, 0]) false .no) (.tr (rl [5, 0, 0]) false .no)) .no))))))) (.tr (rl [0, 4, 0, 0, 3, 0]) false .no))))) (.tr (rl [0, 4, 0, 0, 3, 0]) false .no))))))) (.two (.tr (rl [2, 0, 0]) false .no) (.tr (rl [2, 0, 0]) false .no)))))))) = some xf132 := by kernel_rfl
def xf133 : XFunc :=
(.mk 11 [(.tmp 2)] (.seq (.tr (rl [0]) false (.region false [(oP 2 (.mv (tI 0)))])) (.seq (.tr (rl [2]) false (.region false [(oP 3 (.mv (T 0))), (oP 4 (.bin
  .shr (T 3) (.lit (.c (.pv (.int .u64 1)))))), (oP 5 (.convI .i64 (T 4))), (oP 6 (.mv (T 0))), (oP 7 (.bin .and (T 6) (.lit (.c (.pv (.int .u64 1)))))), (oP 8
  (.convI .i64 (T 7))), (oP 9 (.un .neg (T 8))), (oP 10 (.bin .xor (T 5) (T 9))), (oP 2 (.mv (T 10)))])) (.tr (rl [2]) false .ret))))
theorem xf133_ok : cmpFunc Go.Proofs.Tryd.prog 133 ((.two (.tr (rl [0]) false .no) (.two (.tr (rl [2]) false .no) (.tr (rl [2]) false .no)))) = some xf133 := by kernel_rfl
def xf134 : XFunc :=
(.mk 46 [(.tmp 4)] (.seq (.tr (rl [0, 0]) false (.region false [(oP 4 (.mv (.lit (.c (.pv (.str []))))))])) (.seq (.region false [(oP 5 (.mv (.lit (.c (.pv
  (.str []))))))]) (.seq (.seq (.tr (rl [0, 0, 3, 11]) false (.region false [(oP 9 (.mv (T 0))), (oP 10 (.eqN 1 false (T 9) (.lit (.c .nilp)))), (oP 11 (.mv (T
  10))), (.mk (some 12) (.mv (T 0)) (some (11, false)) .p), (.mk (some 13) (.nilc (T 12)) (some (11, false)) .p), (.mk (some 14) (.faddr 1 (T 13)) (some (11,
  false)) .p), (.mk (some 15) (.load false 1 (T 14)) (some (11, false)) .r), (.mk (some 16) (.bin .neq (T 15) (tI 0)) (some (11, false)) .p), (oP 17 (.pick (T
  11) (.lit (.c (.pv (.bool true)))) (T 16)))])) (.tr (rl [0, 0, 2, 0]) false (.cond (T 17) (.seq (.tr (rl [4]) false (.region false [(oP 18 (.mv (T 5))), (oP 4
  (.mv (T 18)))])) (.tr (rl [4]) false .ret)) .skip))) (.seq (.tr (rl [0, 4, 0, 0, 0]) false (.region false [(oP 20 (.mv (T 1))), (oP 21 (.mv (T 0))), (oP 22
  (.nilc (T 21))), (oP 23 (.faddr 0 (T 22))), (oR 24 (.load false 1 (T 23))), (oW 25 (.call false [] (T 20) [(T 24)])), (oP 19 (.mv (T 25))), (oP 26 (.extr 0 (T
  19))), (oP 27 (.extr 1 (T 19))), (oP 28 (.extr 2 (T 19))), (oP 6 (.mv (T 26))), (oP 7 (.mv (T 27))), (oP 8 (.mv (T 28)))])) (.seq (.seq (.tr (rl [0, 4, 0, 0,
  0, 21]) false (.region false [(oP 29 (.mv (T 8))), (oP 30 (.bin .neq (T 29) (tI 0)))])) (.tr (rl [0, 3, 1, 0]) false (.cond (T 30) (.seq (.tr (rl [5]) false
  (.region false [(oP 31 (.mv (T 0))), (oP 32 (.mv (T 8))), (oP 33 (.nilc (T 31))), (oP 34 (.faddr 1 (T 33))), (sW (.store 1 (T 34) (T 32)))])) (.seq (.tr (rl
  [4]) false (.region false [(oP 35 (.mv (T 5))), (oP 4 (.mv (T 35)))])) (.tr (rl [4]) false .ret))) .skip))) (.seq (.tr (rl [6]) false (.region false [(oP 36
  (.mv (T 0))), (oP 37 (.mv (T 0))), (oP 38 (.nilc (T 37))), (oP 39 (.faddr 0 (T 38))), (oR 40 (.load false 1 (T 39))), (oP 41 (.mv (T 7))), (oP 42 (.sliceS (T
  40) (some (T 41)) none)), (oP 43 (.nilc (T 36))), (oP 44 (.faddr 0 (T 43))), (sW (.store 1 (T 44) (T 42)))])) (.seq (.tr (rl [4]) false (.region false [(oP 45
  (.mv (T 6))), (oP 4 (.mv (T 45)))])) (.tr (rl [4]) false .ret)))))))))
theorem xf134_ok : cmpFunc Go.Proofs.Tryd.prog 134 ((.two (.tr (rl [0, 0]) false .no) (.two .no (.two (.two (.tr (rl [0, 0, 3, 11]) false .no) (.tr (rl [0, 0, 2, 0]) false (.two (.two (.tr (rl [4]) false .no) (.tr (rl [4]) false .no)) .no))) (.two (.tr (rl [0, 4, 0, 0, 0]) false .no) (.two (.two (.tr (rl [0, 4, 0, 0, 0, 21]) false .no) (.tr (rl [0, 3, 1, 0]) false (.two (.two (.tr (rl [5]) false .no) (.two (.tr (rl [4]) false .no) (.tr (rl [4]) false .no))) .no))) (.two (.tr (rl [6]) false .no) (.two (.tr (rl [4]) false .no) (.tr (rl [4]) false .no))))))))) = some xf134 := by kernel_rfl
def xf135 : XFunc :=
(.mk 47 [(.tmp 3), (.tmp 4), (.tmp 5)] (.seq (.tr (rl [0, 0]) false (.region false [(oP 3 (.mv (.lit (.c (.pv (.str [])))))), (oP 4 (.mv (tI 0))), (oP 5 (.mv
  (tI 0)))])) (.seq (.tr (rl [0, 0, 4, 0, 0]) false (.region false [(oP 10 (.mv (T 0))), (oP 11 (.call false [] (.lit (.c (.fn 132 []))) [(T 10)])), (oP 9 (.mv
  (T 11))), (oP 12 (.extr 0 (T 9))), (oP 13 (.extr 1 (T 9))), (oP 14 (.extr 2 (T 9))), (oP 6 (.mv (T 12))), (oP 7 (.mv (T 13))), (oP 8 (.mv (T 14)))])) (.seq
  (.tr (rl [0, 2, 0, 0, 0, 0]) false (.block 0 (.seq (.tr (rl [0, 0, 4, 0, 0, 6]) false (.region false [(oP 16 (.mv (T 8))), (oP 17 (.bin .neq (T 16) (tI 0))),
  (oP 15 (.mv (T 17)))])) (.tr (rl [0, 2, 0, 0, 0, 0]) false (.cond (T 15) (.seq (.tr (rl [3, 0, 0]) false (.region false [(oP 18 (.mv (T 8))), (oP 3 (.mv (.lit
  (.c (.pv (.str [])))))), (oP 4 (.mv (tI 0))), (oP 5 (.mv (T 18)))])) (.tr (rl [3, 0, 0]) false .ret)) (.seq (.tr (rl [0, 5, 0, 11]) false (.region false [(oR
  20 (.load false 1 (T 1))), (oP 21 (.bin .lss (T 20) (tI 0))), (oP 22 (.mv (T 21))), (.mk (some 23) (.mv (T 6)) (some (22, false)) .p), (.mk (some 24) (.load
  false 1 (T 1)) (some (22, false)) .r), (.mk (some 25) (.convI .u64 (T 24)) (some (22, false)) .p), (.mk (some 26) (.bin .gtr (T 23) (T 25)) (some (22, false))
  .p), (oP 27 (.pick (T 22) (.lit (.c (.pv (.bool true)))) (T 26))), (oP 19 (.mv (T 27)))])) (.tr (rl [0, 2, 0, 0, 0, 0]) false (.cond (T 19) (.seq (.region
  false [(oP 3 (.mv (.lit (.c (.pv (.str [])))))), (oP 4 (.mv (tI 0))), (oP 5 (.mv (tI 4)))]) (.tr (rl [3, 0, 0]) false .ret)) (.seq (.tr (rl [0, 5, 0, 20])
  false (.region false [(oP 29 (.mv (T 6))), (oP 30 (.mv (T 0))), (oP 31 (.lenS (T 30))), (oP 32 (.mv (T 7))), (oP 33 (.bin .sub (T 31) (T 32))), (oP 34 (.convI
  .u64 (T 33))), (oP 35 (.bin .gtr (T 29) (T 34))), (oP 28 (.mv (T 35)))])) (.tr (rl [0, 2, 0, 0, 0, 0]) false (.cond (T 28) (.seq (.region false [(oP 3 (.mv
  (.lit (.c (.pv (.str [])))))), (oP 4 (.mv (tI 0))), (oP 5 (.mv (tI 2)))]) (.tr (rl [3, 0, 0]) false .ret)) .skip))))))))))) (.seq (.tr (rl [3, 0, 0]) false
  (.region false [(oP 36 (.mv (T 0))), (oP 37 (.mv (T 7))), (oP 38 (.mv (T 7))), (oP 39 (.mv (T 6))), (oP 40 (.convI .i64 (T 39))), (oP 41 (.bin .add (T 38) (T
  40))), (oP 42 (.sliceS (T 36) (some (T 37)) (some (T 41)))), (oP 43 (.mv (T 7))), (oP 44 (.mv (T 6))), (oP 45 (.convI .i64 (T 44))), (oP 46 (.bin .add (T 43)
  (T 45))), (oP 3 (.mv (T 42))), (oP 4 (.mv (T 46))), (oP 5 (.mv (tI 0)))])) (.tr (rl [3, 0, 0]) false .ret))))))
theorem xf135_ok : cmpFunc Go.Proofs.Tryd.prog 135 ((.two (.tr (rl [0, 0]) false .no) (.two (.tr (rl [0, 0, 4, 0, 0]) false (.ops [{}, { cls := some .p }])) (.two (.tr (rl [0, 2, 0, 0, 0, 0]) false (.two (.tr (rl [0, 0, 4, 0, 0, 6]) false .no) (.tr (rl [0, 2, 0, 0, 0, 0]) false (.two (.two (.tr (rl [3, 0, 0]) false .no) (.tr (rl [3, 0, 0]) false .no)) (.two (.tr (rl [0, 5, 0, 11]) false .no) (.tr (rl [0, 2, 0, 0, 0, 0]) false (.two (.two .no (.tr (rl [3, 0, 0]) false .no)) (.two (.tr (rl [0, 5, 0, 20]) false .no) (.tr (rl [0, 2, 0, 0, 0, 0]) false (.two (.two .no (.tr (rl [3, 0, 0]) false .no)) .no)))))))))) (.two (.tr (rl [3, 0, 0]) false .no) (.tr (rl [3, 0, 0]) false .no)))))) = some xf135 := by kernel_rfl
def xf136 : XFunc :=
(.mk 46 [(.tmp 4)] (.seq (.tr (rl [0, 0]) false (.region false [(oP 4 (.mv (tI 0)))])) (.seq (.region false [(oP 5 (.mv (tI 0)))]) (.seq (.seq (.tr (rl [0, 0,
  3, 11]) false (.region false [(oP 9 (.mv (T 0))), (oP 10 (.eqN 1 false (T 9) (.lit (.c .nilp)))), (oP 11 (.mv (T 10))), (.mk (some 12) (.mv (T 0)) (some (11,
  false)) .p), (.mk (some 13) (.nilc (T 12)) (some (11, false)) .p), (.mk (some 14) (.faddr 1 (T 13)) (some (11, false)) .p), (.mk (some 15) (.load false 1 (T
  14)) (some (11, false)) .r), (.mk (some 16) (.bin .neq (T 15) (tI 0)) (some (11, false)) .p), (oP 17 (.pick (T 11) (.lit (.c (.pv (.bool true)))) (T 16)))]))
  (.tr (rl [0, 0, 2, 0]) false (.cond (T 17) (.seq (.tr (rl [4]) false (.region false [(oP 18 (.mv (T 5))), (oP 4 (.mv (T 18)))])) (.tr (rl [4]) false .ret))
  .skip))) (.seq (.tr (rl [0, 4, 0, 0, 0]) false (.region false [(oP 20 (.mv (T 1))), (oP 21 (.mv (T 0))), (oP 22 (.nilc (T 21))), (oP 23 (.faddr 0 (T 22))),
  (oR 24 (.load false 1 (T 23))), (oW 25 (.call false [] (T 20) [(T 24)])), (oP 19 (.mv (T 25))), (oP 26 (.extr 0 (T 19))), (oP 27 (.extr 1 (T 19))), (oP 28
  (.extr 2 (T 19))), (oP 6 (.mv (T 26))), (oP 7 (.mv (T 27))), (oP 8 (.mv (T 28)))])) (.seq (.seq (.tr (rl [0, 4, 0, 0, 0, 21]) false (.region false [(oP 29
  (.mv (T 8))), (oP 30 (.bin .neq (T 29) (tI 0)))])) (.tr (rl [0, 3, 1, 0]) false (.cond (T 30) (.seq (.tr (rl [5]) false (.region false [(oP 31 (.mv (T 0))),
  (oP 32 (.mv (T 8))), (oP 33 (.nilc (T 31))), (oP 34 (.faddr 1 (T 33))), (sW (.store 1 (T 34) (T 32)))])) (.seq (.tr (rl [4]) false (.region false [(oP 35 (.mv
  (T 5))), (oP 4 (.mv (T 35)))])) (.tr (rl [4]) false .ret))) .skip))) (.seq (.tr (rl [6]) false (.region false [(oP 36 (.mv (T 0))), (oP 37 (.mv (T 0))), (oP
  38 (.nilc (T 37))), (oP 39 (.faddr 0 (T 38))), (oR 40 (.load false 1 (T 39))), (oP 41 (.mv (T 7))), (oP 42 (.sliceS (T 40) (some (T 41)) none)), (oP 43 (.nilc
  (T 36))), (oP 44 (.faddr 0 (T 43))), (sW (.store 1 (T 44) (T 42)))])) (.seq (.tr (rl [4]) false (.region false [(oP 45 (.mv (T 6))), (oP 4 (.mv (T 45)))]))
  (.tr (rl [4]) false .ret)))))))))
theorem xf136_ok : cmpFunc Go.Proofs.Tryd.prog 136 ((.two (.tr (rl [0, 0]) false .no) (.two .no (.two (.two (.tr (rl [0, 0, 3, 11]) false .no) (.tr (rl [0, 0, 2, 0]) false (.two (.two (.tr (rl [4]) false .no) (.tr (rl [4]) false .no)) .no))) (.two (.tr (rl [0, 4, 0, 0, 0]) false .no) (.two (.two (.tr (rl [0, 4, 0, 0, 0, 21]) false .no) (.tr (rl [0, 3, 1, 0]) false (.two (.two (.tr (rl [5]) false .no) (.two (.tr (rl [4]) false .no) (.tr (rl [4]) false .no))) .no))) (.two (.tr (rl [6]) false .no) (.two (.tr (rl [4]) false .no) (.tr (rl [4]) false .no))))))))) = some xf136 := by kernel_rfl
def xf137 : XFunc :=
(.mk 31 [(.tmp 3), (.tmp 4), (.tmp 5)] (.seq (.tr (rl [0, 0]) false (.region false [(oP 3 (.mv (tI 0))), (oP 4 (.mv (tI 0))), (oP 5 (.mv (tI 0)))])) (.seq (.tr
  (rl [1, 4, 0, 0]) false (.region false [(oP 10 (.mv (T 0))), (oP 11 (.call false [] (.lit (.c (.fn 132 []))) [(T 10)])), (oP 9 (.mv (T 11))), (oP 12 (.extr 0
  (T 9))), (oP 13 (.extr 1 (T 9))), (oP 14 (.extr 2 (T 9))), (oP 6 (.mv (T 12))), (oP 7 (.mv (T 13))), (oP 8 (.mv (T 14)))])) (.seq (.seq (.tr (rl [6, 0, 0,
  17]) false (.region false [(oP 15 (.mv (T 8))), (oP 16 (.bin .eql (T 15) (tI 0))), (oP 17 (.mv (T 16))), (.mk (some 18) (.load false 1 (T 1)) (some (17,
  true)) .r), (.mk (some 19) (.bin .lss (T 18) (tI 0)) (some (17, true)) .p), (.mk (some 20) (.mv (T 19)) (some (17, true)) .p), (.mk (some 21) (.mv (T 6))
  (some (20, false)) .p), (.mk (some 22) (.load false 1 (T 1)) (some (20, false)) .r), (.mk (some 23) (.convI .u64 (T 22)) (some (20, false)) .p), (.mk (some
  24) (.bin .gtr (T 21) (T 23)) (some (20, false)) .p), (.mk (some 25) (.pick (T 20) (.lit (.c (.pv (.bool true)))) (T 24)) (some (17, true)) .p), (oP 26 (.pick
  (T 17) (T 25) (.lit (.c (.pv (.bool false))))))])) (.tr (rl [6, 0, 0]) false (.cond (T 26) (.region false [(oP 8 (.mv (tI 4)))]) .skip))) (.seq (.tr (rl [3,
  0, 0]) false (.region false [(oP 27 (.mv (T 6))), (oP 28 (.convI .i64 (T 27))), (oP 29 (.mv (T 7))), (oP 30 (.mv (T 8))), (oP 3 (.mv (T 28))), (oP 4 (.mv (T
  29))), (oP 5 (.mv (T 30)))])) (.tr (rl [3, 0, 0]) false .ret))))))
theorem xf137_ok : cmpFunc Go.Proofs.Tryd.prog 137 ((.two (.tr (rl [0, 0]) false .no) (.two (.tr (rl [1, 4, 0, 0]) false (.ops [{}, { cls := some .p }])) (.two (.two (.tr (rl [6, 0, 0, 17]) false .no) (.tr (rl [6, 0, 0]) false .no)) (.two (.tr (rl [3, 0, 0]) false .no) (.tr (rl [3, 0, 0]) false .no)))))) = some xf137 := by kernel_rfl
def xf138 : XFunc :=
(.mk 46 [(.cell 4 true 2)] (.seq (.region false [(oW 4 (.alloc [(.pv (.int .i64 0)), (.pv (.int .i64 0))]))]) (.seq (.region false [(oW 5 (.alloc [(.pv (.int
  .i64 0)), (.pv (.int .i64 0))]))]) (.seq (.seq (.tr (rl [0, 0, 2, 0, 11]) false (.region false [(oP 9 (.mv (T 0))), (oP 10 (.eqN 1 false (T 9) (.lit (.c
  .nilp)))), (oP 11 (.mv (T 10))), (.mk (some 12) (.mv (T 0)) (some (11, false)) .p), (.mk (some 13) (.nilc (T 12)) (some (11, false)) .p), (.mk (some 14)
  (.faddr 1 (T 13)) (some (11, false)) .p), (.mk (some 15) (.load false 1 (T 14)) (some (11, false)) .r), (.mk (some 16) (.bin .neq (T 15) (tI 0)) (some (11,
  false)) .p), (oP 17 (.pick (T 11) (.lit (.c (.pv (.bool true)))) (T 16)))])) (.tr (rl [0, 0, 2, 0]) false (.cond (T 17) (.seq (.tr (rl [4]) false (.region
  false [(oR 18 (.load true 2 (T 5))), (sW (.store 2 (T 4) (T 18)))])) (.tr (rl [4]) false .ret)) .skip))) (.seq (.tr (rl [0, 3, 0, 0, 0, 0]) false (.region
  false [(oP 20 (.mv (T 1))), (oP 21 (.mv (T 0))), (oP 22 (.nilc (T 21))), (oP 23 (.faddr 0 (T 22))), (oR 24 (.load false 1 (T 23))), (oW 25 (.call false [] (T
  20) [(T 24)])), (oP 19 (.mv (T 25))), (oP 26 (.extr 0 (T 19))), (oP 27 (.extr 1 (T 19))), (oP 28 (.extr 2 (T 19))), (oW 6 (.alloc [(.pv (.int .i64 0)), (.pv
  (.int .i64 0))])), (sW (.store 2 (T 6) (T 26))), (oP 7 (.mv (T 27))), (oP 8 (.mv (T 28)))])) (.seq (.seq (.tr (rl [0, 3, 0, 0, 0, 0, 21]) false (.region false
  [(oP 29 (.mv (T 8))), (oP 30 (.bin .neq (T 29) (tI 0)))])) (.tr (rl [0, 3, 1, 0]) false (.cond (T 30) (.seq (.tr (rl [4, 0]) false (.region false [(oP 31 (.mv
  (T 0))), (oP 32 (.mv (T 8))), (oP 33 (.nilc (T 31))), (oP 34 (.faddr 1 (T 33))), (sW (.store 1 (T 34) (T 32)))])) (.seq (.tr (rl [4]) false (.region false
  [(oR 35 (.load true 2 (T 5))), (sW (.store 2 (T 4) (T 35)))])) (.tr (rl [4]) false .ret))) .skip))) (.seq (.tr (rl [4, 1]) false (.region false [(oP 36 (.mv
  (T 0))), (oP 37 (.mv (T 0))), (oP 38 (.nilc (T 37))), (oP 39 (.faddr 0 (T 38))), (oR 40 (.load false 1 (T 39))), (oP 41 (.mv (T 7))), (oP 42 (.sliceS (T 40)
  (some (T 41)) none)), (oP 43 (.nilc (T 36))), (oP 44 (.faddr 0 (T 43))), (sW (.store 1 (T 44) (T 42)))])) (.seq (.tr (rl [4]) false (.region false [(oR 45
  (.load true 2 (T 6))), (sW (.store 2 (T 4) (T 45)))])) (.tr (rl [4]) false .ret)))))))))
theorem xf138_ok : cmpFunc Go.Proofs.Tryd.prog 138 ((.two .no (.two .no (.two (.two (.tr (rl [0, 0, 2, 0, 11]) false .no) (.tr (rl [0, 0, 2, 0]) false (.two (.two (.tr (rl [4]) false .no) (.tr (rl [4]) false .no)) .no))) (.two (.tr (rl [0, 3, 0, 0, 0, 0]) false .no) (.two (.two (.tr (rl [0, 3, 0, 0, 0, 0, 21]) false .no) (.tr (rl [0, 3, 1, 0]) false (.two (.two (.tr (rl [4, 0]) false .no) (.two (.tr (rl [4]) false .no) (.tr (rl [4]) false .no))) .no))) (.two (.tr (rl [4, 1]) false .no) (.two (.tr (rl [4]) false .no) (.tr (rl [4]) false .no))))))))) = some xf138 := by kernel_rfl
def xf139 : XFunc :=
(.mk 61 [(.cell 2 true 2), (.tmp 3), (.tmp 4)] (.seq (.tr (rl [0, 1]) false (.region false [(oW 2 (.alloc [(.pv (.int .i64 0)), (.pv (.int .i64 0))])), (oP 3
  (.mv (tI 0))), (oP 4 (.mv (tI 0)))])) (.seq (.tr (rl [0, 1, 2, 0, 0]) false (.region false [(oP 13 (.mv (T 0))), (oP 14 (.call false [] (.lit (.c (.fn 132
  []))) [(T 13)])), (oP 12 (.mv (T 14))), (oP 15 (.extr 0 (T 12))), (oP 16 (.extr 1 (T 12))), (oP 17 (.extr 2 (T 12))), (oP 5 (.mv (T 15))), (oP 6 (.mv (T
  16))), (oP 7 (.mv (T 17)))])) (.seq (.seq (.tr (rl [0, 1, 2, 0, 0, 11]) false (.region false [(oP 18 (.mv (T 7))), (oP 19 (.bin .neq (T 18) (tI 0)))])) (.tr
  (rl [0, 1, 0, 0, 0, 0]) false (.cond (T 19) (.seq (.tr (rl [2, 0, 0]) false (.region false [(oP 20 (.build [(.pv (.int .i64 0)), (.pv (.int .i64 0))] [])),
  (oP 21 (.mv (T 7))), (sW (.store 2 (T 2) (T 20))), (oP 3 (.mv (tI 0))), (oP 4 (.mv (T 21)))])) (.tr (rl [2, 0, 0]) false .ret)) .skip))) (.seq (.tr (rl [2, 2,
  0, 0, 0, 0]) false (.region false [(oP 23 (.mv (T 0))), (oP 24 (.mv (T 6))), (oP 25 (.sliceS (T 23) (some (T 24)) none)), (oP 26 (.call false [] (.lit (.c
  (.fn 132 []))) [(T 25)])), (oP 22 (.mv (T 26))), (oP 27 (.extr 0 (T 22))), (oP 28 (.extr 1 (T 22))), (oP 29 (.extr 2 (T 22))), (oP 8 (.mv (T 27))), (oP 9 (.mv
  (T 28))), (oP 7 (.mv (T 29)))])) (.seq (.tr (rl [2, 3, 0, 1, 0, 0]) false (.region false [(oP 30 (.mv (T 5))), (oP 31 (.call false [] (.lit (.c (.fn 133 [])))
  [(T 30)])), (oP 32 (.mv (T 8))), (oP 33 (.call false [] (.lit (.c (.fn 133 []))) [(T 32)])), (oP 10 (.mv (T 31))), (oP 11 (.mv (T 33)))])) (.seq (.tr (rl [2,
  0, 0, 1, 2, 0, 0]) false (.block 0 (.seq (.tr (rl [2, 3, 0, 1, 0, 0, 22]) false (.region false [(oP 35 (.mv (T 7))), (oP 36 (.bin .neq (T 35) (tI 0))), (oP 34
  (.mv (T 36)))])) (.tr (rl [2, 0, 0, 1, 2, 0, 0]) false (.cond (T 34) (.seq (.tr (rl [2, 0, 0]) false (.region false [(oP 37 (.build [(.pv (.int .i64 0)), (.pv
  (.int .i64 0))] [])), (oP 38 (.mv (T 7))), (sW (.store 2 (T 2) (T 37))), (oP 3 (.mv (tI 0))), (oP 4 (.mv (T 38)))])) (.tr (rl [2, 0, 0]) false .ret)) (.seq
  (.tr (rl [2, 3, 2, 0, 0, 27]) false (.region false [(oP 40 (.mv (T 10))), (oP 41 (.bin .lss (T 40) (tI 0))), (oP 42 (.mv (T 41))), (.mk (some 43) (.mv (T 10))
  (some (42, false)) .p), (.mk (some 44) (.bin .gtr (T 43) (tI 3)) (some (42, false)) .p), (oP 45 (.pick (T 42) (.lit (.c (.pv (.bool true)))) (T 44))), (oP 39
  (.mv (T 45)))])) (.tr (rl [2, 0, 0, 1, 2, 0, 0]) false (.cond (T 39) (.seq (.tr (rl [2, 0, 0]) false (.region false [(oP 46 (.build [(.pv (.int .i64 0)), (.pv
  (.int .i64 0))] [])), (sW (.store 2 (T 2) (T 46))), (oP 3 (.mv (tI 0))), (oP 4 (.mv (tI 12)))])) (.tr (rl [2, 0, 0]) false .ret)) (.seq (.tr (rl [2, 3, 2, 0,
  0, 35]) false (.region false [(oP 48 (.mv (T 11))), (oP 49 (.bin .lss (T 48) (.lit (.c (.pv (.int .i64 (-1000000000000000))))))), (oP 50 (.mv (T 49))), (.mk
  (some 51) (.mv (T 11)) (some (50, false)) .p), (.mk (some 52) (.bin .gtr (T 51) (tI 1000000000000000)) (some (50, false)) .p), (oP 53 (.pick (T 50) (.lit (.c
  (.pv (.bool true)))) (T 52))), (oP 47 (.mv (T 53)))])) (.tr (rl [2, 0, 0, 1, 2, 0, 0]) false (.cond (T 47) (.seq (.tr (rl [2, 0, 0]) false (.region false [(oP
  54 (.build [(.pv (.int .i64 0)), (.pv (.int .i64 0))] [])), (sW (.store 2 (T 2) (T 54))), (oP 3 (.mv (tI 0))), (oP 4 (.mv (tI 9)))])) (.tr (rl [2, 0, 0])
  false .ret)) .skip))))))))))) (.seq (.tr (rl [2, 0, 0]) false (.region false [(oP 55 (.mv (T 10))), (oP 56 (.mv (T 11))), (oP 57 (.build [(.pv (.int .i64 0)),
  (.pv (.int .i64 0))] [(0, (1, (T 55))), (1, (1, (T 56)))])), (oP 58 (.mv (T 6))), (oP 59 (.mv (T 9))), (oP 60 (.bin .add (T 58) (T 59))), (sW (.store 2 (T 2)
  (T 57))), (oP 3 (.mv (T 60))), (oP 4 (.mv (tI 0)))])) (.tr (rl [2, 0, 0]) false .ret)))))))))
theorem xf139_ok : cmpFunc Go.Proofs.Tryd.prog 139 ((.two (.tr (rl [0, 1]) false .no) (.two (.tr (rl [0, 1, 2, 0, 0]) false (.ops [{}, { cls := some .p }])) (.two (.two (.tr (rl [0, 1, 2, 0, 0, 11]) false .no) (.tr (rl [0, 1, 0, 0, 0, 0]) false (.two (.two (.tr (rl [2, 0, 0]) false .no) (.tr (rl [2, 0, 0]) false .no)) .no))) (.two (.tr (rl [2, 2, 0, 0, 0, 0]) false (.ops [{}, {}, {}, { cls := some .p }])) (.two (.tr (rl [2, 3, 0, 1, 0, 0]) false (.ops [{}, { cls := some .p }, {}, { cls := some .p }])) (.two (.tr (rl [2, 0, 0, 1, 2, 0, 0]) false (.two (.tr (rl [2, 3, 0, 1, 0, 0, 22]) false .no) (.tr (rl [2, 0, 0, 1, 2, 0, 0]) false (.two (.two (.tr (rl [2, 0, 0]) false .no) (.tr (rl [2, 0, 0]) false .no)) (.two (.tr (rl [2, 3, 2, 0, 0, 27]) false .no) (.tr (rl [2, 0, 0, 1, 2, 0, 0]) false (.two (.two (.tr (rl [2, 0, 0]) false .no) (.tr (rl [2, 0, 0]) false .no)) (.two (.tr (rl [2, 3, 2, 0, 0, 35]) false .no) (.tr (rl [2, 0, 0, 1, 2, 0, 0]) false (.two (.two (.tr (rl [2, 0, 0]) false .no) (.tr (rl [2, 0, 0]) false .no)) .no)))))))))) (.two (.tr (rl [2, 0, 0]) false .no) (.tr (rl [2, 0, 0]) false .no))))))))) = some xf139 := by kernel_rfl
def xf140 : XFunc :=
(.mk 9 [(.tmp 2)] (.seq (.tr (rl [0]) false (.region false [(oP 2 (.mv (tI 0)))])) (.seq (.seq (.tr (rl [0, 3]) false (.region false [(oP 3 (.mv (T 0))), (oP 4
  (.eqN 1 false (T 3) (.lit (.c .nilp))))])) (.tr (rl [0, 1]) false (.cond (T 4) (.seq (.region false [(oP 2 (.mv (tI 1)))]) (.tr (rl [2]) false .ret)) .skip)))
  (.seq (.tr (rl [2]) false (.region false [(oP 5 (.mv (T 0))), (oP 6 (.nilc (T 5))), (oP 7 (.faddr 1 (T 6))), (oR 8 (.load false 1 (T 7))), (oP 2 (.mv (T
  8)))])) (.tr (rl [2]) false .ret)))))
theorem xf140_ok : cmpFunc Go.Proofs.Tryd.prog 140 ((.two (.tr (rl [0]) false .no) (.two (.two (.tr (rl [0, 3]) false .no) (.tr (rl [0, 1]) false (.two (.two .no (.tr (rl [2]) false .no)) .no))) (.two (.tr (rl [2]) false .no) (.tr (rl [2]) false .no))))) = some xf140 := by kernel_rfl
def xf151 : XFunc :=
(.mk 8 [(.tmp 4)] (.seq (.tr (rl [0, 0]) false (.region false [(oP 4 (.mv (tI 0)))])) (.seq (.tr (rl [4]) false (.region false [(oP 5 (.mv (T 0))), (oP 6 (.mv
  (T 1))), (oW 7 (.call false [] (.lit (.c (.fn 154 []))) [(T 5), (T 6), (.lit (.c (.pv (.bool true))))])), (oP 4 (.mv (T 7)))])) (.tr (rl [4]) false .ret))))
theorem xf151_ok : cmpFunc Go.Proofs.Tryd.prog 151 ((.two (.tr (rl [0, 0]) false .no) (.two (.tr (rl [4]) false .no) (.tr (rl [4]) false .no)))) = some xf151 := by kernel_rfl
def xf154_l0 : XCode :=
(.seq (.region false [(oW 11 (.nxt (T 10))), (oP 12 (.extr 0 (T 11)))]) (.seq (.tr (rl [1, 0, 7, 0]) false (.cond (T 12) .skip (.tr [] false (.exit 0)))) (.tr
  (rl [1, 0, 3, 3]) false (.block 1 (.seq (.tr (rl [1, 0, 4, 0, 1]) false (.region false [(oP 13 (.extr 1 (T 11))), (oP 14 (.extr 2 (T 11))), (oP 7 (.mv (T
  13))), (oP 8 (.mv (T 14)))])) (.seq (.tr (rl [1, 0, 4, 2, 8]) false (.region false [(oP 15 (.mv (T 1))), (oP 16 (.mv (T 8))), (oW 17 (.call false [] (T 15)
  [(T 16)])), (oP 18 (.mv (T 2))), (oP 19 (.eqB false (T 17) (T 18)))])) (.tr (rl [1, 0, 3, 3]) false (.cond (T 19) (.seq (.tr (rl [6]) false (.region false
  [(oP 20 (.mv (T 7))), (oP 6 (.mv (T 20)))])) (.tr (rl [6]) false .ret)) .skip))))))))
def xf154 : XFunc :=
(.mk 21 [(.tmp 6)] (.seq (.tr (rl [0, 0, 0]) false (.region false [(oP 6 (.mv (tI 0)))])) (.seq (.seq (.tr (rl [1, 0, 7]) false (.region false [(oP 9 (.mv (T
  0))), (oW 10 (.rng (T 9)))])) (.tr (rl [6]) false (.block 0 (.loop (rl [1, 0, 7]) xf154_l0)))) (.seq (.region false [(oP 6 (.mv (.lit (.c (.pv (.int .i64
  (-1)))))))]) (.tr (rl [6]) false .ret)))))
theorem xf154_ok : cmpFunc Go.Proofs.Tryd.prog 154 ((.two (.tr (rl [0, 0, 0]) false .no) (.two (.two (.tr (rl [1, 0, 7]) false .no) (.tr (rl [6]) false (.loop (rl [1, 0, 7]) (.two .no (.two (.tr (rl [1, 0, 7, 0]) false (.two .no (.tr [] false .no))) (.tr (rl [1, 0, 3, 3]) false (.two (.tr (rl [1, 0, 4, 0, 1]) false .no) (.two (.tr (rl [1, 0, 4, 2, 8]) false .no) (.tr (rl [1, 0, 3, 3]) false (.two (.two (.tr (rl [6]) false .no) (.tr (rl [6]) false .no)) .no)))))))))) (.two .no (.tr (rl [6]) false .no))))) = some xf154 := by kernel_rfl
def xf63 : XFunc :=
(.mk 8 [(.cell 2 true 7)] (.seq (.tr (rl [1, 0]) false (.region false [(oW 1 (.box (T 0) 7)), (oW 2 (.alloc [(.pv (.int .i64 0)), (.pv (.int .i32 0)), (.pv
  (.int .i32 0)), (.pv (.sl .nil 0 [])), (.pv (.int .i64 0)), (.pv (.int .i64 0)), (.pv (.str []))]))])) (.seq (.tr (rl [1, 0]) false (.region false [(oP 3
  (.faddr 3 (T 1))), (oR 4 (.load false 1 (T 3))), (oP 5 (.call false [] (.lit (.c (.fn 85 []))) [(T 4)])), (oP 6 (.faddr 3 (T 1))), (sW (.store 1 (T 6) (T
  5)))])) (.seq (.tr (rl [2]) false (.region false [(oR 7 (.load true 7 (T 1))), (sW (.store 7 (T 2) (T 7)))])) (.tr (rl [2]) false .ret)))))
theorem xf63_ok : cmpFunc Go.Proofs.Tryd.prog 63 ((.two (.tr (rl [1, 0]) false .no) (.two (.tr (rl [1, 0]) false (.ops [{}, {}, { cls := some .p }])) (.two (.tr (rl [2]) false .no) (.tr (rl [2]) false .no))))) = some xf63 := by kernel_rfl
def X : Nat → Option XFunc
  | 13 => some xf13
  | 16 => some xf16
  | 37 => some xf37
  | 38 => some xf38
  | 39 => some xf39
  | 40 => some xf40
  | 41 => some xf41
  | 42 => some xf42
  | 43 => some xf43
  | 44 => some xf44
  | 49 => some xf49
  | 74 => some xf74
  | 75 => some xf75
  | 76 => some xf76
  | 77 => some xf77
  | 78 => some xf78
  | 79 => some xf79
  | 80 => some xf80
  | 81 => some xf81
  | 82 => some xf82
  | 83 => some xf83
  | 84 => some xf84
  | 85 => some xf85
  | 86 => some xf86
  | 87 => some xf87
  | 88 => some xf88
  | 89 => some xf89
  | 90 => some xf90
  | 91 => some xf91
  | 92 => some xf92
  | 93 => some xf93
  | 94 => some xf94
  | 95 => some xf95
  | 96 => some xf96
  | 101 => some xf101
  | 102 => some xf102
  | 103 => some xf103
  | 104 => some xf104
  | 105 => some xf105
  | 106 => some xf106
  | 107 => some xf107
  | 108 => some xf108
  | 109 => some xf109
  | 127 => some xf127
  | 128 => some xf128
  | 129 => some xf129
  | 130 => some xf130
  | 131 => some xf131
  | 132 => some xf132
  | 133 => some xf133
  | 134 => some xf134
  | 135 => some xf135
  | 136 => some xf136
  | 137 => some xf137
  | 138 => some xf138
  | 139 => some xf139
  | 140 => some xf140
  | 151 => some xf151
  | 154 => some xf154
  | 63 => some xf63
  | _ => none
def E0 : Oracle := fun _ _ _ => none
theorem X_ok : ∀ f x, X f = some x → ∃ h, cmpFunc Go.Proofs.Tryd.prog f h = some x := by
  intro f x h
  unfold X at h
  split at h <;> cases h
  · exact ⟨_, xf13_ok⟩
  · exact ⟨_, xf16_ok⟩
  · exact ⟨_, xf37_ok⟩
  · exact ⟨_, xf38_ok⟩
  · exact ⟨_, xf39_ok⟩
  · exact ⟨_, xf40_ok⟩
  · exact ⟨_, xf41_ok⟩
  · exact ⟨_, xf42_ok⟩
  · exact ⟨_, xf43_ok⟩
  · exact ⟨_, xf44_ok⟩
  · exact ⟨_, xf49_ok⟩
  · exact ⟨_, xf74_ok⟩
  · exact ⟨_, xf75_ok⟩
  · exact ⟨_, xf76_ok⟩
  · exact ⟨_, xf77_ok⟩
  · exact ⟨_, xf78_ok⟩
  · exact ⟨_, xf79_ok⟩
  · exact ⟨_, xf80_ok⟩
  · exact ⟨_, xf81_ok⟩
  · exact ⟨_, xf82_ok⟩
  · exact ⟨_, xf83_ok⟩
  · exact ⟨_, xf84_ok⟩
  · exact ⟨_, xf85_ok⟩
  · exact ⟨_, xf86_ok⟩
  · exact ⟨_, xf87_ok⟩
  · exact ⟨_, xf88_ok⟩
  · exact ⟨_, xf89_ok⟩
  · exact ⟨_, xf90_ok⟩
  · exact ⟨_, xf91_ok⟩
  · exact ⟨_, xf92_ok⟩
  · exact ⟨_, xf93_ok⟩
  · exact ⟨_, xf94_ok⟩
  · exact ⟨_, xf95_ok⟩
  · exact ⟨_, xf96_ok⟩
  · exact ⟨_, xf101_ok⟩
  · exact ⟨_, xf102_ok⟩
  · exact ⟨_, xf103_ok⟩
  · exact ⟨_, xf104_ok⟩
  · exact ⟨_, xf105_ok⟩
  · exact ⟨_, xf106_ok⟩
  · exact ⟨_, xf107_ok⟩
  · exact ⟨_, xf108_ok⟩
  · exact ⟨_, xf109_ok⟩
  · exact ⟨_, xf127_ok⟩
  · exact ⟨_, xf128_ok⟩
  · exact ⟨_, xf129_ok⟩
  · exact ⟨_, xf130_ok⟩
  · exact ⟨_, xf131_ok⟩
  · exact ⟨_, xf132_ok⟩
  · exact ⟨_, xf133_ok⟩
  · exact ⟨_, xf134_ok⟩
  · exact ⟨_, xf135_ok⟩
  · exact ⟨_, xf136_ok⟩
  · exact ⟨_, xf137_ok⟩
  · exact ⟨_, xf138_ok⟩
  · exact ⟨_, xf139_ok⟩
  · exact ⟨_, xf140_ok⟩
  · exact ⟨_, xf151_ok⟩
  · exact ⟨_, xf154_ok⟩
  · exact ⟨_, xf63_ok⟩
theorem ok : OkOr Go.Proofs.Tryd.prog (ev X E0) := ev_ok X_ok (fun _ _ _ _ _ h => by cases h) (by kernel_rfl)
end Go.Sx.Tryd
