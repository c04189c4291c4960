/- Functions of the program in the evaluator's form, each checked by the kernel. Printed by genx.py. -/
import Derived.Test.YtggopflifieoiaaDoorSxLem
import Derived.Test.YtggopflifieoiaaDoorProg
import Derived.KernelRfl
namespace Go.Sx.Tryd
open Go Go.Sx
def xf4_l0 : XCode :=
(.seq (.seq (.tr (rl [9, 1, 3, 0, 0, 1, 101]) false (.region false [(oP 118 (.mv (T 19))), (oP 119 (.mv (T 17))), (oP 120 (.len (T 119))), (oP 121 (.bin .lss (T
  118) (T 120)))])) (.tr (rl [9, 1, 3, 0, 0, 1]) false (.cond (T 121) .skip (.tr (rl [9, 1, 5]) false (.exit 0))))) (.seq (.tr (rl [6, 2, 1, 3, 0, 0, 1]) false
  (.block 1 (.seq (.tr (rl [9, 1, 3, 0, 0, 1, 117]) false (.region false [(oP 124 (.mv (T 17))), (oP 125 (.mv (T 19))), (oP 126 (.iaddrS 1 (T 124) (T 125))),
  (oR 127 (.load false 1 (T 126))), (oP 128 (.mv (T 15))), (oP 129 (.bin .lss (T 127) (T 128))), (oP 130 (.mv (T 129))), (.mk (some 131) (.mv (T 17)) (some
  (130, false)) .p), (.mk (some 132) (.mv (T 19)) (some (130, false)) .p), (.mk (some 133) (.iaddrS 1 (T 131) (T 132)) (some (130, false)) .p), (.mk (some 134)
  (.load false 1 (T 133)) (some (130, false)) .r), (.mk (some 135) (.mv (T 16)) (some (130, false)) .p), (.mk (some 136) (.bin .gtr (T 134) (T 135)) (some (130,
  false)) .p), (oP 137 (.pick (T 130) (.lit (.c (.pv (.bool true)))) (T 136)))])) (.tr (rl [6, 2, 1, 3, 0, 0, 1]) false (.cond (T 137) (.seq (.region false [(oP
  6 (.mv (.lit (.c (.pv (.bool false))))))]) (.tr (rl [6]) false .ret)) .skip))))) (.tr (rl [9, 1, 3, 0, 0, 1]) false (.region false [(oP 122 (.mv (T 19))), (oP
  123 (.bin .add (T 122) (tI 1))), (oP 19 (.mv (T 123)))]))))
def xf4 : XFunc :=
(.mk 149 [(.tmp 6)] (.seq (.tr (rl [1, 1, 1]) false (.region false [(oW 3 (.box (T 0) 10)), (oW 5 (.box (T 2) 3)), (oP 6 (.mv (.lit (.c (.pv (.bool
  false))))))])) (.seq (.seq (.tr (rl [1, 1, 1, 32]) false (.region false [(oP 20 (.mv (T 1))), (oP 21 (.len (T 20))), (oP 22 (.bin .gtr (T 21) (tI 60))), (oP
  23 (.mv (T 22))), (.mk (some 24) (.faddr 8 (T 3)) (some (23, false)) .p), (.mk (some 25) (.load false 1 (T 24)) (some (23, false)) .r), (.mk (some 26) (.bin
  .gtr (T 25) (tI 24)) (some (23, false)) .p), (oP 27 (.pick (T 23) (.lit (.c (.pv (.bool true)))) (T 26))), (oP 28 (.mv (T 27))), (.mk (some 29) (.load true 10
  (T 3)) (some (28, false)) .r), (.mk (some 30) (.buildSl [(.pv (.int .i64 0)), (.pv (.int .i64 0)), (.pv (.int .i64 0)), (.pv (.int .i64 0)), (.pv (.int .i64
  0)), (.pv (.int .i64 0)), (.pv (.int .i32 0)), (.pv (.int .i64 0)), (.pv (.int .i64 0)), (.pv (.int .i64 0))] 1 10 [(0, (10, (T 29)))]) (some (28, false))
  .p), (.mk (some 31) (.call false [] (.lit (.c (.fn 18 []))) [(T 30)]) (some (28, false)) .p), (.mk (some 32) (.bin .neq (T 31) (tI 0)) (some (28, false)) .p),
  (oP 33 (.pick (T 28) (.lit (.c (.pv (.bool true)))) (T 32))), (oP 34 (.mv (T 33))), (.mk (some 35) (.mv (T 1)) (some (34, false)) .p), (.mk (some 36) (.call
  false [] (.lit (.c (.fn 19 []))) [(T 35)]) (some (34, false)) .p), (.mk (some 37) (.un .not (T 36)) (some (34, false)) .p), (oP 38 (.pick (T 34) (.lit (.c
  (.pv (.bool true)))) (T 37)))])) (.tr (rl [1, 1, 1, 0]) false (.cond (T 38) (.seq (.tr (rl [6]) false (.region false [(oP 39 (.call false [] (.lit (.c (.fn 20
  []))) [])), (oP 6 (.mv (T 39)))])) (.tr (rl [6]) false .ret)) .skip))) (.seq (.tr (rl [1, 1, 1, 1]) false (.region false [(oP 40 (.iaddrA 3 1 (T 5) (tI 0))),
  (oR 41 (.load false 1 (T 40))), (oP 42 (.bin .rem (T 41) (tI 1000))), (oP 43 (.convI .i32 (T 42))), (oP 7 (.mv (T 43)))])) (.seq (.tr (rl [1, 1, 1, 1, 0])
  false (.region false [(oP 44 (.iaddrA 3 1 (T 5) (tI 1))), (oR 45 (.load false 1 (T 44))), (oP 46 (.bin .rem (T 45) (tI 1000))), (oP 47 (.convI .i32 (T 46))),
  (oP 8 (.mv (T 47)))])) (.seq (.tr (rl [1, 1, 1, 1, 0, 0, 0]) false (.region false [(oR 49 (.load true 10 (T 3))), (oP 50 (.iaddrA 3 1 (T 5) (tI 2))), (oR 51
  (.load false 1 (T 50))), (oP 52 (.mv (T 1))), (oP 53 (.mv (T 7))), (oP 54 (.call false [] (.lit (.c (.fn 21 []))) [(T 49), (T 51), (T 52), (T 53)])), (oP 48
  (.mv (T 54))), (oP 55 (.extr 0 (T 48))), (oP 56 (.extr 1 (T 48))), (oP 9 (.mv (T 55))), (oP 10 (.mv (T 56)))])) (.seq (.tr (rl [1, 1, 1, 1, 0, 0, 0, 0, 0])
  false (.region false [(oR 58 (.load true 10 (T 3))), (oP 59 (.iaddrA 3 1 (T 5) (tI 2))), (oR 60 (.load false 1 (T 59))), (oP 61 (.mv (T 1))), (oP 62 (.mv (T
  8))), (oP 63 (.call false [] (.lit (.c (.fn 21 []))) [(T 58), (T 60), (T 61), (T 62)])), (oP 57 (.mv (T 63))), (oP 64 (.extr 0 (T 57))), (oP 65 (.extr 1 (T
  57))), (oP 11 (.mv (T 64))), (oP 12 (.mv (T 65)))])) (.seq (.seq (.tr (rl [1, 1, 1, 1, 0, 0, 0, 0, 0, 58]) false (.region false [(oP 66 (.mv (T 10))), (oP 67
  (.bin .neq (T 66) (tI 0))), (oP 68 (.mv (T 67))), (.mk (some 69) (.mv (T 12)) (some (68, false)) .p), (.mk (some 70) (.bin .neq (T 69) (tI 0)) (some (68,
  false)) .p), (oP 71 (.pick (T 68) (.lit (.c (.pv (.bool true)))) (T 70)))])) (.tr (rl [1, 1, 1, 0, 0, 0, 0, 1]) false (.cond (T 71) (.seq (.tr (rl [6]) false
  (.region false [(oP 72 (.call false [] (.lit (.c (.fn 20 []))) [])), (oP 73 (.mv (T 72))), (.mk (some 74) (.mv (T 10)) (some (73, true)) .p), (.mk (some 75)
  (.bin .eql (T 74) (tI 1)) (some (73, true)) .p), (.mk (some 76) (.mv (T 12)) (some (73, true)) .p), (.mk (some 77) (.bin .eql (T 76) (tI 1)) (some (73, true))
  .p), (.mk (some 78) (.eqB false (T 75) (T 77)) (some (73, true)) .p), (oP 79 (.pick (T 73) (T 78) (.lit (.c (.pv (.bool false)))))), (oP 6 (.mv (T 79)))]))
  (.tr (rl [6]) false .ret)) .skip))) (.seq (.tr (rl [1, 5, 0, 0, 1, 1, 0]) false (.region false [(oP 81 (.faddr 6 (T 3))), (oR 82 (.load false 1 (T 81))), (oP
  83 (.iaddrA 3 1 (T 5) (tI 2))), (oR 84 (.load false 1 (T 83))), (oP 85 (.faddr 7 (T 3))), (oR 86 (.load false 1 (T 85))), (oP 87 (.bin .mul (T 84) (T 86))),
  (oP 88 (.call false [] (.lit (.c (.fn 22 []))) [(T 82), (T 87)])), (oP 80 (.mv (T 88))), (oP 89 (.extr 0 (T 80))), (oP 90 (.extr 1 (T 80))), (oP 13 (.mv (T
  89))), (oP 14 (.mv (T 90)))])) (.seq (.tr (rl [1, 5, 0, 0, 1, 1, 0, 0]) false (.region false [(oP 91 (.mv (T 9))), (oP 92 (.mv (T 11))), (oP 93 (.mv (T 13))),
  (oP 94 (.minI [(T 91), (T 92), (T 93)])), (oP 15 (.mv (T 94)))])) (.seq (.tr (rl [1, 5, 0, 0, 1, 2, 0, 0]) false (.region false [(oP 95 (.mv (T 9))), (oP 96
  (.mv (T 11))), (oP 97 (.mv (T 13))), (oP 98 (.maxI [(T 95), (T 96), (T 97)])), (oP 16 (.mv (T 98)))])) (.seq (.seq (.tr (rl [1, 5, 0, 0, 1, 2, 0, 0, 83])
  false (.region false [(oP 99 (.mv (T 16))), (oP 100 (.bin .geq (T 99) (.lit (.c (.pv (.int .i32 50000))))))])) (.tr (rl [1, 4, 0, 0, 0, 1, 2, 0, 0]) false
  (.cond (T 100) (.seq (.tr (rl [6]) false (.region false [(oP 101 (.call false [] (.lit (.c (.fn 20 []))) [])), (oP 6 (.mv (T 101)))])) (.tr (rl [6]) false
  .ret)) .skip))) (.seq (.tr (rl [9, 1, 2, 0, 0, 0, 0]) false (.region false [(oP 103 (.mv (T 1))), (oP 104 (.mv (T 7))), (oP 105 (.mv (T 8))), (oP 106 (.mv (T
  15))), (oP 107 (.mv (T 16))), (oP 108 (.bin .add (T 107) (.lit (.c (.pv (.int .i32 1)))))), (oP 109 (.call false [] (.lit (.c (.fn 23 []))) [(T 103), (T 104),
  (T 105), (T 106), (T 108)])), (oP 102 (.mv (T 109))), (oP 110 (.extr 0 (T 102))), (oP 111 (.extr 1 (T 102))), (oP 17 (.mv (T 110))), (oP 18 (.mv (T 111)))]))
  (.seq (.seq (.tr (rl [9, 1, 3, 0, 0, 99]) false (.region false [(oP 112 (.mv (T 14))), (oP 113 (.bin .neq (T 112) (tI 0))), (oP 114 (.mv (T 113))), (.mk (some
  115) (.mv (T 18)) (some (114, false)) .p), (.mk (some 116) (.bin .neq (T 115) (tI 0)) (some (114, false)) .p), (oP 117 (.pick (T 114) (.lit (.c (.pv (.bool
  true)))) (T 116)))])) (.tr (rl [6, 2, 1, 3, 0, 0]) false (.cond (T 117) (.seq (.region false [(oP 6 (.mv (.lit (.c (.pv (.bool false))))))]) (.tr (rl [6])
  false .ret)) .skip))) (.seq (.seq (.region false [(oP 19 (.mv (tI 0)))]) (.tr (rl [6, 2, 1, 5]) false (.block 0 (.loop (rl [9, 1, 3, 0, 0, 1]) xf4_l0))))
  (.seq (.tr (rl [6]) false (.region false [(oP 138 (.call false [] (.lit (.c (.fn 20 []))) [])), (oP 139 (.mv (T 138))), (.mk (some 140) (.mv (T 17)) (some
  (139, true)) .p), (.mk (some 141) (.len (T 140)) (some (139, true)) .p), (.mk (some 142) (.bin .gtr (T 141) (tI 0)) (some (139, true)) .p), (.mk (some 143)
  (.mv (T 142)) (some (139, true)) .p), (.mk (some 144) (.mv (T 9)) (some (143, false)) .p), (.mk (some 145) (.mv (T 11)) (some (143, false)) .p), (.mk (some
  146) (.bin .eql (T 144) (T 145)) (some (143, false)) .p), (.mk (some 147) (.pick (T 143) (.lit (.c (.pv (.bool true)))) (T 146)) (some (139, true)) .p), (oP
  148 (.pick (T 139) (T 147) (.lit (.c (.pv (.bool false)))))), (oP 6 (.mv (T 148)))])) (.tr (rl [6]) false .ret)))))))))))))))))
theorem xf4_ok : cmpFunc Go.Proofs.Tryd.prog 4 ((.two (.tr (rl [1, 1, 1]) false .no) (.two (.two (.tr (rl [1, 1, 1, 32]) false (.ops [{}, {}, {}, {}, {}, {}, {}, {}, {}, {}, {}, { cls := some .p }, {}, {}, {}, {}, { cls := some .p }])) (.tr (rl [1, 1, 1, 0]) false (.two (.two (.tr (rl [6]) false (.ops [{ cls := some .p }])) (.tr (rl [6]) false .no)) .no))) (.two (.tr (rl [1, 1, 1, 1]) false .no) (.two (.tr (rl [1, 1, 1, 1, 0]) false .no) (.two (.tr (rl [1, 1, 1, 1, 0, 0, 0]) false (.ops [{}, {}, {}, {}, {}, { cls := some .p }])) (.two (.tr (rl [1, 1, 1, 1, 0, 0, 0, 0, 0]) false (.ops [{}, {}, {}, {}, {}, { cls := some .p }])) (.two (.two (.tr (rl [1, 1, 1, 1, 0, 0, 0, 0, 0, 58]) false .no) (.tr (rl [1, 1, 1, 0, 0, 0, 0, 1]) false (.two (.two (.tr (rl [6]) false (.ops [{ cls := some .p }])) (.tr (rl [6]) false .no)) .no))) (.two (.tr (rl [1, 5, 0, 0, 1, 1, 0]) false (.ops [{}, {}, {}, {}, {}, {}, {}, { cls := some .p }])) (.two (.tr (rl [1, 5, 0, 0, 1, 1, 0, 0]) false .no) (.two (.tr (rl [1, 5, 0, 0, 1, 2, 0, 0]) false .no) (.two (.two (.tr (rl [1, 5, 0, 0, 1, 2, 0, 0, 83]) false .no) (.tr (rl [1, 4, 0, 0, 0, 1, 2, 0, 0]) false (.two (.two (.tr (rl [6]) false (.ops [{ cls := some .p }])) (.tr (rl [6]) false .no)) .no))) (.two (.tr (rl [9, 1, 2, 0, 0, 0, 0]) false (.ops [{}, {}, {}, {}, {}, {}, { cls := some .p }])) (.two (.two (.tr (rl [9, 1, 3, 0, 0, 99]) false .no) (.tr (rl [6, 2, 1, 3, 0, 0]) false (.two (.two .no (.tr (rl [6]) false .no)) .no))) (.two (.two .no (.tr (rl [6, 2, 1, 5]) false (.loop (rl [9, 1, 3, 0, 0, 1]) (.two (.two (.tr (rl [9, 1, 3, 0, 0, 1, 101]) false .no) (.tr (rl [9, 1, 3, 0, 0, 1]) false (.two .no (.tr (rl [9, 1, 5]) false .no)))) (.two (.tr (rl [6, 2, 1, 3, 0, 0, 1]) false (.two (.tr (rl [9, 1, 3, 0, 0, 1, 117]) false .no) (.tr (rl [6, 2, 1, 3, 0, 0, 1]) false (.two (.two .no (.tr (rl [6]) false .no)) .no)))) (.tr (rl [9, 1, 3, 0, 0, 1]) false .no)))))) (.two (.tr (rl [6]) false (.ops [{ cls := some .p }])) (.tr (rl [6]) false .no))))))))))))))))) = some xf4 := by kernel_rfl
def xf13_l0 : XCode :=
(.seq (.region false [(oP 45 (.bin .lss (T 44) (T 43)))]) (.seq (.tr (rl [6, 2, 33, 0]) false (.cond (T 45) .skip (.tr (rl [6, 2]) false (.exit 0)))) (.seq (.tr
  (rl [6, 2, 33, 0]) false (.block 1 (.seq (.tr (rl [6, 2, 0, 32, 0]) false (.region false [(oP 46 (.mv (T 44))), (oP 10 (.mv (T 46)))])) (.tr (rl [6, 2, 33,
  0]) false (.region true [(oP 47 (.faddr 3 (T 9))), (oR 48 (.load false 1 (T 47))), (oP 49 (.mv (T 10))), (oP 50 (.faddr 3 (T 9))), (oR 51 (.load false 1 (T
  50))), (oP 52 (.mv (T 10))), (oP 53 (.iaddrS 3 (T 51) (T 52))), (oP 54 (.faddr 1 (T 53))), (oP 55 (.faddr 1 (T 54))), (oR 56 (.load false 1 (T 55))), (oP 57
  (.un .neg (T 56))), (oP 58 (.iaddrS 3 (T 48) (T 49))), (oP 59 (.faddr 1 (T 58))), (oP 60 (.faddr 1 (T 59))), (sW (.store 1 (T 60) (T 57)))]))))) (.tr (rl [6,
  2, 33, 0]) false (.region false [(oP 61 (.bin .add (T 44) (tI 1))), (oP 44 (.mv (T 61)))])))))
def xf13 : XFunc :=
(.mk 69 [(.cell 6 true 7), (.tmp 7)] (.seq (.tr (rl [1, 0, 0, 2]) false (.region false [(oW 3 (.box (T 0) 7)), (oW 6 (.alloc [(.pv (.int .i64 0)), (.pv (.int
  .i32 0)), (.pv (.int .i32 0)), (.pv (.sl .nil 0 [])), (.pv (.int .i64 0)), (.pv (.int .i64 0)), (.pv (.str []))])), (oP 7 (.mv (tI 0)))])) (.seq (.seq (.tr
  (rl [1, 0, 0, 2, 1]) false (.region false [(oR 12 (.load true 7 (T 3))), (oP 13 (.call false [] (.lit (.c (.fn 36 []))) [(T 12)])), (oP 8 (.mv (T 13)))]))
  (.seq (.tr (rl [1, 0, 0, 2, 1, 6]) false (.region false [(oP 14 (.mv (T 8))), (oP 15 (.bin .neq (T 14) (tI 0)))])) (.tr (rl [1, 0, 0, 2, 0]) false (.cond (T
  15) (.seq (.tr (rl [6, 0]) false (.region false [(oP 16 (.build [(.pv (.int .i64 0)), (.pv (.int .i32 0)), (.pv (.int .i32 0)), (.pv (.sl .nil 0 [])), (.pv
  (.int .i64 0)), (.pv (.int .i64 0)), (.pv (.str []))] [])), (oP 17 (.mv (T 8))), (sW (.store 7 (T 6) (T 16))), (oP 7 (.mv (T 17)))])) (.tr (rl [6, 0]) false
  .ret)) .skip)))) (.seq (.seq (.tr (rl [1, 0, 0, 2, 20]) false (.region false [(oP 18 (.mv (T 1))), (oP 19 (.faddr 0 (T 3))), (oR 20 (.load false 1 (T 19))),
  (oP 21 (.bin .leq (T 18) (T 20))), (oP 22 (.mv (T 21))), (.mk (some 23) (.mv (T 2)) (some (22, false)) .p), (.mk (some 24) (.faddr 1 (T 3)) (some (22, false))
  .p), (.mk (some 25) (.load false 1 (T 24)) (some (22, false)) .r), (.mk (some 26) (.bin .lss (T 23) (T 25)) (some (22, false)) .p), (oP 27 (.pick (T 22) (.lit
  (.c (.pv (.bool true)))) (T 26)))])) (.tr (rl [1, 0, 0, 2, 0]) false (.cond (T 27) (.seq (.tr (rl [6, 0]) false (.region false [(oP 28 (.build [(.pv (.int
  .i64 0)), (.pv (.int .i32 0)), (.pv (.int .i32 0)), (.pv (.sl .nil 0 [])), (.pv (.int .i64 0)), (.pv (.int .i64 0)), (.pv (.str []))] [])), (sW (.store 7 (T
  6) (T 28))), (oP 7 (.mv (tI 20)))])) (.tr (rl [6, 0]) false .ret)) .skip))) (.seq (.tr (rl [1, 0, 0, 2, 2]) false (.region false [(oR 29 (.load true 7 (T
  3))), (oW 9 (.alloc [(.pv (.int .i64 0)), (.pv (.int .i32 0)), (.pv (.int .i32 0)), (.pv (.sl .nil 0 [])), (.pv (.int .i64 0)), (.pv (.int .i64 0)), (.pv
  (.str []))])), (sW (.store 7 (T 9) (T 29)))])) (.seq (.tr (rl [6, 2]) false (.region true [(oP 30 (.mv (T 1))), (oP 31 (.mv (T 2))), (oP 32 (.faddr 0 (T 3))),
  (oR 33 (.loadR false 1 (T 32) (T 3))), (oP 34 (.faddr 3 (T 3))), (oR 35 (.load false 1 (T 34))), (oP 37 (.faddr 0 (T 9))), (oW 36 (.callM (.lit (.c (.fn 37
  []))) [(T 35)])), (sW (.storeO 1 (T 37) (T 30) (T 3))), (oP 38 (.faddr 1 (T 9))), (sW (.storeO 1 (T 38) (T 31) (T 3))), (oP 39 (.faddr 4 (T 9))), (sW (.store
  1 (T 39) (T 33))), (oP 40 (.faddr 3 (T 9))), (sW (.store 1 (T 40) (T 36)))])) (.seq (.seq (.tr (rl [6, 2, 33, 0]) false (.region false [(oP 41 (.faddr 3 (T
  9))), (oR 42 (.load false 1 (T 41))), (oP 43 (.len (T 42))), (oP 44 (.mv (tI 0)))])) (.tr (rl [6, 2]) false (.block 0 (.loop (rl [6, 2, 33, 0]) xf13_l0))))
  (.seq (.seq (.tr (rl [6, 2, 1]) false (.region false [(oR 62 (.load true 7 (T 9))), (oW 63 (.call true [] (.lit (.c (.fn 36 []))) [(T 62)])), (oP 11 (.mv (T
  63)))])) (.seq (.tr (rl [6, 2, 1, 53]) false (.region false [(oP 64 (.mv (T 11))), (oP 65 (.bin .neq (T 64) (tI 0)))])) (.tr (rl [6, 0, 1]) false (.cond (T
  65) (.seq (.tr (rl [6, 0]) false (.region false [(oP 66 (.build [(.pv (.int .i64 0)), (.pv (.int .i32 0)), (.pv (.int .i32 0)), (.pv (.sl .nil 0 [])), (.pv
  (.int .i64 0)), (.pv (.int .i64 0)), (.pv (.str []))] [])), (oP 67 (.mv (T 11))), (sW (.store 7 (T 6) (T 66))), (oP 7 (.mv (T 67)))])) (.tr (rl [6, 0]) false
  .ret)) .skip)))) (.seq (.tr (rl [6, 0]) false (.region false [(oR 68 (.load true 7 (T 9))), (sW (.store 7 (T 6) (T 68))), (oP 7 (.mv (tI 0)))])) (.tr (rl [6,
  0]) false .ret))))))))))
theorem xf13_ok : cmpFunc Go.Proofs.Tryd.prog 13 ((.two (.tr (rl [1, 0, 0, 2]) false .no) (.two (.two (.tr (rl [1, 0, 0, 2, 1]) false (.ops [{}, { cls := some .p }])) (.two (.tr (rl [1, 0, 0, 2, 1, 6]) false .no) (.tr (rl [1, 0, 0, 2, 0]) false (.two (.two (.tr (rl [6, 0]) false .no) (.tr (rl [6, 0]) false .no)) .no)))) (.two (.two (.tr (rl [1, 0, 0, 2, 20]) false .no) (.tr (rl [1, 0, 0, 2, 0]) false (.two (.two (.tr (rl [6, 0]) false .no) (.tr (rl [6, 0]) false .no)) .no))) (.two (.tr (rl [1, 0, 0, 2, 2]) false .no) (.two (.tr (rl [6, 2]) false (.draw [0, 1, 2, 3, 4, 5, 7, 6, 8, 9, 10, 11, 12, 13, 14] [{}, {}, {}, { root := some 3 }, {}, {}, { own := true }, {}, { root := some 3 }, {}, { root := some 3 }])) (.two (.two (.tr (rl [6, 2, 33, 0]) false .no) (.tr (rl [6, 2]) false (.loop (rl [6, 2, 33, 0]) (.two .no (.two (.tr (rl [6, 2, 33, 0]) false (.two .no (.tr (rl [6, 2]) false .no))) (.two (.tr (rl [6, 2, 33, 0]) false (.two (.tr (rl [6, 2, 0, 32, 0]) false .no) (.tr (rl [6, 2, 33, 0]) false (.draw [0, 1, 2, 3, 4, 5, 6, 7, 8, 9, 10, 11, 12, 13, 14] [])))) (.tr (rl [6, 2, 33, 0]) false .no))))))) (.two (.two (.tr (rl [6, 2, 1]) false (.ops [{}, { fz := true }])) (.two (.tr (rl [6, 2, 1, 53]) false .no) (.tr (rl [6, 0, 1]) false (.two (.two (.tr (rl [6, 0]) false .no) (.tr (rl [6, 0]) false .no)) .no)))) (.two (.tr (rl [6, 0]) false .no) (.tr (rl [6, 0]) false .no)))))))))) = some xf13 := by kernel_rfl
def xf14 : XFunc :=
(.mk 39 [(.cell 4 true 1), (.tmp 5)] (.seq (.tr (rl [2, 0, 0]) false (.region false [(oW 2 (.box (T 0) 1)), (oW 3 (.box (T 1) 7)), (oW 4 (.alloc [(.pv (.sl .nil
  0 []))])), (oP 5 (.mv (tI 0)))])) (.seq (.seq (.tr (rl [2, 0, 0, 6]) false (.region false [(oR 9 (.load true 1 (T 2))), (oP 10 (.call false [] (.lit (.c (.fn
  38 []))) [(T 9)])), (oP 11 (.un .not (T 10)))])) (.tr (rl [2, 0, 0, 0]) false (.cond (T 11) (.seq (.tr (rl [4, 0]) false (.region false [(oP 12 (.build [(.pv
  (.sl .nil 0 []))] [])), (sW (.store 1 (T 4) (T 12))), (oP 5 (.mv (tI 1)))])) (.tr (rl [4, 0]) false .ret)) .skip))) (.seq (.seq (.tr (rl [2, 0, 0, 1]) false
  (.region false [(oR 13 (.load true 7 (T 3))), (oP 14 (.call false [] (.lit (.c (.fn 36 []))) [(T 13)])), (oP 6 (.mv (T 14)))])) (.seq (.tr (rl [2, 0, 0, 1,
  9]) false (.region false [(oP 15 (.mv (T 6))), (oP 16 (.bin .neq (T 15) (tI 0)))])) (.tr (rl [2, 0, 0, 0]) false (.cond (T 16) (.seq (.tr (rl [4, 0]) false
  (.region false [(oP 17 (.build [(.pv (.sl .nil 0 []))] [])), (oP 18 (.mv (T 6))), (sW (.store 1 (T 4) (T 17))), (oP 5 (.mv (T 18)))])) (.tr (rl [4, 0]) false
  .ret)) .skip)))) (.seq (.seq (.tr (rl [2, 0, 0, 2]) false (.region true [(oP 19 (.faddr 0 (T 2))), (oR 20 (.loadR false 1 (T 19) (T 2))), (oP 21 (.faddr 0 (T
  2))), (oR 22 (.load false 1 (T 21))), (oR 24 (.loadR true 7 (T 3) (T 3))), (oW 23 (.call false [(T 2), (T 3)] (.lit (.c (.fn 40 []))) [(T 22)])), (oW 25
  (.call false [] (.lit (.c (.fn 39 []))) [(T 20), (T 23), (T 24)])), (oP 7 (.mv (T 25)))])) (.seq (.tr (rl [2, 0, 0, 2, 19]) false (.region false [(oP 26 (.mv
  (T 7))), (oP 27 (.bin .neq (T 26) (tI 0)))])) (.tr (rl [2, 0, 0, 0]) false (.cond (T 27) (.seq (.tr (rl [4, 0]) false (.region false [(oP 28 (.build [(.pv
  (.sl .nil 0 []))] [])), (oP 29 (.mv (T 7))), (sW (.store 1 (T 4) (T 28))), (oP 5 (.mv (T 29)))])) (.tr (rl [4, 0]) false .ret)) .skip)))) (.seq (.region false
  [(oP 8 (.mv (.lit (.c (.fn 41 [])))))]) (.seq (.tr (rl [4, 0]) false (.region true [(oP 30 (.faddr 0 (T 2))), (oR 31 (.load false 1 (T 30))), (oP 32 (.mv (T
  8))), (oR 34 (.loadR true 7 (T 3) (T 3))), (oW 33 (.call false [(T 3)] (.lit (.c (.fn 42 []))) [(T 31), (T 32)])), (oP 35 (.call false [] (.lit (.c (.fn 43
  []))) [(T 34)])), (oP 36 (.buildSl [(.pv (.int .i64 0)), (.pv (.int .i32 0)), (.pv (.int .i32 0)), (.pv (.sl .nil 0 [])), (.pv (.int .i64 0)), (.pv (.int .i64
  0)), (.pv (.str []))] 1 7 [(0, (7, (T 35)))])), (oW 37 (.app 7 72 (T 33) (T 36))), (oP 38 (.build [(.pv (.sl .nil 0 []))] [(0, (1, (T 37)))])), (sW (.store 1
  (T 4) (T 38))), (oP 5 (.mv (tI 0)))])) (.tr (rl [4, 0]) false .ret))))))))
theorem xf14_ok : cmpFunc Go.Proofs.Tryd.prog 14 ((.two (.tr (rl [2, 0, 0]) false .no) (.two (.two (.tr (rl [2, 0, 0, 6]) false (.ops [{}, { cls := some .p }])) (.tr (rl [2, 0, 0, 0]) false (.two (.two (.tr (rl [4, 0]) false .no) (.tr (rl [4, 0]) false .no)) .no))) (.two (.two (.tr (rl [2, 0, 0, 1]) false (.ops [{}, { cls := some .p }])) (.two (.tr (rl [2, 0, 0, 1, 9]) false .no) (.tr (rl [2, 0, 0, 0]) false (.two (.two (.tr (rl [4, 0]) false .no) (.tr (rl [4, 0]) false .no)) .no)))) (.two (.two (.tr (rl [2, 0, 0, 2]) false (.draw [0, 1, 2, 3, 5, 4, 6, 7] [{}, { root := some 2 }, {}, {}, { ap := [2, 3] }, { root := some 3 }])) (.two (.tr (rl [2, 0, 0, 2, 19]) false .no) (.tr (rl [2, 0, 0, 0]) false (.two (.two (.tr (rl [4, 0]) false .no) (.tr (rl [4, 0]) false .no)) .no)))) (.two .no (.two (.tr (rl [4, 0]) false (.draw [0, 1, 2, 4, 3, 5, 6, 7, 8, 9, 10] [{}, {}, {}, { ap := [3] }, { root := some 3 }, { cls := some .p }])) (.tr (rl [4, 0]) false .no)))))))) = some xf14 := by kernel_rfl
def xf18_l0 : XCode :=
(.seq (.seq (.tr (rl [0, 3, 6]) false (.region false [(oP 8 (.mv (T 4))), (oP 9 (.mv (T 0))), (oP 10 (.len (T 9))), (oP 11 (.bin .lss (T 8) (T 10)))])) (.tr (rl
  [0, 3]) false (.cond (T 11) .skip (.tr (rl [0]) false (.exit 0))))) (.seq (.tr (rl [0, 1, 1]) false (.block 1 (.seq (.tr (rl [0, 3, 20]) false (.region true
  [(oP 14 (.mv (T 0))), (oP 15 (.mv (T 4))), (oP 16 (.iaddrS 10 (T 14) (T 15))), (oP 17 (.faddr 0 (T 16))), (oR 18 (.load false 1 (T 17))), (oP 19 (.mv (T 0))),
  (oP 20 (.mv (T 4))), (oP 21 (.bin .sub (T 20) (tI 1))), (oP 22 (.iaddrS 10 (T 19) (T 21))), (oP 23 (.faddr 0 (T 22))), (oR 24 (.load false 1 (T 23))), (oP 25
  (.bin .leq (T 18) (T 24)))])) (.tr (rl [0, 1, 1]) false (.cond (T 25) (.seq (.region false [(oP 2 (.mv (tI 20)))]) (.tr (rl [2]) false .ret)) .skip))))) (.tr
  (rl [0, 3]) false (.region false [(oP 12 (.mv (T 4))), (oP 13 (.bin .add (T 12) (tI 1))), (oP 4 (.mv (T 13)))]))))
def xf18 : XFunc :=
(.mk 29 [(.tmp 2)] (.seq (.tr (rl [0]) false (.region false [(oP 2 (.mv (tI 0)))])) (.seq (.region false [(oP 3 (.mv (.lit (.c (.fn 50 [])))))]) (.seq (.seq
  (.tr (rl [0, 6]) false (.region false [(oP 5 (.mv (T 0))), (oP 6 (.mv (T 3))), (oW 7 (.call false [] (.lit (.c (.fn 52 []))) [(T 5), (T 6)]))])) (.tr (rl [0,
  1]) false (.cond (T 7) (.seq (.region false [(oP 2 (.mv (tI 1)))]) (.tr (rl [2]) false .ret)) .skip))) (.seq (.seq (.region false [(oP 4 (.mv (tI 1)))]) (.tr
  (rl [0, 1]) false (.block 0 (.loop (rl [0, 3]) xf18_l0)))) (.seq (.seq (.tr (rl [28]) false (.region false [(oP 26 (.mv (T 0))), (oP 27 (.len (T 26))), (oP 28
  (.bin .gtr (T 27) (tI 100)))])) (.tr (rl [2]) false (.cond (T 28) (.seq (.region false [(oP 2 (.mv (tI 6)))]) (.tr (rl [2]) false .ret)) .skip))) (.seq
  (.region false [(oP 2 (.mv (tI 0)))]) (.tr (rl [2]) false .ret))))))))
theorem xf18_ok : cmpFunc Go.Proofs.Tryd.prog 18 ((.two (.tr (rl [0]) false .no) (.two .no (.two (.two (.tr (rl [0, 6]) false .no) (.tr (rl [0, 1]) false (.two (.two .no (.tr (rl [2]) false .no)) .no))) (.two (.two .no (.tr (rl [0, 1]) false (.loop (rl [0, 3]) (.two (.two (.tr (rl [0, 3, 6]) false .no) (.tr (rl [0, 3]) false (.two .no (.tr (rl [0]) false .no)))) (.two (.tr (rl [0, 1, 1]) false (.two (.tr (rl [0, 3, 20]) false (.draw [0, 1, 2, 3, 4, 5, 6, 7, 8, 9, 10, 11] [])) (.tr (rl [0, 1, 1]) false (.two (.two .no (.tr (rl [2]) false .no)) .no)))) (.tr (rl [0, 3]) false .no)))))) (.two (.two (.tr (rl [28]) false .no) (.tr (rl [2]) false (.two (.two .no (.tr (rl [2]) false .no)) .no))) (.two .no (.tr (rl [2]) false .no)))))))) = some xf18 := by kernel_rfl
def xf19_l0 : XCode :=
(.seq (.region false [(oP 10 (.bin .lss (T 9) (T 8)))]) (.seq (.tr (rl [0, 2, 3, 0, 0]) false (.cond (T 10) .skip (.tr (rl [0]) false (.exit 0)))) (.seq (.tr
  (rl [0, 1, 0, 3, 0, 0]) false (.block 1 (.seq (.tr (rl [0, 2, 1, 1, 0, 0]) false (.region false [(oP 11 (.iaddrS 3 (T 7) (T 9))), (oR 12 (.load true 3 (T
  11))), (oW 5 (.alloc [(.pv (.int .i32 0)), (.pv (.int .i32 0)), (.pv (.bool false))])), (sW (.store 3 (T 5) (T 12)))])) (.seq (.tr (rl [0, 2, 1, 1, 0, 0])
  false (.region true [(oP 13 (.mv (T 3))), (oP 14 (.faddr 0 (T 5))), (oR 15 (.load false 1 (T 14))), (oP 16 (.faddr 1 (T 5))), (oR 17 (.load false 1 (T 16))),
  (oP 18 (.build [(.pv (.int .i32 0)), (.pv (.int .i32 0))] [(0, (1, (T 15))), (1, (1, (T 17)))])), (oR 19 (.mlook (.int .i64 0) false (T 13) (T 18) 2)), (oP 20
  (.bin .add (T 19) (tI 1))), (oW 21 (.ment (.int .i64 0) (T 13) (T 18) 2)), (oP 22 (.extr 1 (T 21))), (sW (.mest (T 13) (T 22) (T 20)))])) (.seq (.tr (rl [0,
  2, 3, 0, 0, 32]) false (.region false [(oP 23 (.mv (T 3))), (oP 24 (.faddr 0 (T 5))), (oR 25 (.load false 1 (T 24))), (oP 26 (.faddr 1 (T 5))), (oR 27 (.load
  false 1 (T 26))), (oP 28 (.build [(.pv (.int .i32 0)), (.pv (.int .i32 0))] [(0, (1, (T 25))), (1, (1, (T 27)))])), (oR 29 (.mlook (.int .i64 0) false (T 23)
  (T 28) 2)), (oP 30 (.bin .gtr (T 29) (tI 1))), (oP 31 (.mv (T 30))), (.mk (some 32) (.faddr 0 (T 5)) (some (31, false)) .p), (.mk (some 33) (.load false 1 (T
  32)) (some (31, false)) .r), (.mk (some 34) (.call false [] (.lit (.c (.fn 53 []))) [(T 33)]) (some (31, false)) .p), (.mk (some 35) (.un .not (T 34)) (some
  (31, false)) .p), (oP 36 (.pick (T 31) (.lit (.c (.pv (.bool true)))) (T 35))), (oP 37 (.mv (T 36))), (.mk (some 38) (.faddr 1 (T 5)) (some (37, false)) .p),
  (.mk (some 39) (.load false 1 (T 38)) (some (37, false)) .r), (.mk (some 40) (.call false [] (.lit (.c (.fn 53 []))) [(T 39)]) (some (37, false)) .p), (.mk
  (some 41) (.un .not (T 40)) (some (37, false)) .p), (oP 42 (.pick (T 37) (.lit (.c (.pv (.bool true)))) (T 41)))])) (.tr (rl [0, 1, 0, 3, 0, 0]) false (.cond
  (T 42) (.seq (.region false [(oP 2 (.mv (.lit (.c (.pv (.bool false))))))]) (.tr (rl [2]) false .ret)) .skip))))))) (.tr (rl [0, 2, 3, 0, 0]) false (.region
  false [(oP 43 (.bin .add (T 9) (tI 1))), (oP 9 (.mv (T 43)))])))))
def xf19 : XFunc :=
(.mk 47 [(.tmp 2)] (.seq (.tr (rl [0]) false (.region false [(oP 2 (.mv (.lit (.c (.pv (.bool false))))))])) (.seq (.tr (rl [0, 2]) false (.region false [(.mk
  (some 6) .mkmap none .w), (oP 3 (.mv (T 6)))])) (.seq (.seq (.region false [(oP 7 (.mv (T 0))), (oP 8 (.len (T 7))), (oP 9 (.mv (tI 0)))]) (.tr (rl [0, 1])
  false (.block 0 (.loop (rl [0, 2, 3, 0, 0]) xf19_l0)))) (.seq (.tr (rl [2]) false (.region false [(oP 44 (.mv (T 0))), (oP 45 (.len (T 44))), (oP 46 (.bin
  .leq (T 45) (tI 64))), (oP 2 (.mv (T 46)))])) (.tr (rl [2]) false .ret))))))
theorem xf19_ok : cmpFunc Go.Proofs.Tryd.prog 19 ((.two (.tr (rl [0]) false .no) (.two (.tr (rl [0, 2]) false .no) (.two (.two .no (.tr (rl [0, 1]) false (.loop (rl [0, 2, 3, 0, 0]) (.two .no (.two (.tr (rl [0, 2, 3, 0, 0]) false (.two .no (.tr (rl [0]) false .no))) (.two (.tr (rl [0, 1, 0, 3, 0, 0]) false (.two (.tr (rl [0, 2, 1, 1, 0, 0]) false .no) (.two (.tr (rl [0, 2, 1, 1, 0, 0]) false (.draw [0, 1, 2, 3, 4, 5, 6, 7, 8, 9, 10] [])) (.two (.tr (rl [0, 2, 3, 0, 0, 32]) false (.ops [{}, {}, {}, {}, {}, {}, {}, {}, {}, {}, {}, { cls := some .p }, {}, {}, {}, {}, {}, { cls := some .p }])) (.tr (rl [0, 1, 0, 3, 0, 0]) false (.two (.two .no (.tr (rl [2]) false .no)) .no)))))) (.tr (rl [0, 2, 3, 0, 0]) false .no))))))) (.two (.tr (rl [2]) false .no) (.tr (rl [2]) false .no)))))) = some xf19 := by kernel_rfl
def xf20 : XFunc :=
(.mk 114 [(.tmp 0)] (.seq (.tr [] false (.region false [(oP 0 (.mv (.lit (.c (.pv (.bool false))))))])) (.seq (.tr (rl [1]) false (.region false [(oP 17 (.build
  [(.pv (.int .i64 0)), (.pv (.int .i64 0))] [(1, (1, (tI 100)))])), (oP 18 (.build [(.pv (.int .i64 0)), (.pv (.int .i64 0)), (.pv (.int .i64 0)), (.pv (.int
  .i64 0)), (.pv (.int .i64 0)), (.pv (.int .i64 0)), (.pv (.int .i32 0)), (.pv (.int .i64 0)), (.pv (.int .i64 0)), (.pv (.int .i64 0))] [(0, (1, (tI 3))), (1,
  (1, (tI 2))), (2, (1, (tI 1))), (3, (1, (tI 2))), (4, (2, (T 17))), (6, (1, (.lit (.c (.pv (.int .i32 2)))))), (7, (1, (tI 1))), (8, (1, (tI 2)))])), (oW 1
  (.alloc [(.pv (.int .i64 0)), (.pv (.int .i64 0)), (.pv (.int .i64 0)), (.pv (.int .i64 0)), (.pv (.int .i64 0)), (.pv (.int .i64 0)), (.pv (.int .i32 0)),
  (.pv (.int .i64 0)), (.pv (.int .i64 0)), (.pv (.int .i64 0))])), (sW (.store 10 (T 1) (T 18)))])) (.seq (.tr (rl [1, 0, 0]) false (.region false [(oR 20
  (.load true 10 (T 1))), (oP 21 (.build [(.pv (.int .i32 0)), (.pv (.int .i32 0)), (.pv (.bool false))] [(0, (1, (.lit (.c (.pv (.int .i32 5)))))), (1, (1,
  (.lit (.c (.pv (.int .i32 2))))))])), (oP 22 (.buildSl [(.pv (.int .i32 0)), (.pv (.int .i32 0)), (.pv (.bool false))] 1 3 [(0, (3, (T 21)))])), (oP 23 (.call
  false [] (.lit (.c (.fn 21 []))) [(T 20), (tI 0), (T 22), (.lit (.c (.pv (.int .i32 4))))])), (oP 19 (.mv (T 23))), (oP 24 (.extr 0 (T 19))), (oP 25 (.extr 1
  (T 19))), (oP 2 (.mv (T 24))), (oP 3 (.mv (T 25)))])) (.seq (.tr (rl [1, 0, 0, 0, 0]) false (.region false [(oR 27 (.load true 10 (T 1))), (oP 28 (.build
  [(.pv (.int .i32 0)), (.pv (.int .i32 0)), (.pv (.bool false))] [(0, (1, (.lit (.c (.pv (.int .i32 5)))))), (1, (1, (.lit (.c (.pv (.int .i32 2))))))])), (oP
  29 (.buildSl [(.pv (.int .i32 0)), (.pv (.int .i32 0)), (.pv (.bool false))] 1 3 [(0, (3, (T 28)))])), (oP 30 (.call false [] (.lit (.c (.fn 21 []))) [(T 27),
  (tI 0), (T 29), (.lit (.c (.pv (.int .i32 5))))])), (oP 26 (.mv (T 30))), (oP 31 (.extr 0 (T 26))), (oP 32 (.extr 1 (T 26))), (oP 4 (.mv (T 31))), (oP 5 (.mv
  (T 32)))])) (.seq (.tr (rl [2, 0, 0, 0, 0, 0]) false (.region false [(oR 34 (.load true 10 (T 1))), (oP 35 (.mv (T 4))), (oP 36 (.call false [] (.lit (.c (.fn
  54 []))) [(T 34), (tI 0), (tI 1), (.lit (.c (.pv (.int .i32 5)))), (T 35), (tI 100)])), (oP 33 (.mv (T 36))), (oP 37 (.extr 0 (T 33))), (oP 38 (.extr 1 (T
  33))), (oW 6 (.alloc [(.pv (.int .i64 0)), (.pv (.int .i32 0)), (.pv (.int .i32 0)), (.pv (.sl .nil 0 [])), (.pv (.int .i64 0)), (.pv (.int .i64 0)), (.pv
  (.str []))])), (sW (.store 7 (T 6) (T 37))), (oP 7 (.mv (T 38)))])) (.seq (.tr (rl [2, 0, 0, 0, 0, 0, 0, 0]) false (.region false [(oP 40 (.build [(.pv (.sl
  .nil 0 []))] [])), (oR 41 (.load true 7 (T 6))), (oP 42 (.call false [] (.lit (.c (.fn 14 []))) [(T 40), (T 41)])), (oP 39 (.mv (T 42))), (oP 43 (.extr 0 (T
  39))), (oP 44 (.extr 1 (T 39))), (oW 8 (.alloc [(.pv (.sl .nil 0 []))])), (sW (.store 1 (T 8) (T 43))), (oP 9 (.mv (T 44)))])) (.seq (.tr (rl [2, 0, 0, 0, 0,
  0, 0, 0, 0, 0]) false (.region false [(oP 46 (.faddr 0 (T 8))), (oR 47 (.load false 1 (T 46))), (oP 48 (.call false [] (.lit (.c (.fn 27 []))) [(T 47), (tI
  1), (tI 0), (.lit (.c (.pv (.int .i32 3))))])), (oP 45 (.mv (T 48))), (oP 49 (.extr 0 (T 45))), (oP 50 (.extr 1 (T 45))), (oP 10 (.mv (T 49))), (oP 11 (.mv (T
  50)))])) (.seq (.tr (rl [2, 0, 0, 0, 1, 0, 0, 0, 0, 0, 0]) false (.region false [(oR 52 (.load true 7 (T 6))), (oP 53 (.call false [] (.lit (.c (.fn 55 [])))
  [(T 52), (tI 2), (.lit (.c (.pv (.int .i32 9)))), (.lit (.c (.pv (.sl .nil 0 []))))])), (oP 51 (.mv (T 53))), (oP 54 (.extr 0 (T 51))), (oP 55 (.extr 1 (T
  51))), (oW 12 (.alloc [(.pv (.int .i64 0)), (.pv (.int .i32 0)), (.pv (.int .i32 0)), (.pv (.sl .nil 0 [])), (.pv (.int .i64 0)), (.pv (.int .i64 0)), (.pv
  (.str []))])), (sW (.store 7 (T 12) (T 54))), (oP 13 (.mv (T 55)))])) (.seq (.tr (rl [2, 0, 0, 0, 1, 0, 0, 0, 0, 1, 0]) false (.region false [(oR 57 (.load
  true 1 (T 8))), (oR 58 (.load true 7 (T 12))), (oP 59 (.call false [] (.lit (.c (.fn 14 []))) [(T 57), (T 58)])), (oP 56 (.mv (T 59))), (oP 60 (.extr 0 (T
  56))), (oP 61 (.extr 1 (T 56))), (sW (.store 1 (T 8) (T 60))), (oP 14 (.mv (T 61)))])) (.seq (.tr (rl [2, 0, 0, 0, 1, 1, 0, 0, 1, 0, 0, 0]) false (.region
  false [(oP 63 (.faddr 0 (T 8))), (oR 64 (.load false 1 (T 63))), (oP 65 (.call false [] (.lit (.c (.fn 27 []))) [(T 64), (tI 1), (tI 0), (.lit (.c (.pv (.int
  .i32 3))))])), (oP 62 (.mv (T 65))), (oP 66 (.extr 0 (T 62))), (oP 67 (.extr 1 (T 62))), (oP 15 (.mv (T 66))), (oP 16 (.mv (T 67)))])) (.seq (.tr (rl [0])
  false (.region false [(oP 68 (.mv (T 3))), (oP 69 (.bin .eql (T 68) (tI 0))), (oP 70 (.mv (T 69))), (.mk (some 71) (.mv (T 2)) (some (70, true)) .p), (.mk
  (some 72) (.bin .eql (T 71) (.lit (.c (.pv (.int .i32 2))))) (some (70, true)) .p), (oP 73 (.pick (T 70) (T 72) (.lit (.c (.pv (.bool false)))))), (oP 74 (.mv
  (T 73))), (.mk (some 75) (.mv (T 5)) (some (74, true)) .p), (.mk (some 76) (.bin .eql (T 75) (tI 0)) (some (74, true)) .p), (oP 77 (.pick (T 74) (T 76) (.lit
  (.c (.pv (.bool false)))))), (oP 78 (.mv (T 77))), (.mk (some 79) (.mv (T 4)) (some (78, true)) .p), (.mk (some 80) (.bin .eql (T 79) (.lit (.c (.pv (.int
  .i32 3))))) (some (78, true)) .p), (oP 81 (.pick (T 78) (T 80) (.lit (.c (.pv (.bool false)))))), (oP 82 (.mv (T 81))), (.mk (some 83) (.mv (T 7)) (some (82,
  true)) .p), (.mk (some 84) (.bin .eql (T 83) (tI 0)) (some (82, true)) .p), (oP 85 (.pick (T 82) (T 84) (.lit (.c (.pv (.bool false)))))), (oP 86 (.mv (T
  85))), (.mk (some 87) (.mv (T 9)) (some (86, true)) .p), (.mk (some 88) (.bin .eql (T 87) (tI 0)) (some (86, true)) .p), (oP 89 (.pick (T 86) (T 88) (.lit (.c
  (.pv (.bool false)))))), (oP 90 (.mv (T 89))), (.mk (some 91) (.mv (T 10)) (some (90, true)) .p), (.mk (some 92) (.bin .eql (T 91) (tI 100)) (some (90, true))
  .p), (oP 93 (.pick (T 90) (T 92) (.lit (.c (.pv (.bool false)))))), (oP 94 (.mv (T 93))), (.mk (some 95) (.mv (T 11)) (some (94, true)) .p), (.mk (some 96)
  (.bin .eql (T 95) (tI 0)) (some (94, true)) .p), (oP 97 (.pick (T 94) (T 96) (.lit (.c (.pv (.bool false)))))), (oP 98 (.mv (T 97))), (.mk (some 99) (.mv (T
  13)) (some (98, true)) .p), (.mk (some 100) (.bin .eql (T 99) (tI 0)) (some (98, true)) .p), (oP 101 (.pick (T 98) (T 100) (.lit (.c (.pv (.bool false)))))),
  (oP 102 (.mv (T 101))), (.mk (some 103) (.mv (T 14)) (some (102, true)) .p), (.mk (some 104) (.bin .eql (T 103) (tI 0)) (some (102, true)) .p), (oP 105 (.pick
  (T 102) (T 104) (.lit (.c (.pv (.bool false)))))), (oP 106 (.mv (T 105))), (.mk (some 107) (.mv (T 15)) (some (106, true)) .p), (.mk (some 108) (.bin .eql (T
  107) (tI 0)) (some (106, true)) .p), (oP 109 (.pick (T 106) (T 108) (.lit (.c (.pv (.bool false)))))), (oP 110 (.mv (T 109))), (.mk (some 111) (.mv (T 16))
  (some (110, true)) .p), (.mk (some 112) (.bin .eql (T 111) (tI 0)) (some (110, true)) .p), (oP 113 (.pick (T 110) (T 112) (.lit (.c (.pv (.bool false)))))),
  (oP 0 (.mv (T 113)))])) (.tr (rl [0]) false .ret)))))))))))))
theorem xf20_ok : cmpFunc Go.Proofs.Tryd.prog 20 ((.two (.tr [] false .no) (.two (.tr (rl [1]) false .no) (.two (.tr (rl [1, 0, 0]) false (.ops [{}, {}, {}, { cls := some .p }])) (.two (.tr (rl [1, 0, 0, 0, 0]) false (.ops [{}, {}, {}, { cls := some .p }])) (.two (.tr (rl [2, 0, 0, 0, 0, 0]) false (.ops [{}, {}, { cls := some .p }])) (.two (.tr (rl [2, 0, 0, 0, 0, 0, 0, 0]) false (.ops [{}, {}, { cls := some .p }])) (.two (.tr (rl [2, 0, 0, 0, 0, 0, 0, 0, 0, 0]) false (.ops [{}, {}, { cls := some .p }])) (.two (.tr (rl [2, 0, 0, 0, 1, 0, 0, 0, 0, 0, 0]) false (.ops [{}, { cls := some .p }])) (.two (.tr (rl [2, 0, 0, 0, 1, 0, 0, 0, 0, 1, 0]) false (.ops [{}, {}, { cls := some .p }])) (.two (.tr (rl [2, 0, 0, 0, 1, 1, 0, 0, 1, 0, 0, 0]) false (.ops [{}, {}, { cls := some .p }])) (.two (.tr (rl [0]) false .no) (.tr (rl [0]) false .no))))))))))))) = some xf20 := by kernel_rfl
def xf21 : XFunc :=
(.mk 44 [(.tmp 8), (.tmp 9)] (.seq (.tr (rl [1, 0, 0, 0]) false (.region false [(oW 4 (.box (T 0) 10)), (oP 8 (.mv (.lit (.c (.pv (.int .i32 0)))))), (oP 9 (.mv
  (tI 0)))])) (.seq (.seq (.tr (rl [1, 0, 0, 0, 17]) false (.region false [(oR 12 (.load true 10 (T 4))), (oP 13 (.call false [] (.lit (.c (.fn 51 []))) [(T
  12)])), (oP 14 (.un .not (T 13))), (oP 15 (.mv (T 14))), (.mk (some 16) (.mv (T 1)) (some (15, false)) .p), (.mk (some 17) (.faddr 8 (T 4)) (some (15, false))
  .p), (.mk (some 18) (.load false 1 (T 17)) (some (15, false)) .r), (.mk (some 19) (.bin .sub (T 18) (tI 1)) (some (15, false)) .p), (.mk (some 20) (.call
  false [] (.lit (.c (.fn 56 []))) [(T 16), (tI 0), (T 19)]) (some (15, false)) .p), (.mk (some 21) (.un .not (T 20)) (some (15, false)) .p), (oP 22 (.pick (T
  15) (.lit (.c (.pv (.bool true)))) (T 21)))])) (.tr (rl [1, 0, 0, 0, 3, 0]) false (.cond (T 22) (.seq (.region false [(oP 8 (.mv (.lit (.c (.pv (.int .i32
  0)))))), (oP 9 (.mv (tI 1)))]) (.tr (rl [8, 0]) false .ret)) .skip))) (.seq (.tr (rl [2, 0, 0, 5, 0]) false (.region false [(oP 24 (.faddr 6 (T 4))), (oR 25
  (.load false 1 (T 24))), (oP 26 (.mv (T 1))), (oP 27 (.faddr 7 (T 4))), (oR 28 (.load false 1 (T 27))), (oP 29 (.bin .mul (T 26) (T 28))), (oP 30 (.call false
  [] (.lit (.c (.fn 22 []))) [(T 25), (T 29)])), (oP 23 (.mv (T 30))), (oP 31 (.extr 0 (T 23))), (oP 32 (.extr 1 (T 23))), (oP 10 (.mv (T 31))), (oP 11 (.mv (T
  32)))])) (.seq (.seq (.tr (rl [2, 0, 0, 5, 0, 22]) false (.region false [(oP 33 (.mv (T 11))), (oP 34 (.bin .neq (T 33) (tI 0)))])) (.tr (rl [2, 0, 0, 3, 0,
  0]) false (.cond (T 34) (.seq (.tr (rl [8, 0]) false (.region false [(oP 35 (.mv (T 11))), (oP 8 (.mv (.lit (.c (.pv (.int .i32 0)))))), (oP 9 (.mv (T
  35)))])) (.tr (rl [8, 0]) false .ret)) .skip))) (.seq (.tr (rl [8, 0]) false (.region false [(oP 36 (.mv (T 2))), (oP 37 (.mv (T 3))), (oP 38 (.mv (T 10))),
  (oP 39 (.faddr 9 (T 4))), (oR 40 (.load false 1 (T 39))), (oP 41 (.call false [] (.lit (.c (.fn 57 []))) [(T 36), (T 37), (T 38), (T 40)])), (oP 42 (.extr 0
  (T 41))), (oP 43 (.extr 1 (T 41))), (oP 8 (.mv (T 42))), (oP 9 (.mv (T 43)))])) (.tr (rl [8, 0]) false .ret)))))))
theorem xf21_ok : cmpFunc Go.Proofs.Tryd.prog 21 ((.two (.tr (rl [1, 0, 0, 0]) false .no) (.two (.two (.tr (rl [1, 0, 0, 0, 17]) false (.ops [{}, { cls := some .p }, {}, {}, {}, {}, {}, {}, { cls := some .p }])) (.tr (rl [1, 0, 0, 0, 3, 0]) false (.two (.two .no (.tr (rl [8, 0]) false .no)) .no))) (.two (.tr (rl [2, 0, 0, 5, 0]) false (.ops [{}, {}, {}, {}, {}, {}, { cls := some .p }])) (.two (.two (.tr (rl [2, 0, 0, 5, 0, 22]) false .no) (.tr (rl [2, 0, 0, 3, 0, 0]) false (.two (.two (.tr (rl [8, 0]) false .no) (.tr (rl [8, 0]) false .no)) .no))) (.two (.tr (rl [8, 0]) false (.ops [{}, {}, {}, {}, {}, { cls := some .p }])) (.tr (rl [8, 0]) false .no))))))) = some xf21 := by kernel_rfl
def xf22 : XFunc :=
(.mk 52 [(.tmp 4), (.tmp 5)] (.seq (.tr (rl [0, 0]) false (.region false [(oP 4 (.mv (.lit (.c (.pv (.int .i32 0)))))), (oP 5 (.mv (tI 0)))])) (.seq (.tr (rl
  [1, 4, 0, 0, 0]) false (.region false [(oP 12 (.mv (T 0))), (oP 13 (.call false [] (.lit (.c (.fn 58 []))) [(T 12)])), (oP 11 (.mv (T 13))), (oP 14 (.extr 0
  (T 11))), (oP 15 (.extr 1 (T 11))), (oP 16 (.extr 2 (T 11))), (oP 17 (.extr 3 (T 11))), (oP 6 (.mv (T 14))), (oP 7 (.mv (T 15))), (oP 8 (.mv (T 16))), (oP 9
  (.mv (T 17)))])) (.seq (.seq (.tr (rl [1, 4, 0, 0, 18]) false (.region false [(oP 18 (.mv (T 9))), (oP 19 (.bin .neq (T 18) (tI 0))), (oP 20 (.mv (T 19))),
  (.mk (some 21) (.mv (T 1)) (some (20, false)) .p), (.mk (some 22) (.bin .lss (T 21) (.lit (.c (.pv (.int .i64 (-120000)))))) (some (20, false)) .p), (oP 23
  (.pick (T 20) (.lit (.c (.pv (.bool true)))) (T 22))), (oP 24 (.mv (T 23))), (.mk (some 25) (.mv (T 1)) (some (24, false)) .p), (.mk (some 26) (.bin .gtr (T
  25) (tI 120000)) (some (24, false)) .p), (oP 27 (.pick (T 24) (.lit (.c (.pv (.bool true)))) (T 26)))])) (.tr (rl [1, 2, 0, 0, 0, 0]) false (.cond (T 27)
  (.seq (.region false [(oP 4 (.mv (.lit (.c (.pv (.int .i32 0)))))), (oP 5 (.mv (tI 11)))]) (.tr (rl [4, 0]) false .ret)) .skip))) (.seq (.tr (rl [8, 1]) false
  (.region false [(oP 28 (.mv (T 6))), (oP 29 (.bin .mul (tI 12) (T 28))), (oP 30 (.mv (T 7))), (oP 31 (.bin .add (T 29) (T 30))), (oP 32 (.bin .sub (T 31) (tI
  1))), (oP 33 (.mv (T 1))), (oP 34 (.bin .add (T 32) (T 33))), (oP 10 (.mv (T 34)))])) (.seq (.seq (.tr (rl [8, 1, 25]) false (.region false [(oP 35 (.mv (T
  10))), (oP 36 (.bin .lss (T 35) (tI 12)))])) (.tr (rl [4, 0, 2, 1]) false (.cond (T 36) (.seq (.region false [(oP 4 (.mv (.lit (.c (.pv (.int .i32 0)))))),
  (oP 5 (.mv (tI 11)))]) (.tr (rl [4, 0]) false .ret)) .skip))) (.seq (.tr (rl [6, 0, 0]) false (.region false [(oP 37 (.mv (T 10))), (oP 38 (.bin .quo (T 37)
  (tI 12))), (oP 39 (.mv (T 10))), (oP 40 (.bin .rem (T 39) (tI 12))), (oP 41 (.bin .add (T 40) (tI 1))), (oP 6 (.mv (T 38))), (oP 7 (.mv (T 41)))])) (.seq (.tr
  (rl [4, 0]) false (.region false [(oP 42 (.mv (T 6))), (oP 43 (.mv (T 7))), (oP 44 (.mv (T 8))), (oP 45 (.mv (T 6))), (oP 46 (.mv (T 7))), (oP 47 (.call false
  [] (.lit (.c (.fn 60 []))) [(T 45), (T 46)])), (oP 48 (.minI [(T 44), (T 47)])), (oP 49 (.call false [] (.lit (.c (.fn 59 []))) [(T 42), (T 43), (T 48)])),
  (oP 50 (.extr 0 (T 49))), (oP 51 (.extr 1 (T 49))), (oP 4 (.mv (T 50))), (oP 5 (.mv (T 51)))])) (.tr (rl [4, 0]) false .ret)))))))))
theorem xf22_ok : cmpFunc Go.Proofs.Tryd.prog 22 ((.two (.tr (rl [0, 0]) false .no) (.two (.tr (rl [1, 4, 0, 0, 0]) false (.ops [{}, { cls := some .p }])) (.two (.two (.tr (rl [1, 4, 0, 0, 18]) false .no) (.tr (rl [1, 2, 0, 0, 0, 0]) false (.two (.two .no (.tr (rl [4, 0]) false .no)) .no))) (.two (.tr (rl [8, 1]) false .no) (.two (.two (.tr (rl [8, 1, 25]) false .no) (.tr (rl [4, 0, 2, 1]) false (.two (.two .no (.tr (rl [4, 0]) false .no)) .no))) (.two (.tr (rl [6, 0, 0]) false .no) (.two (.tr (rl [4, 0]) false (.ops [{}, {}, {}, {}, {}, { cls := some .p }, {}, { cls := some .p }])) (.tr (rl [4, 0]) false .no))))))))) = some xf22 := by kernel_rfl
def xf23_l0 : XCode :=
(.seq (.seq (.tr (rl [4, 9, 0, 0, 0, 25]) false (.region false [(oP 41 (.mv (T 17))), (oP 42 (.mv (T 4))), (oP 43 (.bin .lss (T 41) (T 42)))])) (.tr (rl [4, 9,
  0, 0, 0]) false (.cond (T 43) .skip (.tr (rl [16]) false (.exit 0))))) (.seq (.tr (rl [4, 9, 0, 0, 0]) false (.block 1 (.seq (.tr (rl [4, 9, 0, 0, 0, 34])
  false (.region false [(oP 46 (.mv (T 14))), (oP 47 (.mv (T 17))), (oW 48 (.call false [] (.lit (.c (.fn 64 []))) [(T 46), (T 47)])), (oP 49 (.mv (T 15))), (oP
  50 (.mv (T 17))), (oW 51 (.call false [] (.lit (.c (.fn 64 []))) [(T 49), (T 50)])), (oP 52 (.eqB true (T 48) (T 51)))])) (.tr (rl [4, 9, 0, 0, 0]) false
  (.cond (T 52) (.tr (rl [4, 9, 0, 0, 0]) false (.region false [(oP 53 (.mv (T 16))), (oP 54 (.mv (T 17))), (oP 55 (.buildSl [(.pv (.int .i32 0))] 1 1 [(0, (1,
  (T 54)))])), (oW 56 (.app 1 4 (T 53) (T 55))), (oP 16 (.mv (T 56)))])) .skip))))) (.tr (rl [4, 9, 0, 0, 0]) false (.region false [(oP 44 (.mv (T 17))), (oP 45
  (.bin .add (T 44) (.lit (.c (.pv (.int .i32 1)))))), (oP 17 (.mv (T 45)))]))))
def xf23 : XFunc :=
(.mk 58 [(.tmp 10), (.tmp 11)] (.seq (.tr (rl [0, 0, 0, 0, 0]) false (.region false [(oP 10 (.mv (.lit (.c (.pv (.sl .nil 0 [])))))), (oP 11 (.mv (tI 0)))]))
  (.seq (.seq (.tr (rl [0, 0, 0, 0, 0, 7]) false (.region false [(oP 18 (.mv (T 0))), (oP 19 (.mv (T 1))), (oP 20 (.mv (T 2))), (oP 21 (.mv (T 3))), (oP 22 (.mv
  (T 4))), (oP 23 (.buildSl [(.pv (.int .i32 0))] 4 1 [(0, (1, (T 19))), (1, (1, (T 20))), (2, (1, (T 21))), (3, (1, (T 22)))])), (oP 24 (.call false [] (.lit
  (.c (.fn 61 []))) [(T 18), (T 23)])), (oP 12 (.mv (T 24)))])) (.seq (.tr (rl [0, 0, 0, 0, 0, 7, 13]) false (.region false [(oP 25 (.mv (T 12))), (oP 26 (.bin
  .neq (T 25) (tI 0)))])) (.tr (rl [0, 0, 0, 0, 0, 5, 0]) false (.cond (T 26) (.seq (.tr (rl [10, 0]) false (.region false [(oP 27 (.mv (T 12))), (oP 10 (.mv
  (.lit (.c (.pv (.sl .nil 0 [])))))), (oP 11 (.mv (T 27)))])) (.tr (rl [10, 0]) false .ret)) .skip)))) (.seq (.seq (.tr (rl [0, 0, 0, 0, 0, 8]) false (.region
  false [(oP 28 (.mv (T 3))), (oP 29 (.mv (T 4))), (oP 30 (.call false [] (.lit (.c (.fn 62 []))) [(T 28), (T 29)])), (oP 13 (.mv (T 30)))])) (.seq (.tr (rl [0,
  0, 0, 0, 0, 8, 18]) false (.region false [(oP 31 (.mv (T 13))), (oP 32 (.bin .neq (T 31) (tI 0)))])) (.tr (rl [0, 0, 0, 0, 0, 5, 0]) false (.cond (T 32) (.seq
  (.tr (rl [10, 0]) false (.region false [(oP 33 (.mv (T 13))), (oP 10 (.mv (.lit (.c (.pv (.sl .nil 0 [])))))), (oP 11 (.mv (T 33)))])) (.tr (rl [10, 0]) false
  .ret)) .skip)))) (.seq (.tr (rl [3, 0, 9, 0]) false (.region false [(oP 34 (.mv (T 0))), (oP 35 (.mv (T 1))), (oW 36 (.call false [] (.lit (.c (.fn 63 [])))
  [(T 34), (T 35)])), (oP 37 (.mv (T 0))), (oP 38 (.mv (T 2))), (oW 39 (.call false [] (.lit (.c (.fn 63 []))) [(T 37), (T 38)])), (oP 14 (.mv (T 36))), (oP 15
  (.mv (T 39)))])) (.seq (.region false [(oP 16 (.mv (.lit (.c (.pv (.sl .nil 0 []))))))]) (.seq (.seq (.tr (rl [4, 9, 0, 0, 0]) false (.region false [(oP 40
  (.mv (T 3))), (oP 17 (.mv (T 40)))])) (.tr (rl [16]) false (.block 0 (.loop (rl [4, 9, 0, 0, 0]) xf23_l0)))) (.seq (.tr (rl [10, 0]) false (.region false [(oP
  57 (.mv (T 16))), (oP 10 (.mv (T 57))), (oP 11 (.mv (tI 0)))])) (.tr (rl [10, 0]) false .ret)))))))))
theorem xf23_ok : cmpFunc Go.Proofs.Tryd.prog 23 ((.two (.tr (rl [0, 0, 0, 0, 0]) false .no) (.two (.two (.tr (rl [0, 0, 0, 0, 0, 7]) false (.ops [{}, {}, {}, {}, {}, {}, { cls := some .p }])) (.two (.tr (rl [0, 0, 0, 0, 0, 7, 13]) false .no) (.tr (rl [0, 0, 0, 0, 0, 5, 0]) false (.two (.two (.tr (rl [10, 0]) false .no) (.tr (rl [10, 0]) false .no)) .no)))) (.two (.two (.tr (rl [0, 0, 0, 0, 0, 8]) false (.ops [{}, {}, { cls := some .p }])) (.two (.tr (rl [0, 0, 0, 0, 0, 8, 18]) false .no) (.tr (rl [0, 0, 0, 0, 0, 5, 0]) false (.two (.two (.tr (rl [10, 0]) false .no) (.tr (rl [10, 0]) false .no)) .no)))) (.two (.tr (rl [3, 0, 9, 0]) false .no) (.two .no (.two (.two (.tr (rl [4, 9, 0, 0, 0]) false .no) (.tr (rl [16]) false (.loop (rl [4, 9, 0, 0, 0]) (.two (.two (.tr (rl [4, 9, 0, 0, 0, 25]) false .no) (.tr (rl [4, 9, 0, 0, 0]) false (.two .no (.tr (rl [16]) false .no)))) (.two (.tr (rl [4, 9, 0, 0, 0]) false (.two (.tr (rl [4, 9, 0, 0, 0, 34]) false .no) (.tr (rl [4, 9, 0, 0, 0]) false (.two (.tr (rl [4, 9, 0, 0, 0]) false .no) .no)))) (.tr (rl [4, 9, 0, 0, 0]) false .no)))))) (.two (.tr (rl [10, 0]) false .no) (.tr (rl [10, 0]) false .no))))))))) = some xf23 := by kernel_rfl
def xf27_l0 : XCode :=
(.seq (.region false [(oP 24 (.bin .lss (T 23) (T 22)))]) (.seq (.tr (rl [0, 0, 0, 0, 17, 0, 0]) false (.cond (T 24) .skip (.tr (rl [0, 0, 0, 0]) false (.exit
  0)))) (.seq (.tr (rl [0, 0, 0, 0, 4, 0, 11, 0, 0]) false (.block 1 (.seq (.tr (rl [0, 0, 0, 0, 7, 9, 0, 0]) false (.region false [(oP 25 (.iaddrS 7 (T 21) (T
  23))), (oR 26 (.load true 7 (T 25))), (oW 11 (.alloc [(.pv (.int .i64 0)), (.pv (.int .i32 0)), (.pv (.int .i32 0)), (.pv (.sl .nil 0 [])), (.pv (.int .i64
  0)), (.pv (.int .i64 0)), (.pv (.str []))])), (sW (.store 7 (T 11) (T 26)))])) (.seq (.tr (rl [0, 0, 0, 0, 8, 8, 0, 0]) false (.region false [(oR 27 (.load
  true 7 (T 11))), (oP 28 (.call false [] (.lit (.c (.fn 36 []))) [(T 27)])), (oP 12 (.mv (T 28)))])) (.seq (.tr (rl [0, 0, 0, 0, 8, 8, 0, 0, 6]) false (.region
  false [(oP 29 (.mv (T 12))), (oP 30 (.bin .neq (T 29) (tI 0)))])) (.tr (rl [0, 0, 0, 0, 4, 0, 11, 0, 0]) false (.cond (T 30) (.seq (.tr (rl [8, 0]) false
  (.region false [(oP 31 (.mv (T 12))), (oP 8 (.mv (tI 0))), (oP 9 (.mv (T 31)))])) (.tr (rl [8, 0]) false .ret)) .skip))))))) (.tr (rl [0, 0, 0, 0, 17, 0, 0])
  false (.region false [(oP 32 (.bin .add (T 23) (tI 1))), (oP 23 (.mv (T 32)))])))))
def xf27_l1 : XCode :=
(.seq (.region false [(oP 42 (.bin .lss (T 41) (T 40)))]) (.seq (.tr (rl [1, 0, 0, 9, 25, 0, 0]) false (.cond (T 42) .skip (.tr (rl [13]) false (.exit 2))))
  (.seq (.tr (rl [1, 0, 0, 9, 25, 0, 0]) false (.block 3 (.seq (.tr (rl [1, 0, 0, 9, 1, 23, 0, 0]) false (.region false [(oP 43 (.iaddrS 7 (T 39) (T 41))), (oR
  44 (.load true 7 (T 43))), (oW 15 (.alloc [(.pv (.int .i64 0)), (.pv (.int .i32 0)), (.pv (.int .i32 0)), (.pv (.sl .nil 0 [])), (.pv (.int .i64 0)), (.pv
  (.int .i64 0)), (.pv (.str []))])), (sW (.store 7 (T 15) (T 44)))])) (.seq (.tr (rl [1, 0, 0, 9, 1, 0, 22, 0, 0]) false (.region false [(oR 46 (.load true 7
  (T 15))), (oP 47 (.mv (T 1))), (oP 48 (.mv (T 2))), (oP 49 (.call false [] (.lit (.c (.fn 73 []))) [(T 46), (T 47), (T 48)])), (oP 45 (.mv (T 49))), (oP 50
  (.extr 0 (T 45))), (oP 51 (.extr 1 (T 45))), (oP 16 (.mv (T 50))), (oP 17 (.mv (T 51)))])) (.seq (.tr (rl [1, 0, 0, 9, 2, 22, 0, 0, 13]) false (.region false
  [(oP 52 (.faddr 2 (T 15))), (oR 53 (.load false 1 (T 52))), (oP 54 (.mv (T 3))), (oP 55 (.bin .leq (T 53) (T 54)))])) (.tr (rl [1, 0, 0, 9, 25, 0, 0]) false
  (.cond (T 55) (.tr (rl [1, 0, 0, 9, 25, 0, 0]) false (.region false [(oP 56 (.mv (T 13))), (oP 57 (.mv (T 16))), (oP 58 (.bin .add (T 56) (T 57))), (oP 13
  (.mv (T 58)))])) .skip))))))) (.tr (rl [1, 0, 0, 9, 25, 0, 0]) false (.region false [(oP 59 (.bin .add (T 41) (tI 1))), (oP 41 (.mv (T 59)))])))))
def xf27 : XFunc :=
(.mk 61 [(.tmp 8), (.tmp 9)] (.seq (.tr (rl [0, 0, 0, 0]) false (.region false [(oP 8 (.mv (tI 0))), (oP 9 (.mv (tI 0)))])) (.seq (.seq (.tr (rl [0, 0, 0, 0,
  16]) false (.region false [(oP 18 (.mv (T 0))), (oP 19 (.len (T 18))), (oP 20 (.bin .gtr (T 19) (tI 400)))])) (.tr (rl [0, 0, 0, 0, 4, 0]) false (.cond (T 20)
  (.seq (.region false [(oP 8 (.mv (tI 0))), (oP 9 (.mv (tI 4)))]) (.tr (rl [8, 0]) false .ret)) .skip))) (.seq (.seq (.region false [(oP 21 (.mv (T 0))), (oP
  22 (.len (T 21))), (oP 23 (.mv (tI 0)))]) (.tr (rl [0, 0, 0, 0, 4, 0]) false (.block 0 (.loop (rl [0, 0, 0, 0, 17, 0, 0]) xf27_l0)))) (.seq (.seq (.tr (rl [0,
  0, 0, 0, 34]) false (.region false [(oP 33 (.mv (T 2))), (oP 34 (.bin .lss (T 33) (tI 0))), (oP 35 (.mv (T 34))), (.mk (some 36) (.mv (T 2)) (some (35,
  false)) .p), (.mk (some 37) (.bin .geq (T 36) (tI 4)) (some (35, false)) .p), (oP 38 (.pick (T 35) (.lit (.c (.pv (.bool true)))) (T 37)))])) (.tr (rl [0, 0,
  0, 0, 4, 0]) false (.cond (T 38) (.seq (.region false [(oP 8 (.mv (tI 0))), (oP 9 (.mv (tI 12)))]) (.tr (rl [8, 0]) false .ret)) .skip))) (.seq (.region false
  [(oP 13 (.mv (tI 0)))]) (.seq (.seq (.tr (rl [1, 0, 0, 9, 25, 0, 0]) false (.region false [(oP 39 (.mv (T 0))), (oP 40 (.len (T 39))), (oP 41 (.mv (tI 0)))]))
  (.tr (rl [13]) false (.block 2 (.loop (rl [1, 0, 0, 9, 25, 0, 0]) xf27_l1)))) (.seq (.tr (rl [8, 0]) false (.region false [(oP 60 (.mv (T 13))), (oP 8 (.mv (T
  60))), (oP 9 (.mv (tI 0)))])) (.tr (rl [8, 0]) false .ret)))))))))
theorem xf27_ok : cmpFunc Go.Proofs.Tryd.prog 27 ((.two (.tr (rl [0, 0, 0, 0]) false .no) (.two (.two (.tr (rl [0, 0, 0, 0, 16]) false .no) (.tr (rl [0, 0, 0, 0, 4, 0]) false (.two (.two .no (.tr (rl [8, 0]) false .no)) .no))) (.two (.two .no (.tr (rl [0, 0, 0, 0, 4, 0]) false (.loop (rl [0, 0, 0, 0, 17, 0, 0]) (.two .no (.two (.tr (rl [0, 0, 0, 0, 17, 0, 0]) false (.two .no (.tr (rl [0, 0, 0, 0]) false .no))) (.two (.tr (rl [0, 0, 0, 0, 4, 0, 11, 0, 0]) false (.two (.tr (rl [0, 0, 0, 0, 7, 9, 0, 0]) false .no) (.two (.tr (rl [0, 0, 0, 0, 8, 8, 0, 0]) false (.ops [{}, { cls := some .p }])) (.two (.tr (rl [0, 0, 0, 0, 8, 8, 0, 0, 6]) false .no) (.tr (rl [0, 0, 0, 0, 4, 0, 11, 0, 0]) false (.two (.two (.tr (rl [8, 0]) false .no) (.tr (rl [8, 0]) false .no)) .no)))))) (.tr (rl [0, 0, 0, 0, 17, 0, 0]) false .no))))))) (.two (.two (.tr (rl [0, 0, 0, 0, 34]) false .no) (.tr (rl [0, 0, 0, 0, 4, 0]) false (.two (.two .no (.tr (rl [8, 0]) false .no)) .no))) (.two .no (.two (.two (.tr (rl [1, 0, 0, 9, 25, 0, 0]) false .no) (.tr (rl [13]) false (.loop (rl [1, 0, 0, 9, 25, 0, 0]) (.two .no (.two (.tr (rl [1, 0, 0, 9, 25, 0, 0]) false (.two .no (.tr (rl [13]) false .no))) (.two (.tr (rl [1, 0, 0, 9, 25, 0, 0]) false (.two (.tr (rl [1, 0, 0, 9, 1, 23, 0, 0]) false .no) (.two (.tr (rl [1, 0, 0, 9, 1, 0, 22, 0, 0]) false (.ops [{}, {}, {}, { cls := some .p }])) (.two (.tr (rl [1, 0, 0, 9, 2, 22, 0, 0, 13]) false .no) (.tr (rl [1, 0, 0, 9, 25, 0, 0]) false (.two (.tr (rl [1, 0, 0, 9, 25, 0, 0]) false .no) .no)))))) (.tr (rl [1, 0, 0, 9, 25, 0, 0]) false .no))))))) (.two (.tr (rl [8, 0]) false .no) (.tr (rl [8, 0]) false .no))))))))) = some xf27 := by kernel_rfl
def xf30 : XFunc :=
(.mk 16 [(.tmp 2)] (.seq (.tr (rl [1]) false (.region false [(oW 1 (.box (T 0) 2)), (oP 2 (.mv (.lit (.c (.pv (.bool false))))))])) (.seq (.tr (rl [2]) false
  (.region false [(oP 3 (.faddr 0 (T 1))), (oR 4 (.load false 1 (T 3))), (oP 5 (.call false [] (.lit (.c (.fn 74 []))) [(T 4)])), (oP 6 (.mv (T 5))), (.mk (some
  7) (.faddr 1 (T 1)) (some (6, true)) .p), (.mk (some 8) (.load false 1 (T 7)) (some (6, true)) .r), (.mk (some 9) (.bin .geq (T 8) (.lit (.c (.pv (.int .i64
  (-1000000000000000)))))) (some (6, true)) .p), (oP 10 (.pick (T 6) (T 9) (.lit (.c (.pv (.bool false)))))), (oP 11 (.mv (T 10))), (.mk (some 12) (.faddr 1 (T
  1)) (some (11, true)) .p), (.mk (some 13) (.load false 1 (T 12)) (some (11, true)) .r), (.mk (some 14) (.bin .leq (T 13) (tI 1000000000000000)) (some (11,
  true)) .p), (oP 15 (.pick (T 11) (T 14) (.lit (.c (.pv (.bool false)))))), (oP 2 (.mv (T 15)))])) (.tr (rl [2]) false .ret))))
theorem xf30_ok : cmpFunc Go.Proofs.Tryd.prog 30 ((.two (.tr (rl [1]) false .no) (.two (.tr (rl [2]) false (.ops [{}, {}, { cls := some .p }])) (.tr (rl [2]) false .no)))) = some xf30 := by kernel_rfl
def xf36 : XFunc :=
(.mk 47 [(.tmp 2)] (.seq (.tr (rl [1]) false (.region false [(oW 1 (.box (T 0) 7)), (oP 2 (.mv (tI 0)))])) (.seq (.tr (rl [1, 1]) false (.region false [(oP 4
  (.mkfn 83 [(T 1)])), (oP 3 (.mv (T 4)))])) (.seq (.tr (rl [2]) false (.block 0 (.seq (.tr (rl [1, 1, 1]) false (.region false [(oR 6 (.load true 7 (T 1))),
  (oP 7 (.call false [] (.lit (.c (.fn 85 []))) [(T 6)])), (oP 8 (.un .not (T 7))), (oP 5 (.mv (T 8)))])) (.tr (rl [2]) false (.cond (T 5) (.seq (.region false
  [(oP 2 (.mv (tI 1)))]) (.tr (rl [2]) false .ret)) (.seq (.tr (rl [1, 1, 5]) false (.region false [(oP 10 (.faddr 1 (T 1))), (oR 11 (.load false 1 (T 10))),
  (oP 12 (.call false [] (.lit (.c (.fn 53 []))) [(T 11)])), (oP 13 (.un .not (T 12))), (oP 14 (.mv (T 13))), (.mk (some 15) (.faddr 2 (T 1)) (some (14, false))
  .p), (.mk (some 16) (.load false 1 (T 15)) (some (14, false)) .r), (.mk (some 17) (.call false [] (.lit (.c (.fn 53 []))) [(T 16)]) (some (14, false)) .p),
  (.mk (some 18) (.un .not (T 17)) (some (14, false)) .p), (oP 19 (.pick (T 14) (.lit (.c (.pv (.bool true)))) (T 18))), (oP 9 (.mv (T 19)))])) (.tr (rl [2])
  false (.cond (T 9) (.seq (.region false [(oP 2 (.mv (tI 11)))]) (.tr (rl [2]) false .ret)) (.seq (.tr (rl [1, 1, 16]) false (.region false [(oP 21 (.faddr 3
  (T 1))), (oR 22 (.load false 1 (T 21))), (oP 23 (.len (T 22))), (oP 24 (.bin .lss (T 23) (tI 2))), (oP 20 (.mv (T 24)))])) (.tr (rl [2]) false (.cond (T 20)
  (.seq (.region false [(oP 2 (.mv (tI 2)))]) (.tr (rl [2]) false .ret)) (.seq (.tr (rl [1, 1, 21]) false (.region false [(oP 26 (.faddr 3 (T 1))), (oR 27
  (.load false 1 (T 26))), (oP 28 (.len (T 27))), (oP 29 (.bin .gtr (T 28) (tI 16))), (oP 25 (.mv (T 29)))])) (.tr (rl [2]) false (.cond (T 25) (.seq (.region
  false [(oP 2 (.mv (tI 4)))]) (.tr (rl [2]) false .ret)) (.seq (.tr (rl [1, 1, 26]) false (.region false [(oP 31 (.mv (T 3))), (oW 32 (.call false [] (T 31)
  [(.lit (.c (.fn 86 [])))])), (oP 30 (.mv (T 32)))])) (.tr (rl [2]) false (.cond (T 30) (.seq (.region false [(oP 2 (.mv (tI 8)))]) (.tr (rl [2]) false .ret))
  (.seq (.tr (rl [1, 1, 29]) false (.region false [(oP 34 (.mv (T 3))), (oW 35 (.call false [] (T 34) [(.lit (.c (.fn 87 [])))])), (oP 33 (.mv (T 35)))])) (.tr
  (rl [2]) false (.cond (T 33) (.seq (.region false [(oP 2 (.mv (tI 12)))]) (.tr (rl [2]) false .ret)) (.seq (.tr (rl [1, 1, 32]) false (.region false [(oP 37
  (.mv (T 3))), (oW 38 (.call false [] (T 37) [(.lit (.c (.fn 89 [])))])), (oP 36 (.mv (T 38)))])) (.tr (rl [2]) false (.cond (T 36) (.seq (.region false [(oP 2
  (.mv (tI 9)))]) (.tr (rl [2]) false .ret)) (.seq (.tr (rl [1, 37]) false (.region false [(oP 40 (.mv (T 3))), (oW 41 (.call false [] (T 40) [(.lit (.c (.fn 90
  [])))])), (oP 39 (.mv (T 41)))])) (.tr (rl [2]) false (.cond (T 39) (.seq (.region false [(oP 2 (.mv (tI 10)))]) (.tr (rl [2]) false .ret)) (.seq (.tr (rl
  [42]) false (.region false [(oP 43 (.faddr 3 (T 1))), (oR 44 (.load false 1 (T 43))), (oP 45 (.call false [] (.lit (.c (.fn 91 []))) [(T 44)])), (oP 46 (.un
  .not (T 45))), (oP 42 (.mv (T 46)))])) (.tr (rl [2]) false (.cond (T 42) (.seq (.region false [(oP 2 (.mv (tI 15)))]) (.tr (rl [2]) false .ret))
  .skip))))))))))))))))))))))))))))) (.seq (.region false [(oP 2 (.mv (tI 0)))]) (.tr (rl [2]) false .ret))))))
theorem xf36_ok : cmpFunc Go.Proofs.Tryd.prog 36 ((.two (.tr (rl [1]) false .no) (.two (.tr (rl [1, 1]) false .no) (.two (.tr (rl [2]) false (.two (.tr (rl [1, 1, 1]) false (.ops [{}, { cls := some .p }])) (.tr (rl [2]) false (.two (.two .no (.tr (rl [2]) false .no)) (.two (.tr (rl [1, 1, 5]) false (.ops [{}, {}, { cls := some .p }, {}, {}, {}, {}, { cls := some .p }])) (.tr (rl [2]) false (.two (.two .no (.tr (rl [2]) false .no)) (.two (.tr (rl [1, 1, 16]) false .no) (.tr (rl [2]) false (.two (.two .no (.tr (rl [2]) false .no)) (.two (.tr (rl [1, 1, 21]) false .no) (.tr (rl [2]) false (.two (.two .no (.tr (rl [2]) false .no)) (.two (.tr (rl [1, 1, 26]) false .no) (.tr (rl [2]) false (.two (.two .no (.tr (rl [2]) false .no)) (.two (.tr (rl [1, 1, 29]) false .no) (.tr (rl [2]) false (.two (.two .no (.tr (rl [2]) false .no)) (.two (.tr (rl [1, 1, 32]) false .no) (.tr (rl [2]) false (.two (.two .no (.tr (rl [2]) false .no)) (.two (.tr (rl [1, 37]) false .no) (.tr (rl [2]) false (.two (.two .no (.tr (rl [2]) false .no)) (.two (.tr (rl [42]) false (.ops [{}, {}, { cls := some .p }])) (.tr (rl [2]) false (.two (.two .no (.tr (rl [2]) false .no)) .no)))))))))))))))))))))))))))) (.two .no (.tr (rl [2]) false .no)))))) = some xf36 := by kernel_rfl
def xf37 : XFunc :=
(.mk 8 [(.tmp 2)] (.seq (.tr (rl [0]) false (.region false [(oP 2 (.mv (.lit (.c (.pv (.sl .nil 0 []))))))])) (.seq (.seq (.tr (rl [0, 3]) false (.region false
  [(oP 3 (.mv (T 0))), (oP 4 (.eqN 0 false (T 3) (.lit (.c (.pv (.sl .nil 0 []))))))])) (.tr (rl [0, 1]) false (.cond (T 4) (.seq (.region false [(oP 2 (.mv
  (.lit (.c (.pv (.sl .nil 0 []))))))]) (.tr (rl [2]) false .ret)) .skip))) (.seq (.tr (rl [2]) false (.region false [(oP 5 (.buildSl [(.pv (.int .i64 0)), (.pv
  (.int .i64 0)), (.pv (.int .i64 0))] 0 3 [])), (oP 6 (.mv (T 0))), (oW 7 (.app 3 24 (T 5) (T 6))), (oP 2 (.mv (T 7)))])) (.tr (rl [2]) false .ret)))))
theorem xf37_ok : cmpFunc Go.Proofs.Tryd.prog 37 ((.two (.tr (rl [0]) false .no) (.two (.two (.tr (rl [0, 3]) false .no) (.tr (rl [0, 1]) false (.two (.two .no (.tr (rl [2]) false .no)) .no))) (.two (.tr (rl [2]) false .no) (.tr (rl [2]) false .no))))) = some xf37 := by kernel_rfl
def xf38_l0 : XCode :=
(.seq (.region false [(oP 11 (.bin .lss (T 10) (T 9)))]) (.seq (.tr (rl [1, 1, 4, 0, 0]) false (.cond (T 11) .skip (.tr [] false (.exit 0)))) (.seq (.tr (rl [1,
  0, 0, 4, 0, 0]) false (.block 1 (.seq (.tr (rl [1, 1, 0, 0, 2, 0, 0]) false (.region false [(oP 12 (.mv (T 10))), (oP 13 (.iaddrS 7 (T 8) (T 10))), (oR 14
  (.load true 7 (T 13))), (oW 5 (.alloc [(.pv (.int .i64 0)), (.pv (.int .i32 0)), (.pv (.int .i32 0)), (.pv (.sl .nil 0 [])), (.pv (.int .i64 0)), (.pv (.int
  .i64 0)), (.pv (.str []))])), (oP 4 (.mv (T 12))), (sW (.store 7 (T 5) (T 14)))])) (.seq (.seq (.tr (rl [1, 1, 1, 2, 0, 0, 16]) false (.region true [(oR 15
  (.load true 7 (T 5))), (oP 16 (.call false [] (.lit (.c (.fn 36 []))) [(T 15)])), (oP 17 (.bin .neq (T 16) (tI 0))), (oP 18 (.mv (T 17))), (.mk (some 19)
  (.faddr 0 (T 1)) (some (18, false)) .p), (.mk (some 20) (.load false 1 (T 19)) (some (18, false)) .r), (.mk (some 21) (.mv (T 4)) (some (18, false)) .p), (.mk
  (some 22) (.sliceV 7 (T 20) none (some (T 21)) none) (some (18, false)) .p), (.mk (some 23) (.mv (T 3)) (some (18, false)) .p), (.mk (some 24) (.load true 7
  (T 5)) (some (18, false)) .r), (.mk (some 25) (.call false [] (.lit (.c (.fn 39 []))) [(T 22), (T 23), (T 24)]) (some (18, false)) .w), (.mk (some 26) (.bin
  .neq (T 25) (tI 0)) (some (18, false)) .p), (oP 27 (.pick (T 18) (.lit (.c (.pv (.bool true)))) (T 26)))])) (.tr (rl [1, 0, 0, 1, 2, 0, 0]) false (.cond (T
  27) (.seq (.region false [(oP 2 (.mv (.lit (.c (.pv (.bool false))))))]) (.tr (rl [2]) false .ret)) .skip))) (.tr (rl [1, 1, 4, 0, 0]) false (.region false
  [(oP 28 (.mv (T 3))), (oP 29 (.faddr 4 (T 5))), (oR 30 (.load false 1 (T 29))), (sW (.mupd (T 28) (T 30) (.lit (.c (.pv (.bool true)))) 0))])))))) (.tr (rl
  [1, 1, 4, 0, 0]) false (.region false [(oP 31 (.bin .add (T 10) (tI 1))), (oP 10 (.mv (T 31)))])))))
def xf38 : XFunc :=
(.mk 32 [(.tmp 2)] (.seq (.tr (rl [1]) false (.region false [(oW 1 (.box (T 0) 1)), (oP 2 (.mv (.lit (.c (.pv (.bool false))))))])) (.seq (.tr (rl [1, 1]) false
  (.region false [(.mk (some 6) .mkmap none .w), (oP 3 (.mv (T 6)))])) (.seq (.seq (.tr (rl [1, 1, 4, 0, 0]) false (.region false [(oP 7 (.faddr 0 (T 1))), (oR
  8 (.load false 1 (T 7))), (oP 9 (.len (T 8))), (oP 10 (.mv (tI 0)))])) (.tr (rl [2]) false (.block 0 (.loop (rl [1, 1, 4, 0, 0]) xf38_l0)))) (.seq (.region
  false [(oP 2 (.mv (.lit (.c (.pv (.bool true))))))]) (.tr (rl [2]) false .ret))))))
theorem xf38_ok : cmpFunc Go.Proofs.Tryd.prog 38 ((.two (.tr (rl [1]) false .no) (.two (.tr (rl [1, 1]) false .no) (.two (.two (.tr (rl [1, 1, 4, 0, 0]) false .no) (.tr (rl [2]) false (.loop (rl [1, 1, 4, 0, 0]) (.two .no (.two (.tr (rl [1, 1, 4, 0, 0]) false (.two .no (.tr [] false .no))) (.two (.tr (rl [1, 0, 0, 4, 0, 0]) false (.two (.tr (rl [1, 1, 0, 0, 2, 0, 0]) false .no) (.two (.two (.tr (rl [1, 1, 1, 2, 0, 0, 16]) false (.draw [0, 1, 2, 3, 4, 5, 6, 7, 8, 9, 10, 11, 12] [{}, { cls := some .p }])) (.tr (rl [1, 0, 0, 1, 2, 0, 0]) false (.two (.two .no (.tr (rl [2]) false .no)) .no))) (.tr (rl [1, 1, 4, 0, 0]) false .no)))) (.tr (rl [1, 1, 4, 0, 0]) false .no))))))) (.two .no (.tr (rl [2]) false .no)))))) = some xf38 := by kernel_rfl
def xf39 : XFunc :=
(.mk 73 [(.tmp 6)] (.seq (.tr (rl [0, 0, 3]) false (.region false [(oW 5 (.box (T 2) 7)), (oP 6 (.mv (tI 0)))])) (.seq (.tr (rl [0, 0, 3, 1]) false (.region
  false [(oP 11 (.mv (T 0))), (oP 12 (.len (T 11))), (oP 7 (.mv (T 12)))])) (.seq (.tr (rl [0, 0, 3, 0]) false (.block 0 (.seq (.tr (rl [0, 0, 3, 1, 5]) false
  (.region false [(oP 14 (.mv (T 7))), (oP 15 (.bin .eql (T 14) (tI 400))), (oP 13 (.mv (T 15)))])) (.tr (rl [0, 0, 3, 0]) false (.cond (T 13) (.seq (.region
  false [(oP 6 (.mv (tI 6)))]) (.tr (rl [6]) false .ret)) (.seq (.tr (rl [0, 0, 3, 1, 8]) false (.region false [(oP 17 (.faddr 0 (T 5))), (oR 18 (.load false 1
  (T 17))), (oP 19 (.mv (T 7))), (oP 20 (.bin .add (T 19) (tI 1))), (oP 21 (.bin .neq (T 18) (T 20))), (oP 16 (.mv (T 21)))])) (.tr (rl [0, 0, 3, 0]) false
  (.cond (T 16) (.seq (.region false [(oP 6 (.mv (tI 25)))]) (.tr (rl [6]) false .ret)) (.seq (.tr (rl [0, 0, 3, 16]) false (.region true [(oP 23 (.mv (T 7))),
  (oP 24 (.bin .gtr (T 23) (tI 0))), (oP 25 (.mv (T 24))), (.mk (some 26) (.faddr 1 (T 5)) (some (25, true)) .p), (.mk (some 27) (.load false 1 (T 26)) (some
  (25, true)) .r), (.mk (some 28) (.mv (T 0)) (some (25, true)) .p), (.mk (some 29) (.mv (T 7)) (some (25, true)) .p), (.mk (some 30) (.bin .sub (T 29) (tI 1))
  (some (25, true)) .p), (.mk (some 31) (.iaddrS 7 (T 28) (T 30)) (some (25, true)) .p), (.mk (some 32) (.faddr 1 (T 31)) (some (25, true)) .p), (.mk (some 33)
  (.load false 1 (T 32)) (some (25, true)) .r), (.mk (some 34) (.bin .lss (T 27) (T 33)) (some (25, true)) .p), (oP 35 (.pick (T 25) (T 34) (.lit (.c (.pv
  (.bool false)))))), (oP 22 (.mv (T 35)))])) (.tr (rl [0, 0, 3, 0]) false (.cond (T 22) (.seq (.region false [(oP 6 (.mv (tI 20)))]) (.tr (rl [6]) false .ret))
  (.seq (.tr (rl [0, 0, 3, 30]) false (.region false [(oP 37 (.faddr 4 (T 5))), (oR 38 (.load false 1 (T 37))), (oP 39 (.bin .eql (T 38) (tI 0))), (oP 36 (.mv
  (T 39)))])) (.tr (rl [0, 0, 3, 0]) false (.cond (T 36) (.seq (.region false [(oP 6 (.mv (tI 0)))]) (.tr (rl [6]) false .ret)) .skip)))))))))))))) (.seq (.tr
  (rl [1, 3, 2]) false (.region false [(oP 40 (.mv (T 0))), (oP 41 (.faddr 4 (T 5))), (oR 42 (.load false 1 (T 41))), (oP 43 (.bin .sub (T 42) (tI 1))), (oP 44
  (.iaddrS 7 (T 40) (T 43))), (oR 45 (.load true 7 (T 44))), (oW 8 (.alloc [(.pv (.int .i64 0)), (.pv (.int .i32 0)), (.pv (.int .i32 0)), (.pv (.sl .nil 0
  [])), (.pv (.int .i64 0)), (.pv (.int .i64 0)), (.pv (.str []))])), (sW (.store 7 (T 8) (T 45)))])) (.seq (.tr (rl [1, 3, 2, 0, 0]) false (.region false [(oR
  47 (.load true 7 (T 8))), (oP 48 (.faddr 0 (T 5))), (oR 49 (.load false 1 (T 48))), (oP 50 (.faddr 1 (T 5))), (oR 51 (.load false 1 (T 50))), (oP 52 (.call
  false [] (.lit (.c (.fn 13 []))) [(T 47), (T 49), (T 51)])), (oP 46 (.mv (T 52))), (oP 53 (.extr 0 (T 46))), (oP 54 (.extr 1 (T 46))), (oW 9 (.alloc [(.pv
  (.int .i64 0)), (.pv (.int .i32 0)), (.pv (.int .i32 0)), (.pv (.sl .nil 0 [])), (.pv (.int .i64 0)), (.pv (.int .i64 0)), (.pv (.str []))])), (sW (.store 7
  (T 9) (T 53))), (oP 10 (.mv (T 54)))])) (.seq (.tr (rl [6]) false (.block 1 (.seq (.tr (rl [1, 3, 3, 0, 44]) false (.region false [(oP 56 (.faddr 4 (T 8))),
  (oR 57 (.load false 1 (T 56))), (oP 58 (.bin .gtr (T 57) (tI 0))), (oP 55 (.mv (T 58)))])) (.tr (rl [6]) false (.cond (T 55) (.seq (.region false [(oP 6 (.mv
  (tI 27)))]) (.tr (rl [6]) false .ret)) (.seq (.tr (rl [5, 3, 0, 48]) false (.region false [(oP 60 (.mv (T 1))), (oP 61 (.faddr 4 (T 5))), (oR 62 (.load false
  1 (T 61))), (oR 63 (.mlook (.bool false) false (T 60) (T 62) 0)), (oP 59 (.mv (T 63)))])) (.tr (rl [6]) false (.cond (T 59) (.seq (.region false [(oP 6 (.mv
  (tI 23)))]) (.tr (rl [6]) false .ret)) (.seq (.tr (rl [64]) false (.region false [(oP 65 (.mv (T 10))), (oP 66 (.bin .neq (T 65) (tI 0))), (oP 67 (.mv (T
  66))), (.mk (some 68) (.load true 7 (T 9)) (some (67, false)) .r), (.mk (some 69) (.load true 7 (T 5)) (some (67, false)) .r), (.mk (some 70) (.call false []
  (.lit (.c (.fn 92 []))) [(T 68), (T 69)]) (some (67, false)) .p), (.mk (some 71) (.un .not (T 70)) (some (67, false)) .p), (oP 72 (.pick (T 67) (.lit (.c (.pv
  (.bool true)))) (T 71))), (oP 64 (.mv (T 72)))])) (.tr (rl [6]) false (.cond (T 64) (.seq (.region false [(oP 6 (.mv (tI 3)))]) (.tr (rl [6]) false .ret))
  .skip))))))))))) (.seq (.region false [(oP 6 (.mv (tI 0)))]) (.tr (rl [6]) false .ret)))))))))
theorem xf39_ok : cmpFunc Go.Proofs.Tryd.prog 39 ((.two (.tr (rl [0, 0, 3]) false .no) (.two (.tr (rl [0, 0, 3, 1]) false .no) (.two (.tr (rl [0, 0, 3, 0]) false (.two (.tr (rl [0, 0, 3, 1, 5]) false .no) (.tr (rl [0, 0, 3, 0]) false (.two (.two .no (.tr (rl [6]) false .no)) (.two (.tr (rl [0, 0, 3, 1, 8]) false .no) (.tr (rl [0, 0, 3, 0]) false (.two (.two .no (.tr (rl [6]) false .no)) (.two (.tr (rl [0, 0, 3, 16]) false (.draw [0, 1, 2, 3, 4, 5, 6, 7, 8, 9, 10, 11, 12, 13] [])) (.tr (rl [0, 0, 3, 0]) false (.two (.two .no (.tr (rl [6]) false .no)) (.two (.tr (rl [0, 0, 3, 30]) false .no) (.tr (rl [0, 0, 3, 0]) false (.two (.two .no (.tr (rl [6]) false .no)) .no))))))))))))) (.two (.tr (rl [1, 3, 2]) false .no) (.two (.tr (rl [1, 3, 2, 0, 0]) false (.ops [{}, {}, {}, {}, {}, { cls := some .p }])) (.two (.tr (rl [6]) false (.two (.tr (rl [1, 3, 3, 0, 44]) false .no) (.tr (rl [6]) false (.two (.two .no (.tr (rl [6]) false .no)) (.two (.tr (rl [5, 3, 0, 48]) false .no) (.tr (rl [6]) false (.two (.two .no (.tr (rl [6]) false .no)) (.two (.tr (rl [64]) false (.ops [{}, {}, {}, {}, {}, { cls := some .p }])) (.tr (rl [6]) false (.two (.two .no (.tr (rl [6]) false .no)) .no)))))))))) (.two .no (.tr (rl [6]) false .no))))))))) = some xf39 := by kernel_rfl
def xf40_l0 : XCode :=
(.seq (.region false [(oP 10 (.bin .lss (T 9) (T 8)))]) (.seq (.tr (rl [3, 3, 0, 0]) false (.cond (T 10) .skip (.tr (rl [3]) false (.exit 0)))) (.seq (.tr (rl
  [3, 3, 0, 0]) false (.block 1 (.seq (.tr (rl [3, 1, 1, 0, 0]) false (.region false [(oP 11 (.iaddrS 7 (T 7) (T 9))), (oR 12 (.load true 7 (T 11))), (oW 5
  (.alloc [(.pv (.int .i64 0)), (.pv (.int .i32 0)), (.pv (.int .i32 0)), (.pv (.sl .nil 0 [])), (.pv (.int .i64 0)), (.pv (.int .i64 0)), (.pv (.str []))])),
  (sW (.store 7 (T 5) (T 12)))])) (.tr (rl [3, 3, 0, 0]) false (.region false [(oP 13 (.mv (T 3))), (oP 14 (.faddr 4 (T 5))), (oR 15 (.load false 1 (T 14))),
  (sW (.mupd (T 13) (T 15) (.lit (.c (.pv (.bool true)))) 0))]))))) (.tr (rl [3, 3, 0, 0]) false (.region false [(oP 16 (.bin .add (T 9) (tI 1))), (oP 9 (.mv (T
  16)))])))))
def xf40 : XFunc :=
(.mk 18 [(.tmp 2)] (.seq (.tr (rl [0]) false (.region false [(oP 2 (.mv (.lit (.c .nilm))))])) (.seq (.tr (rl [0, 2]) false (.region false [(.mk (some 6) .mkmap
  none .w), (oP 3 (.mv (T 6)))])) (.seq (.seq (.tr (rl [3, 3, 0, 0]) false (.region false [(oP 7 (.mv (T 0))), (oP 8 (.len (T 7))), (oP 9 (.mv (tI 0)))])) (.tr
  (rl [3]) false (.block 0 (.loop (rl [3, 3, 0, 0]) xf40_l0)))) (.seq (.tr (rl [2]) false (.region false [(oP 17 (.mv (T 3))), (oP 2 (.mv (T 17)))])) (.tr (rl
  [2]) false .ret))))))
theorem xf40_ok : cmpFunc Go.Proofs.Tryd.prog 40 ((.two (.tr (rl [0]) false .no) (.two (.tr (rl [0, 2]) false .no) (.two (.two (.tr (rl [3, 3, 0, 0]) false .no) (.tr (rl [3]) false (.loop (rl [3, 3, 0, 0]) (.two .no (.two (.tr (rl [3, 3, 0, 0]) false (.two .no (.tr (rl [3]) false .no))) (.two (.tr (rl [3, 3, 0, 0]) false (.two (.tr (rl [3, 1, 1, 0, 0]) false .no) (.tr (rl [3, 3, 0, 0]) false .no))) (.tr (rl [3, 3, 0, 0]) false .no))))))) (.two (.tr (rl [2]) false .no) (.tr (rl [2]) false .no)))))) = some xf40 := by kernel_rfl
def xf41 : XFunc :=
(.mk 3 [(.tmp 2)] (.seq (.tr [] false (.region false [(oW 1 (.box (T 0) 7)), (oP 2 (.mv (.lit (.c (.pv (.bool false))))))])) (.seq (.region false [(oP 2 (.mv
  (.lit (.c (.pv (.bool true))))))]) (.tr (rl [2]) false .ret))))
theorem xf41_ok : cmpFunc Go.Proofs.Tryd.prog 41 ((.two (.tr [] false .no) (.two .no (.tr (rl [2]) false .no)))) = some xf41 := by kernel_rfl
def xf42_l0 : XCode :=
(.seq (.region false [(oP 11 (.bin .lss (T 10) (T 9)))]) (.seq (.tr (rl [1, 3, 2, 0, 0]) false (.cond (T 11) .skip (.tr (rl [5]) false (.exit 0)))) (.seq (.tr
  (rl [1, 3, 2, 0, 0]) false (.block 1 (.seq (.tr (rl [1, 3, 1, 0, 0, 0]) false (.region false [(oP 12 (.iaddrS 7 (T 8) (T 10))), (oR 13 (.load true 7 (T 12))),
  (oW 7 (.alloc [(.pv (.int .i64 0)), (.pv (.int .i32 0)), (.pv (.int .i32 0)), (.pv (.sl .nil 0 [])), (.pv (.int .i64 0)), (.pv (.int .i64 0)), (.pv (.str
  []))])), (sW (.store 7 (T 7) (T 13)))])) (.seq (.tr (rl [1, 3, 1, 0, 0, 0, 5]) false (.region false [(oP 14 (.mv (T 1))), (oR 15 (.load true 7 (T 7))), (oW 16
  (.call false [] (T 14) [(T 15)]))])) (.tr (rl [1, 3, 2, 0, 0]) false (.cond (T 16) (.tr (rl [1, 3, 2, 0, 0]) false (.region false [(oP 17 (.mv (T 5))), (oR 18
  (.load true 7 (T 7))), (oP 19 (.call false [] (.lit (.c (.fn 43 []))) [(T 18)])), (oP 20 (.buildSl [(.pv (.int .i64 0)), (.pv (.int .i32 0)), (.pv (.int .i32
  0)), (.pv (.sl .nil 0 [])), (.pv (.int .i64 0)), (.pv (.int .i64 0)), (.pv (.str []))] 1 7 [(0, (7, (T 19)))])), (oW 21 (.app 7 72 (T 17) (T 20))), (oP 5 (.mv
  (T 21)))])) .skip)))))) (.tr (rl [1, 3, 2, 0, 0]) false (.region false [(oP 22 (.bin .add (T 10) (tI 1))), (oP 10 (.mv (T 22)))])))))
def xf42 : XFunc :=
(.mk 24 [(.tmp 4)] (.seq (.tr (rl [0, 0]) false (.region false [(oP 4 (.mv (.lit (.c (.pv (.sl .nil 0 []))))))])) (.seq (.region false [(oP 5 (.mv (.lit (.c
  (.pv (.sl .nil 0 []))))))]) (.seq (.seq (.tr (rl [1, 3, 2, 0, 0]) false (.region false [(oP 8 (.mv (T 0))), (oP 9 (.len (T 8))), (oP 10 (.mv (tI 0)))])) (.tr
  (rl [5]) false (.block 0 (.loop (rl [1, 3, 2, 0, 0]) xf42_l0)))) (.seq (.tr (rl [4]) false (.region false [(oP 23 (.mv (T 5))), (oP 4 (.mv (T 23)))])) (.tr
  (rl [4]) false .ret))))))
theorem xf42_ok : cmpFunc Go.Proofs.Tryd.prog 42 ((.two (.tr (rl [0, 0]) false .no) (.two .no (.two (.two (.tr (rl [1, 3, 2, 0, 0]) false .no) (.tr (rl [5]) false (.loop (rl [1, 3, 2, 0, 0]) (.two .no (.two (.tr (rl [1, 3, 2, 0, 0]) false (.two .no (.tr (rl [5]) false .no))) (.two (.tr (rl [1, 3, 2, 0, 0]) false (.two (.tr (rl [1, 3, 1, 0, 0, 0]) false .no) (.two (.tr (rl [1, 3, 1, 0, 0, 0, 5]) false .no) (.tr (rl [1, 3, 2, 0, 0]) false (.two (.tr (rl [1, 3, 2, 0, 0]) false (.ops [{}, {}, { cls := some .p }])) .no))))) (.tr (rl [1, 3, 2, 0, 0]) false .no))))))) (.two (.tr (rl [4]) false .no) (.tr (rl [4]) false .no)))))) = some xf42 := by kernel_rfl
def xf43 : XFunc :=
(.mk 8 [(.cell 2 true 7)] (.seq (.tr (rl [1, 0]) false (.region false [(oW 1 (.box (T 0) 7)), (oW 2 (.alloc [(.pv (.int .i64 0)), (.pv (.int .i32 0)), (.pv
  (.int .i32 0)), (.pv (.sl .nil 0 [])), (.pv (.int .i64 0)), (.pv (.int .i64 0)), (.pv (.str []))]))])) (.seq (.tr (rl [1, 0]) false (.region false [(oP 3
  (.faddr 3 (T 1))), (oR 4 (.load false 1 (T 3))), (oP 5 (.call false [] (.lit (.c (.fn 37 []))) [(T 4)])), (oP 6 (.faddr 3 (T 1))), (sW (.store 1 (T 6) (T
  5)))])) (.seq (.tr (rl [2]) false (.region false [(oR 7 (.load true 7 (T 1))), (sW (.store 7 (T 2) (T 7)))])) (.tr (rl [2]) false .ret)))))
theorem xf43_ok : cmpFunc Go.Proofs.Tryd.prog 43 ((.two (.tr (rl [1, 0]) false .no) (.two (.tr (rl [1, 0]) false (.ops [{}, {}, { cls := some .p }])) (.two (.tr (rl [2]) false .no) (.tr (rl [2]) false .no))))) = some xf43 := by kernel_rfl
def xf50 : XFunc :=
(.mk 6 [(.tmp 2)] (.seq (.tr (rl [1]) false (.region false [(oW 1 (.box (T 0) 10)), (oP 2 (.mv (.lit (.c (.pv (.bool false))))))])) (.seq (.tr (rl [2]) false
  (.region false [(oR 3 (.load true 10 (T 1))), (oP 4 (.call false [] (.lit (.c (.fn 51 []))) [(T 3)])), (oP 5 (.un .not (T 4))), (oP 2 (.mv (T 5)))])) (.tr (rl
  [2]) false .ret))))
theorem xf50_ok : cmpFunc Go.Proofs.Tryd.prog 50 ((.two (.tr (rl [1]) false .no) (.two (.tr (rl [2]) false (.ops [{}, { cls := some .p }])) (.tr (rl [2]) false .no)))) = some xf50 := by kernel_rfl
def xf51 : XFunc :=
(.mk 76 [(.tmp 2)] (.seq (.tr (rl [1]) false (.region false [(oW 1 (.box (T 0) 10)), (oP 2 (.mv (.lit (.c (.pv (.bool false))))))])) (.seq (.tr (rl [1, 1])
  false (.region false [(oP 6 (.faddr 2 (T 1))), (oR 7 (.load false 1 (T 6))), (oP 8 (.call false [] (.lit (.c (.fn 96 []))) [(T 7), (tI 1), (tI 999)])), (oP 9
  (.mv (T 8))), (.mk (some 10) (.faddr 3 (T 1)) (some (9, true)) .p), (.mk (some 11) (.load false 1 (T 10)) (some (9, true)) .r), (.mk (some 12) (.call false []
  (.lit (.c (.fn 96 []))) [(T 11), (tI 1), (tI 999)]) (some (9, true)) .p), (oP 13 (.pick (T 9) (T 12) (.lit (.c (.pv (.bool false)))))), (oP 14 (.mv (T 13))),
  (.mk (some 15) (.faddr 2 (T 1)) (some (14, true)) .p), (.mk (some 16) (.load false 1 (T 15)) (some (14, true)) .r), (.mk (some 17) (.faddr 3 (T 1)) (some (14,
  true)) .p), (.mk (some 18) (.load false 1 (T 17)) (some (14, true)) .r), (.mk (some 19) (.bin .neq (T 16) (T 18)) (some (14, true)) .p), (oP 20 (.pick (T 14)
  (T 19) (.lit (.c (.pv (.bool false)))))), (oP 3 (.mv (T 20)))])) (.seq (.tr (rl [1, 1, 0]) false (.region false [(oP 21 (.faddr 4 (T 1))), (oR 22 (.load true
  2 (T 21))), (oP 23 (.call false [] (.lit (.c (.fn 30 []))) [(T 22)])), (oP 24 (.mv (T 23))), (.mk (some 25) (.faddr 4 (T 1)) (some (24, true)) .p), (.mk (some
  26) (.faddr 1 (T 25)) (some (24, true)) .p), (.mk (some 27) (.load false 1 (T 26)) (some (24, true)) .r), (.mk (some 28) (.bin .gtr (T 27) (tI 0)) (some (24,
  true)) .p), (.mk (some 29) (.mv (T 28)) (some (24, true)) .p), (.mk (some 30) (.faddr 4 (T 1)) (some (29, false)) .p), (.mk (some 31) (.faddr 1 (T 30)) (some
  (29, false)) .p), (.mk (some 32) (.load false 1 (T 31)) (some (29, false)) .r), (.mk (some 33) (.bin .eql (T 32) (tI 0)) (some (29, false)) .p), (.mk (some
  34) (.mv (T 33)) (some (29, false)) .p), (.mk (some 35) (.faddr 1 (T 1)) (some (34, true)) .p), (.mk (some 36) (.load false 1 (T 35)) (some (34, true)) .r),
  (.mk (some 37) (.bin .eql (T 36) (tI 1)) (some (34, true)) .p), (.mk (some 38) (.pick (T 34) (T 37) (.lit (.c (.pv (.bool false))))) (some (29, false)) .p),
  (.mk (some 39) (.pick (T 29) (.lit (.c (.pv (.bool true)))) (T 38)) (some (24, true)) .p), (oP 40 (.pick (T 24) (T 39) (.lit (.c (.pv (.bool false)))))), (oP
  4 (.mv (T 40)))])) (.seq (.tr (rl [1, 1, 0, 0]) false (.region false [(oP 41 (.faddr 6 (T 1))), (oR 42 (.load false 1 (T 41))), (oP 43 (.call false [] (.lit
  (.c (.fn 53 []))) [(T 42)])), (oP 44 (.mv (T 43))), (.mk (some 45) (.faddr 7 (T 1)) (some (44, true)) .p), (.mk (some 46) (.load false 1 (T 45)) (some (44,
  true)) .r), (.mk (some 47) (.call false [] (.lit (.c (.fn 56 []))) [(T 46), (tI 1), (tI 12)]) (some (44, true)) .p), (oP 48 (.pick (T 44) (T 47) (.lit (.c
  (.pv (.bool false)))))), (oP 49 (.mv (T 48))), (.mk (some 50) (.faddr 8 (T 1)) (some (49, true)) .p), (.mk (some 51) (.load false 1 (T 50)) (some (49, true))
  .r), (.mk (some 52) (.call false [] (.lit (.c (.fn 56 []))) [(T 51), (tI 1), (tI 120)]) (some (49, true)) .p), (oP 53 (.pick (T 49) (T 52) (.lit (.c (.pv
  (.bool false)))))), (oP 5 (.mv (T 53)))])) (.seq (.tr (rl [2]) false (.region false [(oP 54 (.faddr 0 (T 1))), (oR 55 (.load false 1 (T 54))), (oP 56 (.call
  false [] (.lit (.c (.fn 56 []))) [(T 55), (tI 1), (tI 1000000)])), (oP 57 (.mv (T 56))), (.mk (some 58) (.faddr 1 (T 1)) (some (57, true)) .p), (.mk (some 59)
  (.load false 1 (T 58)) (some (57, true)) .r), (.mk (some 60) (.call false [] (.lit (.c (.fn 56 []))) [(T 59), (tI 0), (tI 2)]) (some (57, true)) .p), (oP 61
  (.pick (T 57) (T 60) (.lit (.c (.pv (.bool false)))))), (oP 62 (.mv (T 61))), (.mk (some 63) (.mv (T 3)) (some (62, true)) .p), (oP 64 (.pick (T 62) (T 63)
  (.lit (.c (.pv (.bool false)))))), (oP 65 (.mv (T 64))), (.mk (some 66) (.mv (T 4)) (some (65, true)) .p), (oP 67 (.pick (T 65) (T 66) (.lit (.c (.pv (.bool
  false)))))), (oP 68 (.mv (T 67))), (.mk (some 69) (.mv (T 5)) (some (68, true)) .p), (oP 70 (.pick (T 68) (T 69) (.lit (.c (.pv (.bool false)))))), (oP 71
  (.mv (T 70))), (.mk (some 72) (.faddr 9 (T 1)) (some (71, true)) .p), (.mk (some 73) (.load false 1 (T 72)) (some (71, true)) .r), (.mk (some 74) (.call false
  [] (.lit (.c (.fn 56 []))) [(T 73), (tI 0), (tI 2)]) (some (71, true)) .p), (oP 75 (.pick (T 71) (T 74) (.lit (.c (.pv (.bool false)))))), (oP 2 (.mv (T
  75)))])) (.tr (rl [2]) false .ret)))))))
theorem xf51_ok : cmpFunc Go.Proofs.Tryd.prog 51 ((.two (.tr (rl [1]) false .no) (.two (.tr (rl [1, 1]) false (.ops [{}, {}, { cls := some .p }, {}, {}, {}, { cls := some .p }])) (.two (.tr (rl [1, 1, 0]) false (.ops [{}, {}, { cls := some .p }])) (.two (.tr (rl [1, 1, 0, 0]) false (.ops [{}, {}, { cls := some .p }, {}, {}, {}, { cls := some .p }, {}, {}, {}, {}, { cls := some .p }])) (.two (.tr (rl [2]) false (.ops [{}, {}, { cls := some .p }, {}, {}, {}, { cls := some .p }, {}, {}, {}, {}, {}, {}, {}, {}, {}, {}, {}, {}, {}, { cls := some .p }])) (.tr (rl [2]) false .no))))))) = some xf51 := by kernel_rfl
def xf52 : XFunc :=
(.mk 9 [(.tmp 4)] (.seq (.tr (rl [0, 0]) false (.region false [(oP 4 (.mv (.lit (.c (.pv (.bool false))))))])) (.seq (.tr (rl [4]) false (.region false [(oP 5
  (.mv (T 0))), (oP 6 (.mv (T 1))), (oW 7 (.call false [] (.lit (.c (.fn 97 []))) [(T 5), (T 6)])), (oP 8 (.bin .geq (T 7) (tI 0))), (oP 4 (.mv (T 8)))])) (.tr
  (rl [4]) false .ret))))
theorem xf52_ok : cmpFunc Go.Proofs.Tryd.prog 52 ((.two (.tr (rl [0, 0]) false .no) (.two (.tr (rl [4]) false .no) (.tr (rl [4]) false .no)))) = some xf52 := by kernel_rfl
def xf53 : XFunc :=
(.mk 9 [(.tmp 2)] (.seq (.tr (rl [0]) false (.region false [(oP 2 (.mv (.lit (.c (.pv (.bool false))))))])) (.seq (.tr (rl [2]) false (.region false [(oP 3 (.mv
  (T 0))), (oP 4 (.bin .geq (T 3) (.lit (.c (.pv (.int .i32 (-50000))))))), (oP 5 (.mv (T 4))), (.mk (some 6) (.mv (T 0)) (some (5, true)) .p), (.mk (some 7)
  (.bin .leq (T 6) (.lit (.c (.pv (.int .i32 50000))))) (some (5, true)) .p), (oP 8 (.pick (T 5) (T 7) (.lit (.c (.pv (.bool false)))))), (oP 2 (.mv (T 8)))]))
  (.tr (rl [2]) false .ret))))
theorem xf53_ok : cmpFunc Go.Proofs.Tryd.prog 53 ((.two (.tr (rl [0]) false .no) (.two (.tr (rl [2]) false .no) (.tr (rl [2]) false .no)))) = some xf53 := by kernel_rfl
def xf54 : XFunc :=
(.mk 84 [(.cell 12 true 7), (.tmp 13)] (.seq (.tr (rl [1, 0, 0, 0, 0, 0, 5]) false (.region false [(oW 6 (.box (T 0) 10)), (oW 12 (.alloc [(.pv (.int .i64 0)),
  (.pv (.int .i32 0)), (.pv (.int .i32 0)), (.pv (.sl .nil 0 [])), (.pv (.int .i64 0)), (.pv (.int .i64 0)), (.pv (.str []))])), (oP 13 (.mv (tI 0)))])) (.seq
  (.tr (rl [1, 0, 0, 0, 1, 5, 1, 0]) false (.region false [(oR 19 (.load true 10 (T 6))), (oP 20 (.mv (T 5))), (oP 21 (.call false [] (.lit (.c (.fn 98 [])))
  [(T 19), (T 20)])), (oP 18 (.mv (T 21))), (oP 22 (.extr 0 (T 18))), (oP 23 (.extr 1 (T 18))), (oP 14 (.mv (T 22))), (oP 15 (.mv (T 23)))])) (.seq (.tr (rl [1,
  0, 0, 0, 1, 5, 0, 0]) false (.block 0 (.seq (.tr (rl [1, 0, 0, 0, 1, 5, 1, 0, 8]) false (.region false [(oP 25 (.mv (T 15))), (oP 26 (.bin .neq (T 25) (tI
  0))), (oP 24 (.mv (T 26)))])) (.tr (rl [1, 0, 0, 0, 1, 5, 0, 0]) false (.cond (T 24) (.seq (.tr (rl [12, 0]) false (.region false [(oP 27 (.build [(.pv (.int
  .i64 0)), (.pv (.int .i32 0)), (.pv (.int .i32 0)), (.pv (.sl .nil 0 [])), (.pv (.int .i64 0)), (.pv (.int .i64 0)), (.pv (.str []))] [])), (oP 28 (.mv (T
  15))), (sW (.store 7 (T 12) (T 27))), (oP 13 (.mv (T 28)))])) (.tr (rl [12, 0]) false .ret)) (.seq (.tr (rl [1, 0, 0, 0, 1, 5, 1, 14]) false (.region false
  [(oP 30 (.mv (T 1))), (oP 31 (.faddr 8 (T 6))), (oR 32 (.load false 1 (T 31))), (oP 33 (.bin .sub (T 32) (tI 1))), (oP 34 (.call false [] (.lit (.c (.fn 56
  []))) [(T 30), (tI 0), (T 33)])), (oP 35 (.un .not (T 34))), (oP 29 (.mv (T 35)))])) (.tr (rl [1, 0, 0, 0, 1, 5, 0, 0]) false (.cond (T 29) (.seq (.tr (rl
  [12, 0]) false (.region false [(oP 36 (.build [(.pv (.int .i64 0)), (.pv (.int .i32 0)), (.pv (.int .i32 0)), (.pv (.sl .nil 0 [])), (.pv (.int .i64 0)), (.pv
  (.int .i64 0)), (.pv (.str []))] [])), (sW (.store 7 (T 12) (T 36))), (oP 13 (.mv (tI 1)))])) (.tr (rl [12, 0]) false .ret)) (.seq (.tr (rl [1, 0, 0, 0, 1, 5,
  1, 22]) false (.region false [(oP 38 (.mv (T 14))), (oP 39 (.bin .eql (T 38) (tI 0))), (oP 37 (.mv (T 39)))])) (.tr (rl [1, 0, 0, 0, 1, 5, 0, 0]) false (.cond
  (T 37) (.seq (.tr (rl [12, 0]) false (.region false [(oP 40 (.build [(.pv (.int .i64 0)), (.pv (.int .i32 0)), (.pv (.int .i32 0)), (.pv (.sl .nil 0 [])),
  (.pv (.int .i64 0)), (.pv (.int .i64 0)), (.pv (.str []))] [])), (sW (.store 7 (T 12) (T 40))), (oP 13 (.mv (tI 18)))])) (.tr (rl [12, 0]) false .ret))
  .skip))))))))))) (.seq (.tr (rl [6, 5, 1, 1]) false (.region true [(oP 41 (.mv (T 2))), (oP 42 (.mv (T 3))), (oP 43 (.mv (T 4))), (oP 44 (.faddr 1 (T 6))),
  (oR 45 (.load false 1 (T 44))), (oP 46 (.iaddrA 3 1 (.lit (.c (.cptr [(.str [115, 116, 97, 110, 100, 105, 110, 103]), (.str [115, 119, 101, 101, 112]), (.str
  [100, 101, 98, 105, 116])] 0))) (T 45))), (oR 47 (.load false 1 (T 46))), (oP 48 (.bin .add (T 47) (.lit (.c (.pv (.str [32])))))), (oP 49 (.faddr 0 (T 6))),
  (oR 50 (.load false 1 (T 49))), (oP 51 (.call false [] (.lit (.c (.fn 99 []))) [(T 50)])), (oP 52 (.bin .add (T 48) (T 51))), (oP 53 (.bin .add (T 52) (.lit
  (.c (.pv (.str [46])))))), (oP 54 (.mv (T 1))), (oP 55 (.call false [] (.lit (.c (.fn 99 []))) [(T 54)])), (oP 56 (.bin .add (T 53) (T 55))), (oP 57 (.build
  [(.pv (.int .i64 0)), (.pv (.int .i32 0)), (.pv (.int .i32 0)), (.pv (.sl .nil 0 [])), (.pv (.int .i64 0)), (.pv (.int .i64 0)), (.pv (.str []))] [(0, (1, (T
  41))), (1, (1, (T 42))), (2, (1, (T 43))), (6, (1, (T 56)))])), (oW 16 (.alloc [(.pv (.int .i64 0)), (.pv (.int .i32 0)), (.pv (.int .i32 0)), (.pv (.sl .nil
  0 [])), (.pv (.int .i64 0)), (.pv (.int .i64 0)), (.pv (.str []))])), (sW (.store 7 (T 16) (T 57)))])) (.seq (.tr (rl [12, 3]) false (.region false [(oP 58
  (.faddr 2 (T 6))), (oR 59 (.load false 1 (T 58))), (oP 60 (.faddr 4 (T 6))), (oP 61 (.faddr 0 (T 60))), (oR 62 (.load false 1 (T 61))), (oP 63 (.mv (T 14))),
  (oP 64 (.build [(.pv (.int .i64 0)), (.pv (.int .i64 0))] [(0, (1, (T 62))), (1, (1, (T 63)))])), (oP 65 (.build [(.pv (.int .i64 0)), (.pv (.int .i64 0)),
  (.pv (.int .i64 0))] [(0, (1, (T 59))), (1, (2, (T 64)))])), (oP 66 (.faddr 3 (T 6))), (oR 67 (.load false 1 (T 66))), (oP 68 (.faddr 4 (T 6))), (oP 69
  (.faddr 0 (T 68))), (oR 70 (.load false 1 (T 69))), (oP 71 (.mv (T 14))), (oP 72 (.un .neg (T 71))), (oP 73 (.build [(.pv (.int .i64 0)), (.pv (.int .i64 0))]
  [(0, (1, (T 70))), (1, (1, (T 72)))])), (oP 74 (.build [(.pv (.int .i64 0)), (.pv (.int .i64 0)), (.pv (.int .i64 0))] [(0, (1, (T 67))), (1, (2, (T 73)))])),
  (oP 75 (.buildSl [(.pv (.int .i64 0)), (.pv (.int .i64 0)), (.pv (.int .i64 0))] 2 3 [(0, (3, (T 65))), (3, (3, (T 74)))])), (oP 76 (.faddr 3 (T 16))), (sW
  (.store 1 (T 76) (T 75)))])) (.seq (.seq (.tr (rl [12, 3, 0]) false (.region false [(oR 77 (.load true 7 (T 16))), (oP 78 (.call false [] (.lit (.c (.fn 36
  []))) [(T 77)])), (oP 17 (.mv (T 78)))])) (.seq (.tr (rl [12, 3, 0, 62]) false (.region false [(oP 79 (.mv (T 17))), (oP 80 (.bin .neq (T 79) (tI 0)))])) (.tr
  (rl [12, 0, 2]) false (.cond (T 80) (.seq (.tr (rl [12, 0]) false (.region false [(oP 81 (.build [(.pv (.int .i64 0)), (.pv (.int .i32 0)), (.pv (.int .i32
  0)), (.pv (.sl .nil 0 [])), (.pv (.int .i64 0)), (.pv (.int .i64 0)), (.pv (.str []))] [])), (oP 82 (.mv (T 17))), (sW (.store 7 (T 12) (T 81))), (oP 13 (.mv
  (T 82)))])) (.tr (rl [12, 0]) false .ret)) .skip)))) (.seq (.tr (rl [12, 0]) false (.region false [(oR 83 (.load true 7 (T 16))), (sW (.store 7 (T 12) (T
  83))), (oP 13 (.mv (tI 0)))])) (.tr (rl [12, 0]) false .ret)))))))))
theorem xf54_ok : cmpFunc Go.Proofs.Tryd.prog 54 ((.two (.tr (rl [1, 0, 0, 0, 0, 0, 5]) false .no) (.two (.tr (rl [1, 0, 0, 0, 1, 5, 1, 0]) false (.ops [{}, {}, { cls := some .p }])) (.two (.tr (rl [1, 0, 0, 0, 1, 5, 0, 0]) false (.two (.tr (rl [1, 0, 0, 0, 1, 5, 1, 0, 8]) false .no) (.tr (rl [1, 0, 0, 0, 1, 5, 0, 0]) false (.two (.two (.tr (rl [12, 0]) false .no) (.tr (rl [12, 0]) false .no)) (.two (.tr (rl [1, 0, 0, 0, 1, 5, 1, 14]) false (.ops [{}, {}, {}, {}, { cls := some .p }])) (.tr (rl [1, 0, 0, 0, 1, 5, 0, 0]) false (.two (.two (.tr (rl [12, 0]) false .no) (.tr (rl [12, 0]) false .no)) (.two (.tr (rl [1, 0, 0, 0, 1, 5, 1, 22]) false .no) (.tr (rl [1, 0, 0, 0, 1, 5, 0, 0]) false (.two (.two (.tr (rl [12, 0]) false .no) (.tr (rl [12, 0]) false .no)) .no)))))))))) (.two (.tr (rl [6, 5, 1, 1]) false (.draw [0, 1, 2, 3, 4, 5, 6, 7, 8, 9, 10, 11, 12, 13, 14, 15, 16, 17, 18] [{}, {}, {}, {}, {}, {}, {}, {}, {}, {}, { cls := some .p }, {}, {}, {}, { cls := some .p }])) (.two (.tr (rl [12, 3]) false .no) (.two (.two (.tr (rl [12, 3, 0]) false (.ops [{}, { cls := some .p }])) (.two (.tr (rl [12, 3, 0, 62]) false .no) (.tr (rl [12, 0, 2]) false (.two (.two (.tr (rl [12, 0]) false .no) (.tr (rl [12, 0]) false .no)) .no)))) (.two (.tr (rl [12, 0]) false .no) (.tr (rl [12, 0]) false .no))))))))) = some xf54 := by kernel_rfl
def xf55 : XFunc :=
(.mk 59 [(.cell 8 true 7), (.tmp 9)] (.seq (.tr (rl [1, 0, 0, 0, 3]) false (.region false [(oW 4 (.box (T 0) 7)), (oW 8 (.alloc [(.pv (.int .i64 0)), (.pv (.int
  .i32 0)), (.pv (.int .i32 0)), (.pv (.sl .nil 0 [])), (.pv (.int .i64 0)), (.pv (.int .i64 0)), (.pv (.str []))])), (oP 9 (.mv (tI 0)))])) (.seq (.seq (.tr
  (rl [1, 0, 0, 0, 3, 1]) false (.region false [(oR 13 (.load true 7 (T 4))), (oP 14 (.call false [] (.lit (.c (.fn 36 []))) [(T 13)])), (oP 10 (.mv (T 14)))]))
  (.seq (.tr (rl [1, 0, 0, 0, 3, 1, 5]) false (.region false [(oP 15 (.mv (T 10))), (oP 16 (.bin .neq (T 15) (tI 0)))])) (.tr (rl [1, 0, 0, 0, 3, 0]) false
  (.cond (T 16) (.seq (.tr (rl [8, 0]) false (.region false [(oP 17 (.build [(.pv (.int .i64 0)), (.pv (.int .i32 0)), (.pv (.int .i32 0)), (.pv (.sl .nil 0
  [])), (.pv (.int .i64 0)), (.pv (.int .i64 0)), (.pv (.str []))] [])), (oP 18 (.mv (T 10))), (sW (.store 7 (T 8) (T 17))), (oP 9 (.mv (T 18)))])) (.tr (rl [8,
  0]) false .ret)) .skip)))) (.seq (.tr (rl [1, 0, 0, 0, 3, 0]) false (.block 0 (.seq (.tr (rl [1, 0, 0, 0, 3, 10]) false (.region false [(oP 20 (.faddr 6 (T
  4))), (oR 21 (.load false 1 (T 20))), (oP 22 (.call false [] (.lit (.c (.fn 100 []))) [(T 21), (.lit (.c (.pv (.str [100, 101, 98, 105, 116, 32]))))])), (oP
  23 (.un .not (T 22))), (oP 19 (.mv (T 23)))])) (.tr (rl [1, 0, 0, 0, 3, 0]) false (.cond (T 19) (.seq (.tr (rl [8, 0]) false (.region false [(oP 24 (.build
  [(.pv (.int .i64 0)), (.pv (.int .i32 0)), (.pv (.int .i32 0)), (.pv (.sl .nil 0 [])), (.pv (.int .i64 0)), (.pv (.int .i64 0)), (.pv (.str []))] [])), (sW
  (.store 7 (T 8) (T 24))), (oP 9 (.mv (tI 13)))])) (.tr (rl [8, 0]) false .ret)) (.seq (.tr (rl [1, 0, 0, 0, 3, 16]) false (.region false [(oP 26 (.mv (T 3))),
  (oP 27 (.call false [] (.lit (.c (.fn 19 []))) [(T 26)])), (oP 28 (.un .not (T 27))), (oP 25 (.mv (T 28)))])) (.tr (rl [1, 0, 0, 0, 3, 0]) false (.cond (T 25)
  (.seq (.tr (rl [8, 0]) false (.region false [(oP 29 (.build [(.pv (.int .i64 0)), (.pv (.int .i32 0)), (.pv (.int .i32 0)), (.pv (.sl .nil 0 [])), (.pv (.int
  .i64 0)), (.pv (.int .i64 0)), (.pv (.str []))] [])), (sW (.store 7 (T 8) (T 29))), (oP 9 (.mv (tI 1)))])) (.tr (rl [8, 0]) false .ret)) (.seq (.tr (rl [1, 0,
  0, 0, 3, 21]) false (.region false [(oP 31 (.mv (T 2))), (oP 32 (.call false [] (.lit (.c (.fn 53 []))) [(T 31)])), (oP 33 (.un .not (T 32))), (oP 30 (.mv (T
  33)))])) (.tr (rl [1, 0, 0, 0, 3, 0]) false (.cond (T 30) (.seq (.tr (rl [8, 0]) false (.region false [(oP 34 (.build [(.pv (.int .i64 0)), (.pv (.int .i32
  0)), (.pv (.int .i32 0)), (.pv (.sl .nil 0 [])), (.pv (.int .i64 0)), (.pv (.int .i64 0)), (.pv (.str []))] [])), (sW (.store 7 (T 8) (T 34))), (oP 9 (.mv (tI
  11)))])) (.tr (rl [8, 0]) false .ret)) .skip))))))))))) (.seq (.tr (rl [1, 0, 1, 3, 2, 0]) false (.region false [(oP 36 (.mv (T 3))), (oP 37 (.mv (T 2))), (oP
  38 (.faddr 2 (T 4))), (oR 39 (.load false 1 (T 38))), (oP 40 (.mv (T 2))), (oP 41 (.call false [] (.lit (.c (.fn 101 []))) [(T 36), (T 37), (T 39), (T 40)])),
  (oP 35 (.mv (T 41))), (oP 42 (.extr 0 (T 35))), (oP 43 (.extr 1 (T 35))), (oP 11 (.mv (T 42))), (oP 12 (.mv (T 43)))])) (.seq (.tr (rl [1, 0, 1, 3, 0]) false
  (.block 1 (.seq (.tr (rl [1, 0, 1, 3, 2, 0, 31]) false (.region false [(oP 45 (.mv (T 12))), (oP 46 (.bin .neq (T 45) (tI 0))), (oP 44 (.mv (T 46)))])) (.tr
  (rl [1, 0, 1, 3, 0]) false (.cond (T 44) (.seq (.tr (rl [8, 0]) false (.region false [(oP 47 (.build [(.pv (.int .i64 0)), (.pv (.int .i32 0)), (.pv (.int
  .i32 0)), (.pv (.sl .nil 0 [])), (.pv (.int .i64 0)), (.pv (.int .i64 0)), (.pv (.str []))] [])), (oP 48 (.mv (T 12))), (sW (.store 7 (T 8) (T 47))), (oP 9
  (.mv (T 48)))])) (.tr (rl [8, 0]) false .ret)) (.seq (.tr (rl [1, 0, 1, 3, 40]) false (.region false [(oP 50 (.mv (T 11))), (oP 51 (.bin .gtr (T 50) (tI
  40))), (oP 49 (.mv (T 51)))])) (.tr (rl [1, 0, 1, 3, 0]) false (.cond (T 49) (.seq (.tr (rl [8, 0]) false (.region false [(oP 52 (.build [(.pv (.int .i64 0)),
  (.pv (.int .i32 0)), (.pv (.int .i32 0)), (.pv (.sl .nil 0 [])), (.pv (.int .i64 0)), (.pv (.int .i64 0)), (.pv (.str []))] [])), (sW (.store 7 (T 8) (T
  52))), (oP 9 (.mv (tI 23)))])) (.tr (rl [8, 0]) false .ret)) .skip)))))))) (.seq (.tr (rl [8, 0]) false (.region false [(oR 53 (.load true 7 (T 4))), (oP 54
  (.mv (T 1))), (oP 55 (.mv (T 2))), (oP 56 (.call false [] (.lit (.c (.fn 13 []))) [(T 53), (T 54), (T 55)])), (oP 57 (.extr 0 (T 56))), (oP 58 (.extr 1 (T
  56))), (sW (.store 7 (T 8) (T 57))), (oP 9 (.mv (T 58)))])) (.tr (rl [8, 0]) false .ret))))))))
theorem xf55_ok : cmpFunc Go.Proofs.Tryd.prog 55 ((.two (.tr (rl [1, 0, 0, 0, 3]) false .no) (.two (.two (.tr (rl [1, 0, 0, 0, 3, 1]) false (.ops [{}, { cls := some .p }])) (.two (.tr (rl [1, 0, 0, 0, 3, 1, 5]) false .no) (.tr (rl [1, 0, 0, 0, 3, 0]) false (.two (.two (.tr (rl [8, 0]) false .no) (.tr (rl [8, 0]) false .no)) .no)))) (.two (.tr (rl [1, 0, 0, 0, 3, 0]) false (.two (.tr (rl [1, 0, 0, 0, 3, 10]) false (.ops [{}, {}, { cls := some .p }])) (.tr (rl [1, 0, 0, 0, 3, 0]) false (.two (.two (.tr (rl [8, 0]) false .no) (.tr (rl [8, 0]) false .no)) (.two (.tr (rl [1, 0, 0, 0, 3, 16]) false (.ops [{}, { cls := some .p }])) (.tr (rl [1, 0, 0, 0, 3, 0]) false (.two (.two (.tr (rl [8, 0]) false .no) (.tr (rl [8, 0]) false .no)) (.two (.tr (rl [1, 0, 0, 0, 3, 21]) false (.ops [{}, { cls := some .p }])) (.tr (rl [1, 0, 0, 0, 3, 0]) false (.two (.two (.tr (rl [8, 0]) false .no) (.tr (rl [8, 0]) false .no)) .no)))))))))) (.two (.tr (rl [1, 0, 1, 3, 2, 0]) false (.ops [{}, {}, {}, {}, {}, { cls := some .p }])) (.two (.tr (rl [1, 0, 1, 3, 0]) false (.two (.tr (rl [1, 0, 1, 3, 2, 0, 31]) false .no) (.tr (rl [1, 0, 1, 3, 0]) false (.two (.two (.tr (rl [8, 0]) false .no) (.tr (rl [8, 0]) false .no)) (.two (.tr (rl [1, 0, 1, 3, 40]) false .no) (.tr (rl [1, 0, 1, 3, 0]) false (.two (.two (.tr (rl [8, 0]) false .no) (.tr (rl [8, 0]) false .no)) .no))))))) (.two (.tr (rl [8, 0]) false (.ops [{}, {}, {}, { cls := some .p }])) (.tr (rl [8, 0]) false .no)))))))) = some xf55 := by kernel_rfl
def xf56 : XFunc :=
(.mk 15 [(.tmp 6)] (.seq (.tr (rl [0, 0, 0]) false (.region false [(oP 6 (.mv (.lit (.c (.pv (.bool false))))))])) (.seq (.tr (rl [6]) false (.region false [(oP
  7 (.mv (T 0))), (oP 8 (.mv (T 1))), (oP 9 (.bin .geq (T 7) (T 8))), (oP 10 (.mv (T 9))), (.mk (some 11) (.mv (T 0)) (some (10, true)) .p), (.mk (some 12) (.mv
  (T 2)) (some (10, true)) .p), (.mk (some 13) (.bin .leq (T 11) (T 12)) (some (10, true)) .p), (oP 14 (.pick (T 10) (T 13) (.lit (.c (.pv (.bool false)))))),
  (oP 6 (.mv (T 14)))])) (.tr (rl [6]) false .ret))))
theorem xf56_ok : cmpFunc Go.Proofs.Tryd.prog 56 ((.two (.tr (rl [0, 0, 0]) false .no) (.two (.tr (rl [6]) false .no) (.tr (rl [6]) false .no)))) = some xf56 := by kernel_rfl
def xf57 : XFunc :=
(.mk 83 [(.tmp 8), (.tmp 9)] (.seq (.tr (rl [0, 0, 0, 0]) false (.region false [(oP 8 (.mv (.lit (.c (.pv (.int .i32 0)))))), (oP 9 (.mv (tI 0)))])) (.seq (.seq
  (.tr (rl [0, 0, 0, 0, 23]) false (.region false [(oP 22 (.mv (T 3))), (oP 23 (.bin .lss (T 22) (tI 0))), (oP 24 (.mv (T 23))), (.mk (some 25) (.mv (T 3))
  (some (24, false)) .p), (.mk (some 26) (.bin .gtr (T 25) (tI 2)) (some (24, false)) .p), (oP 27 (.pick (T 24) (.lit (.c (.pv (.bool true)))) (T 26)))])) (.tr
  (rl [0, 0, 0, 0, 4, 0]) false (.cond (T 27) (.seq (.region false [(oP 8 (.mv (.lit (.c (.pv (.int .i32 0)))))), (oP 9 (.mv (tI 1)))]) (.tr (rl [8, 0]) false
  .ret)) .skip))) (.seq (.seq (.tr (rl [0, 0, 0, 0, 6]) false (.region false [(oP 28 (.mv (T 0))), (oP 29 (.mv (T 1))), (oP 30 (.mv (T 2))), (oP 31 (.buildSl
  [(.pv (.int .i32 0))] 2 1 [(0, (1, (T 29))), (1, (1, (T 30)))])), (oP 32 (.call false [] (.lit (.c (.fn 61 []))) [(T 28), (T 31)])), (oP 10 (.mv (T 32)))]))
  (.seq (.tr (rl [0, 0, 0, 0, 6, 23]) false (.region false [(oP 33 (.mv (T 10))), (oP 34 (.bin .neq (T 33) (tI 0)))])) (.tr (rl [0, 0, 0, 0, 4, 0]) false (.cond
  (T 34) (.seq (.tr (rl [8, 0]) false (.region false [(oP 35 (.mv (T 10))), (oP 8 (.mv (.lit (.c (.pv (.int .i32 0)))))), (oP 9 (.mv (T 35)))])) (.tr (rl [8,
  0]) false .ret)) .skip)))) (.seq (.tr (rl [2, 0, 7]) false (.region false [(oP 36 (.mv (T 0))), (oP 37 (.mv (T 1))), (oW 38 (.call false [] (.lit (.c (.fn 63
  []))) [(T 36), (T 37)])), (oP 11 (.mv (T 38)))])) (.seq (.seq (.tr (rl [2, 0, 7, 28]) false (.region false [(oP 39 (.mv (T 3))), (oP 40 (.bin .eql (T 39) (tI
  2)))])) (.tr (rl [2, 0, 4, 0, 1]) false (.cond (T 40) (.seq (.tr (rl [8, 0]) false (.region false [(oP 41 (.mv (T 11))), (oP 42 (.mv (T 2))), (oW 43 (.call
  false [] (.lit (.c (.fn 102 []))) [(T 41), (T 42), (.lit (.c (.pv (.int .i32 (-1)))))])), (oP 44 (.extr 0 (T 43))), (oP 45 (.extr 1 (T 43))), (oP 8 (.mv (T
  44))), (oP 9 (.mv (T 45)))])) (.tr (rl [8, 0]) false .ret)) .skip))) (.seq (.tr (rl [2, 0, 7, 0, 0]) false (.region false [(oP 47 (.mv (T 11))), (oP 48 (.mv
  (T 2))), (oW 49 (.call false [] (.lit (.c (.fn 102 []))) [(T 47), (T 48), (.lit (.c (.pv (.int .i32 1))))])), (oP 46 (.mv (T 49))), (oP 50 (.extr 0 (T 46))),
  (oP 51 (.extr 1 (T 46))), (oP 12 (.mv (T 50))), (oP 13 (.mv (T 51)))])) (.seq (.seq (.tr (rl [2, 8, 0, 0, 39]) false (.region false [(oP 52 (.mv (T 3))), (oP
  53 (.bin .eql (T 52) (tI 0)))])) (.tr (rl [2, 5, 0, 1, 0, 0]) false (.cond (T 53) (.seq (.tr (rl [8, 0]) false (.region false [(oP 54 (.mv (T 12))), (oP 55
  (.mv (T 13))), (oP 8 (.mv (T 54))), (oP 9 (.mv (T 55)))])) (.tr (rl [8, 0]) false .ret)) .skip))) (.seq (.tr (rl [2, 8, 0, 0, 1]) false (.region false [(oP 57
  (.mv (T 2))), (oP 58 (.call false [] (.lit (.c (.fn 58 []))) [(T 57)])), (oP 56 (.mv (T 58))), (oP 59 (.extr 0 (T 56))), (oP 60 (.extr 1 (T 56))), (oP 61
  (.extr 2 (T 56))), (oP 62 (.extr 3 (T 56))), (oP 14 (.mv (T 59))), (oP 15 (.mv (T 60))), (oP 16 (.mv (T 61))), (oP 17 (.mv (T 62)))])) (.seq (.tr (rl [2, 8,
  0, 0, 1, 3]) false (.region false [(oP 64 (.mv (T 12))), (oP 65 (.call false [] (.lit (.c (.fn 58 []))) [(T 64)])), (oP 63 (.mv (T 65))), (oP 66 (.extr 0 (T
  63))), (oP 67 (.extr 1 (T 63))), (oP 68 (.extr 2 (T 63))), (oP 69 (.extr 3 (T 63))), (oP 18 (.mv (T 66))), (oP 19 (.mv (T 67))), (oP 20 (.mv (T 68))), (oP 21
  (.mv (T 69)))])) (.seq (.seq (.tr (rl [2, 8, 0, 63]) false (.region false [(oP 70 (.mv (T 13))), (oP 71 (.bin .neq (T 70) (tI 0))), (oP 72 (.mv (T 71))), (.mk
  (some 73) (.mv (T 15)) (some (72, false)) .p), (.mk (some 74) (.mv (T 19)) (some (72, false)) .p), (.mk (some 75) (.bin .neq (T 73) (T 74)) (some (72, false))
  .p), (oP 76 (.pick (T 72) (.lit (.c (.pv (.bool true)))) (T 75)))])) (.tr (rl [8, 0, 2]) false (.cond (T 76) (.seq (.tr (rl [8, 0]) false (.region false [(oP
  77 (.mv (T 11))), (oP 78 (.mv (T 2))), (oW 79 (.call false [] (.lit (.c (.fn 102 []))) [(T 77), (T 78), (.lit (.c (.pv (.int .i32 (-1)))))])), (oP 80 (.extr 0
  (T 79))), (oP 81 (.extr 1 (T 79))), (oP 8 (.mv (T 80))), (oP 9 (.mv (T 81)))])) (.tr (rl [8, 0]) false .ret)) .skip))) (.seq (.tr (rl [8, 0]) false (.region
  false [(oP 82 (.mv (T 12))), (oP 8 (.mv (T 82))), (oP 9 (.mv (tI 0)))])) (.tr (rl [8, 0]) false .ret)))))))))))))
theorem xf57_ok : cmpFunc Go.Proofs.Tryd.prog 57 ((.two (.tr (rl [0, 0, 0, 0]) false .no) (.two (.two (.tr (rl [0, 0, 0, 0, 23]) false .no) (.tr (rl [0, 0, 0, 0, 4, 0]) false (.two (.two .no (.tr (rl [8, 0]) false .no)) .no))) (.two (.two (.tr (rl [0, 0, 0, 0, 6]) false (.ops [{}, {}, {}, {}, { cls := some .p }])) (.two (.tr (rl [0, 0, 0, 0, 6, 23]) false .no) (.tr (rl [0, 0, 0, 0, 4, 0]) false (.two (.two (.tr (rl [8, 0]) false .no) (.tr (rl [8, 0]) false .no)) .no)))) (.two (.tr (rl [2, 0, 7]) false .no) (.two (.two (.tr (rl [2, 0, 7, 28]) false .no) (.tr (rl [2, 0, 4, 0, 1]) false (.two (.two (.tr (rl [8, 0]) false .no) (.tr (rl [8, 0]) false .no)) .no))) (.two (.tr (rl [2, 0, 7, 0, 0]) false .no) (.two (.two (.tr (rl [2, 8, 0, 0, 39]) false .no) (.tr (rl [2, 5, 0, 1, 0, 0]) false (.two (.two (.tr (rl [8, 0]) false .no) (.tr (rl [8, 0]) false .no)) .no))) (.two (.tr (rl [2, 8, 0, 0, 1]) false (.ops [{}, { cls := some .p }])) (.two (.tr (rl [2, 8, 0, 0, 1, 3]) false (.ops [{}, { cls := some .p }])) (.two (.two (.tr (rl [2, 8, 0, 63]) false .no) (.tr (rl [8, 0, 2]) false (.two (.two (.tr (rl [8, 0]) false .no) (.tr (rl [8, 0]) false .no)) .no))) (.two (.tr (rl [8, 0]) false .no) (.tr (rl [8, 0]) false .no))))))))))))) = some xf57 := by kernel_rfl
def xf58_l0 : XCode :=
(.seq (.seq (.tr (rl [6, 0, 0, 0, 36]) false (.region false [(oP 42 (.mv (T 9))), (oP 43 (.iaddrA 12 1 (.lit (.c (.cptr [(.int .i64 0), (.int .i64 31), (.int
  .i64 61), (.int .i64 92), (.int .i64 122), (.int .i64 153), (.int .i64 184), (.int .i64 214), (.int .i64 245), (.int .i64 275), (.int .i64 306), (.int .i64
  337)] 0))) (T 42))), (oR 44 (.load false 1 (T 43))), (oP 45 (.mv (T 6))), (oP 46 (.bin .gtr (T 44) (T 45)))])) (.tr (rl [6, 0, 0, 0]) false (.cond (T 46)
  .skip (.tr (rl [6, 0, 0, 0]) false (.exit 0))))) (.tr (rl [6, 0, 0, 0]) false (.block 1 (.tr (rl [6, 0, 0, 0]) false (.region false [(oP 47 (.mv (T 9))), (oP
  48 (.bin .sub (T 47) (tI 1))), (oP 9 (.mv (T 48)))])))))
def xf58 : XFunc :=
(.mk 70 [(.tmp 2), (.tmp 3), (.tmp 4), (.tmp 5)] (.seq (.tr (rl [0]) false (.region false [(oP 2 (.mv (tI 0))), (oP 3 (.mv (tI 0))), (oP 4 (.mv (tI 0))), (oP 5
  (.mv (tI 0)))])) (.seq (.seq (.tr (rl [0, 12]) false (.region false [(oP 11 (.mv (T 0))), (oP 12 (.call false [] (.lit (.c (.fn 53 []))) [(T 11)])), (oP 13
  (.un .not (T 12)))])) (.tr (rl [0, 1, 0, 0, 0]) false (.cond (T 13) (.seq (.region false [(oP 2 (.mv (tI 0))), (oP 3 (.mv (tI 0))), (oP 4 (.mv (tI 0))), (oP 5
  (.mv (tI 11)))]) (.tr (rl [2, 0, 0, 0]) false .ret)) .skip))) (.seq (.tr (rl [6]) false (.region false [(oP 14 (.mv (T 0))), (oP 15 (.convI .i64 (T 14))), (oP
  16 (.bin .add (T 15) (tI 730425))), (oP 6 (.mv (T 16)))])) (.seq (.tr (rl [6, 0]) false (.region false [(oP 17 (.mv (T 6))), (oP 18 (.bin .quo (T 17) (tI
  146097))), (oP 19 (.mv (T 6))), (oP 20 (.bin .rem (T 19) (tI 146097))), (oP 7 (.mv (T 18))), (oP 6 (.mv (T 20)))])) (.seq (.tr (rl [6, 0, 0]) false (.region
  false [(oP 21 (.mv (T 6))), (oP 22 (.mv (T 6))), (oP 23 (.bin .quo (T 22) (tI 1460))), (oP 24 (.bin .sub (T 21) (T 23))), (oP 25 (.mv (T 6))), (oP 26 (.bin
  .quo (T 25) (tI 36524))), (oP 27 (.bin .add (T 24) (T 26))), (oP 28 (.mv (T 6))), (oP 29 (.bin .quo (T 28) (tI 146096))), (oP 30 (.bin .sub (T 27) (T 29))),
  (oP 31 (.bin .quo (T 30) (tI 365))), (oP 8 (.mv (T 31)))])) (.seq (.tr (rl [6, 0, 0]) false (.region false [(oP 32 (.mv (T 6))), (oP 33 (.mv (T 8))), (oP 34
  (.bin .mul (T 33) (tI 365))), (oP 35 (.mv (T 8))), (oP 36 (.bin .quo (T 35) (tI 4))), (oP 37 (.bin .add (T 34) (T 36))), (oP 38 (.mv (T 8))), (oP 39 (.bin
  .quo (T 38) (tI 100))), (oP 40 (.bin .sub (T 37) (T 39))), (oP 41 (.bin .sub (T 32) (T 40))), (oP 6 (.mv (T 41)))])) (.seq (.region false [(oP 9 (.mv (tI
  11)))]) (.seq (.tr (rl [6, 0, 0, 0]) false (.block 0 (.loop (rl [6, 0, 0, 0]) xf58_l0))) (.seq (.tr (rl [8, 0, 0]) false (.region true [(oP 49 (.mv (T 8))),
  (oP 50 (.mv (T 7))), (oP 51 (.bin .mul (tI 400) (T 50))), (oP 52 (.bin .add (T 49) (T 51))), (oP 53 (.mv (T 6))), (oP 54 (.mv (T 9))), (oP 55 (.iaddrA 12 1
  (.lit (.c (.cptr [(.int .i64 0), (.int .i64 31), (.int .i64 61), (.int .i64 92), (.int .i64 122), (.int .i64 153), (.int .i64 184), (.int .i64 214), (.int
  .i64 245), (.int .i64 275), (.int .i64 306), (.int .i64 337)] 0))) (T 54))), (oR 56 (.load false 1 (T 55))), (oP 57 (.bin .sub (T 53) (T 56))), (oP 58 (.bin
  .add (T 57) (tI 1))), (oP 8 (.mv (T 52))), (oP 10 (.mv (T 58)))])) (.seq (.seq (.tr (rl [8, 0, 0]) false (.region false [(oP 59 (.mv (T 9))), (oP 60 (.bin
  .add (T 59) (tI 3))), (oP 9 (.mv (T 60)))])) (.seq (.tr (rl [8, 0, 0, 51]) false (.region false [(oP 61 (.mv (T 9))), (oP 62 (.bin .gtr (T 61) (tI 12)))]))
  (.tr (rl [8, 0, 0]) false (.cond (T 62) (.tr (rl [8, 0, 0]) false (.region false [(oP 63 (.mv (T 8))), (oP 64 (.bin .add (T 63) (tI 1))), (oP 65 (.mv (T 9))),
  (oP 66 (.bin .sub (T 65) (tI 12))), (oP 8 (.mv (T 64))), (oP 9 (.mv (T 66)))])) .skip)))) (.seq (.tr (rl [2, 0, 0, 0]) false (.region false [(oP 67 (.mv (T
  8))), (oP 68 (.mv (T 9))), (oP 69 (.mv (T 10))), (oP 2 (.mv (T 67))), (oP 3 (.mv (T 68))), (oP 4 (.mv (T 69))), (oP 5 (.mv (tI 0)))])) (.tr (rl [2, 0, 0, 0])
  false .ret)))))))))))))
theorem xf58_ok : cmpFunc Go.Proofs.Tryd.prog 58 ((.two (.tr (rl [0]) false .no) (.two (.two (.tr (rl [0, 12]) false (.ops [{}, { cls := some .p }])) (.tr (rl [0, 1, 0, 0, 0]) false (.two (.two .no (.tr (rl [2, 0, 0, 0]) false .no)) .no))) (.two (.tr (rl [6]) false .no) (.two (.tr (rl [6, 0]) false .no) (.two (.tr (rl [6, 0, 0]) false .no) (.two (.tr (rl [6, 0, 0]) false .no) (.two .no (.two (.tr (rl [6, 0, 0, 0]) false (.loop (rl [6, 0, 0, 0]) (.two (.two (.tr (rl [6, 0, 0, 0, 36]) false .no) (.tr (rl [6, 0, 0, 0]) false (.two .no (.tr (rl [6, 0, 0, 0]) false .no)))) (.tr (rl [6, 0, 0, 0]) false (.tr (rl [6, 0, 0, 0]) false .no))))) (.two (.tr (rl [8, 0, 0]) false (.draw [0, 1, 2, 3, 4, 5, 6, 7, 8, 9, 10, 11] [])) (.two (.two (.tr (rl [8, 0, 0]) false .no) (.two (.tr (rl [8, 0, 0, 51]) false .no) (.tr (rl [8, 0, 0]) false (.two (.tr (rl [8, 0, 0]) false .no) .no)))) (.two (.tr (rl [2, 0, 0, 0]) false .no) (.tr (rl [2, 0, 0, 0]) false .no))))))))))))) = some xf58 := by kernel_rfl
def xf59 : XFunc :=
(.mk 47 [(.tmp 6), (.tmp 7)] (.seq (.tr (rl [0, 0, 0]) false (.region false [(oP 6 (.mv (.lit (.c (.pv (.int .i32 0)))))), (oP 7 (.mv (tI 0)))])) (.seq (.seq
  (.tr (rl [0, 0, 0, 30]) false (.region false [(oP 9 (.mv (T 0))), (oP 10 (.bin .lss (T 9) (tI 1))), (oP 11 (.mv (T 10))), (.mk (some 12) (.mv (T 0)) (some
  (11, false)) .p), (.mk (some 13) (.bin .geq (T 12) (tI 10000)) (some (11, false)) .p), (oP 14 (.pick (T 11) (.lit (.c (.pv (.bool true)))) (T 13))), (oP 15
  (.mv (T 14))), (.mk (some 16) (.mv (T 1)) (some (15, false)) .p), (.mk (some 17) (.bin .lss (T 16) (tI 1)) (some (15, false)) .p), (oP 18 (.pick (T 15) (.lit
  (.c (.pv (.bool true)))) (T 17))), (oP 19 (.mv (T 18))), (.mk (some 20) (.mv (T 1)) (some (19, false)) .p), (.mk (some 21) (.bin .gtr (T 20) (tI 12)) (some
  (19, false)) .p), (oP 22 (.pick (T 19) (.lit (.c (.pv (.bool true)))) (T 21))), (oP 23 (.mv (T 22))), (.mk (some 24) (.mv (T 2)) (some (23, false)) .p), (.mk
  (some 25) (.bin .lss (T 24) (tI 1)) (some (23, false)) .p), (oP 26 (.pick (T 23) (.lit (.c (.pv (.bool true)))) (T 25))), (oP 27 (.mv (T 26))), (.mk (some 28)
  (.mv (T 2)) (some (27, false)) .p), (.mk (some 29) (.mv (T 0)) (some (27, false)) .p), (.mk (some 30) (.mv (T 1)) (some (27, false)) .p), (.mk (some 31)
  (.call false [] (.lit (.c (.fn 60 []))) [(T 29), (T 30)]) (some (27, false)) .p), (.mk (some 32) (.bin .gtr (T 28) (T 31)) (some (27, false)) .p), (oP 33
  (.pick (T 27) (.lit (.c (.pv (.bool true)))) (T 32)))])) (.tr (rl [0, 0, 0, 3, 0]) false (.cond (T 33) (.seq (.region false [(oP 6 (.mv (.lit (.c (.pv (.int
  .i32 0)))))), (oP 7 (.mv (tI 11)))]) (.tr (rl [6, 0]) false .ret)) .skip))) (.seq (.tr (rl [8]) false (.region false [(oP 34 (.mv (T 0))), (oP 35 (.mv (T
  1))), (oP 36 (.mv (T 2))), (oP 37 (.call false [] (.lit (.c (.fn 103 []))) [(T 34), (T 35), (T 36)])), (oP 38 (.bin .sub (T 37) (tI 730425))), (oP 8 (.mv (T
  38)))])) (.seq (.seq (.tr (rl [8, 35]) false (.region false [(oP 39 (.mv (T 8))), (oP 40 (.bin .lss (T 39) (.lit (.c (.pv (.int .i64 (-50000))))))), (oP 41
  (.mv (T 40))), (.mk (some 42) (.mv (T 8)) (some (41, false)) .p), (.mk (some 43) (.bin .gtr (T 42) (tI 50000)) (some (41, false)) .p), (oP 44 (.pick (T 41)
  (.lit (.c (.pv (.bool true)))) (T 43)))])) (.tr (rl [6, 0, 0]) false (.cond (T 44) (.seq (.region false [(oP 6 (.mv (.lit (.c (.pv (.int .i32 0)))))), (oP 7
  (.mv (tI 11)))]) (.tr (rl [6, 0]) false .ret)) .skip))) (.seq (.tr (rl [6, 0]) false (.region false [(oP 45 (.mv (T 8))), (oP 46 (.convI .i32 (T 45))), (oP 6
  (.mv (T 46))), (oP 7 (.mv (tI 0)))])) (.tr (rl [6, 0]) false .ret)))))))
theorem xf59_ok : cmpFunc Go.Proofs.Tryd.prog 59 ((.two (.tr (rl [0, 0, 0]) false .no) (.two (.two (.tr (rl [0, 0, 0, 30]) false (.ops [{}, {}, {}, {}, {}, {}, {}, {}, {}, {}, {}, {}, {}, {}, {}, {}, {}, {}, {}, {}, {}, {}, { cls := some .p }])) (.tr (rl [0, 0, 0, 3, 0]) false (.two (.two .no (.tr (rl [6, 0]) false .no)) .no))) (.two (.tr (rl [8]) false (.ops [{}, {}, {}, { cls := some .p }])) (.two (.two (.tr (rl [8, 35]) false .no) (.tr (rl [6, 0, 0]) false (.two (.two .no (.tr (rl [6, 0]) false .no)) .no))) (.two (.tr (rl [6, 0]) false .no) (.tr (rl [6, 0]) false .no))))))) = some xf59 := by kernel_rfl
def xf60 : XFunc :=
(.mk 15 [(.tmp 4)] (.seq (.tr (rl [0, 0]) false (.region false [(oP 4 (.mv (tI 0)))])) (.seq (.seq (.tr (rl [0, 4]) false (.region false [(oP 5 (.mv (T 1)))]))
  (.tr (rl [4]) false (.block 0 (.seq (.tr (rl [0, 4, 0]) false (.region false [(oP 7 (.bin .eql (T 5) (tI 2))), (oP 6 (.mv (T 7)))])) (.tr (rl [4]) false
  (.cond (T 6) (.seq (.seq (.tr (rl [9]) false (.region false [(oP 8 (.mv (T 0))), (oP 9 (.call false [] (.lit (.c (.fn 104 []))) [(T 8)]))])) (.tr (rl [4])
  false (.cond (T 9) (.seq (.region false [(oP 4 (.mv (tI 29)))]) (.tr (rl [4]) false .ret)) .skip))) (.seq (.region false [(oP 4 (.mv (tI 28)))]) (.tr (rl [4])
  false .ret))) (.seq (.seq (.tr (rl [5, 4]) false (.region false [(oP 11 (.bin .eql (T 5) (tI 4))), (oP 10 (.mv (T 11)))])) (.tr (rl [10]) false (.cond (T 10)
  .skip (.seq (.tr (rl [5, 4]) false (.region false [(oP 12 (.bin .eql (T 5) (tI 6))), (oP 10 (.mv (T 12)))])) (.tr (rl [10]) false (.cond (T 10) .skip (.seq
  (.tr (rl [5, 4]) false (.region false [(oP 13 (.bin .eql (T 5) (tI 9))), (oP 10 (.mv (T 13)))])) (.tr (rl [10]) false (.cond (T 10) .skip (.tr (rl [10]) false
  (.region false [(oP 14 (.bin .eql (T 5) (tI 11))), (oP 10 (.mv (T 14)))]))))))))))) (.tr (rl [4]) false (.cond (T 10) (.seq (.region false [(oP 4 (.mv (tI
  30)))]) (.tr (rl [4]) false .ret)) .skip))))))))) (.seq (.region false [(oP 4 (.mv (tI 31)))]) (.tr (rl [4]) false .ret)))))
theorem xf60_ok : cmpFunc Go.Proofs.Tryd.prog 60 ((.two (.tr (rl [0, 0]) false .no) (.two (.two (.tr (rl [0, 4]) false .no) (.tr (rl [4]) false (.two (.tr (rl [0, 4, 0]) false .no) (.tr (rl [4]) false (.two (.two (.two (.tr (rl [9]) false (.ops [{}, { cls := some .p }])) (.tr (rl [4]) false (.two (.two .no (.tr (rl [4]) false .no)) .no))) (.two .no (.tr (rl [4]) false .no))) (.two (.two (.tr (rl [5, 4]) false .no) (.tr (rl [10]) false (.two .no (.two (.tr (rl [5, 4]) false .no) (.tr (rl [10]) false (.two .no (.two (.tr (rl [5, 4]) false .no) (.tr (rl [10]) false (.two .no (.tr (rl [10]) false .no)))))))))) (.tr (rl [4]) false (.two (.two .no (.tr (rl [4]) false .no)) .no)))))))) (.two .no (.tr (rl [4]) false .no))))) = some xf60 := by kernel_rfl
def xf61 : XFunc :=
(.mk 12 [(.tmp 4)] (.seq (.tr (rl [0, 0]) false (.region false [(oP 4 (.mv (tI 0)))])) (.seq (.tr (rl [4]) false (.block 0 (.seq (.tr (rl [1, 3]) false (.region
  false [(oP 6 (.mv (T 0))), (oP 7 (.call false [] (.lit (.c (.fn 19 []))) [(T 6)])), (oP 8 (.un .not (T 7))), (oP 5 (.mv (T 8)))])) (.tr (rl [4]) false (.cond
  (T 5) (.seq (.region false [(oP 4 (.mv (tI 1)))]) (.tr (rl [4]) false .ret)) (.seq (.tr (rl [9]) false (.region false [(oP 10 (.mv (T 1))), (oW 11 (.call
  false [] (.lit (.c (.fn 94 []))) [(T 10), (.lit (.c (.fn 105 [])))])), (oP 9 (.mv (T 11)))])) (.tr (rl [4]) false (.cond (T 9) (.seq (.region false [(oP 4
  (.mv (tI 11)))]) (.tr (rl [4]) false .ret)) .skip)))))))) (.seq (.region false [(oP 4 (.mv (tI 0)))]) (.tr (rl [4]) false .ret)))))
theorem xf61_ok : cmpFunc Go.Proofs.Tryd.prog 61 ((.two (.tr (rl [0, 0]) false .no) (.two (.tr (rl [4]) false (.two (.tr (rl [1, 3]) false (.ops [{}, { cls := some .p }])) (.tr (rl [4]) false (.two (.two .no (.tr (rl [4]) false .no)) (.two (.tr (rl [9]) false .no) (.tr (rl [4]) false (.two (.two .no (.tr (rl [4]) false .no)) .no))))))) (.two .no (.tr (rl [4]) false .no))))) = some xf61 := by kernel_rfl
def xf62 : XFunc :=
(.mk 15 [(.tmp 4)] (.seq (.tr (rl [0, 0]) false (.region false [(oP 4 (.mv (tI 0)))])) (.seq (.seq (.tr (rl [14]) false (.region false [(oP 5 (.mv (T 1))), (oP
  6 (.mv (T 0))), (oP 7 (.bin .sub (T 5) (T 6))), (oP 8 (.bin .gtr (T 7) (.lit (.c (.pv (.int .i32 4000)))))), (oP 9 (.mv (T 8))), (.mk (some 10) (.mv (T 0))
  (some (9, false)) .p), (.mk (some 11) (.mv (T 1)) (some (9, false)) .p), (.mk (some 12) (.bin .sub (T 10) (T 11)) (some (9, false)) .p), (.mk (some 13) (.bin
  .gtr (T 12) (.lit (.c (.pv (.int .i32 4000))))) (some (9, false)) .p), (oP 14 (.pick (T 9) (.lit (.c (.pv (.bool true)))) (T 13)))])) (.tr (rl [4]) false
  (.cond (T 14) (.seq (.region false [(oP 4 (.mv (tI 9)))]) (.tr (rl [4]) false .ret)) .skip))) (.seq (.region false [(oP 4 (.mv (tI 0)))]) (.tr (rl [4]) false
  .ret)))))
theorem xf62_ok : cmpFunc Go.Proofs.Tryd.prog 62 ((.two (.tr (rl [0, 0]) false .no) (.two (.two (.tr (rl [14]) false .no) (.tr (rl [4]) false (.two (.two .no (.tr (rl [4]) false .no)) .no))) (.two .no (.tr (rl [4]) false .no))))) = some xf62 := by kernel_rfl
def xf63_l0 : XCode :=
(.seq (.region false [(oP 14 (.bin .lss (T 13) (T 12)))]) (.seq (.tr (rl [1, 3, 5, 0, 0]) false (.cond (T 14) .skip (.tr (rl [5]) false (.exit 0)))) (.seq (.tr
  (rl [1, 3, 5, 0, 0]) false (.block 1 (.seq (.tr (rl [1, 3, 1, 3, 0, 0]) false (.region false [(oP 15 (.iaddrS 3 (T 11) (T 13))), (oR 16 (.load true 3 (T
  15))), (oW 7 (.alloc [(.pv (.int .i32 0)), (.pv (.int .i32 0)), (.pv (.bool false))])), (sW (.store 3 (T 7) (T 16)))])) (.seq (.tr (rl [1, 3, 1, 0, 0, 1, 0,
  0]) false (.region false [(oP 18 (.mv (T 5))), (oP 19 (.faddr 1 (T 7))), (oR 20 (.load false 1 (T 19))), (oR 21 (.mlook (.agg [(.int .i32 0), (.int .i32 0),
  (.bool false)]) true (T 18) (T 20) 0)), (oP 17 (.mv (T 21))), (oP 22 (.extr 0 (T 17))), (oP 23 (.extr 1 (T 17))), (oW 8 (.alloc [(.pv (.int .i32 0)), (.pv
  (.int .i32 0)), (.pv (.bool false))])), (sW (.store 3 (T 8) (T 22))), (oP 9 (.mv (T 23)))])) (.seq (.tr (rl [1, 3, 1, 3, 0, 0, 24]) false (.region false [(oP
  24 (.faddr 0 (T 7))), (oR 25 (.load false 1 (T 24))), (oP 26 (.mv (T 1))), (oP 27 (.bin .leq (T 25) (T 26))), (oP 28 (.mv (T 27))), (.mk (some 29) (.mv (T 9))
  (some (28, true)) .p), (.mk (some 30) (.un .not (T 29)) (some (28, true)) .p), (.mk (some 31) (.mv (T 30)) (some (28, true)) .p), (.mk (some 32) (.faddr 0 (T
  8)) (some (31, false)) .p), (.mk (some 33) (.load false 1 (T 32)) (some (31, false)) .r), (.mk (some 34) (.faddr 0 (T 7)) (some (31, false)) .p), (.mk (some
  35) (.load false 1 (T 34)) (some (31, false)) .r), (.mk (some 36) (.bin .lss (T 33) (T 35)) (some (31, false)) .p), (.mk (some 37) (.pick (T 31) (.lit (.c
  (.pv (.bool true)))) (T 36)) (some (28, true)) .p), (oP 38 (.pick (T 28) (T 37) (.lit (.c (.pv (.bool false))))))])) (.tr (rl [1, 3, 5, 0, 0]) false (.cond (T
  38) (.tr (rl [1, 3, 5, 0, 0]) false (.region false [(oP 39 (.mv (T 5))), (oP 40 (.faddr 1 (T 7))), (oR 41 (.load false 1 (T 40))), (oR 42 (.load true 3 (T
  7))), (sW (.mupd (T 39) (T 41) (T 42) 0))])) .skip))))))) (.tr (rl [1, 3, 5, 0, 0]) false (.region false [(oP 43 (.bin .add (T 13) (tI 1))), (oP 13 (.mv (T
  43)))])))))
def xf63 : XFunc :=
(.mk 45 [(.tmp 4)] (.seq (.tr (rl [0, 0]) false (.region false [(oP 4 (.mv (.lit (.c .nilm))))])) (.seq (.tr (rl [0, 0, 3]) false (.region false [(.mk (some 10)
  .mkmap none .w), (oP 5 (.mv (T 10)))])) (.seq (.seq (.tr (rl [1, 3, 5, 0, 0]) false (.region false [(oP 11 (.mv (T 0))), (oP 12 (.len (T 11))), (oP 13 (.mv
  (tI 0)))])) (.tr (rl [5]) false (.block 0 (.loop (rl [1, 3, 5, 0, 0]) xf63_l0)))) (.seq (.tr (rl [4]) false (.region false [(oP 44 (.mv (T 5))), (oP 4 (.mv (T
  44)))])) (.tr (rl [4]) false .ret))))))
theorem xf63_ok : cmpFunc Go.Proofs.Tryd.prog 63 ((.two (.tr (rl [0, 0]) false .no) (.two (.tr (rl [0, 0, 3]) false .no) (.two (.two (.tr (rl [1, 3, 5, 0, 0]) false .no) (.tr (rl [5]) false (.loop (rl [1, 3, 5, 0, 0]) (.two .no (.two (.tr (rl [1, 3, 5, 0, 0]) false (.two .no (.tr (rl [5]) false .no))) (.two (.tr (rl [1, 3, 5, 0, 0]) false (.two (.tr (rl [1, 3, 1, 3, 0, 0]) false .no) (.two (.tr (rl [1, 3, 1, 0, 0, 1, 0, 0]) false .no) (.two (.tr (rl [1, 3, 1, 3, 0, 0, 24]) false .no) (.tr (rl [1, 3, 5, 0, 0]) false (.two (.tr (rl [1, 3, 5, 0, 0]) false .no) .no)))))) (.tr (rl [1, 3, 5, 0, 0]) false .no))))))) (.two (.tr (rl [4]) false .no) (.tr (rl [4]) false .no)))))) = some xf63 := by kernel_rfl
def xf64 : XFunc :=
(.mk 25 [(.tmp 4)] (.seq (.tr (rl [0, 0]) false (.region false [(oP 4 (.mv (.lit (.c (.pv (.bool false))))))])) (.seq (.seq (.tr (rl [1, 3, 0]) false (.region
  false [(oP 10 (.mv (T 0))), (oP 11 (.mv (T 1))), (oR 12 (.mlook (.agg [(.int .i32 0), (.int .i32 0), (.bool false)]) true (T 10) (T 11) 0)), (oP 9 (.mv (T
  12))), (oP 13 (.extr 0 (T 9))), (oP 14 (.extr 1 (T 9))), (oW 5 (.alloc [(.pv (.int .i32 0)), (.pv (.int .i32 0)), (.pv (.bool false))])), (sW (.store 3 (T 5)
  (T 13))), (oP 6 (.mv (T 14)))])) (.seq (.tr (rl [1, 3, 9]) false (.region false [(oP 15 (.mv (T 6)))])) (.tr (rl [1, 2]) false (.cond (T 15) (.seq (.tr (rl
  [4]) false (.region false [(oP 16 (.faddr 2 (T 5))), (oR 17 (.load false 1 (T 16))), (oP 4 (.mv (T 17)))])) (.tr (rl [4]) false .ret)) .skip)))) (.seq (.tr
  (rl [7]) false (.region false [(oP 19 (.mv (T 1))), (oP 20 (.call false [] (.lit (.c (.fn 106 []))) [(T 19)])), (oP 18 (.mv (T 20))), (oP 21 (.extr 0 (T
  18))), (oP 22 (.extr 1 (T 18))), (oP 7 (.mv (T 21))), (oP 8 (.mv (T 22)))])) (.seq (.tr (rl [4]) false (.region false [(oP 23 (.mv (T 7))), (oP 24 (.bin .lss
  (T 23) (tI 5))), (oP 4 (.mv (T 24)))])) (.tr (rl [4]) false .ret))))))
theorem xf64_ok : cmpFunc Go.Proofs.Tryd.prog 64 ((.two (.tr (rl [0, 0]) false .no) (.two (.two (.tr (rl [1, 3, 0]) false .no) (.two (.tr (rl [1, 3, 9]) false .no) (.tr (rl [1, 2]) false (.two (.two (.tr (rl [4]) false .no) (.tr (rl [4]) false .no)) .no)))) (.two (.tr (rl [7]) false (.ops [{}, { cls := some .p }])) (.two (.tr (rl [4]) false .no) (.tr (rl [4]) false .no)))))) = some xf64 := by kernel_rfl
def xf73 : XFunc :=
(.mk 13 [(.tmp 6), (.tmp 7)] (.seq (.tr (rl [3, 0, 0]) false (.region false [(oW 3 (.box (T 0) 7)), (oW 4 (.box (T 1) 1)), (oW 5 (.box (T 2) 1)), (oP 6 (.mv (tI
  0))), (oP 7 (.mv (tI 0)))])) (.seq (.tr (rl [6, 0]) false (.region false [(oR 8 (.load true 7 (T 3))), (oP 9 (.mkfn 117 [(T 4), (T 5)])), (oW 10 (.call false
  [] (.lit (.c (.fn 116 []))) [(T 8), (T 9)])), (oP 11 (.extr 0 (T 10))), (oP 12 (.extr 1 (T 10))), (oP 6 (.mv (T 11))), (oP 7 (.mv (T 12)))])) (.tr (rl [6, 0])
  false .ret))))
theorem xf73_ok : cmpFunc Go.Proofs.Tryd.prog 73 ((.two (.tr (rl [3, 0, 0]) false .no) (.two (.tr (rl [6, 0]) false .no) (.tr (rl [6, 0]) false .no)))) = some xf73 := by kernel_rfl
def xf74 : XFunc :=
(.mk 9 [(.tmp 2)] (.seq (.tr (rl [0]) false (.region false [(oP 2 (.mv (.lit (.c (.pv (.bool false))))))])) (.seq (.tr (rl [2]) false (.region false [(oP 3 (.mv
  (T 0))), (oP 4 (.bin .geq (T 3) (tI 0))), (oP 5 (.mv (T 4))), (.mk (some 6) (.mv (T 0)) (some (5, true)) .p), (.mk (some 7) (.bin .lss (T 6) (tI 4)) (some (5,
  true)) .p), (oP 8 (.pick (T 5) (T 7) (.lit (.c (.pv (.bool false)))))), (oP 2 (.mv (T 8)))])) (.tr (rl [2]) false .ret))))
theorem xf74_ok : cmpFunc Go.Proofs.Tryd.prog 74 ((.two (.tr (rl [0]) false .no) (.two (.tr (rl [2]) false .no) (.tr (rl [2]) false .no)))) = some xf74 := by kernel_rfl
def xf83 : XFunc :=
(.mk 8 [(.tmp 3)] (.seq (.tr (rl [0, 0]) false (.region false [(oP 3 (.mv (.lit (.c (.pv (.bool false))))))])) (.seq (.tr (rl [3]) false (.region false [(oP 4
  (.faddr 3 (T 1))), (oR 5 (.load false 1 (T 4))), (oP 6 (.mv (T 0))), (oW 7 (.call false [] (.lit (.c (.fn 84 []))) [(T 5), (T 6)])), (oP 3 (.mv (T 7)))]))
  (.tr (rl [3]) false .ret))))
theorem xf83_ok : cmpFunc Go.Proofs.Tryd.prog 83 ((.two (.tr (rl [0, 0]) false .no) (.two (.tr (rl [3]) false .no) (.tr (rl [3]) false .no)))) = some xf83 := by kernel_rfl
def xf84 : XFunc :=
(.mk 9 [(.tmp 4)] (.seq (.tr (rl [0, 0]) false (.region false [(oP 4 (.mv (.lit (.c (.pv (.bool false))))))])) (.seq (.tr (rl [4]) false (.region false [(oP 5
  (.mv (T 0))), (oP 6 (.mv (T 1))), (oW 7 (.call false [] (.lit (.c (.fn 121 []))) [(T 5), (T 6)])), (oP 8 (.bin .geq (T 7) (tI 0))), (oP 4 (.mv (T 8)))])) (.tr
  (rl [4]) false .ret))))
theorem xf84_ok : cmpFunc Go.Proofs.Tryd.prog 84 ((.two (.tr (rl [0, 0]) false .no) (.two (.tr (rl [4]) false .no) (.tr (rl [4]) false .no)))) = some xf84 := by kernel_rfl
def xf85 : XFunc :=
(.mk 47 [(.tmp 2)] (.seq (.tr (rl [1]) false (.region false [(oW 1 (.box (T 0) 7)), (oP 2 (.mv (.lit (.c (.pv (.bool false))))))])) (.seq (.region false [(oP 3
  (.mv (.lit (.c (.fn 122 [])))))]) (.seq (.tr (rl [2]) false (.region false [(oP 4 (.faddr 0 (T 1))), (oR 5 (.load false 1 (T 4))), (oP 6 (.bin .geq (T 5) (tI
  1))), (oP 7 (.mv (T 6))), (.mk (some 8) (.faddr 0 (T 1)) (some (7, true)) .p), (.mk (some 9) (.load false 1 (T 8)) (some (7, true)) .r), (.mk (some 10) (.bin
  .leq (T 9) (tI 1000000)) (some (7, true)) .p), (oP 11 (.pick (T 7) (T 10) (.lit (.c (.pv (.bool false)))))), (oP 12 (.mv (T 11))), (.mk (some 13) (.faddr 4 (T
  1)) (some (12, true)) .p), (.mk (some 14) (.load false 1 (T 13)) (some (12, true)) .r), (.mk (some 15) (.bin .geq (T 14) (tI 0)) (some (12, true)) .p), (oP 16
  (.pick (T 12) (T 15) (.lit (.c (.pv (.bool false)))))), (oP 17 (.mv (T 16))), (.mk (some 18) (.faddr 4 (T 1)) (some (17, true)) .p), (.mk (some 19) (.load
  false 1 (T 18)) (some (17, true)) .r), (.mk (some 20) (.faddr 0 (T 1)) (some (17, true)) .p), (.mk (some 21) (.load false 1 (T 20)) (some (17, true)) .r),
  (.mk (some 22) (.bin .lss (T 19) (T 21)) (some (17, true)) .p), (oP 23 (.pick (T 17) (T 22) (.lit (.c (.pv (.bool false)))))), (oP 24 (.mv (T 23))), (.mk
  (some 25) (.faddr 5 (T 1)) (some (24, true)) .p), (.mk (some 26) (.load false 1 (T 25)) (some (24, true)) .r), (.mk (some 27) (.bin .geq (T 26) (tI 0)) (some
  (24, true)) .p), (oP 28 (.pick (T 24) (T 27) (.lit (.c (.pv (.bool false)))))), (oP 29 (.mv (T 28))), (.mk (some 30) (.faddr 5 (T 1)) (some (29, true)) .p),
  (.mk (some 31) (.load false 1 (T 30)) (some (29, true)) .r), (.mk (some 32) (.bin .leq (T 31) (tI 4)) (some (29, true)) .p), (oP 33 (.pick (T 29) (T 32) (.lit
  (.c (.pv (.bool false)))))), (oP 34 (.mv (T 33))), (.mk (some 35) (.faddr 6 (T 1)) (some (34, true)) .p), (.mk (some 36) (.load false 1 (T 35)) (some (34,
  true)) .r), (.mk (some 37) (.lenS (T 36)) (some (34, true)) .p), (.mk (some 38) (.bin .leq (T 37) (tI 32)) (some (34, true)) .p), (oP 39 (.pick (T 34) (T 38)
  (.lit (.c (.pv (.bool false)))))), (oP 40 (.mv (T 39))), (.mk (some 41) (.faddr 6 (T 1)) (some (40, true)) .p), (.mk (some 42) (.load false 1 (T 41)) (some
  (40, true)) .r), (.mk (some 43) (.mv (T 3)) (some (40, true)) .p), (.mk (some 44) (.call false [] (.lit (.c (.fn 123 []))) [(T 42), (T 43)]) (some (40, true))
  .w), (.mk (some 45) (.un .not (T 44)) (some (40, true)) .p), (oP 46 (.pick (T 40) (T 45) (.lit (.c (.pv (.bool false)))))), (oP 2 (.mv (T 46)))])) (.tr (rl
  [2]) false .ret)))))
theorem xf85_ok : cmpFunc Go.Proofs.Tryd.prog 85 ((.two (.tr (rl [1]) false .no) (.two .no (.two (.tr (rl [2]) false .no) (.tr (rl [2]) false .no))))) = some xf85 := by kernel_rfl
def xf86 : XFunc :=
(.mk 11 [(.tmp 2)] (.seq (.tr (rl [1]) false (.region false [(oW 1 (.box (T 0) 3)), (oP 2 (.mv (.lit (.c (.pv (.bool false))))))])) (.seq (.tr (rl [2]) false
  (.region false [(oP 3 (.faddr 0 (T 1))), (oR 4 (.load false 1 (T 3))), (oP 5 (.bin .lss (T 4) (tI 1))), (oP 6 (.mv (T 5))), (.mk (some 7) (.faddr 0 (T 1))
  (some (6, false)) .p), (.mk (some 8) (.load false 1 (T 7)) (some (6, false)) .r), (.mk (some 9) (.bin .gtr (T 8) (tI 999)) (some (6, false)) .p), (oP 10
  (.pick (T 6) (.lit (.c (.pv (.bool true)))) (T 9))), (oP 2 (.mv (T 10)))])) (.tr (rl [2]) false .ret))))
theorem xf86_ok : cmpFunc Go.Proofs.Tryd.prog 86 ((.two (.tr (rl [1]) false .no) (.two (.tr (rl [2]) false .no) (.tr (rl [2]) false .no)))) = some xf86 := by kernel_rfl
def xf87 : XFunc :=
(.mk 8 [(.tmp 2)] (.seq (.tr (rl [1]) false (.region false [(oW 1 (.box (T 0) 3)), (oP 2 (.mv (.lit (.c (.pv (.bool false))))))])) (.seq (.tr (rl [2]) false
  (.region false [(oP 3 (.faddr 1 (T 1))), (oP 4 (.faddr 0 (T 3))), (oR 5 (.load false 1 (T 4))), (oP 6 (.call false [] (.lit (.c (.fn 88 []))) [(T 5)])), (oP 7
  (.bin .eql (T 6) (.lit (.c (.pv (.str [])))))), (oP 2 (.mv (T 7)))])) (.tr (rl [2]) false .ret))))
theorem xf87_ok : cmpFunc Go.Proofs.Tryd.prog 87 ((.two (.tr (rl [1]) false .no) (.two (.tr (rl [2]) false (.ops [{}, {}, {}, { cls := some .p }])) (.tr (rl [2]) false .no)))) = some xf87 := by kernel_rfl
def xf88 : XFunc :=
(.mk 10 [(.tmp 2)] (.seq (.tr (rl [0]) false (.region false [(oP 2 (.mv (.lit (.c (.pv (.str []))))))])) (.seq (.seq (.tr (rl [0, 4]) false (.region false [(oP
  3 (.mv (T 0))), (oP 4 (.call false [] (.lit (.c (.fn 74 []))) [(T 3)])), (oP 5 (.un .not (T 4)))])) (.tr (rl [0, 1]) false (.cond (T 5) (.seq (.region false
  [(oP 2 (.mv (.lit (.c (.pv (.str []))))))]) (.tr (rl [2]) false .ret)) .skip))) (.seq (.tr (rl [2]) false (.region false [(oP 6 (.mv (T 0))), (oP 7 (.iaddrA 4
  3 (.lit (.c (.cptr [(.str [69, 85, 82]), (.int .i64 2), (.int .i64 100), (.str [74, 80, 89]), (.int .i64 0), (.int .i64 1), (.str [66, 72, 68]), (.int .i64
  3), (.int .i64 1000), (.str [85, 83, 68]), (.int .i64 2), (.int .i64 100)] 0))) (T 6))), (oP 8 (.faddr 0 (T 7))), (oR 9 (.load false 1 (T 8))), (oP 2 (.mv (T
  9)))])) (.tr (rl [2]) false .ret)))))
theorem xf88_ok : cmpFunc Go.Proofs.Tryd.prog 88 ((.two (.tr (rl [0]) false .no) (.two (.two (.tr (rl [0, 4]) false (.ops [{}, { cls := some .p }])) (.tr (rl [0, 1]) false (.two (.two .no (.tr (rl [2]) false .no)) .no))) (.two (.tr (rl [2]) false .no) (.tr (rl [2]) false .no))))) = some xf88 := by kernel_rfl
def xf89 : XFunc :=
(.mk 7 [(.tmp 2)] (.seq (.tr (rl [1]) false (.region false [(oW 1 (.box (T 0) 3)), (oP 2 (.mv (.lit (.c (.pv (.bool false))))))])) (.seq (.tr (rl [2]) false
  (.region false [(oP 3 (.faddr 1 (T 1))), (oR 4 (.load true 2 (T 3))), (oP 5 (.call false [] (.lit (.c (.fn 30 []))) [(T 4)])), (oP 6 (.un .not (T 5))), (oP 2
  (.mv (T 6)))])) (.tr (rl [2]) false .ret))))
theorem xf89_ok : cmpFunc Go.Proofs.Tryd.prog 89 ((.two (.tr (rl [1]) false .no) (.two (.tr (rl [2]) false (.ops [{}, {}, { cls := some .p }])) (.tr (rl [2]) false .no)))) = some xf89 := by kernel_rfl
def xf90 : XFunc :=
(.mk 7 [(.tmp 2)] (.seq (.tr (rl [1]) false (.region false [(oW 1 (.box (T 0) 3)), (oP 2 (.mv (.lit (.c (.pv (.bool false))))))])) (.seq (.tr (rl [2]) false
  (.region false [(oP 3 (.faddr 1 (T 1))), (oP 4 (.faddr 1 (T 3))), (oR 5 (.load false 1 (T 4))), (oP 6 (.bin .eql (T 5) (tI 0))), (oP 2 (.mv (T 6)))])) (.tr
  (rl [2]) false .ret))))
theorem xf90_ok : cmpFunc Go.Proofs.Tryd.prog 90 ((.two (.tr (rl [1]) false .no) (.two (.tr (rl [2]) false .no) (.tr (rl [2]) false .no)))) = some xf90 := by kernel_rfl
def xf91_l0 : XCode :=
(.seq (.region false [(oP 9 (.bin .lss (T 8) (T 7)))]) (.seq (.tr (rl [3, 2, 0, 0]) false (.cond (T 9) .skip (.tr (rl [3]) false (.exit 0)))) (.seq (.tr (rl [3,
  2, 0, 0]) false (.block 1 (.seq (.tr (rl [3, 1, 0, 0, 0]) false (.region false [(oP 10 (.iaddrS 3 (T 6) (T 8))), (oR 11 (.load true 3 (T 10))), (oW 5 (.alloc
  [(.pv (.int .i64 0)), (.pv (.int .i64 0)), (.pv (.int .i64 0))])), (sW (.store 3 (T 5) (T 11)))])) (.tr (rl [3, 2, 0, 0]) false (.region true [(oP 12 (.faddr
  1 (T 5))), (oP 13 (.faddr 0 (T 12))), (oR 14 (.load false 1 (T 13))), (oP 15 (.iaddrA 4 1 (T 3) (T 14))), (oR 16 (.load false 1 (T 15))), (oP 17 (.faddr 1 (T
  5))), (oP 18 (.faddr 1 (T 17))), (oR 19 (.load false 1 (T 18))), (oP 20 (.bin .add (T 16) (T 19))), (oP 21 (.iaddrA 4 1 (T 3) (T 14))), (sW (.store 1 (T 21)
  (T 20)))]))))) (.tr (rl [3, 2, 0, 0]) false (.region false [(oP 22 (.bin .add (T 8) (tI 1))), (oP 8 (.mv (T 22)))])))))
def xf91 : XFunc :=
(.mk 26 [(.tmp 2)] (.seq (.tr (rl [0]) false (.region false [(oP 2 (.mv (.lit (.c (.pv (.bool false))))))])) (.seq (.region false [(oW 3 (.alloc [(.pv (.int
  .i64 0)), (.pv (.int .i64 0)), (.pv (.int .i64 0)), (.pv (.int .i64 0))]))]) (.seq (.seq (.tr (rl [3, 2, 0, 0]) false (.region false [(oP 6 (.mv (T 0))), (oP
  7 (.len (T 6))), (oP 8 (.mv (tI 0)))])) (.tr (rl [3]) false (.block 0 (.loop (rl [3, 2, 0, 0]) xf91_l0)))) (.seq (.tr (rl [2]) false (.region false [(oR 23
  (.load true 4 (T 3))), (oP 24 (.build [(.pv (.int .i64 0)), (.pv (.int .i64 0)), (.pv (.int .i64 0)), (.pv (.int .i64 0))] [])), (oP 25 (.eqA false [0, 0, 0,
  0] (T 23) (T 24))), (oP 2 (.mv (T 25)))])) (.tr (rl [2]) false .ret))))))
theorem xf91_ok : cmpFunc Go.Proofs.Tryd.prog 91 ((.two (.tr (rl [0]) false .no) (.two .no (.two (.two (.tr (rl [3, 2, 0, 0]) false .no) (.tr (rl [3]) false (.loop (rl [3, 2, 0, 0]) (.two .no (.two (.tr (rl [3, 2, 0, 0]) false (.two .no (.tr (rl [3]) false .no))) (.two (.tr (rl [3, 2, 0, 0]) false (.two (.tr (rl [3, 1, 0, 0, 0]) false .no) (.tr (rl [3, 2, 0, 0]) false (.draw [0, 1, 2, 3, 4, 5, 6, 7, 8, 9, 10] [])))) (.tr (rl [3, 2, 0, 0]) false .no))))))) (.two (.tr (rl [2]) false .no) (.tr (rl [2]) false .no)))))) = some xf91 := by kernel_rfl
def xf92 : XFunc :=
(.mk 52 [(.tmp 4)] (.seq (.tr (rl [2, 0]) false (.region false [(oW 2 (.box (T 0) 7)), (oW 3 (.box (T 1) 7)), (oP 4 (.mv (.lit (.c (.pv (.bool false))))))]))
  (.seq (.tr (rl [4]) false (.region false [(oP 5 (.faddr 3 (T 2))), (oR 6 (.load false 1 (T 5))), (oP 7 (.faddr 3 (T 3))), (oR 8 (.load false 1 (T 7))), (oP 9
  (.call false [] (.lit (.c (.fn 124 []))) [(T 6), (T 8)])), (oP 10 (.mv (T 9))), (.mk (some 11) (.faddr 0 (T 2)) (some (10, true)) .p), (.mk (some 12) (.load
  false 1 (T 11)) (some (10, true)) .r), (.mk (some 13) (.faddr 0 (T 3)) (some (10, true)) .p), (.mk (some 14) (.load false 1 (T 13)) (some (10, true)) .r),
  (.mk (some 15) (.bin .eql (T 12) (T 14)) (some (10, true)) .p), (oP 16 (.pick (T 10) (T 15) (.lit (.c (.pv (.bool false)))))), (oP 17 (.mv (T 16))), (.mk
  (some 18) (.faddr 1 (T 2)) (some (17, true)) .p), (.mk (some 19) (.load false 1 (T 18)) (some (17, true)) .r), (.mk (some 20) (.faddr 1 (T 3)) (some (17,
  true)) .p), (.mk (some 21) (.load false 1 (T 20)) (some (17, true)) .r), (.mk (some 22) (.bin .eql (T 19) (T 21)) (some (17, true)) .p), (oP 23 (.pick (T 17)
  (T 22) (.lit (.c (.pv (.bool false)))))), (oP 24 (.mv (T 23))), (.mk (some 25) (.faddr 2 (T 2)) (some (24, true)) .p), (.mk (some 26) (.load false 1 (T 25))
  (some (24, true)) .r), (.mk (some 27) (.faddr 2 (T 3)) (some (24, true)) .p), (.mk (some 28) (.load false 1 (T 27)) (some (24, true)) .r), (.mk (some 29)
  (.bin .eql (T 26) (T 28)) (some (24, true)) .p), (oP 30 (.pick (T 24) (T 29) (.lit (.c (.pv (.bool false)))))), (oP 31 (.mv (T 30))), (.mk (some 32) (.faddr 4
  (T 2)) (some (31, true)) .p), (.mk (some 33) (.load false 1 (T 32)) (some (31, true)) .r), (.mk (some 34) (.faddr 4 (T 3)) (some (31, true)) .p), (.mk (some
  35) (.load false 1 (T 34)) (some (31, true)) .r), (.mk (some 36) (.bin .eql (T 33) (T 35)) (some (31, true)) .p), (oP 37 (.pick (T 31) (T 36) (.lit (.c (.pv
  (.bool false)))))), (oP 38 (.mv (T 37))), (.mk (some 39) (.faddr 5 (T 2)) (some (38, true)) .p), (.mk (some 40) (.load false 1 (T 39)) (some (38, true)) .r),
  (.mk (some 41) (.faddr 5 (T 3)) (some (38, true)) .p), (.mk (some 42) (.load false 1 (T 41)) (some (38, true)) .r), (.mk (some 43) (.bin .eql (T 40) (T 42))
  (some (38, true)) .p), (oP 44 (.pick (T 38) (T 43) (.lit (.c (.pv (.bool false)))))), (oP 45 (.mv (T 44))), (.mk (some 46) (.faddr 6 (T 2)) (some (45, true))
  .p), (.mk (some 47) (.load false 1 (T 46)) (some (45, true)) .r), (.mk (some 48) (.faddr 6 (T 3)) (some (45, true)) .p), (.mk (some 49) (.load false 1 (T 48))
  (some (45, true)) .r), (.mk (some 50) (.bin .eql (T 47) (T 49)) (some (45, true)) .p), (oP 51 (.pick (T 45) (T 50) (.lit (.c (.pv (.bool false)))))), (oP 4
  (.mv (T 51)))])) (.tr (rl [4]) false .ret))))
theorem xf92_ok : cmpFunc Go.Proofs.Tryd.prog 92 ((.two (.tr (rl [2, 0]) false .no) (.two (.tr (rl [4]) false (.ops [{}, {}, {}, {}, { cls := some .p }])) (.tr (rl [4]) false .no)))) = some xf92 := by kernel_rfl
def xf94 : XFunc :=
(.mk 9 [(.tmp 4)] (.seq (.tr (rl [0, 0]) false (.region false [(oP 4 (.mv (.lit (.c (.pv (.bool false))))))])) (.seq (.tr (rl [4]) false (.region false [(oP 5
  (.mv (T 0))), (oP 6 (.mv (T 1))), (oW 7 (.call false [] (.lit (.c (.fn 125 []))) [(T 5), (T 6)])), (oP 8 (.bin .geq (T 7) (tI 0))), (oP 4 (.mv (T 8)))])) (.tr
  (rl [4]) false .ret))))
theorem xf94_ok : cmpFunc Go.Proofs.Tryd.prog 94 ((.two (.tr (rl [0, 0]) false .no) (.two (.tr (rl [4]) false .no) (.tr (rl [4]) false .no)))) = some xf94 := by kernel_rfl
def xf96 : XFunc :=
(.mk 15 [(.tmp 6)] (.seq (.tr (rl [0, 0, 0]) false (.region false [(oP 6 (.mv (.lit (.c (.pv (.bool false))))))])) (.seq (.tr (rl [6]) false (.region false [(oP
  7 (.mv (T 0))), (oP 8 (.mv (T 1))), (oP 9 (.bin .geq (T 7) (T 8))), (oP 10 (.mv (T 9))), (.mk (some 11) (.mv (T 0)) (some (10, true)) .p), (.mk (some 12) (.mv
  (T 2)) (some (10, true)) .p), (.mk (some 13) (.bin .leq (T 11) (T 12)) (some (10, true)) .p), (oP 14 (.pick (T 10) (T 13) (.lit (.c (.pv (.bool false)))))),
  (oP 6 (.mv (T 14)))])) (.tr (rl [6]) false .ret))))
theorem xf96_ok : cmpFunc Go.Proofs.Tryd.prog 96 ((.two (.tr (rl [0, 0, 0]) false .no) (.two (.tr (rl [6]) false .no) (.tr (rl [6]) false .no)))) = some xf96 := by kernel_rfl
def xf97_l0 : XCode :=
(.seq (.region false [(oP 9 (.bin .lss (T 8) (T 7)))]) (.seq (.tr (rl [0, 0, 5, 0]) false (.cond (T 9) .skip (.tr [] false (.exit 0)))) (.seq (.tr (rl [0, 0, 2,
  2, 0]) false (.block 1 (.seq (.tr (rl [0, 0, 3, 1, 0]) false (.region false [(oP 10 (.mv (T 8))), (oP 5 (.mv (T 10)))])) (.seq (.tr (rl [0, 0, 3, 1, 0, 7])
  false (.region false [(oP 11 (.mv (T 1))), (oP 12 (.mv (T 0))), (oP 13 (.mv (T 5))), (oP 14 (.iaddrS 10 (T 12) (T 13))), (oR 15 (.load true 10 (T 14))), (oW
  16 (.call false [] (T 11) [(T 15)]))])) (.tr (rl [0, 0, 2, 2, 0]) false (.cond (T 16) (.seq (.tr (rl [4]) false (.region false [(oP 17 (.mv (T 5))), (oP 4
  (.mv (T 17)))])) (.tr (rl [4]) false .ret)) .skip)))))) (.tr (rl [0, 0, 5, 0]) false (.region false [(oP 18 (.bin .add (T 8) (tI 1))), (oP 8 (.mv (T
  18)))])))))
def xf97 : XFunc :=
(.mk 19 [(.tmp 4)] (.seq (.tr (rl [0, 0]) false (.region false [(oP 4 (.mv (tI 0)))])) (.seq (.seq (.tr (rl [0, 0, 5, 0]) false (.region false [(oP 6 (.mv (T
  0))), (oP 7 (.len (T 6))), (oP 8 (.mv (tI 0)))])) (.tr (rl [4]) false (.block 0 (.loop (rl [0, 0, 5, 0]) xf97_l0)))) (.seq (.region false [(oP 4 (.mv (.lit
  (.c (.pv (.int .i64 (-1)))))))]) (.tr (rl [4]) false .ret)))))
theorem xf97_ok : cmpFunc Go.Proofs.Tryd.prog 97 ((.two (.tr (rl [0, 0]) false .no) (.two (.two (.tr (rl [0, 0, 5, 0]) false .no) (.tr (rl [4]) false (.loop (rl [0, 0, 5, 0]) (.two .no (.two (.tr (rl [0, 0, 5, 0]) false (.two .no (.tr [] false .no))) (.two (.tr (rl [0, 0, 2, 2, 0]) false (.two (.tr (rl [0, 0, 3, 1, 0]) false .no) (.two (.tr (rl [0, 0, 3, 1, 0, 7]) false .no) (.tr (rl [0, 0, 2, 2, 0]) false (.two (.two (.tr (rl [4]) false .no) (.tr (rl [4]) false .no)) .no))))) (.tr (rl [0, 0, 5, 0]) false .no))))))) (.two .no (.tr (rl [4]) false .no))))) = some xf97 := by kernel_rfl
def xf98 : XFunc :=
(.mk 33 [(.tmp 4), (.tmp 5)] (.seq (.tr (rl [1, 0]) false (.region false [(oW 2 (.box (T 0) 10)), (oP 4 (.mv (tI 0))), (oP 5 (.mv (tI 0)))])) (.seq (.tr (rl [2,
  1, 0]) false (.block 0 (.seq (.tr (rl [1, 0, 3]) false (.region false [(oR 7 (.load true 10 (T 2))), (oP 8 (.call false [] (.lit (.c (.fn 51 []))) [(T 7)])),
  (oP 9 (.un .not (T 8))), (oP 6 (.mv (T 9)))])) (.tr (rl [2, 1, 0]) false (.cond (T 6) (.seq (.region false [(oP 4 (.mv (tI 0))), (oP 5 (.mv (tI 1)))]) (.tr
  (rl [4, 0]) false .ret)) (.seq (.tr (rl [1, 0, 7]) false (.region false [(oP 11 (.mv (T 1))), (oP 12 (.call false [] (.lit (.c (.fn 126 []))) [(T 11), (.lit
  (.c (.pv (.int .i64 (-1000000000000000))))), (tI 1000000000000000)])), (oP 13 (.un .not (T 12))), (oP 10 (.mv (T 13)))])) (.tr (rl [2, 1, 0]) false (.cond (T
  10) (.seq (.region false [(oP 4 (.mv (tI 0))), (oP 5 (.mv (tI 9)))]) (.tr (rl [4, 0]) false .ret)) (.seq (.tr (rl [1, 0, 11]) false (.region false [(oP 15
  (.faddr 1 (T 2))), (oR 16 (.load false 1 (T 15))), (oP 17 (.bin .eql (T 16) (tI 1))), (oP 14 (.mv (T 17)))])) (.tr (rl [2, 1, 0]) false (.cond (T 14) (.seq
  (.tr (rl [4, 0]) false (.region false [(oP 18 (.mv (T 1))), (oP 19 (.faddr 4 (T 2))), (oP 20 (.faddr 1 (T 19))), (oR 21 (.load false 1 (T 20))), (oP 22 (.bin
  .sub (T 18) (T 21))), (oP 23 (.maxI [(tI 0), (T 22)])), (oP 4 (.mv (T 23))), (oP 5 (.mv (tI 0)))])) (.tr (rl [4, 0]) false .ret)) (.seq (.tr (rl [2, 21])
  false (.region false [(oP 25 (.mv (T 1))), (oP 26 (.faddr 4 (T 2))), (oP 27 (.faddr 1 (T 26))), (oR 28 (.load false 1 (T 27))), (oP 29 (.bin .lss (T 25) (T
  28))), (oP 24 (.mv (T 29)))])) (.tr (rl [2, 1, 0]) false (.cond (T 24) (.seq (.region false [(oP 4 (.mv (tI 0))), (oP 5 (.mv (tI 0)))]) (.tr (rl [4, 0]) false
  .ret)) .skip)))))))))))))) (.seq (.tr (rl [4, 0]) false (.region false [(oP 30 (.faddr 4 (T 2))), (oP 31 (.faddr 1 (T 30))), (oR 32 (.load false 1 (T 31))),
  (oP 4 (.mv (T 32))), (oP 5 (.mv (tI 0)))])) (.tr (rl [4, 0]) false .ret)))))
theorem xf98_ok : cmpFunc Go.Proofs.Tryd.prog 98 ((.two (.tr (rl [1, 0]) false .no) (.two (.tr (rl [2, 1, 0]) false (.two (.tr (rl [1, 0, 3]) false (.ops [{}, { cls := some .p }])) (.tr (rl [2, 1, 0]) false (.two (.two .no (.tr (rl [4, 0]) false .no)) (.two (.tr (rl [1, 0, 7]) false (.ops [{}, { cls := some .p }])) (.tr (rl [2, 1, 0]) false (.two (.two .no (.tr (rl [4, 0]) false .no)) (.two (.tr (rl [1, 0, 11]) false .no) (.tr (rl [2, 1, 0]) false (.two (.two (.tr (rl [4, 0]) false .no) (.tr (rl [4, 0]) false .no)) (.two (.tr (rl [2, 21]) false .no) (.tr (rl [2, 1, 0]) false (.two (.two .no (.tr (rl [4, 0]) false .no)) .no))))))))))))) (.two (.tr (rl [4, 0]) false .no) (.tr (rl [4, 0]) false .no))))) = some xf98 := by kernel_rfl
def xf99 : XFunc :=
(.mk 5 [(.tmp 2)] (.seq (.tr (rl [0]) false (.region false [(oP 2 (.mv (.lit (.c (.pv (.str []))))))])) (.seq (.tr (rl [2]) false (.region false [(oP 3 (.mv (T
  0))), (oP 4 (.call false [] (.lit (.c (.fn 127 []))) [(T 3)])), (oP 2 (.mv (T 4)))])) (.tr (rl [2]) false .ret))))
theorem xf99_ok : cmpFunc Go.Proofs.Tryd.prog 99 ((.two (.tr (rl [0]) false .no) (.two (.tr (rl [2]) false (.ops [{}, { cls := some .p }])) (.tr (rl [2]) false .no)))) = some xf99 := by kernel_rfl
def xf100 : XFunc :=
(.mk 8 [(.tmp 4)] (.seq (.tr (rl [0, 0]) false (.region false [(oP 4 (.mv (.lit (.c (.pv (.bool false))))))])) (.seq (.tr (rl [4]) false (.region false [(oP 5
  (.mv (T 0))), (oP 6 (.mv (T 1))), (oP 7 (.call false [] (.lit (.c (.fn 128 []))) [(T 5), (T 6)])), (oP 4 (.mv (T 7)))])) (.tr (rl [4]) false .ret))))
theorem xf100_ok : cmpFunc Go.Proofs.Tryd.prog 100 ((.two (.tr (rl [0, 0]) false .no) (.two (.tr (rl [4]) false (.ops [{}, {}, { cls := some .p }])) (.tr (rl [4]) false .no)))) = some xf100 := by kernel_rfl
def xf101_l0 : XCode :=
(.seq (.seq (.tr (rl [3, 8, 0, 0, 21]) false (.region false [(oP 34 (.mv (T 14))), (oP 35 (.mv (T 3))), (oP 36 (.bin .lss (T 34) (T 35)))])) (.tr (rl [3, 8, 0,
  0]) false (.cond (T 36) .skip (.tr (rl [12]) false (.exit 0))))) (.seq (.tr (rl [3, 8, 0, 0]) false (.block 1 (.seq (.tr (rl [3, 8, 0, 0, 26]) false (.region
  false [(oP 39 (.mv (T 13))), (oP 40 (.mv (T 14))), (oW 41 (.call false [] (.lit (.c (.fn 64 []))) [(T 39), (T 40)]))])) (.tr (rl [3, 8, 0, 0]) false (.cond (T
  41) (.tr (rl [3, 8, 0, 0]) false (.region false [(oP 42 (.mv (T 12))), (oP 43 (.bin .add (T 42) (tI 1))), (oP 12 (.mv (T 43)))])) .skip))))) (.tr (rl [3, 8,
  0, 0]) false (.region false [(oP 37 (.mv (T 14))), (oP 38 (.bin .add (T 37) (.lit (.c (.pv (.int .i32 1)))))), (oP 14 (.mv (T 38)))]))))
def xf101 : XFunc :=
(.mk 45 [(.tmp 8), (.tmp 9)] (.seq (.tr (rl [0, 0, 0, 0]) false (.region false [(oP 8 (.mv (tI 0))), (oP 9 (.mv (tI 0)))])) (.seq (.seq (.tr (rl [0, 0, 0, 0,
  6]) false (.region false [(oP 15 (.mv (T 0))), (oP 16 (.mv (T 1))), (oP 17 (.mv (T 2))), (oP 18 (.mv (T 3))), (oP 19 (.buildSl [(.pv (.int .i32 0))] 3 1 [(0,
  (1, (T 16))), (1, (1, (T 17))), (2, (1, (T 18)))])), (oP 20 (.call false [] (.lit (.c (.fn 61 []))) [(T 15), (T 19)])), (oP 10 (.mv (T 20)))])) (.seq (.tr (rl
  [0, 0, 0, 0, 6, 11]) false (.region false [(oP 21 (.mv (T 10))), (oP 22 (.bin .neq (T 21) (tI 0)))])) (.tr (rl [0, 0, 0, 0, 4, 0]) false (.cond (T 22) (.seq
  (.tr (rl [8, 0]) false (.region false [(oP 23 (.mv (T 10))), (oP 8 (.mv (tI 0))), (oP 9 (.mv (T 23)))])) (.tr (rl [8, 0]) false .ret)) .skip)))) (.seq (.seq
  (.tr (rl [0, 0, 0, 0, 7]) false (.region false [(oP 24 (.mv (T 2))), (oP 25 (.mv (T 3))), (oP 26 (.call false [] (.lit (.c (.fn 62 []))) [(T 24), (T 25)])),
  (oP 11 (.mv (T 26)))])) (.seq (.tr (rl [0, 0, 0, 0, 7, 16]) false (.region false [(oP 27 (.mv (T 11))), (oP 28 (.bin .neq (T 27) (tI 0)))])) (.tr (rl [0, 0,
  0, 0, 4, 0]) false (.cond (T 28) (.seq (.tr (rl [8, 0]) false (.region false [(oP 29 (.mv (T 11))), (oP 8 (.mv (tI 0))), (oP 9 (.mv (T 29)))])) (.tr (rl [8,
  0]) false .ret)) .skip)))) (.seq (.region false [(oP 12 (.mv (tI 0)))]) (.seq (.tr (rl [2, 0, 8, 0]) false (.region false [(oP 30 (.mv (T 0))), (oP 31 (.mv (T
  1))), (oW 32 (.call false [] (.lit (.c (.fn 63 []))) [(T 30), (T 31)])), (oP 13 (.mv (T 32)))])) (.seq (.seq (.tr (rl [3, 8, 0, 0]) false (.region false [(oP
  33 (.mv (T 2))), (oP 14 (.mv (T 33)))])) (.tr (rl [12]) false (.block 0 (.loop (rl [3, 8, 0, 0]) xf101_l0)))) (.seq (.tr (rl [8, 0]) false (.region false [(oP
  44 (.mv (T 12))), (oP 8 (.mv (T 44))), (oP 9 (.mv (tI 0)))])) (.tr (rl [8, 0]) false .ret)))))))))
theorem xf101_ok : cmpFunc Go.Proofs.Tryd.prog 101 ((.two (.tr (rl [0, 0, 0, 0]) false .no) (.two (.two (.tr (rl [0, 0, 0, 0, 6]) false (.ops [{}, {}, {}, {}, {}, { cls := some .p }])) (.two (.tr (rl [0, 0, 0, 0, 6, 11]) false .no) (.tr (rl [0, 0, 0, 0, 4, 0]) false (.two (.two (.tr (rl [8, 0]) false .no) (.tr (rl [8, 0]) false .no)) .no)))) (.two (.two (.tr (rl [0, 0, 0, 0, 7]) false (.ops [{}, {}, { cls := some .p }])) (.two (.tr (rl [0, 0, 0, 0, 7, 16]) false .no) (.tr (rl [0, 0, 0, 0, 4, 0]) false (.two (.two (.tr (rl [8, 0]) false .no) (.tr (rl [8, 0]) false .no)) .no)))) (.two .no (.two (.tr (rl [2, 0, 8, 0]) false .no) (.two (.two (.tr (rl [3, 8, 0, 0]) false .no) (.tr (rl [12]) false (.loop (rl [3, 8, 0, 0]) (.two (.two (.tr (rl [3, 8, 0, 0, 21]) false .no) (.tr (rl [3, 8, 0, 0]) false (.two .no (.tr (rl [12]) false .no)))) (.two (.tr (rl [3, 8, 0, 0]) false (.two (.tr (rl [3, 8, 0, 0, 26]) false .no) (.tr (rl [3, 8, 0, 0]) false (.two (.tr (rl [3, 8, 0, 0]) false .no) .no)))) (.tr (rl [3, 8, 0, 0]) false .no)))))) (.two (.tr (rl [8, 0]) false .no) (.tr (rl [8, 0]) false .no))))))))) = some xf101 := by kernel_rfl
def xf102_l0 : XCode :=
(.seq (.seq (.tr (rl [0, 0, 0, 6]) false (.region false [(oP 8 (.mv (T 1))), (oP 9 (.call false [] (.lit (.c (.fn 53 []))) [(T 8)]))])) (.tr (rl [0, 0, 0])
  false (.cond (T 9) .skip (.tr [] false (.exit 0))))) (.tr (rl [0, 0, 0, 3, 0]) false (.block 1 (.seq (.seq (.tr (rl [0, 0, 0, 9]) false (.region false [(oP 10
  (.mv (T 0))), (oP 11 (.mv (T 1))), (oW 12 (.call false [] (.lit (.c (.fn 64 []))) [(T 10), (T 11)]))])) (.tr (rl [0, 0, 0, 3, 0]) false (.cond (T 12) (.seq
  (.tr (rl [6, 0]) false (.region false [(oP 13 (.mv (T 1))), (oP 6 (.mv (T 13))), (oP 7 (.mv (tI 0)))])) (.tr (rl [6, 0]) false .ret)) .skip))) (.tr (rl [0, 0,
  0]) false (.region false [(oP 14 (.mv (T 1))), (oP 15 (.mv (T 2))), (oP 16 (.bin .add (T 14) (T 15))), (oP 1 (.mv (T 16)))]))))))
def xf102 : XFunc :=
(.mk 17 [(.tmp 6), (.tmp 7)] (.seq (.tr (rl [0, 0, 0]) false (.region false [(oP 6 (.mv (.lit (.c (.pv (.int .i32 0)))))), (oP 7 (.mv (tI 0)))])) (.seq (.tr (rl
  [6, 0]) false (.block 0 (.loop (rl [0, 0, 0]) xf102_l0))) (.seq (.region false [(oP 6 (.mv (.lit (.c (.pv (.int .i32 0)))))), (oP 7 (.mv (tI 11)))]) (.tr (rl
  [6, 0]) false .ret)))))
theorem xf102_ok : cmpFunc Go.Proofs.Tryd.prog 102 ((.two (.tr (rl [0, 0, 0]) false .no) (.two (.tr (rl [6, 0]) false (.loop (rl [0, 0, 0]) (.two (.two (.tr (rl [0, 0, 0, 6]) false (.ops [{}, { cls := some .p }])) (.tr (rl [0, 0, 0]) false (.two .no (.tr [] false .no)))) (.tr (rl [0, 0, 0, 3, 0]) false (.two (.two (.tr (rl [0, 0, 0, 9]) false .no) (.tr (rl [0, 0, 0, 3, 0]) false (.two (.two (.tr (rl [6, 0]) false .no) (.tr (rl [6, 0]) false .no)) .no))) (.tr (rl [0, 0, 0]) false .no)))))) (.two .no (.tr (rl [6, 0]) false .no))))) = some xf102 := by kernel_rfl
def xf103 : XFunc :=
(.mk 32 [(.tmp 6)] (.seq (.tr (rl [0, 0, 0]) false (.region false [(oP 6 (.mv (tI 0)))])) (.seq (.seq (.tr (rl [0, 0, 0, 5]) false (.region false [(oP 7 (.mv (T
  1))), (oP 8 (.bin .leq (T 7) (tI 2)))])) (.tr (rl [0, 0, 0]) false (.cond (T 8) (.tr (rl [0, 0, 0]) false (.region false [(oP 9 (.mv (T 0))), (oP 10 (.bin
  .sub (T 9) (tI 1))), (oP 11 (.mv (T 1))), (oP 12 (.bin .add (T 11) (tI 12))), (oP 0 (.mv (T 10))), (oP 1 (.mv (T 12)))])) .skip))) (.seq (.tr (rl [6]) false
  (.region false [(oP 13 (.mv (T 0))), (oP 14 (.bin .mul (T 13) (tI 365))), (oP 15 (.mv (T 0))), (oP 16 (.bin .quo (T 15) (tI 4))), (oP 17 (.bin .add (T 14) (T
  16))), (oP 18 (.mv (T 0))), (oP 19 (.bin .quo (T 18) (tI 100))), (oP 20 (.bin .sub (T 17) (T 19))), (oP 21 (.mv (T 0))), (oP 22 (.bin .quo (T 21) (tI 400))),
  (oP 23 (.bin .add (T 20) (T 22))), (oP 24 (.mv (T 1))), (oP 25 (.bin .sub (T 24) (tI 3))), (oP 26 (.iaddrA 12 1 (.lit (.c (.cptr [(.int .i64 0), (.int .i64
  31), (.int .i64 61), (.int .i64 92), (.int .i64 122), (.int .i64 153), (.int .i64 184), (.int .i64 214), (.int .i64 245), (.int .i64 275), (.int .i64 306),
  (.int .i64 337)] 0))) (T 25))), (oR 27 (.load false 1 (T 26))), (oP 28 (.bin .add (T 23) (T 27))), (oP 29 (.mv (T 2))), (oP 30 (.bin .add (T 28) (T 29))), (oP
  31 (.bin .sub (T 30) (tI 1))), (oP 6 (.mv (T 31)))])) (.tr (rl [6]) false .ret)))))
theorem xf103_ok : cmpFunc Go.Proofs.Tryd.prog 103 ((.two (.tr (rl [0, 0, 0]) false .no) (.two (.two (.tr (rl [0, 0, 0, 5]) false .no) (.tr (rl [0, 0, 0]) false (.two (.tr (rl [0, 0, 0]) false .no) .no))) (.two (.tr (rl [6]) false .no) (.tr (rl [6]) false .no))))) = some xf103 := by kernel_rfl
def xf104 : XFunc :=
(.mk 16 [(.tmp 2)] (.seq (.tr (rl [0]) false (.region false [(oP 2 (.mv (.lit (.c (.pv (.bool false))))))])) (.seq (.tr (rl [2]) false (.region false [(oP 3
  (.mv (T 0))), (oP 4 (.bin .rem (T 3) (tI 4))), (oP 5 (.bin .eql (T 4) (tI 0))), (oP 6 (.mv (T 5))), (.mk (some 7) (.mv (T 0)) (some (6, true)) .p), (.mk (some
  8) (.bin .rem (T 7) (tI 100)) (some (6, true)) .p), (.mk (some 9) (.bin .neq (T 8) (tI 0)) (some (6, true)) .p), (.mk (some 10) (.mv (T 9)) (some (6, true))
  .p), (.mk (some 11) (.mv (T 0)) (some (10, false)) .p), (.mk (some 12) (.bin .rem (T 11) (tI 400)) (some (10, false)) .p), (.mk (some 13) (.bin .eql (T 12)
  (tI 0)) (some (10, false)) .p), (.mk (some 14) (.pick (T 10) (.lit (.c (.pv (.bool true)))) (T 13)) (some (6, true)) .p), (oP 15 (.pick (T 6) (T 14) (.lit (.c
  (.pv (.bool false)))))), (oP 2 (.mv (T 15)))])) (.tr (rl [2]) false .ret))))
theorem xf104_ok : cmpFunc Go.Proofs.Tryd.prog 104 ((.two (.tr (rl [0]) false .no) (.two (.tr (rl [2]) false .no) (.tr (rl [2]) false .no)))) = some xf104 := by kernel_rfl
def xf105 : XFunc :=
(.mk 6 [(.tmp 2)] (.seq (.tr (rl [0]) false (.region false [(oP 2 (.mv (.lit (.c (.pv (.bool false))))))])) (.seq (.tr (rl [2]) false (.region false [(oP 3 (.mv
  (T 0))), (oP 4 (.call false [] (.lit (.c (.fn 53 []))) [(T 3)])), (oP 5 (.un .not (T 4))), (oP 2 (.mv (T 5)))])) (.tr (rl [2]) false .ret))))
theorem xf105_ok : cmpFunc Go.Proofs.Tryd.prog 105 ((.two (.tr (rl [0]) false .no) (.two (.tr (rl [2]) false (.ops [{}, { cls := some .p }])) (.tr (rl [2]) false .no)))) = some xf105 := by kernel_rfl
def xf106 : XFunc :=
(.mk 12 [(.tmp 2), (.tmp 3)] (.seq (.tr (rl [0]) false (.region false [(oP 2 (.mv (tI 0))), (oP 3 (.mv (tI 0)))])) (.seq (.seq (.tr (rl [0, 5]) false (.region
  false [(oP 4 (.mv (T 0))), (oP 5 (.call false [] (.lit (.c (.fn 53 []))) [(T 4)])), (oP 6 (.un .not (T 5)))])) (.tr (rl [0, 1, 0]) false (.cond (T 6) (.seq
  (.region false [(oP 2 (.mv (tI 0))), (oP 3 (.mv (tI 11)))]) (.tr (rl [2, 0]) false .ret)) .skip))) (.seq (.tr (rl [2, 0]) false (.region false [(oP 7 (.mv (T
  0))), (oP 8 (.bin .sub (T 7) (.lit (.c (.pv (.int .i32 (-50000))))))), (oP 9 (.convI .i64 (T 8))), (oP 10 (.bin .add (T 9) (tI 6))), (oP 11 (.bin .rem (T 10)
  (tI 7))), (oP 2 (.mv (T 11))), (oP 3 (.mv (tI 0)))])) (.tr (rl [2, 0]) false .ret)))))
theorem xf106_ok : cmpFunc Go.Proofs.Tryd.prog 106 ((.two (.tr (rl [0]) false .no) (.two (.two (.tr (rl [0, 5]) false (.ops [{}, { cls := some .p }])) (.tr (rl [0, 1, 0]) false (.two (.two .no (.tr (rl [2, 0]) false .no)) .no))) (.two (.tr (rl [2, 0]) false .no) (.tr (rl [2, 0]) false .no))))) = some xf106 := by kernel_rfl
def xf116_l0 : XCode :=
(.seq (.region false [(oP 19 (.bin .lss (T 18) (T 17)))]) (.seq (.tr (rl [1, 5, 8, 0, 0]) false (.cond (T 19) .skip (.tr (rl [7]) false (.exit 0)))) (.seq (.tr
  (rl [1, 5, 8, 0, 0]) false (.block 1 (.seq (.tr (rl [1, 5, 1, 6, 0, 0]) false (.region false [(oP 20 (.iaddrS 3 (T 16) (T 18))), (oR 21 (.load true 3 (T
  20))), (oW 9 (.alloc [(.pv (.int .i64 0)), (.pv (.int .i64 0)), (.pv (.int .i64 0))])), (sW (.store 3 (T 9) (T 21)))])) (.seq (.tr (rl [1, 5, 1, 6, 0, 0, 5])
  false (.region false [(oP 22 (.mv (T 1))), (oR 23 (.load true 3 (T 9))), (oW 24 (.call false [] (T 22) [(T 23)]))])) (.tr (rl [1, 5, 8, 0, 0]) false (.cond (T
  24) (.tr (rl [1, 5, 8, 0, 0]) false (.region false [(oP 25 (.mv (T 7))), (oP 26 (.faddr 1 (T 9))), (oP 27 (.faddr 1 (T 26))), (oR 28 (.load false 1 (T 27))),
  (oP 29 (.bin .add (T 25) (T 28))), (oP 7 (.mv (T 29)))])) .skip)))))) (.tr (rl [1, 5, 8, 0, 0]) false (.region false [(oP 30 (.bin .add (T 18) (tI 1))), (oP
  18 (.mv (T 30)))])))))
def xf116 : XFunc :=
(.mk 32 [(.tmp 4), (.tmp 5)] (.seq (.tr (rl [1, 0]) false (.region false [(oW 2 (.box (T 0) 7)), (oP 4 (.mv (tI 0))), (oP 5 (.mv (tI 0)))])) (.seq (.seq (.tr
  (rl [1, 0, 3]) false (.region false [(oR 10 (.load true 7 (T 2))), (oP 11 (.call false [] (.lit (.c (.fn 36 []))) [(T 10)])), (oP 6 (.mv (T 11)))])) (.seq
  (.tr (rl [1, 0, 3, 6]) false (.region false [(oP 12 (.mv (T 6))), (oP 13 (.bin .neq (T 12) (tI 0)))])) (.tr (rl [1, 0, 1, 0]) false (.cond (T 13) (.seq (.tr
  (rl [4, 0]) false (.region false [(oP 14 (.mv (T 6))), (oP 4 (.mv (tI 0))), (oP 5 (.mv (T 14)))])) (.tr (rl [4, 0]) false .ret)) .skip)))) (.seq (.region
  false [(oP 7 (.mv (tI 0)))]) (.seq (.seq (.tr (rl [1, 5, 8, 0, 0]) false (.region false [(oP 15 (.faddr 3 (T 2))), (oR 16 (.load false 1 (T 15))), (oP 17
  (.len (T 16))), (oP 18 (.mv (tI 0)))])) (.tr (rl [7]) false (.block 0 (.loop (rl [1, 5, 8, 0, 0]) xf116_l0)))) (.seq (.tr (rl [4, 0]) false (.region false
  [(oP 31 (.mv (T 7))), (oP 4 (.mv (T 31))), (oP 5 (.mv (tI 0)))])) (.tr (rl [4, 0]) false .ret)))))))
theorem xf116_ok : cmpFunc Go.Proofs.Tryd.prog 116 ((.two (.tr (rl [1, 0]) false .no) (.two (.two (.tr (rl [1, 0, 3]) false (.ops [{}, { cls := some .p }])) (.two (.tr (rl [1, 0, 3, 6]) false .no) (.tr (rl [1, 0, 1, 0]) false (.two (.two (.tr (rl [4, 0]) false .no) (.tr (rl [4, 0]) false .no)) .no)))) (.two .no (.two (.two (.tr (rl [1, 5, 8, 0, 0]) false .no) (.tr (rl [7]) false (.loop (rl [1, 5, 8, 0, 0]) (.two .no (.two (.tr (rl [1, 5, 8, 0, 0]) false (.two .no (.tr (rl [7]) false .no))) (.two (.tr (rl [1, 5, 8, 0, 0]) false (.two (.tr (rl [1, 5, 1, 6, 0, 0]) false .no) (.two (.tr (rl [1, 5, 1, 6, 0, 0, 5]) false .no) (.tr (rl [1, 5, 8, 0, 0]) false (.two (.tr (rl [1, 5, 8, 0, 0]) false .no) .no))))) (.tr (rl [1, 5, 8, 0, 0]) false .no))))))) (.two (.tr (rl [4, 0]) false .no) (.tr (rl [4, 0]) false .no))))))) = some xf116 := by kernel_rfl
def xf117 : XFunc :=
(.mk 16 [(.tmp 4)] (.seq (.tr (rl [1, 0, 0]) false (.region false [(oW 3 (.box (T 0) 3)), (oP 4 (.mv (.lit (.c (.pv (.bool false))))))])) (.seq (.tr (rl [4])
  false (.region false [(oP 5 (.faddr 0 (T 3))), (oR 6 (.load false 1 (T 5))), (oR 7 (.load false 1 (T 1))), (oP 8 (.bin .eql (T 6) (T 7))), (oP 9 (.mv (T 8))),
  (.mk (some 10) (.faddr 1 (T 3)) (some (9, true)) .p), (.mk (some 11) (.faddr 0 (T 10)) (some (9, true)) .p), (.mk (some 12) (.load false 1 (T 11)) (some (9,
  true)) .r), (.mk (some 13) (.load false 1 (T 2)) (some (9, true)) .r), (.mk (some 14) (.bin .eql (T 12) (T 13)) (some (9, true)) .p), (oP 15 (.pick (T 9) (T
  14) (.lit (.c (.pv (.bool false)))))), (oP 4 (.mv (T 15)))])) (.tr (rl [4]) false .ret))))
theorem xf117_ok : cmpFunc Go.Proofs.Tryd.prog 117 ((.two (.tr (rl [1, 0, 0]) false .no) (.two (.tr (rl [4]) false .no) (.tr (rl [4]) false .no)))) = some xf117 := by kernel_rfl
def xf121_l0 : XCode :=
(.seq (.region false [(oP 9 (.bin .lss (T 8) (T 7)))]) (.seq (.tr (rl [0, 0, 5, 0]) false (.cond (T 9) .skip (.tr [] false (.exit 0)))) (.seq (.tr (rl [0, 0, 2,
  2, 0]) false (.block 1 (.seq (.tr (rl [0, 0, 3, 1, 0]) false (.region false [(oP 10 (.mv (T 8))), (oP 5 (.mv (T 10)))])) (.seq (.tr (rl [0, 0, 3, 1, 0, 7])
  false (.region false [(oP 11 (.mv (T 1))), (oP 12 (.mv (T 0))), (oP 13 (.mv (T 5))), (oP 14 (.iaddrS 3 (T 12) (T 13))), (oR 15 (.load true 3 (T 14))), (oW 16
  (.call false [] (T 11) [(T 15)]))])) (.tr (rl [0, 0, 2, 2, 0]) false (.cond (T 16) (.seq (.tr (rl [4]) false (.region false [(oP 17 (.mv (T 5))), (oP 4 (.mv
  (T 17)))])) (.tr (rl [4]) false .ret)) .skip)))))) (.tr (rl [0, 0, 5, 0]) false (.region false [(oP 18 (.bin .add (T 8) (tI 1))), (oP 8 (.mv (T 18)))])))))
def xf121 : XFunc :=
(.mk 19 [(.tmp 4)] (.seq (.tr (rl [0, 0]) false (.region false [(oP 4 (.mv (tI 0)))])) (.seq (.seq (.tr (rl [0, 0, 5, 0]) false (.region false [(oP 6 (.mv (T
  0))), (oP 7 (.len (T 6))), (oP 8 (.mv (tI 0)))])) (.tr (rl [4]) false (.block 0 (.loop (rl [0, 0, 5, 0]) xf121_l0)))) (.seq (.region false [(oP 4 (.mv (.lit
  (.c (.pv (.int .i64 (-1)))))))]) (.tr (rl [4]) false .ret)))))
theorem xf121_ok : cmpFunc Go.Proofs.Tryd.prog 121 ((.two (.tr (rl [0, 0]) false .no) (.two (.two (.tr (rl [0, 0, 5, 0]) false .no) (.tr (rl [4]) false (.loop (rl [0, 0, 5, 0]) (.two .no (.two (.tr (rl [0, 0, 5, 0]) false (.two .no (.tr [] false .no))) (.two (.tr (rl [0, 0, 2, 2, 0]) false (.two (.tr (rl [0, 0, 3, 1, 0]) false .no) (.two (.tr (rl [0, 0, 3, 1, 0, 7]) false .no) (.tr (rl [0, 0, 2, 2, 0]) false (.two (.two (.tr (rl [4]) false .no) (.tr (rl [4]) false .no)) .no))))) (.tr (rl [0, 0, 5, 0]) false .no))))))) (.two .no (.tr (rl [4]) false .no))))) = some xf121 := by kernel_rfl
def xf122 : XFunc :=
(.mk 9 [(.tmp 2)] (.seq (.tr (rl [0]) false (.region false [(oP 2 (.mv (.lit (.c (.pv (.bool false))))))])) (.seq (.tr (rl [2]) false (.region false [(oP 3 (.mv
  (T 0))), (oP 4 (.bin .lss (T 3) (.lit (.c (.pv (.int .i32 32)))))), (oP 5 (.mv (T 4))), (.mk (some 6) (.mv (T 0)) (some (5, false)) .p), (.mk (some 7) (.bin
  .gtr (T 6) (.lit (.c (.pv (.int .i32 126))))) (some (5, false)) .p), (oP 8 (.pick (T 5) (.lit (.c (.pv (.bool true)))) (T 7))), (oP 2 (.mv (T 8)))])) (.tr (rl
  [2]) false .ret))))
theorem xf122_ok : cmpFunc Go.Proofs.Tryd.prog 122 ((.two (.tr (rl [0]) false .no) (.two (.tr (rl [2]) false .no) (.tr (rl [2]) false .no)))) = some xf122 := by kernel_rfl
def xf123 : XFunc :=
(.mk 9 [(.tmp 4)] (.seq (.tr (rl [0, 0]) false (.region false [(oP 4 (.mv (.lit (.c (.pv (.bool false))))))])) (.seq (.tr (rl [4]) false (.region false [(oP 5
  (.mv (T 0))), (oP 6 (.mv (T 1))), (oW 7 (.call false [] (.lit (.c (.fn 137 []))) [(T 5), (T 6)])), (oP 8 (.bin .geq (T 7) (tI 0))), (oP 4 (.mv (T 8)))])) (.tr
  (rl [4]) false .ret))))
theorem xf123_ok : cmpFunc Go.Proofs.Tryd.prog 123 ((.two (.tr (rl [0, 0]) false .no) (.two (.tr (rl [4]) false .no) (.tr (rl [4]) false .no)))) = some xf123 := by kernel_rfl
def xf124_l0 : XCode :=
(.seq (.region false [(oP 14 (.bin .lss (T 13) (T 12)))]) (.seq (.tr (rl [0, 0, 10, 0]) false (.cond (T 14) .skip (.tr [] false (.exit 0)))) (.seq (.tr (rl [0,
  0, 2, 7, 0]) false (.block 1 (.seq (.tr (rl [0, 0, 3, 6, 0]) false (.region false [(oP 15 (.mv (T 13))), (oP 5 (.mv (T 15)))])) (.seq (.tr (rl [0, 0, 10, 0,
  10]) false (.region true [(oP 16 (.mv (T 0))), (oP 17 (.mv (T 5))), (oP 18 (.iaddrS 3 (T 16) (T 17))), (oR 19 (.load true 3 (T 18))), (oP 20 (.mv (T 1))), (oP
  21 (.mv (T 5))), (oP 22 (.iaddrS 3 (T 20) (T 21))), (oR 23 (.load true 3 (T 22))), (oP 24 (.eqA true [0, 0, 0] (T 19) (T 23)))])) (.tr (rl [0, 0, 2, 7, 0])
  false (.cond (T 24) (.seq (.region false [(oP 4 (.mv (.lit (.c (.pv (.bool false))))))]) (.tr (rl [4]) false .ret)) .skip)))))) (.tr (rl [0, 0, 10, 0]) false
  (.region false [(oP 25 (.bin .add (T 13) (tI 1))), (oP 13 (.mv (T 25)))])))))
def xf124 : XFunc :=
(.mk 26 [(.tmp 4)] (.seq (.tr (rl [0, 0]) false (.region false [(oP 4 (.mv (.lit (.c (.pv (.bool false))))))])) (.seq (.seq (.tr (rl [0, 0, 8]) false (.region
  false [(oP 6 (.mv (T 0))), (oP 7 (.len (T 6))), (oP 8 (.mv (T 1))), (oP 9 (.len (T 8))), (oP 10 (.bin .neq (T 7) (T 9)))])) (.tr (rl [0, 0, 2]) false (.cond
  (T 10) (.seq (.region false [(oP 4 (.mv (.lit (.c (.pv (.bool false))))))]) (.tr (rl [4]) false .ret)) .skip))) (.seq (.seq (.tr (rl [0, 0, 10, 0]) false
  (.region false [(oP 11 (.mv (T 0))), (oP 12 (.len (T 11))), (oP 13 (.mv (tI 0)))])) (.tr (rl [4]) false (.block 0 (.loop (rl [0, 0, 10, 0]) xf124_l0)))) (.seq
  (.region false [(oP 4 (.mv (.lit (.c (.pv (.bool true))))))]) (.tr (rl [4]) false .ret))))))
theorem xf124_ok : cmpFunc Go.Proofs.Tryd.prog 124 ((.two (.tr (rl [0, 0]) false .no) (.two (.two (.tr (rl [0, 0, 8]) false .no) (.tr (rl [0, 0, 2]) false (.two (.two .no (.tr (rl [4]) false .no)) .no))) (.two (.two (.tr (rl [0, 0, 10, 0]) false .no) (.tr (rl [4]) false (.loop (rl [0, 0, 10, 0]) (.two .no (.two (.tr (rl [0, 0, 10, 0]) false (.two .no (.tr [] false .no))) (.two (.tr (rl [0, 0, 2, 7, 0]) false (.two (.tr (rl [0, 0, 3, 6, 0]) false .no) (.two (.tr (rl [0, 0, 10, 0, 10]) false (.draw [0, 1, 2, 3, 4, 5, 6, 7, 8] [])) (.tr (rl [0, 0, 2, 7, 0]) false (.two (.two .no (.tr (rl [4]) false .no)) .no))))) (.tr (rl [0, 0, 10, 0]) false .no))))))) (.two .no (.tr (rl [4]) false .no)))))) = some xf124 := by kernel_rfl
def xf125_l0 : XCode :=
(.seq (.region false [(oP 9 (.bin .lss (T 8) (T 7)))]) (.seq (.tr (rl [0, 0, 5, 0]) false (.cond (T 9) .skip (.tr [] false (.exit 0)))) (.seq (.tr (rl [0, 0, 2,
  2, 0]) false (.block 1 (.seq (.tr (rl [0, 0, 3, 1, 0]) false (.region false [(oP 10 (.mv (T 8))), (oP 5 (.mv (T 10)))])) (.seq (.tr (rl [0, 0, 3, 1, 0, 7])
  false (.region false [(oP 11 (.mv (T 1))), (oP 12 (.mv (T 0))), (oP 13 (.mv (T 5))), (oP 14 (.iaddrS 1 (T 12) (T 13))), (oR 15 (.load false 1 (T 14))), (oW 16
  (.call false [] (T 11) [(T 15)]))])) (.tr (rl [0, 0, 2, 2, 0]) false (.cond (T 16) (.seq (.tr (rl [4]) false (.region false [(oP 17 (.mv (T 5))), (oP 4 (.mv
  (T 17)))])) (.tr (rl [4]) false .ret)) .skip)))))) (.tr (rl [0, 0, 5, 0]) false (.region false [(oP 18 (.bin .add (T 8) (tI 1))), (oP 8 (.mv (T 18)))])))))
def xf125 : XFunc :=
(.mk 19 [(.tmp 4)] (.seq (.tr (rl [0, 0]) false (.region false [(oP 4 (.mv (tI 0)))])) (.seq (.seq (.tr (rl [0, 0, 5, 0]) false (.region false [(oP 6 (.mv (T
  0))), (oP 7 (.len (T 6))), (oP 8 (.mv (tI 0)))])) (.tr (rl [4]) false (.block 0 (.loop (rl [0, 0, 5, 0]) xf125_l0)))) (.seq (.region false [(oP 4 (.mv (.lit
  (.c (.pv (.int .i64 (-1)))))))]) (.tr (rl [4]) false .ret)))))
theorem xf125_ok : cmpFunc Go.Proofs.Tryd.prog 125 ((.two (.tr (rl [0, 0]) false .no) (.two (.two (.tr (rl [0, 0, 5, 0]) false .no) (.tr (rl [4]) false (.loop (rl [0, 0, 5, 0]) (.two .no (.two (.tr (rl [0, 0, 5, 0]) false (.two .no (.tr [] false .no))) (.two (.tr (rl [0, 0, 2, 2, 0]) false (.two (.tr (rl [0, 0, 3, 1, 0]) false .no) (.two (.tr (rl [0, 0, 3, 1, 0, 7]) false .no) (.tr (rl [0, 0, 2, 2, 0]) false (.two (.two (.tr (rl [4]) false .no) (.tr (rl [4]) false .no)) .no))))) (.tr (rl [0, 0, 5, 0]) false .no))))))) (.two .no (.tr (rl [4]) false .no))))) = some xf125 := by kernel_rfl
def xf126 : XFunc :=
(.mk 15 [(.tmp 6)] (.seq (.tr (rl [0, 0, 0]) false (.region false [(oP 6 (.mv (.lit (.c (.pv (.bool false))))))])) (.seq (.tr (rl [6]) false (.region false [(oP
  7 (.mv (T 0))), (oP 8 (.mv (T 1))), (oP 9 (.bin .geq (T 7) (T 8))), (oP 10 (.mv (T 9))), (.mk (some 11) (.mv (T 0)) (some (10, true)) .p), (.mk (some 12) (.mv
  (T 2)) (some (10, true)) .p), (.mk (some 13) (.bin .leq (T 11) (T 12)) (some (10, true)) .p), (oP 14 (.pick (T 10) (T 13) (.lit (.c (.pv (.bool false)))))),
  (oP 6 (.mv (T 14)))])) (.tr (rl [6]) false .ret))))
theorem xf126_ok : cmpFunc Go.Proofs.Tryd.prog 126 ((.two (.tr (rl [0, 0, 0]) false .no) (.two (.tr (rl [6]) false .no) (.tr (rl [6]) false .no)))) = some xf126 := by kernel_rfl
def xf127 : XFunc :=
(.mk 5 [(.tmp 2)] (.seq (.tr (rl [0]) false (.region false [(oP 2 (.mv (.lit (.c (.pv (.str []))))))])) (.seq (.tr (rl [2]) false (.region false [(oP 3 (.mv (T
  0))), (oP 4 (.call false [] (.lit (.c (.fn 138 []))) [(T 3), (tI 10)])), (oP 2 (.mv (T 4)))])) (.tr (rl [2]) false .ret))))
theorem xf127_ok : cmpFunc Go.Proofs.Tryd.prog 127 ((.two (.tr (rl [0]) false .no) (.two (.tr (rl [2]) false (.ops [{}, { cls := some .p }])) (.tr (rl [2]) false .no)))) = some xf127 := by kernel_rfl
def xf128 : XFunc :=
(.mk 18 [(.tmp 4)] (.seq (.tr (rl [0, 0]) false (.region false [(oP 4 (.mv (.lit (.c (.pv (.bool false))))))])) (.seq (.tr (rl [4]) false (.region false [(oP 5
  (.mv (T 0))), (oP 6 (.lenS (T 5))), (oP 7 (.mv (T 1))), (oP 8 (.lenS (T 7))), (oP 9 (.bin .geq (T 6) (T 8))), (oP 10 (.mv (T 9))), (.mk (some 11) (.mv (T 0))
  (some (10, true)) .p), (.mk (some 12) (.mv (T 1)) (some (10, true)) .p), (.mk (some 13) (.lenS (T 12)) (some (10, true)) .p), (.mk (some 14) (.sliceS (T 11)
  none (some (T 13))) (some (10, true)) .p), (.mk (some 15) (.mv (T 1)) (some (10, true)) .p), (.mk (some 16) (.bin .eql (T 14) (T 15)) (some (10, true)) .p),
  (oP 17 (.pick (T 10) (T 16) (.lit (.c (.pv (.bool false)))))), (oP 4 (.mv (T 17)))])) (.tr (rl [4]) false .ret))))
theorem xf128_ok : cmpFunc Go.Proofs.Tryd.prog 128 ((.two (.tr (rl [0, 0]) false .no) (.two (.tr (rl [4]) false .no) (.tr (rl [4]) false .no)))) = some xf128 := by kernel_rfl
def xf137 : XFunc :=
(.mk 8 [(.tmp 4)] (.seq (.tr (rl [0, 0]) false (.region false [(oP 4 (.mv (tI 0)))])) (.seq (.tr (rl [4]) false (.region false [(oP 5 (.mv (T 0))), (oP 6 (.mv
  (T 1))), (oW 7 (.call false [] (.lit (.c (.fn 141 []))) [(T 5), (T 6), (.lit (.c (.pv (.bool true))))])), (oP 4 (.mv (T 7)))])) (.tr (rl [4]) false .ret))))
theorem xf137_ok : cmpFunc Go.Proofs.Tryd.prog 137 ((.two (.tr (rl [0, 0]) false .no) (.two (.tr (rl [4]) false .no) (.tr (rl [4]) false .no)))) = some xf137 := by kernel_rfl
def xf138 : XFunc :=
(.mk 54 [(.tmp 4)] (.seq (.tr (rl [0, 0]) false (.region false [(oP 4 (.mv (.lit (.c (.pv (.str []))))))])) (.seq (.seq (.tr (rl [0, 0, 9]) false (.region false
  [(oP 10 (.mv (T 1))), (oP 11 (.bin .eql (T 10) (tI 10)))])) (.tr (rl [0, 0, 2]) false (.cond (T 11) (.seq (.seq (.tr (rl [0, 16]) false (.region false [(oP 12
  (.mv (T 0))), (oP 13 (.bin .leq (tI 0) (T 12))), (oP 14 (.mv (T 13))), (.mk (some 15) (.mv (T 0)) (some (14, true)) .p), (.mk (some 16) (.bin .lss (T 15) (tI
  100)) (some (14, true)) .p), (oP 17 (.pick (T 14) (T 16) (.lit (.c (.pv (.bool false))))))])) (.tr (rl [0, 3]) false (.cond (T 17) (.seq (.tr (rl [4]) false
  (.region false [(oP 18 (.mv (T 0))), (oP 19 (.call false [] (.lit (.c (.fn 142 []))) [(T 18)])), (oP 4 (.mv (T 19)))])) (.tr (rl [4]) false .ret)) .skip)))
  (.seq (.region false [(oW 5 (.alloc [(.pv (.int .u8 0)), (.pv (.int .u8 0)), (.pv (.int .u8 0)), (.pv (.int .u8 0)), (.pv (.int .u8 0)), (.pv (.int .u8 0)),
  (.pv (.int .u8 0)), (.pv (.int .u8 0)), (.pv (.int .u8 0)), (.pv (.int .u8 0)), (.pv (.int .u8 0)), (.pv (.int .u8 0)), (.pv (.int .u8 0)), (.pv (.int .u8
  0)), (.pv (.int .u8 0)), (.pv (.int .u8 0)), (.pv (.int .u8 0)), (.pv (.int .u8 0)), (.pv (.int .u8 0)), (.pv (.int .u8 0)), (.pv (.int .u8 0)), (.pv (.int
  .u8 0)), (.pv (.int .u8 0)), (.pv (.int .u8 0))]))]) (.seq (.tr (rl [0, 4, 0]) false (.region false [(oP 20 (.mv (T 0))), (oP 21 (.convI .u64 (T 20))), (oP 6
  (.mv (T 21)))])) (.seq (.seq (.tr (rl [0, 4, 0, 16]) false (.region false [(oP 22 (.mv (T 0))), (oP 23 (.bin .lss (T 22) (tI 0)))])) (.tr (rl [0, 4, 0]) false
  (.cond (T 23) (.tr (rl [0, 4, 0]) false (.region false [(oP 24 (.mv (T 6))), (oP 25 (.un .neg (T 24))), (oP 6 (.mv (T 25)))])) .skip))) (.seq (.tr (rl [0, 4,
  0, 0]) false (.region false [(oP 26 (.mv (T 6))), (oP 27 (.call false [] (.lit (.c (.fn 143 []))) [(T 26)])), (oP 7 (.mv (T 27)))])) (.seq (.tr (rl [0, 4, 1])
  false (.region false [(oP 28 (.mv (T 7))), (oP 29 (.bin .add (tI 1) (T 28))), (oR 30 (.sliceA 24 1 (T 5) (some (tI 1)) (some (T 29)))), (oP 31 (.mv (T 6))),
  (oP 32 (.call false [] (.lit (.c (.fn 144 []))) [(T 30), (T 31)]))])) (.seq (.seq (.tr (rl [5, 1, 26]) false (.region false [(oP 33 (.mv (T 0))), (oP 34 (.bin
  .lss (T 33) (tI 0)))])) (.tr (rl [4, 0, 1]) false (.cond (T 34) (.seq (.tr (rl [5, 1]) false (.region false [(oP 35 (.iaddrA 24 1 (T 5) (tI 0))), (sW (.store
  1 (T 35) (.lit (.c (.pv (.int .u8 45))))))])) (.seq (.tr (rl [4]) false (.region false [(oP 36 (.mv (T 7))), (oP 37 (.bin .add (tI 1) (T 36))), (oR 38
  (.sliceA 24 1 (T 5) none (some (T 37)))), (oP 39 (.bytesS (T 38))), (oP 4 (.mv (T 39)))])) (.tr (rl [4]) false .ret))) .skip))) (.seq (.tr (rl [4]) false
  (.region false [(oP 40 (.mv (T 7))), (oP 41 (.bin .add (tI 1) (T 40))), (oR 42 (.sliceA 24 1 (T 5) (some (tI 1)) (some (T 41)))), (oP 43 (.bytesS (T 42))),
  (oP 4 (.mv (T 43)))])) (.tr (rl [4]) false .ret))))))))) .skip))) (.seq (.tr (rl [9]) false (.region false [(oP 45 (.mv (T 0))), (oP 46 (.convI .u64 (T 45))),
  (oP 47 (.mv (T 1))), (oP 48 (.mv (T 0))), (oP 49 (.bin .lss (T 48) (tI 0))), (oP 50 (.call false [] (.lit (.c (.fn 145 []))) [(.lit (.c (.pv (.sl .nil 0
  [])))), (T 46), (T 47), (T 49), (.lit (.c (.pv (.bool false))))])), (oP 44 (.mv (T 50))), (oP 51 (.extr 0 (T 44))), (oP 52 (.extr 1 (T 44))), (oP 8 (.mv (T
  51))), (oP 9 (.mv (T 52)))])) (.seq (.tr (rl [4]) false (.region false [(oP 53 (.mv (T 9))), (oP 4 (.mv (T 53)))])) (.tr (rl [4]) false .ret))))))
theorem xf138_ok : cmpFunc Go.Proofs.Tryd.prog 138 ((.two (.tr (rl [0, 0]) false .no) (.two (.two (.tr (rl [0, 0, 9]) false .no) (.tr (rl [0, 0, 2]) false (.two (.two (.two (.tr (rl [0, 16]) false .no) (.tr (rl [0, 3]) false (.two (.two (.tr (rl [4]) false (.ops [{}, { cls := some .p }])) (.tr (rl [4]) false .no)) .no))) (.two .no (.two (.tr (rl [0, 4, 0]) false .no) (.two (.two (.tr (rl [0, 4, 0, 16]) false .no) (.tr (rl [0, 4, 0]) false (.two (.tr (rl [0, 4, 0]) false .no) .no))) (.two (.tr (rl [0, 4, 0, 0]) false (.ops [{}, { cls := some .p }])) (.two (.tr (rl [0, 4, 1]) false (.ops [{}, {}, {}, {}, { cls := some .p }])) (.two (.two (.tr (rl [5, 1, 26]) false .no) (.tr (rl [4, 0, 1]) false (.two (.two (.tr (rl [5, 1]) false .no) (.two (.tr (rl [4]) false .no) (.tr (rl [4]) false .no))) .no))) (.two (.tr (rl [4]) false .no) (.tr (rl [4]) false .no))))))))) .no))) (.two (.tr (rl [9]) false (.ops [{}, {}, {}, {}, {}, { cls := some .p }])) (.two (.tr (rl [4]) false .no) (.tr (rl [4]) false .no)))))) = some xf138 := by kernel_rfl
def xf141_l0 : XCode :=
(.seq (.region false [(oW 11 (.nxt (T 10))), (oP 12 (.extr 0 (T 11)))]) (.seq (.tr (rl [1, 0, 7, 0]) false (.cond (T 12) .skip (.tr [] false (.exit 0)))) (.tr
  (rl [1, 0, 3, 3]) false (.block 1 (.seq (.tr (rl [1, 0, 4, 0, 1]) false (.region false [(oP 13 (.extr 1 (T 11))), (oP 14 (.extr 2 (T 11))), (oP 7 (.mv (T
  13))), (oP 8 (.mv (T 14)))])) (.seq (.tr (rl [1, 0, 4, 2, 8]) false (.region false [(oP 15 (.mv (T 1))), (oP 16 (.mv (T 8))), (oW 17 (.call false [] (T 15)
  [(T 16)])), (oP 18 (.mv (T 2))), (oP 19 (.eqB false (T 17) (T 18)))])) (.tr (rl [1, 0, 3, 3]) false (.cond (T 19) (.seq (.tr (rl [6]) false (.region false
  [(oP 20 (.mv (T 7))), (oP 6 (.mv (T 20)))])) (.tr (rl [6]) false .ret)) .skip))))))))
def xf141 : XFunc :=
(.mk 21 [(.tmp 6)] (.seq (.tr (rl [0, 0, 0]) false (.region false [(oP 6 (.mv (tI 0)))])) (.seq (.seq (.tr (rl [1, 0, 7]) false (.region false [(oP 9 (.mv (T
  0))), (oW 10 (.rng (T 9)))])) (.tr (rl [6]) false (.block 0 (.loop (rl [1, 0, 7]) xf141_l0)))) (.seq (.region false [(oP 6 (.mv (.lit (.c (.pv (.int .i64
  (-1)))))))]) (.tr (rl [6]) false .ret)))))
theorem xf141_ok : cmpFunc Go.Proofs.Tryd.prog 141 ((.two (.tr (rl [0, 0, 0]) false .no) (.two (.two (.tr (rl [1, 0, 7]) false .no) (.tr (rl [6]) false (.loop (rl [1, 0, 7]) (.two .no (.two (.tr (rl [1, 0, 7, 0]) false (.two .no (.tr [] false .no))) (.tr (rl [1, 0, 3, 3]) false (.two (.tr (rl [1, 0, 4, 0, 1]) false .no) (.two (.tr (rl [1, 0, 4, 2, 8]) false .no) (.tr (rl [1, 0, 3, 3]) false (.two (.two (.tr (rl [6]) false .no) (.tr (rl [6]) false .no)) .no)))))))))) (.two .no (.tr (rl [6]) false .no))))) = some xf141 := by kernel_rfl
def xf142 : XFunc :=
(.mk 15 [(.tmp 2)] (.seq (.tr (rl [0]) false (.region false [(oP 2 (.mv (.lit (.c (.pv (.str []))))))])) (.seq (.seq (.tr (rl [0, 3]) false (.region false [(oP
  3 (.mv (T 0))), (oP 4 (.bin .lss (T 3) (tI 10)))])) (.tr (rl [0, 1]) false (.cond (T 4) (.seq (.tr (rl [2]) false (.region false [(oP 5 (.mv (T 0))), (oP 6
  (.mv (T 0))), (oP 7 (.bin .add (T 6) (tI 1))), (oP 8 (.sliceS (.lit (.c (.pv (.str [48, 49, 50, 51, 52, 53, 54, 55, 56, 57, 97, 98, 99, 100, 101, 102, 103,
  104, 105, 106, 107, 108, 109, 110, 111, 112, 113, 114, 115, 116, 117, 118, 119, 120, 121, 122])))) (some (T 5)) (some (T 7)))), (oP 2 (.mv (T 8)))])) (.tr (rl
  [2]) false .ret)) .skip))) (.seq (.tr (rl [2]) false (.region false [(oP 9 (.mv (T 0))), (oP 10 (.bin .mul (T 9) (tI 2))), (oP 11 (.mv (T 0))), (oP 12 (.bin
  .mul (T 11) (tI 2))), (oP 13 (.bin .add (T 12) (tI 2))), (oP 14 (.sliceS (.lit (.c (.pv (.str [48, 48, 48, 49, 48, 50, 48, 51, 48, 52, 48, 53, 48, 54, 48, 55,
  48, 56, 48, 57, 49, 48, 49, 49, 49, 50, 49, 51, 49, 52, 49, 53, 49, 54, 49, 55, 49, 56, 49, 57, 50, 48, 50, 49, 50, 50, 50, 51, 50, 52, 50, 53, 50, 54, 50,
  55, 50, 56, 50, 57, 51, 48, 51, 49, 51, 50, 51, 51, 51, 52, 51, 53, 51, 54, 51, 55, 51, 56, 51, 57, 52, 48, 52, 49, 52, 50, 52, 51, 52, 52, 52, 53, 52, 54,
  52, 55, 52, 56, 52, 57, 53, 48, 53, 49, 53, 50, 53, 51, 53, 52, 53, 53, 53, 54, 53, 55, 53, 56, 53, 57, 54, 48, 54, 49, 54, 50, 54, 51, 54, 52, 54, 53, 54,
  54, 54, 55, 54, 56, 54, 57, 55, 48, 55, 49, 55, 50, 55, 51, 55, 52, 55, 53, 55, 54, 55, 55, 55, 56, 55, 57, 56, 48, 56, 49, 56, 50, 56, 51, 56, 52, 56, 53,
  56, 54, 56, 55, 56, 56, 56, 57, 57, 48, 57, 49, 57, 50, 57, 51, 57, 52, 57, 53, 57, 54, 57, 55, 57, 56, 57, 57])))) (some (T 10)) (some (T 13)))), (oP 2 (.mv
  (T 14)))])) (.tr (rl [2]) false .ret)))))
theorem xf142_ok : cmpFunc Go.Proofs.Tryd.prog 142 ((.two (.tr (rl [0]) false .no) (.two (.two (.tr (rl [0, 3]) false .no) (.tr (rl [0, 1]) false (.two (.two (.tr (rl [2]) false .no) (.tr (rl [2]) false .no)) .no))) (.two (.tr (rl [2]) false .no) (.tr (rl [2]) false .no))))) = some xf142 := by kernel_rfl
def xf143 : XFunc :=
(.mk 15 [(.tmp 2)] (.seq (.tr (rl [0]) false (.region false [(oP 2 (.mv (tI 0)))])) (.seq (.tr (rl [0, 2]) false (.region false [(oP 4 (.mv (T 0))), (oP 5
  (.call false [] (.lit (.c (.fn 148 []))) [(T 4)])), (oP 6 (.call false [] (.lit (.c (.fn 147 []))) [(T 5)])), (oP 3 (.mv (T 6)))])) (.seq (.tr (rl [2]) false
  (.region false [(oP 7 (.mv (T 3))), (oP 8 (.mv (T 0))), (oP 9 (.mv (T 3))), (.mk (some 10) .stuck none .w), (oR 11 (.load false 1 (T 10))), (oP 12 (.bin .geq
  (T 8) (T 11))), (oP 13 (.call false [] (.lit (.c (.fn 149 []))) [(T 12)])), (oP 14 (.bin .add (T 7) (T 13))), (oP 2 (.mv (T 14)))])) (.tr (rl [2]) false
  .ret)))))
theorem xf143_ok : cmpFunc Go.Proofs.Tryd.prog 143 ((.two (.tr (rl [0]) false .no) (.two (.tr (rl [0, 2]) false (.ops [{}, { cls := some .p }, { cls := some .p }])) (.two (.tr (rl [2]) false (.ops [{}, {}, {}, {}, {}, {}, { cls := some .p }])) (.tr (rl [2]) false .no))))) = some xf143 := by kernel_rfl
def xf144_l0 : XCode :=
(.seq (.seq (.tr (rl [0, 0, 2, 15]) false (.region false [(oP 19 (.mv (T 4))), (oP 20 (.bin .geq (T 19) (tI 8)))])) (.tr (rl [0, 0, 2]) false (.cond (T 20)
  .skip (.tr (rl [0, 0, 2]) false (.exit 0))))) (.tr (rl [0, 0, 2]) false (.block 1 (.seq (.tr (rl [0, 0, 2, 0]) false (.region false [(oP 21 (.mv (T 1))), (oP
  22 (.bin .rem (T 21) (.lit (.c (.pv (.int .u64 100000000)))))), (oP 23 (.convI .u32 (T 22))), (oP 5 (.mv (T 23)))])) (.seq (.tr (rl [0, 0, 2, 0]) false
  (.region false [(oP 24 (.mv (T 1))), (oP 25 (.bin .quo (T 24) (.lit (.c (.pv (.int .u64 100000000)))))), (oP 1 (.mv (T 25)))])) (.seq (.tr (rl [0, 0, 2, 1,
  0]) false (.region false [(oP 26 (.mv (T 5))), (oP 27 (.bin .quo (T 26) (.lit (.c (.pv (.int .u32 10000)))))), (oP 28 (.mv (T 5))), (oP 29 (.bin .rem (T 28)
  (.lit (.c (.pv (.int .u32 10000)))))), (oP 6 (.mv (T 27))), (oP 7 (.mv (T 29)))])) (.seq (.tr (rl [0, 0, 2, 1, 1, 0]) false (.region false [(oP 30 (.mv (T
  7))), (oP 31 (.bin .quo (T 30) (.lit (.c (.pv (.int .u32 100)))))), (oP 32 (.bin .mul (T 31) (.lit (.c (.pv (.int .u32 2)))))), (oP 33 (.mv (T 7))), (oP 34
  (.bin .rem (T 33) (.lit (.c (.pv (.int .u32 100)))))), (oP 35 (.bin .mul (T 34) (.lit (.c (.pv (.int .u32 2)))))), (oP 8 (.mv (T 32))), (oP 9 (.mv (T 35)))]))
  (.seq (.tr (rl [0, 0, 2, 3, 0, 0, 0]) false (.region false [(oP 36 (.mv (T 6))), (oP 37 (.bin .quo (T 36) (.lit (.c (.pv (.int .u32 100)))))), (oP 38 (.bin
  .mul (T 37) (.lit (.c (.pv (.int .u32 2)))))), (oP 39 (.mv (T 6))), (oP 40 (.bin .rem (T 39) (.lit (.c (.pv (.int .u32 100)))))), (oP 41 (.bin .mul (T 40)
  (.lit (.c (.pv (.int .u32 2)))))), (oP 10 (.mv (T 38))), (oP 11 (.mv (T 41)))])) (.seq (.tr (rl [0, 0, 2, 3, 1, 0]) false (.region true [(oP 42 (.mv (T 0))),
  (oP 43 (.mv (T 4))), (oP 44 (.bin .sub (T 43) (tI 1))), (oP 45 (.mv (T 0))), (oP 46 (.mv (T 4))), (oP 47 (.bin .sub (T 46) (tI 2))), (oP 48 (.mv (T 9))), (oP
  49 (.bin .add (T 48) (.lit (.c (.pv (.int .u32 1)))))), (oP 50 (.idxS (.lit (.c (.pv (.str [48, 48, 48, 49, 48, 50, 48, 51, 48, 52, 48, 53, 48, 54, 48, 55,
  48, 56, 48, 57, 49, 48, 49, 49, 49, 50, 49, 51, 49, 52, 49, 53, 49, 54, 49, 55, 49, 56, 49, 57, 50, 48, 50, 49, 50, 50, 50, 51, 50, 52, 50, 53, 50, 54, 50,
  55, 50, 56, 50, 57, 51, 48, 51, 49, 51, 50, 51, 51, 51, 52, 51, 53, 51, 54, 51, 55, 51, 56, 51, 57, 52, 48, 52, 49, 52, 50, 52, 51, 52, 52, 52, 53, 52, 54,
  52, 55, 52, 56, 52, 57, 53, 48, 53, 49, 53, 50, 53, 51, 53, 52, 53, 53, 53, 54, 53, 55, 53, 56, 53, 57, 54, 48, 54, 49, 54, 50, 54, 51, 54, 52, 54, 53, 54,
  54, 54, 55, 54, 56, 54, 57, 55, 48, 55, 49, 55, 50, 55, 51, 55, 52, 55, 53, 55, 54, 55, 55, 55, 56, 55, 57, 56, 48, 56, 49, 56, 50, 56, 51, 56, 52, 56, 53,
  56, 54, 56, 55, 56, 56, 56, 57, 57, 48, 57, 49, 57, 50, 57, 51, 57, 52, 57, 53, 57, 54, 57, 55, 57, 56, 57, 57])))) (T 49))), (oP 51 (.mv (T 9))), (oP 52
  (.idxS (.lit (.c (.pv (.str [48, 48, 48, 49, 48, 50, 48, 51, 48, 52, 48, 53, 48, 54, 48, 55, 48, 56, 48, 57, 49, 48, 49, 49, 49, 50, 49, 51, 49, 52, 49, 53,
  49, 54, 49, 55, 49, 56, 49, 57, 50, 48, 50, 49, 50, 50, 50, 51, 50, 52, 50, 53, 50, 54, 50, 55, 50, 56, 50, 57, 51, 48, 51, 49, 51, 50, 51, 51, 51, 52, 51,
  53, 51, 54, 51, 55, 51, 56, 51, 57, 52, 48, 52, 49, 52, 50, 52, 51, 52, 52, 52, 53, 52, 54, 52, 55, 52, 56, 52, 57, 53, 48, 53, 49, 53, 50, 53, 51, 53, 52,
  53, 53, 53, 54, 53, 55, 53, 56, 53, 57, 54, 48, 54, 49, 54, 50, 54, 51, 54, 52, 54, 53, 54, 54, 54, 55, 54, 56, 54, 57, 55, 48, 55, 49, 55, 50, 55, 51, 55,
  52, 55, 53, 55, 54, 55, 55, 55, 56, 55, 57, 56, 48, 56, 49, 56, 50, 56, 51, 56, 52, 56, 53, 56, 54, 56, 55, 56, 56, 56, 57, 57, 48, 57, 49, 57, 50, 57, 51,
  57, 52, 57, 53, 57, 54, 57, 55, 57, 56, 57, 57])))) (T 51))), (oP 53 (.iaddrS 1 (T 42) (T 44))), (sW (.store 1 (T 53) (T 50))), (oP 54 (.iaddrS 1 (T 45) (T
  47))), (sW (.store 1 (T 54) (T 52)))])) (.seq (.tr (rl [0, 0, 2, 5, 0]) false (.region true [(oP 55 (.mv (T 0))), (oP 56 (.mv (T 4))), (oP 57 (.bin .sub (T
  56) (tI 3))), (oP 58 (.mv (T 0))), (oP 59 (.mv (T 4))), (oP 60 (.bin .sub (T 59) (tI 4))), (oP 61 (.mv (T 8))), (oP 62 (.bin .add (T 61) (.lit (.c (.pv (.int
  .u32 1)))))), (oP 63 (.idxS (.lit (.c (.pv (.str [48, 48, 48, 49, 48, 50, 48, 51, 48, 52, 48, 53, 48, 54, 48, 55, 48, 56, 48, 57, 49, 48, 49, 49, 49, 50, 49,
  51, 49, 52, 49, 53, 49, 54, 49, 55, 49, 56, 49, 57, 50, 48, 50, 49, 50, 50, 50, 51, 50, 52, 50, 53, 50, 54, 50, 55, 50, 56, 50, 57, 51, 48, 51, 49, 51, 50,
  51, 51, 51, 52, 51, 53, 51, 54, 51, 55, 51, 56, 51, 57, 52, 48, 52, 49, 52, 50, 52, 51, 52, 52, 52, 53, 52, 54, 52, 55, 52, 56, 52, 57, 53, 48, 53, 49, 53,
  50, 53, 51, 53, 52, 53, 53, 53, 54, 53, 55, 53, 56, 53, 57, 54, 48, 54, 49, 54, 50, 54, 51, 54, 52, 54, 53, 54, 54, 54, 55, 54, 56, 54, 57, 55, 48, 55, 49,
  55, 50, 55, 51, 55, 52, 55, 53, 55, 54, 55, 55, 55, 56, 55, 57, 56, 48, 56, 49, 56, 50, 56, 51, 56, 52, 56, 53, 56, 54, 56, 55, 56, 56, 56, 57, 57, 48, 57,
  49, 57, 50, 57, 51, 57, 52, 57, 53, 57, 54, 57, 55, 57, 56, 57, 57])))) (T 62))), (oP 64 (.mv (T 8))), (oP 65 (.idxS (.lit (.c (.pv (.str [48, 48, 48, 49, 48,
  50, 48, 51, 48, 52, 48, 53, 48, 54, 48, 55, 48, 56, 48, 57, 49, 48, 49, 49, 49, 50, 49, 51, 49, 52, 49, 53, 49, 54, 49, 55, 49, 56, 49, 57, 50, 48, 50, 49,
  50, 50, 50, 51, 50, 52, 50, 53, 50, 54, 50, 55, 50, 56, 50, 57, 51, 48, 51, 49, 51, 50, 51, 51, 51, 52, 51, 53, 51, 54, 51, 55, 51, 56, 51, 57, 52, 48, 52,
  49, 52, 50, 52, 51, 52, 52, 52, 53, 52, 54, 52, 55, 52, 56, 52, 57, 53, 48, 53, 49, 53, 50, 53, 51, 53, 52, 53, 53, 53, 54, 53, 55, 53, 56, 53, 57, 54, 48,
  54, 49, 54, 50, 54, 51, 54, 52, 54, 53, 54, 54, 54, 55, 54, 56, 54, 57, 55, 48, 55, 49, 55, 50, 55, 51, 55, 52, 55, 53, 55, 54, 55, 55, 55, 56, 55, 57, 56,
  48, 56, 49, 56, 50, 56, 51, 56, 52, 56, 53, 56, 54, 56, 55, 56, 56, 56, 57, 57, 48, 57, 49, 57, 50, 57, 51, 57, 52, 57, 53, 57, 54, 57, 55, 57, 56, 57,
  57])))) (T 64))), (oP 66 (.iaddrS 1 (T 55) (T 57))), (sW (.store 1 (T 66) (T 63))), (oP 67 (.iaddrS 1 (T 58) (T 60))), (sW (.store 1 (T 67) (T 65)))])) (.seq
  (.tr (rl [0, 0, 2, 5]) false (.region true [(oP 68 (.mv (T 0))), (oP 69 (.mv (T 4))), (oP 70 (.bin .sub (T 69) (tI 5))), (oP 71 (.mv (T 0))), (oP 72 (.mv (T
  4))), (oP 73 (.bin .sub (T 72) (tI 6))), (oP 74 (.mv (T 11))), (oP 75 (.bin .add (T 74) (.lit (.c (.pv (.int .u32 1)))))), (oP 76 (.idxS (.lit (.c (.pv (.str
  [48, 48, 48, 49, 48, 50, 48, 51, 48, 52, 48, 53, 48, 54, 48, 55, 48, 56, 48, 57, 49, 48, 49, 49, 49, 50, 49, 51, 49, 52, 49, 53, 49, 54, 49, 55, 49, 56, 49,
  57, 50, 48, 50, 49, 50, 50, 50, 51, 50, 52, 50, 53, 50, 54, 50, 55, 50, 56, 50, 57, 51, 48, 51, 49, 51, 50, 51, 51, 51, 52, 51, 53, 51, 54, 51, 55, 51, 56,
  51, 57, 52, 48, 52, 49, 52, 50, 52, 51, 52, 52, 52, 53, 52, 54, 52, 55, 52, 56, 52, 57, 53, 48, 53, 49, 53, 50, 53, 51, 53, 52, 53, 53, 53, 54, 53, 55, 53,
  56, 53, 57, 54, 48, 54, 49, 54, 50, 54, 51, 54, 52, 54, 53, 54, 54, 54, 55, 54, 56, 54, 57, 55, 48, 55, 49, 55, 50, 55, 51, 55, 52, 55, 53, 55, 54, 55, 55,
  55, 56, 55, 57, 56, 48, 56, 49, 56, 50, 56, 51, 56, 52, 56, 53, 56, 54, 56, 55, 56, 56, 56, 57, 57, 48, 57, 49, 57, 50, 57, 51, 57, 52, 57, 53, 57, 54, 57,
  55, 57, 56, 57, 57])))) (T 75))), (oP 77 (.mv (T 11))), (oP 78 (.idxS (.lit (.c (.pv (.str [48, 48, 48, 49, 48, 50, 48, 51, 48, 52, 48, 53, 48, 54, 48, 55,
  48, 56, 48, 57, 49, 48, 49, 49, 49, 50, 49, 51, 49, 52, 49, 53, 49, 54, 49, 55, 49, 56, 49, 57, 50, 48, 50, 49, 50, 50, 50, 51, 50, 52, 50, 53, 50, 54, 50,
  55, 50, 56, 50, 57, 51, 48, 51, 49, 51, 50, 51, 51, 51, 52, 51, 53, 51, 54, 51, 55, 51, 56, 51, 57, 52, 48, 52, 49, 52, 50, 52, 51, 52, 52, 52, 53, 52, 54,
  52, 55, 52, 56, 52, 57, 53, 48, 53, 49, 53, 50, 53, 51, 53, 52, 53, 53, 53, 54, 53, 55, 53, 56, 53, 57, 54, 48, 54, 49, 54, 50, 54, 51, 54, 52, 54, 53, 54,
  54, 54, 55, 54, 56, 54, 57, 55, 48, 55, 49, 55, 50, 55, 51, 55, 52, 55, 53, 55, 54, 55, 55, 55, 56, 55, 57, 56, 48, 56, 49, 56, 50, 56, 51, 56, 52, 56, 53,
  56, 54, 56, 55, 56, 56, 56, 57, 57, 48, 57, 49, 57, 50, 57, 51, 57, 52, 57, 53, 57, 54, 57, 55, 57, 56, 57, 57])))) (T 77))), (oP 79 (.iaddrS 1 (T 68) (T
  70))), (sW (.store 1 (T 79) (T 76))), (oP 80 (.iaddrS 1 (T 71) (T 73))), (sW (.store 1 (T 80) (T 78)))])) (.seq (.tr (rl [0, 0, 2]) false (.region true [(oP
  81 (.mv (T 0))), (oP 82 (.mv (T 4))), (oP 83 (.bin .sub (T 82) (tI 7))), (oP 84 (.mv (T 0))), (oP 85 (.mv (T 4))), (oP 86 (.bin .sub (T 85) (tI 8))), (oP 87
  (.mv (T 10))), (oP 88 (.bin .add (T 87) (.lit (.c (.pv (.int .u32 1)))))), (oP 89 (.idxS (.lit (.c (.pv (.str [48, 48, 48, 49, 48, 50, 48, 51, 48, 52, 48, 53,
  48, 54, 48, 55, 48, 56, 48, 57, 49, 48, 49, 49, 49, 50, 49, 51, 49, 52, 49, 53, 49, 54, 49, 55, 49, 56, 49, 57, 50, 48, 50, 49, 50, 50, 50, 51, 50, 52, 50,
  53, 50, 54, 50, 55, 50, 56, 50, 57, 51, 48, 51, 49, 51, 50, 51, 51, 51, 52, 51, 53, 51, 54, 51, 55, 51, 56, 51, 57, 52, 48, 52, 49, 52, 50, 52, 51, 52, 52,
  52, 53, 52, 54, 52, 55, 52, 56, 52, 57, 53, 48, 53, 49, 53, 50, 53, 51, 53, 52, 53, 53, 53, 54, 53, 55, 53, 56, 53, 57, 54, 48, 54, 49, 54, 50, 54, 51, 54,
  52, 54, 53, 54, 54, 54, 55, 54, 56, 54, 57, 55, 48, 55, 49, 55, 50, 55, 51, 55, 52, 55, 53, 55, 54, 55, 55, 55, 56, 55, 57, 56, 48, 56, 49, 56, 50, 56, 51,
  56, 52, 56, 53, 56, 54, 56, 55, 56, 56, 56, 57, 57, 48, 57, 49, 57, 50, 57, 51, 57, 52, 57, 53, 57, 54, 57, 55, 57, 56, 57, 57])))) (T 88))), (oP 90 (.mv (T
  10))), (oP 91 (.idxS (.lit (.c (.pv (.str [48, 48, 48, 49, 48, 50, 48, 51, 48, 52, 48, 53, 48, 54, 48, 55, 48, 56, 48, 57, 49, 48, 49, 49, 49, 50, 49, 51, 49,
  52, 49, 53, 49, 54, 49, 55, 49, 56, 49, 57, 50, 48, 50, 49, 50, 50, 50, 51, 50, 52, 50, 53, 50, 54, 50, 55, 50, 56, 50, 57, 51, 48, 51, 49, 51, 50, 51, 51,
  51, 52, 51, 53, 51, 54, 51, 55, 51, 56, 51, 57, 52, 48, 52, 49, 52, 50, 52, 51, 52, 52, 52, 53, 52, 54, 52, 55, 52, 56, 52, 57, 53, 48, 53, 49, 53, 50, 53,
  51, 53, 52, 53, 53, 53, 54, 53, 55, 53, 56, 53, 57, 54, 48, 54, 49, 54, 50, 54, 51, 54, 52, 54, 53, 54, 54, 54, 55, 54, 56, 54, 57, 55, 48, 55, 49, 55, 50,
  55, 51, 55, 52, 55, 53, 55, 54, 55, 55, 55, 56, 55, 57, 56, 48, 56, 49, 56, 50, 56, 51, 56, 52, 56, 53, 56, 54, 56, 55, 56, 56, 56, 57, 57, 48, 57, 49, 57,
  50, 57, 51, 57, 52, 57, 53, 57, 54, 57, 55, 57, 56, 57, 57])))) (T 90))), (oP 92 (.iaddrS 1 (T 81) (T 83))), (sW (.store 1 (T 92) (T 89))), (oP 93 (.iaddrS 1
  (T 84) (T 86))), (sW (.store 1 (T 93) (T 91)))])) (.tr (rl [0, 0, 2]) false (.region false [(oP 94 (.mv (T 4))), (oP 95 (.bin .sub (T 94) (tI 8))), (oP 4 (.mv
  (T 95)))]))))))))))))))
def xf144 : XFunc :=
(.mk 167 [] (.seq (.tr (rl [0, 0, 2]) false (.region false [(oP 17 (.mv (T 0))), (oP 18 (.len (T 17))), (oP 4 (.mv (T 18)))])) (.seq (.tr (rl [0, 0, 2]) false
  (.block 0 (.loop (rl [0, 0, 2]) xf144_l0))) (.seq (.tr (rl [0, 3, 7]) false (.region false [(oP 96 (.mv (T 1))), (oP 97 (.convI .u32 (T 96))), (oP 12 (.mv (T
  97)))])) (.seq (.seq (.tr (rl [0, 3, 7, 86]) false (.region false [(oP 98 (.mv (T 4))), (oP 99 (.bin .geq (T 98) (tI 4)))])) (.tr (rl [0, 3, 7]) false (.cond
  (T 99) (.seq (.tr (rl [0, 3, 7, 0]) false (.region false [(oP 100 (.mv (T 12))), (oP 101 (.bin .rem (T 100) (.lit (.c (.pv (.int .u32 10000)))))), (oP 13 (.mv
  (T 101)))])) (.seq (.tr (rl [0, 3, 7, 0]) false (.region false [(oP 102 (.mv (T 12))), (oP 103 (.bin .quo (T 102) (.lit (.c (.pv (.int .u32 10000)))))), (oP
  12 (.mv (T 103)))])) (.seq (.tr (rl [0, 3, 7, 1, 0]) false (.region false [(oP 104 (.mv (T 13))), (oP 105 (.bin .quo (T 104) (.lit (.c (.pv (.int .u32
  100)))))), (oP 106 (.bin .mul (T 105) (.lit (.c (.pv (.int .u32 2)))))), (oP 107 (.mv (T 13))), (oP 108 (.bin .rem (T 107) (.lit (.c (.pv (.int .u32
  100)))))), (oP 109 (.bin .mul (T 108) (.lit (.c (.pv (.int .u32 2)))))), (oP 14 (.mv (T 106))), (oP 15 (.mv (T 109)))])) (.seq (.tr (rl [0, 3, 7, 1]) false
  (.region true [(oP 110 (.mv (T 0))), (oP 111 (.mv (T 4))), (oP 112 (.bin .sub (T 111) (tI 1))), (oP 113 (.mv (T 0))), (oP 114 (.mv (T 4))), (oP 115 (.bin .sub
  (T 114) (tI 2))), (oP 116 (.mv (T 15))), (oP 117 (.bin .add (T 116) (.lit (.c (.pv (.int .u32 1)))))), (oP 118 (.idxS (.lit (.c (.pv (.str [48, 48, 48, 49,
  48, 50, 48, 51, 48, 52, 48, 53, 48, 54, 48, 55, 48, 56, 48, 57, 49, 48, 49, 49, 49, 50, 49, 51, 49, 52, 49, 53, 49, 54, 49, 55, 49, 56, 49, 57, 50, 48, 50,
  49, 50, 50, 50, 51, 50, 52, 50, 53, 50, 54, 50, 55, 50, 56, 50, 57, 51, 48, 51, 49, 51, 50, 51, 51, 51, 52, 51, 53, 51, 54, 51, 55, 51, 56, 51, 57, 52, 48,
  52, 49, 52, 50, 52, 51, 52, 52, 52, 53, 52, 54, 52, 55, 52, 56, 52, 57, 53, 48, 53, 49, 53, 50, 53, 51, 53, 52, 53, 53, 53, 54, 53, 55, 53, 56, 53, 57, 54,
  48, 54, 49, 54, 50, 54, 51, 54, 52, 54, 53, 54, 54, 54, 55, 54, 56, 54, 57, 55, 48, 55, 49, 55, 50, 55, 51, 55, 52, 55, 53, 55, 54, 55, 55, 55, 56, 55, 57,
  56, 48, 56, 49, 56, 50, 56, 51, 56, 52, 56, 53, 56, 54, 56, 55, 56, 56, 56, 57, 57, 48, 57, 49, 57, 50, 57, 51, 57, 52, 57, 53, 57, 54, 57, 55, 57, 56, 57,
  57])))) (T 117))), (oP 119 (.mv (T 15))), (oP 120 (.idxS (.lit (.c (.pv (.str [48, 48, 48, 49, 48, 50, 48, 51, 48, 52, 48, 53, 48, 54, 48, 55, 48, 56, 48, 57,
  49, 48, 49, 49, 49, 50, 49, 51, 49, 52, 49, 53, 49, 54, 49, 55, 49, 56, 49, 57, 50, 48, 50, 49, 50, 50, 50, 51, 50, 52, 50, 53, 50, 54, 50, 55, 50, 56, 50,
  57, 51, 48, 51, 49, 51, 50, 51, 51, 51, 52, 51, 53, 51, 54, 51, 55, 51, 56, 51, 57, 52, 48, 52, 49, 52, 50, 52, 51, 52, 52, 52, 53, 52, 54, 52, 55, 52, 56,
  52, 57, 53, 48, 53, 49, 53, 50, 53, 51, 53, 52, 53, 53, 53, 54, 53, 55, 53, 56, 53, 57, 54, 48, 54, 49, 54, 50, 54, 51, 54, 52, 54, 53, 54, 54, 54, 55, 54,
  56, 54, 57, 55, 48, 55, 49, 55, 50, 55, 51, 55, 52, 55, 53, 55, 54, 55, 55, 55, 56, 55, 57, 56, 48, 56, 49, 56, 50, 56, 51, 56, 52, 56, 53, 56, 54, 56, 55,
  56, 56, 56, 57, 57, 48, 57, 49, 57, 50, 57, 51, 57, 52, 57, 53, 57, 54, 57, 55, 57, 56, 57, 57])))) (T 119))), (oP 121 (.iaddrS 1 (T 110) (T 112))), (sW
  (.store 1 (T 121) (T 118))), (oP 122 (.iaddrS 1 (T 113) (T 115))), (sW (.store 1 (T 122) (T 120)))])) (.seq (.tr (rl [0, 3, 7]) false (.region true [(oP 123
  (.mv (T 0))), (oP 124 (.mv (T 4))), (oP 125 (.bin .sub (T 124) (tI 3))), (oP 126 (.mv (T 0))), (oP 127 (.mv (T 4))), (oP 128 (.bin .sub (T 127) (tI 4))), (oP
  129 (.mv (T 14))), (oP 130 (.bin .add (T 129) (.lit (.c (.pv (.int .u32 1)))))), (oP 131 (.idxS (.lit (.c (.pv (.str [48, 48, 48, 49, 48, 50, 48, 51, 48, 52,
  48, 53, 48, 54, 48, 55, 48, 56, 48, 57, 49, 48, 49, 49, 49, 50, 49, 51, 49, 52, 49, 53, 49, 54, 49, 55, 49, 56, 49, 57, 50, 48, 50, 49, 50, 50, 50, 51, 50,
  52, 50, 53, 50, 54, 50, 55, 50, 56, 50, 57, 51, 48, 51, 49, 51, 50, 51, 51, 51, 52, 51, 53, 51, 54, 51, 55, 51, 56, 51, 57, 52, 48, 52, 49, 52, 50, 52, 51,
  52, 52, 52, 53, 52, 54, 52, 55, 52, 56, 52, 57, 53, 48, 53, 49, 53, 50, 53, 51, 53, 52, 53, 53, 53, 54, 53, 55, 53, 56, 53, 57, 54, 48, 54, 49, 54, 50, 54,
  51, 54, 52, 54, 53, 54, 54, 54, 55, 54, 56, 54, 57, 55, 48, 55, 49, 55, 50, 55, 51, 55, 52, 55, 53, 55, 54, 55, 55, 55, 56, 55, 57, 56, 48, 56, 49, 56, 50,
  56, 51, 56, 52, 56, 53, 56, 54, 56, 55, 56, 56, 56, 57, 57, 48, 57, 49, 57, 50, 57, 51, 57, 52, 57, 53, 57, 54, 57, 55, 57, 56, 57, 57])))) (T 130))), (oP 132
  (.mv (T 14))), (oP 133 (.idxS (.lit (.c (.pv (.str [48, 48, 48, 49, 48, 50, 48, 51, 48, 52, 48, 53, 48, 54, 48, 55, 48, 56, 48, 57, 49, 48, 49, 49, 49, 50,
  49, 51, 49, 52, 49, 53, 49, 54, 49, 55, 49, 56, 49, 57, 50, 48, 50, 49, 50, 50, 50, 51, 50, 52, 50, 53, 50, 54, 50, 55, 50, 56, 50, 57, 51, 48, 51, 49, 51,
  50, 51, 51, 51, 52, 51, 53, 51, 54, 51, 55, 51, 56, 51, 57, 52, 48, 52, 49, 52, 50, 52, 51, 52, 52, 52, 53, 52, 54, 52, 55, 52, 56, 52, 57, 53, 48, 53, 49,
  53, 50, 53, 51, 53, 52, 53, 53, 53, 54, 53, 55, 53, 56, 53, 57, 54, 48, 54, 49, 54, 50, 54, 51, 54, 52, 54, 53, 54, 54, 54, 55, 54, 56, 54, 57, 55, 48, 55,
  49, 55, 50, 55, 51, 55, 52, 55, 53, 55, 54, 55, 55, 55, 56, 55, 57, 56, 48, 56, 49, 56, 50, 56, 51, 56, 52, 56, 53, 56, 54, 56, 55, 56, 56, 56, 57, 57, 48,
  57, 49, 57, 50, 57, 51, 57, 52, 57, 53, 57, 54, 57, 55, 57, 56, 57, 57])))) (T 132))), (oP 134 (.iaddrS 1 (T 123) (T 125))), (sW (.store 1 (T 134) (T 131))),
  (oP 135 (.iaddrS 1 (T 126) (T 128))), (sW (.store 1 (T 135) (T 133)))])) (.tr (rl [0, 3, 7]) false (.region false [(oP 136 (.mv (T 4))), (oP 137 (.bin .sub (T
  136) (tI 4))), (oP 4 (.mv (T 137)))]))))))) .skip))) (.seq (.seq (.tr (rl [0, 3, 7, 126]) false (.region false [(oP 138 (.mv (T 4))), (oP 139 (.bin .geq (T
  138) (tI 2)))])) (.tr (rl [0, 3, 7]) false (.cond (T 139) (.seq (.tr (rl [0, 3, 7, 3]) false (.region false [(oP 140 (.mv (T 12))), (oP 141 (.bin .rem (T 140)
  (.lit (.c (.pv (.int .u32 100)))))), (oP 142 (.bin .mul (T 141) (.lit (.c (.pv (.int .u32 2)))))), (oP 16 (.mv (T 142)))])) (.seq (.tr (rl [0, 3, 7, 3]) false
  (.region false [(oP 143 (.mv (T 12))), (oP 144 (.bin .quo (T 143) (.lit (.c (.pv (.int .u32 100)))))), (oP 12 (.mv (T 144)))])) (.seq (.tr (rl [0, 3, 7])
  false (.region true [(oP 145 (.mv (T 0))), (oP 146 (.mv (T 4))), (oP 147 (.bin .sub (T 146) (tI 1))), (oP 148 (.mv (T 0))), (oP 149 (.mv (T 4))), (oP 150
  (.bin .sub (T 149) (tI 2))), (oP 151 (.mv (T 16))), (oP 152 (.bin .add (T 151) (.lit (.c (.pv (.int .u32 1)))))), (oP 153 (.idxS (.lit (.c (.pv (.str [48, 48,
  48, 49, 48, 50, 48, 51, 48, 52, 48, 53, 48, 54, 48, 55, 48, 56, 48, 57, 49, 48, 49, 49, 49, 50, 49, 51, 49, 52, 49, 53, 49, 54, 49, 55, 49, 56, 49, 57, 50,
  48, 50, 49, 50, 50, 50, 51, 50, 52, 50, 53, 50, 54, 50, 55, 50, 56, 50, 57, 51, 48, 51, 49, 51, 50, 51, 51, 51, 52, 51, 53, 51, 54, 51, 55, 51, 56, 51, 57,
  52, 48, 52, 49, 52, 50, 52, 51, 52, 52, 52, 53, 52, 54, 52, 55, 52, 56, 52, 57, 53, 48, 53, 49, 53, 50, 53, 51, 53, 52, 53, 53, 53, 54, 53, 55, 53, 56, 53,
  57, 54, 48, 54, 49, 54, 50, 54, 51, 54, 52, 54, 53, 54, 54, 54, 55, 54, 56, 54, 57, 55, 48, 55, 49, 55, 50, 55, 51, 55, 52, 55, 53, 55, 54, 55, 55, 55, 56,
  55, 57, 56, 48, 56, 49, 56, 50, 56, 51, 56, 52, 56, 53, 56, 54, 56, 55, 56, 56, 56, 57, 57, 48, 57, 49, 57, 50, 57, 51, 57, 52, 57, 53, 57, 54, 57, 55, 57,
  56, 57, 57])))) (T 152))), (oP 154 (.mv (T 16))), (oP 155 (.idxS (.lit (.c (.pv (.str [48, 48, 48, 49, 48, 50, 48, 51, 48, 52, 48, 53, 48, 54, 48, 55, 48, 56,
  48, 57, 49, 48, 49, 49, 49, 50, 49, 51, 49, 52, 49, 53, 49, 54, 49, 55, 49, 56, 49, 57, 50, 48, 50, 49, 50, 50, 50, 51, 50, 52, 50, 53, 50, 54, 50, 55, 50,
  56, 50, 57, 51, 48, 51, 49, 51, 50, 51, 51, 51, 52, 51, 53, 51, 54, 51, 55, 51, 56, 51, 57, 52, 48, 52, 49, 52, 50, 52, 51, 52, 52, 52, 53, 52, 54, 52, 55,
  52, 56, 52, 57, 53, 48, 53, 49, 53, 50, 53, 51, 53, 52, 53, 53, 53, 54, 53, 55, 53, 56, 53, 57, 54, 48, 54, 49, 54, 50, 54, 51, 54, 52, 54, 53, 54, 54, 54,
  55, 54, 56, 54, 57, 55, 48, 55, 49, 55, 50, 55, 51, 55, 52, 55, 53, 55, 54, 55, 55, 55, 56, 55, 57, 56, 48, 56, 49, 56, 50, 56, 51, 56, 52, 56, 53, 56, 54,
  56, 55, 56, 56, 56, 57, 57, 48, 57, 49, 57, 50, 57, 51, 57, 52, 57, 53, 57, 54, 57, 55, 57, 56, 57, 57])))) (T 154))), (oP 156 (.iaddrS 1 (T 145) (T 147))),
  (sW (.store 1 (T 156) (T 153))), (oP 157 (.iaddrS 1 (T 148) (T 150))), (sW (.store 1 (T 157) (T 155)))])) (.tr (rl [0, 3, 7]) false (.region false [(oP 158
  (.mv (T 4))), (oP 159 (.bin .sub (T 158) (tI 2))), (oP 4 (.mv (T 159)))]))))) .skip))) (.seq (.tr (rl [0, 11, 148]) false (.region false [(oP 160 (.mv (T
  4))), (oP 161 (.bin .gtr (T 160) (tI 0)))])) (.tr [] false (.cond (T 161) (.tr [] false (.region false [(oP 162 (.mv (T 0))), (oP 163 (.mv (T 12))), (oP 164
  (.bin .add (.lit (.c (.pv (.int .u32 48)))) (T 163))), (oP 165 (.convI .u8 (T 164))), (oP 166 (.iaddrS 1 (T 162) (tI 0))), (sW (.store 1 (T 166) (T 165)))]))
  .skip)))))))))
theorem xf144_ok : cmpFunc Go.Proofs.Tryd.prog 144 ((.two (.tr (rl [0, 0, 2]) false .no) (.two (.tr (rl [0, 0, 2]) false (.loop (rl [0, 0, 2]) (.two (.two (.tr (rl [0, 0, 2, 15]) false .no) (.tr (rl [0, 0, 2]) false (.two .no (.tr (rl [0, 0, 2]) false .no)))) (.tr (rl [0, 0, 2]) false (.two (.tr (rl [0, 0, 2, 0]) false .no) (.two (.tr (rl [0, 0, 2, 0]) false .no) (.two (.tr (rl [0, 0, 2, 1, 0]) false .no) (.two (.tr (rl [0, 0, 2, 1, 1, 0]) false .no) (.two (.tr (rl [0, 0, 2, 3, 0, 0, 0]) false .no) (.two (.tr (rl [0, 0, 2, 3, 1, 0]) false (.draw [0, 1, 2, 3, 4, 5, 6, 7, 8, 9, 10, 11, 12, 13, 14] [])) (.two (.tr (rl [0, 0, 2, 5, 0]) false (.draw [0, 1, 2, 3, 4, 5, 6, 7, 8, 9, 10, 11, 12, 13, 14] [])) (.two (.tr (rl [0, 0, 2, 5]) false (.draw [0, 1, 2, 3, 4, 5, 6, 7, 8, 9, 10, 11, 12, 13, 14] [])) (.two (.tr (rl [0, 0, 2]) false (.draw [0, 1, 2, 3, 4, 5, 6, 7, 8, 9, 10, 11, 12, 13, 14] [])) (.tr (rl [0, 0, 2]) false .no)))))))))))))) (.two (.tr (rl [0, 3, 7]) false .no) (.two (.two (.tr (rl [0, 3, 7, 86]) false .no) (.tr (rl [0, 3, 7]) false (.two (.two (.tr (rl [0, 3, 7, 0]) false .no) (.two (.tr (rl [0, 3, 7, 0]) false .no) (.two (.tr (rl [0, 3, 7, 1, 0]) false .no) (.two (.tr (rl [0, 3, 7, 1]) false (.draw [0, 1, 2, 3, 4, 5, 6, 7, 8, 9, 10, 11, 12, 13, 14] [])) (.two (.tr (rl [0, 3, 7]) false (.draw [0, 1, 2, 3, 4, 5, 6, 7, 8, 9, 10, 11, 12, 13, 14] [])) (.tr (rl [0, 3, 7]) false .no)))))) .no))) (.two (.two (.tr (rl [0, 3, 7, 126]) false .no) (.tr (rl [0, 3, 7]) false (.two (.two (.tr (rl [0, 3, 7, 3]) false .no) (.two (.tr (rl [0, 3, 7, 3]) false .no) (.two (.tr (rl [0, 3, 7]) false (.draw [0, 1, 2, 3, 4, 5, 6, 7, 8, 9, 10, 11, 12, 13, 14] [])) (.tr (rl [0, 3, 7]) false .no)))) .no))) (.two (.tr (rl [0, 11, 148]) false .no) (.tr [] false (.two (.tr [] false .no) .no))))))))) = some xf144 := by kernel_rfl
def xf145_l0 : XCode :=
(.seq (.seq (.tr (rl [0, 0, 1, 0, 5, 0, 0, 0, 0, 0, 0, 29]) false (.region false [(oP 44 (.mv (T 1))), (oP 45 (.mv (T 15))), (oP 46 (.bin .geq (T 44) (T
  45)))])) (.tr (rl [0, 0, 1, 0, 5, 0, 0, 0, 0, 0, 0]) false (.cond (T 46) .skip (.tr (rl [0, 0, 1, 0, 5, 0, 0, 0]) false (.exit 0))))) (.tr (rl [0, 0, 1, 0, 5,
  0, 0, 0, 0, 0, 0]) false (.block 1 (.seq (.tr (rl [0, 0, 1, 0, 5, 0, 0, 0, 0, 0, 0]) false (.region false [(oP 47 (.mv (T 13))), (oP 48 (.bin .sub (T 47) (tI
  1))), (oP 13 (.mv (T 48)))])) (.seq (.tr (rl [0, 0, 1, 0, 5, 0, 0, 0, 0, 0, 0]) false (.region false [(oP 49 (.mv (T 13))), (oP 50 (.mv (T 1))), (oP 51 (.mv
  (T 16))), (oP 52 (.bin .and (T 50) (T 51))), (oP 53 (.idxS (.lit (.c (.pv (.str [48, 49, 50, 51, 52, 53, 54, 55, 56, 57, 97, 98, 99, 100, 101, 102, 103, 104,
  105, 106, 107, 108, 109, 110, 111, 112, 113, 114, 115, 116, 117, 118, 119, 120, 121, 122])))) (T 52))), (oP 54 (.iaddrA 65 1 (T 12) (T 49))), (sW (.store 1 (T
  54) (T 53)))])) (.tr (rl [0, 0, 1, 0, 5, 0, 0, 0, 0, 0, 0]) false (.region false [(oP 55 (.mv (T 1))), (oP 56 (.mv (T 14))), (oP 57 (.bin .shr (T 55) (T
  56))), (oP 1 (.mv (T 57)))])))))))
def xf145_l1 : XCode :=
(.seq (.seq (.tr (rl [0, 0, 1, 0, 5, 0, 0, 0, 3, 50]) false (.region false [(oP 66 (.mv (T 1))), (oP 67 (.mv (T 17))), (oP 68 (.bin .geq (T 66) (T 67)))])) (.tr
  (rl [0, 0, 1, 0, 5, 0, 0, 0, 3]) false (.cond (T 68) .skip (.tr (rl [0, 0, 1, 0, 5, 0, 0, 0]) false (.exit 2))))) (.tr (rl [0, 0, 1, 0, 5, 0, 0, 0, 3]) false
  (.block 3 (.seq (.tr (rl [0, 0, 1, 0, 5, 0, 0, 0, 3]) false (.region false [(oP 69 (.mv (T 13))), (oP 70 (.bin .sub (T 69) (tI 1))), (oP 13 (.mv (T 70)))]))
  (.seq (.tr (rl [0, 0, 1, 0, 5, 0, 0, 0, 3, 0]) false (.region false [(oP 71 (.mv (T 1))), (oP 72 (.mv (T 17))), (oP 73 (.bin .quo (T 71) (T 72))), (oP 18 (.mv
  (T 73)))])) (.seq (.tr (rl [0, 2, 0, 5, 0, 0, 0, 3, 0]) false (.region false [(oP 74 (.mv (T 13))), (oP 75 (.mv (T 1))), (oP 76 (.mv (T 18))), (oP 77 (.mv (T
  17))), (oP 78 (.bin .mul (T 76) (T 77))), (oP 79 (.bin .sub (T 75) (T 78))), (oP 80 (.idxS (.lit (.c (.pv (.str [48, 49, 50, 51, 52, 53, 54, 55, 56, 57, 97,
  98, 99, 100, 101, 102, 103, 104, 105, 106, 107, 108, 109, 110, 111, 112, 113, 114, 115, 116, 117, 118, 119, 120, 121, 122])))) (T 79))), (oP 81 (.iaddrA 65 1
  (T 12) (T 74))), (sW (.store 1 (T 81) (T 80)))])) (.tr (rl [0, 0, 1, 0, 5, 0, 0, 0, 3]) false (.region false [(oP 82 (.mv (T 18))), (oP 1 (.mv (T
  82)))]))))))))
def xf145 : XFunc :=
(.mk 102 [(.tmp 10), (.tmp 11)] (.seq (.region false [(oP 10 (.mv (.lit (.c (.pv (.sl .nil 0 [])))))), (oP 11 (.mv (.lit (.c (.pv (.str []))))))]) (.seq (.seq
  (.tr (rl [0, 0, 0, 0, 0, 5, 0, 16]) false (.region false [(oP 19 (.mv (T 2))), (oP 20 (.bin .lss (T 19) (tI 2))), (oP 21 (.mv (T 20))), (.mk (some 22) (.mv (T
  2)) (some (21, false)) .p), (.mk (some 23) (.bin .eql (T 22) (tI 10)) (some (21, false)) .p), (oP 24 (.pick (T 21) (.lit (.c (.pv (.bool true)))) (T 23))),
  (oP 25 (.mv (T 24))), (.mk (some 26) (.mv (T 2)) (some (25, false)) .p), (.mk (some 27) (.bin .gtr (T 26) (tI 36)) (some (25, false)) .p), (oP 28 (.pick (T
  25) (.lit (.c (.pv (.bool true)))) (T 27)))])) (.tr (rl [0, 0, 0, 0, 0, 5, 0]) false (.cond (T 28) (.tr (rl [0, 0, 0, 0, 0, 5, 0]) false (.region false [(.mk
  (some 29) .stuck none .p), (.mk none .stuck none .p)])) .skip))) (.seq (.region false [(oW 12 (.alloc [(.pv (.int .u8 0)), (.pv (.int .u8 0)), (.pv (.int .u8
  0)), (.pv (.int .u8 0)), (.pv (.int .u8 0)), (.pv (.int .u8 0)), (.pv (.int .u8 0)), (.pv (.int .u8 0)), (.pv (.int .u8 0)), (.pv (.int .u8 0)), (.pv (.int
  .u8 0)), (.pv (.int .u8 0)), (.pv (.int .u8 0)), (.pv (.int .u8 0)), (.pv (.int .u8 0)), (.pv (.int .u8 0)), (.pv (.int .u8 0)), (.pv (.int .u8 0)), (.pv
  (.int .u8 0)), (.pv (.int .u8 0)), (.pv (.int .u8 0)), (.pv (.int .u8 0)), (.pv (.int .u8 0)), (.pv (.int .u8 0)), (.pv (.int .u8 0)), (.pv (.int .u8 0)),
  (.pv (.int .u8 0)), (.pv (.int .u8 0)), (.pv (.int .u8 0)), (.pv (.int .u8 0)), (.pv (.int .u8 0)), (.pv (.int .u8 0)), (.pv (.int .u8 0)), (.pv (.int .u8
  0)), (.pv (.int .u8 0)), (.pv (.int .u8 0)), (.pv (.int .u8 0)), (.pv (.int .u8 0)), (.pv (.int .u8 0)), (.pv (.int .u8 0)), (.pv (.int .u8 0)), (.pv (.int
  .u8 0)), (.pv (.int .u8 0)), (.pv (.int .u8 0)), (.pv (.int .u8 0)), (.pv (.int .u8 0)), (.pv (.int .u8 0)), (.pv (.int .u8 0)), (.pv (.int .u8 0)), (.pv
  (.int .u8 0)), (.pv (.int .u8 0)), (.pv (.int .u8 0)), (.pv (.int .u8 0)), (.pv (.int .u8 0)), (.pv (.int .u8 0)), (.pv (.int .u8 0)), (.pv (.int .u8 0)),
  (.pv (.int .u8 0)), (.pv (.int .u8 0)), (.pv (.int .u8 0)), (.pv (.int .u8 0)), (.pv (.int .u8 0)), (.pv (.int .u8 0)), (.pv (.int .u8 0)), (.pv (.int .u8
  0))]))]) (.seq (.region false [(oP 13 (.mv (tI 65)))]) (.seq (.seq (.region false [(oP 30 (.mv (T 3)))]) (.tr (rl [0, 0, 0, 0, 0, 5, 0, 0, 0]) false (.cond (T
  30) (.tr (rl [0, 0, 0, 0, 0, 5, 0, 0, 0]) false (.region false [(oP 31 (.mv (T 1))), (oP 32 (.un .neg (T 31))), (oP 1 (.mv (T 32)))])) .skip))) (.seq (.seq
  (.tr (rl [0, 0, 0, 0, 0, 5, 0, 0, 0, 20]) false (.region false [(oP 33 (.mv (T 2))), (oP 34 (.call false [] (.lit (.c (.fn 150 []))) [(T 33)]))])) (.tr (rl
  [0, 2, 0, 5, 0, 0, 0]) false (.cond (T 34) (.seq (.tr (rl [0, 0, 0, 0, 0, 5, 0, 0, 0, 0]) false (.region false [(oP 35 (.mv (T 2))), (oP 36 (.convI .u64 (T
  35))), (oP 37 (.call false [] (.lit (.c (.fn 151 []))) [(T 36)])), (oP 38 (.convI .u64 (T 37))), (oP 14 (.mv (T 38)))])) (.seq (.tr (rl [0, 0, 0, 0, 0, 5, 0,
  0, 0, 0, 0]) false (.region false [(oP 39 (.mv (T 2))), (oP 40 (.convI .u64 (T 39))), (oP 15 (.mv (T 40)))])) (.seq (.tr (rl [0, 0, 1, 0, 5, 0, 0, 0, 0, 0,
  0]) false (.region false [(oP 41 (.mv (T 2))), (oP 42 (.convI .u64 (T 41))), (oP 43 (.bin .sub (T 42) (.lit (.c (.pv (.int .u64 1)))))), (oP 16 (.mv (T
  43)))])) (.seq (.tr (rl [0, 0, 1, 0, 5, 0, 0, 0]) false (.block 0 (.loop (rl [0, 0, 1, 0, 5, 0, 0, 0, 0, 0, 0]) xf145_l0))) (.seq (.tr (rl [0, 0, 1, 0, 5, 0,
  0, 0]) false (.region false [(oP 58 (.mv (T 13))), (oP 59 (.bin .sub (T 58) (tI 1))), (oP 13 (.mv (T 59)))])) (.tr (rl [0, 2, 0, 5, 0, 0, 0]) false (.region
  false [(oP 60 (.mv (T 13))), (oP 61 (.mv (T 1))), (oP 62 (.idxS (.lit (.c (.pv (.str [48, 49, 50, 51, 52, 53, 54, 55, 56, 57, 97, 98, 99, 100, 101, 102, 103,
  104, 105, 106, 107, 108, 109, 110, 111, 112, 113, 114, 115, 116, 117, 118, 119, 120, 121, 122])))) (T 61))), (oP 63 (.iaddrA 65 1 (T 12) (T 60))), (sW (.store
  1 (T 63) (T 62)))]))))))) (.seq (.tr (rl [0, 0, 1, 0, 5, 0, 0, 0, 3]) false (.region false [(oP 64 (.mv (T 2))), (oP 65 (.convI .u64 (T 64))), (oP 17 (.mv (T
  65)))])) (.seq (.tr (rl [0, 0, 1, 0, 5, 0, 0, 0]) false (.block 2 (.loop (rl [0, 0, 1, 0, 5, 0, 0, 0, 3]) xf145_l1))) (.seq (.tr (rl [0, 0, 1, 0, 5, 0, 0, 0])
  false (.region false [(oP 83 (.mv (T 13))), (oP 84 (.bin .sub (T 83) (tI 1))), (oP 13 (.mv (T 84)))])) (.tr (rl [0, 2, 0, 5, 0, 0, 0]) false (.region false
  [(oP 85 (.mv (T 13))), (oP 86 (.mv (T 1))), (oP 87 (.idxS (.lit (.c (.pv (.str [48, 49, 50, 51, 52, 53, 54, 55, 56, 57, 97, 98, 99, 100, 101, 102, 103, 104,
  105, 106, 107, 108, 109, 110, 111, 112, 113, 114, 115, 116, 117, 118, 119, 120, 121, 122])))) (T 86))), (oP 88 (.iaddrA 65 1 (T 12) (T 85))), (sW (.store 1 (T
  88) (T 87)))])))))))) (.seq (.seq (.tr (rl [0, 3, 5, 0, 0, 0, 75]) false (.region false [(oP 89 (.mv (T 3)))])) (.tr (rl [0, 3, 5, 0, 0, 0]) false (.cond (T
  89) (.seq (.tr (rl [0, 3, 5, 0, 0, 0]) false (.region false [(oP 90 (.mv (T 13))), (oP 91 (.bin .sub (T 90) (tI 1))), (oP 13 (.mv (T 91)))])) (.tr (rl [0, 3,
  5, 0, 0, 0]) false (.region false [(oP 92 (.mv (T 13))), (oP 93 (.iaddrA 65 1 (T 12) (T 92))), (sW (.store 1 (T 93) (.lit (.c (.pv (.int .u8 45))))))])))
  .skip))) (.seq (.seq (.tr (rl [0, 9, 0, 0, 0, 80]) false (.region false [(oP 94 (.mv (T 4)))])) (.tr (rl [10, 0, 0, 0]) false (.cond (T 94) (.seq (.tr (rl
  [10, 0]) false (.region false [(oP 95 (.mv (T 0))), (oP 96 (.mv (T 13))), (oR 97 (.sliceA 65 1 (T 12) (some (T 96)) none)), (oW 98 (.app 1 1 (T 95) (T 97))),
  (oP 10 (.mv (T 98)))])) (.tr (rl [10, 0]) false .ret)) .skip))) (.seq (.tr (rl [10, 0]) false (.region false [(oP 99 (.mv (T 13))), (oR 100 (.sliceA 65 1 (T
  12) (some (T 99)) none)), (oP 101 (.bytesS (T 100))), (oP 11 (.mv (T 101)))])) (.tr (rl [10, 0]) false .ret)))))))))))
theorem xf145_ok : cmpFunc Go.Proofs.Tryd.prog 145 ((.two .no (.two (.two (.tr (rl [0, 0, 0, 0, 0, 5, 0, 16]) false .no) (.tr (rl [0, 0, 0, 0, 0, 5, 0]) false (.two (.tr (rl [0, 0, 0, 0, 0, 5, 0]) false .no) .no))) (.two .no (.two .no (.two (.two .no (.tr (rl [0, 0, 0, 0, 0, 5, 0, 0, 0]) false (.two (.tr (rl [0, 0, 0, 0, 0, 5, 0, 0, 0]) false .no) .no))) (.two (.two (.tr (rl [0, 0, 0, 0, 0, 5, 0, 0, 0, 20]) false (.ops [{}, { cls := some .p }])) (.tr (rl [0, 2, 0, 5, 0, 0, 0]) false (.two (.two (.tr (rl [0, 0, 0, 0, 0, 5, 0, 0, 0, 0]) false (.ops [{}, {}, { cls := some .p }])) (.two (.tr (rl [0, 0, 0, 0, 0, 5, 0, 0, 0, 0, 0]) false .no) (.two (.tr (rl [0, 0, 1, 0, 5, 0, 0, 0, 0, 0, 0]) false .no) (.two (.tr (rl [0, 0, 1, 0, 5, 0, 0, 0]) false (.loop (rl [0, 0, 1, 0, 5, 0, 0, 0, 0, 0, 0]) (.two (.two (.tr (rl [0, 0, 1, 0, 5, 0, 0, 0, 0, 0, 0, 29]) false .no) (.tr (rl [0, 0, 1, 0, 5, 0, 0, 0, 0, 0, 0]) false (.two .no (.tr (rl [0, 0, 1, 0, 5, 0, 0, 0]) false .no)))) (.tr (rl [0, 0, 1, 0, 5, 0, 0, 0, 0, 0, 0]) false (.two (.tr (rl [0, 0, 1, 0, 5, 0, 0, 0, 0, 0, 0]) false .no) (.two (.tr (rl [0, 0, 1, 0, 5, 0, 0, 0, 0, 0, 0]) false .no) (.tr (rl [0, 0, 1, 0, 5, 0, 0, 0, 0, 0, 0]) false .no))))))) (.two (.tr (rl [0, 0, 1, 0, 5, 0, 0, 0]) false .no) (.tr (rl [0, 2, 0, 5, 0, 0, 0]) false .no)))))) (.two (.tr (rl [0, 0, 1, 0, 5, 0, 0, 0, 3]) false .no) (.two (.tr (rl [0, 0, 1, 0, 5, 0, 0, 0]) false (.loop (rl [0, 0, 1, 0, 5, 0, 0, 0, 3]) (.two (.two (.tr (rl [0, 0, 1, 0, 5, 0, 0, 0, 3, 50]) false .no) (.tr (rl [0, 0, 1, 0, 5, 0, 0, 0, 3]) false (.two .no (.tr (rl [0, 0, 1, 0, 5, 0, 0, 0]) false .no)))) (.tr (rl [0, 0, 1, 0, 5, 0, 0, 0, 3]) false (.two (.tr (rl [0, 0, 1, 0, 5, 0, 0, 0, 3]) false .no) (.two (.tr (rl [0, 0, 1, 0, 5, 0, 0, 0, 3, 0]) false .no) (.two (.tr (rl [0, 2, 0, 5, 0, 0, 0, 3, 0]) false .no) (.tr (rl [0, 0, 1, 0, 5, 0, 0, 0, 3]) false .no)))))))) (.two (.tr (rl [0, 0, 1, 0, 5, 0, 0, 0]) false .no) (.tr (rl [0, 2, 0, 5, 0, 0, 0]) false .no))))))) (.two (.two (.tr (rl [0, 3, 5, 0, 0, 0, 75]) false .no) (.tr (rl [0, 3, 5, 0, 0, 0]) false (.two (.two (.tr (rl [0, 3, 5, 0, 0, 0]) false .no) (.tr (rl [0, 3, 5, 0, 0, 0]) false .no)) .no))) (.two (.two (.tr (rl [0, 9, 0, 0, 0, 80]) false .no) (.tr (rl [10, 0, 0, 0]) false (.two (.two (.tr (rl [10, 0]) false .no) (.tr (rl [10, 0]) false .no)) .no))) (.two (.tr (rl [10, 0]) false .no) (.tr (rl [10, 0]) false .no))))))))))) = some xf145 := by kernel_rfl
end Go.Sx.Tryd
