/- Functions of the program in the evaluator's form, each checked by the kernel. Printed by genx.py. -/
import Derived.Test.YtggopflifieoiaaDoorSxLem
import Derived.Test.YtggopflifieoiaaDoorProg
import Derived.KernelRfl
namespace Go.Sx.Tryd
open Go Go.Sx
def xf3_l0 : XCode :=
(.seq (.region false [(oP 70 (.bin .lss (T 69) (T 68)))]) (.seq (.tr (rl [1, 0, 0, 5, 0, 3, 52, 0, 0]) false (.cond (T 70) .skip (.tr (rl [1, 0, 0, 5, 0, 3])
  false (.exit 0)))) (.seq (.tr (rl [1, 0, 0, 4, 0, 0, 3, 52, 0, 0]) false (.block 1 (.seq (.tr (rl [1, 0, 0, 5, 0, 3, 1, 50, 0, 0]) false (.region false [(oP
  71 (.iaddrS 3 (T 67) (T 69))), (oR 72 (.load true 3 (T 71))), (oW 16 (.alloc [(.pv (.int .i64 0)), (.pv (.int .i64 0)), (.pv (.int .i64 0))])), (sW (.store 3
  (T 16) (T 72)))])) (.seq (.tr (rl [1, 0, 0, 5, 0, 3, 2, 0, 48, 0, 0]) false (.region true [(oR 74 (.load true 1 (T 14))), (oP 75 (.faddr 0 (T 16))), (oR 76
  (.load false 1 (T 75))), (oP 77 (.bin .add (T 76) (tI 1))), (oP 78 (.faddr 1 (T 16))), (oR 79 (.load false 1 (T 78))), (oP 80 (.bin .add (T 79) (tI 1))), (oP
  81 (.mv (T 1))), (oP 82 (.faddr 2 (T 16))), (oR 83 (.load false 1 (T 82))), (oP 84 (.mv (T 9))), (oP 85 (.call false [] (.lit (.c (.fn 12 []))) [(T 77), (T
  80), (T 81), (T 83), (.lit (.c (.pv (.int .i32 10)))), (T 84)])), (oP 86 (.call false [] (.lit (.c (.fn 11 []))) [(T 74), (T 85)])), (oP 73 (.mv (T 86))), (oP
  87 (.extr 0 (T 73))), (oP 88 (.extr 1 (T 73))), (oW 17 (.alloc [(.pv (.sl .nil 0 []))])), (sW (.store 1 (T 17) (T 87))), (oP 18 (.mv (T 88)))])) (.seq (.seq
  (.tr (rl [1, 0, 0, 5, 0, 3, 2, 49, 0, 0, 20]) false (.region false [(oP 89 (.mv (T 18))), (oP 90 (.un .not (T 89)))])) (.tr (rl [1, 0, 0, 4, 0, 0, 3, 2, 49,
  0, 0]) false (.cond (T 90) (.seq (.region false [(oP 8 (.mv (.lit (.c (.pv (.bool false))))))]) (.tr (rl [8]) false .ret)) .skip))) (.tr (rl [1, 0, 0, 5, 0,
  3, 52, 0, 0]) false (.region false [(oR 91 (.load true 1 (T 17))), (sW (.store 1 (T 14) (T 91)))]))))))) (.tr (rl [1, 0, 0, 5, 0, 3, 52, 0, 0]) false (.region
  false [(oP 92 (.bin .add (T 69) (tI 1))), (oP 69 (.mv (T 92)))])))))
def xf3_l1 : XCode :=
(.seq (.region false [(oP 98 (.bin .lss (T 97) (T 96)))]) (.seq (.tr (rl [1, 0, 0, 5, 0, 3, 81, 0]) false (.cond (T 98) .skip (.tr (rl [1, 0, 0, 5, 0, 3]) false
  (.exit 2)))) (.seq (.tr (rl [1, 0, 0, 4, 0, 0, 3, 81, 0]) false (.block 3 (.seq (.tr (rl [1, 0, 0, 5, 0, 3, 5, 75, 0]) false (.region false [(oP 99 (.mv (T
  97))), (oP 20 (.mv (T 99)))])) (.seq (.tr (rl [1, 0, 0, 5, 0, 3, 6, 0, 73, 0]) false (.region true [(oP 101 (.faddr 0 (T 14))), (oR 102 (.load false 1 (T
  101))), (oP 103 (.mv (T 20))), (oP 104 (.iaddrS 7 (T 102) (T 103))), (oR 105 (.load true 7 (T 104))), (oP 106 (.faddr 0 (T 14))), (oR 107 (.load false 1 (T
  106))), (oP 108 (.len (T 107))), (oP 109 (.bin .add (T 108) (tI 1))), (oP 110 (.call false [] (.lit (.c (.fn 13 []))) [(T 105), (T 109), (.lit (.c (.pv (.int
  .i32 20))))])), (oP 100 (.mv (T 110))), (oP 111 (.extr 0 (T 100))), (oP 112 (.extr 1 (T 100))), (oW 21 (.alloc [(.pv (.int .i64 0)), (.pv (.int .i32 0)), (.pv
  (.int .i32 0)), (.pv (.sl .nil 0 [])), (.pv (.int .i64 0)), (.pv (.int .i64 0)), (.pv (.str []))])), (sW (.store 7 (T 21) (T 111))), (oP 22 (.mv (T 112)))]))
  (.seq (.tr (rl [1, 0, 0, 5, 0, 3, 7, 0, 0, 71, 0]) false (.region false [(oR 114 (.load true 1 (T 14))), (oR 115 (.load true 7 (T 21))), (oP 116 (.call false
  [] (.lit (.c (.fn 14 []))) [(T 114), (T 115)])), (oP 113 (.mv (T 116))), (oP 117 (.extr 0 (T 113))), (oP 118 (.extr 1 (T 113))), (oW 23 (.alloc [(.pv (.sl
  .nil 0 []))])), (sW (.store 1 (T 23) (T 117))), (oP 24 (.mv (T 118)))])) (.seq (.seq (.tr (rl [1, 0, 0, 5, 0, 3, 8, 72, 0, 26]) false (.region false [(oP 119
  (.mv (T 22))), (oP 120 (.bin .neq (T 119) (tI 0))), (oP 121 (.mv (T 120))), (.mk (some 122) (.mv (T 24)) (some (121, false)) .p), (.mk (some 123) (.bin .neq
  (T 122) (tI 0)) (some (121, false)) .p), (oP 124 (.pick (T 121) (.lit (.c (.pv (.bool true)))) (T 123)))])) (.tr (rl [1, 0, 0, 4, 0, 0, 3, 8, 72, 0]) false
  (.cond (T 124) (.seq (.region false [(oP 8 (.mv (.lit (.c (.pv (.bool false))))))]) (.tr (rl [8]) false .ret)) .skip))) (.tr (rl [1, 0, 0, 5, 0, 3, 81, 0])
  false (.region false [(oR 125 (.load true 1 (T 23))), (sW (.store 1 (T 14) (T 125)))])))))))) (.tr (rl [1, 0, 0, 5, 0, 3, 81, 0]) false (.region false [(oP
  126 (.bin .add (T 97) (tI 1))), (oP 97 (.mv (T 126)))])))))
def xf3_l2 : XCode :=
(.seq (.region false [(oP 136 (.bin .lss (T 135) (T 134)))]) (.seq (.tr (rl [1, 7, 4, 10, 0, 106, 0, 0]) false (.cond (T 136) .skip (.tr (rl [14]) false (.exit
  4)))) (.seq (.tr (rl [1, 6, 0, 4, 10, 0, 106, 0, 0]) false (.block 5 (.seq (.tr (rl [1, 7, 4, 10, 0, 0, 0, 104, 0, 0]) false (.region false [(oP 137 (.mv (T
  135))), (oP 138 (.iaddrS 1 (T 133) (T 135))), (oR 139 (.load false 1 (T 138))), (oP 27 (.mv (T 137))), (oP 28 (.mv (T 139)))])) (.seq (.tr (rl [1, 7, 4, 10,
  0, 1, 0, 0, 102, 0, 0]) false (.region false [(oP 141 (.faddr 0 (T 14))), (oR 142 (.load false 1 (T 141))), (oP 143 (.mv (T 27))), (oP 144 (.bin .add (T 143)
  (tI 1))), (oP 145 (.mv (T 1))), (oP 146 (.mv (T 25))), (oP 147 (.mv (T 26))), (oP 148 (.call false [] (.lit (.c (.fn 16 []))) [(T 142), (T 144), (T 145), (T
  146), (T 147)])), (oP 140 (.mv (T 148))), (oP 149 (.extr 0 (T 140))), (oP 150 (.extr 1 (T 140))), (oP 29 (.mv (T 149))), (oP 30 (.mv (T 150)))])) (.seq
  (.region false [(oP 31 (.mv (tI 0)))]) (.seq (.seq (.tr (rl [1, 7, 4, 10, 0, 1, 0, 0, 0, 101, 0, 0, 25]) false (.region false [(oP 151 (.mv (T 25))), (oP 152
  (.bin .geq (T 151) (.lit (.c (.pv (.int .i32 10)))))), (oP 153 (.mv (T 152))), (.mk (some 154) (.mv (T 25)) (some (153, true)) .p), (.mk (some 155) (.bin .lss
  (T 154) (.lit (.c (.pv (.int .i32 20))))) (some (153, true)) .p), (oP 156 (.pick (T 153) (T 155) (.lit (.c (.pv (.bool false)))))), (oP 157 (.mv (T 156))),
  (.mk (some 158) (.mv (T 26)) (some (157, true)) .p), (.mk (some 159) (.mv (T 9)) (some (157, true)) .p), (.mk (some 160) (.bin .geq (T 158) (T 159)) (some
  (157, true)) .p), (oP 161 (.pick (T 157) (T 160) (.lit (.c (.pv (.bool false))))))])) (.tr (rl [1, 7, 4, 10, 0, 2, 0, 0, 101, 0, 0]) false (.cond (T 161) (.tr
  (rl [1, 7, 4, 10, 0, 2, 0, 0, 101, 0, 0]) false (.region false [(oP 162 (.mv (T 28))), (oP 31 (.mv (T 162)))])) .skip))) (.seq (.tr (rl [1, 7, 4, 10, 0, 106,
  0, 0, 33]) false (.region false [(oP 163 (.mv (T 30))), (oP 164 (.bin .neq (T 163) (tI 0))), (oP 165 (.mv (T 164))), (.mk (some 166) (.mv (T 29)) (some (165,
  false)) .p), (.mk (some 167) (.mv (T 31)) (some (165, false)) .p), (.mk (some 168) (.bin .neq (T 166) (T 167)) (some (165, false)) .p), (oP 169 (.pick (T 165)
  (.lit (.c (.pv (.bool true)))) (T 168)))])) (.tr (rl [1, 6, 0, 4, 10, 0, 106, 0, 0]) false (.cond (T 169) (.seq (.region false [(oP 8 (.mv (.lit (.c (.pv
  (.bool false))))))]) (.tr (rl [8]) false .ret)) .skip))))))))) (.tr (rl [1, 7, 4, 10, 0, 106, 0, 0]) false (.region false [(oP 170 (.bin .add (T 135) (tI
  1))), (oP 135 (.mv (T 170)))])))))
def xf3 : XFunc :=
(.mk 186 [(.tmp 8)] (.seq (.tr (rl [0, 0, 0, 0]) false (.region false [(oP 8 (.mv (.lit (.c (.pv (.bool false))))))])) (.seq (.tr (rl [0, 0, 0, 0]) false
  (.region false [(oP 34 (.mv (T 0))), (oP 35 (.mv (T 0))), (oP 36 (.len (T 35))), (oP 37 (.minI [(T 36), (tI 100)])), (oP 38 (.sliceV 6 (T 34) none (some (T
  37)) none)), (oP 0 (.mv (T 38)))])) (.seq (.region false [(oP 9 (.mv (.lit (.c (.pv (.int .i32 5))))))]) (.seq (.tr (rl [1, 0, 0, 5, 0, 0]) false (.region
  false [(oP 40 (.mv (T 0))), (oP 41 (.mv (T 1))), (oP 42 (.mv (T 9))), (oP 43 (.call false [] (.lit (.c (.fn 8 []))) [(T 40), (T 41), (T 42)])), (oP 39 (.mv (T
  43))), (oP 44 (.extr 0 (T 39))), (oP 45 (.extr 1 (T 39))), (oP 10 (.mv (T 44))), (oP 11 (.mv (T 45)))])) (.seq (.seq (.tr (rl [1, 0, 0, 5, 0, 36]) false
  (.region false [(oP 46 (.mv (T 11))), (oP 47 (.bin .neq (T 46) (tI 0)))])) (.tr (rl [1, 0, 0, 4, 0, 0]) false (.cond (T 47) (.seq (.tr (rl [8]) false (.region
  false [(oP 48 (.call false [] (.lit (.c (.fn 9 []))) [])), (oP 49 (.mv (T 48))), (.mk (some 50) (.mv (T 10)) (some (49, true)) .p), (.mk (some 51) (.len (T
  50)) (some (49, true)) .p), (.mk (some 52) (.bin .eql (T 51) (tI 0)) (some (49, true)) .p), (oP 53 (.pick (T 49) (T 52) (.lit (.c (.pv (.bool false)))))), (oP
  8 (.mv (T 53)))])) (.tr (rl [8]) false .ret)) .skip))) (.seq (.tr (rl [1, 0, 0, 5, 0, 1, 0]) false (.region false [(oP 55 (.mv (T 10))), (oP 56 (.call false
  [] (.lit (.c (.fn 10 []))) [(T 55)])), (oP 54 (.mv (T 56))), (oP 57 (.extr 0 (T 54))), (oP 58 (.extr 1 (T 54))), (oP 12 (.mv (T 57))), (oP 13 (.mv (T 58)))]))
  (.seq (.seq (.tr (rl [1, 0, 0, 5, 0, 1, 52]) false (.region false [(oP 59 (.mv (T 13))), (oP 60 (.bin .neq (T 59) (tI 0))), (oP 61 (.mv (T 60))), (.mk (some
  62) (.mv (T 10)) (some (61, false)) .p), (.mk (some 63) (.len (T 62)) (some (61, false)) .p), (.mk (some 64) (.bin .neq (T 63) (tI 16)) (some (61, false))
  .p), (oP 65 (.pick (T 61) (.lit (.c (.pv (.bool true)))) (T 64)))])) (.tr (rl [1, 0, 0, 4, 0, 0, 1]) false (.cond (T 65) (.seq (.region false [(oP 8 (.mv
  (.lit (.c (.pv (.bool false))))))]) (.tr (rl [8]) false .ret)) .skip))) (.seq (.tr (rl [1, 0, 0, 5, 0, 1, 1]) false (.region false [(oP 66 (.build [(.pv (.sl
  .nil 0 []))] [])), (oW 14 (.alloc [(.pv (.sl .nil 0 []))])), (sW (.store 1 (T 14) (T 66)))])) (.seq (.seq (.tr (rl [1, 0, 0, 5, 0, 3, 52, 0, 0]) false
  (.region false [(oP 67 (.mv (T 12))), (oP 68 (.len (T 67))), (oP 69 (.mv (tI 0)))])) (.tr (rl [1, 0, 0, 4, 0, 0, 3]) false (.block 0 (.loop (rl [1, 0, 0, 5,
  0, 3, 52, 0, 0]) xf3_l0)))) (.seq (.tr (rl [1, 0, 0, 5, 0, 3, 4]) false (.region false [(oP 93 (.faddr 0 (T 14))), (oR 94 (.load false 1 (T 93))), (oP 95
  (.len (T 94))), (oP 19 (.mv (T 95)))])) (.seq (.seq (.tr (rl [1, 0, 0, 5, 0, 3, 81, 0]) false (.region false [(oP 96 (.mv (T 19))), (oP 97 (.mv (tI 0)))]))
  (.tr (rl [1, 0, 0, 4, 0, 0, 3]) false (.block 2 (.loop (rl [1, 0, 0, 5, 0, 3, 81, 0]) xf3_l1)))) (.seq (.tr (rl [1, 7, 0, 3, 10, 0]) false (.region false [(oP
  127 (.mv (T 2))), (oP 128 (.call false [] (.lit (.c (.fn 15 []))) [(T 127), (tI 30)])), (oP 129 (.convI .i32 (T 128))), (oP 130 (.mv (T 3))), (oP 131 (.call
  false [] (.lit (.c (.fn 15 []))) [(T 130), (tI 12)])), (oP 132 (.convI .i32 (T 131))), (oP 25 (.mv (T 129))), (oP 26 (.mv (T 132)))])) (.seq (.seq (.tr (rl
  [1, 7, 4, 10, 0, 106, 0, 0]) false (.region false [(oP 133 (.mv (T 10))), (oP 134 (.len (T 133))), (oP 135 (.mv (tI 0)))])) (.tr (rl [8, 5]) false (.block 4
  (.loop (rl [1, 7, 4, 10, 0, 106, 0, 0]) xf3_l2)))) (.seq (.tr (rl [32, 0]) false (.region false [(oR 172 (.load true 1 (T 14))), (oP 173 (.call false [] (.lit
  (.c (.fn 17 []))) [(T 172)])), (oP 171 (.mv (T 173))), (oP 174 (.extr 0 (T 171))), (oP 175 (.extr 1 (T 171))), (oP 32 (.mv (T 174))), (oP 33 (.mv (T 175)))]))
  (.seq (.tr (rl [8]) false (.region false [(oP 176 (.mv (T 33))), (oP 177 (.bin .eql (T 176) (tI 0))), (oP 178 (.mv (T 177))), (.mk (some 179) (.mv (T 32))
  (some (178, true)) .p), (.mk (some 180) (.len (T 179)) (some (178, true)) .p), (.mk (some 181) (.bin .eql (T 180) (tI 0)) (some (178, true)) .p), (oP 182
  (.pick (T 178) (T 181) (.lit (.c (.pv (.bool false)))))), (oP 183 (.mv (T 182))), (.mk (some 184) (.call false [] (.lit (.c (.fn 9 []))) []) (some (183,
  true)) .p), (oP 185 (.pick (T 183) (T 184) (.lit (.c (.pv (.bool false)))))), (oP 8 (.mv (T 185)))])) (.tr (rl [8]) false .ret)))))))))))))))))
theorem xf3_ok : cmpFunc Go.Proofs.Tryd.prog 3 ((.two (.tr (rl [0, 0, 0, 0]) false .no) (.two (.tr (rl [0, 0, 0, 0]) false .no) (.two .no (.two (.tr (rl [1, 0, 0, 5, 0, 0]) false (.ops [{}, {}, {}, { cls := some .p }])) (.two (.two (.tr (rl [1, 0, 0, 5, 0, 36]) false .no) (.tr (rl [1, 0, 0, 4, 0, 0]) false (.two (.two (.tr (rl [8]) false (.ops [{ cls := some .p }])) (.tr (rl [8]) false .no)) .no))) (.two (.tr (rl [1, 0, 0, 5, 0, 1, 0]) false (.ops [{}, { cls := some .p }])) (.two (.two (.tr (rl [1, 0, 0, 5, 0, 1, 52]) false .no) (.tr (rl [1, 0, 0, 4, 0, 0, 1]) false (.two (.two .no (.tr (rl [8]) false .no)) .no))) (.two (.tr (rl [1, 0, 0, 5, 0, 1, 1]) false .no) (.two (.two (.tr (rl [1, 0, 0, 5, 0, 3, 52, 0, 0]) false .no) (.tr (rl [1, 0, 0, 4, 0, 0, 3]) false (.loop (rl [1, 0, 0, 5, 0, 3, 52, 0, 0]) (.two .no (.two (.tr (rl [1, 0, 0, 5, 0, 3, 52, 0, 0]) false (.two .no (.tr (rl [1, 0, 0, 5, 0, 3]) false .no))) (.two (.tr (rl [1, 0, 0, 4, 0, 0, 3, 52, 0, 0]) false (.two (.tr (rl [1, 0, 0, 5, 0, 3, 1, 50, 0, 0]) false .no) (.two (.tr (rl [1, 0, 0, 5, 0, 3, 2, 0, 48, 0, 0]) false (.draw [0, 1, 2, 3, 4, 5, 6, 7, 8, 9, 10, 11, 12, 13, 14, 15, 16, 17, 18] [{}, {}, {}, {}, {}, {}, {}, {}, {}, {}, {}, { cls := some .p }, { cls := some .p }])) (.two (.two (.tr (rl [1, 0, 0, 5, 0, 3, 2, 49, 0, 0, 20]) false .no) (.tr (rl [1, 0, 0, 4, 0, 0, 3, 2, 49, 0, 0]) false (.two (.two .no (.tr (rl [8]) false .no)) .no))) (.tr (rl [1, 0, 0, 5, 0, 3, 52, 0, 0]) false .no))))) (.tr (rl [1, 0, 0, 5, 0, 3, 52, 0, 0]) false .no))))))) (.two (.tr (rl [1, 0, 0, 5, 0, 3, 4]) false .no) (.two (.two (.tr (rl [1, 0, 0, 5, 0, 3, 81, 0]) false .no) (.tr (rl [1, 0, 0, 4, 0, 0, 3]) false (.loop (rl [1, 0, 0, 5, 0, 3, 81, 0]) (.two .no (.two (.tr (rl [1, 0, 0, 5, 0, 3, 81, 0]) false (.two .no (.tr (rl [1, 0, 0, 5, 0, 3]) false .no))) (.two (.tr (rl [1, 0, 0, 4, 0, 0, 3, 81, 0]) false (.two (.tr (rl [1, 0, 0, 5, 0, 3, 5, 75, 0]) false .no) (.two (.tr (rl [1, 0, 0, 5, 0, 3, 6, 0, 73, 0]) false (.draw [0, 1, 2, 3, 4, 5, 6, 7, 8, 9, 10, 11, 12, 13, 14, 15] [{}, {}, {}, {}, {}, {}, {}, {}, {}, { cls := some .p }])) (.two (.tr (rl [1, 0, 0, 5, 0, 3, 7, 0, 0, 71, 0]) false (.ops [{}, {}, { cls := some .p }])) (.two (.two (.tr (rl [1, 0, 0, 5, 0, 3, 8, 72, 0, 26]) false .no) (.tr (rl [1, 0, 0, 4, 0, 0, 3, 8, 72, 0]) false (.two (.two .no (.tr (rl [8]) false .no)) .no))) (.tr (rl [1, 0, 0, 5, 0, 3, 81, 0]) false .no)))))) (.tr (rl [1, 0, 0, 5, 0, 3, 81, 0]) false .no))))))) (.two (.tr (rl [1, 7, 0, 3, 10, 0]) false (.ops [{}, { cls := some .p }, {}, {}, { cls := some .p }])) (.two (.two (.tr (rl [1, 7, 4, 10, 0, 106, 0, 0]) false .no) (.tr (rl [8, 5]) false (.loop (rl [1, 7, 4, 10, 0, 106, 0, 0]) (.two .no (.two (.tr (rl [1, 7, 4, 10, 0, 106, 0, 0]) false (.two .no (.tr (rl [14]) false .no))) (.two (.tr (rl [1, 6, 0, 4, 10, 0, 106, 0, 0]) false (.two (.tr (rl [1, 7, 4, 10, 0, 0, 0, 104, 0, 0]) false .no) (.two (.tr (rl [1, 7, 4, 10, 0, 1, 0, 0, 102, 0, 0]) false (.ops [{}, {}, {}, {}, {}, {}, {}, { cls := some .p }])) (.two .no (.two (.two (.tr (rl [1, 7, 4, 10, 0, 1, 0, 0, 0, 101, 0, 0, 25]) false .no) (.tr (rl [1, 7, 4, 10, 0, 2, 0, 0, 101, 0, 0]) false (.two (.tr (rl [1, 7, 4, 10, 0, 2, 0, 0, 101, 0, 0]) false .no) .no))) (.two (.tr (rl [1, 7, 4, 10, 0, 106, 0, 0, 33]) false .no) (.tr (rl [1, 6, 0, 4, 10, 0, 106, 0, 0]) false (.two (.two .no (.tr (rl [8]) false .no)) .no)))))))) (.tr (rl [1, 7, 4, 10, 0, 106, 0, 0]) false .no))))))) (.two (.tr (rl [32, 0]) false (.ops [{}, { cls := some .p }])) (.two (.tr (rl [8]) false (.ops [{}, {}, {}, {}, {}, {}, {}, {}, { cls := some .p }])) (.tr (rl [8]) false .no))))))))))))))))) = some xf3 := by kernel_rfl
def xf8 : XFunc :=
(.mk 20 [(.tmp 6), (.tmp 7)] (.seq (.tr (rl [0, 0, 0]) false (.region false [(oP 6 (.mv (.lit (.c (.pv (.sl .nil 0 [])))))), (oP 7 (.mv (tI 0)))])) (.seq (.seq
  (.tr (rl [0, 0, 0, 5]) false (.region false [(oP 9 (.mv (T 0))), (oP 10 (.mv (T 1))), (oP 11 (.mv (T 2))), (oP 12 (.call false [] (.lit (.c (.fn 33 []))) [(T
  9), (T 10), (T 11)])), (oP 8 (.mv (T 12)))])) (.seq (.tr (rl [0, 0, 0, 5, 5]) false (.region false [(oP 13 (.mv (T 8))), (oP 14 (.bin .neq (T 13) (tI 0)))]))
  (.tr (rl [0, 0, 0, 3, 0]) false (.cond (T 14) (.seq (.tr (rl [6, 0]) false (.region false [(oP 15 (.mv (T 8))), (oP 6 (.mv (.lit (.c (.pv (.sl .nil 0
  [])))))), (oP 7 (.mv (T 15)))])) (.tr (rl [6, 0]) false .ret)) .skip)))) (.seq (.tr (rl [6, 0]) false (.region false [(oP 16 (.mv (T 0))), (oP 17 (.mv (T
  1))), (oP 18 (.mv (T 2))), (oP 19 (.call false [] (.lit (.c (.fn 34 []))) [(T 16), (T 17), (T 18)])), (oP 6 (.mv (T 19))), (oP 7 (.mv (tI 0)))])) (.tr (rl [6,
  0]) false .ret)))))
theorem xf8_ok : cmpFunc Go.Proofs.Tryd.prog 8 ((.two (.tr (rl [0, 0, 0]) false .no) (.two (.two (.tr (rl [0, 0, 0, 5]) false (.ops [{}, {}, {}, { cls := some .p }])) (.two (.tr (rl [0, 0, 0, 5, 5]) false .no) (.tr (rl [0, 0, 0, 3, 0]) false (.two (.two (.tr (rl [6, 0]) false .no) (.tr (rl [6, 0]) false .no)) .no)))) (.two (.tr (rl [6, 0]) false (.ops [{}, {}, {}, { cls := some .p }])) (.tr (rl [6, 0]) false .no))))) = some xf8 := by kernel_rfl
def xf9 : XFunc :=
(.mk 52 [(.tmp 0)] (.seq (.tr [] false (.region false [(oP 0 (.mv (.lit (.c (.pv (.bool false))))))])) (.seq (.tr (rl [1, 0]) false (.region false [(oP 9
  (.build [(.pv (.sl .nil 0 []))] [])), (oP 10 (.call false [] (.lit (.c (.fn 12 []))) [(tI 1), (tI 2), (tI 0), (tI 30), (.lit (.c (.pv (.int .i32 5)))), (.lit
  (.c (.pv (.int .i32 3))))])), (oP 11 (.call false [] (.lit (.c (.fn 11 []))) [(T 9), (T 10)])), (oP 8 (.mv (T 11))), (oP 12 (.extr 0 (T 8))), (oP 13 (.extr 1
  (T 8))), (oW 1 (.alloc [(.pv (.sl .nil 0 []))])), (sW (.store 1 (T 1) (T 12))), (oP 2 (.mv (T 13)))])) (.seq (.tr (rl [1, 0, 0]) false (.region true [(oR 15
  (.load true 1 (T 1))), (oP 16 (.call false [] (.lit (.c (.fn 12 []))) [(tI 2), (tI 1), (tI 0), (tI 10), (.lit (.c (.pv (.int .i32 9)))), (.lit (.c (.pv (.int
  .i32 4))))])), (oP 17 (.call false [] (.lit (.c (.fn 11 []))) [(T 15), (T 16)])), (oP 14 (.mv (T 17))), (oP 18 (.extr 0 (T 14))), (oP 19 (.extr 1 (T 14))),
  (sW (.store 1 (T 1) (T 18))), (oP 3 (.mv (T 19)))])) (.seq (.tr (rl [1, 0, 0, 0, 0]) false (.region false [(oP 21 (.faddr 0 (T 1))), (oR 22 (.load false 1 (T
  21))), (oP 23 (.call false [] (.lit (.c (.fn 16 []))) [(T 22), (tI 2), (tI 0), (.lit (.c (.pv (.int .i32 5)))), (.lit (.c (.pv (.int .i32 9))))])), (oP 20
  (.mv (T 23))), (oP 24 (.extr 0 (T 20))), (oP 25 (.extr 1 (T 20))), (oP 4 (.mv (T 24))), (oP 5 (.mv (T 25)))])) (.seq (.tr (rl [2, 0, 0, 0, 0, 0]) false
  (.region false [(oP 27 (.faddr 0 (T 1))), (oR 28 (.load false 1 (T 27))), (oP 29 (.call false [] (.lit (.c (.fn 32 []))) [(T 28), (tI 2), (tI 0), (.lit (.c
  (.pv (.int .i32 9))))])), (oP 26 (.mv (T 29))), (oP 30 (.extr 0 (T 26))), (oP 31 (.extr 1 (T 26))), (oP 6 (.mv (T 30))), (oP 7 (.mv (T 31)))])) (.seq (.tr (rl
  [0]) false (.region false [(oP 32 (.mv (T 2))), (oP 33 (.mv (T 32))), (.mk (some 34) (.mv (T 3)) (some (33, true)) .p), (oP 35 (.pick (T 33) (T 34) (.lit (.c
  (.pv (.bool false)))))), (oP 36 (.mv (T 35))), (.mk (some 37) (.mv (T 5)) (some (36, true)) .p), (.mk (some 38) (.bin .eql (T 37) (tI 0)) (some (36, true))
  .p), (oP 39 (.pick (T 36) (T 38) (.lit (.c (.pv (.bool false)))))), (oP 40 (.mv (T 39))), (.mk (some 41) (.mv (T 7)) (some (40, true)) .p), (.mk (some 42)
  (.bin .eql (T 41) (tI 0)) (some (40, true)) .p), (oP 43 (.pick (T 40) (T 42) (.lit (.c (.pv (.bool false)))))), (oP 44 (.mv (T 43))), (.mk (some 45) (.mv (T
  4)) (some (44, true)) .p), (.mk (some 46) (.bin .eql (T 45) (tI 30)) (some (44, true)) .p), (oP 47 (.pick (T 44) (T 46) (.lit (.c (.pv (.bool false)))))), (oP
  48 (.mv (T 47))), (.mk (some 49) (.mv (T 6)) (some (48, true)) .p), (.mk (some 50) (.bin .eql (T 49) (tI 20)) (some (48, true)) .p), (oP 51 (.pick (T 48) (T
  50) (.lit (.c (.pv (.bool false)))))), (oP 0 (.mv (T 51)))])) (.tr (rl [0]) false .ret))))))))
theorem xf9_ok : cmpFunc Go.Proofs.Tryd.prog 9 ((.two (.tr [] false .no) (.two (.tr (rl [1, 0]) false (.ops [{}, { cls := some .p }, { cls := some .p }])) (.two (.tr (rl [1, 0, 0]) false (.draw [0, 1, 2, 3, 4, 5, 6, 7] [{}, { cls := some .p }, { cls := some .p }])) (.two (.tr (rl [1, 0, 0, 0, 0]) false (.ops [{}, {}, { cls := some .p }])) (.two (.tr (rl [2, 0, 0, 0, 0, 0]) false (.ops [{}, {}, { cls := some .p }])) (.two (.tr (rl [0]) false .no) (.tr (rl [0]) false .no)))))))) = some xf9 := by kernel_rfl
def xf10_l0 : XCode :=
(.seq (.region false [(oP 10 (.bin .lss (T 9) (T 8)))]) (.seq (.tr (rl [0, 3, 2, 0, 0]) false (.cond (T 10) .skip (.tr (rl [0, 3]) false (.exit 0)))) (.seq (.tr
  (rl [0, 1, 0, 0, 2, 0, 0]) false (.block 1 (.seq (.tr (rl [0, 3, 1, 0, 0, 0]) false (.region false [(oP 11 (.iaddrS 1 (T 7) (T 9))), (oR 12 (.load false 1 (T
  11))), (oP 6 (.mv (T 12)))])) (.seq (.seq (.tr (rl [0, 3, 1, 0, 0, 0, 8]) false (.region false [(oP 13 (.mv (T 6))), (oP 14 (.bin .lss (T 13) (.lit (.c (.pv
  (.int .i64 (-300000000000000))))))), (oP 15 (.mv (T 14))), (.mk (some 16) (.mv (T 6)) (some (15, false)) .p), (.mk (some 17) (.bin .gtr (T 16) (tI
  300000000000000)) (some (15, false)) .p), (oP 18 (.pick (T 15) (.lit (.c (.pv (.bool true)))) (T 17)))])) (.tr (rl [0, 1, 0, 0, 1, 0, 0, 0]) false (.cond (T
  18) (.seq (.region false [(oP 2 (.mv (.lit (.c (.pv (.sl .nil 0 [])))))), (oP 3 (.mv (tI 1)))]) (.tr (rl [2, 0]) false .ret)) .skip))) (.tr (rl [0, 3, 2, 0,
  0]) false (.region false [(oP 19 (.mv (T 4))), (oP 20 (.mv (T 6))), (oP 21 (.bin .add (T 19) (T 20))), (oP 4 (.mv (T 21)))])))))) (.tr (rl [0, 3, 2, 0, 0])
  false (.region false [(oP 22 (.bin .add (T 9) (tI 1))), (oP 9 (.mv (T 22)))])))))
def xf10 : XFunc :=
(.mk 32 [(.tmp 2), (.tmp 3)] (.seq (.tr (rl [0]) false (.region false [(oP 2 (.mv (.lit (.c (.pv (.sl .nil 0 [])))))), (oP 3 (.mv (tI 0)))])) (.seq (.region
  false [(oP 4 (.mv (tI 0)))]) (.seq (.seq (.region false [(oP 7 (.mv (T 0))), (oP 8 (.len (T 7))), (oP 9 (.mv (tI 0)))]) (.tr (rl [0, 1, 0, 0]) false (.block 0
  (.loop (rl [0, 3, 2, 0, 0]) xf10_l0)))) (.seq (.tr (rl [0, 1, 0]) false (.block 2 (.seq (.tr (rl [0, 3, 18]) false (.region false [(oP 24 (.mv (T 0))), (oP 25
  (.len (T 24))), (oP 26 (.bin .neq (T 25) (tI 16))), (oP 23 (.mv (T 26)))])) (.tr (rl [0, 1, 0]) false (.cond (T 23) (.seq (.region false [(oP 2 (.mv (.lit (.c
  (.pv (.sl .nil 0 [])))))), (oP 3 (.mv (tI 1)))]) (.tr (rl [2, 0]) false .ret)) (.seq (.tr (rl [0, 26]) false (.region false [(oP 28 (.mv (T 4))), (oP 29 (.bin
  .neq (T 28) (tI 0))), (oP 27 (.mv (T 29)))])) (.tr (rl [0, 1, 0]) false (.cond (T 27) (.seq (.region false [(oP 2 (.mv (.lit (.c (.pv (.sl .nil 0 [])))))),
  (oP 3 (.mv (tI 15)))]) (.tr (rl [2, 0]) false .ret)) .skip)))))))) (.seq (.tr (rl [2, 0]) false (.region false [(oP 30 (.mv (T 0))), (oP 31 (.call false []
  (.lit (.c (.fn 35 []))) [(T 30)])), (oP 2 (.mv (T 31))), (oP 3 (.mv (tI 0)))])) (.tr (rl [2, 0]) false .ret)))))))
theorem xf10_ok : cmpFunc Go.Proofs.Tryd.prog 10 ((.two (.tr (rl [0]) false .no) (.two .no (.two (.two .no (.tr (rl [0, 1, 0, 0]) false (.loop (rl [0, 3, 2, 0, 0]) (.two .no (.two (.tr (rl [0, 3, 2, 0, 0]) false (.two .no (.tr (rl [0, 3]) false .no))) (.two (.tr (rl [0, 1, 0, 0, 2, 0, 0]) false (.two (.tr (rl [0, 3, 1, 0, 0, 0]) false .no) (.two (.two (.tr (rl [0, 3, 1, 0, 0, 0, 8]) false .no) (.tr (rl [0, 1, 0, 0, 1, 0, 0, 0]) false (.two (.two .no (.tr (rl [2, 0]) false .no)) .no))) (.tr (rl [0, 3, 2, 0, 0]) false .no)))) (.tr (rl [0, 3, 2, 0, 0]) false .no))))))) (.two (.tr (rl [0, 1, 0]) false (.two (.tr (rl [0, 3, 18]) false .no) (.tr (rl [0, 1, 0]) false (.two (.two .no (.tr (rl [2, 0]) false .no)) (.two (.tr (rl [0, 26]) false .no) (.tr (rl [0, 1, 0]) false (.two (.two .no (.tr (rl [2, 0]) false .no)) .no))))))) (.two (.tr (rl [2, 0]) false (.ops [{}, { cls := some .p }])) (.tr (rl [2, 0]) false .no))))))) = some xf10 := by kernel_rfl
def xf11 : XFunc :=
(.mk 23 [(.cell 4 true 1), (.tmp 5)] (.seq (.tr (rl [2, 0, 0]) false (.region false [(oW 2 (.box (T 0) 1)), (oW 3 (.box (T 1) 7)), (oW 4 (.alloc [(.pv (.sl .nil
  0 []))])), (oP 5 (.mv (.lit (.c (.pv (.bool false))))))])) (.seq (.tr (rl [2, 0, 0]) false (.region false [(oP 8 (.faddr 0 (T 2))), (oR 9 (.load false 1 (T
  8))), (oP 10 (.len (T 9))), (oP 11 (.bin .add (T 10) (tI 1))), (oP 12 (.faddr 0 (T 3))), (sW (.store 1 (T 12) (T 11)))])) (.seq (.tr (rl [2, 1, 1, 0]) false
  (.region false [(oR 14 (.load true 1 (T 2))), (oR 15 (.load true 7 (T 3))), (oP 16 (.call false [] (.lit (.c (.fn 14 []))) [(T 14), (T 15)])), (oP 13 (.mv (T
  16))), (oP 17 (.extr 0 (T 13))), (oP 18 (.extr 1 (T 13))), (oW 6 (.alloc [(.pv (.sl .nil 0 []))])), (sW (.store 1 (T 6) (T 17))), (oP 7 (.mv (T 18)))])) (.seq
  (.seq (.tr (rl [2, 1, 1, 13]) false (.region false [(oP 19 (.mv (T 7))), (oP 20 (.bin .neq (T 19) (tI 0)))])) (.tr (rl [4, 0, 0]) false (.cond (T 20) (.seq
  (.tr (rl [4, 0]) false (.region false [(oR 21 (.load true 1 (T 2))), (sW (.store 1 (T 4) (T 21))), (oP 5 (.mv (.lit (.c (.pv (.bool false))))))])) (.tr (rl
  [4, 0]) false .ret)) .skip))) (.seq (.tr (rl [4, 0]) false (.region false [(oR 22 (.load true 1 (T 6))), (sW (.store 1 (T 4) (T 22))), (oP 5 (.mv (.lit (.c
  (.pv (.bool true))))))])) (.tr (rl [4, 0]) false .ret)))))))
theorem xf11_ok : cmpFunc Go.Proofs.Tryd.prog 11 ((.two (.tr (rl [2, 0, 0]) false .no) (.two (.tr (rl [2, 0, 0]) false .no) (.two (.tr (rl [2, 1, 1, 0]) false (.ops [{}, {}, { cls := some .p }])) (.two (.two (.tr (rl [2, 1, 1, 13]) false .no) (.tr (rl [4, 0, 0]) false (.two (.two (.tr (rl [4, 0]) false .no) (.tr (rl [4, 0]) false .no)) .no))) (.two (.tr (rl [4, 0]) false .no) (.tr (rl [4, 0]) false .no))))))) = some xf11 := by kernel_rfl
def xf12 : XFunc :=
(.mk 28 [(.cell 12 true 7)] (.seq (.region false [(oW 12 (.alloc [(.pv (.int .i64 0)), (.pv (.int .i32 0)), (.pv (.int .i32 0)), (.pv (.sl .nil 0 [])), (.pv
  (.int .i64 0)), (.pv (.int .i64 0)), (.pv (.str []))]))]) (.seq (.tr (rl [12]) false (.region false [(oP 13 (.mv (T 4))), (oP 14 (.mv (T 5))), (oP 15 (.mv (T
  0))), (oP 16 (.mv (T 2))), (oP 17 (.mv (T 3))), (oP 18 (.un .neg (T 17))), (oP 19 (.build [(.pv (.int .i64 0)), (.pv (.int .i64 0))] [(0, (1, (T 16))), (1,
  (1, (T 18)))])), (oP 20 (.build [(.pv (.int .i64 0)), (.pv (.int .i64 0)), (.pv (.int .i64 0))] [(0, (1, (T 15))), (1, (2, (T 19)))])), (oP 21 (.mv (T 1))),
  (oP 22 (.mv (T 2))), (oP 23 (.mv (T 3))), (oP 24 (.build [(.pv (.int .i64 0)), (.pv (.int .i64 0))] [(0, (1, (T 22))), (1, (1, (T 23)))])), (oP 25 (.build
  [(.pv (.int .i64 0)), (.pv (.int .i64 0)), (.pv (.int .i64 0))] [(0, (1, (T 21))), (1, (2, (T 24)))])), (oP 26 (.buildSl [(.pv (.int .i64 0)), (.pv (.int .i64
  0)), (.pv (.int .i64 0))] 2 3 [(0, (3, (T 20))), (3, (3, (T 25)))])), (oP 27 (.build [(.pv (.int .i64 0)), (.pv (.int .i32 0)), (.pv (.int .i32 0)), (.pv (.sl
  .nil 0 [])), (.pv (.int .i64 0)), (.pv (.int .i64 0)), (.pv (.str []))] [(1, (1, (T 13))), (2, (1, (T 14))), (3, (1, (T 26)))])), (sW (.store 7 (T 12) (T
  27)))])) (.tr (rl [12]) false .ret))))
theorem xf12_ok : cmpFunc Go.Proofs.Tryd.prog 12 ((.two .no (.two (.tr (rl [12]) false .no) (.tr (rl [12]) false .no)))) = some xf12 := by kernel_rfl
def xf13_l0 : XCode :=
(.seq (.region false [(oP 45 (.bin .lss (T 44) (T 43)))]) (.seq (.tr (rl [6, 2, 33, 0]) false (.cond (T 45) .skip (.tr (rl [6, 2]) false (.exit 0)))) (.seq (.tr
  (rl [6, 2, 33, 0]) false (.block 1 (.seq (.tr (rl [6, 2, 0, 32, 0]) false (.region false [(oP 46 (.mv (T 44))), (oP 10 (.mv (T 46)))])) (.tr (rl [6, 2, 33,
  0]) false (.region true [(oP 47 (.faddr 3 (T 9))), (oR 48 (.load false 1 (T 47))), (oP 49 (.mv (T 10))), (oP 50 (.faddr 3 (T 9))), (oR 51 (.load false 1 (T
  50))), (oP 52 (.mv (T 10))), (oP 53 (.iaddrS 3 (T 51) (T 52))), (oP 54 (.faddr 1 (T 53))), (oP 55 (.faddr 1 (T 54))), (oR 56 (.load false 1 (T 55))), (oP 57
  (.un .neg (T 56))), (oP 58 (.iaddrS 3 (T 48) (T 49))), (oP 59 (.faddr 1 (T 58))), (oP 60 (.faddr 1 (T 59))), (sW (.store 1 (T 60) (T 57)))]))))) (.tr (rl [6,
  2, 33, 0]) false (.region false [(oP 61 (.bin .add (T 44) (tI 1))), (oP 44 (.mv (T 61)))])))))
def xf13 : XFunc :=
(.mk 69 [(.cell 6 true 7), (.tmp 7)] (.seq (.tr (rl [1, 0, 0, 2]) false (.region false [(oW 3 (.box (T 0) 7)), (oW 6 (.alloc [(.pv (.int .i64 0)), (.pv (.int
  .i32 0)), (.pv (.int .i32 0)), (.pv (.sl .nil 0 [])), (.pv (.int .i64 0)), (.pv (.int .i64 0)), (.pv (.str []))])), (oP 7 (.mv (tI 0)))])) (.seq (.seq (.tr
  (rl [1, 0, 0, 2, 1]) false (.region false [(oR 12 (.load true 7 (T 3))), (oP 13 (.call false [] (.lit (.c (.fn 36 []))) [(T 12)])), (oP 8 (.mv (T 13)))]))
  (.seq (.tr (rl [1, 0, 0, 2, 1, 6]) false (.region false [(oP 14 (.mv (T 8))), (oP 15 (.bin .neq (T 14) (tI 0)))])) (.tr (rl [1, 0, 0, 2, 0]) false (.cond (T
  15) (.seq (.tr (rl [6, 0]) false (.region false [(oP 16 (.build [(.pv (.int .i64 0)), (.pv (.int .i32 0)), (.pv (.int .i32 0)), (.pv (.sl .nil 0 [])), (.pv
  (.int .i64 0)), (.pv (.int .i64 0)), (.pv (.str []))] [])), (oP 17 (.mv (T 8))), (sW (.store 7 (T 6) (T 16))), (oP 7 (.mv (T 17)))])) (.tr (rl [6, 0]) false
  .ret)) .skip)))) (.seq (.seq (.tr (rl [1, 0, 0, 2, 20]) false (.region false [(oP 18 (.mv (T 1))), (oP 19 (.faddr 0 (T 3))), (oR 20 (.load false 1 (T 19))),
  (oP 21 (.bin .leq (T 18) (T 20))), (oP 22 (.mv (T 21))), (.mk (some 23) (.mv (T 2)) (some (22, false)) .p), (.mk (some 24) (.faddr 1 (T 3)) (some (22, false))
  .p), (.mk (some 25) (.load false 1 (T 24)) (some (22, false)) .r), (.mk (some 26) (.bin .lss (T 23) (T 25)) (some (22, false)) .p), (oP 27 (.pick (T 22) (.lit
  (.c (.pv (.bool true)))) (T 26)))])) (.tr (rl [1, 0, 0, 2, 0]) false (.cond (T 27) (.seq (.tr (rl [6, 0]) false (.region false [(oP 28 (.build [(.pv (.int
  .i64 0)), (.pv (.int .i32 0)), (.pv (.int .i32 0)), (.pv (.sl .nil 0 [])), (.pv (.int .i64 0)), (.pv (.int .i64 0)), (.pv (.str []))] [])), (sW (.store 7 (T
  6) (T 28))), (oP 7 (.mv (tI 20)))])) (.tr (rl [6, 0]) false .ret)) .skip))) (.seq (.tr (rl [1, 0, 0, 2, 2]) false (.region false [(oR 29 (.load true 7 (T
  3))), (oW 9 (.alloc [(.pv (.int .i64 0)), (.pv (.int .i32 0)), (.pv (.int .i32 0)), (.pv (.sl .nil 0 [])), (.pv (.int .i64 0)), (.pv (.int .i64 0)), (.pv
  (.str []))])), (sW (.store 7 (T 9) (T 29)))])) (.seq (.tr (rl [6, 2]) false (.region true [(oP 30 (.mv (T 1))), (oP 31 (.mv (T 2))), (oP 32 (.faddr 0 (T 3))),
  (oR 33 (.loadR false 1 (T 32) (T 3))), (oP 34 (.faddr 3 (T 3))), (oR 35 (.load false 1 (T 34))), (oP 37 (.faddr 0 (T 9))), (oW 36 (.callM (.lit (.c (.fn 37
  []))) [(T 35)])), (sW (.storeO 1 (T 37) (T 30) (T 3))), (oP 38 (.faddr 1 (T 9))), (sW (.storeO 1 (T 38) (T 31) (T 3))), (oP 39 (.faddr 4 (T 9))), (sW (.store
  1 (T 39) (T 33))), (oP 40 (.faddr 3 (T 9))), (sW (.store 1 (T 40) (T 36)))])) (.seq (.seq (.tr (rl [6, 2, 33, 0]) false (.region false [(oP 41 (.faddr 3 (T
  9))), (oR 42 (.load false 1 (T 41))), (oP 43 (.len (T 42))), (oP 44 (.mv (tI 0)))])) (.tr (rl [6, 2]) false (.block 0 (.loop (rl [6, 2, 33, 0]) xf13_l0))))
  (.seq (.seq (.tr (rl [6, 2, 1]) false (.region false [(oR 62 (.load true 7 (T 9))), (oW 63 (.call true [] (.lit (.c (.fn 36 []))) [(T 62)])), (oP 11 (.mv (T
  63)))])) (.seq (.tr (rl [6, 2, 1, 53]) false (.region false [(oP 64 (.mv (T 11))), (oP 65 (.bin .neq (T 64) (tI 0)))])) (.tr (rl [6, 0, 1]) false (.cond (T
  65) (.seq (.tr (rl [6, 0]) false (.region false [(oP 66 (.build [(.pv (.int .i64 0)), (.pv (.int .i32 0)), (.pv (.int .i32 0)), (.pv (.sl .nil 0 [])), (.pv
  (.int .i64 0)), (.pv (.int .i64 0)), (.pv (.str []))] [])), (oP 67 (.mv (T 11))), (sW (.store 7 (T 6) (T 66))), (oP 7 (.mv (T 67)))])) (.tr (rl [6, 0]) false
  .ret)) .skip)))) (.seq (.tr (rl [6, 0]) false (.region false [(oR 68 (.load true 7 (T 9))), (sW (.store 7 (T 6) (T 68))), (oP 7 (.mv (tI 0)))])) (.tr (rl [6,
  0]) false .ret))))))))))
theorem xf13_ok : cmpFunc Go.Proofs.Tryd.prog 13 ((.two (.tr (rl [1, 0, 0, 2]) false .no) (.two (.two (.tr (rl [1, 0, 0, 2, 1]) false (.ops [{}, { cls := some .p }])) (.two (.tr (rl [1, 0, 0, 2, 1, 6]) false .no) (.tr (rl [1, 0, 0, 2, 0]) false (.two (.two (.tr (rl [6, 0]) false .no) (.tr (rl [6, 0]) false .no)) .no)))) (.two (.two (.tr (rl [1, 0, 0, 2, 20]) false .no) (.tr (rl [1, 0, 0, 2, 0]) false (.two (.two (.tr (rl [6, 0]) false .no) (.tr (rl [6, 0]) false .no)) .no))) (.two (.tr (rl [1, 0, 0, 2, 2]) false .no) (.two (.tr (rl [6, 2]) false (.draw [0, 1, 2, 3, 4, 5, 7, 6, 8, 9, 10, 11, 12, 13, 14] [{}, {}, {}, { root := some 3 }, {}, {}, { own := true }, {}, { root := some 3 }, {}, { root := some 3 }])) (.two (.two (.tr (rl [6, 2, 33, 0]) false .no) (.tr (rl [6, 2]) false (.loop (rl [6, 2, 33, 0]) (.two .no (.two (.tr (rl [6, 2, 33, 0]) false (.two .no (.tr (rl [6, 2]) false .no))) (.two (.tr (rl [6, 2, 33, 0]) false (.two (.tr (rl [6, 2, 0, 32, 0]) false .no) (.tr (rl [6, 2, 33, 0]) false (.draw [0, 1, 2, 3, 4, 5, 6, 7, 8, 9, 10, 11, 12, 13, 14] [])))) (.tr (rl [6, 2, 33, 0]) false .no))))))) (.two (.two (.tr (rl [6, 2, 1]) false (.ops [{}, { fz := true }])) (.two (.tr (rl [6, 2, 1, 53]) false .no) (.tr (rl [6, 0, 1]) false (.two (.two (.tr (rl [6, 0]) false .no) (.tr (rl [6, 0]) false .no)) .no)))) (.two (.tr (rl [6, 0]) false .no) (.tr (rl [6, 0]) false .no)))))))))) = some xf13 := by kernel_rfl
def xf14 : XFunc :=
(.mk 39 [(.cell 4 true 1), (.tmp 5)] (.seq (.tr (rl [2, 0, 0]) false (.region false [(oW 2 (.box (T 0) 1)), (oW 3 (.box (T 1) 7)), (oW 4 (.alloc [(.pv (.sl .nil
  0 []))])), (oP 5 (.mv (tI 0)))])) (.seq (.seq (.tr (rl [2, 0, 0, 6]) false (.region false [(oR 9 (.load true 1 (T 2))), (oP 10 (.call false [] (.lit (.c (.fn
  38 []))) [(T 9)])), (oP 11 (.un .not (T 10)))])) (.tr (rl [2, 0, 0, 0]) false (.cond (T 11) (.seq (.tr (rl [4, 0]) false (.region false [(oP 12 (.build [(.pv
  (.sl .nil 0 []))] [])), (sW (.store 1 (T 4) (T 12))), (oP 5 (.mv (tI 1)))])) (.tr (rl [4, 0]) false .ret)) .skip))) (.seq (.seq (.tr (rl [2, 0, 0, 1]) false
  (.region false [(oR 13 (.load true 7 (T 3))), (oP 14 (.call false [] (.lit (.c (.fn 36 []))) [(T 13)])), (oP 6 (.mv (T 14)))])) (.seq (.tr (rl [2, 0, 0, 1,
  9]) false (.region false [(oP 15 (.mv (T 6))), (oP 16 (.bin .neq (T 15) (tI 0)))])) (.tr (rl [2, 0, 0, 0]) false (.cond (T 16) (.seq (.tr (rl [4, 0]) false
  (.region false [(oP 17 (.build [(.pv (.sl .nil 0 []))] [])), (oP 18 (.mv (T 6))), (sW (.store 1 (T 4) (T 17))), (oP 5 (.mv (T 18)))])) (.tr (rl [4, 0]) false
  .ret)) .skip)))) (.seq (.seq (.tr (rl [2, 0, 0, 2]) false (.region true [(oP 19 (.faddr 0 (T 2))), (oR 20 (.loadR false 1 (T 19) (T 2))), (oP 21 (.faddr 0 (T
  2))), (oR 22 (.load false 1 (T 21))), (oR 24 (.loadR true 7 (T 3) (T 3))), (oW 23 (.call false [(T 2), (T 3)] (.lit (.c (.fn 40 []))) [(T 22)])), (oW 25
  (.call false [] (.lit (.c (.fn 39 []))) [(T 20), (T 23), (T 24)])), (oP 7 (.mv (T 25)))])) (.seq (.tr (rl [2, 0, 0, 2, 19]) false (.region false [(oP 26 (.mv
  (T 7))), (oP 27 (.bin .neq (T 26) (tI 0)))])) (.tr (rl [2, 0, 0, 0]) false (.cond (T 27) (.seq (.tr (rl [4, 0]) false (.region false [(oP 28 (.build [(.pv
  (.sl .nil 0 []))] [])), (oP 29 (.mv (T 7))), (sW (.store 1 (T 4) (T 28))), (oP 5 (.mv (T 29)))])) (.tr (rl [4, 0]) false .ret)) .skip)))) (.seq (.region false
  [(oP 8 (.mv (.lit (.c (.fn 41 [])))))]) (.seq (.tr (rl [4, 0]) false (.region true [(oP 30 (.faddr 0 (T 2))), (oR 31 (.load false 1 (T 30))), (oP 32 (.mv (T
  8))), (oR 34 (.loadR true 7 (T 3) (T 3))), (oW 33 (.call false [(T 3)] (.lit (.c (.fn 42 []))) [(T 31), (T 32)])), (oP 35 (.call false [] (.lit (.c (.fn 43
  []))) [(T 34)])), (oP 36 (.buildSl [(.pv (.int .i64 0)), (.pv (.int .i32 0)), (.pv (.int .i32 0)), (.pv (.sl .nil 0 [])), (.pv (.int .i64 0)), (.pv (.int .i64
  0)), (.pv (.str []))] 1 7 [(0, (7, (T 35)))])), (oW 37 (.app 7 72 (T 33) (T 36))), (oP 38 (.build [(.pv (.sl .nil 0 []))] [(0, (1, (T 37)))])), (sW (.store 1
  (T 4) (T 38))), (oP 5 (.mv (tI 0)))])) (.tr (rl [4, 0]) false .ret))))))))
theorem xf14_ok : cmpFunc Go.Proofs.Tryd.prog 14 ((.two (.tr (rl [2, 0, 0]) false .no) (.two (.two (.tr (rl [2, 0, 0, 6]) false (.ops [{}, { cls := some .p }])) (.tr (rl [2, 0, 0, 0]) false (.two (.two (.tr (rl [4, 0]) false .no) (.tr (rl [4, 0]) false .no)) .no))) (.two (.two (.tr (rl [2, 0, 0, 1]) false (.ops [{}, { cls := some .p }])) (.two (.tr (rl [2, 0, 0, 1, 9]) false .no) (.tr (rl [2, 0, 0, 0]) false (.two (.two (.tr (rl [4, 0]) false .no) (.tr (rl [4, 0]) false .no)) .no)))) (.two (.two (.tr (rl [2, 0, 0, 2]) false (.draw [0, 1, 2, 3, 5, 4, 6, 7] [{}, { root := some 2 }, {}, {}, { ap := [2, 3] }, { root := some 3 }])) (.two (.tr (rl [2, 0, 0, 2, 19]) false .no) (.tr (rl [2, 0, 0, 0]) false (.two (.two (.tr (rl [4, 0]) false .no) (.tr (rl [4, 0]) false .no)) .no)))) (.two .no (.two (.tr (rl [4, 0]) false (.draw [0, 1, 2, 4, 3, 5, 6, 7, 8, 9, 10] [{}, {}, {}, { ap := [3] }, { root := some 3 }, { cls := some .p }])) (.tr (rl [4, 0]) false .no)))))))) = some xf14 := by kernel_rfl
def xf15 : XFunc :=
(.mk 12 [(.tmp 4)] (.seq (.tr (rl [0, 0]) false (.region false [(oP 4 (.mv (tI 0)))])) (.seq (.tr (rl [4]) false (.region false [(oP 5 (.mv (T 0))), (oP 6 (.mv
  (T 1))), (oP 7 (.bin .rem (T 5) (T 6))), (oP 8 (.mv (T 1))), (oP 9 (.bin .add (T 7) (T 8))), (oP 10 (.mv (T 1))), (oP 11 (.bin .rem (T 9) (T 10))), (oP 4 (.mv
  (T 11)))])) (.tr (rl [4]) false .ret))))
theorem xf15_ok : cmpFunc Go.Proofs.Tryd.prog 15 ((.two (.tr (rl [0, 0]) false .no) (.two (.tr (rl [4]) false .no) (.tr (rl [4]) false .no)))) = some xf15 := by kernel_rfl
def xf16 : XFunc :=
(.mk 35 [(.tmp 10), (.tmp 11)] (.seq (.tr (rl [0, 0, 0, 5, 0]) false (.region false [(oW 8 (.box (T 3) 1)), (oW 9 (.box (T 4) 1)), (oP 10 (.mv (tI 0))), (oP 11
  (.mv (tI 0)))])) (.seq (.seq (.tr (rl [0, 0, 0, 5, 0, 2]) false (.region false [(oP 15 (.mv (T 0))), (oR 16 (.load false 1 (T 9))), (oR 17 (.load false 1 (T
  9))), (oR 18 (.load false 1 (T 8))), (oP 19 (.buildSl [(.pv (.int .i32 0))] 1 1 [(0, (1, (T 18)))])), (oP 20 (.call false [] (.lit (.c (.fn 44 []))) [(T 15),
  (T 16), (T 17), (T 19)])), (oP 12 (.mv (T 20)))])) (.seq (.tr (rl [0, 0, 0, 5, 0, 2, 9]) false (.region false [(oP 21 (.mv (T 12))), (oP 22 (.bin .neq (T 21)
  (tI 0)))])) (.tr (rl [0, 0, 0, 5, 0, 0, 0]) false (.cond (T 22) (.seq (.tr (rl [10, 0]) false (.region false [(oP 23 (.mv (T 12))), (oP 10 (.mv (tI 0))), (oP
  11 (.mv (T 23)))])) (.tr (rl [10, 0]) false .ret)) .skip)))) (.seq (.tr (rl [8, 0, 3, 0]) false (.region false [(oP 25 (.mv (T 0))), (oP 26 (.mv (T 1))), (oP
  27 (.mv (T 2))), (oP 28 (.call false [] (.lit (.c (.fn 45 []))) [(T 25), (T 26), (T 27)])), (oP 24 (.mv (T 28))), (oP 29 (.extr 0 (T 24))), (oP 30 (.extr 1 (T
  24))), (oP 13 (.mv (T 29))), (oP 14 (.mv (T 30)))])) (.seq (.tr (rl [10, 0]) false (.region false [(oP 31 (.mv (T 13))), (oP 32 (.mkfn 47 [(T 9), (T 8)])),
  (oW 33 (.call false [] (.lit (.c (.fn 46 []))) [(T 31), (T 32)])), (oP 34 (.mv (T 14))), (oP 10 (.mv (T 33))), (oP 11 (.mv (T 34)))])) (.tr (rl [10, 0]) false
  .ret))))))
theorem xf16_ok : cmpFunc Go.Proofs.Tryd.prog 16 ((.two (.tr (rl [0, 0, 0, 5, 0]) false .no) (.two (.two (.tr (rl [0, 0, 0, 5, 0, 2]) false (.ops [{}, {}, {}, {}, {}, { cls := some .p }])) (.two (.tr (rl [0, 0, 0, 5, 0, 2, 9]) false .no) (.tr (rl [0, 0, 0, 5, 0, 0, 0]) false (.two (.two (.tr (rl [10, 0]) false .no) (.tr (rl [10, 0]) false .no)) .no)))) (.two (.tr (rl [8, 0, 3, 0]) false (.ops [{}, {}, {}, { cls := some .p }])) (.two (.tr (rl [10, 0]) false .no) (.tr (rl [10, 0]) false .no)))))) = some xf16 := by kernel_rfl
def xf17_l0 : XCode :=
(.seq (.region false [(oP 22 (.bin .lss (T 21) (T 20)))]) (.seq (.tr (rl [6, 0, 11, 0, 0]) false (.cond (T 22) .skip (.tr (rl [6, 0]) false (.exit 0)))) (.seq
  (.tr (rl [6, 0, 11, 0, 0]) false (.block 1 (.seq (.tr (rl [6, 0, 1, 9, 0, 0]) false (.region false [(oP 23 (.iaddrS 7 (T 19) (T 21))), (oR 24 (.load true 7 (T
  23))), (oW 9 (.alloc [(.pv (.int .i64 0)), (.pv (.int .i32 0)), (.pv (.int .i32 0)), (.pv (.sl .nil 0 [])), (.pv (.int .i64 0)), (.pv (.int .i64 0)), (.pv
  (.str []))])), (sW (.store 7 (T 9) (T 24)))])) (.tr (rl [6, 0, 11, 0, 0]) false (.region false [(oP 25 (.mv (T 7))), (oP 26 (.faddr 0 (T 9))), (oR 27 (.load
  false 1 (T 26))), (oP 28 (.buildSl [(.pv (.int .i64 0))] 1 1 [(0, (1, (T 27)))])), (oW 29 (.app 1 8 (T 25) (T 28))), (oP 7 (.mv (T 29)))]))))) (.tr (rl [6, 0,
  11, 0, 0]) false (.region false [(oP 30 (.bin .add (T 21) (tI 1))), (oP 21 (.mv (T 30)))])))))
def xf17 : XFunc :=
(.mk 33 [(.tmp 2), (.tmp 3)] (.seq (.tr (rl [1]) false (.region false [(oW 1 (.box (T 0) 1)), (oP 2 (.mv (.lit (.c (.pv (.sl .nil 0 [])))))), (oP 3 (.mv (tI
  0)))])) (.seq (.tr (rl [1, 2]) false (.region false [(oP 10 (.faddr 0 (T 1))), (oR 11 (.load false 1 (T 10))), (oW 12 (.call false [] (.lit (.c (.fn 40 [])))
  [(T 11)])), (oW 4 (.alloc [.nilm])), (sW (.store 1 (T 4) (T 12)))])) (.seq (.tr (rl [5, 0]) false (.region false [(oR 14 (.load true 1 (T 1))), (oP 15 (.mkfn
  49 [(T 4)])), (oW 16 (.call false [] (.lit (.c (.fn 48 []))) [(T 14), (T 15)])), (oP 13 (.mv (T 16))), (oP 17 (.extr 0 (T 13))), (oP 18 (.extr 1 (T 13))), (oP
  5 (.mv (T 17))), (oP 6 (.mv (T 18)))])) (.seq (.region false [(oP 7 (.mv (.lit (.c (.pv (.sl .nil 0 []))))))]) (.seq (.seq (.tr (rl [6, 0, 11, 0, 0]) false
  (.region false [(oP 19 (.mv (T 5))), (oP 20 (.len (T 19))), (oP 21 (.mv (tI 0)))])) (.tr (rl [6, 0]) false (.block 0 (.loop (rl [6, 0, 11, 0, 0]) xf17_l0))))
  (.seq (.tr (rl [2, 0]) false (.region false [(oP 31 (.mv (T 7))), (oP 32 (.mv (T 6))), (oP 2 (.mv (T 31))), (oP 3 (.mv (T 32)))])) (.tr (rl [2, 0]) false
  .ret))))))))
theorem xf17_ok : cmpFunc Go.Proofs.Tryd.prog 17 ((.two (.tr (rl [1]) false .no) (.two (.tr (rl [1, 2]) false .no) (.two (.tr (rl [5, 0]) false .no) (.two .no (.two (.two (.tr (rl [6, 0, 11, 0, 0]) false .no) (.tr (rl [6, 0]) false (.loop (rl [6, 0, 11, 0, 0]) (.two .no (.two (.tr (rl [6, 0, 11, 0, 0]) false (.two .no (.tr (rl [6, 0]) false .no))) (.two (.tr (rl [6, 0, 11, 0, 0]) false (.two (.tr (rl [6, 0, 1, 9, 0, 0]) false .no) (.tr (rl [6, 0, 11, 0, 0]) false .no))) (.tr (rl [6, 0, 11, 0, 0]) false .no))))))) (.two (.tr (rl [2, 0]) false .no) (.tr (rl [2, 0]) false .no)))))))) = some xf17 := by kernel_rfl
def xf30 : XFunc :=
(.mk 16 [(.tmp 2)] (.seq (.tr (rl [1]) false (.region false [(oW 1 (.box (T 0) 2)), (oP 2 (.mv (.lit (.c (.pv (.bool false))))))])) (.seq (.tr (rl [2]) false
  (.region false [(oP 3 (.faddr 0 (T 1))), (oR 4 (.load false 1 (T 3))), (oP 5 (.call false [] (.lit (.c (.fn 74 []))) [(T 4)])), (oP 6 (.mv (T 5))), (.mk (some
  7) (.faddr 1 (T 1)) (some (6, true)) .p), (.mk (some 8) (.load false 1 (T 7)) (some (6, true)) .r), (.mk (some 9) (.bin .geq (T 8) (.lit (.c (.pv (.int .i64
  (-1000000000000000)))))) (some (6, true)) .p), (oP 10 (.pick (T 6) (T 9) (.lit (.c (.pv (.bool false)))))), (oP 11 (.mv (T 10))), (.mk (some 12) (.faddr 1 (T
  1)) (some (11, true)) .p), (.mk (some 13) (.load false 1 (T 12)) (some (11, true)) .r), (.mk (some 14) (.bin .leq (T 13) (tI 1000000000000000)) (some (11,
  true)) .p), (oP 15 (.pick (T 11) (T 14) (.lit (.c (.pv (.bool false)))))), (oP 2 (.mv (T 15)))])) (.tr (rl [2]) false .ret))))
theorem xf30_ok : cmpFunc Go.Proofs.Tryd.prog 30 ((.two (.tr (rl [1]) false .no) (.two (.tr (rl [2]) false (.ops [{}, {}, { cls := some .p }])) (.tr (rl [2]) false .no)))) = some xf30 := by kernel_rfl
def xf32 : XFunc :=
(.mk 31 [(.tmp 8), (.tmp 9)] (.seq (.tr (rl [0, 0, 0, 4]) false (.region false [(oW 7 (.box (T 3) 1)), (oP 8 (.mv (tI 0))), (oP 9 (.mv (tI 0)))])) (.seq (.seq
  (.tr (rl [0, 0, 0, 4, 2]) false (.region false [(oP 13 (.mv (T 0))), (oR 14 (.load false 1 (T 7))), (oR 15 (.load false 1 (T 7))), (oP 16 (.call false []
  (.lit (.c (.fn 44 []))) [(T 13), (T 14), (T 15), (.lit (.c (.pv (.sl .nil 0 []))))])), (oP 10 (.mv (T 16)))])) (.seq (.tr (rl [0, 0, 0, 4, 2, 7]) false
  (.region false [(oP 17 (.mv (T 10))), (oP 18 (.bin .neq (T 17) (tI 0)))])) (.tr (rl [0, 0, 0, 4, 0, 0]) false (.cond (T 18) (.seq (.tr (rl [8, 0]) false
  (.region false [(oP 19 (.mv (T 10))), (oP 8 (.mv (tI 0))), (oP 9 (.mv (T 19)))])) (.tr (rl [8, 0]) false .ret)) .skip)))) (.seq (.tr (rl [7, 3, 0]) false
  (.region false [(oP 21 (.mv (T 0))), (oP 22 (.mv (T 1))), (oP 23 (.mv (T 2))), (oP 24 (.call false [] (.lit (.c (.fn 45 []))) [(T 21), (T 22), (T 23)])), (oP
  20 (.mv (T 24))), (oP 25 (.extr 0 (T 20))), (oP 26 (.extr 1 (T 20))), (oP 11 (.mv (T 25))), (oP 12 (.mv (T 26)))])) (.seq (.tr (rl [8, 0]) false (.region
  false [(oP 27 (.mv (T 11))), (oP 28 (.mkfn 79 [(T 7)])), (oW 29 (.call false [] (.lit (.c (.fn 46 []))) [(T 27), (T 28)])), (oP 30 (.mv (T 12))), (oP 8 (.mv
  (T 29))), (oP 9 (.mv (T 30)))])) (.tr (rl [8, 0]) false .ret))))))
theorem xf32_ok : cmpFunc Go.Proofs.Tryd.prog 32 ((.two (.tr (rl [0, 0, 0, 4]) false .no) (.two (.two (.tr (rl [0, 0, 0, 4, 2]) false (.ops [{}, {}, {}, { cls := some .p }])) (.two (.tr (rl [0, 0, 0, 4, 2, 7]) false .no) (.tr (rl [0, 0, 0, 4, 0, 0]) false (.two (.two (.tr (rl [8, 0]) false .no) (.tr (rl [8, 0]) false .no)) .no)))) (.two (.tr (rl [7, 3, 0]) false (.ops [{}, {}, {}, { cls := some .p }])) (.two (.tr (rl [8, 0]) false .no) (.tr (rl [8, 0]) false .no)))))) = some xf32 := by kernel_rfl
def xf33 : XFunc :=
(.mk 19 [(.tmp 6)] (.seq (.tr (rl [0, 0, 0]) false (.region false [(oP 6 (.mv (tI 0)))])) (.seq (.tr (rl [6]) false (.block 0 (.seq (.tr (rl [1, 0, 4]) false
  (.region false [(oP 8 (.mv (T 0))), (oP 9 (.call false [] (.lit (.c (.fn 80 []))) [(T 8)])), (oP 10 (.un .not (T 9))), (oP 7 (.mv (T 10)))])) (.tr (rl [6])
  false (.cond (T 7) (.seq (.region false [(oP 6 (.mv (tI 1)))]) (.tr (rl [6]) false .ret)) (.seq (.tr (rl [2, 8]) false (.region false [(oP 12 (.mv (T 1))),
  (oP 13 (.call false [] (.lit (.c (.fn 81 []))) [(T 12)])), (oP 14 (.un .not (T 13))), (oP 11 (.mv (T 14)))])) (.tr (rl [6]) false (.cond (T 11) (.seq (.region
  false [(oP 6 (.mv (tI 12)))]) (.tr (rl [6]) false .ret)) (.seq (.tr (rl [15]) false (.region false [(oP 16 (.mv (T 2))), (oP 17 (.call false [] (.lit (.c (.fn
  53 []))) [(T 16)])), (oP 18 (.un .not (T 17))), (oP 15 (.mv (T 18)))])) (.tr (rl [6]) false (.cond (T 15) (.seq (.region false [(oP 6 (.mv (tI 11)))]) (.tr
  (rl [6]) false .ret)) .skip))))))))))) (.seq (.region false [(oP 6 (.mv (tI 0)))]) (.tr (rl [6]) false .ret)))))
theorem xf33_ok : cmpFunc Go.Proofs.Tryd.prog 33 ((.two (.tr (rl [0, 0, 0]) false .no) (.two (.tr (rl [6]) false (.two (.tr (rl [1, 0, 4]) false (.ops [{}, { cls := some .p }])) (.tr (rl [6]) false (.two (.two .no (.tr (rl [6]) false .no)) (.two (.tr (rl [2, 8]) false (.ops [{}, { cls := some .p }])) (.tr (rl [6]) false (.two (.two .no (.tr (rl [6]) false .no)) (.two (.tr (rl [15]) false (.ops [{}, { cls := some .p }])) (.tr (rl [6]) false (.two (.two .no (.tr (rl [6]) false .no)) .no)))))))))) (.two .no (.tr (rl [6]) false .no))))) = some xf33 := by kernel_rfl
def xf34_l0 : XCode :=
(.seq (.region false [(oP 14 (.bin .lss (T 13) (T 12)))]) (.seq (.tr (rl [1, 0, 4, 3, 0, 0]) false (.cond (T 14) .skip (.tr (rl [7]) false (.exit 0)))) (.seq
  (.tr (rl [1, 0, 4, 3, 0, 0]) false (.block 1 (.seq (.tr (rl [1, 0, 4, 1, 1, 0, 0]) false (.region false [(oP 15 (.iaddrS 6 (T 11) (T 13))), (oR 16 (.load true
  6 (T 15))), (oW 9 (.alloc [(.pv (.int .i64 0)), (.pv (.int .i64 0)), (.pv (.int .i64 0)), (.pv (.int .i64 0)), (.pv (.int .i64 0)), (.pv (.int .i32 0))])),
  (sW (.store 6 (T 9) (T 16)))])) (.seq (.tr (rl [1, 0, 4, 1, 1, 0, 0, 13]) false (.region false [(oP 17 (.faddr 3 (T 9))), (oP 18 (.faddr 0 (T 17))), (oR 19
  (.load false 1 (T 18))), (oP 20 (.mv (T 1))), (oP 21 (.bin .eql (T 19) (T 20))), (oP 22 (.mv (T 21))), (.mk (some 23) (.faddr 5 (T 9)) (some (22, true)) .p),
  (.mk (some 24) (.load false 1 (T 23)) (some (22, true)) .r), (.mk (some 25) (.mv (T 2)) (some (22, true)) .p), (.mk (some 26) (.bin .eql (T 24) (T 25)) (some
  (22, true)) .p), (oP 27 (.pick (T 22) (T 26) (.lit (.c (.pv (.bool false))))))])) (.tr (rl [1, 0, 4, 3, 0, 0]) false (.cond (T 27) (.seq (.tr (rl [1, 0, 4, 1,
  1, 0, 0]) false (.region true [(oP 28 (.mv (T 7))), (oP 29 (.faddr 1 (T 9))), (oR 30 (.load false 1 (T 29))), (oP 31 (.iaddrS 1 (T 28) (T 30))), (oR 32 (.load
  false 1 (T 31))), (oP 33 (.faddr 3 (T 9))), (oP 34 (.faddr 1 (T 33))), (oR 35 (.load false 1 (T 34))), (oP 36 (.bin .sub (T 32) (T 35))), (oP 37 (.iaddrS 1 (T
  28) (T 30))), (sW (.store 1 (T 37) (T 36)))])) (.tr (rl [1, 0, 4, 3, 0, 0]) false (.region true [(oP 38 (.mv (T 7))), (oP 39 (.faddr 2 (T 9))), (oR 40 (.load
  false 1 (T 39))), (oP 41 (.iaddrS 1 (T 38) (T 40))), (oR 42 (.load false 1 (T 41))), (oP 43 (.faddr 3 (T 9))), (oP 44 (.faddr 1 (T 43))), (oR 45 (.load false
  1 (T 44))), (oP 46 (.bin .add (T 42) (T 45))), (oP 47 (.iaddrS 1 (T 38) (T 40))), (sW (.store 1 (T 47) (T 46)))]))) .skip)))))) (.tr (rl [1, 0, 4, 3, 0, 0])
  false (.region false [(oP 48 (.bin .add (T 13) (tI 1))), (oP 13 (.mv (T 48)))])))))
def xf34 : XFunc :=
(.mk 50 [(.tmp 6)] (.seq (.tr (rl [0, 0, 0]) false (.region false [(oP 6 (.mv (.lit (.c (.pv (.sl .nil 0 []))))))])) (.seq (.tr (rl [0, 0, 0, 4]) false (.region
  false [(oW 10 (.mkslice true [(.pv (.int .i64 0))] 1 8 (tI 16) (tI 16))), (oP 7 (.mv (T 10)))])) (.seq (.seq (.tr (rl [1, 0, 4, 3, 0, 0]) false (.region false
  [(oP 11 (.mv (T 0))), (oP 12 (.len (T 11))), (oP 13 (.mv (tI 0)))])) (.tr (rl [7]) false (.block 0 (.loop (rl [1, 0, 4, 3, 0, 0]) xf34_l0)))) (.seq (.tr (rl
  [6]) false (.region false [(oP 49 (.mv (T 7))), (oP 6 (.mv (T 49)))])) (.tr (rl [6]) false .ret))))))
theorem xf34_ok : cmpFunc Go.Proofs.Tryd.prog 34 ((.two (.tr (rl [0, 0, 0]) false .no) (.two (.tr (rl [0, 0, 0, 4]) false (.ops [{ own := true }])) (.two (.two (.tr (rl [1, 0, 4, 3, 0, 0]) false .no) (.tr (rl [7]) false (.loop (rl [1, 0, 4, 3, 0, 0]) (.two .no (.two (.tr (rl [1, 0, 4, 3, 0, 0]) false (.two .no (.tr (rl [7]) false .no))) (.two (.tr (rl [1, 0, 4, 3, 0, 0]) false (.two (.tr (rl [1, 0, 4, 1, 1, 0, 0]) false .no) (.two (.tr (rl [1, 0, 4, 1, 1, 0, 0, 13]) false .no) (.tr (rl [1, 0, 4, 3, 0, 0]) false (.two (.two (.tr (rl [1, 0, 4, 1, 1, 0, 0]) false (.draw [0, 1, 2, 3, 4, 5, 6, 7, 8, 9, 10] [])) (.tr (rl [1, 0, 4, 3, 0, 0]) false (.draw [0, 1, 2, 3, 4, 5, 6, 7, 8, 9, 10] []))) .no))))) (.tr (rl [1, 0, 4, 3, 0, 0]) false .no))))))) (.two (.tr (rl [6]) false .no) (.tr (rl [6]) false .no)))))) = some xf34 := by kernel_rfl
def xf35_l0 : XCode :=
(.seq (.seq (.tr (rl [3, 0, 0, 0, 13]) false (.region false [(oP 10 (.mv (T 5))), (oP 11 (.mv (T 3))), (oP 12 (.len (T 11))), (oP 13 (.bin .lss (T 10) (T 12))),
  (oP 14 (.mv (T 13))), (.mk (some 15) (.mv (T 3)) (some (14, true)) .p), (.mk (some 16) (.mv (T 5)) (some (14, true)) .p), (.mk (some 17) (.iaddrS 1 (T 15) (T
  16)) (some (14, true)) .p), (.mk (some 18) (.load false 1 (T 17)) (some (14, true)) .r), (.mk (some 19) (.bin .geq (T 18) (tI 0)) (some (14, true)) .p), (oP
  20 (.pick (T 14) (T 19) (.lit (.c (.pv (.bool false))))))])) (.tr (rl [3, 0, 0, 0]) false (.cond (T 20) .skip (.tr (rl [3, 0, 0, 0]) false (.exit 2))))) (.tr
  (rl [3, 0, 0, 0]) false (.block 3 (.tr (rl [3, 0, 0, 0]) false (.region false [(oP 21 (.mv (T 5))), (oP 22 (.bin .add (T 21) (tI 1))), (oP 5 (.mv (T
  22)))])))))
def xf35_l1 : XCode :=
(.seq (.seq (.tr (rl [3, 0, 0, 0, 26]) false (.region false [(oP 23 (.mv (T 6))), (oP 24 (.mv (T 3))), (oP 25 (.len (T 24))), (oP 26 (.bin .lss (T 23) (T 25))),
  (oP 27 (.mv (T 26))), (.mk (some 28) (.mv (T 3)) (some (27, true)) .p), (.mk (some 29) (.mv (T 6)) (some (27, true)) .p), (.mk (some 30) (.iaddrS 1 (T 28) (T
  29)) (some (27, true)) .p), (.mk (some 31) (.load false 1 (T 30)) (some (27, true)) .r), (.mk (some 32) (.bin .leq (T 31) (tI 0)) (some (27, true)) .p), (oP
  33 (.pick (T 27) (T 32) (.lit (.c (.pv (.bool false))))))])) (.tr (rl [3, 0, 0, 0]) false (.cond (T 33) .skip (.tr (rl [3, 0, 0, 0]) false (.exit 4))))) (.tr
  (rl [3, 0, 0, 0]) false (.block 5 (.tr (rl [3, 0, 0, 0]) false (.region false [(oP 34 (.mv (T 6))), (oP 35 (.bin .add (T 34) (tI 1))), (oP 6 (.mv (T
  35)))])))))
def xf35_l2 : XCode :=
(.tr (rl [2, 0, 0, 0, 0]) false (.block 1 (.seq (.tr (rl [3, 0, 0, 0]) false (.block 2 (.loop (rl [3, 0, 0, 0]) xf35_l0))) (.seq (.tr (rl [3, 0, 0, 0]) false
  (.block 4 (.loop (rl [3, 0, 0, 0]) xf35_l1))) (.seq (.seq (.tr (rl [3, 0, 0, 0, 38]) false (.region false [(oP 36 (.mv (T 5))), (oP 37 (.mv (T 3))), (oP 38
  (.len (T 37))), (oP 39 (.bin .eql (T 36) (T 38))), (oP 40 (.mv (T 39))), (.mk (some 41) (.mv (T 6)) (some (40, false)) .p), (.mk (some 42) (.mv (T 3)) (some
  (40, false)) .p), (.mk (some 43) (.len (T 42)) (some (40, false)) .p), (.mk (some 44) (.bin .eql (T 41) (T 43)) (some (40, false)) .p), (oP 45 (.pick (T 40)
  (.lit (.c (.pv (.bool true)))) (T 44)))])) (.tr (rl [2, 0, 0, 0, 0]) false (.cond (T 45) (.seq (.tr (rl [2]) false (.region false [(oP 46 (.mv (T 4))), (oP 2
  (.mv (T 46)))])) (.tr (rl [2]) false .ret)) .skip))) (.seq (.tr (rl [3, 0, 0, 0, 0]) false (.region true [(oP 47 (.mv (T 3))), (oP 48 (.mv (T 5))), (oP 49
  (.iaddrS 1 (T 47) (T 48))), (oR 50 (.load false 1 (T 49))), (oP 51 (.un .neg (T 50))), (oP 52 (.mv (T 3))), (oP 53 (.mv (T 6))), (oP 54 (.iaddrS 1 (T 52) (T
  53))), (oR 55 (.load false 1 (T 54))), (oP 56 (.minI [(T 51), (T 55)])), (oP 7 (.mv (T 56)))])) (.seq (.tr (rl [3, 0, 0, 0, 0]) false (.region false [(oP 57
  (.mv (T 4))), (oP 58 (.mv (T 5))), (oP 59 (.mv (T 6))), (oP 60 (.mv (T 7))), (oP 61 (.build [(.pv (.int .i64 0)), (.pv (.int .i64 0)), (.pv (.int .i64 0))]
  [(0, (1, (T 58))), (1, (1, (T 59))), (2, (1, (T 60)))])), (oP 62 (.buildSl [(.pv (.int .i64 0)), (.pv (.int .i64 0)), (.pv (.int .i64 0))] 1 3 [(0, (3, (T
  61)))])), (oW 63 (.app 3 24 (T 57) (T 62))), (oP 4 (.mv (T 63)))])) (.seq (.tr (rl [3, 0, 0, 0, 0]) false (.region false [(oP 64 (.mv (T 3))), (oP 65 (.mv (T
  5))), (oP 66 (.iaddrS 1 (T 64) (T 65))), (oR 67 (.load false 1 (T 66))), (oP 68 (.mv (T 7))), (oP 69 (.bin .add (T 67) (T 68))), (oP 70 (.iaddrS 1 (T 64) (T
  65))), (sW (.store 1 (T 70) (T 69)))])) (.tr (rl [3, 0, 0, 0]) false (.region false [(oP 71 (.mv (T 3))), (oP 72 (.mv (T 6))), (oP 73 (.iaddrS 1 (T 71) (T
  72))), (oR 74 (.load false 1 (T 73))), (oP 75 (.mv (T 7))), (oP 76 (.bin .sub (T 74) (T 75))), (oP 77 (.iaddrS 1 (T 71) (T 72))), (sW (.store 1 (T 77) (T
  76)))]))))))))))
def xf35 : XFunc :=
(.mk 78 [(.tmp 2)] (.seq (.tr (rl [0]) false (.region false [(oP 2 (.mv (.lit (.c (.pv (.sl .nil 0 []))))))])) (.seq (.tr (rl [3]) false (.region false [(oP 8
  (.mv (T 0))), (oW 9 (.callM (.lit (.c (.fn 82 []))) [(T 8)])), (oP 3 (.mv (T 9)))])) (.seq (.region false [(oP 4 (.mv (.lit (.c (.pv (.sl .nil 0 []))))))])
  (.seq (.region false [(oP 5 (.mv (tI 0))), (oP 6 (.mv (tI 0)))]) (.tr (rl [2]) false (.block 0 (.loop (rl [3, 0, 0, 0]) xf35_l2))))))))
theorem xf35_ok : cmpFunc Go.Proofs.Tryd.prog 35 ((.two (.tr (rl [0]) false .no) (.two (.tr (rl [3]) false (.ops [{}, { own := true }])) (.two .no (.two .no (.tr (rl [2]) false (.loop (rl [3, 0, 0, 0]) (.tr (rl [2, 0, 0, 0, 0]) false (.two (.tr (rl [3, 0, 0, 0]) false (.loop (rl [3, 0, 0, 0]) (.two (.two (.tr (rl [3, 0, 0, 0, 13]) false .no) (.tr (rl [3, 0, 0, 0]) false (.two .no (.tr (rl [3, 0, 0, 0]) false .no)))) (.tr (rl [3, 0, 0, 0]) false (.tr (rl [3, 0, 0, 0]) false .no))))) (.two (.tr (rl [3, 0, 0, 0]) false (.loop (rl [3, 0, 0, 0]) (.two (.two (.tr (rl [3, 0, 0, 0, 26]) false .no) (.tr (rl [3, 0, 0, 0]) false (.two .no (.tr (rl [3, 0, 0, 0]) false .no)))) (.tr (rl [3, 0, 0, 0]) false (.tr (rl [3, 0, 0, 0]) false .no))))) (.two (.two (.tr (rl [3, 0, 0, 0, 38]) false .no) (.tr (rl [2, 0, 0, 0, 0]) false (.two (.two (.tr (rl [2]) false .no) (.tr (rl [2]) false .no)) .no))) (.two (.tr (rl [3, 0, 0, 0, 0]) false (.draw [0, 1, 2, 3, 4, 5, 6, 7, 8, 9, 10] [])) (.two (.tr (rl [3, 0, 0, 0, 0]) false .no) (.two (.tr (rl [3, 0, 0, 0, 0]) false .no) (.tr (rl [3, 0, 0, 0]) false .no))))))))))))))) = some xf35 := by kernel_rfl
def xf36 : XFunc :=
(.mk 47 [(.tmp 2)] (.seq (.tr (rl [1]) false (.region false [(oW 1 (.box (T 0) 7)), (oP 2 (.mv (tI 0)))])) (.seq (.tr (rl [1, 1]) false (.region false [(oP 4
  (.mkfn 83 [(T 1)])), (oP 3 (.mv (T 4)))])) (.seq (.tr (rl [2]) false (.block 0 (.seq (.tr (rl [1, 1, 1]) false (.region false [(oR 6 (.load true 7 (T 1))),
  (oP 7 (.call false [] (.lit (.c (.fn 85 []))) [(T 6)])), (oP 8 (.un .not (T 7))), (oP 5 (.mv (T 8)))])) (.tr (rl [2]) false (.cond (T 5) (.seq (.region false
  [(oP 2 (.mv (tI 1)))]) (.tr (rl [2]) false .ret)) (.seq (.tr (rl [1, 1, 5]) false (.region false [(oP 10 (.faddr 1 (T 1))), (oR 11 (.load false 1 (T 10))),
  (oP 12 (.call false [] (.lit (.c (.fn 53 []))) [(T 11)])), (oP 13 (.un .not (T 12))), (oP 14 (.mv (T 13))), (.mk (some 15) (.faddr 2 (T 1)) (some (14, false))
  .p), (.mk (some 16) (.load false 1 (T 15)) (some (14, false)) .r), (.mk (some 17) (.call false [] (.lit (.c (.fn 53 []))) [(T 16)]) (some (14, false)) .p),
  (.mk (some 18) (.un .not (T 17)) (some (14, false)) .p), (oP 19 (.pick (T 14) (.lit (.c (.pv (.bool true)))) (T 18))), (oP 9 (.mv (T 19)))])) (.tr (rl [2])
  false (.cond (T 9) (.seq (.region false [(oP 2 (.mv (tI 11)))]) (.tr (rl [2]) false .ret)) (.seq (.tr (rl [1, 1, 16]) false (.region false [(oP 21 (.faddr 3
  (T 1))), (oR 22 (.load false 1 (T 21))), (oP 23 (.len (T 22))), (oP 24 (.bin .lss (T 23) (tI 2))), (oP 20 (.mv (T 24)))])) (.tr (rl [2]) false (.cond (T 20)
  (.seq (.region false [(oP 2 (.mv (tI 2)))]) (.tr (rl [2]) false .ret)) (.seq (.tr (rl [1, 1, 21]) false (.region false [(oP 26 (.faddr 3 (T 1))), (oR 27
  (.load false 1 (T 26))), (oP 28 (.len (T 27))), (oP 29 (.bin .gtr (T 28) (tI 16))), (oP 25 (.mv (T 29)))])) (.tr (rl [2]) false (.cond (T 25) (.seq (.region
  false [(oP 2 (.mv (tI 4)))]) (.tr (rl [2]) false .ret)) (.seq (.tr (rl [1, 1, 26]) false (.region false [(oP 31 (.mv (T 3))), (oW 32 (.call false [] (T 31)
  [(.lit (.c (.fn 86 [])))])), (oP 30 (.mv (T 32)))])) (.tr (rl [2]) false (.cond (T 30) (.seq (.region false [(oP 2 (.mv (tI 8)))]) (.tr (rl [2]) false .ret))
  (.seq (.tr (rl [1, 1, 29]) false (.region false [(oP 34 (.mv (T 3))), (oW 35 (.call false [] (T 34) [(.lit (.c (.fn 87 [])))])), (oP 33 (.mv (T 35)))])) (.tr
  (rl [2]) false (.cond (T 33) (.seq (.region false [(oP 2 (.mv (tI 12)))]) (.tr (rl [2]) false .ret)) (.seq (.tr (rl [1, 1, 32]) false (.region false [(oP 37
  (.mv (T 3))), (oW 38 (.call false [] (T 37) [(.lit (.c (.fn 89 [])))])), (oP 36 (.mv (T 38)))])) (.tr (rl [2]) false (.cond (T 36) (.seq (.region false [(oP 2
  (.mv (tI 9)))]) (.tr (rl [2]) false .ret)) (.seq (.tr (rl [1, 37]) false (.region false [(oP 40 (.mv (T 3))), (oW 41 (.call false [] (T 40) [(.lit (.c (.fn 90
  [])))])), (oP 39 (.mv (T 41)))])) (.tr (rl [2]) false (.cond (T 39) (.seq (.region false [(oP 2 (.mv (tI 10)))]) (.tr (rl [2]) false .ret)) (.seq (.tr (rl
  [42]) false (.region false [(oP 43 (.faddr 3 (T 1))), (oR 44 (.load false 1 (T 43))), (oP 45 (.call false [] (.lit (.c (.fn 91 []))) [(T 44)])), (oP 46 (.un
  .not (T 45))), (oP 42 (.mv (T 46)))])) (.tr (rl [2]) false (.cond (T 42) (.seq (.region false [(oP 2 (.mv (tI 15)))]) (.tr (rl [2]) false .ret))
  .skip))))))))))))))))))))))))))))) (.seq (.region false [(oP 2 (.mv (tI 0)))]) (.tr (rl [2]) false .ret))))))
theorem xf36_ok : cmpFunc Go.Proofs.Tryd.prog 36 ((.two (.tr (rl [1]) false .no) (.two (.tr (rl [1, 1]) false .no) (.two (.tr (rl [2]) false (.two (.tr (rl [1, 1, 1]) false (.ops [{}, { cls := some .p }])) (.tr (rl [2]) false (.two (.two .no (.tr (rl [2]) false .no)) (.two (.tr (rl [1, 1, 5]) false (.ops [{}, {}, { cls := some .p }, {}, {}, {}, {}, { cls := some .p }])) (.tr (rl [2]) false (.two (.two .no (.tr (rl [2]) false .no)) (.two (.tr (rl [1, 1, 16]) false .no) (.tr (rl [2]) false (.two (.two .no (.tr (rl [2]) false .no)) (.two (.tr (rl [1, 1, 21]) false .no) (.tr (rl [2]) false (.two (.two .no (.tr (rl [2]) false .no)) (.two (.tr (rl [1, 1, 26]) false .no) (.tr (rl [2]) false (.two (.two .no (.tr (rl [2]) false .no)) (.two (.tr (rl [1, 1, 29]) false .no) (.tr (rl [2]) false (.two (.two .no (.tr (rl [2]) false .no)) (.two (.tr (rl [1, 1, 32]) false .no) (.tr (rl [2]) false (.two (.two .no (.tr (rl [2]) false .no)) (.two (.tr (rl [1, 37]) false .no) (.tr (rl [2]) false (.two (.two .no (.tr (rl [2]) false .no)) (.two (.tr (rl [42]) false (.ops [{}, {}, { cls := some .p }])) (.tr (rl [2]) false (.two (.two .no (.tr (rl [2]) false .no)) .no)))))))))))))))))))))))))))) (.two .no (.tr (rl [2]) false .no)))))) = some xf36 := by kernel_rfl
def xf37 : XFunc :=
(.mk 8 [(.tmp 2)] (.seq (.tr (rl [0]) false (.region false [(oP 2 (.mv (.lit (.c (.pv (.sl .nil 0 []))))))])) (.seq (.seq (.tr (rl [0, 3]) false (.region false
  [(oP 3 (.mv (T 0))), (oP 4 (.eqN 0 false (T 3) (.lit (.c (.pv (.sl .nil 0 []))))))])) (.tr (rl [0, 1]) false (.cond (T 4) (.seq (.region false [(oP 2 (.mv
  (.lit (.c (.pv (.sl .nil 0 []))))))]) (.tr (rl [2]) false .ret)) .skip))) (.seq (.tr (rl [2]) false (.region false [(oP 5 (.buildSl [(.pv (.int .i64 0)), (.pv
  (.int .i64 0)), (.pv (.int .i64 0))] 0 3 [])), (oP 6 (.mv (T 0))), (oW 7 (.app 3 24 (T 5) (T 6))), (oP 2 (.mv (T 7)))])) (.tr (rl [2]) false .ret)))))
theorem xf37_ok : cmpFunc Go.Proofs.Tryd.prog 37 ((.two (.tr (rl [0]) false .no) (.two (.two (.tr (rl [0, 3]) false .no) (.tr (rl [0, 1]) false (.two (.two .no (.tr (rl [2]) false .no)) .no))) (.two (.tr (rl [2]) false .no) (.tr (rl [2]) false .no))))) = some xf37 := by kernel_rfl
def xf38_l0 : XCode :=
(.seq (.region false [(oP 11 (.bin .lss (T 10) (T 9)))]) (.seq (.tr (rl [1, 1, 4, 0, 0]) false (.cond (T 11) .skip (.tr [] false (.exit 0)))) (.seq (.tr (rl [1,
  0, 0, 4, 0, 0]) false (.block 1 (.seq (.tr (rl [1, 1, 0, 0, 2, 0, 0]) false (.region false [(oP 12 (.mv (T 10))), (oP 13 (.iaddrS 7 (T 8) (T 10))), (oR 14
  (.load true 7 (T 13))), (oW 5 (.alloc [(.pv (.int .i64 0)), (.pv (.int .i32 0)), (.pv (.int .i32 0)), (.pv (.sl .nil 0 [])), (.pv (.int .i64 0)), (.pv (.int
  .i64 0)), (.pv (.str []))])), (oP 4 (.mv (T 12))), (sW (.store 7 (T 5) (T 14)))])) (.seq (.seq (.tr (rl [1, 1, 1, 2, 0, 0, 16]) false (.region true [(oR 15
  (.load true 7 (T 5))), (oP 16 (.call false [] (.lit (.c (.fn 36 []))) [(T 15)])), (oP 17 (.bin .neq (T 16) (tI 0))), (oP 18 (.mv (T 17))), (.mk (some 19)
  (.faddr 0 (T 1)) (some (18, false)) .p), (.mk (some 20) (.load false 1 (T 19)) (some (18, false)) .r), (.mk (some 21) (.mv (T 4)) (some (18, false)) .p), (.mk
  (some 22) (.sliceV 7 (T 20) none (some (T 21)) none) (some (18, false)) .p), (.mk (some 23) (.mv (T 3)) (some (18, false)) .p), (.mk (some 24) (.load true 7
  (T 5)) (some (18, false)) .r), (.mk (some 25) (.call false [] (.lit (.c (.fn 39 []))) [(T 22), (T 23), (T 24)]) (some (18, false)) .w), (.mk (some 26) (.bin
  .neq (T 25) (tI 0)) (some (18, false)) .p), (oP 27 (.pick (T 18) (.lit (.c (.pv (.bool true)))) (T 26)))])) (.tr (rl [1, 0, 0, 1, 2, 0, 0]) false (.cond (T
  27) (.seq (.region false [(oP 2 (.mv (.lit (.c (.pv (.bool false))))))]) (.tr (rl [2]) false .ret)) .skip))) (.tr (rl [1, 1, 4, 0, 0]) false (.region false
  [(oP 28 (.mv (T 3))), (oP 29 (.faddr 4 (T 5))), (oR 30 (.load false 1 (T 29))), (sW (.mupd (T 28) (T 30) (.lit (.c (.pv (.bool true)))) 0))])))))) (.tr (rl
  [1, 1, 4, 0, 0]) false (.region false [(oP 31 (.bin .add (T 10) (tI 1))), (oP 10 (.mv (T 31)))])))))
def xf38 : XFunc :=
(.mk 32 [(.tmp 2)] (.seq (.tr (rl [1]) false (.region false [(oW 1 (.box (T 0) 1)), (oP 2 (.mv (.lit (.c (.pv (.bool false))))))])) (.seq (.tr (rl [1, 1]) false
  (.region false [(.mk (some 6) .mkmap none .w), (oP 3 (.mv (T 6)))])) (.seq (.seq (.tr (rl [1, 1, 4, 0, 0]) false (.region false [(oP 7 (.faddr 0 (T 1))), (oR
  8 (.load false 1 (T 7))), (oP 9 (.len (T 8))), (oP 10 (.mv (tI 0)))])) (.tr (rl [2]) false (.block 0 (.loop (rl [1, 1, 4, 0, 0]) xf38_l0)))) (.seq (.region
  false [(oP 2 (.mv (.lit (.c (.pv (.bool true))))))]) (.tr (rl [2]) false .ret))))))
theorem xf38_ok : cmpFunc Go.Proofs.Tryd.prog 38 ((.two (.tr (rl [1]) false .no) (.two (.tr (rl [1, 1]) false .no) (.two (.two (.tr (rl [1, 1, 4, 0, 0]) false .no) (.tr (rl [2]) false (.loop (rl [1, 1, 4, 0, 0]) (.two .no (.two (.tr (rl [1, 1, 4, 0, 0]) false (.two .no (.tr [] false .no))) (.two (.tr (rl [1, 0, 0, 4, 0, 0]) false (.two (.tr (rl [1, 1, 0, 0, 2, 0, 0]) false .no) (.two (.two (.tr (rl [1, 1, 1, 2, 0, 0, 16]) false (.draw [0, 1, 2, 3, 4, 5, 6, 7, 8, 9, 10, 11, 12] [{}, { cls := some .p }])) (.tr (rl [1, 0, 0, 1, 2, 0, 0]) false (.two (.two .no (.tr (rl [2]) false .no)) .no))) (.tr (rl [1, 1, 4, 0, 0]) false .no)))) (.tr (rl [1, 1, 4, 0, 0]) false .no))))))) (.two .no (.tr (rl [2]) false .no)))))) = some xf38 := by kernel_rfl
def xf39 : XFunc :=
(.mk 73 [(.tmp 6)] (.seq (.tr (rl [0, 0, 3]) false (.region false [(oW 5 (.box (T 2) 7)), (oP 6 (.mv (tI 0)))])) (.seq (.tr (rl [0, 0, 3, 1]) false (.region
  false [(oP 11 (.mv (T 0))), (oP 12 (.len (T 11))), (oP 7 (.mv (T 12)))])) (.seq (.tr (rl [0, 0, 3, 0]) false (.block 0 (.seq (.tr (rl [0, 0, 3, 1, 5]) false
  (.region false [(oP 14 (.mv (T 7))), (oP 15 (.bin .eql (T 14) (tI 400))), (oP 13 (.mv (T 15)))])) (.tr (rl [0, 0, 3, 0]) false (.cond (T 13) (.seq (.region
  false [(oP 6 (.mv (tI 6)))]) (.tr (rl [6]) false .ret)) (.seq (.tr (rl [0, 0, 3, 1, 8]) false (.region false [(oP 17 (.faddr 0 (T 5))), (oR 18 (.load false 1
  (T 17))), (oP 19 (.mv (T 7))), (oP 20 (.bin .add (T 19) (tI 1))), (oP 21 (.bin .neq (T 18) (T 20))), (oP 16 (.mv (T 21)))])) (.tr (rl [0, 0, 3, 0]) false
  (.cond (T 16) (.seq (.region false [(oP 6 (.mv (tI 25)))]) (.tr (rl [6]) false .ret)) (.seq (.tr (rl [0, 0, 3, 16]) false (.region true [(oP 23 (.mv (T 7))),
  (oP 24 (.bin .gtr (T 23) (tI 0))), (oP 25 (.mv (T 24))), (.mk (some 26) (.faddr 1 (T 5)) (some (25, true)) .p), (.mk (some 27) (.load false 1 (T 26)) (some
  (25, true)) .r), (.mk (some 28) (.mv (T 0)) (some (25, true)) .p), (.mk (some 29) (.mv (T 7)) (some (25, true)) .p), (.mk (some 30) (.bin .sub (T 29) (tI 1))
  (some (25, true)) .p), (.mk (some 31) (.iaddrS 7 (T 28) (T 30)) (some (25, true)) .p), (.mk (some 32) (.faddr 1 (T 31)) (some (25, true)) .p), (.mk (some 33)
  (.load false 1 (T 32)) (some (25, true)) .r), (.mk (some 34) (.bin .lss (T 27) (T 33)) (some (25, true)) .p), (oP 35 (.pick (T 25) (T 34) (.lit (.c (.pv
  (.bool false)))))), (oP 22 (.mv (T 35)))])) (.tr (rl [0, 0, 3, 0]) false (.cond (T 22) (.seq (.region false [(oP 6 (.mv (tI 20)))]) (.tr (rl [6]) false .ret))
  (.seq (.tr (rl [0, 0, 3, 30]) false (.region false [(oP 37 (.faddr 4 (T 5))), (oR 38 (.load false 1 (T 37))), (oP 39 (.bin .eql (T 38) (tI 0))), (oP 36 (.mv
  (T 39)))])) (.tr (rl [0, 0, 3, 0]) false (.cond (T 36) (.seq (.region false [(oP 6 (.mv (tI 0)))]) (.tr (rl [6]) false .ret)) .skip)))))))))))))) (.seq (.tr
  (rl [1, 3, 2]) false (.region false [(oP 40 (.mv (T 0))), (oP 41 (.faddr 4 (T 5))), (oR 42 (.load false 1 (T 41))), (oP 43 (.bin .sub (T 42) (tI 1))), (oP 44
  (.iaddrS 7 (T 40) (T 43))), (oR 45 (.load true 7 (T 44))), (oW 8 (.alloc [(.pv (.int .i64 0)), (.pv (.int .i32 0)), (.pv (.int .i32 0)), (.pv (.sl .nil 0
  [])), (.pv (.int .i64 0)), (.pv (.int .i64 0)), (.pv (.str []))])), (sW (.store 7 (T 8) (T 45)))])) (.seq (.tr (rl [1, 3, 2, 0, 0]) false (.region false [(oR
  47 (.load true 7 (T 8))), (oP 48 (.faddr 0 (T 5))), (oR 49 (.load false 1 (T 48))), (oP 50 (.faddr 1 (T 5))), (oR 51 (.load false 1 (T 50))), (oP 52 (.call
  false [] (.lit (.c (.fn 13 []))) [(T 47), (T 49), (T 51)])), (oP 46 (.mv (T 52))), (oP 53 (.extr 0 (T 46))), (oP 54 (.extr 1 (T 46))), (oW 9 (.alloc [(.pv
  (.int .i64 0)), (.pv (.int .i32 0)), (.pv (.int .i32 0)), (.pv (.sl .nil 0 [])), (.pv (.int .i64 0)), (.pv (.int .i64 0)), (.pv (.str []))])), (sW (.store 7
  (T 9) (T 53))), (oP 10 (.mv (T 54)))])) (.seq (.tr (rl [6]) false (.block 1 (.seq (.tr (rl [1, 3, 3, 0, 44]) false (.region false [(oP 56 (.faddr 4 (T 8))),
  (oR 57 (.load false 1 (T 56))), (oP 58 (.bin .gtr (T 57) (tI 0))), (oP 55 (.mv (T 58)))])) (.tr (rl [6]) false (.cond (T 55) (.seq (.region false [(oP 6 (.mv
  (tI 27)))]) (.tr (rl [6]) false .ret)) (.seq (.tr (rl [5, 3, 0, 48]) false (.region false [(oP 60 (.mv (T 1))), (oP 61 (.faddr 4 (T 5))), (oR 62 (.load false
  1 (T 61))), (oR 63 (.mlook (.bool false) false (T 60) (T 62) 0)), (oP 59 (.mv (T 63)))])) (.tr (rl [6]) false (.cond (T 59) (.seq (.region false [(oP 6 (.mv
  (tI 23)))]) (.tr (rl [6]) false .ret)) (.seq (.tr (rl [64]) false (.region false [(oP 65 (.mv (T 10))), (oP 66 (.bin .neq (T 65) (tI 0))), (oP 67 (.mv (T
  66))), (.mk (some 68) (.load true 7 (T 9)) (some (67, false)) .r), (.mk (some 69) (.load true 7 (T 5)) (some (67, false)) .r), (.mk (some 70) (.call false []
  (.lit (.c (.fn 92 []))) [(T 68), (T 69)]) (some (67, false)) .p), (.mk (some 71) (.un .not (T 70)) (some (67, false)) .p), (oP 72 (.pick (T 67) (.lit (.c (.pv
  (.bool true)))) (T 71))), (oP 64 (.mv (T 72)))])) (.tr (rl [6]) false (.cond (T 64) (.seq (.region false [(oP 6 (.mv (tI 3)))]) (.tr (rl [6]) false .ret))
  .skip))))))))))) (.seq (.region false [(oP 6 (.mv (tI 0)))]) (.tr (rl [6]) false .ret)))))))))
theorem xf39_ok : cmpFunc Go.Proofs.Tryd.prog 39 ((.two (.tr (rl [0, 0, 3]) false .no) (.two (.tr (rl [0, 0, 3, 1]) false .no) (.two (.tr (rl [0, 0, 3, 0]) false (.two (.tr (rl [0, 0, 3, 1, 5]) false .no) (.tr (rl [0, 0, 3, 0]) false (.two (.two .no (.tr (rl [6]) false .no)) (.two (.tr (rl [0, 0, 3, 1, 8]) false .no) (.tr (rl [0, 0, 3, 0]) false (.two (.two .no (.tr (rl [6]) false .no)) (.two (.tr (rl [0, 0, 3, 16]) false (.draw [0, 1, 2, 3, 4, 5, 6, 7, 8, 9, 10, 11, 12, 13] [])) (.tr (rl [0, 0, 3, 0]) false (.two (.two .no (.tr (rl [6]) false .no)) (.two (.tr (rl [0, 0, 3, 30]) false .no) (.tr (rl [0, 0, 3, 0]) false (.two (.two .no (.tr (rl [6]) false .no)) .no))))))))))))) (.two (.tr (rl [1, 3, 2]) false .no) (.two (.tr (rl [1, 3, 2, 0, 0]) false (.ops [{}, {}, {}, {}, {}, { cls := some .p }])) (.two (.tr (rl [6]) false (.two (.tr (rl [1, 3, 3, 0, 44]) false .no) (.tr (rl [6]) false (.two (.two .no (.tr (rl [6]) false .no)) (.two (.tr (rl [5, 3, 0, 48]) false .no) (.tr (rl [6]) false (.two (.two .no (.tr (rl [6]) false .no)) (.two (.tr (rl [64]) false (.ops [{}, {}, {}, {}, {}, { cls := some .p }])) (.tr (rl [6]) false (.two (.two .no (.tr (rl [6]) false .no)) .no)))))))))) (.two .no (.tr (rl [6]) false .no))))))))) = some xf39 := by kernel_rfl
def xf40_l0 : XCode :=
(.seq (.region false [(oP 10 (.bin .lss (T 9) (T 8)))]) (.seq (.tr (rl [3, 3, 0, 0]) false (.cond (T 10) .skip (.tr (rl [3]) false (.exit 0)))) (.seq (.tr (rl
  [3, 3, 0, 0]) false (.block 1 (.seq (.tr (rl [3, 1, 1, 0, 0]) false (.region false [(oP 11 (.iaddrS 7 (T 7) (T 9))), (oR 12 (.load true 7 (T 11))), (oW 5
  (.alloc [(.pv (.int .i64 0)), (.pv (.int .i32 0)), (.pv (.int .i32 0)), (.pv (.sl .nil 0 [])), (.pv (.int .i64 0)), (.pv (.int .i64 0)), (.pv (.str []))])),
  (sW (.store 7 (T 5) (T 12)))])) (.tr (rl [3, 3, 0, 0]) false (.region false [(oP 13 (.mv (T 3))), (oP 14 (.faddr 4 (T 5))), (oR 15 (.load false 1 (T 14))),
  (sW (.mupd (T 13) (T 15) (.lit (.c (.pv (.bool true)))) 0))]))))) (.tr (rl [3, 3, 0, 0]) false (.region false [(oP 16 (.bin .add (T 9) (tI 1))), (oP 9 (.mv (T
  16)))])))))
def xf40 : XFunc :=
(.mk 18 [(.tmp 2)] (.seq (.tr (rl [0]) false (.region false [(oP 2 (.mv (.lit (.c .nilm))))])) (.seq (.tr (rl [0, 2]) false (.region false [(.mk (some 6) .mkmap
  none .w), (oP 3 (.mv (T 6)))])) (.seq (.seq (.tr (rl [3, 3, 0, 0]) false (.region false [(oP 7 (.mv (T 0))), (oP 8 (.len (T 7))), (oP 9 (.mv (tI 0)))])) (.tr
  (rl [3]) false (.block 0 (.loop (rl [3, 3, 0, 0]) xf40_l0)))) (.seq (.tr (rl [2]) false (.region false [(oP 17 (.mv (T 3))), (oP 2 (.mv (T 17)))])) (.tr (rl
  [2]) false .ret))))))
theorem xf40_ok : cmpFunc Go.Proofs.Tryd.prog 40 ((.two (.tr (rl [0]) false .no) (.two (.tr (rl [0, 2]) false .no) (.two (.two (.tr (rl [3, 3, 0, 0]) false .no) (.tr (rl [3]) false (.loop (rl [3, 3, 0, 0]) (.two .no (.two (.tr (rl [3, 3, 0, 0]) false (.two .no (.tr (rl [3]) false .no))) (.two (.tr (rl [3, 3, 0, 0]) false (.two (.tr (rl [3, 1, 1, 0, 0]) false .no) (.tr (rl [3, 3, 0, 0]) false .no))) (.tr (rl [3, 3, 0, 0]) false .no))))))) (.two (.tr (rl [2]) false .no) (.tr (rl [2]) false .no)))))) = some xf40 := by kernel_rfl
def xf41 : XFunc :=
(.mk 3 [(.tmp 2)] (.seq (.tr [] false (.region false [(oW 1 (.box (T 0) 7)), (oP 2 (.mv (.lit (.c (.pv (.bool false))))))])) (.seq (.region false [(oP 2 (.mv
  (.lit (.c (.pv (.bool true))))))]) (.tr (rl [2]) false .ret))))
theorem xf41_ok : cmpFunc Go.Proofs.Tryd.prog 41 ((.two (.tr [] false .no) (.two .no (.tr (rl [2]) false .no)))) = some xf41 := by kernel_rfl
def xf42_l0 : XCode :=
(.seq (.region false [(oP 11 (.bin .lss (T 10) (T 9)))]) (.seq (.tr (rl [1, 3, 2, 0, 0]) false (.cond (T 11) .skip (.tr (rl [5]) false (.exit 0)))) (.seq (.tr
  (rl [1, 3, 2, 0, 0]) false (.block 1 (.seq (.tr (rl [1, 3, 1, 0, 0, 0]) false (.region false [(oP 12 (.iaddrS 7 (T 8) (T 10))), (oR 13 (.load true 7 (T 12))),
  (oW 7 (.alloc [(.pv (.int .i64 0)), (.pv (.int .i32 0)), (.pv (.int .i32 0)), (.pv (.sl .nil 0 [])), (.pv (.int .i64 0)), (.pv (.int .i64 0)), (.pv (.str
  []))])), (sW (.store 7 (T 7) (T 13)))])) (.seq (.tr (rl [1, 3, 1, 0, 0, 0, 5]) false (.region false [(oP 14 (.mv (T 1))), (oR 15 (.load true 7 (T 7))), (oW 16
  (.call false [] (T 14) [(T 15)]))])) (.tr (rl [1, 3, 2, 0, 0]) false (.cond (T 16) (.tr (rl [1, 3, 2, 0, 0]) false (.region false [(oP 17 (.mv (T 5))), (oR 18
  (.load true 7 (T 7))), (oP 19 (.call false [] (.lit (.c (.fn 43 []))) [(T 18)])), (oP 20 (.buildSl [(.pv (.int .i64 0)), (.pv (.int .i32 0)), (.pv (.int .i32
  0)), (.pv (.sl .nil 0 [])), (.pv (.int .i64 0)), (.pv (.int .i64 0)), (.pv (.str []))] 1 7 [(0, (7, (T 19)))])), (oW 21 (.app 7 72 (T 17) (T 20))), (oP 5 (.mv
  (T 21)))])) .skip)))))) (.tr (rl [1, 3, 2, 0, 0]) false (.region false [(oP 22 (.bin .add (T 10) (tI 1))), (oP 10 (.mv (T 22)))])))))
def xf42 : XFunc :=
(.mk 24 [(.tmp 4)] (.seq (.tr (rl [0, 0]) false (.region false [(oP 4 (.mv (.lit (.c (.pv (.sl .nil 0 []))))))])) (.seq (.region false [(oP 5 (.mv (.lit (.c
  (.pv (.sl .nil 0 []))))))]) (.seq (.seq (.tr (rl [1, 3, 2, 0, 0]) false (.region false [(oP 8 (.mv (T 0))), (oP 9 (.len (T 8))), (oP 10 (.mv (tI 0)))])) (.tr
  (rl [5]) false (.block 0 (.loop (rl [1, 3, 2, 0, 0]) xf42_l0)))) (.seq (.tr (rl [4]) false (.region false [(oP 23 (.mv (T 5))), (oP 4 (.mv (T 23)))])) (.tr
  (rl [4]) false .ret))))))
theorem xf42_ok : cmpFunc Go.Proofs.Tryd.prog 42 ((.two (.tr (rl [0, 0]) false .no) (.two .no (.two (.two (.tr (rl [1, 3, 2, 0, 0]) false .no) (.tr (rl [5]) false (.loop (rl [1, 3, 2, 0, 0]) (.two .no (.two (.tr (rl [1, 3, 2, 0, 0]) false (.two .no (.tr (rl [5]) false .no))) (.two (.tr (rl [1, 3, 2, 0, 0]) false (.two (.tr (rl [1, 3, 1, 0, 0, 0]) false .no) (.two (.tr (rl [1, 3, 1, 0, 0, 0, 5]) false .no) (.tr (rl [1, 3, 2, 0, 0]) false (.two (.tr (rl [1, 3, 2, 0, 0]) false (.ops [{}, {}, { cls := some .p }])) .no))))) (.tr (rl [1, 3, 2, 0, 0]) false .no))))))) (.two (.tr (rl [4]) false .no) (.tr (rl [4]) false .no)))))) = some xf42 := by kernel_rfl
def xf43 : XFunc :=
(.mk 8 [(.cell 2 true 7)] (.seq (.tr (rl [1, 0]) false (.region false [(oW 1 (.box (T 0) 7)), (oW 2 (.alloc [(.pv (.int .i64 0)), (.pv (.int .i32 0)), (.pv
  (.int .i32 0)), (.pv (.sl .nil 0 [])), (.pv (.int .i64 0)), (.pv (.int .i64 0)), (.pv (.str []))]))])) (.seq (.tr (rl [1, 0]) false (.region false [(oP 3
  (.faddr 3 (T 1))), (oR 4 (.load false 1 (T 3))), (oP 5 (.call false [] (.lit (.c (.fn 37 []))) [(T 4)])), (oP 6 (.faddr 3 (T 1))), (sW (.store 1 (T 6) (T
  5)))])) (.seq (.tr (rl [2]) false (.region false [(oR 7 (.load true 7 (T 1))), (sW (.store 7 (T 2) (T 7)))])) (.tr (rl [2]) false .ret)))))
theorem xf43_ok : cmpFunc Go.Proofs.Tryd.prog 43 ((.two (.tr (rl [1, 0]) false .no) (.two (.tr (rl [1, 0]) false (.ops [{}, {}, { cls := some .p }])) (.two (.tr (rl [2]) false .no) (.tr (rl [2]) false .no))))) = some xf43 := by kernel_rfl
def xf44 : XFunc :=
(.mk 33 [(.tmp 8)] (.seq (.tr (rl [0, 0, 0, 0]) false (.region false [(oP 8 (.mv (tI 0)))])) (.seq (.region false [(oP 9 (.mv (.lit (.c (.fn 93 [])))))]) (.seq
  (.tr (rl [8]) false (.block 0 (.seq (.tr (rl [1, 0, 0, 5, 0]) false (.region false [(oP 11 (.mv (T 0))), (oP 12 (.len (T 11))), (oP 13 (.bin .gtr (T 12) (tI
  2000))), (oP 10 (.mv (T 13)))])) (.tr (rl [8]) false (.cond (T 10) (.seq (.region false [(oP 8 (.mv (tI 4)))]) (.tr (rl [8]) false .ret)) (.seq (.tr (rl [14])
  false (.region false [(oP 15 (.mv (T 9))), (oP 16 (.mv (T 1))), (oW 17 (.call false [] (T 15) [(T 16)])), (oP 18 (.mv (T 17))), (.mk (some 19) (.mv (T 9))
  (some (18, false)) .p), (.mk (some 20) (.mv (T 2)) (some (18, false)) .p), (.mk (some 21) (.call false [] (T 19) [(T 20)]) (some (18, false)) .w), (oP 22
  (.pick (T 18) (.lit (.c (.pv (.bool true)))) (T 21))), (oP 23 (.mv (T 22))), (.mk (some 24) (.mv (T 1)) (some (23, false)) .p), (.mk (some 25) (.mv (T 2))
  (some (23, false)) .p), (.mk (some 26) (.bin .gtr (T 24) (T 25)) (some (23, false)) .p), (oP 27 (.pick (T 23) (.lit (.c (.pv (.bool true)))) (T 26))), (oP 28
  (.mv (T 27))), (.mk (some 29) (.mv (T 3)) (some (28, false)) .p), (.mk (some 30) (.mv (T 9)) (some (28, false)) .p), (.mk (some 31) (.call false [] (.lit (.c
  (.fn 94 []))) [(T 29), (T 30)]) (some (28, false)) .w), (oP 32 (.pick (T 28) (.lit (.c (.pv (.bool true)))) (T 31))), (oP 14 (.mv (T 32)))])) (.tr (rl [8])
  false (.cond (T 14) (.seq (.region false [(oP 8 (.mv (tI 11)))]) (.tr (rl [8]) false .ret)) .skip)))))))) (.seq (.region false [(oP 8 (.mv (tI 0)))]) (.tr (rl
  [8]) false .ret))))))
theorem xf44_ok : cmpFunc Go.Proofs.Tryd.prog 44 ((.two (.tr (rl [0, 0, 0, 0]) false .no) (.two .no (.two (.tr (rl [8]) false (.two (.tr (rl [1, 0, 0, 5, 0]) false .no) (.tr (rl [8]) false (.two (.two .no (.tr (rl [8]) false .no)) (.two (.tr (rl [14]) false .no) (.tr (rl [8]) false (.two (.two .no (.tr (rl [8]) false .no)) .no))))))) (.two .no (.tr (rl [8]) false .no)))))) = some xf44 := by kernel_rfl
def xf45_l0 : XCode :=
(.seq (.region false [(oP 24 (.bin .lss (T 23) (T 22)))]) (.seq (.tr (rl [1, 0, 5, 0, 1, 2, 0, 0, 4, 0, 0]) false (.cond (T 24) .skip (.tr (rl [1, 0, 5, 0, 4,
  0, 0]) false (.exit 2)))) (.seq (.tr (rl [1, 0, 3, 0, 0, 0, 1, 2, 0, 0, 4, 0, 0]) false (.block 3 (.seq (.tr (rl [1, 0, 5, 0, 1, 1, 0, 0, 0, 4, 0, 0]) false
  (.region false [(oP 25 (.iaddrS 3 (T 21) (T 23))), (oR 26 (.load true 3 (T 25))), (oW 13 (.alloc [(.pv (.int .i64 0)), (.pv (.int .i64 0)), (.pv (.int .i64
  0))])), (sW (.store 3 (T 13) (T 26)))])) (.seq (.seq (.tr (rl [1, 0, 5, 0, 1, 1, 0, 0, 0, 4, 0, 0, 13]) false (.region false [(oP 27 (.faddr 0 (T 13))), (oR
  28 (.load false 1 (T 27))), (oP 29 (.mv (T 1))), (oP 30 (.bin .neq (T 28) (T 29))), (oP 31 (.mv (T 30))), (.mk (some 32) (.faddr 1 (T 13)) (some (31, false))
  .p), (.mk (some 33) (.faddr 0 (T 32)) (some (31, false)) .p), (.mk (some 34) (.load false 1 (T 33)) (some (31, false)) .r), (.mk (some 35) (.mv (T 2)) (some
  (31, false)) .p), (.mk (some 36) (.bin .neq (T 34) (T 35)) (some (31, false)) .p), (oP 37 (.pick (T 31) (.lit (.c (.pv (.bool true)))) (T 36)))])) (.tr (rl
  [1, 0, 5, 0, 1, 1, 0, 0, 0, 4, 0, 0]) false (.cond (T 37) (.tr (rl [1, 0, 5, 0, 1, 2, 0, 0, 4, 0, 0]) false (.exit 3)) .skip))) (.seq (.seq (.tr (rl [1, 0, 5,
  0, 1, 1, 0, 0, 0, 4, 0, 0, 17]) false (.region false [(oP 38 (.faddr 1 (T 13))), (oP 39 (.faddr 1 (T 38))), (oR 40 (.load false 1 (T 39))), (oW 41 (.call
  false [] (.lit (.c (.fn 95 []))) [(T 9), (T 40)]))])) (.tr (rl [1, 0, 3, 0, 0, 0, 1, 1, 0, 0, 0, 4, 0, 0]) false (.cond (T 41) (.seq (.region false [(oP 6
  (.mv (.lit (.c (.pv (.sl .nil 0 [])))))), (oP 7 (.mv (tI 9)))]) (.tr (rl [6, 0]) false .ret)) .skip))) (.tr (rl [1, 0, 5, 0, 1, 2, 0, 0, 4, 0, 0]) false
  (.region false [(oP 42 (.mv (T 8))), (oP 43 (.faddr 1 (T 11))), (oR 44 (.load false 1 (T 43))), (oP 45 (.faddr 2 (T 11))), (oR 46 (.load false 1 (T 45))), (oP
  47 (.faddr 1 (T 13))), (oP 48 (.faddr 1 (T 47))), (oR 49 (.load false 1 (T 48))), (oP 50 (.build [(.pv (.int .i32 0)), (.pv (.int .i32 0)), (.pv (.int .i64
  0))] [(0, (1, (T 44))), (1, (1, (T 46))), (2, (1, (T 49)))])), (oP 51 (.buildSl [(.pv (.int .i32 0)), (.pv (.int .i32 0)), (.pv (.int .i64 0))] 1 3 [(0, (3,
  (T 50)))])), (oW 52 (.app 3 16 (T 42) (T 51))), (oP 8 (.mv (T 52)))]))))))) (.tr (rl [1, 0, 5, 0, 1, 2, 0, 0, 4, 0, 0]) false (.region false [(oP 53 (.bin
  .add (T 23) (tI 1))), (oP 23 (.mv (T 53)))])))))
def xf45_l1 : XCode :=
(.seq (.region false [(oP 17 (.bin .lss (T 16) (T 15)))]) (.seq (.tr (rl [1, 0, 5, 0, 4, 0, 0]) false (.cond (T 17) .skip (.tr (rl [8]) false (.exit 0)))) (.seq
  (.tr (rl [1, 0, 3, 0, 0, 0, 4, 0, 0]) false (.block 1 (.seq (.tr (rl [1, 0, 5, 0, 1, 2, 0, 0]) false (.region false [(oP 18 (.iaddrS 7 (T 14) (T 16))), (oR 19
  (.load true 7 (T 18))), (oW 11 (.alloc [(.pv (.int .i64 0)), (.pv (.int .i32 0)), (.pv (.int .i32 0)), (.pv (.sl .nil 0 [])), (.pv (.int .i64 0)), (.pv (.int
  .i64 0)), (.pv (.str []))])), (sW (.store 7 (T 11) (T 19)))])) (.seq (.tr (rl [1, 0, 5, 0, 1, 2, 0, 0, 4, 0, 0]) false (.region false [(oP 20 (.faddr 3 (T
  11))), (oR 21 (.load false 1 (T 20))), (oP 22 (.len (T 21))), (oP 23 (.mv (tI 0)))])) (.tr (rl [1, 0, 3, 0, 0, 0, 4, 0, 0]) false (.block 2 (.loop (rl [1, 0,
  5, 0, 1, 2, 0, 0, 4, 0, 0]) xf45_l0))))))) (.tr (rl [1, 0, 5, 0, 4, 0, 0]) false (.region false [(oP 54 (.bin .add (T 16) (tI 1))), (oP 16 (.mv (T 54)))])))))
def xf45 : XFunc :=
(.mk 56 [(.tmp 6), (.tmp 7)] (.seq (.tr (rl [0, 0, 0]) false (.region false [(oP 6 (.mv (.lit (.c (.pv (.sl .nil 0 [])))))), (oP 7 (.mv (tI 0)))])) (.seq
  (.region false [(oP 8 (.mv (.lit (.c (.pv (.sl .nil 0 []))))))]) (.seq (.region false [(oW 9 (.alloc [(.pv (.int .i64 0))]))]) (.seq (.seq (.tr (rl [1, 0, 5,
  0, 4, 0, 0]) false (.region false [(oP 14 (.mv (T 0))), (oP 15 (.len (T 14))), (oP 16 (.mv (tI 0)))])) (.tr (rl [6, 0, 0]) false (.block 0 (.loop (rl [1, 0,
  5, 0, 4, 0, 0]) xf45_l1)))) (.seq (.tr (rl [6, 0]) false (.region false [(oP 55 (.mv (T 8))), (oP 6 (.mv (T 55))), (oP 7 (.mv (tI 0)))])) (.tr (rl [6, 0])
  false .ret)))))))
theorem xf45_ok : cmpFunc Go.Proofs.Tryd.prog 45 ((.two (.tr (rl [0, 0, 0]) false .no) (.two .no (.two .no (.two (.two (.tr (rl [1, 0, 5, 0, 4, 0, 0]) false .no) (.tr (rl [6, 0, 0]) false (.loop (rl [1, 0, 5, 0, 4, 0, 0]) (.two .no (.two (.tr (rl [1, 0, 5, 0, 4, 0, 0]) false (.two .no (.tr (rl [8]) false .no))) (.two (.tr (rl [1, 0, 3, 0, 0, 0, 4, 0, 0]) false (.two (.tr (rl [1, 0, 5, 0, 1, 2, 0, 0]) false .no) (.two (.tr (rl [1, 0, 5, 0, 1, 2, 0, 0, 4, 0, 0]) false .no) (.tr (rl [1, 0, 3, 0, 0, 0, 4, 0, 0]) false (.loop (rl [1, 0, 5, 0, 1, 2, 0, 0, 4, 0, 0]) (.two .no (.two (.tr (rl [1, 0, 5, 0, 1, 2, 0, 0, 4, 0, 0]) false (.two .no (.tr (rl [1, 0, 5, 0, 4, 0, 0]) false .no))) (.two (.tr (rl [1, 0, 3, 0, 0, 0, 1, 2, 0, 0, 4, 0, 0]) false (.two (.tr (rl [1, 0, 5, 0, 1, 1, 0, 0, 0, 4, 0, 0]) false .no) (.two (.two (.tr (rl [1, 0, 5, 0, 1, 1, 0, 0, 0, 4, 0, 0, 13]) false .no) (.tr (rl [1, 0, 5, 0, 1, 1, 0, 0, 0, 4, 0, 0]) false (.two (.tr (rl [1, 0, 5, 0, 1, 2, 0, 0, 4, 0, 0]) false .no) .no))) (.two (.two (.tr (rl [1, 0, 5, 0, 1, 1, 0, 0, 0, 4, 0, 0, 17]) false .no) (.tr (rl [1, 0, 3, 0, 0, 0, 1, 1, 0, 0, 0, 4, 0, 0]) false (.two (.two .no (.tr (rl [6, 0]) false .no)) .no))) (.tr (rl [1, 0, 5, 0, 1, 2, 0, 0, 4, 0, 0]) false .no))))) (.tr (rl [1, 0, 5, 0, 1, 2, 0, 0, 4, 0, 0]) false .no))))))))) (.tr (rl [1, 0, 5, 0, 4, 0, 0]) false .no))))))) (.two (.tr (rl [6, 0]) false .no) (.tr (rl [6, 0]) false .no))))))) = some xf45 := by kernel_rfl
def xf46_l0 : XCode :=
(.seq (.region false [(oP 11 (.bin .lss (T 10) (T 9)))]) (.seq (.tr (rl [1, 3, 2, 0, 0]) false (.cond (T 11) .skip (.tr (rl [5]) false (.exit 0)))) (.seq (.tr
  (rl [1, 3, 2, 0, 0]) false (.block 1 (.seq (.tr (rl [1, 3, 1, 0, 0, 0]) false (.region false [(oP 12 (.iaddrS 3 (T 8) (T 10))), (oR 13 (.load true 3 (T 12))),
  (oW 7 (.alloc [(.pv (.int .i32 0)), (.pv (.int .i32 0)), (.pv (.int .i64 0))])), (sW (.store 3 (T 7) (T 13)))])) (.seq (.tr (rl [1, 3, 1, 0, 0, 0, 5]) false
  (.region false [(oP 14 (.mv (T 1))), (oR 15 (.load true 3 (T 7))), (oW 16 (.call false [] (T 14) [(T 15)]))])) (.tr (rl [1, 3, 2, 0, 0]) false (.cond (T 16)
  (.tr (rl [1, 3, 2, 0, 0]) false (.region false [(oP 17 (.mv (T 5))), (oP 18 (.faddr 2 (T 7))), (oR 19 (.load false 1 (T 18))), (oP 20 (.bin .add (T 17) (T
  19))), (oP 5 (.mv (T 20)))])) .skip)))))) (.tr (rl [1, 3, 2, 0, 0]) false (.region false [(oP 21 (.bin .add (T 10) (tI 1))), (oP 10 (.mv (T 21)))])))))
def xf46 : XFunc :=
(.mk 23 [(.tmp 4)] (.seq (.tr (rl [0, 0]) false (.region false [(oP 4 (.mv (tI 0)))])) (.seq (.region false [(oP 5 (.mv (tI 0)))]) (.seq (.seq (.tr (rl [1, 3,
  2, 0, 0]) false (.region false [(oP 8 (.mv (T 0))), (oP 9 (.len (T 8))), (oP 10 (.mv (tI 0)))])) (.tr (rl [5]) false (.block 0 (.loop (rl [1, 3, 2, 0, 0])
  xf46_l0)))) (.seq (.tr (rl [4]) false (.region false [(oP 22 (.mv (T 5))), (oP 4 (.mv (T 22)))])) (.tr (rl [4]) false .ret))))))
theorem xf46_ok : cmpFunc Go.Proofs.Tryd.prog 46 ((.two (.tr (rl [0, 0]) false .no) (.two .no (.two (.two (.tr (rl [1, 3, 2, 0, 0]) false .no) (.tr (rl [5]) false (.loop (rl [1, 3, 2, 0, 0]) (.two .no (.two (.tr (rl [1, 3, 2, 0, 0]) false (.two .no (.tr (rl [5]) false .no))) (.two (.tr (rl [1, 3, 2, 0, 0]) false (.two (.tr (rl [1, 3, 1, 0, 0, 0]) false .no) (.two (.tr (rl [1, 3, 1, 0, 0, 0, 5]) false .no) (.tr (rl [1, 3, 2, 0, 0]) false (.two (.tr (rl [1, 3, 2, 0, 0]) false .no) .no))))) (.tr (rl [1, 3, 2, 0, 0]) false .no))))))) (.two (.tr (rl [4]) false .no) (.tr (rl [4]) false .no)))))) = some xf46 := by kernel_rfl
def xf47 : XFunc :=
(.mk 15 [(.tmp 4)] (.seq (.tr (rl [1, 0, 0]) false (.region false [(oW 3 (.box (T 0) 3)), (oP 4 (.mv (.lit (.c (.pv (.bool false))))))])) (.seq (.tr (rl [4])
  false (.region false [(oP 5 (.faddr 1 (T 3))), (oR 6 (.load false 1 (T 5))), (oR 7 (.load false 1 (T 1))), (oP 8 (.bin .leq (T 6) (T 7))), (oP 9 (.mv (T 8))),
  (.mk (some 10) (.faddr 0 (T 3)) (some (9, true)) .p), (.mk (some 11) (.load false 1 (T 10)) (some (9, true)) .r), (.mk (some 12) (.load false 1 (T 2)) (some
  (9, true)) .r), (.mk (some 13) (.bin .leq (T 11) (T 12)) (some (9, true)) .p), (oP 14 (.pick (T 9) (T 13) (.lit (.c (.pv (.bool false)))))), (oP 4 (.mv (T
  14)))])) (.tr (rl [4]) false .ret))))
theorem xf47_ok : cmpFunc Go.Proofs.Tryd.prog 47 ((.two (.tr (rl [1, 0, 0]) false .no) (.two (.tr (rl [4]) false .no) (.tr (rl [4]) false .no)))) = some xf47 := by kernel_rfl
def xf48 : XFunc :=
(.mk 13 [(.tmp 4), (.tmp 5)] (.seq (.tr (rl [1, 0]) false (.region false [(oW 2 (.box (T 0) 1)), (oP 4 (.mv (.lit (.c (.pv (.sl .nil 0 [])))))), (oP 5 (.mv (tI
  0)))])) (.seq (.seq (.tr (rl [1, 0, 5]) false (.region false [(oR 6 (.load true 1 (T 2))), (oP 7 (.call false [] (.lit (.c (.fn 38 []))) [(T 6)])), (oP 8 (.un
  .not (T 7)))])) (.tr (rl [1, 0, 1, 0]) false (.cond (T 8) (.seq (.region false [(oP 4 (.mv (.lit (.c (.pv (.sl .nil 0 [])))))), (oP 5 (.mv (tI 1)))]) (.tr (rl
  [4, 0]) false .ret)) .skip))) (.seq (.tr (rl [4, 0]) false (.region false [(oP 9 (.faddr 0 (T 2))), (oR 10 (.load false 1 (T 9))), (oP 11 (.mv (T 1))), (oW 12
  (.call false [] (.lit (.c (.fn 42 []))) [(T 10), (T 11)])), (oP 4 (.mv (T 12))), (oP 5 (.mv (tI 0)))])) (.tr (rl [4, 0]) false .ret)))))
theorem xf48_ok : cmpFunc Go.Proofs.Tryd.prog 48 ((.two (.tr (rl [1, 0]) false .no) (.two (.two (.tr (rl [1, 0, 5]) false (.ops [{}, { cls := some .p }])) (.tr (rl [1, 0, 1, 0]) false (.two (.two .no (.tr (rl [4, 0]) false .no)) .no))) (.two (.tr (rl [4, 0]) false .no) (.tr (rl [4, 0]) false .no))))) = some xf48 := by kernel_rfl
def xf49 : XFunc :=
(.mk 14 [(.tmp 3)] (.seq (.tr (rl [1, 0]) false (.region false [(oW 2 (.box (T 0) 7)), (oP 3 (.mv (.lit (.c (.pv (.bool false))))))])) (.seq (.tr (rl [3]) false
  (.region false [(oP 4 (.faddr 4 (T 2))), (oR 5 (.load false 1 (T 4))), (oP 6 (.bin .eql (T 5) (tI 0))), (oP 7 (.mv (T 6))), (.mk (some 8) (.load false 1 (T
  1)) (some (7, true)) .r), (.mk (some 9) (.faddr 0 (T 2)) (some (7, true)) .p), (.mk (some 10) (.load false 1 (T 9)) (some (7, true)) .r), (.mk (some 11)
  (.mlook (.bool false) false (T 8) (T 10) 0) (some (7, true)) .r), (.mk (some 12) (.un .not (T 11)) (some (7, true)) .p), (oP 13 (.pick (T 7) (T 12) (.lit (.c
  (.pv (.bool false)))))), (oP 3 (.mv (T 13)))])) (.tr (rl [3]) false .ret))))
theorem xf49_ok : cmpFunc Go.Proofs.Tryd.prog 49 ((.two (.tr (rl [1, 0]) false .no) (.two (.tr (rl [3]) false .no) (.tr (rl [3]) false .no)))) = some xf49 := by kernel_rfl
def xf53 : XFunc :=
(.mk 9 [(.tmp 2)] (.seq (.tr (rl [0]) false (.region false [(oP 2 (.mv (.lit (.c (.pv (.bool false))))))])) (.seq (.tr (rl [2]) false (.region false [(oP 3 (.mv
  (T 0))), (oP 4 (.bin .geq (T 3) (.lit (.c (.pv (.int .i32 (-50000))))))), (oP 5 (.mv (T 4))), (.mk (some 6) (.mv (T 0)) (some (5, true)) .p), (.mk (some 7)
  (.bin .leq (T 6) (.lit (.c (.pv (.int .i32 50000))))) (some (5, true)) .p), (oP 8 (.pick (T 5) (T 7) (.lit (.c (.pv (.bool false)))))), (oP 2 (.mv (T 8)))]))
  (.tr (rl [2]) false .ret))))
theorem xf53_ok : cmpFunc Go.Proofs.Tryd.prog 53 ((.two (.tr (rl [0]) false .no) (.two (.tr (rl [2]) false .no) (.tr (rl [2]) false .no)))) = some xf53 := by kernel_rfl
def xf74 : XFunc :=
(.mk 9 [(.tmp 2)] (.seq (.tr (rl [0]) false (.region false [(oP 2 (.mv (.lit (.c (.pv (.bool false))))))])) (.seq (.tr (rl [2]) false (.region false [(oP 3 (.mv
  (T 0))), (oP 4 (.bin .geq (T 3) (tI 0))), (oP 5 (.mv (T 4))), (.mk (some 6) (.mv (T 0)) (some (5, true)) .p), (.mk (some 7) (.bin .lss (T 6) (tI 4)) (some (5,
  true)) .p), (oP 8 (.pick (T 5) (T 7) (.lit (.c (.pv (.bool false)))))), (oP 2 (.mv (T 8)))])) (.tr (rl [2]) false .ret))))
theorem xf74_ok : cmpFunc Go.Proofs.Tryd.prog 74 ((.two (.tr (rl [0]) false .no) (.two (.tr (rl [2]) false .no) (.tr (rl [2]) false .no)))) = some xf74 := by kernel_rfl
def xf79 : XFunc :=
(.mk 8 [(.tmp 3)] (.seq (.tr (rl [1, 0]) false (.region false [(oW 2 (.box (T 0) 3)), (oP 3 (.mv (.lit (.c (.pv (.bool false))))))])) (.seq (.tr (rl [3]) false
  (.region false [(oP 4 (.faddr 1 (T 2))), (oR 5 (.load false 1 (T 4))), (oR 6 (.load false 1 (T 1))), (oP 7 (.bin .leq (T 5) (T 6))), (oP 3 (.mv (T 7)))]))
  (.tr (rl [3]) false .ret))))
theorem xf79_ok : cmpFunc Go.Proofs.Tryd.prog 79 ((.two (.tr (rl [1, 0]) false .no) (.two (.tr (rl [3]) false .no) (.tr (rl [3]) false .no)))) = some xf79 := by kernel_rfl
def xf80_l0 : XCode :=
(.seq (.region false [(oP 8 (.bin .lss (T 7) (T 6)))]) (.seq (.tr (rl [0, 4, 0, 0]) false (.cond (T 8) .skip (.tr (rl [0]) false (.exit 0)))) (.seq (.tr (rl [0,
  1, 2, 0, 0]) false (.block 1 (.seq (.tr (rl [0, 2, 0, 0, 0, 0]) false (.region false [(oP 9 (.mv (T 7))), (oP 10 (.iaddrS 6 (T 5) (T 7))), (oR 11 (.load true
  6 (T 10))), (oW 4 (.alloc [(.pv (.int .i64 0)), (.pv (.int .i64 0)), (.pv (.int .i64 0)), (.pv (.int .i64 0)), (.pv (.int .i64 0)), (.pv (.int .i32 0))])),
  (oP 3 (.mv (T 9))), (sW (.store 6 (T 4) (T 11)))])) (.seq (.tr (rl [0, 4, 0, 0, 21]) false (.region true [(oR 12 (.load true 6 (T 4))), (oP 13 (.call false []
  (.lit (.c (.fn 120 []))) [(T 12)])), (oP 14 (.un .not (T 13))), (oP 15 (.mv (T 14))), (.mk (some 16) (.mv (T 3)) (some (15, false)) .p), (.mk (some 17) (.bin
  .gtr (T 16) (tI 0)) (some (15, false)) .p), (.mk (some 18) (.mv (T 17)) (some (15, false)) .p), (.mk (some 19) (.mv (T 0)) (some (18, true)) .p), (.mk (some
  20) (.mv (T 3)) (some (18, true)) .p), (.mk (some 21) (.bin .sub (T 20) (tI 1)) (some (18, true)) .p), (.mk (some 22) (.iaddrS 6 (T 19) (T 21)) (some (18,
  true)) .p), (.mk (some 23) (.faddr 0 (T 22)) (some (18, true)) .p), (.mk (some 24) (.load false 1 (T 23)) (some (18, true)) .r), (.mk (some 25) (.faddr 0 (T
  4)) (some (18, true)) .p), (.mk (some 26) (.load false 1 (T 25)) (some (18, true)) .r), (.mk (some 27) (.bin .geq (T 24) (T 26)) (some (18, true)) .p), (.mk
  (some 28) (.pick (T 18) (T 27) (.lit (.c (.pv (.bool false))))) (some (15, false)) .p), (oP 29 (.pick (T 15) (.lit (.c (.pv (.bool true)))) (T 28)))])) (.tr
  (rl [0, 1, 2, 0, 0]) false (.cond (T 29) (.seq (.region false [(oP 2 (.mv (.lit (.c (.pv (.bool false))))))]) (.tr (rl [2]) false .ret)) .skip)))))) (.tr (rl
  [0, 4, 0, 0]) false (.region false [(oP 30 (.bin .add (T 7) (tI 1))), (oP 7 (.mv (T 30)))])))))
def xf80 : XFunc :=
(.mk 34 [(.tmp 2)] (.seq (.tr (rl [0]) false (.region false [(oP 2 (.mv (.lit (.c (.pv (.bool false))))))])) (.seq (.seq (.region false [(oP 5 (.mv (T 0))), (oP
  6 (.len (T 5))), (oP 7 (.mv (tI 0)))]) (.tr (rl [0, 1]) false (.block 0 (.loop (rl [0, 4, 0, 0]) xf80_l0)))) (.seq (.tr (rl [2]) false (.region false [(oP 31
  (.mv (T 0))), (oP 32 (.len (T 31))), (oP 33 (.bin .leq (T 32) (tI 300))), (oP 2 (.mv (T 33)))])) (.tr (rl [2]) false .ret)))))
theorem xf80_ok : cmpFunc Go.Proofs.Tryd.prog 80 ((.two (.tr (rl [0]) false .no) (.two (.two .no (.tr (rl [0, 1]) false (.loop (rl [0, 4, 0, 0]) (.two .no (.two (.tr (rl [0, 4, 0, 0]) false (.two .no (.tr (rl [0]) false .no))) (.two (.tr (rl [0, 1, 2, 0, 0]) false (.two (.tr (rl [0, 2, 0, 0, 0, 0]) false .no) (.two (.tr (rl [0, 4, 0, 0, 21]) false (.draw [0, 1, 2, 3, 4, 5, 6, 7, 8, 9, 10, 11, 12, 13, 14, 15, 16, 17] [{}, { cls := some .p }])) (.tr (rl [0, 1, 2, 0, 0]) false (.two (.two .no (.tr (rl [2]) false .no)) .no))))) (.tr (rl [0, 4, 0, 0]) false .no))))))) (.two (.tr (rl [2]) false .no) (.tr (rl [2]) false .no))))) = some xf80 := by kernel_rfl
def xf81 : XFunc :=
(.mk 9 [(.tmp 2)] (.seq (.tr (rl [0]) false (.region false [(oP 2 (.mv (.lit (.c (.pv (.bool false))))))])) (.seq (.tr (rl [2]) false (.region false [(oP 3 (.mv
  (T 0))), (oP 4 (.bin .geq (T 3) (tI 0))), (oP 5 (.mv (T 4))), (.mk (some 6) (.mv (T 0)) (some (5, true)) .p), (.mk (some 7) (.bin .leq (T 6) (tI 3)) (some (5,
  true)) .p), (oP 8 (.pick (T 5) (T 7) (.lit (.c (.pv (.bool false)))))), (oP 2 (.mv (T 8)))])) (.tr (rl [2]) false .ret))))
theorem xf81_ok : cmpFunc Go.Proofs.Tryd.prog 81 ((.two (.tr (rl [0]) false .no) (.two (.tr (rl [2]) false .no) (.tr (rl [2]) false .no)))) = some xf81 := by kernel_rfl
def xf82 : XFunc :=
(.mk 8 [(.tmp 2)] (.seq (.tr (rl [0]) false (.region false [(oP 2 (.mv (.lit (.c (.pv (.sl .nil 0 []))))))])) (.seq (.seq (.tr (rl [0, 3]) false (.region false
  [(oP 3 (.mv (T 0))), (oP 4 (.eqN 0 false (T 3) (.lit (.c (.pv (.sl .nil 0 []))))))])) (.tr (rl [0, 1]) false (.cond (T 4) (.seq (.region false [(oP 2 (.mv
  (.lit (.c (.pv (.sl .nil 0 []))))))]) (.tr (rl [2]) false .ret)) .skip))) (.seq (.tr (rl [2]) false (.region false [(oP 5 (.buildSl [(.pv (.int .i64 0))] 0 1
  [])), (oP 6 (.mv (T 0))), (oW 7 (.app 1 8 (T 5) (T 6))), (oP 2 (.mv (T 7)))])) (.tr (rl [2]) false .ret)))))
theorem xf82_ok : cmpFunc Go.Proofs.Tryd.prog 82 ((.two (.tr (rl [0]) false .no) (.two (.two (.tr (rl [0, 3]) false .no) (.tr (rl [0, 1]) false (.two (.two .no (.tr (rl [2]) false .no)) .no))) (.two (.tr (rl [2]) false .no) (.tr (rl [2]) false .no))))) = some xf82 := by kernel_rfl
def xf83 : XFunc :=
(.mk 8 [(.tmp 3)] (.seq (.tr (rl [0, 0]) false (.region false [(oP 3 (.mv (.lit (.c (.pv (.bool false))))))])) (.seq (.tr (rl [3]) false (.region false [(oP 4
  (.faddr 3 (T 1))), (oR 5 (.load false 1 (T 4))), (oP 6 (.mv (T 0))), (oW 7 (.call false [] (.lit (.c (.fn 84 []))) [(T 5), (T 6)])), (oP 3 (.mv (T 7)))]))
  (.tr (rl [3]) false .ret))))
theorem xf83_ok : cmpFunc Go.Proofs.Tryd.prog 83 ((.two (.tr (rl [0, 0]) false .no) (.two (.tr (rl [3]) false .no) (.tr (rl [3]) false .no)))) = some xf83 := by kernel_rfl
def xf84 : XFunc :=
(.mk 9 [(.tmp 4)] (.seq (.tr (rl [0, 0]) false (.region false [(oP 4 (.mv (.lit (.c (.pv (.bool false))))))])) (.seq (.tr (rl [4]) false (.region false [(oP 5
  (.mv (T 0))), (oP 6 (.mv (T 1))), (oW 7 (.call false [] (.lit (.c (.fn 121 []))) [(T 5), (T 6)])), (oP 8 (.bin .geq (T 7) (tI 0))), (oP 4 (.mv (T 8)))])) (.tr
  (rl [4]) false .ret))))
theorem xf84_ok : cmpFunc Go.Proofs.Tryd.prog 84 ((.two (.tr (rl [0, 0]) false .no) (.two (.tr (rl [4]) false .no) (.tr (rl [4]) false .no)))) = some xf84 := by kernel_rfl
def xf85 : XFunc :=
(.mk 47 [(.tmp 2)] (.seq (.tr (rl [1]) false (.region false [(oW 1 (.box (T 0) 7)), (oP 2 (.mv (.lit (.c (.pv (.bool false))))))])) (.seq (.region false [(oP 3
  (.mv (.lit (.c (.fn 122 [])))))]) (.seq (.tr (rl [2]) false (.region false [(oP 4 (.faddr 0 (T 1))), (oR 5 (.load false 1 (T 4))), (oP 6 (.bin .geq (T 5) (tI
  1))), (oP 7 (.mv (T 6))), (.mk (some 8) (.faddr 0 (T 1)) (some (7, true)) .p), (.mk (some 9) (.load false 1 (T 8)) (some (7, true)) .r), (.mk (some 10) (.bin
  .leq (T 9) (tI 1000000)) (some (7, true)) .p), (oP 11 (.pick (T 7) (T 10) (.lit (.c (.pv (.bool false)))))), (oP 12 (.mv (T 11))), (.mk (some 13) (.faddr 4 (T
  1)) (some (12, true)) .p), (.mk (some 14) (.load false 1 (T 13)) (some (12, true)) .r), (.mk (some 15) (.bin .geq (T 14) (tI 0)) (some (12, true)) .p), (oP 16
  (.pick (T 12) (T 15) (.lit (.c (.pv (.bool false)))))), (oP 17 (.mv (T 16))), (.mk (some 18) (.faddr 4 (T 1)) (some (17, true)) .p), (.mk (some 19) (.load
  false 1 (T 18)) (some (17, true)) .r), (.mk (some 20) (.faddr 0 (T 1)) (some (17, true)) .p), (.mk (some 21) (.load false 1 (T 20)) (some (17, true)) .r),
  (.mk (some 22) (.bin .lss (T 19) (T 21)) (some (17, true)) .p), (oP 23 (.pick (T 17) (T 22) (.lit (.c (.pv (.bool false)))))), (oP 24 (.mv (T 23))), (.mk
  (some 25) (.faddr 5 (T 1)) (some (24, true)) .p), (.mk (some 26) (.load false 1 (T 25)) (some (24, true)) .r), (.mk (some 27) (.bin .geq (T 26) (tI 0)) (some
  (24, true)) .p), (oP 28 (.pick (T 24) (T 27) (.lit (.c (.pv (.bool false)))))), (oP 29 (.mv (T 28))), (.mk (some 30) (.faddr 5 (T 1)) (some (29, true)) .p),
  (.mk (some 31) (.load false 1 (T 30)) (some (29, true)) .r), (.mk (some 32) (.bin .leq (T 31) (tI 4)) (some (29, true)) .p), (oP 33 (.pick (T 29) (T 32) (.lit
  (.c (.pv (.bool false)))))), (oP 34 (.mv (T 33))), (.mk (some 35) (.faddr 6 (T 1)) (some (34, true)) .p), (.mk (some 36) (.load false 1 (T 35)) (some (34,
  true)) .r), (.mk (some 37) (.lenS (T 36)) (some (34, true)) .p), (.mk (some 38) (.bin .leq (T 37) (tI 32)) (some (34, true)) .p), (oP 39 (.pick (T 34) (T 38)
  (.lit (.c (.pv (.bool false)))))), (oP 40 (.mv (T 39))), (.mk (some 41) (.faddr 6 (T 1)) (some (40, true)) .p), (.mk (some 42) (.load false 1 (T 41)) (some
  (40, true)) .r), (.mk (some 43) (.mv (T 3)) (some (40, true)) .p), (.mk (some 44) (.call false [] (.lit (.c (.fn 123 []))) [(T 42), (T 43)]) (some (40, true))
  .w), (.mk (some 45) (.un .not (T 44)) (some (40, true)) .p), (oP 46 (.pick (T 40) (T 45) (.lit (.c (.pv (.bool false)))))), (oP 2 (.mv (T 46)))])) (.tr (rl
  [2]) false .ret)))))
theorem xf85_ok : cmpFunc Go.Proofs.Tryd.prog 85 ((.two (.tr (rl [1]) false .no) (.two .no (.two (.tr (rl [2]) false .no) (.tr (rl [2]) false .no))))) = some xf85 := by kernel_rfl
def xf86 : XFunc :=
(.mk 11 [(.tmp 2)] (.seq (.tr (rl [1]) false (.region false [(oW 1 (.box (T 0) 3)), (oP 2 (.mv (.lit (.c (.pv (.bool false))))))])) (.seq (.tr (rl [2]) false
  (.region false [(oP 3 (.faddr 0 (T 1))), (oR 4 (.load false 1 (T 3))), (oP 5 (.bin .lss (T 4) (tI 1))), (oP 6 (.mv (T 5))), (.mk (some 7) (.faddr 0 (T 1))
  (some (6, false)) .p), (.mk (some 8) (.load false 1 (T 7)) (some (6, false)) .r), (.mk (some 9) (.bin .gtr (T 8) (tI 999)) (some (6, false)) .p), (oP 10
  (.pick (T 6) (.lit (.c (.pv (.bool true)))) (T 9))), (oP 2 (.mv (T 10)))])) (.tr (rl [2]) false .ret))))
theorem xf86_ok : cmpFunc Go.Proofs.Tryd.prog 86 ((.two (.tr (rl [1]) false .no) (.two (.tr (rl [2]) false .no) (.tr (rl [2]) false .no)))) = some xf86 := by kernel_rfl
def xf87 : XFunc :=
(.mk 8 [(.tmp 2)] (.seq (.tr (rl [1]) false (.region false [(oW 1 (.box (T 0) 3)), (oP 2 (.mv (.lit (.c (.pv (.bool false))))))])) (.seq (.tr (rl [2]) false
  (.region false [(oP 3 (.faddr 1 (T 1))), (oP 4 (.faddr 0 (T 3))), (oR 5 (.load false 1 (T 4))), (oP 6 (.call false [] (.lit (.c (.fn 88 []))) [(T 5)])), (oP 7
  (.bin .eql (T 6) (.lit (.c (.pv (.str [])))))), (oP 2 (.mv (T 7)))])) (.tr (rl [2]) false .ret))))
theorem xf87_ok : cmpFunc Go.Proofs.Tryd.prog 87 ((.two (.tr (rl [1]) false .no) (.two (.tr (rl [2]) false (.ops [{}, {}, {}, { cls := some .p }])) (.tr (rl [2]) false .no)))) = some xf87 := by kernel_rfl
def xf88 : XFunc :=
(.mk 10 [(.tmp 2)] (.seq (.tr (rl [0]) false (.region false [(oP 2 (.mv (.lit (.c (.pv (.str []))))))])) (.seq (.seq (.tr (rl [0, 4]) false (.region false [(oP
  3 (.mv (T 0))), (oP 4 (.call false [] (.lit (.c (.fn 74 []))) [(T 3)])), (oP 5 (.un .not (T 4)))])) (.tr (rl [0, 1]) false (.cond (T 5) (.seq (.region false
  [(oP 2 (.mv (.lit (.c (.pv (.str []))))))]) (.tr (rl [2]) false .ret)) .skip))) (.seq (.tr (rl [2]) false (.region false [(oP 6 (.mv (T 0))), (oP 7 (.iaddrA 4
  3 (.lit (.c (.cptr [(.str [69, 85, 82]), (.int .i64 2), (.int .i64 100), (.str [74, 80, 89]), (.int .i64 0), (.int .i64 1), (.str [66, 72, 68]), (.int .i64
  3), (.int .i64 1000), (.str [85, 83, 68]), (.int .i64 2), (.int .i64 100)] 0))) (T 6))), (oP 8 (.faddr 0 (T 7))), (oR 9 (.load false 1 (T 8))), (oP 2 (.mv (T
  9)))])) (.tr (rl [2]) false .ret)))))
theorem xf88_ok : cmpFunc Go.Proofs.Tryd.prog 88 ((.two (.tr (rl [0]) false .no) (.two (.two (.tr (rl [0, 4]) false (.ops [{}, { cls := some .p }])) (.tr (rl [0, 1]) false (.two (.two .no (.tr (rl [2]) false .no)) .no))) (.two (.tr (rl [2]) false .no) (.tr (rl [2]) false .no))))) = some xf88 := by kernel_rfl
def xf89 : XFunc :=
(.mk 7 [(.tmp 2)] (.seq (.tr (rl [1]) false (.region false [(oW 1 (.box (T 0) 3)), (oP 2 (.mv (.lit (.c (.pv (.bool false))))))])) (.seq (.tr (rl [2]) false
  (.region false [(oP 3 (.faddr 1 (T 1))), (oR 4 (.load true 2 (T 3))), (oP 5 (.call false [] (.lit (.c (.fn 30 []))) [(T 4)])), (oP 6 (.un .not (T 5))), (oP 2
  (.mv (T 6)))])) (.tr (rl [2]) false .ret))))
theorem xf89_ok : cmpFunc Go.Proofs.Tryd.prog 89 ((.two (.tr (rl [1]) false .no) (.two (.tr (rl [2]) false (.ops [{}, {}, { cls := some .p }])) (.tr (rl [2]) false .no)))) = some xf89 := by kernel_rfl
def xf90 : XFunc :=
(.mk 7 [(.tmp 2)] (.seq (.tr (rl [1]) false (.region false [(oW 1 (.box (T 0) 3)), (oP 2 (.mv (.lit (.c (.pv (.bool false))))))])) (.seq (.tr (rl [2]) false
  (.region false [(oP 3 (.faddr 1 (T 1))), (oP 4 (.faddr 1 (T 3))), (oR 5 (.load false 1 (T 4))), (oP 6 (.bin .eql (T 5) (tI 0))), (oP 2 (.mv (T 6)))])) (.tr
  (rl [2]) false .ret))))
theorem xf90_ok : cmpFunc Go.Proofs.Tryd.prog 90 ((.two (.tr (rl [1]) false .no) (.two (.tr (rl [2]) false .no) (.tr (rl [2]) false .no)))) = some xf90 := by kernel_rfl
def xf91_l0 : XCode :=
(.seq (.region false [(oP 9 (.bin .lss (T 8) (T 7)))]) (.seq (.tr (rl [3, 2, 0, 0]) false (.cond (T 9) .skip (.tr (rl [3]) false (.exit 0)))) (.seq (.tr (rl [3,
  2, 0, 0]) false (.block 1 (.seq (.tr (rl [3, 1, 0, 0, 0]) false (.region false [(oP 10 (.iaddrS 3 (T 6) (T 8))), (oR 11 (.load true 3 (T 10))), (oW 5 (.alloc
  [(.pv (.int .i64 0)), (.pv (.int .i64 0)), (.pv (.int .i64 0))])), (sW (.store 3 (T 5) (T 11)))])) (.tr (rl [3, 2, 0, 0]) false (.region true [(oP 12 (.faddr
  1 (T 5))), (oP 13 (.faddr 0 (T 12))), (oR 14 (.load false 1 (T 13))), (oP 15 (.iaddrA 4 1 (T 3) (T 14))), (oR 16 (.load false 1 (T 15))), (oP 17 (.faddr 1 (T
  5))), (oP 18 (.faddr 1 (T 17))), (oR 19 (.load false 1 (T 18))), (oP 20 (.bin .add (T 16) (T 19))), (oP 21 (.iaddrA 4 1 (T 3) (T 14))), (sW (.store 1 (T 21)
  (T 20)))]))))) (.tr (rl [3, 2, 0, 0]) false (.region false [(oP 22 (.bin .add (T 8) (tI 1))), (oP 8 (.mv (T 22)))])))))
def xf91 : XFunc :=
(.mk 26 [(.tmp 2)] (.seq (.tr (rl [0]) false (.region false [(oP 2 (.mv (.lit (.c (.pv (.bool false))))))])) (.seq (.region false [(oW 3 (.alloc [(.pv (.int
  .i64 0)), (.pv (.int .i64 0)), (.pv (.int .i64 0)), (.pv (.int .i64 0))]))]) (.seq (.seq (.tr (rl [3, 2, 0, 0]) false (.region false [(oP 6 (.mv (T 0))), (oP
  7 (.len (T 6))), (oP 8 (.mv (tI 0)))])) (.tr (rl [3]) false (.block 0 (.loop (rl [3, 2, 0, 0]) xf91_l0)))) (.seq (.tr (rl [2]) false (.region false [(oR 23
  (.load true 4 (T 3))), (oP 24 (.build [(.pv (.int .i64 0)), (.pv (.int .i64 0)), (.pv (.int .i64 0)), (.pv (.int .i64 0))] [])), (oP 25 (.eqA false [0, 0, 0,
  0] (T 23) (T 24))), (oP 2 (.mv (T 25)))])) (.tr (rl [2]) false .ret))))))
theorem xf91_ok : cmpFunc Go.Proofs.Tryd.prog 91 ((.two (.tr (rl [0]) false .no) (.two .no (.two (.two (.tr (rl [3, 2, 0, 0]) false .no) (.tr (rl [3]) false (.loop (rl [3, 2, 0, 0]) (.two .no (.two (.tr (rl [3, 2, 0, 0]) false (.two .no (.tr (rl [3]) false .no))) (.two (.tr (rl [3, 2, 0, 0]) false (.two (.tr (rl [3, 1, 0, 0, 0]) false .no) (.tr (rl [3, 2, 0, 0]) false (.draw [0, 1, 2, 3, 4, 5, 6, 7, 8, 9, 10] [])))) (.tr (rl [3, 2, 0, 0]) false .no))))))) (.two (.tr (rl [2]) false .no) (.tr (rl [2]) false .no)))))) = some xf91 := by kernel_rfl
def xf92 : XFunc :=
(.mk 52 [(.tmp 4)] (.seq (.tr (rl [2, 0]) false (.region false [(oW 2 (.box (T 0) 7)), (oW 3 (.box (T 1) 7)), (oP 4 (.mv (.lit (.c (.pv (.bool false))))))]))
  (.seq (.tr (rl [4]) false (.region false [(oP 5 (.faddr 3 (T 2))), (oR 6 (.load false 1 (T 5))), (oP 7 (.faddr 3 (T 3))), (oR 8 (.load false 1 (T 7))), (oP 9
  (.call false [] (.lit (.c (.fn 124 []))) [(T 6), (T 8)])), (oP 10 (.mv (T 9))), (.mk (some 11) (.faddr 0 (T 2)) (some (10, true)) .p), (.mk (some 12) (.load
  false 1 (T 11)) (some (10, true)) .r), (.mk (some 13) (.faddr 0 (T 3)) (some (10, true)) .p), (.mk (some 14) (.load false 1 (T 13)) (some (10, true)) .r),
  (.mk (some 15) (.bin .eql (T 12) (T 14)) (some (10, true)) .p), (oP 16 (.pick (T 10) (T 15) (.lit (.c (.pv (.bool false)))))), (oP 17 (.mv (T 16))), (.mk
  (some 18) (.faddr 1 (T 2)) (some (17, true)) .p), (.mk (some 19) (.load false 1 (T 18)) (some (17, true)) .r), (.mk (some 20) (.faddr 1 (T 3)) (some (17,
  true)) .p), (.mk (some 21) (.load false 1 (T 20)) (some (17, true)) .r), (.mk (some 22) (.bin .eql (T 19) (T 21)) (some (17, true)) .p), (oP 23 (.pick (T 17)
  (T 22) (.lit (.c (.pv (.bool false)))))), (oP 24 (.mv (T 23))), (.mk (some 25) (.faddr 2 (T 2)) (some (24, true)) .p), (.mk (some 26) (.load false 1 (T 25))
  (some (24, true)) .r), (.mk (some 27) (.faddr 2 (T 3)) (some (24, true)) .p), (.mk (some 28) (.load false 1 (T 27)) (some (24, true)) .r), (.mk (some 29)
  (.bin .eql (T 26) (T 28)) (some (24, true)) .p), (oP 30 (.pick (T 24) (T 29) (.lit (.c (.pv (.bool false)))))), (oP 31 (.mv (T 30))), (.mk (some 32) (.faddr 4
  (T 2)) (some (31, true)) .p), (.mk (some 33) (.load false 1 (T 32)) (some (31, true)) .r), (.mk (some 34) (.faddr 4 (T 3)) (some (31, true)) .p), (.mk (some
  35) (.load false 1 (T 34)) (some (31, true)) .r), (.mk (some 36) (.bin .eql (T 33) (T 35)) (some (31, true)) .p), (oP 37 (.pick (T 31) (T 36) (.lit (.c (.pv
  (.bool false)))))), (oP 38 (.mv (T 37))), (.mk (some 39) (.faddr 5 (T 2)) (some (38, true)) .p), (.mk (some 40) (.load false 1 (T 39)) (some (38, true)) .r),
  (.mk (some 41) (.faddr 5 (T 3)) (some (38, true)) .p), (.mk (some 42) (.load false 1 (T 41)) (some (38, true)) .r), (.mk (some 43) (.bin .eql (T 40) (T 42))
  (some (38, true)) .p), (oP 44 (.pick (T 38) (T 43) (.lit (.c (.pv (.bool false)))))), (oP 45 (.mv (T 44))), (.mk (some 46) (.faddr 6 (T 2)) (some (45, true))
  .p), (.mk (some 47) (.load false 1 (T 46)) (some (45, true)) .r), (.mk (some 48) (.faddr 6 (T 3)) (some (45, true)) .p), (.mk (some 49) (.load false 1 (T 48))
  (some (45, true)) .r), (.mk (some 50) (.bin .eql (T 47) (T 49)) (some (45, true)) .p), (oP 51 (.pick (T 45) (T 50) (.lit (.c (.pv (.bool false)))))), (oP 4
  (.mv (T 51)))])) (.tr (rl [4]) false .ret))))
theorem xf92_ok : cmpFunc Go.Proofs.Tryd.prog 92 ((.two (.tr (rl [2, 0]) false .no) (.two (.tr (rl [4]) false (.ops [{}, {}, {}, {}, { cls := some .p }])) (.tr (rl [4]) false .no)))) = some xf92 := by kernel_rfl
def xf93 : XFunc :=
(.mk 6 [(.tmp 2)] (.seq (.tr (rl [0]) false (.region false [(oP 2 (.mv (.lit (.c (.pv (.bool false))))))])) (.seq (.tr (rl [2]) false (.region false [(oP 3 (.mv
  (T 0))), (oP 4 (.call false [] (.lit (.c (.fn 53 []))) [(T 3)])), (oP 5 (.un .not (T 4))), (oP 2 (.mv (T 5)))])) (.tr (rl [2]) false .ret))))
theorem xf93_ok : cmpFunc Go.Proofs.Tryd.prog 93 ((.two (.tr (rl [0]) false .no) (.two (.tr (rl [2]) false (.ops [{}, { cls := some .p }])) (.tr (rl [2]) false .no)))) = some xf93 := by kernel_rfl
def xf94 : XFunc :=
(.mk 9 [(.tmp 4)] (.seq (.tr (rl [0, 0]) false (.region false [(oP 4 (.mv (.lit (.c (.pv (.bool false))))))])) (.seq (.tr (rl [4]) false (.region false [(oP 5
  (.mv (T 0))), (oP 6 (.mv (T 1))), (oW 7 (.call false [] (.lit (.c (.fn 125 []))) [(T 5), (T 6)])), (oP 8 (.bin .geq (T 7) (tI 0))), (oP 4 (.mv (T 8)))])) (.tr
  (rl [4]) false .ret))))
theorem xf94_ok : cmpFunc Go.Proofs.Tryd.prog 94 ((.two (.tr (rl [0, 0]) false .no) (.two (.tr (rl [4]) false .no) (.tr (rl [4]) false .no)))) = some xf94 := by kernel_rfl
def xf95 : XFunc :=
(.mk 28 [(.tmp 4)] (.seq (.tr (rl [0, 0]) false (.region false [(oP 4 (.mv (.lit (.c (.pv (.bool false))))))])) (.seq (.seq (.tr (rl [0, 0, 4]) false (.region
  false [(oP 5 (.mv (T 1))), (oP 6 (.bin .lss (T 5) (tI 0)))])) (.tr (rl [0, 0]) false (.cond (T 6) (.tr (rl [0, 0]) false (.region false [(oP 7 (.mv (T 1))),
  (oP 8 (.un .neg (T 7))), (oP 1 (.mv (T 8)))])) .skip))) (.seq (.seq (.tr (rl [0, 0, 17]) false (.region false [(oP 9 (.mv (T 1))), (oP 10 (.bin .lss (T 9) (tI
  0))), (oP 11 (.mv (T 10))), (.mk (some 12) (.mv (T 1)) (some (11, false)) .p), (.mk (some 13) (.mv (T 0)) (some (11, false)) .p), (.mk (some 14) (.nilc (T
  13)) (some (11, false)) .p), (.mk (some 15) (.faddr 0 (T 14)) (some (11, false)) .p), (.mk (some 16) (.load false 1 (T 15)) (some (11, false)) .r), (.mk (some
  17) (.bin .sub (tI 1000000000000000000) (T 16)) (some (11, false)) .p), (.mk (some 18) (.bin .gtr (T 12) (T 17)) (some (11, false)) .p), (oP 19 (.pick (T 11)
  (.lit (.c (.pv (.bool true)))) (T 18)))])) (.tr (rl [0, 0, 2]) false (.cond (T 19) (.seq (.region false [(oP 4 (.mv (.lit (.c (.pv (.bool true))))))]) (.tr
  (rl [4]) false .ret)) .skip))) (.seq (.tr [] false (.region false [(oP 20 (.mv (T 0))), (oP 21 (.nilc (T 20))), (oP 22 (.faddr 0 (T 21))), (oR 23 (.load false
  1 (T 22))), (oP 24 (.mv (T 1))), (oP 25 (.bin .add (T 23) (T 24))), (oP 26 (.nilc (T 20))), (oP 27 (.faddr 0 (T 26))), (sW (.store 1 (T 27) (T 25)))])) (.seq
  (.region false [(oP 4 (.mv (.lit (.c (.pv (.bool false))))))]) (.tr (rl [4]) false .ret)))))))
theorem xf95_ok : cmpFunc Go.Proofs.Tryd.prog 95 ((.two (.tr (rl [0, 0]) false .no) (.two (.two (.tr (rl [0, 0, 4]) false .no) (.tr (rl [0, 0]) false (.two (.tr (rl [0, 0]) false .no) .no))) (.two (.two (.tr (rl [0, 0, 17]) false .no) (.tr (rl [0, 0, 2]) false (.two (.two .no (.tr (rl [4]) false .no)) .no))) (.two (.tr [] false .no) (.two .no (.tr (rl [4]) false .no))))))) = some xf95 := by kernel_rfl
def xf120 : XFunc :=
(.mk 46 [(.tmp 2)] (.seq (.tr (rl [1]) false (.region false [(oW 1 (.box (T 0) 6)), (oP 2 (.mv (.lit (.c (.pv (.bool false))))))])) (.seq (.tr (rl [2]) false
  (.region false [(oP 3 (.faddr 0 (T 1))), (oR 4 (.load false 1 (T 3))), (oP 5 (.bin .geq (T 4) (tI 1))), (oP 6 (.mv (T 5))), (.mk (some 7) (.faddr 1 (T 1))
  (some (6, true)) .p), (.mk (some 8) (.load false 1 (T 7)) (some (6, true)) .r), (.mk (some 9) (.call false [] (.lit (.c (.fn 136 []))) [(T 8)]) (some (6,
  true)) .p), (oP 10 (.pick (T 6) (T 9) (.lit (.c (.pv (.bool false)))))), (oP 11 (.mv (T 10))), (.mk (some 12) (.faddr 2 (T 1)) (some (11, true)) .p), (.mk
  (some 13) (.load false 1 (T 12)) (some (11, true)) .r), (.mk (some 14) (.call false [] (.lit (.c (.fn 136 []))) [(T 13)]) (some (11, true)) .p), (oP 15 (.pick
  (T 11) (T 14) (.lit (.c (.pv (.bool false)))))), (oP 16 (.mv (T 15))), (.mk (some 17) (.faddr 1 (T 1)) (some (16, true)) .p), (.mk (some 18) (.load false 1 (T
  17)) (some (16, true)) .r), (.mk (some 19) (.faddr 2 (T 1)) (some (16, true)) .p), (.mk (some 20) (.load false 1 (T 19)) (some (16, true)) .r), (.mk (some 21)
  (.bin .neq (T 18) (T 20)) (some (16, true)) .p), (oP 22 (.pick (T 16) (T 21) (.lit (.c (.pv (.bool false)))))), (oP 23 (.mv (T 22))), (.mk (some 24) (.faddr 3
  (T 1)) (some (23, true)) .p), (.mk (some 25) (.faddr 0 (T 24)) (some (23, true)) .p), (.mk (some 26) (.load false 1 (T 25)) (some (23, true)) .r), (.mk (some
  27) (.call false [] (.lit (.c (.fn 81 []))) [(T 26)]) (some (23, true)) .p), (oP 28 (.pick (T 23) (T 27) (.lit (.c (.pv (.bool false)))))), (oP 29 (.mv (T
  28))), (.mk (some 30) (.faddr 3 (T 1)) (some (29, true)) .p), (.mk (some 31) (.faddr 1 (T 30)) (some (29, true)) .p), (.mk (some 32) (.load false 1 (T 31))
  (some (29, true)) .r), (.mk (some 33) (.bin .geq (T 32) (tI 1)) (some (29, true)) .p), (oP 34 (.pick (T 29) (T 33) (.lit (.c (.pv (.bool false)))))), (oP 35
  (.mv (T 34))), (.mk (some 36) (.faddr 3 (T 1)) (some (35, true)) .p), (.mk (some 37) (.faddr 1 (T 36)) (some (35, true)) .p), (.mk (some 38) (.load false 1 (T
  37)) (some (35, true)) .r), (.mk (some 39) (.bin .leq (T 38) (tI 1000000000000)) (some (35, true)) .p), (oP 40 (.pick (T 35) (T 39) (.lit (.c (.pv (.bool
  false)))))), (oP 41 (.mv (T 40))), (.mk (some 42) (.faddr 5 (T 1)) (some (41, true)) .p), (.mk (some 43) (.load false 1 (T 42)) (some (41, true)) .r), (.mk
  (some 44) (.call false [] (.lit (.c (.fn 53 []))) [(T 43)]) (some (41, true)) .p), (oP 45 (.pick (T 41) (T 44) (.lit (.c (.pv (.bool false)))))), (oP 2 (.mv
  (T 45)))])) (.tr (rl [2]) false .ret))))
theorem xf120_ok : cmpFunc Go.Proofs.Tryd.prog 120 ((.two (.tr (rl [1]) false .no) (.two (.tr (rl [2]) false (.ops [{}, {}, {}, {}, {}, {}, { cls := some .p }, {}, {}, {}, {}, { cls := some .p }, {}, {}, {}, {}, {}, {}, {}, {}, {}, {}, {}, {}, { cls := some .p }, {}, {}, {}, {}, {}, {}, {}, {}, {}, {}, {}, {}, {}, {}, {}, {}, { cls := some .p }])) (.tr (rl [2]) false .no)))) = some xf120 := by kernel_rfl
def xf121_l0 : XCode :=
(.seq (.region false [(oP 9 (.bin .lss (T 8) (T 7)))]) (.seq (.tr (rl [0, 0, 5, 0]) false (.cond (T 9) .skip (.tr [] false (.exit 0)))) (.seq (.tr (rl [0, 0, 2,
  2, 0]) false (.block 1 (.seq (.tr (rl [0, 0, 3, 1, 0]) false (.region false [(oP 10 (.mv (T 8))), (oP 5 (.mv (T 10)))])) (.seq (.tr (rl [0, 0, 3, 1, 0, 7])
  false (.region false [(oP 11 (.mv (T 1))), (oP 12 (.mv (T 0))), (oP 13 (.mv (T 5))), (oP 14 (.iaddrS 3 (T 12) (T 13))), (oR 15 (.load true 3 (T 14))), (oW 16
  (.call false [] (T 11) [(T 15)]))])) (.tr (rl [0, 0, 2, 2, 0]) false (.cond (T 16) (.seq (.tr (rl [4]) false (.region false [(oP 17 (.mv (T 5))), (oP 4 (.mv
  (T 17)))])) (.tr (rl [4]) false .ret)) .skip)))))) (.tr (rl [0, 0, 5, 0]) false (.region false [(oP 18 (.bin .add (T 8) (tI 1))), (oP 8 (.mv (T 18)))])))))
def xf121 : XFunc :=
(.mk 19 [(.tmp 4)] (.seq (.tr (rl [0, 0]) false (.region false [(oP 4 (.mv (tI 0)))])) (.seq (.seq (.tr (rl [0, 0, 5, 0]) false (.region false [(oP 6 (.mv (T
  0))), (oP 7 (.len (T 6))), (oP 8 (.mv (tI 0)))])) (.tr (rl [4]) false (.block 0 (.loop (rl [0, 0, 5, 0]) xf121_l0)))) (.seq (.region false [(oP 4 (.mv (.lit
  (.c (.pv (.int .i64 (-1)))))))]) (.tr (rl [4]) false .ret)))))
theorem xf121_ok : cmpFunc Go.Proofs.Tryd.prog 121 ((.two (.tr (rl [0, 0]) false .no) (.two (.two (.tr (rl [0, 0, 5, 0]) false .no) (.tr (rl [4]) false (.loop (rl [0, 0, 5, 0]) (.two .no (.two (.tr (rl [0, 0, 5, 0]) false (.two .no (.tr [] false .no))) (.two (.tr (rl [0, 0, 2, 2, 0]) false (.two (.tr (rl [0, 0, 3, 1, 0]) false .no) (.two (.tr (rl [0, 0, 3, 1, 0, 7]) false .no) (.tr (rl [0, 0, 2, 2, 0]) false (.two (.two (.tr (rl [4]) false .no) (.tr (rl [4]) false .no)) .no))))) (.tr (rl [0, 0, 5, 0]) false .no))))))) (.two .no (.tr (rl [4]) false .no))))) = some xf121 := by kernel_rfl
def xf122 : XFunc :=
(.mk 9 [(.tmp 2)] (.seq (.tr (rl [0]) false (.region false [(oP 2 (.mv (.lit (.c (.pv (.bool false))))))])) (.seq (.tr (rl [2]) false (.region false [(oP 3 (.mv
  (T 0))), (oP 4 (.bin .lss (T 3) (.lit (.c (.pv (.int .i32 32)))))), (oP 5 (.mv (T 4))), (.mk (some 6) (.mv (T 0)) (some (5, false)) .p), (.mk (some 7) (.bin
  .gtr (T 6) (.lit (.c (.pv (.int .i32 126))))) (some (5, false)) .p), (oP 8 (.pick (T 5) (.lit (.c (.pv (.bool true)))) (T 7))), (oP 2 (.mv (T 8)))])) (.tr (rl
  [2]) false .ret))))
theorem xf122_ok : cmpFunc Go.Proofs.Tryd.prog 122 ((.two (.tr (rl [0]) false .no) (.two (.tr (rl [2]) false .no) (.tr (rl [2]) false .no)))) = some xf122 := by kernel_rfl
def xf123 : XFunc :=
(.mk 9 [(.tmp 4)] (.seq (.tr (rl [0, 0]) false (.region false [(oP 4 (.mv (.lit (.c (.pv (.bool false))))))])) (.seq (.tr (rl [4]) false (.region false [(oP 5
  (.mv (T 0))), (oP 6 (.mv (T 1))), (oW 7 (.call false [] (.lit (.c (.fn 137 []))) [(T 5), (T 6)])), (oP 8 (.bin .geq (T 7) (tI 0))), (oP 4 (.mv (T 8)))])) (.tr
  (rl [4]) false .ret))))
theorem xf123_ok : cmpFunc Go.Proofs.Tryd.prog 123 ((.two (.tr (rl [0, 0]) false .no) (.two (.tr (rl [4]) false .no) (.tr (rl [4]) false .no)))) = some xf123 := by kernel_rfl
def xf124_l0 : XCode :=
(.seq (.region false [(oP 14 (.bin .lss (T 13) (T 12)))]) (.seq (.tr (rl [0, 0, 10, 0]) false (.cond (T 14) .skip (.tr [] false (.exit 0)))) (.seq (.tr (rl [0,
  0, 2, 7, 0]) false (.block 1 (.seq (.tr (rl [0, 0, 3, 6, 0]) false (.region false [(oP 15 (.mv (T 13))), (oP 5 (.mv (T 15)))])) (.seq (.tr (rl [0, 0, 10, 0,
  10]) false (.region true [(oP 16 (.mv (T 0))), (oP 17 (.mv (T 5))), (oP 18 (.iaddrS 3 (T 16) (T 17))), (oR 19 (.load true 3 (T 18))), (oP 20 (.mv (T 1))), (oP
  21 (.mv (T 5))), (oP 22 (.iaddrS 3 (T 20) (T 21))), (oR 23 (.load true 3 (T 22))), (oP 24 (.eqA true [0, 0, 0] (T 19) (T 23)))])) (.tr (rl [0, 0, 2, 7, 0])
  false (.cond (T 24) (.seq (.region false [(oP 4 (.mv (.lit (.c (.pv (.bool false))))))]) (.tr (rl [4]) false .ret)) .skip)))))) (.tr (rl [0, 0, 10, 0]) false
  (.region false [(oP 25 (.bin .add (T 13) (tI 1))), (oP 13 (.mv (T 25)))])))))
def xf124 : XFunc :=
(.mk 26 [(.tmp 4)] (.seq (.tr (rl [0, 0]) false (.region false [(oP 4 (.mv (.lit (.c (.pv (.bool false))))))])) (.seq (.seq (.tr (rl [0, 0, 8]) false (.region
  false [(oP 6 (.mv (T 0))), (oP 7 (.len (T 6))), (oP 8 (.mv (T 1))), (oP 9 (.len (T 8))), (oP 10 (.bin .neq (T 7) (T 9)))])) (.tr (rl [0, 0, 2]) false (.cond
  (T 10) (.seq (.region false [(oP 4 (.mv (.lit (.c (.pv (.bool false))))))]) (.tr (rl [4]) false .ret)) .skip))) (.seq (.seq (.tr (rl [0, 0, 10, 0]) false
  (.region false [(oP 11 (.mv (T 0))), (oP 12 (.len (T 11))), (oP 13 (.mv (tI 0)))])) (.tr (rl [4]) false (.block 0 (.loop (rl [0, 0, 10, 0]) xf124_l0)))) (.seq
  (.region false [(oP 4 (.mv (.lit (.c (.pv (.bool true))))))]) (.tr (rl [4]) false .ret))))))
theorem xf124_ok : cmpFunc Go.Proofs.Tryd.prog 124 ((.two (.tr (rl [0, 0]) false .no) (.two (.two (.tr (rl [0, 0, 8]) false .no) (.tr (rl [0, 0, 2]) false (.two (.two .no (.tr (rl [4]) false .no)) .no))) (.two (.two (.tr (rl [0, 0, 10, 0]) false .no) (.tr (rl [4]) false (.loop (rl [0, 0, 10, 0]) (.two .no (.two (.tr (rl [0, 0, 10, 0]) false (.two .no (.tr [] false .no))) (.two (.tr (rl [0, 0, 2, 7, 0]) false (.two (.tr (rl [0, 0, 3, 6, 0]) false .no) (.two (.tr (rl [0, 0, 10, 0, 10]) false (.draw [0, 1, 2, 3, 4, 5, 6, 7, 8] [])) (.tr (rl [0, 0, 2, 7, 0]) false (.two (.two .no (.tr (rl [4]) false .no)) .no))))) (.tr (rl [0, 0, 10, 0]) false .no))))))) (.two .no (.tr (rl [4]) false .no)))))) = some xf124 := by kernel_rfl
def xf125_l0 : XCode :=
(.seq (.region false [(oP 9 (.bin .lss (T 8) (T 7)))]) (.seq (.tr (rl [0, 0, 5, 0]) false (.cond (T 9) .skip (.tr [] false (.exit 0)))) (.seq (.tr (rl [0, 0, 2,
  2, 0]) false (.block 1 (.seq (.tr (rl [0, 0, 3, 1, 0]) false (.region false [(oP 10 (.mv (T 8))), (oP 5 (.mv (T 10)))])) (.seq (.tr (rl [0, 0, 3, 1, 0, 7])
  false (.region false [(oP 11 (.mv (T 1))), (oP 12 (.mv (T 0))), (oP 13 (.mv (T 5))), (oP 14 (.iaddrS 1 (T 12) (T 13))), (oR 15 (.load false 1 (T 14))), (oW 16
  (.call false [] (T 11) [(T 15)]))])) (.tr (rl [0, 0, 2, 2, 0]) false (.cond (T 16) (.seq (.tr (rl [4]) false (.region false [(oP 17 (.mv (T 5))), (oP 4 (.mv
  (T 17)))])) (.tr (rl [4]) false .ret)) .skip)))))) (.tr (rl [0, 0, 5, 0]) false (.region false [(oP 18 (.bin .add (T 8) (tI 1))), (oP 8 (.mv (T 18)))])))))
def xf125 : XFunc :=
(.mk 19 [(.tmp 4)] (.seq (.tr (rl [0, 0]) false (.region false [(oP 4 (.mv (tI 0)))])) (.seq (.seq (.tr (rl [0, 0, 5, 0]) false (.region false [(oP 6 (.mv (T
  0))), (oP 7 (.len (T 6))), (oP 8 (.mv (tI 0)))])) (.tr (rl [4]) false (.block 0 (.loop (rl [0, 0, 5, 0]) xf125_l0)))) (.seq (.region false [(oP 4 (.mv (.lit
  (.c (.pv (.int .i64 (-1)))))))]) (.tr (rl [4]) false .ret)))))
theorem xf125_ok : cmpFunc Go.Proofs.Tryd.prog 125 ((.two (.tr (rl [0, 0]) false .no) (.two (.two (.tr (rl [0, 0, 5, 0]) false .no) (.tr (rl [4]) false (.loop (rl [0, 0, 5, 0]) (.two .no (.two (.tr (rl [0, 0, 5, 0]) false (.two .no (.tr [] false .no))) (.two (.tr (rl [0, 0, 2, 2, 0]) false (.two (.tr (rl [0, 0, 3, 1, 0]) false .no) (.two (.tr (rl [0, 0, 3, 1, 0, 7]) false .no) (.tr (rl [0, 0, 2, 2, 0]) false (.two (.two (.tr (rl [4]) false .no) (.tr (rl [4]) false .no)) .no))))) (.tr (rl [0, 0, 5, 0]) false .no))))))) (.two .no (.tr (rl [4]) false .no))))) = some xf125 := by kernel_rfl
def xf136 : XFunc :=
(.mk 9 [(.tmp 2)] (.seq (.tr (rl [0]) false (.region false [(oP 2 (.mv (.lit (.c (.pv (.bool false))))))])) (.seq (.tr (rl [2]) false (.region false [(oP 3 (.mv
  (T 0))), (oP 4 (.bin .geq (T 3) (tI 0))), (oP 5 (.mv (T 4))), (.mk (some 6) (.mv (T 0)) (some (5, true)) .p), (.mk (some 7) (.bin .lss (T 6) (tI 16)) (some
  (5, true)) .p), (oP 8 (.pick (T 5) (T 7) (.lit (.c (.pv (.bool false)))))), (oP 2 (.mv (T 8)))])) (.tr (rl [2]) false .ret))))
theorem xf136_ok : cmpFunc Go.Proofs.Tryd.prog 136 ((.two (.tr (rl [0]) false .no) (.two (.tr (rl [2]) false .no) (.tr (rl [2]) false .no)))) = some xf136 := by kernel_rfl
def xf137 : XFunc :=
(.mk 8 [(.tmp 4)] (.seq (.tr (rl [0, 0]) false (.region false [(oP 4 (.mv (tI 0)))])) (.seq (.tr (rl [4]) false (.region false [(oP 5 (.mv (T 0))), (oP 6 (.mv
  (T 1))), (oW 7 (.call false [] (.lit (.c (.fn 141 []))) [(T 5), (T 6), (.lit (.c (.pv (.bool true))))])), (oP 4 (.mv (T 7)))])) (.tr (rl [4]) false .ret))))
theorem xf137_ok : cmpFunc Go.Proofs.Tryd.prog 137 ((.two (.tr (rl [0, 0]) false .no) (.two (.tr (rl [4]) false .no) (.tr (rl [4]) false .no)))) = some xf137 := by kernel_rfl
def xf141_l0 : XCode :=
(.seq (.region false [(oW 11 (.nxt (T 10))), (oP 12 (.extr 0 (T 11)))]) (.seq (.tr (rl [1, 0, 7, 0]) false (.cond (T 12) .skip (.tr [] false (.exit 0)))) (.tr
  (rl [1, 0, 3, 3]) false (.block 1 (.seq (.tr (rl [1, 0, 4, 0, 1]) false (.region false [(oP 13 (.extr 1 (T 11))), (oP 14 (.extr 2 (T 11))), (oP 7 (.mv (T
  13))), (oP 8 (.mv (T 14)))])) (.seq (.tr (rl [1, 0, 4, 2, 8]) false (.region false [(oP 15 (.mv (T 1))), (oP 16 (.mv (T 8))), (oW 17 (.call false [] (T 15)
  [(T 16)])), (oP 18 (.mv (T 2))), (oP 19 (.eqB false (T 17) (T 18)))])) (.tr (rl [1, 0, 3, 3]) false (.cond (T 19) (.seq (.tr (rl [6]) false (.region false
  [(oP 20 (.mv (T 7))), (oP 6 (.mv (T 20)))])) (.tr (rl [6]) false .ret)) .skip))))))))
def xf141 : XFunc :=
(.mk 21 [(.tmp 6)] (.seq (.tr (rl [0, 0, 0]) false (.region false [(oP 6 (.mv (tI 0)))])) (.seq (.seq (.tr (rl [1, 0, 7]) false (.region false [(oP 9 (.mv (T
  0))), (oW 10 (.rng (T 9)))])) (.tr (rl [6]) false (.block 0 (.loop (rl [1, 0, 7]) xf141_l0)))) (.seq (.region false [(oP 6 (.mv (.lit (.c (.pv (.int .i64
  (-1)))))))]) (.tr (rl [6]) false .ret)))))
theorem xf141_ok : cmpFunc Go.Proofs.Tryd.prog 141 ((.two (.tr (rl [0, 0, 0]) false .no) (.two (.two (.tr (rl [1, 0, 7]) false .no) (.tr (rl [6]) false (.loop (rl [1, 0, 7]) (.two .no (.two (.tr (rl [1, 0, 7, 0]) false (.two .no (.tr [] false .no))) (.tr (rl [1, 0, 3, 3]) false (.two (.tr (rl [1, 0, 4, 0, 1]) false .no) (.two (.tr (rl [1, 0, 4, 2, 8]) false .no) (.tr (rl [1, 0, 3, 3]) false (.two (.two (.tr (rl [6]) false .no) (.tr (rl [6]) false .no)) .no)))))))))) (.two .no (.tr (rl [6]) false .no))))) = some xf141 := by kernel_rfl
def xf27_l0 : XCode :=
(.seq (.region false [(oP 24 (.bin .lss (T 23) (T 22)))]) (.seq (.tr (rl [0, 0, 0, 0, 17, 0, 0]) false (.cond (T 24) .skip (.tr (rl [0, 0, 0, 0]) false (.exit
  0)))) (.seq (.tr (rl [0, 0, 0, 0, 4, 0, 11, 0, 0]) false (.block 1 (.seq (.tr (rl [0, 0, 0, 0, 7, 9, 0, 0]) false (.region false [(oP 25 (.iaddrS 7 (T 21) (T
  23))), (oR 26 (.load true 7 (T 25))), (oW 11 (.alloc [(.pv (.int .i64 0)), (.pv (.int .i32 0)), (.pv (.int .i32 0)), (.pv (.sl .nil 0 [])), (.pv (.int .i64
  0)), (.pv (.int .i64 0)), (.pv (.str []))])), (sW (.store 7 (T 11) (T 26)))])) (.seq (.tr (rl [0, 0, 0, 0, 8, 8, 0, 0]) false (.region false [(oR 27 (.load
  true 7 (T 11))), (oP 28 (.call false [] (.lit (.c (.fn 36 []))) [(T 27)])), (oP 12 (.mv (T 28)))])) (.seq (.tr (rl [0, 0, 0, 0, 8, 8, 0, 0, 6]) false (.region
  false [(oP 29 (.mv (T 12))), (oP 30 (.bin .neq (T 29) (tI 0)))])) (.tr (rl [0, 0, 0, 0, 4, 0, 11, 0, 0]) false (.cond (T 30) (.seq (.tr (rl [8, 0]) false
  (.region false [(oP 31 (.mv (T 12))), (oP 8 (.mv (tI 0))), (oP 9 (.mv (T 31)))])) (.tr (rl [8, 0]) false .ret)) .skip))))))) (.tr (rl [0, 0, 0, 0, 17, 0, 0])
  false (.region false [(oP 32 (.bin .add (T 23) (tI 1))), (oP 23 (.mv (T 32)))])))))
def xf27_l1 : XCode :=
(.seq (.region false [(oP 42 (.bin .lss (T 41) (T 40)))]) (.seq (.tr (rl [1, 0, 0, 9, 25, 0, 0]) false (.cond (T 42) .skip (.tr (rl [13]) false (.exit 2))))
  (.seq (.tr (rl [1, 0, 0, 9, 25, 0, 0]) false (.block 3 (.seq (.tr (rl [1, 0, 0, 9, 1, 23, 0, 0]) false (.region false [(oP 43 (.iaddrS 7 (T 39) (T 41))), (oR
  44 (.load true 7 (T 43))), (oW 15 (.alloc [(.pv (.int .i64 0)), (.pv (.int .i32 0)), (.pv (.int .i32 0)), (.pv (.sl .nil 0 [])), (.pv (.int .i64 0)), (.pv
  (.int .i64 0)), (.pv (.str []))])), (sW (.store 7 (T 15) (T 44)))])) (.seq (.tr (rl [1, 0, 0, 9, 1, 0, 22, 0, 0]) false (.region false [(oR 46 (.load true 7
  (T 15))), (oP 47 (.mv (T 1))), (oP 48 (.mv (T 2))), (oP 49 (.call false [] (.lit (.c (.fn 73 []))) [(T 46), (T 47), (T 48)])), (oP 45 (.mv (T 49))), (oP 50
  (.extr 0 (T 45))), (oP 51 (.extr 1 (T 45))), (oP 16 (.mv (T 50))), (oP 17 (.mv (T 51)))])) (.seq (.tr (rl [1, 0, 0, 9, 2, 22, 0, 0, 13]) false (.region false
  [(oP 52 (.faddr 2 (T 15))), (oR 53 (.load false 1 (T 52))), (oP 54 (.mv (T 3))), (oP 55 (.bin .leq (T 53) (T 54)))])) (.tr (rl [1, 0, 0, 9, 25, 0, 0]) false
  (.cond (T 55) (.tr (rl [1, 0, 0, 9, 25, 0, 0]) false (.region false [(oP 56 (.mv (T 13))), (oP 57 (.mv (T 16))), (oP 58 (.bin .add (T 56) (T 57))), (oP 13
  (.mv (T 58)))])) .skip))))))) (.tr (rl [1, 0, 0, 9, 25, 0, 0]) false (.region false [(oP 59 (.bin .add (T 41) (tI 1))), (oP 41 (.mv (T 59)))])))))
def xf27 : XFunc :=
(.mk 61 [(.tmp 8), (.tmp 9)] (.seq (.tr (rl [0, 0, 0, 0]) false (.region false [(oP 8 (.mv (tI 0))), (oP 9 (.mv (tI 0)))])) (.seq (.seq (.tr (rl [0, 0, 0, 0,
  16]) false (.region false [(oP 18 (.mv (T 0))), (oP 19 (.len (T 18))), (oP 20 (.bin .gtr (T 19) (tI 400)))])) (.tr (rl [0, 0, 0, 0, 4, 0]) false (.cond (T 20)
  (.seq (.region false [(oP 8 (.mv (tI 0))), (oP 9 (.mv (tI 4)))]) (.tr (rl [8, 0]) false .ret)) .skip))) (.seq (.seq (.region false [(oP 21 (.mv (T 0))), (oP
  22 (.len (T 21))), (oP 23 (.mv (tI 0)))]) (.tr (rl [0, 0, 0, 0, 4, 0]) false (.block 0 (.loop (rl [0, 0, 0, 0, 17, 0, 0]) xf27_l0)))) (.seq (.seq (.tr (rl [0,
  0, 0, 0, 34]) false (.region false [(oP 33 (.mv (T 2))), (oP 34 (.bin .lss (T 33) (tI 0))), (oP 35 (.mv (T 34))), (.mk (some 36) (.mv (T 2)) (some (35,
  false)) .p), (.mk (some 37) (.bin .geq (T 36) (tI 4)) (some (35, false)) .p), (oP 38 (.pick (T 35) (.lit (.c (.pv (.bool true)))) (T 37)))])) (.tr (rl [0, 0,
  0, 0, 4, 0]) false (.cond (T 38) (.seq (.region false [(oP 8 (.mv (tI 0))), (oP 9 (.mv (tI 12)))]) (.tr (rl [8, 0]) false .ret)) .skip))) (.seq (.region false
  [(oP 13 (.mv (tI 0)))]) (.seq (.seq (.tr (rl [1, 0, 0, 9, 25, 0, 0]) false (.region false [(oP 39 (.mv (T 0))), (oP 40 (.len (T 39))), (oP 41 (.mv (tI 0)))]))
  (.tr (rl [13]) false (.block 2 (.loop (rl [1, 0, 0, 9, 25, 0, 0]) xf27_l1)))) (.seq (.tr (rl [8, 0]) false (.region false [(oP 60 (.mv (T 13))), (oP 8 (.mv (T
  60))), (oP 9 (.mv (tI 0)))])) (.tr (rl [8, 0]) false .ret)))))))))
theorem xf27_ok : cmpFunc Go.Proofs.Tryd.prog 27 ((.two (.tr (rl [0, 0, 0, 0]) false .no) (.two (.two (.tr (rl [0, 0, 0, 0, 16]) false .no) (.tr (rl [0, 0, 0, 0, 4, 0]) false (.two (.two .no (.tr (rl [8, 0]) false .no)) .no))) (.two (.two .no (.tr (rl [0, 0, 0, 0, 4, 0]) false (.loop (rl [0, 0, 0, 0, 17, 0, 0]) (.two .no (.two (.tr (rl [0, 0, 0, 0, 17, 0, 0]) false (.two .no (.tr (rl [0, 0, 0, 0]) false .no))) (.two (.tr (rl [0, 0, 0, 0, 4, 0, 11, 0, 0]) false (.two (.tr (rl [0, 0, 0, 0, 7, 9, 0, 0]) false .no) (.two (.tr (rl [0, 0, 0, 0, 8, 8, 0, 0]) false (.ops [{}, { cls := some .p }])) (.two (.tr (rl [0, 0, 0, 0, 8, 8, 0, 0, 6]) false .no) (.tr (rl [0, 0, 0, 0, 4, 0, 11, 0, 0]) false (.two (.two (.tr (rl [8, 0]) false .no) (.tr (rl [8, 0]) false .no)) .no)))))) (.tr (rl [0, 0, 0, 0, 17, 0, 0]) false .no))))))) (.two (.two (.tr (rl [0, 0, 0, 0, 34]) false .no) (.tr (rl [0, 0, 0, 0, 4, 0]) false (.two (.two .no (.tr (rl [8, 0]) false .no)) .no))) (.two .no (.two (.two (.tr (rl [1, 0, 0, 9, 25, 0, 0]) false .no) (.tr (rl [13]) false (.loop (rl [1, 0, 0, 9, 25, 0, 0]) (.two .no (.two (.tr (rl [1, 0, 0, 9, 25, 0, 0]) false (.two .no (.tr (rl [13]) false .no))) (.two (.tr (rl [1, 0, 0, 9, 25, 0, 0]) false (.two (.tr (rl [1, 0, 0, 9, 1, 23, 0, 0]) false .no) (.two (.tr (rl [1, 0, 0, 9, 1, 0, 22, 0, 0]) false (.ops [{}, {}, {}, { cls := some .p }])) (.two (.tr (rl [1, 0, 0, 9, 2, 22, 0, 0, 13]) false .no) (.tr (rl [1, 0, 0, 9, 25, 0, 0]) false (.two (.tr (rl [1, 0, 0, 9, 25, 0, 0]) false .no) .no)))))) (.tr (rl [1, 0, 0, 9, 25, 0, 0]) false .no))))))) (.two (.tr (rl [8, 0]) false .no) (.tr (rl [8, 0]) false .no))))))))) = some xf27 := by kernel_rfl
def xf73 : XFunc :=
(.mk 13 [(.tmp 6), (.tmp 7)] (.seq (.tr (rl [3, 0, 0]) false (.region false [(oW 3 (.box (T 0) 7)), (oW 4 (.box (T 1) 1)), (oW 5 (.box (T 2) 1)), (oP 6 (.mv (tI
  0))), (oP 7 (.mv (tI 0)))])) (.seq (.tr (rl [6, 0]) false (.region false [(oR 8 (.load true 7 (T 3))), (oP 9 (.mkfn 117 [(T 4), (T 5)])), (oW 10 (.call false
  [] (.lit (.c (.fn 116 []))) [(T 8), (T 9)])), (oP 11 (.extr 0 (T 10))), (oP 12 (.extr 1 (T 10))), (oP 6 (.mv (T 11))), (oP 7 (.mv (T 12)))])) (.tr (rl [6, 0])
  false .ret))))
theorem xf73_ok : cmpFunc Go.Proofs.Tryd.prog 73 ((.two (.tr (rl [3, 0, 0]) false .no) (.two (.tr (rl [6, 0]) false .no) (.tr (rl [6, 0]) false .no)))) = some xf73 := by kernel_rfl
def xf116_l0 : XCode :=
(.seq (.region false [(oP 19 (.bin .lss (T 18) (T 17)))]) (.seq (.tr (rl [1, 5, 8, 0, 0]) false (.cond (T 19) .skip (.tr (rl [7]) false (.exit 0)))) (.seq (.tr
  (rl [1, 5, 8, 0, 0]) false (.block 1 (.seq (.tr (rl [1, 5, 1, 6, 0, 0]) false (.region false [(oP 20 (.iaddrS 3 (T 16) (T 18))), (oR 21 (.load true 3 (T
  20))), (oW 9 (.alloc [(.pv (.int .i64 0)), (.pv (.int .i64 0)), (.pv (.int .i64 0))])), (sW (.store 3 (T 9) (T 21)))])) (.seq (.tr (rl [1, 5, 1, 6, 0, 0, 5])
  false (.region false [(oP 22 (.mv (T 1))), (oR 23 (.load true 3 (T 9))), (oW 24 (.call false [] (T 22) [(T 23)]))])) (.tr (rl [1, 5, 8, 0, 0]) false (.cond (T
  24) (.tr (rl [1, 5, 8, 0, 0]) false (.region false [(oP 25 (.mv (T 7))), (oP 26 (.faddr 1 (T 9))), (oP 27 (.faddr 1 (T 26))), (oR 28 (.load false 1 (T 27))),
  (oP 29 (.bin .add (T 25) (T 28))), (oP 7 (.mv (T 29)))])) .skip)))))) (.tr (rl [1, 5, 8, 0, 0]) false (.region false [(oP 30 (.bin .add (T 18) (tI 1))), (oP
  18 (.mv (T 30)))])))))
def xf116 : XFunc :=
(.mk 32 [(.tmp 4), (.tmp 5)] (.seq (.tr (rl [1, 0]) false (.region false [(oW 2 (.box (T 0) 7)), (oP 4 (.mv (tI 0))), (oP 5 (.mv (tI 0)))])) (.seq (.seq (.tr
  (rl [1, 0, 3]) false (.region false [(oR 10 (.load true 7 (T 2))), (oP 11 (.call false [] (.lit (.c (.fn 36 []))) [(T 10)])), (oP 6 (.mv (T 11)))])) (.seq
  (.tr (rl [1, 0, 3, 6]) false (.region false [(oP 12 (.mv (T 6))), (oP 13 (.bin .neq (T 12) (tI 0)))])) (.tr (rl [1, 0, 1, 0]) false (.cond (T 13) (.seq (.tr
  (rl [4, 0]) false (.region false [(oP 14 (.mv (T 6))), (oP 4 (.mv (tI 0))), (oP 5 (.mv (T 14)))])) (.tr (rl [4, 0]) false .ret)) .skip)))) (.seq (.region
  false [(oP 7 (.mv (tI 0)))]) (.seq (.seq (.tr (rl [1, 5, 8, 0, 0]) false (.region false [(oP 15 (.faddr 3 (T 2))), (oR 16 (.load false 1 (T 15))), (oP 17
  (.len (T 16))), (oP 18 (.mv (tI 0)))])) (.tr (rl [7]) false (.block 0 (.loop (rl [1, 5, 8, 0, 0]) xf116_l0)))) (.seq (.tr (rl [4, 0]) false (.region false
  [(oP 31 (.mv (T 7))), (oP 4 (.mv (T 31))), (oP 5 (.mv (tI 0)))])) (.tr (rl [4, 0]) false .ret)))))))
theorem xf116_ok : cmpFunc Go.Proofs.Tryd.prog 116 ((.two (.tr (rl [1, 0]) false .no) (.two (.two (.tr (rl [1, 0, 3]) false (.ops [{}, { cls := some .p }])) (.two (.tr (rl [1, 0, 3, 6]) false .no) (.tr (rl [1, 0, 1, 0]) false (.two (.two (.tr (rl [4, 0]) false .no) (.tr (rl [4, 0]) false .no)) .no)))) (.two .no (.two (.two (.tr (rl [1, 5, 8, 0, 0]) false .no) (.tr (rl [7]) false (.loop (rl [1, 5, 8, 0, 0]) (.two .no (.two (.tr (rl [1, 5, 8, 0, 0]) false (.two .no (.tr (rl [7]) false .no))) (.two (.tr (rl [1, 5, 8, 0, 0]) false (.two (.tr (rl [1, 5, 1, 6, 0, 0]) false .no) (.two (.tr (rl [1, 5, 1, 6, 0, 0, 5]) false .no) (.tr (rl [1, 5, 8, 0, 0]) false (.two (.tr (rl [1, 5, 8, 0, 0]) false .no) .no))))) (.tr (rl [1, 5, 8, 0, 0]) false .no))))))) (.two (.tr (rl [4, 0]) false .no) (.tr (rl [4, 0]) false .no))))))) = some xf116 := by kernel_rfl
def xf117 : XFunc :=
(.mk 16 [(.tmp 4)] (.seq (.tr (rl [1, 0, 0]) false (.region false [(oW 3 (.box (T 0) 3)), (oP 4 (.mv (.lit (.c (.pv (.bool false))))))])) (.seq (.tr (rl [4])
  false (.region false [(oP 5 (.faddr 0 (T 3))), (oR 6 (.load false 1 (T 5))), (oR 7 (.load false 1 (T 1))), (oP 8 (.bin .eql (T 6) (T 7))), (oP 9 (.mv (T 8))),
  (.mk (some 10) (.faddr 1 (T 3)) (some (9, true)) .p), (.mk (some 11) (.faddr 0 (T 10)) (some (9, true)) .p), (.mk (some 12) (.load false 1 (T 11)) (some (9,
  true)) .r), (.mk (some 13) (.load false 1 (T 2)) (some (9, true)) .r), (.mk (some 14) (.bin .eql (T 12) (T 13)) (some (9, true)) .p), (oP 15 (.pick (T 9) (T
  14) (.lit (.c (.pv (.bool false)))))), (oP 4 (.mv (T 15)))])) (.tr (rl [4]) false .ret))))
theorem xf117_ok : cmpFunc Go.Proofs.Tryd.prog 117 ((.two (.tr (rl [1, 0, 0]) false .no) (.two (.tr (rl [4]) false .no) (.tr (rl [4]) false .no)))) = some xf117 := by kernel_rfl
def X : Nat → Option XFunc
  | 3 => some xf3
  | 8 => some xf8
  | 9 => some xf9
  | 10 => some xf10
  | 11 => some xf11
  | 12 => some xf12
  | 13 => some xf13
  | 14 => some xf14
  | 15 => some xf15
  | 16 => some xf16
  | 17 => some xf17
  | 30 => some xf30
  | 32 => some xf32
  | 33 => some xf33
  | 34 => some xf34
  | 35 => some xf35
  | 36 => some xf36
  | 37 => some xf37
  | 38 => some xf38
  | 39 => some xf39
  | 40 => some xf40
  | 41 => some xf41
  | 42 => some xf42
  | 43 => some xf43
  | 44 => some xf44
  | 45 => some xf45
  | 46 => some xf46
  | 47 => some xf47
  | 48 => some xf48
  | 49 => some xf49
  | 53 => some xf53
  | 74 => some xf74
  | 79 => some xf79
  | 80 => some xf80
  | 81 => some xf81
  | 82 => some xf82
  | 83 => some xf83
  | 84 => some xf84
  | 85 => some xf85
  | 86 => some xf86
  | 87 => some xf87
  | 88 => some xf88
  | 89 => some xf89
  | 90 => some xf90
  | 91 => some xf91
  | 92 => some xf92
  | 93 => some xf93
  | 94 => some xf94
  | 95 => some xf95
  | 120 => some xf120
  | 121 => some xf121
  | 122 => some xf122
  | 123 => some xf123
  | 124 => some xf124
  | 125 => some xf125
  | 136 => some xf136
  | 137 => some xf137
  | 141 => some xf141
  | 27 => some xf27
  | 73 => some xf73
  | 116 => some xf116
  | 117 => some xf117
  | _ => none
def E0 : Oracle := fun _ _ _ => none
theorem X_ok : ∀ f x, X f = some x → ∃ h, cmpFunc Go.Proofs.Tryd.prog f h = some x := by
  intro f x h
  unfold X at h
  split at h <;> cases h
  · exact ⟨_, xf3_ok⟩
  · exact ⟨_, xf8_ok⟩
  · exact ⟨_, xf9_ok⟩
  · exact ⟨_, xf10_ok⟩
  · exact ⟨_, xf11_ok⟩
  · exact ⟨_, xf12_ok⟩
  · exact ⟨_, xf13_ok⟩
  · exact ⟨_, xf14_ok⟩
  · exact ⟨_, xf15_ok⟩
  · exact ⟨_, xf16_ok⟩
  · exact ⟨_, xf17_ok⟩
  · exact ⟨_, xf30_ok⟩
  · exact ⟨_, xf32_ok⟩
  · exact ⟨_, xf33_ok⟩
  · exact ⟨_, xf34_ok⟩
  · exact ⟨_, xf35_ok⟩
  · exact ⟨_, xf36_ok⟩
  · exact ⟨_, xf37_ok⟩
  · exact ⟨_, xf38_ok⟩
  · exact ⟨_, xf39_ok⟩
  · exact ⟨_, xf40_ok⟩
  · exact ⟨_, xf41_ok⟩
  · exact ⟨_, xf42_ok⟩
  · exact ⟨_, xf43_ok⟩
  · exact ⟨_, xf44_ok⟩
  · exact ⟨_, xf45_ok⟩
  · exact ⟨_, xf46_ok⟩
  · exact ⟨_, xf47_ok⟩
  · exact ⟨_, xf48_ok⟩
  · exact ⟨_, xf49_ok⟩
  · exact ⟨_, xf53_ok⟩
  · exact ⟨_, xf74_ok⟩
  · exact ⟨_, xf79_ok⟩
  · exact ⟨_, xf80_ok⟩
  · exact ⟨_, xf81_ok⟩
  · exact ⟨_, xf82_ok⟩
  · exact ⟨_, xf83_ok⟩
  · exact ⟨_, xf84_ok⟩
  · exact ⟨_, xf85_ok⟩
  · exact ⟨_, xf86_ok⟩
  · exact ⟨_, xf87_ok⟩
  · exact ⟨_, xf88_ok⟩
  · exact ⟨_, xf89_ok⟩
  · exact ⟨_, xf90_ok⟩
  · exact ⟨_, xf91_ok⟩
  · exact ⟨_, xf92_ok⟩
  · exact ⟨_, xf93_ok⟩
  · exact ⟨_, xf94_ok⟩
  · exact ⟨_, xf95_ok⟩
  · exact ⟨_, xf120_ok⟩
  · exact ⟨_, xf121_ok⟩
  · exact ⟨_, xf122_ok⟩
  · exact ⟨_, xf123_ok⟩
  · exact ⟨_, xf124_ok⟩
  · exact ⟨_, xf125_ok⟩
  · exact ⟨_, xf136_ok⟩
  · exact ⟨_, xf137_ok⟩
  · exact ⟨_, xf141_ok⟩
  · exact ⟨_, xf27_ok⟩
  · exact ⟨_, xf73_ok⟩
  · exact ⟨_, xf116_ok⟩
  · exact ⟨_, xf117_ok⟩
theorem ok : OkOr Go.Proofs.Tryd.prog (ev X E0) := ev_ok X_ok (fun _ _ _ _ _ h => by cases h) (by kernel_rfl)
end Go.Sx.Tryd
