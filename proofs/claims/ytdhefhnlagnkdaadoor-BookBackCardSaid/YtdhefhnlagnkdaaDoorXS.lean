/- Functions of the program in the evaluator's form, each checked by the kernel. Printed by genx.py. -/
import Derived.Test.YtdhefhnlagnkdaaDoorSxLem
import Derived.Test.YtdhefhnlagnkdaaDoorProg
import Derived.KernelRfl
namespace Go.Sx.Tryd
open Go Go.Sx
def xf8_l0 : XCode :=
(.seq (.region false [(oP 94 (.bin .lss (T 93) (T 92)))]) (.seq (.tr (rl [2, 0, 0, 6, 2, 3, 0, 0, 22, 0, 0, 45, 0, 0]) false (.cond (T 94) .skip (.tr (rl [2, 0,
  0, 6, 2, 3, 0, 0, 22, 0, 0]) false (.exit 2)))) (.seq (.tr (rl [2, 0, 0, 6, 2, 3, 0, 0, 22, 0, 0, 45, 0, 0]) false (.block 3 (.seq (.tr (rl [2, 0, 0, 6, 2, 3,
  0, 0, 1, 20, 0, 0, 45, 0, 0]) false (.region false [(oP 95 (.iaddrS 7 (T 91) (T 93))), (oR 96 (.load true 7 (T 95))), (oW 22 (.alloc [(.pv (.int .i64 0)),
  (.pv (.int .i32 0)), (.pv (.int .i32 0)), (.pv (.sl .nil 0 [])), (.pv (.int .i64 0)), (.pv (.int .i64 0)), (.pv (.str []))])), (sW (.store 7 (T 22) (T
  96)))])) (.tr (rl [2, 0, 0, 6, 2, 3, 0, 0, 22, 0, 0, 45, 0, 0]) false (.region false [(oP 97 (.mv (T 20))), (oP 98 (.mv (T 97))), (.mk (some 99) (.faddr 4 (T
  22)) (some (98, false)) .p), (.mk (some 100) (.load false 1 (T 99)) (some (98, false)) .r), (.mk (some 101) (.faddr 0 (T 14)) (some (98, false)) .p), (.mk
  (some 102) (.load false 1 (T 101)) (some (98, false)) .r), (.mk (some 103) (.bin .eql (T 100) (T 102)) (some (98, false)) .p), (oP 104 (.pick (T 98) (.lit (.c
  (.pv (.bool true)))) (T 103))), (oP 20 (.mv (T 104)))]))))) (.tr (rl [2, 0, 0, 6, 2, 3, 0, 0, 22, 0, 0, 45, 0, 0]) false (.region false [(oP 105 (.bin .add (T
  93) (tI 1))), (oP 93 (.mv (T 105)))])))))
def xf8_l1 : XCode :=
(.seq (.region false [(oP 46 (.bin .lss (T 45) (T 44)))]) (.seq (.tr (rl [2, 0, 0, 6, 31, 0, 0]) false (.cond (T 46) .skip (.tr (rl [2, 0, 0, 6]) false (.exit
  0)))) (.seq (.tr (rl [2, 0, 0, 5, 0, 31, 0, 0]) false (.block 1 (.seq (.tr (rl [2, 0, 0, 6, 1, 29, 0, 0]) false (.region false [(oP 47 (.iaddrS 1 (T 43) (T
  45))), (oR 48 (.load false 1 (T 47))), (oP 13 (.mv (T 48)))])) (.seq (.seq (.tr (rl [2, 0, 0, 6, 1, 29, 0, 0, 6]) false (.region false [(oP 49 (.faddr 0 (T
  11))), (oR 50 (.load false 1 (T 49))), (oP 51 (.len (T 50))), (oP 52 (.bin .eql (T 51) (tI 0)))])) (.tr (rl [2, 0, 0, 6, 1, 29, 0, 0]) false (.cond (T 52)
  (.tr (rl [2, 0, 0, 6]) false (.exit 0)) .skip))) (.seq (.tr (rl [2, 0, 0, 6, 2, 0, 27, 0, 0]) false (.region true [(oP 53 (.faddr 0 (T 11))), (oR 54 (.load
  false 1 (T 53))), (oP 55 (.mv (T 13))), (oP 56 (.convI .i64 (T 55))), (oP 57 (.faddr 0 (T 11))), (oR 58 (.load false 1 (T 57))), (oP 59 (.len (T 58))), (oP 60
  (.bin .rem (T 56) (T 59))), (oP 61 (.iaddrS 7 (T 54) (T 60))), (oP 62 (.load true 7 (T 61))), (oP 63 (.faddr 0 (T 11))), (oR 64 (.loadR false 1 (T 63) (T
  11))), (oP 65 (.faddr 0 (T 11))), (oR 66 (.loadR false 1 (T 65) (T 11))), (oP 67 (.len (T 66))), (oP 68 (.bin .sub (T 67) (tI 1))), (oP 69 (.iaddrS 7 (T 64)
  (T 68))), (oP 70 (.load true 7 (T 69))), (oW 14 (.alloc [(.pv (.int .i64 0)), (.pv (.int .i32 0)), (.pv (.int .i32 0)), (.pv (.sl .nil 0 [])), (.pv (.int .i64
  0)), (.pv (.int .i64 0)), (.pv (.str []))])), (oW 15 (.alloc [(.pv (.int .i64 0)), (.pv (.int .i32 0)), (.pv (.int .i32 0)), (.pv (.sl .nil 0 [])), (.pv (.int
  .i64 0)), (.pv (.int .i64 0)), (.pv (.str []))])), (sW (.storeO 7 (T 14) (T 62) (T 11))), (sW (.store 7 (T 15) (T 70)))])) (.seq (.tr (rl [2, 0, 0, 6, 2, 1,
  0, 25, 0, 0]) false (.region false [(oR 72 (.load true 7 (T 14))), (oP 73 (.faddr 0 (T 11))), (oR 74 (.load false 1 (T 73))), (oP 75 (.len (T 74))), (oP 76
  (.bin .add (T 75) (tI 1))), (oP 77 (.faddr 1 (T 15))), (oR 78 (.load false 1 (T 77))), (oP 79 (.call false [] (.lit (.c (.fn 38 []))) [(T 72), (T 76), (T
  78)])), (oP 71 (.mv (T 79))), (oP 80 (.extr 0 (T 71))), (oP 81 (.extr 1 (T 71))), (oW 16 (.alloc [(.pv (.int .i64 0)), (.pv (.int .i32 0)), (.pv (.int .i32
  0)), (.pv (.sl .nil 0 [])), (.pv (.int .i64 0)), (.pv (.int .i64 0)), (.pv (.str []))])), (sW (.store 7 (T 16) (T 80))), (oP 17 (.mv (T 81)))])) (.seq (.seq
  (.tr (rl [2, 0, 0, 6, 2, 1, 26, 0, 0, 37]) false (.region false [(oP 82 (.mv (T 17))), (oP 83 (.bin .neq (T 82) (tI 0)))])) (.tr (rl [2, 0, 0, 6, 2, 1, 26, 0,
  0]) false (.cond (T 83) (.tr (rl [2, 0, 0, 6, 31, 0, 0]) false (.exit 1)) .skip))) (.seq (.tr (rl [2, 0, 0, 6, 2, 3, 0, 23, 0, 0]) false (.region false [(oR
  85 (.load true 1 (T 11))), (oR 86 (.load true 7 (T 16))), (oP 87 (.call false [] (.lit (.c (.fn 19 []))) [(T 85), (T 86)])), (oP 84 (.mv (T 87))), (oP 88
  (.extr 0 (T 84))), (oP 89 (.extr 1 (T 84))), (oW 18 (.alloc [(.pv (.sl .nil 0 []))])), (sW (.store 1 (T 18) (T 88))), (oP 19 (.mv (T 89)))])) (.seq (.region
  false [(oP 20 (.mv (.lit (.c (.pv (.bool false))))))]) (.seq (.seq (.tr (rl [2, 0, 0, 6, 2, 3, 0, 0, 22, 0, 0, 45, 0, 0]) false (.region false [(oP 90 (.faddr
  0 (T 11))), (oR 91 (.load false 1 (T 90))), (oP 92 (.len (T 91))), (oP 93 (.mv (tI 0)))])) (.tr (rl [2, 0, 0, 6, 2, 3, 0, 0, 22, 0, 0]) false (.block 2 (.loop
  (rl [2, 0, 0, 6, 2, 3, 0, 0, 22, 0, 0, 45, 0, 0]) xf8_l0)))) (.seq (.seq (.tr (rl [2, 0, 0, 6, 6, 0, 23, 0, 0, 81]) false (.region false [(oP 106 (.mv (T
  19))), (oP 107 (.bin .eql (T 106) (tI 0))), (oP 108 (.faddr 4 (T 14))), (oR 109 (.load false 1 (T 108))), (oP 110 (.bin .eql (T 109) (tI 0))), (oP 111 (.mv (T
  110))), (.mk (some 112) (.mv (T 20)) (some (111, true)) .p), (.mk (some 113) (.un .not (T 112)) (some (111, true)) .p), (oP 114 (.pick (T 111) (T 113) (.lit
  (.c (.pv (.bool false)))))), (oP 115 (.eqB true (T 107) (T 114))), (oP 116 (.mv (T 115))), (.mk (some 117) (.mv (T 19)) (some (116, false)) .p), (.mk (some
  118) (.bin .neq (T 117) (tI 0)) (some (116, false)) .p), (.mk (some 119) (.mv (T 118)) (some (116, false)) .p), (.mk (some 120) (.mv (T 19)) (some (119,
  true)) .p), (.mk (some 121) (.bin .neq (T 120) (tI 27)) (some (119, true)) .p), (.mk (some 122) (.pick (T 119) (T 121) (.lit (.c (.pv (.bool false))))) (some
  (116, false)) .p), (.mk (some 123) (.mv (T 122)) (some (116, false)) .p), (.mk (some 124) (.mv (T 19)) (some (123, true)) .p), (.mk (some 125) (.bin .neq (T
  124) (tI 23)) (some (123, true)) .p), (.mk (some 126) (.pick (T 123) (T 125) (.lit (.c (.pv (.bool false))))) (some (116, false)) .p), (oP 127 (.pick (T 116)
  (.lit (.c (.pv (.bool true)))) (T 126)))])) (.tr (rl [2, 0, 0, 5, 0, 6, 0, 23, 0, 0]) false (.cond (T 127) (.seq (.region false [(oP 10 (.mv (.lit (.c (.pv
  (.bool false))))))]) (.tr (rl [10]) false .ret)) .skip))) (.seq (.tr (rl [2, 0, 0, 6, 6, 24, 0, 0, 83]) false (.region false [(oP 128 (.mv (T 19))), (oP 129
  (.bin .eql (T 128) (tI 0)))])) (.tr (rl [2, 0, 0, 6, 31, 0, 0]) false (.cond (T 129) (.tr (rl [2, 0, 0, 6, 31, 0, 0]) false (.region false [(oR 130 (.load
  true 1 (T 18))), (sW (.store 1 (T 11) (T 130)))])) .skip)))))))))))))) (.tr (rl [2, 0, 0, 6, 31, 0, 0]) false (.region false [(oP 131 (.bin .add (T 45) (tI
  1))), (oP 45 (.mv (T 131)))])))))
def xf8_l2 : XCode :=
(.seq (.region false [(oP 141 (.bin .lss (T 140) (T 139)))]) (.seq (.tr (rl [2, 0, 0, 6, 12, 0, 112, 0, 0]) false (.cond (T 141) .skip (.tr (rl [2, 0, 0, 6, 12,
  0]) false (.exit 4)))) (.seq (.tr (rl [2, 0, 0, 5, 0, 12, 0, 112, 0, 0]) false (.block 5 (.seq (.tr (rl [2, 0, 0, 6, 12, 0, 1, 110, 0, 0]) false (.region
  false [(oP 142 (.iaddrS 1 (T 138) (T 140))), (oR 143 (.load false 1 (T 142))), (oP 27 (.mv (T 143)))])) (.seq (.seq (.tr (rl [2, 0, 0, 6, 12, 0, 1, 110, 0, 0,
  11]) false (.region false [(oP 144 (.mv (T 27))), (oP 145 (.bin .lss (T 144) (tI 1))), (oP 146 (.mv (T 145))), (.mk (some 147) (.mv (T 27)) (some (146,
  false)) .p), (.mk (some 148) (.faddr 0 (T 11)) (some (146, false)) .p), (.mk (some 149) (.load false 1 (T 148)) (some (146, false)) .r), (.mk (some 150) (.len
  (T 149)) (some (146, false)) .p), (.mk (some 151) (.bin .gtr (T 147) (T 150)) (some (146, false)) .p), (oP 152 (.pick (T 146) (.lit (.c (.pv (.bool true))))
  (T 151)))])) (.tr (rl [2, 0, 0, 5, 0, 12, 0, 1, 110, 0, 0]) false (.cond (T 152) (.seq (.region false [(oP 10 (.mv (.lit (.c (.pv (.bool false))))))]) (.tr
  (rl [10]) false .ret)) .skip))) (.tr (rl [2, 0, 0, 6, 12, 0, 112, 0, 0]) false (.region false [(oP 153 (.mv (T 25))), (oP 154 (.faddr 0 (T 11))), (oR 155
  (.load false 1 (T 154))), (oP 156 (.mv (T 27))), (oP 157 (.bin .sub (T 156) (tI 1))), (oP 158 (.iaddrS 7 (T 155) (T 157))), (oR 159 (.load true 7 (T 158))),
  (oP 160 (.buildSl [(.pv (.int .i64 0)), (.pv (.int .i32 0)), (.pv (.int .i32 0)), (.pv (.sl .nil 0 [])), (.pv (.int .i64 0)), (.pv (.int .i64 0)), (.pv (.str
  []))] 1 7 [(0, (7, (T 159)))])), (oW 161 (.app 7 72 (T 153) (T 160))), (oP 25 (.mv (T 161)))])))))) (.tr (rl [2, 0, 0, 6, 12, 0, 112, 0, 0]) false (.region
  false [(oP 162 (.bin .add (T 140) (tI 1))), (oP 140 (.mv (T 162)))])))))
def xf8 : XFunc :=
(.mk 202 [(.tmp 10)] (.seq (.tr (rl [0, 0, 0, 0, 0]) false (.region false [(oP 10 (.mv (.lit (.c (.pv (.bool false))))))])) (.seq (.seq (.tr (rl [0, 0, 0, 0, 0,
  34]) false (.region false [(oP 32 (.mv (T 0))), (oP 33 (.call false [] (.lit (.c (.fn 15 []))) [(T 32)])), (oP 34 (.un .not (T 33))), (oP 35 (.mv (T 34))),
  (.mk (some 36) (.mv (T 1)) (some (35, false)) .p), (.mk (some 37) (.len (T 36)) (some (35, false)) .p), (.mk (some 38) (.bin .gtr (T 37) (tI 60)) (some (35,
  false)) .p), (oP 39 (.pick (T 35) (.lit (.c (.pv (.bool true)))) (T 38)))])) (.tr (rl [0, 0, 0, 0, 0, 5]) false (.cond (T 39) (.seq (.tr (rl [10]) false
  (.region false [(oP 40 (.call false [] (.lit (.c (.fn 17 []))) [])), (oP 10 (.mv (T 40)))])) (.tr (rl [10]) false .ret)) .skip))) (.seq (.tr (rl [1, 0, 0, 0,
  6]) false (.region false [(oP 41 (.mv (T 0))), (oP 42 (.call false [] (.lit (.c (.fn 36 []))) [(T 41)])), (oW 11 (.alloc [(.pv (.sl .nil 0 []))])), (sW
  (.store 1 (T 11) (T 42)))])) (.seq (.seq (.tr (rl [2, 0, 0, 6, 31, 0, 0]) false (.region false [(oP 43 (.mv (T 1))), (oP 44 (.len (T 43))), (oP 45 (.mv (tI
  0)))])) (.tr (rl [2, 0, 0, 5, 0]) false (.block 0 (.loop (rl [2, 0, 0, 6, 31, 0, 0]) xf8_l1)))) (.seq (.tr (rl [2, 0, 0, 6, 11, 0]) false (.region false [(oR
  133 (.load true 1 (T 11))), (oP 134 (.call false [] (.lit (.c (.fn 24 []))) [(T 133)])), (oP 132 (.mv (T 134))), (oP 135 (.extr 0 (T 132))), (oP 136 (.extr 1
  (T 132))), (oP 23 (.mv (T 135))), (oP 24 (.mv (T 136)))])) (.seq (.tr (rl [2, 0, 0, 6, 11, 0, 0]) false (.region false [(oP 137 (.buildSl [(.pv (.int .i64
  0)), (.pv (.int .i32 0)), (.pv (.int .i32 0)), (.pv (.sl .nil 0 [])), (.pv (.int .i64 0)), (.pv (.int .i64 0)), (.pv (.str []))] 0 7 [])), (oP 25 (.mv (T
  137)))])) (.seq (.seq (.tr (rl [2, 0, 0, 6, 12, 0, 112, 0, 0]) false (.region false [(oP 138 (.mv (T 23))), (oP 139 (.len (T 138))), (oP 140 (.mv (tI 0)))]))
  (.tr (rl [2, 0, 0, 5, 0, 12, 0]) false (.block 4 (.loop (rl [2, 0, 0, 6, 12, 0, 112, 0, 0]) xf8_l2)))) (.seq (.tr (rl [2, 0, 0, 19, 0, 2, 0]) false (.region
  false [(oP 164 (.faddr 0 (T 11))), (oR 165 (.load false 1 (T 164))), (oP 166 (.mv (T 2))), (oP 167 (.mv (T 3))), (oP 168 (.bin .rem (T 167) (.lit (.c (.pv
  (.int .u8 4)))))), (oP 169 (.convI .i64 (T 168))), (oP 170 (.mv (T 4))), (oP 171 (.call false [] (.lit (.c (.fn 33 []))) [(T 165), (T 166), (T 169), (T
  170)])), (oP 163 (.mv (T 171))), (oP 172 (.extr 0 (T 163))), (oP 173 (.extr 1 (T 163))), (oP 28 (.mv (T 172))), (oP 29 (.mv (T 173)))])) (.seq (.tr (rl [24,
  3, 0, 0, 0]) false (.region false [(oP 175 (.mv (T 25))), (oP 176 (.mv (T 2))), (oP 177 (.mv (T 3))), (oP 178 (.bin .rem (T 177) (.lit (.c (.pv (.int .u8
  4)))))), (oP 179 (.convI .i64 (T 178))), (oP 180 (.mv (T 4))), (oP 181 (.call false [] (.lit (.c (.fn 33 []))) [(T 175), (T 176), (T 179), (T 180)])), (oP 174
  (.mv (T 181))), (oP 182 (.extr 0 (T 174))), (oP 183 (.extr 1 (T 174))), (oP 30 (.mv (T 182))), (oP 31 (.mv (T 183)))])) (.seq (.tr (rl [10]) false (.region
  false [(oP 184 (.call false [] (.lit (.c (.fn 17 []))) [])), (oP 185 (.mv (T 184))), (.mk (some 186) (.mv (T 24)) (some (185, true)) .p), (.mk (some 187)
  (.bin .eql (T 186) (tI 0)) (some (185, true)) .p), (oP 188 (.pick (T 185) (T 187) (.lit (.c (.pv (.bool false)))))), (oP 189 (.mv (T 188))), (.mk (some 190)
  (.mv (T 29)) (some (189, true)) .p), (.mk (some 191) (.bin .eql (T 190) (tI 0)) (some (189, true)) .p), (oP 192 (.pick (T 189) (T 191) (.lit (.c (.pv (.bool
  false)))))), (oP 193 (.mv (T 192))), (.mk (some 194) (.mv (T 31)) (some (193, true)) .p), (.mk (some 195) (.bin .eql (T 194) (tI 0)) (some (193, true)) .p),
  (oP 196 (.pick (T 193) (T 195) (.lit (.c (.pv (.bool false)))))), (oP 197 (.mv (T 196))), (.mk (some 198) (.mv (T 28)) (some (197, true)) .p), (.mk (some 199)
  (.mv (T 30)) (some (197, true)) .p), (.mk (some 200) (.bin .eql (T 198) (T 199)) (some (197, true)) .p), (oP 201 (.pick (T 197) (T 200) (.lit (.c (.pv (.bool
  false)))))), (oP 10 (.mv (T 201)))])) (.tr (rl [10]) false .ret))))))))))))
theorem xf8_ok : cmpFunc Go.Proofs.Tryd.prog 8 ((.two (.tr (rl [0, 0, 0, 0, 0]) false .no) (.two (.two (.tr (rl [0, 0, 0, 0, 0, 34]) false (.ops [{}, { cls := some .p }])) (.tr (rl [0, 0, 0, 0, 0, 5]) false (.two (.two (.tr (rl [10]) false (.ops [{ cls := some .p }])) (.tr (rl [10]) false .no)) .no))) (.two (.tr (rl [1, 0, 0, 0, 6]) false (.ops [{}, { cls := some .p }])) (.two (.two (.tr (rl [2, 0, 0, 6, 31, 0, 0]) false .no) (.tr (rl [2, 0, 0, 5, 0]) false (.loop (rl [2, 0, 0, 6, 31, 0, 0]) (.two .no (.two (.tr (rl [2, 0, 0, 6, 31, 0, 0]) false (.two .no (.tr (rl [2, 0, 0, 6]) false .no))) (.two (.tr (rl [2, 0, 0, 5, 0, 31, 0, 0]) false (.two (.tr (rl [2, 0, 0, 6, 1, 29, 0, 0]) false .no) (.two (.two (.tr (rl [2, 0, 0, 6, 1, 29, 0, 0, 6]) false .no) (.tr (rl [2, 0, 0, 6, 1, 29, 0, 0]) false (.two (.tr (rl [2, 0, 0, 6]) false .no) .no))) (.two (.tr (rl [2, 0, 0, 6, 2, 0, 27, 0, 0]) false (.draw [0, 1, 2, 3, 4, 5, 6, 7, 8, 9, 10, 11, 12, 13, 14, 15, 16, 17, 18, 19, 20, 21] [{}, {}, {}, {}, {}, {}, {}, {}, {}, { cls := some .p }, {}, { root := some 11 }, {}, { root := some 11 }, {}, {}, {}, { cls := some .p }, {}, {}, { root := some 11 }])) (.two (.tr (rl [2, 0, 0, 6, 2, 1, 0, 25, 0, 0]) false (.ops [{}, {}, {}, {}, {}, {}, {}, { cls := some .p }])) (.two (.two (.tr (rl [2, 0, 0, 6, 2, 1, 26, 0, 0, 37]) false .no) (.tr (rl [2, 0, 0, 6, 2, 1, 26, 0, 0]) false (.two (.tr (rl [2, 0, 0, 6, 31, 0, 0]) false .no) .no))) (.two (.tr (rl [2, 0, 0, 6, 2, 3, 0, 23, 0, 0]) false (.ops [{}, {}, { cls := some .p }])) (.two .no (.two (.two (.tr (rl [2, 0, 0, 6, 2, 3, 0, 0, 22, 0, 0, 45, 0, 0]) false .no) (.tr (rl [2, 0, 0, 6, 2, 3, 0, 0, 22, 0, 0]) false (.loop (rl [2, 0, 0, 6, 2, 3, 0, 0, 22, 0, 0, 45, 0, 0]) (.two .no (.two (.tr (rl [2, 0, 0, 6, 2, 3, 0, 0, 22, 0, 0, 45, 0, 0]) false (.two .no (.tr (rl [2, 0, 0, 6, 2, 3, 0, 0, 22, 0, 0]) false .no))) (.two (.tr (rl [2, 0, 0, 6, 2, 3, 0, 0, 22, 0, 0, 45, 0, 0]) false (.two (.tr (rl [2, 0, 0, 6, 2, 3, 0, 0, 1, 20, 0, 0, 45, 0, 0]) false .no) (.tr (rl [2, 0, 0, 6, 2, 3, 0, 0, 22, 0, 0, 45, 0, 0]) false .no))) (.tr (rl [2, 0, 0, 6, 2, 3, 0, 0, 22, 0, 0, 45, 0, 0]) false .no))))))) (.two (.two (.tr (rl [2, 0, 0, 6, 6, 0, 23, 0, 0, 81]) false .no) (.tr (rl [2, 0, 0, 5, 0, 6, 0, 23, 0, 0]) false (.two (.two .no (.tr (rl [10]) false .no)) .no))) (.two (.tr (rl [2, 0, 0, 6, 6, 24, 0, 0, 83]) false .no) (.tr (rl [2, 0, 0, 6, 31, 0, 0]) false (.two (.tr (rl [2, 0, 0, 6, 31, 0, 0]) false .no) .no))))))))))))) (.tr (rl [2, 0, 0, 6, 31, 0, 0]) false .no))))))) (.two (.tr (rl [2, 0, 0, 6, 11, 0]) false (.ops [{}, { cls := some .p }])) (.two (.tr (rl [2, 0, 0, 6, 11, 0, 0]) false .no) (.two (.two (.tr (rl [2, 0, 0, 6, 12, 0, 112, 0, 0]) false .no) (.tr (rl [2, 0, 0, 5, 0, 12, 0]) false (.loop (rl [2, 0, 0, 6, 12, 0, 112, 0, 0]) (.two .no (.two (.tr (rl [2, 0, 0, 6, 12, 0, 112, 0, 0]) false (.two .no (.tr (rl [2, 0, 0, 6, 12, 0]) false .no))) (.two (.tr (rl [2, 0, 0, 5, 0, 12, 0, 112, 0, 0]) false (.two (.tr (rl [2, 0, 0, 6, 12, 0, 1, 110, 0, 0]) false .no) (.two (.two (.tr (rl [2, 0, 0, 6, 12, 0, 1, 110, 0, 0, 11]) false .no) (.tr (rl [2, 0, 0, 5, 0, 12, 0, 1, 110, 0, 0]) false (.two (.two .no (.tr (rl [10]) false .no)) .no))) (.tr (rl [2, 0, 0, 6, 12, 0, 112, 0, 0]) false .no)))) (.tr (rl [2, 0, 0, 6, 12, 0, 112, 0, 0]) false .no))))))) (.two (.tr (rl [2, 0, 0, 19, 0, 2, 0]) false (.ops [{}, {}, {}, {}, {}, {}, {}, { cls := some .p }])) (.two (.tr (rl [24, 3, 0, 0, 0]) false (.ops [{}, {}, {}, {}, {}, {}, { cls := some .p }])) (.two (.tr (rl [10]) false (.ops [{ cls := some .p }])) (.tr (rl [10]) false .no)))))))))))) = some xf8 := by kernel_rfl
def xf15_l0 : XCode :=
(.seq (.region false [(oP 11 (.bin .lss (T 10) (T 9)))]) (.seq (.tr (rl [8, 0, 0]) false (.cond (T 11) .skip (.tr [] false (.exit 0)))) (.seq (.tr (rl [2, 5, 0,
  0]) false (.block 1 (.seq (.tr (rl [4, 3, 0, 0]) false (.region false [(oP 12 (.iaddrS 7 (T 8) (T 10))), (oR 13 (.load true 7 (T 12))), (oW 4 (.alloc [(.pv
  (.int .i64 0)), (.pv (.int .i32 0)), (.pv (.int .i32 0)), (.pv (.sl .nil 0 [])), (.pv (.int .i64 0)), (.pv (.int .i64 0)), (.pv (.str []))])), (sW (.store 7
  (T 4) (T 13)))])) (.seq (.tr (rl [8, 0, 0, 5]) false (.region false [(oR 14 (.load true 7 (T 4))), (oP 15 (.call false [] (.lit (.c (.fn 16 []))) [(T 14)])),
  (oP 16 (.un .not (T 15)))])) (.tr (rl [2, 5, 0, 0]) false (.cond (T 16) (.seq (.region false [(oP 2 (.mv (.lit (.c (.pv (.bool false))))))]) (.tr (rl [2])
  false .ret)) .skip)))))) (.tr (rl [8, 0, 0]) false (.region false [(oP 17 (.bin .add (T 10) (tI 1))), (oP 10 (.mv (T 17)))])))))
def xf15 : XFunc :=
(.mk 18 [(.tmp 2)] (.seq (.tr (rl [0]) false (.region false [(oP 2 (.mv (.lit (.c (.pv (.bool false))))))])) (.seq (.seq (.tr (rl [0, 6]) false (.region false
  [(oP 5 (.mv (T 0))), (oP 6 (.len (T 5))), (oP 7 (.bin .gtr (T 6) (tI 60)))])) (.tr (rl [0, 1]) false (.cond (T 7) (.seq (.region false [(oP 2 (.mv (.lit (.c
  (.pv (.bool false))))))]) (.tr (rl [2]) false .ret)) .skip))) (.seq (.seq (.tr (rl [8, 0, 0]) false (.region false [(oP 8 (.mv (T 0))), (oP 9 (.len (T 8))),
  (oP 10 (.mv (tI 0)))])) (.tr (rl [2]) false (.block 0 (.loop (rl [8, 0, 0]) xf15_l0)))) (.seq (.region false [(oP 2 (.mv (.lit (.c (.pv (.bool true))))))])
  (.tr (rl [2]) false .ret))))))
theorem xf15_ok : cmpFunc Go.Proofs.Tryd.prog 15 ((.two (.tr (rl [0]) false .no) (.two (.two (.tr (rl [0, 6]) false .no) (.tr (rl [0, 1]) false (.two (.two .no (.tr (rl [2]) false .no)) .no))) (.two (.two (.tr (rl [8, 0, 0]) false .no) (.tr (rl [2]) false (.loop (rl [8, 0, 0]) (.two .no (.two (.tr (rl [8, 0, 0]) false (.two .no (.tr [] false .no))) (.two (.tr (rl [2, 5, 0, 0]) false (.two (.tr (rl [4, 3, 0, 0]) false .no) (.two (.tr (rl [8, 0, 0, 5]) false (.ops [{}, { cls := some .p }])) (.tr (rl [2, 5, 0, 0]) false (.two (.two .no (.tr (rl [2]) false .no)) .no))))) (.tr (rl [8, 0, 0]) false .no))))))) (.two .no (.tr (rl [2]) false .no)))))) = some xf15 := by kernel_rfl
def xf16 : XFunc :=
(.mk 13 [(.tmp 2)] (.seq (.tr (rl [1]) false (.region false [(oW 1 (.box (T 0) 7)), (oP 2 (.mv (.lit (.c (.pv (.bool false))))))])) (.seq (.tr (rl [2]) false
  (.region false [(oP 3 (.faddr 3 (T 1))), (oR 4 (.load false 1 (T 3))), (oP 5 (.len (T 4))), (oP 6 (.bin .leq (T 5) (tI 40))), (oP 7 (.mv (T 6))), (.mk (some
  8) (.faddr 6 (T 1)) (some (7, true)) .p), (.mk (some 9) (.load false 1 (T 8)) (some (7, true)) .r), (.mk (some 10) (.lenS (T 9)) (some (7, true)) .p), (.mk
  (some 11) (.bin .leq (T 10) (tI 400)) (some (7, true)) .p), (oP 12 (.pick (T 7) (T 11) (.lit (.c (.pv (.bool false)))))), (oP 2 (.mv (T 12)))])) (.tr (rl [2])
  false .ret))))
theorem xf16_ok : cmpFunc Go.Proofs.Tryd.prog 16 ((.two (.tr (rl [1]) false .no) (.two (.tr (rl [2]) false .no) (.tr (rl [2]) false .no)))) = some xf16 := by kernel_rfl
def xf17 : XFunc :=
(.mk 206 [(.tmp 0)] (.seq (.tr [] false (.region false [(oP 0 (.mv (.lit (.c (.pv (.bool false))))))])) (.seq (.tr (rl [1, 0]) false (.region false [(oP 30
  (.build [(.pv (.sl .nil 0 []))] [])), (oP 31 (.call false [] (.lit (.c (.fn 58 []))) [(tI 1), (.lit (.c (.pv (.int .i32 5)))), (.lit (.c (.pv (.int .i32
  3)))), (tI 100)])), (oP 32 (.call false [] (.lit (.c (.fn 19 []))) [(T 30), (T 31)])), (oP 29 (.mv (T 32))), (oP 33 (.extr 0 (T 29))), (oP 34 (.extr 1 (T
  29))), (oW 1 (.alloc [(.pv (.sl .nil 0 []))])), (sW (.store 1 (T 1) (T 33))), (oP 2 (.mv (T 34)))])) (.seq (.tr (rl [2, 0, 0]) false (.region true [(oR 36
  (.load true 1 (T 1))), (oP 37 (.call false [] (.lit (.c (.fn 58 []))) [(tI 2), (.lit (.c (.pv (.int .i32 9)))), (.lit (.c (.pv (.int .i32 4)))), (tI 7)])),
  (oP 38 (.call false [] (.lit (.c (.fn 19 []))) [(T 36), (T 37)])), (oP 35 (.mv (T 38))), (oP 39 (.extr 0 (T 35))), (oP 40 (.extr 1 (T 35))), (oW 3 (.alloc
  [(.pv (.sl .nil 0 []))])), (sW (.store 1 (T 3) (T 39))), (oP 4 (.mv (T 40)))])) (.seq (.tr (rl [2, 0, 0, 1]) false (.region true [(oR 42 (.load true 1 (T
  3))), (oP 43 (.call false [] (.lit (.c (.fn 58 []))) [(tI 2), (.lit (.c (.pv (.int .i32 9)))), (.lit (.c (.pv (.int .i32 4)))), (tI 7)])), (oP 44 (.call false
  [] (.lit (.c (.fn 19 []))) [(T 42), (T 43)])), (oP 41 (.mv (T 44))), (oP 45 (.extr 0 (T 41))), (oP 46 (.extr 1 (T 41))), (oW 5 (.alloc [(.pv (.sl .nil 0
  []))])), (sW (.store 1 (T 5) (T 45))), (oP 6 (.mv (T 46)))])) (.seq (.tr (rl [2, 0, 0, 1, 1]) false (.region true [(oR 48 (.load true 1 (T 3))), (oP 49 (.call
  false [] (.lit (.c (.fn 58 []))) [(tI 3), (.lit (.c (.pv (.int .i32 8)))), (.lit (.c (.pv (.int .i32 4)))), (tI 7)])), (oP 50 (.call false [] (.lit (.c (.fn
  19 []))) [(T 48), (T 49)])), (oP 47 (.mv (T 50))), (oP 51 (.extr 0 (T 47))), (oP 52 (.extr 1 (T 47))), (oW 7 (.alloc [(.pv (.sl .nil 0 []))])), (sW (.store 1
  (T 7) (T 51))), (oP 8 (.mv (T 52)))])) (.seq (.tr (rl [2, 0, 0, 1, 1, 0]) false (.region false [(oP 54 (.call false [] (.lit (.c (.fn 58 []))) [(tI 1), (.lit
  (.c (.pv (.int .i32 5)))), (.lit (.c (.pv (.int .i32 3)))), (tI 100)])), (oP 55 (.call false [] (.lit (.c (.fn 38 []))) [(T 54), (tI 3), (.lit (.c (.pv (.int
  .i32 10))))])), (oP 53 (.mv (T 55))), (oP 56 (.extr 0 (T 53))), (oP 57 (.extr 1 (T 53))), (oW 9 (.alloc [(.pv (.int .i64 0)), (.pv (.int .i32 0)), (.pv (.int
  .i32 0)), (.pv (.sl .nil 0 [])), (.pv (.int .i64 0)), (.pv (.int .i64 0)), (.pv (.str []))])), (sW (.store 7 (T 9) (T 56))), (oP 10 (.mv (T 57)))])) (.seq
  (.tr (rl [2, 0, 0, 1, 1, 0, 1, 0]) false (.region false [(oR 59 (.load true 1 (T 3))), (oR 60 (.load true 7 (T 9))), (oP 61 (.call false [] (.lit (.c (.fn 19
  []))) [(T 59), (T 60)])), (oP 58 (.mv (T 61))), (oP 62 (.extr 0 (T 58))), (oP 63 (.extr 1 (T 58))), (oW 11 (.alloc [(.pv (.sl .nil 0 []))])), (sW (.store 1 (T
  11) (T 62))), (oP 12 (.mv (T 63)))])) (.seq (.tr (rl [2, 0, 0, 1, 1, 0, 1, 0]) false (.region false [(oP 64 (.faddr 0 (T 9))), (sW (.store 1 (T 64) (tI
  4)))])) (.seq (.tr (rl [2, 0, 0, 1, 1, 2, 0, 1]) false (.region false [(oR 66 (.load true 1 (T 11))), (oR 67 (.load true 7 (T 9))), (oP 68 (.call false []
  (.lit (.c (.fn 19 []))) [(T 66), (T 67)])), (oP 65 (.mv (T 68))), (oP 69 (.extr 0 (T 65))), (oP 70 (.extr 1 (T 65))), (oW 13 (.alloc [(.pv (.sl .nil 0
  []))])), (sW (.store 1 (T 13) (T 69))), (oP 14 (.mv (T 70)))])) (.seq (.tr (rl [2, 0, 0, 1, 1, 2, 0, 1, 0, 0]) false (.region false [(oR 72 (.load true 1 (T
  3))), (oP 73 (.call false [] (.lit (.c (.fn 20 []))) [(T 72), (.lit (.c (.pv (.int .i32 5))))])), (oP 71 (.mv (T 73))), (oP 74 (.extr 0 (T 71))), (oP 75
  (.extr 1 (T 71))), (oW 15 (.alloc [(.pv (.sl .nil 0 []))])), (sW (.store 1 (T 15) (T 74))), (oP 16 (.mv (T 75)))])) (.seq (.tr (rl [2, 0, 0, 1, 1, 2, 0, 1, 0,
  0, 0, 0]) false (.region false [(oR 77 (.load true 1 (T 3))), (oP 78 (.call false [] (.lit (.c (.fn 21 []))) [(T 77), (.lit (.c (.pv (.int .i32 9)))), (.lit
  (.c (.pv (.int .i32 3))))])), (oP 76 (.mv (T 78))), (oP 79 (.extr 0 (T 76))), (oP 80 (.extr 1 (T 76))), (oP 17 (.mv (T 79))), (oP 18 (.mv (T 80)))])) (.seq
  (.tr (rl [2, 0, 0, 1, 1, 2, 0, 1, 0, 0, 0, 0, 0, 0]) false (.region false [(oR 82 (.load true 1 (T 11))), (oP 83 (.call false [] (.lit (.c (.fn 24 []))) [(T
  82)])), (oP 81 (.mv (T 83))), (oP 84 (.extr 0 (T 81))), (oP 85 (.extr 1 (T 81))), (oP 19 (.mv (T 84))), (oP 20 (.mv (T 85)))])) (.seq (.tr (rl [2, 0, 0, 1, 1,
  2, 0, 1, 0, 0, 0, 0, 0, 0, 0, 0]) false (.region false [(oP 87 (.faddr 0 (T 11))), (oR 88 (.load false 1 (T 87))), (oP 89 (.call false [] (.lit (.c (.fn 33
  []))) [(T 88), (tI 2), (tI 0), (.lit (.c (.pv (.int .i32 9))))])), (oP 86 (.mv (T 89))), (oP 90 (.extr 0 (T 86))), (oP 91 (.extr 1 (T 86))), (oP 21 (.mv (T
  90))), (oP 22 (.mv (T 91)))])) (.seq (.tr (rl [2, 1, 1, 1, 2, 0, 1, 0, 0, 0, 0, 0, 0, 0, 0, 0, 0]) false (.region false [(oP 93 (.faddr 0 (T 3))), (oR 94
  (.load false 1 (T 93))), (oP 95 (.call false [] (.lit (.c (.fn 33 []))) [(T 94), (tI 2), (tI 0), (.lit (.c (.pv (.int .i32 3))))])), (oP 92 (.mv (T 95))), (oP
  96 (.extr 0 (T 92))), (oP 97 (.extr 1 (T 92))), (oP 23 (.mv (T 96))), (oP 24 (.mv (T 97)))])) (.seq (.tr (rl [2, 1, 1, 1, 2, 0, 1, 0, 0, 0, 0, 0, 0, 0, 0, 0,
  0, 0, 0]) false (.region false [(oR 99 (.load true 1 (T 11))), (oP 100 (.call false [] (.lit (.c (.fn 23 []))) [(T 99), (tI 1)])), (oP 98 (.mv (T 100))), (oP
  101 (.extr 0 (T 98))), (oP 102 (.extr 1 (T 98))), (oP 25 (.mv (T 101))), (oP 26 (.mv (T 102)))])) (.seq (.tr (rl [2, 1, 1, 1, 2, 0, 1, 0, 0, 0, 0, 0, 0, 0, 0,
  0, 0, 0, 0, 0, 0]) false (.region false [(oR 104 (.load true 1 (T 11))), (oP 105 (.call false [] (.lit (.c (.fn 22 []))) [(T 104)])), (oP 103 (.mv (T 105))),
  (oP 106 (.extr 0 (T 103))), (oP 107 (.extr 1 (T 103))), (oP 27 (.mv (T 106))), (oP 28 (.mv (T 107)))])) (.seq (.seq (.tr (rl [2, 1, 1, 1, 2, 0, 1, 0, 0, 0, 0,
  0, 0, 0, 0, 0, 0, 0, 0, 0, 0, 82]) false (.region false [(oP 108 (.faddr 0 (T 11))), (oR 109 (.load false 1 (T 108))), (oP 110 (.len (T 109))), (oP 111 (.bin
  .neq (T 110) (tI 3)))])) (.tr (rl [0, 1, 1, 1, 1, 2, 0, 1, 0, 0, 0, 0, 0, 0, 0, 0, 0, 0, 0, 0, 0, 0]) false (.cond (T 111) (.seq (.region false [(oP 0 (.mv
  (.lit (.c (.pv (.bool false))))))]) (.tr (rl [0]) false .ret)) .skip))) (.seq (.tr (rl [0]) false (.region false [(oP 112 (.mv (T 2))), (oP 113 (.bin .eql (T
  112) (tI 0))), (oP 114 (.mv (T 113))), (.mk (some 115) (.mv (T 4)) (some (114, true)) .p), (.mk (some 116) (.bin .eql (T 115) (tI 0)) (some (114, true)) .p),
  (oP 117 (.pick (T 114) (T 116) (.lit (.c (.pv (.bool false)))))), (oP 118 (.mv (T 117))), (.mk (some 119) (.mv (T 6)) (some (118, true)) .p), (.mk (some 120)
  (.bin .eql (T 119) (tI 25)) (some (118, true)) .p), (oP 121 (.pick (T 118) (T 120) (.lit (.c (.pv (.bool false)))))), (oP 122 (.mv (T 121))), (.mk (some 123)
  (.mv (T 8)) (some (122, true)) .p), (.mk (some 124) (.bin .eql (T 123) (tI 20)) (some (122, true)) .p), (oP 125 (.pick (T 122) (T 124) (.lit (.c (.pv (.bool
  false)))))), (oP 126 (.mv (T 125))), (.mk (some 127) (.mv (T 12)) (some (126, true)) .p), (.mk (some 128) (.bin .eql (T 127) (tI 0)) (some (126, true)) .p),
  (oP 129 (.pick (T 126) (T 128) (.lit (.c (.pv (.bool false)))))), (oP 130 (.mv (T 129))), (.mk (some 131) (.mv (T 14)) (some (130, true)) .p), (.mk (some 132)
  (.bin .eql (T 131) (tI 23)) (some (130, true)) .p), (oP 133 (.pick (T 130) (T 132) (.lit (.c (.pv (.bool false)))))), (oP 134 (.mv (T 133))), (.mk (some 135)
  (.faddr 0 (T 15)) (some (134, true)) .p), (.mk (some 136) (.load false 1 (T 135)) (some (134, true)) .r), (.mk (some 137) (.len (T 136)) (some (134, true))
  .p), (.mk (some 138) (.bin .eql (T 137) (tI 1)) (some (134, true)) .p), (oP 139 (.pick (T 134) (T 138) (.lit (.c (.pv (.bool false)))))), (oP 140 (.mv (T
  139))), (.mk (some 141) (.mv (T 16)) (some (140, true)) .p), (.mk (some 142) (.bin .eql (T 141) (tI 0)) (some (140, true)) .p), (oP 143 (.pick (T 140) (T 142)
  (.lit (.c (.pv (.bool false)))))), (oP 144 (.mv (T 143))), (.mk (some 145) (.mv (T 17)) (some (144, true)) .p), (.mk (some 146) (.len (T 145)) (some (144,
  true)) .p), (.mk (some 147) (.bin .eql (T 146) (tI 1)) (some (144, true)) .p), (oP 148 (.pick (T 144) (T 147) (.lit (.c (.pv (.bool false)))))), (oP 149 (.mv
  (T 148))), (.mk (some 150) (.mv (T 18)) (some (149, true)) .p), (.mk (some 151) (.bin .eql (T 150) (tI 0)) (some (149, true)) .p), (oP 152 (.pick (T 149) (T
  151) (.lit (.c (.pv (.bool false)))))), (oP 153 (.mv (T 152))), (.mk (some 154) (.mv (T 19)) (some (153, true)) .p), (.mk (some 155) (.buildSl [(.pv (.int
  .i64 0))] 1 1 [(0, (1, (tI 2)))]) (some (153, true)) .p), (.mk (some 156) (.call false [] (.lit (.c (.fn 31 []))) [(T 154), (T 155)]) (some (153, true)) .p),
  (oP 157 (.pick (T 153) (T 156) (.lit (.c (.pv (.bool false)))))), (oP 158 (.mv (T 157))), (.mk (some 159) (.mv (T 20)) (some (158, true)) .p), (.mk (some 160)
  (.bin .eql (T 159) (tI 0)) (some (158, true)) .p), (oP 161 (.pick (T 158) (T 160) (.lit (.c (.pv (.bool false)))))), (oP 162 (.mv (T 161))), (.mk (some 163)
  (.mv (T 21)) (some (162, true)) .p), (.mk (some 164) (.bin .eql (T 163) (tI 7)) (some (162, true)) .p), (oP 165 (.pick (T 162) (T 164) (.lit (.c (.pv (.bool
  false)))))), (oP 166 (.mv (T 165))), (.mk (some 167) (.mv (T 22)) (some (166, true)) .p), (.mk (some 168) (.bin .eql (T 167) (tI 0)) (some (166, true)) .p),
  (oP 169 (.pick (T 166) (T 168) (.lit (.c (.pv (.bool false)))))), (oP 170 (.mv (T 169))), (.mk (some 171) (.mv (T 23)) (some (170, true)) .p), (.mk (some 172)
  (.bin .eql (T 171) (tI 100)) (some (170, true)) .p), (oP 173 (.pick (T 170) (T 172) (.lit (.c (.pv (.bool false)))))), (oP 174 (.mv (T 173))), (.mk (some 175)
  (.mv (T 24)) (some (174, true)) .p), (.mk (some 176) (.bin .eql (T 175) (tI 0)) (some (174, true)) .p), (oP 177 (.pick (T 174) (T 176) (.lit (.c (.pv (.bool
  false)))))), (oP 178 (.mv (T 177))), (.mk (some 179) (.mv (T 25)) (some (178, true)) .p), (.mk (some 180) (.bin .eql (T 179) (.lit (.c (.pv (.int .i32 3)))))
  (some (178, true)) .p), (oP 181 (.pick (T 178) (T 180) (.lit (.c (.pv (.bool false)))))), (oP 182 (.mv (T 181))), (.mk (some 183) (.mv (T 26)) (some (182,
  true)) .p), (oP 184 (.pick (T 182) (T 183) (.lit (.c (.pv (.bool false)))))), (oP 185 (.mv (T 184))), (.mk (some 186) (.mv (T 27)) (some (185, true)) .p),
  (.mk (some 187) (.len (T 186)) (some (185, true)) .p), (.mk (some 188) (.bin .eql (T 187) (tI 3)) (some (185, true)) .p), (oP 189 (.pick (T 185) (T 188) (.lit
  (.c (.pv (.bool false)))))), (oP 190 (.mv (T 189))), (.mk (some 191) (.mv (T 28)) (some (190, true)) .p), (.mk (some 192) (.bin .eql (T 191) (tI 0)) (some
  (190, true)) .p), (oP 193 (.pick (T 190) (T 192) (.lit (.c (.pv (.bool false)))))), (oP 194 (.mv (T 193))), (.mk (some 195) (.load true 1 (T 11)) (some (194,
  true)) .r), (.mk (some 196) (.call false [] (.lit (.c (.fn 25 []))) [(T 195)]) (some (194, true)) .p), (oP 197 (.pick (T 194) (T 196) (.lit (.c (.pv (.bool
  false)))))), (oP 198 (.mv (T 197))), (.mk (some 199) (.faddr 0 (T 11)) (some (198, true)) .p), (.mk (some 200) (.load false 1 (T 199)) (some (198, true)) .r),
  (.mk (some 201) (.sliceV 7 (T 200) (some (tI 1)) none none) (some (198, true)) .p), (.mk (some 202) (.build [(.pv (.sl .nil 0 []))] [(0, (1, (T 201)))]) (some
  (198, true)) .p), (.mk (some 203) (.call false [] (.lit (.c (.fn 25 []))) [(T 202)]) (some (198, true)) .p), (.mk (some 204) (.un .not (T 203)) (some (198,
  true)) .p), (oP 205 (.pick (T 198) (T 204) (.lit (.c (.pv (.bool false)))))), (oP 0 (.mv (T 205)))])) (.tr (rl [0]) false .ret))))))))))))))))))))
theorem xf17_ok : cmpFunc Go.Proofs.Tryd.prog 17 ((.two (.tr [] false .no) (.two (.tr (rl [1, 0]) false (.ops [{}, { cls := some .p }, { cls := some .p }])) (.two (.tr (rl [2, 0, 0]) false (.draw [0, 1, 2, 3, 4, 5, 6, 7, 8] [{}, { cls := some .p }, { cls := some .p }])) (.two (.tr (rl [2, 0, 0, 1]) false (.draw [0, 1, 2, 3, 4, 5, 6, 7, 8] [{}, { cls := some .p }, { cls := some .p }])) (.two (.tr (rl [2, 0, 0, 1, 1]) false (.draw [0, 1, 2, 3, 4, 5, 6, 7, 8] [{}, { cls := some .p }, { cls := some .p }])) (.two (.tr (rl [2, 0, 0, 1, 1, 0]) false (.ops [{ cls := some .p }, { cls := some .p }])) (.two (.tr (rl [2, 0, 0, 1, 1, 0, 1, 0]) false (.ops [{}, {}, { cls := some .p }])) (.two (.tr (rl [2, 0, 0, 1, 1, 0, 1, 0]) false .no) (.two (.tr (rl [2, 0, 0, 1, 1, 2, 0, 1]) false (.ops [{}, {}, { cls := some .p }])) (.two (.tr (rl [2, 0, 0, 1, 1, 2, 0, 1, 0, 0]) false (.ops [{}, { cls := some .p }])) (.two (.tr (rl [2, 0, 0, 1, 1, 2, 0, 1, 0, 0, 0, 0]) false (.ops [{}, { cls := some .p }])) (.two (.tr (rl [2, 0, 0, 1, 1, 2, 0, 1, 0, 0, 0, 0, 0, 0]) false (.ops [{}, { cls := some .p }])) (.two (.tr (rl [2, 0, 0, 1, 1, 2, 0, 1, 0, 0, 0, 0, 0, 0, 0, 0]) false (.ops [{}, {}, { cls := some .p }])) (.two (.tr (rl [2, 1, 1, 1, 2, 0, 1, 0, 0, 0, 0, 0, 0, 0, 0, 0, 0]) false (.ops [{}, {}, { cls := some .p }])) (.two (.tr (rl [2, 1, 1, 1, 2, 0, 1, 0, 0, 0, 0, 0, 0, 0, 0, 0, 0, 0, 0]) false (.ops [{}, { cls := some .p }])) (.two (.tr (rl [2, 1, 1, 1, 2, 0, 1, 0, 0, 0, 0, 0, 0, 0, 0, 0, 0, 0, 0, 0, 0]) false (.ops [{}, { cls := some .p }])) (.two (.two (.tr (rl [2, 1, 1, 1, 2, 0, 1, 0, 0, 0, 0, 0, 0, 0, 0, 0, 0, 0, 0, 0, 0, 82]) false .no) (.tr (rl [0, 1, 1, 1, 1, 2, 0, 1, 0, 0, 0, 0, 0, 0, 0, 0, 0, 0, 0, 0, 0, 0]) false (.two (.two .no (.tr (rl [0]) false .no)) .no))) (.two (.tr (rl [0]) false (.ops [{}, {}, {}, {}, {}, {}, {}, {}, {}, {}, {}, {}, {}, {}, {}, {}, {}, {}, {}, {}, {}, {}, {}, {}, {}, {}, {}, {}, {}, {}, {}, {}, {}, {}, {}, {}, {}, {}, {}, {}, {}, {}, {}, {}, { cls := some .p }, {}, {}, {}, {}, {}, {}, {}, {}, {}, {}, {}, {}, {}, {}, {}, {}, {}, {}, {}, {}, {}, {}, {}, {}, {}, {}, {}, {}, {}, {}, {}, {}, {}, {}, {}, {}, {}, {}, {}, { cls := some .p }, {}, {}, {}, {}, {}, {}, { cls := some .p }])) (.tr (rl [0]) false .no)))))))))))))))))))) = some xf17 := by kernel_rfl
def xf19 : XFunc :=
(.mk 39 [(.cell 4 true 1), (.tmp 5)] (.seq (.tr (rl [2, 0, 0]) false (.region false [(oW 2 (.box (T 0) 1)), (oW 3 (.box (T 1) 7)), (oW 4 (.alloc [(.pv (.sl .nil
  0 []))])), (oP 5 (.mv (tI 0)))])) (.seq (.seq (.tr (rl [2, 0, 0, 6]) false (.region false [(oR 9 (.load true 1 (T 2))), (oP 10 (.call false [] (.lit (.c (.fn
  25 []))) [(T 9)])), (oP 11 (.un .not (T 10)))])) (.tr (rl [2, 0, 0, 0]) false (.cond (T 11) (.seq (.tr (rl [4, 0]) false (.region false [(oP 12 (.build [(.pv
  (.sl .nil 0 []))] [])), (sW (.store 1 (T 4) (T 12))), (oP 5 (.mv (tI 1)))])) (.tr (rl [4, 0]) false .ret)) .skip))) (.seq (.seq (.tr (rl [2, 0, 0, 1]) false
  (.region false [(oR 13 (.load true 7 (T 3))), (oP 14 (.call false [] (.lit (.c (.fn 37 []))) [(T 13)])), (oP 6 (.mv (T 14)))])) (.seq (.tr (rl [2, 0, 0, 1,
  9]) false (.region false [(oP 15 (.mv (T 6))), (oP 16 (.bin .neq (T 15) (tI 0)))])) (.tr (rl [2, 0, 0, 0]) false (.cond (T 16) (.seq (.tr (rl [4, 0]) false
  (.region false [(oP 17 (.build [(.pv (.sl .nil 0 []))] [])), (oP 18 (.mv (T 6))), (sW (.store 1 (T 4) (T 17))), (oP 5 (.mv (T 18)))])) (.tr (rl [4, 0]) false
  .ret)) .skip)))) (.seq (.seq (.tr (rl [2, 0, 0, 2]) false (.region true [(oP 19 (.faddr 0 (T 2))), (oR 20 (.loadR false 1 (T 19) (T 2))), (oP 21 (.faddr 0 (T
  2))), (oR 22 (.load false 1 (T 21))), (oR 24 (.loadR true 7 (T 3) (T 3))), (oW 23 (.call false [(T 2), (T 3)] (.lit (.c (.fn 60 []))) [(T 22)])), (oW 25
  (.call false [] (.lit (.c (.fn 59 []))) [(T 20), (T 23), (T 24)])), (oP 7 (.mv (T 25)))])) (.seq (.tr (rl [2, 0, 0, 2, 19]) false (.region false [(oP 26 (.mv
  (T 7))), (oP 27 (.bin .neq (T 26) (tI 0)))])) (.tr (rl [2, 0, 0, 0]) false (.cond (T 27) (.seq (.tr (rl [4, 0]) false (.region false [(oP 28 (.build [(.pv
  (.sl .nil 0 []))] [])), (oP 29 (.mv (T 7))), (sW (.store 1 (T 4) (T 28))), (oP 5 (.mv (T 29)))])) (.tr (rl [4, 0]) false .ret)) .skip)))) (.seq (.region false
  [(oP 8 (.mv (.lit (.c (.fn 61 [])))))]) (.seq (.tr (rl [4, 0]) false (.region true [(oP 30 (.faddr 0 (T 2))), (oR 31 (.load false 1 (T 30))), (oP 32 (.mv (T
  8))), (oR 34 (.loadR true 7 (T 3) (T 3))), (oW 33 (.call false [(T 3)] (.lit (.c (.fn 62 []))) [(T 31), (T 32)])), (oP 35 (.call false [] (.lit (.c (.fn 63
  []))) [(T 34)])), (oP 36 (.buildSl [(.pv (.int .i64 0)), (.pv (.int .i32 0)), (.pv (.int .i32 0)), (.pv (.sl .nil 0 [])), (.pv (.int .i64 0)), (.pv (.int .i64
  0)), (.pv (.str []))] 1 7 [(0, (7, (T 35)))])), (oW 37 (.app 7 72 (T 33) (T 36))), (oP 38 (.build [(.pv (.sl .nil 0 []))] [(0, (1, (T 37)))])), (sW (.store 1
  (T 4) (T 38))), (oP 5 (.mv (tI 0)))])) (.tr (rl [4, 0]) false .ret))))))))
theorem xf19_ok : cmpFunc Go.Proofs.Tryd.prog 19 ((.two (.tr (rl [2, 0, 0]) false .no) (.two (.two (.tr (rl [2, 0, 0, 6]) false (.ops [{}, { cls := some .p }])) (.tr (rl [2, 0, 0, 0]) false (.two (.two (.tr (rl [4, 0]) false .no) (.tr (rl [4, 0]) false .no)) .no))) (.two (.two (.tr (rl [2, 0, 0, 1]) false (.ops [{}, { cls := some .p }])) (.two (.tr (rl [2, 0, 0, 1, 9]) false .no) (.tr (rl [2, 0, 0, 0]) false (.two (.two (.tr (rl [4, 0]) false .no) (.tr (rl [4, 0]) false .no)) .no)))) (.two (.two (.tr (rl [2, 0, 0, 2]) false (.draw [0, 1, 2, 3, 5, 4, 6, 7] [{}, { root := some 2 }, {}, {}, { ap := [2, 3] }, { root := some 3 }])) (.two (.tr (rl [2, 0, 0, 2, 19]) false .no) (.tr (rl [2, 0, 0, 0]) false (.two (.two (.tr (rl [4, 0]) false .no) (.tr (rl [4, 0]) false .no)) .no)))) (.two .no (.two (.tr (rl [4, 0]) false (.draw [0, 1, 2, 4, 3, 5, 6, 7, 8, 9, 10] [{}, {}, {}, { ap := [3] }, { root := some 3 }, { cls := some .p }])) (.tr (rl [4, 0]) false .no)))))))) = some xf19 := by kernel_rfl
def xf20 : XFunc :=
(.mk 17 [(.cell 4 true 1), (.tmp 5)] (.seq (.tr (rl [2, 0, 0]) false (.region false [(oW 2 (.box (T 0) 1)), (oW 3 (.box (T 1) 1)), (oW 4 (.alloc [(.pv (.sl .nil
  0 []))])), (oP 5 (.mv (tI 0)))])) (.seq (.tr (rl [4, 1, 0]) false (.region false [(oR 9 (.load true 1 (T 2))), (oP 10 (.mkfn 65 [(T 3)])), (oW 11 (.call false
  [] (.lit (.c (.fn 64 []))) [(T 9), (T 10)])), (oP 8 (.mv (T 11))), (oP 12 (.extr 0 (T 8))), (oP 13 (.extr 1 (T 8))), (oP 6 (.mv (T 12))), (oP 7 (.mv (T
  13)))])) (.seq (.tr (rl [4, 0]) false (.region false [(oP 14 (.mv (T 6))), (oP 15 (.build [(.pv (.sl .nil 0 []))] [(0, (1, (T 14)))])), (oP 16 (.mv (T 7))),
  (sW (.store 1 (T 4) (T 15))), (oP 5 (.mv (T 16)))])) (.tr (rl [4, 0]) false .ret)))))
theorem xf20_ok : cmpFunc Go.Proofs.Tryd.prog 20 ((.two (.tr (rl [2, 0, 0]) false .no) (.two (.tr (rl [4, 1, 0]) false .no) (.two (.tr (rl [4, 0]) false .no) (.tr (rl [4, 0]) false .no))))) = some xf20 := by kernel_rfl
def xf21 : XFunc :=
(.mk 13 [(.tmp 6), (.tmp 7)] (.seq (.tr (rl [3, 0, 0]) false (.region false [(oW 3 (.box (T 0) 1)), (oW 4 (.box (T 1) 1)), (oW 5 (.box (T 2) 1)), (oP 6 (.mv
  (.lit (.c (.pv (.sl .nil 0 [])))))), (oP 7 (.mv (tI 0)))])) (.seq (.tr (rl [6, 0]) false (.region false [(oR 8 (.load true 1 (T 3))), (oP 9 (.mkfn 66 [(T 4),
  (T 5)])), (oW 10 (.call false [] (.lit (.c (.fn 64 []))) [(T 8), (T 9)])), (oP 11 (.extr 0 (T 10))), (oP 12 (.extr 1 (T 10))), (oP 6 (.mv (T 11))), (oP 7 (.mv
  (T 12)))])) (.tr (rl [6, 0]) false .ret))))
theorem xf21_ok : cmpFunc Go.Proofs.Tryd.prog 21 ((.two (.tr (rl [3, 0, 0]) false .no) (.two (.tr (rl [6, 0]) false .no) (.tr (rl [6, 0]) false .no)))) = some xf21 := by kernel_rfl
def xf22 : XFunc :=
(.mk 8 [(.tmp 2), (.tmp 3)] (.seq (.tr (rl [1]) false (.region false [(oW 1 (.box (T 0) 1)), (oP 2 (.mv (.lit (.c (.pv (.sl .nil 0 [])))))), (oP 3 (.mv (tI
  0)))])) (.seq (.tr (rl [2, 0]) false (.region false [(oR 4 (.load true 1 (T 1))), (oW 5 (.call false [] (.lit (.c (.fn 64 []))) [(T 4), (.lit (.c (.fn 67
  [])))])), (oP 6 (.extr 0 (T 5))), (oP 7 (.extr 1 (T 5))), (oP 2 (.mv (T 6))), (oP 3 (.mv (T 7)))])) (.tr (rl [2, 0]) false .ret))))
theorem xf22_ok : cmpFunc Go.Proofs.Tryd.prog 22 ((.two (.tr (rl [1]) false .no) (.two (.tr (rl [2, 0]) false .no) (.tr (rl [2, 0]) false .no)))) = some xf22 := by kernel_rfl
def xf23 : XFunc :=
(.mk 26 [(.tmp 4), (.tmp 5)] (.seq (.tr (rl [2, 0]) false (.region false [(oW 2 (.box (T 0) 1)), (oW 3 (.box (T 1) 1)), (oP 4 (.mv (.lit (.c (.pv (.int .i32
  0)))))), (oP 5 (.mv (.lit (.c (.pv (.bool false))))))])) (.seq (.tr (rl [6, 0]) false (.region false [(oR 10 (.load true 1 (T 2))), (oP 11 (.mkfn 68 [(T
  3)])), (oW 12 (.call false [] (.lit (.c (.fn 64 []))) [(T 10), (T 11)])), (oP 9 (.mv (T 12))), (oP 13 (.extr 0 (T 9))), (oP 14 (.extr 1 (T 9))), (oP 6 (.mv (T
  13))), (oP 7 (.mv (T 14)))])) (.seq (.seq (.tr (rl [6, 14]) false (.region false [(oP 15 (.mv (T 7))), (oP 16 (.bin .neq (T 15) (tI 0))), (oP 17 (.mv (T
  16))), (.mk (some 18) (.mv (T 6)) (some (17, false)) .p), (.mk (some 19) (.len (T 18)) (some (17, false)) .p), (.mk (some 20) (.bin .eql (T 19) (tI 0)) (some
  (17, false)) .p), (oP 21 (.pick (T 17) (.lit (.c (.pv (.bool true)))) (T 20)))])) (.tr (rl [4, 0, 0]) false (.cond (T 21) (.seq (.region false [(oP 4 (.mv
  (.lit (.c (.pv (.int .i32 0)))))), (oP 5 (.mv (.lit (.c (.pv (.bool false))))))]) (.tr (rl [4, 0]) false .ret)) .skip))) (.seq (.tr (rl [8]) false (.region
  false [(oP 22 (.mv (T 6))), (oW 23 (.call false [] (.lit (.c (.fn 69 []))) [(T 22), (.lit (.c (.fn 70 [])))])), (oW 8 (.alloc [(.pv (.int .i64 0)), (.pv (.int
  .i32 0)), (.pv (.int .i32 0)), (.pv (.sl .nil 0 [])), (.pv (.int .i64 0)), (.pv (.int .i64 0)), (.pv (.str []))])), (sW (.store 7 (T 8) (T 23)))])) (.seq (.tr
  (rl [4, 0]) false (.region false [(oP 24 (.faddr 2 (T 8))), (oR 25 (.load false 1 (T 24))), (oP 4 (.mv (T 25))), (oP 5 (.mv (.lit (.c (.pv (.bool
  true))))))])) (.tr (rl [4, 0]) false .ret)))))))
theorem xf23_ok : cmpFunc Go.Proofs.Tryd.prog 23 ((.two (.tr (rl [2, 0]) false .no) (.two (.tr (rl [6, 0]) false .no) (.two (.two (.tr (rl [6, 14]) false .no) (.tr (rl [4, 0, 0]) false (.two (.two .no (.tr (rl [4, 0]) false .no)) .no))) (.two (.tr (rl [8]) false .no) (.two (.tr (rl [4, 0]) false .no) (.tr (rl [4, 0]) false .no))))))) = some xf23 := by kernel_rfl
def xf24_l0 : XCode :=
(.seq (.region false [(oP 22 (.bin .lss (T 21) (T 20)))]) (.seq (.tr (rl [6, 0, 11, 0, 0]) false (.cond (T 22) .skip (.tr (rl [6, 0]) false (.exit 0)))) (.seq
  (.tr (rl [6, 0, 11, 0, 0]) false (.block 1 (.seq (.tr (rl [6, 0, 1, 9, 0, 0]) false (.region false [(oP 23 (.iaddrS 7 (T 19) (T 21))), (oR 24 (.load true 7 (T
  23))), (oW 9 (.alloc [(.pv (.int .i64 0)), (.pv (.int .i32 0)), (.pv (.int .i32 0)), (.pv (.sl .nil 0 [])), (.pv (.int .i64 0)), (.pv (.int .i64 0)), (.pv
  (.str []))])), (sW (.store 7 (T 9) (T 24)))])) (.tr (rl [6, 0, 11, 0, 0]) false (.region false [(oP 25 (.mv (T 7))), (oP 26 (.faddr 0 (T 9))), (oR 27 (.load
  false 1 (T 26))), (oP 28 (.buildSl [(.pv (.int .i64 0))] 1 1 [(0, (1, (T 27)))])), (oW 29 (.app 1 8 (T 25) (T 28))), (oP 7 (.mv (T 29)))]))))) (.tr (rl [6, 0,
  11, 0, 0]) false (.region false [(oP 30 (.bin .add (T 21) (tI 1))), (oP 21 (.mv (T 30)))])))))
def xf24 : XFunc :=
(.mk 33 [(.tmp 2), (.tmp 3)] (.seq (.tr (rl [1]) false (.region false [(oW 1 (.box (T 0) 1)), (oP 2 (.mv (.lit (.c (.pv (.sl .nil 0 [])))))), (oP 3 (.mv (tI
  0)))])) (.seq (.tr (rl [1, 2]) false (.region false [(oP 10 (.faddr 0 (T 1))), (oR 11 (.load false 1 (T 10))), (oW 12 (.call false [] (.lit (.c (.fn 60 [])))
  [(T 11)])), (oW 4 (.alloc [.nilm])), (sW (.store 1 (T 4) (T 12)))])) (.seq (.tr (rl [5, 0]) false (.region false [(oR 14 (.load true 1 (T 1))), (oP 15 (.mkfn
  71 [(T 4)])), (oW 16 (.call false [] (.lit (.c (.fn 64 []))) [(T 14), (T 15)])), (oP 13 (.mv (T 16))), (oP 17 (.extr 0 (T 13))), (oP 18 (.extr 1 (T 13))), (oP
  5 (.mv (T 17))), (oP 6 (.mv (T 18)))])) (.seq (.region false [(oP 7 (.mv (.lit (.c (.pv (.sl .nil 0 []))))))]) (.seq (.seq (.tr (rl [6, 0, 11, 0, 0]) false
  (.region false [(oP 19 (.mv (T 5))), (oP 20 (.len (T 19))), (oP 21 (.mv (tI 0)))])) (.tr (rl [6, 0]) false (.block 0 (.loop (rl [6, 0, 11, 0, 0]) xf24_l0))))
  (.seq (.tr (rl [2, 0]) false (.region false [(oP 31 (.mv (T 7))), (oP 32 (.mv (T 6))), (oP 2 (.mv (T 31))), (oP 3 (.mv (T 32)))])) (.tr (rl [2, 0]) false
  .ret))))))))
theorem xf24_ok : cmpFunc Go.Proofs.Tryd.prog 24 ((.two (.tr (rl [1]) false .no) (.two (.tr (rl [1, 2]) false .no) (.two (.tr (rl [5, 0]) false .no) (.two .no (.two (.two (.tr (rl [6, 0, 11, 0, 0]) false .no) (.tr (rl [6, 0]) false (.loop (rl [6, 0, 11, 0, 0]) (.two .no (.two (.tr (rl [6, 0, 11, 0, 0]) false (.two .no (.tr (rl [6, 0]) false .no))) (.two (.tr (rl [6, 0, 11, 0, 0]) false (.two (.tr (rl [6, 0, 1, 9, 0, 0]) false .no) (.tr (rl [6, 0, 11, 0, 0]) false .no))) (.tr (rl [6, 0, 11, 0, 0]) false .no))))))) (.two (.tr (rl [2, 0]) false .no) (.tr (rl [2, 0]) false .no)))))))) = some xf24 := by kernel_rfl
def xf25_l0 : XCode :=
(.seq (.region false [(oP 11 (.bin .lss (T 10) (T 9)))]) (.seq (.tr (rl [1, 1, 4, 0, 0]) false (.cond (T 11) .skip (.tr [] false (.exit 0)))) (.seq (.tr (rl [1,
  0, 0, 4, 0, 0]) false (.block 1 (.seq (.tr (rl [1, 1, 0, 0, 2, 0, 0]) false (.region false [(oP 12 (.mv (T 10))), (oP 13 (.iaddrS 7 (T 8) (T 10))), (oR 14
  (.load true 7 (T 13))), (oW 5 (.alloc [(.pv (.int .i64 0)), (.pv (.int .i32 0)), (.pv (.int .i32 0)), (.pv (.sl .nil 0 [])), (.pv (.int .i64 0)), (.pv (.int
  .i64 0)), (.pv (.str []))])), (oP 4 (.mv (T 12))), (sW (.store 7 (T 5) (T 14)))])) (.seq (.seq (.tr (rl [1, 1, 1, 2, 0, 0, 16]) false (.region true [(oR 15
  (.load true 7 (T 5))), (oP 16 (.call false [] (.lit (.c (.fn 37 []))) [(T 15)])), (oP 17 (.bin .neq (T 16) (tI 0))), (oP 18 (.mv (T 17))), (.mk (some 19)
  (.faddr 0 (T 1)) (some (18, false)) .p), (.mk (some 20) (.load false 1 (T 19)) (some (18, false)) .r), (.mk (some 21) (.mv (T 4)) (some (18, false)) .p), (.mk
  (some 22) (.sliceV 7 (T 20) none (some (T 21)) none) (some (18, false)) .p), (.mk (some 23) (.mv (T 3)) (some (18, false)) .p), (.mk (some 24) (.load true 7
  (T 5)) (some (18, false)) .r), (.mk (some 25) (.call false [] (.lit (.c (.fn 59 []))) [(T 22), (T 23), (T 24)]) (some (18, false)) .w), (.mk (some 26) (.bin
  .neq (T 25) (tI 0)) (some (18, false)) .p), (oP 27 (.pick (T 18) (.lit (.c (.pv (.bool true)))) (T 26)))])) (.tr (rl [1, 0, 0, 1, 2, 0, 0]) false (.cond (T
  27) (.seq (.region false [(oP 2 (.mv (.lit (.c (.pv (.bool false))))))]) (.tr (rl [2]) false .ret)) .skip))) (.tr (rl [1, 1, 4, 0, 0]) false (.region false
  [(oP 28 (.mv (T 3))), (oP 29 (.faddr 4 (T 5))), (oR 30 (.load false 1 (T 29))), (sW (.mupd (T 28) (T 30) (.lit (.c (.pv (.bool true))))))])))))) (.tr (rl [1,
  1, 4, 0, 0]) false (.region false [(oP 31 (.bin .add (T 10) (tI 1))), (oP 10 (.mv (T 31)))])))))
def xf25 : XFunc :=
(.mk 32 [(.tmp 2)] (.seq (.tr (rl [1]) false (.region false [(oW 1 (.box (T 0) 1)), (oP 2 (.mv (.lit (.c (.pv (.bool false))))))])) (.seq (.tr (rl [1, 1]) false
  (.region false [(.mk (some 6) .mkmap none .w), (oP 3 (.mv (T 6)))])) (.seq (.seq (.tr (rl [1, 1, 4, 0, 0]) false (.region false [(oP 7 (.faddr 0 (T 1))), (oR
  8 (.load false 1 (T 7))), (oP 9 (.len (T 8))), (oP 10 (.mv (tI 0)))])) (.tr (rl [2]) false (.block 0 (.loop (rl [1, 1, 4, 0, 0]) xf25_l0)))) (.seq (.region
  false [(oP 2 (.mv (.lit (.c (.pv (.bool true))))))]) (.tr (rl [2]) false .ret))))))
theorem xf25_ok : cmpFunc Go.Proofs.Tryd.prog 25 ((.two (.tr (rl [1]) false .no) (.two (.tr (rl [1, 1]) false .no) (.two (.two (.tr (rl [1, 1, 4, 0, 0]) false .no) (.tr (rl [2]) false (.loop (rl [1, 1, 4, 0, 0]) (.two .no (.two (.tr (rl [1, 1, 4, 0, 0]) false (.two .no (.tr [] false .no))) (.two (.tr (rl [1, 0, 0, 4, 0, 0]) false (.two (.tr (rl [1, 1, 0, 0, 2, 0, 0]) false .no) (.two (.two (.tr (rl [1, 1, 1, 2, 0, 0, 16]) false (.draw [0, 1, 2, 3, 4, 5, 6, 7, 8, 9, 10, 11, 12] [{}, { cls := some .p }])) (.tr (rl [1, 0, 0, 1, 2, 0, 0]) false (.two (.two .no (.tr (rl [2]) false .no)) .no))) (.tr (rl [1, 1, 4, 0, 0]) false .no)))) (.tr (rl [1, 1, 4, 0, 0]) false .no))))))) (.two .no (.tr (rl [2]) false .no)))))) = some xf25 := by kernel_rfl
def xf31_l0 : XCode :=
(.seq (.seq (.tr (rl [0, 0, 3, 8]) false (.region false [(oP 11 (.mv (T 5))), (oP 12 (.mv (T 0))), (oP 13 (.len (T 12))), (oP 14 (.bin .lss (T 11) (T 13)))]))
  (.tr (rl [0, 0, 3]) false (.cond (T 14) .skip (.tr [] false (.exit 0))))) (.seq (.tr (rl [0, 0, 2, 0]) false (.block 1 (.seq (.tr (rl [0, 0, 3, 19]) false
  (.region true [(oP 17 (.mv (T 0))), (oP 18 (.mv (T 5))), (oP 19 (.iaddrS 1 (T 17) (T 18))), (oR 20 (.load false 1 (T 19))), (oP 21 (.mv (T 1))), (oP 22 (.mv
  (T 5))), (oP 23 (.iaddrS 1 (T 21) (T 22))), (oR 24 (.load false 1 (T 23))), (oP 25 (.bin .neq (T 20) (T 24)))])) (.tr (rl [0, 0, 2, 0]) false (.cond (T 25)
  (.seq (.region false [(oP 4 (.mv (.lit (.c (.pv (.bool false))))))]) (.tr (rl [4]) false .ret)) .skip))))) (.tr (rl [0, 0, 3]) false (.region false [(oP 15
  (.mv (T 5))), (oP 16 (.bin .add (T 15) (tI 1))), (oP 5 (.mv (T 16)))]))))
def xf31 : XFunc :=
(.mk 26 [(.tmp 4)] (.seq (.tr (rl [0, 0]) false (.region false [(oP 4 (.mv (.lit (.c (.pv (.bool false))))))])) (.seq (.seq (.tr (rl [0, 0, 8]) false (.region
  false [(oP 6 (.mv (T 0))), (oP 7 (.len (T 6))), (oP 8 (.mv (T 1))), (oP 9 (.len (T 8))), (oP 10 (.bin .neq (T 7) (T 9)))])) (.tr (rl [0, 0, 2]) false (.cond
  (T 10) (.seq (.region false [(oP 4 (.mv (.lit (.c (.pv (.bool false))))))]) (.tr (rl [4]) false .ret)) .skip))) (.seq (.seq (.region false [(oP 5 (.mv (tI
  0)))]) (.tr (rl [4]) false (.block 0 (.loop (rl [0, 0, 3]) xf31_l0)))) (.seq (.region false [(oP 4 (.mv (.lit (.c (.pv (.bool true))))))]) (.tr (rl [4]) false
  .ret))))))
theorem xf31_ok : cmpFunc Go.Proofs.Tryd.prog 31 ((.two (.tr (rl [0, 0]) false .no) (.two (.two (.tr (rl [0, 0, 8]) false .no) (.tr (rl [0, 0, 2]) false (.two (.two .no (.tr (rl [4]) false .no)) .no))) (.two (.two .no (.tr (rl [4]) false (.loop (rl [0, 0, 3]) (.two (.two (.tr (rl [0, 0, 3, 8]) false .no) (.tr (rl [0, 0, 3]) false (.two .no (.tr [] false .no)))) (.two (.tr (rl [0, 0, 2, 0]) false (.two (.tr (rl [0, 0, 3, 19]) false (.draw [0, 1, 2, 3, 4, 5, 6, 7, 8] [])) (.tr (rl [0, 0, 2, 0]) false (.two (.two .no (.tr (rl [4]) false .no)) .no)))) (.tr (rl [0, 0, 3]) false .no)))))) (.two .no (.tr (rl [4]) false .no)))))) = some xf31 := by kernel_rfl
def xf33_l0 : XCode :=
(.seq (.region false [(oP 24 (.bin .lss (T 23) (T 22)))]) (.seq (.tr (rl [0, 0, 0, 0, 17, 0, 0]) false (.cond (T 24) .skip (.tr (rl [0, 0, 0, 0]) false (.exit
  0)))) (.seq (.tr (rl [0, 0, 0, 0, 4, 0, 11, 0, 0]) false (.block 1 (.seq (.tr (rl [0, 0, 0, 0, 7, 9, 0, 0]) false (.region false [(oP 25 (.iaddrS 7 (T 21) (T
  23))), (oR 26 (.load true 7 (T 25))), (oW 11 (.alloc [(.pv (.int .i64 0)), (.pv (.int .i32 0)), (.pv (.int .i32 0)), (.pv (.sl .nil 0 [])), (.pv (.int .i64
  0)), (.pv (.int .i64 0)), (.pv (.str []))])), (sW (.store 7 (T 11) (T 26)))])) (.seq (.tr (rl [0, 0, 0, 0, 8, 8, 0, 0]) false (.region false [(oR 27 (.load
  true 7 (T 11))), (oP 28 (.call false [] (.lit (.c (.fn 37 []))) [(T 27)])), (oP 12 (.mv (T 28)))])) (.seq (.tr (rl [0, 0, 0, 0, 8, 8, 0, 0, 6]) false (.region
  false [(oP 29 (.mv (T 12))), (oP 30 (.bin .neq (T 29) (tI 0)))])) (.tr (rl [0, 0, 0, 0, 4, 0, 11, 0, 0]) false (.cond (T 30) (.seq (.tr (rl [8, 0]) false
  (.region false [(oP 31 (.mv (T 12))), (oP 8 (.mv (tI 0))), (oP 9 (.mv (T 31)))])) (.tr (rl [8, 0]) false .ret)) .skip))))))) (.tr (rl [0, 0, 0, 0, 17, 0, 0])
  false (.region false [(oP 32 (.bin .add (T 23) (tI 1))), (oP 23 (.mv (T 32)))])))))
def xf33_l1 : XCode :=
(.seq (.region false [(oP 42 (.bin .lss (T 41) (T 40)))]) (.seq (.tr (rl [1, 0, 0, 9, 25, 0, 0]) false (.cond (T 42) .skip (.tr (rl [13]) false (.exit 2))))
  (.seq (.tr (rl [1, 0, 0, 9, 25, 0, 0]) false (.block 3 (.seq (.tr (rl [1, 0, 0, 9, 1, 23, 0, 0]) false (.region false [(oP 43 (.iaddrS 7 (T 39) (T 41))), (oR
  44 (.load true 7 (T 43))), (oW 15 (.alloc [(.pv (.int .i64 0)), (.pv (.int .i32 0)), (.pv (.int .i32 0)), (.pv (.sl .nil 0 [])), (.pv (.int .i64 0)), (.pv
  (.int .i64 0)), (.pv (.str []))])), (sW (.store 7 (T 15) (T 44)))])) (.seq (.tr (rl [1, 0, 0, 9, 1, 0, 22, 0, 0]) false (.region false [(oR 46 (.load true 7
  (T 15))), (oP 47 (.mv (T 1))), (oP 48 (.mv (T 2))), (oP 49 (.call false [] (.lit (.c (.fn 40 []))) [(T 46), (T 47), (T 48)])), (oP 45 (.mv (T 49))), (oP 50
  (.extr 0 (T 45))), (oP 51 (.extr 1 (T 45))), (oP 16 (.mv (T 50))), (oP 17 (.mv (T 51)))])) (.seq (.tr (rl [1, 0, 0, 9, 2, 22, 0, 0, 13]) false (.region false
  [(oP 52 (.faddr 2 (T 15))), (oR 53 (.load false 1 (T 52))), (oP 54 (.mv (T 3))), (oP 55 (.bin .leq (T 53) (T 54)))])) (.tr (rl [1, 0, 0, 9, 25, 0, 0]) false
  (.cond (T 55) (.tr (rl [1, 0, 0, 9, 25, 0, 0]) false (.region false [(oP 56 (.mv (T 13))), (oP 57 (.mv (T 16))), (oP 58 (.bin .add (T 56) (T 57))), (oP 13
  (.mv (T 58)))])) .skip))))))) (.tr (rl [1, 0, 0, 9, 25, 0, 0]) false (.region false [(oP 59 (.bin .add (T 41) (tI 1))), (oP 41 (.mv (T 59)))])))))
def xf33 : XFunc :=
(.mk 61 [(.tmp 8), (.tmp 9)] (.seq (.tr (rl [0, 0, 0, 0]) false (.region false [(oP 8 (.mv (tI 0))), (oP 9 (.mv (tI 0)))])) (.seq (.seq (.tr (rl [0, 0, 0, 0,
  16]) false (.region false [(oP 18 (.mv (T 0))), (oP 19 (.len (T 18))), (oP 20 (.bin .gtr (T 19) (tI 400)))])) (.tr (rl [0, 0, 0, 0, 4, 0]) false (.cond (T 20)
  (.seq (.region false [(oP 8 (.mv (tI 0))), (oP 9 (.mv (tI 4)))]) (.tr (rl [8, 0]) false .ret)) .skip))) (.seq (.seq (.region false [(oP 21 (.mv (T 0))), (oP
  22 (.len (T 21))), (oP 23 (.mv (tI 0)))]) (.tr (rl [0, 0, 0, 0, 4, 0]) false (.block 0 (.loop (rl [0, 0, 0, 0, 17, 0, 0]) xf33_l0)))) (.seq (.seq (.tr (rl [0,
  0, 0, 0, 34]) false (.region false [(oP 33 (.mv (T 2))), (oP 34 (.bin .lss (T 33) (tI 0))), (oP 35 (.mv (T 34))), (.mk (some 36) (.mv (T 2)) (some (35,
  false)) .p), (.mk (some 37) (.bin .geq (T 36) (tI 4)) (some (35, false)) .p), (oP 38 (.pick (T 35) (.lit (.c (.pv (.bool true)))) (T 37)))])) (.tr (rl [0, 0,
  0, 0, 4, 0]) false (.cond (T 38) (.seq (.region false [(oP 8 (.mv (tI 0))), (oP 9 (.mv (tI 12)))]) (.tr (rl [8, 0]) false .ret)) .skip))) (.seq (.region false
  [(oP 13 (.mv (tI 0)))]) (.seq (.seq (.tr (rl [1, 0, 0, 9, 25, 0, 0]) false (.region false [(oP 39 (.mv (T 0))), (oP 40 (.len (T 39))), (oP 41 (.mv (tI 0)))]))
  (.tr (rl [13]) false (.block 2 (.loop (rl [1, 0, 0, 9, 25, 0, 0]) xf33_l1)))) (.seq (.tr (rl [8, 0]) false (.region false [(oP 60 (.mv (T 13))), (oP 8 (.mv (T
  60))), (oP 9 (.mv (tI 0)))])) (.tr (rl [8, 0]) false .ret)))))))))
theorem xf33_ok : cmpFunc Go.Proofs.Tryd.prog 33 ((.two (.tr (rl [0, 0, 0, 0]) false .no) (.two (.two (.tr (rl [0, 0, 0, 0, 16]) false .no) (.tr (rl [0, 0, 0, 0, 4, 0]) false (.two (.two .no (.tr (rl [8, 0]) false .no)) .no))) (.two (.two .no (.tr (rl [0, 0, 0, 0, 4, 0]) false (.loop (rl [0, 0, 0, 0, 17, 0, 0]) (.two .no (.two (.tr (rl [0, 0, 0, 0, 17, 0, 0]) false (.two .no (.tr (rl [0, 0, 0, 0]) false .no))) (.two (.tr (rl [0, 0, 0, 0, 4, 0, 11, 0, 0]) false (.two (.tr (rl [0, 0, 0, 0, 7, 9, 0, 0]) false .no) (.two (.tr (rl [0, 0, 0, 0, 8, 8, 0, 0]) false (.ops [{}, { cls := some .p }])) (.two (.tr (rl [0, 0, 0, 0, 8, 8, 0, 0, 6]) false .no) (.tr (rl [0, 0, 0, 0, 4, 0, 11, 0, 0]) false (.two (.two (.tr (rl [8, 0]) false .no) (.tr (rl [8, 0]) false .no)) .no)))))) (.tr (rl [0, 0, 0, 0, 17, 0, 0]) false .no))))))) (.two (.two (.tr (rl [0, 0, 0, 0, 34]) false .no) (.tr (rl [0, 0, 0, 0, 4, 0]) false (.two (.two .no (.tr (rl [8, 0]) false .no)) .no))) (.two .no (.two (.two (.tr (rl [1, 0, 0, 9, 25, 0, 0]) false .no) (.tr (rl [13]) false (.loop (rl [1, 0, 0, 9, 25, 0, 0]) (.two .no (.two (.tr (rl [1, 0, 0, 9, 25, 0, 0]) false (.two .no (.tr (rl [13]) false .no))) (.two (.tr (rl [1, 0, 0, 9, 25, 0, 0]) false (.two (.tr (rl [1, 0, 0, 9, 1, 23, 0, 0]) false .no) (.two (.tr (rl [1, 0, 0, 9, 1, 0, 22, 0, 0]) false (.ops [{}, {}, {}, { cls := some .p }])) (.two (.tr (rl [1, 0, 0, 9, 2, 22, 0, 0, 13]) false .no) (.tr (rl [1, 0, 0, 9, 25, 0, 0]) false (.two (.tr (rl [1, 0, 0, 9, 25, 0, 0]) false .no) .no)))))) (.tr (rl [1, 0, 0, 9, 25, 0, 0]) false .no))))))) (.two (.tr (rl [8, 0]) false .no) (.tr (rl [8, 0]) false .no))))))))) = some xf33 := by kernel_rfl
def xf36_l0 : XCode :=
(.seq (.region false [(oP 12 (.bin .lss (T 11) (T 10)))]) (.seq (.tr (rl [2, 0, 5, 0, 0]) false (.cond (T 12) .skip (.tr (rl [2, 0]) false (.exit 0)))) (.seq
  (.tr (rl [2, 0, 5, 0, 0]) false (.block 1 (.seq (.tr (rl [2, 0, 1, 3, 0, 0]) false (.region false [(oP 13 (.iaddrS 7 (T 9) (T 11))), (oR 14 (.load true 7 (T
  13))), (oW 5 (.alloc [(.pv (.int .i64 0)), (.pv (.int .i32 0)), (.pv (.int .i32 0)), (.pv (.sl .nil 0 [])), (.pv (.int .i64 0)), (.pv (.int .i64 0)), (.pv
  (.str []))])), (sW (.store 7 (T 5) (T 14)))])) (.seq (.tr (rl [2, 0, 1, 3, 0, 0]) false (.region false [(oP 15 (.faddr 0 (T 3))), (oR 16 (.load false 1 (T
  15))), (oP 17 (.len (T 16))), (oP 18 (.bin .add (T 17) (tI 1))), (oP 19 (.faddr 0 (T 5))), (sW (.store 1 (T 19) (T 18)))])) (.seq (.tr (rl [2, 0, 2, 0, 1, 0,
  0]) false (.region false [(oR 21 (.load true 1 (T 3))), (oR 22 (.load true 7 (T 5))), (oP 23 (.call false [] (.lit (.c (.fn 19 []))) [(T 21), (T 22)])), (oP
  20 (.mv (T 23))), (oP 24 (.extr 0 (T 20))), (oP 25 (.extr 1 (T 20))), (oW 6 (.alloc [(.pv (.sl .nil 0 []))])), (sW (.store 1 (T 6) (T 24))), (oP 7 (.mv (T
  25)))])) (.seq (.tr (rl [2, 0, 2, 2, 0, 0, 15]) false (.region false [(oP 26 (.mv (T 7))), (oP 27 (.bin .eql (T 26) (tI 0)))])) (.tr (rl [2, 0, 5, 0, 0])
  false (.cond (T 27) (.tr (rl [2, 0, 5, 0, 0]) false (.region false [(oR 28 (.load true 1 (T 6))), (sW (.store 1 (T 3) (T 28)))])) .skip)))))))) (.tr (rl [2,
  0, 5, 0, 0]) false (.region false [(oP 29 (.bin .add (T 11) (tI 1))), (oP 11 (.mv (T 29)))])))))
def xf36 : XFunc :=
(.mk 31 [(.cell 2 true 1)] (.seq (.region false [(oW 2 (.alloc [(.pv (.sl .nil 0 []))]))]) (.seq (.tr (rl [0, 1, 0]) false (.region false [(oP 8 (.build [(.pv
  (.sl .nil 0 []))] [])), (oW 3 (.alloc [(.pv (.sl .nil 0 []))])), (sW (.store 1 (T 3) (T 8)))])) (.seq (.seq (.tr (rl [2, 0, 5, 0, 0]) false (.region false
  [(oP 9 (.mv (T 0))), (oP 10 (.len (T 9))), (oP 11 (.mv (tI 0)))])) (.tr (rl [2, 0]) false (.block 0 (.loop (rl [2, 0, 5, 0, 0]) xf36_l0)))) (.seq (.tr (rl
  [2]) false (.region false [(oR 30 (.load true 1 (T 3))), (sW (.store 1 (T 2) (T 30)))])) (.tr (rl [2]) false .ret))))))
theorem xf36_ok : cmpFunc Go.Proofs.Tryd.prog 36 ((.two .no (.two (.tr (rl [0, 1, 0]) false .no) (.two (.two (.tr (rl [2, 0, 5, 0, 0]) false .no) (.tr (rl [2, 0]) false (.loop (rl [2, 0, 5, 0, 0]) (.two .no (.two (.tr (rl [2, 0, 5, 0, 0]) false (.two .no (.tr (rl [2, 0]) false .no))) (.two (.tr (rl [2, 0, 5, 0, 0]) false (.two (.tr (rl [2, 0, 1, 3, 0, 0]) false .no) (.two (.tr (rl [2, 0, 1, 3, 0, 0]) false .no) (.two (.tr (rl [2, 0, 2, 0, 1, 0, 0]) false (.ops [{}, {}, { cls := some .p }])) (.two (.tr (rl [2, 0, 2, 2, 0, 0, 15]) false .no) (.tr (rl [2, 0, 5, 0, 0]) false (.two (.tr (rl [2, 0, 5, 0, 0]) false .no) .no))))))) (.tr (rl [2, 0, 5, 0, 0]) false .no))))))) (.two (.tr (rl [2]) false .no) (.tr (rl [2]) false .no)))))) = some xf36 := by kernel_rfl
def xf37 : XFunc :=
(.mk 47 [(.tmp 2)] (.seq (.tr (rl [1]) false (.region false [(oW 1 (.box (T 0) 7)), (oP 2 (.mv (tI 0)))])) (.seq (.tr (rl [1, 1]) false (.region false [(oP 4
  (.mkfn 74 [(T 1)])), (oP 3 (.mv (T 4)))])) (.seq (.tr (rl [2]) false (.block 0 (.seq (.tr (rl [1, 1, 1]) false (.region false [(oR 6 (.load true 7 (T 1))),
  (oP 7 (.call false [] (.lit (.c (.fn 76 []))) [(T 6)])), (oP 8 (.un .not (T 7))), (oP 5 (.mv (T 8)))])) (.tr (rl [2]) false (.cond (T 5) (.seq (.region false
  [(oP 2 (.mv (tI 1)))]) (.tr (rl [2]) false .ret)) (.seq (.tr (rl [1, 1, 5]) false (.region false [(oP 10 (.faddr 1 (T 1))), (oR 11 (.load false 1 (T 10))),
  (oP 12 (.call false [] (.lit (.c (.fn 77 []))) [(T 11)])), (oP 13 (.un .not (T 12))), (oP 14 (.mv (T 13))), (.mk (some 15) (.faddr 2 (T 1)) (some (14, false))
  .p), (.mk (some 16) (.load false 1 (T 15)) (some (14, false)) .r), (.mk (some 17) (.call false [] (.lit (.c (.fn 77 []))) [(T 16)]) (some (14, false)) .p),
  (.mk (some 18) (.un .not (T 17)) (some (14, false)) .p), (oP 19 (.pick (T 14) (.lit (.c (.pv (.bool true)))) (T 18))), (oP 9 (.mv (T 19)))])) (.tr (rl [2])
  false (.cond (T 9) (.seq (.region false [(oP 2 (.mv (tI 11)))]) (.tr (rl [2]) false .ret)) (.seq (.tr (rl [1, 1, 16]) false (.region false [(oP 21 (.faddr 3
  (T 1))), (oR 22 (.load false 1 (T 21))), (oP 23 (.len (T 22))), (oP 24 (.bin .lss (T 23) (tI 2))), (oP 20 (.mv (T 24)))])) (.tr (rl [2]) false (.cond (T 20)
  (.seq (.region false [(oP 2 (.mv (tI 2)))]) (.tr (rl [2]) false .ret)) (.seq (.tr (rl [1, 1, 21]) false (.region false [(oP 26 (.faddr 3 (T 1))), (oR 27
  (.load false 1 (T 26))), (oP 28 (.len (T 27))), (oP 29 (.bin .gtr (T 28) (tI 16))), (oP 25 (.mv (T 29)))])) (.tr (rl [2]) false (.cond (T 25) (.seq (.region
  false [(oP 2 (.mv (tI 4)))]) (.tr (rl [2]) false .ret)) (.seq (.tr (rl [1, 1, 26]) false (.region false [(oP 31 (.mv (T 3))), (oW 32 (.call false [] (T 31)
  [(.lit (.c (.fn 78 [])))])), (oP 30 (.mv (T 32)))])) (.tr (rl [2]) false (.cond (T 30) (.seq (.region false [(oP 2 (.mv (tI 8)))]) (.tr (rl [2]) false .ret))
  (.seq (.tr (rl [1, 1, 29]) false (.region false [(oP 34 (.mv (T 3))), (oW 35 (.call false [] (T 34) [(.lit (.c (.fn 79 [])))])), (oP 33 (.mv (T 35)))])) (.tr
  (rl [2]) false (.cond (T 33) (.seq (.region false [(oP 2 (.mv (tI 12)))]) (.tr (rl [2]) false .ret)) (.seq (.tr (rl [1, 1, 32]) false (.region false [(oP 37
  (.mv (T 3))), (oW 38 (.call false [] (T 37) [(.lit (.c (.fn 81 [])))])), (oP 36 (.mv (T 38)))])) (.tr (rl [2]) false (.cond (T 36) (.seq (.region false [(oP 2
  (.mv (tI 9)))]) (.tr (rl [2]) false .ret)) (.seq (.tr (rl [1, 37]) false (.region false [(oP 40 (.mv (T 3))), (oW 41 (.call false [] (T 40) [(.lit (.c (.fn 83
  [])))])), (oP 39 (.mv (T 41)))])) (.tr (rl [2]) false (.cond (T 39) (.seq (.region false [(oP 2 (.mv (tI 10)))]) (.tr (rl [2]) false .ret)) (.seq (.tr (rl
  [42]) false (.region false [(oP 43 (.faddr 3 (T 1))), (oR 44 (.load false 1 (T 43))), (oP 45 (.call false [] (.lit (.c (.fn 84 []))) [(T 44)])), (oP 46 (.un
  .not (T 45))), (oP 42 (.mv (T 46)))])) (.tr (rl [2]) false (.cond (T 42) (.seq (.region false [(oP 2 (.mv (tI 15)))]) (.tr (rl [2]) false .ret))
  .skip))))))))))))))))))))))))))))) (.seq (.region false [(oP 2 (.mv (tI 0)))]) (.tr (rl [2]) false .ret))))))
theorem xf37_ok : cmpFunc Go.Proofs.Tryd.prog 37 ((.two (.tr (rl [1]) false .no) (.two (.tr (rl [1, 1]) false .no) (.two (.tr (rl [2]) false (.two (.tr (rl [1, 1, 1]) false (.ops [{}, { cls := some .p }])) (.tr (rl [2]) false (.two (.two .no (.tr (rl [2]) false .no)) (.two (.tr (rl [1, 1, 5]) false (.ops [{}, {}, { cls := some .p }, {}, {}, {}, {}, { cls := some .p }])) (.tr (rl [2]) false (.two (.two .no (.tr (rl [2]) false .no)) (.two (.tr (rl [1, 1, 16]) false .no) (.tr (rl [2]) false (.two (.two .no (.tr (rl [2]) false .no)) (.two (.tr (rl [1, 1, 21]) false .no) (.tr (rl [2]) false (.two (.two .no (.tr (rl [2]) false .no)) (.two (.tr (rl [1, 1, 26]) false .no) (.tr (rl [2]) false (.two (.two .no (.tr (rl [2]) false .no)) (.two (.tr (rl [1, 1, 29]) false .no) (.tr (rl [2]) false (.two (.two .no (.tr (rl [2]) false .no)) (.two (.tr (rl [1, 1, 32]) false .no) (.tr (rl [2]) false (.two (.two .no (.tr (rl [2]) false .no)) (.two (.tr (rl [1, 37]) false .no) (.tr (rl [2]) false (.two (.two .no (.tr (rl [2]) false .no)) (.two (.tr (rl [42]) false (.ops [{}, {}, { cls := some .p }])) (.tr (rl [2]) false (.two (.two .no (.tr (rl [2]) false .no)) .no)))))))))))))))))))))))))))) (.two .no (.tr (rl [2]) false .no)))))) = some xf37 := by kernel_rfl
def xf38_l0 : XCode :=
(.seq (.region false [(oP 45 (.bin .lss (T 44) (T 43)))]) (.seq (.tr (rl [6, 2, 33, 0]) false (.cond (T 45) .skip (.tr (rl [6, 2]) false (.exit 0)))) (.seq (.tr
  (rl [6, 2, 33, 0]) false (.block 1 (.seq (.tr (rl [6, 2, 0, 32, 0]) false (.region false [(oP 46 (.mv (T 44))), (oP 10 (.mv (T 46)))])) (.tr (rl [6, 2, 33,
  0]) false (.region true [(oP 47 (.faddr 3 (T 9))), (oR 48 (.load false 1 (T 47))), (oP 49 (.mv (T 10))), (oP 50 (.faddr 3 (T 9))), (oR 51 (.load false 1 (T
  50))), (oP 52 (.mv (T 10))), (oP 53 (.iaddrS 3 (T 51) (T 52))), (oP 54 (.faddr 1 (T 53))), (oP 55 (.faddr 1 (T 54))), (oR 56 (.load false 1 (T 55))), (oP 57
  (.un .neg (T 56))), (oP 58 (.iaddrS 3 (T 48) (T 49))), (oP 59 (.faddr 1 (T 58))), (oP 60 (.faddr 1 (T 59))), (sW (.store 1 (T 60) (T 57)))]))))) (.tr (rl [6,
  2, 33, 0]) false (.region false [(oP 61 (.bin .add (T 44) (tI 1))), (oP 44 (.mv (T 61)))])))))
def xf38 : XFunc :=
(.mk 69 [(.cell 6 true 7), (.tmp 7)] (.seq (.tr (rl [1, 0, 0, 2]) false (.region false [(oW 3 (.box (T 0) 7)), (oW 6 (.alloc [(.pv (.int .i64 0)), (.pv (.int
  .i32 0)), (.pv (.int .i32 0)), (.pv (.sl .nil 0 [])), (.pv (.int .i64 0)), (.pv (.int .i64 0)), (.pv (.str []))])), (oP 7 (.mv (tI 0)))])) (.seq (.seq (.tr
  (rl [1, 0, 0, 2, 1]) false (.region false [(oR 12 (.load true 7 (T 3))), (oP 13 (.call false [] (.lit (.c (.fn 37 []))) [(T 12)])), (oP 8 (.mv (T 13)))]))
  (.seq (.tr (rl [1, 0, 0, 2, 1, 6]) false (.region false [(oP 14 (.mv (T 8))), (oP 15 (.bin .neq (T 14) (tI 0)))])) (.tr (rl [1, 0, 0, 2, 0]) false (.cond (T
  15) (.seq (.tr (rl [6, 0]) false (.region false [(oP 16 (.build [(.pv (.int .i64 0)), (.pv (.int .i32 0)), (.pv (.int .i32 0)), (.pv (.sl .nil 0 [])), (.pv
  (.int .i64 0)), (.pv (.int .i64 0)), (.pv (.str []))] [])), (oP 17 (.mv (T 8))), (sW (.store 7 (T 6) (T 16))), (oP 7 (.mv (T 17)))])) (.tr (rl [6, 0]) false
  .ret)) .skip)))) (.seq (.seq (.tr (rl [1, 0, 0, 2, 20]) false (.region false [(oP 18 (.mv (T 1))), (oP 19 (.faddr 0 (T 3))), (oR 20 (.load false 1 (T 19))),
  (oP 21 (.bin .leq (T 18) (T 20))), (oP 22 (.mv (T 21))), (.mk (some 23) (.mv (T 2)) (some (22, false)) .p), (.mk (some 24) (.faddr 1 (T 3)) (some (22, false))
  .p), (.mk (some 25) (.load false 1 (T 24)) (some (22, false)) .r), (.mk (some 26) (.bin .lss (T 23) (T 25)) (some (22, false)) .p), (oP 27 (.pick (T 22) (.lit
  (.c (.pv (.bool true)))) (T 26)))])) (.tr (rl [1, 0, 0, 2, 0]) false (.cond (T 27) (.seq (.tr (rl [6, 0]) false (.region false [(oP 28 (.build [(.pv (.int
  .i64 0)), (.pv (.int .i32 0)), (.pv (.int .i32 0)), (.pv (.sl .nil 0 [])), (.pv (.int .i64 0)), (.pv (.int .i64 0)), (.pv (.str []))] [])), (sW (.store 7 (T
  6) (T 28))), (oP 7 (.mv (tI 20)))])) (.tr (rl [6, 0]) false .ret)) .skip))) (.seq (.tr (rl [1, 0, 0, 2, 2]) false (.region false [(oR 29 (.load true 7 (T
  3))), (oW 9 (.alloc [(.pv (.int .i64 0)), (.pv (.int .i32 0)), (.pv (.int .i32 0)), (.pv (.sl .nil 0 [])), (.pv (.int .i64 0)), (.pv (.int .i64 0)), (.pv
  (.str []))])), (sW (.store 7 (T 9) (T 29)))])) (.seq (.tr (rl [6, 2]) false (.region true [(oP 30 (.mv (T 1))), (oP 31 (.mv (T 2))), (oP 32 (.faddr 0 (T 3))),
  (oR 33 (.loadR false 1 (T 32) (T 3))), (oP 34 (.faddr 3 (T 3))), (oR 35 (.load false 1 (T 34))), (oP 37 (.faddr 0 (T 9))), (oW 36 (.callM (.lit (.c (.fn 85
  []))) [(T 35)])), (sW (.storeO 1 (T 37) (T 30) (T 3))), (oP 38 (.faddr 1 (T 9))), (sW (.storeO 1 (T 38) (T 31) (T 3))), (oP 39 (.faddr 4 (T 9))), (sW (.store
  1 (T 39) (T 33))), (oP 40 (.faddr 3 (T 9))), (sW (.store 1 (T 40) (T 36)))])) (.seq (.seq (.tr (rl [6, 2, 33, 0]) false (.region false [(oP 41 (.faddr 3 (T
  9))), (oR 42 (.load false 1 (T 41))), (oP 43 (.len (T 42))), (oP 44 (.mv (tI 0)))])) (.tr (rl [6, 2]) false (.block 0 (.loop (rl [6, 2, 33, 0]) xf38_l0))))
  (.seq (.seq (.tr (rl [6, 2, 1]) false (.region false [(oR 62 (.load true 7 (T 9))), (oW 63 (.call true [] (.lit (.c (.fn 37 []))) [(T 62)])), (oP 11 (.mv (T
  63)))])) (.seq (.tr (rl [6, 2, 1, 53]) false (.region false [(oP 64 (.mv (T 11))), (oP 65 (.bin .neq (T 64) (tI 0)))])) (.tr (rl [6, 0, 1]) false (.cond (T
  65) (.seq (.tr (rl [6, 0]) false (.region false [(oP 66 (.build [(.pv (.int .i64 0)), (.pv (.int .i32 0)), (.pv (.int .i32 0)), (.pv (.sl .nil 0 [])), (.pv
  (.int .i64 0)), (.pv (.int .i64 0)), (.pv (.str []))] [])), (oP 67 (.mv (T 11))), (sW (.store 7 (T 6) (T 66))), (oP 7 (.mv (T 67)))])) (.tr (rl [6, 0]) false
  .ret)) .skip)))) (.seq (.tr (rl [6, 0]) false (.region false [(oR 68 (.load true 7 (T 9))), (sW (.store 7 (T 6) (T 68))), (oP 7 (.mv (tI 0)))])) (.tr (rl [6,
  0]) false .ret))))))))))
theorem xf38_ok : cmpFunc Go.Proofs.Tryd.prog 38 ((.two (.tr (rl [1, 0, 0, 2]) false .no) (.two (.two (.tr (rl [1, 0, 0, 2, 1]) false (.ops [{}, { cls := some .p }])) (.two (.tr (rl [1, 0, 0, 2, 1, 6]) false .no) (.tr (rl [1, 0, 0, 2, 0]) false (.two (.two (.tr (rl [6, 0]) false .no) (.tr (rl [6, 0]) false .no)) .no)))) (.two (.two (.tr (rl [1, 0, 0, 2, 20]) false .no) (.tr (rl [1, 0, 0, 2, 0]) false (.two (.two (.tr (rl [6, 0]) false .no) (.tr (rl [6, 0]) false .no)) .no))) (.two (.tr (rl [1, 0, 0, 2, 2]) false .no) (.two (.tr (rl [6, 2]) false (.draw [0, 1, 2, 3, 4, 5, 7, 6, 8, 9, 10, 11, 12, 13, 14] [{}, {}, {}, { root := some 3 }, {}, {}, { own := true }, {}, { root := some 3 }, {}, { root := some 3 }])) (.two (.two (.tr (rl [6, 2, 33, 0]) false .no) (.tr (rl [6, 2]) false (.loop (rl [6, 2, 33, 0]) (.two .no (.two (.tr (rl [6, 2, 33, 0]) false (.two .no (.tr (rl [6, 2]) false .no))) (.two (.tr (rl [6, 2, 33, 0]) false (.two (.tr (rl [6, 2, 0, 32, 0]) false .no) (.tr (rl [6, 2, 33, 0]) false (.draw [0, 1, 2, 3, 4, 5, 6, 7, 8, 9, 10, 11, 12, 13, 14] [])))) (.tr (rl [6, 2, 33, 0]) false .no))))))) (.two (.two (.tr (rl [6, 2, 1]) false (.ops [{}, { fz := true }])) (.two (.tr (rl [6, 2, 1, 53]) false .no) (.tr (rl [6, 0, 1]) false (.two (.two (.tr (rl [6, 0]) false .no) (.tr (rl [6, 0]) false .no)) .no)))) (.two (.tr (rl [6, 0]) false .no) (.tr (rl [6, 0]) false .no)))))))))) = some xf38 := by kernel_rfl
def xf40 : XFunc :=
(.mk 13 [(.tmp 6), (.tmp 7)] (.seq (.tr (rl [3, 0, 0]) false (.region false [(oW 3 (.box (T 0) 7)), (oW 4 (.box (T 1) 1)), (oW 5 (.box (T 2) 1)), (oP 6 (.mv (tI
  0))), (oP 7 (.mv (tI 0)))])) (.seq (.tr (rl [6, 0]) false (.region false [(oR 8 (.load true 7 (T 3))), (oP 9 (.mkfn 88 [(T 4), (T 5)])), (oW 10 (.call false
  [] (.lit (.c (.fn 87 []))) [(T 8), (T 9)])), (oP 11 (.extr 0 (T 10))), (oP 12 (.extr 1 (T 10))), (oP 6 (.mv (T 11))), (oP 7 (.mv (T 12)))])) (.tr (rl [6, 0])
  false .ret))))
theorem xf40_ok : cmpFunc Go.Proofs.Tryd.prog 40 ((.two (.tr (rl [3, 0, 0]) false .no) (.two (.tr (rl [6, 0]) false .no) (.tr (rl [6, 0]) false .no)))) = some xf40 := by kernel_rfl
def xf43 : XFunc :=
(.mk 52 [(.tmp 4)] (.seq (.tr (rl [2, 0]) false (.region false [(oW 2 (.box (T 0) 7)), (oW 3 (.box (T 1) 7)), (oP 4 (.mv (.lit (.c (.pv (.bool false))))))]))
  (.seq (.tr (rl [4]) false (.region false [(oP 5 (.faddr 3 (T 2))), (oR 6 (.load false 1 (T 5))), (oP 7 (.faddr 3 (T 3))), (oR 8 (.load false 1 (T 7))), (oP 9
  (.call false [] (.lit (.c (.fn 96 []))) [(T 6), (T 8)])), (oP 10 (.mv (T 9))), (.mk (some 11) (.faddr 0 (T 2)) (some (10, true)) .p), (.mk (some 12) (.load
  false 1 (T 11)) (some (10, true)) .r), (.mk (some 13) (.faddr 0 (T 3)) (some (10, true)) .p), (.mk (some 14) (.load false 1 (T 13)) (some (10, true)) .r),
  (.mk (some 15) (.bin .eql (T 12) (T 14)) (some (10, true)) .p), (oP 16 (.pick (T 10) (T 15) (.lit (.c (.pv (.bool false)))))), (oP 17 (.mv (T 16))), (.mk
  (some 18) (.faddr 1 (T 2)) (some (17, true)) .p), (.mk (some 19) (.load false 1 (T 18)) (some (17, true)) .r), (.mk (some 20) (.faddr 1 (T 3)) (some (17,
  true)) .p), (.mk (some 21) (.load false 1 (T 20)) (some (17, true)) .r), (.mk (some 22) (.bin .eql (T 19) (T 21)) (some (17, true)) .p), (oP 23 (.pick (T 17)
  (T 22) (.lit (.c (.pv (.bool false)))))), (oP 24 (.mv (T 23))), (.mk (some 25) (.faddr 2 (T 2)) (some (24, true)) .p), (.mk (some 26) (.load false 1 (T 25))
  (some (24, true)) .r), (.mk (some 27) (.faddr 2 (T 3)) (some (24, true)) .p), (.mk (some 28) (.load false 1 (T 27)) (some (24, true)) .r), (.mk (some 29)
  (.bin .eql (T 26) (T 28)) (some (24, true)) .p), (oP 30 (.pick (T 24) (T 29) (.lit (.c (.pv (.bool false)))))), (oP 31 (.mv (T 30))), (.mk (some 32) (.faddr 4
  (T 2)) (some (31, true)) .p), (.mk (some 33) (.load false 1 (T 32)) (some (31, true)) .r), (.mk (some 34) (.faddr 4 (T 3)) (some (31, true)) .p), (.mk (some
  35) (.load false 1 (T 34)) (some (31, true)) .r), (.mk (some 36) (.bin .eql (T 33) (T 35)) (some (31, true)) .p), (oP 37 (.pick (T 31) (T 36) (.lit (.c (.pv
  (.bool false)))))), (oP 38 (.mv (T 37))), (.mk (some 39) (.faddr 5 (T 2)) (some (38, true)) .p), (.mk (some 40) (.load false 1 (T 39)) (some (38, true)) .r),
  (.mk (some 41) (.faddr 5 (T 3)) (some (38, true)) .p), (.mk (some 42) (.load false 1 (T 41)) (some (38, true)) .r), (.mk (some 43) (.bin .eql (T 40) (T 42))
  (some (38, true)) .p), (oP 44 (.pick (T 38) (T 43) (.lit (.c (.pv (.bool false)))))), (oP 45 (.mv (T 44))), (.mk (some 46) (.faddr 6 (T 2)) (some (45, true))
  .p), (.mk (some 47) (.load false 1 (T 46)) (some (45, true)) .r), (.mk (some 48) (.faddr 6 (T 3)) (some (45, true)) .p), (.mk (some 49) (.load false 1 (T 48))
  (some (45, true)) .r), (.mk (some 50) (.bin .eql (T 47) (T 49)) (some (45, true)) .p), (oP 51 (.pick (T 45) (T 50) (.lit (.c (.pv (.bool false)))))), (oP 4
  (.mv (T 51)))])) (.tr (rl [4]) false .ret))))
theorem xf43_ok : cmpFunc Go.Proofs.Tryd.prog 43 ((.two (.tr (rl [2, 0]) false .no) (.two (.tr (rl [4]) false (.ops [{}, {}, {}, {}, { cls := some .p }])) (.tr (rl [4]) false .no)))) = some xf43 := by kernel_rfl
def xf58 : XFunc :=
(.mk 21 [(.cell 8 true 7)] (.seq (.region false [(oW 8 (.alloc [(.pv (.int .i64 0)), (.pv (.int .i32 0)), (.pv (.int .i32 0)), (.pv (.sl .nil 0 [])), (.pv (.int
  .i64 0)), (.pv (.int .i64 0)), (.pv (.str []))]))]) (.seq (.tr (rl [8]) false (.region false [(oP 9 (.mv (T 0))), (oP 10 (.mv (T 1))), (oP 11 (.mv (T 2))),
  (oP 12 (.mv (T 3))), (oP 13 (.build [(.pv (.int .i64 0)), (.pv (.int .i64 0))] [(1, (1, (T 12)))])), (oP 14 (.build [(.pv (.int .i64 0)), (.pv (.int .i64 0)),
  (.pv (.int .i64 0))] [(0, (1, (tI 2))), (1, (2, (T 13)))])), (oP 15 (.mv (T 3))), (oP 16 (.un .neg (T 15))), (oP 17 (.build [(.pv (.int .i64 0)), (.pv (.int
  .i64 0))] [(1, (1, (T 16)))])), (oP 18 (.build [(.pv (.int .i64 0)), (.pv (.int .i64 0)), (.pv (.int .i64 0))] [(0, (1, (tI 1))), (1, (2, (T 17)))])), (oP 19
  (.buildSl [(.pv (.int .i64 0)), (.pv (.int .i64 0)), (.pv (.int .i64 0))] 2 3 [(0, (3, (T 14))), (3, (3, (T 18)))])), (oP 20 (.build [(.pv (.int .i64 0)),
  (.pv (.int .i32 0)), (.pv (.int .i32 0)), (.pv (.sl .nil 0 [])), (.pv (.int .i64 0)), (.pv (.int .i64 0)), (.pv (.str []))] [(0, (1, (T 9))), (1, (1, (T
  10))), (2, (1, (T 11))), (3, (1, (T 19)))])), (sW (.store 7 (T 8) (T 20)))])) (.tr (rl [8]) false .ret))))
theorem xf58_ok : cmpFunc Go.Proofs.Tryd.prog 58 ((.two .no (.two (.tr (rl [8]) false .no) (.tr (rl [8]) false .no)))) = some xf58 := by kernel_rfl
def xf59 : XFunc :=
(.mk 73 [(.tmp 6)] (.seq (.tr (rl [0, 0, 3]) false (.region false [(oW 5 (.box (T 2) 7)), (oP 6 (.mv (tI 0)))])) (.seq (.tr (rl [0, 0, 3, 1]) false (.region
  false [(oP 11 (.mv (T 0))), (oP 12 (.len (T 11))), (oP 7 (.mv (T 12)))])) (.seq (.tr (rl [0, 0, 3, 0]) false (.block 0 (.seq (.tr (rl [0, 0, 3, 1, 5]) false
  (.region false [(oP 14 (.mv (T 7))), (oP 15 (.bin .eql (T 14) (tI 400))), (oP 13 (.mv (T 15)))])) (.tr (rl [0, 0, 3, 0]) false (.cond (T 13) (.seq (.region
  false [(oP 6 (.mv (tI 6)))]) (.tr (rl [6]) false .ret)) (.seq (.tr (rl [0, 0, 3, 1, 8]) false (.region false [(oP 17 (.faddr 0 (T 5))), (oR 18 (.load false 1
  (T 17))), (oP 19 (.mv (T 7))), (oP 20 (.bin .add (T 19) (tI 1))), (oP 21 (.bin .neq (T 18) (T 20))), (oP 16 (.mv (T 21)))])) (.tr (rl [0, 0, 3, 0]) false
  (.cond (T 16) (.seq (.region false [(oP 6 (.mv (tI 25)))]) (.tr (rl [6]) false .ret)) (.seq (.tr (rl [0, 0, 3, 16]) false (.region true [(oP 23 (.mv (T 7))),
  (oP 24 (.bin .gtr (T 23) (tI 0))), (oP 25 (.mv (T 24))), (.mk (some 26) (.faddr 1 (T 5)) (some (25, true)) .p), (.mk (some 27) (.load false 1 (T 26)) (some
  (25, true)) .r), (.mk (some 28) (.mv (T 0)) (some (25, true)) .p), (.mk (some 29) (.mv (T 7)) (some (25, true)) .p), (.mk (some 30) (.bin .sub (T 29) (tI 1))
  (some (25, true)) .p), (.mk (some 31) (.iaddrS 7 (T 28) (T 30)) (some (25, true)) .p), (.mk (some 32) (.faddr 1 (T 31)) (some (25, true)) .p), (.mk (some 33)
  (.load false 1 (T 32)) (some (25, true)) .r), (.mk (some 34) (.bin .lss (T 27) (T 33)) (some (25, true)) .p), (oP 35 (.pick (T 25) (T 34) (.lit (.c (.pv
  (.bool false)))))), (oP 22 (.mv (T 35)))])) (.tr (rl [0, 0, 3, 0]) false (.cond (T 22) (.seq (.region false [(oP 6 (.mv (tI 20)))]) (.tr (rl [6]) false .ret))
  (.seq (.tr (rl [0, 0, 3, 30]) false (.region false [(oP 37 (.faddr 4 (T 5))), (oR 38 (.load false 1 (T 37))), (oP 39 (.bin .eql (T 38) (tI 0))), (oP 36 (.mv
  (T 39)))])) (.tr (rl [0, 0, 3, 0]) false (.cond (T 36) (.seq (.region false [(oP 6 (.mv (tI 0)))]) (.tr (rl [6]) false .ret)) .skip)))))))))))))) (.seq (.tr
  (rl [1, 3, 2]) false (.region false [(oP 40 (.mv (T 0))), (oP 41 (.faddr 4 (T 5))), (oR 42 (.load false 1 (T 41))), (oP 43 (.bin .sub (T 42) (tI 1))), (oP 44
  (.iaddrS 7 (T 40) (T 43))), (oR 45 (.load true 7 (T 44))), (oW 8 (.alloc [(.pv (.int .i64 0)), (.pv (.int .i32 0)), (.pv (.int .i32 0)), (.pv (.sl .nil 0
  [])), (.pv (.int .i64 0)), (.pv (.int .i64 0)), (.pv (.str []))])), (sW (.store 7 (T 8) (T 45)))])) (.seq (.tr (rl [1, 3, 2, 0, 0]) false (.region false [(oR
  47 (.load true 7 (T 8))), (oP 48 (.faddr 0 (T 5))), (oR 49 (.load false 1 (T 48))), (oP 50 (.faddr 1 (T 5))), (oR 51 (.load false 1 (T 50))), (oP 52 (.call
  false [] (.lit (.c (.fn 38 []))) [(T 47), (T 49), (T 51)])), (oP 46 (.mv (T 52))), (oP 53 (.extr 0 (T 46))), (oP 54 (.extr 1 (T 46))), (oW 9 (.alloc [(.pv
  (.int .i64 0)), (.pv (.int .i32 0)), (.pv (.int .i32 0)), (.pv (.sl .nil 0 [])), (.pv (.int .i64 0)), (.pv (.int .i64 0)), (.pv (.str []))])), (sW (.store 7
  (T 9) (T 53))), (oP 10 (.mv (T 54)))])) (.seq (.tr (rl [6]) false (.block 1 (.seq (.tr (rl [1, 3, 3, 0, 44]) false (.region false [(oP 56 (.faddr 4 (T 8))),
  (oR 57 (.load false 1 (T 56))), (oP 58 (.bin .gtr (T 57) (tI 0))), (oP 55 (.mv (T 58)))])) (.tr (rl [6]) false (.cond (T 55) (.seq (.region false [(oP 6 (.mv
  (tI 27)))]) (.tr (rl [6]) false .ret)) (.seq (.tr (rl [5, 3, 0, 48]) false (.region false [(oP 60 (.mv (T 1))), (oP 61 (.faddr 4 (T 5))), (oR 62 (.load false
  1 (T 61))), (oR 63 (.mlook (.bool false) false (T 60) (T 62))), (oP 59 (.mv (T 63)))])) (.tr (rl [6]) false (.cond (T 59) (.seq (.region false [(oP 6 (.mv (tI
  23)))]) (.tr (rl [6]) false .ret)) (.seq (.tr (rl [64]) false (.region false [(oP 65 (.mv (T 10))), (oP 66 (.bin .neq (T 65) (tI 0))), (oP 67 (.mv (T 66))),
  (.mk (some 68) (.load true 7 (T 9)) (some (67, false)) .r), (.mk (some 69) (.load true 7 (T 5)) (some (67, false)) .r), (.mk (some 70) (.call false [] (.lit
  (.c (.fn 43 []))) [(T 68), (T 69)]) (some (67, false)) .p), (.mk (some 71) (.un .not (T 70)) (some (67, false)) .p), (oP 72 (.pick (T 67) (.lit (.c (.pv
  (.bool true)))) (T 71))), (oP 64 (.mv (T 72)))])) (.tr (rl [6]) false (.cond (T 64) (.seq (.region false [(oP 6 (.mv (tI 3)))]) (.tr (rl [6]) false .ret))
  .skip))))))))))) (.seq (.region false [(oP 6 (.mv (tI 0)))]) (.tr (rl [6]) false .ret)))))))))
theorem xf59_ok : cmpFunc Go.Proofs.Tryd.prog 59 ((.two (.tr (rl [0, 0, 3]) false .no) (.two (.tr (rl [0, 0, 3, 1]) false .no) (.two (.tr (rl [0, 0, 3, 0]) false (.two (.tr (rl [0, 0, 3, 1, 5]) false .no) (.tr (rl [0, 0, 3, 0]) false (.two (.two .no (.tr (rl [6]) false .no)) (.two (.tr (rl [0, 0, 3, 1, 8]) false .no) (.tr (rl [0, 0, 3, 0]) false (.two (.two .no (.tr (rl [6]) false .no)) (.two (.tr (rl [0, 0, 3, 16]) false (.draw [0, 1, 2, 3, 4, 5, 6, 7, 8, 9, 10, 11, 12, 13] [])) (.tr (rl [0, 0, 3, 0]) false (.two (.two .no (.tr (rl [6]) false .no)) (.two (.tr (rl [0, 0, 3, 30]) false .no) (.tr (rl [0, 0, 3, 0]) false (.two (.two .no (.tr (rl [6]) false .no)) .no))))))))))))) (.two (.tr (rl [1, 3, 2]) false .no) (.two (.tr (rl [1, 3, 2, 0, 0]) false (.ops [{}, {}, {}, {}, {}, { cls := some .p }])) (.two (.tr (rl [6]) false (.two (.tr (rl [1, 3, 3, 0, 44]) false .no) (.tr (rl [6]) false (.two (.two .no (.tr (rl [6]) false .no)) (.two (.tr (rl [5, 3, 0, 48]) false .no) (.tr (rl [6]) false (.two (.two .no (.tr (rl [6]) false .no)) (.two (.tr (rl [64]) false (.ops [{}, {}, {}, {}, {}, { cls := some .p }])) (.tr (rl [6]) false (.two (.two .no (.tr (rl [6]) false .no)) .no)))))))))) (.two .no (.tr (rl [6]) false .no))))))))) = some xf59 := by kernel_rfl
def xf60_l0 : XCode :=
(.seq (.region false [(oP 10 (.bin .lss (T 9) (T 8)))]) (.seq (.tr (rl [3, 3, 0, 0]) false (.cond (T 10) .skip (.tr (rl [3]) false (.exit 0)))) (.seq (.tr (rl
  [3, 3, 0, 0]) false (.block 1 (.seq (.tr (rl [3, 1, 1, 0, 0]) false (.region false [(oP 11 (.iaddrS 7 (T 7) (T 9))), (oR 12 (.load true 7 (T 11))), (oW 5
  (.alloc [(.pv (.int .i64 0)), (.pv (.int .i32 0)), (.pv (.int .i32 0)), (.pv (.sl .nil 0 [])), (.pv (.int .i64 0)), (.pv (.int .i64 0)), (.pv (.str []))])),
  (sW (.store 7 (T 5) (T 12)))])) (.tr (rl [3, 3, 0, 0]) false (.region false [(oP 13 (.mv (T 3))), (oP 14 (.faddr 4 (T 5))), (oR 15 (.load false 1 (T 14))),
  (sW (.mupd (T 13) (T 15) (.lit (.c (.pv (.bool true))))))]))))) (.tr (rl [3, 3, 0, 0]) false (.region false [(oP 16 (.bin .add (T 9) (tI 1))), (oP 9 (.mv (T
  16)))])))))
def xf60 : XFunc :=
(.mk 18 [(.tmp 2)] (.seq (.tr (rl [0]) false (.region false [(oP 2 (.mv (.lit (.c .nilm))))])) (.seq (.tr (rl [0, 2]) false (.region false [(.mk (some 6) .mkmap
  none .w), (oP 3 (.mv (T 6)))])) (.seq (.seq (.tr (rl [3, 3, 0, 0]) false (.region false [(oP 7 (.mv (T 0))), (oP 8 (.len (T 7))), (oP 9 (.mv (tI 0)))])) (.tr
  (rl [3]) false (.block 0 (.loop (rl [3, 3, 0, 0]) xf60_l0)))) (.seq (.tr (rl [2]) false (.region false [(oP 17 (.mv (T 3))), (oP 2 (.mv (T 17)))])) (.tr (rl
  [2]) false .ret))))))
theorem xf60_ok : cmpFunc Go.Proofs.Tryd.prog 60 ((.two (.tr (rl [0]) false .no) (.two (.tr (rl [0, 2]) false .no) (.two (.two (.tr (rl [3, 3, 0, 0]) false .no) (.tr (rl [3]) false (.loop (rl [3, 3, 0, 0]) (.two .no (.two (.tr (rl [3, 3, 0, 0]) false (.two .no (.tr (rl [3]) false .no))) (.two (.tr (rl [3, 3, 0, 0]) false (.two (.tr (rl [3, 1, 1, 0, 0]) false .no) (.tr (rl [3, 3, 0, 0]) false .no))) (.tr (rl [3, 3, 0, 0]) false .no))))))) (.two (.tr (rl [2]) false .no) (.tr (rl [2]) false .no)))))) = some xf60 := by kernel_rfl
def xf61 : XFunc :=
(.mk 3 [(.tmp 2)] (.seq (.tr [] false (.region false [(oW 1 (.box (T 0) 7)), (oP 2 (.mv (.lit (.c (.pv (.bool false))))))])) (.seq (.region false [(oP 2 (.mv
  (.lit (.c (.pv (.bool true))))))]) (.tr (rl [2]) false .ret))))
theorem xf61_ok : cmpFunc Go.Proofs.Tryd.prog 61 ((.two (.tr [] false .no) (.two .no (.tr (rl [2]) false .no)))) = some xf61 := by kernel_rfl
def xf62_l0 : XCode :=
(.seq (.region false [(oP 11 (.bin .lss (T 10) (T 9)))]) (.seq (.tr (rl [1, 3, 2, 0, 0]) false (.cond (T 11) .skip (.tr (rl [5]) false (.exit 0)))) (.seq (.tr
  (rl [1, 3, 2, 0, 0]) false (.block 1 (.seq (.tr (rl [1, 3, 1, 0, 0, 0]) false (.region false [(oP 12 (.iaddrS 7 (T 8) (T 10))), (oR 13 (.load true 7 (T 12))),
  (oW 7 (.alloc [(.pv (.int .i64 0)), (.pv (.int .i32 0)), (.pv (.int .i32 0)), (.pv (.sl .nil 0 [])), (.pv (.int .i64 0)), (.pv (.int .i64 0)), (.pv (.str
  []))])), (sW (.store 7 (T 7) (T 13)))])) (.seq (.tr (rl [1, 3, 1, 0, 0, 0, 5]) false (.region false [(oP 14 (.mv (T 1))), (oR 15 (.load true 7 (T 7))), (oW 16
  (.call false [] (T 14) [(T 15)]))])) (.tr (rl [1, 3, 2, 0, 0]) false (.cond (T 16) (.tr (rl [1, 3, 2, 0, 0]) false (.region false [(oP 17 (.mv (T 5))), (oR 18
  (.load true 7 (T 7))), (oP 19 (.call false [] (.lit (.c (.fn 63 []))) [(T 18)])), (oP 20 (.buildSl [(.pv (.int .i64 0)), (.pv (.int .i32 0)), (.pv (.int .i32
  0)), (.pv (.sl .nil 0 [])), (.pv (.int .i64 0)), (.pv (.int .i64 0)), (.pv (.str []))] 1 7 [(0, (7, (T 19)))])), (oW 21 (.app 7 72 (T 17) (T 20))), (oP 5 (.mv
  (T 21)))])) .skip)))))) (.tr (rl [1, 3, 2, 0, 0]) false (.region false [(oP 22 (.bin .add (T 10) (tI 1))), (oP 10 (.mv (T 22)))])))))
def xf62 : XFunc :=
(.mk 24 [(.tmp 4)] (.seq (.tr (rl [0, 0]) false (.region false [(oP 4 (.mv (.lit (.c (.pv (.sl .nil 0 []))))))])) (.seq (.region false [(oP 5 (.mv (.lit (.c
  (.pv (.sl .nil 0 []))))))]) (.seq (.seq (.tr (rl [1, 3, 2, 0, 0]) false (.region false [(oP 8 (.mv (T 0))), (oP 9 (.len (T 8))), (oP 10 (.mv (tI 0)))])) (.tr
  (rl [5]) false (.block 0 (.loop (rl [1, 3, 2, 0, 0]) xf62_l0)))) (.seq (.tr (rl [4]) false (.region false [(oP 23 (.mv (T 5))), (oP 4 (.mv (T 23)))])) (.tr
  (rl [4]) false .ret))))))
theorem xf62_ok : cmpFunc Go.Proofs.Tryd.prog 62 ((.two (.tr (rl [0, 0]) false .no) (.two .no (.two (.two (.tr (rl [1, 3, 2, 0, 0]) false .no) (.tr (rl [5]) false (.loop (rl [1, 3, 2, 0, 0]) (.two .no (.two (.tr (rl [1, 3, 2, 0, 0]) false (.two .no (.tr (rl [5]) false .no))) (.two (.tr (rl [1, 3, 2, 0, 0]) false (.two (.tr (rl [1, 3, 1, 0, 0, 0]) false .no) (.two (.tr (rl [1, 3, 1, 0, 0, 0, 5]) false .no) (.tr (rl [1, 3, 2, 0, 0]) false (.two (.tr (rl [1, 3, 2, 0, 0]) false (.ops [{}, {}, { cls := some .p }])) .no))))) (.tr (rl [1, 3, 2, 0, 0]) false .no))))))) (.two (.tr (rl [4]) false .no) (.tr (rl [4]) false .no)))))) = some xf62 := by kernel_rfl
def xf63 : XFunc :=
(.mk 8 [(.cell 2 true 7)] (.seq (.tr (rl [1, 0]) false (.region false [(oW 1 (.box (T 0) 7)), (oW 2 (.alloc [(.pv (.int .i64 0)), (.pv (.int .i32 0)), (.pv
  (.int .i32 0)), (.pv (.sl .nil 0 [])), (.pv (.int .i64 0)), (.pv (.int .i64 0)), (.pv (.str []))]))])) (.seq (.tr (rl [1, 0]) false (.region false [(oP 3
  (.faddr 3 (T 1))), (oR 4 (.load false 1 (T 3))), (oP 5 (.call false [] (.lit (.c (.fn 85 []))) [(T 4)])), (oP 6 (.faddr 3 (T 1))), (sW (.store 1 (T 6) (T
  5)))])) (.seq (.tr (rl [2]) false (.region false [(oR 7 (.load true 7 (T 1))), (sW (.store 7 (T 2) (T 7)))])) (.tr (rl [2]) false .ret)))))
theorem xf63_ok : cmpFunc Go.Proofs.Tryd.prog 63 ((.two (.tr (rl [1, 0]) false .no) (.two (.tr (rl [1, 0]) false (.ops [{}, {}, { cls := some .p }])) (.two (.tr (rl [2]) false .no) (.tr (rl [2]) false .no))))) = some xf63 := by kernel_rfl
def xf64 : XFunc :=
(.mk 13 [(.tmp 4), (.tmp 5)] (.seq (.tr (rl [1, 0]) false (.region false [(oW 2 (.box (T 0) 1)), (oP 4 (.mv (.lit (.c (.pv (.sl .nil 0 [])))))), (oP 5 (.mv (tI
  0)))])) (.seq (.seq (.tr (rl [1, 0, 5]) false (.region false [(oR 6 (.load true 1 (T 2))), (oP 7 (.call false [] (.lit (.c (.fn 25 []))) [(T 6)])), (oP 8 (.un
  .not (T 7)))])) (.tr (rl [1, 0, 1, 0]) false (.cond (T 8) (.seq (.region false [(oP 4 (.mv (.lit (.c (.pv (.sl .nil 0 [])))))), (oP 5 (.mv (tI 1)))]) (.tr (rl
  [4, 0]) false .ret)) .skip))) (.seq (.tr (rl [4, 0]) false (.region false [(oP 9 (.faddr 0 (T 2))), (oR 10 (.load false 1 (T 9))), (oP 11 (.mv (T 1))), (oW 12
  (.call false [] (.lit (.c (.fn 62 []))) [(T 10), (T 11)])), (oP 4 (.mv (T 12))), (oP 5 (.mv (tI 0)))])) (.tr (rl [4, 0]) false .ret)))))
theorem xf64_ok : cmpFunc Go.Proofs.Tryd.prog 64 ((.two (.tr (rl [1, 0]) false .no) (.two (.two (.tr (rl [1, 0, 5]) false (.ops [{}, { cls := some .p }])) (.tr (rl [1, 0, 1, 0]) false (.two (.two .no (.tr (rl [4, 0]) false .no)) .no))) (.two (.tr (rl [4, 0]) false .no) (.tr (rl [4, 0]) false .no))))) = some xf64 := by kernel_rfl
def xf65 : XFunc :=
(.mk 8 [(.tmp 3)] (.seq (.tr (rl [1, 0]) false (.region false [(oW 2 (.box (T 0) 7)), (oP 3 (.mv (.lit (.c (.pv (.bool false))))))])) (.seq (.tr (rl [3]) false
  (.region false [(oP 4 (.faddr 1 (T 2))), (oR 5 (.load false 1 (T 4))), (oR 6 (.load false 1 (T 1))), (oP 7 (.bin .leq (T 5) (T 6))), (oP 3 (.mv (T 7)))]))
  (.tr (rl [3]) false .ret))))
theorem xf65_ok : cmpFunc Go.Proofs.Tryd.prog 65 ((.two (.tr (rl [1, 0]) false .no) (.two (.tr (rl [3]) false .no) (.tr (rl [3]) false .no)))) = some xf65 := by kernel_rfl
def xf66 : XFunc :=
(.mk 15 [(.tmp 4)] (.seq (.tr (rl [1, 0, 0]) false (.region false [(oW 3 (.box (T 0) 7)), (oP 4 (.mv (.lit (.c (.pv (.bool false))))))])) (.seq (.tr (rl [4])
  false (.region false [(oP 5 (.faddr 1 (T 3))), (oR 6 (.load false 1 (T 5))), (oR 7 (.load false 1 (T 1))), (oP 8 (.bin .leq (T 6) (T 7))), (oP 9 (.mv (T 8))),
  (.mk (some 10) (.faddr 2 (T 3)) (some (9, true)) .p), (.mk (some 11) (.load false 1 (T 10)) (some (9, true)) .r), (.mk (some 12) (.load false 1 (T 2)) (some
  (9, true)) .r), (.mk (some 13) (.bin .leq (T 11) (T 12)) (some (9, true)) .p), (oP 14 (.pick (T 9) (T 13) (.lit (.c (.pv (.bool false)))))), (oP 4 (.mv (T
  14)))])) (.tr (rl [4]) false .ret))))
theorem xf66_ok : cmpFunc Go.Proofs.Tryd.prog 66 ((.two (.tr (rl [1, 0, 0]) false .no) (.two (.tr (rl [4]) false .no) (.tr (rl [4]) false .no)))) = some xf66 := by kernel_rfl
def xf67 : XFunc :=
(.mk 6 [(.tmp 2)] (.seq (.tr (rl [1]) false (.region false [(oW 1 (.box (T 0) 7)), (oP 2 (.mv (.lit (.c (.pv (.bool false))))))])) (.seq (.tr (rl [2]) false
  (.region false [(oP 3 (.faddr 5 (T 1))), (oR 4 (.load false 1 (T 3))), (oP 5 (.bin .eql (T 4) (tI 0))), (oP 2 (.mv (T 5)))])) (.tr (rl [2]) false .ret))))
theorem xf67_ok : cmpFunc Go.Proofs.Tryd.prog 67 ((.two (.tr (rl [1]) false .no) (.two (.tr (rl [2]) false .no) (.tr (rl [2]) false .no)))) = some xf67 := by kernel_rfl
def xf68 : XFunc :=
(.mk 8 [(.tmp 3)] (.seq (.tr (rl [1, 0]) false (.region false [(oW 2 (.box (T 0) 7)), (oP 3 (.mv (.lit (.c (.pv (.bool false))))))])) (.seq (.tr (rl [3]) false
  (.region false [(oP 4 (.faddr 0 (T 2))), (oR 5 (.load false 1 (T 4))), (oR 6 (.load false 1 (T 1))), (oP 7 (.bin .gtr (T 5) (T 6))), (oP 3 (.mv (T 7)))]))
  (.tr (rl [3]) false .ret))))
theorem xf68_ok : cmpFunc Go.Proofs.Tryd.prog 68 ((.two (.tr (rl [1, 0]) false .no) (.two (.tr (rl [3]) false .no) (.tr (rl [3]) false .no)))) = some xf68 := by kernel_rfl
def xf69_l0 : XCode :=
(.seq (.seq (.tr (rl [0, 0, 2, 0, 0, 10]) false (.region false [(oP 14 (.mv (T 6))), (oP 15 (.mv (T 0))), (oP 16 (.len (T 15))), (oP 17 (.bin .lss (T 14) (T
  16)))])) (.tr (rl [0, 0, 2, 0, 0]) false (.cond (T 17) .skip (.tr (rl [4, 0]) false (.exit 0))))) (.seq (.tr (rl [0, 0, 2, 0, 0]) false (.block 1 (.seq (.tr
  (rl [0, 0, 2, 0, 0, 20]) false (.region true [(oP 20 (.mv (T 1))), (oP 21 (.mv (T 0))), (oP 22 (.mv (T 6))), (oP 23 (.iaddrS 7 (T 21) (T 22))), (oR 24 (.load
  true 7 (T 23))), (oR 25 (.load true 7 (T 5))), (oW 26 (.call false [] (T 20) [(T 24), (T 25)])), (oP 27 (.bin .lss (T 26) (tI 0)))])) (.tr (rl [0, 0, 2, 0,
  0]) false (.cond (T 27) (.tr (rl [0, 0, 2, 0, 0]) false (.region false [(oP 28 (.mv (T 0))), (oP 29 (.mv (T 6))), (oP 30 (.iaddrS 7 (T 28) (T 29))), (oR 31
  (.load true 7 (T 30))), (sW (.store 7 (T 5) (T 31)))])) .skip))))) (.tr (rl [0, 0, 2, 0, 0]) false (.region false [(oP 18 (.mv (T 6))), (oP 19 (.bin .add (T
  18) (tI 1))), (oP 6 (.mv (T 19)))]))))
def xf69 : XFunc :=
(.mk 33 [(.cell 4 true 7)] (.seq (.region false [(oW 4 (.alloc [(.pv (.int .i64 0)), (.pv (.int .i32 0)), (.pv (.int .i32 0)), (.pv (.sl .nil 0 [])), (.pv (.int
  .i64 0)), (.pv (.int .i64 0)), (.pv (.str []))]))]) (.seq (.seq (.tr (rl [0, 0, 2, 4]) false (.region false [(oP 7 (.mv (T 0))), (oP 8 (.len (T 7))), (oP 9
  (.bin .lss (T 8) (tI 1)))])) (.tr (rl [0, 0, 2]) false (.cond (T 9) (.tr (rl [0, 0, 2]) false (.region false [(.mk (some 10) .stuck none .p), (.mk none .stuck
  none .p)])) .skip))) (.seq (.tr (rl [0, 0, 2, 0]) false (.region false [(oP 11 (.mv (T 0))), (oP 12 (.iaddrS 7 (T 11) (tI 0))), (oR 13 (.load true 7 (T 12))),
  (oW 5 (.alloc [(.pv (.int .i64 0)), (.pv (.int .i32 0)), (.pv (.int .i32 0)), (.pv (.sl .nil 0 [])), (.pv (.int .i64 0)), (.pv (.int .i64 0)), (.pv (.str
  []))])), (sW (.store 7 (T 5) (T 13)))])) (.seq (.seq (.region false [(oP 6 (.mv (tI 1)))]) (.tr (rl [4, 0]) false (.block 0 (.loop (rl [0, 0, 2, 0, 0])
  xf69_l0)))) (.seq (.tr (rl [4]) false (.region false [(oR 32 (.load true 7 (T 5))), (sW (.store 7 (T 4) (T 32)))])) (.tr (rl [4]) false .ret)))))))
theorem xf69_ok : cmpFunc Go.Proofs.Tryd.prog 69 ((.two .no (.two (.two (.tr (rl [0, 0, 2, 4]) false .no) (.tr (rl [0, 0, 2]) false (.two (.tr (rl [0, 0, 2]) false .no) .no))) (.two (.tr (rl [0, 0, 2, 0]) false .no) (.two (.two .no (.tr (rl [4, 0]) false (.loop (rl [0, 0, 2, 0, 0]) (.two (.two (.tr (rl [0, 0, 2, 0, 0, 10]) false .no) (.tr (rl [0, 0, 2, 0, 0]) false (.two .no (.tr (rl [4, 0]) false .no)))) (.two (.tr (rl [0, 0, 2, 0, 0]) false (.two (.tr (rl [0, 0, 2, 0, 0, 20]) false (.draw [0, 1, 2, 3, 4, 5, 6, 7] [])) (.tr (rl [0, 0, 2, 0, 0]) false (.two (.tr (rl [0, 0, 2, 0, 0]) false .no) .no)))) (.tr (rl [0, 0, 2, 0, 0]) false .no)))))) (.two (.tr (rl [4]) false .no) (.tr (rl [4]) false .no))))))) = some xf69 := by kernel_rfl
def xf70 : XFunc :=
(.mk 12 [(.tmp 4)] (.seq (.tr (rl [2, 0]) false (.region false [(oW 2 (.box (T 0) 7)), (oW 3 (.box (T 1) 7)), (oP 4 (.mv (tI 0)))])) (.seq (.tr (rl [4]) false
  (.region false [(oP 5 (.faddr 2 (T 2))), (oR 6 (.load false 1 (T 5))), (oP 7 (.convI .i64 (T 6))), (oP 8 (.faddr 2 (T 3))), (oR 9 (.load false 1 (T 8))), (oP
  10 (.convI .i64 (T 9))), (oP 11 (.bin .sub (T 7) (T 10))), (oP 4 (.mv (T 11)))])) (.tr (rl [4]) false .ret))))
theorem xf70_ok : cmpFunc Go.Proofs.Tryd.prog 70 ((.two (.tr (rl [2, 0]) false .no) (.two (.tr (rl [4]) false .no) (.tr (rl [4]) false .no)))) = some xf70 := by kernel_rfl
def xf71 : XFunc :=
(.mk 14 [(.tmp 3)] (.seq (.tr (rl [1, 0]) false (.region false [(oW 2 (.box (T 0) 7)), (oP 3 (.mv (.lit (.c (.pv (.bool false))))))])) (.seq (.tr (rl [3]) false
  (.region false [(oP 4 (.faddr 4 (T 2))), (oR 5 (.load false 1 (T 4))), (oP 6 (.bin .eql (T 5) (tI 0))), (oP 7 (.mv (T 6))), (.mk (some 8) (.load false 1 (T
  1)) (some (7, true)) .r), (.mk (some 9) (.faddr 0 (T 2)) (some (7, true)) .p), (.mk (some 10) (.load false 1 (T 9)) (some (7, true)) .r), (.mk (some 11)
  (.mlook (.bool false) false (T 8) (T 10)) (some (7, true)) .r), (.mk (some 12) (.un .not (T 11)) (some (7, true)) .p), (oP 13 (.pick (T 7) (T 12) (.lit (.c
  (.pv (.bool false)))))), (oP 3 (.mv (T 13)))])) (.tr (rl [3]) false .ret))))
theorem xf71_ok : cmpFunc Go.Proofs.Tryd.prog 71 ((.two (.tr (rl [1, 0]) false .no) (.two (.tr (rl [3]) false .no) (.tr (rl [3]) false .no)))) = some xf71 := by kernel_rfl
def xf74 : XFunc :=
(.mk 8 [(.tmp 3)] (.seq (.tr (rl [0, 0]) false (.region false [(oP 3 (.mv (.lit (.c (.pv (.bool false))))))])) (.seq (.tr (rl [3]) false (.region false [(oP 4
  (.faddr 3 (T 1))), (oR 5 (.load false 1 (T 4))), (oP 6 (.mv (T 0))), (oW 7 (.call false [] (.lit (.c (.fn 75 []))) [(T 5), (T 6)])), (oP 3 (.mv (T 7)))]))
  (.tr (rl [3]) false .ret))))
theorem xf74_ok : cmpFunc Go.Proofs.Tryd.prog 74 ((.two (.tr (rl [0, 0]) false .no) (.two (.tr (rl [3]) false .no) (.tr (rl [3]) false .no)))) = some xf74 := by kernel_rfl
def xf75 : XFunc :=
(.mk 9 [(.tmp 4)] (.seq (.tr (rl [0, 0]) false (.region false [(oP 4 (.mv (.lit (.c (.pv (.bool false))))))])) (.seq (.tr (rl [4]) false (.region false [(oP 5
  (.mv (T 0))), (oP 6 (.mv (T 1))), (oW 7 (.call false [] (.lit (.c (.fn 127 []))) [(T 5), (T 6)])), (oP 8 (.bin .geq (T 7) (tI 0))), (oP 4 (.mv (T 8)))])) (.tr
  (rl [4]) false .ret))))
theorem xf75_ok : cmpFunc Go.Proofs.Tryd.prog 75 ((.two (.tr (rl [0, 0]) false .no) (.two (.tr (rl [4]) false .no) (.tr (rl [4]) false .no)))) = some xf75 := by kernel_rfl
def xf76 : XFunc :=
(.mk 47 [(.tmp 2)] (.seq (.tr (rl [1]) false (.region false [(oW 1 (.box (T 0) 7)), (oP 2 (.mv (.lit (.c (.pv (.bool false))))))])) (.seq (.region false [(oP 3
  (.mv (.lit (.c (.fn 128 [])))))]) (.seq (.tr (rl [2]) false (.region false [(oP 4 (.faddr 0 (T 1))), (oR 5 (.load false 1 (T 4))), (oP 6 (.bin .geq (T 5) (tI
  1))), (oP 7 (.mv (T 6))), (.mk (some 8) (.faddr 0 (T 1)) (some (7, true)) .p), (.mk (some 9) (.load false 1 (T 8)) (some (7, true)) .r), (.mk (some 10) (.bin
  .leq (T 9) (tI 1000000)) (some (7, true)) .p), (oP 11 (.pick (T 7) (T 10) (.lit (.c (.pv (.bool false)))))), (oP 12 (.mv (T 11))), (.mk (some 13) (.faddr 4 (T
  1)) (some (12, true)) .p), (.mk (some 14) (.load false 1 (T 13)) (some (12, true)) .r), (.mk (some 15) (.bin .geq (T 14) (tI 0)) (some (12, true)) .p), (oP 16
  (.pick (T 12) (T 15) (.lit (.c (.pv (.bool false)))))), (oP 17 (.mv (T 16))), (.mk (some 18) (.faddr 4 (T 1)) (some (17, true)) .p), (.mk (some 19) (.load
  false 1 (T 18)) (some (17, true)) .r), (.mk (some 20) (.faddr 0 (T 1)) (some (17, true)) .p), (.mk (some 21) (.load false 1 (T 20)) (some (17, true)) .r),
  (.mk (some 22) (.bin .lss (T 19) (T 21)) (some (17, true)) .p), (oP 23 (.pick (T 17) (T 22) (.lit (.c (.pv (.bool false)))))), (oP 24 (.mv (T 23))), (.mk
  (some 25) (.faddr 5 (T 1)) (some (24, true)) .p), (.mk (some 26) (.load false 1 (T 25)) (some (24, true)) .r), (.mk (some 27) (.bin .geq (T 26) (tI 0)) (some
  (24, true)) .p), (oP 28 (.pick (T 24) (T 27) (.lit (.c (.pv (.bool false)))))), (oP 29 (.mv (T 28))), (.mk (some 30) (.faddr 5 (T 1)) (some (29, true)) .p),
  (.mk (some 31) (.load false 1 (T 30)) (some (29, true)) .r), (.mk (some 32) (.bin .leq (T 31) (tI 4)) (some (29, true)) .p), (oP 33 (.pick (T 29) (T 32) (.lit
  (.c (.pv (.bool false)))))), (oP 34 (.mv (T 33))), (.mk (some 35) (.faddr 6 (T 1)) (some (34, true)) .p), (.mk (some 36) (.load false 1 (T 35)) (some (34,
  true)) .r), (.mk (some 37) (.lenS (T 36)) (some (34, true)) .p), (.mk (some 38) (.bin .leq (T 37) (tI 32)) (some (34, true)) .p), (oP 39 (.pick (T 34) (T 38)
  (.lit (.c (.pv (.bool false)))))), (oP 40 (.mv (T 39))), (.mk (some 41) (.faddr 6 (T 1)) (some (40, true)) .p), (.mk (some 42) (.load false 1 (T 41)) (some
  (40, true)) .r), (.mk (some 43) (.mv (T 3)) (some (40, true)) .p), (.mk (some 44) (.call false [] (.lit (.c (.fn 129 []))) [(T 42), (T 43)]) (some (40, true))
  .w), (.mk (some 45) (.un .not (T 44)) (some (40, true)) .p), (oP 46 (.pick (T 40) (T 45) (.lit (.c (.pv (.bool false)))))), (oP 2 (.mv (T 46)))])) (.tr (rl
  [2]) false .ret)))))
theorem xf76_ok : cmpFunc Go.Proofs.Tryd.prog 76 ((.two (.tr (rl [1]) false .no) (.two .no (.two (.tr (rl [2]) false .no) (.tr (rl [2]) false .no))))) = some xf76 := by kernel_rfl
def xf77 : XFunc :=
(.mk 9 [(.tmp 2)] (.seq (.tr (rl [0]) false (.region false [(oP 2 (.mv (.lit (.c (.pv (.bool false))))))])) (.seq (.tr (rl [2]) false (.region false [(oP 3 (.mv
  (T 0))), (oP 4 (.bin .geq (T 3) (.lit (.c (.pv (.int .i32 (-50000))))))), (oP 5 (.mv (T 4))), (.mk (some 6) (.mv (T 0)) (some (5, true)) .p), (.mk (some 7)
  (.bin .leq (T 6) (.lit (.c (.pv (.int .i32 50000))))) (some (5, true)) .p), (oP 8 (.pick (T 5) (T 7) (.lit (.c (.pv (.bool false)))))), (oP 2 (.mv (T 8)))]))
  (.tr (rl [2]) false .ret))))
theorem xf77_ok : cmpFunc Go.Proofs.Tryd.prog 77 ((.two (.tr (rl [0]) false .no) (.two (.tr (rl [2]) false .no) (.tr (rl [2]) false .no)))) = some xf77 := by kernel_rfl
def xf78 : XFunc :=
(.mk 11 [(.tmp 2)] (.seq (.tr (rl [1]) false (.region false [(oW 1 (.box (T 0) 3)), (oP 2 (.mv (.lit (.c (.pv (.bool false))))))])) (.seq (.tr (rl [2]) false
  (.region false [(oP 3 (.faddr 0 (T 1))), (oR 4 (.load false 1 (T 3))), (oP 5 (.bin .lss (T 4) (tI 1))), (oP 6 (.mv (T 5))), (.mk (some 7) (.faddr 0 (T 1))
  (some (6, false)) .p), (.mk (some 8) (.load false 1 (T 7)) (some (6, false)) .r), (.mk (some 9) (.bin .gtr (T 8) (tI 999)) (some (6, false)) .p), (oP 10
  (.pick (T 6) (.lit (.c (.pv (.bool true)))) (T 9))), (oP 2 (.mv (T 10)))])) (.tr (rl [2]) false .ret))))
theorem xf78_ok : cmpFunc Go.Proofs.Tryd.prog 78 ((.two (.tr (rl [1]) false .no) (.two (.tr (rl [2]) false .no) (.tr (rl [2]) false .no)))) = some xf78 := by kernel_rfl
def xf79 : XFunc :=
(.mk 8 [(.tmp 2)] (.seq (.tr (rl [1]) false (.region false [(oW 1 (.box (T 0) 3)), (oP 2 (.mv (.lit (.c (.pv (.bool false))))))])) (.seq (.tr (rl [2]) false
  (.region false [(oP 3 (.faddr 1 (T 1))), (oP 4 (.faddr 0 (T 3))), (oR 5 (.load false 1 (T 4))), (oP 6 (.call false [] (.lit (.c (.fn 80 []))) [(T 5)])), (oP 7
  (.bin .eql (T 6) (.lit (.c (.pv (.str [])))))), (oP 2 (.mv (T 7)))])) (.tr (rl [2]) false .ret))))
theorem xf79_ok : cmpFunc Go.Proofs.Tryd.prog 79 ((.two (.tr (rl [1]) false .no) (.two (.tr (rl [2]) false (.ops [{}, {}, {}, { cls := some .p }])) (.tr (rl [2]) false .no)))) = some xf79 := by kernel_rfl
def xf80 : XFunc :=
(.mk 10 [(.tmp 2)] (.seq (.tr (rl [0]) false (.region false [(oP 2 (.mv (.lit (.c (.pv (.str []))))))])) (.seq (.seq (.tr (rl [0, 4]) false (.region false [(oP
  3 (.mv (T 0))), (oP 4 (.call false [] (.lit (.c (.fn 130 []))) [(T 3)])), (oP 5 (.un .not (T 4)))])) (.tr (rl [0, 1]) false (.cond (T 5) (.seq (.region false
  [(oP 2 (.mv (.lit (.c (.pv (.str []))))))]) (.tr (rl [2]) false .ret)) .skip))) (.seq (.tr (rl [2]) false (.region false [(oP 6 (.mv (T 0))), (oP 7 (.iaddrA 4
  3 (.lit (.c (.cptr [(.str [69, 85, 82]), (.int .i64 2), (.int .i64 100), (.str [74, 80, 89]), (.int .i64 0), (.int .i64 1), (.str [66, 72, 68]), (.int .i64
  3), (.int .i64 1000), (.str [85, 83, 68]), (.int .i64 2), (.int .i64 100)] 0))) (T 6))), (oP 8 (.faddr 0 (T 7))), (oR 9 (.load false 1 (T 8))), (oP 2 (.mv (T
  9)))])) (.tr (rl [2]) false .ret)))))
theorem xf80_ok : cmpFunc Go.Proofs.Tryd.prog 80 ((.two (.tr (rl [0]) false .no) (.two (.two (.tr (rl [0, 4]) false (.ops [{}, { cls := some .p }])) (.tr (rl [0, 1]) false (.two (.two .no (.tr (rl [2]) false .no)) .no))) (.two (.tr (rl [2]) false .no) (.tr (rl [2]) false .no))))) = some xf80 := by kernel_rfl
def xf81 : XFunc :=
(.mk 7 [(.tmp 2)] (.seq (.tr (rl [1]) false (.region false [(oW 1 (.box (T 0) 3)), (oP 2 (.mv (.lit (.c (.pv (.bool false))))))])) (.seq (.tr (rl [2]) false
  (.region false [(oP 3 (.faddr 1 (T 1))), (oR 4 (.load true 2 (T 3))), (oP 5 (.call false [] (.lit (.c (.fn 82 []))) [(T 4)])), (oP 6 (.un .not (T 5))), (oP 2
  (.mv (T 6)))])) (.tr (rl [2]) false .ret))))
theorem xf81_ok : cmpFunc Go.Proofs.Tryd.prog 81 ((.two (.tr (rl [1]) false .no) (.two (.tr (rl [2]) false (.ops [{}, {}, { cls := some .p }])) (.tr (rl [2]) false .no)))) = some xf81 := by kernel_rfl
def xf82 : XFunc :=
(.mk 16 [(.tmp 2)] (.seq (.tr (rl [1]) false (.region false [(oW 1 (.box (T 0) 2)), (oP 2 (.mv (.lit (.c (.pv (.bool false))))))])) (.seq (.tr (rl [2]) false
  (.region false [(oP 3 (.faddr 0 (T 1))), (oR 4 (.load false 1 (T 3))), (oP 5 (.call false [] (.lit (.c (.fn 130 []))) [(T 4)])), (oP 6 (.mv (T 5))), (.mk
  (some 7) (.faddr 1 (T 1)) (some (6, true)) .p), (.mk (some 8) (.load false 1 (T 7)) (some (6, true)) .r), (.mk (some 9) (.bin .geq (T 8) (.lit (.c (.pv (.int
  .i64 (-1000000000000000)))))) (some (6, true)) .p), (oP 10 (.pick (T 6) (T 9) (.lit (.c (.pv (.bool false)))))), (oP 11 (.mv (T 10))), (.mk (some 12) (.faddr
  1 (T 1)) (some (11, true)) .p), (.mk (some 13) (.load false 1 (T 12)) (some (11, true)) .r), (.mk (some 14) (.bin .leq (T 13) (tI 1000000000000000)) (some
  (11, true)) .p), (oP 15 (.pick (T 11) (T 14) (.lit (.c (.pv (.bool false)))))), (oP 2 (.mv (T 15)))])) (.tr (rl [2]) false .ret))))
theorem xf82_ok : cmpFunc Go.Proofs.Tryd.prog 82 ((.two (.tr (rl [1]) false .no) (.two (.tr (rl [2]) false (.ops [{}, {}, { cls := some .p }])) (.tr (rl [2]) false .no)))) = some xf82 := by kernel_rfl
def xf83 : XFunc :=
(.mk 7 [(.tmp 2)] (.seq (.tr (rl [1]) false (.region false [(oW 1 (.box (T 0) 3)), (oP 2 (.mv (.lit (.c (.pv (.bool false))))))])) (.seq (.tr (rl [2]) false
  (.region false [(oP 3 (.faddr 1 (T 1))), (oP 4 (.faddr 1 (T 3))), (oR 5 (.load false 1 (T 4))), (oP 6 (.bin .eql (T 5) (tI 0))), (oP 2 (.mv (T 6)))])) (.tr
  (rl [2]) false .ret))))
theorem xf83_ok : cmpFunc Go.Proofs.Tryd.prog 83 ((.two (.tr (rl [1]) false .no) (.two (.tr (rl [2]) false .no) (.tr (rl [2]) false .no)))) = some xf83 := by kernel_rfl
def xf84_l0 : XCode :=
(.seq (.region false [(oP 9 (.bin .lss (T 8) (T 7)))]) (.seq (.tr (rl [3, 2, 0, 0]) false (.cond (T 9) .skip (.tr (rl [3]) false (.exit 0)))) (.seq (.tr (rl [3,
  2, 0, 0]) false (.block 1 (.seq (.tr (rl [3, 1, 0, 0, 0]) false (.region false [(oP 10 (.iaddrS 3 (T 6) (T 8))), (oR 11 (.load true 3 (T 10))), (oW 5 (.alloc
  [(.pv (.int .i64 0)), (.pv (.int .i64 0)), (.pv (.int .i64 0))])), (sW (.store 3 (T 5) (T 11)))])) (.tr (rl [3, 2, 0, 0]) false (.region true [(oP 12 (.faddr
  1 (T 5))), (oP 13 (.faddr 0 (T 12))), (oR 14 (.load false 1 (T 13))), (oP 15 (.iaddrA 4 1 (T 3) (T 14))), (oR 16 (.load false 1 (T 15))), (oP 17 (.faddr 1 (T
  5))), (oP 18 (.faddr 1 (T 17))), (oR 19 (.load false 1 (T 18))), (oP 20 (.bin .add (T 16) (T 19))), (oP 21 (.iaddrA 4 1 (T 3) (T 14))), (sW (.store 1 (T 21)
  (T 20)))]))))) (.tr (rl [3, 2, 0, 0]) false (.region false [(oP 22 (.bin .add (T 8) (tI 1))), (oP 8 (.mv (T 22)))])))))
def xf84 : XFunc :=
(.mk 26 [(.tmp 2)] (.seq (.tr (rl [0]) false (.region false [(oP 2 (.mv (.lit (.c (.pv (.bool false))))))])) (.seq (.region false [(oW 3 (.alloc [(.pv (.int
  .i64 0)), (.pv (.int .i64 0)), (.pv (.int .i64 0)), (.pv (.int .i64 0))]))]) (.seq (.seq (.tr (rl [3, 2, 0, 0]) false (.region false [(oP 6 (.mv (T 0))), (oP
  7 (.len (T 6))), (oP 8 (.mv (tI 0)))])) (.tr (rl [3]) false (.block 0 (.loop (rl [3, 2, 0, 0]) xf84_l0)))) (.seq (.tr (rl [2]) false (.region false [(oR 23
  (.load true 4 (T 3))), (oP 24 (.build [(.pv (.int .i64 0)), (.pv (.int .i64 0)), (.pv (.int .i64 0)), (.pv (.int .i64 0))] [])), (oP 25 (.eqA false [0, 0, 0,
  0] (T 23) (T 24))), (oP 2 (.mv (T 25)))])) (.tr (rl [2]) false .ret))))))
theorem xf84_ok : cmpFunc Go.Proofs.Tryd.prog 84 ((.two (.tr (rl [0]) false .no) (.two .no (.two (.two (.tr (rl [3, 2, 0, 0]) false .no) (.tr (rl [3]) false (.loop (rl [3, 2, 0, 0]) (.two .no (.two (.tr (rl [3, 2, 0, 0]) false (.two .no (.tr (rl [3]) false .no))) (.two (.tr (rl [3, 2, 0, 0]) false (.two (.tr (rl [3, 1, 0, 0, 0]) false .no) (.tr (rl [3, 2, 0, 0]) false (.draw [0, 1, 2, 3, 4, 5, 6, 7, 8, 9, 10] [])))) (.tr (rl [3, 2, 0, 0]) false .no))))))) (.two (.tr (rl [2]) false .no) (.tr (rl [2]) false .no)))))) = some xf84 := by kernel_rfl
def xf85 : XFunc :=
(.mk 8 [(.tmp 2)] (.seq (.tr (rl [0]) false (.region false [(oP 2 (.mv (.lit (.c (.pv (.sl .nil 0 []))))))])) (.seq (.seq (.tr (rl [0, 3]) false (.region false
  [(oP 3 (.mv (T 0))), (oP 4 (.eqN 0 false (T 3) (.lit (.c (.pv (.sl .nil 0 []))))))])) (.tr (rl [0, 1]) false (.cond (T 4) (.seq (.region false [(oP 2 (.mv
  (.lit (.c (.pv (.sl .nil 0 []))))))]) (.tr (rl [2]) false .ret)) .skip))) (.seq (.tr (rl [2]) false (.region false [(oP 5 (.buildSl [(.pv (.int .i64 0)), (.pv
  (.int .i64 0)), (.pv (.int .i64 0))] 0 3 [])), (oP 6 (.mv (T 0))), (oW 7 (.app 3 24 (T 5) (T 6))), (oP 2 (.mv (T 7)))])) (.tr (rl [2]) false .ret)))))
theorem xf85_ok : cmpFunc Go.Proofs.Tryd.prog 85 ((.two (.tr (rl [0]) false .no) (.two (.two (.tr (rl [0, 3]) false .no) (.tr (rl [0, 1]) false (.two (.two .no (.tr (rl [2]) false .no)) .no))) (.two (.tr (rl [2]) false .no) (.tr (rl [2]) false .no))))) = some xf85 := by kernel_rfl
def xf87_l0 : XCode :=
(.seq (.region false [(oP 19 (.bin .lss (T 18) (T 17)))]) (.seq (.tr (rl [1, 5, 8, 0, 0]) false (.cond (T 19) .skip (.tr (rl [7]) false (.exit 0)))) (.seq (.tr
  (rl [1, 5, 8, 0, 0]) false (.block 1 (.seq (.tr (rl [1, 5, 1, 6, 0, 0]) false (.region false [(oP 20 (.iaddrS 3 (T 16) (T 18))), (oR 21 (.load true 3 (T
  20))), (oW 9 (.alloc [(.pv (.int .i64 0)), (.pv (.int .i64 0)), (.pv (.int .i64 0))])), (sW (.store 3 (T 9) (T 21)))])) (.seq (.tr (rl [1, 5, 1, 6, 0, 0, 5])
  false (.region false [(oP 22 (.mv (T 1))), (oR 23 (.load true 3 (T 9))), (oW 24 (.call false [] (T 22) [(T 23)]))])) (.tr (rl [1, 5, 8, 0, 0]) false (.cond (T
  24) (.tr (rl [1, 5, 8, 0, 0]) false (.region false [(oP 25 (.mv (T 7))), (oP 26 (.faddr 1 (T 9))), (oP 27 (.faddr 1 (T 26))), (oR 28 (.load false 1 (T 27))),
  (oP 29 (.bin .add (T 25) (T 28))), (oP 7 (.mv (T 29)))])) .skip)))))) (.tr (rl [1, 5, 8, 0, 0]) false (.region false [(oP 30 (.bin .add (T 18) (tI 1))), (oP
  18 (.mv (T 30)))])))))
def xf87 : XFunc :=
(.mk 32 [(.tmp 4), (.tmp 5)] (.seq (.tr (rl [1, 0]) false (.region false [(oW 2 (.box (T 0) 7)), (oP 4 (.mv (tI 0))), (oP 5 (.mv (tI 0)))])) (.seq (.seq (.tr
  (rl [1, 0, 3]) false (.region false [(oR 10 (.load true 7 (T 2))), (oP 11 (.call false [] (.lit (.c (.fn 37 []))) [(T 10)])), (oP 6 (.mv (T 11)))])) (.seq
  (.tr (rl [1, 0, 3, 6]) false (.region false [(oP 12 (.mv (T 6))), (oP 13 (.bin .neq (T 12) (tI 0)))])) (.tr (rl [1, 0, 1, 0]) false (.cond (T 13) (.seq (.tr
  (rl [4, 0]) false (.region false [(oP 14 (.mv (T 6))), (oP 4 (.mv (tI 0))), (oP 5 (.mv (T 14)))])) (.tr (rl [4, 0]) false .ret)) .skip)))) (.seq (.region
  false [(oP 7 (.mv (tI 0)))]) (.seq (.seq (.tr (rl [1, 5, 8, 0, 0]) false (.region false [(oP 15 (.faddr 3 (T 2))), (oR 16 (.load false 1 (T 15))), (oP 17
  (.len (T 16))), (oP 18 (.mv (tI 0)))])) (.tr (rl [7]) false (.block 0 (.loop (rl [1, 5, 8, 0, 0]) xf87_l0)))) (.seq (.tr (rl [4, 0]) false (.region false [(oP
  31 (.mv (T 7))), (oP 4 (.mv (T 31))), (oP 5 (.mv (tI 0)))])) (.tr (rl [4, 0]) false .ret)))))))
theorem xf87_ok : cmpFunc Go.Proofs.Tryd.prog 87 ((.two (.tr (rl [1, 0]) false .no) (.two (.two (.tr (rl [1, 0, 3]) false (.ops [{}, { cls := some .p }])) (.two (.tr (rl [1, 0, 3, 6]) false .no) (.tr (rl [1, 0, 1, 0]) false (.two (.two (.tr (rl [4, 0]) false .no) (.tr (rl [4, 0]) false .no)) .no)))) (.two .no (.two (.two (.tr (rl [1, 5, 8, 0, 0]) false .no) (.tr (rl [7]) false (.loop (rl [1, 5, 8, 0, 0]) (.two .no (.two (.tr (rl [1, 5, 8, 0, 0]) false (.two .no (.tr (rl [7]) false .no))) (.two (.tr (rl [1, 5, 8, 0, 0]) false (.two (.tr (rl [1, 5, 1, 6, 0, 0]) false .no) (.two (.tr (rl [1, 5, 1, 6, 0, 0, 5]) false .no) (.tr (rl [1, 5, 8, 0, 0]) false (.two (.tr (rl [1, 5, 8, 0, 0]) false .no) .no))))) (.tr (rl [1, 5, 8, 0, 0]) false .no))))))) (.two (.tr (rl [4, 0]) false .no) (.tr (rl [4, 0]) false .no))))))) = some xf87 := by kernel_rfl
def xf88 : XFunc :=
(.mk 16 [(.tmp 4)] (.seq (.tr (rl [1, 0, 0]) false (.region false [(oW 3 (.box (T 0) 3)), (oP 4 (.mv (.lit (.c (.pv (.bool false))))))])) (.seq (.tr (rl [4])
  false (.region false [(oP 5 (.faddr 0 (T 3))), (oR 6 (.load false 1 (T 5))), (oR 7 (.load false 1 (T 1))), (oP 8 (.bin .eql (T 6) (T 7))), (oP 9 (.mv (T 8))),
  (.mk (some 10) (.faddr 1 (T 3)) (some (9, true)) .p), (.mk (some 11) (.faddr 0 (T 10)) (some (9, true)) .p), (.mk (some 12) (.load false 1 (T 11)) (some (9,
  true)) .r), (.mk (some 13) (.load false 1 (T 2)) (some (9, true)) .r), (.mk (some 14) (.bin .eql (T 12) (T 13)) (some (9, true)) .p), (oP 15 (.pick (T 9) (T
  14) (.lit (.c (.pv (.bool false)))))), (oP 4 (.mv (T 15)))])) (.tr (rl [4]) false .ret))))
theorem xf88_ok : cmpFunc Go.Proofs.Tryd.prog 88 ((.two (.tr (rl [1, 0, 0]) false .no) (.two (.tr (rl [4]) false .no) (.tr (rl [4]) false .no)))) = some xf88 := by kernel_rfl
def xf96_l0 : XCode :=
(.seq (.region false [(oP 14 (.bin .lss (T 13) (T 12)))]) (.seq (.tr (rl [0, 0, 10, 0]) false (.cond (T 14) .skip (.tr [] false (.exit 0)))) (.seq (.tr (rl [0,
  0, 2, 7, 0]) false (.block 1 (.seq (.tr (rl [0, 0, 3, 6, 0]) false (.region false [(oP 15 (.mv (T 13))), (oP 5 (.mv (T 15)))])) (.seq (.tr (rl [0, 0, 10, 0,
  10]) false (.region true [(oP 16 (.mv (T 0))), (oP 17 (.mv (T 5))), (oP 18 (.iaddrS 3 (T 16) (T 17))), (oR 19 (.load true 3 (T 18))), (oP 20 (.mv (T 1))), (oP
  21 (.mv (T 5))), (oP 22 (.iaddrS 3 (T 20) (T 21))), (oR 23 (.load true 3 (T 22))), (oP 24 (.eqA true [0, 0, 0] (T 19) (T 23)))])) (.tr (rl [0, 0, 2, 7, 0])
  false (.cond (T 24) (.seq (.region false [(oP 4 (.mv (.lit (.c (.pv (.bool false))))))]) (.tr (rl [4]) false .ret)) .skip)))))) (.tr (rl [0, 0, 10, 0]) false
  (.region false [(oP 25 (.bin .add (T 13) (tI 1))), (oP 13 (.mv (T 25)))])))))
def xf96 : XFunc :=
(.mk 26 [(.tmp 4)] (.seq (.tr (rl [0, 0]) false (.region false [(oP 4 (.mv (.lit (.c (.pv (.bool false))))))])) (.seq (.seq (.tr (rl [0, 0, 8]) false (.region
  false [(oP 6 (.mv (T 0))), (oP 7 (.len (T 6))), (oP 8 (.mv (T 1))), (oP 9 (.len (T 8))), (oP 10 (.bin .neq (T 7) (T 9)))])) (.tr (rl [0, 0, 2]) false (.cond
  (T 10) (.seq (.region false [(oP 4 (.mv (.lit (.c (.pv (.bool false))))))]) (.tr (rl [4]) false .ret)) .skip))) (.seq (.seq (.tr (rl [0, 0, 10, 0]) false
  (.region false [(oP 11 (.mv (T 0))), (oP 12 (.len (T 11))), (oP 13 (.mv (tI 0)))])) (.tr (rl [4]) false (.block 0 (.loop (rl [0, 0, 10, 0]) xf96_l0)))) (.seq
  (.region false [(oP 4 (.mv (.lit (.c (.pv (.bool true))))))]) (.tr (rl [4]) false .ret))))))
theorem xf96_ok : cmpFunc Go.Proofs.Tryd.prog 96 ((.two (.tr (rl [0, 0]) false .no) (.two (.two (.tr (rl [0, 0, 8]) false .no) (.tr (rl [0, 0, 2]) false (.two (.two .no (.tr (rl [4]) false .no)) .no))) (.two (.two (.tr (rl [0, 0, 10, 0]) false .no) (.tr (rl [4]) false (.loop (rl [0, 0, 10, 0]) (.two .no (.two (.tr (rl [0, 0, 10, 0]) false (.two .no (.tr [] false .no))) (.two (.tr (rl [0, 0, 2, 7, 0]) false (.two (.tr (rl [0, 0, 3, 6, 0]) false .no) (.two (.tr (rl [0, 0, 10, 0, 10]) false (.draw [0, 1, 2, 3, 4, 5, 6, 7, 8] [])) (.tr (rl [0, 0, 2, 7, 0]) false (.two (.two .no (.tr (rl [4]) false .no)) .no))))) (.tr (rl [0, 0, 10, 0]) false .no))))))) (.two .no (.tr (rl [4]) false .no)))))) = some xf96 := by kernel_rfl
def xf127_l0 : XCode :=
(.seq (.region false [(oP 9 (.bin .lss (T 8) (T 7)))]) (.seq (.tr (rl [0, 0, 5, 0]) false (.cond (T 9) .skip (.tr [] false (.exit 0)))) (.seq (.tr (rl [0, 0, 2,
  2, 0]) false (.block 1 (.seq (.tr (rl [0, 0, 3, 1, 0]) false (.region false [(oP 10 (.mv (T 8))), (oP 5 (.mv (T 10)))])) (.seq (.tr (rl [0, 0, 3, 1, 0, 7])
  false (.region false [(oP 11 (.mv (T 1))), (oP 12 (.mv (T 0))), (oP 13 (.mv (T 5))), (oP 14 (.iaddrS 3 (T 12) (T 13))), (oR 15 (.load true 3 (T 14))), (oW 16
  (.call false [] (T 11) [(T 15)]))])) (.tr (rl [0, 0, 2, 2, 0]) false (.cond (T 16) (.seq (.tr (rl [4]) false (.region false [(oP 17 (.mv (T 5))), (oP 4 (.mv
  (T 17)))])) (.tr (rl [4]) false .ret)) .skip)))))) (.tr (rl [0, 0, 5, 0]) false (.region false [(oP 18 (.bin .add (T 8) (tI 1))), (oP 8 (.mv (T 18)))])))))
def xf127 : XFunc :=
(.mk 19 [(.tmp 4)] (.seq (.tr (rl [0, 0]) false (.region false [(oP 4 (.mv (tI 0)))])) (.seq (.seq (.tr (rl [0, 0, 5, 0]) false (.region false [(oP 6 (.mv (T
  0))), (oP 7 (.len (T 6))), (oP 8 (.mv (tI 0)))])) (.tr (rl [4]) false (.block 0 (.loop (rl [0, 0, 5, 0]) xf127_l0)))) (.seq (.region false [(oP 4 (.mv (.lit
  (.c (.pv (.int .i64 (-1)))))))]) (.tr (rl [4]) false .ret)))))
theorem xf127_ok : cmpFunc Go.Proofs.Tryd.prog 127 ((.two (.tr (rl [0, 0]) false .no) (.two (.two (.tr (rl [0, 0, 5, 0]) false .no) (.tr (rl [4]) false (.loop (rl [0, 0, 5, 0]) (.two .no (.two (.tr (rl [0, 0, 5, 0]) false (.two .no (.tr [] false .no))) (.two (.tr (rl [0, 0, 2, 2, 0]) false (.two (.tr (rl [0, 0, 3, 1, 0]) false .no) (.two (.tr (rl [0, 0, 3, 1, 0, 7]) false .no) (.tr (rl [0, 0, 2, 2, 0]) false (.two (.two (.tr (rl [4]) false .no) (.tr (rl [4]) false .no)) .no))))) (.tr (rl [0, 0, 5, 0]) false .no))))))) (.two .no (.tr (rl [4]) false .no))))) = some xf127 := by kernel_rfl
def xf128 : XFunc :=
(.mk 9 [(.tmp 2)] (.seq (.tr (rl [0]) false (.region false [(oP 2 (.mv (.lit (.c (.pv (.bool false))))))])) (.seq (.tr (rl [2]) false (.region false [(oP 3 (.mv
  (T 0))), (oP 4 (.bin .lss (T 3) (.lit (.c (.pv (.int .i32 32)))))), (oP 5 (.mv (T 4))), (.mk (some 6) (.mv (T 0)) (some (5, false)) .p), (.mk (some 7) (.bin
  .gtr (T 6) (.lit (.c (.pv (.int .i32 126))))) (some (5, false)) .p), (oP 8 (.pick (T 5) (.lit (.c (.pv (.bool true)))) (T 7))), (oP 2 (.mv (T 8)))])) (.tr (rl
  [2]) false .ret))))
theorem xf128_ok : cmpFunc Go.Proofs.Tryd.prog 128 ((.two (.tr (rl [0]) false .no) (.two (.tr (rl [2]) false .no) (.tr (rl [2]) false .no)))) = some xf128 := by kernel_rfl
def xf129 : XFunc :=
(.mk 9 [(.tmp 4)] (.seq (.tr (rl [0, 0]) false (.region false [(oP 4 (.mv (.lit (.c (.pv (.bool false))))))])) (.seq (.tr (rl [4]) false (.region false [(oP 5
  (.mv (T 0))), (oP 6 (.mv (T 1))), (oW 7 (.call false [] (.lit (.c (.fn 151 []))) [(T 5), (T 6)])), (oP 8 (.bin .geq (T 7) (tI 0))), (oP 4 (.mv (T 8)))])) (.tr
  (rl [4]) false .ret))))
theorem xf129_ok : cmpFunc Go.Proofs.Tryd.prog 129 ((.two (.tr (rl [0, 0]) false .no) (.two (.tr (rl [4]) false .no) (.tr (rl [4]) false .no)))) = some xf129 := by kernel_rfl
def xf130 : XFunc :=
(.mk 9 [(.tmp 2)] (.seq (.tr (rl [0]) false (.region false [(oP 2 (.mv (.lit (.c (.pv (.bool false))))))])) (.seq (.tr (rl [2]) false (.region false [(oP 3 (.mv
  (T 0))), (oP 4 (.bin .geq (T 3) (tI 0))), (oP 5 (.mv (T 4))), (.mk (some 6) (.mv (T 0)) (some (5, true)) .p), (.mk (some 7) (.bin .lss (T 6) (tI 4)) (some (5,
  true)) .p), (oP 8 (.pick (T 5) (T 7) (.lit (.c (.pv (.bool false)))))), (oP 2 (.mv (T 8)))])) (.tr (rl [2]) false .ret))))
theorem xf130_ok : cmpFunc Go.Proofs.Tryd.prog 130 ((.two (.tr (rl [0]) false .no) (.two (.tr (rl [2]) false .no) (.tr (rl [2]) false .no)))) = some xf130 := by kernel_rfl
def xf151 : XFunc :=
(.mk 8 [(.tmp 4)] (.seq (.tr (rl [0, 0]) false (.region false [(oP 4 (.mv (tI 0)))])) (.seq (.tr (rl [4]) false (.region false [(oP 5 (.mv (T 0))), (oP 6 (.mv
  (T 1))), (oW 7 (.call false [] (.lit (.c (.fn 154 []))) [(T 5), (T 6), (.lit (.c (.pv (.bool true))))])), (oP 4 (.mv (T 7)))])) (.tr (rl [4]) false .ret))))
theorem xf151_ok : cmpFunc Go.Proofs.Tryd.prog 151 ((.two (.tr (rl [0, 0]) false .no) (.two (.tr (rl [4]) false .no) (.tr (rl [4]) false .no)))) = some xf151 := by kernel_rfl
def xf154_l0 : XCode :=
(.seq (.region false [(oW 11 (.nxt (T 10))), (oP 12 (.extr 0 (T 11)))]) (.seq (.tr (rl [1, 0, 7, 0]) false (.cond (T 12) .skip (.tr [] false (.exit 0)))) (.tr
  (rl [1, 0, 3, 3]) false (.block 1 (.seq (.tr (rl [1, 0, 4, 0, 1]) false (.region false [(oP 13 (.extr 1 (T 11))), (oP 14 (.extr 2 (T 11))), (oP 7 (.mv (T
  13))), (oP 8 (.mv (T 14)))])) (.seq (.tr (rl [1, 0, 4, 2, 8]) false (.region false [(oP 15 (.mv (T 1))), (oP 16 (.mv (T 8))), (oW 17 (.call false [] (T 15)
  [(T 16)])), (oP 18 (.mv (T 2))), (oP 19 (.eqB false (T 17) (T 18)))])) (.tr (rl [1, 0, 3, 3]) false (.cond (T 19) (.seq (.tr (rl [6]) false (.region false
  [(oP 20 (.mv (T 7))), (oP 6 (.mv (T 20)))])) (.tr (rl [6]) false .ret)) .skip))))))))
def xf154 : XFunc :=
(.mk 21 [(.tmp 6)] (.seq (.tr (rl [0, 0, 0]) false (.region false [(oP 6 (.mv (tI 0)))])) (.seq (.seq (.tr (rl [1, 0, 7]) false (.region false [(oP 9 (.mv (T
  0))), (oW 10 (.rng (T 9)))])) (.tr (rl [6]) false (.block 0 (.loop (rl [1, 0, 7]) xf154_l0)))) (.seq (.region false [(oP 6 (.mv (.lit (.c (.pv (.int .i64
  (-1)))))))]) (.tr (rl [6]) false .ret)))))
theorem xf154_ok : cmpFunc Go.Proofs.Tryd.prog 154 ((.two (.tr (rl [0, 0, 0]) false .no) (.two (.two (.tr (rl [1, 0, 7]) false .no) (.tr (rl [6]) false (.loop (rl [1, 0, 7]) (.two .no (.two (.tr (rl [1, 0, 7, 0]) false (.two .no (.tr [] false .no))) (.tr (rl [1, 0, 3, 3]) false (.two (.tr (rl [1, 0, 4, 0, 1]) false .no) (.two (.tr (rl [1, 0, 4, 2, 8]) false .no) (.tr (rl [1, 0, 3, 3]) false (.two (.two (.tr (rl [6]) false .no) (.tr (rl [6]) false .no)) .no)))))))))) (.two .no (.tr (rl [6]) false .no))))) = some xf154 := by kernel_rfl
def X : Nat → Option XFunc
  | 8 => some xf8
  | 15 => some xf15
  | 16 => some xf16
  | 17 => some xf17
  | 19 => some xf19
  | 20 => some xf20
  | 21 => some xf21
  | 22 => some xf22
  | 23 => some xf23
  | 24 => some xf24
  | 25 => some xf25
  | 31 => some xf31
  | 33 => some xf33
  | 36 => some xf36
  | 37 => some xf37
  | 38 => some xf38
  | 40 => some xf40
  | 43 => some xf43
  | 58 => some xf58
  | 59 => some xf59
  | 60 => some xf60
  | 61 => some xf61
  | 62 => some xf62
  | 63 => some xf63
  | 64 => some xf64
  | 65 => some xf65
  | 66 => some xf66
  | 67 => some xf67
  | 68 => some xf68
  | 69 => some xf69
  | 70 => some xf70
  | 71 => some xf71
  | 74 => some xf74
  | 75 => some xf75
  | 76 => some xf76
  | 77 => some xf77
  | 78 => some xf78
  | 79 => some xf79
  | 80 => some xf80
  | 81 => some xf81
  | 82 => some xf82
  | 83 => some xf83
  | 84 => some xf84
  | 85 => some xf85
  | 87 => some xf87
  | 88 => some xf88
  | 96 => some xf96
  | 127 => some xf127
  | 128 => some xf128
  | 129 => some xf129
  | 130 => some xf130
  | 151 => some xf151
  | 154 => some xf154
  | _ => none
def E0 : Oracle := fun _ _ _ => none
theorem X_ok : ∀ f x, X f = some x → ∃ h, cmpFunc Go.Proofs.Tryd.prog f h = some x := by
  intro f x h
  unfold X at h
  split at h <;> cases h
  · exact ⟨_, xf8_ok⟩
  · exact ⟨_, xf15_ok⟩
  · exact ⟨_, xf16_ok⟩
  · exact ⟨_, xf17_ok⟩
  · exact ⟨_, xf19_ok⟩
  · exact ⟨_, xf20_ok⟩
  · exact ⟨_, xf21_ok⟩
  · exact ⟨_, xf22_ok⟩
  · exact ⟨_, xf23_ok⟩
  · exact ⟨_, xf24_ok⟩
  · exact ⟨_, xf25_ok⟩
  · exact ⟨_, xf31_ok⟩
  · exact ⟨_, xf33_ok⟩
  · exact ⟨_, xf36_ok⟩
  · exact ⟨_, xf37_ok⟩
  · exact ⟨_, xf38_ok⟩
  · exact ⟨_, xf40_ok⟩
  · exact ⟨_, xf43_ok⟩
  · exact ⟨_, xf58_ok⟩
  · exact ⟨_, xf59_ok⟩
  · exact ⟨_, xf60_ok⟩
  · exact ⟨_, xf61_ok⟩
  · exact ⟨_, xf62_ok⟩
  · exact ⟨_, xf63_ok⟩
  · exact ⟨_, xf64_ok⟩
  · exact ⟨_, xf65_ok⟩
  · exact ⟨_, xf66_ok⟩
  · exact ⟨_, xf67_ok⟩
  · exact ⟨_, xf68_ok⟩
  · exact ⟨_, xf69_ok⟩
  · exact ⟨_, xf70_ok⟩
  · exact ⟨_, xf71_ok⟩
  · exact ⟨_, xf74_ok⟩
  · exact ⟨_, xf75_ok⟩
  · exact ⟨_, xf76_ok⟩
  · exact ⟨_, xf77_ok⟩
  · exact ⟨_, xf78_ok⟩
  · exact ⟨_, xf79_ok⟩
  · exact ⟨_, xf80_ok⟩
  · exact ⟨_, xf81_ok⟩
  · exact ⟨_, xf82_ok⟩
  · exact ⟨_, xf83_ok⟩
  · exact ⟨_, xf84_ok⟩
  · exact ⟨_, xf85_ok⟩
  · exact ⟨_, xf87_ok⟩
  · exact ⟨_, xf88_ok⟩
  · exact ⟨_, xf96_ok⟩
  · exact ⟨_, xf127_ok⟩
  · exact ⟨_, xf128_ok⟩
  · exact ⟨_, xf129_ok⟩
  · exact ⟨_, xf130_ok⟩
  · exact ⟨_, xf151_ok⟩
  · exact ⟨_, xf154_ok⟩
theorem ok : OkOr Go.Proofs.Tryd.prog (ev X E0) := ev_ok X_ok (fun _ _ _ _ _ h => by cases h) (by kernel_rfl)
end Go.Sx.Tryd
