/- Functions of the program in the evaluator's form, each checked by the kernel. Printed by genx.py. -/
import Derived.Test.YtplknajjcllmkaaDoorSxLem
import Derived.Test.YtplknajjcllmkaaDoorProg
import Derived.KernelRfl
namespace Go.Sx.Tryd
open Go Go.Sx
def xf3 : XFunc :=
(.mk 313 [(.tmp 10)] (.seq (.tr (rl [2, 0, 0, 0, 0]) false (.region false [(oW 5 (.box (T 0) 3)), (oW 6 (.box (T 1) 7)), (oP 10 (.mv (.lit (.c (.pv (.bool
  false))))))])) (.seq (.seq (.tr (rl [2, 0, 0, 0, 0, 39]) false (.region false [(oP 30 (.faddr 0 (T 5))), (oP 31 (.faddr 0 (T 30))), (oR 32 (.load false 1 (T
  31))), (oP 33 (.call false [] (.lit (.c (.fn 12 []))) [(T 32)])), (oP 34 (.un .not (T 33))), (oP 35 (.mv (T 34))), (.mk (some 36) (.load true 7 (T 6)) (some
  (35, false)) .r), (.mk (some 37) (.buildSl [(.pv (.int .i64 0)), (.pv (.int .i32 0)), (.pv (.int .i32 0)), (.pv (.sl .nil 0 [])), (.pv (.int .i64 0)), (.pv
  (.int .i64 0)), (.pv (.str []))] 1 7 [(0, (7, (T 36)))]) (some (35, false)) .p), (.mk (some 38) (.call false [] (.lit (.c (.fn 12 []))) [(T 37)]) (some (35,
  false)) .p), (.mk (some 39) (.un .not (T 38)) (some (35, false)) .p), (oP 40 (.pick (T 35) (.lit (.c (.pv (.bool true)))) (T 39))), (oP 41 (.mv (T 40))), (.mk
  (some 42) (.faddr 1 (T 5)) (some (41, false)) .p), (.mk (some 43) (.load false 1 (T 42)) (some (41, false)) .r), (.mk (some 44) (.len (T 43)) (some (41,
  false)) .p), (.mk (some 45) (.bin .gtr (T 44) (tI 40)) (some (41, false)) .p), (oP 46 (.pick (T 41) (.lit (.c (.pv (.bool true)))) (T 45)))])) (.tr (rl [2, 0,
  0, 0, 0, 3]) false (.cond (T 46) (.seq (.tr (rl [10]) false (.region false [(oP 47 (.call false [] (.lit (.c (.fn 13 []))) [])), (oP 10 (.mv (T 47)))])) (.tr
  (rl [10]) false .ret)) .skip))) (.seq (.tr (rl [2, 0, 0, 0, 0, 4]) false (.region false [(oR 48 (.load true 3 (T 5))), (oP 49 (.call false [] (.lit (.c (.fn
  14 []))) [(T 48)])), (oP 11 (.mv (T 49)))])) (.seq (.tr (rl [2, 0, 0, 0, 0, 4, 0, 0]) false (.region false [(oR 51 (.load true 3 (T 5))), (oR 52 (.load true 7
  (T 6))), (oP 53 (.call false [] (.lit (.c (.fn 15 []))) [(T 51), (T 52)])), (oP 50 (.mv (T 53))), (oP 54 (.extr 0 (T 50))), (oP 55 (.extr 1 (T 50))), (oW 12
  (.alloc [(.pv (.sl .nil 0 [])), (.pv (.sl .nil 0 [])), (.pv (.int .i64 0))])), (sW (.store 3 (T 12) (T 54))), (oP 13 (.mv (T 55)))])) (.seq (.tr (rl [2, 0, 0,
  0, 0, 4, 0, 0, 0, 0, 0]) false (.region false [(oR 57 (.load true 3 (T 5))), (oP 58 (.mv (T 3))), (oP 59 (.mv (T 4))), (oP 60 (.call false [] (.lit (.c (.fn
  16 []))) [(T 57), (T 58), (T 59)])), (oP 56 (.mv (T 60))), (oP 61 (.extr 0 (T 56))), (oP 62 (.extr 1 (T 56))), (oP 63 (.extr 2 (T 56))), (oW 14 (.alloc [(.pv
  (.sl .nil 0 [])), (.pv (.sl .nil 0 [])), (.pv (.int .i64 0))])), (sW (.store 3 (T 14) (T 61))), (oP 15 (.mv (T 62))), (oP 16 (.mv (T 63)))])) (.seq (.tr (rl
  [2, 0, 0, 0, 0, 4, 0, 0, 0, 0, 0, 0, 0]) false (.region false [(oR 65 (.load true 3 (T 5))), (oP 66 (.mv (T 2))), (oP 67 (.call false [] (.lit (.c (.fn 17
  []))) [(T 65), (T 66)])), (oP 64 (.mv (T 67))), (oP 68 (.extr 0 (T 64))), (oP 69 (.extr 1 (T 64))), (oW 17 (.alloc [(.pv (.sl .nil 0 [])), (.pv (.sl .nil 0
  [])), (.pv (.int .i64 0))])), (sW (.store 3 (T 17) (T 68))), (oP 18 (.mv (T 69)))])) (.seq (.tr (rl [2, 0, 0, 0, 0, 4, 0, 0, 0, 0, 0, 0, 0, 0, 0]) false
  (.region false [(oR 71 (.load true 3 (T 5))), (oP 72 (.mv (T 2))), (oP 73 (.call false [] (.lit (.c (.fn 18 []))) [(T 71), (T 72)])), (oP 70 (.mv (T 73))),
  (oP 74 (.extr 0 (T 70))), (oP 75 (.extr 1 (T 70))), (oP 19 (.mv (T 74))), (oP 20 (.mv (T 75)))])) (.seq (.tr (rl [2, 0, 0, 0, 0, 4, 0, 0, 0, 0, 0, 0, 0, 0, 0,
  0, 0]) false (.region false [(oR 77 (.load true 3 (T 5))), (oP 78 (.call false [] (.lit (.c (.fn 19 []))) [(T 77)])), (oP 76 (.mv (T 78))), (oP 79 (.extr 0 (T
  76))), (oP 80 (.extr 1 (T 76))), (oP 21 (.mv (T 79))), (oP 22 (.mv (T 80)))])) (.seq (.tr (rl [2, 0, 0, 0, 0, 4, 0, 0, 0, 0, 0, 0, 0, 0, 0, 0, 0, 0, 0]) false
  (.region false [(oP 82 (.faddr 0 (T 5))), (oR 83 (.load true 1 (T 82))), (oP 84 (.call false [] (.lit (.c (.fn 20 []))) [(T 83)])), (oP 81 (.mv (T 84))), (oP
  85 (.extr 0 (T 81))), (oP 86 (.extr 1 (T 81))), (oW 23 (.alloc [(.pv (.sl .nil 0 [])), (.pv (.sl .nil 0 [])), (.pv (.int .i64 0))])), (sW (.store 3 (T 23) (T
  85))), (oP 24 (.mv (T 86)))])) (.seq (.seq (.tr (rl [2, 0, 0, 0, 0, 4, 0, 0, 0, 0, 0, 0, 0, 0, 0, 0, 0, 99]) false (.region false [(oP 87 (.call false []
  (.lit (.c (.fn 13 []))) [])), (oP 88 (.un .not (T 87))), (oP 89 (.mv (T 88))), (.mk (some 90) (.load true 3 (T 5)) (some (89, false)) .r), (.mk (some 91)
  (.call false [] (.lit (.c (.fn 21 []))) [(T 90)]) (some (89, false)) .p), (.mk (some 92) (.mv (T 11)) (some (89, false)) .p), (.mk (some 93) (.eqB true (T 91)
  (T 92)) (some (89, false)) .p), (oP 94 (.pick (T 89) (.lit (.c (.pv (.bool true)))) (T 93))), (oP 95 (.mv (T 94))), (.mk (some 96) (.mv (T 24)) (some (95,
  false)) .p), (.mk (some 97) (.bin .eql (T 96) (tI 0)) (some (95, false)) .p), (.mk (some 98) (.faddr 0 (T 5)) (some (95, false)) .p), (.mk (some 99) (.load
  true 1 (T 98)) (some (95, false)) .r), (.mk (some 100) (.call false [] (.lit (.c (.fn 22 []))) [(T 99)]) (some (95, false)) .p), (.mk (some 101) (.eqB true (T
  97) (T 100)) (some (95, false)) .p), (oP 102 (.pick (T 95) (.lit (.c (.pv (.bool true)))) (T 101))), (oP 103 (.mv (T 102))), (.mk (some 104) (.mv (T 24))
  (some (103, false)) .p), (.mk (some 105) (.bin .eql (T 104) (tI 0)) (some (103, false)) .p), (.mk (some 106) (.mv (T 105)) (some (103, false)) .p), (.mk (some
  107) (.load true 3 (T 23)) (some (106, true)) .r), (.mk (some 108) (.faddr 0 (T 5)) (some (106, true)) .p), (.mk (some 109) (.load true 1 (T 108)) (some (106,
  true)) .r), (.mk (some 110) (.build [(.pv (.sl .nil 0 [])), (.pv (.sl .nil 0 [])), (.pv (.int .i64 0))] [(0, (1, (T 109))), (2, (1, (tI 1)))]) (some (106,
  true)) .p), (.mk (some 111) (.call false [] (.lit (.c (.fn 23 []))) [(T 107), (T 110)]) (some (106, true)) .p), (.mk (some 112) (.un .not (T 111)) (some (106,
  true)) .p), (.mk (some 113) (.pick (T 106) (T 112) (.lit (.c (.pv (.bool false))))) (some (103, false)) .p), (oP 114 (.pick (T 103) (.lit (.c (.pv (.bool
  true)))) (T 113))), (oP 115 (.mv (T 114))), (.mk (some 116) (.mv (T 24)) (some (115, false)) .p), (.mk (some 117) (.bin .neq (T 116) (tI 0)) (some (115,
  false)) .p), (.mk (some 118) (.mv (T 117)) (some (115, false)) .p), (.mk (some 119) (.mv (T 24)) (some (118, true)) .p), (.mk (some 120) (.bin .neq (T 119)
  (tI 1)) (some (118, true)) .p), (.mk (some 121) (.pick (T 118) (T 120) (.lit (.c (.pv (.bool false))))) (some (115, false)) .p), (oP 122 (.pick (T 115) (.lit
  (.c (.pv (.bool true)))) (T 121)))])) (.tr (rl [2, 0, 0, 0, 0, 3, 0, 0, 0, 0, 0, 0, 0, 0, 0, 0, 0, 0]) false (.cond (T 122) (.seq (.region false [(oP 10 (.mv
  (.lit (.c (.pv (.bool false))))))]) (.tr (rl [10]) false .ret)) .skip))) (.seq (.tr (rl [2, 0, 0, 0, 0, 4, 0, 0, 0, 0, 0, 0, 0, 0, 0, 0, 0, 2]) false (.region
  false [(oP 123 (.build [(.pv (.sl .nil 0 [])), (.pv (.sl .nil 0 [])), (.pv (.int .i64 0))] [])), (oW 25 (.alloc [(.pv (.sl .nil 0 [])), (.pv (.sl .nil 0 [])),
  (.pv (.int .i64 0))])), (sW (.store 3 (T 25) (T 123)))])) (.seq (.seq (.tr (rl [2, 0, 0, 0, 0, 5, 0, 0, 0, 0, 0, 0, 0, 0, 0, 0, 2, 99]) false (.region false
  [(oP 124 (.mv (T 11))), (oP 125 (.un .not (T 124)))])) (.tr (rl [2, 0, 0, 0, 0, 3, 1, 0, 0, 0, 0, 0, 0, 0, 0, 0, 0, 2]) false (.cond (T 125) (.seq (.tr (rl
  [10]) false (.region false [(oP 126 (.mv (T 13))), (oP 127 (.bin .eql (T 126) (tI 1))), (oP 128 (.mv (T 127))), (.mk (some 129) (.mv (T 16)) (some (128,
  true)) .p), (.mk (some 130) (.mv (T 13)) (some (128, true)) .p), (.mk (some 131) (.bin .eql (T 129) (T 130)) (some (128, true)) .p), (oP 132 (.pick (T 128) (T
  131) (.lit (.c (.pv (.bool false)))))), (oP 133 (.mv (T 132))), (.mk (some 134) (.mv (T 18)) (some (133, true)) .p), (.mk (some 135) (.mv (T 13)) (some (133,
  true)) .p), (.mk (some 136) (.bin .eql (T 134) (T 135)) (some (133, true)) .p), (oP 137 (.pick (T 133) (T 136) (.lit (.c (.pv (.bool false)))))), (oP 138 (.mv
  (T 137))), (.mk (some 139) (.mv (T 20)) (some (138, true)) .p), (.mk (some 140) (.mv (T 13)) (some (138, true)) .p), (.mk (some 141) (.bin .eql (T 139) (T
  140)) (some (138, true)) .p), (oP 142 (.pick (T 138) (T 141) (.lit (.c (.pv (.bool false)))))), (oP 143 (.mv (T 142))), (.mk (some 144) (.mv (T 22)) (some
  (143, true)) .p), (.mk (some 145) (.un .not (T 144)) (some (143, true)) .p), (oP 146 (.pick (T 143) (T 145) (.lit (.c (.pv (.bool false)))))), (oP 147 (.mv (T
  146))), (.mk (some 148) (.mv (T 21)) (some (147, true)) .p), (.mk (some 149) (.bin .eql (T 148) (tI 0)) (some (147, true)) .p), (oP 150 (.pick (T 147) (T 149)
  (.lit (.c (.pv (.bool false)))))), (oP 151 (.mv (T 150))), (.mk (some 152) (.mv (T 15)) (some (151, true)) .p), (.mk (some 153) (.bin .eql (T 152) (tI 0))
  (some (151, true)) .p), (oP 154 (.pick (T 151) (T 153) (.lit (.c (.pv (.bool false)))))), (oP 155 (.mv (T 154))), (.mk (some 156) (.mv (T 19)) (some (155,
  true)) .p), (.mk (some 157) (.len (T 156)) (some (155, true)) .p), (.mk (some 158) (.bin .eql (T 157) (tI 0)) (some (155, true)) .p), (oP 159 (.pick (T 155)
  (T 158) (.lit (.c (.pv (.bool false)))))), (oP 160 (.mv (T 159))), (.mk (some 161) (.load true 3 (T 12)) (some (160, true)) .r), (.mk (some 162) (.load true 3
  (T 25)) (some (160, true)) .r), (.mk (some 163) (.call false [] (.lit (.c (.fn 23 []))) [(T 161), (T 162)]) (some (160, true)) .p), (oP 164 (.pick (T 160) (T
  163) (.lit (.c (.pv (.bool false)))))), (oP 165 (.mv (T 164))), (.mk (some 166) (.load true 3 (T 14)) (some (165, true)) .r), (.mk (some 167) (.load true 3 (T
  25)) (some (165, true)) .r), (.mk (some 168) (.call false [] (.lit (.c (.fn 23 []))) [(T 166), (T 167)]) (some (165, true)) .p), (oP 169 (.pick (T 165) (T
  168) (.lit (.c (.pv (.bool false)))))), (oP 170 (.mv (T 169))), (.mk (some 171) (.load true 3 (T 17)) (some (170, true)) .r), (.mk (some 172) (.load true 3 (T
  25)) (some (170, true)) .r), (.mk (some 173) (.call false [] (.lit (.c (.fn 23 []))) [(T 171), (T 172)]) (some (170, true)) .p), (oP 174 (.pick (T 170) (T
  173) (.lit (.c (.pv (.bool false)))))), (oP 10 (.mv (T 174)))])) (.tr (rl [10]) false .ret)) .skip))) (.seq (.tr (rl [2, 0, 0, 0, 0, 5, 0, 0, 0, 0, 0, 0, 0,
  0, 0, 0, 2, 0]) false (.region false [(oP 175 (.faddr 0 (T 5))), (oP 176 (.faddr 0 (T 175))), (oR 177 (.load false 1 (T 176))), (oR 178 (.load true 7 (T 6))),
  (oP 179 (.call false [] (.lit (.c (.fn 24 []))) [(T 177), (T 178)])), (oP 26 (.mv (T 179)))])) (.seq (.seq (.tr (rl [2, 0, 0, 0, 8, 0, 0, 0, 0, 0, 0, 0, 0, 2,
  189]) false (.region true [(oP 180 (.mv (T 13))), (oP 181 (.mv (T 26))), (oP 182 (.bin .neq (T 180) (T 181))), (oP 183 (.mv (T 182))), (.mk (some 184) (.mv (T
  26)) (some (183, false)) .p), (.mk (some 185) (.bin .neq (T 184) (tI 0)) (some (183, false)) .p), (.mk (some 186) (.mv (T 185)) (some (183, false)) .p), (.mk
  (some 187) (.load true 3 (T 12)) (some (186, true)) .r), (.mk (some 188) (.load true 3 (T 25)) (some (186, true)) .r), (.mk (some 189) (.call false [] (.lit
  (.c (.fn 23 []))) [(T 187), (T 188)]) (some (186, true)) .p), (.mk (some 190) (.un .not (T 189)) (some (186, true)) .p), (.mk (some 191) (.pick (T 186) (T
  190) (.lit (.c (.pv (.bool false))))) (some (183, false)) .p), (oP 192 (.pick (T 183) (.lit (.c (.pv (.bool true)))) (T 191))), (oP 193 (.mv (T 192))), (.mk
  (some 194) (.mv (T 26)) (some (193, false)) .p), (.mk (some 195) (.bin .eql (T 194) (tI 0)) (some (193, false)) .p), (.mk (some 196) (.mv (T 195)) (some (193,
  false)) .p), (.mk (some 197) (.load true 3 (T 12)) (some (196, true)) .r), (.mk (some 198) (.buildSl [(.pv (.int .i64 0)), (.pv (.int .i32 0)), (.pv (.int
  .i32 0)), (.pv (.sl .nil 0 [])), (.pv (.int .i64 0)), (.pv (.int .i64 0)), (.pv (.str []))] 0 7 []) (some (196, true)) .p), (.mk (some 199) (.faddr 0 (T 5))
  (some (196, true)) .p), (.mk (some 200) (.faddr 0 (T 199)) (some (196, true)) .p), (.mk (some 201) (.load false 1 (T 200)) (some (196, true)) .r), (.mk (some
  203) (.load true 7 (T 6)) (some (196, true)) .r), (.mk (some 204) (.buildSl [(.pv (.int .i64 0)), (.pv (.int .i32 0)), (.pv (.int .i32 0)), (.pv (.sl .nil 0
  [])), (.pv (.int .i64 0)), (.pv (.int .i64 0)), (.pv (.str []))] 1 7 [(0, (7, (T 203)))]) (some (196, true)) .p), (.mk (some 207) (.faddr 1 (T 5)) (some (196,
  true)) .p), (.mk (some 208) (.load false 1 (T 207)) (some (196, true)) .r), (.mk (some 209) (.faddr 2 (T 5)) (some (196, true)) .p), (.mk (some 210) (.load
  false 1 (T 209)) (some (196, true)) .r), (.mk (some 202) (.app 7 72 (T 198) (T 201)) (some (196, true)) .w), (.mk (some 205) (.app 7 72 (T 202) (T 204)) (some
  (196, true)) .w), (.mk (some 206) (.build [(.pv (.sl .nil 0 []))] [(0, (1, (T 205)))]) (some (196, true)) .p), (.mk (some 211) (.build [(.pv (.sl .nil 0 [])),
  (.pv (.sl .nil 0 [])), (.pv (.int .i64 0))] [(0, (1, (T 206))), (1, (1, (T 208))), (2, (1, (T 210)))]) (some (196, true)) .p), (.mk (some 212) (.call false []
  (.lit (.c (.fn 23 []))) [(T 197), (T 211)]) (some (196, true)) .p), (.mk (some 213) (.un .not (T 212)) (some (196, true)) .p), (.mk (some 214) (.pick (T 196)
  (T 213) (.lit (.c (.pv (.bool false))))) (some (193, false)) .p), (oP 215 (.pick (T 193) (.lit (.c (.pv (.bool true)))) (T 214)))])) (.tr (rl [2, 0, 0, 0, 4,
  3, 0, 0, 0, 0, 0, 0, 0, 0, 2]) false (.cond (T 215) (.seq (.region false [(oP 10 (.mv (.lit (.c (.pv (.bool false))))))]) (.tr (rl [10]) false .ret)) .skip)))
  (.seq (.tr (rl [2, 2, 8, 0, 0, 0, 0, 0, 0, 0, 0, 2, 1, 0]) false (.region false [(oR 217 (.load true 3 (T 5))), (oP 218 (.mv (T 3))), (oP 219 (.mv (T 4))),
  (oP 220 (.call false [] (.lit (.c (.fn 25 []))) [(T 217), (T 218), (T 219)])), (oP 216 (.mv (T 220))), (oP 221 (.extr 0 (T 216))), (oP 222 (.extr 1 (T 216))),
  (oW 27 (.alloc [(.pv (.sl .nil 0 [])), (.pv (.sl .nil 0 [])), (.pv (.int .i64 0))])), (sW (.store 3 (T 27) (T 221))), (oP 28 (.mv (T 222)))])) (.seq (.seq
  (.tr (rl [2, 2, 11, 0, 0, 0, 4, 243]) false (.region false [(oP 223 (.mv (T 16))), (oP 224 (.mv (T 28))), (oP 225 (.bin .neq (T 223) (T 224))), (oP 226 (.mv
  (T 225))), (.mk (some 227) (.load true 3 (T 14)) (some (226, false)) .r), (.mk (some 228) (.load true 3 (T 27)) (some (226, false)) .r), (.mk (some 229)
  (.call false [] (.lit (.c (.fn 23 []))) [(T 227), (T 228)]) (some (226, false)) .p), (.mk (some 230) (.un .not (T 229)) (some (226, false)) .p), (oP 231
  (.pick (T 226) (.lit (.c (.pv (.bool true)))) (T 230))), (oP 232 (.mv (T 231))), (.mk (some 233) (.mv (T 16)) (some (232, false)) .p), (.mk (some 234) (.bin
  .eql (T 233) (tI 0)) (some (232, false)) .p), (.mk (some 235) (.mv (T 234)) (some (232, false)) .p), (.mk (some 236) (.mv (T 15)) (some (235, true)) .p), (.mk
  (some 237) (.faddr 2 (T 5)) (some (235, true)) .p), (.mk (some 238) (.load false 1 (T 237)) (some (235, true)) .r), (.mk (some 239) (.bin .neq (T 236) (T
  238)) (some (235, true)) .p), (.mk (some 240) (.pick (T 235) (T 239) (.lit (.c (.pv (.bool false))))) (some (232, false)) .p), (oP 241 (.pick (T 232) (.lit
  (.c (.pv (.bool true)))) (T 240))), (oP 242 (.mv (T 241))), (.mk (some 243) (.mv (T 16)) (some (242, false)) .p), (.mk (some 244) (.bin .neq (T 243) (tI 0))
  (some (242, false)) .p), (.mk (some 245) (.mv (T 244)) (some (242, false)) .p), (.mk (some 246) (.mv (T 15)) (some (245, true)) .p), (.mk (some 247) (.bin
  .neq (T 246) (tI 0)) (some (245, true)) .p), (.mk (some 248) (.pick (T 245) (T 247) (.lit (.c (.pv (.bool false))))) (some (242, false)) .p), (oP 249 (.pick
  (T 242) (.lit (.c (.pv (.bool true)))) (T 248))), (oP 250 (.mv (T 249))), (.mk (some 251) (.mv (T 22)) (some (250, false)) .p), (.mk (some 252) (.faddr 1 (T
  5)) (some (250, false)) .p), (.mk (some 253) (.load false 1 (T 252)) (some (250, false)) .r), (.mk (some 254) (.len (T 253)) (some (250, false)) .p), (.mk
  (some 255) (.bin .gtr (T 254) (tI 0)) (some (250, false)) .p), (.mk (some 256) (.eqB true (T 251) (T 255)) (some (250, false)) .p), (oP 257 (.pick (T 250)
  (.lit (.c (.pv (.bool true)))) (T 256))), (oP 258 (.mv (T 257))), (.mk (some 259) (.mv (T 22)) (some (258, false)) .p), (.mk (some 260) (.mv (T 259)) (some
  (258, false)) .p), (.mk (some 261) (.mv (T 21)) (some (260, true)) .p), (.mk (some 262) (.faddr 1 (T 5)) (some (260, true)) .p), (.mk (some 263) (.load false
  1 (T 262)) (some (260, true)) .r), (.mk (some 264) (.iaddrS 4 (T 263) (tI 0)) (some (260, true)) .p), (.mk (some 265) (.faddr 1 (T 264)) (some (260, true))
  .p), (.mk (some 266) (.load false 1 (T 265)) (some (260, true)) .r), (.mk (some 267) (.bin .neq (T 261) (T 266)) (some (260, true)) .p), (.mk (some 268)
  (.pick (T 260) (T 267) (.lit (.c (.pv (.bool false))))) (some (258, false)) .p), (oP 269 (.pick (T 258) (.lit (.c (.pv (.bool true)))) (T 268)))])) (.tr (rl
  [2, 2, 4, 6, 0, 0, 0, 4]) false (.cond (T 269) (.seq (.region false [(oP 10 (.mv (.lit (.c (.pv (.bool false))))))]) (.tr (rl [10]) false .ret)) .skip)))
  (.seq (.tr (rl [5, 11, 0, 0, 0, 4, 3]) false (.region false [(oR 270 (.load true 3 (T 5))), (oP 271 (.mv (T 2))), (oP 272 (.call false [] (.lit (.c (.fn 26
  []))) [(T 270), (T 271)])), (oP 29 (.mv (T 272)))])) (.seq (.seq (.tr (rl [5, 11, 0, 0, 0, 4, 3, 244]) false (.region false [(oP 273 (.mv (T 29))), (oP 274
  (.bin .lss (T 273) (tI 0)))])) (.tr (rl [5, 4, 6, 0, 0, 0, 8]) false (.cond (T 274) (.seq (.tr (rl [10]) false (.region false [(oP 275 (.mv (T 18))), (oP 276
  (.bin .eql (T 275) (tI 8))), (oP 277 (.mv (T 276))), (.mk (some 278) (.mv (T 20)) (some (277, true)) .p), (.mk (some 279) (.mv (T 18)) (some (277, true)) .p),
  (.mk (some 280) (.bin .eql (T 278) (T 279)) (some (277, true)) .p), (oP 281 (.pick (T 277) (T 280) (.lit (.c (.pv (.bool false)))))), (oP 282 (.mv (T 281))),
  (.mk (some 283) (.load true 3 (T 17)) (some (282, true)) .r), (.mk (some 284) (.load true 3 (T 25)) (some (282, true)) .r), (.mk (some 285) (.call false []
  (.lit (.c (.fn 23 []))) [(T 283), (T 284)]) (some (282, true)) .p), (oP 286 (.pick (T 282) (T 285) (.lit (.c (.pv (.bool false)))))), (oP 287 (.mv (T 286))),
  (.mk (some 288) (.mv (T 19)) (some (287, true)) .p), (.mk (some 289) (.len (T 288)) (some (287, true)) .p), (.mk (some 290) (.bin .eql (T 289) (tI 0)) (some
  (287, true)) .p), (oP 291 (.pick (T 287) (T 290) (.lit (.c (.pv (.bool false)))))), (oP 10 (.mv (T 291)))])) (.tr (rl [10]) false .ret)) .skip))) (.seq (.tr
  (rl [10]) false (.region true [(oP 292 (.mv (T 18))), (oP 293 (.bin .eql (T 292) (tI 0))), (oP 294 (.mv (T 293))), (.mk (some 295) (.mv (T 20)) (some (294,
  true)) .p), (.mk (some 296) (.mv (T 18)) (some (294, true)) .p), (.mk (some 297) (.bin .eql (T 295) (T 296)) (some (294, true)) .p), (oP 298 (.pick (T 294) (T
  297) (.lit (.c (.pv (.bool false)))))), (oP 299 (.mv (T 298))), (.mk (some 300) (.load true 3 (T 17)) (some (299, true)) .r), (.mk (some 301) (.load true 3 (T
  5)) (some (299, true)) .r), (.mk (some 302) (.mv (T 29)) (some (299, true)) .p), (.mk (some 303) (.call false [] (.lit (.c (.fn 27 []))) [(T 301), (T 302)])
  (some (299, true)) .p), (.mk (some 304) (.call false [] (.lit (.c (.fn 23 []))) [(T 300), (T 303)]) (some (299, true)) .p), (oP 305 (.pick (T 299) (T 304)
  (.lit (.c (.pv (.bool false)))))), (oP 306 (.mv (T 305))), (.mk (some 307) (.mv (T 19)) (some (306, true)) .p), (.mk (some 308) (.load true 3 (T 5)) (some
  (306, true)) .r), (.mk (some 309) (.mv (T 29)) (some (306, true)) .p), (.mk (some 310) (.call false [] (.lit (.c (.fn 29 []))) [(T 308), (T 309)]) (some (306,
  true)) .p), (.mk (some 311) (.call false [] (.lit (.c (.fn 28 []))) [(T 307), (T 310)]) (some (306, true)) .p), (oP 312 (.pick (T 306) (T 311) (.lit (.c (.pv
  (.bool false)))))), (oP 10 (.mv (T 312)))])) (.tr (rl [10]) false .ret)))))))))))))))))))))
theorem xf3_ok : cmpFunc Go.Proofs.Tryd.prog 3 ((.two (.tr (rl [2, 0, 0, 0, 0]) false .no) (.two (.two (.tr (rl [2, 0, 0, 0, 0, 39]) false (.ops [{}, {}, {}, { cls := some .p }, {}, {}, {}, {}, { cls := some .p }])) (.tr (rl [2, 0, 0, 0, 0, 3]) false (.two (.two (.tr (rl [10]) false (.ops [{ cls := some .p }])) (.tr (rl [10]) false .no)) .no))) (.two (.tr (rl [2, 0, 0, 0, 0, 4]) false (.ops [{}, { cls := some .p }])) (.two (.tr (rl [2, 0, 0, 0, 0, 4, 0, 0]) false (.ops [{}, {}, { cls := some .p }])) (.two (.tr (rl [2, 0, 0, 0, 0, 4, 0, 0, 0, 0, 0]) false (.ops [{}, {}, {}, { cls := some .p }])) (.two (.tr (rl [2, 0, 0, 0, 0, 4, 0, 0, 0, 0, 0, 0, 0]) false (.ops [{}, {}, { cls := some .p }])) (.two (.tr (rl [2, 0, 0, 0, 0, 4, 0, 0, 0, 0, 0, 0, 0, 0, 0]) false (.ops [{}, {}, { cls := some .p }])) (.two (.tr (rl [2, 0, 0, 0, 0, 4, 0, 0, 0, 0, 0, 0, 0, 0, 0, 0, 0]) false (.ops [{}, { cls := some .p }])) (.two (.tr (rl [2, 0, 0, 0, 0, 4, 0, 0, 0, 0, 0, 0, 0, 0, 0, 0, 0, 0, 0]) false (.ops [{}, {}, { cls := some .p }])) (.two (.two (.tr (rl [2, 0, 0, 0, 0, 4, 0, 0, 0, 0, 0, 0, 0, 0, 0, 0, 0, 99]) false (.ops [{ cls := some .p }, {}, {}, {}, { cls := some .p }, {}, {}, {}, {}, {}, {}, {}, {}, { cls := some .p }, {}, {}, {}, {}, {}, {}, {}, {}, {}, {}, { cls := some .p }])) (.tr (rl [2, 0, 0, 0, 0, 3, 0, 0, 0, 0, 0, 0, 0, 0, 0, 0, 0, 0]) false (.two (.two .no (.tr (rl [10]) false .no)) .no))) (.two (.tr (rl [2, 0, 0, 0, 0, 4, 0, 0, 0, 0, 0, 0, 0, 0, 0, 0, 0, 2]) false .no) (.two (.two (.tr (rl [2, 0, 0, 0, 0, 5, 0, 0, 0, 0, 0, 0, 0, 0, 0, 0, 2, 99]) false .no) (.tr (rl [2, 0, 0, 0, 0, 3, 1, 0, 0, 0, 0, 0, 0, 0, 0, 0, 0, 2]) false (.two (.two (.tr (rl [10]) false (.ops [{}, {}, {}, {}, {}, {}, {}, {}, {}, {}, {}, {}, {}, {}, {}, {}, {}, {}, {}, {}, {}, {}, {}, {}, {}, {}, {}, {}, {}, {}, {}, {}, {}, {}, {}, {}, {}, { cls := some .p }, {}, {}, {}, {}, { cls := some .p }, {}, {}, {}, {}, { cls := some .p }])) (.tr (rl [10]) false .no)) .no))) (.two (.tr (rl [2, 0, 0, 0, 0, 5, 0, 0, 0, 0, 0, 0, 0, 0, 0, 0, 2, 0]) false (.ops [{}, {}, {}, {}, { cls := some .p }])) (.two (.two (.tr (rl [2, 0, 0, 0, 8, 0, 0, 0, 0, 0, 0, 0, 0, 2, 189]) false (.draw [0, 1, 2, 3, 4, 5, 6, 7, 8, 9, 10, 11, 12, 13, 14, 15, 16, 17, 18, 19, 20, 21, 23, 24, 27, 28, 29, 30, 22, 25, 26, 31, 32, 33, 34, 35] [{}, {}, {}, {}, {}, {}, {}, {}, {}, { cls := some .p }, {}, {}, {}, {}, {}, {}, {}, {}, {}, {}, {}, {}, {}, {}, {}, {}, {}, {}, {}, {}, {}, {}, { cls := some .p }])) (.tr (rl [2, 0, 0, 0, 4, 3, 0, 0, 0, 0, 0, 0, 0, 0, 2]) false (.two (.two .no (.tr (rl [10]) false .no)) .no))) (.two (.tr (rl [2, 2, 8, 0, 0, 0, 0, 0, 0, 0, 0, 2, 1, 0]) false (.ops [{}, {}, {}, { cls := some .p }])) (.two (.two (.tr (rl [2, 2, 11, 0, 0, 0, 4, 243]) false (.ops [{}, {}, {}, {}, {}, {}, { cls := some .p }])) (.tr (rl [2, 2, 4, 6, 0, 0, 0, 4]) false (.two (.two .no (.tr (rl [10]) false .no)) .no))) (.two (.tr (rl [5, 11, 0, 0, 0, 4, 3]) false (.ops [{}, {}, { cls := some .p }])) (.two (.two (.tr (rl [5, 11, 0, 0, 0, 4, 3, 244]) false .no) (.tr (rl [5, 4, 6, 0, 0, 0, 8]) false (.two (.two (.tr (rl [10]) false (.ops [{}, {}, {}, {}, {}, {}, {}, {}, {}, {}, { cls := some .p }])) (.tr (rl [10]) false .no)) .no))) (.two (.tr (rl [10]) false (.draw [0, 1, 2, 3, 4, 5, 6, 7, 8, 9, 10, 11, 12, 13, 14, 15, 16, 17, 18, 19, 20, 21] [{}, {}, {}, {}, {}, {}, {}, {}, {}, {}, {}, { cls := some .p }, { cls := some .p }, {}, {}, {}, {}, {}, { cls := some .p }, { cls := some .p }])) (.tr (rl [10]) false .no))))))))))))))))))))) = some xf3 := by kernel_rfl
def xf12_l0 : XCode :=
(.seq (.region false [(oP 11 (.bin .lss (T 10) (T 9)))]) (.seq (.tr (rl [8, 0, 0]) false (.cond (T 11) .skip (.tr [] false (.exit 0)))) (.seq (.tr (rl [2, 5, 0,
  0]) false (.block 1 (.seq (.tr (rl [4, 3, 0, 0]) false (.region false [(oP 12 (.iaddrS 7 (T 8) (T 10))), (oR 13 (.load true 7 (T 12))), (oW 4 (.alloc [(.pv
  (.int .i64 0)), (.pv (.int .i32 0)), (.pv (.int .i32 0)), (.pv (.sl .nil 0 [])), (.pv (.int .i64 0)), (.pv (.int .i64 0)), (.pv (.str []))])), (sW (.store 7
  (T 4) (T 13)))])) (.seq (.tr (rl [8, 0, 0, 5]) false (.region false [(oR 14 (.load true 7 (T 4))), (oP 15 (.call false [] (.lit (.c (.fn 52 []))) [(T 14)])),
  (oP 16 (.un .not (T 15)))])) (.tr (rl [2, 5, 0, 0]) false (.cond (T 16) (.seq (.region false [(oP 2 (.mv (.lit (.c (.pv (.bool false))))))]) (.tr (rl [2])
  false .ret)) .skip)))))) (.tr (rl [8, 0, 0]) false (.region false [(oP 17 (.bin .add (T 10) (tI 1))), (oP 10 (.mv (T 17)))])))))
def xf12 : XFunc :=
(.mk 18 [(.tmp 2)] (.seq (.tr (rl [0]) false (.region false [(oP 2 (.mv (.lit (.c (.pv (.bool false))))))])) (.seq (.seq (.tr (rl [0, 6]) false (.region false
  [(oP 5 (.mv (T 0))), (oP 6 (.len (T 5))), (oP 7 (.bin .gtr (T 6) (tI 60)))])) (.tr (rl [0, 1]) false (.cond (T 7) (.seq (.region false [(oP 2 (.mv (.lit (.c
  (.pv (.bool false))))))]) (.tr (rl [2]) false .ret)) .skip))) (.seq (.seq (.tr (rl [8, 0, 0]) false (.region false [(oP 8 (.mv (T 0))), (oP 9 (.len (T 8))),
  (oP 10 (.mv (tI 0)))])) (.tr (rl [2]) false (.block 0 (.loop (rl [8, 0, 0]) xf12_l0)))) (.seq (.region false [(oP 2 (.mv (.lit (.c (.pv (.bool true))))))])
  (.tr (rl [2]) false .ret))))))
theorem xf12_ok : cmpFunc Go.Proofs.Tryd.prog 12 ((.two (.tr (rl [0]) false .no) (.two (.two (.tr (rl [0, 6]) false .no) (.tr (rl [0, 1]) false (.two (.two .no (.tr (rl [2]) false .no)) .no))) (.two (.two (.tr (rl [8, 0, 0]) false .no) (.tr (rl [2]) false (.loop (rl [8, 0, 0]) (.two .no (.two (.tr (rl [8, 0, 0]) false (.two .no (.tr [] false .no))) (.two (.tr (rl [2, 5, 0, 0]) false (.two (.tr (rl [4, 3, 0, 0]) false .no) (.two (.tr (rl [8, 0, 0, 5]) false (.ops [{}, { cls := some .p }])) (.tr (rl [2, 5, 0, 0]) false (.two (.two .no (.tr (rl [2]) false .no)) .no))))) (.tr (rl [8, 0, 0]) false .no))))))) (.two .no (.tr (rl [2]) false .no)))))) = some xf12 := by kernel_rfl
def xf13 : XFunc :=
(.mk 181 [(.tmp 0)] (.seq (.tr [] false (.region false [(oP 0 (.mv (.lit (.c (.pv (.bool false))))))])) (.seq (.tr (rl [1, 0]) false (.region false [(oP 26
  (.build [(.pv (.sl .nil 0 []))] [])), (oP 27 (.call false [] (.lit (.c (.fn 20 []))) [(T 26)])), (oP 25 (.mv (T 27))), (oP 28 (.extr 0 (T 25))), (oP 29 (.extr
  1 (T 25))), (oW 1 (.alloc [(.pv (.sl .nil 0 [])), (.pv (.sl .nil 0 [])), (.pv (.int .i64 0))])), (sW (.store 3 (T 1) (T 28))), (oP 2 (.mv (T 29)))])) (.seq
  (.tr (rl [1, 0, 0, 0]) false (.region false [(oR 31 (.load true 3 (T 1))), (oP 32 (.call false [] (.lit (.c (.fn 16 []))) [(T 31), (.lit (.c (.pv (.int .i32
  9)))), (.lit (.c (.pv (.int .i32 9))))])), (oP 30 (.mv (T 32))), (oP 33 (.extr 0 (T 30))), (oP 34 (.extr 1 (T 30))), (oP 35 (.extr 2 (T 30))), (sW (.store 3
  (T 1) (T 33))), (oP 3 (.mv (T 34))), (oP 4 (.mv (T 35)))])) (.seq (.tr (rl [1, 0, 0, 0, 0]) false (.region true [(oR 37 (.load true 3 (T 1))), (oP 38 (.call
  false [] (.lit (.c (.fn 53 []))) [(tI 1), (.lit (.c (.pv (.int .i32 5)))), (.lit (.c (.pv (.int .i32 3)))), (tI 100)])), (oP 39 (.call false [] (.lit (.c (.fn
  15 []))) [(T 37), (T 38)])), (oP 36 (.mv (T 39))), (oP 40 (.extr 0 (T 36))), (oP 41 (.extr 1 (T 36))), (sW (.store 3 (T 1) (T 40))), (oP 5 (.mv (T 41)))]))
  (.seq (.tr (rl [1, 0, 0, 0, 0, 0, 0]) false (.region false [(oR 43 (.load true 3 (T 1))), (oP 44 (.call false [] (.lit (.c (.fn 16 []))) [(T 43), (.lit (.c
  (.pv (.int .i32 9)))), (.lit (.c (.pv (.int .i32 9))))])), (oP 42 (.mv (T 44))), (oP 45 (.extr 0 (T 42))), (oP 46 (.extr 1 (T 42))), (oP 47 (.extr 2 (T 42))),
  (sW (.store 3 (T 1) (T 45))), (oP 6 (.mv (T 46))), (oP 7 (.mv (T 47)))])) (.seq (.tr (rl [1, 0, 0, 0, 0, 0, 0, 0, 0]) false (.region false [(oR 49 (.load true
  3 (T 1))), (oP 50 (.mv (T 3))), (oP 51 (.call false [] (.lit (.c (.fn 18 []))) [(T 49), (T 50)])), (oP 48 (.mv (T 51))), (oP 52 (.extr 0 (T 48))), (oP 53
  (.extr 1 (T 48))), (oP 8 (.mv (T 52))), (oP 9 (.mv (T 53)))])) (.seq (.tr (rl [1, 0, 0, 0, 0, 0, 0, 0, 0, 0, 0]) false (.region false [(oR 55 (.load true 3 (T
  1))), (oP 56 (.mv (T 6))), (oP 57 (.call false [] (.lit (.c (.fn 18 []))) [(T 55), (T 56)])), (oP 54 (.mv (T 57))), (oP 58 (.extr 0 (T 54))), (oP 59 (.extr 1
  (T 54))), (oP 10 (.mv (T 58))), (oP 11 (.mv (T 59)))])) (.seq (.tr (rl [1, 0, 0, 0, 0, 0, 0, 0, 0, 0, 0, 0, 0]) false (.region false [(oR 61 (.load true 3 (T
  1))), (oP 62 (.mv (T 6))), (oP 63 (.call false [] (.lit (.c (.fn 32 []))) [(T 61), (T 62), (tI 2), (tI 0)])), (oP 60 (.mv (T 63))), (oP 64 (.extr 0 (T 60))),
  (oP 65 (.extr 1 (T 60))), (oP 12 (.mv (T 64))), (oP 13 (.mv (T 65)))])) (.seq (.tr (rl [1, 0, 0, 0, 0, 0, 0, 0, 0, 0, 0, 0, 0, 0, 0]) false (.region false
  [(oR 67 (.load true 3 (T 1))), (oP 68 (.call false [] (.lit (.c (.fn 19 []))) [(T 67)])), (oP 66 (.mv (T 68))), (oP 69 (.extr 0 (T 66))), (oP 70 (.extr 1 (T
  66))), (oP 14 (.mv (T 69))), (oP 15 (.mv (T 70)))])) (.seq (.tr (rl [1, 0, 0, 0, 0, 0, 0, 0, 0, 0, 0, 0, 0, 0, 0, 0, 0]) false (.region false [(oR 72 (.load
  true 3 (T 1))), (oP 73 (.mv (T 3))), (oP 74 (.call false [] (.lit (.c (.fn 17 []))) [(T 72), (T 73)])), (oP 71 (.mv (T 74))), (oP 75 (.extr 0 (T 71))), (oP 76
  (.extr 1 (T 71))), (oW 16 (.alloc [(.pv (.sl .nil 0 [])), (.pv (.sl .nil 0 [])), (.pv (.int .i64 0))])), (sW (.store 3 (T 16) (T 75))), (oP 17 (.mv (T
  76)))])) (.seq (.tr (rl [1, 0, 0, 0, 0, 0, 0, 0, 0, 0, 0, 0, 0, 0, 0, 0, 0, 1]) false (.region false [(oR 78 (.load true 3 (T 16))), (oP 79 (.mv (T 3))), (oP
  80 (.call false [] (.lit (.c (.fn 18 []))) [(T 78), (T 79)])), (oP 77 (.mv (T 80))), (oP 81 (.extr 0 (T 77))), (oP 82 (.extr 1 (T 77))), (oP 18 (.mv (T 81))),
  (oP 19 (.mv (T 82)))])) (.seq (.tr (rl [1, 0, 0, 0, 0, 0, 0, 0, 0, 0, 0, 0, 0, 0, 0, 0, 0, 1, 2]) false (.region false [(oR 84 (.load true 3 (T 1))), (oP 85
  (.call false [] (.lit (.c (.fn 16 []))) [(T 84), (.lit (.c (.pv (.int .i32 50001)))), (.lit (.c (.pv (.int .i32 0))))])), (oP 83 (.mv (T 85))), (oP 86 (.extr
  0 (T 83))), (oP 87 (.extr 1 (T 83))), (oP 88 (.extr 2 (T 83))), (oW 20 (.alloc [(.pv (.sl .nil 0 [])), (.pv (.sl .nil 0 [])), (.pv (.int .i64 0))])), (sW
  (.store 3 (T 20) (T 86))), (oP 21 (.mv (T 87))), (oP 22 (.mv (T 88)))])) (.seq (.tr (rl [1, 0, 0, 0, 0, 0, 0, 0, 0, 0, 0, 0, 0, 0, 0, 0, 0, 1, 2, 1]) false
  (.region true [(oR 90 (.load true 3 (T 1))), (oP 91 (.call false [] (.lit (.c (.fn 53 []))) [(tI 1), (.lit (.c (.pv (.int .i32 5)))), (.lit (.c (.pv (.int
  .i32 3)))), (tI 100)])), (oP 92 (.call false [] (.lit (.c (.fn 15 []))) [(T 90), (T 91)])), (oP 89 (.mv (T 92))), (oP 93 (.extr 0 (T 89))), (oP 94 (.extr 1 (T
  89))), (oW 23 (.alloc [(.pv (.sl .nil 0 [])), (.pv (.sl .nil 0 [])), (.pv (.int .i64 0))])), (sW (.store 3 (T 23) (T 93))), (oP 24 (.mv (T 94)))])) (.seq (.tr
  (rl [0]) false (.region false [(oP 95 (.mv (T 2))), (oP 96 (.bin .eql (T 95) (tI 0))), (oP 97 (.mv (T 96))), (.mk (some 98) (.mv (T 3)) (some (97, true)) .p),
  (.mk (some 99) (.bin .eql (T 98) (tI 1)) (some (97, true)) .p), (oP 100 (.pick (T 97) (T 99) (.lit (.c (.pv (.bool false)))))), (oP 101 (.mv (T 100))), (.mk
  (some 102) (.mv (T 4)) (some (101, true)) .p), (.mk (some 103) (.bin .eql (T 102) (tI 0)) (some (101, true)) .p), (oP 104 (.pick (T 101) (T 103) (.lit (.c
  (.pv (.bool false)))))), (oP 105 (.mv (T 104))), (.mk (some 106) (.mv (T 5)) (some (105, true)) .p), (.mk (some 107) (.bin .eql (T 106) (tI 0)) (some (105,
  true)) .p), (oP 108 (.pick (T 105) (T 107) (.lit (.c (.pv (.bool false)))))), (oP 109 (.mv (T 108))), (.mk (some 110) (.mv (T 6)) (some (109, true)) .p), (.mk
  (some 111) (.bin .eql (T 110) (tI 2)) (some (109, true)) .p), (oP 112 (.pick (T 109) (T 111) (.lit (.c (.pv (.bool false)))))), (oP 113 (.mv (T 112))), (.mk
  (some 114) (.mv (T 7)) (some (113, true)) .p), (.mk (some 115) (.bin .eql (T 114) (tI 0)) (some (113, true)) .p), (oP 116 (.pick (T 113) (T 115) (.lit (.c
  (.pv (.bool false)))))), (oP 117 (.mv (T 116))), (.mk (some 118) (.mv (T 8)) (some (117, true)) .p), (.mk (some 119) (.len (T 118)) (some (117, true)) .p),
  (.mk (some 120) (.bin .eql (T 119) (tI 0)) (some (117, true)) .p), (oP 121 (.pick (T 117) (T 120) (.lit (.c (.pv (.bool false)))))), (oP 122 (.mv (T 121))),
  (.mk (some 123) (.mv (T 9)) (some (122, true)) .p), (.mk (some 124) (.bin .eql (T 123) (tI 0)) (some (122, true)) .p), (oP 125 (.pick (T 122) (T 124) (.lit
  (.c (.pv (.bool false)))))), (oP 126 (.mv (T 125))), (.mk (some 127) (.mv (T 10)) (some (126, true)) .p), (.mk (some 128) (.len (T 127)) (some (126, true))
  .p), (.mk (some 129) (.bin .eql (T 128) (tI 1)) (some (126, true)) .p), (oP 130 (.pick (T 126) (T 129) (.lit (.c (.pv (.bool false)))))), (oP 131 (.mv (T
  130))), (.mk (some 132) (.mv (T 11)) (some (131, true)) .p), (.mk (some 133) (.bin .eql (T 132) (tI 0)) (some (131, true)) .p), (oP 134 (.pick (T 131) (T 133)
  (.lit (.c (.pv (.bool false)))))), (oP 135 (.mv (T 134))), (.mk (some 136) (.mv (T 12)) (some (135, true)) .p), (.mk (some 137) (.bin .eql (T 136) (tI 100))
  (some (135, true)) .p), (oP 138 (.pick (T 135) (T 137) (.lit (.c (.pv (.bool false)))))), (oP 139 (.mv (T 138))), (.mk (some 140) (.mv (T 13)) (some (139,
  true)) .p), (.mk (some 141) (.bin .eql (T 140) (tI 0)) (some (139, true)) .p), (oP 142 (.pick (T 139) (T 141) (.lit (.c (.pv (.bool false)))))), (oP 143 (.mv
  (T 142))), (.mk (some 144) (.mv (T 14)) (some (143, true)) .p), (.mk (some 145) (.bin .eql (T 144) (tI 0)) (some (143, true)) .p), (oP 146 (.pick (T 143) (T
  145) (.lit (.c (.pv (.bool false)))))), (oP 147 (.mv (T 146))), (.mk (some 148) (.mv (T 15)) (some (147, true)) .p), (oP 149 (.pick (T 147) (T 148) (.lit (.c
  (.pv (.bool false)))))), (oP 150 (.mv (T 149))), (.mk (some 151) (.mv (T 17)) (some (150, true)) .p), (.mk (some 152) (.bin .eql (T 151) (tI 0)) (some (150,
  true)) .p), (oP 153 (.pick (T 150) (T 152) (.lit (.c (.pv (.bool false)))))), (oP 154 (.mv (T 153))), (.mk (some 155) (.faddr 1 (T 16)) (some (154, true))
  .p), (.mk (some 156) (.load false 1 (T 155)) (some (154, true)) .r), (.mk (some 157) (.len (T 156)) (some (154, true)) .p), (.mk (some 158) (.bin .eql (T 157)
  (tI 1)) (some (154, true)) .p), (oP 159 (.pick (T 154) (T 158) (.lit (.c (.pv (.bool false)))))), (oP 160 (.mv (T 159))), (.mk (some 161) (.mv (T 19)) (some
  (160, true)) .p), (.mk (some 162) (.bin .eql (T 161) (tI 8)) (some (160, true)) .p), (oP 163 (.pick (T 160) (T 162) (.lit (.c (.pv (.bool false)))))), (oP 164
  (.mv (T 163))), (.mk (some 165) (.mv (T 22)) (some (164, true)) .p), (.mk (some 166) (.bin .eql (T 165) (tI 11)) (some (164, true)) .p), (oP 167 (.pick (T
  164) (T 166) (.lit (.c (.pv (.bool false)))))), (oP 168 (.mv (T 167))), (.mk (some 169) (.mv (T 24)) (some (168, true)) .p), (.mk (some 170) (.bin .eql (T
  169) (tI 25)) (some (168, true)) .p), (oP 171 (.pick (T 168) (T 170) (.lit (.c (.pv (.bool false)))))), (oP 172 (.mv (T 171))), (.mk (some 173) (.load true 3
  (T 1)) (some (172, true)) .r), (.mk (some 174) (.call false [] (.lit (.c (.fn 21 []))) [(T 173)]) (some (172, true)) .p), (oP 175 (.pick (T 172) (T 174) (.lit
  (.c (.pv (.bool false)))))), (oP 176 (.mv (T 175))), (.mk (some 177) (.build [(.pv (.sl .nil 0 [])), (.pv (.sl .nil 0 [])), (.pv (.int .i64 0))] []) (some
  (176, true)) .p), (.mk (some 178) (.call false [] (.lit (.c (.fn 21 []))) [(T 177)]) (some (176, true)) .p), (.mk (some 179) (.un .not (T 178)) (some (176,
  true)) .p), (oP 180 (.pick (T 176) (T 179) (.lit (.c (.pv (.bool false)))))), (oP 0 (.mv (T 180)))])) (.tr (rl [0]) false .ret))))))))))))))))
theorem xf13_ok : cmpFunc Go.Proofs.Tryd.prog 13 ((.two (.tr [] false .no) (.two (.tr (rl [1, 0]) false (.ops [{}, { cls := some .p }])) (.two (.tr (rl [1, 0, 0, 0]) false (.ops [{}, { cls := some .p }])) (.two (.tr (rl [1, 0, 0, 0, 0]) false (.draw [0, 1, 2, 3, 4, 5, 6, 7] [{}, { cls := some .p }, { cls := some .p }])) (.two (.tr (rl [1, 0, 0, 0, 0, 0, 0]) false (.ops [{}, { cls := some .p }])) (.two (.tr (rl [1, 0, 0, 0, 0, 0, 0, 0, 0]) false (.ops [{}, {}, { cls := some .p }])) (.two (.tr (rl [1, 0, 0, 0, 0, 0, 0, 0, 0, 0, 0]) false (.ops [{}, {}, { cls := some .p }])) (.two (.tr (rl [1, 0, 0, 0, 0, 0, 0, 0, 0, 0, 0, 0, 0]) false (.ops [{}, {}, { cls := some .p }])) (.two (.tr (rl [1, 0, 0, 0, 0, 0, 0, 0, 0, 0, 0, 0, 0, 0, 0]) false (.ops [{}, { cls := some .p }])) (.two (.tr (rl [1, 0, 0, 0, 0, 0, 0, 0, 0, 0, 0, 0, 0, 0, 0, 0, 0]) false (.ops [{}, {}, { cls := some .p }])) (.two (.tr (rl [1, 0, 0, 0, 0, 0, 0, 0, 0, 0, 0, 0, 0, 0, 0, 0, 0, 1]) false (.ops [{}, {}, { cls := some .p }])) (.two (.tr (rl [1, 0, 0, 0, 0, 0, 0, 0, 0, 0, 0, 0, 0, 0, 0, 0, 0, 1, 2]) false (.ops [{}, { cls := some .p }])) (.two (.tr (rl [1, 0, 0, 0, 0, 0, 0, 0, 0, 0, 0, 0, 0, 0, 0, 0, 0, 1, 2, 1]) false (.draw [0, 1, 2, 3, 4, 5, 6, 7, 8] [{}, { cls := some .p }, { cls := some .p }])) (.two (.tr (rl [0]) false (.ops [{}, {}, {}, {}, {}, {}, {}, {}, {}, {}, {}, {}, {}, {}, {}, {}, {}, {}, {}, {}, {}, {}, {}, {}, {}, {}, {}, {}, {}, {}, {}, {}, {}, {}, {}, {}, {}, {}, {}, {}, {}, {}, {}, {}, {}, {}, {}, {}, {}, {}, {}, {}, {}, {}, {}, {}, {}, {}, {}, {}, {}, {}, {}, {}, {}, {}, {}, {}, {}, {}, {}, {}, {}, {}, {}, {}, {}, {}, {}, { cls := some .p }, {}, {}, {}, { cls := some .p }])) (.tr (rl [0]) false .no)))))))))))))))) = some xf13 := by kernel_rfl
def xf14_l0 : XCode :=
(.seq (.seq (.tr (rl [1, 1, 25]) false (.region false [(oP 25 (.mv (T 3))), (oP 26 (.faddr 1 (T 1))), (oR 27 (.load false 1 (T 26))), (oP 28 (.len (T 27))), (oP
  29 (.bin .lss (T 25) (T 28)))])) (.tr (rl [1, 1]) false (.cond (T 29) .skip (.tr [] false (.exit 0))))) (.seq (.tr (rl [1, 0, 0]) false (.block 1 (.seq (.tr
  (rl [1, 1, 0]) false (.region false [(oP 32 (.faddr 1 (T 1))), (oR 33 (.load false 1 (T 32))), (oP 34 (.mv (T 3))), (oP 35 (.iaddrS 4 (T 33) (T 34))), (oR 36
  (.load true 4 (T 35))), (oW 4 (.alloc [(.pv (.int .i64 0)), (.pv (.int .i64 0)), (.pv (.int .i32 0)), (.pv (.int .i32 0))])), (sW (.store 4 (T 4) (T 36)))]))
  (.seq (.seq (.tr (rl [1, 1, 0, 67]) false (.region false [(oP 37 (.faddr 0 (T 4))), (oR 38 (.load false 1 (T 37))), (oP 39 (.bin .lss (T 38) (tI 1))), (oP 40
  (.mv (T 39))), (.mk (some 41) (.faddr 0 (T 4)) (some (40, false)) .p), (.mk (some 42) (.load false 1 (T 41)) (some (40, false)) .r), (.mk (some 43) (.faddr 2
  (T 1)) (some (40, false)) .p), (.mk (some 44) (.load false 1 (T 43)) (some (40, false)) .r), (.mk (some 45) (.bin .geq (T 42) (T 44)) (some (40, false)) .p),
  (oP 46 (.pick (T 40) (.lit (.c (.pv (.bool true)))) (T 45))), (oP 47 (.mv (T 46))), (.mk (some 48) (.faddr 1 (T 4)) (some (47, false)) .p), (.mk (some 49)
  (.load false 1 (T 48)) (some (47, false)) .r), (.mk (some 50) (.bin .lss (T 49) (tI 0)) (some (47, false)) .p), (oP 51 (.pick (T 47) (.lit (.c (.pv (.bool
  true)))) (T 50))), (oP 52 (.mv (T 51))), (.mk (some 53) (.faddr 1 (T 4)) (some (52, false)) .p), (.mk (some 54) (.load false 1 (T 53)) (some (52, false)) .r),
  (.mk (some 55) (.faddr 0 (T 1)) (some (52, false)) .p), (.mk (some 56) (.faddr 0 (T 55)) (some (52, false)) .p), (.mk (some 57) (.load false 1 (T 56)) (some
  (52, false)) .r), (.mk (some 58) (.len (T 57)) (some (52, false)) .p), (.mk (some 59) (.bin .gtr (T 54) (T 58)) (some (52, false)) .p), (oP 60 (.pick (T 52)
  (.lit (.c (.pv (.bool true)))) (T 59))), (oP 61 (.mv (T 60))), (.mk (some 62) (.faddr 2 (T 4)) (some (61, false)) .p), (.mk (some 63) (.load false 1 (T 62))
  (some (61, false)) .r), (.mk (some 64) (.call false [] (.lit (.c (.fn 54 []))) [(T 63)]) (some (61, false)) .p), (.mk (some 65) (.un .not (T 64)) (some (61,
  false)) .p), (oP 66 (.pick (T 61) (.lit (.c (.pv (.bool true)))) (T 65))), (oP 67 (.mv (T 66))), (.mk (some 68) (.faddr 3 (T 4)) (some (67, false)) .p), (.mk
  (some 69) (.load false 1 (T 68)) (some (67, false)) .r), (.mk (some 70) (.call false [] (.lit (.c (.fn 54 []))) [(T 69)]) (some (67, false)) .p), (.mk (some
  71) (.un .not (T 70)) (some (67, false)) .p), (oP 72 (.pick (T 67) (.lit (.c (.pv (.bool true)))) (T 71)))])) (.tr (rl [1, 0, 0, 0]) false (.cond (T 72) (.seq
  (.region false [(oP 2 (.mv (.lit (.c (.pv (.bool false))))))]) (.tr (rl [2]) false .ret)) .skip))) (.seq (.tr (rl [1, 1, 94]) false (.region true [(oP 73 (.mv
  (T 3))), (oP 74 (.bin .gtr (T 73) (tI 0))), (oP 75 (.mv (T 74))), (.mk (some 76) (.faddr 0 (T 4)) (some (75, true)) .p), (.mk (some 77) (.load false 1 (T 76))
  (some (75, true)) .r), (.mk (some 78) (.faddr 1 (T 1)) (some (75, true)) .p), (.mk (some 79) (.load false 1 (T 78)) (some (75, true)) .r), (.mk (some 80) (.mv
  (T 3)) (some (75, true)) .p), (.mk (some 81) (.bin .sub (T 80) (tI 1)) (some (75, true)) .p), (.mk (some 82) (.iaddrS 4 (T 79) (T 81)) (some (75, true)) .p),
  (.mk (some 83) (.faddr 0 (T 82)) (some (75, true)) .p), (.mk (some 84) (.load false 1 (T 83)) (some (75, true)) .r), (.mk (some 85) (.bin .leq (T 77) (T 84))
  (some (75, true)) .p), (.mk (some 86) (.mv (T 85)) (some (75, true)) .p), (.mk (some 87) (.faddr 1 (T 4)) (some (86, false)) .p), (.mk (some 88) (.load false
  1 (T 87)) (some (86, false)) .r), (.mk (some 89) (.faddr 1 (T 1)) (some (86, false)) .p), (.mk (some 90) (.load false 1 (T 89)) (some (86, false)) .r), (.mk
  (some 91) (.mv (T 3)) (some (86, false)) .p), (.mk (some 92) (.bin .sub (T 91) (tI 1)) (some (86, false)) .p), (.mk (some 93) (.iaddrS 4 (T 90) (T 92)) (some
  (86, false)) .p), (.mk (some 94) (.faddr 1 (T 93)) (some (86, false)) .p), (.mk (some 95) (.load false 1 (T 94)) (some (86, false)) .r), (.mk (some 96) (.bin
  .lss (T 88) (T 95)) (some (86, false)) .p), (.mk (some 97) (.pick (T 86) (.lit (.c (.pv (.bool true)))) (T 96)) (some (75, true)) .p), (oP 98 (.pick (T 75) (T
  97) (.lit (.c (.pv (.bool false))))))])) (.tr (rl [1, 0, 0]) false (.cond (T 98) (.seq (.region false [(oP 2 (.mv (.lit (.c (.pv (.bool false))))))]) (.tr (rl
  [2]) false .ret)) .skip))))))) (.tr (rl [1, 1]) false (.region false [(oP 30 (.mv (T 3))), (oP 31 (.bin .add (T 30) (tI 1))), (oP 3 (.mv (T 31)))]))))
def xf14 : XFunc :=
(.mk 99 [(.tmp 2)] (.seq (.tr (rl [1]) false (.region false [(oW 1 (.box (T 0) 3)), (oP 2 (.mv (.lit (.c (.pv (.bool false))))))])) (.seq (.seq (.tr (rl [1,
  22]) false (.region false [(oP 5 (.faddr 0 (T 1))), (oR 6 (.load true 1 (T 5))), (oP 7 (.call false [] (.lit (.c (.fn 22 []))) [(T 6)])), (oP 8 (.un .not (T
  7))), (oP 9 (.mv (T 8))), (.mk (some 10) (.faddr 1 (T 1)) (some (9, false)) .p), (.mk (some 11) (.load false 1 (T 10)) (some (9, false)) .r), (.mk (some 12)
  (.len (T 11)) (some (9, false)) .p), (.mk (some 13) (.bin .gtr (T 12) (tI 16)) (some (9, false)) .p), (oP 14 (.pick (T 9) (.lit (.c (.pv (.bool true)))) (T
  13))), (oP 15 (.mv (T 14))), (.mk (some 16) (.faddr 2 (T 1)) (some (15, false)) .p), (.mk (some 17) (.load false 1 (T 16)) (some (15, false)) .r), (.mk (some
  18) (.bin .lss (T 17) (tI 1)) (some (15, false)) .p), (oP 19 (.pick (T 15) (.lit (.c (.pv (.bool true)))) (T 18))), (oP 20 (.mv (T 19))), (.mk (some 21)
  (.faddr 2 (T 1)) (some (20, false)) .p), (.mk (some 22) (.load false 1 (T 21)) (some (20, false)) .r), (.mk (some 23) (.bin .gtr (T 22) (tI 1000000)) (some
  (20, false)) .p), (oP 24 (.pick (T 20) (.lit (.c (.pv (.bool true)))) (T 23)))])) (.tr (rl [1, 0]) false (.cond (T 24) (.seq (.region false [(oP 2 (.mv (.lit
  (.c (.pv (.bool false))))))]) (.tr (rl [2]) false .ret)) .skip))) (.seq (.seq (.region false [(oP 3 (.mv (tI 0)))]) (.tr (rl [2]) false (.block 0 (.loop (rl
  [1, 1]) xf14_l0)))) (.seq (.region false [(oP 2 (.mv (.lit (.c (.pv (.bool true))))))]) (.tr (rl [2]) false .ret))))))
theorem xf14_ok : cmpFunc Go.Proofs.Tryd.prog 14 ((.two (.tr (rl [1]) false .no) (.two (.two (.tr (rl [1, 22]) false (.ops [{}, {}, { cls := some .p }])) (.tr (rl [1, 0]) false (.two (.two .no (.tr (rl [2]) false .no)) .no))) (.two (.two .no (.tr (rl [2]) false (.loop (rl [1, 1]) (.two (.two (.tr (rl [1, 1, 25]) false .no) (.tr (rl [1, 1]) false (.two .no (.tr [] false .no)))) (.two (.tr (rl [1, 0, 0]) false (.two (.tr (rl [1, 1, 0]) false .no) (.two (.two (.tr (rl [1, 1, 0, 67]) false (.ops [{}, {}, {}, {}, {}, {}, {}, {}, {}, {}, {}, {}, {}, {}, {}, {}, {}, {}, {}, {}, {}, {}, {}, {}, {}, {}, {}, { cls := some .p }, {}, {}, {}, {}, {}, { cls := some .p }])) (.tr (rl [1, 0, 0, 0]) false (.two (.two .no (.tr (rl [2]) false .no)) .no))) (.two (.tr (rl [1, 1, 94]) false (.draw [0, 1, 2, 3, 4, 5, 6, 7, 8, 9, 10, 11, 12, 13, 14, 15, 16, 17, 18, 19, 20, 21, 22, 23, 24, 25] [])) (.tr (rl [1, 0, 0]) false (.two (.two .no (.tr (rl [2]) false .no)) .no)))))) (.tr (rl [1, 1]) false .no)))))) (.two .no (.tr (rl [2]) false .no)))))) = some xf14 := by kernel_rfl
def xf15 : XFunc :=
(.mk 30 [(.cell 4 true 3), (.tmp 5)] (.seq (.tr (rl [2, 0, 0]) false (.region false [(oW 2 (.box (T 0) 3)), (oW 3 (.box (T 1) 7)), (oW 4 (.alloc [(.pv (.sl .nil
  0 [])), (.pv (.sl .nil 0 [])), (.pv (.int .i64 0))])), (oP 5 (.mv (tI 0)))])) (.seq (.seq (.tr (rl [2, 0, 0, 5]) false (.region false [(oR 8 (.load true 3 (T
  2))), (oP 9 (.call false [] (.lit (.c (.fn 21 []))) [(T 8)])), (oP 10 (.un .not (T 9)))])) (.tr (rl [2, 0, 0, 0]) false (.cond (T 10) (.seq (.tr (rl [4, 0])
  false (.region false [(oP 11 (.build [(.pv (.sl .nil 0 [])), (.pv (.sl .nil 0 [])), (.pv (.int .i64 0))] [])), (sW (.store 3 (T 4) (T 11))), (oP 5 (.mv (tI
  1)))])) (.tr (rl [4, 0]) false .ret)) .skip))) (.seq (.tr (rl [2, 1, 1, 0]) false (.region false [(oP 13 (.faddr 0 (T 2))), (oR 14 (.load true 1 (T 13))), (oR
  15 (.load true 7 (T 3))), (oP 16 (.call false [] (.lit (.c (.fn 55 []))) [(T 14), (T 15)])), (oP 12 (.mv (T 16))), (oP 17 (.extr 0 (T 12))), (oP 18 (.extr 1
  (T 12))), (oW 6 (.alloc [(.pv (.sl .nil 0 []))])), (sW (.store 1 (T 6) (T 17))), (oP 7 (.mv (T 18)))])) (.seq (.seq (.tr (rl [2, 1, 1, 0, 12]) false (.region
  false [(oP 19 (.mv (T 7))), (oP 20 (.bin .neq (T 19) (tI 0)))])) (.tr (rl [2, 1, 0, 0]) false (.cond (T 20) (.seq (.tr (rl [4, 0]) false (.region false [(oP
  21 (.build [(.pv (.sl .nil 0 [])), (.pv (.sl .nil 0 [])), (.pv (.int .i64 0))] [])), (oP 22 (.mv (T 7))), (sW (.store 3 (T 4) (T 21))), (oP 5 (.mv (T 22)))]))
  (.tr (rl [4, 0]) false .ret)) .skip))) (.seq (.tr (rl [4, 0]) false (.region true [(oR 23 (.load true 1 (T 6))), (oP 24 (.faddr 1 (T 2))), (oR 25 (.load false
  1 (T 24))), (oP 26 (.call false [] (.lit (.c (.fn 56 []))) [(T 25)])), (oP 27 (.faddr 2 (T 2))), (oR 28 (.load false 1 (T 27))), (oP 29 (.build [(.pv (.sl
  .nil 0 [])), (.pv (.sl .nil 0 [])), (.pv (.int .i64 0))] [(0, (1, (T 23))), (1, (1, (T 26))), (2, (1, (T 28)))])), (sW (.store 3 (T 4) (T 29))), (oP 5 (.mv
  (tI 0)))])) (.tr (rl [4, 0]) false .ret)))))))
theorem xf15_ok : cmpFunc Go.Proofs.Tryd.prog 15 ((.two (.tr (rl [2, 0, 0]) false .no) (.two (.two (.tr (rl [2, 0, 0, 5]) false (.ops [{}, { cls := some .p }])) (.tr (rl [2, 0, 0, 0]) false (.two (.two (.tr (rl [4, 0]) false .no) (.tr (rl [4, 0]) false .no)) .no))) (.two (.tr (rl [2, 1, 1, 0]) false (.ops [{}, {}, {}, { cls := some .p }])) (.two (.two (.tr (rl [2, 1, 1, 0, 12]) false .no) (.tr (rl [2, 1, 0, 0]) false (.two (.two (.tr (rl [4, 0]) false .no) (.tr (rl [4, 0]) false .no)) .no))) (.two (.tr (rl [4, 0]) false (.draw [0, 1, 2, 3, 4, 5, 6, 7, 8] [{}, {}, {}, { cls := some .p }])) (.tr (rl [4, 0]) false .no))))))) = some xf15 := by kernel_rfl
def xf16 : XFunc :=
(.mk 60 [(.cell 6 true 3), (.tmp 7), (.tmp 8)] (.seq (.tr (rl [1, 0, 0, 2]) false (.region false [(oW 3 (.box (T 0) 3)), (oW 6 (.alloc [(.pv (.sl .nil 0 [])),
  (.pv (.sl .nil 0 [])), (.pv (.int .i64 0))])), (oP 7 (.mv (tI 0))), (oP 8 (.mv (tI 0)))])) (.seq (.tr (rl [1, 0, 0, 2, 0, 0]) false (.block 0 (.seq (.tr (rl
  [1, 0, 0, 2, 3]) false (.region false [(oR 11 (.load true 3 (T 3))), (oP 12 (.call false [] (.lit (.c (.fn 21 []))) [(T 11)])), (oP 13 (.un .not (T 12))), (oP
  10 (.mv (T 13)))])) (.tr (rl [1, 0, 0, 2, 0, 0]) false (.cond (T 10) (.seq (.tr (rl [6, 0, 0]) false (.region false [(oP 14 (.build [(.pv (.sl .nil 0 [])),
  (.pv (.sl .nil 0 [])), (.pv (.int .i64 0))] [])), (sW (.store 3 (T 6) (T 14))), (oP 7 (.mv (tI 0))), (oP 8 (.mv (tI 1)))])) (.tr (rl [6, 0, 0]) false .ret))
  (.seq (.tr (rl [1, 0, 0, 2, 8]) false (.region false [(oP 16 (.mv (T 1))), (oP 17 (.call false [] (.lit (.c (.fn 57 []))) [(T 16)])), (oP 18 (.un .not (T
  17))), (oP 19 (.mv (T 18))), (.mk (some 20) (.mv (T 2)) (some (19, false)) .p), (.mk (some 21) (.call false [] (.lit (.c (.fn 57 []))) [(T 20)]) (some (19,
  false)) .p), (.mk (some 22) (.un .not (T 21)) (some (19, false)) .p), (oP 23 (.pick (T 19) (.lit (.c (.pv (.bool true)))) (T 22))), (oP 15 (.mv (T 23)))]))
  (.tr (rl [1, 0, 0, 2, 0, 0]) false (.cond (T 15) (.seq (.tr (rl [6, 0, 0]) false (.region false [(oP 24 (.build [(.pv (.sl .nil 0 [])), (.pv (.sl .nil 0 [])),
  (.pv (.int .i64 0))] [])), (sW (.store 3 (T 6) (T 24))), (oP 7 (.mv (tI 0))), (oP 8 (.mv (tI 11)))])) (.tr (rl [6, 0, 0]) false .ret)) (.seq (.tr (rl [1, 0,
  0, 2, 18]) false (.region false [(oP 26 (.faddr 1 (T 3))), (oR 27 (.load false 1 (T 26))), (oP 28 (.len (T 27))), (oP 29 (.bin .eql (T 28) (tI 16))), (oP 25
  (.mv (T 29)))])) (.tr (rl [1, 0, 0, 2, 0, 0]) false (.cond (T 25) (.seq (.tr (rl [6, 0, 0]) false (.region false [(oP 30 (.build [(.pv (.sl .nil 0 [])), (.pv
  (.sl .nil 0 [])), (.pv (.int .i64 0))] [])), (sW (.store 3 (T 6) (T 30))), (oP 7 (.mv (tI 0))), (oP 8 (.mv (tI 6)))])) (.tr (rl [6, 0, 0]) false .ret)) (.seq
  (.tr (rl [1, 0, 0, 2, 24]) false (.region false [(oP 32 (.faddr 2 (T 3))), (oR 33 (.load false 1 (T 32))), (oP 34 (.bin .eql (T 33) (tI 1000000))), (oP 31
  (.mv (T 34)))])) (.tr (rl [1, 0, 0, 2, 0, 0]) false (.cond (T 31) (.seq (.tr (rl [6, 0, 0]) false (.region false [(oP 35 (.build [(.pv (.sl .nil 0 [])), (.pv
  (.sl .nil 0 [])), (.pv (.int .i64 0))] [])), (sW (.store 3 (T 6) (T 35))), (oP 7 (.mv (tI 0))), (oP 8 (.mv (tI 9)))])) (.tr (rl [6, 0, 0]) false .ret))
  .skip)))))))))))))) (.seq (.tr (rl [3, 2, 2]) false (.region false [(oP 36 (.faddr 2 (T 3))), (oR 37 (.load false 1 (T 36))), (oP 38 (.faddr 0 (T 3))), (oP 39
  (.faddr 0 (T 38))), (oR 40 (.load false 1 (T 39))), (oP 41 (.len (T 40))), (oP 42 (.mv (T 1))), (oP 43 (.mv (T 2))), (oP 44 (.build [(.pv (.int .i64 0)), (.pv
  (.int .i64 0)), (.pv (.int .i32 0)), (.pv (.int .i32 0))] [(0, (1, (T 37))), (1, (1, (T 41))), (2, (1, (T 42))), (3, (1, (T 43)))])), (oW 9 (.alloc [(.pv
  (.int .i64 0)), (.pv (.int .i64 0)), (.pv (.int .i32 0)), (.pv (.int .i32 0))])), (sW (.store 4 (T 9) (T 44)))])) (.seq (.tr (rl [6, 0, 0]) false (.region
  true [(oP 45 (.faddr 0 (T 3))), (oR 46 (.load true 1 (T 45))), (oP 47 (.call false [] (.lit (.c (.fn 58 []))) [(T 46)])), (oP 48 (.faddr 1 (T 3))), (oR 49
  (.load false 1 (T 48))), (oR 51 (.loadR true 4 (T 9) (T 9))), (oP 52 (.buildSl [(.pv (.int .i64 0)), (.pv (.int .i64 0)), (.pv (.int .i32 0)), (.pv (.int .i32
  0))] 1 4 [(0, (4, (T 51)))])), (oP 54 (.faddr 2 (T 3))), (oR 55 (.loadR false 1 (T 54) (T 3))), (oP 56 (.bin .add (T 55) (tI 1))), (oP 58 (.faddr 0 (T 9))),
  (oR 59 (.loadR false 1 (T 58) (T 9))), (oW 50 (.call false [(T 9), (T 3)] (.lit (.c (.fn 56 []))) [(T 49)])), (oW 53 (.app 4 24 (T 50) (T 52))), (oP 57
  (.build [(.pv (.sl .nil 0 [])), (.pv (.sl .nil 0 [])), (.pv (.int .i64 0))] [(0, (1, (T 47))), (1, (1, (T 53))), (2, (1, (T 56)))])), (sW (.storeO 3 (T 6) (T
  57) (T 9))), (oP 7 (.mv (T 59))), (oP 8 (.mv (tI 0)))])) (.tr (rl [6, 0, 0]) false .ret))))))
theorem xf16_ok : cmpFunc Go.Proofs.Tryd.prog 16 ((.two (.tr (rl [1, 0, 0, 2]) false .no) (.two (.tr (rl [1, 0, 0, 2, 0, 0]) false (.two (.tr (rl [1, 0, 0, 2, 3]) false (.ops [{}, { cls := some .p }])) (.tr (rl [1, 0, 0, 2, 0, 0]) false (.two (.two (.tr (rl [6, 0, 0]) false .no) (.tr (rl [6, 0, 0]) false .no)) (.two (.tr (rl [1, 0, 0, 2, 8]) false (.ops [{}, { cls := some .p }, {}, {}, {}, { cls := some .p }])) (.tr (rl [1, 0, 0, 2, 0, 0]) false (.two (.two (.tr (rl [6, 0, 0]) false .no) (.tr (rl [6, 0, 0]) false .no)) (.two (.tr (rl [1, 0, 0, 2, 18]) false .no) (.tr (rl [1, 0, 0, 2, 0, 0]) false (.two (.two (.tr (rl [6, 0, 0]) false .no) (.tr (rl [6, 0, 0]) false .no)) (.two (.tr (rl [1, 0, 0, 2, 24]) false .no) (.tr (rl [1, 0, 0, 2, 0, 0]) false (.two (.two (.tr (rl [6, 0, 0]) false .no) (.tr (rl [6, 0, 0]) false .no)) .no))))))))))))) (.two (.tr (rl [3, 2, 2]) false .no) (.two (.tr (rl [6, 0, 0]) false (.draw [0, 1, 2, 3, 4, 6, 7, 9, 10, 11, 13, 14, 5, 8, 12, 15, 16, 17] [{}, {}, { cls := some .p }, {}, {}, { ap := [9, 3] }, { root := some 9 }, {}, {}, {}, { root := some 3 }, {}, {}, {}, { root := some 9 }, { root := some 9 }])) (.tr (rl [6, 0, 0]) false .no)))))) = some xf16 := by kernel_rfl
def xf17 : XFunc :=
(.mk 31 [(.cell 4 true 3), (.tmp 5)] (.seq (.tr (rl [1, 0, 1]) false (.region false [(oW 2 (.box (T 0) 3)), (oW 4 (.alloc [(.pv (.sl .nil 0 [])), (.pv (.sl .nil
  0 [])), (.pv (.int .i64 0))])), (oP 5 (.mv (tI 0)))])) (.seq (.tr (rl [2, 1, 1, 0]) false (.region false [(oR 9 (.load true 3 (T 2))), (oP 10 (.mv (T 1))),
  (oP 11 (.call false [] (.lit (.c (.fn 59 []))) [(T 9), (T 10)])), (oP 8 (.mv (T 11))), (oP 12 (.extr 0 (T 8))), (oP 13 (.extr 1 (T 8))), (oP 6 (.mv (T 12))),
  (oP 7 (.mv (T 13)))])) (.seq (.seq (.tr (rl [2, 1, 1, 0, 7]) false (.region false [(oP 14 (.mv (T 7))), (oP 15 (.bin .neq (T 14) (tI 0)))])) (.tr (rl [2, 1,
  0, 0]) false (.cond (T 15) (.seq (.tr (rl [4, 0]) false (.region false [(oP 16 (.build [(.pv (.sl .nil 0 [])), (.pv (.sl .nil 0 [])), (.pv (.int .i64 0))]
  [])), (oP 17 (.mv (T 7))), (sW (.store 3 (T 4) (T 16))), (oP 5 (.mv (T 17)))])) (.tr (rl [4, 0]) false .ret)) .skip))) (.seq (.tr (rl [4, 0]) false (.region
  true [(oP 18 (.faddr 0 (T 2))), (oR 19 (.load true 1 (T 18))), (oP 20 (.call false [] (.lit (.c (.fn 58 []))) [(T 19)])), (oP 21 (.faddr 1 (T 2))), (oR 22
  (.load false 1 (T 21))), (oP 24 (.mv (T 6))), (oP 25 (.mv (T 6))), (oP 26 (.bin .add (T 25) (tI 1))), (oP 28 (.faddr 2 (T 2))), (oR 29 (.loadR false 1 (T 28)
  (T 2))), (oW 23 (.callM (.lit (.c (.fn 56 []))) [(T 22)])), (oW 27 (.call false [(T 2)] (.lit (.c (.fn 60 []))) [(T 23), (T 24), (T 26)])), (oP 30 (.build
  [(.pv (.sl .nil 0 [])), (.pv (.sl .nil 0 [])), (.pv (.int .i64 0))] [(0, (1, (T 20))), (1, (1, (T 27))), (2, (1, (T 29)))])), (sW (.store 3 (T 4) (T 30))),
  (oP 5 (.mv (tI 0)))])) (.tr (rl [4, 0]) false .ret))))))
theorem xf17_ok : cmpFunc Go.Proofs.Tryd.prog 17 ((.two (.tr (rl [1, 0, 1]) false .no) (.two (.tr (rl [2, 1, 1, 0]) false (.ops [{}, {}, { cls := some .p }])) (.two (.two (.tr (rl [2, 1, 1, 0, 7]) false .no) (.tr (rl [2, 1, 0, 0]) false (.two (.two (.tr (rl [4, 0]) false .no) (.tr (rl [4, 0]) false .no)) .no))) (.two (.tr (rl [4, 0]) false (.draw [0, 1, 2, 3, 4, 6, 7, 8, 10, 11, 5, 9, 12, 13, 14] [{}, {}, { cls := some .p }, {}, {}, { own := true }, {}, {}, {}, { ap := [2] }, {}, { root := some 2 }])) (.tr (rl [4, 0]) false .no)))))) = some xf17 := by kernel_rfl
def xf18 : XFunc :=
(.mk 37 [(.tmp 4), (.tmp 5)] (.seq (.tr (rl [1, 0]) false (.region false [(oW 2 (.box (T 0) 3)), (oP 4 (.mv (.lit (.c (.pv (.sl .nil 0 [])))))), (oP 5 (.mv (tI
  0)))])) (.seq (.tr (rl [2, 3, 0]) false (.region false [(oR 10 (.load true 3 (T 2))), (oP 11 (.mv (T 1))), (oP 12 (.call false [] (.lit (.c (.fn 59 []))) [(T
  10), (T 11)])), (oP 9 (.mv (T 12))), (oP 13 (.extr 0 (T 9))), (oP 14 (.extr 1 (T 9))), (oP 6 (.mv (T 13))), (oP 7 (.mv (T 14)))])) (.seq (.seq (.tr (rl [2, 3,
  0, 8]) false (.region false [(oP 15 (.mv (T 7))), (oP 16 (.bin .neq (T 15) (tI 0)))])) (.tr (rl [2, 1, 0, 0]) false (.cond (T 16) (.seq (.tr (rl [4, 0]) false
  (.region false [(oP 17 (.mv (T 7))), (oP 4 (.mv (.lit (.c (.pv (.sl .nil 0 [])))))), (oP 5 (.mv (T 17)))])) (.tr (rl [4, 0]) false .ret)) .skip))) (.seq (.tr
  (rl [2, 5]) false (.region false [(oP 18 (.faddr 1 (T 2))), (oR 19 (.load false 1 (T 18))), (oP 20 (.mv (T 6))), (oP 21 (.iaddrS 4 (T 19) (T 20))), (oR 22
  (.load true 4 (T 21))), (oW 8 (.alloc [(.pv (.int .i64 0)), (.pv (.int .i64 0)), (.pv (.int .i32 0)), (.pv (.int .i32 0))])), (sW (.store 4 (T 8) (T 22)))]))
  (.seq (.tr (rl [4, 0]) false (.region true [(oP 23 (.faddr 0 (T 2))), (oP 24 (.faddr 0 (T 23))), (oR 25 (.load false 1 (T 24))), (oP 26 (.faddr 1 (T 8))), (oR
  27 (.load false 1 (T 26))), (oP 28 (.sliceV 7 (T 25) none (some (T 27)) none)), (oP 29 (.build [(.pv (.sl .nil 0 []))] [(0, (1, (T 28)))])), (oP 30 (.faddr 2
  (T 8))), (oR 31 (.load false 1 (T 30))), (oP 32 (.faddr 3 (T 8))), (oR 33 (.load false 1 (T 32))), (oW 34 (.call false [] (.lit (.c (.fn 33 []))) [(T 29), (T
  31), (T 33)])), (oP 35 (.extr 0 (T 34))), (oP 36 (.extr 1 (T 34))), (oP 4 (.mv (T 35))), (oP 5 (.mv (T 36)))])) (.tr (rl [4, 0]) false .ret)))))))
theorem xf18_ok : cmpFunc Go.Proofs.Tryd.prog 18 ((.two (.tr (rl [1, 0]) false .no) (.two (.tr (rl [2, 3, 0]) false (.ops [{}, {}, { cls := some .p }])) (.two (.two (.tr (rl [2, 3, 0, 8]) false .no) (.tr (rl [2, 1, 0, 0]) false (.two (.two (.tr (rl [4, 0]) false .no) (.tr (rl [4, 0]) false .no)) .no))) (.two (.tr (rl [2, 5]) false .no) (.two (.tr (rl [4, 0]) false (.draw [0, 1, 2, 3, 4, 5, 6, 7, 8, 9, 10, 11, 12, 13, 14, 15] [])) (.tr (rl [4, 0]) false .no))))))) = some xf18 := by kernel_rfl
def xf19 : XFunc :=
(.mk 18 [(.tmp 2), (.tmp 3)] (.seq (.tr (rl [1]) false (.region false [(oW 1 (.box (T 0) 3)), (oP 2 (.mv (tI 0))), (oP 3 (.mv (.lit (.c (.pv (.bool
  false))))))])) (.seq (.seq (.tr (rl [1, 10]) false (.region false [(oR 4 (.load true 3 (T 1))), (oP 5 (.call false [] (.lit (.c (.fn 21 []))) [(T 4)])), (oP 6
  (.un .not (T 5))), (oP 7 (.mv (T 6))), (.mk (some 8) (.faddr 1 (T 1)) (some (7, false)) .p), (.mk (some 9) (.load false 1 (T 8)) (some (7, false)) .r), (.mk
  (some 10) (.len (T 9)) (some (7, false)) .p), (.mk (some 11) (.bin .eql (T 10) (tI 0)) (some (7, false)) .p), (oP 12 (.pick (T 7) (.lit (.c (.pv (.bool
  true)))) (T 11)))])) (.tr (rl [1, 0, 0]) false (.cond (T 12) (.seq (.region false [(oP 2 (.mv (tI 0))), (oP 3 (.mv (.lit (.c (.pv (.bool false))))))]) (.tr
  (rl [2, 0]) false .ret)) .skip))) (.seq (.tr (rl [2, 0]) false (.region false [(oP 13 (.faddr 1 (T 1))), (oR 14 (.load false 1 (T 13))), (oP 15 (.iaddrS 4 (T
  14) (tI 0))), (oP 16 (.faddr 1 (T 15))), (oR 17 (.load false 1 (T 16))), (oP 2 (.mv (T 17))), (oP 3 (.mv (.lit (.c (.pv (.bool true))))))])) (.tr (rl [2, 0])
  false .ret)))))
theorem xf19_ok : cmpFunc Go.Proofs.Tryd.prog 19 ((.two (.tr (rl [1]) false .no) (.two (.two (.tr (rl [1, 10]) false (.ops [{}, { cls := some .p }])) (.tr (rl [1, 0, 0]) false (.two (.two .no (.tr (rl [2, 0]) false .no)) .no))) (.two (.tr (rl [2, 0]) false .no) (.tr (rl [2, 0]) false .no))))) = some xf19 := by kernel_rfl
def xf20 : XFunc :=
(.mk 11 [(.cell 2 true 3), (.tmp 3)] (.seq (.tr (rl [1, 0]) false (.region false [(oW 1 (.box (T 0) 1)), (oW 2 (.alloc [(.pv (.sl .nil 0 [])), (.pv (.sl .nil 0
  [])), (.pv (.int .i64 0))])), (oP 3 (.mv (tI 0)))])) (.seq (.seq (.tr (rl [1, 0, 3]) false (.region false [(oR 4 (.load true 1 (T 1))), (oP 5 (.call false []
  (.lit (.c (.fn 61 []))) [(T 4)])), (oP 6 (.un .not (T 5)))])) (.tr (rl [1, 0, 0]) false (.cond (T 6) (.seq (.tr (rl [2, 0]) false (.region false [(oP 7
  (.build [(.pv (.sl .nil 0 [])), (.pv (.sl .nil 0 [])), (.pv (.int .i64 0))] [])), (sW (.store 3 (T 2) (T 7))), (oP 3 (.mv (tI 1)))])) (.tr (rl [2, 0]) false
  .ret)) .skip))) (.seq (.tr (rl [2, 0]) false (.region false [(oR 8 (.load true 1 (T 1))), (oP 9 (.call false [] (.lit (.c (.fn 58 []))) [(T 8)])), (oP 10
  (.build [(.pv (.sl .nil 0 [])), (.pv (.sl .nil 0 [])), (.pv (.int .i64 0))] [(0, (1, (T 9))), (2, (1, (tI 1)))])), (sW (.store 3 (T 2) (T 10))), (oP 3 (.mv
  (tI 0)))])) (.tr (rl [2, 0]) false .ret)))))
theorem xf20_ok : cmpFunc Go.Proofs.Tryd.prog 20 ((.two (.tr (rl [1, 0]) false .no) (.two (.two (.tr (rl [1, 0, 3]) false (.ops [{}, { cls := some .p }])) (.tr (rl [1, 0, 0]) false (.two (.two (.tr (rl [2, 0]) false .no) (.tr (rl [2, 0]) false .no)) .no))) (.two (.tr (rl [2, 0]) false (.ops [{}, { cls := some .p }])) (.tr (rl [2, 0]) false .no))))) = some xf20 := by kernel_rfl
def xf21 : XFunc :=
(.mk 33 [(.tmp 2)] (.seq (.tr (rl [1]) false (.region false [(oW 1 (.box (T 0) 3)), (oP 2 (.mv (.lit (.c (.pv (.bool false))))))])) (.seq (.tr (rl [2]) false
  (.region false [(oP 3 (.faddr 0 (T 1))), (oR 4 (.load true 1 (T 3))), (oP 5 (.call false [] (.lit (.c (.fn 61 []))) [(T 4)])), (oP 6 (.mv (T 5))), (.mk (some
  7) (.faddr 1 (T 1)) (some (6, true)) .p), (.mk (some 8) (.load false 1 (T 7)) (some (6, true)) .r), (.mk (some 9) (.len (T 8)) (some (6, true)) .p), (.mk
  (some 10) (.bin .leq (T 9) (tI 16)) (some (6, true)) .p), (oP 11 (.pick (T 6) (T 10) (.lit (.c (.pv (.bool false)))))), (oP 12 (.mv (T 11))), (.mk (some 13)
  (.faddr 2 (T 1)) (some (12, true)) .p), (.mk (some 14) (.load false 1 (T 13)) (some (12, true)) .r), (.mk (some 15) (.bin .geq (T 14) (tI 1)) (some (12,
  true)) .p), (oP 16 (.pick (T 12) (T 15) (.lit (.c (.pv (.bool false)))))), (oP 17 (.mv (T 16))), (.mk (some 18) (.faddr 2 (T 1)) (some (17, true)) .p), (.mk
  (some 19) (.load false 1 (T 18)) (some (17, true)) .r), (.mk (some 20) (.bin .leq (T 19) (tI 1000000)) (some (17, true)) .p), (oP 21 (.pick (T 17) (T 20)
  (.lit (.c (.pv (.bool false)))))), (oP 22 (.mv (T 21))), (.mk (some 23) (.faddr 1 (T 1)) (some (22, true)) .p), (.mk (some 24) (.load false 1 (T 23)) (some
  (22, true)) .r), (.mk (some 25) (.faddr 0 (T 1)) (some (22, true)) .p), (.mk (some 26) (.faddr 0 (T 25)) (some (22, true)) .p), (.mk (some 27) (.load false 1
  (T 26)) (some (22, true)) .r), (.mk (some 28) (.len (T 27)) (some (22, true)) .p), (.mk (some 29) (.faddr 2 (T 1)) (some (22, true)) .p), (.mk (some 30)
  (.load false 1 (T 29)) (some (22, true)) .r), (.mk (some 31) (.call false [] (.lit (.c (.fn 62 []))) [(T 24), (T 28), (T 30)]) (some (22, true)) .p), (oP 32
  (.pick (T 22) (T 31) (.lit (.c (.pv (.bool false)))))), (oP 2 (.mv (T 32)))])) (.tr (rl [2]) false .ret))))
theorem xf21_ok : cmpFunc Go.Proofs.Tryd.prog 21 ((.two (.tr (rl [1]) false .no) (.two (.tr (rl [2]) false (.ops [{}, {}, { cls := some .p }, {}, {}, {}, {}, {}, {}, {}, {}, {}, {}, {}, {}, {}, {}, {}, {}, {}, {}, {}, {}, {}, {}, {}, {}, {}, { cls := some .p }])) (.tr (rl [2]) false .no)))) = some xf21 := by kernel_rfl
def xf22_l0 : XCode :=
(.seq (.seq (.tr (rl [1, 1, 4]) false (.region false [(oP 4 (.mv (T 3))), (oP 5 (.faddr 0 (T 1))), (oR 6 (.load false 1 (T 5))), (oP 7 (.len (T 6))), (oP 8
  (.bin .lss (T 4) (T 7)))])) (.tr (rl [1, 1]) false (.cond (T 8) .skip (.tr [] false (.exit 0))))) (.seq (.tr (rl [1, 0, 0]) false (.block 1 (.seq (.tr (rl [1,
  1, 17]) false (.region true [(oP 11 (.faddr 0 (T 1))), (oR 12 (.load false 1 (T 11))), (oP 13 (.mv (T 3))), (oP 14 (.sliceV 7 (T 12) none (some (T 13))
  none)), (oP 15 (.faddr 0 (T 1))), (oR 16 (.load false 1 (T 15))), (oP 17 (.mv (T 3))), (oP 18 (.iaddrS 7 (T 16) (T 17))), (oR 19 (.load true 7 (T 18))), (oP
  20 (.call false [] (.lit (.c (.fn 24 []))) [(T 14), (T 19)])), (oP 21 (.bin .neq (T 20) (tI 0)))])) (.tr (rl [1, 0, 0]) false (.cond (T 21) (.seq (.region
  false [(oP 2 (.mv (.lit (.c (.pv (.bool false))))))]) (.tr (rl [2]) false .ret)) .skip))))) (.tr (rl [1, 1]) false (.region false [(oP 9 (.mv (T 3))), (oP 10
  (.bin .add (T 9) (tI 1))), (oP 3 (.mv (T 10)))]))))
def xf22 : XFunc :=
(.mk 22 [(.tmp 2)] (.seq (.tr (rl [1]) false (.region false [(oW 1 (.box (T 0) 1)), (oP 2 (.mv (.lit (.c (.pv (.bool false))))))])) (.seq (.seq (.region false
  [(oP 3 (.mv (tI 0)))]) (.tr (rl [2]) false (.block 0 (.loop (rl [1, 1]) xf22_l0)))) (.seq (.region false [(oP 2 (.mv (.lit (.c (.pv (.bool true))))))]) (.tr
  (rl [2]) false .ret)))))
theorem xf22_ok : cmpFunc Go.Proofs.Tryd.prog 22 ((.two (.tr (rl [1]) false .no) (.two (.two .no (.tr (rl [2]) false (.loop (rl [1, 1]) (.two (.two (.tr (rl [1, 1, 4]) false .no) (.tr (rl [1, 1]) false (.two .no (.tr [] false .no)))) (.two (.tr (rl [1, 0, 0]) false (.two (.tr (rl [1, 1, 17]) false (.draw [0, 1, 2, 3, 4, 5, 6, 7, 8, 9, 10] [{}, {}, {}, {}, {}, {}, {}, {}, {}, { cls := some .p }])) (.tr (rl [1, 0, 0]) false (.two (.two .no (.tr (rl [2]) false .no)) .no)))) (.tr (rl [1, 1]) false .no)))))) (.two .no (.tr (rl [2]) false .no))))) = some xf22 := by kernel_rfl
def xf23_l0 : XCode :=
(.seq (.seq (.tr (rl [2, 0, 1, 28]) false (.region false [(oP 30 (.mv (T 5))), (oP 31 (.faddr 1 (T 2))), (oR 32 (.load false 1 (T 31))), (oP 33 (.len (T 32))),
  (oP 34 (.bin .lss (T 30) (T 33)))])) (.tr (rl [2, 0, 1]) false (.cond (T 34) .skip (.tr [] false (.exit 0))))) (.seq (.tr (rl [2, 0, 0, 0]) false (.block 1
  (.seq (.tr (rl [2, 0, 1, 41]) false (.region true [(oP 37 (.faddr 1 (T 2))), (oR 38 (.load false 1 (T 37))), (oP 39 (.mv (T 5))), (oP 40 (.iaddrS 4 (T 38) (T
  39))), (oR 41 (.load true 4 (T 40))), (oP 42 (.faddr 1 (T 3))), (oR 43 (.load false 1 (T 42))), (oP 44 (.mv (T 5))), (oP 45 (.iaddrS 4 (T 43) (T 44))), (oR 46
  (.load true 4 (T 45))), (oP 47 (.eqA true [0, 0, 0, 0] (T 41) (T 46)))])) (.tr (rl [2, 0, 0, 0]) false (.cond (T 47) (.seq (.region false [(oP 4 (.mv (.lit
  (.c (.pv (.bool false))))))]) (.tr (rl [4]) false .ret)) .skip))))) (.tr (rl [2, 0, 1]) false (.region false [(oP 35 (.mv (T 5))), (oP 36 (.bin .add (T 35)
  (tI 1))), (oP 5 (.mv (T 36)))]))))
def xf23 : XFunc :=
(.mk 48 [(.tmp 4)] (.seq (.tr (rl [2, 0]) false (.region false [(oW 2 (.box (T 0) 3)), (oW 3 (.box (T 1) 3)), (oP 4 (.mv (.lit (.c (.pv (.bool false))))))]))
  (.seq (.seq (.tr (rl [2, 0, 25]) false (.region false [(oP 6 (.faddr 0 (T 2))), (oP 7 (.faddr 0 (T 6))), (oR 8 (.load false 1 (T 7))), (oP 9 (.faddr 0 (T
  3))), (oP 10 (.faddr 0 (T 9))), (oR 11 (.load false 1 (T 10))), (oP 12 (.call false [] (.lit (.c (.fn 28 []))) [(T 8), (T 11)])), (oP 13 (.un .not (T 12))),
  (oP 14 (.mv (T 13))), (.mk (some 15) (.faddr 1 (T 2)) (some (14, false)) .p), (.mk (some 16) (.load false 1 (T 15)) (some (14, false)) .r), (.mk (some 17)
  (.len (T 16)) (some (14, false)) .p), (.mk (some 18) (.faddr 1 (T 3)) (some (14, false)) .p), (.mk (some 19) (.load false 1 (T 18)) (some (14, false)) .r),
  (.mk (some 20) (.len (T 19)) (some (14, false)) .p), (.mk (some 21) (.bin .neq (T 17) (T 20)) (some (14, false)) .p), (oP 22 (.pick (T 14) (.lit (.c (.pv
  (.bool true)))) (T 21))), (oP 23 (.mv (T 22))), (.mk (some 24) (.faddr 2 (T 2)) (some (23, false)) .p), (.mk (some 25) (.load false 1 (T 24)) (some (23,
  false)) .r), (.mk (some 26) (.faddr 2 (T 3)) (some (23, false)) .p), (.mk (some 27) (.load false 1 (T 26)) (some (23, false)) .r), (.mk (some 28) (.bin .neq
  (T 25) (T 27)) (some (23, false)) .p), (oP 29 (.pick (T 23) (.lit (.c (.pv (.bool true)))) (T 28)))])) (.tr (rl [2, 0, 0]) false (.cond (T 29) (.seq (.region
  false [(oP 4 (.mv (.lit (.c (.pv (.bool false))))))]) (.tr (rl [4]) false .ret)) .skip))) (.seq (.seq (.region false [(oP 5 (.mv (tI 0)))]) (.tr (rl [4])
  false (.block 0 (.loop (rl [2, 0, 1]) xf23_l0)))) (.seq (.region false [(oP 4 (.mv (.lit (.c (.pv (.bool true))))))]) (.tr (rl [4]) false .ret))))))
theorem xf23_ok : cmpFunc Go.Proofs.Tryd.prog 23 ((.two (.tr (rl [2, 0]) false .no) (.two (.two (.tr (rl [2, 0, 25]) false (.ops [{}, {}, {}, {}, {}, {}, { cls := some .p }])) (.tr (rl [2, 0, 0]) false (.two (.two .no (.tr (rl [4]) false .no)) .no))) (.two (.two .no (.tr (rl [4]) false (.loop (rl [2, 0, 1]) (.two (.two (.tr (rl [2, 0, 1, 28]) false .no) (.tr (rl [2, 0, 1]) false (.two .no (.tr [] false .no)))) (.two (.tr (rl [2, 0, 0, 0]) false (.two (.tr (rl [2, 0, 1, 41]) false (.draw [0, 1, 2, 3, 4, 5, 6, 7, 8, 9, 10] [])) (.tr (rl [2, 0, 0, 0]) false (.two (.two .no (.tr (rl [4]) false .no)) .no)))) (.tr (rl [2, 0, 1]) false .no)))))) (.two .no (.tr (rl [4]) false .no)))))) = some xf23 := by kernel_rfl
def xf24_l0 : XCode :=
(.seq (.seq (.tr (rl [0, 2, 1, 0, 42]) false (.region false [(oP 47 (.mv (T 6))), (oP 48 (.mv (T 5))), (oP 49 (.bin .lss (T 47) (T 48)))])) (.tr (rl [0, 2, 1,
  0]) false (.cond (T 49) .skip (.tr (rl [0, 2]) false (.exit 0))))) (.seq (.tr (rl [0, 2, 0, 0, 0]) false (.block 1 (.seq (.tr (rl [0, 2, 1, 0, 52]) false
  (.region true [(oP 52 (.mv (T 0))), (oP 53 (.mv (T 6))), (oP 54 (.iaddrS 7 (T 52) (T 53))), (oP 55 (.faddr 4 (T 54))), (oR 56 (.load false 1 (T 55))), (oP 57
  (.faddr 4 (T 3))), (oR 58 (.load false 1 (T 57))), (oP 59 (.bin .eql (T 56) (T 58)))])) (.tr (rl [0, 2, 0, 0, 0]) false (.cond (T 59) (.seq (.region false
  [(oP 4 (.mv (tI 23)))]) (.tr (rl [4]) false .ret)) .skip))))) (.tr (rl [0, 2, 1, 0]) false (.region false [(oP 50 (.mv (T 6))), (oP 51 (.bin .add (T 50) (tI
  1))), (oP 6 (.mv (T 51)))]))))
def xf24 : XFunc :=
(.mk 82 [(.tmp 4)] (.seq (.tr (rl [0, 2]) false (.region false [(oW 3 (.box (T 1) 7)), (oP 4 (.mv (tI 0)))])) (.seq (.seq (.tr (rl [0, 2, 7]) false (.region
  false [(oR 9 (.load true 7 (T 3))), (oP 10 (.call false [] (.lit (.c (.fn 63 []))) [(T 9)])), (oP 11 (.bin .neq (T 10) (tI 0)))])) (.tr (rl [0, 2, 0]) false
  (.cond (T 11) (.seq (.tr (rl [4]) false (.region false [(oR 12 (.load true 7 (T 3))), (oP 13 (.call false [] (.lit (.c (.fn 63 []))) [(T 12)])), (oP 4 (.mv (T
  13)))])) (.tr (rl [4]) false .ret)) .skip))) (.seq (.tr (rl [0, 2, 1]) false (.region false [(oP 14 (.mv (T 0))), (oP 15 (.len (T 14))), (oP 5 (.mv (T
  15)))])) (.seq (.seq (.tr (rl [0, 2, 1, 11]) false (.region false [(oP 16 (.mv (T 5))), (oP 17 (.bin .geq (T 16) (tI 400)))])) (.tr (rl [0, 2, 0, 0]) false
  (.cond (T 17) (.seq (.region false [(oP 4 (.mv (tI 6)))]) (.tr (rl [4]) false .ret)) .skip))) (.seq (.seq (.tr (rl [0, 2, 1, 16]) false (.region false [(oP 18
  (.faddr 0 (T 3))), (oR 19 (.load false 1 (T 18))), (oP 20 (.mv (T 5))), (oP 21 (.bin .add (T 20) (tI 1))), (oP 22 (.bin .neq (T 19) (T 21)))])) (.tr (rl [0,
  2, 0, 0]) false (.cond (T 22) (.seq (.region false [(oP 4 (.mv (tI 25)))]) (.tr (rl [4]) false .ret)) .skip))) (.seq (.seq (.tr (rl [0, 2, 1, 29]) false
  (.region true [(oP 23 (.mv (T 5))), (oP 24 (.bin .gtr (T 23) (tI 0))), (oP 25 (.mv (T 24))), (.mk (some 26) (.faddr 1 (T 3)) (some (25, true)) .p), (.mk (some
  27) (.load false 1 (T 26)) (some (25, true)) .r), (.mk (some 28) (.mv (T 0)) (some (25, true)) .p), (.mk (some 29) (.mv (T 5)) (some (25, true)) .p), (.mk
  (some 30) (.bin .sub (T 29) (tI 1)) (some (25, true)) .p), (.mk (some 31) (.iaddrS 7 (T 28) (T 30)) (some (25, true)) .p), (.mk (some 32) (.faddr 1 (T 31))
  (some (25, true)) .p), (.mk (some 33) (.load false 1 (T 32)) (some (25, true)) .r), (.mk (some 34) (.bin .lss (T 27) (T 33)) (some (25, true)) .p), (oP 35
  (.pick (T 25) (T 34) (.lit (.c (.pv (.bool false))))))])) (.tr (rl [0, 2, 0, 0]) false (.cond (T 35) (.seq (.region false [(oP 4 (.mv (tI 20)))]) (.tr (rl
  [4]) false .ret)) .skip))) (.seq (.seq (.tr (rl [0, 2, 1, 32]) false (.region false [(oP 36 (.faddr 4 (T 3))), (oR 37 (.load false 1 (T 36))), (oP 38 (.bin
  .eql (T 37) (tI 0)))])) (.tr (rl [0, 2, 0, 0]) false (.cond (T 38) (.seq (.region false [(oP 4 (.mv (tI 0)))]) (.tr (rl [4]) false .ret)) .skip))) (.seq (.seq
  (.tr (rl [0, 2, 1, 40]) false (.region false [(oP 39 (.mv (T 0))), (oP 40 (.faddr 4 (T 3))), (oR 41 (.load false 1 (T 40))), (oP 42 (.bin .sub (T 41) (tI
  1))), (oP 43 (.iaddrS 7 (T 39) (T 42))), (oP 44 (.faddr 4 (T 43))), (oR 45 (.load false 1 (T 44))), (oP 46 (.bin .gtr (T 45) (tI 0)))])) (.tr (rl [0, 2, 0,
  0]) false (.cond (T 46) (.seq (.region false [(oP 4 (.mv (tI 27)))]) (.tr (rl [4]) false .ret)) .skip))) (.seq (.seq (.region false [(oP 6 (.mv (tI 0)))])
  (.tr (rl [0, 2, 0]) false (.block 0 (.loop (rl [0, 2, 1, 0]) xf24_l0)))) (.seq (.tr (rl [3, 3, 0]) false (.region true [(oP 61 (.mv (T 0))), (oP 62 (.faddr 4
  (T 3))), (oR 63 (.load false 1 (T 62))), (oP 64 (.bin .sub (T 63) (tI 1))), (oP 65 (.iaddrS 7 (T 61) (T 64))), (oR 66 (.load true 7 (T 65))), (oP 67 (.faddr 0
  (T 3))), (oR 68 (.load false 1 (T 67))), (oP 69 (.faddr 1 (T 3))), (oR 70 (.load false 1 (T 69))), (oP 71 (.call false [] (.lit (.c (.fn 64 []))) [(T 66), (T
  68), (T 70)])), (oP 60 (.mv (T 71))), (oP 72 (.extr 0 (T 60))), (oP 73 (.extr 1 (T 60))), (oW 7 (.alloc [(.pv (.int .i64 0)), (.pv (.int .i32 0)), (.pv (.int
  .i32 0)), (.pv (.sl .nil 0 [])), (.pv (.int .i64 0)), (.pv (.int .i64 0)), (.pv (.str []))])), (sW (.store 7 (T 7) (T 72))), (oP 8 (.mv (T 73)))])) (.seq
  (.seq (.tr (rl [81]) false (.region false [(oP 74 (.mv (T 8))), (oP 75 (.bin .neq (T 74) (tI 0))), (oP 76 (.mv (T 75))), (.mk (some 77) (.load true 7 (T 7))
  (some (76, false)) .r), (.mk (some 78) (.load true 7 (T 3)) (some (76, false)) .r), (.mk (some 79) (.call false [] (.lit (.c (.fn 65 []))) [(T 77), (T 78)])
  (some (76, false)) .p), (.mk (some 80) (.un .not (T 79)) (some (76, false)) .p), (oP 81 (.pick (T 76) (.lit (.c (.pv (.bool true)))) (T 80)))])) (.tr (rl [4])
  false (.cond (T 81) (.seq (.region false [(oP 4 (.mv (tI 3)))]) (.tr (rl [4]) false .ret)) .skip))) (.seq (.region false [(oP 4 (.mv (tI 0)))]) (.tr (rl [4])
  false .ret))))))))))))))
theorem xf24_ok : cmpFunc Go.Proofs.Tryd.prog 24 ((.two (.tr (rl [0, 2]) false .no) (.two (.two (.tr (rl [0, 2, 7]) false (.ops [{}, { cls := some .p }])) (.tr (rl [0, 2, 0]) false (.two (.two (.tr (rl [4]) false (.ops [{}, { cls := some .p }])) (.tr (rl [4]) false .no)) .no))) (.two (.tr (rl [0, 2, 1]) false .no) (.two (.two (.tr (rl [0, 2, 1, 11]) false .no) (.tr (rl [0, 2, 0, 0]) false (.two (.two .no (.tr (rl [4]) false .no)) .no))) (.two (.two (.tr (rl [0, 2, 1, 16]) false .no) (.tr (rl [0, 2, 0, 0]) false (.two (.two .no (.tr (rl [4]) false .no)) .no))) (.two (.two (.tr (rl [0, 2, 1, 29]) false (.draw [0, 1, 2, 3, 4, 5, 6, 7, 8, 9, 10, 11, 12] [])) (.tr (rl [0, 2, 0, 0]) false (.two (.two .no (.tr (rl [4]) false .no)) .no))) (.two (.two (.tr (rl [0, 2, 1, 32]) false .no) (.tr (rl [0, 2, 0, 0]) false (.two (.two .no (.tr (rl [4]) false .no)) .no))) (.two (.two (.tr (rl [0, 2, 1, 40]) false .no) (.tr (rl [0, 2, 0, 0]) false (.two (.two .no (.tr (rl [4]) false .no)) .no))) (.two (.two .no (.tr (rl [0, 2, 0]) false (.loop (rl [0, 2, 1, 0]) (.two (.two (.tr (rl [0, 2, 1, 0, 42]) false .no) (.tr (rl [0, 2, 1, 0]) false (.two .no (.tr (rl [0, 2]) false .no)))) (.two (.tr (rl [0, 2, 0, 0, 0]) false (.two (.tr (rl [0, 2, 1, 0, 52]) false (.draw [0, 1, 2, 3, 4, 5, 6, 7] [])) (.tr (rl [0, 2, 0, 0, 0]) false (.two (.two .no (.tr (rl [4]) false .no)) .no)))) (.tr (rl [0, 2, 1, 0]) false .no)))))) (.two (.tr (rl [3, 3, 0]) false (.draw [0, 1, 2, 3, 4, 5, 6, 7, 8, 9, 10, 11, 12, 13, 14, 15, 16] [{}, {}, {}, {}, {}, {}, {}, {}, {}, {}, { cls := some .p }])) (.two (.two (.tr (rl [81]) false (.ops [{}, {}, {}, {}, {}, { cls := some .p }])) (.tr (rl [4]) false (.two (.two .no (.tr (rl [4]) false .no)) .no))) (.two .no (.tr (rl [4]) false .no)))))))))))))) = some xf24 := by kernel_rfl
def xf25 : XFunc :=
(.mk 49 [(.cell 6 true 3), (.tmp 7)] (.seq (.tr (rl [1, 0, 0, 2]) false (.region false [(oW 3 (.box (T 0) 3)), (oW 6 (.alloc [(.pv (.sl .nil 0 [])), (.pv (.sl
  .nil 0 [])), (.pv (.int .i64 0))])), (oP 7 (.mv (tI 0)))])) (.seq (.seq (.tr (rl [1, 0, 0, 2, 9]) false (.region false [(oP 9 (.mv (T 1))), (oP 10 (.call
  false [] (.lit (.c (.fn 54 []))) [(T 9)])), (oP 11 (.un .not (T 10))), (oP 12 (.mv (T 11))), (.mk (some 13) (.mv (T 2)) (some (12, false)) .p), (.mk (some 14)
  (.call false [] (.lit (.c (.fn 54 []))) [(T 13)]) (some (12, false)) .p), (.mk (some 15) (.un .not (T 14)) (some (12, false)) .p), (oP 16 (.pick (T 12) (.lit
  (.c (.pv (.bool true)))) (T 15)))])) (.tr (rl [1, 0, 0, 2, 0]) false (.cond (T 16) (.seq (.tr (rl [6, 0]) false (.region false [(oP 17 (.build [(.pv (.sl .nil
  0 [])), (.pv (.sl .nil 0 [])), (.pv (.int .i64 0))] [])), (sW (.store 3 (T 6) (T 17))), (oP 7 (.mv (tI 11)))])) (.tr (rl [6, 0]) false .ret)) .skip))) (.seq
  (.seq (.tr (rl [1, 0, 0, 2, 14]) false (.region false [(oP 18 (.faddr 1 (T 3))), (oR 19 (.load false 1 (T 18))), (oP 20 (.len (T 19))), (oP 21 (.bin .geq (T
  20) (tI 16)))])) (.tr (rl [1, 0, 0, 2, 0]) false (.cond (T 21) (.seq (.tr (rl [6, 0]) false (.region false [(oP 22 (.build [(.pv (.sl .nil 0 [])), (.pv (.sl
  .nil 0 [])), (.pv (.int .i64 0))] [])), (sW (.store 3 (T 6) (T 22))), (oP 7 (.mv (tI 6)))])) (.tr (rl [6, 0]) false .ret)) .skip))) (.seq (.seq (.tr (rl [1,
  0, 0, 2, 18]) false (.region false [(oP 23 (.faddr 2 (T 3))), (oR 24 (.load false 1 (T 23))), (oP 25 (.bin .geq (T 24) (tI 1000000)))])) (.tr (rl [1, 0, 0, 2,
  0]) false (.cond (T 25) (.seq (.tr (rl [6, 0]) false (.region false [(oP 26 (.build [(.pv (.sl .nil 0 [])), (.pv (.sl .nil 0 [])), (.pv (.int .i64 0))] [])),
  (sW (.store 3 (T 6) (T 26))), (oP 7 (.mv (tI 9)))])) (.tr (rl [6, 0]) false .ret)) .skip))) (.seq (.tr (rl [3, 2, 1]) false (.region false [(oP 27 (.faddr 2
  (T 3))), (oR 28 (.load false 1 (T 27))), (oP 29 (.faddr 0 (T 3))), (oP 30 (.faddr 0 (T 29))), (oR 31 (.load false 1 (T 30))), (oP 32 (.len (T 31))), (oP 33
  (.mv (T 1))), (oP 34 (.mv (T 2))), (oP 35 (.build [(.pv (.int .i64 0)), (.pv (.int .i64 0)), (.pv (.int .i32 0)), (.pv (.int .i32 0))] [(0, (1, (T 28))), (1,
  (1, (T 32))), (2, (1, (T 33))), (3, (1, (T 34)))])), (oW 8 (.alloc [(.pv (.int .i64 0)), (.pv (.int .i64 0)), (.pv (.int .i32 0)), (.pv (.int .i32 0))])), (sW
  (.store 4 (T 8) (T 35)))])) (.seq (.tr (rl [6, 0]) false (.region true [(oP 36 (.faddr 0 (T 3))), (oR 37 (.load true 1 (T 36))), (oP 38 (.buildSl [(.pv (.int
  .i64 0)), (.pv (.int .i64 0)), (.pv (.int .i32 0)), (.pv (.int .i32 0))] 0 4 [])), (oP 39 (.faddr 1 (T 3))), (oR 40 (.load false 1 (T 39))), (oR 42 (.load
  true 4 (T 8))), (oP 43 (.buildSl [(.pv (.int .i64 0)), (.pv (.int .i64 0)), (.pv (.int .i32 0)), (.pv (.int .i32 0))] 1 4 [(0, (4, (T 42)))])), (oP 45 (.faddr
  2 (T 3))), (oR 46 (.load false 1 (T 45))), (oP 47 (.bin .add (T 46) (tI 1))), (oW 41 (.app 4 24 (T 38) (T 40))), (oW 44 (.app 4 24 (T 41) (T 43))), (oP 48
  (.build [(.pv (.sl .nil 0 [])), (.pv (.sl .nil 0 [])), (.pv (.int .i64 0))] [(0, (1, (T 37))), (1, (1, (T 44))), (2, (1, (T 47)))])), (sW (.store 3 (T 6) (T
  48))), (oP 7 (.mv (tI 0)))])) (.tr (rl [6, 0]) false .ret))))))))
theorem xf25_ok : cmpFunc Go.Proofs.Tryd.prog 25 ((.two (.tr (rl [1, 0, 0, 2]) false .no) (.two (.two (.tr (rl [1, 0, 0, 2, 9]) false (.ops [{}, { cls := some .p }, {}, {}, {}, { cls := some .p }])) (.tr (rl [1, 0, 0, 2, 0]) false (.two (.two (.tr (rl [6, 0]) false .no) (.tr (rl [6, 0]) false .no)) .no))) (.two (.two (.tr (rl [1, 0, 0, 2, 14]) false .no) (.tr (rl [1, 0, 0, 2, 0]) false (.two (.two (.tr (rl [6, 0]) false .no) (.tr (rl [6, 0]) false .no)) .no))) (.two (.two (.tr (rl [1, 0, 0, 2, 18]) false .no) (.tr (rl [1, 0, 0, 2, 0]) false (.two (.two (.tr (rl [6, 0]) false .no) (.tr (rl [6, 0]) false .no)) .no))) (.two (.tr (rl [3, 2, 1]) false .no) (.two (.tr (rl [6, 0]) false (.draw [0, 1, 2, 3, 4, 6, 7, 9, 10, 11, 5, 8, 12, 13, 14] [])) (.tr (rl [6, 0]) false .no)))))))) = some xf25 := by kernel_rfl
def xf26_l0 : XCode :=
(.seq (.seq (.tr (rl [1, 0, 2, 4]) false (.region false [(oP 6 (.mv (T 5))), (oP 7 (.faddr 1 (T 2))), (oR 8 (.load false 1 (T 7))), (oP 9 (.len (T 8))), (oP 10
  (.bin .lss (T 6) (T 9)))])) (.tr (rl [1, 0, 2]) false (.cond (T 10) .skip (.tr [] false (.exit 0))))) (.seq (.tr (rl [1, 0, 1, 0]) false (.block 1 (.seq (.tr
  (rl [1, 0, 2, 14]) false (.region false [(oP 13 (.faddr 1 (T 2))), (oR 14 (.load false 1 (T 13))), (oP 15 (.mv (T 5))), (oP 16 (.iaddrS 4 (T 14) (T 15))), (oP
  17 (.faddr 0 (T 16))), (oR 18 (.load false 1 (T 17))), (oP 19 (.mv (T 1))), (oP 20 (.bin .eql (T 18) (T 19)))])) (.tr (rl [1, 0, 1, 0]) false (.cond (T 20)
  (.seq (.tr (rl [4]) false (.region false [(oP 21 (.mv (T 5))), (oP 4 (.mv (T 21)))])) (.tr (rl [4]) false .ret)) .skip))))) (.tr (rl [1, 0, 2]) false (.region
  false [(oP 11 (.mv (T 5))), (oP 12 (.bin .add (T 11) (tI 1))), (oP 5 (.mv (T 12)))]))))
def xf26 : XFunc :=
(.mk 22 [(.tmp 4)] (.seq (.tr (rl [1, 0]) false (.region false [(oW 2 (.box (T 0) 3)), (oP 4 (.mv (tI 0)))])) (.seq (.seq (.region false [(oP 5 (.mv (tI 0)))])
  (.tr (rl [4]) false (.block 0 (.loop (rl [1, 0, 2]) xf26_l0)))) (.seq (.region false [(oP 4 (.mv (.lit (.c (.pv (.int .i64 (-1)))))))]) (.tr (rl [4]) false
  .ret)))))
theorem xf26_ok : cmpFunc Go.Proofs.Tryd.prog 26 ((.two (.tr (rl [1, 0]) false .no) (.two (.two .no (.tr (rl [4]) false (.loop (rl [1, 0, 2]) (.two (.two (.tr (rl [1, 0, 2, 4]) false .no) (.tr (rl [1, 0, 2]) false (.two .no (.tr [] false .no)))) (.two (.tr (rl [1, 0, 1, 0]) false (.two (.tr (rl [1, 0, 2, 14]) false .no) (.tr (rl [1, 0, 1, 0]) false (.two (.two (.tr (rl [4]) false .no) (.tr (rl [4]) false .no)) .no)))) (.tr (rl [1, 0, 2]) false .no)))))) (.two .no (.tr (rl [4]) false .no))))) = some xf26 := by kernel_rfl
def xf27 : XFunc :=
(.mk 22 [(.cell 4 true 3)] (.seq (.tr (rl [1, 0, 1]) false (.region false [(oW 2 (.box (T 0) 3)), (oW 4 (.alloc [(.pv (.sl .nil 0 [])), (.pv (.sl .nil 0 [])),
  (.pv (.int .i64 0))]))])) (.seq (.tr (rl [4]) false (.region true [(oP 5 (.faddr 0 (T 2))), (oR 6 (.load true 1 (T 5))), (oP 7 (.buildSl [(.pv (.int .i64 0)),
  (.pv (.int .i64 0)), (.pv (.int .i32 0)), (.pv (.int .i32 0))] 0 4 [])), (oP 8 (.faddr 1 (T 2))), (oR 9 (.load false 1 (T 8))), (oP 10 (.mv (T 1))), (oP 11
  (.sliceV 4 (T 9) none (some (T 10)) none)), (oP 13 (.faddr 1 (T 2))), (oR 14 (.load false 1 (T 13))), (oP 15 (.mv (T 1))), (oP 16 (.bin .add (T 15) (tI 1))),
  (oP 17 (.sliceV 4 (T 14) (some (T 16)) none none)), (oP 19 (.faddr 2 (T 2))), (oR 20 (.load false 1 (T 19))), (oW 12 (.app 4 24 (T 7) (T 11))), (oW 18 (.app 4
  24 (T 12) (T 17))), (oP 21 (.build [(.pv (.sl .nil 0 [])), (.pv (.sl .nil 0 [])), (.pv (.int .i64 0))] [(0, (1, (T 6))), (1, (1, (T 18))), (2, (1, (T
  20)))])), (sW (.store 3 (T 4) (T 21)))])) (.tr (rl [4]) false .ret))))
theorem xf27_ok : cmpFunc Go.Proofs.Tryd.prog 27 ((.two (.tr (rl [1, 0, 1]) false .no) (.two (.tr (rl [4]) false (.draw [0, 1, 2, 3, 4, 5, 6, 8, 9, 10, 11, 12, 14, 15, 7, 13, 16, 17] [])) (.tr (rl [4]) false .no)))) = some xf27 := by kernel_rfl
def xf28_l0 : XCode :=
(.seq (.seq (.tr (rl [0, 0, 3, 8]) false (.region false [(oP 11 (.mv (T 5))), (oP 12 (.mv (T 0))), (oP 13 (.len (T 12))), (oP 14 (.bin .lss (T 11) (T 13)))]))
  (.tr (rl [0, 0, 3]) false (.cond (T 14) .skip (.tr [] false (.exit 0))))) (.seq (.tr (rl [0, 0, 2, 0]) false (.block 1 (.seq (.tr (rl [0, 0, 3, 20]) false
  (.region true [(oP 17 (.mv (T 0))), (oP 18 (.mv (T 5))), (oP 19 (.iaddrS 7 (T 17) (T 18))), (oR 20 (.load true 7 (T 19))), (oP 21 (.mv (T 1))), (oP 22 (.mv (T
  5))), (oP 23 (.iaddrS 7 (T 21) (T 22))), (oR 24 (.load true 7 (T 23))), (oP 25 (.call false [] (.lit (.c (.fn 65 []))) [(T 20), (T 24)])), (oP 26 (.un .not (T
  25)))])) (.tr (rl [0, 0, 2, 0]) false (.cond (T 26) (.seq (.region false [(oP 4 (.mv (.lit (.c (.pv (.bool false))))))]) (.tr (rl [4]) false .ret)) .skip)))))
  (.tr (rl [0, 0, 3]) false (.region false [(oP 15 (.mv (T 5))), (oP 16 (.bin .add (T 15) (tI 1))), (oP 5 (.mv (T 16)))]))))
def xf28 : XFunc :=
(.mk 27 [(.tmp 4)] (.seq (.tr (rl [0, 0]) false (.region false [(oP 4 (.mv (.lit (.c (.pv (.bool false))))))])) (.seq (.seq (.tr (rl [0, 0, 8]) false (.region
  false [(oP 6 (.mv (T 0))), (oP 7 (.len (T 6))), (oP 8 (.mv (T 1))), (oP 9 (.len (T 8))), (oP 10 (.bin .neq (T 7) (T 9)))])) (.tr (rl [0, 0, 2]) false (.cond
  (T 10) (.seq (.region false [(oP 4 (.mv (.lit (.c (.pv (.bool false))))))]) (.tr (rl [4]) false .ret)) .skip))) (.seq (.seq (.region false [(oP 5 (.mv (tI
  0)))]) (.tr (rl [4]) false (.block 0 (.loop (rl [0, 0, 3]) xf28_l0)))) (.seq (.region false [(oP 4 (.mv (.lit (.c (.pv (.bool true))))))]) (.tr (rl [4]) false
  .ret))))))
theorem xf28_ok : cmpFunc Go.Proofs.Tryd.prog 28 ((.two (.tr (rl [0, 0]) false .no) (.two (.two (.tr (rl [0, 0, 8]) false .no) (.tr (rl [0, 0, 2]) false (.two (.two .no (.tr (rl [4]) false .no)) .no))) (.two (.two .no (.tr (rl [4]) false (.loop (rl [0, 0, 3]) (.two (.two (.tr (rl [0, 0, 3, 8]) false .no) (.tr (rl [0, 0, 3]) false (.two .no (.tr [] false .no)))) (.two (.tr (rl [0, 0, 2, 0]) false (.two (.tr (rl [0, 0, 3, 20]) false (.draw [0, 1, 2, 3, 4, 5, 6, 7, 8, 9] [{}, {}, {}, {}, {}, {}, {}, {}, { cls := some .p }])) (.tr (rl [0, 0, 2, 0]) false (.two (.two .no (.tr (rl [4]) false .no)) .no)))) (.tr (rl [0, 0, 3]) false .no)))))) (.two .no (.tr (rl [4]) false .no)))))) = some xf28 := by kernel_rfl
def xf29 : XFunc :=
(.mk 22 [(.tmp 4)] (.seq (.tr (rl [1, 0]) false (.region false [(oW 2 (.box (T 0) 3)), (oP 4 (.mv (.lit (.c (.pv (.sl .nil 0 []))))))])) (.seq (.tr (rl [2, 2])
  false (.region false [(oP 6 (.faddr 1 (T 2))), (oR 7 (.load false 1 (T 6))), (oP 8 (.mv (T 1))), (oP 9 (.iaddrS 4 (T 7) (T 8))), (oR 10 (.load true 4 (T 9))),
  (oW 5 (.alloc [(.pv (.int .i64 0)), (.pv (.int .i64 0)), (.pv (.int .i32 0)), (.pv (.int .i32 0))])), (sW (.store 4 (T 5) (T 10)))])) (.seq (.tr (rl [4])
  false (.region true [(oP 11 (.faddr 0 (T 2))), (oP 12 (.faddr 0 (T 11))), (oR 13 (.load false 1 (T 12))), (oP 14 (.faddr 1 (T 5))), (oR 15 (.load false 1 (T
  14))), (oP 16 (.sliceV 7 (T 13) none (some (T 15)) none)), (oP 17 (.faddr 2 (T 5))), (oR 18 (.load false 1 (T 17))), (oP 19 (.faddr 3 (T 5))), (oR 20 (.load
  false 1 (T 19))), (oP 21 (.call false [] (.lit (.c (.fn 66 []))) [(T 16), (T 18), (T 20)])), (oP 4 (.mv (T 21)))])) (.tr (rl [4]) false .ret)))))
theorem xf29_ok : cmpFunc Go.Proofs.Tryd.prog 29 ((.two (.tr (rl [1, 0]) false .no) (.two (.tr (rl [2, 2]) false .no) (.two (.tr (rl [4]) false (.draw [0, 1, 2, 3, 4, 5, 6, 7, 8, 9, 10, 11] [{}, {}, {}, {}, {}, {}, {}, {}, {}, {}, { cls := some .p }])) (.tr (rl [4]) false .no))))) = some xf29 := by kernel_rfl
def xf32 : XFunc :=
(.mk 27 [(.tmp 8), (.tmp 9)] (.seq (.tr (rl [1, 0, 0, 0]) false (.region false [(oW 4 (.box (T 0) 3)), (oP 8 (.mv (tI 0))), (oP 9 (.mv (tI 0)))])) (.seq (.tr
  (rl [2, 0, 6, 0]) false (.region false [(oR 13 (.load true 3 (T 4))), (oP 14 (.mv (T 1))), (oP 15 (.call false [] (.lit (.c (.fn 18 []))) [(T 13), (T 14)])),
  (oP 12 (.mv (T 15))), (oP 16 (.extr 0 (T 12))), (oP 17 (.extr 1 (T 12))), (oP 10 (.mv (T 16))), (oP 11 (.mv (T 17)))])) (.seq (.seq (.tr (rl [2, 0, 6, 0, 7])
  false (.region false [(oP 18 (.mv (T 11))), (oP 19 (.bin .neq (T 18) (tI 0)))])) (.tr (rl [2, 0, 4, 0, 0]) false (.cond (T 19) (.seq (.tr (rl [8, 0]) false
  (.region false [(oP 20 (.mv (T 11))), (oP 8 (.mv (tI 0))), (oP 9 (.mv (T 20)))])) (.tr (rl [8, 0]) false .ret)) .skip))) (.seq (.tr (rl [8, 0]) false (.region
  false [(oP 21 (.mv (T 10))), (oP 22 (.mv (T 2))), (oP 23 (.mv (T 3))), (oP 24 (.call false [] (.lit (.c (.fn 34 []))) [(T 21), (T 22), (T 23), (.lit (.c (.pv
  (.int .i32 50000))))])), (oP 25 (.extr 0 (T 24))), (oP 26 (.extr 1 (T 24))), (oP 8 (.mv (T 25))), (oP 9 (.mv (T 26)))])) (.tr (rl [8, 0]) false .ret))))))
theorem xf32_ok : cmpFunc Go.Proofs.Tryd.prog 32 ((.two (.tr (rl [1, 0, 0, 0]) false .no) (.two (.tr (rl [2, 0, 6, 0]) false (.ops [{}, {}, { cls := some .p }])) (.two (.two (.tr (rl [2, 0, 6, 0, 7]) false .no) (.tr (rl [2, 0, 4, 0, 0]) false (.two (.two (.tr (rl [8, 0]) false .no) (.tr (rl [8, 0]) false .no)) .no))) (.two (.tr (rl [8, 0]) false (.ops [{}, {}, {}, { cls := some .p }])) (.tr (rl [8, 0]) false .no)))))) = some xf32 := by kernel_rfl
def xf33 : XFunc :=
(.mk 13 [(.tmp 6), (.tmp 7)] (.seq (.tr (rl [3, 0, 0]) false (.region false [(oW 3 (.box (T 0) 1)), (oW 4 (.box (T 1) 1)), (oW 5 (.box (T 2) 1)), (oP 6 (.mv
  (.lit (.c (.pv (.sl .nil 0 [])))))), (oP 7 (.mv (tI 0)))])) (.seq (.tr (rl [6, 0]) false (.region false [(oR 8 (.load true 1 (T 3))), (oP 9 (.mkfn 68 [(T 4),
  (T 5)])), (oW 10 (.call false [] (.lit (.c (.fn 67 []))) [(T 8), (T 9)])), (oP 11 (.extr 0 (T 10))), (oP 12 (.extr 1 (T 10))), (oP 6 (.mv (T 11))), (oP 7 (.mv
  (T 12)))])) (.tr (rl [6, 0]) false .ret))))
theorem xf33_ok : cmpFunc Go.Proofs.Tryd.prog 33 ((.two (.tr (rl [3, 0, 0]) false .no) (.two (.tr (rl [6, 0]) false .no) (.tr (rl [6, 0]) false .no)))) = some xf33 := by kernel_rfl
def xf34_l0 : XCode :=
(.seq (.region false [(oP 24 (.bin .lss (T 23) (T 22)))]) (.seq (.tr (rl [0, 0, 0, 0, 17, 0, 0]) false (.cond (T 24) .skip (.tr (rl [0, 0, 0, 0]) false (.exit
  0)))) (.seq (.tr (rl [0, 0, 0, 0, 4, 0, 11, 0, 0]) false (.block 1 (.seq (.tr (rl [0, 0, 0, 0, 7, 9, 0, 0]) false (.region false [(oP 25 (.iaddrS 7 (T 21) (T
  23))), (oR 26 (.load true 7 (T 25))), (oW 11 (.alloc [(.pv (.int .i64 0)), (.pv (.int .i32 0)), (.pv (.int .i32 0)), (.pv (.sl .nil 0 [])), (.pv (.int .i64
  0)), (.pv (.int .i64 0)), (.pv (.str []))])), (sW (.store 7 (T 11) (T 26)))])) (.seq (.tr (rl [0, 0, 0, 0, 8, 8, 0, 0]) false (.region false [(oR 27 (.load
  true 7 (T 11))), (oP 28 (.call false [] (.lit (.c (.fn 69 []))) [(T 27)])), (oP 12 (.mv (T 28)))])) (.seq (.tr (rl [0, 0, 0, 0, 8, 8, 0, 0, 6]) false (.region
  false [(oP 29 (.mv (T 12))), (oP 30 (.bin .neq (T 29) (tI 0)))])) (.tr (rl [0, 0, 0, 0, 4, 0, 11, 0, 0]) false (.cond (T 30) (.seq (.tr (rl [8, 0]) false
  (.region false [(oP 31 (.mv (T 12))), (oP 8 (.mv (tI 0))), (oP 9 (.mv (T 31)))])) (.tr (rl [8, 0]) false .ret)) .skip))))))) (.tr (rl [0, 0, 0, 0, 17, 0, 0])
  false (.region false [(oP 32 (.bin .add (T 23) (tI 1))), (oP 23 (.mv (T 32)))])))))
def xf34_l1 : XCode :=
(.seq (.region false [(oP 42 (.bin .lss (T 41) (T 40)))]) (.seq (.tr (rl [1, 0, 0, 9, 25, 0, 0]) false (.cond (T 42) .skip (.tr (rl [13]) false (.exit 2))))
  (.seq (.tr (rl [1, 0, 0, 9, 25, 0, 0]) false (.block 3 (.seq (.tr (rl [1, 0, 0, 9, 1, 23, 0, 0]) false (.region false [(oP 43 (.iaddrS 7 (T 39) (T 41))), (oR
  44 (.load true 7 (T 43))), (oW 15 (.alloc [(.pv (.int .i64 0)), (.pv (.int .i32 0)), (.pv (.int .i32 0)), (.pv (.sl .nil 0 [])), (.pv (.int .i64 0)), (.pv
  (.int .i64 0)), (.pv (.str []))])), (sW (.store 7 (T 15) (T 44)))])) (.seq (.tr (rl [1, 0, 0, 9, 1, 0, 22, 0, 0]) false (.region false [(oR 46 (.load true 7
  (T 15))), (oP 47 (.mv (T 1))), (oP 48 (.mv (T 2))), (oP 49 (.call false [] (.lit (.c (.fn 70 []))) [(T 46), (T 47), (T 48)])), (oP 45 (.mv (T 49))), (oP 50
  (.extr 0 (T 45))), (oP 51 (.extr 1 (T 45))), (oP 16 (.mv (T 50))), (oP 17 (.mv (T 51)))])) (.seq (.tr (rl [1, 0, 0, 9, 2, 22, 0, 0, 13]) false (.region false
  [(oP 52 (.faddr 2 (T 15))), (oR 53 (.load false 1 (T 52))), (oP 54 (.mv (T 3))), (oP 55 (.bin .leq (T 53) (T 54)))])) (.tr (rl [1, 0, 0, 9, 25, 0, 0]) false
  (.cond (T 55) (.tr (rl [1, 0, 0, 9, 25, 0, 0]) false (.region false [(oP 56 (.mv (T 13))), (oP 57 (.mv (T 16))), (oP 58 (.bin .add (T 56) (T 57))), (oP 13
  (.mv (T 58)))])) .skip))))))) (.tr (rl [1, 0, 0, 9, 25, 0, 0]) false (.region false [(oP 59 (.bin .add (T 41) (tI 1))), (oP 41 (.mv (T 59)))])))))
def xf34 : XFunc :=
(.mk 61 [(.tmp 8), (.tmp 9)] (.seq (.tr (rl [0, 0, 0, 0]) false (.region false [(oP 8 (.mv (tI 0))), (oP 9 (.mv (tI 0)))])) (.seq (.seq (.tr (rl [0, 0, 0, 0,
  16]) false (.region false [(oP 18 (.mv (T 0))), (oP 19 (.len (T 18))), (oP 20 (.bin .gtr (T 19) (tI 400)))])) (.tr (rl [0, 0, 0, 0, 4, 0]) false (.cond (T 20)
  (.seq (.region false [(oP 8 (.mv (tI 0))), (oP 9 (.mv (tI 4)))]) (.tr (rl [8, 0]) false .ret)) .skip))) (.seq (.seq (.region false [(oP 21 (.mv (T 0))), (oP
  22 (.len (T 21))), (oP 23 (.mv (tI 0)))]) (.tr (rl [0, 0, 0, 0, 4, 0]) false (.block 0 (.loop (rl [0, 0, 0, 0, 17, 0, 0]) xf34_l0)))) (.seq (.seq (.tr (rl [0,
  0, 0, 0, 34]) false (.region false [(oP 33 (.mv (T 2))), (oP 34 (.bin .lss (T 33) (tI 0))), (oP 35 (.mv (T 34))), (.mk (some 36) (.mv (T 2)) (some (35,
  false)) .p), (.mk (some 37) (.bin .geq (T 36) (tI 4)) (some (35, false)) .p), (oP 38 (.pick (T 35) (.lit (.c (.pv (.bool true)))) (T 37)))])) (.tr (rl [0, 0,
  0, 0, 4, 0]) false (.cond (T 38) (.seq (.region false [(oP 8 (.mv (tI 0))), (oP 9 (.mv (tI 12)))]) (.tr (rl [8, 0]) false .ret)) .skip))) (.seq (.region false
  [(oP 13 (.mv (tI 0)))]) (.seq (.seq (.tr (rl [1, 0, 0, 9, 25, 0, 0]) false (.region false [(oP 39 (.mv (T 0))), (oP 40 (.len (T 39))), (oP 41 (.mv (tI 0)))]))
  (.tr (rl [13]) false (.block 2 (.loop (rl [1, 0, 0, 9, 25, 0, 0]) xf34_l1)))) (.seq (.tr (rl [8, 0]) false (.region false [(oP 60 (.mv (T 13))), (oP 8 (.mv (T
  60))), (oP 9 (.mv (tI 0)))])) (.tr (rl [8, 0]) false .ret)))))))))
theorem xf34_ok : cmpFunc Go.Proofs.Tryd.prog 34 ((.two (.tr (rl [0, 0, 0, 0]) false .no) (.two (.two (.tr (rl [0, 0, 0, 0, 16]) false .no) (.tr (rl [0, 0, 0, 0, 4, 0]) false (.two (.two .no (.tr (rl [8, 0]) false .no)) .no))) (.two (.two .no (.tr (rl [0, 0, 0, 0, 4, 0]) false (.loop (rl [0, 0, 0, 0, 17, 0, 0]) (.two .no (.two (.tr (rl [0, 0, 0, 0, 17, 0, 0]) false (.two .no (.tr (rl [0, 0, 0, 0]) false .no))) (.two (.tr (rl [0, 0, 0, 0, 4, 0, 11, 0, 0]) false (.two (.tr (rl [0, 0, 0, 0, 7, 9, 0, 0]) false .no) (.two (.tr (rl [0, 0, 0, 0, 8, 8, 0, 0]) false (.ops [{}, { cls := some .p }])) (.two (.tr (rl [0, 0, 0, 0, 8, 8, 0, 0, 6]) false .no) (.tr (rl [0, 0, 0, 0, 4, 0, 11, 0, 0]) false (.two (.two (.tr (rl [8, 0]) false .no) (.tr (rl [8, 0]) false .no)) .no)))))) (.tr (rl [0, 0, 0, 0, 17, 0, 0]) false .no))))))) (.two (.two (.tr (rl [0, 0, 0, 0, 34]) false .no) (.tr (rl [0, 0, 0, 0, 4, 0]) false (.two (.two .no (.tr (rl [8, 0]) false .no)) .no))) (.two .no (.two (.two (.tr (rl [1, 0, 0, 9, 25, 0, 0]) false .no) (.tr (rl [13]) false (.loop (rl [1, 0, 0, 9, 25, 0, 0]) (.two .no (.two (.tr (rl [1, 0, 0, 9, 25, 0, 0]) false (.two .no (.tr (rl [13]) false .no))) (.two (.tr (rl [1, 0, 0, 9, 25, 0, 0]) false (.two (.tr (rl [1, 0, 0, 9, 1, 23, 0, 0]) false .no) (.two (.tr (rl [1, 0, 0, 9, 1, 0, 22, 0, 0]) false (.ops [{}, {}, {}, { cls := some .p }])) (.two (.tr (rl [1, 0, 0, 9, 2, 22, 0, 0, 13]) false .no) (.tr (rl [1, 0, 0, 9, 25, 0, 0]) false (.two (.tr (rl [1, 0, 0, 9, 25, 0, 0]) false .no) .no)))))) (.tr (rl [1, 0, 0, 9, 25, 0, 0]) false .no))))))) (.two (.tr (rl [8, 0]) false .no) (.tr (rl [8, 0]) false .no))))))))) = some xf34 := by kernel_rfl
def xf52 : XFunc :=
(.mk 13 [(.tmp 2)] (.seq (.tr (rl [1]) false (.region false [(oW 1 (.box (T 0) 7)), (oP 2 (.mv (.lit (.c (.pv (.bool false))))))])) (.seq (.tr (rl [2]) false
  (.region false [(oP 3 (.faddr 3 (T 1))), (oR 4 (.load false 1 (T 3))), (oP 5 (.len (T 4))), (oP 6 (.bin .leq (T 5) (tI 40))), (oP 7 (.mv (T 6))), (.mk (some
  8) (.faddr 6 (T 1)) (some (7, true)) .p), (.mk (some 9) (.load false 1 (T 8)) (some (7, true)) .r), (.mk (some 10) (.lenS (T 9)) (some (7, true)) .p), (.mk
  (some 11) (.bin .leq (T 10) (tI 400)) (some (7, true)) .p), (oP 12 (.pick (T 7) (T 11) (.lit (.c (.pv (.bool false)))))), (oP 2 (.mv (T 12)))])) (.tr (rl [2])
  false .ret))))
theorem xf52_ok : cmpFunc Go.Proofs.Tryd.prog 52 ((.two (.tr (rl [1]) false .no) (.two (.tr (rl [2]) false .no) (.tr (rl [2]) false .no)))) = some xf52 := by kernel_rfl
def xf53 : XFunc :=
(.mk 21 [(.cell 8 true 7)] (.seq (.region false [(oW 8 (.alloc [(.pv (.int .i64 0)), (.pv (.int .i32 0)), (.pv (.int .i32 0)), (.pv (.sl .nil 0 [])), (.pv (.int
  .i64 0)), (.pv (.int .i64 0)), (.pv (.str []))]))]) (.seq (.tr (rl [8]) false (.region false [(oP 9 (.mv (T 0))), (oP 10 (.mv (T 1))), (oP 11 (.mv (T 2))),
  (oP 12 (.mv (T 3))), (oP 13 (.build [(.pv (.int .i64 0)), (.pv (.int .i64 0))] [(1, (1, (T 12)))])), (oP 14 (.build [(.pv (.int .i64 0)), (.pv (.int .i64 0)),
  (.pv (.int .i64 0))] [(0, (1, (tI 2))), (1, (2, (T 13)))])), (oP 15 (.mv (T 3))), (oP 16 (.un .neg (T 15))), (oP 17 (.build [(.pv (.int .i64 0)), (.pv (.int
  .i64 0))] [(1, (1, (T 16)))])), (oP 18 (.build [(.pv (.int .i64 0)), (.pv (.int .i64 0)), (.pv (.int .i64 0))] [(0, (1, (tI 1))), (1, (2, (T 17)))])), (oP 19
  (.buildSl [(.pv (.int .i64 0)), (.pv (.int .i64 0)), (.pv (.int .i64 0))] 2 3 [(0, (3, (T 14))), (3, (3, (T 18)))])), (oP 20 (.build [(.pv (.int .i64 0)),
  (.pv (.int .i32 0)), (.pv (.int .i32 0)), (.pv (.sl .nil 0 [])), (.pv (.int .i64 0)), (.pv (.int .i64 0)), (.pv (.str []))] [(0, (1, (T 9))), (1, (1, (T
  10))), (2, (1, (T 11))), (3, (1, (T 19)))])), (sW (.store 7 (T 8) (T 20)))])) (.tr (rl [8]) false .ret))))
theorem xf53_ok : cmpFunc Go.Proofs.Tryd.prog 53 ((.two .no (.two (.tr (rl [8]) false .no) (.tr (rl [8]) false .no)))) = some xf53 := by kernel_rfl
def xf54 : XFunc :=
(.mk 9 [(.tmp 2)] (.seq (.tr (rl [0]) false (.region false [(oP 2 (.mv (.lit (.c (.pv (.bool false))))))])) (.seq (.tr (rl [2]) false (.region false [(oP 3 (.mv
  (T 0))), (oP 4 (.bin .geq (T 3) (.lit (.c (.pv (.int .i32 (-50000))))))), (oP 5 (.mv (T 4))), (.mk (some 6) (.mv (T 0)) (some (5, true)) .p), (.mk (some 7)
  (.bin .leq (T 6) (.lit (.c (.pv (.int .i32 50000))))) (some (5, true)) .p), (oP 8 (.pick (T 5) (T 7) (.lit (.c (.pv (.bool false)))))), (oP 2 (.mv (T 8)))]))
  (.tr (rl [2]) false .ret))))
theorem xf54_ok : cmpFunc Go.Proofs.Tryd.prog 54 ((.two (.tr (rl [0]) false .no) (.two (.tr (rl [2]) false .no) (.tr (rl [2]) false .no)))) = some xf54 := by kernel_rfl
def xf55 : XFunc :=
(.mk 39 [(.cell 4 true 1), (.tmp 5)] (.seq (.tr (rl [2, 0, 0]) false (.region false [(oW 2 (.box (T 0) 1)), (oW 3 (.box (T 1) 7)), (oW 4 (.alloc [(.pv (.sl .nil
  0 []))])), (oP 5 (.mv (tI 0)))])) (.seq (.seq (.tr (rl [2, 0, 0, 6]) false (.region false [(oR 9 (.load true 1 (T 2))), (oP 10 (.call false [] (.lit (.c (.fn
  61 []))) [(T 9)])), (oP 11 (.un .not (T 10)))])) (.tr (rl [2, 0, 0, 0]) false (.cond (T 11) (.seq (.tr (rl [4, 0]) false (.region false [(oP 12 (.build [(.pv
  (.sl .nil 0 []))] [])), (sW (.store 1 (T 4) (T 12))), (oP 5 (.mv (tI 1)))])) (.tr (rl [4, 0]) false .ret)) .skip))) (.seq (.seq (.tr (rl [2, 0, 0, 1]) false
  (.region false [(oR 13 (.load true 7 (T 3))), (oP 14 (.call false [] (.lit (.c (.fn 69 []))) [(T 13)])), (oP 6 (.mv (T 14)))])) (.seq (.tr (rl [2, 0, 0, 1,
  9]) false (.region false [(oP 15 (.mv (T 6))), (oP 16 (.bin .neq (T 15) (tI 0)))])) (.tr (rl [2, 0, 0, 0]) false (.cond (T 16) (.seq (.tr (rl [4, 0]) false
  (.region false [(oP 17 (.build [(.pv (.sl .nil 0 []))] [])), (oP 18 (.mv (T 6))), (sW (.store 1 (T 4) (T 17))), (oP 5 (.mv (T 18)))])) (.tr (rl [4, 0]) false
  .ret)) .skip)))) (.seq (.seq (.tr (rl [2, 0, 0, 2]) false (.region true [(oP 19 (.faddr 0 (T 2))), (oR 20 (.loadR false 1 (T 19) (T 2))), (oP 21 (.faddr 0 (T
  2))), (oR 22 (.load false 1 (T 21))), (oR 24 (.loadR true 7 (T 3) (T 3))), (oW 23 (.call false [(T 2), (T 3)] (.lit (.c (.fn 99 []))) [(T 22)])), (oW 25
  (.call false [] (.lit (.c (.fn 98 []))) [(T 20), (T 23), (T 24)])), (oP 7 (.mv (T 25)))])) (.seq (.tr (rl [2, 0, 0, 2, 19]) false (.region false [(oP 26 (.mv
  (T 7))), (oP 27 (.bin .neq (T 26) (tI 0)))])) (.tr (rl [2, 0, 0, 0]) false (.cond (T 27) (.seq (.tr (rl [4, 0]) false (.region false [(oP 28 (.build [(.pv
  (.sl .nil 0 []))] [])), (oP 29 (.mv (T 7))), (sW (.store 1 (T 4) (T 28))), (oP 5 (.mv (T 29)))])) (.tr (rl [4, 0]) false .ret)) .skip)))) (.seq (.region false
  [(oP 8 (.mv (.lit (.c (.fn 100 [])))))]) (.seq (.tr (rl [4, 0]) false (.region true [(oP 30 (.faddr 0 (T 2))), (oR 31 (.load false 1 (T 30))), (oP 32 (.mv (T
  8))), (oR 34 (.loadR true 7 (T 3) (T 3))), (oW 33 (.call false [(T 3)] (.lit (.c (.fn 101 []))) [(T 31), (T 32)])), (oP 35 (.call false [] (.lit (.c (.fn 102
  []))) [(T 34)])), (oP 36 (.buildSl [(.pv (.int .i64 0)), (.pv (.int .i32 0)), (.pv (.int .i32 0)), (.pv (.sl .nil 0 [])), (.pv (.int .i64 0)), (.pv (.int .i64
  0)), (.pv (.str []))] 1 7 [(0, (7, (T 35)))])), (oW 37 (.app 7 72 (T 33) (T 36))), (oP 38 (.build [(.pv (.sl .nil 0 []))] [(0, (1, (T 37)))])), (sW (.store 1
  (T 4) (T 38))), (oP 5 (.mv (tI 0)))])) (.tr (rl [4, 0]) false .ret))))))))
theorem xf55_ok : cmpFunc Go.Proofs.Tryd.prog 55 ((.two (.tr (rl [2, 0, 0]) false .no) (.two (.two (.tr (rl [2, 0, 0, 6]) false (.ops [{}, { cls := some .p }])) (.tr (rl [2, 0, 0, 0]) false (.two (.two (.tr (rl [4, 0]) false .no) (.tr (rl [4, 0]) false .no)) .no))) (.two (.two (.tr (rl [2, 0, 0, 1]) false (.ops [{}, { cls := some .p }])) (.two (.tr (rl [2, 0, 0, 1, 9]) false .no) (.tr (rl [2, 0, 0, 0]) false (.two (.two (.tr (rl [4, 0]) false .no) (.tr (rl [4, 0]) false .no)) .no)))) (.two (.two (.tr (rl [2, 0, 0, 2]) false (.draw [0, 1, 2, 3, 5, 4, 6, 7] [{}, { root := some 2 }, {}, {}, { ap := [2, 3] }, { root := some 3 }])) (.two (.tr (rl [2, 0, 0, 2, 19]) false .no) (.tr (rl [2, 0, 0, 0]) false (.two (.two (.tr (rl [4, 0]) false .no) (.tr (rl [4, 0]) false .no)) .no)))) (.two .no (.two (.tr (rl [4, 0]) false (.draw [0, 1, 2, 4, 3, 5, 6, 7, 8, 9, 10] [{}, {}, {}, { ap := [3] }, { root := some 3 }, { cls := some .p }])) (.tr (rl [4, 0]) false .no)))))))) = some xf55 := by kernel_rfl
def xf56 : XFunc :=
(.mk 8 [(.tmp 2)] (.seq (.tr (rl [0]) false (.region false [(oP 2 (.mv (.lit (.c (.pv (.sl .nil 0 []))))))])) (.seq (.seq (.tr (rl [0, 3]) false (.region false
  [(oP 3 (.mv (T 0))), (oP 4 (.eqN 0 false (T 3) (.lit (.c (.pv (.sl .nil 0 []))))))])) (.tr (rl [0, 1]) false (.cond (T 4) (.seq (.region false [(oP 2 (.mv
  (.lit (.c (.pv (.sl .nil 0 []))))))]) (.tr (rl [2]) false .ret)) .skip))) (.seq (.tr (rl [2]) false (.region false [(oP 5 (.buildSl [(.pv (.int .i64 0)), (.pv
  (.int .i64 0)), (.pv (.int .i32 0)), (.pv (.int .i32 0))] 0 4 [])), (oP 6 (.mv (T 0))), (oW 7 (.app 4 24 (T 5) (T 6))), (oP 2 (.mv (T 7)))])) (.tr (rl [2])
  false .ret)))))
theorem xf56_ok : cmpFunc Go.Proofs.Tryd.prog 56 ((.two (.tr (rl [0]) false .no) (.two (.two (.tr (rl [0, 3]) false .no) (.tr (rl [0, 1]) false (.two (.two .no (.tr (rl [2]) false .no)) .no))) (.two (.tr (rl [2]) false .no) (.tr (rl [2]) false .no))))) = some xf56 := by kernel_rfl
def xf57 : XFunc :=
(.mk 9 [(.tmp 2)] (.seq (.tr (rl [0]) false (.region false [(oP 2 (.mv (.lit (.c (.pv (.bool false))))))])) (.seq (.tr (rl [2]) false (.region false [(oP 3 (.mv
  (T 0))), (oP 4 (.bin .geq (T 3) (.lit (.c (.pv (.int .i32 (-50000))))))), (oP 5 (.mv (T 4))), (.mk (some 6) (.mv (T 0)) (some (5, true)) .p), (.mk (some 7)
  (.bin .leq (T 6) (.lit (.c (.pv (.int .i32 50000))))) (some (5, true)) .p), (oP 8 (.pick (T 5) (T 7) (.lit (.c (.pv (.bool false)))))), (oP 2 (.mv (T 8)))]))
  (.tr (rl [2]) false .ret))))
theorem xf57_ok : cmpFunc Go.Proofs.Tryd.prog 57 ((.two (.tr (rl [0]) false .no) (.two (.tr (rl [2]) false .no) (.tr (rl [2]) false .no)))) = some xf57 := by kernel_rfl
def xf58 : XFunc :=
(.mk 11 [(.cell 2 true 1)] (.seq (.tr (rl [1, 0]) false (.region false [(oW 1 (.box (T 0) 1)), (oW 2 (.alloc [(.pv (.sl .nil 0 []))]))])) (.seq (.tr (rl [2, 0])
  false (.region false [(oR 6 (.load true 1 (T 1))), (oP 7 (.call false [] (.lit (.c (.fn 103 []))) [(T 6), (.lit (.c (.pv (.int .i32 50000))))])), (oP 5 (.mv
  (T 7))), (oP 8 (.extr 0 (T 5))), (oP 9 (.extr 1 (T 5))), (oW 3 (.alloc [(.pv (.sl .nil 0 []))])), (sW (.store 1 (T 3) (T 8))), (oP 4 (.mv (T 9)))])) (.seq
  (.tr (rl [2]) false (.region false [(oR 10 (.load true 1 (T 3))), (sW (.store 1 (T 2) (T 10)))])) (.tr (rl [2]) false .ret)))))
theorem xf58_ok : cmpFunc Go.Proofs.Tryd.prog 58 ((.two (.tr (rl [1, 0]) false .no) (.two (.tr (rl [2, 0]) false (.ops [{}, { cls := some .p }])) (.two (.tr (rl [2]) false .no) (.tr (rl [2]) false .no))))) = some xf58 := by kernel_rfl
def xf59 : XFunc :=
(.mk 17 [(.tmp 4), (.tmp 5)] (.seq (.tr (rl [2, 0]) false (.region false [(oW 2 (.box (T 0) 3)), (oW 3 (.box (T 1) 1)), (oP 4 (.mv (tI 0))), (oP 5 (.mv (tI
  0)))])) (.seq (.seq (.tr (rl [2, 0, 5]) false (.region false [(oR 7 (.load true 3 (T 2))), (oP 8 (.call false [] (.lit (.c (.fn 21 []))) [(T 7)])), (oP 9 (.un
  .not (T 8)))])) (.tr (rl [2, 0, 0, 0]) false (.cond (T 9) (.seq (.region false [(oP 4 (.mv (tI 0))), (oP 5 (.mv (tI 1)))]) (.tr (rl [4, 0]) false .ret))
  .skip))) (.seq (.tr (rl [6]) false (.region false [(oP 10 (.faddr 1 (T 2))), (oR 11 (.load false 1 (T 10))), (oP 12 (.mkfn 105 [(T 3)])), (oW 13 (.call false
  [] (.lit (.c (.fn 104 []))) [(T 11), (T 12)])), (oP 6 (.mv (T 13)))])) (.seq (.seq (.tr (rl [6, 8]) false (.region false [(oP 14 (.mv (T 6))), (oP 15 (.bin
  .lss (T 14) (tI 0)))])) (.tr (rl [4, 0, 0]) false (.cond (T 15) (.seq (.region false [(oP 4 (.mv (tI 0))), (oP 5 (.mv (tI 8)))]) (.tr (rl [4, 0]) false .ret))
  .skip))) (.seq (.tr (rl [4, 0]) false (.region false [(oP 16 (.mv (T 6))), (oP 4 (.mv (T 16))), (oP 5 (.mv (tI 0)))])) (.tr (rl [4, 0]) false .ret)))))))
theorem xf59_ok : cmpFunc Go.Proofs.Tryd.prog 59 ((.two (.tr (rl [2, 0]) false .no) (.two (.two (.tr (rl [2, 0, 5]) false (.ops [{}, { cls := some .p }])) (.tr (rl [2, 0, 0, 0]) false (.two (.two .no (.tr (rl [4, 0]) false .no)) .no))) (.two (.tr (rl [6]) false .no) (.two (.two (.tr (rl [6, 8]) false .no) (.tr (rl [4, 0, 0]) false (.two (.two .no (.tr (rl [4, 0]) false .no)) .no))) (.two (.tr (rl [4, 0]) false .no) (.tr (rl [4, 0]) false .no))))))) = some xf59 := by kernel_rfl
def xf60 : XFunc :=
(.mk 33 [(.tmp 6)] (.seq (.tr (rl [0, 0, 0]) false (.region false [(oP 6 (.mv (.lit (.c (.pv (.sl .nil 0 []))))))])) (.seq (.tr (rl [0, 0, 0]) false (.region
  false [(oP 8 (.mv (T 0))), (oP 9 (.mv (T 1))), (oP 10 (.mv (T 2))), (oP 11 (.mv (T 0))), (oP 12 (.len (T 11))), (oR 13 (.sliceM 4 (T 8) (some (T 9)) (some (T
  10)) (some (T 12))))])) (.seq (.seq (.tr (rl [0, 0, 0, 13]) false (.region false [(oP 14 (.mv (T 1))), (oP 15 (.mv (T 2))), (oP 16 (.bin .eql (T 14) (T
  15)))])) (.tr (rl [0, 0, 0, 3]) false (.cond (T 16) (.seq (.tr (rl [6]) false (.region false [(oP 17 (.mv (T 0))), (oP 6 (.mv (T 17)))])) (.tr (rl [6]) false
  .ret)) .skip))) (.seq (.tr (rl [0, 0, 0, 4]) false (.region false [(oP 18 (.mv (T 0))), (oP 19 (.len (T 18))), (oP 7 (.mv (T 19)))])) (.seq (.tr (rl [0, 6])
  false (.region true [(oP 20 (.mv (T 0))), (oP 21 (.mv (T 1))), (oR 22 (.sliceM 4 (T 20) none (some (T 21)) none)), (oP 23 (.mv (T 0))), (oP 24 (.mv (T 2))),
  (oP 25 (.sliceV 4 (T 23) (some (T 24)) none none)), (oW 26 (.appM 4 (T 22) (T 25))), (oP 0 (.mv (T 26)))])) (.seq (.tr (rl [0]) false (.region false [(oP 27
  (.mv (T 0))), (oP 28 (.mv (T 0))), (oP 29 (.len (T 28))), (oP 30 (.mv (T 7))), (oR 31 (.sliceM 4 (T 27) (some (T 29)) (some (T 30)) none)), (sW (.clr [(.pv
  (.int .i64 0)), (.pv (.int .i64 0)), (.pv (.int .i32 0)), (.pv (.int .i32 0))] 4 (T 31)))])) (.seq (.tr (rl [6]) false (.region false [(oP 32 (.mv (T 0))),
  (oP 6 (.mv (T 32)))])) (.tr (rl [6]) false .ret)))))))))
theorem xf60_ok : cmpFunc Go.Proofs.Tryd.prog 60 ((.two (.tr (rl [0, 0, 0]) false .no) (.two (.tr (rl [0, 0, 0]) false (.ops [{}, {}, {}, {}, {}, { cls := some .r, own := true }])) (.two (.two (.tr (rl [0, 0, 0, 13]) false .no) (.tr (rl [0, 0, 0, 3]) false (.two (.two (.tr (rl [6]) false .no) (.tr (rl [6]) false .no)) .no))) (.two (.tr (rl [0, 0, 0, 4]) false .no) (.two (.tr (rl [0, 6]) false (.draw [0, 1, 2, 3, 4, 5, 6, 7] [{}, {}, { cls := some .r, own := true }, {}, {}, {}, { own := true }])) (.two (.tr (rl [0]) false (.ops [{}, {}, {}, {}, { cls := some .r, own := true }])) (.two (.tr (rl [6]) false .no) (.tr (rl [6]) false .no))))))))) = some xf60 := by kernel_rfl
def xf61_l0 : XCode :=
(.seq (.region false [(oP 11 (.bin .lss (T 10) (T 9)))]) (.seq (.tr (rl [1, 1, 4, 0, 0]) false (.cond (T 11) .skip (.tr [] false (.exit 0)))) (.seq (.tr (rl [1,
  0, 0, 4, 0, 0]) false (.block 1 (.seq (.tr (rl [1, 1, 0, 0, 2, 0, 0]) false (.region false [(oP 12 (.mv (T 10))), (oP 13 (.iaddrS 7 (T 8) (T 10))), (oR 14
  (.load true 7 (T 13))), (oW 5 (.alloc [(.pv (.int .i64 0)), (.pv (.int .i32 0)), (.pv (.int .i32 0)), (.pv (.sl .nil 0 [])), (.pv (.int .i64 0)), (.pv (.int
  .i64 0)), (.pv (.str []))])), (oP 4 (.mv (T 12))), (sW (.store 7 (T 5) (T 14)))])) (.seq (.seq (.tr (rl [1, 1, 1, 2, 0, 0, 16]) false (.region true [(oR 15
  (.load true 7 (T 5))), (oP 16 (.call false [] (.lit (.c (.fn 69 []))) [(T 15)])), (oP 17 (.bin .neq (T 16) (tI 0))), (oP 18 (.mv (T 17))), (.mk (some 19)
  (.faddr 0 (T 1)) (some (18, false)) .p), (.mk (some 20) (.load false 1 (T 19)) (some (18, false)) .r), (.mk (some 21) (.mv (T 4)) (some (18, false)) .p), (.mk
  (some 22) (.sliceV 7 (T 20) none (some (T 21)) none) (some (18, false)) .p), (.mk (some 23) (.mv (T 3)) (some (18, false)) .p), (.mk (some 24) (.load true 7
  (T 5)) (some (18, false)) .r), (.mk (some 25) (.call false [] (.lit (.c (.fn 98 []))) [(T 22), (T 23), (T 24)]) (some (18, false)) .w), (.mk (some 26) (.bin
  .neq (T 25) (tI 0)) (some (18, false)) .p), (oP 27 (.pick (T 18) (.lit (.c (.pv (.bool true)))) (T 26)))])) (.tr (rl [1, 0, 0, 1, 2, 0, 0]) false (.cond (T
  27) (.seq (.region false [(oP 2 (.mv (.lit (.c (.pv (.bool false))))))]) (.tr (rl [2]) false .ret)) .skip))) (.tr (rl [1, 1, 4, 0, 0]) false (.region false
  [(oP 28 (.mv (T 3))), (oP 29 (.faddr 4 (T 5))), (oR 30 (.load false 1 (T 29))), (sW (.mupd (T 28) (T 30) (.lit (.c (.pv (.bool true))))))])))))) (.tr (rl [1,
  1, 4, 0, 0]) false (.region false [(oP 31 (.bin .add (T 10) (tI 1))), (oP 10 (.mv (T 31)))])))))
def xf61 : XFunc :=
(.mk 32 [(.tmp 2)] (.seq (.tr (rl [1]) false (.region false [(oW 1 (.box (T 0) 1)), (oP 2 (.mv (.lit (.c (.pv (.bool false))))))])) (.seq (.tr (rl [1, 1]) false
  (.region false [(.mk (some 6) .mkmap none .w), (oP 3 (.mv (T 6)))])) (.seq (.seq (.tr (rl [1, 1, 4, 0, 0]) false (.region false [(oP 7 (.faddr 0 (T 1))), (oR
  8 (.load false 1 (T 7))), (oP 9 (.len (T 8))), (oP 10 (.mv (tI 0)))])) (.tr (rl [2]) false (.block 0 (.loop (rl [1, 1, 4, 0, 0]) xf61_l0)))) (.seq (.region
  false [(oP 2 (.mv (.lit (.c (.pv (.bool true))))))]) (.tr (rl [2]) false .ret))))))
theorem xf61_ok : cmpFunc Go.Proofs.Tryd.prog 61 ((.two (.tr (rl [1]) false .no) (.two (.tr (rl [1, 1]) false .no) (.two (.two (.tr (rl [1, 1, 4, 0, 0]) false .no) (.tr (rl [2]) false (.loop (rl [1, 1, 4, 0, 0]) (.two .no (.two (.tr (rl [1, 1, 4, 0, 0]) false (.two .no (.tr [] false .no))) (.two (.tr (rl [1, 0, 0, 4, 0, 0]) false (.two (.tr (rl [1, 1, 0, 0, 2, 0, 0]) false .no) (.two (.two (.tr (rl [1, 1, 1, 2, 0, 0, 16]) false (.draw [0, 1, 2, 3, 4, 5, 6, 7, 8, 9, 10, 11, 12] [{}, { cls := some .p }])) (.tr (rl [1, 0, 0, 1, 2, 0, 0]) false (.two (.two .no (.tr (rl [2]) false .no)) .no))) (.tr (rl [1, 1, 4, 0, 0]) false .no)))) (.tr (rl [1, 1, 4, 0, 0]) false .no))))))) (.two .no (.tr (rl [2]) false .no)))))) = some xf61 := by kernel_rfl
def xf62_l0 : XCode :=
(.seq (.region false [(oP 14 (.bin .lss (T 13) (T 12)))]) (.seq (.tr (rl [1, 0, 4, 3, 0, 0]) false (.cond (T 14) .skip (.tr [] false (.exit 0)))) (.seq (.tr (rl
  [1, 0, 3, 0, 3, 0, 0]) false (.block 1 (.seq (.tr (rl [1, 0, 4, 1, 1, 0, 0]) false (.region false [(oP 15 (.iaddrS 4 (T 11) (T 13))), (oR 16 (.load true 4 (T
  15))), (oW 9 (.alloc [(.pv (.int .i64 0)), (.pv (.int .i64 0)), (.pv (.int .i32 0)), (.pv (.int .i32 0))])), (sW (.store 4 (T 9) (T 16)))])) (.seq (.seq (.tr
  (rl [1, 0, 4, 1, 1, 0, 0, 38]) false (.region false [(oP 17 (.faddr 0 (T 9))), (oR 18 (.load false 1 (T 17))), (oP 19 (.faddr 0 (T 7))), (oR 20 (.load false 1
  (T 19))), (oP 21 (.bin .leq (T 18) (T 20))), (oP 22 (.mv (T 21))), (.mk (some 23) (.faddr 0 (T 9)) (some (22, false)) .p), (.mk (some 24) (.load false 1 (T
  23)) (some (22, false)) .r), (.mk (some 25) (.mv (T 2)) (some (22, false)) .p), (.mk (some 26) (.bin .geq (T 24) (T 25)) (some (22, false)) .p), (oP 27 (.pick
  (T 22) (.lit (.c (.pv (.bool true)))) (T 26))), (oP 28 (.mv (T 27))), (.mk (some 29) (.faddr 1 (T 9)) (some (28, false)) .p), (.mk (some 30) (.load false 1 (T
  29)) (some (28, false)) .r), (.mk (some 31) (.faddr 1 (T 7)) (some (28, false)) .p), (.mk (some 32) (.load false 1 (T 31)) (some (28, false)) .r), (.mk (some
  33) (.bin .lss (T 30) (T 32)) (some (28, false)) .p), (oP 34 (.pick (T 28) (.lit (.c (.pv (.bool true)))) (T 33))), (oP 35 (.mv (T 34))), (.mk (some 36)
  (.faddr 1 (T 9)) (some (35, false)) .p), (.mk (some 37) (.load false 1 (T 36)) (some (35, false)) .r), (.mk (some 38) (.mv (T 1)) (some (35, false)) .p), (.mk
  (some 39) (.bin .gtr (T 37) (T 38)) (some (35, false)) .p), (oP 40 (.pick (T 35) (.lit (.c (.pv (.bool true)))) (T 39))), (oP 41 (.mv (T 40))), (.mk (some 42)
  (.faddr 2 (T 9)) (some (41, false)) .p), (.mk (some 43) (.load false 1 (T 42)) (some (41, false)) .r), (.mk (some 44) (.call false [] (.lit (.c (.fn 57 [])))
  [(T 43)]) (some (41, false)) .p), (.mk (some 45) (.un .not (T 44)) (some (41, false)) .p), (oP 46 (.pick (T 41) (.lit (.c (.pv (.bool true)))) (T 45))), (oP
  47 (.mv (T 46))), (.mk (some 48) (.faddr 3 (T 9)) (some (47, false)) .p), (.mk (some 49) (.load false 1 (T 48)) (some (47, false)) .r), (.mk (some 50) (.call
  false [] (.lit (.c (.fn 57 []))) [(T 49)]) (some (47, false)) .p), (.mk (some 51) (.un .not (T 50)) (some (47, false)) .p), (oP 52 (.pick (T 47) (.lit (.c
  (.pv (.bool true)))) (T 51)))])) (.tr (rl [1, 0, 3, 0, 1, 1, 0, 0]) false (.cond (T 52) (.seq (.region false [(oP 6 (.mv (.lit (.c (.pv (.bool false))))))])
  (.tr (rl [6]) false .ret)) .skip))) (.tr (rl [1, 0, 4, 3, 0, 0]) false (.region false [(oR 53 (.load true 4 (T 9))), (sW (.store 4 (T 7) (T 53)))])))))) (.tr
  (rl [1, 0, 4, 3, 0, 0]) false (.region false [(oP 54 (.bin .add (T 13) (tI 1))), (oP 13 (.mv (T 54)))])))))
def xf62 : XFunc :=
(.mk 55 [(.tmp 6)] (.seq (.tr (rl [0, 0, 0]) false (.region false [(oP 6 (.mv (.lit (.c (.pv (.bool false))))))])) (.seq (.tr (rl [0, 0, 0, 4]) false (.region
  false [(oP 10 (.build [(.pv (.int .i64 0)), (.pv (.int .i64 0)), (.pv (.int .i32 0)), (.pv (.int .i32 0))] [])), (oW 7 (.alloc [(.pv (.int .i64 0)), (.pv
  (.int .i64 0)), (.pv (.int .i32 0)), (.pv (.int .i32 0))])), (sW (.store 4 (T 7) (T 10)))])) (.seq (.seq (.tr (rl [1, 0, 4, 3, 0, 0]) false (.region false
  [(oP 11 (.mv (T 0))), (oP 12 (.len (T 11))), (oP 13 (.mv (tI 0)))])) (.tr (rl [6]) false (.block 0 (.loop (rl [1, 0, 4, 3, 0, 0]) xf62_l0)))) (.seq (.region
  false [(oP 6 (.mv (.lit (.c (.pv (.bool true))))))]) (.tr (rl [6]) false .ret))))))
theorem xf62_ok : cmpFunc Go.Proofs.Tryd.prog 62 ((.two (.tr (rl [0, 0, 0]) false .no) (.two (.tr (rl [0, 0, 0, 4]) false .no) (.two (.two (.tr (rl [1, 0, 4, 3, 0, 0]) false .no) (.tr (rl [6]) false (.loop (rl [1, 0, 4, 3, 0, 0]) (.two .no (.two (.tr (rl [1, 0, 4, 3, 0, 0]) false (.two .no (.tr [] false .no))) (.two (.tr (rl [1, 0, 3, 0, 3, 0, 0]) false (.two (.tr (rl [1, 0, 4, 1, 1, 0, 0]) false .no) (.two (.two (.tr (rl [1, 0, 4, 1, 1, 0, 0, 38]) false (.ops [{}, {}, {}, {}, {}, {}, {}, {}, {}, {}, {}, {}, {}, {}, {}, {}, {}, {}, {}, {}, {}, {}, {}, {}, {}, {}, {}, { cls := some .p }, {}, {}, {}, {}, {}, { cls := some .p }])) (.tr (rl [1, 0, 3, 0, 1, 1, 0, 0]) false (.two (.two .no (.tr (rl [6]) false .no)) .no))) (.tr (rl [1, 0, 4, 3, 0, 0]) false .no)))) (.tr (rl [1, 0, 4, 3, 0, 0]) false .no))))))) (.two .no (.tr (rl [6]) false .no)))))) = some xf62 := by kernel_rfl
def xf63_l0 : XCode :=
(.seq (.seq (.tr (rl [1, 1, 42]) false (.region false [(oP 42 (.mv (T 3))), (oP 43 (.faddr 6 (T 1))), (oR 44 (.load false 1 (T 43))), (oP 45 (.lenS (T 44))),
  (oP 46 (.bin .lss (T 42) (T 45)))])) (.tr (rl [1, 1]) false (.cond (T 46) .skip (.tr (rl [1]) false (.exit 0))))) (.seq (.tr (rl [1, 0, 0]) false (.block 1
  (.seq (.tr (rl [1, 1, 56]) false (.region false [(oP 49 (.faddr 6 (T 1))), (oR 50 (.load false 1 (T 49))), (oP 51 (.mv (T 3))), (oP 52 (.idxS (T 50) (T 51))),
  (oP 53 (.bin .lss (T 52) (.lit (.c (.pv (.int .u8 32)))))), (oP 54 (.mv (T 53))), (.mk (some 55) (.faddr 6 (T 1)) (some (54, false)) .p), (.mk (some 56)
  (.load false 1 (T 55)) (some (54, false)) .r), (.mk (some 57) (.mv (T 3)) (some (54, false)) .p), (.mk (some 58) (.idxS (T 56) (T 57)) (some (54, false)) .p),
  (.mk (some 59) (.bin .gtr (T 58) (.lit (.c (.pv (.int .u8 126))))) (some (54, false)) .p), (oP 60 (.pick (T 54) (.lit (.c (.pv (.bool true)))) (T 59)))]))
  (.tr (rl [1, 0, 0]) false (.cond (T 60) (.seq (.region false [(oP 2 (.mv (tI 1)))]) (.tr (rl [2]) false .ret)) .skip))))) (.tr (rl [1, 1]) false (.region
  false [(oP 47 (.mv (T 3))), (oP 48 (.bin .add (T 47) (tI 1))), (oP 3 (.mv (T 48)))]))))
def xf63 : XFunc :=
(.mk 84 [(.tmp 2)] (.seq (.tr (rl [1]) false (.region false [(oW 1 (.box (T 0) 7)), (oP 2 (.mv (tI 0)))])) (.seq (.seq (.tr (rl [1, 39]) false (.region false
  [(oP 6 (.faddr 0 (T 1))), (oR 7 (.load false 1 (T 6))), (oP 8 (.bin .lss (T 7) (tI 1))), (oP 9 (.mv (T 8))), (.mk (some 10) (.faddr 0 (T 1)) (some (9, false))
  .p), (.mk (some 11) (.load false 1 (T 10)) (some (9, false)) .r), (.mk (some 12) (.bin .gtr (T 11) (tI 1000000)) (some (9, false)) .p), (oP 13 (.pick (T 9)
  (.lit (.c (.pv (.bool true)))) (T 12))), (oP 14 (.mv (T 13))), (.mk (some 15) (.faddr 4 (T 1)) (some (14, false)) .p), (.mk (some 16) (.load false 1 (T 15))
  (some (14, false)) .r), (.mk (some 17) (.bin .lss (T 16) (tI 0)) (some (14, false)) .p), (oP 18 (.pick (T 14) (.lit (.c (.pv (.bool true)))) (T 17))), (oP 19
  (.mv (T 18))), (.mk (some 20) (.faddr 4 (T 1)) (some (19, false)) .p), (.mk (some 21) (.load false 1 (T 20)) (some (19, false)) .r), (.mk (some 22) (.faddr 0
  (T 1)) (some (19, false)) .p), (.mk (some 23) (.load false 1 (T 22)) (some (19, false)) .r), (.mk (some 24) (.bin .geq (T 21) (T 23)) (some (19, false)) .p),
  (oP 25 (.pick (T 19) (.lit (.c (.pv (.bool true)))) (T 24))), (oP 26 (.mv (T 25))), (.mk (some 27) (.faddr 5 (T 1)) (some (26, false)) .p), (.mk (some 28)
  (.load false 1 (T 27)) (some (26, false)) .r), (.mk (some 29) (.bin .lss (T 28) (tI 0)) (some (26, false)) .p), (oP 30 (.pick (T 26) (.lit (.c (.pv (.bool
  true)))) (T 29))), (oP 31 (.mv (T 30))), (.mk (some 32) (.faddr 5 (T 1)) (some (31, false)) .p), (.mk (some 33) (.load false 1 (T 32)) (some (31, false)) .r),
  (.mk (some 34) (.bin .gtr (T 33) (tI 4)) (some (31, false)) .p), (oP 35 (.pick (T 31) (.lit (.c (.pv (.bool true)))) (T 34))), (oP 36 (.mv (T 35))), (.mk
  (some 37) (.faddr 6 (T 1)) (some (36, false)) .p), (.mk (some 38) (.load false 1 (T 37)) (some (36, false)) .r), (.mk (some 39) (.lenS (T 38)) (some (36,
  false)) .p), (.mk (some 40) (.bin .gtr (T 39) (tI 32)) (some (36, false)) .p), (oP 41 (.pick (T 36) (.lit (.c (.pv (.bool true)))) (T 40)))])) (.tr (rl [1,
  0]) false (.cond (T 41) (.seq (.region false [(oP 2 (.mv (tI 1)))]) (.tr (rl [2]) false .ret)) .skip))) (.seq (.seq (.region false [(oP 3 (.mv (tI 0)))]) (.tr
  (rl [1, 0]) false (.block 0 (.loop (rl [1, 1]) xf63_l0)))) (.seq (.tr (rl [1, 2]) false (.region false [(oP 61 (.faddr 1 (T 1))), (oR 62 (.load false 1 (T
  61))), (oP 63 (.call false [] (.lit (.c (.fn 54 []))) [(T 62)])), (oP 4 (.mv (T 63)))])) (.seq (.tr (rl [1, 2, 0]) false (.region false [(oP 64 (.faddr 2 (T
  1))), (oR 65 (.load false 1 (T 64))), (oP 66 (.call false [] (.lit (.c (.fn 54 []))) [(T 65)])), (oP 5 (.mv (T 66)))])) (.seq (.seq (.tr (rl [1, 70]) false
  (.region false [(oP 67 (.mv (T 4))), (oP 68 (.un .not (T 67))), (oP 69 (.mv (T 68))), (.mk (some 70) (.mv (T 5)) (some (69, false)) .p), (.mk (some 71) (.un
  .not (T 70)) (some (69, false)) .p), (oP 72 (.pick (T 69) (.lit (.c (.pv (.bool true)))) (T 71)))])) (.tr (rl [1, 0]) false (.cond (T 72) (.seq (.region false
  [(oP 2 (.mv (tI 11)))]) (.tr (rl [2]) false .ret)) .skip))) (.seq (.seq (.tr (rl [1, 74]) false (.region false [(oP 73 (.faddr 3 (T 1))), (oR 74 (.load false
  1 (T 73))), (oP 75 (.len (T 74))), (oP 76 (.bin .lss (T 75) (tI 2)))])) (.tr (rl [1, 0]) false (.cond (T 76) (.seq (.region false [(oP 2 (.mv (tI 2)))]) (.tr
  (rl [2]) false .ret)) .skip))) (.seq (.seq (.tr (rl [1, 78]) false (.region false [(oP 77 (.faddr 3 (T 1))), (oR 78 (.load false 1 (T 77))), (oP 79 (.len (T
  78))), (oP 80 (.bin .gtr (T 79) (tI 16)))])) (.tr (rl [1, 0]) false (.cond (T 80) (.seq (.region false [(oP 2 (.mv (tI 4)))]) (.tr (rl [2]) false .ret))
  .skip))) (.seq (.tr (rl [2]) false (.region false [(oP 81 (.faddr 3 (T 1))), (oR 82 (.load false 1 (T 81))), (oP 83 (.call false [] (.lit (.c (.fn 106 [])))
  [(T 82)])), (oP 2 (.mv (T 83)))])) (.tr (rl [2]) false .ret)))))))))))
theorem xf63_ok : cmpFunc Go.Proofs.Tryd.prog 63 ((.two (.tr (rl [1]) false .no) (.two (.two (.tr (rl [1, 39]) false .no) (.tr (rl [1, 0]) false (.two (.two .no (.tr (rl [2]) false .no)) .no))) (.two (.two .no (.tr (rl [1, 0]) false (.loop (rl [1, 1]) (.two (.two (.tr (rl [1, 1, 42]) false .no) (.tr (rl [1, 1]) false (.two .no (.tr (rl [1]) false .no)))) (.two (.tr (rl [1, 0, 0]) false (.two (.tr (rl [1, 1, 56]) false .no) (.tr (rl [1, 0, 0]) false (.two (.two .no (.tr (rl [2]) false .no)) .no)))) (.tr (rl [1, 1]) false .no)))))) (.two (.tr (rl [1, 2]) false (.ops [{}, {}, { cls := some .p }])) (.two (.tr (rl [1, 2, 0]) false (.ops [{}, {}, { cls := some .p }])) (.two (.two (.tr (rl [1, 70]) false .no) (.tr (rl [1, 0]) false (.two (.two .no (.tr (rl [2]) false .no)) .no))) (.two (.two (.tr (rl [1, 74]) false .no) (.tr (rl [1, 0]) false (.two (.two .no (.tr (rl [2]) false .no)) .no))) (.two (.two (.tr (rl [1, 78]) false .no) (.tr (rl [1, 0]) false (.two (.two .no (.tr (rl [2]) false .no)) .no))) (.two (.tr (rl [2]) false (.ops [{}, {}, { cls := some .p }])) (.tr (rl [2]) false .no))))))))))) = some xf63 := by kernel_rfl
def xf64_l0 : XCode :=
(.seq (.seq (.tr (rl [3, 2, 2, 0, 33]) false (.region false [(oP 40 (.mv (T 10))), (oP 41 (.faddr 3 (T 3))), (oR 42 (.load false 1 (T 41))), (oP 43 (.len (T
  42))), (oP 44 (.bin .lss (T 40) (T 43)))])) (.tr (rl [3, 2, 2, 0]) false (.cond (T 44) .skip (.tr (rl [6, 2]) false (.exit 0))))) (.seq (.tr (rl [3, 2, 2, 0])
  false (.block 1 (.tr (rl [3, 2, 2, 0]) false (.region true [(oP 47 (.faddr 3 (T 9))), (oR 48 (.load false 1 (T 47))), (oP 49 (.faddr 3 (T 3))), (oR 50 (.load
  false 1 (T 49))), (oP 51 (.mv (T 10))), (oP 52 (.iaddrS 3 (T 50) (T 51))), (oP 53 (.faddr 0 (T 52))), (oR 54 (.load false 1 (T 53))), (oP 55 (.faddr 3 (T
  3))), (oR 56 (.load false 1 (T 55))), (oP 57 (.mv (T 10))), (oP 58 (.iaddrS 3 (T 56) (T 57))), (oP 59 (.faddr 1 (T 58))), (oP 60 (.faddr 0 (T 59))), (oR 61
  (.load false 1 (T 60))), (oP 62 (.faddr 3 (T 3))), (oR 63 (.load false 1 (T 62))), (oP 64 (.mv (T 10))), (oP 65 (.iaddrS 3 (T 63) (T 64))), (oP 66 (.faddr 1
  (T 65))), (oP 67 (.faddr 1 (T 66))), (oR 68 (.load false 1 (T 67))), (oP 69 (.un .neg (T 68))), (oP 70 (.build [(.pv (.int .i64 0)), (.pv (.int .i64 0))] [(0,
  (1, (T 61))), (1, (1, (T 69)))])), (oP 71 (.build [(.pv (.int .i64 0)), (.pv (.int .i64 0)), (.pv (.int .i64 0))] [(0, (1, (T 54))), (1, (2, (T 70)))])), (oP
  72 (.buildSl [(.pv (.int .i64 0)), (.pv (.int .i64 0)), (.pv (.int .i64 0))] 1 3 [(0, (3, (T 71)))])), (oW 73 (.app 3 24 (T 48) (T 72))), (oP 74 (.faddr 3 (T
  9))), (sW (.store 1 (T 74) (T 73)))])))) (.tr (rl [3, 2, 2, 0]) false (.region false [(oP 45 (.mv (T 10))), (oP 46 (.bin .add (T 45) (tI 1))), (oP 10 (.mv (T
  46)))]))))
def xf64 : XFunc :=
(.mk 82 [(.cell 6 true 7), (.tmp 7)] (.seq (.tr (rl [1, 0, 0, 2]) false (.region false [(oW 3 (.box (T 0) 7)), (oW 6 (.alloc [(.pv (.int .i64 0)), (.pv (.int
  .i32 0)), (.pv (.int .i32 0)), (.pv (.sl .nil 0 [])), (.pv (.int .i64 0)), (.pv (.int .i64 0)), (.pv (.str []))])), (oP 7 (.mv (tI 0)))])) (.seq (.tr (rl [1,
  0, 0, 2, 1]) false (.region false [(oR 12 (.load true 7 (T 3))), (oP 13 (.call false [] (.lit (.c (.fn 63 []))) [(T 12)])), (oP 8 (.mv (T 13)))])) (.seq (.seq
  (.tr (rl [1, 0, 0, 2, 1, 6]) false (.region false [(oP 14 (.mv (T 8))), (oP 15 (.bin .neq (T 14) (tI 0)))])) (.tr (rl [1, 0, 0, 2, 0]) false (.cond (T 15)
  (.seq (.tr (rl [6, 0]) false (.region false [(oP 16 (.build [(.pv (.int .i64 0)), (.pv (.int .i32 0)), (.pv (.int .i32 0)), (.pv (.sl .nil 0 [])), (.pv (.int
  .i64 0)), (.pv (.int .i64 0)), (.pv (.str []))] [])), (oP 17 (.mv (T 8))), (sW (.store 7 (T 6) (T 16))), (oP 7 (.mv (T 17)))])) (.tr (rl [6, 0]) false .ret))
  .skip))) (.seq (.seq (.tr (rl [1, 0, 0, 2, 20]) false (.region false [(oP 18 (.mv (T 1))), (oP 19 (.faddr 0 (T 3))), (oR 20 (.load false 1 (T 19))), (oP 21
  (.bin .leq (T 18) (T 20))), (oP 22 (.mv (T 21))), (.mk (some 23) (.mv (T 2)) (some (22, false)) .p), (.mk (some 24) (.faddr 1 (T 3)) (some (22, false)) .p),
  (.mk (some 25) (.load false 1 (T 24)) (some (22, false)) .r), (.mk (some 26) (.bin .lss (T 23) (T 25)) (some (22, false)) .p), (oP 27 (.pick (T 22) (.lit (.c
  (.pv (.bool true)))) (T 26)))])) (.tr (rl [1, 0, 0, 2, 0]) false (.cond (T 27) (.seq (.tr (rl [6, 0]) false (.region false [(oP 28 (.build [(.pv (.int .i64
  0)), (.pv (.int .i32 0)), (.pv (.int .i32 0)), (.pv (.sl .nil 0 [])), (.pv (.int .i64 0)), (.pv (.int .i64 0)), (.pv (.str []))] [])), (sW (.store 7 (T 6) (T
  28))), (oP 7 (.mv (tI 20)))])) (.tr (rl [6, 0]) false .ret)) .skip))) (.seq (.tr (rl [3, 2, 2]) false (.region false [(oP 29 (.mv (T 1))), (oP 30 (.mv (T
  2))), (oP 31 (.faddr 2 (T 3))), (oR 32 (.load false 1 (T 31))), (oP 33 (.faddr 0 (T 3))), (oR 34 (.load false 1 (T 33))), (oP 35 (.faddr 5 (T 3))), (oR 36
  (.load false 1 (T 35))), (oP 37 (.faddr 6 (T 3))), (oR 38 (.load false 1 (T 37))), (oP 39 (.build [(.pv (.int .i64 0)), (.pv (.int .i32 0)), (.pv (.int .i32
  0)), (.pv (.sl .nil 0 [])), (.pv (.int .i64 0)), (.pv (.int .i64 0)), (.pv (.str []))] [(0, (1, (T 29))), (1, (1, (T 30))), (2, (1, (T 32))), (4, (1, (T
  34))), (5, (1, (T 36))), (6, (1, (T 38)))])), (oW 9 (.alloc [(.pv (.int .i64 0)), (.pv (.int .i32 0)), (.pv (.int .i32 0)), (.pv (.sl .nil 0 [])), (.pv (.int
  .i64 0)), (.pv (.int .i64 0)), (.pv (.str []))])), (sW (.store 7 (T 9) (T 39)))])) (.seq (.seq (.region false [(oP 10 (.mv (tI 0)))]) (.tr (rl [6, 2]) false
  (.block 0 (.loop (rl [3, 2, 2, 0]) xf64_l0)))) (.seq (.tr (rl [6, 2, 1]) false (.region false [(oR 75 (.load true 7 (T 9))), (oP 76 (.call false [] (.lit (.c
  (.fn 63 []))) [(T 75)])), (oP 11 (.mv (T 76)))])) (.seq (.seq (.tr (rl [6, 2, 1, 66]) false (.region false [(oP 77 (.mv (T 11))), (oP 78 (.bin .neq (T 77) (tI
  0)))])) (.tr (rl [6, 0, 1]) false (.cond (T 78) (.seq (.tr (rl [6, 0]) false (.region false [(oP 79 (.build [(.pv (.int .i64 0)), (.pv (.int .i32 0)), (.pv
  (.int .i32 0)), (.pv (.sl .nil 0 [])), (.pv (.int .i64 0)), (.pv (.int .i64 0)), (.pv (.str []))] [])), (oP 80 (.mv (T 11))), (sW (.store 7 (T 6) (T 79))),
  (oP 7 (.mv (T 80)))])) (.tr (rl [6, 0]) false .ret)) .skip))) (.seq (.tr (rl [6, 0]) false (.region false [(oR 81 (.load true 7 (T 9))), (sW (.store 7 (T 6)
  (T 81))), (oP 7 (.mv (tI 0)))])) (.tr (rl [6, 0]) false .ret)))))))))))
theorem xf64_ok : cmpFunc Go.Proofs.Tryd.prog 64 ((.two (.tr (rl [1, 0, 0, 2]) false .no) (.two (.tr (rl [1, 0, 0, 2, 1]) false (.ops [{}, { cls := some .p }])) (.two (.two (.tr (rl [1, 0, 0, 2, 1, 6]) false .no) (.tr (rl [1, 0, 0, 2, 0]) false (.two (.two (.tr (rl [6, 0]) false .no) (.tr (rl [6, 0]) false .no)) .no))) (.two (.two (.tr (rl [1, 0, 0, 2, 20]) false .no) (.tr (rl [1, 0, 0, 2, 0]) false (.two (.two (.tr (rl [6, 0]) false .no) (.tr (rl [6, 0]) false .no)) .no))) (.two (.tr (rl [3, 2, 2]) false .no) (.two (.two .no (.tr (rl [6, 2]) false (.loop (rl [3, 2, 2, 0]) (.two (.two (.tr (rl [3, 2, 2, 0, 33]) false .no) (.tr (rl [3, 2, 2, 0]) false (.two .no (.tr (rl [6, 2]) false .no)))) (.two (.tr (rl [3, 2, 2, 0]) false (.tr (rl [3, 2, 2, 0]) false (.draw [0, 1, 2, 3, 4, 5, 6, 7, 8, 9, 10, 11, 12, 13, 14, 15, 16, 17, 18, 19, 20, 21, 22, 23, 24, 25, 26, 27, 28] []))) (.tr (rl [3, 2, 2, 0]) false .no)))))) (.two (.tr (rl [6, 2, 1]) false (.ops [{}, { cls := some .p }])) (.two (.two (.tr (rl [6, 2, 1, 66]) false .no) (.tr (rl [6, 0, 1]) false (.two (.two (.tr (rl [6, 0]) false .no) (.tr (rl [6, 0]) false .no)) .no))) (.two (.tr (rl [6, 0]) false .no) (.tr (rl [6, 0]) false .no))))))))))) = some xf64 := by kernel_rfl
def xf65_l0 : XCode :=
(.seq (.seq (.tr (rl [2, 0, 1, 11]) false (.region false [(oP 13 (.mv (T 5))), (oP 14 (.faddr 3 (T 2))), (oR 15 (.load false 1 (T 14))), (oP 16 (.len (T 15))),
  (oP 17 (.bin .lss (T 13) (T 16)))])) (.tr (rl [2, 0, 1]) false (.cond (T 17) .skip (.tr (rl [2, 0]) false (.exit 0))))) (.seq (.tr (rl [2, 0, 0, 0]) false
  (.block 1 (.seq (.tr (rl [2, 0, 1, 24]) false (.region true [(oP 20 (.faddr 3 (T 2))), (oR 21 (.load false 1 (T 20))), (oP 22 (.mv (T 5))), (oP 23 (.iaddrS 3
  (T 21) (T 22))), (oR 24 (.load true 3 (T 23))), (oP 25 (.faddr 3 (T 3))), (oR 26 (.load false 1 (T 25))), (oP 27 (.mv (T 5))), (oP 28 (.iaddrS 3 (T 26) (T
  27))), (oR 29 (.load true 3 (T 28))), (oP 30 (.eqA true [0, 0, 0] (T 24) (T 29)))])) (.tr (rl [2, 0, 0, 0]) false (.cond (T 30) (.seq (.region false [(oP 4
  (.mv (.lit (.c (.pv (.bool false))))))]) (.tr (rl [4]) false .ret)) .skip))))) (.tr (rl [2, 0, 1]) false (.region false [(oP 18 (.mv (T 5))), (oP 19 (.bin
  .add (T 18) (tI 1))), (oP 5 (.mv (T 19)))]))))
def xf65 : XFunc :=
(.mk 71 [(.tmp 4)] (.seq (.tr (rl [2, 0]) false (.region false [(oW 2 (.box (T 0) 7)), (oW 3 (.box (T 1) 7)), (oP 4 (.mv (.lit (.c (.pv (.bool false))))))]))
  (.seq (.seq (.tr (rl [2, 0, 8]) false (.region false [(oP 6 (.faddr 3 (T 2))), (oR 7 (.load false 1 (T 6))), (oP 8 (.len (T 7))), (oP 9 (.faddr 3 (T 3))), (oR
  10 (.load false 1 (T 9))), (oP 11 (.len (T 10))), (oP 12 (.bin .neq (T 8) (T 11)))])) (.tr (rl [2, 0, 0]) false (.cond (T 12) (.seq (.region false [(oP 4 (.mv
  (.lit (.c (.pv (.bool false))))))]) (.tr (rl [4]) false .ret)) .skip))) (.seq (.seq (.region false [(oP 5 (.mv (tI 0)))]) (.tr (rl [2, 0, 0]) false (.block 0
  (.loop (rl [2, 0, 1]) xf65_l0)))) (.seq (.tr (rl [4]) false (.region false [(oP 31 (.faddr 0 (T 2))), (oR 32 (.load false 1 (T 31))), (oP 33 (.faddr 0 (T
  3))), (oR 34 (.load false 1 (T 33))), (oP 35 (.bin .eql (T 32) (T 34))), (oP 36 (.mv (T 35))), (.mk (some 37) (.faddr 1 (T 2)) (some (36, true)) .p), (.mk
  (some 38) (.load false 1 (T 37)) (some (36, true)) .r), (.mk (some 39) (.faddr 1 (T 3)) (some (36, true)) .p), (.mk (some 40) (.load false 1 (T 39)) (some
  (36, true)) .r), (.mk (some 41) (.bin .eql (T 38) (T 40)) (some (36, true)) .p), (oP 42 (.pick (T 36) (T 41) (.lit (.c (.pv (.bool false)))))), (oP 43 (.mv (T
  42))), (.mk (some 44) (.faddr 2 (T 2)) (some (43, true)) .p), (.mk (some 45) (.load false 1 (T 44)) (some (43, true)) .r), (.mk (some 46) (.faddr 2 (T 3))
  (some (43, true)) .p), (.mk (some 47) (.load false 1 (T 46)) (some (43, true)) .r), (.mk (some 48) (.bin .eql (T 45) (T 47)) (some (43, true)) .p), (oP 49
  (.pick (T 43) (T 48) (.lit (.c (.pv (.bool false)))))), (oP 50 (.mv (T 49))), (.mk (some 51) (.faddr 4 (T 2)) (some (50, true)) .p), (.mk (some 52) (.load
  false 1 (T 51)) (some (50, true)) .r), (.mk (some 53) (.faddr 4 (T 3)) (some (50, true)) .p), (.mk (some 54) (.load false 1 (T 53)) (some (50, true)) .r),
  (.mk (some 55) (.bin .eql (T 52) (T 54)) (some (50, true)) .p), (oP 56 (.pick (T 50) (T 55) (.lit (.c (.pv (.bool false)))))), (oP 57 (.mv (T 56))), (.mk
  (some 58) (.faddr 5 (T 2)) (some (57, true)) .p), (.mk (some 59) (.load false 1 (T 58)) (some (57, true)) .r), (.mk (some 60) (.faddr 5 (T 3)) (some (57,
  true)) .p), (.mk (some 61) (.load false 1 (T 60)) (some (57, true)) .r), (.mk (some 62) (.bin .eql (T 59) (T 61)) (some (57, true)) .p), (oP 63 (.pick (T 57)
  (T 62) (.lit (.c (.pv (.bool false)))))), (oP 64 (.mv (T 63))), (.mk (some 65) (.faddr 6 (T 2)) (some (64, true)) .p), (.mk (some 66) (.load false 1 (T 65))
  (some (64, true)) .r), (.mk (some 67) (.faddr 6 (T 3)) (some (64, true)) .p), (.mk (some 68) (.load false 1 (T 67)) (some (64, true)) .r), (.mk (some 69)
  (.bin .eql (T 66) (T 68)) (some (64, true)) .p), (oP 70 (.pick (T 64) (T 69) (.lit (.c (.pv (.bool false)))))), (oP 4 (.mv (T 70)))])) (.tr (rl [4]) false
  .ret))))))
theorem xf65_ok : cmpFunc Go.Proofs.Tryd.prog 65 ((.two (.tr (rl [2, 0]) false .no) (.two (.two (.tr (rl [2, 0, 8]) false .no) (.tr (rl [2, 0, 0]) false (.two (.two .no (.tr (rl [4]) false .no)) .no))) (.two (.two .no (.tr (rl [2, 0, 0]) false (.loop (rl [2, 0, 1]) (.two (.two (.tr (rl [2, 0, 1, 11]) false .no) (.tr (rl [2, 0, 1]) false (.two .no (.tr (rl [2, 0]) false .no)))) (.two (.tr (rl [2, 0, 0, 0]) false (.two (.tr (rl [2, 0, 1, 24]) false (.draw [0, 1, 2, 3, 4, 5, 6, 7, 8, 9, 10] [])) (.tr (rl [2, 0, 0, 0]) false (.two (.two .no (.tr (rl [4]) false .no)) .no)))) (.tr (rl [2, 0, 1]) false .no)))))) (.two (.tr (rl [4]) false .no) (.tr (rl [4]) false .no)))))) = some xf65 := by kernel_rfl
def xf66_l0 : XCode :=
(.seq (.seq (.tr (rl [0, 0, 0, 4, 0, 4]) false (.region false [(oP 10 (.mv (T 8))), (oP 11 (.mv (T 0))), (oP 12 (.len (T 11))), (oP 13 (.bin .lss (T 10) (T
  12)))])) (.tr (rl [0, 0, 0, 4, 0]) false (.cond (T 13) .skip (.tr (rl [7]) false (.exit 0))))) (.seq (.tr (rl [0, 0, 0, 4, 0]) false (.block 1 (.seq (.tr (rl
  [0, 0, 0, 4, 0, 22]) false (.region false [(oP 16 (.mv (T 0))), (oP 17 (.mv (T 8))), (oP 18 (.iaddrS 7 (T 16) (T 17))), (oP 19 (.faddr 1 (T 18))), (oR 20
  (.load false 1 (T 19))), (oP 21 (.mv (T 1))), (oP 22 (.bin .leq (T 20) (T 21))), (oP 23 (.mv (T 22))), (.mk (some 24) (.mv (T 0)) (some (23, true)) .p), (.mk
  (some 25) (.mv (T 8)) (some (23, true)) .p), (.mk (some 26) (.iaddrS 7 (T 24) (T 25)) (some (23, true)) .p), (.mk (some 27) (.faddr 2 (T 26)) (some (23,
  true)) .p), (.mk (some 28) (.load false 1 (T 27)) (some (23, true)) .r), (.mk (some 29) (.mv (T 2)) (some (23, true)) .p), (.mk (some 30) (.bin .leq (T 28) (T
  29)) (some (23, true)) .p), (oP 31 (.pick (T 23) (T 30) (.lit (.c (.pv (.bool false))))))])) (.tr (rl [0, 0, 0, 4, 0]) false (.cond (T 31) (.tr (rl [0, 0, 0,
  4, 0]) false (.region false [(oP 32 (.mv (T 7))), (oP 33 (.mv (T 0))), (oP 34 (.mv (T 8))), (oP 35 (.iaddrS 7 (T 33) (T 34))), (oR 36 (.load true 7 (T 35))),
  (oP 37 (.buildSl [(.pv (.int .i64 0)), (.pv (.int .i32 0)), (.pv (.int .i32 0)), (.pv (.sl .nil 0 [])), (.pv (.int .i64 0)), (.pv (.int .i64 0)), (.pv (.str
  []))] 1 7 [(0, (7, (T 36)))])), (oW 38 (.app 7 72 (T 32) (T 37))), (oP 7 (.mv (T 38)))])) .skip))))) (.tr (rl [0, 0, 0, 4, 0]) false (.region false [(oP 14
  (.mv (T 8))), (oP 15 (.bin .add (T 14) (tI 1))), (oP 8 (.mv (T 15)))]))))
def xf66 : XFunc :=
(.mk 40 [(.tmp 6)] (.seq (.tr (rl [0, 0, 0]) false (.region false [(oP 6 (.mv (.lit (.c (.pv (.sl .nil 0 []))))))])) (.seq (.tr (rl [0, 0, 0, 4]) false (.region
  false [(oP 9 (.buildSl [(.pv (.int .i64 0)), (.pv (.int .i32 0)), (.pv (.int .i32 0)), (.pv (.sl .nil 0 [])), (.pv (.int .i64 0)), (.pv (.int .i64 0)), (.pv
  (.str []))] 0 7 [])), (oP 7 (.mv (T 9)))])) (.seq (.seq (.region false [(oP 8 (.mv (tI 0)))]) (.tr (rl [7]) false (.block 0 (.loop (rl [0, 0, 0, 4, 0])
  xf66_l0)))) (.seq (.tr (rl [6]) false (.region false [(oP 39 (.mv (T 7))), (oP 6 (.mv (T 39)))])) (.tr (rl [6]) false .ret))))))
theorem xf66_ok : cmpFunc Go.Proofs.Tryd.prog 66 ((.two (.tr (rl [0, 0, 0]) false .no) (.two (.tr (rl [0, 0, 0, 4]) false .no) (.two (.two .no (.tr (rl [7]) false (.loop (rl [0, 0, 0, 4, 0]) (.two (.two (.tr (rl [0, 0, 0, 4, 0, 4]) false .no) (.tr (rl [0, 0, 0, 4, 0]) false (.two .no (.tr (rl [7]) false .no)))) (.two (.tr (rl [0, 0, 0, 4, 0]) false (.two (.tr (rl [0, 0, 0, 4, 0, 22]) false .no) (.tr (rl [0, 0, 0, 4, 0]) false (.two (.tr (rl [0, 0, 0, 4, 0]) false .no) .no)))) (.tr (rl [0, 0, 0, 4, 0]) false .no)))))) (.two (.tr (rl [6]) false .no) (.tr (rl [6]) false .no)))))) = some xf66 := by kernel_rfl
def xf67 : XFunc :=
(.mk 13 [(.tmp 4), (.tmp 5)] (.seq (.tr (rl [1, 0]) false (.region false [(oW 2 (.box (T 0) 1)), (oP 4 (.mv (.lit (.c (.pv (.sl .nil 0 [])))))), (oP 5 (.mv (tI
  0)))])) (.seq (.seq (.tr (rl [1, 0, 5]) false (.region false [(oR 6 (.load true 1 (T 2))), (oP 7 (.call false [] (.lit (.c (.fn 61 []))) [(T 6)])), (oP 8 (.un
  .not (T 7)))])) (.tr (rl [1, 0, 1, 0]) false (.cond (T 8) (.seq (.region false [(oP 4 (.mv (.lit (.c (.pv (.sl .nil 0 [])))))), (oP 5 (.mv (tI 1)))]) (.tr (rl
  [4, 0]) false .ret)) .skip))) (.seq (.tr (rl [4, 0]) false (.region false [(oP 9 (.faddr 0 (T 2))), (oR 10 (.load false 1 (T 9))), (oP 11 (.mv (T 1))), (oW 12
  (.call false [] (.lit (.c (.fn 101 []))) [(T 10), (T 11)])), (oP 4 (.mv (T 12))), (oP 5 (.mv (tI 0)))])) (.tr (rl [4, 0]) false .ret)))))
theorem xf67_ok : cmpFunc Go.Proofs.Tryd.prog 67 ((.two (.tr (rl [1, 0]) false .no) (.two (.two (.tr (rl [1, 0, 5]) false (.ops [{}, { cls := some .p }])) (.tr (rl [1, 0, 1, 0]) false (.two (.two .no (.tr (rl [4, 0]) false .no)) .no))) (.two (.tr (rl [4, 0]) false .no) (.tr (rl [4, 0]) false .no))))) = some xf67 := by kernel_rfl
def xf68 : XFunc :=
(.mk 15 [(.tmp 4)] (.seq (.tr (rl [1, 0, 0]) false (.region false [(oW 3 (.box (T 0) 7)), (oP 4 (.mv (.lit (.c (.pv (.bool false))))))])) (.seq (.tr (rl [4])
  false (.region false [(oP 5 (.faddr 1 (T 3))), (oR 6 (.load false 1 (T 5))), (oR 7 (.load false 1 (T 1))), (oP 8 (.bin .leq (T 6) (T 7))), (oP 9 (.mv (T 8))),
  (.mk (some 10) (.faddr 2 (T 3)) (some (9, true)) .p), (.mk (some 11) (.load false 1 (T 10)) (some (9, true)) .r), (.mk (some 12) (.load false 1 (T 2)) (some
  (9, true)) .r), (.mk (some 13) (.bin .leq (T 11) (T 12)) (some (9, true)) .p), (oP 14 (.pick (T 9) (T 13) (.lit (.c (.pv (.bool false)))))), (oP 4 (.mv (T
  14)))])) (.tr (rl [4]) false .ret))))
theorem xf68_ok : cmpFunc Go.Proofs.Tryd.prog 68 ((.two (.tr (rl [1, 0, 0]) false .no) (.two (.tr (rl [4]) false .no) (.tr (rl [4]) false .no)))) = some xf68 := by kernel_rfl
def xf69 : XFunc :=
(.mk 47 [(.tmp 2)] (.seq (.tr (rl [1]) false (.region false [(oW 1 (.box (T 0) 7)), (oP 2 (.mv (tI 0)))])) (.seq (.tr (rl [1, 1]) false (.region false [(oP 4
  (.mkfn 107 [(T 1)])), (oP 3 (.mv (T 4)))])) (.seq (.tr (rl [2]) false (.block 0 (.seq (.tr (rl [1, 1, 1]) false (.region false [(oR 6 (.load true 7 (T 1))),
  (oP 7 (.call false [] (.lit (.c (.fn 109 []))) [(T 6)])), (oP 8 (.un .not (T 7))), (oP 5 (.mv (T 8)))])) (.tr (rl [2]) false (.cond (T 5) (.seq (.region false
  [(oP 2 (.mv (tI 1)))]) (.tr (rl [2]) false .ret)) (.seq (.tr (rl [1, 1, 5]) false (.region false [(oP 10 (.faddr 1 (T 1))), (oR 11 (.load false 1 (T 10))),
  (oP 12 (.call false [] (.lit (.c (.fn 57 []))) [(T 11)])), (oP 13 (.un .not (T 12))), (oP 14 (.mv (T 13))), (.mk (some 15) (.faddr 2 (T 1)) (some (14, false))
  .p), (.mk (some 16) (.load false 1 (T 15)) (some (14, false)) .r), (.mk (some 17) (.call false [] (.lit (.c (.fn 57 []))) [(T 16)]) (some (14, false)) .p),
  (.mk (some 18) (.un .not (T 17)) (some (14, false)) .p), (oP 19 (.pick (T 14) (.lit (.c (.pv (.bool true)))) (T 18))), (oP 9 (.mv (T 19)))])) (.tr (rl [2])
  false (.cond (T 9) (.seq (.region false [(oP 2 (.mv (tI 11)))]) (.tr (rl [2]) false .ret)) (.seq (.tr (rl [1, 1, 16]) false (.region false [(oP 21 (.faddr 3
  (T 1))), (oR 22 (.load false 1 (T 21))), (oP 23 (.len (T 22))), (oP 24 (.bin .lss (T 23) (tI 2))), (oP 20 (.mv (T 24)))])) (.tr (rl [2]) false (.cond (T 20)
  (.seq (.region false [(oP 2 (.mv (tI 2)))]) (.tr (rl [2]) false .ret)) (.seq (.tr (rl [1, 1, 21]) false (.region false [(oP 26 (.faddr 3 (T 1))), (oR 27
  (.load false 1 (T 26))), (oP 28 (.len (T 27))), (oP 29 (.bin .gtr (T 28) (tI 16))), (oP 25 (.mv (T 29)))])) (.tr (rl [2]) false (.cond (T 25) (.seq (.region
  false [(oP 2 (.mv (tI 4)))]) (.tr (rl [2]) false .ret)) (.seq (.tr (rl [1, 1, 26]) false (.region false [(oP 31 (.mv (T 3))), (oW 32 (.call false [] (T 31)
  [(.lit (.c (.fn 110 [])))])), (oP 30 (.mv (T 32)))])) (.tr (rl [2]) false (.cond (T 30) (.seq (.region false [(oP 2 (.mv (tI 8)))]) (.tr (rl [2]) false .ret))
  (.seq (.tr (rl [1, 1, 29]) false (.region false [(oP 34 (.mv (T 3))), (oW 35 (.call false [] (T 34) [(.lit (.c (.fn 111 [])))])), (oP 33 (.mv (T 35)))])) (.tr
  (rl [2]) false (.cond (T 33) (.seq (.region false [(oP 2 (.mv (tI 12)))]) (.tr (rl [2]) false .ret)) (.seq (.tr (rl [1, 1, 32]) false (.region false [(oP 37
  (.mv (T 3))), (oW 38 (.call false [] (T 37) [(.lit (.c (.fn 113 [])))])), (oP 36 (.mv (T 38)))])) (.tr (rl [2]) false (.cond (T 36) (.seq (.region false [(oP
  2 (.mv (tI 9)))]) (.tr (rl [2]) false .ret)) (.seq (.tr (rl [1, 37]) false (.region false [(oP 40 (.mv (T 3))), (oW 41 (.call false [] (T 40) [(.lit (.c (.fn
  115 [])))])), (oP 39 (.mv (T 41)))])) (.tr (rl [2]) false (.cond (T 39) (.seq (.region false [(oP 2 (.mv (tI 10)))]) (.tr (rl [2]) false .ret)) (.seq (.tr (rl
  [42]) false (.region false [(oP 43 (.faddr 3 (T 1))), (oR 44 (.load false 1 (T 43))), (oP 45 (.call false [] (.lit (.c (.fn 116 []))) [(T 44)])), (oP 46 (.un
  .not (T 45))), (oP 42 (.mv (T 46)))])) (.tr (rl [2]) false (.cond (T 42) (.seq (.region false [(oP 2 (.mv (tI 15)))]) (.tr (rl [2]) false .ret))
  .skip))))))))))))))))))))))))))))) (.seq (.region false [(oP 2 (.mv (tI 0)))]) (.tr (rl [2]) false .ret))))))
theorem xf69_ok : cmpFunc Go.Proofs.Tryd.prog 69 ((.two (.tr (rl [1]) false .no) (.two (.tr (rl [1, 1]) false .no) (.two (.tr (rl [2]) false (.two (.tr (rl [1, 1, 1]) false (.ops [{}, { cls := some .p }])) (.tr (rl [2]) false (.two (.two .no (.tr (rl [2]) false .no)) (.two (.tr (rl [1, 1, 5]) false (.ops [{}, {}, { cls := some .p }, {}, {}, {}, {}, { cls := some .p }])) (.tr (rl [2]) false (.two (.two .no (.tr (rl [2]) false .no)) (.two (.tr (rl [1, 1, 16]) false .no) (.tr (rl [2]) false (.two (.two .no (.tr (rl [2]) false .no)) (.two (.tr (rl [1, 1, 21]) false .no) (.tr (rl [2]) false (.two (.two .no (.tr (rl [2]) false .no)) (.two (.tr (rl [1, 1, 26]) false .no) (.tr (rl [2]) false (.two (.two .no (.tr (rl [2]) false .no)) (.two (.tr (rl [1, 1, 29]) false .no) (.tr (rl [2]) false (.two (.two .no (.tr (rl [2]) false .no)) (.two (.tr (rl [1, 1, 32]) false .no) (.tr (rl [2]) false (.two (.two .no (.tr (rl [2]) false .no)) (.two (.tr (rl [1, 37]) false .no) (.tr (rl [2]) false (.two (.two .no (.tr (rl [2]) false .no)) (.two (.tr (rl [42]) false (.ops [{}, {}, { cls := some .p }])) (.tr (rl [2]) false (.two (.two .no (.tr (rl [2]) false .no)) .no)))))))))))))))))))))))))))) (.two .no (.tr (rl [2]) false .no)))))) = some xf69 := by kernel_rfl
def xf70 : XFunc :=
(.mk 13 [(.tmp 6), (.tmp 7)] (.seq (.tr (rl [3, 0, 0]) false (.region false [(oW 3 (.box (T 0) 7)), (oW 4 (.box (T 1) 1)), (oW 5 (.box (T 2) 1)), (oP 6 (.mv (tI
  0))), (oP 7 (.mv (tI 0)))])) (.seq (.tr (rl [6, 0]) false (.region false [(oR 8 (.load true 7 (T 3))), (oP 9 (.mkfn 118 [(T 4), (T 5)])), (oW 10 (.call false
  [] (.lit (.c (.fn 117 []))) [(T 8), (T 9)])), (oP 11 (.extr 0 (T 10))), (oP 12 (.extr 1 (T 10))), (oP 6 (.mv (T 11))), (oP 7 (.mv (T 12)))])) (.tr (rl [6, 0])
  false .ret))))
theorem xf70_ok : cmpFunc Go.Proofs.Tryd.prog 70 ((.two (.tr (rl [3, 0, 0]) false .no) (.two (.tr (rl [6, 0]) false .no) (.tr (rl [6, 0]) false .no)))) = some xf70 := by kernel_rfl
def xf86_l0 : XCode :=
(.seq (.region false [(oP 14 (.bin .lss (T 13) (T 12)))]) (.seq (.tr (rl [0, 0, 10, 0]) false (.cond (T 14) .skip (.tr [] false (.exit 0)))) (.seq (.tr (rl [0,
  0, 2, 7, 0]) false (.block 1 (.seq (.tr (rl [0, 0, 3, 6, 0]) false (.region false [(oP 15 (.mv (T 13))), (oP 5 (.mv (T 15)))])) (.seq (.tr (rl [0, 0, 10, 0,
  10]) false (.region true [(oP 16 (.mv (T 0))), (oP 17 (.mv (T 5))), (oP 18 (.iaddrS 3 (T 16) (T 17))), (oR 19 (.load true 3 (T 18))), (oP 20 (.mv (T 1))), (oP
  21 (.mv (T 5))), (oP 22 (.iaddrS 3 (T 20) (T 21))), (oR 23 (.load true 3 (T 22))), (oP 24 (.eqA true [0, 0, 0] (T 19) (T 23)))])) (.tr (rl [0, 0, 2, 7, 0])
  false (.cond (T 24) (.seq (.region false [(oP 4 (.mv (.lit (.c (.pv (.bool false))))))]) (.tr (rl [4]) false .ret)) .skip)))))) (.tr (rl [0, 0, 10, 0]) false
  (.region false [(oP 25 (.bin .add (T 13) (tI 1))), (oP 13 (.mv (T 25)))])))))
def xf86 : XFunc :=
(.mk 26 [(.tmp 4)] (.seq (.tr (rl [0, 0]) false (.region false [(oP 4 (.mv (.lit (.c (.pv (.bool false))))))])) (.seq (.seq (.tr (rl [0, 0, 8]) false (.region
  false [(oP 6 (.mv (T 0))), (oP 7 (.len (T 6))), (oP 8 (.mv (T 1))), (oP 9 (.len (T 8))), (oP 10 (.bin .neq (T 7) (T 9)))])) (.tr (rl [0, 0, 2]) false (.cond
  (T 10) (.seq (.region false [(oP 4 (.mv (.lit (.c (.pv (.bool false))))))]) (.tr (rl [4]) false .ret)) .skip))) (.seq (.seq (.tr (rl [0, 0, 10, 0]) false
  (.region false [(oP 11 (.mv (T 0))), (oP 12 (.len (T 11))), (oP 13 (.mv (tI 0)))])) (.tr (rl [4]) false (.block 0 (.loop (rl [0, 0, 10, 0]) xf86_l0)))) (.seq
  (.region false [(oP 4 (.mv (.lit (.c (.pv (.bool true))))))]) (.tr (rl [4]) false .ret))))))
theorem xf86_ok : cmpFunc Go.Proofs.Tryd.prog 86 ((.two (.tr (rl [0, 0]) false .no) (.two (.two (.tr (rl [0, 0, 8]) false .no) (.tr (rl [0, 0, 2]) false (.two (.two .no (.tr (rl [4]) false .no)) .no))) (.two (.two (.tr (rl [0, 0, 10, 0]) false .no) (.tr (rl [4]) false (.loop (rl [0, 0, 10, 0]) (.two .no (.two (.tr (rl [0, 0, 10, 0]) false (.two .no (.tr [] false .no))) (.two (.tr (rl [0, 0, 2, 7, 0]) false (.two (.tr (rl [0, 0, 3, 6, 0]) false .no) (.two (.tr (rl [0, 0, 10, 0, 10]) false (.draw [0, 1, 2, 3, 4, 5, 6, 7, 8] [])) (.tr (rl [0, 0, 2, 7, 0]) false (.two (.two .no (.tr (rl [4]) false .no)) .no))))) (.tr (rl [0, 0, 10, 0]) false .no))))))) (.two .no (.tr (rl [4]) false .no)))))) = some xf86 := by kernel_rfl
def xf98 : XFunc :=
(.mk 73 [(.tmp 6)] (.seq (.tr (rl [0, 0, 3]) false (.region false [(oW 5 (.box (T 2) 7)), (oP 6 (.mv (tI 0)))])) (.seq (.tr (rl [0, 0, 3, 1]) false (.region
  false [(oP 11 (.mv (T 0))), (oP 12 (.len (T 11))), (oP 7 (.mv (T 12)))])) (.seq (.tr (rl [0, 0, 3, 0]) false (.block 0 (.seq (.tr (rl [0, 0, 3, 1, 5]) false
  (.region false [(oP 14 (.mv (T 7))), (oP 15 (.bin .eql (T 14) (tI 400))), (oP 13 (.mv (T 15)))])) (.tr (rl [0, 0, 3, 0]) false (.cond (T 13) (.seq (.region
  false [(oP 6 (.mv (tI 6)))]) (.tr (rl [6]) false .ret)) (.seq (.tr (rl [0, 0, 3, 1, 8]) false (.region false [(oP 17 (.faddr 0 (T 5))), (oR 18 (.load false 1
  (T 17))), (oP 19 (.mv (T 7))), (oP 20 (.bin .add (T 19) (tI 1))), (oP 21 (.bin .neq (T 18) (T 20))), (oP 16 (.mv (T 21)))])) (.tr (rl [0, 0, 3, 0]) false
  (.cond (T 16) (.seq (.region false [(oP 6 (.mv (tI 25)))]) (.tr (rl [6]) false .ret)) (.seq (.tr (rl [0, 0, 3, 16]) false (.region true [(oP 23 (.mv (T 7))),
  (oP 24 (.bin .gtr (T 23) (tI 0))), (oP 25 (.mv (T 24))), (.mk (some 26) (.faddr 1 (T 5)) (some (25, true)) .p), (.mk (some 27) (.load false 1 (T 26)) (some
  (25, true)) .r), (.mk (some 28) (.mv (T 0)) (some (25, true)) .p), (.mk (some 29) (.mv (T 7)) (some (25, true)) .p), (.mk (some 30) (.bin .sub (T 29) (tI 1))
  (some (25, true)) .p), (.mk (some 31) (.iaddrS 7 (T 28) (T 30)) (some (25, true)) .p), (.mk (some 32) (.faddr 1 (T 31)) (some (25, true)) .p), (.mk (some 33)
  (.load false 1 (T 32)) (some (25, true)) .r), (.mk (some 34) (.bin .lss (T 27) (T 33)) (some (25, true)) .p), (oP 35 (.pick (T 25) (T 34) (.lit (.c (.pv
  (.bool false)))))), (oP 22 (.mv (T 35)))])) (.tr (rl [0, 0, 3, 0]) false (.cond (T 22) (.seq (.region false [(oP 6 (.mv (tI 20)))]) (.tr (rl [6]) false .ret))
  (.seq (.tr (rl [0, 0, 3, 30]) false (.region false [(oP 37 (.faddr 4 (T 5))), (oR 38 (.load false 1 (T 37))), (oP 39 (.bin .eql (T 38) (tI 0))), (oP 36 (.mv
  (T 39)))])) (.tr (rl [0, 0, 3, 0]) false (.cond (T 36) (.seq (.region false [(oP 6 (.mv (tI 0)))]) (.tr (rl [6]) false .ret)) .skip)))))))))))))) (.seq (.tr
  (rl [1, 3, 2]) false (.region false [(oP 40 (.mv (T 0))), (oP 41 (.faddr 4 (T 5))), (oR 42 (.load false 1 (T 41))), (oP 43 (.bin .sub (T 42) (tI 1))), (oP 44
  (.iaddrS 7 (T 40) (T 43))), (oR 45 (.load true 7 (T 44))), (oW 8 (.alloc [(.pv (.int .i64 0)), (.pv (.int .i32 0)), (.pv (.int .i32 0)), (.pv (.sl .nil 0
  [])), (.pv (.int .i64 0)), (.pv (.int .i64 0)), (.pv (.str []))])), (sW (.store 7 (T 8) (T 45)))])) (.seq (.tr (rl [1, 3, 2, 0, 0]) false (.region false [(oR
  47 (.load true 7 (T 8))), (oP 48 (.faddr 0 (T 5))), (oR 49 (.load false 1 (T 48))), (oP 50 (.faddr 1 (T 5))), (oR 51 (.load false 1 (T 50))), (oP 52 (.call
  false [] (.lit (.c (.fn 134 []))) [(T 47), (T 49), (T 51)])), (oP 46 (.mv (T 52))), (oP 53 (.extr 0 (T 46))), (oP 54 (.extr 1 (T 46))), (oW 9 (.alloc [(.pv
  (.int .i64 0)), (.pv (.int .i32 0)), (.pv (.int .i32 0)), (.pv (.sl .nil 0 [])), (.pv (.int .i64 0)), (.pv (.int .i64 0)), (.pv (.str []))])), (sW (.store 7
  (T 9) (T 53))), (oP 10 (.mv (T 54)))])) (.seq (.tr (rl [6]) false (.block 1 (.seq (.tr (rl [1, 3, 3, 0, 44]) false (.region false [(oP 56 (.faddr 4 (T 8))),
  (oR 57 (.load false 1 (T 56))), (oP 58 (.bin .gtr (T 57) (tI 0))), (oP 55 (.mv (T 58)))])) (.tr (rl [6]) false (.cond (T 55) (.seq (.region false [(oP 6 (.mv
  (tI 27)))]) (.tr (rl [6]) false .ret)) (.seq (.tr (rl [5, 3, 0, 48]) false (.region false [(oP 60 (.mv (T 1))), (oP 61 (.faddr 4 (T 5))), (oR 62 (.load false
  1 (T 61))), (oR 63 (.mlook (.bool false) false (T 60) (T 62))), (oP 59 (.mv (T 63)))])) (.tr (rl [6]) false (.cond (T 59) (.seq (.region false [(oP 6 (.mv (tI
  23)))]) (.tr (rl [6]) false .ret)) (.seq (.tr (rl [64]) false (.region false [(oP 65 (.mv (T 10))), (oP 66 (.bin .neq (T 65) (tI 0))), (oP 67 (.mv (T 66))),
  (.mk (some 68) (.load true 7 (T 9)) (some (67, false)) .r), (.mk (some 69) (.load true 7 (T 5)) (some (67, false)) .r), (.mk (some 70) (.call false [] (.lit
  (.c (.fn 135 []))) [(T 68), (T 69)]) (some (67, false)) .p), (.mk (some 71) (.un .not (T 70)) (some (67, false)) .p), (oP 72 (.pick (T 67) (.lit (.c (.pv
  (.bool true)))) (T 71))), (oP 64 (.mv (T 72)))])) (.tr (rl [6]) false (.cond (T 64) (.seq (.region false [(oP 6 (.mv (tI 3)))]) (.tr (rl [6]) false .ret))
  .skip))))))))))) (.seq (.region false [(oP 6 (.mv (tI 0)))]) (.tr (rl [6]) false .ret)))))))))
theorem xf98_ok : cmpFunc Go.Proofs.Tryd.prog 98 ((.two (.tr (rl [0, 0, 3]) false .no) (.two (.tr (rl [0, 0, 3, 1]) false .no) (.two (.tr (rl [0, 0, 3, 0]) false (.two (.tr (rl [0, 0, 3, 1, 5]) false .no) (.tr (rl [0, 0, 3, 0]) false (.two (.two .no (.tr (rl [6]) false .no)) (.two (.tr (rl [0, 0, 3, 1, 8]) false .no) (.tr (rl [0, 0, 3, 0]) false (.two (.two .no (.tr (rl [6]) false .no)) (.two (.tr (rl [0, 0, 3, 16]) false (.draw [0, 1, 2, 3, 4, 5, 6, 7, 8, 9, 10, 11, 12, 13] [])) (.tr (rl [0, 0, 3, 0]) false (.two (.two .no (.tr (rl [6]) false .no)) (.two (.tr (rl [0, 0, 3, 30]) false .no) (.tr (rl [0, 0, 3, 0]) false (.two (.two .no (.tr (rl [6]) false .no)) .no))))))))))))) (.two (.tr (rl [1, 3, 2]) false .no) (.two (.tr (rl [1, 3, 2, 0, 0]) false (.ops [{}, {}, {}, {}, {}, { cls := some .p }])) (.two (.tr (rl [6]) false (.two (.tr (rl [1, 3, 3, 0, 44]) false .no) (.tr (rl [6]) false (.two (.two .no (.tr (rl [6]) false .no)) (.two (.tr (rl [5, 3, 0, 48]) false .no) (.tr (rl [6]) false (.two (.two .no (.tr (rl [6]) false .no)) (.two (.tr (rl [64]) false (.ops [{}, {}, {}, {}, {}, { cls := some .p }])) (.tr (rl [6]) false (.two (.two .no (.tr (rl [6]) false .no)) .no)))))))))) (.two .no (.tr (rl [6]) false .no))))))))) = some xf98 := by kernel_rfl
def xf99_l0 : XCode :=
(.seq (.region false [(oP 10 (.bin .lss (T 9) (T 8)))]) (.seq (.tr (rl [3, 3, 0, 0]) false (.cond (T 10) .skip (.tr (rl [3]) false (.exit 0)))) (.seq (.tr (rl
  [3, 3, 0, 0]) false (.block 1 (.seq (.tr (rl [3, 1, 1, 0, 0]) false (.region false [(oP 11 (.iaddrS 7 (T 7) (T 9))), (oR 12 (.load true 7 (T 11))), (oW 5
  (.alloc [(.pv (.int .i64 0)), (.pv (.int .i32 0)), (.pv (.int .i32 0)), (.pv (.sl .nil 0 [])), (.pv (.int .i64 0)), (.pv (.int .i64 0)), (.pv (.str []))])),
  (sW (.store 7 (T 5) (T 12)))])) (.tr (rl [3, 3, 0, 0]) false (.region false [(oP 13 (.mv (T 3))), (oP 14 (.faddr 4 (T 5))), (oR 15 (.load false 1 (T 14))),
  (sW (.mupd (T 13) (T 15) (.lit (.c (.pv (.bool true))))))]))))) (.tr (rl [3, 3, 0, 0]) false (.region false [(oP 16 (.bin .add (T 9) (tI 1))), (oP 9 (.mv (T
  16)))])))))
def xf99 : XFunc :=
(.mk 18 [(.tmp 2)] (.seq (.tr (rl [0]) false (.region false [(oP 2 (.mv (.lit (.c .nilm))))])) (.seq (.tr (rl [0, 2]) false (.region false [(.mk (some 6) .mkmap
  none .w), (oP 3 (.mv (T 6)))])) (.seq (.seq (.tr (rl [3, 3, 0, 0]) false (.region false [(oP 7 (.mv (T 0))), (oP 8 (.len (T 7))), (oP 9 (.mv (tI 0)))])) (.tr
  (rl [3]) false (.block 0 (.loop (rl [3, 3, 0, 0]) xf99_l0)))) (.seq (.tr (rl [2]) false (.region false [(oP 17 (.mv (T 3))), (oP 2 (.mv (T 17)))])) (.tr (rl
  [2]) false .ret))))))
theorem xf99_ok : cmpFunc Go.Proofs.Tryd.prog 99 ((.two (.tr (rl [0]) false .no) (.two (.tr (rl [0, 2]) false .no) (.two (.two (.tr (rl [3, 3, 0, 0]) false .no) (.tr (rl [3]) false (.loop (rl [3, 3, 0, 0]) (.two .no (.two (.tr (rl [3, 3, 0, 0]) false (.two .no (.tr (rl [3]) false .no))) (.two (.tr (rl [3, 3, 0, 0]) false (.two (.tr (rl [3, 1, 1, 0, 0]) false .no) (.tr (rl [3, 3, 0, 0]) false .no))) (.tr (rl [3, 3, 0, 0]) false .no))))))) (.two (.tr (rl [2]) false .no) (.tr (rl [2]) false .no)))))) = some xf99 := by kernel_rfl
def xf100 : XFunc :=
(.mk 3 [(.tmp 2)] (.seq (.tr [] false (.region false [(oW 1 (.box (T 0) 7)), (oP 2 (.mv (.lit (.c (.pv (.bool false))))))])) (.seq (.region false [(oP 2 (.mv
  (.lit (.c (.pv (.bool true))))))]) (.tr (rl [2]) false .ret))))
theorem xf100_ok : cmpFunc Go.Proofs.Tryd.prog 100 ((.two (.tr [] false .no) (.two .no (.tr (rl [2]) false .no)))) = some xf100 := by kernel_rfl
def xf101_l0 : XCode :=
(.seq (.region false [(oP 11 (.bin .lss (T 10) (T 9)))]) (.seq (.tr (rl [1, 3, 2, 0, 0]) false (.cond (T 11) .skip (.tr (rl [5]) false (.exit 0)))) (.seq (.tr
  (rl [1, 3, 2, 0, 0]) false (.block 1 (.seq (.tr (rl [1, 3, 1, 0, 0, 0]) false (.region false [(oP 12 (.iaddrS 7 (T 8) (T 10))), (oR 13 (.load true 7 (T 12))),
  (oW 7 (.alloc [(.pv (.int .i64 0)), (.pv (.int .i32 0)), (.pv (.int .i32 0)), (.pv (.sl .nil 0 [])), (.pv (.int .i64 0)), (.pv (.int .i64 0)), (.pv (.str
  []))])), (sW (.store 7 (T 7) (T 13)))])) (.seq (.tr (rl [1, 3, 1, 0, 0, 0, 5]) false (.region false [(oP 14 (.mv (T 1))), (oR 15 (.load true 7 (T 7))), (oW 16
  (.call false [] (T 14) [(T 15)]))])) (.tr (rl [1, 3, 2, 0, 0]) false (.cond (T 16) (.tr (rl [1, 3, 2, 0, 0]) false (.region false [(oP 17 (.mv (T 5))), (oR 18
  (.load true 7 (T 7))), (oP 19 (.call false [] (.lit (.c (.fn 102 []))) [(T 18)])), (oP 20 (.buildSl [(.pv (.int .i64 0)), (.pv (.int .i32 0)), (.pv (.int .i32
  0)), (.pv (.sl .nil 0 [])), (.pv (.int .i64 0)), (.pv (.int .i64 0)), (.pv (.str []))] 1 7 [(0, (7, (T 19)))])), (oW 21 (.app 7 72 (T 17) (T 20))), (oP 5 (.mv
  (T 21)))])) .skip)))))) (.tr (rl [1, 3, 2, 0, 0]) false (.region false [(oP 22 (.bin .add (T 10) (tI 1))), (oP 10 (.mv (T 22)))])))))
def xf101 : XFunc :=
(.mk 24 [(.tmp 4)] (.seq (.tr (rl [0, 0]) false (.region false [(oP 4 (.mv (.lit (.c (.pv (.sl .nil 0 []))))))])) (.seq (.region false [(oP 5 (.mv (.lit (.c
  (.pv (.sl .nil 0 []))))))]) (.seq (.seq (.tr (rl [1, 3, 2, 0, 0]) false (.region false [(oP 8 (.mv (T 0))), (oP 9 (.len (T 8))), (oP 10 (.mv (tI 0)))])) (.tr
  (rl [5]) false (.block 0 (.loop (rl [1, 3, 2, 0, 0]) xf101_l0)))) (.seq (.tr (rl [4]) false (.region false [(oP 23 (.mv (T 5))), (oP 4 (.mv (T 23)))])) (.tr
  (rl [4]) false .ret))))))
theorem xf101_ok : cmpFunc Go.Proofs.Tryd.prog 101 ((.two (.tr (rl [0, 0]) false .no) (.two .no (.two (.two (.tr (rl [1, 3, 2, 0, 0]) false .no) (.tr (rl [5]) false (.loop (rl [1, 3, 2, 0, 0]) (.two .no (.two (.tr (rl [1, 3, 2, 0, 0]) false (.two .no (.tr (rl [5]) false .no))) (.two (.tr (rl [1, 3, 2, 0, 0]) false (.two (.tr (rl [1, 3, 1, 0, 0, 0]) false .no) (.two (.tr (rl [1, 3, 1, 0, 0, 0, 5]) false .no) (.tr (rl [1, 3, 2, 0, 0]) false (.two (.tr (rl [1, 3, 2, 0, 0]) false (.ops [{}, {}, { cls := some .p }])) .no))))) (.tr (rl [1, 3, 2, 0, 0]) false .no))))))) (.two (.tr (rl [4]) false .no) (.tr (rl [4]) false .no)))))) = some xf101 := by kernel_rfl
def xf102 : XFunc :=
(.mk 8 [(.cell 2 true 7)] (.seq (.tr (rl [1, 0]) false (.region false [(oW 1 (.box (T 0) 7)), (oW 2 (.alloc [(.pv (.int .i64 0)), (.pv (.int .i32 0)), (.pv
  (.int .i32 0)), (.pv (.sl .nil 0 [])), (.pv (.int .i64 0)), (.pv (.int .i64 0)), (.pv (.str []))]))])) (.seq (.tr (rl [1, 0]) false (.region false [(oP 3
  (.faddr 3 (T 1))), (oR 4 (.load false 1 (T 3))), (oP 5 (.call false [] (.lit (.c (.fn 136 []))) [(T 4)])), (oP 6 (.faddr 3 (T 1))), (sW (.store 1 (T 6) (T
  5)))])) (.seq (.tr (rl [2]) false (.region false [(oR 7 (.load true 7 (T 1))), (sW (.store 7 (T 2) (T 7)))])) (.tr (rl [2]) false .ret)))))
theorem xf102_ok : cmpFunc Go.Proofs.Tryd.prog 102 ((.two (.tr (rl [1, 0]) false .no) (.two (.tr (rl [1, 0]) false (.ops [{}, {}, { cls := some .p }])) (.two (.tr (rl [2]) false .no) (.tr (rl [2]) false .no))))) = some xf102 := by kernel_rfl
def xf103 : XFunc :=
(.mk 17 [(.cell 4 true 1), (.tmp 5)] (.seq (.tr (rl [2, 0, 0]) false (.region false [(oW 2 (.box (T 0) 1)), (oW 3 (.box (T 1) 1)), (oW 4 (.alloc [(.pv (.sl .nil
  0 []))])), (oP 5 (.mv (tI 0)))])) (.seq (.tr (rl [4, 1, 0]) false (.region false [(oR 9 (.load true 1 (T 2))), (oP 10 (.mkfn 137 [(T 3)])), (oW 11 (.call
  false [] (.lit (.c (.fn 67 []))) [(T 9), (T 10)])), (oP 8 (.mv (T 11))), (oP 12 (.extr 0 (T 8))), (oP 13 (.extr 1 (T 8))), (oP 6 (.mv (T 12))), (oP 7 (.mv (T
  13)))])) (.seq (.tr (rl [4, 0]) false (.region false [(oP 14 (.mv (T 6))), (oP 15 (.build [(.pv (.sl .nil 0 []))] [(0, (1, (T 14)))])), (oP 16 (.mv (T 7))),
  (sW (.store 1 (T 4) (T 15))), (oP 5 (.mv (T 16)))])) (.tr (rl [4, 0]) false .ret)))))
theorem xf103_ok : cmpFunc Go.Proofs.Tryd.prog 103 ((.two (.tr (rl [2, 0, 0]) false .no) (.two (.tr (rl [4, 1, 0]) false .no) (.two (.tr (rl [4, 0]) false .no) (.tr (rl [4, 0]) false .no))))) = some xf103 := by kernel_rfl
def xf104_l0 : XCode :=
(.seq (.region false [(oP 9 (.bin .lss (T 8) (T 7)))]) (.seq (.tr (rl [0, 0, 5, 0]) false (.cond (T 9) .skip (.tr [] false (.exit 0)))) (.seq (.tr (rl [0, 0, 2,
  2, 0]) false (.block 1 (.seq (.tr (rl [0, 0, 3, 1, 0]) false (.region false [(oP 10 (.mv (T 8))), (oP 5 (.mv (T 10)))])) (.seq (.tr (rl [0, 0, 3, 1, 0, 7])
  false (.region false [(oP 11 (.mv (T 1))), (oP 12 (.mv (T 0))), (oP 13 (.mv (T 5))), (oP 14 (.iaddrS 4 (T 12) (T 13))), (oR 15 (.load true 4 (T 14))), (oW 16
  (.call false [] (T 11) [(T 15)]))])) (.tr (rl [0, 0, 2, 2, 0]) false (.cond (T 16) (.seq (.tr (rl [4]) false (.region false [(oP 17 (.mv (T 5))), (oP 4 (.mv
  (T 17)))])) (.tr (rl [4]) false .ret)) .skip)))))) (.tr (rl [0, 0, 5, 0]) false (.region false [(oP 18 (.bin .add (T 8) (tI 1))), (oP 8 (.mv (T 18)))])))))
def xf104 : XFunc :=
(.mk 19 [(.tmp 4)] (.seq (.tr (rl [0, 0]) false (.region false [(oP 4 (.mv (tI 0)))])) (.seq (.seq (.tr (rl [0, 0, 5, 0]) false (.region false [(oP 6 (.mv (T
  0))), (oP 7 (.len (T 6))), (oP 8 (.mv (tI 0)))])) (.tr (rl [4]) false (.block 0 (.loop (rl [0, 0, 5, 0]) xf104_l0)))) (.seq (.region false [(oP 4 (.mv (.lit
  (.c (.pv (.int .i64 (-1)))))))]) (.tr (rl [4]) false .ret)))))
theorem xf104_ok : cmpFunc Go.Proofs.Tryd.prog 104 ((.two (.tr (rl [0, 0]) false .no) (.two (.two (.tr (rl [0, 0, 5, 0]) false .no) (.tr (rl [4]) false (.loop (rl [0, 0, 5, 0]) (.two .no (.two (.tr (rl [0, 0, 5, 0]) false (.two .no (.tr [] false .no))) (.two (.tr (rl [0, 0, 2, 2, 0]) false (.two (.tr (rl [0, 0, 3, 1, 0]) false .no) (.two (.tr (rl [0, 0, 3, 1, 0, 7]) false .no) (.tr (rl [0, 0, 2, 2, 0]) false (.two (.two (.tr (rl [4]) false .no) (.tr (rl [4]) false .no)) .no))))) (.tr (rl [0, 0, 5, 0]) false .no))))))) (.two .no (.tr (rl [4]) false .no))))) = some xf104 := by kernel_rfl
def xf105 : XFunc :=
(.mk 8 [(.tmp 3)] (.seq (.tr (rl [1, 0]) false (.region false [(oW 2 (.box (T 0) 4)), (oP 3 (.mv (.lit (.c (.pv (.bool false))))))])) (.seq (.tr (rl [3]) false
  (.region false [(oP 4 (.faddr 0 (T 2))), (oR 5 (.load false 1 (T 4))), (oR 6 (.load false 1 (T 1))), (oP 7 (.bin .eql (T 5) (T 6))), (oP 3 (.mv (T 7)))]))
  (.tr (rl [3]) false .ret))))
theorem xf105_ok : cmpFunc Go.Proofs.Tryd.prog 105 ((.two (.tr (rl [1, 0]) false .no) (.two (.tr (rl [3]) false .no) (.tr (rl [3]) false .no)))) = some xf105 := by kernel_rfl
def xf106_l0 : XCode :=
(.seq (.seq (.tr (rl [0, 2, 10]) false (.region false [(oP 11 (.mv (T 3))), (oP 12 (.mv (T 0))), (oP 13 (.len (T 12))), (oP 14 (.bin .lss (T 11) (T 13)))]))
  (.tr (rl [0, 2]) false (.cond (T 14) .skip (.tr (rl [0]) false (.exit 0))))) (.seq (.tr (rl [0, 1, 0]) false (.block 1 (.seq (.tr (rl [0, 2, 26]) false
  (.region false [(oP 17 (.mv (T 0))), (oP 18 (.mv (T 3))), (oP 19 (.iaddrS 3 (T 17) (T 18))), (oP 20 (.faddr 0 (T 19))), (oR 21 (.load false 1 (T 20))), (oP 22
  (.bin .lss (T 21) (tI 1))), (oP 23 (.mv (T 22))), (.mk (some 24) (.mv (T 0)) (some (23, false)) .p), (.mk (some 25) (.mv (T 3)) (some (23, false)) .p), (.mk
  (some 26) (.iaddrS 3 (T 24) (T 25)) (some (23, false)) .p), (.mk (some 27) (.faddr 0 (T 26)) (some (23, false)) .p), (.mk (some 28) (.load false 1 (T 27))
  (some (23, false)) .r), (.mk (some 29) (.bin .gtr (T 28) (tI 999)) (some (23, false)) .p), (oP 30 (.pick (T 23) (.lit (.c (.pv (.bool true)))) (T 29)))]))
  (.tr (rl [0, 1, 0]) false (.cond (T 30) (.seq (.region false [(oP 2 (.mv (tI 8)))]) (.tr (rl [2]) false .ret)) .skip))))) (.tr (rl [0, 2]) false (.region
  false [(oP 15 (.mv (T 3))), (oP 16 (.bin .add (T 15) (tI 1))), (oP 3 (.mv (T 16)))]))))
def xf106_l1 : XCode :=
(.seq (.seq (.tr (rl [0, 3, 29]) false (.region false [(oP 31 (.mv (T 4))), (oP 32 (.mv (T 0))), (oP 33 (.len (T 32))), (oP 34 (.bin .lss (T 31) (T 33)))]))
  (.tr (rl [0, 3]) false (.cond (T 34) .skip (.tr (rl [0]) false (.exit 2))))) (.seq (.tr (rl [0, 1, 1]) false (.block 3 (.seq (.tr (rl [0, 3, 47]) false
  (.region false [(oP 37 (.mv (T 0))), (oP 38 (.mv (T 4))), (oP 39 (.iaddrS 3 (T 37) (T 38))), (oP 40 (.faddr 1 (T 39))), (oP 41 (.faddr 0 (T 40))), (oR 42
  (.load false 1 (T 41))), (oP 43 (.bin .lss (T 42) (tI 0))), (oP 44 (.mv (T 43))), (.mk (some 45) (.mv (T 0)) (some (44, false)) .p), (.mk (some 46) (.mv (T
  4)) (some (44, false)) .p), (.mk (some 47) (.iaddrS 3 (T 45) (T 46)) (some (44, false)) .p), (.mk (some 48) (.faddr 1 (T 47)) (some (44, false)) .p), (.mk
  (some 49) (.faddr 0 (T 48)) (some (44, false)) .p), (.mk (some 50) (.load false 1 (T 49)) (some (44, false)) .r), (.mk (some 51) (.bin .gtr (T 50) (tI 3))
  (some (44, false)) .p), (oP 52 (.pick (T 44) (.lit (.c (.pv (.bool true)))) (T 51)))])) (.tr (rl [0, 1, 1]) false (.cond (T 52) (.seq (.region false [(oP 2
  (.mv (tI 12)))]) (.tr (rl [2]) false .ret)) .skip))))) (.tr (rl [0, 3]) false (.region false [(oP 35 (.mv (T 4))), (oP 36 (.bin .add (T 35) (tI 1))), (oP 4
  (.mv (T 36)))]))))
def xf106_l2 : XCode :=
(.seq (.seq (.tr (rl [0, 4, 50]) false (.region false [(oP 53 (.mv (T 5))), (oP 54 (.mv (T 0))), (oP 55 (.len (T 54))), (oP 56 (.bin .lss (T 53) (T 55)))]))
  (.tr (rl [0, 4]) false (.cond (T 56) .skip (.tr (rl [0]) false (.exit 4))))) (.seq (.tr (rl [0, 1, 2]) false (.block 5 (.seq (.tr (rl [0, 4, 0]) false
  (.region false [(oP 59 (.mv (T 0))), (oP 60 (.mv (T 5))), (oP 61 (.iaddrS 3 (T 59) (T 60))), (oP 62 (.faddr 1 (T 61))), (oR 63 (.load true 2 (T 62))), (oP 64
  (.call false [] (.lit (.c (.fn 138 []))) [(T 63)])), (oP 6 (.mv (T 64)))])) (.seq (.tr (rl [0, 4, 60]) false (.region false [(oP 65 (.mv (T 6))), (oP 66 (.un
  .not (T 65)))])) (.tr (rl [0, 1, 2]) false (.cond (T 66) (.seq (.region false [(oP 2 (.mv (tI 9)))]) (.tr (rl [2]) false .ret)) .skip)))))) (.tr (rl [0, 4])
  false (.region false [(oP 57 (.mv (T 5))), (oP 58 (.bin .add (T 57) (tI 1))), (oP 5 (.mv (T 58)))]))))
def xf106_l3 : XCode :=
(.seq (.seq (.tr (rl [0, 6, 62]) false (.region false [(oP 67 (.mv (T 7))), (oP 68 (.mv (T 0))), (oP 69 (.len (T 68))), (oP 70 (.bin .lss (T 67) (T 69)))]))
  (.tr (rl [0, 6]) false (.cond (T 70) .skip (.tr (rl [0]) false (.exit 6))))) (.seq (.tr (rl [0, 1, 4]) false (.block 7 (.seq (.tr (rl [0, 6, 71]) false
  (.region false [(oP 73 (.mv (T 0))), (oP 74 (.mv (T 7))), (oP 75 (.iaddrS 3 (T 73) (T 74))), (oP 76 (.faddr 1 (T 75))), (oP 77 (.faddr 1 (T 76))), (oR 78
  (.load false 1 (T 77))), (oP 79 (.bin .eql (T 78) (tI 0)))])) (.tr (rl [0, 1, 4]) false (.cond (T 79) (.seq (.region false [(oP 2 (.mv (tI 10)))]) (.tr (rl
  [2]) false .ret)) .skip))))) (.tr (rl [0, 6]) false (.region false [(oP 71 (.mv (T 7))), (oP 72 (.bin .add (T 71) (tI 1))), (oP 7 (.mv (T 72)))]))))
def xf106_l4 : XCode :=
(.seq (.seq (.tr (rl [0, 7, 0, 0, 76]) false (.region false [(oP 84 (.mv (T 10))), (oP 85 (.mv (T 0))), (oP 86 (.len (T 85))), (oP 87 (.bin .lss (T 84) (T
  86)))])) (.tr (rl [0, 7, 0, 0]) false (.cond (T 87) .skip (.tr (rl [0, 7, 0]) false (.exit 10))))) (.seq (.tr (rl [0, 7, 0, 0]) false (.block 11 (.seq (.tr
  (rl [0, 7, 0, 0, 86]) false (.region false [(oP 90 (.mv (T 0))), (oP 91 (.mv (T 10))), (oP 92 (.iaddrS 3 (T 90) (T 91))), (oP 93 (.faddr 1 (T 92))), (oP 94
  (.faddr 0 (T 93))), (oR 95 (.load false 1 (T 94))), (oP 96 (.mv (T 8))), (oP 97 (.bin .eql (T 95) (T 96)))])) (.tr (rl [0, 7, 0, 0]) false (.cond (T 97) (.tr
  (rl [0, 7, 0, 0]) false (.region false [(oP 98 (.mv (T 9))), (oP 99 (.mv (T 0))), (oP 100 (.mv (T 10))), (oP 101 (.iaddrS 3 (T 99) (T 100))), (oP 102 (.faddr
  1 (T 101))), (oP 103 (.faddr 1 (T 102))), (oR 104 (.load false 1 (T 103))), (oP 105 (.bin .add (T 98) (T 104))), (oP 9 (.mv (T 105)))])) .skip))))) (.tr (rl
  [0, 7, 0, 0]) false (.region false [(oP 88 (.mv (T 10))), (oP 89 (.bin .add (T 88) (tI 1))), (oP 10 (.mv (T 89)))]))))
def xf106_l5 : XCode :=
(.seq (.seq (.tr (rl [0, 7, 72]) false (.region false [(oP 80 (.mv (T 8))), (oP 81 (.bin .lss (T 80) (tI 4)))])) (.tr (rl [0, 7]) false (.cond (T 81) .skip (.tr
  [] false (.exit 8))))) (.seq (.tr (rl [0, 1, 5]) false (.block 9 (.seq (.region false [(oP 9 (.mv (tI 0)))]) (.seq (.seq (.region false [(oP 10 (.mv (tI
  0)))]) (.tr (rl [0, 7, 0]) false (.block 10 (.loop (rl [0, 7, 0, 0]) xf106_l4)))) (.seq (.tr (rl [0, 7, 98]) false (.region false [(oP 106 (.mv (T 9))), (oP
  107 (.bin .neq (T 106) (tI 0)))])) (.tr (rl [0, 1, 5]) false (.cond (T 107) (.seq (.region false [(oP 2 (.mv (tI 15)))]) (.tr (rl [2]) false .ret))
  .skip))))))) (.tr (rl [0, 7]) false (.region false [(oP 82 (.mv (T 8))), (oP 83 (.bin .add (T 82) (tI 1))), (oP 8 (.mv (T 83)))]))))
def xf106 : XFunc :=
(.mk 108 [(.tmp 2)] (.seq (.tr (rl [0]) false (.region false [(oP 2 (.mv (tI 0)))])) (.seq (.seq (.region false [(oP 3 (.mv (tI 0)))]) (.tr (rl [0, 1]) false
  (.block 0 (.loop (rl [0, 2]) xf106_l0)))) (.seq (.seq (.region false [(oP 4 (.mv (tI 0)))]) (.tr (rl [0, 1]) false (.block 2 (.loop (rl [0, 3]) xf106_l1))))
  (.seq (.seq (.region false [(oP 5 (.mv (tI 0)))]) (.tr (rl [0, 1]) false (.block 4 (.loop (rl [0, 4]) xf106_l2)))) (.seq (.seq (.region false [(oP 7 (.mv (tI
  0)))]) (.tr (rl [0, 1]) false (.block 6 (.loop (rl [0, 6]) xf106_l3)))) (.seq (.seq (.region false [(oP 8 (.mv (tI 0)))]) (.tr (rl [2]) false (.block 8 (.loop
  (rl [0, 7]) xf106_l5)))) (.seq (.region false [(oP 2 (.mv (tI 0)))]) (.tr (rl [2]) false .ret)))))))))
theorem xf106_ok : cmpFunc Go.Proofs.Tryd.prog 106 ((.two (.tr (rl [0]) false .no) (.two (.two .no (.tr (rl [0, 1]) false (.loop (rl [0, 2]) (.two (.two (.tr (rl [0, 2, 10]) false .no) (.tr (rl [0, 2]) false (.two .no (.tr (rl [0]) false .no)))) (.two (.tr (rl [0, 1, 0]) false (.two (.tr (rl [0, 2, 26]) false .no) (.tr (rl [0, 1, 0]) false (.two (.two .no (.tr (rl [2]) false .no)) .no)))) (.tr (rl [0, 2]) false .no)))))) (.two (.two .no (.tr (rl [0, 1]) false (.loop (rl [0, 3]) (.two (.two (.tr (rl [0, 3, 29]) false .no) (.tr (rl [0, 3]) false (.two .no (.tr (rl [0]) false .no)))) (.two (.tr (rl [0, 1, 1]) false (.two (.tr (rl [0, 3, 47]) false .no) (.tr (rl [0, 1, 1]) false (.two (.two .no (.tr (rl [2]) false .no)) .no)))) (.tr (rl [0, 3]) false .no)))))) (.two (.two .no (.tr (rl [0, 1]) false (.loop (rl [0, 4]) (.two (.two (.tr (rl [0, 4, 50]) false .no) (.tr (rl [0, 4]) false (.two .no (.tr (rl [0]) false .no)))) (.two (.tr (rl [0, 1, 2]) false (.two (.tr (rl [0, 4, 0]) false (.ops [{}, {}, {}, {}, {}, { cls := some .p }])) (.two (.tr (rl [0, 4, 60]) false .no) (.tr (rl [0, 1, 2]) false (.two (.two .no (.tr (rl [2]) false .no)) .no))))) (.tr (rl [0, 4]) false .no)))))) (.two (.two .no (.tr (rl [0, 1]) false (.loop (rl [0, 6]) (.two (.two (.tr (rl [0, 6, 62]) false .no) (.tr (rl [0, 6]) false (.two .no (.tr (rl [0]) false .no)))) (.two (.tr (rl [0, 1, 4]) false (.two (.tr (rl [0, 6, 71]) false .no) (.tr (rl [0, 1, 4]) false (.two (.two .no (.tr (rl [2]) false .no)) .no)))) (.tr (rl [0, 6]) false .no)))))) (.two (.two .no (.tr (rl [2]) false (.loop (rl [0, 7]) (.two (.two (.tr (rl [0, 7, 72]) false .no) (.tr (rl [0, 7]) false (.two .no (.tr [] false .no)))) (.two (.tr (rl [0, 1, 5]) false (.two .no (.two (.two .no (.tr (rl [0, 7, 0]) false (.loop (rl [0, 7, 0, 0]) (.two (.two (.tr (rl [0, 7, 0, 0, 76]) false .no) (.tr (rl [0, 7, 0, 0]) false (.two .no (.tr (rl [0, 7, 0]) false .no)))) (.two (.tr (rl [0, 7, 0, 0]) false (.two (.tr (rl [0, 7, 0, 0, 86]) false .no) (.tr (rl [0, 7, 0, 0]) false (.two (.tr (rl [0, 7, 0, 0]) false .no) .no)))) (.tr (rl [0, 7, 0, 0]) false .no)))))) (.two (.tr (rl [0, 7, 98]) false .no) (.tr (rl [0, 1, 5]) false (.two (.two .no (.tr (rl [2]) false .no)) .no)))))) (.tr (rl [0, 7]) false .no)))))) (.two .no (.tr (rl [2]) false .no))))))))) = some xf106 := by kernel_rfl
def xf107 : XFunc :=
(.mk 8 [(.tmp 3)] (.seq (.tr (rl [0, 0]) false (.region false [(oP 3 (.mv (.lit (.c (.pv (.bool false))))))])) (.seq (.tr (rl [3]) false (.region false [(oP 4
  (.faddr 3 (T 1))), (oR 5 (.load false 1 (T 4))), (oP 6 (.mv (T 0))), (oW 7 (.call false [] (.lit (.c (.fn 108 []))) [(T 5), (T 6)])), (oP 3 (.mv (T 7)))]))
  (.tr (rl [3]) false .ret))))
theorem xf107_ok : cmpFunc Go.Proofs.Tryd.prog 107 ((.two (.tr (rl [0, 0]) false .no) (.two (.tr (rl [3]) false .no) (.tr (rl [3]) false .no)))) = some xf107 := by kernel_rfl
def xf108 : XFunc :=
(.mk 9 [(.tmp 4)] (.seq (.tr (rl [0, 0]) false (.region false [(oP 4 (.mv (.lit (.c (.pv (.bool false))))))])) (.seq (.tr (rl [4]) false (.region false [(oP 5
  (.mv (T 0))), (oP 6 (.mv (T 1))), (oW 7 (.call false [] (.lit (.c (.fn 139 []))) [(T 5), (T 6)])), (oP 8 (.bin .geq (T 7) (tI 0))), (oP 4 (.mv (T 8)))])) (.tr
  (rl [4]) false .ret))))
theorem xf108_ok : cmpFunc Go.Proofs.Tryd.prog 108 ((.two (.tr (rl [0, 0]) false .no) (.two (.tr (rl [4]) false .no) (.tr (rl [4]) false .no)))) = some xf108 := by kernel_rfl
def xf109 : XFunc :=
(.mk 47 [(.tmp 2)] (.seq (.tr (rl [1]) false (.region false [(oW 1 (.box (T 0) 7)), (oP 2 (.mv (.lit (.c (.pv (.bool false))))))])) (.seq (.region false [(oP 3
  (.mv (.lit (.c (.fn 140 [])))))]) (.seq (.tr (rl [2]) false (.region false [(oP 4 (.faddr 0 (T 1))), (oR 5 (.load false 1 (T 4))), (oP 6 (.bin .geq (T 5) (tI
  1))), (oP 7 (.mv (T 6))), (.mk (some 8) (.faddr 0 (T 1)) (some (7, true)) .p), (.mk (some 9) (.load false 1 (T 8)) (some (7, true)) .r), (.mk (some 10) (.bin
  .leq (T 9) (tI 1000000)) (some (7, true)) .p), (oP 11 (.pick (T 7) (T 10) (.lit (.c (.pv (.bool false)))))), (oP 12 (.mv (T 11))), (.mk (some 13) (.faddr 4 (T
  1)) (some (12, true)) .p), (.mk (some 14) (.load false 1 (T 13)) (some (12, true)) .r), (.mk (some 15) (.bin .geq (T 14) (tI 0)) (some (12, true)) .p), (oP 16
  (.pick (T 12) (T 15) (.lit (.c (.pv (.bool false)))))), (oP 17 (.mv (T 16))), (.mk (some 18) (.faddr 4 (T 1)) (some (17, true)) .p), (.mk (some 19) (.load
  false 1 (T 18)) (some (17, true)) .r), (.mk (some 20) (.faddr 0 (T 1)) (some (17, true)) .p), (.mk (some 21) (.load false 1 (T 20)) (some (17, true)) .r),
  (.mk (some 22) (.bin .lss (T 19) (T 21)) (some (17, true)) .p), (oP 23 (.pick (T 17) (T 22) (.lit (.c (.pv (.bool false)))))), (oP 24 (.mv (T 23))), (.mk
  (some 25) (.faddr 5 (T 1)) (some (24, true)) .p), (.mk (some 26) (.load false 1 (T 25)) (some (24, true)) .r), (.mk (some 27) (.bin .geq (T 26) (tI 0)) (some
  (24, true)) .p), (oP 28 (.pick (T 24) (T 27) (.lit (.c (.pv (.bool false)))))), (oP 29 (.mv (T 28))), (.mk (some 30) (.faddr 5 (T 1)) (some (29, true)) .p),
  (.mk (some 31) (.load false 1 (T 30)) (some (29, true)) .r), (.mk (some 32) (.bin .leq (T 31) (tI 4)) (some (29, true)) .p), (oP 33 (.pick (T 29) (T 32) (.lit
  (.c (.pv (.bool false)))))), (oP 34 (.mv (T 33))), (.mk (some 35) (.faddr 6 (T 1)) (some (34, true)) .p), (.mk (some 36) (.load false 1 (T 35)) (some (34,
  true)) .r), (.mk (some 37) (.lenS (T 36)) (some (34, true)) .p), (.mk (some 38) (.bin .leq (T 37) (tI 32)) (some (34, true)) .p), (oP 39 (.pick (T 34) (T 38)
  (.lit (.c (.pv (.bool false)))))), (oP 40 (.mv (T 39))), (.mk (some 41) (.faddr 6 (T 1)) (some (40, true)) .p), (.mk (some 42) (.load false 1 (T 41)) (some
  (40, true)) .r), (.mk (some 43) (.mv (T 3)) (some (40, true)) .p), (.mk (some 44) (.call false [] (.lit (.c (.fn 141 []))) [(T 42), (T 43)]) (some (40, true))
  .w), (.mk (some 45) (.un .not (T 44)) (some (40, true)) .p), (oP 46 (.pick (T 40) (T 45) (.lit (.c (.pv (.bool false)))))), (oP 2 (.mv (T 46)))])) (.tr (rl
  [2]) false .ret)))))
theorem xf109_ok : cmpFunc Go.Proofs.Tryd.prog 109 ((.two (.tr (rl [1]) false .no) (.two .no (.two (.tr (rl [2]) false .no) (.tr (rl [2]) false .no))))) = some xf109 := by kernel_rfl
def xf110 : XFunc :=
(.mk 11 [(.tmp 2)] (.seq (.tr (rl [1]) false (.region false [(oW 1 (.box (T 0) 3)), (oP 2 (.mv (.lit (.c (.pv (.bool false))))))])) (.seq (.tr (rl [2]) false
  (.region false [(oP 3 (.faddr 0 (T 1))), (oR 4 (.load false 1 (T 3))), (oP 5 (.bin .lss (T 4) (tI 1))), (oP 6 (.mv (T 5))), (.mk (some 7) (.faddr 0 (T 1))
  (some (6, false)) .p), (.mk (some 8) (.load false 1 (T 7)) (some (6, false)) .r), (.mk (some 9) (.bin .gtr (T 8) (tI 999)) (some (6, false)) .p), (oP 10
  (.pick (T 6) (.lit (.c (.pv (.bool true)))) (T 9))), (oP 2 (.mv (T 10)))])) (.tr (rl [2]) false .ret))))
theorem xf110_ok : cmpFunc Go.Proofs.Tryd.prog 110 ((.two (.tr (rl [1]) false .no) (.two (.tr (rl [2]) false .no) (.tr (rl [2]) false .no)))) = some xf110 := by kernel_rfl
def xf111 : XFunc :=
(.mk 8 [(.tmp 2)] (.seq (.tr (rl [1]) false (.region false [(oW 1 (.box (T 0) 3)), (oP 2 (.mv (.lit (.c (.pv (.bool false))))))])) (.seq (.tr (rl [2]) false
  (.region false [(oP 3 (.faddr 1 (T 1))), (oP 4 (.faddr 0 (T 3))), (oR 5 (.load false 1 (T 4))), (oP 6 (.call false [] (.lit (.c (.fn 112 []))) [(T 5)])), (oP
  7 (.bin .eql (T 6) (.lit (.c (.pv (.str [])))))), (oP 2 (.mv (T 7)))])) (.tr (rl [2]) false .ret))))
theorem xf111_ok : cmpFunc Go.Proofs.Tryd.prog 111 ((.two (.tr (rl [1]) false .no) (.two (.tr (rl [2]) false (.ops [{}, {}, {}, { cls := some .p }])) (.tr (rl [2]) false .no)))) = some xf111 := by kernel_rfl
def xf112 : XFunc :=
(.mk 10 [(.tmp 2)] (.seq (.region false [(oP 2 (.mv (.lit (.c (.pv (.str []))))))]) (.seq (.seq (.region false [(oP 3 (.mv (T 0))), (oW 4 (.call false [] (.lit
  (.c (.fn 142 []))) [(T 3)])), (oP 5 (.un .not (T 4)))]) (.cond (T 5) (.seq (.region false [(oP 2 (.mv (.lit (.c (.pv (.str []))))))]) .ret) .skip)) (.seq
  (.region false [(oP 6 (.mv (T 0))), (oP 7 (.iaddrA 4 3 (.lit (.c (.cptr [(.str [69, 85, 82]), (.int .i64 2), (.int .i64 100), (.str [74, 80, 89]), (.int .i64
  0), (.int .i64 1), (.str [66, 72, 68]), (.int .i64 3), (.int .i64 1000), (.str [85, 83, 68]), (.int .i64 2), (.int .i64 100)] 0))) (T 6))), (oP 8 (.faddr 0 (T
  7))), (oR 9 (.load false 1 (T 8))), (oP 2 (.mv (T 9)))]) .ret))))
theorem xf112_ok : cmpFunc Go.Proofs.Tryd.prog 112 .no = some xf112 := by kernel_rfl
def xf113 : XFunc :=
(.mk 7 [(.tmp 2)] (.seq (.tr (rl [1]) false (.region false [(oW 1 (.box (T 0) 3)), (oP 2 (.mv (.lit (.c (.pv (.bool false))))))])) (.seq (.tr (rl [2]) false
  (.region false [(oP 3 (.faddr 1 (T 1))), (oR 4 (.load true 2 (T 3))), (oP 5 (.call false [] (.lit (.c (.fn 114 []))) [(T 4)])), (oP 6 (.un .not (T 5))), (oP 2
  (.mv (T 6)))])) (.tr (rl [2]) false .ret))))
theorem xf113_ok : cmpFunc Go.Proofs.Tryd.prog 113 ((.two (.tr (rl [1]) false .no) (.two (.tr (rl [2]) false (.ops [{}, {}, { cls := some .p }])) (.tr (rl [2]) false .no)))) = some xf113 := by kernel_rfl
def xf114 : XFunc :=
(.mk 16 [(.tmp 2)] (.seq (.tr (rl [1]) false (.region false [(oW 1 (.box (T 0) 2)), (oP 2 (.mv (.lit (.c (.pv (.bool false))))))])) (.seq (.tr (rl [2]) false
  (.region false [(oP 3 (.faddr 0 (T 1))), (oR 4 (.load false 1 (T 3))), (oP 5 (.call false [] (.lit (.c (.fn 142 []))) [(T 4)])), (oP 6 (.mv (T 5))), (.mk
  (some 7) (.faddr 1 (T 1)) (some (6, true)) .p), (.mk (some 8) (.load false 1 (T 7)) (some (6, true)) .r), (.mk (some 9) (.bin .geq (T 8) (.lit (.c (.pv (.int
  .i64 (-1000000000000000)))))) (some (6, true)) .p), (oP 10 (.pick (T 6) (T 9) (.lit (.c (.pv (.bool false)))))), (oP 11 (.mv (T 10))), (.mk (some 12) (.faddr
  1 (T 1)) (some (11, true)) .p), (.mk (some 13) (.load false 1 (T 12)) (some (11, true)) .r), (.mk (some 14) (.bin .leq (T 13) (tI 1000000000000000)) (some
  (11, true)) .p), (oP 15 (.pick (T 11) (T 14) (.lit (.c (.pv (.bool false)))))), (oP 2 (.mv (T 15)))])) (.tr (rl [2]) false .ret))))
theorem xf114_ok : cmpFunc Go.Proofs.Tryd.prog 114 ((.two (.tr (rl [1]) false .no) (.two (.tr (rl [2]) false (.ops [{}, {}, { cls := some .p }])) (.tr (rl [2]) false .no)))) = some xf114 := by kernel_rfl
def xf115 : XFunc :=
(.mk 7 [(.tmp 2)] (.seq (.tr (rl [1]) false (.region false [(oW 1 (.box (T 0) 3)), (oP 2 (.mv (.lit (.c (.pv (.bool false))))))])) (.seq (.tr (rl [2]) false
  (.region false [(oP 3 (.faddr 1 (T 1))), (oP 4 (.faddr 1 (T 3))), (oR 5 (.load false 1 (T 4))), (oP 6 (.bin .eql (T 5) (tI 0))), (oP 2 (.mv (T 6)))])) (.tr
  (rl [2]) false .ret))))
theorem xf115_ok : cmpFunc Go.Proofs.Tryd.prog 115 ((.two (.tr (rl [1]) false .no) (.two (.tr (rl [2]) false .no) (.tr (rl [2]) false .no)))) = some xf115 := by kernel_rfl
def xf116_l0 : XCode :=
(.seq (.region false [(oP 9 (.bin .lss (T 8) (T 7)))]) (.seq (.tr (rl [3, 2, 0, 0]) false (.cond (T 9) .skip (.tr (rl [3]) false (.exit 0)))) (.seq (.tr (rl [3,
  2, 0, 0]) false (.block 1 (.seq (.tr (rl [3, 1, 0, 0, 0]) false (.region false [(oP 10 (.iaddrS 3 (T 6) (T 8))), (oR 11 (.load true 3 (T 10))), (oW 5 (.alloc
  [(.pv (.int .i64 0)), (.pv (.int .i64 0)), (.pv (.int .i64 0))])), (sW (.store 3 (T 5) (T 11)))])) (.tr (rl [3, 2, 0, 0]) false (.region true [(oP 12 (.faddr
  1 (T 5))), (oP 13 (.faddr 0 (T 12))), (oR 14 (.load false 1 (T 13))), (oP 15 (.iaddrA 4 1 (T 3) (T 14))), (oR 16 (.load false 1 (T 15))), (oP 17 (.faddr 1 (T
  5))), (oP 18 (.faddr 1 (T 17))), (oR 19 (.load false 1 (T 18))), (oP 20 (.bin .add (T 16) (T 19))), (oP 21 (.iaddrA 4 1 (T 3) (T 14))), (sW (.store 1 (T 21)
  (T 20)))]))))) (.tr (rl [3, 2, 0, 0]) false (.region false [(oP 22 (.bin .add (T 8) (tI 1))), (oP 8 (.mv (T 22)))])))))
def xf116 : XFunc :=
(.mk 26 [(.tmp 2)] (.seq (.tr (rl [0]) false (.region false [(oP 2 (.mv (.lit (.c (.pv (.bool false))))))])) (.seq (.region false [(oW 3 (.alloc [(.pv (.int
  .i64 0)), (.pv (.int .i64 0)), (.pv (.int .i64 0)), (.pv (.int .i64 0))]))]) (.seq (.seq (.tr (rl [3, 2, 0, 0]) false (.region false [(oP 6 (.mv (T 0))), (oP
  7 (.len (T 6))), (oP 8 (.mv (tI 0)))])) (.tr (rl [3]) false (.block 0 (.loop (rl [3, 2, 0, 0]) xf116_l0)))) (.seq (.tr (rl [2]) false (.region false [(oR 23
  (.load true 4 (T 3))), (oP 24 (.build [(.pv (.int .i64 0)), (.pv (.int .i64 0)), (.pv (.int .i64 0)), (.pv (.int .i64 0))] [])), (oP 25 (.eqA false [0, 0, 0,
  0] (T 23) (T 24))), (oP 2 (.mv (T 25)))])) (.tr (rl [2]) false .ret))))))
theorem xf116_ok : cmpFunc Go.Proofs.Tryd.prog 116 ((.two (.tr (rl [0]) false .no) (.two .no (.two (.two (.tr (rl [3, 2, 0, 0]) false .no) (.tr (rl [3]) false (.loop (rl [3, 2, 0, 0]) (.two .no (.two (.tr (rl [3, 2, 0, 0]) false (.two .no (.tr (rl [3]) false .no))) (.two (.tr (rl [3, 2, 0, 0]) false (.two (.tr (rl [3, 1, 0, 0, 0]) false .no) (.tr (rl [3, 2, 0, 0]) false (.draw [0, 1, 2, 3, 4, 5, 6, 7, 8, 9, 10] [])))) (.tr (rl [3, 2, 0, 0]) false .no))))))) (.two (.tr (rl [2]) false .no) (.tr (rl [2]) false .no)))))) = some xf116 := by kernel_rfl
def xf117_l0 : XCode :=
(.seq (.region false [(oP 19 (.bin .lss (T 18) (T 17)))]) (.seq (.tr (rl [1, 5, 8, 0, 0]) false (.cond (T 19) .skip (.tr (rl [7]) false (.exit 0)))) (.seq (.tr
  (rl [1, 5, 8, 0, 0]) false (.block 1 (.seq (.tr (rl [1, 5, 1, 6, 0, 0]) false (.region false [(oP 20 (.iaddrS 3 (T 16) (T 18))), (oR 21 (.load true 3 (T
  20))), (oW 9 (.alloc [(.pv (.int .i64 0)), (.pv (.int .i64 0)), (.pv (.int .i64 0))])), (sW (.store 3 (T 9) (T 21)))])) (.seq (.tr (rl [1, 5, 1, 6, 0, 0, 5])
  false (.region false [(oP 22 (.mv (T 1))), (oR 23 (.load true 3 (T 9))), (oW 24 (.call false [] (T 22) [(T 23)]))])) (.tr (rl [1, 5, 8, 0, 0]) false (.cond (T
  24) (.tr (rl [1, 5, 8, 0, 0]) false (.region false [(oP 25 (.mv (T 7))), (oP 26 (.faddr 1 (T 9))), (oP 27 (.faddr 1 (T 26))), (oR 28 (.load false 1 (T 27))),
  (oP 29 (.bin .add (T 25) (T 28))), (oP 7 (.mv (T 29)))])) .skip)))))) (.tr (rl [1, 5, 8, 0, 0]) false (.region false [(oP 30 (.bin .add (T 18) (tI 1))), (oP
  18 (.mv (T 30)))])))))
def xf117 : XFunc :=
(.mk 32 [(.tmp 4), (.tmp 5)] (.seq (.tr (rl [1, 0]) false (.region false [(oW 2 (.box (T 0) 7)), (oP 4 (.mv (tI 0))), (oP 5 (.mv (tI 0)))])) (.seq (.seq (.tr
  (rl [1, 0, 3]) false (.region false [(oR 10 (.load true 7 (T 2))), (oP 11 (.call false [] (.lit (.c (.fn 69 []))) [(T 10)])), (oP 6 (.mv (T 11)))])) (.seq
  (.tr (rl [1, 0, 3, 6]) false (.region false [(oP 12 (.mv (T 6))), (oP 13 (.bin .neq (T 12) (tI 0)))])) (.tr (rl [1, 0, 1, 0]) false (.cond (T 13) (.seq (.tr
  (rl [4, 0]) false (.region false [(oP 14 (.mv (T 6))), (oP 4 (.mv (tI 0))), (oP 5 (.mv (T 14)))])) (.tr (rl [4, 0]) false .ret)) .skip)))) (.seq (.region
  false [(oP 7 (.mv (tI 0)))]) (.seq (.seq (.tr (rl [1, 5, 8, 0, 0]) false (.region false [(oP 15 (.faddr 3 (T 2))), (oR 16 (.load false 1 (T 15))), (oP 17
  (.len (T 16))), (oP 18 (.mv (tI 0)))])) (.tr (rl [7]) false (.block 0 (.loop (rl [1, 5, 8, 0, 0]) xf117_l0)))) (.seq (.tr (rl [4, 0]) false (.region false
  [(oP 31 (.mv (T 7))), (oP 4 (.mv (T 31))), (oP 5 (.mv (tI 0)))])) (.tr (rl [4, 0]) false .ret)))))))
theorem xf117_ok : cmpFunc Go.Proofs.Tryd.prog 117 ((.two (.tr (rl [1, 0]) false .no) (.two (.two (.tr (rl [1, 0, 3]) false (.ops [{}, { cls := some .p }])) (.two (.tr (rl [1, 0, 3, 6]) false .no) (.tr (rl [1, 0, 1, 0]) false (.two (.two (.tr (rl [4, 0]) false .no) (.tr (rl [4, 0]) false .no)) .no)))) (.two .no (.two (.two (.tr (rl [1, 5, 8, 0, 0]) false .no) (.tr (rl [7]) false (.loop (rl [1, 5, 8, 0, 0]) (.two .no (.two (.tr (rl [1, 5, 8, 0, 0]) false (.two .no (.tr (rl [7]) false .no))) (.two (.tr (rl [1, 5, 8, 0, 0]) false (.two (.tr (rl [1, 5, 1, 6, 0, 0]) false .no) (.two (.tr (rl [1, 5, 1, 6, 0, 0, 5]) false .no) (.tr (rl [1, 5, 8, 0, 0]) false (.two (.tr (rl [1, 5, 8, 0, 0]) false .no) .no))))) (.tr (rl [1, 5, 8, 0, 0]) false .no))))))) (.two (.tr (rl [4, 0]) false .no) (.tr (rl [4, 0]) false .no))))))) = some xf117 := by kernel_rfl
def xf118 : XFunc :=
(.mk 16 [(.tmp 4)] (.seq (.tr (rl [1, 0, 0]) false (.region false [(oW 3 (.box (T 0) 3)), (oP 4 (.mv (.lit (.c (.pv (.bool false))))))])) (.seq (.tr (rl [4])
  false (.region false [(oP 5 (.faddr 0 (T 3))), (oR 6 (.load false 1 (T 5))), (oR 7 (.load false 1 (T 1))), (oP 8 (.bin .eql (T 6) (T 7))), (oP 9 (.mv (T 8))),
  (.mk (some 10) (.faddr 1 (T 3)) (some (9, true)) .p), (.mk (some 11) (.faddr 0 (T 10)) (some (9, true)) .p), (.mk (some 12) (.load false 1 (T 11)) (some (9,
  true)) .r), (.mk (some 13) (.load false 1 (T 2)) (some (9, true)) .r), (.mk (some 14) (.bin .eql (T 12) (T 13)) (some (9, true)) .p), (oP 15 (.pick (T 9) (T
  14) (.lit (.c (.pv (.bool false)))))), (oP 4 (.mv (T 15)))])) (.tr (rl [4]) false .ret))))
theorem xf118_ok : cmpFunc Go.Proofs.Tryd.prog 118 ((.two (.tr (rl [1, 0, 0]) false .no) (.two (.tr (rl [4]) false .no) (.tr (rl [4]) false .no)))) = some xf118 := by kernel_rfl
def xf134_l0 : XCode :=
(.seq (.region false [(oP 45 (.bin .lss (T 44) (T 43)))]) (.seq (.tr (rl [6, 2, 33, 0]) false (.cond (T 45) .skip (.tr (rl [6, 2]) false (.exit 0)))) (.seq (.tr
  (rl [6, 2, 33, 0]) false (.block 1 (.seq (.tr (rl [6, 2, 0, 32, 0]) false (.region false [(oP 46 (.mv (T 44))), (oP 10 (.mv (T 46)))])) (.tr (rl [6, 2, 33,
  0]) false (.region true [(oP 47 (.faddr 3 (T 9))), (oR 48 (.load false 1 (T 47))), (oP 49 (.mv (T 10))), (oP 50 (.faddr 3 (T 9))), (oR 51 (.load false 1 (T
  50))), (oP 52 (.mv (T 10))), (oP 53 (.iaddrS 3 (T 51) (T 52))), (oP 54 (.faddr 1 (T 53))), (oP 55 (.faddr 1 (T 54))), (oR 56 (.load false 1 (T 55))), (oP 57
  (.un .neg (T 56))), (oP 58 (.iaddrS 3 (T 48) (T 49))), (oP 59 (.faddr 1 (T 58))), (oP 60 (.faddr 1 (T 59))), (sW (.store 1 (T 60) (T 57)))]))))) (.tr (rl [6,
  2, 33, 0]) false (.region false [(oP 61 (.bin .add (T 44) (tI 1))), (oP 44 (.mv (T 61)))])))))
def xf134 : XFunc :=
(.mk 69 [(.cell 6 true 7), (.tmp 7)] (.seq (.tr (rl [1, 0, 0, 2]) false (.region false [(oW 3 (.box (T 0) 7)), (oW 6 (.alloc [(.pv (.int .i64 0)), (.pv (.int
  .i32 0)), (.pv (.int .i32 0)), (.pv (.sl .nil 0 [])), (.pv (.int .i64 0)), (.pv (.int .i64 0)), (.pv (.str []))])), (oP 7 (.mv (tI 0)))])) (.seq (.seq (.tr
  (rl [1, 0, 0, 2, 1]) false (.region false [(oR 12 (.load true 7 (T 3))), (oP 13 (.call false [] (.lit (.c (.fn 69 []))) [(T 12)])), (oP 8 (.mv (T 13)))]))
  (.seq (.tr (rl [1, 0, 0, 2, 1, 6]) false (.region false [(oP 14 (.mv (T 8))), (oP 15 (.bin .neq (T 14) (tI 0)))])) (.tr (rl [1, 0, 0, 2, 0]) false (.cond (T
  15) (.seq (.tr (rl [6, 0]) false (.region false [(oP 16 (.build [(.pv (.int .i64 0)), (.pv (.int .i32 0)), (.pv (.int .i32 0)), (.pv (.sl .nil 0 [])), (.pv
  (.int .i64 0)), (.pv (.int .i64 0)), (.pv (.str []))] [])), (oP 17 (.mv (T 8))), (sW (.store 7 (T 6) (T 16))), (oP 7 (.mv (T 17)))])) (.tr (rl [6, 0]) false
  .ret)) .skip)))) (.seq (.seq (.tr (rl [1, 0, 0, 2, 20]) false (.region false [(oP 18 (.mv (T 1))), (oP 19 (.faddr 0 (T 3))), (oR 20 (.load false 1 (T 19))),
  (oP 21 (.bin .leq (T 18) (T 20))), (oP 22 (.mv (T 21))), (.mk (some 23) (.mv (T 2)) (some (22, false)) .p), (.mk (some 24) (.faddr 1 (T 3)) (some (22, false))
  .p), (.mk (some 25) (.load false 1 (T 24)) (some (22, false)) .r), (.mk (some 26) (.bin .lss (T 23) (T 25)) (some (22, false)) .p), (oP 27 (.pick (T 22) (.lit
  (.c (.pv (.bool true)))) (T 26)))])) (.tr (rl [1, 0, 0, 2, 0]) false (.cond (T 27) (.seq (.tr (rl [6, 0]) false (.region false [(oP 28 (.build [(.pv (.int
  .i64 0)), (.pv (.int .i32 0)), (.pv (.int .i32 0)), (.pv (.sl .nil 0 [])), (.pv (.int .i64 0)), (.pv (.int .i64 0)), (.pv (.str []))] [])), (sW (.store 7 (T
  6) (T 28))), (oP 7 (.mv (tI 20)))])) (.tr (rl [6, 0]) false .ret)) .skip))) (.seq (.tr (rl [1, 0, 0, 2, 2]) false (.region false [(oR 29 (.load true 7 (T
  3))), (oW 9 (.alloc [(.pv (.int .i64 0)), (.pv (.int .i32 0)), (.pv (.int .i32 0)), (.pv (.sl .nil 0 [])), (.pv (.int .i64 0)), (.pv (.int .i64 0)), (.pv
  (.str []))])), (sW (.store 7 (T 9) (T 29)))])) (.seq (.tr (rl [6, 2]) false (.region true [(oP 30 (.mv (T 1))), (oP 31 (.mv (T 2))), (oP 32 (.faddr 0 (T 3))),
  (oR 33 (.loadR false 1 (T 32) (T 3))), (oP 34 (.faddr 3 (T 3))), (oR 35 (.load false 1 (T 34))), (oP 37 (.faddr 0 (T 9))), (oW 36 (.callM (.lit (.c (.fn 136
  []))) [(T 35)])), (sW (.storeO 1 (T 37) (T 30) (T 3))), (oP 38 (.faddr 1 (T 9))), (sW (.storeO 1 (T 38) (T 31) (T 3))), (oP 39 (.faddr 4 (T 9))), (sW (.store
  1 (T 39) (T 33))), (oP 40 (.faddr 3 (T 9))), (sW (.store 1 (T 40) (T 36)))])) (.seq (.seq (.tr (rl [6, 2, 33, 0]) false (.region false [(oP 41 (.faddr 3 (T
  9))), (oR 42 (.load false 1 (T 41))), (oP 43 (.len (T 42))), (oP 44 (.mv (tI 0)))])) (.tr (rl [6, 2]) false (.block 0 (.loop (rl [6, 2, 33, 0]) xf134_l0))))
  (.seq (.seq (.tr (rl [6, 2, 1]) false (.region false [(oR 62 (.load true 7 (T 9))), (oW 63 (.call true [] (.lit (.c (.fn 69 []))) [(T 62)])), (oP 11 (.mv (T
  63)))])) (.seq (.tr (rl [6, 2, 1, 53]) false (.region false [(oP 64 (.mv (T 11))), (oP 65 (.bin .neq (T 64) (tI 0)))])) (.tr (rl [6, 0, 1]) false (.cond (T
  65) (.seq (.tr (rl [6, 0]) false (.region false [(oP 66 (.build [(.pv (.int .i64 0)), (.pv (.int .i32 0)), (.pv (.int .i32 0)), (.pv (.sl .nil 0 [])), (.pv
  (.int .i64 0)), (.pv (.int .i64 0)), (.pv (.str []))] [])), (oP 67 (.mv (T 11))), (sW (.store 7 (T 6) (T 66))), (oP 7 (.mv (T 67)))])) (.tr (rl [6, 0]) false
  .ret)) .skip)))) (.seq (.tr (rl [6, 0]) false (.region false [(oR 68 (.load true 7 (T 9))), (sW (.store 7 (T 6) (T 68))), (oP 7 (.mv (tI 0)))])) (.tr (rl [6,
  0]) false .ret))))))))))
theorem xf134_ok : cmpFunc Go.Proofs.Tryd.prog 134 ((.two (.tr (rl [1, 0, 0, 2]) false .no) (.two (.two (.tr (rl [1, 0, 0, 2, 1]) false (.ops [{}, { cls := some .p }])) (.two (.tr (rl [1, 0, 0, 2, 1, 6]) false .no) (.tr (rl [1, 0, 0, 2, 0]) false (.two (.two (.tr (rl [6, 0]) false .no) (.tr (rl [6, 0]) false .no)) .no)))) (.two (.two (.tr (rl [1, 0, 0, 2, 20]) false .no) (.tr (rl [1, 0, 0, 2, 0]) false (.two (.two (.tr (rl [6, 0]) false .no) (.tr (rl [6, 0]) false .no)) .no))) (.two (.tr (rl [1, 0, 0, 2, 2]) false .no) (.two (.tr (rl [6, 2]) false (.draw [0, 1, 2, 3, 4, 5, 7, 6, 8, 9, 10, 11, 12, 13, 14] [{}, {}, {}, { root := some 3 }, {}, {}, { own := true }, {}, { root := some 3 }, {}, { root := some 3 }])) (.two (.two (.tr (rl [6, 2, 33, 0]) false .no) (.tr (rl [6, 2]) false (.loop (rl [6, 2, 33, 0]) (.two .no (.two (.tr (rl [6, 2, 33, 0]) false (.two .no (.tr (rl [6, 2]) false .no))) (.two (.tr (rl [6, 2, 33, 0]) false (.two (.tr (rl [6, 2, 0, 32, 0]) false .no) (.tr (rl [6, 2, 33, 0]) false (.draw [0, 1, 2, 3, 4, 5, 6, 7, 8, 9, 10, 11, 12, 13, 14] [])))) (.tr (rl [6, 2, 33, 0]) false .no))))))) (.two (.two (.tr (rl [6, 2, 1]) false (.ops [{}, { fz := true }])) (.two (.tr (rl [6, 2, 1, 53]) false .no) (.tr (rl [6, 0, 1]) false (.two (.two (.tr (rl [6, 0]) false .no) (.tr (rl [6, 0]) false .no)) .no)))) (.two (.tr (rl [6, 0]) false .no) (.tr (rl [6, 0]) false .no)))))))))) = some xf134 := by kernel_rfl
def xf135 : XFunc :=
(.mk 52 [(.tmp 4)] (.seq (.tr (rl [2, 0]) false (.region false [(oW 2 (.box (T 0) 7)), (oW 3 (.box (T 1) 7)), (oP 4 (.mv (.lit (.c (.pv (.bool false))))))]))
  (.seq (.tr (rl [4]) false (.region false [(oP 5 (.faddr 3 (T 2))), (oR 6 (.load false 1 (T 5))), (oP 7 (.faddr 3 (T 3))), (oR 8 (.load false 1 (T 7))), (oP 9
  (.call false [] (.lit (.c (.fn 86 []))) [(T 6), (T 8)])), (oP 10 (.mv (T 9))), (.mk (some 11) (.faddr 0 (T 2)) (some (10, true)) .p), (.mk (some 12) (.load
  false 1 (T 11)) (some (10, true)) .r), (.mk (some 13) (.faddr 0 (T 3)) (some (10, true)) .p), (.mk (some 14) (.load false 1 (T 13)) (some (10, true)) .r),
  (.mk (some 15) (.bin .eql (T 12) (T 14)) (some (10, true)) .p), (oP 16 (.pick (T 10) (T 15) (.lit (.c (.pv (.bool false)))))), (oP 17 (.mv (T 16))), (.mk
  (some 18) (.faddr 1 (T 2)) (some (17, true)) .p), (.mk (some 19) (.load false 1 (T 18)) (some (17, true)) .r), (.mk (some 20) (.faddr 1 (T 3)) (some (17,
  true)) .p), (.mk (some 21) (.load false 1 (T 20)) (some (17, true)) .r), (.mk (some 22) (.bin .eql (T 19) (T 21)) (some (17, true)) .p), (oP 23 (.pick (T 17)
  (T 22) (.lit (.c (.pv (.bool false)))))), (oP 24 (.mv (T 23))), (.mk (some 25) (.faddr 2 (T 2)) (some (24, true)) .p), (.mk (some 26) (.load false 1 (T 25))
  (some (24, true)) .r), (.mk (some 27) (.faddr 2 (T 3)) (some (24, true)) .p), (.mk (some 28) (.load false 1 (T 27)) (some (24, true)) .r), (.mk (some 29)
  (.bin .eql (T 26) (T 28)) (some (24, true)) .p), (oP 30 (.pick (T 24) (T 29) (.lit (.c (.pv (.bool false)))))), (oP 31 (.mv (T 30))), (.mk (some 32) (.faddr 4
  (T 2)) (some (31, true)) .p), (.mk (some 33) (.load false 1 (T 32)) (some (31, true)) .r), (.mk (some 34) (.faddr 4 (T 3)) (some (31, true)) .p), (.mk (some
  35) (.load false 1 (T 34)) (some (31, true)) .r), (.mk (some 36) (.bin .eql (T 33) (T 35)) (some (31, true)) .p), (oP 37 (.pick (T 31) (T 36) (.lit (.c (.pv
  (.bool false)))))), (oP 38 (.mv (T 37))), (.mk (some 39) (.faddr 5 (T 2)) (some (38, true)) .p), (.mk (some 40) (.load false 1 (T 39)) (some (38, true)) .r),
  (.mk (some 41) (.faddr 5 (T 3)) (some (38, true)) .p), (.mk (some 42) (.load false 1 (T 41)) (some (38, true)) .r), (.mk (some 43) (.bin .eql (T 40) (T 42))
  (some (38, true)) .p), (oP 44 (.pick (T 38) (T 43) (.lit (.c (.pv (.bool false)))))), (oP 45 (.mv (T 44))), (.mk (some 46) (.faddr 6 (T 2)) (some (45, true))
  .p), (.mk (some 47) (.load false 1 (T 46)) (some (45, true)) .r), (.mk (some 48) (.faddr 6 (T 3)) (some (45, true)) .p), (.mk (some 49) (.load false 1 (T 48))
  (some (45, true)) .r), (.mk (some 50) (.bin .eql (T 47) (T 49)) (some (45, true)) .p), (oP 51 (.pick (T 45) (T 50) (.lit (.c (.pv (.bool false)))))), (oP 4
  (.mv (T 51)))])) (.tr (rl [4]) false .ret))))
theorem xf135_ok : cmpFunc Go.Proofs.Tryd.prog 135 ((.two (.tr (rl [2, 0]) false .no) (.two (.tr (rl [4]) false (.ops [{}, {}, {}, {}, { cls := some .p }])) (.tr (rl [4]) false .no)))) = some xf135 := by kernel_rfl
def xf136 : XFunc :=
(.mk 8 [(.tmp 2)] (.seq (.tr (rl [0]) false (.region false [(oP 2 (.mv (.lit (.c (.pv (.sl .nil 0 []))))))])) (.seq (.seq (.tr (rl [0, 3]) false (.region false
  [(oP 3 (.mv (T 0))), (oP 4 (.eqN 0 false (T 3) (.lit (.c (.pv (.sl .nil 0 []))))))])) (.tr (rl [0, 1]) false (.cond (T 4) (.seq (.region false [(oP 2 (.mv
  (.lit (.c (.pv (.sl .nil 0 []))))))]) (.tr (rl [2]) false .ret)) .skip))) (.seq (.tr (rl [2]) false (.region false [(oP 5 (.buildSl [(.pv (.int .i64 0)), (.pv
  (.int .i64 0)), (.pv (.int .i64 0))] 0 3 [])), (oP 6 (.mv (T 0))), (oW 7 (.app 3 24 (T 5) (T 6))), (oP 2 (.mv (T 7)))])) (.tr (rl [2]) false .ret)))))
theorem xf136_ok : cmpFunc Go.Proofs.Tryd.prog 136 ((.two (.tr (rl [0]) false .no) (.two (.two (.tr (rl [0, 3]) false .no) (.tr (rl [0, 1]) false (.two (.two .no (.tr (rl [2]) false .no)) .no))) (.two (.tr (rl [2]) false .no) (.tr (rl [2]) false .no))))) = some xf136 := by kernel_rfl
def xf137 : XFunc :=
(.mk 8 [(.tmp 3)] (.seq (.tr (rl [1, 0]) false (.region false [(oW 2 (.box (T 0) 7)), (oP 3 (.mv (.lit (.c (.pv (.bool false))))))])) (.seq (.tr (rl [3]) false
  (.region false [(oP 4 (.faddr 1 (T 2))), (oR 5 (.load false 1 (T 4))), (oR 6 (.load false 1 (T 1))), (oP 7 (.bin .leq (T 5) (T 6))), (oP 3 (.mv (T 7)))]))
  (.tr (rl [3]) false .ret))))
theorem xf137_ok : cmpFunc Go.Proofs.Tryd.prog 137 ((.two (.tr (rl [1, 0]) false .no) (.two (.tr (rl [3]) false .no) (.tr (rl [3]) false .no)))) = some xf137 := by kernel_rfl
def xf138 : XFunc :=
(.mk 17 [(.tmp 2)] (.seq (.tr (rl [1]) false (.region false [(oW 1 (.box (T 0) 2)), (oP 2 (.mv (.lit (.c (.pv (.bool false))))))])) (.seq (.tr (rl [2]) false
  (.region false [(oP 3 (.faddr 0 (T 1))), (oR 4 (.load false 1 (T 3))), (oP 5 (.call false [] (.lit (.c (.fn 144 []))) [(T 4)])), (oP 6 (.bin .neq (T 5) (.lit
  (.c (.pv (.str [])))))), (oP 7 (.mv (T 6))), (.mk (some 8) (.faddr 1 (T 1)) (some (7, true)) .p), (.mk (some 9) (.load false 1 (T 8)) (some (7, true)) .r),
  (.mk (some 10) (.bin .geq (T 9) (.lit (.c (.pv (.int .i64 (-1000000000000000)))))) (some (7, true)) .p), (oP 11 (.pick (T 7) (T 10) (.lit (.c (.pv (.bool
  false)))))), (oP 12 (.mv (T 11))), (.mk (some 13) (.faddr 1 (T 1)) (some (12, true)) .p), (.mk (some 14) (.load false 1 (T 13)) (some (12, true)) .r), (.mk
  (some 15) (.bin .leq (T 14) (tI 1000000000000000)) (some (12, true)) .p), (oP 16 (.pick (T 12) (T 15) (.lit (.c (.pv (.bool false)))))), (oP 2 (.mv (T
  16)))])) (.tr (rl [2]) false .ret))))
theorem xf138_ok : cmpFunc Go.Proofs.Tryd.prog 138 ((.two (.tr (rl [1]) false .no) (.two (.tr (rl [2]) false (.ops [{}, {}, { cls := some .p }])) (.tr (rl [2]) false .no)))) = some xf138 := by kernel_rfl
def xf139_l0 : XCode :=
(.seq (.region false [(oP 9 (.bin .lss (T 8) (T 7)))]) (.seq (.tr (rl [0, 0, 5, 0]) false (.cond (T 9) .skip (.tr [] false (.exit 0)))) (.seq (.tr (rl [0, 0, 2,
  2, 0]) false (.block 1 (.seq (.tr (rl [0, 0, 3, 1, 0]) false (.region false [(oP 10 (.mv (T 8))), (oP 5 (.mv (T 10)))])) (.seq (.tr (rl [0, 0, 3, 1, 0, 7])
  false (.region false [(oP 11 (.mv (T 1))), (oP 12 (.mv (T 0))), (oP 13 (.mv (T 5))), (oP 14 (.iaddrS 3 (T 12) (T 13))), (oR 15 (.load true 3 (T 14))), (oW 16
  (.call false [] (T 11) [(T 15)]))])) (.tr (rl [0, 0, 2, 2, 0]) false (.cond (T 16) (.seq (.tr (rl [4]) false (.region false [(oP 17 (.mv (T 5))), (oP 4 (.mv
  (T 17)))])) (.tr (rl [4]) false .ret)) .skip)))))) (.tr (rl [0, 0, 5, 0]) false (.region false [(oP 18 (.bin .add (T 8) (tI 1))), (oP 8 (.mv (T 18)))])))))
def xf139 : XFunc :=
(.mk 19 [(.tmp 4)] (.seq (.tr (rl [0, 0]) false (.region false [(oP 4 (.mv (tI 0)))])) (.seq (.seq (.tr (rl [0, 0, 5, 0]) false (.region false [(oP 6 (.mv (T
  0))), (oP 7 (.len (T 6))), (oP 8 (.mv (tI 0)))])) (.tr (rl [4]) false (.block 0 (.loop (rl [0, 0, 5, 0]) xf139_l0)))) (.seq (.region false [(oP 4 (.mv (.lit
  (.c (.pv (.int .i64 (-1)))))))]) (.tr (rl [4]) false .ret)))))
theorem xf139_ok : cmpFunc Go.Proofs.Tryd.prog 139 ((.two (.tr (rl [0, 0]) false .no) (.two (.two (.tr (rl [0, 0, 5, 0]) false .no) (.tr (rl [4]) false (.loop (rl [0, 0, 5, 0]) (.two .no (.two (.tr (rl [0, 0, 5, 0]) false (.two .no (.tr [] false .no))) (.two (.tr (rl [0, 0, 2, 2, 0]) false (.two (.tr (rl [0, 0, 3, 1, 0]) false .no) (.two (.tr (rl [0, 0, 3, 1, 0, 7]) false .no) (.tr (rl [0, 0, 2, 2, 0]) false (.two (.two (.tr (rl [4]) false .no) (.tr (rl [4]) false .no)) .no))))) (.tr (rl [0, 0, 5, 0]) false .no))))))) (.two .no (.tr (rl [4]) false .no))))) = some xf139 := by kernel_rfl
def xf140 : XFunc :=
(.mk 9 [(.tmp 2)] (.seq (.tr (rl [0]) false (.region false [(oP 2 (.mv (.lit (.c (.pv (.bool false))))))])) (.seq (.tr (rl [2]) false (.region false [(oP 3 (.mv
  (T 0))), (oP 4 (.bin .lss (T 3) (.lit (.c (.pv (.int .i32 32)))))), (oP 5 (.mv (T 4))), (.mk (some 6) (.mv (T 0)) (some (5, false)) .p), (.mk (some 7) (.bin
  .gtr (T 6) (.lit (.c (.pv (.int .i32 126))))) (some (5, false)) .p), (oP 8 (.pick (T 5) (.lit (.c (.pv (.bool true)))) (T 7))), (oP 2 (.mv (T 8)))])) (.tr (rl
  [2]) false .ret))))
theorem xf140_ok : cmpFunc Go.Proofs.Tryd.prog 140 ((.two (.tr (rl [0]) false .no) (.two (.tr (rl [2]) false .no) (.tr (rl [2]) false .no)))) = some xf140 := by kernel_rfl
def xf141 : XFunc :=
(.mk 9 [(.tmp 4)] (.seq (.tr (rl [0, 0]) false (.region false [(oP 4 (.mv (.lit (.c (.pv (.bool false))))))])) (.seq (.tr (rl [4]) false (.region false [(oP 5
  (.mv (T 0))), (oP 6 (.mv (T 1))), (oW 7 (.call false [] (.lit (.c (.fn 145 []))) [(T 5), (T 6)])), (oP 8 (.bin .geq (T 7) (tI 0))), (oP 4 (.mv (T 8)))])) (.tr
  (rl [4]) false .ret))))
theorem xf141_ok : cmpFunc Go.Proofs.Tryd.prog 141 ((.two (.tr (rl [0, 0]) false .no) (.two (.tr (rl [4]) false .no) (.tr (rl [4]) false .no)))) = some xf141 := by kernel_rfl
def xf142 : XFunc :=
(.mk 9 [(.tmp 2)] (.seq (.tr (rl [0]) false (.region false [(oP 2 (.mv (.lit (.c (.pv (.bool false))))))])) (.seq (.tr (rl [2]) false (.region false [(oP 3 (.mv
  (T 0))), (oP 4 (.bin .geq (T 3) (tI 0))), (oP 5 (.mv (T 4))), (.mk (some 6) (.mv (T 0)) (some (5, true)) .p), (.mk (some 7) (.bin .lss (T 6) (tI 4)) (some (5,
  true)) .p), (oP 8 (.pick (T 5) (T 7) (.lit (.c (.pv (.bool false)))))), (oP 2 (.mv (T 8)))])) (.tr (rl [2]) false .ret))))
theorem xf142_ok : cmpFunc Go.Proofs.Tryd.prog 142 ((.two (.tr (rl [0]) false .no) (.two (.tr (rl [2]) false .no) (.tr (rl [2]) false .no)))) = some xf142 := by kernel_rfl
def xf144 : XFunc :=
(.mk 12 [(.tmp 2)] (.seq (.tr (rl [0]) false (.region false [(oP 2 (.mv (.lit (.c (.pv (.str []))))))])) (.seq (.seq (.tr (rl [3]) false (.region false [(oP 3
  (.mv (T 0)))])) (.tr (rl [2]) false (.block 0 (.seq (.tr (rl [3, 0]) false (.region false [(oP 5 (.bin .eql (T 3) (tI 0))), (oP 4 (.mv (T 5)))])) (.tr (rl
  [2]) false (.cond (T 4) (.seq (.region false [(oP 2 (.mv (.lit (.c (.pv (.str [69, 85, 82]))))))]) (.tr (rl [2]) false .ret)) (.seq (.tr (rl [3, 2]) false
  (.region false [(oP 7 (.bin .eql (T 3) (tI 1))), (oP 6 (.mv (T 7)))])) (.tr (rl [2]) false (.cond (T 6) (.seq (.region false [(oP 2 (.mv (.lit (.c (.pv (.str
  [74, 80, 89]))))))]) (.tr (rl [2]) false .ret)) (.seq (.tr (rl [3, 4]) false (.region false [(oP 9 (.bin .eql (T 3) (tI 2))), (oP 8 (.mv (T 9)))])) (.tr (rl
  [2]) false (.cond (T 8) (.seq (.region false [(oP 2 (.mv (.lit (.c (.pv (.str [66, 72, 68]))))))]) (.tr (rl [2]) false .ret)) (.seq (.tr (rl [10]) false
  (.region false [(oP 11 (.bin .eql (T 3) (tI 3))), (oP 10 (.mv (T 11)))])) (.tr (rl [2]) false (.cond (T 10) (.seq (.region false [(oP 2 (.mv (.lit (.c (.pv
  (.str [85, 83, 68]))))))]) (.tr (rl [2]) false .ret)) .skip))))))))))))))) (.seq (.region false [(oP 2 (.mv (.lit (.c (.pv (.str []))))))]) (.tr (rl [2])
  false .ret)))))
theorem xf144_ok : cmpFunc Go.Proofs.Tryd.prog 144 ((.two (.tr (rl [0]) false .no) (.two (.two (.tr (rl [3]) false .no) (.tr (rl [2]) false (.two (.tr (rl [3, 0]) false .no) (.tr (rl [2]) false (.two (.two .no (.tr (rl [2]) false .no)) (.two (.tr (rl [3, 2]) false .no) (.tr (rl [2]) false (.two (.two .no (.tr (rl [2]) false .no)) (.two (.tr (rl [3, 4]) false .no) (.tr (rl [2]) false (.two (.two .no (.tr (rl [2]) false .no)) (.two (.tr (rl [10]) false .no) (.tr (rl [2]) false (.two (.two .no (.tr (rl [2]) false .no)) .no)))))))))))))) (.two .no (.tr (rl [2]) false .no))))) = some xf144 := by kernel_rfl
def xf145 : XFunc :=
(.mk 8 [(.tmp 4)] (.seq (.tr (rl [0, 0]) false (.region false [(oP 4 (.mv (tI 0)))])) (.seq (.tr (rl [4]) false (.region false [(oP 5 (.mv (T 0))), (oP 6 (.mv
  (T 1))), (oW 7 (.call false [] (.lit (.c (.fn 146 []))) [(T 5), (T 6), (.lit (.c (.pv (.bool true))))])), (oP 4 (.mv (T 7)))])) (.tr (rl [4]) false .ret))))
theorem xf145_ok : cmpFunc Go.Proofs.Tryd.prog 145 ((.two (.tr (rl [0, 0]) false .no) (.two (.tr (rl [4]) false .no) (.tr (rl [4]) false .no)))) = some xf145 := by kernel_rfl
def xf146_l0 : XCode :=
(.seq (.region false [(oW 11 (.nxt (T 10))), (oP 12 (.extr 0 (T 11)))]) (.seq (.tr (rl [1, 0, 7, 0]) false (.cond (T 12) .skip (.tr [] false (.exit 0)))) (.tr
  (rl [1, 0, 3, 3]) false (.block 1 (.seq (.tr (rl [1, 0, 4, 0, 1]) false (.region false [(oP 13 (.extr 1 (T 11))), (oP 14 (.extr 2 (T 11))), (oP 7 (.mv (T
  13))), (oP 8 (.mv (T 14)))])) (.seq (.tr (rl [1, 0, 4, 2, 8]) false (.region false [(oP 15 (.mv (T 1))), (oP 16 (.mv (T 8))), (oW 17 (.call false [] (T 15)
  [(T 16)])), (oP 18 (.mv (T 2))), (oP 19 (.eqB false (T 17) (T 18)))])) (.tr (rl [1, 0, 3, 3]) false (.cond (T 19) (.seq (.tr (rl [6]) false (.region false
  [(oP 20 (.mv (T 7))), (oP 6 (.mv (T 20)))])) (.tr (rl [6]) false .ret)) .skip))))))))
def xf146 : XFunc :=
(.mk 21 [(.tmp 6)] (.seq (.tr (rl [0, 0, 0]) false (.region false [(oP 6 (.mv (tI 0)))])) (.seq (.seq (.tr (rl [1, 0, 7]) false (.region false [(oP 9 (.mv (T
  0))), (oW 10 (.rng (T 9)))])) (.tr (rl [6]) false (.block 0 (.loop (rl [1, 0, 7]) xf146_l0)))) (.seq (.region false [(oP 6 (.mv (.lit (.c (.pv (.int .i64
  (-1)))))))]) (.tr (rl [6]) false .ret)))))
theorem xf146_ok : cmpFunc Go.Proofs.Tryd.prog 146 ((.two (.tr (rl [0, 0, 0]) false .no) (.two (.two (.tr (rl [1, 0, 7]) false .no) (.tr (rl [6]) false (.loop (rl [1, 0, 7]) (.two .no (.two (.tr (rl [1, 0, 7, 0]) false (.two .no (.tr [] false .no))) (.tr (rl [1, 0, 3, 3]) false (.two (.tr (rl [1, 0, 4, 0, 1]) false .no) (.two (.tr (rl [1, 0, 4, 2, 8]) false .no) (.tr (rl [1, 0, 3, 3]) false (.two (.two (.tr (rl [6]) false .no) (.tr (rl [6]) false .no)) .no)))))))))) (.two .no (.tr (rl [6]) false .no))))) = some xf146 := by kernel_rfl
end Go.Sx.Tryd
