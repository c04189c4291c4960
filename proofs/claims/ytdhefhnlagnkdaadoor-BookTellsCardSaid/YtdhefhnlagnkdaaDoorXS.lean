/- Functions of the program in the evaluator's form, each checked by the kernel. Printed by genx.py. -/
import Derived.Test.YtdhefhnlagnkdaaDoorSxLem
import Derived.Test.YtdhefhnlagnkdaaDoorProg
import Derived.KernelRfl
namespace Go.Sx.Tryd
open Go Go.Sx
def xf3 : XFunc :=
(.mk 232 [(.tmp 10)] (.seq (.tr (rl [2, 0, 0, 0, 0]) false (.region false [(oW 5 (.box (T 0) 1)), (oW 6 (.box (T 1) 7)), (oP 10 (.mv (.lit (.c (.pv (.bool
  false))))))])) (.seq (.seq (.tr (rl [2, 0, 0, 0, 0, 29]) false (.region false [(oP 28 (.faddr 0 (T 5))), (oR 29 (.load false 1 (T 28))), (oP 30 (.call false
  [] (.lit (.c (.fn 15 []))) [(T 29)])), (oP 31 (.un .not (T 30))), (oP 32 (.mv (T 31))), (.mk (some 33) (.load true 7 (T 6)) (some (32, false)) .r), (.mk (some
  34) (.call false [] (.lit (.c (.fn 16 []))) [(T 33)]) (some (32, false)) .p), (.mk (some 35) (.un .not (T 34)) (some (32, false)) .p), (oP 36 (.pick (T 32)
  (.lit (.c (.pv (.bool true)))) (T 35)))])) (.tr (rl [2, 0, 0, 0, 0, 3]) false (.cond (T 36) (.seq (.tr (rl [10]) false (.region false [(oP 37 (.call false []
  (.lit (.c (.fn 17 []))) [])), (oP 10 (.mv (T 37)))])) (.tr (rl [10]) false .ret)) .skip))) (.seq (.tr (rl [2, 0, 0, 0, 0, 4]) false (.region false [(oR 38
  (.load true 1 (T 5))), (oP 39 (.call false [] (.lit (.c (.fn 18 []))) [(T 38)])), (oP 11 (.mv (T 39)))])) (.seq (.tr (rl [2, 0, 0, 0, 0, 4, 0, 0]) false
  (.region false [(oR 41 (.load true 1 (T 5))), (oR 42 (.load true 7 (T 6))), (oP 43 (.call false [] (.lit (.c (.fn 19 []))) [(T 41), (T 42)])), (oP 40 (.mv (T
  43))), (oP 44 (.extr 0 (T 40))), (oP 45 (.extr 1 (T 40))), (oW 12 (.alloc [(.pv (.sl .nil 0 []))])), (sW (.store 1 (T 12) (T 44))), (oP 13 (.mv (T 45)))]))
  (.seq (.tr (rl [2, 0, 0, 0, 0, 4, 0, 0, 0, 0]) false (.region false [(oR 47 (.load true 1 (T 5))), (oP 48 (.mv (T 2))), (oP 49 (.call false [] (.lit (.c (.fn
  20 []))) [(T 47), (T 48)])), (oP 46 (.mv (T 49))), (oP 50 (.extr 0 (T 46))), (oP 51 (.extr 1 (T 46))), (oW 14 (.alloc [(.pv (.sl .nil 0 []))])), (sW (.store 1
  (T 14) (T 50))), (oP 15 (.mv (T 51)))])) (.seq (.tr (rl [2, 0, 0, 0, 0, 4, 0, 0, 0, 0, 0, 0]) false (.region false [(oR 53 (.load true 1 (T 5))), (oP 54 (.mv
  (T 2))), (oP 55 (.mv (T 3))), (oP 56 (.call false [] (.lit (.c (.fn 21 []))) [(T 53), (T 54), (T 55)])), (oP 52 (.mv (T 56))), (oP 57 (.extr 0 (T 52))), (oP
  58 (.extr 1 (T 52))), (oP 16 (.mv (T 57))), (oP 17 (.mv (T 58)))])) (.seq (.tr (rl [2, 0, 0, 0, 0, 4, 0, 0, 0, 0, 0, 0, 0, 0]) false (.region false [(oR 60
  (.load true 1 (T 5))), (oP 61 (.call false [] (.lit (.c (.fn 22 []))) [(T 60)])), (oP 59 (.mv (T 61))), (oP 62 (.extr 0 (T 59))), (oP 63 (.extr 1 (T 59))),
  (oP 18 (.mv (T 62))), (oP 19 (.mv (T 63)))])) (.seq (.tr (rl [2, 0, 0, 0, 0, 4, 0, 0, 0, 0, 0, 0, 0, 0, 0, 0]) false (.region false [(oR 65 (.load true 1 (T
  5))), (oP 66 (.mv (T 4))), (oP 67 (.call false [] (.lit (.c (.fn 23 []))) [(T 65), (T 66)])), (oP 64 (.mv (T 67))), (oP 68 (.extr 0 (T 64))), (oP 69 (.extr 1
  (T 64))), (oP 20 (.mv (T 68))), (oP 21 (.mv (T 69)))])) (.seq (.tr (rl [2, 0, 0, 0, 0, 4, 0, 0, 0, 0, 0, 0, 0, 0, 0, 0, 0, 0]) false (.region false [(oR 71
  (.load true 1 (T 5))), (oP 72 (.call false [] (.lit (.c (.fn 24 []))) [(T 71)])), (oP 70 (.mv (T 72))), (oP 73 (.extr 0 (T 70))), (oP 74 (.extr 1 (T 70))),
  (oP 22 (.mv (T 73))), (oP 23 (.mv (T 74)))])) (.seq (.seq (.tr (rl [2, 0, 0, 0, 0, 4, 0, 0, 0, 0, 0, 0, 0, 0, 0, 0, 0, 0, 58]) false (.region false [(oP 75
  (.call false [] (.lit (.c (.fn 17 []))) [])), (oP 76 (.un .not (T 75))), (oP 77 (.mv (T 76))), (.mk (some 78) (.load true 1 (T 5)) (some (77, false)) .r),
  (.mk (some 79) (.call false [] (.lit (.c (.fn 25 []))) [(T 78)]) (some (77, false)) .p), (.mk (some 80) (.mv (T 11)) (some (77, false)) .p), (.mk (some 81)
  (.eqB true (T 79) (T 80)) (some (77, false)) .p), (oP 82 (.pick (T 77) (.lit (.c (.pv (.bool true)))) (T 81)))])) (.tr (rl [2, 0, 0, 0, 0, 3, 0, 0, 0, 0, 0,
  0, 0, 0, 0, 0, 0, 0, 0]) false (.cond (T 82) (.seq (.region false [(oP 10 (.mv (.lit (.c (.pv (.bool false))))))]) (.tr (rl [10]) false .ret)) .skip))) (.seq
  (.seq (.tr (rl [2, 0, 0, 0, 0, 5, 0, 0, 0, 0, 0, 0, 0, 0, 0, 0, 0, 60]) false (.region false [(oP 83 (.mv (T 11))), (oP 84 (.un .not (T 83)))])) (.tr (rl [2,
  0, 0, 0, 0, 3, 1, 0, 0, 0, 0, 0, 0, 0, 0, 0, 0, 0]) false (.cond (T 84) (.seq (.tr (rl [10]) false (.region false [(oP 85 (.mv (T 13))), (oP 86 (.bin .eql (T
  85) (tI 1))), (oP 87 (.mv (T 86))), (.mk (some 88) (.mv (T 15)) (some (87, true)) .p), (.mk (some 89) (.mv (T 13)) (some (87, true)) .p), (.mk (some 90) (.bin
  .eql (T 88) (T 89)) (some (87, true)) .p), (oP 91 (.pick (T 87) (T 90) (.lit (.c (.pv (.bool false)))))), (oP 92 (.mv (T 91))), (.mk (some 93) (.mv (T 17))
  (some (92, true)) .p), (.mk (some 94) (.mv (T 13)) (some (92, true)) .p), (.mk (some 95) (.bin .eql (T 93) (T 94)) (some (92, true)) .p), (oP 96 (.pick (T 92)
  (T 95) (.lit (.c (.pv (.bool false)))))), (oP 97 (.mv (T 96))), (.mk (some 98) (.mv (T 19)) (some (97, true)) .p), (.mk (some 99) (.mv (T 13)) (some (97,
  true)) .p), (.mk (some 100) (.bin .eql (T 98) (T 99)) (some (97, true)) .p), (oP 101 (.pick (T 97) (T 100) (.lit (.c (.pv (.bool false)))))), (oP 102 (.mv (T
  101))), (.mk (some 103) (.mv (T 23)) (some (102, true)) .p), (.mk (some 104) (.mv (T 13)) (some (102, true)) .p), (.mk (some 105) (.bin .eql (T 103) (T 104))
  (some (102, true)) .p), (oP 106 (.pick (T 102) (T 105) (.lit (.c (.pv (.bool false)))))), (oP 107 (.mv (T 106))), (.mk (some 108) (.mv (T 21)) (some (107,
  true)) .p), (.mk (some 109) (.un .not (T 108)) (some (107, true)) .p), (oP 110 (.pick (T 107) (T 109) (.lit (.c (.pv (.bool false)))))), (oP 111 (.mv (T
  110))), (.mk (some 112) (.mv (T 20)) (some (111, true)) .p), (.mk (some 113) (.bin .eql (T 112) (.lit (.c (.pv (.int .i32 0))))) (some (111, true)) .p), (oP
  114 (.pick (T 111) (T 113) (.lit (.c (.pv (.bool false)))))), (oP 115 (.mv (T 114))), (.mk (some 116) (.faddr 0 (T 12)) (some (115, true)) .p), (.mk (some
  117) (.load false 1 (T 116)) (some (115, true)) .r), (.mk (some 118) (.len (T 117)) (some (115, true)) .p), (.mk (some 119) (.faddr 0 (T 14)) (some (115,
  true)) .p), (.mk (some 120) (.load false 1 (T 119)) (some (115, true)) .r), (.mk (some 121) (.len (T 120)) (some (115, true)) .p), (.mk (some 122) (.bin .add
  (T 118) (T 121)) (some (115, true)) .p), (.mk (some 123) (.mv (T 16)) (some (115, true)) .p), (.mk (some 124) (.len (T 123)) (some (115, true)) .p), (.mk
  (some 125) (.bin .add (T 122) (T 124)) (some (115, true)) .p), (.mk (some 126) (.mv (T 18)) (some (115, true)) .p), (.mk (some 127) (.len (T 126)) (some (115,
  true)) .p), (.mk (some 128) (.bin .add (T 125) (T 127)) (some (115, true)) .p), (.mk (some 129) (.mv (T 22)) (some (115, true)) .p), (.mk (some 130) (.len (T
  129)) (some (115, true)) .p), (.mk (some 131) (.bin .add (T 128) (T 130)) (some (115, true)) .p), (.mk (some 132) (.bin .eql (T 131) (tI 0)) (some (115,
  true)) .p), (oP 133 (.pick (T 115) (T 132) (.lit (.c (.pv (.bool false)))))), (oP 10 (.mv (T 133)))])) (.tr (rl [10]) false .ret)) .skip))) (.seq (.tr (rl [2,
  0, 0, 0, 0, 5, 0, 0, 0, 0, 0, 0, 0, 0, 0, 0, 0, 0]) false (.region false [(oP 134 (.faddr 0 (T 5))), (oR 135 (.load false 1 (T 134))), (oR 136 (.load true 7
  (T 6))), (oP 137 (.call false [] (.lit (.c (.fn 26 []))) [(T 135), (T 136)])), (oP 24 (.mv (T 137)))])) (.seq (.tr (rl [2, 0, 0, 0, 6, 0, 0, 0, 0, 0, 0, 0, 0,
  0, 0, 0, 0, 0]) false (.region true [(oP 138 (.buildSl [(.pv (.int .i64 0)), (.pv (.int .i32 0)), (.pv (.int .i32 0)), (.pv (.sl .nil 0 [])), (.pv (.int .i64
  0)), (.pv (.int .i64 0)), (.pv (.str []))] 0 7 [])), (oP 139 (.faddr 0 (T 5))), (oR 140 (.load false 1 (T 139))), (oR 142 (.load true 7 (T 6))), (oP 143
  (.buildSl [(.pv (.int .i64 0)), (.pv (.int .i32 0)), (.pv (.int .i32 0)), (.pv (.sl .nil 0 [])), (.pv (.int .i64 0)), (.pv (.int .i64 0)), (.pv (.str []))] 1
  7 [(0, (7, (T 142)))])), (oW 141 (.app 7 72 (T 138) (T 140))), (oW 144 (.app 7 72 (T 141) (T 143))), (oP 25 (.mv (T 144)))])) (.seq (.seq (.tr (rl [2, 0, 0,
  0, 8, 0, 0, 0, 0, 0, 0, 0, 0, 0, 144]) false (.region false [(oP 145 (.mv (T 13))), (oP 146 (.mv (T 24))), (oP 147 (.bin .neq (T 145) (T 146))), (oP 148 (.mv
  (T 147))), (.mk (some 149) (.mv (T 24)) (some (148, false)) .p), (.mk (some 150) (.bin .eql (T 149) (tI 0)) (some (148, false)) .p), (.mk (some 151) (.mv (T
  150)) (some (148, false)) .p), (.mk (some 152) (.faddr 0 (T 12)) (some (151, true)) .p), (.mk (some 153) (.load false 1 (T 152)) (some (151, true)) .r), (.mk
  (some 154) (.mv (T 25)) (some (151, true)) .p), (.mk (some 155) (.call false [] (.lit (.c (.fn 27 []))) [(T 153), (T 154)]) (some (151, true)) .p), (.mk (some
  156) (.un .not (T 155)) (some (151, true)) .p), (.mk (some 157) (.pick (T 151) (T 156) (.lit (.c (.pv (.bool false))))) (some (148, false)) .p), (oP 158
  (.pick (T 148) (.lit (.c (.pv (.bool true)))) (T 157))), (oP 159 (.mv (T 158))), (.mk (some 160) (.mv (T 24)) (some (159, false)) .p), (.mk (some 161) (.bin
  .neq (T 160) (tI 0)) (some (159, false)) .p), (.mk (some 162) (.mv (T 161)) (some (159, false)) .p), (.mk (some 163) (.faddr 0 (T 12)) (some (162, true)) .p),
  (.mk (some 164) (.load false 1 (T 163)) (some (162, true)) .r), (.mk (some 165) (.len (T 164)) (some (162, true)) .p), (.mk (some 166) (.bin .gtr (T 165) (tI
  0)) (some (162, true)) .p), (.mk (some 167) (.pick (T 162) (T 166) (.lit (.c (.pv (.bool false))))) (some (159, false)) .p), (oP 168 (.pick (T 159) (.lit (.c
  (.pv (.bool true)))) (T 167)))])) (.tr (rl [2, 0, 0, 0, 4, 3, 0, 0, 0, 0, 0, 0, 0, 0, 0]) false (.cond (T 168) (.seq (.region false [(oP 10 (.mv (.lit (.c
  (.pv (.bool false))))))]) (.tr (rl [10]) false .ret)) .skip))) (.seq (.tr (rl [2, 0, 1, 8, 0, 0, 0, 0, 0, 0, 0, 0, 0, 2, 0]) false (.region false [(oP 170
  (.faddr 0 (T 5))), (oR 171 (.load false 1 (T 170))), (oP 172 (.mv (T 4))), (oP 173 (.call false [] (.lit (.c (.fn 28 []))) [(T 171), (T 172)])), (oP 169 (.mv
  (T 173))), (oP 174 (.extr 0 (T 169))), (oP 175 (.extr 1 (T 169))), (oP 26 (.mv (T 174))), (oP 27 (.mv (T 175)))])) (.seq (.tr (rl [10]) false (.region true
  [(oP 176 (.mv (T 15))), (oP 177 (.bin .eql (T 176) (tI 0))), (oP 178 (.mv (T 177))), (.mk (some 179) (.mv (T 17)) (some (178, true)) .p), (.mk (some 180)
  (.bin .eql (T 179) (tI 0)) (some (178, true)) .p), (oP 181 (.pick (T 178) (T 180) (.lit (.c (.pv (.bool false)))))), (oP 182 (.mv (T 181))), (.mk (some 183)
  (.mv (T 19)) (some (182, true)) .p), (.mk (some 184) (.bin .eql (T 183) (tI 0)) (some (182, true)) .p), (oP 185 (.pick (T 182) (T 184) (.lit (.c (.pv (.bool
  false)))))), (oP 186 (.mv (T 185))), (.mk (some 187) (.mv (T 23)) (some (186, true)) .p), (.mk (some 188) (.bin .eql (T 187) (tI 0)) (some (186, true)) .p),
  (oP 189 (.pick (T 186) (T 188) (.lit (.c (.pv (.bool false)))))), (oP 190 (.mv (T 189))), (.mk (some 191) (.faddr 0 (T 14)) (some (190, true)) .p), (.mk (some
  192) (.load false 1 (T 191)) (some (190, true)) .r), (.mk (some 193) (.faddr 0 (T 5)) (some (190, true)) .p), (.mk (some 194) (.load false 1 (T 193)) (some
  (190, true)) .r), (.mk (some 195) (.mv (T 2)) (some (190, true)) .p), (.mk (some 196) (.call false [] (.lit (.c (.fn 29 []))) [(T 194), (T 195), (.lit (.c
  (.pv (.int .i32 50000))))]) (some (190, true)) .p), (.mk (some 197) (.call false [] (.lit (.c (.fn 27 []))) [(T 192), (T 196)]) (some (190, true)) .p), (oP
  198 (.pick (T 190) (T 197) (.lit (.c (.pv (.bool false)))))), (oP 199 (.mv (T 198))), (.mk (some 200) (.mv (T 16)) (some (199, true)) .p), (.mk (some 201)
  (.faddr 0 (T 5)) (some (199, true)) .p), (.mk (some 202) (.load false 1 (T 201)) (some (199, true)) .r), (.mk (some 203) (.mv (T 2)) (some (199, true)) .p),
  (.mk (some 204) (.mv (T 3)) (some (199, true)) .p), (.mk (some 205) (.call false [] (.lit (.c (.fn 29 []))) [(T 202), (T 203), (T 204)]) (some (199, true))
  .p), (.mk (some 206) (.call false [] (.lit (.c (.fn 27 []))) [(T 200), (T 205)]) (some (199, true)) .p), (oP 207 (.pick (T 199) (T 206) (.lit (.c (.pv (.bool
  false)))))), (oP 208 (.mv (T 207))), (.mk (some 209) (.mv (T 18)) (some (208, true)) .p), (.mk (some 210) (.faddr 0 (T 5)) (some (208, true)) .p), (.mk (some
  211) (.load false 1 (T 210)) (some (208, true)) .r), (.mk (some 212) (.call false [] (.lit (.c (.fn 30 []))) [(T 211)]) (some (208, true)) .p), (.mk (some
  213) (.call false [] (.lit (.c (.fn 27 []))) [(T 209), (T 212)]) (some (208, true)) .p), (oP 214 (.pick (T 208) (T 213) (.lit (.c (.pv (.bool false)))))), (oP
  215 (.mv (T 214))), (.mk (some 216) (.mv (T 20)) (some (215, true)) .p), (.mk (some 217) (.mv (T 26)) (some (215, true)) .p), (.mk (some 218) (.bin .eql (T
  216) (T 217)) (some (215, true)) .p), (oP 219 (.pick (T 215) (T 218) (.lit (.c (.pv (.bool false)))))), (oP 220 (.mv (T 219))), (.mk (some 221) (.mv (T 21))
  (some (220, true)) .p), (.mk (some 222) (.mv (T 27)) (some (220, true)) .p), (.mk (some 223) (.eqB false (T 221) (T 222)) (some (220, true)) .p), (oP 224
  (.pick (T 220) (T 223) (.lit (.c (.pv (.bool false)))))), (oP 225 (.mv (T 224))), (.mk (some 226) (.mv (T 22)) (some (225, true)) .p), (.mk (some 227) (.faddr
  0 (T 5)) (some (225, true)) .p), (.mk (some 228) (.load false 1 (T 227)) (some (225, true)) .r), (.mk (some 229) (.call false [] (.lit (.c (.fn 32 []))) [(T
  228)]) (some (225, true)) .p), (.mk (some 230) (.call false [] (.lit (.c (.fn 31 []))) [(T 226), (T 229)]) (some (225, true)) .p), (oP 231 (.pick (T 225) (T
  230) (.lit (.c (.pv (.bool false)))))), (oP 10 (.mv (T 231)))])) (.tr (rl [10]) false .ret))))))))))))))))))
theorem xf3_ok : cmpFunc Go.Proofs.Tryd.prog 3 ((.two (.tr (rl [2, 0, 0, 0, 0]) false .no) (.two (.two (.tr (rl [2, 0, 0, 0, 0, 29]) false (.ops [{}, {}, { cls := some .p }, {}, {}, {}, { cls := some .p }])) (.tr (rl [2, 0, 0, 0, 0, 3]) false (.two (.two (.tr (rl [10]) false (.ops [{ cls := some .p }])) (.tr (rl [10]) false .no)) .no))) (.two (.tr (rl [2, 0, 0, 0, 0, 4]) false (.ops [{}, { cls := some .p }])) (.two (.tr (rl [2, 0, 0, 0, 0, 4, 0, 0]) false (.ops [{}, {}, { cls := some .p }])) (.two (.tr (rl [2, 0, 0, 0, 0, 4, 0, 0, 0, 0]) false (.ops [{}, {}, { cls := some .p }])) (.two (.tr (rl [2, 0, 0, 0, 0, 4, 0, 0, 0, 0, 0, 0]) false (.ops [{}, {}, {}, { cls := some .p }])) (.two (.tr (rl [2, 0, 0, 0, 0, 4, 0, 0, 0, 0, 0, 0, 0, 0]) false (.ops [{}, { cls := some .p }])) (.two (.tr (rl [2, 0, 0, 0, 0, 4, 0, 0, 0, 0, 0, 0, 0, 0, 0, 0]) false (.ops [{}, {}, { cls := some .p }])) (.two (.tr (rl [2, 0, 0, 0, 0, 4, 0, 0, 0, 0, 0, 0, 0, 0, 0, 0, 0, 0]) false (.ops [{}, { cls := some .p }])) (.two (.two (.tr (rl [2, 0, 0, 0, 0, 4, 0, 0, 0, 0, 0, 0, 0, 0, 0, 0, 0, 0, 58]) false (.ops [{ cls := some .p }, {}, {}, {}, { cls := some .p }])) (.tr (rl [2, 0, 0, 0, 0, 3, 0, 0, 0, 0, 0, 0, 0, 0, 0, 0, 0, 0, 0]) false (.two (.two .no (.tr (rl [10]) false .no)) .no))) (.two (.two (.tr (rl [2, 0, 0, 0, 0, 5, 0, 0, 0, 0, 0, 0, 0, 0, 0, 0, 0, 60]) false .no) (.tr (rl [2, 0, 0, 0, 0, 3, 1, 0, 0, 0, 0, 0, 0, 0, 0, 0, 0, 0]) false (.two (.two (.tr (rl [10]) false .no) (.tr (rl [10]) false .no)) .no))) (.two (.tr (rl [2, 0, 0, 0, 0, 5, 0, 0, 0, 0, 0, 0, 0, 0, 0, 0, 0, 0]) false (.ops [{}, {}, {}, { cls := some .p }])) (.two (.tr (rl [2, 0, 0, 0, 6, 0, 0, 0, 0, 0, 0, 0, 0, 0, 0, 0, 0, 0]) false (.draw [0, 1, 2, 4, 5, 3, 6, 7] [])) (.two (.two (.tr (rl [2, 0, 0, 0, 8, 0, 0, 0, 0, 0, 0, 0, 0, 0, 144]) false (.ops [{}, {}, {}, {}, {}, {}, {}, {}, {}, {}, { cls := some .p }])) (.tr (rl [2, 0, 0, 0, 4, 3, 0, 0, 0, 0, 0, 0, 0, 0, 0]) false (.two (.two .no (.tr (rl [10]) false .no)) .no))) (.two (.tr (rl [2, 0, 1, 8, 0, 0, 0, 0, 0, 0, 0, 0, 0, 2, 0]) false (.ops [{}, {}, {}, { cls := some .p }])) (.two (.tr (rl [10]) false (.draw [0, 1, 2, 3, 4, 5, 6, 7, 8, 9, 10, 11, 12, 13, 14, 15, 16, 17, 18, 19, 20, 21, 22, 23, 24, 25, 26, 27, 28, 29, 30, 31, 32, 33, 34, 35, 36, 37, 38, 39, 40, 41, 42, 43, 44, 45, 46, 47, 48, 49, 50, 51, 52, 53, 54, 55, 56] [{}, {}, {}, {}, {}, {}, {}, {}, {}, {}, {}, {}, {}, {}, {}, {}, {}, {}, {}, {}, { cls := some .p }, { cls := some .p }, {}, {}, {}, {}, {}, {}, {}, { cls := some .p }, { cls := some .p }, {}, {}, {}, {}, {}, { cls := some .p }, { cls := some .p }, {}, {}, {}, {}, {}, {}, {}, {}, {}, {}, {}, {}, {}, {}, {}, { cls := some .p }, { cls := some .p }])) (.tr (rl [10]) false .no)))))))))))))))))) = some xf3 := by kernel_rfl
def xf15_l0 : XCode :=
(.seq (.region false [(oP 11 (.bin .lss (T 10) (T 9)))]) (.seq (.tr (rl [8, 0, 0]) false (.cond (T 11) .skip (.tr [] false (.exit 0)))) (.seq (.tr (rl [2, 5, 0,
  0]) false (.block 1 (.seq (.tr (rl [4, 3, 0, 0]) false (.region false [(oP 12 (.iaddrS 7 (T 8) (T 10))), (oR 13 (.load true 7 (T 12))), (oW 4 (.alloc [(.pv
  (.int .i64 0)), (.pv (.int .i32 0)), (.pv (.int .i32 0)), (.pv (.sl .nil 0 [])), (.pv (.int .i64 0)), (.pv (.int .i64 0)), (.pv (.str []))])), (sW (.store 7
  (T 4) (T 13)))])) (.seq (.tr (rl [8, 0, 0, 5]) false (.region false [(oR 14 (.load true 7 (T 4))), (oP 15 (.call false [] (.lit (.c (.fn 16 []))) [(T 14)])),
  (oP 16 (.un .not (T 15)))])) (.tr (rl [2, 5, 0, 0]) false (.cond (T 16) (.seq (.region false [(oP 2 (.mv (.lit (.c (.pv (.bool false))))))]) (.tr (rl [2])
  false .ret)) .skip)))))) (.tr (rl [8, 0, 0]) false (.region false [(oP 17 (.bin .add (T 10) (tI 1))), (oP 10 (.mv (T 17)))])))))
def xf15 : XFunc :=
(.mk 18 [(.tmp 2)] (.seq (.tr (rl [0]) false (.region false [(oP 2 (.mv (.lit (.c (.pv (.bool false))))))])) (.seq (.seq (.tr (rl [0, 6]) false (.region false
  [(oP 5 (.mv (T 0))), (oP 6 (.len (T 5))), (oP 7 (.bin .gtr (T 6) (tI 60)))])) (.tr (rl [0, 1]) false (.cond (T 7) (.seq (.region false [(oP 2 (.mv (.lit (.c
  (.pv (.bool false))))))]) (.tr (rl [2]) false .ret)) .skip))) (.seq (.seq (.tr (rl [8, 0, 0]) false (.region false [(oP 8 (.mv (T 0))), (oP 9 (.len (T 8))),
  (oP 10 (.mv (tI 0)))])) (.tr (rl [2]) false (.block 0 (.loop (rl [8, 0, 0]) xf15_l0)))) (.seq (.region false [(oP 2 (.mv (.lit (.c (.pv (.bool true))))))])
  (.tr (rl [2]) false .ret))))))
theorem xf15_ok : cmpFunc Go.Proofs.Tryd.prog 15 ((.two (.tr (rl [0]) false .no) (.two (.two (.tr (rl [0, 6]) false .no) (.tr (rl [0, 1]) false (.two (.two .no (.tr (rl [2]) false .no)) .no))) (.two (.two (.tr (rl [8, 0, 0]) false .no) (.tr (rl [2]) false (.loop (rl [8, 0, 0]) (.two .no (.two (.tr (rl [8, 0, 0]) false (.two .no (.tr [] false .no))) (.two (.tr (rl [2, 5, 0, 0]) false (.two (.tr (rl [4, 3, 0, 0]) false .no) (.two (.tr (rl [8, 0, 0, 5]) false (.ops [{}, { cls := some .p }])) (.tr (rl [2, 5, 0, 0]) false (.two (.two .no (.tr (rl [2]) false .no)) .no))))) (.tr (rl [8, 0, 0]) false .no))))))) (.two .no (.tr (rl [2]) false .no)))))) = some xf15 := by kernel_rfl
def xf16 : XFunc :=
(.mk 13 [(.tmp 2)] (.seq (.tr (rl [1]) false (.region false [(oW 1 (.box (T 0) 7)), (oP 2 (.mv (.lit (.c (.pv (.bool false))))))])) (.seq (.tr (rl [2]) false
  (.region false [(oP 3 (.faddr 3 (T 1))), (oR 4 (.load false 1 (T 3))), (oP 5 (.len (T 4))), (oP 6 (.bin .leq (T 5) (tI 40))), (oP 7 (.mv (T 6))), (.mk (some
  8) (.faddr 6 (T 1)) (some (7, true)) .p), (.mk (some 9) (.load false 1 (T 8)) (some (7, true)) .r), (.mk (some 10) (.lenS (T 9)) (some (7, true)) .p), (.mk
  (some 11) (.bin .leq (T 10) (tI 400)) (some (7, true)) .p), (oP 12 (.pick (T 7) (T 11) (.lit (.c (.pv (.bool false)))))), (oP 2 (.mv (T 12)))])) (.tr (rl [2])
  false .ret))))
theorem xf16_ok : cmpFunc Go.Proofs.Tryd.prog 16 ((.two (.tr (rl [1]) false .no) (.two (.tr (rl [2]) false .no) (.tr (rl [2]) false .no)))) = some xf16 := by kernel_rfl
def xf17 : XFunc :=
(.mk 206 [(.tmp 0)] (.seq (.tr [] false (.region false [(oP 0 (.mv (.lit (.c (.pv (.bool false))))))])) (.seq (.tr (rl [1, 0]) false (.region false [(oP 30
  (.build [(.pv (.sl .nil 0 []))] [])), (oP 31 (.call false [] (.lit (.c (.fn 58 []))) [(tI 1), (.lit (.c (.pv (.int .i32 5)))), (.lit (.c (.pv (.int .i32
  3)))), (tI 100)])), (oP 32 (.call false [] (.lit (.c (.fn 19 []))) [(T 30), (T 31)])), (oP 29 (.mv (T 32))), (oP 33 (.extr 0 (T 29))), (oP 34 (.extr 1 (T
  29))), (oW 1 (.alloc [(.pv (.sl .nil 0 []))])), (sW (.store 1 (T 1) (T 33))), (oP 2 (.mv (T 34)))])) (.seq (.tr (rl [2, 0, 0]) false (.region true [(oR 36
  (.load true 1 (T 1))), (oP 37 (.call false [] (.lit (.c (.fn 58 []))) [(tI 2), (.lit (.c (.pv (.int .i32 9)))), (.lit (.c (.pv (.int .i32 4)))), (tI 7)])),
  (oP 38 (.call false [] (.lit (.c (.fn 19 []))) [(T 36), (T 37)])), (oP 35 (.mv (T 38))), (oP 39 (.extr 0 (T 35))), (oP 40 (.extr 1 (T 35))), (oW 3 (.alloc
  [(.pv (.sl .nil 0 []))])), (sW (.store 1 (T 3) (T 39))), (oP 4 (.mv (T 40)))])) (.seq (.tr (rl [2, 0, 0, 1]) false (.region true [(oR 42 (.load true 1 (T
  3))), (oP 43 (.call false [] (.lit (.c (.fn 58 []))) [(tI 2), (.lit (.c (.pv (.int .i32 9)))), (.lit (.c (.pv (.int .i32 4)))), (tI 7)])), (oP 44 (.call false
  [] (.lit (.c (.fn 19 []))) [(T 42), (T 43)])), (oP 41 (.mv (T 44))), (oP 45 (.extr 0 (T 41))), (oP 46 (.extr 1 (T 41))), (oW 5 (.alloc [(.pv (.sl .nil 0
  []))])), (sW (.store 1 (T 5) (T 45))), (oP 6 (.mv (T 46)))])) (.seq (.tr (rl [2, 0, 0, 1, 1]) false (.region true [(oR 48 (.load true 1 (T 3))), (oP 49 (.call
  false [] (.lit (.c (.fn 58 []))) [(tI 3), (.lit (.c (.pv (.int .i32 8)))), (.lit (.c (.pv (.int .i32 4)))), (tI 7)])), (oP 50 (.call false [] (.lit (.c (.fn
  19 []))) [(T 48), (T 49)])), (oP 47 (.mv (T 50))), (oP 51 (.extr 0 (T 47))), (oP 52 (.extr 1 (T 47))), (oW 7 (.alloc [(.pv (.sl .nil 0 []))])), (sW (.store 1
  (T 7) (T 51))), (oP 8 (.mv (T 52)))])) (.seq (.tr (rl [2, 0, 0, 1, 1, 0]) false (.region false [(oP 54 (.call false [] (.lit (.c (.fn 58 []))) [(tI 1), (.lit
  (.c (.pv (.int .i32 5)))), (.lit (.c (.pv (.int .i32 3)))), (tI 100)])), (oP 55 (.call false [] (.lit (.c (.fn 38 []))) [(T 54), (tI 3), (.lit (.c (.pv (.int
  .i32 10))))])), (oP 53 (.mv (T 55))), (oP 56 (.extr 0 (T 53))), (oP 57 (.extr 1 (T 53))), (oW 9 (.alloc [(.pv (.int .i64 0)), (.pv (.int .i32 0)), (.pv (.int
  .i32 0)), (.pv (.sl .nil 0 [])), (.pv (.int .i64 0)), (.pv (.int .i64 0)), (.pv (.str []))])), (sW (.store 7 (T 9) (T 56))), (oP 10 (.mv (T 57)))])) (.seq
  (.tr (rl [2, 0, 0, 1, 1, 0, 1, 0]) false (.region false [(oR 59 (.load true 1 (T 3))), (oR 60 (.load true 7 (T 9))), (oP 61 (.call false [] (.lit (.c (.fn 19
  []))) [(T 59), (T 60)])), (oP 58 (.mv (T 61))), (oP 62 (.extr 0 (T 58))), (oP 63 (.extr 1 (T 58))), (oW 11 (.alloc [(.pv (.sl .nil 0 []))])), (sW (.store 1 (T
  11) (T 62))), (oP 12 (.mv (T 63)))])) (.seq (.tr (rl [2, 0, 0, 1, 1, 0, 1, 0]) false (.region false [(oP 64 (.faddr 0 (T 9))), (sW (.store 1 (T 64) (tI
  4)))])) (.seq (.tr (rl [2, 0, 0, 1, 1, 2, 0, 1]) false (.region false [(oR 66 (.load true 1 (T 11))), (oR 67 (.load true 7 (T 9))), (oP 68 (.call false []
  (.lit (.c (.fn 19 []))) [(T 66), (T 67)])), (oP 65 (.mv (T 68))), (oP 69 (.extr 0 (T 65))), (oP 70 (.extr 1 (T 65))), (oW 13 (.alloc [(.pv (.sl .nil 0
  []))])), (sW (.store 1 (T 13) (T 69))), (oP 14 (.mv (T 70)))])) (.seq (.tr (rl [2, 0, 0, 1, 1, 2, 0, 1, 0, 0]) false (.region false [(oR 72 (.load true 1 (T
  3))), (oP 73 (.call false [] (.lit (.c (.fn 20 []))) [(T 72), (.lit (.c (.pv (.int .i32 5))))])), (oP 71 (.mv (T 73))), (oP 74 (.extr 0 (T 71))), (oP 75
  (.extr 1 (T 71))), (oW 15 (.alloc [(.pv (.sl .nil 0 []))])), (sW (.store 1 (T 15) (T 74))), (oP 16 (.mv (T 75)))])) (.seq (.tr (rl [2, 0, 0, 1, 1, 2, 0, 1, 0,
  0, 0, 0]) false (.region false [(oR 77 (.load true 1 (T 3))), (oP 78 (.call false [] (.lit (.c (.fn 21 []))) [(T 77), (.lit (.c (.pv (.int .i32 9)))), (.lit
  (.c (.pv (.int .i32 3))))])), (oP 76 (.mv (T 78))), (oP 79 (.extr 0 (T 76))), (oP 80 (.extr 1 (T 76))), (oP 17 (.mv (T 79))), (oP 18 (.mv (T 80)))])) (.seq
  (.tr (rl [2, 0, 0, 1, 1, 2, 0, 1, 0, 0, 0, 0, 0, 0]) false (.region false [(oR 82 (.load true 1 (T 11))), (oP 83 (.call false [] (.lit (.c (.fn 24 []))) [(T
  82)])), (oP 81 (.mv (T 83))), (oP 84 (.extr 0 (T 81))), (oP 85 (.extr 1 (T 81))), (oP 19 (.mv (T 84))), (oP 20 (.mv (T 85)))])) (.seq (.tr (rl [2, 0, 0, 1, 1,
  2, 0, 1, 0, 0, 0, 0, 0, 0, 0, 0]) false (.region false [(oP 87 (.faddr 0 (T 11))), (oR 88 (.load false 1 (T 87))), (oP 89 (.call false [] (.lit (.c (.fn 33
  []))) [(T 88), (tI 2), (tI 0), (.lit (.c (.pv (.int .i32 9))))])), (oP 86 (.mv (T 89))), (oP 90 (.extr 0 (T 86))), (oP 91 (.extr 1 (T 86))), (oP 21 (.mv (T
  90))), (oP 22 (.mv (T 91)))])) (.seq (.tr (rl [2, 1, 1, 1, 2, 0, 1, 0, 0, 0, 0, 0, 0, 0, 0, 0, 0]) false (.region false [(oP 93 (.faddr 0 (T 3))), (oR 94
  (.load false 1 (T 93))), (oP 95 (.call false [] (.lit (.c (.fn 33 []))) [(T 94), (tI 2), (tI 0), (.lit (.c (.pv (.int .i32 3))))])), (oP 92 (.mv (T 95))), (oP
  96 (.extr 0 (T 92))), (oP 97 (.extr 1 (T 92))), (oP 23 (.mv (T 96))), (oP 24 (.mv (T 97)))])) (.seq (.tr (rl [2, 1, 1, 1, 2, 0, 1, 0, 0, 0, 0, 0, 0, 0, 0, 0,
  0, 0, 0]) false (.region false [(oR 99 (.load true 1 (T 11))), (oP 100 (.call false [] (.lit (.c (.fn 23 []))) [(T 99), (tI 1)])), (oP 98 (.mv (T 100))), (oP
  101 (.extr 0 (T 98))), (oP 102 (.extr 1 (T 98))), (oP 25 (.mv (T 101))), (oP 26 (.mv (T 102)))])) (.seq (.tr (rl [2, 1, 1, 1, 2, 0, 1, 0, 0, 0, 0, 0, 0, 0, 0,
  0, 0, 0, 0, 0, 0]) false (.region false [(oR 104 (.load true 1 (T 11))), (oP 105 (.call false [] (.lit (.c (.fn 22 []))) [(T 104)])), (oP 103 (.mv (T 105))),
  (oP 106 (.extr 0 (T 103))), (oP 107 (.extr 1 (T 103))), (oP 27 (.mv (T 106))), (oP 28 (.mv (T 107)))])) (.seq (.seq (.tr (rl [2, 1, 1, 1, 2, 0, 1, 0, 0, 0, 0,
  0, 0, 0, 0, 0, 0, 0, 0, 0, 0, 82]) false (.region false [(oP 108 (.faddr 0 (T 11))), (oR 109 (.load false 1 (T 108))), (oP 110 (.len (T 109))), (oP 111 (.bin
  .neq (T 110) (tI 3)))])) (.tr (rl [0, 1, 1, 1, 1, 2, 0, 1, 0, 0, 0, 0, 0, 0, 0, 0, 0, 0, 0, 0, 0, 0]) false (.cond (T 111) (.seq (.region false [(oP 0 (.mv
  (.lit (.c (.pv (.bool false))))))]) (.tr (rl [0]) false .ret)) .skip))) (.seq (.tr (rl [0]) false (.region false [(oP 112 (.mv (T 2))), (oP 113 (.bin .eql (T
  112) (tI 0))), (oP 114 (.mv (T 113))), (.mk (some 115) (.mv (T 4)) (some (114, true)) .p), (.mk (some 116) (.bin .eql (T 115) (tI 0)) (some (114, true)) .p),
  (oP 117 (.pick (T 114) (T 116) (.lit (.c (.pv (.bool false)))))), (oP 118 (.mv (T 117))), (.mk (some 119) (.mv (T 6)) (some (118, true)) .p), (.mk (some 120)
  (.bin .eql (T 119) (tI 25)) (some (118, true)) .p), (oP 121 (.pick (T 118) (T 120) (.lit (.c (.pv (.bool false)))))), (oP 122 (.mv (T 121))), (.mk (some 123)
  (.mv (T 8)) (some (122, true)) .p), (.mk (some 124) (.bin .eql (T 123) (tI 20)) (some (122, true)) .p), (oP 125 (.pick (T 122) (T 124) (.lit (.c (.pv (.bool
  false)))))), (oP 126 (.mv (T 125))), (.mk (some 127) (.mv (T 12)) (some (126, true)) .p), (.mk (some 128) (.bin .eql (T 127) (tI 0)) (some (126, true)) .p),
  (oP 129 (.pick (T 126) (T 128) (.lit (.c (.pv (.bool false)))))), (oP 130 (.mv (T 129))), (.mk (some 131) (.mv (T 14)) (some (130, true)) .p), (.mk (some 132)
  (.bin .eql (T 131) (tI 23)) (some (130, true)) .p), (oP 133 (.pick (T 130) (T 132) (.lit (.c (.pv (.bool false)))))), (oP 134 (.mv (T 133))), (.mk (some 135)
  (.faddr 0 (T 15)) (some (134, true)) .p), (.mk (some 136) (.load false 1 (T 135)) (some (134, true)) .r), (.mk (some 137) (.len (T 136)) (some (134, true))
  .p), (.mk (some 138) (.bin .eql (T 137) (tI 1)) (some (134, true)) .p), (oP 139 (.pick (T 134) (T 138) (.lit (.c (.pv (.bool false)))))), (oP 140 (.mv (T
  139))), (.mk (some 141) (.mv (T 16)) (some (140, true)) .p), (.mk (some 142) (.bin .eql (T 141) (tI 0)) (some (140, true)) .p), (oP 143 (.pick (T 140) (T 142)
  (.lit (.c (.pv (.bool false)))))), (oP 144 (.mv (T 143))), (.mk (some 145) (.mv (T 17)) (some (144, true)) .p), (.mk (some 146) (.len (T 145)) (some (144,
  true)) .p), (.mk (some 147) (.bin .eql (T 146) (tI 1)) (some (144, true)) .p), (oP 148 (.pick (T 144) (T 147) (.lit (.c (.pv (.bool false)))))), (oP 149 (.mv
  (T 148))), (.mk (some 150) (.mv (T 18)) (some (149, true)) .p), (.mk (some 151) (.bin .eql (T 150) (tI 0)) (some (149, true)) .p), (oP 152 (.pick (T 149) (T
  151) (.lit (.c (.pv (.bool false)))))), (oP 153 (.mv (T 152))), (.mk (some 154) (.mv (T 19)) (some (153, true)) .p), (.mk (some 155) (.buildSl [(.pv (.int
  .i64 0))] 1 1 [(0, (1, (tI 2)))]) (some (153, true)) .p), (.mk (some 156) (.call false [] (.lit (.c (.fn 31 []))) [(T 154), (T 155)]) (some (153, true)) .p),
  (oP 157 (.pick (T 153) (T 156) (.lit (.c (.pv (.bool false)))))), (oP 158 (.mv (T 157))), (.mk (some 159) (.mv (T 20)) (some (158, true)) .p), (.mk (some 160)
  (.bin .eql (T 159) (tI 0)) (some (158, true)) .p), (oP 161 (.pick (T 158) (T 160) (.lit (.c (.pv (.bool false)))))), (oP 162 (.mv (T 161))), (.mk (some 163)
  (.mv (T 21)) (some (162, true)) .p), (.mk (some 164) (.bin .eql (T 163) (tI 7)) (some (162, true)) .p), (oP 165 (.pick (T 162) (T 164) (.lit (.c (.pv (.bool
  false)))))), (oP 166 (.mv (T 165))), (.mk (some 167) (.mv (T 22)) (some (166, true)) .p), (.mk (some 168) (.bin .eql (T 167) (tI 0)) (some (166, true)) .p),
  (oP 169 (.pick (T 166) (T 168) (.lit (.c (.pv (.bool false)))))), (oP 170 (.mv (T 169))), (.mk (some 171) (.mv (T 23)) (some (170, true)) .p), (.mk (some 172)
  (.bin .eql (T 171) (tI 100)) (some (170, true)) .p), (oP 173 (.pick (T 170) (T 172) (.lit (.c (.pv (.bool false)))))), (oP 174 (.mv (T 173))), (.mk (some 175)
  (.mv (T 24)) (some (174, true)) .p), (.mk (some 176) (.bin .eql (T 175) (tI 0)) (some (174, true)) .p), (oP 177 (.pick (T 174) (T 176) (.lit (.c (.pv (.bool
  false)))))), (oP 178 (.mv (T 177))), (.mk (some 179) (.mv (T 25)) (some (178, true)) .p), (.mk (some 180) (.bin .eql (T 179) (.lit (.c (.pv (.int .i32 3)))))
  (some (178, true)) .p), (oP 181 (.pick (T 178) (T 180) (.lit (.c (.pv (.bool false)))))), (oP 182 (.mv (T 181))), (.mk (some 183) (.mv (T 26)) (some (182,
  true)) .p), (oP 184 (.pick (T 182) (T 183) (.lit (.c (.pv (.bool false)))))), (oP 185 (.mv (T 184))), (.mk (some 186) (.mv (T 27)) (some (185, true)) .p),
  (.mk (some 187) (.len (T 186)) (some (185, true)) .p), (.mk (some 188) (.bin .eql (T 187) (tI 3)) (some (185, true)) .p), (oP 189 (.pick (T 185) (T 188) (.lit
  (.c (.pv (.bool false)))))), (oP 190 (.mv (T 189))), (.mk (some 191) (.mv (T 28)) (some (190, true)) .p), (.mk (some 192) (.bin .eql (T 191) (tI 0)) (some
  (190, true)) .p), (oP 193 (.pick (T 190) (T 192) (.lit (.c (.pv (.bool false)))))), (oP 194 (.mv (T 193))), (.mk (some 195) (.load true 1 (T 11)) (some (194,
  true)) .r), (.mk (some 196) (.call false [] (.lit (.c (.fn 25 []))) [(T 195)]) (some (194, true)) .p), (oP 197 (.pick (T 194) (T 196) (.lit (.c (.pv (.bool
  false)))))), (oP 198 (.mv (T 197))), (.mk (some 199) (.faddr 0 (T 11)) (some (198, true)) .p), (.mk (some 200) (.load false 1 (T 199)) (some (198, true)) .r),
  (.mk (some 201) (.sliceV 7 (T 200) (some (tI 1)) none none) (some (198, true)) .p), (.mk (some 202) (.build [(.pv (.sl .nil 0 []))] [(0, (1, (T 201)))]) (some
  (198, true)) .p), (.mk (some 203) (.call false [] (.lit (.c (.fn 25 []))) [(T 202)]) (some (198, true)) .p), (.mk (some 204) (.un .not (T 203)) (some (198,
  true)) .p), (oP 205 (.pick (T 198) (T 204) (.lit (.c (.pv (.bool false)))))), (oP 0 (.mv (T 205)))])) (.tr (rl [0]) false .ret))))))))))))))))))))
theorem xf17_ok : cmpFunc Go.Proofs.Tryd.prog 17 ((.two (.tr [] false .no) (.two (.tr (rl [1, 0]) false (.ops [{}, { cls := some .p }, { cls := some .p }])) (.two (.tr (rl [2, 0, 0]) false (.draw [0, 1, 2, 3, 4, 5, 6, 7, 8] [{}, { cls := some .p }, { cls := some .p }])) (.two (.tr (rl [2, 0, 0, 1]) false (.draw [0, 1, 2, 3, 4, 5, 6, 7, 8] [{}, { cls := some .p }, { cls := some .p }])) (.two (.tr (rl [2, 0, 0, 1, 1]) false (.draw [0, 1, 2, 3, 4, 5, 6, 7, 8] [{}, { cls := some .p }, { cls := some .p }])) (.two (.tr (rl [2, 0, 0, 1, 1, 0]) false (.ops [{ cls := some .p }, { cls := some .p }])) (.two (.tr (rl [2, 0, 0, 1, 1, 0, 1, 0]) false (.ops [{}, {}, { cls := some .p }])) (.two (.tr (rl [2, 0, 0, 1, 1, 0, 1, 0]) false .no) (.two (.tr (rl [2, 0, 0, 1, 1, 2, 0, 1]) false (.ops [{}, {}, { cls := some .p }])) (.two (.tr (rl [2, 0, 0, 1, 1, 2, 0, 1, 0, 0]) false (.ops [{}, { cls := some .p }])) (.two (.tr (rl [2, 0, 0, 1, 1, 2, 0, 1, 0, 0, 0, 0]) false (.ops [{}, { cls := some .p }])) (.two (.tr (rl [2, 0, 0, 1, 1, 2, 0, 1, 0, 0, 0, 0, 0, 0]) false (.ops [{}, { cls := some .p }])) (.two (.tr (rl [2, 0, 0, 1, 1, 2, 0, 1, 0, 0, 0, 0, 0, 0, 0, 0]) false (.ops [{}, {}, { cls := some .p }])) (.two (.tr (rl [2, 1, 1, 1, 2, 0, 1, 0, 0, 0, 0, 0, 0, 0, 0, 0, 0]) false (.ops [{}, {}, { cls := some .p }])) (.two (.tr (rl [2, 1, 1, 1, 2, 0, 1, 0, 0, 0, 0, 0, 0, 0, 0, 0, 0, 0, 0]) false (.ops [{}, { cls := some .p }])) (.two (.tr (rl [2, 1, 1, 1, 2, 0, 1, 0, 0, 0, 0, 0, 0, 0, 0, 0, 0, 0, 0, 0, 0]) false (.ops [{}, { cls := some .p }])) (.two (.two (.tr (rl [2, 1, 1, 1, 2, 0, 1, 0, 0, 0, 0, 0, 0, 0, 0, 0, 0, 0, 0, 0, 0, 82]) false .no) (.tr (rl [0, 1, 1, 1, 1, 2, 0, 1, 0, 0, 0, 0, 0, 0, 0, 0, 0, 0, 0, 0, 0, 0]) false (.two (.two .no (.tr (rl [0]) false .no)) .no))) (.two (.tr (rl [0]) false (.ops [{}, {}, {}, {}, {}, {}, {}, {}, {}, {}, {}, {}, {}, {}, {}, {}, {}, {}, {}, {}, {}, {}, {}, {}, {}, {}, {}, {}, {}, {}, {}, {}, {}, {}, {}, {}, {}, {}, {}, {}, {}, {}, {}, {}, { cls := some .p }, {}, {}, {}, {}, {}, {}, {}, {}, {}, {}, {}, {}, {}, {}, {}, {}, {}, {}, {}, {}, {}, {}, {}, {}, {}, {}, {}, {}, {}, {}, {}, {}, {}, {}, {}, {}, {}, {}, {}, { cls := some .p }, {}, {}, {}, {}, {}, {}, { cls := some .p }])) (.tr (rl [0]) false .no)))))))))))))))))))) = some xf17 := by kernel_rfl
def xf18_l0 : XCode :=
(.seq (.seq (.tr (rl [1, 1, 4]) false (.region false [(oP 4 (.mv (T 3))), (oP 5 (.faddr 0 (T 1))), (oR 6 (.load false 1 (T 5))), (oP 7 (.len (T 6))), (oP 8
  (.bin .lss (T 4) (T 7)))])) (.tr (rl [1, 1]) false (.cond (T 8) .skip (.tr [] false (.exit 0))))) (.seq (.tr (rl [1, 0, 0]) false (.block 1 (.seq (.tr (rl [1,
  1, 17]) false (.region true [(oP 11 (.faddr 0 (T 1))), (oR 12 (.load false 1 (T 11))), (oP 13 (.mv (T 3))), (oP 14 (.sliceV 7 (T 12) none (some (T 13))
  none)), (oP 15 (.faddr 0 (T 1))), (oR 16 (.load false 1 (T 15))), (oP 17 (.mv (T 3))), (oP 18 (.iaddrS 7 (T 16) (T 17))), (oR 19 (.load true 7 (T 18))), (oP
  20 (.call false [] (.lit (.c (.fn 26 []))) [(T 14), (T 19)])), (oP 21 (.bin .neq (T 20) (tI 0)))])) (.tr (rl [1, 0, 0]) false (.cond (T 21) (.seq (.region
  false [(oP 2 (.mv (.lit (.c (.pv (.bool false))))))]) (.tr (rl [2]) false .ret)) .skip))))) (.tr (rl [1, 1]) false (.region false [(oP 9 (.mv (T 3))), (oP 10
  (.bin .add (T 9) (tI 1))), (oP 3 (.mv (T 10)))]))))
def xf18 : XFunc :=
(.mk 22 [(.tmp 2)] (.seq (.tr (rl [1]) false (.region false [(oW 1 (.box (T 0) 1)), (oP 2 (.mv (.lit (.c (.pv (.bool false))))))])) (.seq (.seq (.region false
  [(oP 3 (.mv (tI 0)))]) (.tr (rl [2]) false (.block 0 (.loop (rl [1, 1]) xf18_l0)))) (.seq (.region false [(oP 2 (.mv (.lit (.c (.pv (.bool true))))))]) (.tr
  (rl [2]) false .ret)))))
theorem xf18_ok : cmpFunc Go.Proofs.Tryd.prog 18 ((.two (.tr (rl [1]) false .no) (.two (.two .no (.tr (rl [2]) false (.loop (rl [1, 1]) (.two (.two (.tr (rl [1, 1, 4]) false .no) (.tr (rl [1, 1]) false (.two .no (.tr [] false .no)))) (.two (.tr (rl [1, 0, 0]) false (.two (.tr (rl [1, 1, 17]) false (.draw [0, 1, 2, 3, 4, 5, 6, 7, 8, 9, 10] [{}, {}, {}, {}, {}, {}, {}, {}, {}, { cls := some .p }])) (.tr (rl [1, 0, 0]) false (.two (.two .no (.tr (rl [2]) false .no)) .no)))) (.tr (rl [1, 1]) false .no)))))) (.two .no (.tr (rl [2]) false .no))))) = some xf18 := by kernel_rfl
def xf19 : XFunc :=
(.mk 39 [(.cell 4 true 1), (.tmp 5)] (.seq (.tr (rl [2, 0, 0]) false (.region false [(oW 2 (.box (T 0) 1)), (oW 3 (.box (T 1) 7)), (oW 4 (.alloc [(.pv (.sl .nil
  0 []))])), (oP 5 (.mv (tI 0)))])) (.seq (.seq (.tr (rl [2, 0, 0, 6]) false (.region false [(oR 9 (.load true 1 (T 2))), (oP 10 (.call false [] (.lit (.c (.fn
  25 []))) [(T 9)])), (oP 11 (.un .not (T 10)))])) (.tr (rl [2, 0, 0, 0]) false (.cond (T 11) (.seq (.tr (rl [4, 0]) false (.region false [(oP 12 (.build [(.pv
  (.sl .nil 0 []))] [])), (sW (.store 1 (T 4) (T 12))), (oP 5 (.mv (tI 1)))])) (.tr (rl [4, 0]) false .ret)) .skip))) (.seq (.seq (.tr (rl [2, 0, 0, 1]) false
  (.region false [(oR 13 (.load true 7 (T 3))), (oP 14 (.call false [] (.lit (.c (.fn 37 []))) [(T 13)])), (oP 6 (.mv (T 14)))])) (.seq (.tr (rl [2, 0, 0, 1,
  9]) false (.region false [(oP 15 (.mv (T 6))), (oP 16 (.bin .neq (T 15) (tI 0)))])) (.tr (rl [2, 0, 0, 0]) false (.cond (T 16) (.seq (.tr (rl [4, 0]) false
  (.region false [(oP 17 (.build [(.pv (.sl .nil 0 []))] [])), (oP 18 (.mv (T 6))), (sW (.store 1 (T 4) (T 17))), (oP 5 (.mv (T 18)))])) (.tr (rl [4, 0]) false
  .ret)) .skip)))) (.seq (.seq (.tr (rl [2, 0, 0, 2]) false (.region true [(oP 19 (.faddr 0 (T 2))), (oR 20 (.loadR false 1 (T 19) (T 2))), (oP 21 (.faddr 0 (T
  2))), (oR 22 (.load false 1 (T 21))), (oR 24 (.loadR true 7 (T 3) (T 3))), (oW 23 (.call false [(T 2), (T 3)] (.lit (.c (.fn 60 []))) [(T 22)])), (oW 25
  (.call false [] (.lit (.c (.fn 59 []))) [(T 20), (T 23), (T 24)])), (oP 7 (.mv (T 25)))])) (.seq (.tr (rl [2, 0, 0, 2, 19]) false (.region false [(oP 26 (.mv
  (T 7))), (oP 27 (.bin .neq (T 26) (tI 0)))])) (.tr (rl [2, 0, 0, 0]) false (.cond (T 27) (.seq (.tr (rl [4, 0]) false (.region false [(oP 28 (.build [(.pv
  (.sl .nil 0 []))] [])), (oP 29 (.mv (T 7))), (sW (.store 1 (T 4) (T 28))), (oP 5 (.mv (T 29)))])) (.tr (rl [4, 0]) false .ret)) .skip)))) (.seq (.region false
  [(oP 8 (.mv (.lit (.c (.fn 61 [])))))]) (.seq (.tr (rl [4, 0]) false (.region true [(oP 30 (.faddr 0 (T 2))), (oR 31 (.load false 1 (T 30))), (oP 32 (.mv (T
  8))), (oR 34 (.loadR true 7 (T 3) (T 3))), (oW 33 (.call false [(T 3)] (.lit (.c (.fn 62 []))) [(T 31), (T 32)])), (oP 35 (.call false [] (.lit (.c (.fn 63
  []))) [(T 34)])), (oP 36 (.buildSl [(.pv (.int .i64 0)), (.pv (.int .i32 0)), (.pv (.int .i32 0)), (.pv (.sl .nil 0 [])), (.pv (.int .i64 0)), (.pv (.int .i64
  0)), (.pv (.str []))] 1 7 [(0, (7, (T 35)))])), (oW 37 (.app 7 72 (T 33) (T 36))), (oP 38 (.build [(.pv (.sl .nil 0 []))] [(0, (1, (T 37)))])), (sW (.store 1
  (T 4) (T 38))), (oP 5 (.mv (tI 0)))])) (.tr (rl [4, 0]) false .ret))))))))
theorem xf19_ok : cmpFunc Go.Proofs.Tryd.prog 19 ((.two (.tr (rl [2, 0, 0]) false .no) (.two (.two (.tr (rl [2, 0, 0, 6]) false (.ops [{}, { cls := some .p }])) (.tr (rl [2, 0, 0, 0]) false (.two (.two (.tr (rl [4, 0]) false .no) (.tr (rl [4, 0]) false .no)) .no))) (.two (.two (.tr (rl [2, 0, 0, 1]) false (.ops [{}, { cls := some .p }])) (.two (.tr (rl [2, 0, 0, 1, 9]) false .no) (.tr (rl [2, 0, 0, 0]) false (.two (.two (.tr (rl [4, 0]) false .no) (.tr (rl [4, 0]) false .no)) .no)))) (.two (.two (.tr (rl [2, 0, 0, 2]) false (.draw [0, 1, 2, 3, 5, 4, 6, 7] [{}, { root := some 2 }, {}, {}, { ap := [2, 3] }, { root := some 3 }])) (.two (.tr (rl [2, 0, 0, 2, 19]) false .no) (.tr (rl [2, 0, 0, 0]) false (.two (.two (.tr (rl [4, 0]) false .no) (.tr (rl [4, 0]) false .no)) .no)))) (.two .no (.two (.tr (rl [4, 0]) false (.draw [0, 1, 2, 4, 3, 5, 6, 7, 8, 9, 10] [{}, {}, {}, { ap := [3] }, { root := some 3 }, { cls := some .p }])) (.tr (rl [4, 0]) false .no)))))))) = some xf19 := by kernel_rfl
def xf20 : XFunc :=
(.mk 17 [(.cell 4 true 1), (.tmp 5)] (.seq (.tr (rl [2, 0, 0]) false (.region false [(oW 2 (.box (T 0) 1)), (oW 3 (.box (T 1) 1)), (oW 4 (.alloc [(.pv (.sl .nil
  0 []))])), (oP 5 (.mv (tI 0)))])) (.seq (.tr (rl [4, 1, 0]) false (.region false [(oR 9 (.load true 1 (T 2))), (oP 10 (.mkfn 65 [(T 3)])), (oW 11 (.call false
  [] (.lit (.c (.fn 64 []))) [(T 9), (T 10)])), (oP 8 (.mv (T 11))), (oP 12 (.extr 0 (T 8))), (oP 13 (.extr 1 (T 8))), (oP 6 (.mv (T 12))), (oP 7 (.mv (T
  13)))])) (.seq (.tr (rl [4, 0]) false (.region false [(oP 14 (.mv (T 6))), (oP 15 (.build [(.pv (.sl .nil 0 []))] [(0, (1, (T 14)))])), (oP 16 (.mv (T 7))),
  (sW (.store 1 (T 4) (T 15))), (oP 5 (.mv (T 16)))])) (.tr (rl [4, 0]) false .ret)))))
theorem xf20_ok : cmpFunc Go.Proofs.Tryd.prog 20 ((.two (.tr (rl [2, 0, 0]) false .no) (.two (.tr (rl [4, 1, 0]) false .no) (.two (.tr (rl [4, 0]) false .no) (.tr (rl [4, 0]) false .no))))) = some xf20 := by kernel_rfl
def xf21 : XFunc :=
(.mk 13 [(.tmp 6), (.tmp 7)] (.seq (.tr (rl [3, 0, 0]) false (.region false [(oW 3 (.box (T 0) 1)), (oW 4 (.box (T 1) 1)), (oW 5 (.box (T 2) 1)), (oP 6 (.mv
  (.lit (.c (.pv (.sl .nil 0 [])))))), (oP 7 (.mv (tI 0)))])) (.seq (.tr (rl [6, 0]) false (.region false [(oR 8 (.load true 1 (T 3))), (oP 9 (.mkfn 66 [(T 4),
  (T 5)])), (oW 10 (.call false [] (.lit (.c (.fn 64 []))) [(T 8), (T 9)])), (oP 11 (.extr 0 (T 10))), (oP 12 (.extr 1 (T 10))), (oP 6 (.mv (T 11))), (oP 7 (.mv
  (T 12)))])) (.tr (rl [6, 0]) false .ret))))
theorem xf21_ok : cmpFunc Go.Proofs.Tryd.prog 21 ((.two (.tr (rl [3, 0, 0]) false .no) (.two (.tr (rl [6, 0]) false .no) (.tr (rl [6, 0]) false .no)))) = some xf21 := by kernel_rfl
def xf22 : XFunc :=
(.mk 8 [(.tmp 2), (.tmp 3)] (.seq (.tr (rl [1]) false (.region false [(oW 1 (.box (T 0) 1)), (oP 2 (.mv (.lit (.c (.pv (.sl .nil 0 [])))))), (oP 3 (.mv (tI
  0)))])) (.seq (.tr (rl [2, 0]) false (.region false [(oR 4 (.load true 1 (T 1))), (oW 5 (.call false [] (.lit (.c (.fn 64 []))) [(T 4), (.lit (.c (.fn 67
  [])))])), (oP 6 (.extr 0 (T 5))), (oP 7 (.extr 1 (T 5))), (oP 2 (.mv (T 6))), (oP 3 (.mv (T 7)))])) (.tr (rl [2, 0]) false .ret))))
theorem xf22_ok : cmpFunc Go.Proofs.Tryd.prog 22 ((.two (.tr (rl [1]) false .no) (.two (.tr (rl [2, 0]) false .no) (.tr (rl [2, 0]) false .no)))) = some xf22 := by kernel_rfl
def xf23 : XFunc :=
(.mk 26 [(.tmp 4), (.tmp 5)] (.seq (.tr (rl [2, 0]) false (.region false [(oW 2 (.box (T 0) 1)), (oW 3 (.box (T 1) 1)), (oP 4 (.mv (.lit (.c (.pv (.int .i32
  0)))))), (oP 5 (.mv (.lit (.c (.pv (.bool false))))))])) (.seq (.tr (rl [6, 0]) false (.region false [(oR 10 (.load true 1 (T 2))), (oP 11 (.mkfn 68 [(T
  3)])), (oW 12 (.call false [] (.lit (.c (.fn 64 []))) [(T 10), (T 11)])), (oP 9 (.mv (T 12))), (oP 13 (.extr 0 (T 9))), (oP 14 (.extr 1 (T 9))), (oP 6 (.mv (T
  13))), (oP 7 (.mv (T 14)))])) (.seq (.seq (.tr (rl [6, 14]) false (.region false [(oP 15 (.mv (T 7))), (oP 16 (.bin .neq (T 15) (tI 0))), (oP 17 (.mv (T
  16))), (.mk (some 18) (.mv (T 6)) (some (17, false)) .p), (.mk (some 19) (.len (T 18)) (some (17, false)) .p), (.mk (some 20) (.bin .eql (T 19) (tI 0)) (some
  (17, false)) .p), (oP 21 (.pick (T 17) (.lit (.c (.pv (.bool true)))) (T 20)))])) (.tr (rl [4, 0, 0]) false (.cond (T 21) (.seq (.region false [(oP 4 (.mv
  (.lit (.c (.pv (.int .i32 0)))))), (oP 5 (.mv (.lit (.c (.pv (.bool false))))))]) (.tr (rl [4, 0]) false .ret)) .skip))) (.seq (.tr (rl [8]) false (.region
  false [(oP 22 (.mv (T 6))), (oW 23 (.call false [] (.lit (.c (.fn 69 []))) [(T 22), (.lit (.c (.fn 70 [])))])), (oW 8 (.alloc [(.pv (.int .i64 0)), (.pv (.int
  .i32 0)), (.pv (.int .i32 0)), (.pv (.sl .nil 0 [])), (.pv (.int .i64 0)), (.pv (.int .i64 0)), (.pv (.str []))])), (sW (.store 7 (T 8) (T 23)))])) (.seq (.tr
  (rl [4, 0]) false (.region false [(oP 24 (.faddr 2 (T 8))), (oR 25 (.load false 1 (T 24))), (oP 4 (.mv (T 25))), (oP 5 (.mv (.lit (.c (.pv (.bool
  true))))))])) (.tr (rl [4, 0]) false .ret)))))))
theorem xf23_ok : cmpFunc Go.Proofs.Tryd.prog 23 ((.two (.tr (rl [2, 0]) false .no) (.two (.tr (rl [6, 0]) false .no) (.two (.two (.tr (rl [6, 14]) false .no) (.tr (rl [4, 0, 0]) false (.two (.two .no (.tr (rl [4, 0]) false .no)) .no))) (.two (.tr (rl [8]) false .no) (.two (.tr (rl [4, 0]) false .no) (.tr (rl [4, 0]) false .no))))))) = some xf23 := by kernel_rfl
def xf24_l0 : XCode :=
(.seq (.region false [(oP 22 (.bin .lss (T 21) (T 20)))]) (.seq (.tr (rl [6, 0, 11, 0, 0]) false (.cond (T 22) .skip (.tr (rl [6, 0]) false (.exit 0)))) (.seq
  (.tr (rl [6, 0, 11, 0, 0]) false (.block 1 (.seq (.tr (rl [6, 0, 1, 9, 0, 0]) false (.region false [(oP 23 (.iaddrS 7 (T 19) (T 21))), (oR 24 (.load true 7 (T
  23))), (oW 9 (.alloc [(.pv (.int .i64 0)), (.pv (.int .i32 0)), (.pv (.int .i32 0)), (.pv (.sl .nil 0 [])), (.pv (.int .i64 0)), (.pv (.int .i64 0)), (.pv
  (.str []))])), (sW (.store 7 (T 9) (T 24)))])) (.tr (rl [6, 0, 11, 0, 0]) false (.region false [(oP 25 (.mv (T 7))), (oP 26 (.faddr 0 (T 9))), (oR 27 (.load
  false 1 (T 26))), (oP 28 (.buildSl [(.pv (.int .i64 0))] 1 1 [(0, (1, (T 27)))])), (oW 29 (.app 1 8 (T 25) (T 28))), (oP 7 (.mv (T 29)))]))))) (.tr (rl [6, 0,
  11, 0, 0]) false (.region false [(oP 30 (.bin .add (T 21) (tI 1))), (oP 21 (.mv (T 30)))])))))
def xf24 : XFunc :=
(.mk 33 [(.tmp 2), (.tmp 3)] (.seq (.tr (rl [1]) false (.region false [(oW 1 (.box (T 0) 1)), (oP 2 (.mv (.lit (.c (.pv (.sl .nil 0 [])))))), (oP 3 (.mv (tI
  0)))])) (.seq (.tr (rl [1, 2]) false (.region false [(oP 10 (.faddr 0 (T 1))), (oR 11 (.load false 1 (T 10))), (oW 12 (.call false [] (.lit (.c (.fn 60 [])))
  [(T 11)])), (oW 4 (.alloc [.nilm])), (sW (.store 1 (T 4) (T 12)))])) (.seq (.tr (rl [5, 0]) false (.region false [(oR 14 (.load true 1 (T 1))), (oP 15 (.mkfn
  71 [(T 4)])), (oW 16 (.call false [] (.lit (.c (.fn 64 []))) [(T 14), (T 15)])), (oP 13 (.mv (T 16))), (oP 17 (.extr 0 (T 13))), (oP 18 (.extr 1 (T 13))), (oP
  5 (.mv (T 17))), (oP 6 (.mv (T 18)))])) (.seq (.region false [(oP 7 (.mv (.lit (.c (.pv (.sl .nil 0 []))))))]) (.seq (.seq (.tr (rl [6, 0, 11, 0, 0]) false
  (.region false [(oP 19 (.mv (T 5))), (oP 20 (.len (T 19))), (oP 21 (.mv (tI 0)))])) (.tr (rl [6, 0]) false (.block 0 (.loop (rl [6, 0, 11, 0, 0]) xf24_l0))))
  (.seq (.tr (rl [2, 0]) false (.region false [(oP 31 (.mv (T 7))), (oP 32 (.mv (T 6))), (oP 2 (.mv (T 31))), (oP 3 (.mv (T 32)))])) (.tr (rl [2, 0]) false
  .ret))))))))
theorem xf24_ok : cmpFunc Go.Proofs.Tryd.prog 24 ((.two (.tr (rl [1]) false .no) (.two (.tr (rl [1, 2]) false .no) (.two (.tr (rl [5, 0]) false .no) (.two .no (.two (.two (.tr (rl [6, 0, 11, 0, 0]) false .no) (.tr (rl [6, 0]) false (.loop (rl [6, 0, 11, 0, 0]) (.two .no (.two (.tr (rl [6, 0, 11, 0, 0]) false (.two .no (.tr (rl [6, 0]) false .no))) (.two (.tr (rl [6, 0, 11, 0, 0]) false (.two (.tr (rl [6, 0, 1, 9, 0, 0]) false .no) (.tr (rl [6, 0, 11, 0, 0]) false .no))) (.tr (rl [6, 0, 11, 0, 0]) false .no))))))) (.two (.tr (rl [2, 0]) false .no) (.tr (rl [2, 0]) false .no)))))))) = some xf24 := by kernel_rfl
def xf25_l0 : XCode :=
(.seq (.region false [(oP 11 (.bin .lss (T 10) (T 9)))]) (.seq (.tr (rl [1, 1, 4, 0, 0]) false (.cond (T 11) .skip (.tr [] false (.exit 0)))) (.seq (.tr (rl [1,
  0, 0, 4, 0, 0]) false (.block 1 (.seq (.tr (rl [1, 1, 0, 0, 2, 0, 0]) false (.region false [(oP 12 (.mv (T 10))), (oP 13 (.iaddrS 7 (T 8) (T 10))), (oR 14
  (.load true 7 (T 13))), (oW 5 (.alloc [(.pv (.int .i64 0)), (.pv (.int .i32 0)), (.pv (.int .i32 0)), (.pv (.sl .nil 0 [])), (.pv (.int .i64 0)), (.pv (.int
  .i64 0)), (.pv (.str []))])), (oP 4 (.mv (T 12))), (sW (.store 7 (T 5) (T 14)))])) (.seq (.seq (.tr (rl [1, 1, 1, 2, 0, 0, 16]) false (.region true [(oR 15
  (.load true 7 (T 5))), (oP 16 (.call false [] (.lit (.c (.fn 37 []))) [(T 15)])), (oP 17 (.bin .neq (T 16) (tI 0))), (oP 18 (.mv (T 17))), (.mk (some 19)
  (.faddr 0 (T 1)) (some (18, false)) .p), (.mk (some 20) (.load false 1 (T 19)) (some (18, false)) .r), (.mk (some 21) (.mv (T 4)) (some (18, false)) .p), (.mk
  (some 22) (.sliceV 7 (T 20) none (some (T 21)) none) (some (18, false)) .p), (.mk (some 23) (.mv (T 3)) (some (18, false)) .p), (.mk (some 24) (.load true 7
  (T 5)) (some (18, false)) .r), (.mk (some 25) (.call false [] (.lit (.c (.fn 59 []))) [(T 22), (T 23), (T 24)]) (some (18, false)) .w), (.mk (some 26) (.bin
  .neq (T 25) (tI 0)) (some (18, false)) .p), (oP 27 (.pick (T 18) (.lit (.c (.pv (.bool true)))) (T 26)))])) (.tr (rl [1, 0, 0, 1, 2, 0, 0]) false (.cond (T
  27) (.seq (.region false [(oP 2 (.mv (.lit (.c (.pv (.bool false))))))]) (.tr (rl [2]) false .ret)) .skip))) (.tr (rl [1, 1, 4, 0, 0]) false (.region false
  [(oP 28 (.mv (T 3))), (oP 29 (.faddr 4 (T 5))), (oR 30 (.load false 1 (T 29))), (sW (.mupd (T 28) (T 30) (.lit (.c (.pv (.bool true))))))])))))) (.tr (rl [1,
  1, 4, 0, 0]) false (.region false [(oP 31 (.bin .add (T 10) (tI 1))), (oP 10 (.mv (T 31)))])))))
def xf25 : XFunc :=
(.mk 32 [(.tmp 2)] (.seq (.tr (rl [1]) false (.region false [(oW 1 (.box (T 0) 1)), (oP 2 (.mv (.lit (.c (.pv (.bool false))))))])) (.seq (.tr (rl [1, 1]) false
  (.region false [(.mk (some 6) .mkmap none .w), (oP 3 (.mv (T 6)))])) (.seq (.seq (.tr (rl [1, 1, 4, 0, 0]) false (.region false [(oP 7 (.faddr 0 (T 1))), (oR
  8 (.load false 1 (T 7))), (oP 9 (.len (T 8))), (oP 10 (.mv (tI 0)))])) (.tr (rl [2]) false (.block 0 (.loop (rl [1, 1, 4, 0, 0]) xf25_l0)))) (.seq (.region
  false [(oP 2 (.mv (.lit (.c (.pv (.bool true))))))]) (.tr (rl [2]) false .ret))))))
theorem xf25_ok : cmpFunc Go.Proofs.Tryd.prog 25 ((.two (.tr (rl [1]) false .no) (.two (.tr (rl [1, 1]) false .no) (.two (.two (.tr (rl [1, 1, 4, 0, 0]) false .no) (.tr (rl [2]) false (.loop (rl [1, 1, 4, 0, 0]) (.two .no (.two (.tr (rl [1, 1, 4, 0, 0]) false (.two .no (.tr [] false .no))) (.two (.tr (rl [1, 0, 0, 4, 0, 0]) false (.two (.tr (rl [1, 1, 0, 0, 2, 0, 0]) false .no) (.two (.two (.tr (rl [1, 1, 1, 2, 0, 0, 16]) false (.draw [0, 1, 2, 3, 4, 5, 6, 7, 8, 9, 10, 11, 12] [{}, { cls := some .p }])) (.tr (rl [1, 0, 0, 1, 2, 0, 0]) false (.two (.two .no (.tr (rl [2]) false .no)) .no))) (.tr (rl [1, 1, 4, 0, 0]) false .no)))) (.tr (rl [1, 1, 4, 0, 0]) false .no))))))) (.two .no (.tr (rl [2]) false .no)))))) = some xf25 := by kernel_rfl
def xf26_l0 : XCode :=
(.seq (.seq (.tr (rl [0, 2, 1, 0, 42]) false (.region false [(oP 47 (.mv (T 6))), (oP 48 (.mv (T 5))), (oP 49 (.bin .lss (T 47) (T 48)))])) (.tr (rl [0, 2, 1,
  0]) false (.cond (T 49) .skip (.tr (rl [0, 2]) false (.exit 0))))) (.seq (.tr (rl [0, 2, 0, 0, 0]) false (.block 1 (.seq (.tr (rl [0, 2, 1, 0, 52]) false
  (.region true [(oP 52 (.mv (T 0))), (oP 53 (.mv (T 6))), (oP 54 (.iaddrS 7 (T 52) (T 53))), (oP 55 (.faddr 4 (T 54))), (oR 56 (.load false 1 (T 55))), (oP 57
  (.faddr 4 (T 3))), (oR 58 (.load false 1 (T 57))), (oP 59 (.bin .eql (T 56) (T 58)))])) (.tr (rl [0, 2, 0, 0, 0]) false (.cond (T 59) (.seq (.region false
  [(oP 4 (.mv (tI 23)))]) (.tr (rl [4]) false .ret)) .skip))))) (.tr (rl [0, 2, 1, 0]) false (.region false [(oP 50 (.mv (T 6))), (oP 51 (.bin .add (T 50) (tI
  1))), (oP 6 (.mv (T 51)))]))))
def xf26 : XFunc :=
(.mk 82 [(.tmp 4)] (.seq (.tr (rl [0, 2]) false (.region false [(oW 3 (.box (T 1) 7)), (oP 4 (.mv (tI 0)))])) (.seq (.seq (.tr (rl [0, 2, 7]) false (.region
  false [(oR 9 (.load true 7 (T 3))), (oP 10 (.call false [] (.lit (.c (.fn 34 []))) [(T 9)])), (oP 11 (.bin .neq (T 10) (tI 0)))])) (.tr (rl [0, 2, 0]) false
  (.cond (T 11) (.seq (.tr (rl [4]) false (.region false [(oR 12 (.load true 7 (T 3))), (oP 13 (.call false [] (.lit (.c (.fn 34 []))) [(T 12)])), (oP 4 (.mv (T
  13)))])) (.tr (rl [4]) false .ret)) .skip))) (.seq (.tr (rl [0, 2, 1]) false (.region false [(oP 14 (.mv (T 0))), (oP 15 (.len (T 14))), (oP 5 (.mv (T
  15)))])) (.seq (.seq (.tr (rl [0, 2, 1, 11]) false (.region false [(oP 16 (.mv (T 5))), (oP 17 (.bin .geq (T 16) (tI 400)))])) (.tr (rl [0, 2, 0, 0]) false
  (.cond (T 17) (.seq (.region false [(oP 4 (.mv (tI 6)))]) (.tr (rl [4]) false .ret)) .skip))) (.seq (.seq (.tr (rl [0, 2, 1, 16]) false (.region false [(oP 18
  (.faddr 0 (T 3))), (oR 19 (.load false 1 (T 18))), (oP 20 (.mv (T 5))), (oP 21 (.bin .add (T 20) (tI 1))), (oP 22 (.bin .neq (T 19) (T 21)))])) (.tr (rl [0,
  2, 0, 0]) false (.cond (T 22) (.seq (.region false [(oP 4 (.mv (tI 25)))]) (.tr (rl [4]) false .ret)) .skip))) (.seq (.seq (.tr (rl [0, 2, 1, 29]) false
  (.region true [(oP 23 (.mv (T 5))), (oP 24 (.bin .gtr (T 23) (tI 0))), (oP 25 (.mv (T 24))), (.mk (some 26) (.faddr 1 (T 3)) (some (25, true)) .p), (.mk (some
  27) (.load false 1 (T 26)) (some (25, true)) .r), (.mk (some 28) (.mv (T 0)) (some (25, true)) .p), (.mk (some 29) (.mv (T 5)) (some (25, true)) .p), (.mk
  (some 30) (.bin .sub (T 29) (tI 1)) (some (25, true)) .p), (.mk (some 31) (.iaddrS 7 (T 28) (T 30)) (some (25, true)) .p), (.mk (some 32) (.faddr 1 (T 31))
  (some (25, true)) .p), (.mk (some 33) (.load false 1 (T 32)) (some (25, true)) .r), (.mk (some 34) (.bin .lss (T 27) (T 33)) (some (25, true)) .p), (oP 35
  (.pick (T 25) (T 34) (.lit (.c (.pv (.bool false))))))])) (.tr (rl [0, 2, 0, 0]) false (.cond (T 35) (.seq (.region false [(oP 4 (.mv (tI 20)))]) (.tr (rl
  [4]) false .ret)) .skip))) (.seq (.seq (.tr (rl [0, 2, 1, 32]) false (.region false [(oP 36 (.faddr 4 (T 3))), (oR 37 (.load false 1 (T 36))), (oP 38 (.bin
  .eql (T 37) (tI 0)))])) (.tr (rl [0, 2, 0, 0]) false (.cond (T 38) (.seq (.region false [(oP 4 (.mv (tI 0)))]) (.tr (rl [4]) false .ret)) .skip))) (.seq (.seq
  (.tr (rl [0, 2, 1, 40]) false (.region false [(oP 39 (.mv (T 0))), (oP 40 (.faddr 4 (T 3))), (oR 41 (.load false 1 (T 40))), (oP 42 (.bin .sub (T 41) (tI
  1))), (oP 43 (.iaddrS 7 (T 39) (T 42))), (oP 44 (.faddr 4 (T 43))), (oR 45 (.load false 1 (T 44))), (oP 46 (.bin .gtr (T 45) (tI 0)))])) (.tr (rl [0, 2, 0,
  0]) false (.cond (T 46) (.seq (.region false [(oP 4 (.mv (tI 27)))]) (.tr (rl [4]) false .ret)) .skip))) (.seq (.seq (.region false [(oP 6 (.mv (tI 0)))])
  (.tr (rl [0, 2, 0]) false (.block 0 (.loop (rl [0, 2, 1, 0]) xf26_l0)))) (.seq (.tr (rl [3, 3, 0]) false (.region true [(oP 61 (.mv (T 0))), (oP 62 (.faddr 4
  (T 3))), (oR 63 (.load false 1 (T 62))), (oP 64 (.bin .sub (T 63) (tI 1))), (oP 65 (.iaddrS 7 (T 61) (T 64))), (oR 66 (.load true 7 (T 65))), (oP 67 (.faddr 0
  (T 3))), (oR 68 (.load false 1 (T 67))), (oP 69 (.faddr 1 (T 3))), (oR 70 (.load false 1 (T 69))), (oP 71 (.call false [] (.lit (.c (.fn 48 []))) [(T 66), (T
  68), (T 70)])), (oP 60 (.mv (T 71))), (oP 72 (.extr 0 (T 60))), (oP 73 (.extr 1 (T 60))), (oW 7 (.alloc [(.pv (.int .i64 0)), (.pv (.int .i32 0)), (.pv (.int
  .i32 0)), (.pv (.sl .nil 0 [])), (.pv (.int .i64 0)), (.pv (.int .i64 0)), (.pv (.str []))])), (sW (.store 7 (T 7) (T 72))), (oP 8 (.mv (T 73)))])) (.seq
  (.seq (.tr (rl [81]) false (.region false [(oP 74 (.mv (T 8))), (oP 75 (.bin .neq (T 74) (tI 0))), (oP 76 (.mv (T 75))), (.mk (some 77) (.load true 7 (T 7))
  (some (76, false)) .r), (.mk (some 78) (.load true 7 (T 3)) (some (76, false)) .r), (.mk (some 79) (.call false [] (.lit (.c (.fn 44 []))) [(T 77), (T 78)])
  (some (76, false)) .p), (.mk (some 80) (.un .not (T 79)) (some (76, false)) .p), (oP 81 (.pick (T 76) (.lit (.c (.pv (.bool true)))) (T 80)))])) (.tr (rl [4])
  false (.cond (T 81) (.seq (.region false [(oP 4 (.mv (tI 3)))]) (.tr (rl [4]) false .ret)) .skip))) (.seq (.region false [(oP 4 (.mv (tI 0)))]) (.tr (rl [4])
  false .ret))))))))))))))
theorem xf26_ok : cmpFunc Go.Proofs.Tryd.prog 26 ((.two (.tr (rl [0, 2]) false .no) (.two (.two (.tr (rl [0, 2, 7]) false (.ops [{}, { cls := some .p }])) (.tr (rl [0, 2, 0]) false (.two (.two (.tr (rl [4]) false (.ops [{}, { cls := some .p }])) (.tr (rl [4]) false .no)) .no))) (.two (.tr (rl [0, 2, 1]) false .no) (.two (.two (.tr (rl [0, 2, 1, 11]) false .no) (.tr (rl [0, 2, 0, 0]) false (.two (.two .no (.tr (rl [4]) false .no)) .no))) (.two (.two (.tr (rl [0, 2, 1, 16]) false .no) (.tr (rl [0, 2, 0, 0]) false (.two (.two .no (.tr (rl [4]) false .no)) .no))) (.two (.two (.tr (rl [0, 2, 1, 29]) false (.draw [0, 1, 2, 3, 4, 5, 6, 7, 8, 9, 10, 11, 12] [])) (.tr (rl [0, 2, 0, 0]) false (.two (.two .no (.tr (rl [4]) false .no)) .no))) (.two (.two (.tr (rl [0, 2, 1, 32]) false .no) (.tr (rl [0, 2, 0, 0]) false (.two (.two .no (.tr (rl [4]) false .no)) .no))) (.two (.two (.tr (rl [0, 2, 1, 40]) false .no) (.tr (rl [0, 2, 0, 0]) false (.two (.two .no (.tr (rl [4]) false .no)) .no))) (.two (.two .no (.tr (rl [0, 2, 0]) false (.loop (rl [0, 2, 1, 0]) (.two (.two (.tr (rl [0, 2, 1, 0, 42]) false .no) (.tr (rl [0, 2, 1, 0]) false (.two .no (.tr (rl [0, 2]) false .no)))) (.two (.tr (rl [0, 2, 0, 0, 0]) false (.two (.tr (rl [0, 2, 1, 0, 52]) false (.draw [0, 1, 2, 3, 4, 5, 6, 7] [])) (.tr (rl [0, 2, 0, 0, 0]) false (.two (.two .no (.tr (rl [4]) false .no)) .no)))) (.tr (rl [0, 2, 1, 0]) false .no)))))) (.two (.tr (rl [3, 3, 0]) false (.draw [0, 1, 2, 3, 4, 5, 6, 7, 8, 9, 10, 11, 12, 13, 14, 15, 16] [{}, {}, {}, {}, {}, {}, {}, {}, {}, {}, { cls := some .p }])) (.two (.two (.tr (rl [81]) false (.ops [{}, {}, {}, {}, {}, { cls := some .p }])) (.tr (rl [4]) false (.two (.two .no (.tr (rl [4]) false .no)) .no))) (.two .no (.tr (rl [4]) false .no)))))))))))))) = some xf26 := by kernel_rfl
def xf27_l0 : XCode :=
(.seq (.seq (.tr (rl [0, 0, 3, 8]) false (.region false [(oP 11 (.mv (T 5))), (oP 12 (.mv (T 0))), (oP 13 (.len (T 12))), (oP 14 (.bin .lss (T 11) (T 13)))]))
  (.tr (rl [0, 0, 3]) false (.cond (T 14) .skip (.tr [] false (.exit 0))))) (.seq (.tr (rl [0, 0, 2, 0]) false (.block 1 (.seq (.tr (rl [0, 0, 3, 20]) false
  (.region true [(oP 17 (.mv (T 0))), (oP 18 (.mv (T 5))), (oP 19 (.iaddrS 7 (T 17) (T 18))), (oR 20 (.load true 7 (T 19))), (oP 21 (.mv (T 1))), (oP 22 (.mv (T
  5))), (oP 23 (.iaddrS 7 (T 21) (T 22))), (oR 24 (.load true 7 (T 23))), (oP 25 (.call false [] (.lit (.c (.fn 44 []))) [(T 20), (T 24)])), (oP 26 (.un .not (T
  25)))])) (.tr (rl [0, 0, 2, 0]) false (.cond (T 26) (.seq (.region false [(oP 4 (.mv (.lit (.c (.pv (.bool false))))))]) (.tr (rl [4]) false .ret)) .skip)))))
  (.tr (rl [0, 0, 3]) false (.region false [(oP 15 (.mv (T 5))), (oP 16 (.bin .add (T 15) (tI 1))), (oP 5 (.mv (T 16)))]))))
def xf27 : XFunc :=
(.mk 27 [(.tmp 4)] (.seq (.tr (rl [0, 0]) false (.region false [(oP 4 (.mv (.lit (.c (.pv (.bool false))))))])) (.seq (.seq (.tr (rl [0, 0, 8]) false (.region
  false [(oP 6 (.mv (T 0))), (oP 7 (.len (T 6))), (oP 8 (.mv (T 1))), (oP 9 (.len (T 8))), (oP 10 (.bin .neq (T 7) (T 9)))])) (.tr (rl [0, 0, 2]) false (.cond
  (T 10) (.seq (.region false [(oP 4 (.mv (.lit (.c (.pv (.bool false))))))]) (.tr (rl [4]) false .ret)) .skip))) (.seq (.seq (.region false [(oP 5 (.mv (tI
  0)))]) (.tr (rl [4]) false (.block 0 (.loop (rl [0, 0, 3]) xf27_l0)))) (.seq (.region false [(oP 4 (.mv (.lit (.c (.pv (.bool true))))))]) (.tr (rl [4]) false
  .ret))))))
theorem xf27_ok : cmpFunc Go.Proofs.Tryd.prog 27 ((.two (.tr (rl [0, 0]) false .no) (.two (.two (.tr (rl [0, 0, 8]) false .no) (.tr (rl [0, 0, 2]) false (.two (.two .no (.tr (rl [4]) false .no)) .no))) (.two (.two .no (.tr (rl [4]) false (.loop (rl [0, 0, 3]) (.two (.two (.tr (rl [0, 0, 3, 8]) false .no) (.tr (rl [0, 0, 3]) false (.two .no (.tr [] false .no)))) (.two (.tr (rl [0, 0, 2, 0]) false (.two (.tr (rl [0, 0, 3, 20]) false (.draw [0, 1, 2, 3, 4, 5, 6, 7, 8, 9] [{}, {}, {}, {}, {}, {}, {}, {}, { cls := some .p }])) (.tr (rl [0, 0, 2, 0]) false (.two (.two .no (.tr (rl [4]) false .no)) .no)))) (.tr (rl [0, 0, 3]) false .no)))))) (.two .no (.tr (rl [4]) false .no)))))) = some xf27 := by kernel_rfl
def xf28_l0 : XCode :=
(.seq (.seq (.tr (rl [0, 0, 4, 0, 0, 3]) false (.region false [(oP 9 (.mv (T 8))), (oP 10 (.mv (T 0))), (oP 11 (.len (T 10))), (oP 12 (.bin .lss (T 9) (T
  11)))])) (.tr (rl [0, 0, 4, 0, 0]) false (.cond (T 12) .skip (.tr (rl [6, 0]) false (.exit 0))))) (.seq (.tr (rl [0, 0, 4, 0, 0]) false (.block 1 (.seq (.tr
  (rl [0, 0, 4, 0, 0, 25]) false (.region false [(oP 15 (.mv (T 0))), (oP 16 (.mv (T 8))), (oP 17 (.iaddrS 7 (T 15) (T 16))), (oP 18 (.faddr 0 (T 17))), (oR 19
  (.load false 1 (T 18))), (oP 20 (.mv (T 1))), (oP 21 (.bin .gtr (T 19) (T 20))), (oP 22 (.mv (T 21))), (.mk (some 23) (.mv (T 7)) (some (22, true)) .p), (.mk
  (some 24) (.un .not (T 23)) (some (22, true)) .p), (.mk (some 25) (.mv (T 24)) (some (22, true)) .p), (.mk (some 26) (.mv (T 0)) (some (25, false)) .p), (.mk
  (some 27) (.mv (T 8)) (some (25, false)) .p), (.mk (some 28) (.iaddrS 7 (T 26) (T 27)) (some (25, false)) .p), (.mk (some 29) (.faddr 2 (T 28)) (some (25,
  false)) .p), (.mk (some 30) (.load false 1 (T 29)) (some (25, false)) .r), (.mk (some 31) (.mv (T 6)) (some (25, false)) .p), (.mk (some 32) (.bin .lss (T 30)
  (T 31)) (some (25, false)) .p), (.mk (some 33) (.pick (T 25) (.lit (.c (.pv (.bool true)))) (T 32)) (some (22, true)) .p), (oP 34 (.pick (T 22) (T 33) (.lit
  (.c (.pv (.bool false))))))])) (.tr (rl [0, 0, 4, 0, 0]) false (.cond (T 34) (.seq (.tr (rl [0, 0, 4, 1]) false (.region false [(oP 35 (.mv (T 0))), (oP 36
  (.mv (T 8))), (oP 37 (.iaddrS 7 (T 35) (T 36))), (oP 38 (.faddr 2 (T 37))), (oR 39 (.load false 1 (T 38))), (oP 6 (.mv (T 39)))])) (.region false [(oP 7 (.mv
  (.lit (.c (.pv (.bool true))))))])) .skip))))) (.tr (rl [0, 0, 4, 0, 0]) false (.region false [(oP 13 (.mv (T 8))), (oP 14 (.bin .add (T 13) (tI 1))), (oP 8
  (.mv (T 14)))]))))
def xf28 : XFunc :=
(.mk 42 [(.tmp 4), (.tmp 5)] (.seq (.tr (rl [0, 0]) false (.region false [(oP 4 (.mv (.lit (.c (.pv (.int .i32 0)))))), (oP 5 (.mv (.lit (.c (.pv (.bool
  false))))))])) (.seq (.region false [(oP 6 (.mv (.lit (.c (.pv (.int .i32 0))))))]) (.seq (.region false [(oP 7 (.mv (.lit (.c (.pv (.bool false))))))]) (.seq
  (.seq (.region false [(oP 8 (.mv (tI 0)))]) (.tr (rl [6, 0]) false (.block 0 (.loop (rl [0, 0, 4, 0, 0]) xf28_l0)))) (.seq (.tr (rl [4, 0]) false (.region
  false [(oP 40 (.mv (T 6))), (oP 41 (.mv (T 7))), (oP 4 (.mv (T 40))), (oP 5 (.mv (T 41)))])) (.tr (rl [4, 0]) false .ret)))))))
theorem xf28_ok : cmpFunc Go.Proofs.Tryd.prog 28 ((.two (.tr (rl [0, 0]) false .no) (.two .no (.two .no (.two (.two .no (.tr (rl [6, 0]) false (.loop (rl [0, 0, 4, 0, 0]) (.two (.two (.tr (rl [0, 0, 4, 0, 0, 3]) false .no) (.tr (rl [0, 0, 4, 0, 0]) false (.two .no (.tr (rl [6, 0]) false .no)))) (.two (.tr (rl [0, 0, 4, 0, 0]) false (.two (.tr (rl [0, 0, 4, 0, 0, 25]) false .no) (.tr (rl [0, 0, 4, 0, 0]) false (.two (.two (.tr (rl [0, 0, 4, 1]) false .no) .no) .no)))) (.tr (rl [0, 0, 4, 0, 0]) false .no)))))) (.two (.tr (rl [4, 0]) false .no) (.tr (rl [4, 0]) false .no))))))) = some xf28 := by kernel_rfl
def xf29_l0 : XCode :=
(.seq (.seq (.tr (rl [0, 0, 0, 4, 0, 4]) false (.region false [(oP 10 (.mv (T 8))), (oP 11 (.mv (T 0))), (oP 12 (.len (T 11))), (oP 13 (.bin .lss (T 10) (T
  12)))])) (.tr (rl [0, 0, 0, 4, 0]) false (.cond (T 13) .skip (.tr (rl [7]) false (.exit 0))))) (.seq (.tr (rl [0, 0, 0, 4, 0]) false (.block 1 (.seq (.tr (rl
  [0, 0, 0, 4, 0, 22]) false (.region false [(oP 16 (.mv (T 0))), (oP 17 (.mv (T 8))), (oP 18 (.iaddrS 7 (T 16) (T 17))), (oP 19 (.faddr 1 (T 18))), (oR 20
  (.load false 1 (T 19))), (oP 21 (.mv (T 1))), (oP 22 (.bin .leq (T 20) (T 21))), (oP 23 (.mv (T 22))), (.mk (some 24) (.mv (T 0)) (some (23, true)) .p), (.mk
  (some 25) (.mv (T 8)) (some (23, true)) .p), (.mk (some 26) (.iaddrS 7 (T 24) (T 25)) (some (23, true)) .p), (.mk (some 27) (.faddr 2 (T 26)) (some (23,
  true)) .p), (.mk (some 28) (.load false 1 (T 27)) (some (23, true)) .r), (.mk (some 29) (.mv (T 2)) (some (23, true)) .p), (.mk (some 30) (.bin .leq (T 28) (T
  29)) (some (23, true)) .p), (oP 31 (.pick (T 23) (T 30) (.lit (.c (.pv (.bool false))))))])) (.tr (rl [0, 0, 0, 4, 0]) false (.cond (T 31) (.tr (rl [0, 0, 0,
  4, 0]) false (.region false [(oP 32 (.mv (T 7))), (oP 33 (.mv (T 0))), (oP 34 (.mv (T 8))), (oP 35 (.iaddrS 7 (T 33) (T 34))), (oR 36 (.load true 7 (T 35))),
  (oP 37 (.buildSl [(.pv (.int .i64 0)), (.pv (.int .i32 0)), (.pv (.int .i32 0)), (.pv (.sl .nil 0 [])), (.pv (.int .i64 0)), (.pv (.int .i64 0)), (.pv (.str
  []))] 1 7 [(0, (7, (T 36)))])), (oW 38 (.app 7 72 (T 32) (T 37))), (oP 7 (.mv (T 38)))])) .skip))))) (.tr (rl [0, 0, 0, 4, 0]) false (.region false [(oP 14
  (.mv (T 8))), (oP 15 (.bin .add (T 14) (tI 1))), (oP 8 (.mv (T 15)))]))))
def xf29 : XFunc :=
(.mk 40 [(.tmp 6)] (.seq (.tr (rl [0, 0, 0]) false (.region false [(oP 6 (.mv (.lit (.c (.pv (.sl .nil 0 []))))))])) (.seq (.tr (rl [0, 0, 0, 4]) false (.region
  false [(oP 9 (.buildSl [(.pv (.int .i64 0)), (.pv (.int .i32 0)), (.pv (.int .i32 0)), (.pv (.sl .nil 0 [])), (.pv (.int .i64 0)), (.pv (.int .i64 0)), (.pv
  (.str []))] 0 7 [])), (oP 7 (.mv (T 9)))])) (.seq (.seq (.region false [(oP 8 (.mv (tI 0)))]) (.tr (rl [7]) false (.block 0 (.loop (rl [0, 0, 0, 4, 0])
  xf29_l0)))) (.seq (.tr (rl [6]) false (.region false [(oP 39 (.mv (T 7))), (oP 6 (.mv (T 39)))])) (.tr (rl [6]) false .ret))))))
theorem xf29_ok : cmpFunc Go.Proofs.Tryd.prog 29 ((.two (.tr (rl [0, 0, 0]) false .no) (.two (.tr (rl [0, 0, 0, 4]) false .no) (.two (.two .no (.tr (rl [7]) false (.loop (rl [0, 0, 0, 4, 0]) (.two (.two (.tr (rl [0, 0, 0, 4, 0, 4]) false .no) (.tr (rl [0, 0, 0, 4, 0]) false (.two .no (.tr (rl [7]) false .no)))) (.two (.tr (rl [0, 0, 0, 4, 0]) false (.two (.tr (rl [0, 0, 0, 4, 0, 22]) false .no) (.tr (rl [0, 0, 0, 4, 0]) false (.two (.tr (rl [0, 0, 0, 4, 0]) false .no) .no)))) (.tr (rl [0, 0, 0, 4, 0]) false .no)))))) (.two (.tr (rl [6]) false .no) (.tr (rl [6]) false .no)))))) = some xf29 := by kernel_rfl
def xf30_l0 : XCode :=
(.seq (.seq (.tr (rl [0, 2, 0, 4]) false (.region false [(oP 6 (.mv (T 4))), (oP 7 (.mv (T 0))), (oP 8 (.len (T 7))), (oP 9 (.bin .lss (T 6) (T 8)))])) (.tr (rl
  [0, 2, 0]) false (.cond (T 9) .skip (.tr (rl [3]) false (.exit 0))))) (.seq (.tr (rl [0, 2, 0]) false (.block 1 (.seq (.tr (rl [0, 2, 0, 12]) false (.region
  false [(oP 12 (.mv (T 0))), (oP 13 (.mv (T 4))), (oP 14 (.iaddrS 7 (T 12) (T 13))), (oP 15 (.faddr 5 (T 14))), (oR 16 (.load false 1 (T 15))), (oP 17 (.bin
  .eql (T 16) (tI 0)))])) (.tr (rl [0, 2, 0]) false (.cond (T 17) (.tr (rl [0, 2, 0]) false (.region false [(oP 18 (.mv (T 3))), (oP 19 (.mv (T 0))), (oP 20
  (.mv (T 4))), (oP 21 (.iaddrS 7 (T 19) (T 20))), (oR 22 (.load true 7 (T 21))), (oP 23 (.buildSl [(.pv (.int .i64 0)), (.pv (.int .i32 0)), (.pv (.int .i32
  0)), (.pv (.sl .nil 0 [])), (.pv (.int .i64 0)), (.pv (.int .i64 0)), (.pv (.str []))] 1 7 [(0, (7, (T 22)))])), (oW 24 (.app 7 72 (T 18) (T 23))), (oP 3 (.mv
  (T 24)))])) .skip))))) (.tr (rl [0, 2, 0]) false (.region false [(oP 10 (.mv (T 4))), (oP 11 (.bin .add (T 10) (tI 1))), (oP 4 (.mv (T 11)))]))))
def xf30 : XFunc :=
(.mk 26 [(.tmp 2)] (.seq (.tr (rl [0]) false (.region false [(oP 2 (.mv (.lit (.c (.pv (.sl .nil 0 []))))))])) (.seq (.tr (rl [0, 2]) false (.region false [(oP
  5 (.buildSl [(.pv (.int .i64 0)), (.pv (.int .i32 0)), (.pv (.int .i32 0)), (.pv (.sl .nil 0 [])), (.pv (.int .i64 0)), (.pv (.int .i64 0)), (.pv (.str []))]
  0 7 [])), (oP 3 (.mv (T 5)))])) (.seq (.seq (.region false [(oP 4 (.mv (tI 0)))]) (.tr (rl [3]) false (.block 0 (.loop (rl [0, 2, 0]) xf30_l0)))) (.seq (.tr
  (rl [2]) false (.region false [(oP 25 (.mv (T 3))), (oP 2 (.mv (T 25)))])) (.tr (rl [2]) false .ret))))))
theorem xf30_ok : cmpFunc Go.Proofs.Tryd.prog 30 ((.two (.tr (rl [0]) false .no) (.two (.tr (rl [0, 2]) false .no) (.two (.two .no (.tr (rl [3]) false (.loop (rl [0, 2, 0]) (.two (.two (.tr (rl [0, 2, 0, 4]) false .no) (.tr (rl [0, 2, 0]) false (.two .no (.tr (rl [3]) false .no)))) (.two (.tr (rl [0, 2, 0]) false (.two (.tr (rl [0, 2, 0, 12]) false .no) (.tr (rl [0, 2, 0]) false (.two (.tr (rl [0, 2, 0]) false .no) .no)))) (.tr (rl [0, 2, 0]) false .no)))))) (.two (.tr (rl [2]) false .no) (.tr (rl [2]) false .no)))))) = some xf30 := by kernel_rfl
def xf31_l0 : XCode :=
(.seq (.seq (.tr (rl [0, 0, 3, 8]) false (.region false [(oP 11 (.mv (T 5))), (oP 12 (.mv (T 0))), (oP 13 (.len (T 12))), (oP 14 (.bin .lss (T 11) (T 13)))]))
  (.tr (rl [0, 0, 3]) false (.cond (T 14) .skip (.tr [] false (.exit 0))))) (.seq (.tr (rl [0, 0, 2, 0]) false (.block 1 (.seq (.tr (rl [0, 0, 3, 19]) false
  (.region true [(oP 17 (.mv (T 0))), (oP 18 (.mv (T 5))), (oP 19 (.iaddrS 1 (T 17) (T 18))), (oR 20 (.load false 1 (T 19))), (oP 21 (.mv (T 1))), (oP 22 (.mv
  (T 5))), (oP 23 (.iaddrS 1 (T 21) (T 22))), (oR 24 (.load false 1 (T 23))), (oP 25 (.bin .neq (T 20) (T 24)))])) (.tr (rl [0, 0, 2, 0]) false (.cond (T 25)
  (.seq (.region false [(oP 4 (.mv (.lit (.c (.pv (.bool false))))))]) (.tr (rl [4]) false .ret)) .skip))))) (.tr (rl [0, 0, 3]) false (.region false [(oP 15
  (.mv (T 5))), (oP 16 (.bin .add (T 15) (tI 1))), (oP 5 (.mv (T 16)))]))))
def xf31 : XFunc :=
(.mk 26 [(.tmp 4)] (.seq (.tr (rl [0, 0]) false (.region false [(oP 4 (.mv (.lit (.c (.pv (.bool false))))))])) (.seq (.seq (.tr (rl [0, 0, 8]) false (.region
  false [(oP 6 (.mv (T 0))), (oP 7 (.len (T 6))), (oP 8 (.mv (T 1))), (oP 9 (.len (T 8))), (oP 10 (.bin .neq (T 7) (T 9)))])) (.tr (rl [0, 0, 2]) false (.cond
  (T 10) (.seq (.region false [(oP 4 (.mv (.lit (.c (.pv (.bool false))))))]) (.tr (rl [4]) false .ret)) .skip))) (.seq (.seq (.region false [(oP 5 (.mv (tI
  0)))]) (.tr (rl [4]) false (.block 0 (.loop (rl [0, 0, 3]) xf31_l0)))) (.seq (.region false [(oP 4 (.mv (.lit (.c (.pv (.bool true))))))]) (.tr (rl [4]) false
  .ret))))))
theorem xf31_ok : cmpFunc Go.Proofs.Tryd.prog 31 ((.two (.tr (rl [0, 0]) false .no) (.two (.two (.tr (rl [0, 0, 8]) false .no) (.tr (rl [0, 0, 2]) false (.two (.two .no (.tr (rl [4]) false .no)) .no))) (.two (.two .no (.tr (rl [4]) false (.loop (rl [0, 0, 3]) (.two (.two (.tr (rl [0, 0, 3, 8]) false .no) (.tr (rl [0, 0, 3]) false (.two .no (.tr [] false .no)))) (.two (.tr (rl [0, 0, 2, 0]) false (.two (.tr (rl [0, 0, 3, 19]) false (.draw [0, 1, 2, 3, 4, 5, 6, 7, 8] [])) (.tr (rl [0, 0, 2, 0]) false (.two (.two .no (.tr (rl [4]) false .no)) .no)))) (.tr (rl [0, 0, 3]) false .no)))))) (.two .no (.tr (rl [4]) false .no)))))) = some xf31 := by kernel_rfl
def xf32_l0 : XCode :=
(.seq (.seq (.tr (rl [0, 2, 0, 0, 0, 16]) false (.region false [(oP 20 (.mv (T 6))), (oP 21 (.mv (T 0))), (oP 22 (.len (T 21))), (oP 23 (.bin .lss (T 20) (T
  22)))])) (.tr (rl [0, 2, 0, 0, 0]) false (.cond (T 23) .skip (.tr (rl [0, 2, 0, 0]) false (.exit 2))))) (.seq (.tr (rl [0, 2, 0, 0, 0]) false (.block 3 (.tr
  (rl [0, 2, 0, 0, 0]) false (.region true [(oP 26 (.mv (T 5))), (oP 27 (.mv (T 26))), (.mk (some 28) (.mv (T 0)) (some (27, false)) .p), (.mk (some 29) (.mv (T
  6)) (some (27, false)) .p), (.mk (some 30) (.iaddrS 7 (T 28) (T 29)) (some (27, false)) .p), (.mk (some 31) (.faddr 4 (T 30)) (some (27, false)) .p), (.mk
  (some 32) (.load false 1 (T 31)) (some (27, false)) .r), (.mk (some 33) (.mv (T 0)) (some (27, false)) .p), (.mk (some 34) (.mv (T 4)) (some (27, false)) .p),
  (.mk (some 35) (.iaddrS 7 (T 33) (T 34)) (some (27, false)) .p), (.mk (some 36) (.faddr 0 (T 35)) (some (27, false)) .p), (.mk (some 37) (.load false 1 (T
  36)) (some (27, false)) .r), (.mk (some 38) (.bin .eql (T 32) (T 37)) (some (27, false)) .p), (oP 39 (.pick (T 27) (.lit (.c (.pv (.bool true)))) (T 38))),
  (oP 5 (.mv (T 39)))])))) (.tr (rl [0, 2, 0, 0, 0]) false (.region false [(oP 24 (.mv (T 6))), (oP 25 (.bin .add (T 24) (tI 1))), (oP 6 (.mv (T 25)))]))))
def xf32_l1 : XCode :=
(.seq (.seq (.tr (rl [0, 2, 0, 6]) false (.region false [(oP 8 (.mv (T 4))), (oP 9 (.mv (T 0))), (oP 10 (.len (T 9))), (oP 11 (.bin .lss (T 8) (T 10)))])) (.tr
  (rl [0, 2, 0]) false (.cond (T 11) .skip (.tr (rl [3]) false (.exit 0))))) (.seq (.tr (rl [0, 2, 0]) false (.block 1 (.seq (.tr (rl [0, 2, 0, 0]) false
  (.region false [(oP 14 (.mv (T 0))), (oP 15 (.mv (T 4))), (oP 16 (.iaddrS 7 (T 14) (T 15))), (oP 17 (.faddr 4 (T 16))), (oR 18 (.load false 1 (T 17))), (oP 19
  (.bin .gtr (T 18) (tI 0))), (oP 5 (.mv (T 19)))])) (.seq (.seq (.region false [(oP 6 (.mv (tI 0)))]) (.tr (rl [0, 2, 0, 0]) false (.block 2 (.loop (rl [0, 2,
  0, 0, 0]) xf32_l0)))) (.seq (.tr (rl [0, 2, 0, 36]) false (.region false [(oP 40 (.mv (T 5))), (oP 41 (.un .not (T 40)))])) (.tr (rl [0, 2, 0]) false (.cond
  (T 41) (.tr (rl [0, 2, 0]) false (.region false [(oP 42 (.mv (T 3))), (oP 43 (.mv (T 0))), (oP 44 (.mv (T 4))), (oP 45 (.iaddrS 7 (T 43) (T 44))), (oP 46
  (.faddr 0 (T 45))), (oR 47 (.load false 1 (T 46))), (oP 48 (.buildSl [(.pv (.int .i64 0))] 1 1 [(0, (1, (T 47)))])), (oW 49 (.app 1 8 (T 42) (T 48))), (oP 3
  (.mv (T 49)))])) .skip))))))) (.tr (rl [0, 2, 0]) false (.region false [(oP 12 (.mv (T 4))), (oP 13 (.bin .add (T 12) (tI 1))), (oP 4 (.mv (T 13)))]))))
def xf32 : XFunc :=
(.mk 51 [(.tmp 2)] (.seq (.tr (rl [0]) false (.region false [(oP 2 (.mv (.lit (.c (.pv (.sl .nil 0 []))))))])) (.seq (.tr (rl [0, 2]) false (.region false [(oP
  7 (.buildSl [(.pv (.int .i64 0))] 0 1 [])), (oP 3 (.mv (T 7)))])) (.seq (.seq (.region false [(oP 4 (.mv (tI 0)))]) (.tr (rl [3]) false (.block 0 (.loop (rl
  [0, 2, 0]) xf32_l1)))) (.seq (.tr (rl [2]) false (.region false [(oP 50 (.mv (T 3))), (oP 2 (.mv (T 50)))])) (.tr (rl [2]) false .ret))))))
theorem xf32_ok : cmpFunc Go.Proofs.Tryd.prog 32 ((.two (.tr (rl [0]) false .no) (.two (.tr (rl [0, 2]) false .no) (.two (.two .no (.tr (rl [3]) false (.loop (rl [0, 2, 0]) (.two (.two (.tr (rl [0, 2, 0, 6]) false .no) (.tr (rl [0, 2, 0]) false (.two .no (.tr (rl [3]) false .no)))) (.two (.tr (rl [0, 2, 0]) false (.two (.tr (rl [0, 2, 0, 0]) false .no) (.two (.two .no (.tr (rl [0, 2, 0, 0]) false (.loop (rl [0, 2, 0, 0, 0]) (.two (.two (.tr (rl [0, 2, 0, 0, 0, 16]) false .no) (.tr (rl [0, 2, 0, 0, 0]) false (.two .no (.tr (rl [0, 2, 0, 0]) false .no)))) (.two (.tr (rl [0, 2, 0, 0, 0]) false (.tr (rl [0, 2, 0, 0, 0]) false (.draw [0, 1, 2, 3, 4, 5, 6, 7, 8, 9, 10, 11, 12, 13, 14] []))) (.tr (rl [0, 2, 0, 0, 0]) false .no)))))) (.two (.tr (rl [0, 2, 0, 36]) false .no) (.tr (rl [0, 2, 0]) false (.two (.tr (rl [0, 2, 0]) false .no) .no)))))) (.tr (rl [0, 2, 0]) false .no)))))) (.two (.tr (rl [2]) false .no) (.tr (rl [2]) false .no)))))) = some xf32 := by kernel_rfl
def xf33_l0 : XCode :=
(.seq (.region false [(oP 24 (.bin .lss (T 23) (T 22)))]) (.seq (.tr (rl [0, 0, 0, 0, 17, 0, 0]) false (.cond (T 24) .skip (.tr (rl [0, 0, 0, 0]) false (.exit
  0)))) (.seq (.tr (rl [0, 0, 0, 0, 4, 0, 11, 0, 0]) false (.block 1 (.seq (.tr (rl [0, 0, 0, 0, 7, 9, 0, 0]) false (.region false [(oP 25 (.iaddrS 7 (T 21) (T
  23))), (oR 26 (.load true 7 (T 25))), (oW 11 (.alloc [(.pv (.int .i64 0)), (.pv (.int .i32 0)), (.pv (.int .i32 0)), (.pv (.sl .nil 0 [])), (.pv (.int .i64
  0)), (.pv (.int .i64 0)), (.pv (.str []))])), (sW (.store 7 (T 11) (T 26)))])) (.seq (.tr (rl [0, 0, 0, 0, 8, 8, 0, 0]) false (.region false [(oR 27 (.load
  true 7 (T 11))), (oP 28 (.call false [] (.lit (.c (.fn 37 []))) [(T 27)])), (oP 12 (.mv (T 28)))])) (.seq (.tr (rl [0, 0, 0, 0, 8, 8, 0, 0, 6]) false (.region
  false [(oP 29 (.mv (T 12))), (oP 30 (.bin .neq (T 29) (tI 0)))])) (.tr (rl [0, 0, 0, 0, 4, 0, 11, 0, 0]) false (.cond (T 30) (.seq (.tr (rl [8, 0]) false
  (.region false [(oP 31 (.mv (T 12))), (oP 8 (.mv (tI 0))), (oP 9 (.mv (T 31)))])) (.tr (rl [8, 0]) false .ret)) .skip))))))) (.tr (rl [0, 0, 0, 0, 17, 0, 0])
  false (.region false [(oP 32 (.bin .add (T 23) (tI 1))), (oP 23 (.mv (T 32)))])))))
def xf33_l1 : XCode :=
(.seq (.region false [(oP 42 (.bin .lss (T 41) (T 40)))]) (.seq (.tr (rl [1, 0, 0, 9, 25, 0, 0]) false (.cond (T 42) .skip (.tr (rl [13]) false (.exit 2))))
  (.seq (.tr (rl [1, 0, 0, 9, 25, 0, 0]) false (.block 3 (.seq (.tr (rl [1, 0, 0, 9, 1, 23, 0, 0]) false (.region false [(oP 43 (.iaddrS 7 (T 39) (T 41))), (oR
  44 (.load true 7 (T 43))), (oW 15 (.alloc [(.pv (.int .i64 0)), (.pv (.int .i32 0)), (.pv (.int .i32 0)), (.pv (.sl .nil 0 [])), (.pv (.int .i64 0)), (.pv
  (.int .i64 0)), (.pv (.str []))])), (sW (.store 7 (T 15) (T 44)))])) (.seq (.tr (rl [1, 0, 0, 9, 1, 0, 22, 0, 0]) false (.region false [(oR 46 (.load true 7
  (T 15))), (oP 47 (.mv (T 1))), (oP 48 (.mv (T 2))), (oP 49 (.call false [] (.lit (.c (.fn 40 []))) [(T 46), (T 47), (T 48)])), (oP 45 (.mv (T 49))), (oP 50
  (.extr 0 (T 45))), (oP 51 (.extr 1 (T 45))), (oP 16 (.mv (T 50))), (oP 17 (.mv (T 51)))])) (.seq (.tr (rl [1, 0, 0, 9, 2, 22, 0, 0, 13]) false (.region false
  [(oP 52 (.faddr 2 (T 15))), (oR 53 (.load false 1 (T 52))), (oP 54 (.mv (T 3))), (oP 55 (.bin .leq (T 53) (T 54)))])) (.tr (rl [1, 0, 0, 9, 25, 0, 0]) false
  (.cond (T 55) (.tr (rl [1, 0, 0, 9, 25, 0, 0]) false (.region false [(oP 56 (.mv (T 13))), (oP 57 (.mv (T 16))), (oP 58 (.bin .add (T 56) (T 57))), (oP 13
  (.mv (T 58)))])) .skip))))))) (.tr (rl [1, 0, 0, 9, 25, 0, 0]) false (.region false [(oP 59 (.bin .add (T 41) (tI 1))), (oP 41 (.mv (T 59)))])))))
def xf33 : XFunc :=
(.mk 61 [(.tmp 8), (.tmp 9)] (.seq (.tr (rl [0, 0, 0, 0]) false (.region false [(oP 8 (.mv (tI 0))), (oP 9 (.mv (tI 0)))])) (.seq (.seq (.tr (rl [0, 0, 0, 0,
  16]) false (.region false [(oP 18 (.mv (T 0))), (oP 19 (.len (T 18))), (oP 20 (.bin .gtr (T 19) (tI 400)))])) (.tr (rl [0, 0, 0, 0, 4, 0]) false (.cond (T 20)
  (.seq (.region false [(oP 8 (.mv (tI 0))), (oP 9 (.mv (tI 4)))]) (.tr (rl [8, 0]) false .ret)) .skip))) (.seq (.seq (.region false [(oP 21 (.mv (T 0))), (oP
  22 (.len (T 21))), (oP 23 (.mv (tI 0)))]) (.tr (rl [0, 0, 0, 0, 4, 0]) false (.block 0 (.loop (rl [0, 0, 0, 0, 17, 0, 0]) xf33_l0)))) (.seq (.seq (.tr (rl [0,
  0, 0, 0, 34]) false (.region false [(oP 33 (.mv (T 2))), (oP 34 (.bin .lss (T 33) (tI 0))), (oP 35 (.mv (T 34))), (.mk (some 36) (.mv (T 2)) (some (35,
  false)) .p), (.mk (some 37) (.bin .geq (T 36) (tI 4)) (some (35, false)) .p), (oP 38 (.pick (T 35) (.lit (.c (.pv (.bool true)))) (T 37)))])) (.tr (rl [0, 0,
  0, 0, 4, 0]) false (.cond (T 38) (.seq (.region false [(oP 8 (.mv (tI 0))), (oP 9 (.mv (tI 12)))]) (.tr (rl [8, 0]) false .ret)) .skip))) (.seq (.region false
  [(oP 13 (.mv (tI 0)))]) (.seq (.seq (.tr (rl [1, 0, 0, 9, 25, 0, 0]) false (.region false [(oP 39 (.mv (T 0))), (oP 40 (.len (T 39))), (oP 41 (.mv (tI 0)))]))
  (.tr (rl [13]) false (.block 2 (.loop (rl [1, 0, 0, 9, 25, 0, 0]) xf33_l1)))) (.seq (.tr (rl [8, 0]) false (.region false [(oP 60 (.mv (T 13))), (oP 8 (.mv (T
  60))), (oP 9 (.mv (tI 0)))])) (.tr (rl [8, 0]) false .ret)))))))))
theorem xf33_ok : cmpFunc Go.Proofs.Tryd.prog 33 ((.two (.tr (rl [0, 0, 0, 0]) false .no) (.two (.two (.tr (rl [0, 0, 0, 0, 16]) false .no) (.tr (rl [0, 0, 0, 0, 4, 0]) false (.two (.two .no (.tr (rl [8, 0]) false .no)) .no))) (.two (.two .no (.tr (rl [0, 0, 0, 0, 4, 0]) false (.loop (rl [0, 0, 0, 0, 17, 0, 0]) (.two .no (.two (.tr (rl [0, 0, 0, 0, 17, 0, 0]) false (.two .no (.tr (rl [0, 0, 0, 0]) false .no))) (.two (.tr (rl [0, 0, 0, 0, 4, 0, 11, 0, 0]) false (.two (.tr (rl [0, 0, 0, 0, 7, 9, 0, 0]) false .no) (.two (.tr (rl [0, 0, 0, 0, 8, 8, 0, 0]) false (.ops [{}, { cls := some .p }])) (.two (.tr (rl [0, 0, 0, 0, 8, 8, 0, 0, 6]) false .no) (.tr (rl [0, 0, 0, 0, 4, 0, 11, 0, 0]) false (.two (.two (.tr (rl [8, 0]) false .no) (.tr (rl [8, 0]) false .no)) .no)))))) (.tr (rl [0, 0, 0, 0, 17, 0, 0]) false .no))))))) (.two (.two (.tr (rl [0, 0, 0, 0, 34]) false .no) (.tr (rl [0, 0, 0, 0, 4, 0]) false (.two (.two .no (.tr (rl [8, 0]) false .no)) .no))) (.two .no (.two (.two (.tr (rl [1, 0, 0, 9, 25, 0, 0]) false .no) (.tr (rl [13]) false (.loop (rl [1, 0, 0, 9, 25, 0, 0]) (.two .no (.two (.tr (rl [1, 0, 0, 9, 25, 0, 0]) false (.two .no (.tr (rl [13]) false .no))) (.two (.tr (rl [1, 0, 0, 9, 25, 0, 0]) false (.two (.tr (rl [1, 0, 0, 9, 1, 23, 0, 0]) false .no) (.two (.tr (rl [1, 0, 0, 9, 1, 0, 22, 0, 0]) false (.ops [{}, {}, {}, { cls := some .p }])) (.two (.tr (rl [1, 0, 0, 9, 2, 22, 0, 0, 13]) false .no) (.tr (rl [1, 0, 0, 9, 25, 0, 0]) false (.two (.tr (rl [1, 0, 0, 9, 25, 0, 0]) false .no) .no)))))) (.tr (rl [1, 0, 0, 9, 25, 0, 0]) false .no))))))) (.two (.tr (rl [8, 0]) false .no) (.tr (rl [8, 0]) false .no))))))))) = some xf33 := by kernel_rfl
def xf34_l0 : XCode :=
(.seq (.seq (.tr (rl [1, 1, 42]) false (.region false [(oP 42 (.mv (T 3))), (oP 43 (.faddr 6 (T 1))), (oR 44 (.load false 1 (T 43))), (oP 45 (.lenS (T 44))),
  (oP 46 (.bin .lss (T 42) (T 45)))])) (.tr (rl [1, 1]) false (.cond (T 46) .skip (.tr (rl [1]) false (.exit 0))))) (.seq (.tr (rl [1, 0, 0]) false (.block 1
  (.seq (.tr (rl [1, 1, 56]) false (.region false [(oP 49 (.faddr 6 (T 1))), (oR 50 (.load false 1 (T 49))), (oP 51 (.mv (T 3))), (oP 52 (.idxS (T 50) (T 51))),
  (oP 53 (.bin .lss (T 52) (.lit (.c (.pv (.int .u8 32)))))), (oP 54 (.mv (T 53))), (.mk (some 55) (.faddr 6 (T 1)) (some (54, false)) .p), (.mk (some 56)
  (.load false 1 (T 55)) (some (54, false)) .r), (.mk (some 57) (.mv (T 3)) (some (54, false)) .p), (.mk (some 58) (.idxS (T 56) (T 57)) (some (54, false)) .p),
  (.mk (some 59) (.bin .gtr (T 58) (.lit (.c (.pv (.int .u8 126))))) (some (54, false)) .p), (oP 60 (.pick (T 54) (.lit (.c (.pv (.bool true)))) (T 59)))]))
  (.tr (rl [1, 0, 0]) false (.cond (T 60) (.seq (.region false [(oP 2 (.mv (tI 1)))]) (.tr (rl [2]) false .ret)) .skip))))) (.tr (rl [1, 1]) false (.region
  false [(oP 47 (.mv (T 3))), (oP 48 (.bin .add (T 47) (tI 1))), (oP 3 (.mv (T 48)))]))))
def xf34 : XFunc :=
(.mk 84 [(.tmp 2)] (.seq (.tr (rl [1]) false (.region false [(oW 1 (.box (T 0) 7)), (oP 2 (.mv (tI 0)))])) (.seq (.seq (.tr (rl [1, 39]) false (.region false
  [(oP 6 (.faddr 0 (T 1))), (oR 7 (.load false 1 (T 6))), (oP 8 (.bin .lss (T 7) (tI 1))), (oP 9 (.mv (T 8))), (.mk (some 10) (.faddr 0 (T 1)) (some (9, false))
  .p), (.mk (some 11) (.load false 1 (T 10)) (some (9, false)) .r), (.mk (some 12) (.bin .gtr (T 11) (tI 1000000)) (some (9, false)) .p), (oP 13 (.pick (T 9)
  (.lit (.c (.pv (.bool true)))) (T 12))), (oP 14 (.mv (T 13))), (.mk (some 15) (.faddr 4 (T 1)) (some (14, false)) .p), (.mk (some 16) (.load false 1 (T 15))
  (some (14, false)) .r), (.mk (some 17) (.bin .lss (T 16) (tI 0)) (some (14, false)) .p), (oP 18 (.pick (T 14) (.lit (.c (.pv (.bool true)))) (T 17))), (oP 19
  (.mv (T 18))), (.mk (some 20) (.faddr 4 (T 1)) (some (19, false)) .p), (.mk (some 21) (.load false 1 (T 20)) (some (19, false)) .r), (.mk (some 22) (.faddr 0
  (T 1)) (some (19, false)) .p), (.mk (some 23) (.load false 1 (T 22)) (some (19, false)) .r), (.mk (some 24) (.bin .geq (T 21) (T 23)) (some (19, false)) .p),
  (oP 25 (.pick (T 19) (.lit (.c (.pv (.bool true)))) (T 24))), (oP 26 (.mv (T 25))), (.mk (some 27) (.faddr 5 (T 1)) (some (26, false)) .p), (.mk (some 28)
  (.load false 1 (T 27)) (some (26, false)) .r), (.mk (some 29) (.bin .lss (T 28) (tI 0)) (some (26, false)) .p), (oP 30 (.pick (T 26) (.lit (.c (.pv (.bool
  true)))) (T 29))), (oP 31 (.mv (T 30))), (.mk (some 32) (.faddr 5 (T 1)) (some (31, false)) .p), (.mk (some 33) (.load false 1 (T 32)) (some (31, false)) .r),
  (.mk (some 34) (.bin .gtr (T 33) (tI 4)) (some (31, false)) .p), (oP 35 (.pick (T 31) (.lit (.c (.pv (.bool true)))) (T 34))), (oP 36 (.mv (T 35))), (.mk
  (some 37) (.faddr 6 (T 1)) (some (36, false)) .p), (.mk (some 38) (.load false 1 (T 37)) (some (36, false)) .r), (.mk (some 39) (.lenS (T 38)) (some (36,
  false)) .p), (.mk (some 40) (.bin .gtr (T 39) (tI 32)) (some (36, false)) .p), (oP 41 (.pick (T 36) (.lit (.c (.pv (.bool true)))) (T 40)))])) (.tr (rl [1,
  0]) false (.cond (T 41) (.seq (.region false [(oP 2 (.mv (tI 1)))]) (.tr (rl [2]) false .ret)) .skip))) (.seq (.seq (.region false [(oP 3 (.mv (tI 0)))]) (.tr
  (rl [1, 0]) false (.block 0 (.loop (rl [1, 1]) xf34_l0)))) (.seq (.tr (rl [1, 2]) false (.region false [(oP 61 (.faddr 1 (T 1))), (oR 62 (.load false 1 (T
  61))), (oP 63 (.call false [] (.lit (.c (.fn 72 []))) [(T 62)])), (oP 4 (.mv (T 63)))])) (.seq (.tr (rl [1, 2, 0]) false (.region false [(oP 64 (.faddr 2 (T
  1))), (oR 65 (.load false 1 (T 64))), (oP 66 (.call false [] (.lit (.c (.fn 72 []))) [(T 65)])), (oP 5 (.mv (T 66)))])) (.seq (.seq (.tr (rl [1, 70]) false
  (.region false [(oP 67 (.mv (T 4))), (oP 68 (.un .not (T 67))), (oP 69 (.mv (T 68))), (.mk (some 70) (.mv (T 5)) (some (69, false)) .p), (.mk (some 71) (.un
  .not (T 70)) (some (69, false)) .p), (oP 72 (.pick (T 69) (.lit (.c (.pv (.bool true)))) (T 71)))])) (.tr (rl [1, 0]) false (.cond (T 72) (.seq (.region false
  [(oP 2 (.mv (tI 11)))]) (.tr (rl [2]) false .ret)) .skip))) (.seq (.seq (.tr (rl [1, 74]) false (.region false [(oP 73 (.faddr 3 (T 1))), (oR 74 (.load false
  1 (T 73))), (oP 75 (.len (T 74))), (oP 76 (.bin .lss (T 75) (tI 2)))])) (.tr (rl [1, 0]) false (.cond (T 76) (.seq (.region false [(oP 2 (.mv (tI 2)))]) (.tr
  (rl [2]) false .ret)) .skip))) (.seq (.seq (.tr (rl [1, 78]) false (.region false [(oP 77 (.faddr 3 (T 1))), (oR 78 (.load false 1 (T 77))), (oP 79 (.len (T
  78))), (oP 80 (.bin .gtr (T 79) (tI 16)))])) (.tr (rl [1, 0]) false (.cond (T 80) (.seq (.region false [(oP 2 (.mv (tI 4)))]) (.tr (rl [2]) false .ret))
  .skip))) (.seq (.tr (rl [2]) false (.region false [(oP 81 (.faddr 3 (T 1))), (oR 82 (.load false 1 (T 81))), (oP 83 (.call false [] (.lit (.c (.fn 73 [])))
  [(T 82)])), (oP 2 (.mv (T 83)))])) (.tr (rl [2]) false .ret)))))))))))
theorem xf34_ok : cmpFunc Go.Proofs.Tryd.prog 34 ((.two (.tr (rl [1]) false .no) (.two (.two (.tr (rl [1, 39]) false .no) (.tr (rl [1, 0]) false (.two (.two .no (.tr (rl [2]) false .no)) .no))) (.two (.two .no (.tr (rl [1, 0]) false (.loop (rl [1, 1]) (.two (.two (.tr (rl [1, 1, 42]) false .no) (.tr (rl [1, 1]) false (.two .no (.tr (rl [1]) false .no)))) (.two (.tr (rl [1, 0, 0]) false (.two (.tr (rl [1, 1, 56]) false .no) (.tr (rl [1, 0, 0]) false (.two (.two .no (.tr (rl [2]) false .no)) .no)))) (.tr (rl [1, 1]) false .no)))))) (.two (.tr (rl [1, 2]) false (.ops [{}, {}, { cls := some .p }])) (.two (.tr (rl [1, 2, 0]) false (.ops [{}, {}, { cls := some .p }])) (.two (.two (.tr (rl [1, 70]) false .no) (.tr (rl [1, 0]) false (.two (.two .no (.tr (rl [2]) false .no)) .no))) (.two (.two (.tr (rl [1, 74]) false .no) (.tr (rl [1, 0]) false (.two (.two .no (.tr (rl [2]) false .no)) .no))) (.two (.two (.tr (rl [1, 78]) false .no) (.tr (rl [1, 0]) false (.two (.two .no (.tr (rl [2]) false .no)) .no))) (.two (.tr (rl [2]) false (.ops [{}, {}, { cls := some .p }])) (.tr (rl [2]) false .no))))))))))) = some xf34 := by kernel_rfl
def xf37 : XFunc :=
(.mk 47 [(.tmp 2)] (.seq (.tr (rl [1]) false (.region false [(oW 1 (.box (T 0) 7)), (oP 2 (.mv (tI 0)))])) (.seq (.tr (rl [1, 1]) false (.region false [(oP 4
  (.mkfn 74 [(T 1)])), (oP 3 (.mv (T 4)))])) (.seq (.tr (rl [2]) false (.block 0 (.seq (.tr (rl [1, 1, 1]) false (.region false [(oR 6 (.load true 7 (T 1))),
  (oP 7 (.call false [] (.lit (.c (.fn 76 []))) [(T 6)])), (oP 8 (.un .not (T 7))), (oP 5 (.mv (T 8)))])) (.tr (rl [2]) false (.cond (T 5) (.seq (.region false
  [(oP 2 (.mv (tI 1)))]) (.tr (rl [2]) false .ret)) (.seq (.tr (rl [1, 1, 5]) false (.region false [(oP 10 (.faddr 1 (T 1))), (oR 11 (.load false 1 (T 10))),
  (oP 12 (.call false [] (.lit (.c (.fn 77 []))) [(T 11)])), (oP 13 (.un .not (T 12))), (oP 14 (.mv (T 13))), (.mk (some 15) (.faddr 2 (T 1)) (some (14, false))
  .p), (.mk (some 16) (.load false 1 (T 15)) (some (14, false)) .r), (.mk (some 17) (.call false [] (.lit (.c (.fn 77 []))) [(T 16)]) (some (14, false)) .p),
  (.mk (some 18) (.un .not (T 17)) (some (14, false)) .p), (oP 19 (.pick (T 14) (.lit (.c (.pv (.bool true)))) (T 18))), (oP 9 (.mv (T 19)))])) (.tr (rl [2])
  false (.cond (T 9) (.seq (.region false [(oP 2 (.mv (tI 11)))]) (.tr (rl [2]) false .ret)) (.seq (.tr (rl [1, 1, 16]) false (.region false [(oP 21 (.faddr 3
  (T 1))), (oR 22 (.load false 1 (T 21))), (oP 23 (.len (T 22))), (oP 24 (.bin .lss (T 23) (tI 2))), (oP 20 (.mv (T 24)))])) (.tr (rl [2]) false (.cond (T 20)
  (.seq (.region false [(oP 2 (.mv (tI 2)))]) (.tr (rl [2]) false .ret)) (.seq (.tr (rl [1, 1, 21]) false (.region false [(oP 26 (.faddr 3 (T 1))), (oR 27
  (.load false 1 (T 26))), (oP 28 (.len (T 27))), (oP 29 (.bin .gtr (T 28) (tI 16))), (oP 25 (.mv (T 29)))])) (.tr (rl [2]) false (.cond (T 25) (.seq (.region
  false [(oP 2 (.mv (tI 4)))]) (.tr (rl [2]) false .ret)) (.seq (.tr (rl [1, 1, 26]) false (.region false [(oP 31 (.mv (T 3))), (oW 32 (.call false [] (T 31)
  [(.lit (.c (.fn 78 [])))])), (oP 30 (.mv (T 32)))])) (.tr (rl [2]) false (.cond (T 30) (.seq (.region false [(oP 2 (.mv (tI 8)))]) (.tr (rl [2]) false .ret))
  (.seq (.tr (rl [1, 1, 29]) false (.region false [(oP 34 (.mv (T 3))), (oW 35 (.call false [] (T 34) [(.lit (.c (.fn 79 [])))])), (oP 33 (.mv (T 35)))])) (.tr
  (rl [2]) false (.cond (T 33) (.seq (.region false [(oP 2 (.mv (tI 12)))]) (.tr (rl [2]) false .ret)) (.seq (.tr (rl [1, 1, 32]) false (.region false [(oP 37
  (.mv (T 3))), (oW 38 (.call false [] (T 37) [(.lit (.c (.fn 81 [])))])), (oP 36 (.mv (T 38)))])) (.tr (rl [2]) false (.cond (T 36) (.seq (.region false [(oP 2
  (.mv (tI 9)))]) (.tr (rl [2]) false .ret)) (.seq (.tr (rl [1, 37]) false (.region false [(oP 40 (.mv (T 3))), (oW 41 (.call false [] (T 40) [(.lit (.c (.fn 83
  [])))])), (oP 39 (.mv (T 41)))])) (.tr (rl [2]) false (.cond (T 39) (.seq (.region false [(oP 2 (.mv (tI 10)))]) (.tr (rl [2]) false .ret)) (.seq (.tr (rl
  [42]) false (.region false [(oP 43 (.faddr 3 (T 1))), (oR 44 (.load false 1 (T 43))), (oP 45 (.call false [] (.lit (.c (.fn 84 []))) [(T 44)])), (oP 46 (.un
  .not (T 45))), (oP 42 (.mv (T 46)))])) (.tr (rl [2]) false (.cond (T 42) (.seq (.region false [(oP 2 (.mv (tI 15)))]) (.tr (rl [2]) false .ret))
  .skip))))))))))))))))))))))))))))) (.seq (.region false [(oP 2 (.mv (tI 0)))]) (.tr (rl [2]) false .ret))))))
theorem xf37_ok : cmpFunc Go.Proofs.Tryd.prog 37 ((.two (.tr (rl [1]) false .no) (.two (.tr (rl [1, 1]) false .no) (.two (.tr (rl [2]) false (.two (.tr (rl [1, 1, 1]) false (.ops [{}, { cls := some .p }])) (.tr (rl [2]) false (.two (.two .no (.tr (rl [2]) false .no)) (.two (.tr (rl [1, 1, 5]) false (.ops [{}, {}, { cls := some .p }, {}, {}, {}, {}, { cls := some .p }])) (.tr (rl [2]) false (.two (.two .no (.tr (rl [2]) false .no)) (.two (.tr (rl [1, 1, 16]) false .no) (.tr (rl [2]) false (.two (.two .no (.tr (rl [2]) false .no)) (.two (.tr (rl [1, 1, 21]) false .no) (.tr (rl [2]) false (.two (.two .no (.tr (rl [2]) false .no)) (.two (.tr (rl [1, 1, 26]) false .no) (.tr (rl [2]) false (.two (.two .no (.tr (rl [2]) false .no)) (.two (.tr (rl [1, 1, 29]) false .no) (.tr (rl [2]) false (.two (.two .no (.tr (rl [2]) false .no)) (.two (.tr (rl [1, 1, 32]) false .no) (.tr (rl [2]) false (.two (.two .no (.tr (rl [2]) false .no)) (.two (.tr (rl [1, 37]) false .no) (.tr (rl [2]) false (.two (.two .no (.tr (rl [2]) false .no)) (.two (.tr (rl [42]) false (.ops [{}, {}, { cls := some .p }])) (.tr (rl [2]) false (.two (.two .no (.tr (rl [2]) false .no)) .no)))))))))))))))))))))))))))) (.two .no (.tr (rl [2]) false .no)))))) = some xf37 := by kernel_rfl
def xf38_l0 : XCode :=
(.seq (.region false [(oP 45 (.bin .lss (T 44) (T 43)))]) (.seq (.tr (rl [6, 2, 33, 0]) false (.cond (T 45) .skip (.tr (rl [6, 2]) false (.exit 0)))) (.seq (.tr
  (rl [6, 2, 33, 0]) false (.block 1 (.seq (.tr (rl [6, 2, 0, 32, 0]) false (.region false [(oP 46 (.mv (T 44))), (oP 10 (.mv (T 46)))])) (.tr (rl [6, 2, 33,
  0]) false (.region true [(oP 47 (.faddr 3 (T 9))), (oR 48 (.load false 1 (T 47))), (oP 49 (.mv (T 10))), (oP 50 (.faddr 3 (T 9))), (oR 51 (.load false 1 (T
  50))), (oP 52 (.mv (T 10))), (oP 53 (.iaddrS 3 (T 51) (T 52))), (oP 54 (.faddr 1 (T 53))), (oP 55 (.faddr 1 (T 54))), (oR 56 (.load false 1 (T 55))), (oP 57
  (.un .neg (T 56))), (oP 58 (.iaddrS 3 (T 48) (T 49))), (oP 59 (.faddr 1 (T 58))), (oP 60 (.faddr 1 (T 59))), (sW (.store 1 (T 60) (T 57)))]))))) (.tr (rl [6,
  2, 33, 0]) false (.region false [(oP 61 (.bin .add (T 44) (tI 1))), (oP 44 (.mv (T 61)))])))))
def xf38 : XFunc :=
(.mk 69 [(.cell 6 true 7), (.tmp 7)] (.seq (.tr (rl [1, 0, 0, 2]) false (.region false [(oW 3 (.box (T 0) 7)), (oW 6 (.alloc [(.pv (.int .i64 0)), (.pv (.int
  .i32 0)), (.pv (.int .i32 0)), (.pv (.sl .nil 0 [])), (.pv (.int .i64 0)), (.pv (.int .i64 0)), (.pv (.str []))])), (oP 7 (.mv (tI 0)))])) (.seq (.seq (.tr
  (rl [1, 0, 0, 2, 1]) false (.region false [(oR 12 (.load true 7 (T 3))), (oP 13 (.call false [] (.lit (.c (.fn 37 []))) [(T 12)])), (oP 8 (.mv (T 13)))]))
  (.seq (.tr (rl [1, 0, 0, 2, 1, 6]) false (.region false [(oP 14 (.mv (T 8))), (oP 15 (.bin .neq (T 14) (tI 0)))])) (.tr (rl [1, 0, 0, 2, 0]) false (.cond (T
  15) (.seq (.tr (rl [6, 0]) false (.region false [(oP 16 (.build [(.pv (.int .i64 0)), (.pv (.int .i32 0)), (.pv (.int .i32 0)), (.pv (.sl .nil 0 [])), (.pv
  (.int .i64 0)), (.pv (.int .i64 0)), (.pv (.str []))] [])), (oP 17 (.mv (T 8))), (sW (.store 7 (T 6) (T 16))), (oP 7 (.mv (T 17)))])) (.tr (rl [6, 0]) false
  .ret)) .skip)))) (.seq (.seq (.tr (rl [1, 0, 0, 2, 20]) false (.region false [(oP 18 (.mv (T 1))), (oP 19 (.faddr 0 (T 3))), (oR 20 (.load false 1 (T 19))),
  (oP 21 (.bin .leq (T 18) (T 20))), (oP 22 (.mv (T 21))), (.mk (some 23) (.mv (T 2)) (some (22, false)) .p), (.mk (some 24) (.faddr 1 (T 3)) (some (22, false))
  .p), (.mk (some 25) (.load false 1 (T 24)) (some (22, false)) .r), (.mk (some 26) (.bin .lss (T 23) (T 25)) (some (22, false)) .p), (oP 27 (.pick (T 22) (.lit
  (.c (.pv (.bool true)))) (T 26)))])) (.tr (rl [1, 0, 0, 2, 0]) false (.cond (T 27) (.seq (.tr (rl [6, 0]) false (.region false [(oP 28 (.build [(.pv (.int
  .i64 0)), (.pv (.int .i32 0)), (.pv (.int .i32 0)), (.pv (.sl .nil 0 [])), (.pv (.int .i64 0)), (.pv (.int .i64 0)), (.pv (.str []))] [])), (sW (.store 7 (T
  6) (T 28))), (oP 7 (.mv (tI 20)))])) (.tr (rl [6, 0]) false .ret)) .skip))) (.seq (.tr (rl [1, 0, 0, 2, 2]) false (.region false [(oR 29 (.load true 7 (T
  3))), (oW 9 (.alloc [(.pv (.int .i64 0)), (.pv (.int .i32 0)), (.pv (.int .i32 0)), (.pv (.sl .nil 0 [])), (.pv (.int .i64 0)), (.pv (.int .i64 0)), (.pv
  (.str []))])), (sW (.store 7 (T 9) (T 29)))])) (.seq (.tr (rl [6, 2]) false (.region true [(oP 30 (.mv (T 1))), (oP 31 (.mv (T 2))), (oP 32 (.faddr 0 (T 3))),
  (oR 33 (.loadR false 1 (T 32) (T 3))), (oP 34 (.faddr 3 (T 3))), (oR 35 (.load false 1 (T 34))), (oP 37 (.faddr 0 (T 9))), (oW 36 (.callM (.lit (.c (.fn 85
  []))) [(T 35)])), (sW (.storeO 1 (T 37) (T 30) (T 3))), (oP 38 (.faddr 1 (T 9))), (sW (.storeO 1 (T 38) (T 31) (T 3))), (oP 39 (.faddr 4 (T 9))), (sW (.store
  1 (T 39) (T 33))), (oP 40 (.faddr 3 (T 9))), (sW (.store 1 (T 40) (T 36)))])) (.seq (.seq (.tr (rl [6, 2, 33, 0]) false (.region false [(oP 41 (.faddr 3 (T
  9))), (oR 42 (.load false 1 (T 41))), (oP 43 (.len (T 42))), (oP 44 (.mv (tI 0)))])) (.tr (rl [6, 2]) false (.block 0 (.loop (rl [6, 2, 33, 0]) xf38_l0))))
  (.seq (.seq (.tr (rl [6, 2, 1]) false (.region false [(oR 62 (.load true 7 (T 9))), (oW 63 (.call true [] (.lit (.c (.fn 37 []))) [(T 62)])), (oP 11 (.mv (T
  63)))])) (.seq (.tr (rl [6, 2, 1, 53]) false (.region false [(oP 64 (.mv (T 11))), (oP 65 (.bin .neq (T 64) (tI 0)))])) (.tr (rl [6, 0, 1]) false (.cond (T
  65) (.seq (.tr (rl [6, 0]) false (.region false [(oP 66 (.build [(.pv (.int .i64 0)), (.pv (.int .i32 0)), (.pv (.int .i32 0)), (.pv (.sl .nil 0 [])), (.pv
  (.int .i64 0)), (.pv (.int .i64 0)), (.pv (.str []))] [])), (oP 67 (.mv (T 11))), (sW (.store 7 (T 6) (T 66))), (oP 7 (.mv (T 67)))])) (.tr (rl [6, 0]) false
  .ret)) .skip)))) (.seq (.tr (rl [6, 0]) false (.region false [(oR 68 (.load true 7 (T 9))), (sW (.store 7 (T 6) (T 68))), (oP 7 (.mv (tI 0)))])) (.tr (rl [6,
  0]) false .ret))))))))))
theorem xf38_ok : cmpFunc Go.Proofs.Tryd.prog 38 ((.two (.tr (rl [1, 0, 0, 2]) false .no) (.two (.two (.tr (rl [1, 0, 0, 2, 1]) false (.ops [{}, { cls := some .p }])) (.two (.tr (rl [1, 0, 0, 2, 1, 6]) false .no) (.tr (rl [1, 0, 0, 2, 0]) false (.two (.two (.tr (rl [6, 0]) false .no) (.tr (rl [6, 0]) false .no)) .no)))) (.two (.two (.tr (rl [1, 0, 0, 2, 20]) false .no) (.tr (rl [1, 0, 0, 2, 0]) false (.two (.two (.tr (rl [6, 0]) false .no) (.tr (rl [6, 0]) false .no)) .no))) (.two (.tr (rl [1, 0, 0, 2, 2]) false .no) (.two (.tr (rl [6, 2]) false (.draw [0, 1, 2, 3, 4, 5, 7, 6, 8, 9, 10, 11, 12, 13, 14] [{}, {}, {}, { root := some 3 }, {}, {}, { own := true }, {}, { root := some 3 }, {}, { root := some 3 }])) (.two (.two (.tr (rl [6, 2, 33, 0]) false .no) (.tr (rl [6, 2]) false (.loop (rl [6, 2, 33, 0]) (.two .no (.two (.tr (rl [6, 2, 33, 0]) false (.two .no (.tr (rl [6, 2]) false .no))) (.two (.tr (rl [6, 2, 33, 0]) false (.two (.tr (rl [6, 2, 0, 32, 0]) false .no) (.tr (rl [6, 2, 33, 0]) false (.draw [0, 1, 2, 3, 4, 5, 6, 7, 8, 9, 10, 11, 12, 13, 14] [])))) (.tr (rl [6, 2, 33, 0]) false .no))))))) (.two (.two (.tr (rl [6, 2, 1]) false (.ops [{}, { fz := true }])) (.two (.tr (rl [6, 2, 1, 53]) false .no) (.tr (rl [6, 0, 1]) false (.two (.two (.tr (rl [6, 0]) false .no) (.tr (rl [6, 0]) false .no)) .no)))) (.two (.tr (rl [6, 0]) false .no) (.tr (rl [6, 0]) false .no)))))))))) = some xf38 := by kernel_rfl
def xf40 : XFunc :=
(.mk 13 [(.tmp 6), (.tmp 7)] (.seq (.tr (rl [3, 0, 0]) false (.region false [(oW 3 (.box (T 0) 7)), (oW 4 (.box (T 1) 1)), (oW 5 (.box (T 2) 1)), (oP 6 (.mv (tI
  0))), (oP 7 (.mv (tI 0)))])) (.seq (.tr (rl [6, 0]) false (.region false [(oR 8 (.load true 7 (T 3))), (oP 9 (.mkfn 88 [(T 4), (T 5)])), (oW 10 (.call false
  [] (.lit (.c (.fn 87 []))) [(T 8), (T 9)])), (oP 11 (.extr 0 (T 10))), (oP 12 (.extr 1 (T 10))), (oP 6 (.mv (T 11))), (oP 7 (.mv (T 12)))])) (.tr (rl [6, 0])
  false .ret))))
theorem xf40_ok : cmpFunc Go.Proofs.Tryd.prog 40 ((.two (.tr (rl [3, 0, 0]) false .no) (.two (.tr (rl [6, 0]) false .no) (.tr (rl [6, 0]) false .no)))) = some xf40 := by kernel_rfl
def xf43 : XFunc :=
(.mk 52 [(.tmp 4)] (.seq (.tr (rl [2, 0]) false (.region false [(oW 2 (.box (T 0) 7)), (oW 3 (.box (T 1) 7)), (oP 4 (.mv (.lit (.c (.pv (.bool false))))))]))
  (.seq (.tr (rl [4]) false (.region false [(oP 5 (.faddr 3 (T 2))), (oR 6 (.load false 1 (T 5))), (oP 7 (.faddr 3 (T 3))), (oR 8 (.load false 1 (T 7))), (oP 9
  (.call false [] (.lit (.c (.fn 96 []))) [(T 6), (T 8)])), (oP 10 (.mv (T 9))), (.mk (some 11) (.faddr 0 (T 2)) (some (10, true)) .p), (.mk (some 12) (.load
  false 1 (T 11)) (some (10, true)) .r), (.mk (some 13) (.faddr 0 (T 3)) (some (10, true)) .p), (.mk (some 14) (.load false 1 (T 13)) (some (10, true)) .r),
  (.mk (some 15) (.bin .eql (T 12) (T 14)) (some (10, true)) .p), (oP 16 (.pick (T 10) (T 15) (.lit (.c (.pv (.bool false)))))), (oP 17 (.mv (T 16))), (.mk
  (some 18) (.faddr 1 (T 2)) (some (17, true)) .p), (.mk (some 19) (.load false 1 (T 18)) (some (17, true)) .r), (.mk (some 20) (.faddr 1 (T 3)) (some (17,
  true)) .p), (.mk (some 21) (.load false 1 (T 20)) (some (17, true)) .r), (.mk (some 22) (.bin .eql (T 19) (T 21)) (some (17, true)) .p), (oP 23 (.pick (T 17)
  (T 22) (.lit (.c (.pv (.bool false)))))), (oP 24 (.mv (T 23))), (.mk (some 25) (.faddr 2 (T 2)) (some (24, true)) .p), (.mk (some 26) (.load false 1 (T 25))
  (some (24, true)) .r), (.mk (some 27) (.faddr 2 (T 3)) (some (24, true)) .p), (.mk (some 28) (.load false 1 (T 27)) (some (24, true)) .r), (.mk (some 29)
  (.bin .eql (T 26) (T 28)) (some (24, true)) .p), (oP 30 (.pick (T 24) (T 29) (.lit (.c (.pv (.bool false)))))), (oP 31 (.mv (T 30))), (.mk (some 32) (.faddr 4
  (T 2)) (some (31, true)) .p), (.mk (some 33) (.load false 1 (T 32)) (some (31, true)) .r), (.mk (some 34) (.faddr 4 (T 3)) (some (31, true)) .p), (.mk (some
  35) (.load false 1 (T 34)) (some (31, true)) .r), (.mk (some 36) (.bin .eql (T 33) (T 35)) (some (31, true)) .p), (oP 37 (.pick (T 31) (T 36) (.lit (.c (.pv
  (.bool false)))))), (oP 38 (.mv (T 37))), (.mk (some 39) (.faddr 5 (T 2)) (some (38, true)) .p), (.mk (some 40) (.load false 1 (T 39)) (some (38, true)) .r),
  (.mk (some 41) (.faddr 5 (T 3)) (some (38, true)) .p), (.mk (some 42) (.load false 1 (T 41)) (some (38, true)) .r), (.mk (some 43) (.bin .eql (T 40) (T 42))
  (some (38, true)) .p), (oP 44 (.pick (T 38) (T 43) (.lit (.c (.pv (.bool false)))))), (oP 45 (.mv (T 44))), (.mk (some 46) (.faddr 6 (T 2)) (some (45, true))
  .p), (.mk (some 47) (.load false 1 (T 46)) (some (45, true)) .r), (.mk (some 48) (.faddr 6 (T 3)) (some (45, true)) .p), (.mk (some 49) (.load false 1 (T 48))
  (some (45, true)) .r), (.mk (some 50) (.bin .eql (T 47) (T 49)) (some (45, true)) .p), (oP 51 (.pick (T 45) (T 50) (.lit (.c (.pv (.bool false)))))), (oP 4
  (.mv (T 51)))])) (.tr (rl [4]) false .ret))))
theorem xf43_ok : cmpFunc Go.Proofs.Tryd.prog 43 ((.two (.tr (rl [2, 0]) false .no) (.two (.tr (rl [4]) false (.ops [{}, {}, {}, {}, { cls := some .p }])) (.tr (rl [4]) false .no)))) = some xf43 := by kernel_rfl
def xf44_l0 : XCode :=
(.seq (.seq (.tr (rl [2, 0, 1, 11]) false (.region false [(oP 13 (.mv (T 5))), (oP 14 (.faddr 3 (T 2))), (oR 15 (.load false 1 (T 14))), (oP 16 (.len (T 15))),
  (oP 17 (.bin .lss (T 13) (T 16)))])) (.tr (rl [2, 0, 1]) false (.cond (T 17) .skip (.tr (rl [2, 0]) false (.exit 0))))) (.seq (.tr (rl [2, 0, 0, 0]) false
  (.block 1 (.seq (.tr (rl [2, 0, 1, 24]) false (.region true [(oP 20 (.faddr 3 (T 2))), (oR 21 (.load false 1 (T 20))), (oP 22 (.mv (T 5))), (oP 23 (.iaddrS 3
  (T 21) (T 22))), (oR 24 (.load true 3 (T 23))), (oP 25 (.faddr 3 (T 3))), (oR 26 (.load false 1 (T 25))), (oP 27 (.mv (T 5))), (oP 28 (.iaddrS 3 (T 26) (T
  27))), (oR 29 (.load true 3 (T 28))), (oP 30 (.eqA true [0, 0, 0] (T 24) (T 29)))])) (.tr (rl [2, 0, 0, 0]) false (.cond (T 30) (.seq (.region false [(oP 4
  (.mv (.lit (.c (.pv (.bool false))))))]) (.tr (rl [4]) false .ret)) .skip))))) (.tr (rl [2, 0, 1]) false (.region false [(oP 18 (.mv (T 5))), (oP 19 (.bin
  .add (T 18) (tI 1))), (oP 5 (.mv (T 19)))]))))
def xf44 : XFunc :=
(.mk 71 [(.tmp 4)] (.seq (.tr (rl [2, 0]) false (.region false [(oW 2 (.box (T 0) 7)), (oW 3 (.box (T 1) 7)), (oP 4 (.mv (.lit (.c (.pv (.bool false))))))]))
  (.seq (.seq (.tr (rl [2, 0, 8]) false (.region false [(oP 6 (.faddr 3 (T 2))), (oR 7 (.load false 1 (T 6))), (oP 8 (.len (T 7))), (oP 9 (.faddr 3 (T 3))), (oR
  10 (.load false 1 (T 9))), (oP 11 (.len (T 10))), (oP 12 (.bin .neq (T 8) (T 11)))])) (.tr (rl [2, 0, 0]) false (.cond (T 12) (.seq (.region false [(oP 4 (.mv
  (.lit (.c (.pv (.bool false))))))]) (.tr (rl [4]) false .ret)) .skip))) (.seq (.seq (.region false [(oP 5 (.mv (tI 0)))]) (.tr (rl [2, 0, 0]) false (.block 0
  (.loop (rl [2, 0, 1]) xf44_l0)))) (.seq (.tr (rl [4]) false (.region false [(oP 31 (.faddr 0 (T 2))), (oR 32 (.load false 1 (T 31))), (oP 33 (.faddr 0 (T
  3))), (oR 34 (.load false 1 (T 33))), (oP 35 (.bin .eql (T 32) (T 34))), (oP 36 (.mv (T 35))), (.mk (some 37) (.faddr 1 (T 2)) (some (36, true)) .p), (.mk
  (some 38) (.load false 1 (T 37)) (some (36, true)) .r), (.mk (some 39) (.faddr 1 (T 3)) (some (36, true)) .p), (.mk (some 40) (.load false 1 (T 39)) (some
  (36, true)) .r), (.mk (some 41) (.bin .eql (T 38) (T 40)) (some (36, true)) .p), (oP 42 (.pick (T 36) (T 41) (.lit (.c (.pv (.bool false)))))), (oP 43 (.mv (T
  42))), (.mk (some 44) (.faddr 2 (T 2)) (some (43, true)) .p), (.mk (some 45) (.load false 1 (T 44)) (some (43, true)) .r), (.mk (some 46) (.faddr 2 (T 3))
  (some (43, true)) .p), (.mk (some 47) (.load false 1 (T 46)) (some (43, true)) .r), (.mk (some 48) (.bin .eql (T 45) (T 47)) (some (43, true)) .p), (oP 49
  (.pick (T 43) (T 48) (.lit (.c (.pv (.bool false)))))), (oP 50 (.mv (T 49))), (.mk (some 51) (.faddr 4 (T 2)) (some (50, true)) .p), (.mk (some 52) (.load
  false 1 (T 51)) (some (50, true)) .r), (.mk (some 53) (.faddr 4 (T 3)) (some (50, true)) .p), (.mk (some 54) (.load false 1 (T 53)) (some (50, true)) .r),
  (.mk (some 55) (.bin .eql (T 52) (T 54)) (some (50, true)) .p), (oP 56 (.pick (T 50) (T 55) (.lit (.c (.pv (.bool false)))))), (oP 57 (.mv (T 56))), (.mk
  (some 58) (.faddr 5 (T 2)) (some (57, true)) .p), (.mk (some 59) (.load false 1 (T 58)) (some (57, true)) .r), (.mk (some 60) (.faddr 5 (T 3)) (some (57,
  true)) .p), (.mk (some 61) (.load false 1 (T 60)) (some (57, true)) .r), (.mk (some 62) (.bin .eql (T 59) (T 61)) (some (57, true)) .p), (oP 63 (.pick (T 57)
  (T 62) (.lit (.c (.pv (.bool false)))))), (oP 64 (.mv (T 63))), (.mk (some 65) (.faddr 6 (T 2)) (some (64, true)) .p), (.mk (some 66) (.load false 1 (T 65))
  (some (64, true)) .r), (.mk (some 67) (.faddr 6 (T 3)) (some (64, true)) .p), (.mk (some 68) (.load false 1 (T 67)) (some (64, true)) .r), (.mk (some 69)
  (.bin .eql (T 66) (T 68)) (some (64, true)) .p), (oP 70 (.pick (T 64) (T 69) (.lit (.c (.pv (.bool false)))))), (oP 4 (.mv (T 70)))])) (.tr (rl [4]) false
  .ret))))))
theorem xf44_ok : cmpFunc Go.Proofs.Tryd.prog 44 ((.two (.tr (rl [2, 0]) false .no) (.two (.two (.tr (rl [2, 0, 8]) false .no) (.tr (rl [2, 0, 0]) false (.two (.two .no (.tr (rl [4]) false .no)) .no))) (.two (.two .no (.tr (rl [2, 0, 0]) false (.loop (rl [2, 0, 1]) (.two (.two (.tr (rl [2, 0, 1, 11]) false .no) (.tr (rl [2, 0, 1]) false (.two .no (.tr (rl [2, 0]) false .no)))) (.two (.tr (rl [2, 0, 0, 0]) false (.two (.tr (rl [2, 0, 1, 24]) false (.draw [0, 1, 2, 3, 4, 5, 6, 7, 8, 9, 10] [])) (.tr (rl [2, 0, 0, 0]) false (.two (.two .no (.tr (rl [4]) false .no)) .no)))) (.tr (rl [2, 0, 1]) false .no)))))) (.two (.tr (rl [4]) false .no) (.tr (rl [4]) false .no)))))) = some xf44 := by kernel_rfl
def xf48_l0 : XCode :=
(.seq (.seq (.tr (rl [3, 2, 2, 0, 33]) false (.region false [(oP 40 (.mv (T 10))), (oP 41 (.faddr 3 (T 3))), (oR 42 (.load false 1 (T 41))), (oP 43 (.len (T
  42))), (oP 44 (.bin .lss (T 40) (T 43)))])) (.tr (rl [3, 2, 2, 0]) false (.cond (T 44) .skip (.tr (rl [6, 2]) false (.exit 0))))) (.seq (.tr (rl [3, 2, 2, 0])
  false (.block 1 (.tr (rl [3, 2, 2, 0]) false (.region true [(oP 47 (.faddr 3 (T 9))), (oR 48 (.load false 1 (T 47))), (oP 49 (.faddr 3 (T 3))), (oR 50 (.load
  false 1 (T 49))), (oP 51 (.mv (T 10))), (oP 52 (.iaddrS 3 (T 50) (T 51))), (oP 53 (.faddr 0 (T 52))), (oR 54 (.load false 1 (T 53))), (oP 55 (.faddr 3 (T
  3))), (oR 56 (.load false 1 (T 55))), (oP 57 (.mv (T 10))), (oP 58 (.iaddrS 3 (T 56) (T 57))), (oP 59 (.faddr 1 (T 58))), (oP 60 (.faddr 0 (T 59))), (oR 61
  (.load false 1 (T 60))), (oP 62 (.faddr 3 (T 3))), (oR 63 (.load false 1 (T 62))), (oP 64 (.mv (T 10))), (oP 65 (.iaddrS 3 (T 63) (T 64))), (oP 66 (.faddr 1
  (T 65))), (oP 67 (.faddr 1 (T 66))), (oR 68 (.load false 1 (T 67))), (oP 69 (.un .neg (T 68))), (oP 70 (.build [(.pv (.int .i64 0)), (.pv (.int .i64 0))] [(0,
  (1, (T 61))), (1, (1, (T 69)))])), (oP 71 (.build [(.pv (.int .i64 0)), (.pv (.int .i64 0)), (.pv (.int .i64 0))] [(0, (1, (T 54))), (1, (2, (T 70)))])), (oP
  72 (.buildSl [(.pv (.int .i64 0)), (.pv (.int .i64 0)), (.pv (.int .i64 0))] 1 3 [(0, (3, (T 71)))])), (oW 73 (.app 3 24 (T 48) (T 72))), (oP 74 (.faddr 3 (T
  9))), (sW (.store 1 (T 74) (T 73)))])))) (.tr (rl [3, 2, 2, 0]) false (.region false [(oP 45 (.mv (T 10))), (oP 46 (.bin .add (T 45) (tI 1))), (oP 10 (.mv (T
  46)))]))))
def xf48 : XFunc :=
(.mk 82 [(.cell 6 true 7), (.tmp 7)] (.seq (.tr (rl [1, 0, 0, 2]) false (.region false [(oW 3 (.box (T 0) 7)), (oW 6 (.alloc [(.pv (.int .i64 0)), (.pv (.int
  .i32 0)), (.pv (.int .i32 0)), (.pv (.sl .nil 0 [])), (.pv (.int .i64 0)), (.pv (.int .i64 0)), (.pv (.str []))])), (oP 7 (.mv (tI 0)))])) (.seq (.tr (rl [1,
  0, 0, 2, 1]) false (.region false [(oR 12 (.load true 7 (T 3))), (oP 13 (.call false [] (.lit (.c (.fn 34 []))) [(T 12)])), (oP 8 (.mv (T 13)))])) (.seq (.seq
  (.tr (rl [1, 0, 0, 2, 1, 6]) false (.region false [(oP 14 (.mv (T 8))), (oP 15 (.bin .neq (T 14) (tI 0)))])) (.tr (rl [1, 0, 0, 2, 0]) false (.cond (T 15)
  (.seq (.tr (rl [6, 0]) false (.region false [(oP 16 (.build [(.pv (.int .i64 0)), (.pv (.int .i32 0)), (.pv (.int .i32 0)), (.pv (.sl .nil 0 [])), (.pv (.int
  .i64 0)), (.pv (.int .i64 0)), (.pv (.str []))] [])), (oP 17 (.mv (T 8))), (sW (.store 7 (T 6) (T 16))), (oP 7 (.mv (T 17)))])) (.tr (rl [6, 0]) false .ret))
  .skip))) (.seq (.seq (.tr (rl [1, 0, 0, 2, 20]) false (.region false [(oP 18 (.mv (T 1))), (oP 19 (.faddr 0 (T 3))), (oR 20 (.load false 1 (T 19))), (oP 21
  (.bin .leq (T 18) (T 20))), (oP 22 (.mv (T 21))), (.mk (some 23) (.mv (T 2)) (some (22, false)) .p), (.mk (some 24) (.faddr 1 (T 3)) (some (22, false)) .p),
  (.mk (some 25) (.load false 1 (T 24)) (some (22, false)) .r), (.mk (some 26) (.bin .lss (T 23) (T 25)) (some (22, false)) .p), (oP 27 (.pick (T 22) (.lit (.c
  (.pv (.bool true)))) (T 26)))])) (.tr (rl [1, 0, 0, 2, 0]) false (.cond (T 27) (.seq (.tr (rl [6, 0]) false (.region false [(oP 28 (.build [(.pv (.int .i64
  0)), (.pv (.int .i32 0)), (.pv (.int .i32 0)), (.pv (.sl .nil 0 [])), (.pv (.int .i64 0)), (.pv (.int .i64 0)), (.pv (.str []))] [])), (sW (.store 7 (T 6) (T
  28))), (oP 7 (.mv (tI 20)))])) (.tr (rl [6, 0]) false .ret)) .skip))) (.seq (.tr (rl [3, 2, 2]) false (.region false [(oP 29 (.mv (T 1))), (oP 30 (.mv (T
  2))), (oP 31 (.faddr 2 (T 3))), (oR 32 (.load false 1 (T 31))), (oP 33 (.faddr 0 (T 3))), (oR 34 (.load false 1 (T 33))), (oP 35 (.faddr 5 (T 3))), (oR 36
  (.load false 1 (T 35))), (oP 37 (.faddr 6 (T 3))), (oR 38 (.load false 1 (T 37))), (oP 39 (.build [(.pv (.int .i64 0)), (.pv (.int .i32 0)), (.pv (.int .i32
  0)), (.pv (.sl .nil 0 [])), (.pv (.int .i64 0)), (.pv (.int .i64 0)), (.pv (.str []))] [(0, (1, (T 29))), (1, (1, (T 30))), (2, (1, (T 32))), (4, (1, (T
  34))), (5, (1, (T 36))), (6, (1, (T 38)))])), (oW 9 (.alloc [(.pv (.int .i64 0)), (.pv (.int .i32 0)), (.pv (.int .i32 0)), (.pv (.sl .nil 0 [])), (.pv (.int
  .i64 0)), (.pv (.int .i64 0)), (.pv (.str []))])), (sW (.store 7 (T 9) (T 39)))])) (.seq (.seq (.region false [(oP 10 (.mv (tI 0)))]) (.tr (rl [6, 2]) false
  (.block 0 (.loop (rl [3, 2, 2, 0]) xf48_l0)))) (.seq (.tr (rl [6, 2, 1]) false (.region false [(oR 75 (.load true 7 (T 9))), (oP 76 (.call false [] (.lit (.c
  (.fn 34 []))) [(T 75)])), (oP 11 (.mv (T 76)))])) (.seq (.seq (.tr (rl [6, 2, 1, 66]) false (.region false [(oP 77 (.mv (T 11))), (oP 78 (.bin .neq (T 77) (tI
  0)))])) (.tr (rl [6, 0, 1]) false (.cond (T 78) (.seq (.tr (rl [6, 0]) false (.region false [(oP 79 (.build [(.pv (.int .i64 0)), (.pv (.int .i32 0)), (.pv
  (.int .i32 0)), (.pv (.sl .nil 0 [])), (.pv (.int .i64 0)), (.pv (.int .i64 0)), (.pv (.str []))] [])), (oP 80 (.mv (T 11))), (sW (.store 7 (T 6) (T 79))),
  (oP 7 (.mv (T 80)))])) (.tr (rl [6, 0]) false .ret)) .skip))) (.seq (.tr (rl [6, 0]) false (.region false [(oR 81 (.load true 7 (T 9))), (sW (.store 7 (T 6)
  (T 81))), (oP 7 (.mv (tI 0)))])) (.tr (rl [6, 0]) false .ret)))))))))))
theorem xf48_ok : cmpFunc Go.Proofs.Tryd.prog 48 ((.two (.tr (rl [1, 0, 0, 2]) false .no) (.two (.tr (rl [1, 0, 0, 2, 1]) false (.ops [{}, { cls := some .p }])) (.two (.two (.tr (rl [1, 0, 0, 2, 1, 6]) false .no) (.tr (rl [1, 0, 0, 2, 0]) false (.two (.two (.tr (rl [6, 0]) false .no) (.tr (rl [6, 0]) false .no)) .no))) (.two (.two (.tr (rl [1, 0, 0, 2, 20]) false .no) (.tr (rl [1, 0, 0, 2, 0]) false (.two (.two (.tr (rl [6, 0]) false .no) (.tr (rl [6, 0]) false .no)) .no))) (.two (.tr (rl [3, 2, 2]) false .no) (.two (.two .no (.tr (rl [6, 2]) false (.loop (rl [3, 2, 2, 0]) (.two (.two (.tr (rl [3, 2, 2, 0, 33]) false .no) (.tr (rl [3, 2, 2, 0]) false (.two .no (.tr (rl [6, 2]) false .no)))) (.two (.tr (rl [3, 2, 2, 0]) false (.tr (rl [3, 2, 2, 0]) false (.draw [0, 1, 2, 3, 4, 5, 6, 7, 8, 9, 10, 11, 12, 13, 14, 15, 16, 17, 18, 19, 20, 21, 22, 23, 24, 25, 26, 27, 28] []))) (.tr (rl [3, 2, 2, 0]) false .no)))))) (.two (.tr (rl [6, 2, 1]) false (.ops [{}, { cls := some .p }])) (.two (.two (.tr (rl [6, 2, 1, 66]) false .no) (.tr (rl [6, 0, 1]) false (.two (.two (.tr (rl [6, 0]) false .no) (.tr (rl [6, 0]) false .no)) .no))) (.two (.tr (rl [6, 0]) false .no) (.tr (rl [6, 0]) false .no))))))))))) = some xf48 := by kernel_rfl
def xf58 : XFunc :=
(.mk 21 [(.cell 8 true 7)] (.seq (.region false [(oW 8 (.alloc [(.pv (.int .i64 0)), (.pv (.int .i32 0)), (.pv (.int .i32 0)), (.pv (.sl .nil 0 [])), (.pv (.int
  .i64 0)), (.pv (.int .i64 0)), (.pv (.str []))]))]) (.seq (.tr (rl [8]) false (.region false [(oP 9 (.mv (T 0))), (oP 10 (.mv (T 1))), (oP 11 (.mv (T 2))),
  (oP 12 (.mv (T 3))), (oP 13 (.build [(.pv (.int .i64 0)), (.pv (.int .i64 0))] [(1, (1, (T 12)))])), (oP 14 (.build [(.pv (.int .i64 0)), (.pv (.int .i64 0)),
  (.pv (.int .i64 0))] [(0, (1, (tI 2))), (1, (2, (T 13)))])), (oP 15 (.mv (T 3))), (oP 16 (.un .neg (T 15))), (oP 17 (.build [(.pv (.int .i64 0)), (.pv (.int
  .i64 0))] [(1, (1, (T 16)))])), (oP 18 (.build [(.pv (.int .i64 0)), (.pv (.int .i64 0)), (.pv (.int .i64 0))] [(0, (1, (tI 1))), (1, (2, (T 17)))])), (oP 19
  (.buildSl [(.pv (.int .i64 0)), (.pv (.int .i64 0)), (.pv (.int .i64 0))] 2 3 [(0, (3, (T 14))), (3, (3, (T 18)))])), (oP 20 (.build [(.pv (.int .i64 0)),
  (.pv (.int .i32 0)), (.pv (.int .i32 0)), (.pv (.sl .nil 0 [])), (.pv (.int .i64 0)), (.pv (.int .i64 0)), (.pv (.str []))] [(0, (1, (T 9))), (1, (1, (T
  10))), (2, (1, (T 11))), (3, (1, (T 19)))])), (sW (.store 7 (T 8) (T 20)))])) (.tr (rl [8]) false .ret))))
theorem xf58_ok : cmpFunc Go.Proofs.Tryd.prog 58 ((.two .no (.two (.tr (rl [8]) false .no) (.tr (rl [8]) false .no)))) = some xf58 := by kernel_rfl
def xf59 : XFunc :=
(.mk 73 [(.tmp 6)] (.seq (.tr (rl [0, 0, 3]) false (.region false [(oW 5 (.box (T 2) 7)), (oP 6 (.mv (tI 0)))])) (.seq (.tr (rl [0, 0, 3, 1]) false (.region
  false [(oP 11 (.mv (T 0))), (oP 12 (.len (T 11))), (oP 7 (.mv (T 12)))])) (.seq (.tr (rl [0, 0, 3, 0]) false (.block 0 (.seq (.tr (rl [0, 0, 3, 1, 5]) false
  (.region false [(oP 14 (.mv (T 7))), (oP 15 (.bin .eql (T 14) (tI 400))), (oP 13 (.mv (T 15)))])) (.tr (rl [0, 0, 3, 0]) false (.cond (T 13) (.seq (.region
  false [(oP 6 (.mv (tI 6)))]) (.tr (rl [6]) false .ret)) (.seq (.tr (rl [0, 0, 3, 1, 8]) false (.region false [(oP 17 (.faddr 0 (T 5))), (oR 18 (.load false 1
  (T 17))), (oP 19 (.mv (T 7))), (oP 20 (.bin .add (T 19) (tI 1))), (oP 21 (.bin .neq (T 18) (T 20))), (oP 16 (.mv (T 21)))])) (.tr (rl [0, 0, 3, 0]) false
  (.cond (T 16) (.seq (.region false [(oP 6 (.mv (tI 25)))]) (.tr (rl [6]) false .ret)) (.seq (.tr (rl [0, 0, 3, 16]) false (.region true [(oP 23 (.mv (T 7))),
  (oP 24 (.bin .gtr (T 23) (tI 0))), (oP 25 (.mv (T 24))), (.mk (some 26) (.faddr 1 (T 5)) (some (25, true)) .p), (.mk (some 27) (.load false 1 (T 26)) (some
  (25, true)) .r), (.mk (some 28) (.mv (T 0)) (some (25, true)) .p), (.mk (some 29) (.mv (T 7)) (some (25, true)) .p), (.mk (some 30) (.bin .sub (T 29) (tI 1))
  (some (25, true)) .p), (.mk (some 31) (.iaddrS 7 (T 28) (T 30)) (some (25, true)) .p), (.mk (some 32) (.faddr 1 (T 31)) (some (25, true)) .p), (.mk (some 33)
  (.load false 1 (T 32)) (some (25, true)) .r), (.mk (some 34) (.bin .lss (T 27) (T 33)) (some (25, true)) .p), (oP 35 (.pick (T 25) (T 34) (.lit (.c (.pv
  (.bool false)))))), (oP 22 (.mv (T 35)))])) (.tr (rl [0, 0, 3, 0]) false (.cond (T 22) (.seq (.region false [(oP 6 (.mv (tI 20)))]) (.tr (rl [6]) false .ret))
  (.seq (.tr (rl [0, 0, 3, 30]) false (.region false [(oP 37 (.faddr 4 (T 5))), (oR 38 (.load false 1 (T 37))), (oP 39 (.bin .eql (T 38) (tI 0))), (oP 36 (.mv
  (T 39)))])) (.tr (rl [0, 0, 3, 0]) false (.cond (T 36) (.seq (.region false [(oP 6 (.mv (tI 0)))]) (.tr (rl [6]) false .ret)) .skip)))))))))))))) (.seq (.tr
  (rl [1, 3, 2]) false (.region false [(oP 40 (.mv (T 0))), (oP 41 (.faddr 4 (T 5))), (oR 42 (.load false 1 (T 41))), (oP 43 (.bin .sub (T 42) (tI 1))), (oP 44
  (.iaddrS 7 (T 40) (T 43))), (oR 45 (.load true 7 (T 44))), (oW 8 (.alloc [(.pv (.int .i64 0)), (.pv (.int .i32 0)), (.pv (.int .i32 0)), (.pv (.sl .nil 0
  [])), (.pv (.int .i64 0)), (.pv (.int .i64 0)), (.pv (.str []))])), (sW (.store 7 (T 8) (T 45)))])) (.seq (.tr (rl [1, 3, 2, 0, 0]) false (.region false [(oR
  47 (.load true 7 (T 8))), (oP 48 (.faddr 0 (T 5))), (oR 49 (.load false 1 (T 48))), (oP 50 (.faddr 1 (T 5))), (oR 51 (.load false 1 (T 50))), (oP 52 (.call
  false [] (.lit (.c (.fn 38 []))) [(T 47), (T 49), (T 51)])), (oP 46 (.mv (T 52))), (oP 53 (.extr 0 (T 46))), (oP 54 (.extr 1 (T 46))), (oW 9 (.alloc [(.pv
  (.int .i64 0)), (.pv (.int .i32 0)), (.pv (.int .i32 0)), (.pv (.sl .nil 0 [])), (.pv (.int .i64 0)), (.pv (.int .i64 0)), (.pv (.str []))])), (sW (.store 7
  (T 9) (T 53))), (oP 10 (.mv (T 54)))])) (.seq (.tr (rl [6]) false (.block 1 (.seq (.tr (rl [1, 3, 3, 0, 44]) false (.region false [(oP 56 (.faddr 4 (T 8))),
  (oR 57 (.load false 1 (T 56))), (oP 58 (.bin .gtr (T 57) (tI 0))), (oP 55 (.mv (T 58)))])) (.tr (rl [6]) false (.cond (T 55) (.seq (.region false [(oP 6 (.mv
  (tI 27)))]) (.tr (rl [6]) false .ret)) (.seq (.tr (rl [5, 3, 0, 48]) false (.region false [(oP 60 (.mv (T 1))), (oP 61 (.faddr 4 (T 5))), (oR 62 (.load false
  1 (T 61))), (oR 63 (.mlook (.bool false) false (T 60) (T 62))), (oP 59 (.mv (T 63)))])) (.tr (rl [6]) false (.cond (T 59) (.seq (.region false [(oP 6 (.mv (tI
  23)))]) (.tr (rl [6]) false .ret)) (.seq (.tr (rl [64]) false (.region false [(oP 65 (.mv (T 10))), (oP 66 (.bin .neq (T 65) (tI 0))), (oP 67 (.mv (T 66))),
  (.mk (some 68) (.load true 7 (T 9)) (some (67, false)) .r), (.mk (some 69) (.load true 7 (T 5)) (some (67, false)) .r), (.mk (some 70) (.call false [] (.lit
  (.c (.fn 43 []))) [(T 68), (T 69)]) (some (67, false)) .p), (.mk (some 71) (.un .not (T 70)) (some (67, false)) .p), (oP 72 (.pick (T 67) (.lit (.c (.pv
  (.bool true)))) (T 71))), (oP 64 (.mv (T 72)))])) (.tr (rl [6]) false (.cond (T 64) (.seq (.region false [(oP 6 (.mv (tI 3)))]) (.tr (rl [6]) false .ret))
  .skip))))))))))) (.seq (.region false [(oP 6 (.mv (tI 0)))]) (.tr (rl [6]) false .ret)))))))))
theorem xf59_ok : cmpFunc Go.Proofs.Tryd.prog 59 ((.two (.tr (rl [0, 0, 3]) false .no) (.two (.tr (rl [0, 0, 3, 1]) false .no) (.two (.tr (rl [0, 0, 3, 0]) false (.two (.tr (rl [0, 0, 3, 1, 5]) false .no) (.tr (rl [0, 0, 3, 0]) false (.two (.two .no (.tr (rl [6]) false .no)) (.two (.tr (rl [0, 0, 3, 1, 8]) false .no) (.tr (rl [0, 0, 3, 0]) false (.two (.two .no (.tr (rl [6]) false .no)) (.two (.tr (rl [0, 0, 3, 16]) false (.draw [0, 1, 2, 3, 4, 5, 6, 7, 8, 9, 10, 11, 12, 13] [])) (.tr (rl [0, 0, 3, 0]) false (.two (.two .no (.tr (rl [6]) false .no)) (.two (.tr (rl [0, 0, 3, 30]) false .no) (.tr (rl [0, 0, 3, 0]) false (.two (.two .no (.tr (rl [6]) false .no)) .no))))))))))))) (.two (.tr (rl [1, 3, 2]) false .no) (.two (.tr (rl [1, 3, 2, 0, 0]) false (.ops [{}, {}, {}, {}, {}, { cls := some .p }])) (.two (.tr (rl [6]) false (.two (.tr (rl [1, 3, 3, 0, 44]) false .no) (.tr (rl [6]) false (.two (.two .no (.tr (rl [6]) false .no)) (.two (.tr (rl [5, 3, 0, 48]) false .no) (.tr (rl [6]) false (.two (.two .no (.tr (rl [6]) false .no)) (.two (.tr (rl [64]) false (.ops [{}, {}, {}, {}, {}, { cls := some .p }])) (.tr (rl [6]) false (.two (.two .no (.tr (rl [6]) false .no)) .no)))))))))) (.two .no (.tr (rl [6]) false .no))))))))) = some xf59 := by kernel_rfl
def xf60_l0 : XCode :=
(.seq (.region false [(oP 10 (.bin .lss (T 9) (T 8)))]) (.seq (.tr (rl [3, 3, 0, 0]) false (.cond (T 10) .skip (.tr (rl [3]) false (.exit 0)))) (.seq (.tr (rl
  [3, 3, 0, 0]) false (.block 1 (.seq (.tr (rl [3, 1, 1, 0, 0]) false (.region false [(oP 11 (.iaddrS 7 (T 7) (T 9))), (oR 12 (.load true 7 (T 11))), (oW 5
  (.alloc [(.pv (.int .i64 0)), (.pv (.int .i32 0)), (.pv (.int .i32 0)), (.pv (.sl .nil 0 [])), (.pv (.int .i64 0)), (.pv (.int .i64 0)), (.pv (.str []))])),
  (sW (.store 7 (T 5) (T 12)))])) (.tr (rl [3, 3, 0, 0]) false (.region false [(oP 13 (.mv (T 3))), (oP 14 (.faddr 4 (T 5))), (oR 15 (.load false 1 (T 14))),
  (sW (.mupd (T 13) (T 15) (.lit (.c (.pv (.bool true))))))]))))) (.tr (rl [3, 3, 0, 0]) false (.region false [(oP 16 (.bin .add (T 9) (tI 1))), (oP 9 (.mv (T
  16)))])))))
def xf60 : XFunc :=
(.mk 18 [(.tmp 2)] (.seq (.tr (rl [0]) false (.region false [(oP 2 (.mv (.lit (.c .nilm))))])) (.seq (.tr (rl [0, 2]) false (.region false [(.mk (some 6) .mkmap
  none .w), (oP 3 (.mv (T 6)))])) (.seq (.seq (.tr (rl [3, 3, 0, 0]) false (.region false [(oP 7 (.mv (T 0))), (oP 8 (.len (T 7))), (oP 9 (.mv (tI 0)))])) (.tr
  (rl [3]) false (.block 0 (.loop (rl [3, 3, 0, 0]) xf60_l0)))) (.seq (.tr (rl [2]) false (.region false [(oP 17 (.mv (T 3))), (oP 2 (.mv (T 17)))])) (.tr (rl
  [2]) false .ret))))))
theorem xf60_ok : cmpFunc Go.Proofs.Tryd.prog 60 ((.two (.tr (rl [0]) false .no) (.two (.tr (rl [0, 2]) false .no) (.two (.two (.tr (rl [3, 3, 0, 0]) false .no) (.tr (rl [3]) false (.loop (rl [3, 3, 0, 0]) (.two .no (.two (.tr (rl [3, 3, 0, 0]) false (.two .no (.tr (rl [3]) false .no))) (.two (.tr (rl [3, 3, 0, 0]) false (.two (.tr (rl [3, 1, 1, 0, 0]) false .no) (.tr (rl [3, 3, 0, 0]) false .no))) (.tr (rl [3, 3, 0, 0]) false .no))))))) (.two (.tr (rl [2]) false .no) (.tr (rl [2]) false .no)))))) = some xf60 := by kernel_rfl
def xf61 : XFunc :=
(.mk 3 [(.tmp 2)] (.seq (.tr [] false (.region false [(oW 1 (.box (T 0) 7)), (oP 2 (.mv (.lit (.c (.pv (.bool false))))))])) (.seq (.region false [(oP 2 (.mv
  (.lit (.c (.pv (.bool true))))))]) (.tr (rl [2]) false .ret))))
theorem xf61_ok : cmpFunc Go.Proofs.Tryd.prog 61 ((.two (.tr [] false .no) (.two .no (.tr (rl [2]) false .no)))) = some xf61 := by kernel_rfl
def xf62_l0 : XCode :=
(.seq (.region false [(oP 11 (.bin .lss (T 10) (T 9)))]) (.seq (.tr (rl [1, 3, 2, 0, 0]) false (.cond (T 11) .skip (.tr (rl [5]) false (.exit 0)))) (.seq (.tr
  (rl [1, 3, 2, 0, 0]) false (.block 1 (.seq (.tr (rl [1, 3, 1, 0, 0, 0]) false (.region false [(oP 12 (.iaddrS 7 (T 8) (T 10))), (oR 13 (.load true 7 (T 12))),
  (oW 7 (.alloc [(.pv (.int .i64 0)), (.pv (.int .i32 0)), (.pv (.int .i32 0)), (.pv (.sl .nil 0 [])), (.pv (.int .i64 0)), (.pv (.int .i64 0)), (.pv (.str
  []))])), (sW (.store 7 (T 7) (T 13)))])) (.seq (.tr (rl [1, 3, 1, 0, 0, 0, 5]) false (.region false [(oP 14 (.mv (T 1))), (oR 15 (.load true 7 (T 7))), (oW 16
  (.call false [] (T 14) [(T 15)]))])) (.tr (rl [1, 3, 2, 0, 0]) false (.cond (T 16) (.tr (rl [1, 3, 2, 0, 0]) false (.region false [(oP 17 (.mv (T 5))), (oR 18
  (.load true 7 (T 7))), (oP 19 (.call false [] (.lit (.c (.fn 63 []))) [(T 18)])), (oP 20 (.buildSl [(.pv (.int .i64 0)), (.pv (.int .i32 0)), (.pv (.int .i32
  0)), (.pv (.sl .nil 0 [])), (.pv (.int .i64 0)), (.pv (.int .i64 0)), (.pv (.str []))] 1 7 [(0, (7, (T 19)))])), (oW 21 (.app 7 72 (T 17) (T 20))), (oP 5 (.mv
  (T 21)))])) .skip)))))) (.tr (rl [1, 3, 2, 0, 0]) false (.region false [(oP 22 (.bin .add (T 10) (tI 1))), (oP 10 (.mv (T 22)))])))))
def xf62 : XFunc :=
(.mk 24 [(.tmp 4)] (.seq (.tr (rl [0, 0]) false (.region false [(oP 4 (.mv (.lit (.c (.pv (.sl .nil 0 []))))))])) (.seq (.region false [(oP 5 (.mv (.lit (.c
  (.pv (.sl .nil 0 []))))))]) (.seq (.seq (.tr (rl [1, 3, 2, 0, 0]) false (.region false [(oP 8 (.mv (T 0))), (oP 9 (.len (T 8))), (oP 10 (.mv (tI 0)))])) (.tr
  (rl [5]) false (.block 0 (.loop (rl [1, 3, 2, 0, 0]) xf62_l0)))) (.seq (.tr (rl [4]) false (.region false [(oP 23 (.mv (T 5))), (oP 4 (.mv (T 23)))])) (.tr
  (rl [4]) false .ret))))))
theorem xf62_ok : cmpFunc Go.Proofs.Tryd.prog 62 ((.two (.tr (rl [0, 0]) false .no) (.two .no (.two (.two (.tr (rl [1, 3, 2, 0, 0]) false .no) (.tr (rl [5]) false (.loop (rl [1, 3, 2, 0, 0]) (.two .no (.two (.tr (rl [1, 3, 2, 0, 0]) false (.two .no (.tr (rl [5]) false .no))) (.two (.tr (rl [1, 3, 2, 0, 0]) false (.two (.tr (rl [1, 3, 1, 0, 0, 0]) false .no) (.two (.tr (rl [1, 3, 1, 0, 0, 0, 5]) false .no) (.tr (rl [1, 3, 2, 0, 0]) false (.two (.tr (rl [1, 3, 2, 0, 0]) false (.ops [{}, {}, { cls := some .p }])) .no))))) (.tr (rl [1, 3, 2, 0, 0]) false .no))))))) (.two (.tr (rl [4]) false .no) (.tr (rl [4]) false .no)))))) = some xf62 := by kernel_rfl
def xf63 : XFunc :=
(.mk 8 [(.cell 2 true 7)] (.seq (.tr (rl [1, 0]) false (.region false [(oW 1 (.box (T 0) 7)), (oW 2 (.alloc [(.pv (.int .i64 0)), (.pv (.int .i32 0)), (.pv
  (.int .i32 0)), (.pv (.sl .nil 0 [])), (.pv (.int .i64 0)), (.pv (.int .i64 0)), (.pv (.str []))]))])) (.seq (.tr (rl [1, 0]) false (.region false [(oP 3
  (.faddr 3 (T 1))), (oR 4 (.load false 1 (T 3))), (oP 5 (.call false [] (.lit (.c (.fn 85 []))) [(T 4)])), (oP 6 (.faddr 3 (T 1))), (sW (.store 1 (T 6) (T
  5)))])) (.seq (.tr (rl [2]) false (.region false [(oR 7 (.load true 7 (T 1))), (sW (.store 7 (T 2) (T 7)))])) (.tr (rl [2]) false .ret)))))
theorem xf63_ok : cmpFunc Go.Proofs.Tryd.prog 63 ((.two (.tr (rl [1, 0]) false .no) (.two (.tr (rl [1, 0]) false (.ops [{}, {}, { cls := some .p }])) (.two (.tr (rl [2]) false .no) (.tr (rl [2]) false .no))))) = some xf63 := by kernel_rfl
def xf64 : XFunc :=
(.mk 13 [(.tmp 4), (.tmp 5)] (.seq (.tr (rl [1, 0]) false (.region false [(oW 2 (.box (T 0) 1)), (oP 4 (.mv (.lit (.c (.pv (.sl .nil 0 [])))))), (oP 5 (.mv (tI
  0)))])) (.seq (.seq (.tr (rl [1, 0, 5]) false (.region false [(oR 6 (.load true 1 (T 2))), (oP 7 (.call false [] (.lit (.c (.fn 25 []))) [(T 6)])), (oP 8 (.un
  .not (T 7)))])) (.tr (rl [1, 0, 1, 0]) false (.cond (T 8) (.seq (.region false [(oP 4 (.mv (.lit (.c (.pv (.sl .nil 0 [])))))), (oP 5 (.mv (tI 1)))]) (.tr (rl
  [4, 0]) false .ret)) .skip))) (.seq (.tr (rl [4, 0]) false (.region false [(oP 9 (.faddr 0 (T 2))), (oR 10 (.load false 1 (T 9))), (oP 11 (.mv (T 1))), (oW 12
  (.call false [] (.lit (.c (.fn 62 []))) [(T 10), (T 11)])), (oP 4 (.mv (T 12))), (oP 5 (.mv (tI 0)))])) (.tr (rl [4, 0]) false .ret)))))
theorem xf64_ok : cmpFunc Go.Proofs.Tryd.prog 64 ((.two (.tr (rl [1, 0]) false .no) (.two (.two (.tr (rl [1, 0, 5]) false (.ops [{}, { cls := some .p }])) (.tr (rl [1, 0, 1, 0]) false (.two (.two .no (.tr (rl [4, 0]) false .no)) .no))) (.two (.tr (rl [4, 0]) false .no) (.tr (rl [4, 0]) false .no))))) = some xf64 := by kernel_rfl
def xf65 : XFunc :=
(.mk 8 [(.tmp 3)] (.seq (.tr (rl [1, 0]) false (.region false [(oW 2 (.box (T 0) 7)), (oP 3 (.mv (.lit (.c (.pv (.bool false))))))])) (.seq (.tr (rl [3]) false
  (.region false [(oP 4 (.faddr 1 (T 2))), (oR 5 (.load false 1 (T 4))), (oR 6 (.load false 1 (T 1))), (oP 7 (.bin .leq (T 5) (T 6))), (oP 3 (.mv (T 7)))]))
  (.tr (rl [3]) false .ret))))
theorem xf65_ok : cmpFunc Go.Proofs.Tryd.prog 65 ((.two (.tr (rl [1, 0]) false .no) (.two (.tr (rl [3]) false .no) (.tr (rl [3]) false .no)))) = some xf65 := by kernel_rfl
def xf66 : XFunc :=
(.mk 15 [(.tmp 4)] (.seq (.tr (rl [1, 0, 0]) false (.region false [(oW 3 (.box (T 0) 7)), (oP 4 (.mv (.lit (.c (.pv (.bool false))))))])) (.seq (.tr (rl [4])
  false (.region false [(oP 5 (.faddr 1 (T 3))), (oR 6 (.load false 1 (T 5))), (oR 7 (.load false 1 (T 1))), (oP 8 (.bin .leq (T 6) (T 7))), (oP 9 (.mv (T 8))),
  (.mk (some 10) (.faddr 2 (T 3)) (some (9, true)) .p), (.mk (some 11) (.load false 1 (T 10)) (some (9, true)) .r), (.mk (some 12) (.load false 1 (T 2)) (some
  (9, true)) .r), (.mk (some 13) (.bin .leq (T 11) (T 12)) (some (9, true)) .p), (oP 14 (.pick (T 9) (T 13) (.lit (.c (.pv (.bool false)))))), (oP 4 (.mv (T
  14)))])) (.tr (rl [4]) false .ret))))
theorem xf66_ok : cmpFunc Go.Proofs.Tryd.prog 66 ((.two (.tr (rl [1, 0, 0]) false .no) (.two (.tr (rl [4]) false .no) (.tr (rl [4]) false .no)))) = some xf66 := by kernel_rfl
def xf67 : XFunc :=
(.mk 6 [(.tmp 2)] (.seq (.tr (rl [1]) false (.region false [(oW 1 (.box (T 0) 7)), (oP 2 (.mv (.lit (.c (.pv (.bool false))))))])) (.seq (.tr (rl [2]) false
  (.region false [(oP 3 (.faddr 5 (T 1))), (oR 4 (.load false 1 (T 3))), (oP 5 (.bin .eql (T 4) (tI 0))), (oP 2 (.mv (T 5)))])) (.tr (rl [2]) false .ret))))
theorem xf67_ok : cmpFunc Go.Proofs.Tryd.prog 67 ((.two (.tr (rl [1]) false .no) (.two (.tr (rl [2]) false .no) (.tr (rl [2]) false .no)))) = some xf67 := by kernel_rfl
def xf68 : XFunc :=
(.mk 8 [(.tmp 3)] (.seq (.tr (rl [1, 0]) false (.region false [(oW 2 (.box (T 0) 7)), (oP 3 (.mv (.lit (.c (.pv (.bool false))))))])) (.seq (.tr (rl [3]) false
  (.region false [(oP 4 (.faddr 0 (T 2))), (oR 5 (.load false 1 (T 4))), (oR 6 (.load false 1 (T 1))), (oP 7 (.bin .gtr (T 5) (T 6))), (oP 3 (.mv (T 7)))]))
  (.tr (rl [3]) false .ret))))
theorem xf68_ok : cmpFunc Go.Proofs.Tryd.prog 68 ((.two (.tr (rl [1, 0]) false .no) (.two (.tr (rl [3]) false .no) (.tr (rl [3]) false .no)))) = some xf68 := by kernel_rfl
def xf69_l0 : XCode :=
(.seq (.seq (.tr (rl [0, 0, 2, 0, 0, 10]) false (.region false [(oP 14 (.mv (T 6))), (oP 15 (.mv (T 0))), (oP 16 (.len (T 15))), (oP 17 (.bin .lss (T 14) (T
  16)))])) (.tr (rl [0, 0, 2, 0, 0]) false (.cond (T 17) .skip (.tr (rl [4, 0]) false (.exit 0))))) (.seq (.tr (rl [0, 0, 2, 0, 0]) false (.block 1 (.seq (.tr
  (rl [0, 0, 2, 0, 0, 20]) false (.region true [(oP 20 (.mv (T 1))), (oP 21 (.mv (T 0))), (oP 22 (.mv (T 6))), (oP 23 (.iaddrS 7 (T 21) (T 22))), (oR 24 (.load
  true 7 (T 23))), (oR 25 (.load true 7 (T 5))), (oW 26 (.call false [] (T 20) [(T 24), (T 25)])), (oP 27 (.bin .lss (T 26) (tI 0)))])) (.tr (rl [0, 0, 2, 0,
  0]) false (.cond (T 27) (.tr (rl [0, 0, 2, 0, 0]) false (.region false [(oP 28 (.mv (T 0))), (oP 29 (.mv (T 6))), (oP 30 (.iaddrS 7 (T 28) (T 29))), (oR 31
  (.load true 7 (T 30))), (sW (.store 7 (T 5) (T 31)))])) .skip))))) (.tr (rl [0, 0, 2, 0, 0]) false (.region false [(oP 18 (.mv (T 6))), (oP 19 (.bin .add (T
  18) (tI 1))), (oP 6 (.mv (T 19)))]))))
def xf69 : XFunc :=
(.mk 33 [(.cell 4 true 7)] (.seq (.region false [(oW 4 (.alloc [(.pv (.int .i64 0)), (.pv (.int .i32 0)), (.pv (.int .i32 0)), (.pv (.sl .nil 0 [])), (.pv (.int
  .i64 0)), (.pv (.int .i64 0)), (.pv (.str []))]))]) (.seq (.seq (.tr (rl [0, 0, 2, 4]) false (.region false [(oP 7 (.mv (T 0))), (oP 8 (.len (T 7))), (oP 9
  (.bin .lss (T 8) (tI 1)))])) (.tr (rl [0, 0, 2]) false (.cond (T 9) (.tr (rl [0, 0, 2]) false (.region false [(.mk (some 10) .stuck none .p), (.mk none .stuck
  none .p)])) .skip))) (.seq (.tr (rl [0, 0, 2, 0]) false (.region false [(oP 11 (.mv (T 0))), (oP 12 (.iaddrS 7 (T 11) (tI 0))), (oR 13 (.load true 7 (T 12))),
  (oW 5 (.alloc [(.pv (.int .i64 0)), (.pv (.int .i32 0)), (.pv (.int .i32 0)), (.pv (.sl .nil 0 [])), (.pv (.int .i64 0)), (.pv (.int .i64 0)), (.pv (.str
  []))])), (sW (.store 7 (T 5) (T 13)))])) (.seq (.seq (.region false [(oP 6 (.mv (tI 1)))]) (.tr (rl [4, 0]) false (.block 0 (.loop (rl [0, 0, 2, 0, 0])
  xf69_l0)))) (.seq (.tr (rl [4]) false (.region false [(oR 32 (.load true 7 (T 5))), (sW (.store 7 (T 4) (T 32)))])) (.tr (rl [4]) false .ret)))))))
theorem xf69_ok : cmpFunc Go.Proofs.Tryd.prog 69 ((.two .no (.two (.two (.tr (rl [0, 0, 2, 4]) false .no) (.tr (rl [0, 0, 2]) false (.two (.tr (rl [0, 0, 2]) false .no) .no))) (.two (.tr (rl [0, 0, 2, 0]) false .no) (.two (.two .no (.tr (rl [4, 0]) false (.loop (rl [0, 0, 2, 0, 0]) (.two (.two (.tr (rl [0, 0, 2, 0, 0, 10]) false .no) (.tr (rl [0, 0, 2, 0, 0]) false (.two .no (.tr (rl [4, 0]) false .no)))) (.two (.tr (rl [0, 0, 2, 0, 0]) false (.two (.tr (rl [0, 0, 2, 0, 0, 20]) false (.draw [0, 1, 2, 3, 4, 5, 6, 7] [])) (.tr (rl [0, 0, 2, 0, 0]) false (.two (.tr (rl [0, 0, 2, 0, 0]) false .no) .no)))) (.tr (rl [0, 0, 2, 0, 0]) false .no)))))) (.two (.tr (rl [4]) false .no) (.tr (rl [4]) false .no))))))) = some xf69 := by kernel_rfl
def xf70 : XFunc :=
(.mk 12 [(.tmp 4)] (.seq (.tr (rl [2, 0]) false (.region false [(oW 2 (.box (T 0) 7)), (oW 3 (.box (T 1) 7)), (oP 4 (.mv (tI 0)))])) (.seq (.tr (rl [4]) false
  (.region false [(oP 5 (.faddr 2 (T 2))), (oR 6 (.load false 1 (T 5))), (oP 7 (.convI .i64 (T 6))), (oP 8 (.faddr 2 (T 3))), (oR 9 (.load false 1 (T 8))), (oP
  10 (.convI .i64 (T 9))), (oP 11 (.bin .sub (T 7) (T 10))), (oP 4 (.mv (T 11)))])) (.tr (rl [4]) false .ret))))
theorem xf70_ok : cmpFunc Go.Proofs.Tryd.prog 70 ((.two (.tr (rl [2, 0]) false .no) (.two (.tr (rl [4]) false .no) (.tr (rl [4]) false .no)))) = some xf70 := by kernel_rfl
def xf71 : XFunc :=
(.mk 14 [(.tmp 3)] (.seq (.tr (rl [1, 0]) false (.region false [(oW 2 (.box (T 0) 7)), (oP 3 (.mv (.lit (.c (.pv (.bool false))))))])) (.seq (.tr (rl [3]) false
  (.region false [(oP 4 (.faddr 4 (T 2))), (oR 5 (.load false 1 (T 4))), (oP 6 (.bin .eql (T 5) (tI 0))), (oP 7 (.mv (T 6))), (.mk (some 8) (.load false 1 (T
  1)) (some (7, true)) .r), (.mk (some 9) (.faddr 0 (T 2)) (some (7, true)) .p), (.mk (some 10) (.load false 1 (T 9)) (some (7, true)) .r), (.mk (some 11)
  (.mlook (.bool false) false (T 8) (T 10)) (some (7, true)) .r), (.mk (some 12) (.un .not (T 11)) (some (7, true)) .p), (oP 13 (.pick (T 7) (T 12) (.lit (.c
  (.pv (.bool false)))))), (oP 3 (.mv (T 13)))])) (.tr (rl [3]) false .ret))))
theorem xf71_ok : cmpFunc Go.Proofs.Tryd.prog 71 ((.two (.tr (rl [1, 0]) false .no) (.two (.tr (rl [3]) false .no) (.tr (rl [3]) false .no)))) = some xf71 := by kernel_rfl
def xf72 : XFunc :=
(.mk 9 [(.tmp 2)] (.seq (.tr (rl [0]) false (.region false [(oP 2 (.mv (.lit (.c (.pv (.bool false))))))])) (.seq (.tr (rl [2]) false (.region false [(oP 3 (.mv
  (T 0))), (oP 4 (.bin .geq (T 3) (.lit (.c (.pv (.int .i32 (-50000))))))), (oP 5 (.mv (T 4))), (.mk (some 6) (.mv (T 0)) (some (5, true)) .p), (.mk (some 7)
  (.bin .leq (T 6) (.lit (.c (.pv (.int .i32 50000))))) (some (5, true)) .p), (oP 8 (.pick (T 5) (T 7) (.lit (.c (.pv (.bool false)))))), (oP 2 (.mv (T 8)))]))
  (.tr (rl [2]) false .ret))))
theorem xf72_ok : cmpFunc Go.Proofs.Tryd.prog 72 ((.two (.tr (rl [0]) false .no) (.two (.tr (rl [2]) false .no) (.tr (rl [2]) false .no)))) = some xf72 := by kernel_rfl
def xf73_l0 : XCode :=
(.seq (.seq (.tr (rl [0, 2, 10]) false (.region false [(oP 11 (.mv (T 3))), (oP 12 (.mv (T 0))), (oP 13 (.len (T 12))), (oP 14 (.bin .lss (T 11) (T 13)))]))
  (.tr (rl [0, 2]) false (.cond (T 14) .skip (.tr (rl [0]) false (.exit 0))))) (.seq (.tr (rl [0, 1, 0]) false (.block 1 (.seq (.tr (rl [0, 2, 26]) false
  (.region false [(oP 17 (.mv (T 0))), (oP 18 (.mv (T 3))), (oP 19 (.iaddrS 3 (T 17) (T 18))), (oP 20 (.faddr 0 (T 19))), (oR 21 (.load false 1 (T 20))), (oP 22
  (.bin .lss (T 21) (tI 1))), (oP 23 (.mv (T 22))), (.mk (some 24) (.mv (T 0)) (some (23, false)) .p), (.mk (some 25) (.mv (T 3)) (some (23, false)) .p), (.mk
  (some 26) (.iaddrS 3 (T 24) (T 25)) (some (23, false)) .p), (.mk (some 27) (.faddr 0 (T 26)) (some (23, false)) .p), (.mk (some 28) (.load false 1 (T 27))
  (some (23, false)) .r), (.mk (some 29) (.bin .gtr (T 28) (tI 999)) (some (23, false)) .p), (oP 30 (.pick (T 23) (.lit (.c (.pv (.bool true)))) (T 29)))]))
  (.tr (rl [0, 1, 0]) false (.cond (T 30) (.seq (.region false [(oP 2 (.mv (tI 8)))]) (.tr (rl [2]) false .ret)) .skip))))) (.tr (rl [0, 2]) false (.region
  false [(oP 15 (.mv (T 3))), (oP 16 (.bin .add (T 15) (tI 1))), (oP 3 (.mv (T 16)))]))))
def xf73_l1 : XCode :=
(.seq (.seq (.tr (rl [0, 3, 29]) false (.region false [(oP 31 (.mv (T 4))), (oP 32 (.mv (T 0))), (oP 33 (.len (T 32))), (oP 34 (.bin .lss (T 31) (T 33)))]))
  (.tr (rl [0, 3]) false (.cond (T 34) .skip (.tr (rl [0]) false (.exit 2))))) (.seq (.tr (rl [0, 1, 1]) false (.block 3 (.seq (.tr (rl [0, 3, 47]) false
  (.region false [(oP 37 (.mv (T 0))), (oP 38 (.mv (T 4))), (oP 39 (.iaddrS 3 (T 37) (T 38))), (oP 40 (.faddr 1 (T 39))), (oP 41 (.faddr 0 (T 40))), (oR 42
  (.load false 1 (T 41))), (oP 43 (.bin .lss (T 42) (tI 0))), (oP 44 (.mv (T 43))), (.mk (some 45) (.mv (T 0)) (some (44, false)) .p), (.mk (some 46) (.mv (T
  4)) (some (44, false)) .p), (.mk (some 47) (.iaddrS 3 (T 45) (T 46)) (some (44, false)) .p), (.mk (some 48) (.faddr 1 (T 47)) (some (44, false)) .p), (.mk
  (some 49) (.faddr 0 (T 48)) (some (44, false)) .p), (.mk (some 50) (.load false 1 (T 49)) (some (44, false)) .r), (.mk (some 51) (.bin .gtr (T 50) (tI 3))
  (some (44, false)) .p), (oP 52 (.pick (T 44) (.lit (.c (.pv (.bool true)))) (T 51)))])) (.tr (rl [0, 1, 1]) false (.cond (T 52) (.seq (.region false [(oP 2
  (.mv (tI 12)))]) (.tr (rl [2]) false .ret)) .skip))))) (.tr (rl [0, 3]) false (.region false [(oP 35 (.mv (T 4))), (oP 36 (.bin .add (T 35) (tI 1))), (oP 4
  (.mv (T 36)))]))))
def xf73_l2 : XCode :=
(.seq (.seq (.tr (rl [0, 4, 50]) false (.region false [(oP 53 (.mv (T 5))), (oP 54 (.mv (T 0))), (oP 55 (.len (T 54))), (oP 56 (.bin .lss (T 53) (T 55)))]))
  (.tr (rl [0, 4]) false (.cond (T 56) .skip (.tr (rl [0]) false (.exit 4))))) (.seq (.tr (rl [0, 1, 2]) false (.block 5 (.seq (.tr (rl [0, 4, 0]) false
  (.region false [(oP 59 (.mv (T 0))), (oP 60 (.mv (T 5))), (oP 61 (.iaddrS 3 (T 59) (T 60))), (oP 62 (.faddr 1 (T 61))), (oR 63 (.load true 2 (T 62))), (oP 64
  (.call false [] (.lit (.c (.fn 126 []))) [(T 63)])), (oP 6 (.mv (T 64)))])) (.seq (.tr (rl [0, 4, 60]) false (.region false [(oP 65 (.mv (T 6))), (oP 66 (.un
  .not (T 65)))])) (.tr (rl [0, 1, 2]) false (.cond (T 66) (.seq (.region false [(oP 2 (.mv (tI 9)))]) (.tr (rl [2]) false .ret)) .skip)))))) (.tr (rl [0, 4])
  false (.region false [(oP 57 (.mv (T 5))), (oP 58 (.bin .add (T 57) (tI 1))), (oP 5 (.mv (T 58)))]))))
def xf73_l3 : XCode :=
(.seq (.seq (.tr (rl [0, 6, 62]) false (.region false [(oP 67 (.mv (T 7))), (oP 68 (.mv (T 0))), (oP 69 (.len (T 68))), (oP 70 (.bin .lss (T 67) (T 69)))]))
  (.tr (rl [0, 6]) false (.cond (T 70) .skip (.tr (rl [0]) false (.exit 6))))) (.seq (.tr (rl [0, 1, 4]) false (.block 7 (.seq (.tr (rl [0, 6, 71]) false
  (.region false [(oP 73 (.mv (T 0))), (oP 74 (.mv (T 7))), (oP 75 (.iaddrS 3 (T 73) (T 74))), (oP 76 (.faddr 1 (T 75))), (oP 77 (.faddr 1 (T 76))), (oR 78
  (.load false 1 (T 77))), (oP 79 (.bin .eql (T 78) (tI 0)))])) (.tr (rl [0, 1, 4]) false (.cond (T 79) (.seq (.region false [(oP 2 (.mv (tI 10)))]) (.tr (rl
  [2]) false .ret)) .skip))))) (.tr (rl [0, 6]) false (.region false [(oP 71 (.mv (T 7))), (oP 72 (.bin .add (T 71) (tI 1))), (oP 7 (.mv (T 72)))]))))
def xf73_l4 : XCode :=
(.seq (.seq (.tr (rl [0, 7, 0, 0, 76]) false (.region false [(oP 84 (.mv (T 10))), (oP 85 (.mv (T 0))), (oP 86 (.len (T 85))), (oP 87 (.bin .lss (T 84) (T
  86)))])) (.tr (rl [0, 7, 0, 0]) false (.cond (T 87) .skip (.tr (rl [0, 7, 0]) false (.exit 10))))) (.seq (.tr (rl [0, 7, 0, 0]) false (.block 11 (.seq (.tr
  (rl [0, 7, 0, 0, 86]) false (.region false [(oP 90 (.mv (T 0))), (oP 91 (.mv (T 10))), (oP 92 (.iaddrS 3 (T 90) (T 91))), (oP 93 (.faddr 1 (T 92))), (oP 94
  (.faddr 0 (T 93))), (oR 95 (.load false 1 (T 94))), (oP 96 (.mv (T 8))), (oP 97 (.bin .eql (T 95) (T 96)))])) (.tr (rl [0, 7, 0, 0]) false (.cond (T 97) (.tr
  (rl [0, 7, 0, 0]) false (.region false [(oP 98 (.mv (T 9))), (oP 99 (.mv (T 0))), (oP 100 (.mv (T 10))), (oP 101 (.iaddrS 3 (T 99) (T 100))), (oP 102 (.faddr
  1 (T 101))), (oP 103 (.faddr 1 (T 102))), (oR 104 (.load false 1 (T 103))), (oP 105 (.bin .add (T 98) (T 104))), (oP 9 (.mv (T 105)))])) .skip))))) (.tr (rl
  [0, 7, 0, 0]) false (.region false [(oP 88 (.mv (T 10))), (oP 89 (.bin .add (T 88) (tI 1))), (oP 10 (.mv (T 89)))]))))
def xf73_l5 : XCode :=
(.seq (.seq (.tr (rl [0, 7, 72]) false (.region false [(oP 80 (.mv (T 8))), (oP 81 (.bin .lss (T 80) (tI 4)))])) (.tr (rl [0, 7]) false (.cond (T 81) .skip (.tr
  [] false (.exit 8))))) (.seq (.tr (rl [0, 1, 5]) false (.block 9 (.seq (.region false [(oP 9 (.mv (tI 0)))]) (.seq (.seq (.region false [(oP 10 (.mv (tI
  0)))]) (.tr (rl [0, 7, 0]) false (.block 10 (.loop (rl [0, 7, 0, 0]) xf73_l4)))) (.seq (.tr (rl [0, 7, 98]) false (.region false [(oP 106 (.mv (T 9))), (oP
  107 (.bin .neq (T 106) (tI 0)))])) (.tr (rl [0, 1, 5]) false (.cond (T 107) (.seq (.region false [(oP 2 (.mv (tI 15)))]) (.tr (rl [2]) false .ret))
  .skip))))))) (.tr (rl [0, 7]) false (.region false [(oP 82 (.mv (T 8))), (oP 83 (.bin .add (T 82) (tI 1))), (oP 8 (.mv (T 83)))]))))
def xf73 : XFunc :=
(.mk 108 [(.tmp 2)] (.seq (.tr (rl [0]) false (.region false [(oP 2 (.mv (tI 0)))])) (.seq (.seq (.region false [(oP 3 (.mv (tI 0)))]) (.tr (rl [0, 1]) false
  (.block 0 (.loop (rl [0, 2]) xf73_l0)))) (.seq (.seq (.region false [(oP 4 (.mv (tI 0)))]) (.tr (rl [0, 1]) false (.block 2 (.loop (rl [0, 3]) xf73_l1))))
  (.seq (.seq (.region false [(oP 5 (.mv (tI 0)))]) (.tr (rl [0, 1]) false (.block 4 (.loop (rl [0, 4]) xf73_l2)))) (.seq (.seq (.region false [(oP 7 (.mv (tI
  0)))]) (.tr (rl [0, 1]) false (.block 6 (.loop (rl [0, 6]) xf73_l3)))) (.seq (.seq (.region false [(oP 8 (.mv (tI 0)))]) (.tr (rl [2]) false (.block 8 (.loop
  (rl [0, 7]) xf73_l5)))) (.seq (.region false [(oP 2 (.mv (tI 0)))]) (.tr (rl [2]) false .ret)))))))))
theorem xf73_ok : cmpFunc Go.Proofs.Tryd.prog 73 ((.two (.tr (rl [0]) false .no) (.two (.two .no (.tr (rl [0, 1]) false (.loop (rl [0, 2]) (.two (.two (.tr (rl [0, 2, 10]) false .no) (.tr (rl [0, 2]) false (.two .no (.tr (rl [0]) false .no)))) (.two (.tr (rl [0, 1, 0]) false (.two (.tr (rl [0, 2, 26]) false .no) (.tr (rl [0, 1, 0]) false (.two (.two .no (.tr (rl [2]) false .no)) .no)))) (.tr (rl [0, 2]) false .no)))))) (.two (.two .no (.tr (rl [0, 1]) false (.loop (rl [0, 3]) (.two (.two (.tr (rl [0, 3, 29]) false .no) (.tr (rl [0, 3]) false (.two .no (.tr (rl [0]) false .no)))) (.two (.tr (rl [0, 1, 1]) false (.two (.tr (rl [0, 3, 47]) false .no) (.tr (rl [0, 1, 1]) false (.two (.two .no (.tr (rl [2]) false .no)) .no)))) (.tr (rl [0, 3]) false .no)))))) (.two (.two .no (.tr (rl [0, 1]) false (.loop (rl [0, 4]) (.two (.two (.tr (rl [0, 4, 50]) false .no) (.tr (rl [0, 4]) false (.two .no (.tr (rl [0]) false .no)))) (.two (.tr (rl [0, 1, 2]) false (.two (.tr (rl [0, 4, 0]) false (.ops [{}, {}, {}, {}, {}, { cls := some .p }])) (.two (.tr (rl [0, 4, 60]) false .no) (.tr (rl [0, 1, 2]) false (.two (.two .no (.tr (rl [2]) false .no)) .no))))) (.tr (rl [0, 4]) false .no)))))) (.two (.two .no (.tr (rl [0, 1]) false (.loop (rl [0, 6]) (.two (.two (.tr (rl [0, 6, 62]) false .no) (.tr (rl [0, 6]) false (.two .no (.tr (rl [0]) false .no)))) (.two (.tr (rl [0, 1, 4]) false (.two (.tr (rl [0, 6, 71]) false .no) (.tr (rl [0, 1, 4]) false (.two (.two .no (.tr (rl [2]) false .no)) .no)))) (.tr (rl [0, 6]) false .no)))))) (.two (.two .no (.tr (rl [2]) false (.loop (rl [0, 7]) (.two (.two (.tr (rl [0, 7, 72]) false .no) (.tr (rl [0, 7]) false (.two .no (.tr [] false .no)))) (.two (.tr (rl [0, 1, 5]) false (.two .no (.two (.two .no (.tr (rl [0, 7, 0]) false (.loop (rl [0, 7, 0, 0]) (.two (.two (.tr (rl [0, 7, 0, 0, 76]) false .no) (.tr (rl [0, 7, 0, 0]) false (.two .no (.tr (rl [0, 7, 0]) false .no)))) (.two (.tr (rl [0, 7, 0, 0]) false (.two (.tr (rl [0, 7, 0, 0, 86]) false .no) (.tr (rl [0, 7, 0, 0]) false (.two (.tr (rl [0, 7, 0, 0]) false .no) .no)))) (.tr (rl [0, 7, 0, 0]) false .no)))))) (.two (.tr (rl [0, 7, 98]) false .no) (.tr (rl [0, 1, 5]) false (.two (.two .no (.tr (rl [2]) false .no)) .no)))))) (.tr (rl [0, 7]) false .no)))))) (.two .no (.tr (rl [2]) false .no))))))))) = some xf73 := by kernel_rfl
def xf74 : XFunc :=
(.mk 8 [(.tmp 3)] (.seq (.tr (rl [0, 0]) false (.region false [(oP 3 (.mv (.lit (.c (.pv (.bool false))))))])) (.seq (.tr (rl [3]) false (.region false [(oP 4
  (.faddr 3 (T 1))), (oR 5 (.load false 1 (T 4))), (oP 6 (.mv (T 0))), (oW 7 (.call false [] (.lit (.c (.fn 75 []))) [(T 5), (T 6)])), (oP 3 (.mv (T 7)))]))
  (.tr (rl [3]) false .ret))))
theorem xf74_ok : cmpFunc Go.Proofs.Tryd.prog 74 ((.two (.tr (rl [0, 0]) false .no) (.two (.tr (rl [3]) false .no) (.tr (rl [3]) false .no)))) = some xf74 := by kernel_rfl
def xf75 : XFunc :=
(.mk 9 [(.tmp 4)] (.seq (.tr (rl [0, 0]) false (.region false [(oP 4 (.mv (.lit (.c (.pv (.bool false))))))])) (.seq (.tr (rl [4]) false (.region false [(oP 5
  (.mv (T 0))), (oP 6 (.mv (T 1))), (oW 7 (.call false [] (.lit (.c (.fn 127 []))) [(T 5), (T 6)])), (oP 8 (.bin .geq (T 7) (tI 0))), (oP 4 (.mv (T 8)))])) (.tr
  (rl [4]) false .ret))))
theorem xf75_ok : cmpFunc Go.Proofs.Tryd.prog 75 ((.two (.tr (rl [0, 0]) false .no) (.two (.tr (rl [4]) false .no) (.tr (rl [4]) false .no)))) = some xf75 := by kernel_rfl
def xf76 : XFunc :=
(.mk 47 [(.tmp 2)] (.seq (.tr (rl [1]) false (.region false [(oW 1 (.box (T 0) 7)), (oP 2 (.mv (.lit (.c (.pv (.bool false))))))])) (.seq (.region false [(oP 3
  (.mv (.lit (.c (.fn 128 [])))))]) (.seq (.tr (rl [2]) false (.region false [(oP 4 (.faddr 0 (T 1))), (oR 5 (.load false 1 (T 4))), (oP 6 (.bin .geq (T 5) (tI
  1))), (oP 7 (.mv (T 6))), (.mk (some 8) (.faddr 0 (T 1)) (some (7, true)) .p), (.mk (some 9) (.load false 1 (T 8)) (some (7, true)) .r), (.mk (some 10) (.bin
  .leq (T 9) (tI 1000000)) (some (7, true)) .p), (oP 11 (.pick (T 7) (T 10) (.lit (.c (.pv (.bool false)))))), (oP 12 (.mv (T 11))), (.mk (some 13) (.faddr 4 (T
  1)) (some (12, true)) .p), (.mk (some 14) (.load false 1 (T 13)) (some (12, true)) .r), (.mk (some 15) (.bin .geq (T 14) (tI 0)) (some (12, true)) .p), (oP 16
  (.pick (T 12) (T 15) (.lit (.c (.pv (.bool false)))))), (oP 17 (.mv (T 16))), (.mk (some 18) (.faddr 4 (T 1)) (some (17, true)) .p), (.mk (some 19) (.load
  false 1 (T 18)) (some (17, true)) .r), (.mk (some 20) (.faddr 0 (T 1)) (some (17, true)) .p), (.mk (some 21) (.load false 1 (T 20)) (some (17, true)) .r),
  (.mk (some 22) (.bin .lss (T 19) (T 21)) (some (17, true)) .p), (oP 23 (.pick (T 17) (T 22) (.lit (.c (.pv (.bool false)))))), (oP 24 (.mv (T 23))), (.mk
  (some 25) (.faddr 5 (T 1)) (some (24, true)) .p), (.mk (some 26) (.load false 1 (T 25)) (some (24, true)) .r), (.mk (some 27) (.bin .geq (T 26) (tI 0)) (some
  (24, true)) .p), (oP 28 (.pick (T 24) (T 27) (.lit (.c (.pv (.bool false)))))), (oP 29 (.mv (T 28))), (.mk (some 30) (.faddr 5 (T 1)) (some (29, true)) .p),
  (.mk (some 31) (.load false 1 (T 30)) (some (29, true)) .r), (.mk (some 32) (.bin .leq (T 31) (tI 4)) (some (29, true)) .p), (oP 33 (.pick (T 29) (T 32) (.lit
  (.c (.pv (.bool false)))))), (oP 34 (.mv (T 33))), (.mk (some 35) (.faddr 6 (T 1)) (some (34, true)) .p), (.mk (some 36) (.load false 1 (T 35)) (some (34,
  true)) .r), (.mk (some 37) (.lenS (T 36)) (some (34, true)) .p), (.mk (some 38) (.bin .leq (T 37) (tI 32)) (some (34, true)) .p), (oP 39 (.pick (T 34) (T 38)
  (.lit (.c (.pv (.bool false)))))), (oP 40 (.mv (T 39))), (.mk (some 41) (.faddr 6 (T 1)) (some (40, true)) .p), (.mk (some 42) (.load false 1 (T 41)) (some
  (40, true)) .r), (.mk (some 43) (.mv (T 3)) (some (40, true)) .p), (.mk (some 44) (.call false [] (.lit (.c (.fn 129 []))) [(T 42), (T 43)]) (some (40, true))
  .w), (.mk (some 45) (.un .not (T 44)) (some (40, true)) .p), (oP 46 (.pick (T 40) (T 45) (.lit (.c (.pv (.bool false)))))), (oP 2 (.mv (T 46)))])) (.tr (rl
  [2]) false .ret)))))
theorem xf76_ok : cmpFunc Go.Proofs.Tryd.prog 76 ((.two (.tr (rl [1]) false .no) (.two .no (.two (.tr (rl [2]) false .no) (.tr (rl [2]) false .no))))) = some xf76 := by kernel_rfl
def xf77 : XFunc :=
(.mk 9 [(.tmp 2)] (.seq (.tr (rl [0]) false (.region false [(oP 2 (.mv (.lit (.c (.pv (.bool false))))))])) (.seq (.tr (rl [2]) false (.region false [(oP 3 (.mv
  (T 0))), (oP 4 (.bin .geq (T 3) (.lit (.c (.pv (.int .i32 (-50000))))))), (oP 5 (.mv (T 4))), (.mk (some 6) (.mv (T 0)) (some (5, true)) .p), (.mk (some 7)
  (.bin .leq (T 6) (.lit (.c (.pv (.int .i32 50000))))) (some (5, true)) .p), (oP 8 (.pick (T 5) (T 7) (.lit (.c (.pv (.bool false)))))), (oP 2 (.mv (T 8)))]))
  (.tr (rl [2]) false .ret))))
theorem xf77_ok : cmpFunc Go.Proofs.Tryd.prog 77 ((.two (.tr (rl [0]) false .no) (.two (.tr (rl [2]) false .no) (.tr (rl [2]) false .no)))) = some xf77 := by kernel_rfl
def xf78 : XFunc :=
(.mk 11 [(.tmp 2)] (.seq (.tr (rl [1]) false (.region false [(oW 1 (.box (T 0) 3)), (oP 2 (.mv (.lit (.c (.pv (.bool false))))))])) (.seq (.tr (rl [2]) false
  (.region false [(oP 3 (.faddr 0 (T 1))), (oR 4 (.load false 1 (T 3))), (oP 5 (.bin .lss (T 4) (tI 1))), (oP 6 (.mv (T 5))), (.mk (some 7) (.faddr 0 (T 1))
  (some (6, false)) .p), (.mk (some 8) (.load false 1 (T 7)) (some (6, false)) .r), (.mk (some 9) (.bin .gtr (T 8) (tI 999)) (some (6, false)) .p), (oP 10
  (.pick (T 6) (.lit (.c (.pv (.bool true)))) (T 9))), (oP 2 (.mv (T 10)))])) (.tr (rl [2]) false .ret))))
theorem xf78_ok : cmpFunc Go.Proofs.Tryd.prog 78 ((.two (.tr (rl [1]) false .no) (.two (.tr (rl [2]) false .no) (.tr (rl [2]) false .no)))) = some xf78 := by kernel_rfl
def xf79 : XFunc :=
(.mk 8 [(.tmp 2)] (.seq (.tr (rl [1]) false (.region false [(oW 1 (.box (T 0) 3)), (oP 2 (.mv (.lit (.c (.pv (.bool false))))))])) (.seq (.tr (rl [2]) false
  (.region false [(oP 3 (.faddr 1 (T 1))), (oP 4 (.faddr 0 (T 3))), (oR 5 (.load false 1 (T 4))), (oP 6 (.call false [] (.lit (.c (.fn 80 []))) [(T 5)])), (oP 7
  (.bin .eql (T 6) (.lit (.c (.pv (.str [])))))), (oP 2 (.mv (T 7)))])) (.tr (rl [2]) false .ret))))
theorem xf79_ok : cmpFunc Go.Proofs.Tryd.prog 79 ((.two (.tr (rl [1]) false .no) (.two (.tr (rl [2]) false (.ops [{}, {}, {}, { cls := some .p }])) (.tr (rl [2]) false .no)))) = some xf79 := by kernel_rfl
def xf80 : XFunc :=
(.mk 10 [(.tmp 2)] (.seq (.tr (rl [0]) false (.region false [(oP 2 (.mv (.lit (.c (.pv (.str []))))))])) (.seq (.seq (.tr (rl [0, 4]) false (.region false [(oP
  3 (.mv (T 0))), (oP 4 (.call false [] (.lit (.c (.fn 130 []))) [(T 3)])), (oP 5 (.un .not (T 4)))])) (.tr (rl [0, 1]) false (.cond (T 5) (.seq (.region false
  [(oP 2 (.mv (.lit (.c (.pv (.str []))))))]) (.tr (rl [2]) false .ret)) .skip))) (.seq (.tr (rl [2]) false (.region false [(oP 6 (.mv (T 0))), (oP 7 (.iaddrA 4
  3 (.lit (.c (.cptr [(.str [69, 85, 82]), (.int .i64 2), (.int .i64 100), (.str [74, 80, 89]), (.int .i64 0), (.int .i64 1), (.str [66, 72, 68]), (.int .i64
  3), (.int .i64 1000), (.str [85, 83, 68]), (.int .i64 2), (.int .i64 100)] 0))) (T 6))), (oP 8 (.faddr 0 (T 7))), (oR 9 (.load false 1 (T 8))), (oP 2 (.mv (T
  9)))])) (.tr (rl [2]) false .ret)))))
theorem xf80_ok : cmpFunc Go.Proofs.Tryd.prog 80 ((.two (.tr (rl [0]) false .no) (.two (.two (.tr (rl [0, 4]) false (.ops [{}, { cls := some .p }])) (.tr (rl [0, 1]) false (.two (.two .no (.tr (rl [2]) false .no)) .no))) (.two (.tr (rl [2]) false .no) (.tr (rl [2]) false .no))))) = some xf80 := by kernel_rfl
def xf81 : XFunc :=
(.mk 7 [(.tmp 2)] (.seq (.tr (rl [1]) false (.region false [(oW 1 (.box (T 0) 3)), (oP 2 (.mv (.lit (.c (.pv (.bool false))))))])) (.seq (.tr (rl [2]) false
  (.region false [(oP 3 (.faddr 1 (T 1))), (oR 4 (.load true 2 (T 3))), (oP 5 (.call false [] (.lit (.c (.fn 82 []))) [(T 4)])), (oP 6 (.un .not (T 5))), (oP 2
  (.mv (T 6)))])) (.tr (rl [2]) false .ret))))
theorem xf81_ok : cmpFunc Go.Proofs.Tryd.prog 81 ((.two (.tr (rl [1]) false .no) (.two (.tr (rl [2]) false (.ops [{}, {}, { cls := some .p }])) (.tr (rl [2]) false .no)))) = some xf81 := by kernel_rfl
def xf82 : XFunc :=
(.mk 16 [(.tmp 2)] (.seq (.tr (rl [1]) false (.region false [(oW 1 (.box (T 0) 2)), (oP 2 (.mv (.lit (.c (.pv (.bool false))))))])) (.seq (.tr (rl [2]) false
  (.region false [(oP 3 (.faddr 0 (T 1))), (oR 4 (.load false 1 (T 3))), (oP 5 (.call false [] (.lit (.c (.fn 130 []))) [(T 4)])), (oP 6 (.mv (T 5))), (.mk
  (some 7) (.faddr 1 (T 1)) (some (6, true)) .p), (.mk (some 8) (.load false 1 (T 7)) (some (6, true)) .r), (.mk (some 9) (.bin .geq (T 8) (.lit (.c (.pv (.int
  .i64 (-1000000000000000)))))) (some (6, true)) .p), (oP 10 (.pick (T 6) (T 9) (.lit (.c (.pv (.bool false)))))), (oP 11 (.mv (T 10))), (.mk (some 12) (.faddr
  1 (T 1)) (some (11, true)) .p), (.mk (some 13) (.load false 1 (T 12)) (some (11, true)) .r), (.mk (some 14) (.bin .leq (T 13) (tI 1000000000000000)) (some
  (11, true)) .p), (oP 15 (.pick (T 11) (T 14) (.lit (.c (.pv (.bool false)))))), (oP 2 (.mv (T 15)))])) (.tr (rl [2]) false .ret))))
theorem xf82_ok : cmpFunc Go.Proofs.Tryd.prog 82 ((.two (.tr (rl [1]) false .no) (.two (.tr (rl [2]) false (.ops [{}, {}, { cls := some .p }])) (.tr (rl [2]) false .no)))) = some xf82 := by kernel_rfl
def xf83 : XFunc :=
(.mk 7 [(.tmp 2)] (.seq (.tr (rl [1]) false (.region false [(oW 1 (.box (T 0) 3)), (oP 2 (.mv (.lit (.c (.pv (.bool false))))))])) (.seq (.tr (rl [2]) false
  (.region false [(oP 3 (.faddr 1 (T 1))), (oP 4 (.faddr 1 (T 3))), (oR 5 (.load false 1 (T 4))), (oP 6 (.bin .eql (T 5) (tI 0))), (oP 2 (.mv (T 6)))])) (.tr
  (rl [2]) false .ret))))
theorem xf83_ok : cmpFunc Go.Proofs.Tryd.prog 83 ((.two (.tr (rl [1]) false .no) (.two (.tr (rl [2]) false .no) (.tr (rl [2]) false .no)))) = some xf83 := by kernel_rfl
def xf84_l0 : XCode :=
(.seq (.region false [(oP 9 (.bin .lss (T 8) (T 7)))]) (.seq (.tr (rl [3, 2, 0, 0]) false (.cond (T 9) .skip (.tr (rl [3]) false (.exit 0)))) (.seq (.tr (rl [3,
  2, 0, 0]) false (.block 1 (.seq (.tr (rl [3, 1, 0, 0, 0]) false (.region false [(oP 10 (.iaddrS 3 (T 6) (T 8))), (oR 11 (.load true 3 (T 10))), (oW 5 (.alloc
  [(.pv (.int .i64 0)), (.pv (.int .i64 0)), (.pv (.int .i64 0))])), (sW (.store 3 (T 5) (T 11)))])) (.tr (rl [3, 2, 0, 0]) false (.region true [(oP 12 (.faddr
  1 (T 5))), (oP 13 (.faddr 0 (T 12))), (oR 14 (.load false 1 (T 13))), (oP 15 (.iaddrA 4 1 (T 3) (T 14))), (oR 16 (.load false 1 (T 15))), (oP 17 (.faddr 1 (T
  5))), (oP 18 (.faddr 1 (T 17))), (oR 19 (.load false 1 (T 18))), (oP 20 (.bin .add (T 16) (T 19))), (oP 21 (.iaddrA 4 1 (T 3) (T 14))), (sW (.store 1 (T 21)
  (T 20)))]))))) (.tr (rl [3, 2, 0, 0]) false (.region false [(oP 22 (.bin .add (T 8) (tI 1))), (oP 8 (.mv (T 22)))])))))
def xf84 : XFunc :=
(.mk 26 [(.tmp 2)] (.seq (.tr (rl [0]) false (.region false [(oP 2 (.mv (.lit (.c (.pv (.bool false))))))])) (.seq (.region false [(oW 3 (.alloc [(.pv (.int
  .i64 0)), (.pv (.int .i64 0)), (.pv (.int .i64 0)), (.pv (.int .i64 0))]))]) (.seq (.seq (.tr (rl [3, 2, 0, 0]) false (.region false [(oP 6 (.mv (T 0))), (oP
  7 (.len (T 6))), (oP 8 (.mv (tI 0)))])) (.tr (rl [3]) false (.block 0 (.loop (rl [3, 2, 0, 0]) xf84_l0)))) (.seq (.tr (rl [2]) false (.region false [(oR 23
  (.load true 4 (T 3))), (oP 24 (.build [(.pv (.int .i64 0)), (.pv (.int .i64 0)), (.pv (.int .i64 0)), (.pv (.int .i64 0))] [])), (oP 25 (.eqA false [0, 0, 0,
  0] (T 23) (T 24))), (oP 2 (.mv (T 25)))])) (.tr (rl [2]) false .ret))))))
theorem xf84_ok : cmpFunc Go.Proofs.Tryd.prog 84 ((.two (.tr (rl [0]) false .no) (.two .no (.two (.two (.tr (rl [3, 2, 0, 0]) false .no) (.tr (rl [3]) false (.loop (rl [3, 2, 0, 0]) (.two .no (.two (.tr (rl [3, 2, 0, 0]) false (.two .no (.tr (rl [3]) false .no))) (.two (.tr (rl [3, 2, 0, 0]) false (.two (.tr (rl [3, 1, 0, 0, 0]) false .no) (.tr (rl [3, 2, 0, 0]) false (.draw [0, 1, 2, 3, 4, 5, 6, 7, 8, 9, 10] [])))) (.tr (rl [3, 2, 0, 0]) false .no))))))) (.two (.tr (rl [2]) false .no) (.tr (rl [2]) false .no)))))) = some xf84 := by kernel_rfl
def xf85 : XFunc :=
(.mk 8 [(.tmp 2)] (.seq (.tr (rl [0]) false (.region false [(oP 2 (.mv (.lit (.c (.pv (.sl .nil 0 []))))))])) (.seq (.seq (.tr (rl [0, 3]) false (.region false
  [(oP 3 (.mv (T 0))), (oP 4 (.eqN 0 false (T 3) (.lit (.c (.pv (.sl .nil 0 []))))))])) (.tr (rl [0, 1]) false (.cond (T 4) (.seq (.region false [(oP 2 (.mv
  (.lit (.c (.pv (.sl .nil 0 []))))))]) (.tr (rl [2]) false .ret)) .skip))) (.seq (.tr (rl [2]) false (.region false [(oP 5 (.buildSl [(.pv (.int .i64 0)), (.pv
  (.int .i64 0)), (.pv (.int .i64 0))] 0 3 [])), (oP 6 (.mv (T 0))), (oW 7 (.app 3 24 (T 5) (T 6))), (oP 2 (.mv (T 7)))])) (.tr (rl [2]) false .ret)))))
theorem xf85_ok : cmpFunc Go.Proofs.Tryd.prog 85 ((.two (.tr (rl [0]) false .no) (.two (.two (.tr (rl [0, 3]) false .no) (.tr (rl [0, 1]) false (.two (.two .no (.tr (rl [2]) false .no)) .no))) (.two (.tr (rl [2]) false .no) (.tr (rl [2]) false .no))))) = some xf85 := by kernel_rfl
def xf87_l0 : XCode :=
(.seq (.region false [(oP 19 (.bin .lss (T 18) (T 17)))]) (.seq (.tr (rl [1, 5, 8, 0, 0]) false (.cond (T 19) .skip (.tr (rl [7]) false (.exit 0)))) (.seq (.tr
  (rl [1, 5, 8, 0, 0]) false (.block 1 (.seq (.tr (rl [1, 5, 1, 6, 0, 0]) false (.region false [(oP 20 (.iaddrS 3 (T 16) (T 18))), (oR 21 (.load true 3 (T
  20))), (oW 9 (.alloc [(.pv (.int .i64 0)), (.pv (.int .i64 0)), (.pv (.int .i64 0))])), (sW (.store 3 (T 9) (T 21)))])) (.seq (.tr (rl [1, 5, 1, 6, 0, 0, 5])
  false (.region false [(oP 22 (.mv (T 1))), (oR 23 (.load true 3 (T 9))), (oW 24 (.call false [] (T 22) [(T 23)]))])) (.tr (rl [1, 5, 8, 0, 0]) false (.cond (T
  24) (.tr (rl [1, 5, 8, 0, 0]) false (.region false [(oP 25 (.mv (T 7))), (oP 26 (.faddr 1 (T 9))), (oP 27 (.faddr 1 (T 26))), (oR 28 (.load false 1 (T 27))),
  (oP 29 (.bin .add (T 25) (T 28))), (oP 7 (.mv (T 29)))])) .skip)))))) (.tr (rl [1, 5, 8, 0, 0]) false (.region false [(oP 30 (.bin .add (T 18) (tI 1))), (oP
  18 (.mv (T 30)))])))))
def xf87 : XFunc :=
(.mk 32 [(.tmp 4), (.tmp 5)] (.seq (.tr (rl [1, 0]) false (.region false [(oW 2 (.box (T 0) 7)), (oP 4 (.mv (tI 0))), (oP 5 (.mv (tI 0)))])) (.seq (.seq (.tr
  (rl [1, 0, 3]) false (.region false [(oR 10 (.load true 7 (T 2))), (oP 11 (.call false [] (.lit (.c (.fn 37 []))) [(T 10)])), (oP 6 (.mv (T 11)))])) (.seq
  (.tr (rl [1, 0, 3, 6]) false (.region false [(oP 12 (.mv (T 6))), (oP 13 (.bin .neq (T 12) (tI 0)))])) (.tr (rl [1, 0, 1, 0]) false (.cond (T 13) (.seq (.tr
  (rl [4, 0]) false (.region false [(oP 14 (.mv (T 6))), (oP 4 (.mv (tI 0))), (oP 5 (.mv (T 14)))])) (.tr (rl [4, 0]) false .ret)) .skip)))) (.seq (.region
  false [(oP 7 (.mv (tI 0)))]) (.seq (.seq (.tr (rl [1, 5, 8, 0, 0]) false (.region false [(oP 15 (.faddr 3 (T 2))), (oR 16 (.load false 1 (T 15))), (oP 17
  (.len (T 16))), (oP 18 (.mv (tI 0)))])) (.tr (rl [7]) false (.block 0 (.loop (rl [1, 5, 8, 0, 0]) xf87_l0)))) (.seq (.tr (rl [4, 0]) false (.region false [(oP
  31 (.mv (T 7))), (oP 4 (.mv (T 31))), (oP 5 (.mv (tI 0)))])) (.tr (rl [4, 0]) false .ret)))))))
theorem xf87_ok : cmpFunc Go.Proofs.Tryd.prog 87 ((.two (.tr (rl [1, 0]) false .no) (.two (.two (.tr (rl [1, 0, 3]) false (.ops [{}, { cls := some .p }])) (.two (.tr (rl [1, 0, 3, 6]) false .no) (.tr (rl [1, 0, 1, 0]) false (.two (.two (.tr (rl [4, 0]) false .no) (.tr (rl [4, 0]) false .no)) .no)))) (.two .no (.two (.two (.tr (rl [1, 5, 8, 0, 0]) false .no) (.tr (rl [7]) false (.loop (rl [1, 5, 8, 0, 0]) (.two .no (.two (.tr (rl [1, 5, 8, 0, 0]) false (.two .no (.tr (rl [7]) false .no))) (.two (.tr (rl [1, 5, 8, 0, 0]) false (.two (.tr (rl [1, 5, 1, 6, 0, 0]) false .no) (.two (.tr (rl [1, 5, 1, 6, 0, 0, 5]) false .no) (.tr (rl [1, 5, 8, 0, 0]) false (.two (.tr (rl [1, 5, 8, 0, 0]) false .no) .no))))) (.tr (rl [1, 5, 8, 0, 0]) false .no))))))) (.two (.tr (rl [4, 0]) false .no) (.tr (rl [4, 0]) false .no))))))) = some xf87 := by kernel_rfl
def xf88 : XFunc :=
(.mk 16 [(.tmp 4)] (.seq (.tr (rl [1, 0, 0]) false (.region false [(oW 3 (.box (T 0) 3)), (oP 4 (.mv (.lit (.c (.pv (.bool false))))))])) (.seq (.tr (rl [4])
  false (.region false [(oP 5 (.faddr 0 (T 3))), (oR 6 (.load false 1 (T 5))), (oR 7 (.load false 1 (T 1))), (oP 8 (.bin .eql (T 6) (T 7))), (oP 9 (.mv (T 8))),
  (.mk (some 10) (.faddr 1 (T 3)) (some (9, true)) .p), (.mk (some 11) (.faddr 0 (T 10)) (some (9, true)) .p), (.mk (some 12) (.load false 1 (T 11)) (some (9,
  true)) .r), (.mk (some 13) (.load false 1 (T 2)) (some (9, true)) .r), (.mk (some 14) (.bin .eql (T 12) (T 13)) (some (9, true)) .p), (oP 15 (.pick (T 9) (T
  14) (.lit (.c (.pv (.bool false)))))), (oP 4 (.mv (T 15)))])) (.tr (rl [4]) false .ret))))
theorem xf88_ok : cmpFunc Go.Proofs.Tryd.prog 88 ((.two (.tr (rl [1, 0, 0]) false .no) (.two (.tr (rl [4]) false .no) (.tr (rl [4]) false .no)))) = some xf88 := by kernel_rfl
def xf96_l0 : XCode :=
(.seq (.region false [(oP 14 (.bin .lss (T 13) (T 12)))]) (.seq (.tr (rl [0, 0, 10, 0]) false (.cond (T 14) .skip (.tr [] false (.exit 0)))) (.seq (.tr (rl [0,
  0, 2, 7, 0]) false (.block 1 (.seq (.tr (rl [0, 0, 3, 6, 0]) false (.region false [(oP 15 (.mv (T 13))), (oP 5 (.mv (T 15)))])) (.seq (.tr (rl [0, 0, 10, 0,
  10]) false (.region true [(oP 16 (.mv (T 0))), (oP 17 (.mv (T 5))), (oP 18 (.iaddrS 3 (T 16) (T 17))), (oR 19 (.load true 3 (T 18))), (oP 20 (.mv (T 1))), (oP
  21 (.mv (T 5))), (oP 22 (.iaddrS 3 (T 20) (T 21))), (oR 23 (.load true 3 (T 22))), (oP 24 (.eqA true [0, 0, 0] (T 19) (T 23)))])) (.tr (rl [0, 0, 2, 7, 0])
  false (.cond (T 24) (.seq (.region false [(oP 4 (.mv (.lit (.c (.pv (.bool false))))))]) (.tr (rl [4]) false .ret)) .skip)))))) (.tr (rl [0, 0, 10, 0]) false
  (.region false [(oP 25 (.bin .add (T 13) (tI 1))), (oP 13 (.mv (T 25)))])))))
def xf96 : XFunc :=
(.mk 26 [(.tmp 4)] (.seq (.tr (rl [0, 0]) false (.region false [(oP 4 (.mv (.lit (.c (.pv (.bool false))))))])) (.seq (.seq (.tr (rl [0, 0, 8]) false (.region
  false [(oP 6 (.mv (T 0))), (oP 7 (.len (T 6))), (oP 8 (.mv (T 1))), (oP 9 (.len (T 8))), (oP 10 (.bin .neq (T 7) (T 9)))])) (.tr (rl [0, 0, 2]) false (.cond
  (T 10) (.seq (.region false [(oP 4 (.mv (.lit (.c (.pv (.bool false))))))]) (.tr (rl [4]) false .ret)) .skip))) (.seq (.seq (.tr (rl [0, 0, 10, 0]) false
  (.region false [(oP 11 (.mv (T 0))), (oP 12 (.len (T 11))), (oP 13 (.mv (tI 0)))])) (.tr (rl [4]) false (.block 0 (.loop (rl [0, 0, 10, 0]) xf96_l0)))) (.seq
  (.region false [(oP 4 (.mv (.lit (.c (.pv (.bool true))))))]) (.tr (rl [4]) false .ret))))))
theorem xf96_ok : cmpFunc Go.Proofs.Tryd.prog 96 ((.two (.tr (rl [0, 0]) false .no) (.two (.two (.tr (rl [0, 0, 8]) false .no) (.tr (rl [0, 0, 2]) false (.two (.two .no (.tr (rl [4]) false .no)) .no))) (.two (.two (.tr (rl [0, 0, 10, 0]) false .no) (.tr (rl [4]) false (.loop (rl [0, 0, 10, 0]) (.two .no (.two (.tr (rl [0, 0, 10, 0]) false (.two .no (.tr [] false .no))) (.two (.tr (rl [0, 0, 2, 7, 0]) false (.two (.tr (rl [0, 0, 3, 6, 0]) false .no) (.two (.tr (rl [0, 0, 10, 0, 10]) false (.draw [0, 1, 2, 3, 4, 5, 6, 7, 8] [])) (.tr (rl [0, 0, 2, 7, 0]) false (.two (.two .no (.tr (rl [4]) false .no)) .no))))) (.tr (rl [0, 0, 10, 0]) false .no))))))) (.two .no (.tr (rl [4]) false .no)))))) = some xf96 := by kernel_rfl
def xf126 : XFunc :=
(.mk 17 [(.tmp 2)] (.seq (.tr (rl [1]) false (.region false [(oW 1 (.box (T 0) 2)), (oP 2 (.mv (.lit (.c (.pv (.bool false))))))])) (.seq (.tr (rl [2]) false
  (.region false [(oP 3 (.faddr 0 (T 1))), (oR 4 (.load false 1 (T 3))), (oP 5 (.call false [] (.lit (.c (.fn 150 []))) [(T 4)])), (oP 6 (.bin .neq (T 5) (.lit
  (.c (.pv (.str [])))))), (oP 7 (.mv (T 6))), (.mk (some 8) (.faddr 1 (T 1)) (some (7, true)) .p), (.mk (some 9) (.load false 1 (T 8)) (some (7, true)) .r),
  (.mk (some 10) (.bin .geq (T 9) (.lit (.c (.pv (.int .i64 (-1000000000000000)))))) (some (7, true)) .p), (oP 11 (.pick (T 7) (T 10) (.lit (.c (.pv (.bool
  false)))))), (oP 12 (.mv (T 11))), (.mk (some 13) (.faddr 1 (T 1)) (some (12, true)) .p), (.mk (some 14) (.load false 1 (T 13)) (some (12, true)) .r), (.mk
  (some 15) (.bin .leq (T 14) (tI 1000000000000000)) (some (12, true)) .p), (oP 16 (.pick (T 12) (T 15) (.lit (.c (.pv (.bool false)))))), (oP 2 (.mv (T
  16)))])) (.tr (rl [2]) false .ret))))
theorem xf126_ok : cmpFunc Go.Proofs.Tryd.prog 126 ((.two (.tr (rl [1]) false .no) (.two (.tr (rl [2]) false (.ops [{}, {}, { cls := some .p }])) (.tr (rl [2]) false .no)))) = some xf126 := by kernel_rfl
def xf127_l0 : XCode :=
(.seq (.region false [(oP 9 (.bin .lss (T 8) (T 7)))]) (.seq (.tr (rl [0, 0, 5, 0]) false (.cond (T 9) .skip (.tr [] false (.exit 0)))) (.seq (.tr (rl [0, 0, 2,
  2, 0]) false (.block 1 (.seq (.tr (rl [0, 0, 3, 1, 0]) false (.region false [(oP 10 (.mv (T 8))), (oP 5 (.mv (T 10)))])) (.seq (.tr (rl [0, 0, 3, 1, 0, 7])
  false (.region false [(oP 11 (.mv (T 1))), (oP 12 (.mv (T 0))), (oP 13 (.mv (T 5))), (oP 14 (.iaddrS 3 (T 12) (T 13))), (oR 15 (.load true 3 (T 14))), (oW 16
  (.call false [] (T 11) [(T 15)]))])) (.tr (rl [0, 0, 2, 2, 0]) false (.cond (T 16) (.seq (.tr (rl [4]) false (.region false [(oP 17 (.mv (T 5))), (oP 4 (.mv
  (T 17)))])) (.tr (rl [4]) false .ret)) .skip)))))) (.tr (rl [0, 0, 5, 0]) false (.region false [(oP 18 (.bin .add (T 8) (tI 1))), (oP 8 (.mv (T 18)))])))))
def xf127 : XFunc :=
(.mk 19 [(.tmp 4)] (.seq (.tr (rl [0, 0]) false (.region false [(oP 4 (.mv (tI 0)))])) (.seq (.seq (.tr (rl [0, 0, 5, 0]) false (.region false [(oP 6 (.mv (T
  0))), (oP 7 (.len (T 6))), (oP 8 (.mv (tI 0)))])) (.tr (rl [4]) false (.block 0 (.loop (rl [0, 0, 5, 0]) xf127_l0)))) (.seq (.region false [(oP 4 (.mv (.lit
  (.c (.pv (.int .i64 (-1)))))))]) (.tr (rl [4]) false .ret)))))
theorem xf127_ok : cmpFunc Go.Proofs.Tryd.prog 127 ((.two (.tr (rl [0, 0]) false .no) (.two (.two (.tr (rl [0, 0, 5, 0]) false .no) (.tr (rl [4]) false (.loop (rl [0, 0, 5, 0]) (.two .no (.two (.tr (rl [0, 0, 5, 0]) false (.two .no (.tr [] false .no))) (.two (.tr (rl [0, 0, 2, 2, 0]) false (.two (.tr (rl [0, 0, 3, 1, 0]) false .no) (.two (.tr (rl [0, 0, 3, 1, 0, 7]) false .no) (.tr (rl [0, 0, 2, 2, 0]) false (.two (.two (.tr (rl [4]) false .no) (.tr (rl [4]) false .no)) .no))))) (.tr (rl [0, 0, 5, 0]) false .no))))))) (.two .no (.tr (rl [4]) false .no))))) = some xf127 := by kernel_rfl
def xf128 : XFunc :=
(.mk 9 [(.tmp 2)] (.seq (.tr (rl [0]) false (.region false [(oP 2 (.mv (.lit (.c (.pv (.bool false))))))])) (.seq (.tr (rl [2]) false (.region false [(oP 3 (.mv
  (T 0))), (oP 4 (.bin .lss (T 3) (.lit (.c (.pv (.int .i32 32)))))), (oP 5 (.mv (T 4))), (.mk (some 6) (.mv (T 0)) (some (5, false)) .p), (.mk (some 7) (.bin
  .gtr (T 6) (.lit (.c (.pv (.int .i32 126))))) (some (5, false)) .p), (oP 8 (.pick (T 5) (.lit (.c (.pv (.bool true)))) (T 7))), (oP 2 (.mv (T 8)))])) (.tr (rl
  [2]) false .ret))))
theorem xf128_ok : cmpFunc Go.Proofs.Tryd.prog 128 ((.two (.tr (rl [0]) false .no) (.two (.tr (rl [2]) false .no) (.tr (rl [2]) false .no)))) = some xf128 := by kernel_rfl
def xf129 : XFunc :=
(.mk 9 [(.tmp 4)] (.seq (.tr (rl [0, 0]) false (.region false [(oP 4 (.mv (.lit (.c (.pv (.bool false))))))])) (.seq (.tr (rl [4]) false (.region false [(oP 5
  (.mv (T 0))), (oP 6 (.mv (T 1))), (oW 7 (.call false [] (.lit (.c (.fn 151 []))) [(T 5), (T 6)])), (oP 8 (.bin .geq (T 7) (tI 0))), (oP 4 (.mv (T 8)))])) (.tr
  (rl [4]) false .ret))))
theorem xf129_ok : cmpFunc Go.Proofs.Tryd.prog 129 ((.two (.tr (rl [0, 0]) false .no) (.two (.tr (rl [4]) false .no) (.tr (rl [4]) false .no)))) = some xf129 := by kernel_rfl
def xf130 : XFunc :=
(.mk 9 [(.tmp 2)] (.seq (.tr (rl [0]) false (.region false [(oP 2 (.mv (.lit (.c (.pv (.bool false))))))])) (.seq (.tr (rl [2]) false (.region false [(oP 3 (.mv
  (T 0))), (oP 4 (.bin .geq (T 3) (tI 0))), (oP 5 (.mv (T 4))), (.mk (some 6) (.mv (T 0)) (some (5, true)) .p), (.mk (some 7) (.bin .lss (T 6) (tI 4)) (some (5,
  true)) .p), (oP 8 (.pick (T 5) (T 7) (.lit (.c (.pv (.bool false)))))), (oP 2 (.mv (T 8)))])) (.tr (rl [2]) false .ret))))
theorem xf130_ok : cmpFunc Go.Proofs.Tryd.prog 130 ((.two (.tr (rl [0]) false .no) (.two (.tr (rl [2]) false .no) (.tr (rl [2]) false .no)))) = some xf130 := by kernel_rfl
def xf150 : XFunc :=
(.mk 12 [(.tmp 2)] (.seq (.tr (rl [0]) false (.region false [(oP 2 (.mv (.lit (.c (.pv (.str []))))))])) (.seq (.seq (.tr (rl [3]) false (.region false [(oP 3
  (.mv (T 0)))])) (.tr (rl [2]) false (.block 0 (.seq (.tr (rl [3, 0]) false (.region false [(oP 5 (.bin .eql (T 3) (tI 0))), (oP 4 (.mv (T 5)))])) (.tr (rl
  [2]) false (.cond (T 4) (.seq (.region false [(oP 2 (.mv (.lit (.c (.pv (.str [69, 85, 82]))))))]) (.tr (rl [2]) false .ret)) (.seq (.tr (rl [3, 2]) false
  (.region false [(oP 7 (.bin .eql (T 3) (tI 1))), (oP 6 (.mv (T 7)))])) (.tr (rl [2]) false (.cond (T 6) (.seq (.region false [(oP 2 (.mv (.lit (.c (.pv (.str
  [74, 80, 89]))))))]) (.tr (rl [2]) false .ret)) (.seq (.tr (rl [3, 4]) false (.region false [(oP 9 (.bin .eql (T 3) (tI 2))), (oP 8 (.mv (T 9)))])) (.tr (rl
  [2]) false (.cond (T 8) (.seq (.region false [(oP 2 (.mv (.lit (.c (.pv (.str [66, 72, 68]))))))]) (.tr (rl [2]) false .ret)) (.seq (.tr (rl [10]) false
  (.region false [(oP 11 (.bin .eql (T 3) (tI 3))), (oP 10 (.mv (T 11)))])) (.tr (rl [2]) false (.cond (T 10) (.seq (.region false [(oP 2 (.mv (.lit (.c (.pv
  (.str [85, 83, 68]))))))]) (.tr (rl [2]) false .ret)) .skip))))))))))))))) (.seq (.region false [(oP 2 (.mv (.lit (.c (.pv (.str []))))))]) (.tr (rl [2])
  false .ret)))))
theorem xf150_ok : cmpFunc Go.Proofs.Tryd.prog 150 ((.two (.tr (rl [0]) false .no) (.two (.two (.tr (rl [3]) false .no) (.tr (rl [2]) false (.two (.tr (rl [3, 0]) false .no) (.tr (rl [2]) false (.two (.two .no (.tr (rl [2]) false .no)) (.two (.tr (rl [3, 2]) false .no) (.tr (rl [2]) false (.two (.two .no (.tr (rl [2]) false .no)) (.two (.tr (rl [3, 4]) false .no) (.tr (rl [2]) false (.two (.two .no (.tr (rl [2]) false .no)) (.two (.tr (rl [10]) false .no) (.tr (rl [2]) false (.two (.two .no (.tr (rl [2]) false .no)) .no)))))))))))))) (.two .no (.tr (rl [2]) false .no))))) = some xf150 := by kernel_rfl
def xf151 : XFunc :=
(.mk 8 [(.tmp 4)] (.seq (.tr (rl [0, 0]) false (.region false [(oP 4 (.mv (tI 0)))])) (.seq (.tr (rl [4]) false (.region false [(oP 5 (.mv (T 0))), (oP 6 (.mv
  (T 1))), (oW 7 (.call false [] (.lit (.c (.fn 154 []))) [(T 5), (T 6), (.lit (.c (.pv (.bool true))))])), (oP 4 (.mv (T 7)))])) (.tr (rl [4]) false .ret))))
theorem xf151_ok : cmpFunc Go.Proofs.Tryd.prog 151 ((.two (.tr (rl [0, 0]) false .no) (.two (.tr (rl [4]) false .no) (.tr (rl [4]) false .no)))) = some xf151 := by kernel_rfl
def xf154_l0 : XCode :=
(.seq (.region false [(oW 11 (.nxt (T 10))), (oP 12 (.extr 0 (T 11)))]) (.seq (.tr (rl [1, 0, 7, 0]) false (.cond (T 12) .skip (.tr [] false (.exit 0)))) (.tr
  (rl [1, 0, 3, 3]) false (.block 1 (.seq (.tr (rl [1, 0, 4, 0, 1]) false (.region false [(oP 13 (.extr 1 (T 11))), (oP 14 (.extr 2 (T 11))), (oP 7 (.mv (T
  13))), (oP 8 (.mv (T 14)))])) (.seq (.tr (rl [1, 0, 4, 2, 8]) false (.region false [(oP 15 (.mv (T 1))), (oP 16 (.mv (T 8))), (oW 17 (.call false [] (T 15)
  [(T 16)])), (oP 18 (.mv (T 2))), (oP 19 (.eqB false (T 17) (T 18)))])) (.tr (rl [1, 0, 3, 3]) false (.cond (T 19) (.seq (.tr (rl [6]) false (.region false
  [(oP 20 (.mv (T 7))), (oP 6 (.mv (T 20)))])) (.tr (rl [6]) false .ret)) .skip))))))))
def xf154 : XFunc :=
(.mk 21 [(.tmp 6)] (.seq (.tr (rl [0, 0, 0]) false (.region false [(oP 6 (.mv (tI 0)))])) (.seq (.seq (.tr (rl [1, 0, 7]) false (.region false [(oP 9 (.mv (T
  0))), (oW 10 (.rng (T 9)))])) (.tr (rl [6]) false (.block 0 (.loop (rl [1, 0, 7]) xf154_l0)))) (.seq (.region false [(oP 6 (.mv (.lit (.c (.pv (.int .i64
  (-1)))))))]) (.tr (rl [6]) false .ret)))))
theorem xf154_ok : cmpFunc Go.Proofs.Tryd.prog 154 ((.two (.tr (rl [0, 0, 0]) false .no) (.two (.two (.tr (rl [1, 0, 7]) false .no) (.tr (rl [6]) false (.loop (rl [1, 0, 7]) (.two .no (.two (.tr (rl [1, 0, 7, 0]) false (.two .no (.tr [] false .no))) (.tr (rl [1, 0, 3, 3]) false (.two (.tr (rl [1, 0, 4, 0, 1]) false .no) (.two (.tr (rl [1, 0, 4, 2, 8]) false .no) (.tr (rl [1, 0, 3, 3]) false (.two (.two (.tr (rl [6]) false .no) (.tr (rl [6]) false .no)) .no)))))))))) (.two .no (.tr (rl [6]) false .no))))) = some xf154 := by kernel_rfl
def X : Nat → Option XFunc
  | 3 => some xf3
  | 15 => some xf15
  | 16 => some xf16
  | 17 => some xf17
  | 18 => some xf18
  | 19 => some xf19
  | 20 => some xf20
  | 21 => some xf21
  | 22 => some xf22
  | 23 => some xf23
  | 24 => some xf24
  | 25 => some xf25
  | 26 => some xf26
  | 27 => some xf27
  | 28 => some xf28
  | 29 => some xf29
  | 30 => some xf30
  | 31 => some xf31
  | 32 => some xf32
  | 33 => some xf33
  | 34 => some xf34
  | 37 => some xf37
  | 38 => some xf38
  | 40 => some xf40
  | 43 => some xf43
  | 44 => some xf44
  | 48 => some xf48
  | 58 => some xf58
  | 59 => some xf59
  | 60 => some xf60
  | 61 => some xf61
  | 62 => some xf62
  | 63 => some xf63
  | 64 => some xf64
  | 65 => some xf65
  | 66 => some xf66
  | 67 => some xf67
  | 68 => some xf68
  | 69 => some xf69
  | 70 => some xf70
  | 71 => some xf71
  | 72 => some xf72
  | 73 => some xf73
  | 74 => some xf74
  | 75 => some xf75
  | 76 => some xf76
  | 77 => some xf77
  | 78 => some xf78
  | 79 => some xf79
  | 80 => some xf80
  | 81 => some xf81
  | 82 => some xf82
  | 83 => some xf83
  | 84 => some xf84
  | 85 => some xf85
  | 87 => some xf87
  | 88 => some xf88
  | 96 => some xf96
  | 126 => some xf126
  | 127 => some xf127
  | 128 => some xf128
  | 129 => some xf129
  | 130 => some xf130
  | 150 => some xf150
  | 151 => some xf151
  | 154 => some xf154
  | _ => none
def E0 : Oracle := fun _ _ _ => none
theorem X_ok : ∀ f x, X f = some x → ∃ h, cmpFunc Go.Proofs.Tryd.prog f h = some x := by
  intro f x h
  unfold X at h
  split at h <;> cases h
  · exact ⟨_, xf3_ok⟩
  · exact ⟨_, xf15_ok⟩
  · exact ⟨_, xf16_ok⟩
  · exact ⟨_, xf17_ok⟩
  · exact ⟨_, xf18_ok⟩
  · exact ⟨_, xf19_ok⟩
  · exact ⟨_, xf20_ok⟩
  · exact ⟨_, xf21_ok⟩
  · exact ⟨_, xf22_ok⟩
  · exact ⟨_, xf23_ok⟩
  · exact ⟨_, xf24_ok⟩
  · exact ⟨_, xf25_ok⟩
  · exact ⟨_, xf26_ok⟩
  · exact ⟨_, xf27_ok⟩
  · exact ⟨_, xf28_ok⟩
  · exact ⟨_, xf29_ok⟩
  · exact ⟨_, xf30_ok⟩
  · exact ⟨_, xf31_ok⟩
  · exact ⟨_, xf32_ok⟩
  · exact ⟨_, xf33_ok⟩
  · exact ⟨_, xf34_ok⟩
  · exact ⟨_, xf37_ok⟩
  · exact ⟨_, xf38_ok⟩
  · exact ⟨_, xf40_ok⟩
  · exact ⟨_, xf43_ok⟩
  · exact ⟨_, xf44_ok⟩
  · exact ⟨_, xf48_ok⟩
  · exact ⟨_, xf58_ok⟩
  · exact ⟨_, xf59_ok⟩
  · exact ⟨_, xf60_ok⟩
  · exact ⟨_, xf61_ok⟩
  · exact ⟨_, xf62_ok⟩
  · exact ⟨_, xf63_ok⟩
  · exact ⟨_, xf64_ok⟩
  · exact ⟨_, xf65_ok⟩
  · exact ⟨_, xf66_ok⟩
  · exact ⟨_, xf67_ok⟩
  · exact ⟨_, xf68_ok⟩
  · exact ⟨_, xf69_ok⟩
  · exact ⟨_, xf70_ok⟩
  · exact ⟨_, xf71_ok⟩
  · exact ⟨_, xf72_ok⟩
  · exact ⟨_, xf73_ok⟩
  · exact ⟨_, xf74_ok⟩
  · exact ⟨_, xf75_ok⟩
  · exact ⟨_, xf76_ok⟩
  · exact ⟨_, xf77_ok⟩
  · exact ⟨_, xf78_ok⟩
  · exact ⟨_, xf79_ok⟩
  · exact ⟨_, xf80_ok⟩
  · exact ⟨_, xf81_ok⟩
  · exact ⟨_, xf82_ok⟩
  · exact ⟨_, xf83_ok⟩
  · exact ⟨_, xf84_ok⟩
  · exact ⟨_, xf85_ok⟩
  · exact ⟨_, xf87_ok⟩
  · exact ⟨_, xf88_ok⟩
  · exact ⟨_, xf96_ok⟩
  · exact ⟨_, xf126_ok⟩
  · exact ⟨_, xf127_ok⟩
  · exact ⟨_, xf128_ok⟩
  · exact ⟨_, xf129_ok⟩
  · exact ⟨_, xf130_ok⟩
  · exact ⟨_, xf150_ok⟩
  · exact ⟨_, xf151_ok⟩
  · exact ⟨_, xf154_ok⟩

theorem ok : OkOr Go.Proofs.Tryd.prog (ev X E0) := ev_ok X_ok (fun _ _ _ _ _ h => by cases h) (by kernel_rfl)
end Go.Sx.Tryd
