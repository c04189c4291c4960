/- Functions of the program in the evaluator's form, each checked by the kernel. Printed by genx.py. -/
import Derived.Test.YtggopflifieoiaaDoorSxLem
import Derived.Test.YtggopflifieoiaaDoorProg
import Derived.KernelRfl
namespace Go.Sx.Tryd
open Go Go.Sx
def xf6_l0 : XCode :=
(.seq (.seq (.tr (rl [1, 0, 0, 3, 1, 0, 0, 39]) false (.region false [(oP 48 (.mv (T 11))), (oP 49 (.mv (T 1))), (oP 50 (.len (T 49))), (oP 51 (.bin .lss (T 48)
  (T 50)))])) (.tr (rl [1, 0, 0, 3, 1, 0, 0]) false (.cond (T 51) .skip (.tr [] false (.exit 0))))) (.seq (.tr (rl [1, 0, 0, 2, 0, 1, 0, 0]) false (.block 1
  (.seq (.tr (rl [1, 0, 0, 3, 1, 0, 0, 0]) false (.region true [(oP 54 (.faddr 2 (T 3))), (oP 55 (.faddr 0 (T 54))), (oR 56 (.load false 1 (T 55))), (oP 57 (.mv
  (T 1))), (oP 58 (.mv (T 11))), (oP 59 (.iaddrS 1 (T 57) (T 58))), (oR 60 (.load false 1 (T 59))), (oP 61 (.convI .i64 (T 60))), (oP 62 (.build [(.pv (.int
  .i64 0)), (.pv (.int .i64 0))] [(0, (1, (T 56))), (1, (1, (T 61)))])), (oW 12 (.alloc [(.pv (.int .i64 0)), (.pv (.int .i64 0))])), (sW (.store 2 (T 12) (T
  62)))])) (.seq (.tr (rl [1, 0, 0, 3, 1, 0, 0, 0, 0, 0]) false (.region false [(oP 64 (.mv (T 7))), (oP 65 (.faddr 0 (T 3))), (oR 66 (.load false 1 (T 65))),
  (oR 67 (.load true 2 (T 12))), (oP 68 (.mv (T 10))), (oP 69 (.mv (T 11))), (oP 70 (.mv (T 2))), (oP 71 (.convI .i64 (T 70))), (oP 72 (.bin .eql (T 69) (T
  71))), (oP 73 (.call false [] (.lit (.c (.fn 26 []))) [(T 64), (T 66), (T 67), (T 68), (T 72)])), (oP 63 (.mv (T 73))), (oP 74 (.extr 0 (T 63))), (oP 75
  (.extr 1 (T 63))), (oP 13 (.mv (T 74))), (oP 14 (.mv (T 75)))])) (.seq (.seq (.tr (rl [1, 0, 0, 3, 1, 0, 0, 0, 0, 63]) false (.region false [(oP 76 (.mv (T
  14))), (oP 77 (.bin .eql (T 76) (tI 0)))])) (.tr (rl [1, 0, 0, 2, 0, 1, 0, 0]) false (.cond (T 77) (.seq (.tr (rl [1, 0, 0, 3, 1, 0, 0, 0]) false (.region
  false [(oP 78 (.mv (T 13))), (oP 7 (.mv (T 78)))])) (.seq (.tr (rl [1, 0, 0, 3, 1, 0, 0, 3]) false (.region false [(oP 79 (.faddr 0 (T 9))), (oR 80 (.load
  false 1 (T 79))), (oP 81 (.len (T 80))), (oP 82 (.bin .add (T 81) (tI 1))), (oP 83 (.mv (T 10))), (oP 84 (.mv (T 10))), (oP 85 (.faddr 1 (T 3))), (oR 86
  (.load false 1 (T 85))), (oR 87 (.load true 2 (T 12))), (oP 88 (.build [(.pv (.int .i64 0)), (.pv (.int .i64 0)), (.pv (.int .i64 0))] [(0, (1, (T 86))), (1,
  (2, (T 87)))])), (oP 89 (.faddr 0 (T 12))), (oR 90 (.load false 1 (T 89))), (oP 91 (.faddr 1 (T 12))), (oR 92 (.load false 1 (T 91))), (oP 93 (.un .neg (T
  92))), (oP 94 (.build [(.pv (.int .i64 0)), (.pv (.int .i64 0))] [(0, (1, (T 90))), (1, (1, (T 93)))])), (oP 95 (.build [(.pv (.int .i64 0)), (.pv (.int .i64
  0)), (.pv (.int .i64 0))] [(0, (1, (tI 500))), (1, (2, (T 94)))])), (oP 96 (.buildSl [(.pv (.int .i64 0)), (.pv (.int .i64 0)), (.pv (.int .i64 0))] 2 3 [(0,
  (3, (T 88))), (3, (3, (T 95)))])), (oP 97 (.build [(.pv (.int .i64 0)), (.pv (.int .i32 0)), (.pv (.int .i32 0)), (.pv (.sl .nil 0 [])), (.pv (.int .i64 0)),
  (.pv (.int .i64 0)), (.pv (.str []))] [(0, (1, (T 82))), (1, (1, (T 83))), (2, (1, (T 84))), (3, (1, (T 96)))])), (oW 15 (.alloc [(.pv (.int .i64 0)), (.pv
  (.int .i32 0)), (.pv (.int .i32 0)), (.pv (.sl .nil 0 [])), (.pv (.int .i64 0)), (.pv (.int .i64 0)), (.pv (.str []))])), (sW (.store 7 (T 15) (T 97)))]))
  (.seq (.tr (rl [1, 0, 0, 3, 1, 0, 0, 4, 0]) false (.region false [(oR 99 (.load true 1 (T 9))), (oR 100 (.load true 7 (T 15))), (oP 101 (.call false [] (.lit
  (.c (.fn 14 []))) [(T 99), (T 100)])), (oP 98 (.mv (T 101))), (oP 102 (.extr 0 (T 98))), (oP 103 (.extr 1 (T 98))), (oW 16 (.alloc [(.pv (.sl .nil 0 []))])),
  (sW (.store 1 (T 16) (T 102))), (oP 17 (.mv (T 103)))])) (.seq (.seq (.tr (rl [1, 0, 0, 3, 1, 0, 0, 4, 88]) false (.region false [(oP 104 (.mv (T 17))), (oP
  105 (.bin .neq (T 104) (tI 0)))])) (.tr (rl [1, 0, 0, 2, 0, 1, 0, 0, 4]) false (.cond (T 105) (.seq (.region false [(oP 6 (.mv (.lit (.c (.pv (.bool
  false))))))]) (.tr (rl [6]) false .ret)) .skip))) (.tr (rl [1, 0, 0, 3, 1, 0, 0]) false (.region false [(oR 106 (.load true 1 (T 16))), (sW (.store 1 (T 9) (T
  106)))])))))) .skip))) (.seq (.tr (rl [1, 0, 0, 3, 1, 0, 0, 6, 0]) false (.region false [(oP 108 (.faddr 0 (T 9))), (oR 109 (.load false 1 (T 108))), (oP 110
  (.faddr 1 (T 3))), (oR 111 (.load false 1 (T 110))), (oP 112 (.faddr 2 (T 3))), (oP 113 (.faddr 0 (T 112))), (oR 114 (.load false 1 (T 113))), (oP 115 (.call
  false [] (.lit (.c (.fn 27 []))) [(T 109), (T 111), (T 114), (.lit (.c (.pv (.int .i32 50000))))])), (oP 107 (.mv (T 115))), (oP 116 (.extr 0 (T 107))), (oP
  117 (.extr 1 (T 107))), (oP 18 (.mv (T 116))), (oP 19 (.mv (T 117)))])) (.seq (.seq (.tr (rl [1, 0, 0, 3, 1, 0, 0, 161]) false (.region true [(oP 118 (.mv (T
  19))), (oP 119 (.bin .neq (T 118) (tI 0))), (oP 120 (.mv (T 119))), (.mk (some 121) (.mv (T 7)) (some (120, false)) .p), (.mk (some 122) (.len (T 121)) (some
  (120, false)) .p), (.mk (some 123) (.bin .neq (T 122) (tI 1)) (some (120, false)) .p), (oP 124 (.pick (T 120) (.lit (.c (.pv (.bool true)))) (T 123))), (oP
  125 (.mv (T 124))), (.mk (some 126) (.mv (T 18)) (some (125, false)) .p), (.mk (some 127) (.faddr 2 (T 3)) (some (125, false)) .p), (.mk (some 128) (.faddr 1
  (T 127)) (some (125, false)) .p), (.mk (some 129) (.load false 1 (T 128)) (some (125, false)) .r), (.mk (some 130) (.bin .gtr (T 126) (T 129)) (some (125,
  false)) .p), (oP 131 (.pick (T 125) (.lit (.c (.pv (.bool true)))) (T 130))), (oP 132 (.mv (T 131))), (.mk (some 133) (.mv (T 7)) (some (132, false)) .p),
  (.mk (some 134) (.iaddrS 9 (T 133) (tI 0)) (some (132, false)) .p), (.mk (some 135) (.faddr 7 (T 134)) (some (132, false)) .p), (.mk (some 136) (.load false 1
  (T 135)) (some (132, false)) .r), (.mk (some 137) (.mv (T 18)) (some (132, false)) .p), (.mk (some 138) (.bin .neq (T 136) (T 137)) (some (132, false)) .p),
  (oP 139 (.pick (T 132) (.lit (.c (.pv (.bool true)))) (T 138))), (oP 140 (.mv (T 139))), (.mk (some 141) (.mv (T 7)) (some (140, false)) .p), (.mk (some 142)
  (.iaddrS 9 (T 141) (tI 0)) (some (140, false)) .p), (.mk (some 143) (.load true 9 (T 142)) (some (140, false)) .r), (.mk (some 144) (.mv (T 10)) (some (140,
  false)) .p), (.mk (some 145) (.call false [] (.lit (.c (.fn 28 []))) [(T 143), (T 144)]) (some (140, false)) .p), (.mk (some 146) (.mv (T 145)) (some (140,
  false)) .p), (.mk (some 147) (.mv (T 7)) (some (146, true)) .p), (.mk (some 148) (.iaddrS 9 (T 147) (tI 0)) (some (146, true)) .p), (.mk (some 149) (.load
  true 9 (T 148)) (some (146, true)) .r), (.mk (some 150) (.mv (T 10)) (some (146, true)) .p), (.mk (some 151) (.call false [] (.lit (.c (.fn 29 []))) [(T 149),
  (T 150)]) (some (146, true)) .p), (.mk (some 152) (.mv (T 18)) (some (146, true)) .p), (.mk (some 153) (.bin .add (T 151) (T 152)) (some (146, true)) .p),
  (.mk (some 154) (.faddr 2 (T 3)) (some (146, true)) .p), (.mk (some 155) (.faddr 1 (T 154)) (some (146, true)) .p), (.mk (some 156) (.load false 1 (T 155))
  (some (146, true)) .r), (.mk (some 157) (.bin .neq (T 153) (T 156)) (some (146, true)) .p), (.mk (some 158) (.pick (T 146) (T 157) (.lit (.c (.pv (.bool
  false))))) (some (140, false)) .p), (oP 159 (.pick (T 140) (.lit (.c (.pv (.bool true)))) (T 158))), (oP 160 (.mv (T 159))), (.mk (some 161) (.mv (T 7)) (some
  (160, false)) .p), (.mk (some 162) (.iaddrS 9 (T 161) (tI 0)) (some (160, false)) .p), (.mk (some 163) (.faddr 8 (T 162)) (some (160, false)) .p), (.mk (some
  164) (.load false 1 (T 163)) (some (160, false)) .r), (.mk (some 165) (.mv (T 164)) (some (160, false)) .p), (.mk (some 166) (.mv (T 7)) (some (165, true))
  .p), (.mk (some 167) (.iaddrS 9 (T 166) (tI 0)) (some (165, true)) .p), (.mk (some 168) (.load true 9 (T 167)) (some (165, true)) .r), (.mk (some 169) (.mv (T
  10)) (some (165, true)) .p), (.mk (some 170) (.call false [] (.lit (.c (.fn 29 []))) [(T 168), (T 169)]) (some (165, true)) .p), (.mk (some 171) (.bin .neq (T
  170) (tI 0)) (some (165, true)) .p), (.mk (some 172) (.pick (T 165) (T 171) (.lit (.c (.pv (.bool false))))) (some (160, false)) .p), (oP 173 (.pick (T 160)
  (.lit (.c (.pv (.bool true)))) (T 172)))])) (.tr (rl [1, 0, 0, 2, 0, 1, 0, 0]) false (.cond (T 173) (.seq (.region false [(oP 6 (.mv (.lit (.c (.pv (.bool
  false))))))]) (.tr (rl [6]) false .ret)) .skip))) (.seq (.tr (rl [1, 0, 0, 3, 1, 0, 0, 172]) false (.region false [(oP 174 (.mv (T 1))), (oP 175 (.mv (T
  11))), (oP 176 (.iaddrS 1 (T 174) (T 175))), (oR 177 (.load false 1 (T 176))), (oP 178 (.convI .i64 (T 177))), (oP 179 (.bin .rem (T 178) (tI 3))), (oP 180
  (.bin .eql (T 179) (tI 0))), (oP 181 (.mv (T 180))), (.mk (some 182) (.mv (T 10)) (some (181, true)) .p), (.mk (some 183) (.bin .lss (T 182) (.lit (.c (.pv
  (.int .i32 50000))))) (some (181, true)) .p), (oP 184 (.pick (T 181) (T 183) (.lit (.c (.pv (.bool false))))))])) (.tr (rl [1, 0, 0, 3, 1, 0, 0]) false (.cond
  (T 184) (.tr (rl [1, 0, 0, 3, 1, 0, 0]) false (.region false [(oP 185 (.mv (T 10))), (oP 186 (.bin .add (T 185) (.lit (.c (.pv (.int .i32 1)))))), (oP 10 (.mv
  (T 186)))])) .skip)))))))))) (.tr (rl [1, 0, 0, 3, 1, 0, 0]) false (.region false [(oP 52 (.mv (T 11))), (oP 53 (.bin .add (T 52) (tI 1))), (oP 11 (.mv (T
  53)))]))))
def xf6 : XFunc :=
(.mk 188 [(.tmp 6)] (.seq (.tr (rl [1, 0, 0]) false (.region false [(oW 3 (.box (T 0) 9)), (oP 6 (.mv (.lit (.c (.pv (.bool false))))))])) (.seq (.tr (rl [1, 0,
  0, 3, 0]) false (.region false [(oR 21 (.load true 9 (T 3))), (oP 22 (.call false [] (.lit (.c (.fn 25 []))) [(.lit (.c (.pv (.sl .nil 0 [])))), (T 21)])),
  (oP 20 (.mv (T 22))), (oP 23 (.extr 0 (T 20))), (oP 24 (.extr 1 (T 20))), (oP 7 (.mv (T 23))), (oP 8 (.mv (T 24)))])) (.seq (.seq (.tr (rl [1, 0, 0, 3, 0,
  27]) false (.region false [(oP 25 (.mv (T 8))), (oP 26 (.bin .neq (T 25) (tI 0))), (oP 27 (.mv (T 26))), (.mk (some 28) (.mv (T 1)) (some (27, false)) .p),
  (.mk (some 29) (.len (T 28)) (some (27, false)) .p), (.mk (some 30) (.bin .gtr (T 29) (tI 30)) (some (27, false)) .p), (oP 31 (.pick (T 27) (.lit (.c (.pv
  (.bool true)))) (T 30))), (oP 32 (.mv (T 31))), (.mk (some 33) (.faddr 1 (T 3)) (some (32, false)) .p), (.mk (some 34) (.load false 1 (T 33)) (some (32,
  false)) .r), (.mk (some 35) (.bin .eql (T 34) (tI 500)) (some (32, false)) .p), (oP 36 (.pick (T 32) (.lit (.c (.pv (.bool true)))) (T 35)))])) (.tr (rl [1,
  0, 0, 2, 0]) false (.cond (T 36) (.seq (.tr (rl [6]) false (.region false [(oP 37 (.call false [] (.lit (.c (.fn 20 []))) [])), (oP 38 (.mv (T 37))), (.mk
  (some 39) (.mv (T 8)) (some (38, true)) .p), (.mk (some 40) (.bin .neq (T 39) (tI 0)) (some (38, true)) .p), (.mk (some 41) (.mv (T 7)) (some (38, true)) .p),
  (.mk (some 42) (.len (T 41)) (some (38, true)) .p), (.mk (some 43) (.bin .eql (T 42) (tI 0)) (some (38, true)) .p), (.mk (some 44) (.eqB false (T 40) (T 43))
  (some (38, true)) .p), (oP 45 (.pick (T 38) (T 44) (.lit (.c (.pv (.bool false)))))), (oP 6 (.mv (T 45)))])) (.tr (rl [6]) false .ret)) .skip))) (.seq
  (.region false [(oW 9 (.alloc [(.pv (.sl .nil 0 []))]))]) (.seq (.tr (rl [1, 0, 0, 3, 1, 0]) false (.region false [(oP 46 (.faddr 5 (T 3))), (oR 47 (.load
  false 1 (T 46))), (oP 10 (.mv (T 47)))])) (.seq (.seq (.region false [(oP 11 (.mv (tI 0)))]) (.tr (rl [6]) false (.block 0 (.loop (rl [1, 0, 0, 3, 1, 0, 0])
  xf6_l0)))) (.seq (.tr (rl [6]) false (.region false [(oP 187 (.call false [] (.lit (.c (.fn 20 []))) [])), (oP 6 (.mv (T 187)))])) (.tr (rl [6]) false
  .ret)))))))))
theorem xf6_ok : cmpFunc Go.Proofs.Tryd.prog 6 ((.two (.tr (rl [1, 0, 0]) false .no) (.two (.tr (rl [1, 0, 0, 3, 0]) false (.ops [{}, { cls := some .p }])) (.two (.two (.tr (rl [1, 0, 0, 3, 0, 27]) false .no) (.tr (rl [1, 0, 0, 2, 0]) false (.two (.two (.tr (rl [6]) false (.ops [{ cls := some .p }])) (.tr (rl [6]) false .no)) .no))) (.two .no (.two (.tr (rl [1, 0, 0, 3, 1, 0]) false .no) (.two (.two .no (.tr (rl [6]) false (.loop (rl [1, 0, 0, 3, 1, 0, 0]) (.two (.two (.tr (rl [1, 0, 0, 3, 1, 0, 0, 39]) false .no) (.tr (rl [1, 0, 0, 3, 1, 0, 0]) false (.two .no (.tr [] false .no)))) (.two (.tr (rl [1, 0, 0, 2, 0, 1, 0, 0]) false (.two (.tr (rl [1, 0, 0, 3, 1, 0, 0, 0]) false (.draw [0, 1, 2, 3, 4, 5, 6, 7, 8, 9, 10] [])) (.two (.tr (rl [1, 0, 0, 3, 1, 0, 0, 0, 0, 0]) false (.ops [{}, {}, {}, {}, {}, {}, {}, {}, {}, { cls := some .p }])) (.two (.two (.tr (rl [1, 0, 0, 3, 1, 0, 0, 0, 0, 63]) false .no) (.tr (rl [1, 0, 0, 2, 0, 1, 0, 0]) false (.two (.two (.tr (rl [1, 0, 0, 3, 1, 0, 0, 0]) false .no) (.two (.tr (rl [1, 0, 0, 3, 1, 0, 0, 3]) false .no) (.two (.tr (rl [1, 0, 0, 3, 1, 0, 0, 4, 0]) false (.ops [{}, {}, { cls := some .p }])) (.two (.two (.tr (rl [1, 0, 0, 3, 1, 0, 0, 4, 88]) false .no) (.tr (rl [1, 0, 0, 2, 0, 1, 0, 0, 4]) false (.two (.two .no (.tr (rl [6]) false .no)) .no))) (.tr (rl [1, 0, 0, 3, 1, 0, 0]) false .no))))) .no))) (.two (.tr (rl [1, 0, 0, 3, 1, 0, 0, 6, 0]) false (.ops [{}, {}, {}, {}, {}, {}, {}, { cls := some .p }])) (.two (.two (.tr (rl [1, 0, 0, 3, 1, 0, 0, 161]) false (.draw [0, 1, 2, 3, 4, 5, 6, 7, 8, 9, 10, 11, 12, 13, 14, 15, 16, 17, 18, 19, 20, 21, 22, 23, 24, 25, 26, 27, 28, 29, 30, 31, 32, 33, 34, 35, 36, 37, 38, 39, 40, 41, 42, 43, 44, 45, 46, 47, 48, 49, 50, 51, 52, 53, 54, 55] [{}, {}, {}, {}, {}, {}, {}, {}, {}, {}, {}, {}, {}, {}, {}, {}, {}, {}, {}, {}, {}, {}, {}, {}, {}, {}, {}, { cls := some .p }, {}, {}, {}, {}, {}, { cls := some .p }, {}, {}, {}, {}, {}, {}, {}, {}, {}, {}, {}, {}, {}, {}, {}, {}, {}, {}, { cls := some .p }])) (.tr (rl [1, 0, 0, 2, 0, 1, 0, 0]) false (.two (.two .no (.tr (rl [6]) false .no)) .no))) (.two (.tr (rl [1, 0, 0, 3, 1, 0, 0, 172]) false .no) (.tr (rl [1, 0, 0, 3, 1, 0, 0]) false (.two (.tr (rl [1, 0, 0, 3, 1, 0, 0]) false .no) .no))))))))) (.tr (rl [1, 0, 0, 3, 1, 0, 0]) false .no)))))) (.two (.tr (rl [6]) false (.ops [{ cls := some .p }])) (.tr (rl [6]) false .no))))))))) = some xf6 := by kernel_rfl
def xf13_l0 : XCode :=
(.seq (.region false [(oP 45 (.bin .lss (T 44) (T 43)))]) (.seq (.tr (rl [6, 2, 33, 0]) false (.cond (T 45) .skip (.tr (rl [6, 2]) false (.exit 0)))) (.seq (.tr
  (rl [6, 2, 33, 0]) false (.block 1 (.seq (.tr (rl [6, 2, 0, 32, 0]) false (.region false [(oP 46 (.mv (T 44))), (oP 10 (.mv (T 46)))])) (.tr (rl [6, 2, 33,
  0]) false (.region true [(oP 47 (.faddr 3 (T 9))), (oR 48 (.load false 1 (T 47))), (oP 49 (.mv (T 10))), (oP 50 (.faddr 3 (T 9))), (oR 51 (.load false 1 (T
  50))), (oP 52 (.mv (T 10))), (oP 53 (.iaddrS 3 (T 51) (T 52))), (oP 54 (.faddr 1 (T 53))), (oP 55 (.faddr 1 (T 54))), (oR 56 (.load false 1 (T 55))), (oP 57
  (.un .neg (T 56))), (oP 58 (.iaddrS 3 (T 48) (T 49))), (oP 59 (.faddr 1 (T 58))), (oP 60 (.faddr 1 (T 59))), (sW (.store 1 (T 60) (T 57)))]))))) (.tr (rl [6,
  2, 33, 0]) false (.region false [(oP 61 (.bin .add (T 44) (tI 1))), (oP 44 (.mv (T 61)))])))))
def xf13 : XFunc :=
(.mk 69 [(.cell 6 true 7), (.tmp 7)] (.seq (.tr (rl [1, 0, 0, 2]) false (.region false [(oW 3 (.box (T 0) 7)), (oW 6 (.alloc [(.pv (.int .i64 0)), (.pv (.int
  .i32 0)), (.pv (.int .i32 0)), (.pv (.sl .nil 0 [])), (.pv (.int .i64 0)), (.pv (.int .i64 0)), (.pv (.str []))])), (oP 7 (.mv (tI 0)))])) (.seq (.seq (.tr
  (rl [1, 0, 0, 2, 1]) false (.region false [(oR 12 (.load true 7 (T 3))), (oP 13 (.call false [] (.lit (.c (.fn 36 []))) [(T 12)])), (oP 8 (.mv (T 13)))]))
  (.seq (.tr (rl [1, 0, 0, 2, 1, 6]) false (.region false [(oP 14 (.mv (T 8))), (oP 15 (.bin .neq (T 14) (tI 0)))])) (.tr (rl [1, 0, 0, 2, 0]) false (.cond (T
  15) (.seq (.tr (rl [6, 0]) false (.region false [(oP 16 (.build [(.pv (.int .i64 0)), (.pv (.int .i32 0)), (.pv (.int .i32 0)), (.pv (.sl .nil 0 [])), (.pv
  (.int .i64 0)), (.pv (.int .i64 0)), (.pv (.str []))] [])), (oP 17 (.mv (T 8))), (sW (.store 7 (T 6) (T 16))), (oP 7 (.mv (T 17)))])) (.tr (rl [6, 0]) false
  .ret)) .skip)))) (.seq (.seq (.tr (rl [1, 0, 0, 2, 20]) false (.region false [(oP 18 (.mv (T 1))), (oP 19 (.faddr 0 (T 3))), (oR 20 (.load false 1 (T 19))),
  (oP 21 (.bin .leq (T 18) (T 20))), (oP 22 (.mv (T 21))), (.mk (some 23) (.mv (T 2)) (some (22, false)) .p), (.mk (some 24) (.faddr 1 (T 3)) (some (22, false))
  .p), (.mk (some 25) (.load false 1 (T 24)) (some (22, false)) .r), (.mk (some 26) (.bin .lss (T 23) (T 25)) (some (22, false)) .p), (oP 27 (.pick (T 22) (.lit
  (.c (.pv (.bool true)))) (T 26)))])) (.tr (rl [1, 0, 0, 2, 0]) false (.cond (T 27) (.seq (.tr (rl [6, 0]) false (.region false [(oP 28 (.build [(.pv (.int
  .i64 0)), (.pv (.int .i32 0)), (.pv (.int .i32 0)), (.pv (.sl .nil 0 [])), (.pv (.int .i64 0)), (.pv (.int .i64 0)), (.pv (.str []))] [])), (sW (.store 7 (T
  6) (T 28))), (oP 7 (.mv (tI 20)))])) (.tr (rl [6, 0]) false .ret)) .skip))) (.seq (.tr (rl [1, 0, 0, 2, 2]) false (.region false [(oR 29 (.load true 7 (T
  3))), (oW 9 (.alloc [(.pv (.int .i64 0)), (.pv (.int .i32 0)), (.pv (.int .i32 0)), (.pv (.sl .nil 0 [])), (.pv (.int .i64 0)), (.pv (.int .i64 0)), (.pv
  (.str []))])), (sW (.store 7 (T 9) (T 29)))])) (.seq (.tr (rl [6, 2]) false (.region true [(oP 30 (.mv (T 1))), (oP 31 (.mv (T 2))), (oP 32 (.faddr 0 (T 3))),
  (oR 33 (.loadR false 1 (T 32) (T 3))), (oP 34 (.faddr 3 (T 3))), (oR 35 (.load false 1 (T 34))), (oP 37 (.faddr 0 (T 9))), (oW 36 (.callM (.lit (.c (.fn 37
  []))) [(T 35)])), (sW (.storeO 1 (T 37) (T 30) (T 3))), (oP 38 (.faddr 1 (T 9))), (sW (.storeO 1 (T 38) (T 31) (T 3))), (oP 39 (.faddr 4 (T 9))), (sW (.store
  1 (T 39) (T 33))), (oP 40 (.faddr 3 (T 9))), (sW (.store 1 (T 40) (T 36)))])) (.seq (.seq (.tr (rl [6, 2, 33, 0]) false (.region false [(oP 41 (.faddr 3 (T
  9))), (oR 42 (.load false 1 (T 41))), (oP 43 (.len (T 42))), (oP 44 (.mv (tI 0)))])) (.tr (rl [6, 2]) false (.block 0 (.loop (rl [6, 2, 33, 0]) xf13_l0))))
  (.seq (.seq (.tr (rl [6, 2, 1]) false (.region false [(oR 62 (.load true 7 (T 9))), (oW 63 (.call true [] (.lit (.c (.fn 36 []))) [(T 62)])), (oP 11 (.mv (T
  63)))])) (.seq (.tr (rl [6, 2, 1, 53]) false (.region false [(oP 64 (.mv (T 11))), (oP 65 (.bin .neq (T 64) (tI 0)))])) (.tr (rl [6, 0, 1]) false (.cond (T
  65) (.seq (.tr (rl [6, 0]) false (.region false [(oP 66 (.build [(.pv (.int .i64 0)), (.pv (.int .i32 0)), (.pv (.int .i32 0)), (.pv (.sl .nil 0 [])), (.pv
  (.int .i64 0)), (.pv (.int .i64 0)), (.pv (.str []))] [])), (oP 67 (.mv (T 11))), (sW (.store 7 (T 6) (T 66))), (oP 7 (.mv (T 67)))])) (.tr (rl [6, 0]) false
  .ret)) .skip)))) (.seq (.tr (rl [6, 0]) false (.region false [(oR 68 (.load true 7 (T 9))), (sW (.store 7 (T 6) (T 68))), (oP 7 (.mv (tI 0)))])) (.tr (rl [6,
  0]) false .ret))))))))))
theorem xf13_ok : cmpFunc Go.Proofs.Tryd.prog 13 ((.two (.tr (rl [1, 0, 0, 2]) false .no) (.two (.two (.tr (rl [1, 0, 0, 2, 1]) false (.ops [{}, { cls := some .p }])) (.two (.tr (rl [1, 0, 0, 2, 1, 6]) false .no) (.tr (rl [1, 0, 0, 2, 0]) false (.two (.two (.tr (rl [6, 0]) false .no) (.tr (rl [6, 0]) false .no)) .no)))) (.two (.two (.tr (rl [1, 0, 0, 2, 20]) false .no) (.tr (rl [1, 0, 0, 2, 0]) false (.two (.two (.tr (rl [6, 0]) false .no) (.tr (rl [6, 0]) false .no)) .no))) (.two (.tr (rl [1, 0, 0, 2, 2]) false .no) (.two (.tr (rl [6, 2]) false (.draw [0, 1, 2, 3, 4, 5, 7, 6, 8, 9, 10, 11, 12, 13, 14] [{}, {}, {}, { root := some 3 }, {}, {}, { own := true }, {}, { root := some 3 }, {}, { root := some 3 }])) (.two (.two (.tr (rl [6, 2, 33, 0]) false .no) (.tr (rl [6, 2]) false (.loop (rl [6, 2, 33, 0]) (.two .no (.two (.tr (rl [6, 2, 33, 0]) false (.two .no (.tr (rl [6, 2]) false .no))) (.two (.tr (rl [6, 2, 33, 0]) false (.two (.tr (rl [6, 2, 0, 32, 0]) false .no) (.tr (rl [6, 2, 33, 0]) false (.draw [0, 1, 2, 3, 4, 5, 6, 7, 8, 9, 10, 11, 12, 13, 14] [])))) (.tr (rl [6, 2, 33, 0]) false .no))))))) (.two (.two (.tr (rl [6, 2, 1]) false (.ops [{}, { fz := true }])) (.two (.tr (rl [6, 2, 1, 53]) false .no) (.tr (rl [6, 0, 1]) false (.two (.two (.tr (rl [6, 0]) false .no) (.tr (rl [6, 0]) false .no)) .no)))) (.two (.tr (rl [6, 0]) false .no) (.tr (rl [6, 0]) false .no)))))))))) = some xf13 := by kernel_rfl
def xf14 : XFunc :=
(.mk 39 [(.cell 4 true 1), (.tmp 5)] (.seq (.tr (rl [2, 0, 0]) false (.region false [(oW 2 (.box (T 0) 1)), (oW 3 (.box (T 1) 7)), (oW 4 (.alloc [(.pv (.sl .nil
  0 []))])), (oP 5 (.mv (tI 0)))])) (.seq (.seq (.tr (rl [2, 0, 0, 6]) false (.region false [(oR 9 (.load true 1 (T 2))), (oP 10 (.call false [] (.lit (.c (.fn
  38 []))) [(T 9)])), (oP 11 (.un .not (T 10)))])) (.tr (rl [2, 0, 0, 0]) false (.cond (T 11) (.seq (.tr (rl [4, 0]) false (.region false [(oP 12 (.build [(.pv
  (.sl .nil 0 []))] [])), (sW (.store 1 (T 4) (T 12))), (oP 5 (.mv (tI 1)))])) (.tr (rl [4, 0]) false .ret)) .skip))) (.seq (.seq (.tr (rl [2, 0, 0, 1]) false
  (.region false [(oR 13 (.load true 7 (T 3))), (oP 14 (.call false [] (.lit (.c (.fn 36 []))) [(T 13)])), (oP 6 (.mv (T 14)))])) (.seq (.tr (rl [2, 0, 0, 1,
  9]) false (.region false [(oP 15 (.mv (T 6))), (oP 16 (.bin .neq (T 15) (tI 0)))])) (.tr (rl [2, 0, 0, 0]) false (.cond (T 16) (.seq (.tr (rl [4, 0]) false
  (.region false [(oP 17 (.build [(.pv (.sl .nil 0 []))] [])), (oP 18 (.mv (T 6))), (sW (.store 1 (T 4) (T 17))), (oP 5 (.mv (T 18)))])) (.tr (rl [4, 0]) false
  .ret)) .skip)))) (.seq (.seq (.tr (rl [2, 0, 0, 2]) false (.region true [(oP 19 (.faddr 0 (T 2))), (oR 20 (.loadR false 1 (T 19) (T 2))), (oP 21 (.faddr 0 (T
  2))), (oR 22 (.load false 1 (T 21))), (oR 24 (.loadR true 7 (T 3) (T 3))), (oW 23 (.call false [(T 2), (T 3)] (.lit (.c (.fn 40 []))) [(T 22)])), (oW 25
  (.call false [] (.lit (.c (.fn 39 []))) [(T 20), (T 23), (T 24)])), (oP 7 (.mv (T 25)))])) (.seq (.tr (rl [2, 0, 0, 2, 19]) false (.region false [(oP 26 (.mv
  (T 7))), (oP 27 (.bin .neq (T 26) (tI 0)))])) (.tr (rl [2, 0, 0, 0]) false (.cond (T 27) (.seq (.tr (rl [4, 0]) false (.region false [(oP 28 (.build [(.pv
  (.sl .nil 0 []))] [])), (oP 29 (.mv (T 7))), (sW (.store 1 (T 4) (T 28))), (oP 5 (.mv (T 29)))])) (.tr (rl [4, 0]) false .ret)) .skip)))) (.seq (.region false
  [(oP 8 (.mv (.lit (.c (.fn 41 [])))))]) (.seq (.tr (rl [4, 0]) false (.region true [(oP 30 (.faddr 0 (T 2))), (oR 31 (.load false 1 (T 30))), (oP 32 (.mv (T
  8))), (oR 34 (.loadR true 7 (T 3) (T 3))), (oW 33 (.call false [(T 3)] (.lit (.c (.fn 42 []))) [(T 31), (T 32)])), (oP 35 (.call false [] (.lit (.c (.fn 43
  []))) [(T 34)])), (oP 36 (.buildSl [(.pv (.int .i64 0)), (.pv (.int .i32 0)), (.pv (.int .i32 0)), (.pv (.sl .nil 0 [])), (.pv (.int .i64 0)), (.pv (.int .i64
  0)), (.pv (.str []))] 1 7 [(0, (7, (T 35)))])), (oW 37 (.app 7 72 (T 33) (T 36))), (oP 38 (.build [(.pv (.sl .nil 0 []))] [(0, (1, (T 37)))])), (sW (.store 1
  (T 4) (T 38))), (oP 5 (.mv (tI 0)))])) (.tr (rl [4, 0]) false .ret))))))))
theorem xf14_ok : cmpFunc Go.Proofs.Tryd.prog 14 ((.two (.tr (rl [2, 0, 0]) false .no) (.two (.two (.tr (rl [2, 0, 0, 6]) false (.ops [{}, { cls := some .p }])) (.tr (rl [2, 0, 0, 0]) false (.two (.two (.tr (rl [4, 0]) false .no) (.tr (rl [4, 0]) false .no)) .no))) (.two (.two (.tr (rl [2, 0, 0, 1]) false (.ops [{}, { cls := some .p }])) (.two (.tr (rl [2, 0, 0, 1, 9]) false .no) (.tr (rl [2, 0, 0, 0]) false (.two (.two (.tr (rl [4, 0]) false .no) (.tr (rl [4, 0]) false .no)) .no)))) (.two (.two (.tr (rl [2, 0, 0, 2]) false (.draw [0, 1, 2, 3, 5, 4, 6, 7] [{}, { root := some 2 }, {}, {}, { ap := [2, 3] }, { root := some 3 }])) (.two (.tr (rl [2, 0, 0, 2, 19]) false .no) (.tr (rl [2, 0, 0, 0]) false (.two (.two (.tr (rl [4, 0]) false .no) (.tr (rl [4, 0]) false .no)) .no)))) (.two .no (.two (.tr (rl [4, 0]) false (.draw [0, 1, 2, 4, 3, 5, 6, 7, 8, 9, 10] [{}, {}, {}, { ap := [3] }, { root := some 3 }, { cls := some .p }])) (.tr (rl [4, 0]) false .no)))))))) = some xf14 := by kernel_rfl
def xf19_l0 : XCode :=
(.seq (.region false [(oP 10 (.bin .lss (T 9) (T 8)))]) (.seq (.tr (rl [0, 2, 3, 0, 0]) false (.cond (T 10) .skip (.tr (rl [0]) false (.exit 0)))) (.seq (.tr
  (rl [0, 1, 0, 3, 0, 0]) false (.block 1 (.seq (.tr (rl [0, 2, 1, 1, 0, 0]) false (.region false [(oP 11 (.iaddrS 3 (T 7) (T 9))), (oR 12 (.load true 3 (T
  11))), (oW 5 (.alloc [(.pv (.int .i32 0)), (.pv (.int .i32 0)), (.pv (.bool false))])), (sW (.store 3 (T 5) (T 12)))])) (.seq (.tr (rl [0, 2, 1, 1, 0, 0])
  false (.region true [(oP 13 (.mv (T 3))), (oP 14 (.faddr 0 (T 5))), (oR 15 (.load false 1 (T 14))), (oP 16 (.faddr 1 (T 5))), (oR 17 (.load false 1 (T 16))),
  (oP 18 (.build [(.pv (.int .i32 0)), (.pv (.int .i32 0))] [(0, (1, (T 15))), (1, (1, (T 17)))])), (oR 19 (.mlook (.int .i64 0) false (T 13) (T 18) 2)), (oP 20
  (.bin .add (T 19) (tI 1))), (oW 21 (.ment (.int .i64 0) (T 13) (T 18) 2)), (oP 22 (.extr 1 (T 21))), (sW (.mest (T 13) (T 22) (T 20)))])) (.seq (.tr (rl [0,
  2, 3, 0, 0, 32]) false (.region false [(oP 23 (.mv (T 3))), (oP 24 (.faddr 0 (T 5))), (oR 25 (.load false 1 (T 24))), (oP 26 (.faddr 1 (T 5))), (oR 27 (.load
  false 1 (T 26))), (oP 28 (.build [(.pv (.int .i32 0)), (.pv (.int .i32 0))] [(0, (1, (T 25))), (1, (1, (T 27)))])), (oR 29 (.mlook (.int .i64 0) false (T 23)
  (T 28) 2)), (oP 30 (.bin .gtr (T 29) (tI 1))), (oP 31 (.mv (T 30))), (.mk (some 32) (.faddr 0 (T 5)) (some (31, false)) .p), (.mk (some 33) (.load false 1 (T
  32)) (some (31, false)) .r), (.mk (some 34) (.call false [] (.lit (.c (.fn 53 []))) [(T 33)]) (some (31, false)) .p), (.mk (some 35) (.un .not (T 34)) (some
  (31, false)) .p), (oP 36 (.pick (T 31) (.lit (.c (.pv (.bool true)))) (T 35))), (oP 37 (.mv (T 36))), (.mk (some 38) (.faddr 1 (T 5)) (some (37, false)) .p),
  (.mk (some 39) (.load false 1 (T 38)) (some (37, false)) .r), (.mk (some 40) (.call false [] (.lit (.c (.fn 53 []))) [(T 39)]) (some (37, false)) .p), (.mk
  (some 41) (.un .not (T 40)) (some (37, false)) .p), (oP 42 (.pick (T 37) (.lit (.c (.pv (.bool true)))) (T 41)))])) (.tr (rl [0, 1, 0, 3, 0, 0]) false (.cond
  (T 42) (.seq (.region false [(oP 2 (.mv (.lit (.c (.pv (.bool false))))))]) (.tr (rl [2]) false .ret)) .skip))))))) (.tr (rl [0, 2, 3, 0, 0]) false (.region
  false [(oP 43 (.bin .add (T 9) (tI 1))), (oP 9 (.mv (T 43)))])))))
def xf19 : XFunc :=
(.mk 47 [(.tmp 2)] (.seq (.tr (rl [0]) false (.region false [(oP 2 (.mv (.lit (.c (.pv (.bool false))))))])) (.seq (.tr (rl [0, 2]) false (.region false [(.mk
  (some 6) .mkmap none .w), (oP 3 (.mv (T 6)))])) (.seq (.seq (.region false [(oP 7 (.mv (T 0))), (oP 8 (.len (T 7))), (oP 9 (.mv (tI 0)))]) (.tr (rl [0, 1])
  false (.block 0 (.loop (rl [0, 2, 3, 0, 0]) xf19_l0)))) (.seq (.tr (rl [2]) false (.region false [(oP 44 (.mv (T 0))), (oP 45 (.len (T 44))), (oP 46 (.bin
  .leq (T 45) (tI 64))), (oP 2 (.mv (T 46)))])) (.tr (rl [2]) false .ret))))))
theorem xf19_ok : cmpFunc Go.Proofs.Tryd.prog 19 ((.two (.tr (rl [0]) false .no) (.two (.tr (rl [0, 2]) false .no) (.two (.two .no (.tr (rl [0, 1]) false (.loop (rl [0, 2, 3, 0, 0]) (.two .no (.two (.tr (rl [0, 2, 3, 0, 0]) false (.two .no (.tr (rl [0]) false .no))) (.two (.tr (rl [0, 1, 0, 3, 0, 0]) false (.two (.tr (rl [0, 2, 1, 1, 0, 0]) false .no) (.two (.tr (rl [0, 2, 1, 1, 0, 0]) false (.draw [0, 1, 2, 3, 4, 5, 6, 7, 8, 9, 10] [])) (.two (.tr (rl [0, 2, 3, 0, 0, 32]) false (.ops [{}, {}, {}, {}, {}, {}, {}, {}, {}, {}, {}, { cls := some .p }, {}, {}, {}, {}, {}, { cls := some .p }])) (.tr (rl [0, 1, 0, 3, 0, 0]) false (.two (.two .no (.tr (rl [2]) false .no)) .no)))))) (.tr (rl [0, 2, 3, 0, 0]) false .no))))))) (.two (.tr (rl [2]) false .no) (.tr (rl [2]) false .no)))))) = some xf19 := by kernel_rfl
def xf20 : XFunc :=
(.mk 114 [(.tmp 0)] (.seq (.tr [] false (.region false [(oP 0 (.mv (.lit (.c (.pv (.bool false))))))])) (.seq (.tr (rl [1]) false (.region false [(oP 17 (.build
  [(.pv (.int .i64 0)), (.pv (.int .i64 0))] [(1, (1, (tI 100)))])), (oP 18 (.build [(.pv (.int .i64 0)), (.pv (.int .i64 0)), (.pv (.int .i64 0)), (.pv (.int
  .i64 0)), (.pv (.int .i64 0)), (.pv (.int .i64 0)), (.pv (.int .i32 0)), (.pv (.int .i64 0)), (.pv (.int .i64 0)), (.pv (.int .i64 0))] [(0, (1, (tI 3))), (1,
  (1, (tI 2))), (2, (1, (tI 1))), (3, (1, (tI 2))), (4, (2, (T 17))), (6, (1, (.lit (.c (.pv (.int .i32 2)))))), (7, (1, (tI 1))), (8, (1, (tI 2)))])), (oW 1
  (.alloc [(.pv (.int .i64 0)), (.pv (.int .i64 0)), (.pv (.int .i64 0)), (.pv (.int .i64 0)), (.pv (.int .i64 0)), (.pv (.int .i64 0)), (.pv (.int .i32 0)),
  (.pv (.int .i64 0)), (.pv (.int .i64 0)), (.pv (.int .i64 0))])), (sW (.store 10 (T 1) (T 18)))])) (.seq (.tr (rl [1, 0, 0]) false (.region false [(oR 20
  (.load true 10 (T 1))), (oP 21 (.build [(.pv (.int .i32 0)), (.pv (.int .i32 0)), (.pv (.bool false))] [(0, (1, (.lit (.c (.pv (.int .i32 5)))))), (1, (1,
  (.lit (.c (.pv (.int .i32 2))))))])), (oP 22 (.buildSl [(.pv (.int .i32 0)), (.pv (.int .i32 0)), (.pv (.bool false))] 1 3 [(0, (3, (T 21)))])), (oP 23 (.call
  false [] (.lit (.c (.fn 21 []))) [(T 20), (tI 0), (T 22), (.lit (.c (.pv (.int .i32 4))))])), (oP 19 (.mv (T 23))), (oP 24 (.extr 0 (T 19))), (oP 25 (.extr 1
  (T 19))), (oP 2 (.mv (T 24))), (oP 3 (.mv (T 25)))])) (.seq (.tr (rl [1, 0, 0, 0, 0]) false (.region false [(oR 27 (.load true 10 (T 1))), (oP 28 (.build
  [(.pv (.int .i32 0)), (.pv (.int .i32 0)), (.pv (.bool false))] [(0, (1, (.lit (.c (.pv (.int .i32 5)))))), (1, (1, (.lit (.c (.pv (.int .i32 2))))))])), (oP
  29 (.buildSl [(.pv (.int .i32 0)), (.pv (.int .i32 0)), (.pv (.bool false))] 1 3 [(0, (3, (T 28)))])), (oP 30 (.call false [] (.lit (.c (.fn 21 []))) [(T 27),
  (tI 0), (T 29), (.lit (.c (.pv (.int .i32 5))))])), (oP 26 (.mv (T 30))), (oP 31 (.extr 0 (T 26))), (oP 32 (.extr 1 (T 26))), (oP 4 (.mv (T 31))), (oP 5 (.mv
  (T 32)))])) (.seq (.tr (rl [2, 0, 0, 0, 0, 0]) false (.region false [(oR 34 (.load true 10 (T 1))), (oP 35 (.mv (T 4))), (oP 36 (.call false [] (.lit (.c (.fn
  54 []))) [(T 34), (tI 0), (tI 1), (.lit (.c (.pv (.int .i32 5)))), (T 35), (tI 100)])), (oP 33 (.mv (T 36))), (oP 37 (.extr 0 (T 33))), (oP 38 (.extr 1 (T
  33))), (oW 6 (.alloc [(.pv (.int .i64 0)), (.pv (.int .i32 0)), (.pv (.int .i32 0)), (.pv (.sl .nil 0 [])), (.pv (.int .i64 0)), (.pv (.int .i64 0)), (.pv
  (.str []))])), (sW (.store 7 (T 6) (T 37))), (oP 7 (.mv (T 38)))])) (.seq (.tr (rl [2, 0, 0, 0, 0, 0, 0, 0]) false (.region false [(oP 40 (.build [(.pv (.sl
  .nil 0 []))] [])), (oR 41 (.load true 7 (T 6))), (oP 42 (.call false [] (.lit (.c (.fn 14 []))) [(T 40), (T 41)])), (oP 39 (.mv (T 42))), (oP 43 (.extr 0 (T
  39))), (oP 44 (.extr 1 (T 39))), (oW 8 (.alloc [(.pv (.sl .nil 0 []))])), (sW (.store 1 (T 8) (T 43))), (oP 9 (.mv (T 44)))])) (.seq (.tr (rl [2, 0, 0, 0, 0,
  0, 0, 0, 0, 0]) false (.region false [(oP 46 (.faddr 0 (T 8))), (oR 47 (.load false 1 (T 46))), (oP 48 (.call false [] (.lit (.c (.fn 27 []))) [(T 47), (tI
  1), (tI 0), (.lit (.c (.pv (.int .i32 3))))])), (oP 45 (.mv (T 48))), (oP 49 (.extr 0 (T 45))), (oP 50 (.extr 1 (T 45))), (oP 10 (.mv (T 49))), (oP 11 (.mv (T
  50)))])) (.seq (.tr (rl [2, 0, 0, 0, 1, 0, 0, 0, 0, 0, 0]) false (.region false [(oR 52 (.load true 7 (T 6))), (oP 53 (.call false [] (.lit (.c (.fn 55 [])))
  [(T 52), (tI 2), (.lit (.c (.pv (.int .i32 9)))), (.lit (.c (.pv (.sl .nil 0 []))))])), (oP 51 (.mv (T 53))), (oP 54 (.extr 0 (T 51))), (oP 55 (.extr 1 (T
  51))), (oW 12 (.alloc [(.pv (.int .i64 0)), (.pv (.int .i32 0)), (.pv (.int .i32 0)), (.pv (.sl .nil 0 [])), (.pv (.int .i64 0)), (.pv (.int .i64 0)), (.pv
  (.str []))])), (sW (.store 7 (T 12) (T 54))), (oP 13 (.mv (T 55)))])) (.seq (.tr (rl [2, 0, 0, 0, 1, 0, 0, 0, 0, 1, 0]) false (.region false [(oR 57 (.load
  true 1 (T 8))), (oR 58 (.load true 7 (T 12))), (oP 59 (.call false [] (.lit (.c (.fn 14 []))) [(T 57), (T 58)])), (oP 56 (.mv (T 59))), (oP 60 (.extr 0 (T
  56))), (oP 61 (.extr 1 (T 56))), (sW (.store 1 (T 8) (T 60))), (oP 14 (.mv (T 61)))])) (.seq (.tr (rl [2, 0, 0, 0, 1, 1, 0, 0, 1, 0, 0, 0]) false (.region
  false [(oP 63 (.faddr 0 (T 8))), (oR 64 (.load false 1 (T 63))), (oP 65 (.call false [] (.lit (.c (.fn 27 []))) [(T 64), (tI 1), (tI 0), (.lit (.c (.pv (.int
  .i32 3))))])), (oP 62 (.mv (T 65))), (oP 66 (.extr 0 (T 62))), (oP 67 (.extr 1 (T 62))), (oP 15 (.mv (T 66))), (oP 16 (.mv (T 67)))])) (.seq (.tr (rl [0])
  false (.region false [(oP 68 (.mv (T 3))), (oP 69 (.bin .eql (T 68) (tI 0))), (oP 70 (.mv (T 69))), (.mk (some 71) (.mv (T 2)) (some (70, true)) .p), (.mk
  (some 72) (.bin .eql (T 71) (.lit (.c (.pv (.int .i32 2))))) (some (70, true)) .p), (oP 73 (.pick (T 70) (T 72) (.lit (.c (.pv (.bool false)))))), (oP 74 (.mv
  (T 73))), (.mk (some 75) (.mv (T 5)) (some (74, true)) .p), (.mk (some 76) (.bin .eql (T 75) (tI 0)) (some (74, true)) .p), (oP 77 (.pick (T 74) (T 76) (.lit
  (.c (.pv (.bool false)))))), (oP 78 (.mv (T 77))), (.mk (some 79) (.mv (T 4)) (some (78, true)) .p), (.mk (some 80) (.bin .eql (T 79) (.lit (.c (.pv (.int
  .i32 3))))) (some (78, true)) .p), (oP 81 (.pick (T 78) (T 80) (.lit (.c (.pv (.bool false)))))), (oP 82 (.mv (T 81))), (.mk (some 83) (.mv (T 7)) (some (82,
  true)) .p), (.mk (some 84) (.bin .eql (T 83) (tI 0)) (some (82, true)) .p), (oP 85 (.pick (T 82) (T 84) (.lit (.c (.pv (.bool false)))))), (oP 86 (.mv (T
  85))), (.mk (some 87) (.mv (T 9)) (some (86, true)) .p), (.mk (some 88) (.bin .eql (T 87) (tI 0)) (some (86, true)) .p), (oP 89 (.pick (T 86) (T 88) (.lit (.c
  (.pv (.bool false)))))), (oP 90 (.mv (T 89))), (.mk (some 91) (.mv (T 10)) (some (90, true)) .p), (.mk (some 92) (.bin .eql (T 91) (tI 100)) (some (90, true))
  .p), (oP 93 (.pick (T 90) (T 92) (.lit (.c (.pv (.bool false)))))), (oP 94 (.mv (T 93))), (.mk (some 95) (.mv (T 11)) (some (94, true)) .p), (.mk (some 96)
  (.bin .eql (T 95) (tI 0)) (some (94, true)) .p), (oP 97 (.pick (T 94) (T 96) (.lit (.c (.pv (.bool false)))))), (oP 98 (.mv (T 97))), (.mk (some 99) (.mv (T
  13)) (some (98, true)) .p), (.mk (some 100) (.bin .eql (T 99) (tI 0)) (some (98, true)) .p), (oP 101 (.pick (T 98) (T 100) (.lit (.c (.pv (.bool false)))))),
  (oP 102 (.mv (T 101))), (.mk (some 103) (.mv (T 14)) (some (102, true)) .p), (.mk (some 104) (.bin .eql (T 103) (tI 0)) (some (102, true)) .p), (oP 105 (.pick
  (T 102) (T 104) (.lit (.c (.pv (.bool false)))))), (oP 106 (.mv (T 105))), (.mk (some 107) (.mv (T 15)) (some (106, true)) .p), (.mk (some 108) (.bin .eql (T
  107) (tI 0)) (some (106, true)) .p), (oP 109 (.pick (T 106) (T 108) (.lit (.c (.pv (.bool false)))))), (oP 110 (.mv (T 109))), (.mk (some 111) (.mv (T 16))
  (some (110, true)) .p), (.mk (some 112) (.bin .eql (T 111) (tI 0)) (some (110, true)) .p), (oP 113 (.pick (T 110) (T 112) (.lit (.c (.pv (.bool false)))))),
  (oP 0 (.mv (T 113)))])) (.tr (rl [0]) false .ret)))))))))))))
theorem xf20_ok : cmpFunc Go.Proofs.Tryd.prog 20 ((.two (.tr [] false .no) (.two (.tr (rl [1]) false .no) (.two (.tr (rl [1, 0, 0]) false (.ops [{}, {}, {}, { cls := some .p }])) (.two (.tr (rl [1, 0, 0, 0, 0]) false (.ops [{}, {}, {}, { cls := some .p }])) (.two (.tr (rl [2, 0, 0, 0, 0, 0]) false (.ops [{}, {}, { cls := some .p }])) (.two (.tr (rl [2, 0, 0, 0, 0, 0, 0, 0]) false (.ops [{}, {}, { cls := some .p }])) (.two (.tr (rl [2, 0, 0, 0, 0, 0, 0, 0, 0, 0]) false (.ops [{}, {}, { cls := some .p }])) (.two (.tr (rl [2, 0, 0, 0, 1, 0, 0, 0, 0, 0, 0]) false (.ops [{}, { cls := some .p }])) (.two (.tr (rl [2, 0, 0, 0, 1, 0, 0, 0, 0, 1, 0]) false (.ops [{}, {}, { cls := some .p }])) (.two (.tr (rl [2, 0, 0, 0, 1, 1, 0, 0, 1, 0, 0, 0]) false (.ops [{}, {}, { cls := some .p }])) (.two (.tr (rl [0]) false .no) (.tr (rl [0]) false .no))))))))))))) = some xf20 := by kernel_rfl
def xf21 : XFunc :=
(.mk 44 [(.tmp 8), (.tmp 9)] (.seq (.tr (rl [1, 0, 0, 0]) false (.region false [(oW 4 (.box (T 0) 10)), (oP 8 (.mv (.lit (.c (.pv (.int .i32 0)))))), (oP 9 (.mv
  (tI 0)))])) (.seq (.seq (.tr (rl [1, 0, 0, 0, 17]) false (.region false [(oR 12 (.load true 10 (T 4))), (oP 13 (.call false [] (.lit (.c (.fn 51 []))) [(T
  12)])), (oP 14 (.un .not (T 13))), (oP 15 (.mv (T 14))), (.mk (some 16) (.mv (T 1)) (some (15, false)) .p), (.mk (some 17) (.faddr 8 (T 4)) (some (15, false))
  .p), (.mk (some 18) (.load false 1 (T 17)) (some (15, false)) .r), (.mk (some 19) (.bin .sub (T 18) (tI 1)) (some (15, false)) .p), (.mk (some 20) (.call
  false [] (.lit (.c (.fn 56 []))) [(T 16), (tI 0), (T 19)]) (some (15, false)) .p), (.mk (some 21) (.un .not (T 20)) (some (15, false)) .p), (oP 22 (.pick (T
  15) (.lit (.c (.pv (.bool true)))) (T 21)))])) (.tr (rl [1, 0, 0, 0, 3, 0]) false (.cond (T 22) (.seq (.region false [(oP 8 (.mv (.lit (.c (.pv (.int .i32
  0)))))), (oP 9 (.mv (tI 1)))]) (.tr (rl [8, 0]) false .ret)) .skip))) (.seq (.tr (rl [2, 0, 0, 5, 0]) false (.region false [(oP 24 (.faddr 6 (T 4))), (oR 25
  (.load false 1 (T 24))), (oP 26 (.mv (T 1))), (oP 27 (.faddr 7 (T 4))), (oR 28 (.load false 1 (T 27))), (oP 29 (.bin .mul (T 26) (T 28))), (oP 30 (.call false
  [] (.lit (.c (.fn 22 []))) [(T 25), (T 29)])), (oP 23 (.mv (T 30))), (oP 31 (.extr 0 (T 23))), (oP 32 (.extr 1 (T 23))), (oP 10 (.mv (T 31))), (oP 11 (.mv (T
  32)))])) (.seq (.seq (.tr (rl [2, 0, 0, 5, 0, 22]) false (.region false [(oP 33 (.mv (T 11))), (oP 34 (.bin .neq (T 33) (tI 0)))])) (.tr (rl [2, 0, 0, 3, 0,
  0]) false (.cond (T 34) (.seq (.tr (rl [8, 0]) false (.region false [(oP 35 (.mv (T 11))), (oP 8 (.mv (.lit (.c (.pv (.int .i32 0)))))), (oP 9 (.mv (T
  35)))])) (.tr (rl [8, 0]) false .ret)) .skip))) (.seq (.tr (rl [8, 0]) false (.region false [(oP 36 (.mv (T 2))), (oP 37 (.mv (T 3))), (oP 38 (.mv (T 10))),
  (oP 39 (.faddr 9 (T 4))), (oR 40 (.load false 1 (T 39))), (oP 41 (.call false [] (.lit (.c (.fn 57 []))) [(T 36), (T 37), (T 38), (T 40)])), (oP 42 (.extr 0
  (T 41))), (oP 43 (.extr 1 (T 41))), (oP 8 (.mv (T 42))), (oP 9 (.mv (T 43)))])) (.tr (rl [8, 0]) false .ret)))))))
theorem xf21_ok : cmpFunc Go.Proofs.Tryd.prog 21 ((.two (.tr (rl [1, 0, 0, 0]) false .no) (.two (.two (.tr (rl [1, 0, 0, 0, 17]) false (.ops [{}, { cls := some .p }, {}, {}, {}, {}, {}, {}, { cls := some .p }])) (.tr (rl [1, 0, 0, 0, 3, 0]) false (.two (.two .no (.tr (rl [8, 0]) false .no)) .no))) (.two (.tr (rl [2, 0, 0, 5, 0]) false (.ops [{}, {}, {}, {}, {}, {}, { cls := some .p }])) (.two (.two (.tr (rl [2, 0, 0, 5, 0, 22]) false .no) (.tr (rl [2, 0, 0, 3, 0, 0]) false (.two (.two (.tr (rl [8, 0]) false .no) (.tr (rl [8, 0]) false .no)) .no))) (.two (.tr (rl [8, 0]) false (.ops [{}, {}, {}, {}, {}, { cls := some .p }])) (.tr (rl [8, 0]) false .no))))))) = some xf21 := by kernel_rfl
def xf22 : XFunc :=
(.mk 52 [(.tmp 4), (.tmp 5)] (.seq (.tr (rl [0, 0]) false (.region false [(oP 4 (.mv (.lit (.c (.pv (.int .i32 0)))))), (oP 5 (.mv (tI 0)))])) (.seq (.tr (rl
  [1, 4, 0, 0, 0]) false (.region false [(oP 12 (.mv (T 0))), (oP 13 (.call false [] (.lit (.c (.fn 58 []))) [(T 12)])), (oP 11 (.mv (T 13))), (oP 14 (.extr 0
  (T 11))), (oP 15 (.extr 1 (T 11))), (oP 16 (.extr 2 (T 11))), (oP 17 (.extr 3 (T 11))), (oP 6 (.mv (T 14))), (oP 7 (.mv (T 15))), (oP 8 (.mv (T 16))), (oP 9
  (.mv (T 17)))])) (.seq (.seq (.tr (rl [1, 4, 0, 0, 18]) false (.region false [(oP 18 (.mv (T 9))), (oP 19 (.bin .neq (T 18) (tI 0))), (oP 20 (.mv (T 19))),
  (.mk (some 21) (.mv (T 1)) (some (20, false)) .p), (.mk (some 22) (.bin .lss (T 21) (.lit (.c (.pv (.int .i64 (-120000)))))) (some (20, false)) .p), (oP 23
  (.pick (T 20) (.lit (.c (.pv (.bool true)))) (T 22))), (oP 24 (.mv (T 23))), (.mk (some 25) (.mv (T 1)) (some (24, false)) .p), (.mk (some 26) (.bin .gtr (T
  25) (tI 120000)) (some (24, false)) .p), (oP 27 (.pick (T 24) (.lit (.c (.pv (.bool true)))) (T 26)))])) (.tr (rl [1, 2, 0, 0, 0, 0]) false (.cond (T 27)
  (.seq (.region false [(oP 4 (.mv (.lit (.c (.pv (.int .i32 0)))))), (oP 5 (.mv (tI 11)))]) (.tr (rl [4, 0]) false .ret)) .skip))) (.seq (.tr (rl [8, 1]) false
  (.region false [(oP 28 (.mv (T 6))), (oP 29 (.bin .mul (tI 12) (T 28))), (oP 30 (.mv (T 7))), (oP 31 (.bin .add (T 29) (T 30))), (oP 32 (.bin .sub (T 31) (tI
  1))), (oP 33 (.mv (T 1))), (oP 34 (.bin .add (T 32) (T 33))), (oP 10 (.mv (T 34)))])) (.seq (.seq (.tr (rl [8, 1, 25]) false (.region false [(oP 35 (.mv (T
  10))), (oP 36 (.bin .lss (T 35) (tI 12)))])) (.tr (rl [4, 0, 2, 1]) false (.cond (T 36) (.seq (.region false [(oP 4 (.mv (.lit (.c (.pv (.int .i32 0)))))),
  (oP 5 (.mv (tI 11)))]) (.tr (rl [4, 0]) false .ret)) .skip))) (.seq (.tr (rl [6, 0, 0]) false (.region false [(oP 37 (.mv (T 10))), (oP 38 (.bin .quo (T 37)
  (tI 12))), (oP 39 (.mv (T 10))), (oP 40 (.bin .rem (T 39) (tI 12))), (oP 41 (.bin .add (T 40) (tI 1))), (oP 6 (.mv (T 38))), (oP 7 (.mv (T 41)))])) (.seq (.tr
  (rl [4, 0]) false (.region false [(oP 42 (.mv (T 6))), (oP 43 (.mv (T 7))), (oP 44 (.mv (T 8))), (oP 45 (.mv (T 6))), (oP 46 (.mv (T 7))), (oP 47 (.call false
  [] (.lit (.c (.fn 60 []))) [(T 45), (T 46)])), (oP 48 (.minI [(T 44), (T 47)])), (oP 49 (.call false [] (.lit (.c (.fn 59 []))) [(T 42), (T 43), (T 48)])),
  (oP 50 (.extr 0 (T 49))), (oP 51 (.extr 1 (T 49))), (oP 4 (.mv (T 50))), (oP 5 (.mv (T 51)))])) (.tr (rl [4, 0]) false .ret)))))))))
theorem xf22_ok : cmpFunc Go.Proofs.Tryd.prog 22 ((.two (.tr (rl [0, 0]) false .no) (.two (.tr (rl [1, 4, 0, 0, 0]) false (.ops [{}, { cls := some .p }])) (.two (.two (.tr (rl [1, 4, 0, 0, 18]) false .no) (.tr (rl [1, 2, 0, 0, 0, 0]) false (.two (.two .no (.tr (rl [4, 0]) false .no)) .no))) (.two (.tr (rl [8, 1]) false .no) (.two (.two (.tr (rl [8, 1, 25]) false .no) (.tr (rl [4, 0, 2, 1]) false (.two (.two .no (.tr (rl [4, 0]) false .no)) .no))) (.two (.tr (rl [6, 0, 0]) false .no) (.two (.tr (rl [4, 0]) false (.ops [{}, {}, {}, {}, {}, { cls := some .p }, {}, { cls := some .p }])) (.tr (rl [4, 0]) false .no))))))))) = some xf22 := by kernel_rfl
def xf25 : XFunc :=
(.mk 46 [(.tmp 4), (.tmp 5)] (.seq (.tr (rl [0, 2]) false (.region false [(oW 3 (.box (T 1) 9)), (oP 4 (.mv (.lit (.c (.pv (.sl .nil 0 [])))))), (oP 5 (.mv (tI
  0)))])) (.seq (.seq (.tr (rl [0, 2, 2]) false (.region false [(oP 9 (.mv (T 0))), (oP 10 (.call false [] (.lit (.c (.fn 68 []))) [(T 9)])), (oP 6 (.mv (T
  10)))])) (.seq (.tr (rl [0, 2, 2, 5]) false (.region false [(oP 11 (.mv (T 6))), (oP 12 (.bin .neq (T 11) (tI 0)))])) (.tr (rl [0, 2, 0, 0]) false (.cond (T
  12) (.seq (.tr (rl [4, 0]) false (.region false [(oP 13 (.mv (T 6))), (oP 4 (.mv (.lit (.c (.pv (.sl .nil 0 [])))))), (oP 5 (.mv (T 13)))])) (.tr (rl [4, 0])
  false .ret)) .skip)))) (.seq (.tr (rl [0, 2, 3, 0]) false (.region false [(oP 15 (.mv (T 0))), (oP 16 (.faddr 0 (T 3))), (oR 17 (.load false 1 (T 16))), (oP
  18 (.call false [] (.lit (.c (.fn 69 []))) [(T 15), (T 17)])), (oP 14 (.mv (T 18))), (oP 19 (.extr 0 (T 14))), (oP 20 (.extr 1 (T 14))), (oP 7 (.mv (T 19))),
  (oP 8 (.mv (T 20)))])) (.seq (.tr (rl [0, 2, 0, 0, 1]) false (.block 0 (.seq (.tr (rl [0, 2, 3, 0, 12]) false (.region false [(oR 22 (.load true 9 (T 3))),
  (oP 23 (.call false [] (.lit (.c (.fn 70 []))) [(T 22)])), (oP 24 (.un .not (T 23))), (oP 25 (.mv (T 24))), (.mk (some 26) (.faddr 7 (T 3)) (some (25, false))
  .p), (.mk (some 27) (.load false 1 (T 26)) (some (25, false)) .r), (.mk (some 28) (.bin .gtr (T 27) (tI 0)) (some (25, false)) .p), (oP 29 (.pick (T 25) (.lit
  (.c (.pv (.bool true)))) (T 28))), (oP 30 (.mv (T 29))), (.mk (some 31) (.faddr 8 (T 3)) (some (30, false)) .p), (.mk (some 32) (.load false 1 (T 31)) (some
  (30, false)) .r), (oP 33 (.pick (T 30) (.lit (.c (.pv (.bool true)))) (T 32))), (oP 21 (.mv (T 33)))])) (.tr (rl [0, 2, 0, 0, 1]) false (.cond (T 21) (.seq
  (.region false [(oP 4 (.mv (.lit (.c (.pv (.sl .nil 0 [])))))), (oP 5 (.mv (tI 1)))]) (.tr (rl [4, 0]) false .ret)) (.seq (.tr (rl [0, 2, 3, 26]) false
  (.region false [(oP 35 (.mv (T 8))), (oP 34 (.mv (T 35)))])) (.tr (rl [0, 2, 0, 0, 1]) false (.cond (T 34) (.seq (.region false [(oP 4 (.mv (.lit (.c (.pv
  (.sl .nil 0 [])))))), (oP 5 (.mv (tI 26)))]) (.tr (rl [4, 0]) false .ret)) (.seq (.tr (rl [0, 2, 3, 28]) false (.region false [(oP 37 (.mv (T 0))), (oP 38
  (.len (T 37))), (oP 39 (.bin .geq (T 38) (tI 200))), (oP 36 (.mv (T 39)))])) (.tr (rl [0, 2, 0, 0, 1]) false (.cond (T 36) (.seq (.region false [(oP 4 (.mv
  (.lit (.c (.pv (.sl .nil 0 [])))))), (oP 5 (.mv (tI 6)))]) (.tr (rl [4, 0]) false .ret)) .skip))))))))))) (.seq (.tr (rl [4, 0]) false (.region true [(oP 40
  (.mv (T 0))), (oP 41 (.call false [] (.lit (.c (.fn 72 []))) [(T 40)])), (oP 42 (.mv (T 7))), (oR 43 (.load true 9 (T 3))), (oP 44 (.buildSl [(.pv (.int .i64
  0)), (.pv (.int .i64 0)), (.pv (.int .i64 0)), (.pv (.int .i64 0)), (.pv (.int .i64 0)), (.pv (.int .i32 0)), (.pv (.int .i32 0)), (.pv (.int .i64 0)), (.pv
  (.bool false))] 1 9 [(0, (9, (T 43)))])), (oP 45 (.call false [] (.lit (.c (.fn 71 []))) [(T 41), (T 42), (T 44)])), (oP 4 (.mv (T 45))), (oP 5 (.mv (tI
  0)))])) (.tr (rl [4, 0]) false .ret)))))))
theorem xf25_ok : cmpFunc Go.Proofs.Tryd.prog 25 ((.two (.tr (rl [0, 2]) false .no) (.two (.two (.tr (rl [0, 2, 2]) false (.ops [{}, { cls := some .p }])) (.two (.tr (rl [0, 2, 2, 5]) false .no) (.tr (rl [0, 2, 0, 0]) false (.two (.two (.tr (rl [4, 0]) false .no) (.tr (rl [4, 0]) false .no)) .no)))) (.two (.tr (rl [0, 2, 3, 0]) false (.ops [{}, {}, {}, { cls := some .p }])) (.two (.tr (rl [0, 2, 0, 0, 1]) false (.two (.tr (rl [0, 2, 3, 0, 12]) false (.ops [{}, { cls := some .p }])) (.tr (rl [0, 2, 0, 0, 1]) false (.two (.two .no (.tr (rl [4, 0]) false .no)) (.two (.tr (rl [0, 2, 3, 26]) false .no) (.tr (rl [0, 2, 0, 0, 1]) false (.two (.two .no (.tr (rl [4, 0]) false .no)) (.two (.tr (rl [0, 2, 3, 28]) false .no) (.tr (rl [0, 2, 0, 0, 1]) false (.two (.two .no (.tr (rl [4, 0]) false .no)) .no)))))))))) (.two (.tr (rl [4, 0]) false (.draw [0, 1, 2, 3, 4, 5, 6, 7] [{}, { cls := some .p }, {}, {}, {}, { cls := some .p }])) (.tr (rl [4, 0]) false .no))))))) = some xf25 := by kernel_rfl
def xf26 : XFunc :=
(.mk 99 [(.tmp 10), (.tmp 11)] (.seq (.tr (rl [0, 0, 1, 0, 2]) false (.region false [(oW 7 (.box (T 2) 2)), (oP 10 (.mv (.lit (.c (.pv (.sl .nil 0 [])))))), (oP
  11 (.mv (tI 0)))])) (.seq (.seq (.tr (rl [0, 0, 1, 0, 2, 4]) false (.region false [(oP 16 (.mv (T 0))), (oP 17 (.call false [] (.lit (.c (.fn 68 []))) [(T
  16)])), (oP 12 (.mv (T 17)))])) (.seq (.tr (rl [0, 0, 1, 0, 2, 4, 6]) false (.region false [(oP 18 (.mv (T 12))), (oP 19 (.bin .neq (T 18) (tI 0)))])) (.tr
  (rl [0, 0, 1, 0, 2, 2, 0]) false (.cond (T 19) (.seq (.tr (rl [10, 0]) false (.region false [(oP 20 (.mv (T 12))), (oP 10 (.mv (.lit (.c (.pv (.sl .nil 0
  [])))))), (oP 11 (.mv (T 20)))])) (.tr (rl [10, 0]) false .ret)) .skip)))) (.seq (.tr (rl [0, 2, 0, 2, 5, 0]) false (.region false [(oP 22 (.mv (T 0))), (oP
  23 (.mv (T 1))), (oP 24 (.call false [] (.lit (.c (.fn 69 []))) [(T 22), (T 23)])), (oP 21 (.mv (T 24))), (oP 25 (.extr 0 (T 21))), (oP 26 (.extr 1 (T 21))),
  (oP 13 (.mv (T 25))), (oP 14 (.mv (T 26)))])) (.seq (.tr (rl [0, 3, 2, 2, 0, 1]) false (.block 0 (.seq (.tr (rl [0, 2, 0, 2, 5, 13]) false (.region false [(oP
  28 (.mv (T 14))), (oP 29 (.un .not (T 28))), (oP 27 (.mv (T 29)))])) (.tr (rl [0, 3, 2, 2, 0, 1]) false (.cond (T 27) (.seq (.region false [(oP 10 (.mv (.lit
  (.c (.pv (.sl .nil 0 [])))))), (oP 11 (.mv (tI 8)))]) (.tr (rl [10, 0]) false .ret)) (.seq (.tr (rl [0, 2, 0, 2, 5, 16]) false (.region false [(oP 31 (.mv (T
  0))), (oP 32 (.mv (T 13))), (oP 33 (.iaddrS 9 (T 31) (T 32))), (oR 34 (.load true 9 (T 33))), (oP 35 (.mv (T 3))), (oP 36 (.call false [] (.lit (.c (.fn 28
  []))) [(T 34), (T 35)])), (oP 37 (.un .not (T 36))), (oP 30 (.mv (T 37)))])) (.tr (rl [0, 3, 2, 2, 0, 1]) false (.cond (T 30) (.seq (.region false [(oP 10
  (.mv (.lit (.c (.pv (.sl .nil 0 [])))))), (oP 11 (.mv (tI 27)))]) (.tr (rl [10, 0]) false .ret)) (.seq (.tr (rl [0, 2, 0, 2, 5, 24]) false (.region true [(oP
  39 (.faddr 0 (T 7))), (oR 40 (.load false 1 (T 39))), (oP 41 (.mv (T 0))), (oP 42 (.mv (T 13))), (oP 43 (.iaddrS 9 (T 41) (T 42))), (oP 44 (.faddr 2 (T 43))),
  (oP 45 (.faddr 0 (T 44))), (oR 46 (.load false 1 (T 45))), (oP 47 (.bin .neq (T 40) (T 46))), (oP 38 (.mv (T 47)))])) (.tr (rl [0, 3, 2, 2, 0, 1]) false
  (.cond (T 38) (.seq (.region false [(oP 10 (.mv (.lit (.c (.pv (.sl .nil 0 [])))))), (oP 11 (.mv (tI 12)))]) (.tr (rl [10, 0]) false .ret)) (.seq (.tr (rl [0,
  2, 0, 2, 5, 34]) false (.region false [(oR 49 (.load true 2 (T 7))), (oP 50 (.call false [] (.lit (.c (.fn 30 []))) [(T 49)])), (oP 51 (.un .not (T 50))), (oP
  52 (.mv (T 51))), (.mk (some 53) (.faddr 1 (T 7)) (some (52, false)) .p), (.mk (some 54) (.load false 1 (T 53)) (some (52, false)) .r), (.mk (some 55) (.bin
  .leq (T 54) (tI 0)) (some (52, false)) .p), (oP 56 (.pick (T 52) (.lit (.c (.pv (.bool true)))) (T 55))), (oP 48 (.mv (T 56)))])) (.tr (rl [0, 3, 2, 2, 0, 1])
  false (.cond (T 48) (.seq (.region false [(oP 10 (.mv (.lit (.c (.pv (.sl .nil 0 [])))))), (oP 11 (.mv (tI 1)))]) (.tr (rl [10, 0]) false .ret)) (.seq (.tr
  (rl [0, 3, 2, 5, 43]) false (.region true [(oP 58 (.faddr 1 (T 7))), (oR 59 (.load false 1 (T 58))), (oP 60 (.mv (T 0))), (oP 61 (.mv (T 13))), (oP 62
  (.iaddrS 9 (T 60) (T 61))), (oR 63 (.load true 9 (T 62))), (oP 64 (.mv (T 3))), (oP 65 (.call false [] (.lit (.c (.fn 29 []))) [(T 63), (T 64)])), (oP 66
  (.bin .gtr (T 59) (T 65))), (oP 57 (.mv (T 66)))])) (.tr (rl [0, 3, 2, 2, 0, 1]) false (.cond (T 57) (.seq (.region false [(oP 10 (.mv (.lit (.c (.pv (.sl
  .nil 0 [])))))), (oP 11 (.mv (tI 17)))]) (.tr (rl [10, 0]) false .ret)) .skip))))))))))))))))) (.seq (.tr (rl [4, 2, 5, 1]) false (.region false [(oP 67 (.mv
  (T 0))), (oW 68 (.callM (.lit (.c (.fn 72 []))) [(T 67)])), (oP 15 (.mv (T 68)))])) (.seq (.tr (rl [4, 8, 1]) false (.region true [(oP 69 (.mv (T 15))), (oP
  70 (.mv (T 13))), (oP 71 (.iaddrS 9 (T 69) (T 70))), (oP 72 (.faddr 7 (T 71))), (oR 73 (.load false 1 (T 72))), (oP 74 (.faddr 1 (T 7))), (oR 75 (.load false
  1 (T 74))), (oP 76 (.bin .add (T 73) (T 75))), (oP 77 (.iaddrS 9 (T 69) (T 70))), (oP 78 (.faddr 7 (T 77))), (sW (.store 1 (T 78) (T 76)))])) (.seq (.tr (rl
  [15]) false (.region true [(oP 79 (.mv (T 15))), (oP 80 (.mv (T 13))), (oP 81 (.mv (T 4))), (oP 82 (.mv (T 81))), (.mk (some 83) (.mv (T 15)) (some (82,
  false)) .p), (.mk (some 84) (.mv (T 13)) (some (82, false)) .p), (.mk (some 85) (.iaddrS 9 (T 83) (T 84)) (some (82, false)) .p), (.mk (some 86) (.faddr 7 (T
  85)) (some (82, false)) .p), (.mk (some 87) (.load false 1 (T 86)) (some (82, false)) .r), (.mk (some 88) (.mv (T 15)) (some (82, false)) .p), (.mk (some 89)
  (.mv (T 13)) (some (82, false)) .p), (.mk (some 90) (.iaddrS 9 (T 88) (T 89)) (some (82, false)) .p), (.mk (some 91) (.faddr 2 (T 90)) (some (82, false)) .p),
  (.mk (some 92) (.faddr 1 (T 91)) (some (82, false)) .p), (.mk (some 93) (.load false 1 (T 92)) (some (82, false)) .r), (.mk (some 94) (.bin .eql (T 87) (T
  93)) (some (82, false)) .p), (oP 95 (.pick (T 82) (.lit (.c (.pv (.bool true)))) (T 94))), (oP 96 (.iaddrS 9 (T 79) (T 80))), (oP 97 (.faddr 8 (T 96))), (sW
  (.store 1 (T 97) (T 95)))])) (.seq (.tr (rl [10, 0]) false (.region false [(oP 98 (.mv (T 15))), (oP 10 (.mv (T 98))), (oP 11 (.mv (tI 0)))])) (.tr (rl [10,
  0]) false .ret))))))))))
theorem xf26_ok : cmpFunc Go.Proofs.Tryd.prog 26 ((.two (.tr (rl [0, 0, 1, 0, 2]) false .no) (.two (.two (.tr (rl [0, 0, 1, 0, 2, 4]) false (.ops [{}, { cls := some .p }])) (.two (.tr (rl [0, 0, 1, 0, 2, 4, 6]) false .no) (.tr (rl [0, 0, 1, 0, 2, 2, 0]) false (.two (.two (.tr (rl [10, 0]) false .no) (.tr (rl [10, 0]) false .no)) .no)))) (.two (.tr (rl [0, 2, 0, 2, 5, 0]) false (.ops [{}, {}, { cls := some .p }])) (.two (.tr (rl [0, 3, 2, 2, 0, 1]) false (.two (.tr (rl [0, 2, 0, 2, 5, 13]) false .no) (.tr (rl [0, 3, 2, 2, 0, 1]) false (.two (.two .no (.tr (rl [10, 0]) false .no)) (.two (.tr (rl [0, 2, 0, 2, 5, 16]) false (.ops [{}, {}, {}, {}, {}, { cls := some .p }])) (.tr (rl [0, 3, 2, 2, 0, 1]) false (.two (.two .no (.tr (rl [10, 0]) false .no)) (.two (.tr (rl [0, 2, 0, 2, 5, 24]) false (.draw [0, 1, 2, 3, 4, 5, 6, 7, 8, 9] [])) (.tr (rl [0, 3, 2, 2, 0, 1]) false (.two (.two .no (.tr (rl [10, 0]) false .no)) (.two (.tr (rl [0, 2, 0, 2, 5, 34]) false (.ops [{}, { cls := some .p }])) (.tr (rl [0, 3, 2, 2, 0, 1]) false (.two (.two .no (.tr (rl [10, 0]) false .no)) (.two (.tr (rl [0, 3, 2, 5, 43]) false (.draw [0, 1, 2, 3, 4, 5, 6, 7, 8, 9] [{}, {}, {}, {}, {}, {}, {}, { cls := some .p }])) (.tr (rl [0, 3, 2, 2, 0, 1]) false (.two (.two .no (.tr (rl [10, 0]) false .no)) .no)))))))))))))))) (.two (.tr (rl [4, 2, 5, 1]) false (.ops [{}, { own := true }])) (.two (.tr (rl [4, 8, 1]) false (.draw [0, 1, 2, 3, 4, 5, 6, 7, 8, 9, 10] [])) (.two (.tr (rl [15]) false (.draw [0, 1, 2, 3, 4, 5, 6, 7, 8, 9, 10, 11, 12, 13, 14, 15, 16, 17, 18, 19] [])) (.two (.tr (rl [10, 0]) false .no) (.tr (rl [10, 0]) false .no)))))))))) = some xf26 := by kernel_rfl
def xf27_l0 : XCode :=
(.seq (.region false [(oP 24 (.bin .lss (T 23) (T 22)))]) (.seq (.tr (rl [0, 0, 0, 0, 17, 0, 0]) false (.cond (T 24) .skip (.tr (rl [0, 0, 0, 0]) false (.exit
  0)))) (.seq (.tr (rl [0, 0, 0, 0, 4, 0, 11, 0, 0]) false (.block 1 (.seq (.tr (rl [0, 0, 0, 0, 7, 9, 0, 0]) false (.region false [(oP 25 (.iaddrS 7 (T 21) (T
  23))), (oR 26 (.load true 7 (T 25))), (oW 11 (.alloc [(.pv (.int .i64 0)), (.pv (.int .i32 0)), (.pv (.int .i32 0)), (.pv (.sl .nil 0 [])), (.pv (.int .i64
  0)), (.pv (.int .i64 0)), (.pv (.str []))])), (sW (.store 7 (T 11) (T 26)))])) (.seq (.tr (rl [0, 0, 0, 0, 8, 8, 0, 0]) false (.region false [(oR 27 (.load
  true 7 (T 11))), (oP 28 (.call false [] (.lit (.c (.fn 36 []))) [(T 27)])), (oP 12 (.mv (T 28)))])) (.seq (.tr (rl [0, 0, 0, 0, 8, 8, 0, 0, 6]) false (.region
  false [(oP 29 (.mv (T 12))), (oP 30 (.bin .neq (T 29) (tI 0)))])) (.tr (rl [0, 0, 0, 0, 4, 0, 11, 0, 0]) false (.cond (T 30) (.seq (.tr (rl [8, 0]) false
  (.region false [(oP 31 (.mv (T 12))), (oP 8 (.mv (tI 0))), (oP 9 (.mv (T 31)))])) (.tr (rl [8, 0]) false .ret)) .skip))))))) (.tr (rl [0, 0, 0, 0, 17, 0, 0])
  false (.region false [(oP 32 (.bin .add (T 23) (tI 1))), (oP 23 (.mv (T 32)))])))))
def xf27_l1 : XCode :=
(.seq (.region false [(oP 42 (.bin .lss (T 41) (T 40)))]) (.seq (.tr (rl [1, 0, 0, 9, 25, 0, 0]) false (.cond (T 42) .skip (.tr (rl [13]) false (.exit 2))))
  (.seq (.tr (rl [1, 0, 0, 9, 25, 0, 0]) false (.block 3 (.seq (.tr (rl [1, 0, 0, 9, 1, 23, 0, 0]) false (.region false [(oP 43 (.iaddrS 7 (T 39) (T 41))), (oR
  44 (.load true 7 (T 43))), (oW 15 (.alloc [(.pv (.int .i64 0)), (.pv (.int .i32 0)), (.pv (.int .i32 0)), (.pv (.sl .nil 0 [])), (.pv (.int .i64 0)), (.pv
  (.int .i64 0)), (.pv (.str []))])), (sW (.store 7 (T 15) (T 44)))])) (.seq (.tr (rl [1, 0, 0, 9, 1, 0, 22, 0, 0]) false (.region false [(oR 46 (.load true 7
  (T 15))), (oP 47 (.mv (T 1))), (oP 48 (.mv (T 2))), (oP 49 (.call false [] (.lit (.c (.fn 73 []))) [(T 46), (T 47), (T 48)])), (oP 45 (.mv (T 49))), (oP 50
  (.extr 0 (T 45))), (oP 51 (.extr 1 (T 45))), (oP 16 (.mv (T 50))), (oP 17 (.mv (T 51)))])) (.seq (.tr (rl [1, 0, 0, 9, 2, 22, 0, 0, 13]) false (.region false
  [(oP 52 (.faddr 2 (T 15))), (oR 53 (.load false 1 (T 52))), (oP 54 (.mv (T 3))), (oP 55 (.bin .leq (T 53) (T 54)))])) (.tr (rl [1, 0, 0, 9, 25, 0, 0]) false
  (.cond (T 55) (.tr (rl [1, 0, 0, 9, 25, 0, 0]) false (.region false [(oP 56 (.mv (T 13))), (oP 57 (.mv (T 16))), (oP 58 (.bin .add (T 56) (T 57))), (oP 13
  (.mv (T 58)))])) .skip))))))) (.tr (rl [1, 0, 0, 9, 25, 0, 0]) false (.region false [(oP 59 (.bin .add (T 41) (tI 1))), (oP 41 (.mv (T 59)))])))))
def xf27 : XFunc :=
(.mk 61 [(.tmp 8), (.tmp 9)] (.seq (.tr (rl [0, 0, 0, 0]) false (.region false [(oP 8 (.mv (tI 0))), (oP 9 (.mv (tI 0)))])) (.seq (.seq (.tr (rl [0, 0, 0, 0,
  16]) false (.region false [(oP 18 (.mv (T 0))), (oP 19 (.len (T 18))), (oP 20 (.bin .gtr (T 19) (tI 400)))])) (.tr (rl [0, 0, 0, 0, 4, 0]) false (.cond (T 20)
  (.seq (.region false [(oP 8 (.mv (tI 0))), (oP 9 (.mv (tI 4)))]) (.tr (rl [8, 0]) false .ret)) .skip))) (.seq (.seq (.region false [(oP 21 (.mv (T 0))), (oP
  22 (.len (T 21))), (oP 23 (.mv (tI 0)))]) (.tr (rl [0, 0, 0, 0, 4, 0]) false (.block 0 (.loop (rl [0, 0, 0, 0, 17, 0, 0]) xf27_l0)))) (.seq (.seq (.tr (rl [0,
  0, 0, 0, 34]) false (.region false [(oP 33 (.mv (T 2))), (oP 34 (.bin .lss (T 33) (tI 0))), (oP 35 (.mv (T 34))), (.mk (some 36) (.mv (T 2)) (some (35,
  false)) .p), (.mk (some 37) (.bin .geq (T 36) (tI 4)) (some (35, false)) .p), (oP 38 (.pick (T 35) (.lit (.c (.pv (.bool true)))) (T 37)))])) (.tr (rl [0, 0,
  0, 0, 4, 0]) false (.cond (T 38) (.seq (.region false [(oP 8 (.mv (tI 0))), (oP 9 (.mv (tI 12)))]) (.tr (rl [8, 0]) false .ret)) .skip))) (.seq (.region false
  [(oP 13 (.mv (tI 0)))]) (.seq (.seq (.tr (rl [1, 0, 0, 9, 25, 0, 0]) false (.region false [(oP 39 (.mv (T 0))), (oP 40 (.len (T 39))), (oP 41 (.mv (tI 0)))]))
  (.tr (rl [13]) false (.block 2 (.loop (rl [1, 0, 0, 9, 25, 0, 0]) xf27_l1)))) (.seq (.tr (rl [8, 0]) false (.region false [(oP 60 (.mv (T 13))), (oP 8 (.mv (T
  60))), (oP 9 (.mv (tI 0)))])) (.tr (rl [8, 0]) false .ret)))))))))
theorem xf27_ok : cmpFunc Go.Proofs.Tryd.prog 27 ((.two (.tr (rl [0, 0, 0, 0]) false .no) (.two (.two (.tr (rl [0, 0, 0, 0, 16]) false .no) (.tr (rl [0, 0, 0, 0, 4, 0]) false (.two (.two .no (.tr (rl [8, 0]) false .no)) .no))) (.two (.two .no (.tr (rl [0, 0, 0, 0, 4, 0]) false (.loop (rl [0, 0, 0, 0, 17, 0, 0]) (.two .no (.two (.tr (rl [0, 0, 0, 0, 17, 0, 0]) false (.two .no (.tr (rl [0, 0, 0, 0]) false .no))) (.two (.tr (rl [0, 0, 0, 0, 4, 0, 11, 0, 0]) false (.two (.tr (rl [0, 0, 0, 0, 7, 9, 0, 0]) false .no) (.two (.tr (rl [0, 0, 0, 0, 8, 8, 0, 0]) false (.ops [{}, { cls := some .p }])) (.two (.tr (rl [0, 0, 0, 0, 8, 8, 0, 0, 6]) false .no) (.tr (rl [0, 0, 0, 0, 4, 0, 11, 0, 0]) false (.two (.two (.tr (rl [8, 0]) false .no) (.tr (rl [8, 0]) false .no)) .no)))))) (.tr (rl [0, 0, 0, 0, 17, 0, 0]) false .no))))))) (.two (.two (.tr (rl [0, 0, 0, 0, 34]) false .no) (.tr (rl [0, 0, 0, 0, 4, 0]) false (.two (.two .no (.tr (rl [8, 0]) false .no)) .no))) (.two .no (.two (.two (.tr (rl [1, 0, 0, 9, 25, 0, 0]) false .no) (.tr (rl [13]) false (.loop (rl [1, 0, 0, 9, 25, 0, 0]) (.two .no (.two (.tr (rl [1, 0, 0, 9, 25, 0, 0]) false (.two .no (.tr (rl [13]) false .no))) (.two (.tr (rl [1, 0, 0, 9, 25, 0, 0]) false (.two (.tr (rl [1, 0, 0, 9, 1, 23, 0, 0]) false .no) (.two (.tr (rl [1, 0, 0, 9, 1, 0, 22, 0, 0]) false (.ops [{}, {}, {}, { cls := some .p }])) (.two (.tr (rl [1, 0, 0, 9, 2, 22, 0, 0, 13]) false .no) (.tr (rl [1, 0, 0, 9, 25, 0, 0]) false (.two (.tr (rl [1, 0, 0, 9, 25, 0, 0]) false .no) .no)))))) (.tr (rl [1, 0, 0, 9, 25, 0, 0]) false .no))))))) (.two (.tr (rl [8, 0]) false .no) (.tr (rl [8, 0]) false .no))))))))) = some xf27 := by kernel_rfl
def xf28 : XFunc :=
(.mk 24 [(.tmp 4)] (.seq (.tr (rl [1, 0]) false (.region false [(oW 2 (.box (T 0) 9)), (oP 4 (.mv (.lit (.c (.pv (.bool false))))))])) (.seq (.tr (rl [4]) false
  (.region false [(oR 5 (.load true 9 (T 2))), (oP 6 (.call false [] (.lit (.c (.fn 70 []))) [(T 5)])), (oP 7 (.mv (T 6))), (.mk (some 8) (.faddr 8 (T 2)) (some
  (7, true)) .p), (.mk (some 9) (.load false 1 (T 8)) (some (7, true)) .r), (.mk (some 10) (.un .not (T 9)) (some (7, true)) .p), (oP 11 (.pick (T 7) (T 10)
  (.lit (.c (.pv (.bool false)))))), (oP 12 (.mv (T 11))), (.mk (some 13) (.mv (T 1)) (some (12, true)) .p), (.mk (some 14) (.faddr 5 (T 2)) (some (12, true))
  .p), (.mk (some 15) (.load false 1 (T 14)) (some (12, true)) .r), (.mk (some 16) (.bin .geq (T 13) (T 15)) (some (12, true)) .p), (oP 17 (.pick (T 12) (T 16)
  (.lit (.c (.pv (.bool false)))))), (oP 18 (.mv (T 17))), (.mk (some 19) (.mv (T 1)) (some (18, true)) .p), (.mk (some 20) (.faddr 6 (T 2)) (some (18, true))
  .p), (.mk (some 21) (.load false 1 (T 20)) (some (18, true)) .r), (.mk (some 22) (.bin .leq (T 19) (T 21)) (some (18, true)) .p), (oP 23 (.pick (T 18) (T 22)
  (.lit (.c (.pv (.bool false)))))), (oP 4 (.mv (T 23)))])) (.tr (rl [4]) false .ret))))
theorem xf28_ok : cmpFunc Go.Proofs.Tryd.prog 28 ((.two (.tr (rl [1, 0]) false .no) (.two (.tr (rl [4]) false (.ops [{}, { cls := some .p }])) (.tr (rl [4]) false .no)))) = some xf28 := by kernel_rfl
def xf29 : XFunc :=
(.mk 15 [(.tmp 4)] (.seq (.tr (rl [1, 0]) false (.region false [(oW 2 (.box (T 0) 9)), (oP 4 (.mv (tI 0)))])) (.seq (.seq (.tr (rl [2, 5]) false (.region false
  [(oR 5 (.load true 9 (T 2))), (oP 6 (.mv (T 1))), (oP 7 (.call false [] (.lit (.c (.fn 28 []))) [(T 5), (T 6)])), (oP 8 (.un .not (T 7)))])) (.tr (rl [2, 1])
  false (.cond (T 8) (.seq (.region false [(oP 4 (.mv (tI 0)))]) (.tr (rl [4]) false .ret)) .skip))) (.seq (.tr (rl [4]) false (.region false [(oP 9 (.faddr 2
  (T 2))), (oP 10 (.faddr 1 (T 9))), (oR 11 (.load false 1 (T 10))), (oP 12 (.faddr 7 (T 2))), (oR 13 (.load false 1 (T 12))), (oP 14 (.bin .sub (T 11) (T
  13))), (oP 4 (.mv (T 14)))])) (.tr (rl [4]) false .ret)))))
theorem xf29_ok : cmpFunc Go.Proofs.Tryd.prog 29 ((.two (.tr (rl [1, 0]) false .no) (.two (.two (.tr (rl [2, 5]) false (.ops [{}, {}, { cls := some .p }])) (.tr (rl [2, 1]) false (.two (.two .no (.tr (rl [4]) false .no)) .no))) (.two (.tr (rl [4]) false .no) (.tr (rl [4]) false .no))))) = some xf29 := by kernel_rfl
def xf30 : XFunc :=
(.mk 16 [(.tmp 2)] (.seq (.tr (rl [1]) false (.region false [(oW 1 (.box (T 0) 2)), (oP 2 (.mv (.lit (.c (.pv (.bool false))))))])) (.seq (.tr (rl [2]) false
  (.region false [(oP 3 (.faddr 0 (T 1))), (oR 4 (.load false 1 (T 3))), (oP 5 (.call false [] (.lit (.c (.fn 74 []))) [(T 4)])), (oP 6 (.mv (T 5))), (.mk (some
  7) (.faddr 1 (T 1)) (some (6, true)) .p), (.mk (some 8) (.load false 1 (T 7)) (some (6, true)) .r), (.mk (some 9) (.bin .geq (T 8) (.lit (.c (.pv (.int .i64
  (-1000000000000000)))))) (some (6, true)) .p), (oP 10 (.pick (T 6) (T 9) (.lit (.c (.pv (.bool false)))))), (oP 11 (.mv (T 10))), (.mk (some 12) (.faddr 1 (T
  1)) (some (11, true)) .p), (.mk (some 13) (.load false 1 (T 12)) (some (11, true)) .r), (.mk (some 14) (.bin .leq (T 13) (tI 1000000000000000)) (some (11,
  true)) .p), (oP 15 (.pick (T 11) (T 14) (.lit (.c (.pv (.bool false)))))), (oP 2 (.mv (T 15)))])) (.tr (rl [2]) false .ret))))
theorem xf30_ok : cmpFunc Go.Proofs.Tryd.prog 30 ((.two (.tr (rl [1]) false .no) (.two (.tr (rl [2]) false (.ops [{}, {}, { cls := some .p }])) (.tr (rl [2]) false .no)))) = some xf30 := by kernel_rfl
def xf36 : XFunc :=
(.mk 47 [(.tmp 2)] (.seq (.tr (rl [1]) false (.region false [(oW 1 (.box (T 0) 7)), (oP 2 (.mv (tI 0)))])) (.seq (.tr (rl [1, 1]) false (.region false [(oP 4
  (.mkfn 83 [(T 1)])), (oP 3 (.mv (T 4)))])) (.seq (.tr (rl [2]) false (.block 0 (.seq (.tr (rl [1, 1, 1]) false (.region false [(oR 6 (.load true 7 (T 1))),
  (oP 7 (.call false [] (.lit (.c (.fn 85 []))) [(T 6)])), (oP 8 (.un .not (T 7))), (oP 5 (.mv (T 8)))])) (.tr (rl [2]) false (.cond (T 5) (.seq (.region false
  [(oP 2 (.mv (tI 1)))]) (.tr (rl [2]) false .ret)) (.seq (.tr (rl [1, 1, 5]) false (.region false [(oP 10 (.faddr 1 (T 1))), (oR 11 (.load false 1 (T 10))),
  (oP 12 (.call false [] (.lit (.c (.fn 53 []))) [(T 11)])), (oP 13 (.un .not (T 12))), (oP 14 (.mv (T 13))), (.mk (some 15) (.faddr 2 (T 1)) (some (14, false))
  .p), (.mk (some 16) (.load false 1 (T 15)) (some (14, false)) .r), (.mk (some 17) (.call false [] (.lit (.c (.fn 53 []))) [(T 16)]) (some (14, false)) .p),
  (.mk (some 18) (.un .not (T 17)) (some (14, false)) .p), (oP 19 (.pick (T 14) (.lit (.c (.pv (.bool true)))) (T 18))), (oP 9 (.mv (T 19)))])) (.tr (rl [2])
  false (.cond (T 9) (.seq (.region false [(oP 2 (.mv (tI 11)))]) (.tr (rl [2]) false .ret)) (.seq (.tr (rl [1, 1, 16]) false (.region false [(oP 21 (.faddr 3
  (T 1))), (oR 22 (.load false 1 (T 21))), (oP 23 (.len (T 22))), (oP 24 (.bin .lss (T 23) (tI 2))), (oP 20 (.mv (T 24)))])) (.tr (rl [2]) false (.cond (T 20)
  (.seq (.region false [(oP 2 (.mv (tI 2)))]) (.tr (rl [2]) false .ret)) (.seq (.tr (rl [1, 1, 21]) false (.region false [(oP 26 (.faddr 3 (T 1))), (oR 27
  (.load false 1 (T 26))), (oP 28 (.len (T 27))), (oP 29 (.bin .gtr (T 28) (tI 16))), (oP 25 (.mv (T 29)))])) (.tr (rl [2]) false (.cond (T 25) (.seq (.region
  false [(oP 2 (.mv (tI 4)))]) (.tr (rl [2]) false .ret)) (.seq (.tr (rl [1, 1, 26]) false (.region false [(oP 31 (.mv (T 3))), (oW 32 (.call false [] (T 31)
  [(.lit (.c (.fn 86 [])))])), (oP 30 (.mv (T 32)))])) (.tr (rl [2]) false (.cond (T 30) (.seq (.region false [(oP 2 (.mv (tI 8)))]) (.tr (rl [2]) false .ret))
  (.seq (.tr (rl [1, 1, 29]) false (.region false [(oP 34 (.mv (T 3))), (oW 35 (.call false [] (T 34) [(.lit (.c (.fn 87 [])))])), (oP 33 (.mv (T 35)))])) (.tr
  (rl [2]) false (.cond (T 33) (.seq (.region false [(oP 2 (.mv (tI 12)))]) (.tr (rl [2]) false .ret)) (.seq (.tr (rl [1, 1, 32]) false (.region false [(oP 37
  (.mv (T 3))), (oW 38 (.call false [] (T 37) [(.lit (.c (.fn 89 [])))])), (oP 36 (.mv (T 38)))])) (.tr (rl [2]) false (.cond (T 36) (.seq (.region false [(oP 2
  (.mv (tI 9)))]) (.tr (rl [2]) false .ret)) (.seq (.tr (rl [1, 37]) false (.region false [(oP 40 (.mv (T 3))), (oW 41 (.call false [] (T 40) [(.lit (.c (.fn 90
  [])))])), (oP 39 (.mv (T 41)))])) (.tr (rl [2]) false (.cond (T 39) (.seq (.region false [(oP 2 (.mv (tI 10)))]) (.tr (rl [2]) false .ret)) (.seq (.tr (rl
  [42]) false (.region false [(oP 43 (.faddr 3 (T 1))), (oR 44 (.load false 1 (T 43))), (oP 45 (.call false [] (.lit (.c (.fn 91 []))) [(T 44)])), (oP 46 (.un
  .not (T 45))), (oP 42 (.mv (T 46)))])) (.tr (rl [2]) false (.cond (T 42) (.seq (.region false [(oP 2 (.mv (tI 15)))]) (.tr (rl [2]) false .ret))
  .skip))))))))))))))))))))))))))))) (.seq (.region false [(oP 2 (.mv (tI 0)))]) (.tr (rl [2]) false .ret))))))
theorem xf36_ok : cmpFunc Go.Proofs.Tryd.prog 36 ((.two (.tr (rl [1]) false .no) (.two (.tr (rl [1, 1]) false .no) (.two (.tr (rl [2]) false (.two (.tr (rl [1, 1, 1]) false (.ops [{}, { cls := some .p }])) (.tr (rl [2]) false (.two (.two .no (.tr (rl [2]) false .no)) (.two (.tr (rl [1, 1, 5]) false (.ops [{}, {}, { cls := some .p }, {}, {}, {}, {}, { cls := some .p }])) (.tr (rl [2]) false (.two (.two .no (.tr (rl [2]) false .no)) (.two (.tr (rl [1, 1, 16]) false .no) (.tr (rl [2]) false (.two (.two .no (.tr (rl [2]) false .no)) (.two (.tr (rl [1, 1, 21]) false .no) (.tr (rl [2]) false (.two (.two .no (.tr (rl [2]) false .no)) (.two (.tr (rl [1, 1, 26]) false .no) (.tr (rl [2]) false (.two (.two .no (.tr (rl [2]) false .no)) (.two (.tr (rl [1, 1, 29]) false .no) (.tr (rl [2]) false (.two (.two .no (.tr (rl [2]) false .no)) (.two (.tr (rl [1, 1, 32]) false .no) (.tr (rl [2]) false (.two (.two .no (.tr (rl [2]) false .no)) (.two (.tr (rl [1, 37]) false .no) (.tr (rl [2]) false (.two (.two .no (.tr (rl [2]) false .no)) (.two (.tr (rl [42]) false (.ops [{}, {}, { cls := some .p }])) (.tr (rl [2]) false (.two (.two .no (.tr (rl [2]) false .no)) .no)))))))))))))))))))))))))))) (.two .no (.tr (rl [2]) false .no)))))) = some xf36 := by kernel_rfl
def xf37 : XFunc :=
(.mk 8 [(.tmp 2)] (.seq (.tr (rl [0]) false (.region false [(oP 2 (.mv (.lit (.c (.pv (.sl .nil 0 []))))))])) (.seq (.seq (.tr (rl [0, 3]) false (.region false
  [(oP 3 (.mv (T 0))), (oP 4 (.eqN 0 false (T 3) (.lit (.c (.pv (.sl .nil 0 []))))))])) (.tr (rl [0, 1]) false (.cond (T 4) (.seq (.region false [(oP 2 (.mv
  (.lit (.c (.pv (.sl .nil 0 []))))))]) (.tr (rl [2]) false .ret)) .skip))) (.seq (.tr (rl [2]) false (.region false [(oP 5 (.buildSl [(.pv (.int .i64 0)), (.pv
  (.int .i64 0)), (.pv (.int .i64 0))] 0 3 [])), (oP 6 (.mv (T 0))), (oW 7 (.app 3 24 (T 5) (T 6))), (oP 2 (.mv (T 7)))])) (.tr (rl [2]) false .ret)))))
theorem xf37_ok : cmpFunc Go.Proofs.Tryd.prog 37 ((.two (.tr (rl [0]) false .no) (.two (.two (.tr (rl [0, 3]) false .no) (.tr (rl [0, 1]) false (.two (.two .no (.tr (rl [2]) false .no)) .no))) (.two (.tr (rl [2]) false .no) (.tr (rl [2]) false .no))))) = some xf37 := by kernel_rfl
def xf38_l0 : XCode :=
(.seq (.region false [(oP 11 (.bin .lss (T 10) (T 9)))]) (.seq (.tr (rl [1, 1, 4, 0, 0]) false (.cond (T 11) .skip (.tr [] false (.exit 0)))) (.seq (.tr (rl [1,
  0, 0, 4, 0, 0]) false (.block 1 (.seq (.tr (rl [1, 1, 0, 0, 2, 0, 0]) false (.region false [(oP 12 (.mv (T 10))), (oP 13 (.iaddrS 7 (T 8) (T 10))), (oR 14
  (.load true 7 (T 13))), (oW 5 (.alloc [(.pv (.int .i64 0)), (.pv (.int .i32 0)), (.pv (.int .i32 0)), (.pv (.sl .nil 0 [])), (.pv (.int .i64 0)), (.pv (.int
  .i64 0)), (.pv (.str []))])), (oP 4 (.mv (T 12))), (sW (.store 7 (T 5) (T 14)))])) (.seq (.seq (.tr (rl [1, 1, 1, 2, 0, 0, 16]) false (.region true [(oR 15
  (.load true 7 (T 5))), (oP 16 (.call false [] (.lit (.c (.fn 36 []))) [(T 15)])), (oP 17 (.bin .neq (T 16) (tI 0))), (oP 18 (.mv (T 17))), (.mk (some 19)
  (.faddr 0 (T 1)) (some (18, false)) .p), (.mk (some 20) (.load false 1 (T 19)) (some (18, false)) .r), (.mk (some 21) (.mv (T 4)) (some (18, false)) .p), (.mk
  (some 22) (.sliceV 7 (T 20) none (some (T 21)) none) (some (18, false)) .p), (.mk (some 23) (.mv (T 3)) (some (18, false)) .p), (.mk (some 24) (.load true 7
  (T 5)) (some (18, false)) .r), (.mk (some 25) (.call false [] (.lit (.c (.fn 39 []))) [(T 22), (T 23), (T 24)]) (some (18, false)) .w), (.mk (some 26) (.bin
  .neq (T 25) (tI 0)) (some (18, false)) .p), (oP 27 (.pick (T 18) (.lit (.c (.pv (.bool true)))) (T 26)))])) (.tr (rl [1, 0, 0, 1, 2, 0, 0]) false (.cond (T
  27) (.seq (.region false [(oP 2 (.mv (.lit (.c (.pv (.bool false))))))]) (.tr (rl [2]) false .ret)) .skip))) (.tr (rl [1, 1, 4, 0, 0]) false (.region false
  [(oP 28 (.mv (T 3))), (oP 29 (.faddr 4 (T 5))), (oR 30 (.load false 1 (T 29))), (sW (.mupd (T 28) (T 30) (.lit (.c (.pv (.bool true)))) 0))])))))) (.tr (rl
  [1, 1, 4, 0, 0]) false (.region false [(oP 31 (.bin .add (T 10) (tI 1))), (oP 10 (.mv (T 31)))])))))
def xf38 : XFunc :=
(.mk 32 [(.tmp 2)] (.seq (.tr (rl [1]) false (.region false [(oW 1 (.box (T 0) 1)), (oP 2 (.mv (.lit (.c (.pv (.bool false))))))])) (.seq (.tr (rl [1, 1]) false
  (.region false [(.mk (some 6) .mkmap none .w), (oP 3 (.mv (T 6)))])) (.seq (.seq (.tr (rl [1, 1, 4, 0, 0]) false (.region false [(oP 7 (.faddr 0 (T 1))), (oR
  8 (.load false 1 (T 7))), (oP 9 (.len (T 8))), (oP 10 (.mv (tI 0)))])) (.tr (rl [2]) false (.block 0 (.loop (rl [1, 1, 4, 0, 0]) xf38_l0)))) (.seq (.region
  false [(oP 2 (.mv (.lit (.c (.pv (.bool true))))))]) (.tr (rl [2]) false .ret))))))
theorem xf38_ok : cmpFunc Go.Proofs.Tryd.prog 38 ((.two (.tr (rl [1]) false .no) (.two (.tr (rl [1, 1]) false .no) (.two (.two (.tr (rl [1, 1, 4, 0, 0]) false .no) (.tr (rl [2]) false (.loop (rl [1, 1, 4, 0, 0]) (.two .no (.two (.tr (rl [1, 1, 4, 0, 0]) false (.two .no (.tr [] false .no))) (.two (.tr (rl [1, 0, 0, 4, 0, 0]) false (.two (.tr (rl [1, 1, 0, 0, 2, 0, 0]) false .no) (.two (.two (.tr (rl [1, 1, 1, 2, 0, 0, 16]) false (.draw [0, 1, 2, 3, 4, 5, 6, 7, 8, 9, 10, 11, 12] [{}, { cls := some .p }])) (.tr (rl [1, 0, 0, 1, 2, 0, 0]) false (.two (.two .no (.tr (rl [2]) false .no)) .no))) (.tr (rl [1, 1, 4, 0, 0]) false .no)))) (.tr (rl [1, 1, 4, 0, 0]) false .no))))))) (.two .no (.tr (rl [2]) false .no)))))) = some xf38 := by kernel_rfl
def xf39 : XFunc :=
(.mk 73 [(.tmp 6)] (.seq (.tr (rl [0, 0, 3]) false (.region false [(oW 5 (.box (T 2) 7)), (oP 6 (.mv (tI 0)))])) (.seq (.tr (rl [0, 0, 3, 1]) false (.region
  false [(oP 11 (.mv (T 0))), (oP 12 (.len (T 11))), (oP 7 (.mv (T 12)))])) (.seq (.tr (rl [0, 0, 3, 0]) false (.block 0 (.seq (.tr (rl [0, 0, 3, 1, 5]) false
  (.region false [(oP 14 (.mv (T 7))), (oP 15 (.bin .eql (T 14) (tI 400))), (oP 13 (.mv (T 15)))])) (.tr (rl [0, 0, 3, 0]) false (.cond (T 13) (.seq (.region
  false [(oP 6 (.mv (tI 6)))]) (.tr (rl [6]) false .ret)) (.seq (.tr (rl [0, 0, 3, 1, 8]) false (.region false [(oP 17 (.faddr 0 (T 5))), (oR 18 (.load false 1
  (T 17))), (oP 19 (.mv (T 7))), (oP 20 (.bin .add (T 19) (tI 1))), (oP 21 (.bin .neq (T 18) (T 20))), (oP 16 (.mv (T 21)))])) (.tr (rl [0, 0, 3, 0]) false
  (.cond (T 16) (.seq (.region false [(oP 6 (.mv (tI 25)))]) (.tr (rl [6]) false .ret)) (.seq (.tr (rl [0, 0, 3, 16]) false (.region true [(oP 23 (.mv (T 7))),
  (oP 24 (.bin .gtr (T 23) (tI 0))), (oP 25 (.mv (T 24))), (.mk (some 26) (.faddr 1 (T 5)) (some (25, true)) .p), (.mk (some 27) (.load false 1 (T 26)) (some
  (25, true)) .r), (.mk (some 28) (.mv (T 0)) (some (25, true)) .p), (.mk (some 29) (.mv (T 7)) (some (25, true)) .p), (.mk (some 30) (.bin .sub (T 29) (tI 1))
  (some (25, true)) .p), (.mk (some 31) (.iaddrS 7 (T 28) (T 30)) (some (25, true)) .p), (.mk (some 32) (.faddr 1 (T 31)) (some (25, true)) .p), (.mk (some 33)
  (.load false 1 (T 32)) (some (25, true)) .r), (.mk (some 34) (.bin .lss (T 27) (T 33)) (some (25, true)) .p), (oP 35 (.pick (T 25) (T 34) (.lit (.c (.pv
  (.bool false)))))), (oP 22 (.mv (T 35)))])) (.tr (rl [0, 0, 3, 0]) false (.cond (T 22) (.seq (.region false [(oP 6 (.mv (tI 20)))]) (.tr (rl [6]) false .ret))
  (.seq (.tr (rl [0, 0, 3, 30]) false (.region false [(oP 37 (.faddr 4 (T 5))), (oR 38 (.load false 1 (T 37))), (oP 39 (.bin .eql (T 38) (tI 0))), (oP 36 (.mv
  (T 39)))])) (.tr (rl [0, 0, 3, 0]) false (.cond (T 36) (.seq (.region false [(oP 6 (.mv (tI 0)))]) (.tr (rl [6]) false .ret)) .skip)))))))))))))) (.seq (.tr
  (rl [1, 3, 2]) false (.region false [(oP 40 (.mv (T 0))), (oP 41 (.faddr 4 (T 5))), (oR 42 (.load false 1 (T 41))), (oP 43 (.bin .sub (T 42) (tI 1))), (oP 44
  (.iaddrS 7 (T 40) (T 43))), (oR 45 (.load true 7 (T 44))), (oW 8 (.alloc [(.pv (.int .i64 0)), (.pv (.int .i32 0)), (.pv (.int .i32 0)), (.pv (.sl .nil 0
  [])), (.pv (.int .i64 0)), (.pv (.int .i64 0)), (.pv (.str []))])), (sW (.store 7 (T 8) (T 45)))])) (.seq (.tr (rl [1, 3, 2, 0, 0]) false (.region false [(oR
  47 (.load true 7 (T 8))), (oP 48 (.faddr 0 (T 5))), (oR 49 (.load false 1 (T 48))), (oP 50 (.faddr 1 (T 5))), (oR 51 (.load false 1 (T 50))), (oP 52 (.call
  false [] (.lit (.c (.fn 13 []))) [(T 47), (T 49), (T 51)])), (oP 46 (.mv (T 52))), (oP 53 (.extr 0 (T 46))), (oP 54 (.extr 1 (T 46))), (oW 9 (.alloc [(.pv
  (.int .i64 0)), (.pv (.int .i32 0)), (.pv (.int .i32 0)), (.pv (.sl .nil 0 [])), (.pv (.int .i64 0)), (.pv (.int .i64 0)), (.pv (.str []))])), (sW (.store 7
  (T 9) (T 53))), (oP 10 (.mv (T 54)))])) (.seq (.tr (rl [6]) false (.block 1 (.seq (.tr (rl [1, 3, 3, 0, 44]) false (.region false [(oP 56 (.faddr 4 (T 8))),
  (oR 57 (.load false 1 (T 56))), (oP 58 (.bin .gtr (T 57) (tI 0))), (oP 55 (.mv (T 58)))])) (.tr (rl [6]) false (.cond (T 55) (.seq (.region false [(oP 6 (.mv
  (tI 27)))]) (.tr (rl [6]) false .ret)) (.seq (.tr (rl [5, 3, 0, 48]) false (.region false [(oP 60 (.mv (T 1))), (oP 61 (.faddr 4 (T 5))), (oR 62 (.load false
  1 (T 61))), (oR 63 (.mlook (.bool false) false (T 60) (T 62) 0)), (oP 59 (.mv (T 63)))])) (.tr (rl [6]) false (.cond (T 59) (.seq (.region false [(oP 6 (.mv
  (tI 23)))]) (.tr (rl [6]) false .ret)) (.seq (.tr (rl [64]) false (.region false [(oP 65 (.mv (T 10))), (oP 66 (.bin .neq (T 65) (tI 0))), (oP 67 (.mv (T
  66))), (.mk (some 68) (.load true 7 (T 9)) (some (67, false)) .r), (.mk (some 69) (.load true 7 (T 5)) (some (67, false)) .r), (.mk (some 70) (.call false []
  (.lit (.c (.fn 92 []))) [(T 68), (T 69)]) (some (67, false)) .p), (.mk (some 71) (.un .not (T 70)) (some (67, false)) .p), (oP 72 (.pick (T 67) (.lit (.c (.pv
  (.bool true)))) (T 71))), (oP 64 (.mv (T 72)))])) (.tr (rl [6]) false (.cond (T 64) (.seq (.region false [(oP 6 (.mv (tI 3)))]) (.tr (rl [6]) false .ret))
  .skip))))))))))) (.seq (.region false [(oP 6 (.mv (tI 0)))]) (.tr (rl [6]) false .ret)))))))))
theorem xf39_ok : cmpFunc Go.Proofs.Tryd.prog 39 ((.two (.tr (rl [0, 0, 3]) false .no) (.two (.tr (rl [0, 0, 3, 1]) false .no) (.two (.tr (rl [0, 0, 3, 0]) false (.two (.tr (rl [0, 0, 3, 1, 5]) false .no) (.tr (rl [0, 0, 3, 0]) false (.two (.two .no (.tr (rl [6]) false .no)) (.two (.tr (rl [0, 0, 3, 1, 8]) false .no) (.tr (rl [0, 0, 3, 0]) false (.two (.two .no (.tr (rl [6]) false .no)) (.two (.tr (rl [0, 0, 3, 16]) false (.draw [0, 1, 2, 3, 4, 5, 6, 7, 8, 9, 10, 11, 12, 13] [])) (.tr (rl [0, 0, 3, 0]) false (.two (.two .no (.tr (rl [6]) false .no)) (.two (.tr (rl [0, 0, 3, 30]) false .no) (.tr (rl [0, 0, 3, 0]) false (.two (.two .no (.tr (rl [6]) false .no)) .no))))))))))))) (.two (.tr (rl [1, 3, 2]) false .no) (.two (.tr (rl [1, 3, 2, 0, 0]) false (.ops [{}, {}, {}, {}, {}, { cls := some .p }])) (.two (.tr (rl [6]) false (.two (.tr (rl [1, 3, 3, 0, 44]) false .no) (.tr (rl [6]) false (.two (.two .no (.tr (rl [6]) false .no)) (.two (.tr (rl [5, 3, 0, 48]) false .no) (.tr (rl [6]) false (.two (.two .no (.tr (rl [6]) false .no)) (.two (.tr (rl [64]) false (.ops [{}, {}, {}, {}, {}, { cls := some .p }])) (.tr (rl [6]) false (.two (.two .no (.tr (rl [6]) false .no)) .no)))))))))) (.two .no (.tr (rl [6]) false .no))))))))) = some xf39 := by kernel_rfl
def xf40_l0 : XCode :=
(.seq (.region false [(oP 10 (.bin .lss (T 9) (T 8)))]) (.seq (.tr (rl [3, 3, 0, 0]) false (.cond (T 10) .skip (.tr (rl [3]) false (.exit 0)))) (.seq (.tr (rl
  [3, 3, 0, 0]) false (.block 1 (.seq (.tr (rl [3, 1, 1, 0, 0]) false (.region false [(oP 11 (.iaddrS 7 (T 7) (T 9))), (oR 12 (.load true 7 (T 11))), (oW 5
  (.alloc [(.pv (.int .i64 0)), (.pv (.int .i32 0)), (.pv (.int .i32 0)), (.pv (.sl .nil 0 [])), (.pv (.int .i64 0)), (.pv (.int .i64 0)), (.pv (.str []))])),
  (sW (.store 7 (T 5) (T 12)))])) (.tr (rl [3, 3, 0, 0]) false (.region false [(oP 13 (.mv (T 3))), (oP 14 (.faddr 4 (T 5))), (oR 15 (.load false 1 (T 14))),
  (sW (.mupd (T 13) (T 15) (.lit (.c (.pv (.bool true)))) 0))]))))) (.tr (rl [3, 3, 0, 0]) false (.region false [(oP 16 (.bin .add (T 9) (tI 1))), (oP 9 (.mv (T
  16)))])))))
def xf40 : XFunc :=
(.mk 18 [(.tmp 2)] (.seq (.tr (rl [0]) false (.region false [(oP 2 (.mv (.lit (.c .nilm))))])) (.seq (.tr (rl [0, 2]) false (.region false [(.mk (some 6) .mkmap
  none .w), (oP 3 (.mv (T 6)))])) (.seq (.seq (.tr (rl [3, 3, 0, 0]) false (.region false [(oP 7 (.mv (T 0))), (oP 8 (.len (T 7))), (oP 9 (.mv (tI 0)))])) (.tr
  (rl [3]) false (.block 0 (.loop (rl [3, 3, 0, 0]) xf40_l0)))) (.seq (.tr (rl [2]) false (.region false [(oP 17 (.mv (T 3))), (oP 2 (.mv (T 17)))])) (.tr (rl
  [2]) false .ret))))))
theorem xf40_ok : cmpFunc Go.Proofs.Tryd.prog 40 ((.two (.tr (rl [0]) false .no) (.two (.tr (rl [0, 2]) false .no) (.two (.two (.tr (rl [3, 3, 0, 0]) false .no) (.tr (rl [3]) false (.loop (rl [3, 3, 0, 0]) (.two .no (.two (.tr (rl [3, 3, 0, 0]) false (.two .no (.tr (rl [3]) false .no))) (.two (.tr (rl [3, 3, 0, 0]) false (.two (.tr (rl [3, 1, 1, 0, 0]) false .no) (.tr (rl [3, 3, 0, 0]) false .no))) (.tr (rl [3, 3, 0, 0]) false .no))))))) (.two (.tr (rl [2]) false .no) (.tr (rl [2]) false .no)))))) = some xf40 := by kernel_rfl
def xf41 : XFunc :=
(.mk 3 [(.tmp 2)] (.seq (.tr [] false (.region false [(oW 1 (.box (T 0) 7)), (oP 2 (.mv (.lit (.c (.pv (.bool false))))))])) (.seq (.region false [(oP 2 (.mv
  (.lit (.c (.pv (.bool true))))))]) (.tr (rl [2]) false .ret))))
theorem xf41_ok : cmpFunc Go.Proofs.Tryd.prog 41 ((.two (.tr [] false .no) (.two .no (.tr (rl [2]) false .no)))) = some xf41 := by kernel_rfl
def xf42_l0 : XCode :=
(.seq (.region false [(oP 11 (.bin .lss (T 10) (T 9)))]) (.seq (.tr (rl [1, 3, 2, 0, 0]) false (.cond (T 11) .skip (.tr (rl [5]) false (.exit 0)))) (.seq (.tr
  (rl [1, 3, 2, 0, 0]) false (.block 1 (.seq (.tr (rl [1, 3, 1, 0, 0, 0]) false (.region false [(oP 12 (.iaddrS 7 (T 8) (T 10))), (oR 13 (.load true 7 (T 12))),
  (oW 7 (.alloc [(.pv (.int .i64 0)), (.pv (.int .i32 0)), (.pv (.int .i32 0)), (.pv (.sl .nil 0 [])), (.pv (.int .i64 0)), (.pv (.int .i64 0)), (.pv (.str
  []))])), (sW (.store 7 (T 7) (T 13)))])) (.seq (.tr (rl [1, 3, 1, 0, 0, 0, 5]) false (.region false [(oP 14 (.mv (T 1))), (oR 15 (.load true 7 (T 7))), (oW 16
  (.call false [] (T 14) [(T 15)]))])) (.tr (rl [1, 3, 2, 0, 0]) false (.cond (T 16) (.tr (rl [1, 3, 2, 0, 0]) false (.region false [(oP 17 (.mv (T 5))), (oR 18
  (.load true 7 (T 7))), (oP 19 (.call false [] (.lit (.c (.fn 43 []))) [(T 18)])), (oP 20 (.buildSl [(.pv (.int .i64 0)), (.pv (.int .i32 0)), (.pv (.int .i32
  0)), (.pv (.sl .nil 0 [])), (.pv (.int .i64 0)), (.pv (.int .i64 0)), (.pv (.str []))] 1 7 [(0, (7, (T 19)))])), (oW 21 (.app 7 72 (T 17) (T 20))), (oP 5 (.mv
  (T 21)))])) .skip)))))) (.tr (rl [1, 3, 2, 0, 0]) false (.region false [(oP 22 (.bin .add (T 10) (tI 1))), (oP 10 (.mv (T 22)))])))))
def xf42 : XFunc :=
(.mk 24 [(.tmp 4)] (.seq (.tr (rl [0, 0]) false (.region false [(oP 4 (.mv (.lit (.c (.pv (.sl .nil 0 []))))))])) (.seq (.region false [(oP 5 (.mv (.lit (.c
  (.pv (.sl .nil 0 []))))))]) (.seq (.seq (.tr (rl [1, 3, 2, 0, 0]) false (.region false [(oP 8 (.mv (T 0))), (oP 9 (.len (T 8))), (oP 10 (.mv (tI 0)))])) (.tr
  (rl [5]) false (.block 0 (.loop (rl [1, 3, 2, 0, 0]) xf42_l0)))) (.seq (.tr (rl [4]) false (.region false [(oP 23 (.mv (T 5))), (oP 4 (.mv (T 23)))])) (.tr
  (rl [4]) false .ret))))))
theorem xf42_ok : cmpFunc Go.Proofs.Tryd.prog 42 ((.two (.tr (rl [0, 0]) false .no) (.two .no (.two (.two (.tr (rl [1, 3, 2, 0, 0]) false .no) (.tr (rl [5]) false (.loop (rl [1, 3, 2, 0, 0]) (.two .no (.two (.tr (rl [1, 3, 2, 0, 0]) false (.two .no (.tr (rl [5]) false .no))) (.two (.tr (rl [1, 3, 2, 0, 0]) false (.two (.tr (rl [1, 3, 1, 0, 0, 0]) false .no) (.two (.tr (rl [1, 3, 1, 0, 0, 0, 5]) false .no) (.tr (rl [1, 3, 2, 0, 0]) false (.two (.tr (rl [1, 3, 2, 0, 0]) false (.ops [{}, {}, { cls := some .p }])) .no))))) (.tr (rl [1, 3, 2, 0, 0]) false .no))))))) (.two (.tr (rl [4]) false .no) (.tr (rl [4]) false .no)))))) = some xf42 := by kernel_rfl
def xf43 : XFunc :=
(.mk 8 [(.cell 2 true 7)] (.seq (.tr (rl [1, 0]) false (.region false [(oW 1 (.box (T 0) 7)), (oW 2 (.alloc [(.pv (.int .i64 0)), (.pv (.int .i32 0)), (.pv
  (.int .i32 0)), (.pv (.sl .nil 0 [])), (.pv (.int .i64 0)), (.pv (.int .i64 0)), (.pv (.str []))]))])) (.seq (.tr (rl [1, 0]) false (.region false [(oP 3
  (.faddr 3 (T 1))), (oR 4 (.load false 1 (T 3))), (oP 5 (.call false [] (.lit (.c (.fn 37 []))) [(T 4)])), (oP 6 (.faddr 3 (T 1))), (sW (.store 1 (T 6) (T
  5)))])) (.seq (.tr (rl [2]) false (.region false [(oR 7 (.load true 7 (T 1))), (sW (.store 7 (T 2) (T 7)))])) (.tr (rl [2]) false .ret)))))
theorem xf43_ok : cmpFunc Go.Proofs.Tryd.prog 43 ((.two (.tr (rl [1, 0]) false .no) (.two (.tr (rl [1, 0]) false (.ops [{}, {}, { cls := some .p }])) (.two (.tr (rl [2]) false .no) (.tr (rl [2]) false .no))))) = some xf43 := by kernel_rfl
def xf51 : XFunc :=
(.mk 76 [(.tmp 2)] (.seq (.tr (rl [1]) false (.region false [(oW 1 (.box (T 0) 10)), (oP 2 (.mv (.lit (.c (.pv (.bool false))))))])) (.seq (.tr (rl [1, 1])
  false (.region false [(oP 6 (.faddr 2 (T 1))), (oR 7 (.load false 1 (T 6))), (oP 8 (.call false [] (.lit (.c (.fn 96 []))) [(T 7), (tI 1), (tI 999)])), (oP 9
  (.mv (T 8))), (.mk (some 10) (.faddr 3 (T 1)) (some (9, true)) .p), (.mk (some 11) (.load false 1 (T 10)) (some (9, true)) .r), (.mk (some 12) (.call false []
  (.lit (.c (.fn 96 []))) [(T 11), (tI 1), (tI 999)]) (some (9, true)) .p), (oP 13 (.pick (T 9) (T 12) (.lit (.c (.pv (.bool false)))))), (oP 14 (.mv (T 13))),
  (.mk (some 15) (.faddr 2 (T 1)) (some (14, true)) .p), (.mk (some 16) (.load false 1 (T 15)) (some (14, true)) .r), (.mk (some 17) (.faddr 3 (T 1)) (some (14,
  true)) .p), (.mk (some 18) (.load false 1 (T 17)) (some (14, true)) .r), (.mk (some 19) (.bin .neq (T 16) (T 18)) (some (14, true)) .p), (oP 20 (.pick (T 14)
  (T 19) (.lit (.c (.pv (.bool false)))))), (oP 3 (.mv (T 20)))])) (.seq (.tr (rl [1, 1, 0]) false (.region false [(oP 21 (.faddr 4 (T 1))), (oR 22 (.load true
  2 (T 21))), (oP 23 (.call false [] (.lit (.c (.fn 30 []))) [(T 22)])), (oP 24 (.mv (T 23))), (.mk (some 25) (.faddr 4 (T 1)) (some (24, true)) .p), (.mk (some
  26) (.faddr 1 (T 25)) (some (24, true)) .p), (.mk (some 27) (.load false 1 (T 26)) (some (24, true)) .r), (.mk (some 28) (.bin .gtr (T 27) (tI 0)) (some (24,
  true)) .p), (.mk (some 29) (.mv (T 28)) (some (24, true)) .p), (.mk (some 30) (.faddr 4 (T 1)) (some (29, false)) .p), (.mk (some 31) (.faddr 1 (T 30)) (some
  (29, false)) .p), (.mk (some 32) (.load false 1 (T 31)) (some (29, false)) .r), (.mk (some 33) (.bin .eql (T 32) (tI 0)) (some (29, false)) .p), (.mk (some
  34) (.mv (T 33)) (some (29, false)) .p), (.mk (some 35) (.faddr 1 (T 1)) (some (34, true)) .p), (.mk (some 36) (.load false 1 (T 35)) (some (34, true)) .r),
  (.mk (some 37) (.bin .eql (T 36) (tI 1)) (some (34, true)) .p), (.mk (some 38) (.pick (T 34) (T 37) (.lit (.c (.pv (.bool false))))) (some (29, false)) .p),
  (.mk (some 39) (.pick (T 29) (.lit (.c (.pv (.bool true)))) (T 38)) (some (24, true)) .p), (oP 40 (.pick (T 24) (T 39) (.lit (.c (.pv (.bool false)))))), (oP
  4 (.mv (T 40)))])) (.seq (.tr (rl [1, 1, 0, 0]) false (.region false [(oP 41 (.faddr 6 (T 1))), (oR 42 (.load false 1 (T 41))), (oP 43 (.call false [] (.lit
  (.c (.fn 53 []))) [(T 42)])), (oP 44 (.mv (T 43))), (.mk (some 45) (.faddr 7 (T 1)) (some (44, true)) .p), (.mk (some 46) (.load false 1 (T 45)) (some (44,
  true)) .r), (.mk (some 47) (.call false [] (.lit (.c (.fn 56 []))) [(T 46), (tI 1), (tI 12)]) (some (44, true)) .p), (oP 48 (.pick (T 44) (T 47) (.lit (.c
  (.pv (.bool false)))))), (oP 49 (.mv (T 48))), (.mk (some 50) (.faddr 8 (T 1)) (some (49, true)) .p), (.mk (some 51) (.load false 1 (T 50)) (some (49, true))
  .r), (.mk (some 52) (.call false [] (.lit (.c (.fn 56 []))) [(T 51), (tI 1), (tI 120)]) (some (49, true)) .p), (oP 53 (.pick (T 49) (T 52) (.lit (.c (.pv
  (.bool false)))))), (oP 5 (.mv (T 53)))])) (.seq (.tr (rl [2]) false (.region false [(oP 54 (.faddr 0 (T 1))), (oR 55 (.load false 1 (T 54))), (oP 56 (.call
  false [] (.lit (.c (.fn 56 []))) [(T 55), (tI 1), (tI 1000000)])), (oP 57 (.mv (T 56))), (.mk (some 58) (.faddr 1 (T 1)) (some (57, true)) .p), (.mk (some 59)
  (.load false 1 (T 58)) (some (57, true)) .r), (.mk (some 60) (.call false [] (.lit (.c (.fn 56 []))) [(T 59), (tI 0), (tI 2)]) (some (57, true)) .p), (oP 61
  (.pick (T 57) (T 60) (.lit (.c (.pv (.bool false)))))), (oP 62 (.mv (T 61))), (.mk (some 63) (.mv (T 3)) (some (62, true)) .p), (oP 64 (.pick (T 62) (T 63)
  (.lit (.c (.pv (.bool false)))))), (oP 65 (.mv (T 64))), (.mk (some 66) (.mv (T 4)) (some (65, true)) .p), (oP 67 (.pick (T 65) (T 66) (.lit (.c (.pv (.bool
  false)))))), (oP 68 (.mv (T 67))), (.mk (some 69) (.mv (T 5)) (some (68, true)) .p), (oP 70 (.pick (T 68) (T 69) (.lit (.c (.pv (.bool false)))))), (oP 71
  (.mv (T 70))), (.mk (some 72) (.faddr 9 (T 1)) (some (71, true)) .p), (.mk (some 73) (.load false 1 (T 72)) (some (71, true)) .r), (.mk (some 74) (.call false
  [] (.lit (.c (.fn 56 []))) [(T 73), (tI 0), (tI 2)]) (some (71, true)) .p), (oP 75 (.pick (T 71) (T 74) (.lit (.c (.pv (.bool false)))))), (oP 2 (.mv (T
  75)))])) (.tr (rl [2]) false .ret)))))))
theorem xf51_ok : cmpFunc Go.Proofs.Tryd.prog 51 ((.two (.tr (rl [1]) false .no) (.two (.tr (rl [1, 1]) false (.ops [{}, {}, { cls := some .p }, {}, {}, {}, { cls := some .p }])) (.two (.tr (rl [1, 1, 0]) false (.ops [{}, {}, { cls := some .p }])) (.two (.tr (rl [1, 1, 0, 0]) false (.ops [{}, {}, { cls := some .p }, {}, {}, {}, { cls := some .p }, {}, {}, {}, {}, { cls := some .p }])) (.two (.tr (rl [2]) false (.ops [{}, {}, { cls := some .p }, {}, {}, {}, { cls := some .p }, {}, {}, {}, {}, {}, {}, {}, {}, {}, {}, {}, {}, {}, { cls := some .p }])) (.tr (rl [2]) false .no))))))) = some xf51 := by kernel_rfl
def xf53 : XFunc :=
(.mk 9 [(.tmp 2)] (.seq (.tr (rl [0]) false (.region false [(oP 2 (.mv (.lit (.c (.pv (.bool false))))))])) (.seq (.tr (rl [2]) false (.region false [(oP 3 (.mv
  (T 0))), (oP 4 (.bin .geq (T 3) (.lit (.c (.pv (.int .i32 (-50000))))))), (oP 5 (.mv (T 4))), (.mk (some 6) (.mv (T 0)) (some (5, true)) .p), (.mk (some 7)
  (.bin .leq (T 6) (.lit (.c (.pv (.int .i32 50000))))) (some (5, true)) .p), (oP 8 (.pick (T 5) (T 7) (.lit (.c (.pv (.bool false)))))), (oP 2 (.mv (T 8)))]))
  (.tr (rl [2]) false .ret))))
theorem xf53_ok : cmpFunc Go.Proofs.Tryd.prog 53 ((.two (.tr (rl [0]) false .no) (.two (.tr (rl [2]) false .no) (.tr (rl [2]) false .no)))) = some xf53 := by kernel_rfl
def xf54 : XFunc :=
(.mk 84 [(.cell 12 true 7), (.tmp 13)] (.seq (.tr (rl [1, 0, 0, 0, 0, 0, 5]) false (.region false [(oW 6 (.box (T 0) 10)), (oW 12 (.alloc [(.pv (.int .i64 0)),
  (.pv (.int .i32 0)), (.pv (.int .i32 0)), (.pv (.sl .nil 0 [])), (.pv (.int .i64 0)), (.pv (.int .i64 0)), (.pv (.str []))])), (oP 13 (.mv (tI 0)))])) (.seq
  (.tr (rl [1, 0, 0, 0, 1, 5, 1, 0]) false (.region false [(oR 19 (.load true 10 (T 6))), (oP 20 (.mv (T 5))), (oP 21 (.call false [] (.lit (.c (.fn 98 [])))
  [(T 19), (T 20)])), (oP 18 (.mv (T 21))), (oP 22 (.extr 0 (T 18))), (oP 23 (.extr 1 (T 18))), (oP 14 (.mv (T 22))), (oP 15 (.mv (T 23)))])) (.seq (.tr (rl [1,
  0, 0, 0, 1, 5, 0, 0]) false (.block 0 (.seq (.tr (rl [1, 0, 0, 0, 1, 5, 1, 0, 8]) false (.region false [(oP 25 (.mv (T 15))), (oP 26 (.bin .neq (T 25) (tI
  0))), (oP 24 (.mv (T 26)))])) (.tr (rl [1, 0, 0, 0, 1, 5, 0, 0]) false (.cond (T 24) (.seq (.tr (rl [12, 0]) false (.region false [(oP 27 (.build [(.pv (.int
  .i64 0)), (.pv (.int .i32 0)), (.pv (.int .i32 0)), (.pv (.sl .nil 0 [])), (.pv (.int .i64 0)), (.pv (.int .i64 0)), (.pv (.str []))] [])), (oP 28 (.mv (T
  15))), (sW (.store 7 (T 12) (T 27))), (oP 13 (.mv (T 28)))])) (.tr (rl [12, 0]) false .ret)) (.seq (.tr (rl [1, 0, 0, 0, 1, 5, 1, 14]) false (.region false
  [(oP 30 (.mv (T 1))), (oP 31 (.faddr 8 (T 6))), (oR 32 (.load false 1 (T 31))), (oP 33 (.bin .sub (T 32) (tI 1))), (oP 34 (.call false [] (.lit (.c (.fn 56
  []))) [(T 30), (tI 0), (T 33)])), (oP 35 (.un .not (T 34))), (oP 29 (.mv (T 35)))])) (.tr (rl [1, 0, 0, 0, 1, 5, 0, 0]) false (.cond (T 29) (.seq (.tr (rl
  [12, 0]) false (.region false [(oP 36 (.build [(.pv (.int .i64 0)), (.pv (.int .i32 0)), (.pv (.int .i32 0)), (.pv (.sl .nil 0 [])), (.pv (.int .i64 0)), (.pv
  (.int .i64 0)), (.pv (.str []))] [])), (sW (.store 7 (T 12) (T 36))), (oP 13 (.mv (tI 1)))])) (.tr (rl [12, 0]) false .ret)) (.seq (.tr (rl [1, 0, 0, 0, 1, 5,
  1, 22]) false (.region false [(oP 38 (.mv (T 14))), (oP 39 (.bin .eql (T 38) (tI 0))), (oP 37 (.mv (T 39)))])) (.tr (rl [1, 0, 0, 0, 1, 5, 0, 0]) false (.cond
  (T 37) (.seq (.tr (rl [12, 0]) false (.region false [(oP 40 (.build [(.pv (.int .i64 0)), (.pv (.int .i32 0)), (.pv (.int .i32 0)), (.pv (.sl .nil 0 [])),
  (.pv (.int .i64 0)), (.pv (.int .i64 0)), (.pv (.str []))] [])), (sW (.store 7 (T 12) (T 40))), (oP 13 (.mv (tI 18)))])) (.tr (rl [12, 0]) false .ret))
  .skip))))))))))) (.seq (.tr (rl [6, 5, 1, 1]) false (.region true [(oP 41 (.mv (T 2))), (oP 42 (.mv (T 3))), (oP 43 (.mv (T 4))), (oP 44 (.faddr 1 (T 6))),
  (oR 45 (.load false 1 (T 44))), (oP 46 (.iaddrA 3 1 (.lit (.c (.cptr [(.str [115, 116, 97, 110, 100, 105, 110, 103]), (.str [115, 119, 101, 101, 112]), (.str
  [100, 101, 98, 105, 116])] 0))) (T 45))), (oR 47 (.load false 1 (T 46))), (oP 48 (.bin .add (T 47) (.lit (.c (.pv (.str [32])))))), (oP 49 (.faddr 0 (T 6))),
  (oR 50 (.load false 1 (T 49))), (oP 51 (.call false [] (.lit (.c (.fn 99 []))) [(T 50)])), (oP 52 (.bin .add (T 48) (T 51))), (oP 53 (.bin .add (T 52) (.lit
  (.c (.pv (.str [46])))))), (oP 54 (.mv (T 1))), (oP 55 (.call false [] (.lit (.c (.fn 99 []))) [(T 54)])), (oP 56 (.bin .add (T 53) (T 55))), (oP 57 (.build
  [(.pv (.int .i64 0)), (.pv (.int .i32 0)), (.pv (.int .i32 0)), (.pv (.sl .nil 0 [])), (.pv (.int .i64 0)), (.pv (.int .i64 0)), (.pv (.str []))] [(0, (1, (T
  41))), (1, (1, (T 42))), (2, (1, (T 43))), (6, (1, (T 56)))])), (oW 16 (.alloc [(.pv (.int .i64 0)), (.pv (.int .i32 0)), (.pv (.int .i32 0)), (.pv (.sl .nil
  0 [])), (.pv (.int .i64 0)), (.pv (.int .i64 0)), (.pv (.str []))])), (sW (.store 7 (T 16) (T 57)))])) (.seq (.tr (rl [12, 3]) false (.region false [(oP 58
  (.faddr 2 (T 6))), (oR 59 (.load false 1 (T 58))), (oP 60 (.faddr 4 (T 6))), (oP 61 (.faddr 0 (T 60))), (oR 62 (.load false 1 (T 61))), (oP 63 (.mv (T 14))),
  (oP 64 (.build [(.pv (.int .i64 0)), (.pv (.int .i64 0))] [(0, (1, (T 62))), (1, (1, (T 63)))])), (oP 65 (.build [(.pv (.int .i64 0)), (.pv (.int .i64 0)),
  (.pv (.int .i64 0))] [(0, (1, (T 59))), (1, (2, (T 64)))])), (oP 66 (.faddr 3 (T 6))), (oR 67 (.load false 1 (T 66))), (oP 68 (.faddr 4 (T 6))), (oP 69
  (.faddr 0 (T 68))), (oR 70 (.load false 1 (T 69))), (oP 71 (.mv (T 14))), (oP 72 (.un .neg (T 71))), (oP 73 (.build [(.pv (.int .i64 0)), (.pv (.int .i64 0))]
  [(0, (1, (T 70))), (1, (1, (T 72)))])), (oP 74 (.build [(.pv (.int .i64 0)), (.pv (.int .i64 0)), (.pv (.int .i64 0))] [(0, (1, (T 67))), (1, (2, (T 73)))])),
  (oP 75 (.buildSl [(.pv (.int .i64 0)), (.pv (.int .i64 0)), (.pv (.int .i64 0))] 2 3 [(0, (3, (T 65))), (3, (3, (T 74)))])), (oP 76 (.faddr 3 (T 16))), (sW
  (.store 1 (T 76) (T 75)))])) (.seq (.seq (.tr (rl [12, 3, 0]) false (.region false [(oR 77 (.load true 7 (T 16))), (oP 78 (.call false [] (.lit (.c (.fn 36
  []))) [(T 77)])), (oP 17 (.mv (T 78)))])) (.seq (.tr (rl [12, 3, 0, 62]) false (.region false [(oP 79 (.mv (T 17))), (oP 80 (.bin .neq (T 79) (tI 0)))])) (.tr
  (rl [12, 0, 2]) false (.cond (T 80) (.seq (.tr (rl [12, 0]) false (.region false [(oP 81 (.build [(.pv (.int .i64 0)), (.pv (.int .i32 0)), (.pv (.int .i32
  0)), (.pv (.sl .nil 0 [])), (.pv (.int .i64 0)), (.pv (.int .i64 0)), (.pv (.str []))] [])), (oP 82 (.mv (T 17))), (sW (.store 7 (T 12) (T 81))), (oP 13 (.mv
  (T 82)))])) (.tr (rl [12, 0]) false .ret)) .skip)))) (.seq (.tr (rl [12, 0]) false (.region false [(oR 83 (.load true 7 (T 16))), (sW (.store 7 (T 12) (T
  83))), (oP 13 (.mv (tI 0)))])) (.tr (rl [12, 0]) false .ret)))))))))
theorem xf54_ok : cmpFunc Go.Proofs.Tryd.prog 54 ((.two (.tr (rl [1, 0, 0, 0, 0, 0, 5]) false .no) (.two (.tr (rl [1, 0, 0, 0, 1, 5, 1, 0]) false (.ops [{}, {}, { cls := some .p }])) (.two (.tr (rl [1, 0, 0, 0, 1, 5, 0, 0]) false (.two (.tr (rl [1, 0, 0, 0, 1, 5, 1, 0, 8]) false .no) (.tr (rl [1, 0, 0, 0, 1, 5, 0, 0]) false (.two (.two (.tr (rl [12, 0]) false .no) (.tr (rl [12, 0]) false .no)) (.two (.tr (rl [1, 0, 0, 0, 1, 5, 1, 14]) false (.ops [{}, {}, {}, {}, { cls := some .p }])) (.tr (rl [1, 0, 0, 0, 1, 5, 0, 0]) false (.two (.two (.tr (rl [12, 0]) false .no) (.tr (rl [12, 0]) false .no)) (.two (.tr (rl [1, 0, 0, 0, 1, 5, 1, 22]) false .no) (.tr (rl [1, 0, 0, 0, 1, 5, 0, 0]) false (.two (.two (.tr (rl [12, 0]) false .no) (.tr (rl [12, 0]) false .no)) .no)))))))))) (.two (.tr (rl [6, 5, 1, 1]) false (.draw [0, 1, 2, 3, 4, 5, 6, 7, 8, 9, 10, 11, 12, 13, 14, 15, 16, 17, 18] [{}, {}, {}, {}, {}, {}, {}, {}, {}, {}, { cls := some .p }, {}, {}, {}, { cls := some .p }])) (.two (.tr (rl [12, 3]) false .no) (.two (.two (.tr (rl [12, 3, 0]) false (.ops [{}, { cls := some .p }])) (.two (.tr (rl [12, 3, 0, 62]) false .no) (.tr (rl [12, 0, 2]) false (.two (.two (.tr (rl [12, 0]) false .no) (.tr (rl [12, 0]) false .no)) .no)))) (.two (.tr (rl [12, 0]) false .no) (.tr (rl [12, 0]) false .no))))))))) = some xf54 := by kernel_rfl
def xf55 : XFunc :=
(.mk 59 [(.cell 8 true 7), (.tmp 9)] (.seq (.tr (rl [1, 0, 0, 0, 3]) false (.region false [(oW 4 (.box (T 0) 7)), (oW 8 (.alloc [(.pv (.int .i64 0)), (.pv (.int
  .i32 0)), (.pv (.int .i32 0)), (.pv (.sl .nil 0 [])), (.pv (.int .i64 0)), (.pv (.int .i64 0)), (.pv (.str []))])), (oP 9 (.mv (tI 0)))])) (.seq (.seq (.tr
  (rl [1, 0, 0, 0, 3, 1]) false (.region false [(oR 13 (.load true 7 (T 4))), (oP 14 (.call false [] (.lit (.c (.fn 36 []))) [(T 13)])), (oP 10 (.mv (T 14)))]))
  (.seq (.tr (rl [1, 0, 0, 0, 3, 1, 5]) false (.region false [(oP 15 (.mv (T 10))), (oP 16 (.bin .neq (T 15) (tI 0)))])) (.tr (rl [1, 0, 0, 0, 3, 0]) false
  (.cond (T 16) (.seq (.tr (rl [8, 0]) false (.region false [(oP 17 (.build [(.pv (.int .i64 0)), (.pv (.int .i32 0)), (.pv (.int .i32 0)), (.pv (.sl .nil 0
  [])), (.pv (.int .i64 0)), (.pv (.int .i64 0)), (.pv (.str []))] [])), (oP 18 (.mv (T 10))), (sW (.store 7 (T 8) (T 17))), (oP 9 (.mv (T 18)))])) (.tr (rl [8,
  0]) false .ret)) .skip)))) (.seq (.tr (rl [1, 0, 0, 0, 3, 0]) false (.block 0 (.seq (.tr (rl [1, 0, 0, 0, 3, 10]) false (.region false [(oP 20 (.faddr 6 (T
  4))), (oR 21 (.load false 1 (T 20))), (oP 22 (.call false [] (.lit (.c (.fn 100 []))) [(T 21), (.lit (.c (.pv (.str [100, 101, 98, 105, 116, 32]))))])), (oP
  23 (.un .not (T 22))), (oP 19 (.mv (T 23)))])) (.tr (rl [1, 0, 0, 0, 3, 0]) false (.cond (T 19) (.seq (.tr (rl [8, 0]) false (.region false [(oP 24 (.build
  [(.pv (.int .i64 0)), (.pv (.int .i32 0)), (.pv (.int .i32 0)), (.pv (.sl .nil 0 [])), (.pv (.int .i64 0)), (.pv (.int .i64 0)), (.pv (.str []))] [])), (sW
  (.store 7 (T 8) (T 24))), (oP 9 (.mv (tI 13)))])) (.tr (rl [8, 0]) false .ret)) (.seq (.tr (rl [1, 0, 0, 0, 3, 16]) false (.region false [(oP 26 (.mv (T 3))),
  (oP 27 (.call false [] (.lit (.c (.fn 19 []))) [(T 26)])), (oP 28 (.un .not (T 27))), (oP 25 (.mv (T 28)))])) (.tr (rl [1, 0, 0, 0, 3, 0]) false (.cond (T 25)
  (.seq (.tr (rl [8, 0]) false (.region false [(oP 29 (.build [(.pv (.int .i64 0)), (.pv (.int .i32 0)), (.pv (.int .i32 0)), (.pv (.sl .nil 0 [])), (.pv (.int
  .i64 0)), (.pv (.int .i64 0)), (.pv (.str []))] [])), (sW (.store 7 (T 8) (T 29))), (oP 9 (.mv (tI 1)))])) (.tr (rl [8, 0]) false .ret)) (.seq (.tr (rl [1, 0,
  0, 0, 3, 21]) false (.region false [(oP 31 (.mv (T 2))), (oP 32 (.call false [] (.lit (.c (.fn 53 []))) [(T 31)])), (oP 33 (.un .not (T 32))), (oP 30 (.mv (T
  33)))])) (.tr (rl [1, 0, 0, 0, 3, 0]) false (.cond (T 30) (.seq (.tr (rl [8, 0]) false (.region false [(oP 34 (.build [(.pv (.int .i64 0)), (.pv (.int .i32
  0)), (.pv (.int .i32 0)), (.pv (.sl .nil 0 [])), (.pv (.int .i64 0)), (.pv (.int .i64 0)), (.pv (.str []))] [])), (sW (.store 7 (T 8) (T 34))), (oP 9 (.mv (tI
  11)))])) (.tr (rl [8, 0]) false .ret)) .skip))))))))))) (.seq (.tr (rl [1, 0, 1, 3, 2, 0]) false (.region false [(oP 36 (.mv (T 3))), (oP 37 (.mv (T 2))), (oP
  38 (.faddr 2 (T 4))), (oR 39 (.load false 1 (T 38))), (oP 40 (.mv (T 2))), (oP 41 (.call false [] (.lit (.c (.fn 101 []))) [(T 36), (T 37), (T 39), (T 40)])),
  (oP 35 (.mv (T 41))), (oP 42 (.extr 0 (T 35))), (oP 43 (.extr 1 (T 35))), (oP 11 (.mv (T 42))), (oP 12 (.mv (T 43)))])) (.seq (.tr (rl [1, 0, 1, 3, 0]) false
  (.block 1 (.seq (.tr (rl [1, 0, 1, 3, 2, 0, 31]) false (.region false [(oP 45 (.mv (T 12))), (oP 46 (.bin .neq (T 45) (tI 0))), (oP 44 (.mv (T 46)))])) (.tr
  (rl [1, 0, 1, 3, 0]) false (.cond (T 44) (.seq (.tr (rl [8, 0]) false (.region false [(oP 47 (.build [(.pv (.int .i64 0)), (.pv (.int .i32 0)), (.pv (.int
  .i32 0)), (.pv (.sl .nil 0 [])), (.pv (.int .i64 0)), (.pv (.int .i64 0)), (.pv (.str []))] [])), (oP 48 (.mv (T 12))), (sW (.store 7 (T 8) (T 47))), (oP 9
  (.mv (T 48)))])) (.tr (rl [8, 0]) false .ret)) (.seq (.tr (rl [1, 0, 1, 3, 40]) false (.region false [(oP 50 (.mv (T 11))), (oP 51 (.bin .gtr (T 50) (tI
  40))), (oP 49 (.mv (T 51)))])) (.tr (rl [1, 0, 1, 3, 0]) false (.cond (T 49) (.seq (.tr (rl [8, 0]) false (.region false [(oP 52 (.build [(.pv (.int .i64 0)),
  (.pv (.int .i32 0)), (.pv (.int .i32 0)), (.pv (.sl .nil 0 [])), (.pv (.int .i64 0)), (.pv (.int .i64 0)), (.pv (.str []))] [])), (sW (.store 7 (T 8) (T
  52))), (oP 9 (.mv (tI 23)))])) (.tr (rl [8, 0]) false .ret)) .skip)))))))) (.seq (.tr (rl [8, 0]) false (.region false [(oR 53 (.load true 7 (T 4))), (oP 54
  (.mv (T 1))), (oP 55 (.mv (T 2))), (oP 56 (.call false [] (.lit (.c (.fn 13 []))) [(T 53), (T 54), (T 55)])), (oP 57 (.extr 0 (T 56))), (oP 58 (.extr 1 (T
  56))), (sW (.store 7 (T 8) (T 57))), (oP 9 (.mv (T 58)))])) (.tr (rl [8, 0]) false .ret))))))))
theorem xf55_ok : cmpFunc Go.Proofs.Tryd.prog 55 ((.two (.tr (rl [1, 0, 0, 0, 3]) false .no) (.two (.two (.tr (rl [1, 0, 0, 0, 3, 1]) false (.ops [{}, { cls := some .p }])) (.two (.tr (rl [1, 0, 0, 0, 3, 1, 5]) false .no) (.tr (rl [1, 0, 0, 0, 3, 0]) false (.two (.two (.tr (rl [8, 0]) false .no) (.tr (rl [8, 0]) false .no)) .no)))) (.two (.tr (rl [1, 0, 0, 0, 3, 0]) false (.two (.tr (rl [1, 0, 0, 0, 3, 10]) false (.ops [{}, {}, { cls := some .p }])) (.tr (rl [1, 0, 0, 0, 3, 0]) false (.two (.two (.tr (rl [8, 0]) false .no) (.tr (rl [8, 0]) false .no)) (.two (.tr (rl [1, 0, 0, 0, 3, 16]) false (.ops [{}, { cls := some .p }])) (.tr (rl [1, 0, 0, 0, 3, 0]) false (.two (.two (.tr (rl [8, 0]) false .no) (.tr (rl [8, 0]) false .no)) (.two (.tr (rl [1, 0, 0, 0, 3, 21]) false (.ops [{}, { cls := some .p }])) (.tr (rl [1, 0, 0, 0, 3, 0]) false (.two (.two (.tr (rl [8, 0]) false .no) (.tr (rl [8, 0]) false .no)) .no)))))))))) (.two (.tr (rl [1, 0, 1, 3, 2, 0]) false (.ops [{}, {}, {}, {}, {}, { cls := some .p }])) (.two (.tr (rl [1, 0, 1, 3, 0]) false (.two (.tr (rl [1, 0, 1, 3, 2, 0, 31]) false .no) (.tr (rl [1, 0, 1, 3, 0]) false (.two (.two (.tr (rl [8, 0]) false .no) (.tr (rl [8, 0]) false .no)) (.two (.tr (rl [1, 0, 1, 3, 40]) false .no) (.tr (rl [1, 0, 1, 3, 0]) false (.two (.two (.tr (rl [8, 0]) false .no) (.tr (rl [8, 0]) false .no)) .no))))))) (.two (.tr (rl [8, 0]) false (.ops [{}, {}, {}, { cls := some .p }])) (.tr (rl [8, 0]) false .no)))))))) = some xf55 := by kernel_rfl
def xf56 : XFunc :=
(.mk 15 [(.tmp 6)] (.seq (.tr (rl [0, 0, 0]) false (.region false [(oP 6 (.mv (.lit (.c (.pv (.bool false))))))])) (.seq (.tr (rl [6]) false (.region false [(oP
  7 (.mv (T 0))), (oP 8 (.mv (T 1))), (oP 9 (.bin .geq (T 7) (T 8))), (oP 10 (.mv (T 9))), (.mk (some 11) (.mv (T 0)) (some (10, true)) .p), (.mk (some 12) (.mv
  (T 2)) (some (10, true)) .p), (.mk (some 13) (.bin .leq (T 11) (T 12)) (some (10, true)) .p), (oP 14 (.pick (T 10) (T 13) (.lit (.c (.pv (.bool false)))))),
  (oP 6 (.mv (T 14)))])) (.tr (rl [6]) false .ret))))
theorem xf56_ok : cmpFunc Go.Proofs.Tryd.prog 56 ((.two (.tr (rl [0, 0, 0]) false .no) (.two (.tr (rl [6]) false .no) (.tr (rl [6]) false .no)))) = some xf56 := by kernel_rfl
def xf57 : XFunc :=
(.mk 83 [(.tmp 8), (.tmp 9)] (.seq (.tr (rl [0, 0, 0, 0]) false (.region false [(oP 8 (.mv (.lit (.c (.pv (.int .i32 0)))))), (oP 9 (.mv (tI 0)))])) (.seq (.seq
  (.tr (rl [0, 0, 0, 0, 23]) false (.region false [(oP 22 (.mv (T 3))), (oP 23 (.bin .lss (T 22) (tI 0))), (oP 24 (.mv (T 23))), (.mk (some 25) (.mv (T 3))
  (some (24, false)) .p), (.mk (some 26) (.bin .gtr (T 25) (tI 2)) (some (24, false)) .p), (oP 27 (.pick (T 24) (.lit (.c (.pv (.bool true)))) (T 26)))])) (.tr
  (rl [0, 0, 0, 0, 4, 0]) false (.cond (T 27) (.seq (.region false [(oP 8 (.mv (.lit (.c (.pv (.int .i32 0)))))), (oP 9 (.mv (tI 1)))]) (.tr (rl [8, 0]) false
  .ret)) .skip))) (.seq (.seq (.tr (rl [0, 0, 0, 0, 6]) false (.region false [(oP 28 (.mv (T 0))), (oP 29 (.mv (T 1))), (oP 30 (.mv (T 2))), (oP 31 (.buildSl
  [(.pv (.int .i32 0))] 2 1 [(0, (1, (T 29))), (1, (1, (T 30)))])), (oP 32 (.call false [] (.lit (.c (.fn 61 []))) [(T 28), (T 31)])), (oP 10 (.mv (T 32)))]))
  (.seq (.tr (rl [0, 0, 0, 0, 6, 23]) false (.region false [(oP 33 (.mv (T 10))), (oP 34 (.bin .neq (T 33) (tI 0)))])) (.tr (rl [0, 0, 0, 0, 4, 0]) false (.cond
  (T 34) (.seq (.tr (rl [8, 0]) false (.region false [(oP 35 (.mv (T 10))), (oP 8 (.mv (.lit (.c (.pv (.int .i32 0)))))), (oP 9 (.mv (T 35)))])) (.tr (rl [8,
  0]) false .ret)) .skip)))) (.seq (.tr (rl [2, 0, 7]) false (.region false [(oP 36 (.mv (T 0))), (oP 37 (.mv (T 1))), (oW 38 (.call false [] (.lit (.c (.fn 63
  []))) [(T 36), (T 37)])), (oP 11 (.mv (T 38)))])) (.seq (.seq (.tr (rl [2, 0, 7, 28]) false (.region false [(oP 39 (.mv (T 3))), (oP 40 (.bin .eql (T 39) (tI
  2)))])) (.tr (rl [2, 0, 4, 0, 1]) false (.cond (T 40) (.seq (.tr (rl [8, 0]) false (.region false [(oP 41 (.mv (T 11))), (oP 42 (.mv (T 2))), (oW 43 (.call
  false [] (.lit (.c (.fn 102 []))) [(T 41), (T 42), (.lit (.c (.pv (.int .i32 (-1)))))])), (oP 44 (.extr 0 (T 43))), (oP 45 (.extr 1 (T 43))), (oP 8 (.mv (T
  44))), (oP 9 (.mv (T 45)))])) (.tr (rl [8, 0]) false .ret)) .skip))) (.seq (.tr (rl [2, 0, 7, 0, 0]) false (.region false [(oP 47 (.mv (T 11))), (oP 48 (.mv
  (T 2))), (oW 49 (.call false [] (.lit (.c (.fn 102 []))) [(T 47), (T 48), (.lit (.c (.pv (.int .i32 1))))])), (oP 46 (.mv (T 49))), (oP 50 (.extr 0 (T 46))),
  (oP 51 (.extr 1 (T 46))), (oP 12 (.mv (T 50))), (oP 13 (.mv (T 51)))])) (.seq (.seq (.tr (rl [2, 8, 0, 0, 39]) false (.region false [(oP 52 (.mv (T 3))), (oP
  53 (.bin .eql (T 52) (tI 0)))])) (.tr (rl [2, 5, 0, 1, 0, 0]) false (.cond (T 53) (.seq (.tr (rl [8, 0]) false (.region false [(oP 54 (.mv (T 12))), (oP 55
  (.mv (T 13))), (oP 8 (.mv (T 54))), (oP 9 (.mv (T 55)))])) (.tr (rl [8, 0]) false .ret)) .skip))) (.seq (.tr (rl [2, 8, 0, 0, 1]) false (.region false [(oP 57
  (.mv (T 2))), (oP 58 (.call false [] (.lit (.c (.fn 58 []))) [(T 57)])), (oP 56 (.mv (T 58))), (oP 59 (.extr 0 (T 56))), (oP 60 (.extr 1 (T 56))), (oP 61
  (.extr 2 (T 56))), (oP 62 (.extr 3 (T 56))), (oP 14 (.mv (T 59))), (oP 15 (.mv (T 60))), (oP 16 (.mv (T 61))), (oP 17 (.mv (T 62)))])) (.seq (.tr (rl [2, 8,
  0, 0, 1, 3]) false (.region false [(oP 64 (.mv (T 12))), (oP 65 (.call false [] (.lit (.c (.fn 58 []))) [(T 64)])), (oP 63 (.mv (T 65))), (oP 66 (.extr 0 (T
  63))), (oP 67 (.extr 1 (T 63))), (oP 68 (.extr 2 (T 63))), (oP 69 (.extr 3 (T 63))), (oP 18 (.mv (T 66))), (oP 19 (.mv (T 67))), (oP 20 (.mv (T 68))), (oP 21
  (.mv (T 69)))])) (.seq (.seq (.tr (rl [2, 8, 0, 63]) false (.region false [(oP 70 (.mv (T 13))), (oP 71 (.bin .neq (T 70) (tI 0))), (oP 72 (.mv (T 71))), (.mk
  (some 73) (.mv (T 15)) (some (72, false)) .p), (.mk (some 74) (.mv (T 19)) (some (72, false)) .p), (.mk (some 75) (.bin .neq (T 73) (T 74)) (some (72, false))
  .p), (oP 76 (.pick (T 72) (.lit (.c (.pv (.bool true)))) (T 75)))])) (.tr (rl [8, 0, 2]) false (.cond (T 76) (.seq (.tr (rl [8, 0]) false (.region false [(oP
  77 (.mv (T 11))), (oP 78 (.mv (T 2))), (oW 79 (.call false [] (.lit (.c (.fn 102 []))) [(T 77), (T 78), (.lit (.c (.pv (.int .i32 (-1)))))])), (oP 80 (.extr 0
  (T 79))), (oP 81 (.extr 1 (T 79))), (oP 8 (.mv (T 80))), (oP 9 (.mv (T 81)))])) (.tr (rl [8, 0]) false .ret)) .skip))) (.seq (.tr (rl [8, 0]) false (.region
  false [(oP 82 (.mv (T 12))), (oP 8 (.mv (T 82))), (oP 9 (.mv (tI 0)))])) (.tr (rl [8, 0]) false .ret)))))))))))))
theorem xf57_ok : cmpFunc Go.Proofs.Tryd.prog 57 ((.two (.tr (rl [0, 0, 0, 0]) false .no) (.two (.two (.tr (rl [0, 0, 0, 0, 23]) false .no) (.tr (rl [0, 0, 0, 0, 4, 0]) false (.two (.two .no (.tr (rl [8, 0]) false .no)) .no))) (.two (.two (.tr (rl [0, 0, 0, 0, 6]) false (.ops [{}, {}, {}, {}, { cls := some .p }])) (.two (.tr (rl [0, 0, 0, 0, 6, 23]) false .no) (.tr (rl [0, 0, 0, 0, 4, 0]) false (.two (.two (.tr (rl [8, 0]) false .no) (.tr (rl [8, 0]) false .no)) .no)))) (.two (.tr (rl [2, 0, 7]) false .no) (.two (.two (.tr (rl [2, 0, 7, 28]) false .no) (.tr (rl [2, 0, 4, 0, 1]) false (.two (.two (.tr (rl [8, 0]) false .no) (.tr (rl [8, 0]) false .no)) .no))) (.two (.tr (rl [2, 0, 7, 0, 0]) false .no) (.two (.two (.tr (rl [2, 8, 0, 0, 39]) false .no) (.tr (rl [2, 5, 0, 1, 0, 0]) false (.two (.two (.tr (rl [8, 0]) false .no) (.tr (rl [8, 0]) false .no)) .no))) (.two (.tr (rl [2, 8, 0, 0, 1]) false (.ops [{}, { cls := some .p }])) (.two (.tr (rl [2, 8, 0, 0, 1, 3]) false (.ops [{}, { cls := some .p }])) (.two (.two (.tr (rl [2, 8, 0, 63]) false .no) (.tr (rl [8, 0, 2]) false (.two (.two (.tr (rl [8, 0]) false .no) (.tr (rl [8, 0]) false .no)) .no))) (.two (.tr (rl [8, 0]) false .no) (.tr (rl [8, 0]) false .no))))))))))))) = some xf57 := by kernel_rfl
def xf58_l0 : XCode :=
(.seq (.seq (.tr (rl [6, 0, 0, 0, 36]) false (.region false [(oP 42 (.mv (T 9))), (oP 43 (.iaddrA 12 1 (.lit (.c (.cptr [(.int .i64 0), (.int .i64 31), (.int
  .i64 61), (.int .i64 92), (.int .i64 122), (.int .i64 153), (.int .i64 184), (.int .i64 214), (.int .i64 245), (.int .i64 275), (.int .i64 306), (.int .i64
  337)] 0))) (T 42))), (oR 44 (.load false 1 (T 43))), (oP 45 (.mv (T 6))), (oP 46 (.bin .gtr (T 44) (T 45)))])) (.tr (rl [6, 0, 0, 0]) false (.cond (T 46)
  .skip (.tr (rl [6, 0, 0, 0]) false (.exit 0))))) (.tr (rl [6, 0, 0, 0]) false (.block 1 (.tr (rl [6, 0, 0, 0]) false (.region false [(oP 47 (.mv (T 9))), (oP
  48 (.bin .sub (T 47) (tI 1))), (oP 9 (.mv (T 48)))])))))
def xf58 : XFunc :=
(.mk 70 [(.tmp 2), (.tmp 3), (.tmp 4), (.tmp 5)] (.seq (.tr (rl [0]) false (.region false [(oP 2 (.mv (tI 0))), (oP 3 (.mv (tI 0))), (oP 4 (.mv (tI 0))), (oP 5
  (.mv (tI 0)))])) (.seq (.seq (.tr (rl [0, 12]) false (.region false [(oP 11 (.mv (T 0))), (oP 12 (.call false [] (.lit (.c (.fn 53 []))) [(T 11)])), (oP 13
  (.un .not (T 12)))])) (.tr (rl [0, 1, 0, 0, 0]) false (.cond (T 13) (.seq (.region false [(oP 2 (.mv (tI 0))), (oP 3 (.mv (tI 0))), (oP 4 (.mv (tI 0))), (oP 5
  (.mv (tI 11)))]) (.tr (rl [2, 0, 0, 0]) false .ret)) .skip))) (.seq (.tr (rl [6]) false (.region false [(oP 14 (.mv (T 0))), (oP 15 (.convI .i64 (T 14))), (oP
  16 (.bin .add (T 15) (tI 730425))), (oP 6 (.mv (T 16)))])) (.seq (.tr (rl [6, 0]) false (.region false [(oP 17 (.mv (T 6))), (oP 18 (.bin .quo (T 17) (tI
  146097))), (oP 19 (.mv (T 6))), (oP 20 (.bin .rem (T 19) (tI 146097))), (oP 7 (.mv (T 18))), (oP 6 (.mv (T 20)))])) (.seq (.tr (rl [6, 0, 0]) false (.region
  false [(oP 21 (.mv (T 6))), (oP 22 (.mv (T 6))), (oP 23 (.bin .quo (T 22) (tI 1460))), (oP 24 (.bin .sub (T 21) (T 23))), (oP 25 (.mv (T 6))), (oP 26 (.bin
  .quo (T 25) (tI 36524))), (oP 27 (.bin .add (T 24) (T 26))), (oP 28 (.mv (T 6))), (oP 29 (.bin .quo (T 28) (tI 146096))), (oP 30 (.bin .sub (T 27) (T 29))),
  (oP 31 (.bin .quo (T 30) (tI 365))), (oP 8 (.mv (T 31)))])) (.seq (.tr (rl [6, 0, 0]) false (.region false [(oP 32 (.mv (T 6))), (oP 33 (.mv (T 8))), (oP 34
  (.bin .mul (T 33) (tI 365))), (oP 35 (.mv (T 8))), (oP 36 (.bin .quo (T 35) (tI 4))), (oP 37 (.bin .add (T 34) (T 36))), (oP 38 (.mv (T 8))), (oP 39 (.bin
  .quo (T 38) (tI 100))), (oP 40 (.bin .sub (T 37) (T 39))), (oP 41 (.bin .sub (T 32) (T 40))), (oP 6 (.mv (T 41)))])) (.seq (.region false [(oP 9 (.mv (tI
  11)))]) (.seq (.tr (rl [6, 0, 0, 0]) false (.block 0 (.loop (rl [6, 0, 0, 0]) xf58_l0))) (.seq (.tr (rl [8, 0, 0]) false (.region true [(oP 49 (.mv (T 8))),
  (oP 50 (.mv (T 7))), (oP 51 (.bin .mul (tI 400) (T 50))), (oP 52 (.bin .add (T 49) (T 51))), (oP 53 (.mv (T 6))), (oP 54 (.mv (T 9))), (oP 55 (.iaddrA 12 1
  (.lit (.c (.cptr [(.int .i64 0), (.int .i64 31), (.int .i64 61), (.int .i64 92), (.int .i64 122), (.int .i64 153), (.int .i64 184), (.int .i64 214), (.int
  .i64 245), (.int .i64 275), (.int .i64 306), (.int .i64 337)] 0))) (T 54))), (oR 56 (.load false 1 (T 55))), (oP 57 (.bin .sub (T 53) (T 56))), (oP 58 (.bin
  .add (T 57) (tI 1))), (oP 8 (.mv (T 52))), (oP 10 (.mv (T 58)))])) (.seq (.seq (.tr (rl [8, 0, 0]) false (.region false [(oP 59 (.mv (T 9))), (oP 60 (.bin
  .add (T 59) (tI 3))), (oP 9 (.mv (T 60)))])) (.seq (.tr (rl [8, 0, 0, 51]) false (.region false [(oP 61 (.mv (T 9))), (oP 62 (.bin .gtr (T 61) (tI 12)))]))
  (.tr (rl [8, 0, 0]) false (.cond (T 62) (.tr (rl [8, 0, 0]) false (.region false [(oP 63 (.mv (T 8))), (oP 64 (.bin .add (T 63) (tI 1))), (oP 65 (.mv (T 9))),
  (oP 66 (.bin .sub (T 65) (tI 12))), (oP 8 (.mv (T 64))), (oP 9 (.mv (T 66)))])) .skip)))) (.seq (.tr (rl [2, 0, 0, 0]) false (.region false [(oP 67 (.mv (T
  8))), (oP 68 (.mv (T 9))), (oP 69 (.mv (T 10))), (oP 2 (.mv (T 67))), (oP 3 (.mv (T 68))), (oP 4 (.mv (T 69))), (oP 5 (.mv (tI 0)))])) (.tr (rl [2, 0, 0, 0])
  false .ret)))))))))))))
theorem xf58_ok : cmpFunc Go.Proofs.Tryd.prog 58 ((.two (.tr (rl [0]) false .no) (.two (.two (.tr (rl [0, 12]) false (.ops [{}, { cls := some .p }])) (.tr (rl [0, 1, 0, 0, 0]) false (.two (.two .no (.tr (rl [2, 0, 0, 0]) false .no)) .no))) (.two (.tr (rl [6]) false .no) (.two (.tr (rl [6, 0]) false .no) (.two (.tr (rl [6, 0, 0]) false .no) (.two (.tr (rl [6, 0, 0]) false .no) (.two .no (.two (.tr (rl [6, 0, 0, 0]) false (.loop (rl [6, 0, 0, 0]) (.two (.two (.tr (rl [6, 0, 0, 0, 36]) false .no) (.tr (rl [6, 0, 0, 0]) false (.two .no (.tr (rl [6, 0, 0, 0]) false .no)))) (.tr (rl [6, 0, 0, 0]) false (.tr (rl [6, 0, 0, 0]) false .no))))) (.two (.tr (rl [8, 0, 0]) false (.draw [0, 1, 2, 3, 4, 5, 6, 7, 8, 9, 10, 11] [])) (.two (.two (.tr (rl [8, 0, 0]) false .no) (.two (.tr (rl [8, 0, 0, 51]) false .no) (.tr (rl [8, 0, 0]) false (.two (.tr (rl [8, 0, 0]) false .no) .no)))) (.two (.tr (rl [2, 0, 0, 0]) false .no) (.tr (rl [2, 0, 0, 0]) false .no))))))))))))) = some xf58 := by kernel_rfl
def xf59 : XFunc :=
(.mk 47 [(.tmp 6), (.tmp 7)] (.seq (.tr (rl [0, 0, 0]) false (.region false [(oP 6 (.mv (.lit (.c (.pv (.int .i32 0)))))), (oP 7 (.mv (tI 0)))])) (.seq (.seq
  (.tr (rl [0, 0, 0, 30]) false (.region false [(oP 9 (.mv (T 0))), (oP 10 (.bin .lss (T 9) (tI 1))), (oP 11 (.mv (T 10))), (.mk (some 12) (.mv (T 0)) (some
  (11, false)) .p), (.mk (some 13) (.bin .geq (T 12) (tI 10000)) (some (11, false)) .p), (oP 14 (.pick (T 11) (.lit (.c (.pv (.bool true)))) (T 13))), (oP 15
  (.mv (T 14))), (.mk (some 16) (.mv (T 1)) (some (15, false)) .p), (.mk (some 17) (.bin .lss (T 16) (tI 1)) (some (15, false)) .p), (oP 18 (.pick (T 15) (.lit
  (.c (.pv (.bool true)))) (T 17))), (oP 19 (.mv (T 18))), (.mk (some 20) (.mv (T 1)) (some (19, false)) .p), (.mk (some 21) (.bin .gtr (T 20) (tI 12)) (some
  (19, false)) .p), (oP 22 (.pick (T 19) (.lit (.c (.pv (.bool true)))) (T 21))), (oP 23 (.mv (T 22))), (.mk (some 24) (.mv (T 2)) (some (23, false)) .p), (.mk
  (some 25) (.bin .lss (T 24) (tI 1)) (some (23, false)) .p), (oP 26 (.pick (T 23) (.lit (.c (.pv (.bool true)))) (T 25))), (oP 27 (.mv (T 26))), (.mk (some 28)
  (.mv (T 2)) (some (27, false)) .p), (.mk (some 29) (.mv (T 0)) (some (27, false)) .p), (.mk (some 30) (.mv (T 1)) (some (27, false)) .p), (.mk (some 31)
  (.call false [] (.lit (.c (.fn 60 []))) [(T 29), (T 30)]) (some (27, false)) .p), (.mk (some 32) (.bin .gtr (T 28) (T 31)) (some (27, false)) .p), (oP 33
  (.pick (T 27) (.lit (.c (.pv (.bool true)))) (T 32)))])) (.tr (rl [0, 0, 0, 3, 0]) false (.cond (T 33) (.seq (.region false [(oP 6 (.mv (.lit (.c (.pv (.int
  .i32 0)))))), (oP 7 (.mv (tI 11)))]) (.tr (rl [6, 0]) false .ret)) .skip))) (.seq (.tr (rl [8]) false (.region false [(oP 34 (.mv (T 0))), (oP 35 (.mv (T
  1))), (oP 36 (.mv (T 2))), (oP 37 (.call false [] (.lit (.c (.fn 103 []))) [(T 34), (T 35), (T 36)])), (oP 38 (.bin .sub (T 37) (tI 730425))), (oP 8 (.mv (T
  38)))])) (.seq (.seq (.tr (rl [8, 35]) false (.region false [(oP 39 (.mv (T 8))), (oP 40 (.bin .lss (T 39) (.lit (.c (.pv (.int .i64 (-50000))))))), (oP 41
  (.mv (T 40))), (.mk (some 42) (.mv (T 8)) (some (41, false)) .p), (.mk (some 43) (.bin .gtr (T 42) (tI 50000)) (some (41, false)) .p), (oP 44 (.pick (T 41)
  (.lit (.c (.pv (.bool true)))) (T 43)))])) (.tr (rl [6, 0, 0]) false (.cond (T 44) (.seq (.region false [(oP 6 (.mv (.lit (.c (.pv (.int .i32 0)))))), (oP 7
  (.mv (tI 11)))]) (.tr (rl [6, 0]) false .ret)) .skip))) (.seq (.tr (rl [6, 0]) false (.region false [(oP 45 (.mv (T 8))), (oP 46 (.convI .i32 (T 45))), (oP 6
  (.mv (T 46))), (oP 7 (.mv (tI 0)))])) (.tr (rl [6, 0]) false .ret)))))))
theorem xf59_ok : cmpFunc Go.Proofs.Tryd.prog 59 ((.two (.tr (rl [0, 0, 0]) false .no) (.two (.two (.tr (rl [0, 0, 0, 30]) false (.ops [{}, {}, {}, {}, {}, {}, {}, {}, {}, {}, {}, {}, {}, {}, {}, {}, {}, {}, {}, {}, {}, {}, { cls := some .p }])) (.tr (rl [0, 0, 0, 3, 0]) false (.two (.two .no (.tr (rl [6, 0]) false .no)) .no))) (.two (.tr (rl [8]) false (.ops [{}, {}, {}, { cls := some .p }])) (.two (.two (.tr (rl [8, 35]) false .no) (.tr (rl [6, 0, 0]) false (.two (.two .no (.tr (rl [6, 0]) false .no)) .no))) (.two (.tr (rl [6, 0]) false .no) (.tr (rl [6, 0]) false .no))))))) = some xf59 := by kernel_rfl
def xf60 : XFunc :=
(.mk 15 [(.tmp 4)] (.seq (.tr (rl [0, 0]) false (.region false [(oP 4 (.mv (tI 0)))])) (.seq (.seq (.tr (rl [0, 4]) false (.region false [(oP 5 (.mv (T 1)))]))
  (.tr (rl [4]) false (.block 0 (.seq (.tr (rl [0, 4, 0]) false (.region false [(oP 7 (.bin .eql (T 5) (tI 2))), (oP 6 (.mv (T 7)))])) (.tr (rl [4]) false
  (.cond (T 6) (.seq (.seq (.tr (rl [9]) false (.region false [(oP 8 (.mv (T 0))), (oP 9 (.call false [] (.lit (.c (.fn 104 []))) [(T 8)]))])) (.tr (rl [4])
  false (.cond (T 9) (.seq (.region false [(oP 4 (.mv (tI 29)))]) (.tr (rl [4]) false .ret)) .skip))) (.seq (.region false [(oP 4 (.mv (tI 28)))]) (.tr (rl [4])
  false .ret))) (.seq (.seq (.tr (rl [5, 4]) false (.region false [(oP 11 (.bin .eql (T 5) (tI 4))), (oP 10 (.mv (T 11)))])) (.tr (rl [10]) false (.cond (T 10)
  .skip (.seq (.tr (rl [5, 4]) false (.region false [(oP 12 (.bin .eql (T 5) (tI 6))), (oP 10 (.mv (T 12)))])) (.tr (rl [10]) false (.cond (T 10) .skip (.seq
  (.tr (rl [5, 4]) false (.region false [(oP 13 (.bin .eql (T 5) (tI 9))), (oP 10 (.mv (T 13)))])) (.tr (rl [10]) false (.cond (T 10) .skip (.tr (rl [10]) false
  (.region false [(oP 14 (.bin .eql (T 5) (tI 11))), (oP 10 (.mv (T 14)))]))))))))))) (.tr (rl [4]) false (.cond (T 10) (.seq (.region false [(oP 4 (.mv (tI
  30)))]) (.tr (rl [4]) false .ret)) .skip))))))))) (.seq (.region false [(oP 4 (.mv (tI 31)))]) (.tr (rl [4]) false .ret)))))
theorem xf60_ok : cmpFunc Go.Proofs.Tryd.prog 60 ((.two (.tr (rl [0, 0]) false .no) (.two (.two (.tr (rl [0, 4]) false .no) (.tr (rl [4]) false (.two (.tr (rl [0, 4, 0]) false .no) (.tr (rl [4]) false (.two (.two (.two (.tr (rl [9]) false (.ops [{}, { cls := some .p }])) (.tr (rl [4]) false (.two (.two .no (.tr (rl [4]) false .no)) .no))) (.two .no (.tr (rl [4]) false .no))) (.two (.two (.tr (rl [5, 4]) false .no) (.tr (rl [10]) false (.two .no (.two (.tr (rl [5, 4]) false .no) (.tr (rl [10]) false (.two .no (.two (.tr (rl [5, 4]) false .no) (.tr (rl [10]) false (.two .no (.tr (rl [10]) false .no)))))))))) (.tr (rl [4]) false (.two (.two .no (.tr (rl [4]) false .no)) .no)))))))) (.two .no (.tr (rl [4]) false .no))))) = some xf60 := by kernel_rfl
def xf61 : XFunc :=
(.mk 12 [(.tmp 4)] (.seq (.tr (rl [0, 0]) false (.region false [(oP 4 (.mv (tI 0)))])) (.seq (.tr (rl [4]) false (.block 0 (.seq (.tr (rl [1, 3]) false (.region
  false [(oP 6 (.mv (T 0))), (oP 7 (.call false [] (.lit (.c (.fn 19 []))) [(T 6)])), (oP 8 (.un .not (T 7))), (oP 5 (.mv (T 8)))])) (.tr (rl [4]) false (.cond
  (T 5) (.seq (.region false [(oP 4 (.mv (tI 1)))]) (.tr (rl [4]) false .ret)) (.seq (.tr (rl [9]) false (.region false [(oP 10 (.mv (T 1))), (oW 11 (.call
  false [] (.lit (.c (.fn 94 []))) [(T 10), (.lit (.c (.fn 105 [])))])), (oP 9 (.mv (T 11)))])) (.tr (rl [4]) false (.cond (T 9) (.seq (.region false [(oP 4
  (.mv (tI 11)))]) (.tr (rl [4]) false .ret)) .skip)))))))) (.seq (.region false [(oP 4 (.mv (tI 0)))]) (.tr (rl [4]) false .ret)))))
theorem xf61_ok : cmpFunc Go.Proofs.Tryd.prog 61 ((.two (.tr (rl [0, 0]) false .no) (.two (.tr (rl [4]) false (.two (.tr (rl [1, 3]) false (.ops [{}, { cls := some .p }])) (.tr (rl [4]) false (.two (.two .no (.tr (rl [4]) false .no)) (.two (.tr (rl [9]) false .no) (.tr (rl [4]) false (.two (.two .no (.tr (rl [4]) false .no)) .no))))))) (.two .no (.tr (rl [4]) false .no))))) = some xf61 := by kernel_rfl
def xf62 : XFunc :=
(.mk 15 [(.tmp 4)] (.seq (.tr (rl [0, 0]) false (.region false [(oP 4 (.mv (tI 0)))])) (.seq (.seq (.tr (rl [14]) false (.region false [(oP 5 (.mv (T 1))), (oP
  6 (.mv (T 0))), (oP 7 (.bin .sub (T 5) (T 6))), (oP 8 (.bin .gtr (T 7) (.lit (.c (.pv (.int .i32 4000)))))), (oP 9 (.mv (T 8))), (.mk (some 10) (.mv (T 0))
  (some (9, false)) .p), (.mk (some 11) (.mv (T 1)) (some (9, false)) .p), (.mk (some 12) (.bin .sub (T 10) (T 11)) (some (9, false)) .p), (.mk (some 13) (.bin
  .gtr (T 12) (.lit (.c (.pv (.int .i32 4000))))) (some (9, false)) .p), (oP 14 (.pick (T 9) (.lit (.c (.pv (.bool true)))) (T 13)))])) (.tr (rl [4]) false
  (.cond (T 14) (.seq (.region false [(oP 4 (.mv (tI 9)))]) (.tr (rl [4]) false .ret)) .skip))) (.seq (.region false [(oP 4 (.mv (tI 0)))]) (.tr (rl [4]) false
  .ret)))))
theorem xf62_ok : cmpFunc Go.Proofs.Tryd.prog 62 ((.two (.tr (rl [0, 0]) false .no) (.two (.two (.tr (rl [14]) false .no) (.tr (rl [4]) false (.two (.two .no (.tr (rl [4]) false .no)) .no))) (.two .no (.tr (rl [4]) false .no))))) = some xf62 := by kernel_rfl
def xf63_l0 : XCode :=
(.seq (.region false [(oP 14 (.bin .lss (T 13) (T 12)))]) (.seq (.tr (rl [1, 3, 5, 0, 0]) false (.cond (T 14) .skip (.tr (rl [5]) false (.exit 0)))) (.seq (.tr
  (rl [1, 3, 5, 0, 0]) false (.block 1 (.seq (.tr (rl [1, 3, 1, 3, 0, 0]) false (.region false [(oP 15 (.iaddrS 3 (T 11) (T 13))), (oR 16 (.load true 3 (T
  15))), (oW 7 (.alloc [(.pv (.int .i32 0)), (.pv (.int .i32 0)), (.pv (.bool false))])), (sW (.store 3 (T 7) (T 16)))])) (.seq (.tr (rl [1, 3, 1, 0, 0, 1, 0,
  0]) false (.region false [(oP 18 (.mv (T 5))), (oP 19 (.faddr 1 (T 7))), (oR 20 (.load false 1 (T 19))), (oR 21 (.mlook (.agg [(.int .i32 0), (.int .i32 0),
  (.bool false)]) true (T 18) (T 20) 0)), (oP 17 (.mv (T 21))), (oP 22 (.extr 0 (T 17))), (oP 23 (.extr 1 (T 17))), (oW 8 (.alloc [(.pv (.int .i32 0)), (.pv
  (.int .i32 0)), (.pv (.bool false))])), (sW (.store 3 (T 8) (T 22))), (oP 9 (.mv (T 23)))])) (.seq (.tr (rl [1, 3, 1, 3, 0, 0, 24]) false (.region false [(oP
  24 (.faddr 0 (T 7))), (oR 25 (.load false 1 (T 24))), (oP 26 (.mv (T 1))), (oP 27 (.bin .leq (T 25) (T 26))), (oP 28 (.mv (T 27))), (.mk (some 29) (.mv (T 9))
  (some (28, true)) .p), (.mk (some 30) (.un .not (T 29)) (some (28, true)) .p), (.mk (some 31) (.mv (T 30)) (some (28, true)) .p), (.mk (some 32) (.faddr 0 (T
  8)) (some (31, false)) .p), (.mk (some 33) (.load false 1 (T 32)) (some (31, false)) .r), (.mk (some 34) (.faddr 0 (T 7)) (some (31, false)) .p), (.mk (some
  35) (.load false 1 (T 34)) (some (31, false)) .r), (.mk (some 36) (.bin .lss (T 33) (T 35)) (some (31, false)) .p), (.mk (some 37) (.pick (T 31) (.lit (.c
  (.pv (.bool true)))) (T 36)) (some (28, true)) .p), (oP 38 (.pick (T 28) (T 37) (.lit (.c (.pv (.bool false))))))])) (.tr (rl [1, 3, 5, 0, 0]) false (.cond (T
  38) (.tr (rl [1, 3, 5, 0, 0]) false (.region false [(oP 39 (.mv (T 5))), (oP 40 (.faddr 1 (T 7))), (oR 41 (.load false 1 (T 40))), (oR 42 (.load true 3 (T
  7))), (sW (.mupd (T 39) (T 41) (T 42) 0))])) .skip))))))) (.tr (rl [1, 3, 5, 0, 0]) false (.region false [(oP 43 (.bin .add (T 13) (tI 1))), (oP 13 (.mv (T
  43)))])))))
def xf63 : XFunc :=
(.mk 45 [(.tmp 4)] (.seq (.tr (rl [0, 0]) false (.region false [(oP 4 (.mv (.lit (.c .nilm))))])) (.seq (.tr (rl [0, 0, 3]) false (.region false [(.mk (some 10)
  .mkmap none .w), (oP 5 (.mv (T 10)))])) (.seq (.seq (.tr (rl [1, 3, 5, 0, 0]) false (.region false [(oP 11 (.mv (T 0))), (oP 12 (.len (T 11))), (oP 13 (.mv
  (tI 0)))])) (.tr (rl [5]) false (.block 0 (.loop (rl [1, 3, 5, 0, 0]) xf63_l0)))) (.seq (.tr (rl [4]) false (.region false [(oP 44 (.mv (T 5))), (oP 4 (.mv (T
  44)))])) (.tr (rl [4]) false .ret))))))
theorem xf63_ok : cmpFunc Go.Proofs.Tryd.prog 63 ((.two (.tr (rl [0, 0]) false .no) (.two (.tr (rl [0, 0, 3]) false .no) (.two (.two (.tr (rl [1, 3, 5, 0, 0]) false .no) (.tr (rl [5]) false (.loop (rl [1, 3, 5, 0, 0]) (.two .no (.two (.tr (rl [1, 3, 5, 0, 0]) false (.two .no (.tr (rl [5]) false .no))) (.two (.tr (rl [1, 3, 5, 0, 0]) false (.two (.tr (rl [1, 3, 1, 3, 0, 0]) false .no) (.two (.tr (rl [1, 3, 1, 0, 0, 1, 0, 0]) false .no) (.two (.tr (rl [1, 3, 1, 3, 0, 0, 24]) false .no) (.tr (rl [1, 3, 5, 0, 0]) false (.two (.tr (rl [1, 3, 5, 0, 0]) false .no) .no)))))) (.tr (rl [1, 3, 5, 0, 0]) false .no))))))) (.two (.tr (rl [4]) false .no) (.tr (rl [4]) false .no)))))) = some xf63 := by kernel_rfl
def xf64 : XFunc :=
(.mk 25 [(.tmp 4)] (.seq (.tr (rl [0, 0]) false (.region false [(oP 4 (.mv (.lit (.c (.pv (.bool false))))))])) (.seq (.seq (.tr (rl [1, 3, 0]) false (.region
  false [(oP 10 (.mv (T 0))), (oP 11 (.mv (T 1))), (oR 12 (.mlook (.agg [(.int .i32 0), (.int .i32 0), (.bool false)]) true (T 10) (T 11) 0)), (oP 9 (.mv (T
  12))), (oP 13 (.extr 0 (T 9))), (oP 14 (.extr 1 (T 9))), (oW 5 (.alloc [(.pv (.int .i32 0)), (.pv (.int .i32 0)), (.pv (.bool false))])), (sW (.store 3 (T 5)
  (T 13))), (oP 6 (.mv (T 14)))])) (.seq (.tr (rl [1, 3, 9]) false (.region false [(oP 15 (.mv (T 6)))])) (.tr (rl [1, 2]) false (.cond (T 15) (.seq (.tr (rl
  [4]) false (.region false [(oP 16 (.faddr 2 (T 5))), (oR 17 (.load false 1 (T 16))), (oP 4 (.mv (T 17)))])) (.tr (rl [4]) false .ret)) .skip)))) (.seq (.tr
  (rl [7]) false (.region false [(oP 19 (.mv (T 1))), (oP 20 (.call false [] (.lit (.c (.fn 106 []))) [(T 19)])), (oP 18 (.mv (T 20))), (oP 21 (.extr 0 (T
  18))), (oP 22 (.extr 1 (T 18))), (oP 7 (.mv (T 21))), (oP 8 (.mv (T 22)))])) (.seq (.tr (rl [4]) false (.region false [(oP 23 (.mv (T 7))), (oP 24 (.bin .lss
  (T 23) (tI 5))), (oP 4 (.mv (T 24)))])) (.tr (rl [4]) false .ret))))))
theorem xf64_ok : cmpFunc Go.Proofs.Tryd.prog 64 ((.two (.tr (rl [0, 0]) false .no) (.two (.two (.tr (rl [1, 3, 0]) false .no) (.two (.tr (rl [1, 3, 9]) false .no) (.tr (rl [1, 2]) false (.two (.two (.tr (rl [4]) false .no) (.tr (rl [4]) false .no)) .no)))) (.two (.tr (rl [7]) false (.ops [{}, { cls := some .p }])) (.two (.tr (rl [4]) false .no) (.tr (rl [4]) false .no)))))) = some xf64 := by kernel_rfl
def xf68_l0 : XCode :=
(.seq (.seq (.tr (rl [0, 3, 6]) false (.region false [(oP 8 (.mv (T 4))), (oP 9 (.mv (T 0))), (oP 10 (.len (T 9))), (oP 11 (.bin .lss (T 8) (T 10)))])) (.tr (rl
  [0, 3]) false (.cond (T 11) .skip (.tr (rl [0]) false (.exit 0))))) (.seq (.tr (rl [0, 1, 1]) false (.block 1 (.seq (.tr (rl [0, 3, 20]) false (.region true
  [(oP 14 (.mv (T 0))), (oP 15 (.mv (T 4))), (oP 16 (.bin .sub (T 15) (tI 1))), (oP 17 (.iaddrS 9 (T 14) (T 16))), (oP 18 (.faddr 0 (T 17))), (oR 19 (.load
  false 1 (T 18))), (oP 20 (.mv (T 0))), (oP 21 (.mv (T 4))), (oP 22 (.iaddrS 9 (T 20) (T 21))), (oP 23 (.faddr 0 (T 22))), (oR 24 (.load false 1 (T 23))), (oP
  25 (.bin .geq (T 19) (T 24)))])) (.tr (rl [0, 1, 1]) false (.cond (T 25) (.seq (.region false [(oP 2 (.mv (tI 20)))]) (.tr (rl [2]) false .ret)) .skip)))))
  (.tr (rl [0, 3]) false (.region false [(oP 12 (.mv (T 4))), (oP 13 (.bin .add (T 12) (tI 1))), (oP 4 (.mv (T 13)))]))))
def xf68 : XFunc :=
(.mk 29 [(.tmp 2)] (.seq (.tr (rl [0]) false (.region false [(oP 2 (.mv (tI 0)))])) (.seq (.region false [(oP 3 (.mv (.lit (.c (.fn 109 [])))))]) (.seq (.seq
  (.tr (rl [0, 6]) false (.region false [(oP 5 (.mv (T 0))), (oP 6 (.mv (T 3))), (oW 7 (.call false [] (.lit (.c (.fn 110 []))) [(T 5), (T 6)]))])) (.tr (rl [0,
  1]) false (.cond (T 7) (.seq (.region false [(oP 2 (.mv (tI 1)))]) (.tr (rl [2]) false .ret)) .skip))) (.seq (.seq (.region false [(oP 4 (.mv (tI 1)))]) (.tr
  (rl [0, 1]) false (.block 0 (.loop (rl [0, 3]) xf68_l0)))) (.seq (.seq (.tr (rl [28]) false (.region false [(oP 26 (.mv (T 0))), (oP 27 (.len (T 26))), (oP 28
  (.bin .gtr (T 27) (tI 200)))])) (.tr (rl [2]) false (.cond (T 28) (.seq (.region false [(oP 2 (.mv (tI 6)))]) (.tr (rl [2]) false .ret)) .skip))) (.seq
  (.region false [(oP 2 (.mv (tI 0)))]) (.tr (rl [2]) false .ret))))))))
theorem xf68_ok : cmpFunc Go.Proofs.Tryd.prog 68 ((.two (.tr (rl [0]) false .no) (.two .no (.two (.two (.tr (rl [0, 6]) false .no) (.tr (rl [0, 1]) false (.two (.two .no (.tr (rl [2]) false .no)) .no))) (.two (.two .no (.tr (rl [0, 1]) false (.loop (rl [0, 3]) (.two (.two (.tr (rl [0, 3, 6]) false .no) (.tr (rl [0, 3]) false (.two .no (.tr (rl [0]) false .no)))) (.two (.tr (rl [0, 1, 1]) false (.two (.tr (rl [0, 3, 20]) false (.draw [0, 1, 2, 3, 4, 5, 6, 7, 8, 9, 10, 11] [])) (.tr (rl [0, 1, 1]) false (.two (.two .no (.tr (rl [2]) false .no)) .no)))) (.tr (rl [0, 3]) false .no)))))) (.two (.two (.tr (rl [28]) false .no) (.tr (rl [2]) false (.two (.two .no (.tr (rl [2]) false .no)) .no))) (.two .no (.tr (rl [2]) false .no)))))))) = some xf68 := by kernel_rfl
def xf69 : XFunc :=
(.mk 11 [(.tmp 4), (.tmp 5)] (.seq (.tr (rl [0, 0]) false (.region false [(oP 4 (.mv (tI 0))), (oP 5 (.mv (.lit (.c (.pv (.bool false))))))])) (.seq (.tr (rl
  [4, 0]) false (.region false [(oP 6 (.mv (T 0))), (oP 7 (.mv (T 1))), (oW 8 (.call false [] (.lit (.c (.fn 111 []))) [(T 6), (T 7), (.lit (.c (.fn 112
  [])))])), (oP 9 (.extr 0 (T 8))), (oP 10 (.extr 1 (T 8))), (oP 4 (.mv (T 9))), (oP 5 (.mv (T 10)))])) (.tr (rl [4, 0]) false .ret))))
theorem xf69_ok : cmpFunc Go.Proofs.Tryd.prog 69 ((.two (.tr (rl [0, 0]) false .no) (.two (.tr (rl [4, 0]) false .no) (.tr (rl [4, 0]) false .no)))) = some xf69 := by kernel_rfl
def xf70 : XFunc :=
(.mk 76 [(.tmp 2)] (.seq (.tr (rl [1]) false (.region false [(oW 1 (.box (T 0) 9)), (oP 2 (.mv (.lit (.c (.pv (.bool false))))))])) (.seq (.tr (rl [1, 1]) false
  (.region false [(oP 5 (.faddr 0 (T 1))), (oR 6 (.load false 1 (T 5))), (oP 7 (.bin .geq (T 6) (tI 1))), (oP 8 (.mv (T 7))), (.mk (some 9) (.faddr 0 (T 1))
  (some (8, true)) .p), (.mk (some 10) (.load false 1 (T 9)) (some (8, true)) .r), (.mk (some 11) (.bin .leq (T 10) (tI 1000000)) (some (8, true)) .p), (oP 12
  (.pick (T 8) (T 11) (.lit (.c (.pv (.bool false)))))), (oP 13 (.mv (T 12))), (.mk (some 14) (.faddr 1 (T 1)) (some (13, true)) .p), (.mk (some 15) (.load
  false 1 (T 14)) (some (13, true)) .r), (.mk (some 16) (.bin .geq (T 15) (tI 1)) (some (13, true)) .p), (oP 17 (.pick (T 13) (T 16) (.lit (.c (.pv (.bool
  false)))))), (oP 18 (.mv (T 17))), (.mk (some 19) (.faddr 1 (T 1)) (some (18, true)) .p), (.mk (some 20) (.load false 1 (T 19)) (some (18, true)) .r), (.mk
  (some 21) (.bin .leq (T 20) (tI 999)) (some (18, true)) .p), (oP 22 (.pick (T 18) (T 21) (.lit (.c (.pv (.bool false)))))), (oP 23 (.mv (T 22))), (.mk (some
  24) (.faddr 4 (T 1)) (some (23, true)) .p), (.mk (some 25) (.load false 1 (T 24)) (some (23, true)) .r), (.mk (some 26) (.bin .geq (T 25) (tI 0)) (some (23,
  true)) .p), (oP 27 (.pick (T 23) (T 26) (.lit (.c (.pv (.bool false)))))), (oP 28 (.mv (T 27))), (.mk (some 29) (.faddr 4 (T 1)) (some (28, true)) .p), (.mk
  (some 30) (.load false 1 (T 29)) (some (28, true)) .r), (.mk (some 31) (.bin .leq (T 30) (tI 9)) (some (28, true)) .p), (oP 32 (.pick (T 28) (T 31) (.lit (.c
  (.pv (.bool false)))))), (oP 3 (.mv (T 32)))])) (.seq (.tr (rl [1, 1, 0]) false (.region false [(oP 33 (.faddr 2 (T 1))), (oR 34 (.load true 2 (T 33))), (oP
  35 (.call false [] (.lit (.c (.fn 30 []))) [(T 34)])), (oP 36 (.mv (T 35))), (.mk (some 37) (.faddr 2 (T 1)) (some (36, true)) .p), (.mk (some 38) (.faddr 1
  (T 37)) (some (36, true)) .p), (.mk (some 39) (.load false 1 (T 38)) (some (36, true)) .r), (.mk (some 40) (.bin .gtr (T 39) (tI 0)) (some (36, true)) .p),
  (oP 41 (.pick (T 36) (T 40) (.lit (.c (.pv (.bool false)))))), (oP 42 (.mv (T 41))), (.mk (some 43) (.faddr 7 (T 1)) (some (42, true)) .p), (.mk (some 44)
  (.load false 1 (T 43)) (some (42, true)) .r), (.mk (some 45) (.bin .geq (T 44) (tI 0)) (some (42, true)) .p), (oP 46 (.pick (T 42) (T 45) (.lit (.c (.pv
  (.bool false)))))), (oP 47 (.mv (T 46))), (.mk (some 48) (.faddr 7 (T 1)) (some (47, true)) .p), (.mk (some 49) (.load false 1 (T 48)) (some (47, true)) .r),
  (.mk (some 50) (.faddr 2 (T 1)) (some (47, true)) .p), (.mk (some 51) (.faddr 1 (T 50)) (some (47, true)) .p), (.mk (some 52) (.load false 1 (T 51)) (some
  (47, true)) .r), (.mk (some 53) (.bin .leq (T 49) (T 52)) (some (47, true)) .p), (oP 54 (.pick (T 47) (T 53) (.lit (.c (.pv (.bool false)))))), (oP 4 (.mv (T
  54)))])) (.seq (.tr (rl [2]) false (.region false [(oP 55 (.mv (T 3))), (oP 56 (.mv (T 55))), (.mk (some 57) (.mv (T 4)) (some (56, true)) .p), (oP 58 (.pick
  (T 56) (T 57) (.lit (.c (.pv (.bool false)))))), (oP 59 (.mv (T 58))), (.mk (some 60) (.faddr 5 (T 1)) (some (59, true)) .p), (.mk (some 61) (.load false 1 (T
  60)) (some (59, true)) .r), (.mk (some 62) (.call false [] (.lit (.c (.fn 53 []))) [(T 61)]) (some (59, true)) .p), (oP 63 (.pick (T 59) (T 62) (.lit (.c (.pv
  (.bool false)))))), (oP 64 (.mv (T 63))), (.mk (some 65) (.faddr 6 (T 1)) (some (64, true)) .p), (.mk (some 66) (.load false 1 (T 65)) (some (64, true)) .r),
  (.mk (some 67) (.call false [] (.lit (.c (.fn 53 []))) [(T 66)]) (some (64, true)) .p), (oP 68 (.pick (T 64) (T 67) (.lit (.c (.pv (.bool false)))))), (oP 69
  (.mv (T 68))), (.mk (some 70) (.faddr 5 (T 1)) (some (69, true)) .p), (.mk (some 71) (.load false 1 (T 70)) (some (69, true)) .r), (.mk (some 72) (.faddr 6 (T
  1)) (some (69, true)) .p), (.mk (some 73) (.load false 1 (T 72)) (some (69, true)) .r), (.mk (some 74) (.bin .leq (T 71) (T 73)) (some (69, true)) .p), (oP 75
  (.pick (T 69) (T 74) (.lit (.c (.pv (.bool false)))))), (oP 2 (.mv (T 75)))])) (.tr (rl [2]) false .ret))))))
theorem xf70_ok : cmpFunc Go.Proofs.Tryd.prog 70 ((.two (.tr (rl [1]) false .no) (.two (.tr (rl [1, 1]) false .no) (.two (.tr (rl [1, 1, 0]) false (.ops [{}, {}, { cls := some .p }])) (.two (.tr (rl [2]) false (.ops [{}, {}, {}, {}, {}, {}, {}, { cls := some .p }, {}, {}, {}, {}, { cls := some .p }])) (.tr (rl [2]) false .no)))))) = some xf70 := by kernel_rfl
def xf71 : XFunc :=
(.mk 95 [(.tmp 6)] (.seq (.tr (rl [0, 0, 0]) false (.region false [(oP 6 (.mv (.lit (.c (.pv (.sl .nil 0 []))))))])) (.seq (.tr (rl [0, 0, 0]) false (.region
  false [(oP 10 (.mv (T 0))), (oP 11 (.mv (T 1))), (oP 12 (.sliceV 9 (T 10) (some (T 11)) none none))])) (.seq (.tr (rl [0, 0, 0, 4]) false (.region false [(oP
  13 (.mv (T 2))), (oP 14 (.len (T 13))), (oP 7 (.mv (T 14)))])) (.seq (.seq (.tr (rl [0, 0, 0, 4, 8]) false (.region false [(oP 15 (.mv (T 7))), (oP 16 (.bin
  .eql (T 15) (tI 0)))])) (.tr (rl [0, 0, 0, 3, 0]) false (.cond (T 16) (.seq (.tr (rl [6]) false (.region false [(oP 17 (.mv (T 0))), (oP 6 (.mv (T 17)))]))
  (.tr (rl [6]) false .ret)) .skip))) (.seq (.tr (rl [0, 0, 0, 4, 0]) false (.region false [(oP 18 (.mv (T 0))), (oP 19 (.len (T 18))), (oP 8 (.mv (T 19)))]))
  (.seq (.seq (.tr (rl [0, 0, 0, 4, 0, 13]) false (.region false [(oP 20 (.mv (T 1))), (oP 21 (.mv (T 8))), (oP 22 (.bin .eql (T 20) (T 21)))])) (.tr (rl [0, 0,
  0, 3, 0, 0]) false (.cond (T 22) (.seq (.tr (rl [6]) false (.region false [(oP 23 (.mv (T 0))), (oP 24 (.mv (T 2))), (oW 25 (.app 9 64 (T 23) (T 24))), (oP 6
  (.mv (T 25)))])) (.tr (rl [6]) false .ret)) .skip))) (.seq (.seq (.tr (rl [0, 0, 0, 4, 0, 22]) false (.region false [(oP 26 (.mv (T 8))), (oP 27 (.mv (T 7))),
  (oP 28 (.bin .add (T 26) (T 27))), (oP 29 (.mv (T 0))), (.mk (some 30) .stuck none .w), (oP 31 (.bin .gtr (T 28) (T 30)))])) (.tr (rl [0, 0, 0, 3, 0, 0])
  false (.cond (T 31) (.seq (.tr (rl [0, 0, 0, 4, 1]) false (.region false [(oP 32 (.mv (T 0))), (oP 33 (.mv (T 1))), (oP 34 (.sliceV 9 (T 32) none (some (T
  33)) none)), (oP 35 (.mv (T 8))), (oP 36 (.mv (T 7))), (oP 37 (.bin .add (T 35) (T 36))), (oP 38 (.mv (T 1))), (oP 39 (.bin .sub (T 37) (T 38))), (.mk (some
  40) .stuck none .w), (oP 9 (.mv (T 40)))])) (.seq (.tr (rl [0, 0, 5, 1]) false (.region false [(oP 41 (.mv (T 9))), (oP 42 (.mv (T 1))), (oP 43 (.sliceV 9 (T
  41) (some (T 42)) none none)), (oP 44 (.mv (T 2))), (.mk (some 45) .stuck none .w)])) (.seq (.tr (rl [9]) false (.region true [(oP 46 (.mv (T 9))), (oP 47
  (.mv (T 1))), (oP 48 (.mv (T 7))), (oP 49 (.bin .add (T 47) (T 48))), (oP 50 (.sliceV 9 (T 46) (some (T 49)) none none)), (oP 51 (.mv (T 0))), (oP 52 (.mv (T
  1))), (oP 53 (.sliceV 9 (T 51) (some (T 52)) none none)), (.mk (some 54) .stuck none .w)])) (.seq (.tr (rl [6]) false (.region false [(oP 55 (.mv (T 9))), (oP
  6 (.mv (T 55)))])) (.tr (rl [6]) false .ret))))) .skip))) (.seq (.tr (rl [0, 0, 0, 4, 0]) false (.region false [(oP 56 (.mv (T 0))), (oP 57 (.mv (T 8))), (oP
  58 (.mv (T 7))), (oP 59 (.bin .add (T 57) (T 58))), (oP 60 (.sliceV 9 (T 56) none (some (T 59)) none)), (oP 0 (.mv (T 60)))])) (.seq (.seq (.tr (rl [0, 0, 0,
  4, 0, 59]) false (.region false [(oP 61 (.mv (T 2))), (oP 62 (.mv (T 0))), (oP 63 (.mv (T 1))), (oP 64 (.mv (T 7))), (oP 65 (.bin .add (T 63) (T 64))), (oP 66
  (.sliceV 9 (T 62) (some (T 65)) none none)), (oP 67 (.call false [] (.lit (.c (.fn 114 []))) [(T 61), (T 66)])), (oP 68 (.un .not (T 67)))])) (.tr (rl [0, 0,
  0, 3, 0, 0]) false (.cond (T 68) (.seq (.tr (rl [0, 0, 0]) false (.region true [(oP 69 (.mv (T 0))), (oP 70 (.mv (T 1))), (oP 71 (.mv (T 7))), (oP 72 (.bin
  .add (T 70) (T 71))), (oP 73 (.sliceV 9 (T 69) (some (T 72)) none none)), (oP 74 (.mv (T 0))), (oP 75 (.mv (T 1))), (oP 76 (.sliceV 9 (T 74) (some (T 75))
  none none)), (.mk (some 77) .stuck none .w)])) (.seq (.tr (rl [0]) false (.region false [(oP 78 (.mv (T 0))), (oP 79 (.mv (T 1))), (oP 80 (.sliceV 9 (T 78)
  (some (T 79)) none none)), (oP 81 (.mv (T 2))), (.mk (some 82) .stuck none .w)])) (.seq (.tr (rl [6]) false (.region false [(oP 83 (.mv (T 0))), (oP 6 (.mv (T
  83)))])) (.tr (rl [6]) false .ret)))) .skip))) (.seq (.tr (rl [0, 0, 5]) false (.region false [(oP 84 (.mv (T 0))), (oP 85 (.mv (T 8))), (oP 86 (.sliceV 9 (T
  84) (some (T 85)) none none)), (oP 87 (.mv (T 2))), (.mk (some 88) .stuck none .w)])) (.seq (.tr (rl [0]) false (.region false [(oP 89 (.mv (T 0))), (oP 90
  (.mv (T 1))), (oP 91 (.sliceV 9 (T 89) (some (T 90)) none none)), (oP 92 (.mv (T 7))), (oP 93 (.call false [] (.lit (.c (.fn 115 []))) [(T 91), (T 92)]))]))
  (.seq (.tr (rl [6]) false (.region false [(oP 94 (.mv (T 0))), (oP 6 (.mv (T 94)))])) (.tr (rl [6]) false .ret))))))))))))))
theorem xf71_ok : cmpFunc Go.Proofs.Tryd.prog 71 ((.two (.tr (rl [0, 0, 0]) false .no) (.two (.tr (rl [0, 0, 0]) false .no) (.two (.tr (rl [0, 0, 0, 4]) false .no) (.two (.two (.tr (rl [0, 0, 0, 4, 8]) false .no) (.tr (rl [0, 0, 0, 3, 0]) false (.two (.two (.tr (rl [6]) false .no) (.tr (rl [6]) false .no)) .no))) (.two (.tr (rl [0, 0, 0, 4, 0]) false .no) (.two (.two (.tr (rl [0, 0, 0, 4, 0, 13]) false .no) (.tr (rl [0, 0, 0, 3, 0, 0]) false (.two (.two (.tr (rl [6]) false .no) (.tr (rl [6]) false .no)) .no))) (.two (.two (.tr (rl [0, 0, 0, 4, 0, 22]) false .no) (.tr (rl [0, 0, 0, 3, 0, 0]) false (.two (.two (.tr (rl [0, 0, 0, 4, 1]) false .no) (.two (.tr (rl [0, 0, 5, 1]) false .no) (.two (.tr (rl [9]) false (.draw [0, 1, 2, 3, 4, 5, 6, 7, 8] [])) (.two (.tr (rl [6]) false .no) (.tr (rl [6]) false .no))))) .no))) (.two (.tr (rl [0, 0, 0, 4, 0]) false .no) (.two (.two (.tr (rl [0, 0, 0, 4, 0, 59]) false (.ops [{}, {}, {}, {}, {}, {}, { cls := some .p }])) (.tr (rl [0, 0, 0, 3, 0, 0]) false (.two (.two (.tr (rl [0, 0, 0]) false (.draw [0, 1, 2, 3, 4, 5, 6, 7, 8] [])) (.two (.tr (rl [0]) false .no) (.two (.tr (rl [6]) false .no) (.tr (rl [6]) false .no)))) .no))) (.two (.tr (rl [0, 0, 5]) false .no) (.two (.tr (rl [0]) false (.ops [{}, {}, {}, {}, { cls := some .p }])) (.two (.tr (rl [6]) false .no) (.tr (rl [6]) false .no)))))))))))))) = some xf71 := by kernel_rfl
def xf72 : XFunc :=
(.mk 8 [(.tmp 2)] (.seq (.tr (rl [0]) false (.region false [(oP 2 (.mv (.lit (.c (.pv (.sl .nil 0 []))))))])) (.seq (.seq (.tr (rl [0, 3]) false (.region false
  [(oP 3 (.mv (T 0))), (oP 4 (.eqN 0 false (T 3) (.lit (.c (.pv (.sl .nil 0 []))))))])) (.tr (rl [0, 1]) false (.cond (T 4) (.seq (.region false [(oP 2 (.mv
  (.lit (.c (.pv (.sl .nil 0 []))))))]) (.tr (rl [2]) false .ret)) .skip))) (.seq (.tr (rl [2]) false (.region false [(oP 5 (.buildSl [(.pv (.int .i64 0)), (.pv
  (.int .i64 0)), (.pv (.int .i64 0)), (.pv (.int .i64 0)), (.pv (.int .i64 0)), (.pv (.int .i32 0)), (.pv (.int .i32 0)), (.pv (.int .i64 0)), (.pv (.bool
  false))] 0 9 [])), (oP 6 (.mv (T 0))), (oW 7 (.app 9 64 (T 5) (T 6))), (oP 2 (.mv (T 7)))])) (.tr (rl [2]) false .ret)))))
theorem xf72_ok : cmpFunc Go.Proofs.Tryd.prog 72 ((.two (.tr (rl [0]) false .no) (.two (.two (.tr (rl [0, 3]) false .no) (.tr (rl [0, 1]) false (.two (.two .no (.tr (rl [2]) false .no)) .no))) (.two (.tr (rl [2]) false .no) (.tr (rl [2]) false .no))))) = some xf72 := by kernel_rfl
def xf73 : XFunc :=
(.mk 13 [(.tmp 6), (.tmp 7)] (.seq (.tr (rl [3, 0, 0]) false (.region false [(oW 3 (.box (T 0) 7)), (oW 4 (.box (T 1) 1)), (oW 5 (.box (T 2) 1)), (oP 6 (.mv (tI
  0))), (oP 7 (.mv (tI 0)))])) (.seq (.tr (rl [6, 0]) false (.region false [(oR 8 (.load true 7 (T 3))), (oP 9 (.mkfn 117 [(T 4), (T 5)])), (oW 10 (.call false
  [] (.lit (.c (.fn 116 []))) [(T 8), (T 9)])), (oP 11 (.extr 0 (T 10))), (oP 12 (.extr 1 (T 10))), (oP 6 (.mv (T 11))), (oP 7 (.mv (T 12)))])) (.tr (rl [6, 0])
  false .ret))))
theorem xf73_ok : cmpFunc Go.Proofs.Tryd.prog 73 ((.two (.tr (rl [3, 0, 0]) false .no) (.two (.tr (rl [6, 0]) false .no) (.tr (rl [6, 0]) false .no)))) = some xf73 := by kernel_rfl
def xf74 : XFunc :=
(.mk 9 [(.tmp 2)] (.seq (.tr (rl [0]) false (.region false [(oP 2 (.mv (.lit (.c (.pv (.bool false))))))])) (.seq (.tr (rl [2]) false (.region false [(oP 3 (.mv
  (T 0))), (oP 4 (.bin .geq (T 3) (tI 0))), (oP 5 (.mv (T 4))), (.mk (some 6) (.mv (T 0)) (some (5, true)) .p), (.mk (some 7) (.bin .lss (T 6) (tI 4)) (some (5,
  true)) .p), (oP 8 (.pick (T 5) (T 7) (.lit (.c (.pv (.bool false)))))), (oP 2 (.mv (T 8)))])) (.tr (rl [2]) false .ret))))
theorem xf74_ok : cmpFunc Go.Proofs.Tryd.prog 74 ((.two (.tr (rl [0]) false .no) (.two (.tr (rl [2]) false .no) (.tr (rl [2]) false .no)))) = some xf74 := by kernel_rfl
def xf83 : XFunc :=
(.mk 8 [(.tmp 3)] (.seq (.tr (rl [0, 0]) false (.region false [(oP 3 (.mv (.lit (.c (.pv (.bool false))))))])) (.seq (.tr (rl [3]) false (.region false [(oP 4
  (.faddr 3 (T 1))), (oR 5 (.load false 1 (T 4))), (oP 6 (.mv (T 0))), (oW 7 (.call false [] (.lit (.c (.fn 84 []))) [(T 5), (T 6)])), (oP 3 (.mv (T 7)))]))
  (.tr (rl [3]) false .ret))))
theorem xf83_ok : cmpFunc Go.Proofs.Tryd.prog 83 ((.two (.tr (rl [0, 0]) false .no) (.two (.tr (rl [3]) false .no) (.tr (rl [3]) false .no)))) = some xf83 := by kernel_rfl
def xf84 : XFunc :=
(.mk 9 [(.tmp 4)] (.seq (.tr (rl [0, 0]) false (.region false [(oP 4 (.mv (.lit (.c (.pv (.bool false))))))])) (.seq (.tr (rl [4]) false (.region false [(oP 5
  (.mv (T 0))), (oP 6 (.mv (T 1))), (oW 7 (.call false [] (.lit (.c (.fn 121 []))) [(T 5), (T 6)])), (oP 8 (.bin .geq (T 7) (tI 0))), (oP 4 (.mv (T 8)))])) (.tr
  (rl [4]) false .ret))))
theorem xf84_ok : cmpFunc Go.Proofs.Tryd.prog 84 ((.two (.tr (rl [0, 0]) false .no) (.two (.tr (rl [4]) false .no) (.tr (rl [4]) false .no)))) = some xf84 := by kernel_rfl
def xf85 : XFunc :=
(.mk 47 [(.tmp 2)] (.seq (.tr (rl [1]) false (.region false [(oW 1 (.box (T 0) 7)), (oP 2 (.mv (.lit (.c (.pv (.bool false))))))])) (.seq (.region false [(oP 3
  (.mv (.lit (.c (.fn 122 [])))))]) (.seq (.tr (rl [2]) false (.region false [(oP 4 (.faddr 0 (T 1))), (oR 5 (.load false 1 (T 4))), (oP 6 (.bin .geq (T 5) (tI
  1))), (oP 7 (.mv (T 6))), (.mk (some 8) (.faddr 0 (T 1)) (some (7, true)) .p), (.mk (some 9) (.load false 1 (T 8)) (some (7, true)) .r), (.mk (some 10) (.bin
  .leq (T 9) (tI 1000000)) (some (7, true)) .p), (oP 11 (.pick (T 7) (T 10) (.lit (.c (.pv (.bool false)))))), (oP 12 (.mv (T 11))), (.mk (some 13) (.faddr 4 (T
  1)) (some (12, true)) .p), (.mk (some 14) (.load false 1 (T 13)) (some (12, true)) .r), (.mk (some 15) (.bin .geq (T 14) (tI 0)) (some (12, true)) .p), (oP 16
  (.pick (T 12) (T 15) (.lit (.c (.pv (.bool false)))))), (oP 17 (.mv (T 16))), (.mk (some 18) (.faddr 4 (T 1)) (some (17, true)) .p), (.mk (some 19) (.load
  false 1 (T 18)) (some (17, true)) .r), (.mk (some 20) (.faddr 0 (T 1)) (some (17, true)) .p), (.mk (some 21) (.load false 1 (T 20)) (some (17, true)) .r),
  (.mk (some 22) (.bin .lss (T 19) (T 21)) (some (17, true)) .p), (oP 23 (.pick (T 17) (T 22) (.lit (.c (.pv (.bool false)))))), (oP 24 (.mv (T 23))), (.mk
  (some 25) (.faddr 5 (T 1)) (some (24, true)) .p), (.mk (some 26) (.load false 1 (T 25)) (some (24, true)) .r), (.mk (some 27) (.bin .geq (T 26) (tI 0)) (some
  (24, true)) .p), (oP 28 (.pick (T 24) (T 27) (.lit (.c (.pv (.bool false)))))), (oP 29 (.mv (T 28))), (.mk (some 30) (.faddr 5 (T 1)) (some (29, true)) .p),
  (.mk (some 31) (.load false 1 (T 30)) (some (29, true)) .r), (.mk (some 32) (.bin .leq (T 31) (tI 4)) (some (29, true)) .p), (oP 33 (.pick (T 29) (T 32) (.lit
  (.c (.pv (.bool false)))))), (oP 34 (.mv (T 33))), (.mk (some 35) (.faddr 6 (T 1)) (some (34, true)) .p), (.mk (some 36) (.load false 1 (T 35)) (some (34,
  true)) .r), (.mk (some 37) (.lenS (T 36)) (some (34, true)) .p), (.mk (some 38) (.bin .leq (T 37) (tI 32)) (some (34, true)) .p), (oP 39 (.pick (T 34) (T 38)
  (.lit (.c (.pv (.bool false)))))), (oP 40 (.mv (T 39))), (.mk (some 41) (.faddr 6 (T 1)) (some (40, true)) .p), (.mk (some 42) (.load false 1 (T 41)) (some
  (40, true)) .r), (.mk (some 43) (.mv (T 3)) (some (40, true)) .p), (.mk (some 44) (.call false [] (.lit (.c (.fn 123 []))) [(T 42), (T 43)]) (some (40, true))
  .w), (.mk (some 45) (.un .not (T 44)) (some (40, true)) .p), (oP 46 (.pick (T 40) (T 45) (.lit (.c (.pv (.bool false)))))), (oP 2 (.mv (T 46)))])) (.tr (rl
  [2]) false .ret)))))
theorem xf85_ok : cmpFunc Go.Proofs.Tryd.prog 85 ((.two (.tr (rl [1]) false .no) (.two .no (.two (.tr (rl [2]) false .no) (.tr (rl [2]) false .no))))) = some xf85 := by kernel_rfl
def xf86 : XFunc :=
(.mk 11 [(.tmp 2)] (.seq (.tr (rl [1]) false (.region false [(oW 1 (.box (T 0) 3)), (oP 2 (.mv (.lit (.c (.pv (.bool false))))))])) (.seq (.tr (rl [2]) false
  (.region false [(oP 3 (.faddr 0 (T 1))), (oR 4 (.load false 1 (T 3))), (oP 5 (.bin .lss (T 4) (tI 1))), (oP 6 (.mv (T 5))), (.mk (some 7) (.faddr 0 (T 1))
  (some (6, false)) .p), (.mk (some 8) (.load false 1 (T 7)) (some (6, false)) .r), (.mk (some 9) (.bin .gtr (T 8) (tI 999)) (some (6, false)) .p), (oP 10
  (.pick (T 6) (.lit (.c (.pv (.bool true)))) (T 9))), (oP 2 (.mv (T 10)))])) (.tr (rl [2]) false .ret))))
theorem xf86_ok : cmpFunc Go.Proofs.Tryd.prog 86 ((.two (.tr (rl [1]) false .no) (.two (.tr (rl [2]) false .no) (.tr (rl [2]) false .no)))) = some xf86 := by kernel_rfl
def xf87 : XFunc :=
(.mk 8 [(.tmp 2)] (.seq (.tr (rl [1]) false (.region false [(oW 1 (.box (T 0) 3)), (oP 2 (.mv (.lit (.c (.pv (.bool false))))))])) (.seq (.tr (rl [2]) false
  (.region false [(oP 3 (.faddr 1 (T 1))), (oP 4 (.faddr 0 (T 3))), (oR 5 (.load false 1 (T 4))), (oP 6 (.call false [] (.lit (.c (.fn 88 []))) [(T 5)])), (oP 7
  (.bin .eql (T 6) (.lit (.c (.pv (.str [])))))), (oP 2 (.mv (T 7)))])) (.tr (rl [2]) false .ret))))
theorem xf87_ok : cmpFunc Go.Proofs.Tryd.prog 87 ((.two (.tr (rl [1]) false .no) (.two (.tr (rl [2]) false (.ops [{}, {}, {}, { cls := some .p }])) (.tr (rl [2]) false .no)))) = some xf87 := by kernel_rfl
def xf88 : XFunc :=
(.mk 10 [(.tmp 2)] (.seq (.tr (rl [0]) false (.region false [(oP 2 (.mv (.lit (.c (.pv (.str []))))))])) (.seq (.seq (.tr (rl [0, 4]) false (.region false [(oP
  3 (.mv (T 0))), (oP 4 (.call false [] (.lit (.c (.fn 74 []))) [(T 3)])), (oP 5 (.un .not (T 4)))])) (.tr (rl [0, 1]) false (.cond (T 5) (.seq (.region false
  [(oP 2 (.mv (.lit (.c (.pv (.str []))))))]) (.tr (rl [2]) false .ret)) .skip))) (.seq (.tr (rl [2]) false (.region false [(oP 6 (.mv (T 0))), (oP 7 (.iaddrA 4
  3 (.lit (.c (.cptr [(.str [69, 85, 82]), (.int .i64 2), (.int .i64 100), (.str [74, 80, 89]), (.int .i64 0), (.int .i64 1), (.str [66, 72, 68]), (.int .i64
  3), (.int .i64 1000), (.str [85, 83, 68]), (.int .i64 2), (.int .i64 100)] 0))) (T 6))), (oP 8 (.faddr 0 (T 7))), (oR 9 (.load false 1 (T 8))), (oP 2 (.mv (T
  9)))])) (.tr (rl [2]) false .ret)))))
theorem xf88_ok : cmpFunc Go.Proofs.Tryd.prog 88 ((.two (.tr (rl [0]) false .no) (.two (.two (.tr (rl [0, 4]) false (.ops [{}, { cls := some .p }])) (.tr (rl [0, 1]) false (.two (.two .no (.tr (rl [2]) false .no)) .no))) (.two (.tr (rl [2]) false .no) (.tr (rl [2]) false .no))))) = some xf88 := by kernel_rfl
def xf89 : XFunc :=
(.mk 7 [(.tmp 2)] (.seq (.tr (rl [1]) false (.region false [(oW 1 (.box (T 0) 3)), (oP 2 (.mv (.lit (.c (.pv (.bool false))))))])) (.seq (.tr (rl [2]) false
  (.region false [(oP 3 (.faddr 1 (T 1))), (oR 4 (.load true 2 (T 3))), (oP 5 (.call false [] (.lit (.c (.fn 30 []))) [(T 4)])), (oP 6 (.un .not (T 5))), (oP 2
  (.mv (T 6)))])) (.tr (rl [2]) false .ret))))
theorem xf89_ok : cmpFunc Go.Proofs.Tryd.prog 89 ((.two (.tr (rl [1]) false .no) (.two (.tr (rl [2]) false (.ops [{}, {}, { cls := some .p }])) (.tr (rl [2]) false .no)))) = some xf89 := by kernel_rfl
def xf90 : XFunc :=
(.mk 7 [(.tmp 2)] (.seq (.tr (rl [1]) false (.region false [(oW 1 (.box (T 0) 3)), (oP 2 (.mv (.lit (.c (.pv (.bool false))))))])) (.seq (.tr (rl [2]) false
  (.region false [(oP 3 (.faddr 1 (T 1))), (oP 4 (.faddr 1 (T 3))), (oR 5 (.load false 1 (T 4))), (oP 6 (.bin .eql (T 5) (tI 0))), (oP 2 (.mv (T 6)))])) (.tr
  (rl [2]) false .ret))))
theorem xf90_ok : cmpFunc Go.Proofs.Tryd.prog 90 ((.two (.tr (rl [1]) false .no) (.two (.tr (rl [2]) false .no) (.tr (rl [2]) false .no)))) = some xf90 := by kernel_rfl
def xf91_l0 : XCode :=
(.seq (.region false [(oP 9 (.bin .lss (T 8) (T 7)))]) (.seq (.tr (rl [3, 2, 0, 0]) false (.cond (T 9) .skip (.tr (rl [3]) false (.exit 0)))) (.seq (.tr (rl [3,
  2, 0, 0]) false (.block 1 (.seq (.tr (rl [3, 1, 0, 0, 0]) false (.region false [(oP 10 (.iaddrS 3 (T 6) (T 8))), (oR 11 (.load true 3 (T 10))), (oW 5 (.alloc
  [(.pv (.int .i64 0)), (.pv (.int .i64 0)), (.pv (.int .i64 0))])), (sW (.store 3 (T 5) (T 11)))])) (.tr (rl [3, 2, 0, 0]) false (.region true [(oP 12 (.faddr
  1 (T 5))), (oP 13 (.faddr 0 (T 12))), (oR 14 (.load false 1 (T 13))), (oP 15 (.iaddrA 4 1 (T 3) (T 14))), (oR 16 (.load false 1 (T 15))), (oP 17 (.faddr 1 (T
  5))), (oP 18 (.faddr 1 (T 17))), (oR 19 (.load false 1 (T 18))), (oP 20 (.bin .add (T 16) (T 19))), (oP 21 (.iaddrA 4 1 (T 3) (T 14))), (sW (.store 1 (T 21)
  (T 20)))]))))) (.tr (rl [3, 2, 0, 0]) false (.region false [(oP 22 (.bin .add (T 8) (tI 1))), (oP 8 (.mv (T 22)))])))))
def xf91 : XFunc :=
(.mk 26 [(.tmp 2)] (.seq (.tr (rl [0]) false (.region false [(oP 2 (.mv (.lit (.c (.pv (.bool false))))))])) (.seq (.region false [(oW 3 (.alloc [(.pv (.int
  .i64 0)), (.pv (.int .i64 0)), (.pv (.int .i64 0)), (.pv (.int .i64 0))]))]) (.seq (.seq (.tr (rl [3, 2, 0, 0]) false (.region false [(oP 6 (.mv (T 0))), (oP
  7 (.len (T 6))), (oP 8 (.mv (tI 0)))])) (.tr (rl [3]) false (.block 0 (.loop (rl [3, 2, 0, 0]) xf91_l0)))) (.seq (.tr (rl [2]) false (.region false [(oR 23
  (.load true 4 (T 3))), (oP 24 (.build [(.pv (.int .i64 0)), (.pv (.int .i64 0)), (.pv (.int .i64 0)), (.pv (.int .i64 0))] [])), (oP 25 (.eqA false [0, 0, 0,
  0] (T 23) (T 24))), (oP 2 (.mv (T 25)))])) (.tr (rl [2]) false .ret))))))
theorem xf91_ok : cmpFunc Go.Proofs.Tryd.prog 91 ((.two (.tr (rl [0]) false .no) (.two .no (.two (.two (.tr (rl [3, 2, 0, 0]) false .no) (.tr (rl [3]) false (.loop (rl [3, 2, 0, 0]) (.two .no (.two (.tr (rl [3, 2, 0, 0]) false (.two .no (.tr (rl [3]) false .no))) (.two (.tr (rl [3, 2, 0, 0]) false (.two (.tr (rl [3, 1, 0, 0, 0]) false .no) (.tr (rl [3, 2, 0, 0]) false (.draw [0, 1, 2, 3, 4, 5, 6, 7, 8, 9, 10] [])))) (.tr (rl [3, 2, 0, 0]) false .no))))))) (.two (.tr (rl [2]) false .no) (.tr (rl [2]) false .no)))))) = some xf91 := by kernel_rfl
def xf92 : XFunc :=
(.mk 52 [(.tmp 4)] (.seq (.tr (rl [2, 0]) false (.region false [(oW 2 (.box (T 0) 7)), (oW 3 (.box (T 1) 7)), (oP 4 (.mv (.lit (.c (.pv (.bool false))))))]))
  (.seq (.tr (rl [4]) false (.region false [(oP 5 (.faddr 3 (T 2))), (oR 6 (.load false 1 (T 5))), (oP 7 (.faddr 3 (T 3))), (oR 8 (.load false 1 (T 7))), (oP 9
  (.call false [] (.lit (.c (.fn 124 []))) [(T 6), (T 8)])), (oP 10 (.mv (T 9))), (.mk (some 11) (.faddr 0 (T 2)) (some (10, true)) .p), (.mk (some 12) (.load
  false 1 (T 11)) (some (10, true)) .r), (.mk (some 13) (.faddr 0 (T 3)) (some (10, true)) .p), (.mk (some 14) (.load false 1 (T 13)) (some (10, true)) .r),
  (.mk (some 15) (.bin .eql (T 12) (T 14)) (some (10, true)) .p), (oP 16 (.pick (T 10) (T 15) (.lit (.c (.pv (.bool false)))))), (oP 17 (.mv (T 16))), (.mk
  (some 18) (.faddr 1 (T 2)) (some (17, true)) .p), (.mk (some 19) (.load false 1 (T 18)) (some (17, true)) .r), (.mk (some 20) (.faddr 1 (T 3)) (some (17,
  true)) .p), (.mk (some 21) (.load false 1 (T 20)) (some (17, true)) .r), (.mk (some 22) (.bin .eql (T 19) (T 21)) (some (17, true)) .p), (oP 23 (.pick (T 17)
  (T 22) (.lit (.c (.pv (.bool false)))))), (oP 24 (.mv (T 23))), (.mk (some 25) (.faddr 2 (T 2)) (some (24, true)) .p), (.mk (some 26) (.load false 1 (T 25))
  (some (24, true)) .r), (.mk (some 27) (.faddr 2 (T 3)) (some (24, true)) .p), (.mk (some 28) (.load false 1 (T 27)) (some (24, true)) .r), (.mk (some 29)
  (.bin .eql (T 26) (T 28)) (some (24, true)) .p), (oP 30 (.pick (T 24) (T 29) (.lit (.c (.pv (.bool false)))))), (oP 31 (.mv (T 30))), (.mk (some 32) (.faddr 4
  (T 2)) (some (31, true)) .p), (.mk (some 33) (.load false 1 (T 32)) (some (31, true)) .r), (.mk (some 34) (.faddr 4 (T 3)) (some (31, true)) .p), (.mk (some
  35) (.load false 1 (T 34)) (some (31, true)) .r), (.mk (some 36) (.bin .eql (T 33) (T 35)) (some (31, true)) .p), (oP 37 (.pick (T 31) (T 36) (.lit (.c (.pv
  (.bool false)))))), (oP 38 (.mv (T 37))), (.mk (some 39) (.faddr 5 (T 2)) (some (38, true)) .p), (.mk (some 40) (.load false 1 (T 39)) (some (38, true)) .r),
  (.mk (some 41) (.faddr 5 (T 3)) (some (38, true)) .p), (.mk (some 42) (.load false 1 (T 41)) (some (38, true)) .r), (.mk (some 43) (.bin .eql (T 40) (T 42))
  (some (38, true)) .p), (oP 44 (.pick (T 38) (T 43) (.lit (.c (.pv (.bool false)))))), (oP 45 (.mv (T 44))), (.mk (some 46) (.faddr 6 (T 2)) (some (45, true))
  .p), (.mk (some 47) (.load false 1 (T 46)) (some (45, true)) .r), (.mk (some 48) (.faddr 6 (T 3)) (some (45, true)) .p), (.mk (some 49) (.load false 1 (T 48))
  (some (45, true)) .r), (.mk (some 50) (.bin .eql (T 47) (T 49)) (some (45, true)) .p), (oP 51 (.pick (T 45) (T 50) (.lit (.c (.pv (.bool false)))))), (oP 4
  (.mv (T 51)))])) (.tr (rl [4]) false .ret))))
theorem xf92_ok : cmpFunc Go.Proofs.Tryd.prog 92 ((.two (.tr (rl [2, 0]) false .no) (.two (.tr (rl [4]) false (.ops [{}, {}, {}, {}, { cls := some .p }])) (.tr (rl [4]) false .no)))) = some xf92 := by kernel_rfl
def xf94 : XFunc :=
(.mk 9 [(.tmp 4)] (.seq (.tr (rl [0, 0]) false (.region false [(oP 4 (.mv (.lit (.c (.pv (.bool false))))))])) (.seq (.tr (rl [4]) false (.region false [(oP 5
  (.mv (T 0))), (oP 6 (.mv (T 1))), (oW 7 (.call false [] (.lit (.c (.fn 125 []))) [(T 5), (T 6)])), (oP 8 (.bin .geq (T 7) (tI 0))), (oP 4 (.mv (T 8)))])) (.tr
  (rl [4]) false .ret))))
theorem xf94_ok : cmpFunc Go.Proofs.Tryd.prog 94 ((.two (.tr (rl [0, 0]) false .no) (.two (.tr (rl [4]) false .no) (.tr (rl [4]) false .no)))) = some xf94 := by kernel_rfl
def xf96 : XFunc :=
(.mk 15 [(.tmp 6)] (.seq (.tr (rl [0, 0, 0]) false (.region false [(oP 6 (.mv (.lit (.c (.pv (.bool false))))))])) (.seq (.tr (rl [6]) false (.region false [(oP
  7 (.mv (T 0))), (oP 8 (.mv (T 1))), (oP 9 (.bin .geq (T 7) (T 8))), (oP 10 (.mv (T 9))), (.mk (some 11) (.mv (T 0)) (some (10, true)) .p), (.mk (some 12) (.mv
  (T 2)) (some (10, true)) .p), (.mk (some 13) (.bin .leq (T 11) (T 12)) (some (10, true)) .p), (oP 14 (.pick (T 10) (T 13) (.lit (.c (.pv (.bool false)))))),
  (oP 6 (.mv (T 14)))])) (.tr (rl [6]) false .ret))))
theorem xf96_ok : cmpFunc Go.Proofs.Tryd.prog 96 ((.two (.tr (rl [0, 0, 0]) false .no) (.two (.tr (rl [6]) false .no) (.tr (rl [6]) false .no)))) = some xf96 := by kernel_rfl
def xf98 : XFunc :=
(.mk 33 [(.tmp 4), (.tmp 5)] (.seq (.tr (rl [1, 0]) false (.region false [(oW 2 (.box (T 0) 10)), (oP 4 (.mv (tI 0))), (oP 5 (.mv (tI 0)))])) (.seq (.tr (rl [2,
  1, 0]) false (.block 0 (.seq (.tr (rl [1, 0, 3]) false (.region false [(oR 7 (.load true 10 (T 2))), (oP 8 (.call false [] (.lit (.c (.fn 51 []))) [(T 7)])),
  (oP 9 (.un .not (T 8))), (oP 6 (.mv (T 9)))])) (.tr (rl [2, 1, 0]) false (.cond (T 6) (.seq (.region false [(oP 4 (.mv (tI 0))), (oP 5 (.mv (tI 1)))]) (.tr
  (rl [4, 0]) false .ret)) (.seq (.tr (rl [1, 0, 7]) false (.region false [(oP 11 (.mv (T 1))), (oP 12 (.call false [] (.lit (.c (.fn 126 []))) [(T 11), (.lit
  (.c (.pv (.int .i64 (-1000000000000000))))), (tI 1000000000000000)])), (oP 13 (.un .not (T 12))), (oP 10 (.mv (T 13)))])) (.tr (rl [2, 1, 0]) false (.cond (T
  10) (.seq (.region false [(oP 4 (.mv (tI 0))), (oP 5 (.mv (tI 9)))]) (.tr (rl [4, 0]) false .ret)) (.seq (.tr (rl [1, 0, 11]) false (.region false [(oP 15
  (.faddr 1 (T 2))), (oR 16 (.load false 1 (T 15))), (oP 17 (.bin .eql (T 16) (tI 1))), (oP 14 (.mv (T 17)))])) (.tr (rl [2, 1, 0]) false (.cond (T 14) (.seq
  (.tr (rl [4, 0]) false (.region false [(oP 18 (.mv (T 1))), (oP 19 (.faddr 4 (T 2))), (oP 20 (.faddr 1 (T 19))), (oR 21 (.load false 1 (T 20))), (oP 22 (.bin
  .sub (T 18) (T 21))), (oP 23 (.maxI [(tI 0), (T 22)])), (oP 4 (.mv (T 23))), (oP 5 (.mv (tI 0)))])) (.tr (rl [4, 0]) false .ret)) (.seq (.tr (rl [2, 21])
  false (.region false [(oP 25 (.mv (T 1))), (oP 26 (.faddr 4 (T 2))), (oP 27 (.faddr 1 (T 26))), (oR 28 (.load false 1 (T 27))), (oP 29 (.bin .lss (T 25) (T
  28))), (oP 24 (.mv (T 29)))])) (.tr (rl [2, 1, 0]) false (.cond (T 24) (.seq (.region false [(oP 4 (.mv (tI 0))), (oP 5 (.mv (tI 0)))]) (.tr (rl [4, 0]) false
  .ret)) .skip)))))))))))))) (.seq (.tr (rl [4, 0]) false (.region false [(oP 30 (.faddr 4 (T 2))), (oP 31 (.faddr 1 (T 30))), (oR 32 (.load false 1 (T 31))),
  (oP 4 (.mv (T 32))), (oP 5 (.mv (tI 0)))])) (.tr (rl [4, 0]) false .ret)))))
theorem xf98_ok : cmpFunc Go.Proofs.Tryd.prog 98 ((.two (.tr (rl [1, 0]) false .no) (.two (.tr (rl [2, 1, 0]) false (.two (.tr (rl [1, 0, 3]) false (.ops [{}, { cls := some .p }])) (.tr (rl [2, 1, 0]) false (.two (.two .no (.tr (rl [4, 0]) false .no)) (.two (.tr (rl [1, 0, 7]) false (.ops [{}, { cls := some .p }])) (.tr (rl [2, 1, 0]) false (.two (.two .no (.tr (rl [4, 0]) false .no)) (.two (.tr (rl [1, 0, 11]) false .no) (.tr (rl [2, 1, 0]) false (.two (.two (.tr (rl [4, 0]) false .no) (.tr (rl [4, 0]) false .no)) (.two (.tr (rl [2, 21]) false .no) (.tr (rl [2, 1, 0]) false (.two (.two .no (.tr (rl [4, 0]) false .no)) .no))))))))))))) (.two (.tr (rl [4, 0]) false .no) (.tr (rl [4, 0]) false .no))))) = some xf98 := by kernel_rfl
def xf99 : XFunc :=
(.mk 5 [(.tmp 2)] (.seq (.tr (rl [0]) false (.region false [(oP 2 (.mv (.lit (.c (.pv (.str []))))))])) (.seq (.tr (rl [2]) false (.region false [(oP 3 (.mv (T
  0))), (oP 4 (.call false [] (.lit (.c (.fn 127 []))) [(T 3)])), (oP 2 (.mv (T 4)))])) (.tr (rl [2]) false .ret))))
theorem xf99_ok : cmpFunc Go.Proofs.Tryd.prog 99 ((.two (.tr (rl [0]) false .no) (.two (.tr (rl [2]) false (.ops [{}, { cls := some .p }])) (.tr (rl [2]) false .no)))) = some xf99 := by kernel_rfl
def xf100 : XFunc :=
(.mk 8 [(.tmp 4)] (.seq (.tr (rl [0, 0]) false (.region false [(oP 4 (.mv (.lit (.c (.pv (.bool false))))))])) (.seq (.tr (rl [4]) false (.region false [(oP 5
  (.mv (T 0))), (oP 6 (.mv (T 1))), (oP 7 (.call false [] (.lit (.c (.fn 128 []))) [(T 5), (T 6)])), (oP 4 (.mv (T 7)))])) (.tr (rl [4]) false .ret))))
theorem xf100_ok : cmpFunc Go.Proofs.Tryd.prog 100 ((.two (.tr (rl [0, 0]) false .no) (.two (.tr (rl [4]) false (.ops [{}, {}, { cls := some .p }])) (.tr (rl [4]) false .no)))) = some xf100 := by kernel_rfl
def xf101_l0 : XCode :=
(.seq (.seq (.tr (rl [3, 8, 0, 0, 21]) false (.region false [(oP 34 (.mv (T 14))), (oP 35 (.mv (T 3))), (oP 36 (.bin .lss (T 34) (T 35)))])) (.tr (rl [3, 8, 0,
  0]) false (.cond (T 36) .skip (.tr (rl [12]) false (.exit 0))))) (.seq (.tr (rl [3, 8, 0, 0]) false (.block 1 (.seq (.tr (rl [3, 8, 0, 0, 26]) false (.region
  false [(oP 39 (.mv (T 13))), (oP 40 (.mv (T 14))), (oW 41 (.call false [] (.lit (.c (.fn 64 []))) [(T 39), (T 40)]))])) (.tr (rl [3, 8, 0, 0]) false (.cond (T
  41) (.tr (rl [3, 8, 0, 0]) false (.region false [(oP 42 (.mv (T 12))), (oP 43 (.bin .add (T 42) (tI 1))), (oP 12 (.mv (T 43)))])) .skip))))) (.tr (rl [3, 8,
  0, 0]) false (.region false [(oP 37 (.mv (T 14))), (oP 38 (.bin .add (T 37) (.lit (.c (.pv (.int .i32 1)))))), (oP 14 (.mv (T 38)))]))))
def xf101 : XFunc :=
(.mk 45 [(.tmp 8), (.tmp 9)] (.seq (.tr (rl [0, 0, 0, 0]) false (.region false [(oP 8 (.mv (tI 0))), (oP 9 (.mv (tI 0)))])) (.seq (.seq (.tr (rl [0, 0, 0, 0,
  6]) false (.region false [(oP 15 (.mv (T 0))), (oP 16 (.mv (T 1))), (oP 17 (.mv (T 2))), (oP 18 (.mv (T 3))), (oP 19 (.buildSl [(.pv (.int .i32 0))] 3 1 [(0,
  (1, (T 16))), (1, (1, (T 17))), (2, (1, (T 18)))])), (oP 20 (.call false [] (.lit (.c (.fn 61 []))) [(T 15), (T 19)])), (oP 10 (.mv (T 20)))])) (.seq (.tr (rl
  [0, 0, 0, 0, 6, 11]) false (.region false [(oP 21 (.mv (T 10))), (oP 22 (.bin .neq (T 21) (tI 0)))])) (.tr (rl [0, 0, 0, 0, 4, 0]) false (.cond (T 22) (.seq
  (.tr (rl [8, 0]) false (.region false [(oP 23 (.mv (T 10))), (oP 8 (.mv (tI 0))), (oP 9 (.mv (T 23)))])) (.tr (rl [8, 0]) false .ret)) .skip)))) (.seq (.seq
  (.tr (rl [0, 0, 0, 0, 7]) false (.region false [(oP 24 (.mv (T 2))), (oP 25 (.mv (T 3))), (oP 26 (.call false [] (.lit (.c (.fn 62 []))) [(T 24), (T 25)])),
  (oP 11 (.mv (T 26)))])) (.seq (.tr (rl [0, 0, 0, 0, 7, 16]) false (.region false [(oP 27 (.mv (T 11))), (oP 28 (.bin .neq (T 27) (tI 0)))])) (.tr (rl [0, 0,
  0, 0, 4, 0]) false (.cond (T 28) (.seq (.tr (rl [8, 0]) false (.region false [(oP 29 (.mv (T 11))), (oP 8 (.mv (tI 0))), (oP 9 (.mv (T 29)))])) (.tr (rl [8,
  0]) false .ret)) .skip)))) (.seq (.region false [(oP 12 (.mv (tI 0)))]) (.seq (.tr (rl [2, 0, 8, 0]) false (.region false [(oP 30 (.mv (T 0))), (oP 31 (.mv (T
  1))), (oW 32 (.call false [] (.lit (.c (.fn 63 []))) [(T 30), (T 31)])), (oP 13 (.mv (T 32)))])) (.seq (.seq (.tr (rl [3, 8, 0, 0]) false (.region false [(oP
  33 (.mv (T 2))), (oP 14 (.mv (T 33)))])) (.tr (rl [12]) false (.block 0 (.loop (rl [3, 8, 0, 0]) xf101_l0)))) (.seq (.tr (rl [8, 0]) false (.region false [(oP
  44 (.mv (T 12))), (oP 8 (.mv (T 44))), (oP 9 (.mv (tI 0)))])) (.tr (rl [8, 0]) false .ret)))))))))
theorem xf101_ok : cmpFunc Go.Proofs.Tryd.prog 101 ((.two (.tr (rl [0, 0, 0, 0]) false .no) (.two (.two (.tr (rl [0, 0, 0, 0, 6]) false (.ops [{}, {}, {}, {}, {}, { cls := some .p }])) (.two (.tr (rl [0, 0, 0, 0, 6, 11]) false .no) (.tr (rl [0, 0, 0, 0, 4, 0]) false (.two (.two (.tr (rl [8, 0]) false .no) (.tr (rl [8, 0]) false .no)) .no)))) (.two (.two (.tr (rl [0, 0, 0, 0, 7]) false (.ops [{}, {}, { cls := some .p }])) (.two (.tr (rl [0, 0, 0, 0, 7, 16]) false .no) (.tr (rl [0, 0, 0, 0, 4, 0]) false (.two (.two (.tr (rl [8, 0]) false .no) (.tr (rl [8, 0]) false .no)) .no)))) (.two .no (.two (.tr (rl [2, 0, 8, 0]) false .no) (.two (.two (.tr (rl [3, 8, 0, 0]) false .no) (.tr (rl [12]) false (.loop (rl [3, 8, 0, 0]) (.two (.two (.tr (rl [3, 8, 0, 0, 21]) false .no) (.tr (rl [3, 8, 0, 0]) false (.two .no (.tr (rl [12]) false .no)))) (.two (.tr (rl [3, 8, 0, 0]) false (.two (.tr (rl [3, 8, 0, 0, 26]) false .no) (.tr (rl [3, 8, 0, 0]) false (.two (.tr (rl [3, 8, 0, 0]) false .no) .no)))) (.tr (rl [3, 8, 0, 0]) false .no)))))) (.two (.tr (rl [8, 0]) false .no) (.tr (rl [8, 0]) false .no))))))))) = some xf101 := by kernel_rfl
def xf102_l0 : XCode :=
(.seq (.seq (.tr (rl [0, 0, 0, 6]) false (.region false [(oP 8 (.mv (T 1))), (oP 9 (.call false [] (.lit (.c (.fn 53 []))) [(T 8)]))])) (.tr (rl [0, 0, 0])
  false (.cond (T 9) .skip (.tr [] false (.exit 0))))) (.tr (rl [0, 0, 0, 3, 0]) false (.block 1 (.seq (.seq (.tr (rl [0, 0, 0, 9]) false (.region false [(oP 10
  (.mv (T 0))), (oP 11 (.mv (T 1))), (oW 12 (.call false [] (.lit (.c (.fn 64 []))) [(T 10), (T 11)]))])) (.tr (rl [0, 0, 0, 3, 0]) false (.cond (T 12) (.seq
  (.tr (rl [6, 0]) false (.region false [(oP 13 (.mv (T 1))), (oP 6 (.mv (T 13))), (oP 7 (.mv (tI 0)))])) (.tr (rl [6, 0]) false .ret)) .skip))) (.tr (rl [0, 0,
  0]) false (.region false [(oP 14 (.mv (T 1))), (oP 15 (.mv (T 2))), (oP 16 (.bin .add (T 14) (T 15))), (oP 1 (.mv (T 16)))]))))))
def xf102 : XFunc :=
(.mk 17 [(.tmp 6), (.tmp 7)] (.seq (.tr (rl [0, 0, 0]) false (.region false [(oP 6 (.mv (.lit (.c (.pv (.int .i32 0)))))), (oP 7 (.mv (tI 0)))])) (.seq (.tr (rl
  [6, 0]) false (.block 0 (.loop (rl [0, 0, 0]) xf102_l0))) (.seq (.region false [(oP 6 (.mv (.lit (.c (.pv (.int .i32 0)))))), (oP 7 (.mv (tI 11)))]) (.tr (rl
  [6, 0]) false .ret)))))
theorem xf102_ok : cmpFunc Go.Proofs.Tryd.prog 102 ((.two (.tr (rl [0, 0, 0]) false .no) (.two (.tr (rl [6, 0]) false (.loop (rl [0, 0, 0]) (.two (.two (.tr (rl [0, 0, 0, 6]) false (.ops [{}, { cls := some .p }])) (.tr (rl [0, 0, 0]) false (.two .no (.tr [] false .no)))) (.tr (rl [0, 0, 0, 3, 0]) false (.two (.two (.tr (rl [0, 0, 0, 9]) false .no) (.tr (rl [0, 0, 0, 3, 0]) false (.two (.two (.tr (rl [6, 0]) false .no) (.tr (rl [6, 0]) false .no)) .no))) (.tr (rl [0, 0, 0]) false .no)))))) (.two .no (.tr (rl [6, 0]) false .no))))) = some xf102 := by kernel_rfl
def xf103 : XFunc :=
(.mk 32 [(.tmp 6)] (.seq (.tr (rl [0, 0, 0]) false (.region false [(oP 6 (.mv (tI 0)))])) (.seq (.seq (.tr (rl [0, 0, 0, 5]) false (.region false [(oP 7 (.mv (T
  1))), (oP 8 (.bin .leq (T 7) (tI 2)))])) (.tr (rl [0, 0, 0]) false (.cond (T 8) (.tr (rl [0, 0, 0]) false (.region false [(oP 9 (.mv (T 0))), (oP 10 (.bin
  .sub (T 9) (tI 1))), (oP 11 (.mv (T 1))), (oP 12 (.bin .add (T 11) (tI 12))), (oP 0 (.mv (T 10))), (oP 1 (.mv (T 12)))])) .skip))) (.seq (.tr (rl [6]) false
  (.region false [(oP 13 (.mv (T 0))), (oP 14 (.bin .mul (T 13) (tI 365))), (oP 15 (.mv (T 0))), (oP 16 (.bin .quo (T 15) (tI 4))), (oP 17 (.bin .add (T 14) (T
  16))), (oP 18 (.mv (T 0))), (oP 19 (.bin .quo (T 18) (tI 100))), (oP 20 (.bin .sub (T 17) (T 19))), (oP 21 (.mv (T 0))), (oP 22 (.bin .quo (T 21) (tI 400))),
  (oP 23 (.bin .add (T 20) (T 22))), (oP 24 (.mv (T 1))), (oP 25 (.bin .sub (T 24) (tI 3))), (oP 26 (.iaddrA 12 1 (.lit (.c (.cptr [(.int .i64 0), (.int .i64
  31), (.int .i64 61), (.int .i64 92), (.int .i64 122), (.int .i64 153), (.int .i64 184), (.int .i64 214), (.int .i64 245), (.int .i64 275), (.int .i64 306),
  (.int .i64 337)] 0))) (T 25))), (oR 27 (.load false 1 (T 26))), (oP 28 (.bin .add (T 23) (T 27))), (oP 29 (.mv (T 2))), (oP 30 (.bin .add (T 28) (T 29))), (oP
  31 (.bin .sub (T 30) (tI 1))), (oP 6 (.mv (T 31)))])) (.tr (rl [6]) false .ret)))))
theorem xf103_ok : cmpFunc Go.Proofs.Tryd.prog 103 ((.two (.tr (rl [0, 0, 0]) false .no) (.two (.two (.tr (rl [0, 0, 0, 5]) false .no) (.tr (rl [0, 0, 0]) false (.two (.tr (rl [0, 0, 0]) false .no) .no))) (.two (.tr (rl [6]) false .no) (.tr (rl [6]) false .no))))) = some xf103 := by kernel_rfl
def xf104 : XFunc :=
(.mk 16 [(.tmp 2)] (.seq (.tr (rl [0]) false (.region false [(oP 2 (.mv (.lit (.c (.pv (.bool false))))))])) (.seq (.tr (rl [2]) false (.region false [(oP 3
  (.mv (T 0))), (oP 4 (.bin .rem (T 3) (tI 4))), (oP 5 (.bin .eql (T 4) (tI 0))), (oP 6 (.mv (T 5))), (.mk (some 7) (.mv (T 0)) (some (6, true)) .p), (.mk (some
  8) (.bin .rem (T 7) (tI 100)) (some (6, true)) .p), (.mk (some 9) (.bin .neq (T 8) (tI 0)) (some (6, true)) .p), (.mk (some 10) (.mv (T 9)) (some (6, true))
  .p), (.mk (some 11) (.mv (T 0)) (some (10, false)) .p), (.mk (some 12) (.bin .rem (T 11) (tI 400)) (some (10, false)) .p), (.mk (some 13) (.bin .eql (T 12)
  (tI 0)) (some (10, false)) .p), (.mk (some 14) (.pick (T 10) (.lit (.c (.pv (.bool true)))) (T 13)) (some (6, true)) .p), (oP 15 (.pick (T 6) (T 14) (.lit (.c
  (.pv (.bool false)))))), (oP 2 (.mv (T 15)))])) (.tr (rl [2]) false .ret))))
theorem xf104_ok : cmpFunc Go.Proofs.Tryd.prog 104 ((.two (.tr (rl [0]) false .no) (.two (.tr (rl [2]) false .no) (.tr (rl [2]) false .no)))) = some xf104 := by kernel_rfl
def xf105 : XFunc :=
(.mk 6 [(.tmp 2)] (.seq (.tr (rl [0]) false (.region false [(oP 2 (.mv (.lit (.c (.pv (.bool false))))))])) (.seq (.tr (rl [2]) false (.region false [(oP 3 (.mv
  (T 0))), (oP 4 (.call false [] (.lit (.c (.fn 53 []))) [(T 3)])), (oP 5 (.un .not (T 4))), (oP 2 (.mv (T 5)))])) (.tr (rl [2]) false .ret))))
theorem xf105_ok : cmpFunc Go.Proofs.Tryd.prog 105 ((.two (.tr (rl [0]) false .no) (.two (.tr (rl [2]) false (.ops [{}, { cls := some .p }])) (.tr (rl [2]) false .no)))) = some xf105 := by kernel_rfl
def xf106 : XFunc :=
(.mk 12 [(.tmp 2), (.tmp 3)] (.seq (.tr (rl [0]) false (.region false [(oP 2 (.mv (tI 0))), (oP 3 (.mv (tI 0)))])) (.seq (.seq (.tr (rl [0, 5]) false (.region
  false [(oP 4 (.mv (T 0))), (oP 5 (.call false [] (.lit (.c (.fn 53 []))) [(T 4)])), (oP 6 (.un .not (T 5)))])) (.tr (rl [0, 1, 0]) false (.cond (T 6) (.seq
  (.region false [(oP 2 (.mv (tI 0))), (oP 3 (.mv (tI 11)))]) (.tr (rl [2, 0]) false .ret)) .skip))) (.seq (.tr (rl [2, 0]) false (.region false [(oP 7 (.mv (T
  0))), (oP 8 (.bin .sub (T 7) (.lit (.c (.pv (.int .i32 (-50000))))))), (oP 9 (.convI .i64 (T 8))), (oP 10 (.bin .add (T 9) (tI 6))), (oP 11 (.bin .rem (T 10)
  (tI 7))), (oP 2 (.mv (T 11))), (oP 3 (.mv (tI 0)))])) (.tr (rl [2, 0]) false .ret)))))
theorem xf106_ok : cmpFunc Go.Proofs.Tryd.prog 106 ((.two (.tr (rl [0]) false .no) (.two (.two (.tr (rl [0, 5]) false (.ops [{}, { cls := some .p }])) (.tr (rl [0, 1, 0]) false (.two (.two .no (.tr (rl [2, 0]) false .no)) .no))) (.two (.tr (rl [2, 0]) false .no) (.tr (rl [2, 0]) false .no))))) = some xf106 := by kernel_rfl
def xf109 : XFunc :=
(.mk 6 [(.tmp 2)] (.seq (.tr (rl [1]) false (.region false [(oW 1 (.box (T 0) 9)), (oP 2 (.mv (.lit (.c (.pv (.bool false))))))])) (.seq (.tr (rl [2]) false
  (.region false [(oR 3 (.load true 9 (T 1))), (oP 4 (.call false [] (.lit (.c (.fn 70 []))) [(T 3)])), (oP 5 (.un .not (T 4))), (oP 2 (.mv (T 5)))])) (.tr (rl
  [2]) false .ret))))
theorem xf109_ok : cmpFunc Go.Proofs.Tryd.prog 109 ((.two (.tr (rl [1]) false .no) (.two (.tr (rl [2]) false (.ops [{}, { cls := some .p }])) (.tr (rl [2]) false .no)))) = some xf109 := by kernel_rfl
def xf110 : XFunc :=
(.mk 9 [(.tmp 4)] (.seq (.tr (rl [0, 0]) false (.region false [(oP 4 (.mv (.lit (.c (.pv (.bool false))))))])) (.seq (.tr (rl [4]) false (.region false [(oP 5
  (.mv (T 0))), (oP 6 (.mv (T 1))), (oW 7 (.call false [] (.lit (.c (.fn 131 []))) [(T 5), (T 6)])), (oP 8 (.bin .geq (T 7) (tI 0))), (oP 4 (.mv (T 8)))])) (.tr
  (rl [4]) false .ret))))
theorem xf110_ok : cmpFunc Go.Proofs.Tryd.prog 110 ((.two (.tr (rl [0, 0]) false .no) (.two (.tr (rl [4]) false .no) (.tr (rl [4]) false .no)))) = some xf110 := by kernel_rfl
def xf111_l0 : XCode :=
(.seq (.seq (.tr (rl [0, 0, 0, 5, 0, 0, 6]) false (.region false [(oP 15 (.mv (T 9))), (oP 16 (.mv (T 10))), (oP 17 (.bin .lss (T 15) (T 16)))])) (.tr (rl [0,
  0, 0, 5, 0, 0]) false (.cond (T 17) .skip (.tr (rl [0, 0, 0, 5, 0]) false (.exit 0))))) (.tr (rl [0, 0, 0, 5, 0, 0]) false (.block 1 (.seq (.tr (rl [0, 0, 0,
  5, 0, 0, 0]) false (.region false [(oP 18 (.mv (T 9))), (oP 19 (.mv (T 10))), (oP 20 (.bin .add (T 18) (T 19))), (oP 21 (.convI .u64 (T 20))), (oP 22 (.bin
  .shr (T 21) (.lit (.c (.pv (.int .u64 1)))))), (oP 23 (.convI .i64 (T 22))), (oP 11 (.mv (T 23)))])) (.seq (.tr (rl [0, 0, 0, 5, 0, 0, 0, 19]) false (.region
  false [(oP 24 (.mv (T 2))), (oP 25 (.mv (T 0))), (oP 26 (.mv (T 11))), (oP 27 (.iaddrS 9 (T 25) (T 26))), (oR 28 (.load true 9 (T 27))), (oP 29 (.mv (T 1))),
  (oW 30 (.call false [] (T 24) [(T 28), (T 29)])), (oP 31 (.bin .lss (T 30) (tI 0)))])) (.tr (rl [0, 0, 0, 5, 0, 0]) false (.cond (T 31) (.tr (rl [0, 0, 0, 5,
  0, 0]) false (.region false [(oP 32 (.mv (T 11))), (oP 33 (.bin .add (T 32) (tI 1))), (oP 9 (.mv (T 33)))])) (.tr (rl [0, 0, 0, 5, 0, 0]) false (.region false
  [(oP 34 (.mv (T 11))), (oP 10 (.mv (T 34)))])))))))))
def xf111 : XFunc :=
(.mk 49 [(.tmp 6), (.tmp 7)] (.seq (.tr (rl [0, 0, 0]) false (.region false [(oP 6 (.mv (tI 0))), (oP 7 (.mv (.lit (.c (.pv (.bool false))))))])) (.seq (.tr (rl
  [0, 0, 0, 5]) false (.region false [(oP 12 (.mv (T 0))), (oP 13 (.len (T 12))), (oP 8 (.mv (T 13)))])) (.seq (.tr (rl [0, 0, 0, 5, 0, 0]) false (.region false
  [(oP 14 (.mv (T 8))), (oP 9 (.mv (tI 0))), (oP 10 (.mv (T 14)))])) (.seq (.tr (rl [0, 0, 0, 5, 0]) false (.block 0 (.loop (rl [0, 0, 0, 5, 0, 0]) xf111_l0)))
  (.seq (.tr (rl [6, 0]) false (.region false [(oP 35 (.mv (T 9))), (oP 36 (.mv (T 9))), (oP 37 (.mv (T 8))), (oP 38 (.bin .lss (T 36) (T 37))), (oP 39 (.mv (T
  38))), (.mk (some 40) (.mv (T 2)) (some (39, true)) .p), (.mk (some 41) (.mv (T 0)) (some (39, true)) .p), (.mk (some 42) (.mv (T 9)) (some (39, true)) .p),
  (.mk (some 43) (.iaddrS 9 (T 41) (T 42)) (some (39, true)) .p), (.mk (some 44) (.load true 9 (T 43)) (some (39, true)) .r), (.mk (some 45) (.mv (T 1)) (some
  (39, true)) .p), (.mk (some 46) (.call false [] (T 40) [(T 44), (T 45)]) (some (39, true)) .w), (.mk (some 47) (.bin .eql (T 46) (tI 0)) (some (39, true))
  .p), (oP 48 (.pick (T 39) (T 47) (.lit (.c (.pv (.bool false)))))), (oP 6 (.mv (T 35))), (oP 7 (.mv (T 48)))])) (.tr (rl [6, 0]) false .ret)))))))
theorem xf111_ok : cmpFunc Go.Proofs.Tryd.prog 111 ((.two (.tr (rl [0, 0, 0]) false .no) (.two (.tr (rl [0, 0, 0, 5]) false .no) (.two (.tr (rl [0, 0, 0, 5, 0, 0]) false .no) (.two (.tr (rl [0, 0, 0, 5, 0]) false (.loop (rl [0, 0, 0, 5, 0, 0]) (.two (.two (.tr (rl [0, 0, 0, 5, 0, 0, 6]) false .no) (.tr (rl [0, 0, 0, 5, 0, 0]) false (.two .no (.tr (rl [0, 0, 0, 5, 0]) false .no)))) (.tr (rl [0, 0, 0, 5, 0, 0]) false (.two (.tr (rl [0, 0, 0, 5, 0, 0, 0]) false .no) (.two (.tr (rl [0, 0, 0, 5, 0, 0, 0, 19]) false .no) (.tr (rl [0, 0, 0, 5, 0, 0]) false (.two (.tr (rl [0, 0, 0, 5, 0, 0]) false .no) (.tr (rl [0, 0, 0, 5, 0, 0]) false .no))))))))) (.two (.tr (rl [6, 0]) false .no) (.tr (rl [6, 0]) false .no))))))) = some xf111 := by kernel_rfl
def xf112 : XFunc :=
(.mk 9 [(.tmp 4)] (.seq (.tr (rl [1, 0]) false (.region false [(oW 2 (.box (T 0) 9)), (oP 4 (.mv (tI 0)))])) (.seq (.tr (rl [4]) false (.region false [(oP 5
  (.faddr 0 (T 2))), (oR 6 (.load false 1 (T 5))), (oP 7 (.mv (T 1))), (oP 8 (.call false [] (.lit (.c (.fn 113 []))) [(T 6), (T 7)])), (oP 4 (.mv (T 8)))]))
  (.tr (rl [4]) false .ret))))
theorem xf112_ok : cmpFunc Go.Proofs.Tryd.prog 112 ((.two (.tr (rl [1, 0]) false .no) (.two (.tr (rl [4]) false (.ops [{}, {}, {}, { cls := some .p }])) (.tr (rl [4]) false .no)))) = some xf112 := by kernel_rfl
def xf113 : XFunc :=
(.mk 20 [(.tmp 4)] (.seq (.tr (rl [0, 0]) false (.region false [(oP 4 (.mv (tI 0)))])) (.seq (.tr (rl [0, 0, 3]) false (.region false [(oP 7 (.mv (T 0))), (oP 8
  (.call false [] (.lit (.c (.fn 132 []))) [(T 7)])), (oP 5 (.mv (T 8)))])) (.seq (.tr (rl [0, 0, 3, 0]) false (.region false [(oP 9 (.mv (T 1))), (oP 10 (.call
  false [] (.lit (.c (.fn 132 []))) [(T 9)])), (oP 6 (.mv (T 10)))])) (.seq (.seq (.tr (rl [0, 0, 4, 4]) false (.region false [(oP 11 (.mv (T 5)))])) (.tr (rl
  [0, 0, 2, 1]) false (.cond (T 11) (.seq (.seq (.tr (rl [12]) false (.region false [(oP 12 (.mv (T 6)))])) (.tr (rl [4]) false (.cond (T 12) (.seq (.region
  false [(oP 4 (.mv (tI 0)))]) (.tr (rl [4]) false .ret)) .skip))) (.seq (.region false [(oP 4 (.mv (.lit (.c (.pv (.int .i64 (-1)))))))]) (.tr (rl [4]) false
  .ret))) .skip))) (.seq (.seq (.tr (rl [0, 0, 11]) false (.region false [(oP 13 (.mv (T 6)))])) (.tr (rl [0, 0, 2]) false (.cond (T 13) (.seq (.region false
  [(oP 4 (.mv (tI 1)))]) (.tr (rl [4]) false .ret)) .skip))) (.seq (.seq (.tr (rl [0, 0, 14]) false (.region false [(oP 14 (.mv (T 0))), (oP 15 (.mv (T 1))),
  (oP 16 (.bin .lss (T 14) (T 15)))])) (.tr (rl [0, 0, 2]) false (.cond (T 16) (.seq (.region false [(oP 4 (.mv (.lit (.c (.pv (.int .i64 (-1)))))))]) (.tr (rl
  [4]) false .ret)) .skip))) (.seq (.seq (.tr (rl [19]) false (.region false [(oP 17 (.mv (T 0))), (oP 18 (.mv (T 1))), (oP 19 (.bin .gtr (T 17) (T 18)))]))
  (.tr (rl [4]) false (.cond (T 19) (.seq (.region false [(oP 4 (.mv (tI 1)))]) (.tr (rl [4]) false .ret)) .skip))) (.seq (.region false [(oP 4 (.mv (tI 0)))])
  (.tr (rl [4]) false .ret))))))))))
theorem xf113_ok : cmpFunc Go.Proofs.Tryd.prog 113 ((.two (.tr (rl [0, 0]) false .no) (.two (.tr (rl [0, 0, 3]) false (.ops [{}, { cls := some .p }])) (.two (.tr (rl [0, 0, 3, 0]) false (.ops [{}, { cls := some .p }])) (.two (.two (.tr (rl [0, 0, 4, 4]) false .no) (.tr (rl [0, 0, 2, 1]) false (.two (.two (.two (.tr (rl [12]) false .no) (.tr (rl [4]) false (.two (.two .no (.tr (rl [4]) false .no)) .no))) (.two .no (.tr (rl [4]) false .no))) .no))) (.two (.two (.tr (rl [0, 0, 11]) false .no) (.tr (rl [0, 0, 2]) false (.two (.two .no (.tr (rl [4]) false .no)) .no))) (.two (.two (.tr (rl [0, 0, 14]) false .no) (.tr (rl [0, 0, 2]) false (.two (.two .no (.tr (rl [4]) false .no)) .no))) (.two (.two (.tr (rl [19]) false .no) (.tr (rl [4]) false (.two (.two .no (.tr (rl [4]) false .no)) .no))) (.two .no (.tr (rl [4]) false .no)))))))))) = some xf113 := by kernel_rfl
def xf115 : XFunc :=
(.mk 10 [] (.tr [] false (.region false [(oP 4 (.mv (T 0))), (oP 5 (.mv (T 0))), (oP 6 (.len (T 5))), (oP 7 (.mv (T 1))), (oP 8 (.bin .sub (T 6) (T 7))), (oP 9
  (.call false [] (.lit (.c (.fn 133 []))) [(T 4), (T 8)]))])))
theorem xf115_ok : cmpFunc Go.Proofs.Tryd.prog 115 ((.tr [] false (.ops [{}, {}, {}, {}, {}, { cls := some .p }]))) = some xf115 := by kernel_rfl
def xf116_l0 : XCode :=
(.seq (.region false [(oP 19 (.bin .lss (T 18) (T 17)))]) (.seq (.tr (rl [1, 5, 8, 0, 0]) false (.cond (T 19) .skip (.tr (rl [7]) false (.exit 0)))) (.seq (.tr
  (rl [1, 5, 8, 0, 0]) false (.block 1 (.seq (.tr (rl [1, 5, 1, 6, 0, 0]) false (.region false [(oP 20 (.iaddrS 3 (T 16) (T 18))), (oR 21 (.load true 3 (T
  20))), (oW 9 (.alloc [(.pv (.int .i64 0)), (.pv (.int .i64 0)), (.pv (.int .i64 0))])), (sW (.store 3 (T 9) (T 21)))])) (.seq (.tr (rl [1, 5, 1, 6, 0, 0, 5])
  false (.region false [(oP 22 (.mv (T 1))), (oR 23 (.load true 3 (T 9))), (oW 24 (.call false [] (T 22) [(T 23)]))])) (.tr (rl [1, 5, 8, 0, 0]) false (.cond (T
  24) (.tr (rl [1, 5, 8, 0, 0]) false (.region false [(oP 25 (.mv (T 7))), (oP 26 (.faddr 1 (T 9))), (oP 27 (.faddr 1 (T 26))), (oR 28 (.load false 1 (T 27))),
  (oP 29 (.bin .add (T 25) (T 28))), (oP 7 (.mv (T 29)))])) .skip)))))) (.tr (rl [1, 5, 8, 0, 0]) false (.region false [(oP 30 (.bin .add (T 18) (tI 1))), (oP
  18 (.mv (T 30)))])))))
def xf116 : XFunc :=
(.mk 32 [(.tmp 4), (.tmp 5)] (.seq (.tr (rl [1, 0]) false (.region false [(oW 2 (.box (T 0) 7)), (oP 4 (.mv (tI 0))), (oP 5 (.mv (tI 0)))])) (.seq (.seq (.tr
  (rl [1, 0, 3]) false (.region false [(oR 10 (.load true 7 (T 2))), (oP 11 (.call false [] (.lit (.c (.fn 36 []))) [(T 10)])), (oP 6 (.mv (T 11)))])) (.seq
  (.tr (rl [1, 0, 3, 6]) false (.region false [(oP 12 (.mv (T 6))), (oP 13 (.bin .neq (T 12) (tI 0)))])) (.tr (rl [1, 0, 1, 0]) false (.cond (T 13) (.seq (.tr
  (rl [4, 0]) false (.region false [(oP 14 (.mv (T 6))), (oP 4 (.mv (tI 0))), (oP 5 (.mv (T 14)))])) (.tr (rl [4, 0]) false .ret)) .skip)))) (.seq (.region
  false [(oP 7 (.mv (tI 0)))]) (.seq (.seq (.tr (rl [1, 5, 8, 0, 0]) false (.region false [(oP 15 (.faddr 3 (T 2))), (oR 16 (.load false 1 (T 15))), (oP 17
  (.len (T 16))), (oP 18 (.mv (tI 0)))])) (.tr (rl [7]) false (.block 0 (.loop (rl [1, 5, 8, 0, 0]) xf116_l0)))) (.seq (.tr (rl [4, 0]) false (.region false
  [(oP 31 (.mv (T 7))), (oP 4 (.mv (T 31))), (oP 5 (.mv (tI 0)))])) (.tr (rl [4, 0]) false .ret)))))))
theorem xf116_ok : cmpFunc Go.Proofs.Tryd.prog 116 ((.two (.tr (rl [1, 0]) false .no) (.two (.two (.tr (rl [1, 0, 3]) false (.ops [{}, { cls := some .p }])) (.two (.tr (rl [1, 0, 3, 6]) false .no) (.tr (rl [1, 0, 1, 0]) false (.two (.two (.tr (rl [4, 0]) false .no) (.tr (rl [4, 0]) false .no)) .no)))) (.two .no (.two (.two (.tr (rl [1, 5, 8, 0, 0]) false .no) (.tr (rl [7]) false (.loop (rl [1, 5, 8, 0, 0]) (.two .no (.two (.tr (rl [1, 5, 8, 0, 0]) false (.two .no (.tr (rl [7]) false .no))) (.two (.tr (rl [1, 5, 8, 0, 0]) false (.two (.tr (rl [1, 5, 1, 6, 0, 0]) false .no) (.two (.tr (rl [1, 5, 1, 6, 0, 0, 5]) false .no) (.tr (rl [1, 5, 8, 0, 0]) false (.two (.tr (rl [1, 5, 8, 0, 0]) false .no) .no))))) (.tr (rl [1, 5, 8, 0, 0]) false .no))))))) (.two (.tr (rl [4, 0]) false .no) (.tr (rl [4, 0]) false .no))))))) = some xf116 := by kernel_rfl
def xf117 : XFunc :=
(.mk 16 [(.tmp 4)] (.seq (.tr (rl [1, 0, 0]) false (.region false [(oW 3 (.box (T 0) 3)), (oP 4 (.mv (.lit (.c (.pv (.bool false))))))])) (.seq (.tr (rl [4])
  false (.region false [(oP 5 (.faddr 0 (T 3))), (oR 6 (.load false 1 (T 5))), (oR 7 (.load false 1 (T 1))), (oP 8 (.bin .eql (T 6) (T 7))), (oP 9 (.mv (T 8))),
  (.mk (some 10) (.faddr 1 (T 3)) (some (9, true)) .p), (.mk (some 11) (.faddr 0 (T 10)) (some (9, true)) .p), (.mk (some 12) (.load false 1 (T 11)) (some (9,
  true)) .r), (.mk (some 13) (.load false 1 (T 2)) (some (9, true)) .r), (.mk (some 14) (.bin .eql (T 12) (T 13)) (some (9, true)) .p), (oP 15 (.pick (T 9) (T
  14) (.lit (.c (.pv (.bool false)))))), (oP 4 (.mv (T 15)))])) (.tr (rl [4]) false .ret))))
theorem xf117_ok : cmpFunc Go.Proofs.Tryd.prog 117 ((.two (.tr (rl [1, 0, 0]) false .no) (.two (.tr (rl [4]) false .no) (.tr (rl [4]) false .no)))) = some xf117 := by kernel_rfl
def xf121_l0 : XCode :=
(.seq (.region false [(oP 9 (.bin .lss (T 8) (T 7)))]) (.seq (.tr (rl [0, 0, 5, 0]) false (.cond (T 9) .skip (.tr [] false (.exit 0)))) (.seq (.tr (rl [0, 0, 2,
  2, 0]) false (.block 1 (.seq (.tr (rl [0, 0, 3, 1, 0]) false (.region false [(oP 10 (.mv (T 8))), (oP 5 (.mv (T 10)))])) (.seq (.tr (rl [0, 0, 3, 1, 0, 7])
  false (.region false [(oP 11 (.mv (T 1))), (oP 12 (.mv (T 0))), (oP 13 (.mv (T 5))), (oP 14 (.iaddrS 3 (T 12) (T 13))), (oR 15 (.load true 3 (T 14))), (oW 16
  (.call false [] (T 11) [(T 15)]))])) (.tr (rl [0, 0, 2, 2, 0]) false (.cond (T 16) (.seq (.tr (rl [4]) false (.region false [(oP 17 (.mv (T 5))), (oP 4 (.mv
  (T 17)))])) (.tr (rl [4]) false .ret)) .skip)))))) (.tr (rl [0, 0, 5, 0]) false (.region false [(oP 18 (.bin .add (T 8) (tI 1))), (oP 8 (.mv (T 18)))])))))
def xf121 : XFunc :=
(.mk 19 [(.tmp 4)] (.seq (.tr (rl [0, 0]) false (.region false [(oP 4 (.mv (tI 0)))])) (.seq (.seq (.tr (rl [0, 0, 5, 0]) false (.region false [(oP 6 (.mv (T
  0))), (oP 7 (.len (T 6))), (oP 8 (.mv (tI 0)))])) (.tr (rl [4]) false (.block 0 (.loop (rl [0, 0, 5, 0]) xf121_l0)))) (.seq (.region false [(oP 4 (.mv (.lit
  (.c (.pv (.int .i64 (-1)))))))]) (.tr (rl [4]) false .ret)))))
theorem xf121_ok : cmpFunc Go.Proofs.Tryd.prog 121 ((.two (.tr (rl [0, 0]) false .no) (.two (.two (.tr (rl [0, 0, 5, 0]) false .no) (.tr (rl [4]) false (.loop (rl [0, 0, 5, 0]) (.two .no (.two (.tr (rl [0, 0, 5, 0]) false (.two .no (.tr [] false .no))) (.two (.tr (rl [0, 0, 2, 2, 0]) false (.two (.tr (rl [0, 0, 3, 1, 0]) false .no) (.two (.tr (rl [0, 0, 3, 1, 0, 7]) false .no) (.tr (rl [0, 0, 2, 2, 0]) false (.two (.two (.tr (rl [4]) false .no) (.tr (rl [4]) false .no)) .no))))) (.tr (rl [0, 0, 5, 0]) false .no))))))) (.two .no (.tr (rl [4]) false .no))))) = some xf121 := by kernel_rfl
def xf122 : XFunc :=
(.mk 9 [(.tmp 2)] (.seq (.tr (rl [0]) false (.region false [(oP 2 (.mv (.lit (.c (.pv (.bool false))))))])) (.seq (.tr (rl [2]) false (.region false [(oP 3 (.mv
  (T 0))), (oP 4 (.bin .lss (T 3) (.lit (.c (.pv (.int .i32 32)))))), (oP 5 (.mv (T 4))), (.mk (some 6) (.mv (T 0)) (some (5, false)) .p), (.mk (some 7) (.bin
  .gtr (T 6) (.lit (.c (.pv (.int .i32 126))))) (some (5, false)) .p), (oP 8 (.pick (T 5) (.lit (.c (.pv (.bool true)))) (T 7))), (oP 2 (.mv (T 8)))])) (.tr (rl
  [2]) false .ret))))
theorem xf122_ok : cmpFunc Go.Proofs.Tryd.prog 122 ((.two (.tr (rl [0]) false .no) (.two (.tr (rl [2]) false .no) (.tr (rl [2]) false .no)))) = some xf122 := by kernel_rfl
def xf123 : XFunc :=
(.mk 9 [(.tmp 4)] (.seq (.tr (rl [0, 0]) false (.region false [(oP 4 (.mv (.lit (.c (.pv (.bool false))))))])) (.seq (.tr (rl [4]) false (.region false [(oP 5
  (.mv (T 0))), (oP 6 (.mv (T 1))), (oW 7 (.call false [] (.lit (.c (.fn 137 []))) [(T 5), (T 6)])), (oP 8 (.bin .geq (T 7) (tI 0))), (oP 4 (.mv (T 8)))])) (.tr
  (rl [4]) false .ret))))
theorem xf123_ok : cmpFunc Go.Proofs.Tryd.prog 123 ((.two (.tr (rl [0, 0]) false .no) (.two (.tr (rl [4]) false .no) (.tr (rl [4]) false .no)))) = some xf123 := by kernel_rfl
def xf124_l0 : XCode :=
(.seq (.region false [(oP 14 (.bin .lss (T 13) (T 12)))]) (.seq (.tr (rl [0, 0, 10, 0]) false (.cond (T 14) .skip (.tr [] false (.exit 0)))) (.seq (.tr (rl [0,
  0, 2, 7, 0]) false (.block 1 (.seq (.tr (rl [0, 0, 3, 6, 0]) false (.region false [(oP 15 (.mv (T 13))), (oP 5 (.mv (T 15)))])) (.seq (.tr (rl [0, 0, 10, 0,
  10]) false (.region true [(oP 16 (.mv (T 0))), (oP 17 (.mv (T 5))), (oP 18 (.iaddrS 3 (T 16) (T 17))), (oR 19 (.load true 3 (T 18))), (oP 20 (.mv (T 1))), (oP
  21 (.mv (T 5))), (oP 22 (.iaddrS 3 (T 20) (T 21))), (oR 23 (.load true 3 (T 22))), (oP 24 (.eqA true [0, 0, 0] (T 19) (T 23)))])) (.tr (rl [0, 0, 2, 7, 0])
  false (.cond (T 24) (.seq (.region false [(oP 4 (.mv (.lit (.c (.pv (.bool false))))))]) (.tr (rl [4]) false .ret)) .skip)))))) (.tr (rl [0, 0, 10, 0]) false
  (.region false [(oP 25 (.bin .add (T 13) (tI 1))), (oP 13 (.mv (T 25)))])))))
def xf124 : XFunc :=
(.mk 26 [(.tmp 4)] (.seq (.tr (rl [0, 0]) false (.region false [(oP 4 (.mv (.lit (.c (.pv (.bool false))))))])) (.seq (.seq (.tr (rl [0, 0, 8]) false (.region
  false [(oP 6 (.mv (T 0))), (oP 7 (.len (T 6))), (oP 8 (.mv (T 1))), (oP 9 (.len (T 8))), (oP 10 (.bin .neq (T 7) (T 9)))])) (.tr (rl [0, 0, 2]) false (.cond
  (T 10) (.seq (.region false [(oP 4 (.mv (.lit (.c (.pv (.bool false))))))]) (.tr (rl [4]) false .ret)) .skip))) (.seq (.seq (.tr (rl [0, 0, 10, 0]) false
  (.region false [(oP 11 (.mv (T 0))), (oP 12 (.len (T 11))), (oP 13 (.mv (tI 0)))])) (.tr (rl [4]) false (.block 0 (.loop (rl [0, 0, 10, 0]) xf124_l0)))) (.seq
  (.region false [(oP 4 (.mv (.lit (.c (.pv (.bool true))))))]) (.tr (rl [4]) false .ret))))))
theorem xf124_ok : cmpFunc Go.Proofs.Tryd.prog 124 ((.two (.tr (rl [0, 0]) false .no) (.two (.two (.tr (rl [0, 0, 8]) false .no) (.tr (rl [0, 0, 2]) false (.two (.two .no (.tr (rl [4]) false .no)) .no))) (.two (.two (.tr (rl [0, 0, 10, 0]) false .no) (.tr (rl [4]) false (.loop (rl [0, 0, 10, 0]) (.two .no (.two (.tr (rl [0, 0, 10, 0]) false (.two .no (.tr [] false .no))) (.two (.tr (rl [0, 0, 2, 7, 0]) false (.two (.tr (rl [0, 0, 3, 6, 0]) false .no) (.two (.tr (rl [0, 0, 10, 0, 10]) false (.draw [0, 1, 2, 3, 4, 5, 6, 7, 8] [])) (.tr (rl [0, 0, 2, 7, 0]) false (.two (.two .no (.tr (rl [4]) false .no)) .no))))) (.tr (rl [0, 0, 10, 0]) false .no))))))) (.two .no (.tr (rl [4]) false .no)))))) = some xf124 := by kernel_rfl
def xf125_l0 : XCode :=
(.seq (.region false [(oP 9 (.bin .lss (T 8) (T 7)))]) (.seq (.tr (rl [0, 0, 5, 0]) false (.cond (T 9) .skip (.tr [] false (.exit 0)))) (.seq (.tr (rl [0, 0, 2,
  2, 0]) false (.block 1 (.seq (.tr (rl [0, 0, 3, 1, 0]) false (.region false [(oP 10 (.mv (T 8))), (oP 5 (.mv (T 10)))])) (.seq (.tr (rl [0, 0, 3, 1, 0, 7])
  false (.region false [(oP 11 (.mv (T 1))), (oP 12 (.mv (T 0))), (oP 13 (.mv (T 5))), (oP 14 (.iaddrS 1 (T 12) (T 13))), (oR 15 (.load false 1 (T 14))), (oW 16
  (.call false [] (T 11) [(T 15)]))])) (.tr (rl [0, 0, 2, 2, 0]) false (.cond (T 16) (.seq (.tr (rl [4]) false (.region false [(oP 17 (.mv (T 5))), (oP 4 (.mv
  (T 17)))])) (.tr (rl [4]) false .ret)) .skip)))))) (.tr (rl [0, 0, 5, 0]) false (.region false [(oP 18 (.bin .add (T 8) (tI 1))), (oP 8 (.mv (T 18)))])))))
def xf125 : XFunc :=
(.mk 19 [(.tmp 4)] (.seq (.tr (rl [0, 0]) false (.region false [(oP 4 (.mv (tI 0)))])) (.seq (.seq (.tr (rl [0, 0, 5, 0]) false (.region false [(oP 6 (.mv (T
  0))), (oP 7 (.len (T 6))), (oP 8 (.mv (tI 0)))])) (.tr (rl [4]) false (.block 0 (.loop (rl [0, 0, 5, 0]) xf125_l0)))) (.seq (.region false [(oP 4 (.mv (.lit
  (.c (.pv (.int .i64 (-1)))))))]) (.tr (rl [4]) false .ret)))))
theorem xf125_ok : cmpFunc Go.Proofs.Tryd.prog 125 ((.two (.tr (rl [0, 0]) false .no) (.two (.two (.tr (rl [0, 0, 5, 0]) false .no) (.tr (rl [4]) false (.loop (rl [0, 0, 5, 0]) (.two .no (.two (.tr (rl [0, 0, 5, 0]) false (.two .no (.tr [] false .no))) (.two (.tr (rl [0, 0, 2, 2, 0]) false (.two (.tr (rl [0, 0, 3, 1, 0]) false .no) (.two (.tr (rl [0, 0, 3, 1, 0, 7]) false .no) (.tr (rl [0, 0, 2, 2, 0]) false (.two (.two (.tr (rl [4]) false .no) (.tr (rl [4]) false .no)) .no))))) (.tr (rl [0, 0, 5, 0]) false .no))))))) (.two .no (.tr (rl [4]) false .no))))) = some xf125 := by kernel_rfl
def xf126 : XFunc :=
(.mk 15 [(.tmp 6)] (.seq (.tr (rl [0, 0, 0]) false (.region false [(oP 6 (.mv (.lit (.c (.pv (.bool false))))))])) (.seq (.tr (rl [6]) false (.region false [(oP
  7 (.mv (T 0))), (oP 8 (.mv (T 1))), (oP 9 (.bin .geq (T 7) (T 8))), (oP 10 (.mv (T 9))), (.mk (some 11) (.mv (T 0)) (some (10, true)) .p), (.mk (some 12) (.mv
  (T 2)) (some (10, true)) .p), (.mk (some 13) (.bin .leq (T 11) (T 12)) (some (10, true)) .p), (oP 14 (.pick (T 10) (T 13) (.lit (.c (.pv (.bool false)))))),
  (oP 6 (.mv (T 14)))])) (.tr (rl [6]) false .ret))))
theorem xf126_ok : cmpFunc Go.Proofs.Tryd.prog 126 ((.two (.tr (rl [0, 0, 0]) false .no) (.two (.tr (rl [6]) false .no) (.tr (rl [6]) false .no)))) = some xf126 := by kernel_rfl
def xf127 : XFunc :=
(.mk 5 [(.tmp 2)] (.seq (.tr (rl [0]) false (.region false [(oP 2 (.mv (.lit (.c (.pv (.str []))))))])) (.seq (.tr (rl [2]) false (.region false [(oP 3 (.mv (T
  0))), (oP 4 (.call false [] (.lit (.c (.fn 138 []))) [(T 3), (tI 10)])), (oP 2 (.mv (T 4)))])) (.tr (rl [2]) false .ret))))
theorem xf127_ok : cmpFunc Go.Proofs.Tryd.prog 127 ((.two (.tr (rl [0]) false .no) (.two (.tr (rl [2]) false (.ops [{}, { cls := some .p }])) (.tr (rl [2]) false .no)))) = some xf127 := by kernel_rfl
def xf128 : XFunc :=
(.mk 18 [(.tmp 4)] (.seq (.tr (rl [0, 0]) false (.region false [(oP 4 (.mv (.lit (.c (.pv (.bool false))))))])) (.seq (.tr (rl [4]) false (.region false [(oP 5
  (.mv (T 0))), (oP 6 (.lenS (T 5))), (oP 7 (.mv (T 1))), (oP 8 (.lenS (T 7))), (oP 9 (.bin .geq (T 6) (T 8))), (oP 10 (.mv (T 9))), (.mk (some 11) (.mv (T 0))
  (some (10, true)) .p), (.mk (some 12) (.mv (T 1)) (some (10, true)) .p), (.mk (some 13) (.lenS (T 12)) (some (10, true)) .p), (.mk (some 14) (.sliceS (T 11)
  none (some (T 13))) (some (10, true)) .p), (.mk (some 15) (.mv (T 1)) (some (10, true)) .p), (.mk (some 16) (.bin .eql (T 14) (T 15)) (some (10, true)) .p),
  (oP 17 (.pick (T 10) (T 16) (.lit (.c (.pv (.bool false)))))), (oP 4 (.mv (T 17)))])) (.tr (rl [4]) false .ret))))
theorem xf128_ok : cmpFunc Go.Proofs.Tryd.prog 128 ((.two (.tr (rl [0, 0]) false .no) (.two (.tr (rl [4]) false .no) (.tr (rl [4]) false .no)))) = some xf128 := by kernel_rfl
def xf131_l0 : XCode :=
(.seq (.region false [(oP 9 (.bin .lss (T 8) (T 7)))]) (.seq (.tr (rl [0, 0, 5, 0]) false (.cond (T 9) .skip (.tr [] false (.exit 0)))) (.seq (.tr (rl [0, 0, 2,
  2, 0]) false (.block 1 (.seq (.tr (rl [0, 0, 3, 1, 0]) false (.region false [(oP 10 (.mv (T 8))), (oP 5 (.mv (T 10)))])) (.seq (.tr (rl [0, 0, 3, 1, 0, 7])
  false (.region false [(oP 11 (.mv (T 1))), (oP 12 (.mv (T 0))), (oP 13 (.mv (T 5))), (oP 14 (.iaddrS 9 (T 12) (T 13))), (oR 15 (.load true 9 (T 14))), (oW 16
  (.call false [] (T 11) [(T 15)]))])) (.tr (rl [0, 0, 2, 2, 0]) false (.cond (T 16) (.seq (.tr (rl [4]) false (.region false [(oP 17 (.mv (T 5))), (oP 4 (.mv
  (T 17)))])) (.tr (rl [4]) false .ret)) .skip)))))) (.tr (rl [0, 0, 5, 0]) false (.region false [(oP 18 (.bin .add (T 8) (tI 1))), (oP 8 (.mv (T 18)))])))))
def xf131 : XFunc :=
(.mk 19 [(.tmp 4)] (.seq (.tr (rl [0, 0]) false (.region false [(oP 4 (.mv (tI 0)))])) (.seq (.seq (.tr (rl [0, 0, 5, 0]) false (.region false [(oP 6 (.mv (T
  0))), (oP 7 (.len (T 6))), (oP 8 (.mv (tI 0)))])) (.tr (rl [4]) false (.block 0 (.loop (rl [0, 0, 5, 0]) xf131_l0)))) (.seq (.region false [(oP 4 (.mv (.lit
  (.c (.pv (.int .i64 (-1)))))))]) (.tr (rl [4]) false .ret)))))
theorem xf131_ok : cmpFunc Go.Proofs.Tryd.prog 131 ((.two (.tr (rl [0, 0]) false .no) (.two (.two (.tr (rl [0, 0, 5, 0]) false .no) (.tr (rl [4]) false (.loop (rl [0, 0, 5, 0]) (.two .no (.two (.tr (rl [0, 0, 5, 0]) false (.two .no (.tr [] false .no))) (.two (.tr (rl [0, 0, 2, 2, 0]) false (.two (.tr (rl [0, 0, 3, 1, 0]) false .no) (.two (.tr (rl [0, 0, 3, 1, 0, 7]) false .no) (.tr (rl [0, 0, 2, 2, 0]) false (.two (.two (.tr (rl [4]) false .no) (.tr (rl [4]) false .no)) .no))))) (.tr (rl [0, 0, 5, 0]) false .no))))))) (.two .no (.tr (rl [4]) false .no))))) = some xf131 := by kernel_rfl
def xf132 : XFunc :=
(.mk 6 [(.tmp 2)] (.seq (.tr (rl [0]) false (.region false [(oP 2 (.mv (.lit (.c (.pv (.bool false))))))])) (.seq (.tr (rl [2]) false (.region false [(oP 3 (.mv
  (T 0))), (oP 4 (.mv (T 0))), (oP 5 (.bin .neq (T 3) (T 4))), (oP 2 (.mv (T 5)))])) (.tr (rl [2]) false .ret))))
theorem xf132_ok : cmpFunc Go.Proofs.Tryd.prog 132 ((.two (.tr (rl [0]) false .no) (.two (.tr (rl [2]) false .no) (.tr (rl [2]) false .no)))) = some xf132 := by kernel_rfl
def xf133 : XFunc :=
(.mk 14 [] (.seq (.tr (rl [0, 0]) false (.region false [(oP 4 (.mv (T 0))), (oP 5 (.mv (T 1))), (oP 6 (.sliceV 9 (T 4) none (some (T 5)) none)), (oP 7 (.call
  false [] (.lit (.c (.fn 139 []))) [(T 6)]))])) (.seq (.tr (rl [0]) false (.region false [(oP 8 (.mv (T 0))), (oP 9 (.mv (T 1))), (oP 10 (.sliceV 9 (T 8) (some
  (T 9)) none none)), (oP 11 (.call false [] (.lit (.c (.fn 139 []))) [(T 10)]))])) (.tr [] false (.region false [(oP 12 (.mv (T 0))), (oP 13 (.call false []
  (.lit (.c (.fn 139 []))) [(T 12)]))])))))
theorem xf133_ok : cmpFunc Go.Proofs.Tryd.prog 133 ((.two (.tr (rl [0, 0]) false (.ops [{}, {}, {}, { cls := some .p }])) (.two (.tr (rl [0]) false (.ops [{}, {}, {}, { cls := some .p }])) (.tr [] false (.ops [{}, { cls := some .p }]))))) = some xf133 := by kernel_rfl
def xf137 : XFunc :=
(.mk 8 [(.tmp 4)] (.seq (.tr (rl [0, 0]) false (.region false [(oP 4 (.mv (tI 0)))])) (.seq (.tr (rl [4]) false (.region false [(oP 5 (.mv (T 0))), (oP 6 (.mv
  (T 1))), (oW 7 (.call false [] (.lit (.c (.fn 141 []))) [(T 5), (T 6), (.lit (.c (.pv (.bool true))))])), (oP 4 (.mv (T 7)))])) (.tr (rl [4]) false .ret))))
theorem xf137_ok : cmpFunc Go.Proofs.Tryd.prog 137 ((.two (.tr (rl [0, 0]) false .no) (.two (.tr (rl [4]) false .no) (.tr (rl [4]) false .no)))) = some xf137 := by kernel_rfl
def xf138 : XFunc :=
(.mk 54 [(.tmp 4)] (.seq (.tr (rl [0, 0]) false (.region false [(oP 4 (.mv (.lit (.c (.pv (.str []))))))])) (.seq (.seq (.tr (rl [0, 0, 9]) false (.region false
  [(oP 10 (.mv (T 1))), (oP 11 (.bin .eql (T 10) (tI 10)))])) (.tr (rl [0, 0, 2]) false (.cond (T 11) (.seq (.seq (.tr (rl [0, 16]) false (.region false [(oP 12
  (.mv (T 0))), (oP 13 (.bin .leq (tI 0) (T 12))), (oP 14 (.mv (T 13))), (.mk (some 15) (.mv (T 0)) (some (14, true)) .p), (.mk (some 16) (.bin .lss (T 15) (tI
  100)) (some (14, true)) .p), (oP 17 (.pick (T 14) (T 16) (.lit (.c (.pv (.bool false))))))])) (.tr (rl [0, 3]) false (.cond (T 17) (.seq (.tr (rl [4]) false
  (.region false [(oP 18 (.mv (T 0))), (oP 19 (.call false [] (.lit (.c (.fn 142 []))) [(T 18)])), (oP 4 (.mv (T 19)))])) (.tr (rl [4]) false .ret)) .skip)))
  (.seq (.region false [(oW 5 (.alloc [(.pv (.int .u8 0)), (.pv (.int .u8 0)), (.pv (.int .u8 0)), (.pv (.int .u8 0)), (.pv (.int .u8 0)), (.pv (.int .u8 0)),
  (.pv (.int .u8 0)), (.pv (.int .u8 0)), (.pv (.int .u8 0)), (.pv (.int .u8 0)), (.pv (.int .u8 0)), (.pv (.int .u8 0)), (.pv (.int .u8 0)), (.pv (.int .u8
  0)), (.pv (.int .u8 0)), (.pv (.int .u8 0)), (.pv (.int .u8 0)), (.pv (.int .u8 0)), (.pv (.int .u8 0)), (.pv (.int .u8 0)), (.pv (.int .u8 0)), (.pv (.int
  .u8 0)), (.pv (.int .u8 0)), (.pv (.int .u8 0))]))]) (.seq (.tr (rl [0, 4, 0]) false (.region false [(oP 20 (.mv (T 0))), (oP 21 (.convI .u64 (T 20))), (oP 6
  (.mv (T 21)))])) (.seq (.seq (.tr (rl [0, 4, 0, 16]) false (.region false [(oP 22 (.mv (T 0))), (oP 23 (.bin .lss (T 22) (tI 0)))])) (.tr (rl [0, 4, 0]) false
  (.cond (T 23) (.tr (rl [0, 4, 0]) false (.region false [(oP 24 (.mv (T 6))), (oP 25 (.un .neg (T 24))), (oP 6 (.mv (T 25)))])) .skip))) (.seq (.tr (rl [0, 4,
  0, 0]) false (.region false [(oP 26 (.mv (T 6))), (oP 27 (.call false [] (.lit (.c (.fn 143 []))) [(T 26)])), (oP 7 (.mv (T 27)))])) (.seq (.tr (rl [0, 4, 1])
  false (.region false [(oP 28 (.mv (T 7))), (oP 29 (.bin .add (tI 1) (T 28))), (oR 30 (.sliceA 24 1 (T 5) (some (tI 1)) (some (T 29)))), (oP 31 (.mv (T 6))),
  (oP 32 (.call false [] (.lit (.c (.fn 144 []))) [(T 30), (T 31)]))])) (.seq (.seq (.tr (rl [5, 1, 26]) false (.region false [(oP 33 (.mv (T 0))), (oP 34 (.bin
  .lss (T 33) (tI 0)))])) (.tr (rl [4, 0, 1]) false (.cond (T 34) (.seq (.tr (rl [5, 1]) false (.region false [(oP 35 (.iaddrA 24 1 (T 5) (tI 0))), (sW (.store
  1 (T 35) (.lit (.c (.pv (.int .u8 45))))))])) (.seq (.tr (rl [4]) false (.region false [(oP 36 (.mv (T 7))), (oP 37 (.bin .add (tI 1) (T 36))), (oR 38
  (.sliceA 24 1 (T 5) none (some (T 37)))), (oP 39 (.bytesS (T 38))), (oP 4 (.mv (T 39)))])) (.tr (rl [4]) false .ret))) .skip))) (.seq (.tr (rl [4]) false
  (.region false [(oP 40 (.mv (T 7))), (oP 41 (.bin .add (tI 1) (T 40))), (oR 42 (.sliceA 24 1 (T 5) (some (tI 1)) (some (T 41)))), (oP 43 (.bytesS (T 42))),
  (oP 4 (.mv (T 43)))])) (.tr (rl [4]) false .ret))))))))) .skip))) (.seq (.tr (rl [9]) false (.region false [(oP 45 (.mv (T 0))), (oP 46 (.convI .u64 (T 45))),
  (oP 47 (.mv (T 1))), (oP 48 (.mv (T 0))), (oP 49 (.bin .lss (T 48) (tI 0))), (oP 50 (.call false [] (.lit (.c (.fn 145 []))) [(.lit (.c (.pv (.sl .nil 0
  [])))), (T 46), (T 47), (T 49), (.lit (.c (.pv (.bool false))))])), (oP 44 (.mv (T 50))), (oP 51 (.extr 0 (T 44))), (oP 52 (.extr 1 (T 44))), (oP 8 (.mv (T
  51))), (oP 9 (.mv (T 52)))])) (.seq (.tr (rl [4]) false (.region false [(oP 53 (.mv (T 9))), (oP 4 (.mv (T 53)))])) (.tr (rl [4]) false .ret))))))
theorem xf138_ok : cmpFunc Go.Proofs.Tryd.prog 138 ((.two (.tr (rl [0, 0]) false .no) (.two (.two (.tr (rl [0, 0, 9]) false .no) (.tr (rl [0, 0, 2]) false (.two (.two (.two (.tr (rl [0, 16]) false .no) (.tr (rl [0, 3]) false (.two (.two (.tr (rl [4]) false (.ops [{}, { cls := some .p }])) (.tr (rl [4]) false .no)) .no))) (.two .no (.two (.tr (rl [0, 4, 0]) false .no) (.two (.two (.tr (rl [0, 4, 0, 16]) false .no) (.tr (rl [0, 4, 0]) false (.two (.tr (rl [0, 4, 0]) false .no) .no))) (.two (.tr (rl [0, 4, 0, 0]) false (.ops [{}, { cls := some .p }])) (.two (.tr (rl [0, 4, 1]) false (.ops [{}, {}, {}, {}, { cls := some .p }])) (.two (.two (.tr (rl [5, 1, 26]) false .no) (.tr (rl [4, 0, 1]) false (.two (.two (.tr (rl [5, 1]) false .no) (.two (.tr (rl [4]) false .no) (.tr (rl [4]) false .no))) .no))) (.two (.tr (rl [4]) false .no) (.tr (rl [4]) false .no))))))))) .no))) (.two (.tr (rl [9]) false (.ops [{}, {}, {}, {}, {}, { cls := some .p }])) (.two (.tr (rl [4]) false .no) (.tr (rl [4]) false .no)))))) = some xf138 := by kernel_rfl
def xf139_l0 : XCode :=
(.seq (.seq (.tr (rl [0, 1, 0, 5]) false (.region false [(oP 7 (.mv (T 2))), (oP 8 (.mv (T 3))), (oP 9 (.bin .lss (T 7) (T 8)))])) (.tr (rl [0, 1, 0]) false
  (.cond (T 9) .skip (.tr [] false (.exit 0))))) (.seq (.tr (rl [0, 1, 0]) false (.block 1 (.tr (rl [0, 1, 0]) false (.region true [(oP 14 (.mv (T 0))), (oP 15
  (.mv (T 2))), (oP 16 (.mv (T 0))), (oP 17 (.mv (T 3))), (oP 18 (.mv (T 0))), (oP 19 (.mv (T 3))), (oP 20 (.iaddrS 9 (T 18) (T 19))), (oR 21 (.load true 9 (T
  20))), (oP 22 (.mv (T 0))), (oP 23 (.mv (T 2))), (oP 24 (.iaddrS 9 (T 22) (T 23))), (oR 25 (.load true 9 (T 24))), (oP 26 (.iaddrS 9 (T 14) (T 15))), (sW
  (.store 9 (T 26) (T 21))), (oP 27 (.iaddrS 9 (T 16) (T 17))), (sW (.store 9 (T 27) (T 25)))])))) (.tr (rl [0, 1, 0]) false (.region false [(oP 10 (.mv (T
  2))), (oP 11 (.bin .add (T 10) (tI 1))), (oP 12 (.mv (T 3))), (oP 13 (.bin .sub (T 12) (tI 1))), (oP 2 (.mv (T 11))), (oP 3 (.mv (T 13)))]))))
def xf139 : XFunc :=
(.mk 28 [] (.seq (.tr (rl [0, 1, 0]) false (.region false [(oP 4 (.mv (T 0))), (oP 5 (.len (T 4))), (oP 6 (.bin .sub (T 5) (tI 1))), (oP 2 (.mv (tI 0))), (oP 3
  (.mv (T 6)))])) (.tr [] false (.block 0 (.loop (rl [0, 1, 0]) xf139_l0)))))
theorem xf139_ok : cmpFunc Go.Proofs.Tryd.prog 139 ((.two (.tr (rl [0, 1, 0]) false .no) (.tr [] false (.loop (rl [0, 1, 0]) (.two (.two (.tr (rl [0, 1, 0, 5]) false .no) (.tr (rl [0, 1, 0]) false (.two .no (.tr [] false .no)))) (.two (.tr (rl [0, 1, 0]) false (.tr (rl [0, 1, 0]) false (.draw [0, 1, 2, 3, 4, 5, 6, 7, 8, 9, 10, 11, 12, 13, 14, 15] []))) (.tr (rl [0, 1, 0]) false .no))))))) = some xf139 := by kernel_rfl
def xf141_l0 : XCode :=
(.seq (.region false [(oW 11 (.nxt (T 10))), (oP 12 (.extr 0 (T 11)))]) (.seq (.tr (rl [1, 0, 7, 0]) false (.cond (T 12) .skip (.tr [] false (.exit 0)))) (.tr
  (rl [1, 0, 3, 3]) false (.block 1 (.seq (.tr (rl [1, 0, 4, 0, 1]) false (.region false [(oP 13 (.extr 1 (T 11))), (oP 14 (.extr 2 (T 11))), (oP 7 (.mv (T
  13))), (oP 8 (.mv (T 14)))])) (.seq (.tr (rl [1, 0, 4, 2, 8]) false (.region false [(oP 15 (.mv (T 1))), (oP 16 (.mv (T 8))), (oW 17 (.call false [] (T 15)
  [(T 16)])), (oP 18 (.mv (T 2))), (oP 19 (.eqB false (T 17) (T 18)))])) (.tr (rl [1, 0, 3, 3]) false (.cond (T 19) (.seq (.tr (rl [6]) false (.region false
  [(oP 20 (.mv (T 7))), (oP 6 (.mv (T 20)))])) (.tr (rl [6]) false .ret)) .skip))))))))
def xf141 : XFunc :=
(.mk 21 [(.tmp 6)] (.seq (.tr (rl [0, 0, 0]) false (.region false [(oP 6 (.mv (tI 0)))])) (.seq (.seq (.tr (rl [1, 0, 7]) false (.region false [(oP 9 (.mv (T
  0))), (oW 10 (.rng (T 9)))])) (.tr (rl [6]) false (.block 0 (.loop (rl [1, 0, 7]) xf141_l0)))) (.seq (.region false [(oP 6 (.mv (.lit (.c (.pv (.int .i64
  (-1)))))))]) (.tr (rl [6]) false .ret)))))
theorem xf141_ok : cmpFunc Go.Proofs.Tryd.prog 141 ((.two (.tr (rl [0, 0, 0]) false .no) (.two (.two (.tr (rl [1, 0, 7]) false .no) (.tr (rl [6]) false (.loop (rl [1, 0, 7]) (.two .no (.two (.tr (rl [1, 0, 7, 0]) false (.two .no (.tr [] false .no))) (.tr (rl [1, 0, 3, 3]) false (.two (.tr (rl [1, 0, 4, 0, 1]) false .no) (.two (.tr (rl [1, 0, 4, 2, 8]) false .no) (.tr (rl [1, 0, 3, 3]) false (.two (.two (.tr (rl [6]) false .no) (.tr (rl [6]) false .no)) .no)))))))))) (.two .no (.tr (rl [6]) false .no))))) = some xf141 := by kernel_rfl
def xf142 : XFunc :=
(.mk 15 [(.tmp 2)] (.seq (.tr (rl [0]) false (.region false [(oP 2 (.mv (.lit (.c (.pv (.str []))))))])) (.seq (.seq (.tr (rl [0, 3]) false (.region false [(oP
  3 (.mv (T 0))), (oP 4 (.bin .lss (T 3) (tI 10)))])) (.tr (rl [0, 1]) false (.cond (T 4) (.seq (.tr (rl [2]) false (.region false [(oP 5 (.mv (T 0))), (oP 6
  (.mv (T 0))), (oP 7 (.bin .add (T 6) (tI 1))), (oP 8 (.sliceS (.lit (.c (.pv (.str [48, 49, 50, 51, 52, 53, 54, 55, 56, 57, 97, 98, 99, 100, 101, 102, 103,
  104, 105, 106, 107, 108, 109, 110, 111, 112, 113, 114, 115, 116, 117, 118, 119, 120, 121, 122])))) (some (T 5)) (some (T 7)))), (oP 2 (.mv (T 8)))])) (.tr (rl
  [2]) false .ret)) .skip))) (.seq (.tr (rl [2]) false (.region false [(oP 9 (.mv (T 0))), (oP 10 (.bin .mul (T 9) (tI 2))), (oP 11 (.mv (T 0))), (oP 12 (.bin
  .mul (T 11) (tI 2))), (oP 13 (.bin .add (T 12) (tI 2))), (oP 14 (.sliceS (.lit (.c (.pv (.str [48, 48, 48, 49, 48, 50, 48, 51, 48, 52, 48, 53, 48, 54, 48, 55,
  48, 56, 48, 57, 49, 48, 49, 49, 49, 50, 49, 51, 49, 52, 49, 53, 49, 54, 49, 55, 49, 56, 49, 57, 50, 48, 50, 49, 50, 50, 50, 51, 50, 52, 50, 53, 50, 54, 50,
  55, 50, 56, 50, 57, 51, 48, 51, 49, 51, 50, 51, 51, 51, 52, 51, 53, 51, 54, 51, 55, 51, 56, 51, 57, 52, 48, 52, 49, 52, 50, 52, 51, 52, 52, 52, 53, 52, 54,
  52, 55, 52, 56, 52, 57, 53, 48, 53, 49, 53, 50, 53, 51, 53, 52, 53, 53, 53, 54, 53, 55, 53, 56, 53, 57, 54, 48, 54, 49, 54, 50, 54, 51, 54, 52, 54, 53, 54,
  54, 54, 55, 54, 56, 54, 57, 55, 48, 55, 49, 55, 50, 55, 51, 55, 52, 55, 53, 55, 54, 55, 55, 55, 56, 55, 57, 56, 48, 56, 49, 56, 50, 56, 51, 56, 52, 56, 53,
  56, 54, 56, 55, 56, 56, 56, 57, 57, 48, 57, 49, 57, 50, 57, 51, 57, 52, 57, 53, 57, 54, 57, 55, 57, 56, 57, 57])))) (some (T 10)) (some (T 13)))), (oP 2 (.mv
  (T 14)))])) (.tr (rl [2]) false .ret)))))
theorem xf142_ok : cmpFunc Go.Proofs.Tryd.prog 142 ((.two (.tr (rl [0]) false .no) (.two (.two (.tr (rl [0, 3]) false .no) (.tr (rl [0, 1]) false (.two (.two (.tr (rl [2]) false .no) (.tr (rl [2]) false .no)) .no))) (.two (.tr (rl [2]) false .no) (.tr (rl [2]) false .no))))) = some xf142 := by kernel_rfl
end Go.Sx.Tryd
