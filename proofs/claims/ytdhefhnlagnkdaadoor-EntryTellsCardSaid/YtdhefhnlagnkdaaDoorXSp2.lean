/- Functions of the program in the evaluator's form, each checked by the kernel. Printed by genx.py. -/
import Derived.Test.YtdhefhnlagnkdaaDoorSxLem
import Derived.Test.YtdhefhnlagnkdaaDoorProg
import Derived.KernelRfl
namespace Go.Sx.Tryd
open Go Go.Sx
def xf137 : XFunc :=
(.mk 31 [(.tmp 3), (.tmp 4), (.tmp 5)] (.seq (.tr (rl [0, 0]) false (.region false [(oP 3 (.mv (tI 0))), (oP 4 (.mv (tI 0))), (oP 5 (.mv (tI 0)))])) (.seq (.tr
  (rl [1, 4, 0, 0]) false (.region false [(oP 10 (.mv (T 0))), (oP 11 (.call false [] (.lit (.c (.fn 132 []))) [(T 10)])), (oP 9 (.mv (T 11))), (oP 12 (.extr 0
  (T 9))), (oP 13 (.extr 1 (T 9))), (oP 14 (.extr 2 (T 9))), (oP 6 (.mv (T 12))), (oP 7 (.mv (T 13))), (oP 8 (.mv (T 14)))])) (.seq (.seq (.tr (rl [6, 0, 0,
  17]) false (.region false [(oP 15 (.mv (T 8))), (oP 16 (.bin .eql (T 15) (tI 0))), (oP 17 (.mv (T 16))), (.mk (some 18) (.load false 1 (T 1)) (some (17,
  true)) .r), (.mk (some 19) (.bin .lss (T 18) (tI 0)) (some (17, true)) .p), (.mk (some 20) (.mv (T 19)) (some (17, true)) .p), (.mk (some 21) (.mv (T 6))
  (some (20, false)) .p), (.mk (some 22) (.load false 1 (T 1)) (some (20, false)) .r), (.mk (some 23) (.convI .u64 (T 22)) (some (20, false)) .p), (.mk (some
  24) (.bin .gtr (T 21) (T 23)) (some (20, false)) .p), (.mk (some 25) (.pick (T 20) (.lit (.c (.pv (.bool true)))) (T 24)) (some (17, true)) .p), (oP 26 (.pick
  (T 17) (T 25) (.lit (.c (.pv (.bool false))))))])) (.tr (rl [6, 0, 0]) false (.cond (T 26) (.region false [(oP 8 (.mv (tI 4)))]) .skip))) (.seq (.tr (rl [3,
  0, 0]) false (.region false [(oP 27 (.mv (T 6))), (oP 28 (.convI .i64 (T 27))), (oP 29 (.mv (T 7))), (oP 30 (.mv (T 8))), (oP 3 (.mv (T 28))), (oP 4 (.mv (T
  29))), (oP 5 (.mv (T 30)))])) (.tr (rl [3, 0, 0]) false .ret))))))
theorem xf137_ok : cmpFunc Go.Proofs.Tryd.prog 137 ((.two (.tr (rl [0, 0]) false .no) (.two (.tr (rl [1, 4, 0, 0]) false (.ops [{}, { cls := some .p }])) (.two (.two (.tr (rl [6, 0, 0, 17]) false .no) (.tr (rl [6, 0, 0]) false .no)) (.two (.tr (rl [3, 0, 0]) false .no) (.tr (rl [3, 0, 0]) false .no)))))) = some xf137 := by kernel_rfl
def xf138 : XFunc :=
(.mk 46 [(.cell 4 true 2)] (.seq (.region false [(oW 4 (.alloc [(.pv (.int .i64 0)), (.pv (.int .i64 0))]))]) (.seq (.region false [(oW 5 (.alloc [(.pv (.int
  .i64 0)), (.pv (.int .i64 0))]))]) (.seq (.seq (.tr (rl [0, 0, 2, 0, 11]) false (.region false [(oP 9 (.mv (T 0))), (oP 10 (.eqN 1 false (T 9) (.lit (.c
  .nilp)))), (oP 11 (.mv (T 10))), (.mk (some 12) (.mv (T 0)) (some (11, false)) .p), (.mk (some 13) (.nilc (T 12)) (some (11, false)) .p), (.mk (some 14)
  (.faddr 1 (T 13)) (some (11, false)) .p), (.mk (some 15) (.load false 1 (T 14)) (some (11, false)) .r), (.mk (some 16) (.bin .neq (T 15) (tI 0)) (some (11,
  false)) .p), (oP 17 (.pick (T 11) (.lit (.c (.pv (.bool true)))) (T 16)))])) (.tr (rl [0, 0, 2, 0]) false (.cond (T 17) (.seq (.tr (rl [4]) false (.region
  false [(oR 18 (.load true 2 (T 5))), (sW (.store 2 (T 4) (T 18)))])) (.tr (rl [4]) false .ret)) .skip))) (.seq (.tr (rl [0, 3, 0, 0, 0, 0]) false (.region
  false [(oP 20 (.mv (T 1))), (oP 21 (.mv (T 0))), (oP 22 (.nilc (T 21))), (oP 23 (.faddr 0 (T 22))), (oR 24 (.load false 1 (T 23))), (oW 25 (.call false [] (T
  20) [(T 24)])), (oP 19 (.mv (T 25))), (oP 26 (.extr 0 (T 19))), (oP 27 (.extr 1 (T 19))), (oP 28 (.extr 2 (T 19))), (oW 6 (.alloc [(.pv (.int .i64 0)), (.pv
  (.int .i64 0))])), (sW (.store 2 (T 6) (T 26))), (oP 7 (.mv (T 27))), (oP 8 (.mv (T 28)))])) (.seq (.seq (.tr (rl [0, 3, 0, 0, 0, 0, 21]) false (.region false
  [(oP 29 (.mv (T 8))), (oP 30 (.bin .neq (T 29) (tI 0)))])) (.tr (rl [0, 3, 1, 0]) false (.cond (T 30) (.seq (.tr (rl [4, 0]) false (.region false [(oP 31 (.mv
  (T 0))), (oP 32 (.mv (T 8))), (oP 33 (.nilc (T 31))), (oP 34 (.faddr 1 (T 33))), (sW (.store 1 (T 34) (T 32)))])) (.seq (.tr (rl [4]) false (.region false
  [(oR 35 (.load true 2 (T 5))), (sW (.store 2 (T 4) (T 35)))])) (.tr (rl [4]) false .ret))) .skip))) (.seq (.tr (rl [4, 1]) false (.region false [(oP 36 (.mv
  (T 0))), (oP 37 (.mv (T 0))), (oP 38 (.nilc (T 37))), (oP 39 (.faddr 0 (T 38))), (oR 40 (.load false 1 (T 39))), (oP 41 (.mv (T 7))), (oP 42 (.sliceS (T 40)
  (some (T 41)) none)), (oP 43 (.nilc (T 36))), (oP 44 (.faddr 0 (T 43))), (sW (.store 1 (T 44) (T 42)))])) (.seq (.tr (rl [4]) false (.region false [(oR 45
  (.load true 2 (T 6))), (sW (.store 2 (T 4) (T 45)))])) (.tr (rl [4]) false .ret)))))))))
theorem xf138_ok : cmpFunc Go.Proofs.Tryd.prog 138 ((.two .no (.two .no (.two (.two (.tr (rl [0, 0, 2, 0, 11]) false .no) (.tr (rl [0, 0, 2, 0]) false (.two (.two (.tr (rl [4]) false .no) (.tr (rl [4]) false .no)) .no))) (.two (.tr (rl [0, 3, 0, 0, 0, 0]) false .no) (.two (.two (.tr (rl [0, 3, 0, 0, 0, 0, 21]) false .no) (.tr (rl [0, 3, 1, 0]) false (.two (.two (.tr (rl [4, 0]) false .no) (.two (.tr (rl [4]) false .no) (.tr (rl [4]) false .no))) .no))) (.two (.tr (rl [4, 1]) false .no) (.two (.tr (rl [4]) false .no) (.tr (rl [4]) false .no))))))))) = some xf138 := by kernel_rfl
def xf139 : XFunc :=
(.mk 61 [(.cell 2 true 2), (.tmp 3), (.tmp 4)] (.seq (.tr (rl [0, 1]) false (.region false [(oW 2 (.alloc [(.pv (.int .i64 0)), (.pv (.int .i64 0))])), (oP 3
  (.mv (tI 0))), (oP 4 (.mv (tI 0)))])) (.seq (.tr (rl [0, 1, 2, 0, 0]) false (.region false [(oP 13 (.mv (T 0))), (oP 14 (.call false [] (.lit (.c (.fn 132
  []))) [(T 13)])), (oP 12 (.mv (T 14))), (oP 15 (.extr 0 (T 12))), (oP 16 (.extr 1 (T 12))), (oP 17 (.extr 2 (T 12))), (oP 5 (.mv (T 15))), (oP 6 (.mv (T
  16))), (oP 7 (.mv (T 17)))])) (.seq (.seq (.tr (rl [0, 1, 2, 0, 0, 11]) false (.region false [(oP 18 (.mv (T 7))), (oP 19 (.bin .neq (T 18) (tI 0)))])) (.tr
  (rl [0, 1, 0, 0, 0, 0]) false (.cond (T 19) (.seq (.tr (rl [2, 0, 0]) false (.region false [(oP 20 (.build [(.pv (.int .i64 0)), (.pv (.int .i64 0))] [])),
  (oP 21 (.mv (T 7))), (sW (.store 2 (T 2) (T 20))), (oP 3 (.mv (tI 0))), (oP 4 (.mv (T 21)))])) (.tr (rl [2, 0, 0]) false .ret)) .skip))) (.seq (.tr (rl [2, 2,
  0, 0, 0, 0]) false (.region false [(oP 23 (.mv (T 0))), (oP 24 (.mv (T 6))), (oP 25 (.sliceS (T 23) (some (T 24)) none)), (oP 26 (.call false [] (.lit (.c
  (.fn 132 []))) [(T 25)])), (oP 22 (.mv (T 26))), (oP 27 (.extr 0 (T 22))), (oP 28 (.extr 1 (T 22))), (oP 29 (.extr 2 (T 22))), (oP 8 (.mv (T 27))), (oP 9 (.mv
  (T 28))), (oP 7 (.mv (T 29)))])) (.seq (.tr (rl [2, 3, 0, 1, 0, 0]) false (.region false [(oP 30 (.mv (T 5))), (oP 31 (.call false [] (.lit (.c (.fn 133 [])))
  [(T 30)])), (oP 32 (.mv (T 8))), (oP 33 (.call false [] (.lit (.c (.fn 133 []))) [(T 32)])), (oP 10 (.mv (T 31))), (oP 11 (.mv (T 33)))])) (.seq (.tr (rl [2,
  0, 0, 1, 2, 0, 0]) false (.block 0 (.seq (.tr (rl [2, 3, 0, 1, 0, 0, 22]) false (.region false [(oP 35 (.mv (T 7))), (oP 36 (.bin .neq (T 35) (tI 0))), (oP 34
  (.mv (T 36)))])) (.tr (rl [2, 0, 0, 1, 2, 0, 0]) false (.cond (T 34) (.seq (.tr (rl [2, 0, 0]) false (.region false [(oP 37 (.build [(.pv (.int .i64 0)), (.pv
  (.int .i64 0))] [])), (oP 38 (.mv (T 7))), (sW (.store 2 (T 2) (T 37))), (oP 3 (.mv (tI 0))), (oP 4 (.mv (T 38)))])) (.tr (rl [2, 0, 0]) false .ret)) (.seq
  (.tr (rl [2, 3, 2, 0, 0, 27]) false (.region false [(oP 40 (.mv (T 10))), (oP 41 (.bin .lss (T 40) (tI 0))), (oP 42 (.mv (T 41))), (.mk (some 43) (.mv (T 10))
  (some (42, false)) .p), (.mk (some 44) (.bin .gtr (T 43) (tI 3)) (some (42, false)) .p), (oP 45 (.pick (T 42) (.lit (.c (.pv (.bool true)))) (T 44))), (oP 39
  (.mv (T 45)))])) (.tr (rl [2, 0, 0, 1, 2, 0, 0]) false (.cond (T 39) (.seq (.tr (rl [2, 0, 0]) false (.region false [(oP 46 (.build [(.pv (.int .i64 0)), (.pv
  (.int .i64 0))] [])), (sW (.store 2 (T 2) (T 46))), (oP 3 (.mv (tI 0))), (oP 4 (.mv (tI 12)))])) (.tr (rl [2, 0, 0]) false .ret)) (.seq (.tr (rl [2, 3, 2, 0,
  0, 35]) false (.region false [(oP 48 (.mv (T 11))), (oP 49 (.bin .lss (T 48) (.lit (.c (.pv (.int .i64 (-1000000000000000))))))), (oP 50 (.mv (T 49))), (.mk
  (some 51) (.mv (T 11)) (some (50, false)) .p), (.mk (some 52) (.bin .gtr (T 51) (tI 1000000000000000)) (some (50, false)) .p), (oP 53 (.pick (T 50) (.lit (.c
  (.pv (.bool true)))) (T 52))), (oP 47 (.mv (T 53)))])) (.tr (rl [2, 0, 0, 1, 2, 0, 0]) false (.cond (T 47) (.seq (.tr (rl [2, 0, 0]) false (.region false [(oP
  54 (.build [(.pv (.int .i64 0)), (.pv (.int .i64 0))] [])), (sW (.store 2 (T 2) (T 54))), (oP 3 (.mv (tI 0))), (oP 4 (.mv (tI 9)))])) (.tr (rl [2, 0, 0])
  false .ret)) .skip))))))))))) (.seq (.tr (rl [2, 0, 0]) false (.region false [(oP 55 (.mv (T 10))), (oP 56 (.mv (T 11))), (oP 57 (.build [(.pv (.int .i64 0)),
  (.pv (.int .i64 0))] [(0, (1, (T 55))), (1, (1, (T 56)))])), (oP 58 (.mv (T 6))), (oP 59 (.mv (T 9))), (oP 60 (.bin .add (T 58) (T 59))), (sW (.store 2 (T 2)
  (T 57))), (oP 3 (.mv (T 60))), (oP 4 (.mv (tI 0)))])) (.tr (rl [2, 0, 0]) false .ret)))))))))
theorem xf139_ok : cmpFunc Go.Proofs.Tryd.prog 139 ((.two (.tr (rl [0, 1]) false .no) (.two (.tr (rl [0, 1, 2, 0, 0]) false (.ops [{}, { cls := some .p }])) (.two (.two (.tr (rl [0, 1, 2, 0, 0, 11]) false .no) (.tr (rl [0, 1, 0, 0, 0, 0]) false (.two (.two (.tr (rl [2, 0, 0]) false .no) (.tr (rl [2, 0, 0]) false .no)) .no))) (.two (.tr (rl [2, 2, 0, 0, 0, 0]) false (.ops [{}, {}, {}, { cls := some .p }])) (.two (.tr (rl [2, 3, 0, 1, 0, 0]) false (.ops [{}, { cls := some .p }, {}, { cls := some .p }])) (.two (.tr (rl [2, 0, 0, 1, 2, 0, 0]) false (.two (.tr (rl [2, 3, 0, 1, 0, 0, 22]) false .no) (.tr (rl [2, 0, 0, 1, 2, 0, 0]) false (.two (.two (.tr (rl [2, 0, 0]) false .no) (.tr (rl [2, 0, 0]) false .no)) (.two (.tr (rl [2, 3, 2, 0, 0, 27]) false .no) (.tr (rl [2, 0, 0, 1, 2, 0, 0]) false (.two (.two (.tr (rl [2, 0, 0]) false .no) (.tr (rl [2, 0, 0]) false .no)) (.two (.tr (rl [2, 3, 2, 0, 0, 35]) false .no) (.tr (rl [2, 0, 0, 1, 2, 0, 0]) false (.two (.two (.tr (rl [2, 0, 0]) false .no) (.tr (rl [2, 0, 0]) false .no)) .no)))))))))) (.two (.tr (rl [2, 0, 0]) false .no) (.tr (rl [2, 0, 0]) false .no))))))))) = some xf139 := by kernel_rfl
def xf140 : XFunc :=
(.mk 9 [(.tmp 2)] (.seq (.tr (rl [0]) false (.region false [(oP 2 (.mv (tI 0)))])) (.seq (.seq (.tr (rl [0, 3]) false (.region false [(oP 3 (.mv (T 0))), (oP 4
  (.eqN 1 false (T 3) (.lit (.c .nilp))))])) (.tr (rl [0, 1]) false (.cond (T 4) (.seq (.region false [(oP 2 (.mv (tI 1)))]) (.tr (rl [2]) false .ret)) .skip)))
  (.seq (.tr (rl [2]) false (.region false [(oP 5 (.mv (T 0))), (oP 6 (.nilc (T 5))), (oP 7 (.faddr 1 (T 6))), (oR 8 (.load false 1 (T 7))), (oP 2 (.mv (T
  8)))])) (.tr (rl [2]) false .ret)))))
theorem xf140_ok : cmpFunc Go.Proofs.Tryd.prog 140 ((.two (.tr (rl [0]) false .no) (.two (.two (.tr (rl [0, 3]) false .no) (.tr (rl [0, 1]) false (.two (.two .no (.tr (rl [2]) false .no)) .no))) (.two (.tr (rl [2]) false .no) (.tr (rl [2]) false .no))))) = some xf140 := by kernel_rfl
def xf141_l0 : XCode :=
(.seq (.seq (.tr (rl [0, 0, 5, 0, 0, 2]) false (.region false [(oP 11 (.mv (T 9))), (oP 12 (.bin .lss (T 11) (tI 10)))])) (.tr (rl [0, 0, 5, 0, 0]) false (.cond
  (T 12) .skip (.tr (rl [1]) false (.exit 0))))) (.seq (.tr (rl [0, 0, 2, 0, 0, 0, 0, 0]) false (.block 1 (.seq (.seq (.tr (rl [0, 0, 5, 0, 0, 13]) false
  (.region false [(oP 15 (.mv (T 1))), (oP 16 (.mv (T 9))), (oP 17 (.bin .add (T 15) (T 16))), (oP 18 (.mv (T 0))), (oP 19 (.nilc (T 18))), (oP 20 (.faddr 0 (T
  19))), (oR 21 (.load false 1 (T 20))), (oP 22 (.lenS (T 21))), (oP 23 (.bin .geq (T 17) (T 22)))])) (.tr (rl [0, 0, 2, 0, 0, 0, 0, 0]) false (.cond (T 23)
  (.seq (.tr (rl [4, 0, 0]) false (.region false [(oP 24 (.mv (T 1))), (oP 4 (.mv (.lit (.c (.pv (.int .u64 0)))))), (oP 5 (.mv (T 24))), (oP 6 (.mv (tI 2)))]))
  (.tr (rl [4, 0, 0]) false .ret)) .skip))) (.seq (.tr (rl [0, 0, 5, 0, 0, 0]) false (.region false [(oP 25 (.mv (T 0))), (oP 26 (.nilc (T 25))), (oP 27 (.faddr
  0 (T 26))), (oR 28 (.load false 1 (T 27))), (oP 29 (.mv (T 1))), (oP 30 (.mv (T 9))), (oP 31 (.bin .add (T 29) (T 30))), (oP 32 (.idxS (T 28) (T 31))), (oP 33
  (.convI .u64 (T 32))), (oP 10 (.mv (T 33)))])) (.seq (.seq (.tr (rl [0, 0, 5, 0, 0, 0, 36]) false (.region false [(oP 34 (.mv (T 9))), (oP 35 (.bin .gtr (T
  34) (tI 0))), (oP 36 (.mv (T 35))), (.mk (some 37) (.mv (T 10)) (some (36, true)) .p), (.mk (some 38) (.bin .eql (T 37) (.lit (.c (.pv (.int .u64 0))))) (some
  (36, true)) .p), (oP 39 (.pick (T 36) (T 38) (.lit (.c (.pv (.bool false)))))), (oP 40 (.mv (T 39))), (.mk (some 41) (.mv (T 9)) (some (40, false)) .p), (.mk
  (some 42) (.bin .eql (T 41) (tI 9)) (some (40, false)) .p), (.mk (some 43) (.mv (T 42)) (some (40, false)) .p), (.mk (some 44) (.mv (T 10)) (some (43, true))
  .p), (.mk (some 45) (.bin .gtr (T 44) (.lit (.c (.pv (.int .u64 1))))) (some (43, true)) .p), (.mk (some 46) (.pick (T 43) (T 45) (.lit (.c (.pv (.bool
  false))))) (some (40, false)) .p), (oP 47 (.pick (T 40) (.lit (.c (.pv (.bool true)))) (T 46)))])) (.tr (rl [0, 0, 2, 0, 0, 0, 0, 0, 0]) false (.cond (T 47)
  (.seq (.tr (rl [4, 0, 0]) false (.region false [(oP 48 (.mv (T 1))), (oP 4 (.mv (.lit (.c (.pv (.int .u64 0)))))), (oP 5 (.mv (T 48))), (oP 6 (.mv (tI 3)))]))
  (.tr (rl [4, 0, 0]) false .ret)) .skip))) (.seq (.tr (rl [0, 0, 5, 0, 0, 0]) false (.region false [(oP 49 (.mv (T 7))), (oP 50 (.mv (T 10))), (oP 51 (.bin
  .rem (T 50) (.lit (.c (.pv (.int .u64 128)))))), (oP 52 (.mv (T 8))), (oP 53 (.bin .mul (T 51) (T 52))), (oP 54 (.bin .add (T 49) (T 53))), (oP 7 (.mv (T
  54)))])) (.seq (.seq (.tr (rl [0, 0, 5, 0, 0, 46]) false (.region false [(oP 55 (.mv (T 10))), (oP 56 (.bin .lss (T 55) (.lit (.c (.pv (.int .u64 128))))))]))
  (.tr (rl [0, 0, 2, 0, 0, 0, 0, 0]) false (.cond (T 56) (.seq (.tr (rl [4, 0, 0]) false (.region false [(oP 57 (.mv (T 7))), (oP 58 (.mv (T 1))), (oP 59 (.mv
  (T 9))), (oP 60 (.bin .add (T 58) (T 59))), (oP 61 (.bin .add (T 60) (tI 1))), (oP 4 (.mv (T 57))), (oP 5 (.mv (T 61))), (oP 6 (.mv (tI 0)))])) (.tr (rl [4,
  0, 0]) false .ret)) .skip))) (.tr (rl [0, 0, 5, 0, 0]) false (.region false [(oP 62 (.mv (T 8))), (oP 63 (.bin .mul (T 62) (.lit (.c (.pv (.int .u64
  128)))))), (oP 8 (.mv (T 63)))]))))))))) (.tr (rl [0, 0, 5, 0, 0]) false (.region false [(oP 13 (.mv (T 9))), (oP 14 (.bin .add (T 13) (tI 1))), (oP 9 (.mv (T
  14)))]))))
def xf141 : XFunc :=
(.mk 65 [(.tmp 4), (.tmp 5), (.tmp 6)] (.seq (.tr (rl [0, 0]) false (.region false [(oP 4 (.mv (.lit (.c (.pv (.int .u64 0)))))), (oP 5 (.mv (tI 0))), (oP 6
  (.mv (tI 0)))])) (.seq (.region false [(oP 7 (.mv (.lit (.c (.pv (.int .u64 0))))))]) (.seq (.region false [(oP 8 (.mv (.lit (.c (.pv (.int .u64 1))))))])
  (.seq (.seq (.region false [(oP 9 (.mv (tI 0)))]) (.tr (rl [1, 2, 0, 0]) false (.block 0 (.loop (rl [0, 0, 5, 0, 0]) xf141_l0)))) (.seq (.tr (rl [4, 0, 0])
  false (.region false [(oP 64 (.mv (T 1))), (oP 4 (.mv (.lit (.c (.pv (.int .u64 0)))))), (oP 5 (.mv (T 64))), (oP 6 (.mv (tI 3)))])) (.tr (rl [4, 0, 0]) false
  .ret)))))))
theorem xf141_ok : cmpFunc Go.Proofs.Tryd.prog 141 ((.two (.tr (rl [0, 0]) false .no) (.two .no (.two .no (.two (.two .no (.tr (rl [1, 2, 0, 0]) false (.loop (rl [0, 0, 5, 0, 0]) (.two (.two (.tr (rl [0, 0, 5, 0, 0, 2]) false .no) (.tr (rl [0, 0, 5, 0, 0]) false (.two .no (.tr (rl [1]) false .no)))) (.two (.tr (rl [0, 0, 2, 0, 0, 0, 0, 0]) false (.two (.two (.tr (rl [0, 0, 5, 0, 0, 13]) false .no) (.tr (rl [0, 0, 2, 0, 0, 0, 0, 0]) false (.two (.two (.tr (rl [4, 0, 0]) false .no) (.tr (rl [4, 0, 0]) false .no)) .no))) (.two (.tr (rl [0, 0, 5, 0, 0, 0]) false .no) (.two (.two (.tr (rl [0, 0, 5, 0, 0, 0, 36]) false .no) (.tr (rl [0, 0, 2, 0, 0, 0, 0, 0, 0]) false (.two (.two (.tr (rl [4, 0, 0]) false .no) (.tr (rl [4, 0, 0]) false .no)) .no))) (.two (.tr (rl [0, 0, 5, 0, 0, 0]) false .no) (.two (.two (.tr (rl [0, 0, 5, 0, 0, 46]) false .no) (.tr (rl [0, 0, 2, 0, 0, 0, 0, 0]) false (.two (.two (.tr (rl [4, 0, 0]) false .no) (.tr (rl [4, 0, 0]) false .no)) .no))) (.tr (rl [0, 0, 5, 0, 0]) false .no))))))) (.tr (rl [0, 0, 5, 0, 0]) false .no)))))) (.two (.tr (rl [4, 0, 0]) false .no) (.tr (rl [4, 0, 0]) false .no))))))) = some xf141 := by kernel_rfl
def xf142 : XFunc :=
(.mk 14 [(.tmp 2)] (.seq (.tr (rl [0]) false (.region false [(oP 2 (.mv (tI 0)))])) (.seq (.seq (.tr (rl [0, 4]) false (.region false [(oP 3 (.mv (T 0))), (oP 4
  (.bin .rem (T 3) (.lit (.c (.pv (.int .u64 2)))))), (oP 5 (.bin .eql (T 4) (.lit (.c (.pv (.int .u64 0))))))])) (.tr (rl [0, 1]) false (.cond (T 5) (.seq (.tr
  (rl [2]) false (.region false [(oP 6 (.mv (T 0))), (oP 7 (.bin .quo (T 6) (.lit (.c (.pv (.int .u64 2)))))), (oP 8 (.convI .i64 (T 7))), (oP 2 (.mv (T 8)))]))
  (.tr (rl [2]) false .ret)) .skip))) (.seq (.tr (rl [2]) false (.region false [(oP 9 (.mv (T 0))), (oP 10 (.bin .quo (T 9) (.lit (.c (.pv (.int .u64 2)))))),
  (oP 11 (.convI .i64 (T 10))), (oP 12 (.un .neg (T 11))), (oP 13 (.bin .sub (T 12) (tI 1))), (oP 2 (.mv (T 13)))])) (.tr (rl [2]) false .ret)))))
theorem xf142_ok : cmpFunc Go.Proofs.Tryd.prog 142 ((.two (.tr (rl [0]) false .no) (.two (.two (.tr (rl [0, 4]) false .no) (.tr (rl [0, 1]) false (.two (.two (.tr (rl [2]) false .no) (.tr (rl [2]) false .no)) .no))) (.two (.tr (rl [2]) false .no) (.tr (rl [2]) false .no))))) = some xf142 := by kernel_rfl
def xf150 : XFunc :=
(.mk 12 [(.tmp 2)] (.seq (.tr (rl [0]) false (.region false [(oP 2 (.mv (.lit (.c (.pv (.str []))))))])) (.seq (.seq (.tr (rl [3]) false (.region false [(oP 3
  (.mv (T 0)))])) (.tr (rl [2]) false (.block 0 (.seq (.tr (rl [3, 0]) false (.region false [(oP 5 (.bin .eql (T 3) (tI 0))), (oP 4 (.mv (T 5)))])) (.tr (rl
  [2]) false (.cond (T 4) (.seq (.region false [(oP 2 (.mv (.lit (.c (.pv (.str [69, 85, 82]))))))]) (.tr (rl [2]) false .ret)) (.seq (.tr (rl [3, 2]) false
  (.region false [(oP 7 (.bin .eql (T 3) (tI 1))), (oP 6 (.mv (T 7)))])) (.tr (rl [2]) false (.cond (T 6) (.seq (.region false [(oP 2 (.mv (.lit (.c (.pv (.str
  [74, 80, 89]))))))]) (.tr (rl [2]) false .ret)) (.seq (.tr (rl [3, 4]) false (.region false [(oP 9 (.bin .eql (T 3) (tI 2))), (oP 8 (.mv (T 9)))])) (.tr (rl
  [2]) false (.cond (T 8) (.seq (.region false [(oP 2 (.mv (.lit (.c (.pv (.str [66, 72, 68]))))))]) (.tr (rl [2]) false .ret)) (.seq (.tr (rl [10]) false
  (.region false [(oP 11 (.bin .eql (T 3) (tI 3))), (oP 10 (.mv (T 11)))])) (.tr (rl [2]) false (.cond (T 10) (.seq (.region false [(oP 2 (.mv (.lit (.c (.pv
  (.str [85, 83, 68]))))))]) (.tr (rl [2]) false .ret)) .skip))))))))))))))) (.seq (.region false [(oP 2 (.mv (.lit (.c (.pv (.str []))))))]) (.tr (rl [2])
  false .ret)))))
theorem xf150_ok : cmpFunc Go.Proofs.Tryd.prog 150 ((.two (.tr (rl [0]) false .no) (.two (.two (.tr (rl [3]) false .no) (.tr (rl [2]) false (.two (.tr (rl [3, 0]) false .no) (.tr (rl [2]) false (.two (.two .no (.tr (rl [2]) false .no)) (.two (.tr (rl [3, 2]) false .no) (.tr (rl [2]) false (.two (.two .no (.tr (rl [2]) false .no)) (.two (.tr (rl [3, 4]) false .no) (.tr (rl [2]) false (.two (.two .no (.tr (rl [2]) false .no)) (.two (.tr (rl [10]) false .no) (.tr (rl [2]) false (.two (.two .no (.tr (rl [2]) false .no)) .no)))))))))))))) (.two .no (.tr (rl [2]) false .no))))) = some xf150 := by kernel_rfl
def xf151 : XFunc :=
(.mk 8 [(.tmp 4)] (.seq (.tr (rl [0, 0]) false (.region false [(oP 4 (.mv (tI 0)))])) (.seq (.tr (rl [4]) false (.region false [(oP 5 (.mv (T 0))), (oP 6 (.mv
  (T 1))), (oW 7 (.call false [] (.lit (.c (.fn 154 []))) [(T 5), (T 6), (.lit (.c (.pv (.bool true))))])), (oP 4 (.mv (T 7)))])) (.tr (rl [4]) false .ret))))
theorem xf151_ok : cmpFunc Go.Proofs.Tryd.prog 151 ((.two (.tr (rl [0, 0]) false .no) (.two (.tr (rl [4]) false .no) (.tr (rl [4]) false .no)))) = some xf151 := by kernel_rfl
def xf154_l0 : XCode :=
(.seq (.region false [(oW 11 (.nxt (T 10))), (oP 12 (.extr 0 (T 11)))]) (.seq (.tr (rl [1, 0, 7, 0]) false (.cond (T 12) .skip (.tr [] false (.exit 0)))) (.tr
  (rl [1, 0, 3, 3]) false (.block 1 (.seq (.tr (rl [1, 0, 4, 0, 1]) false (.region false [(oP 13 (.extr 1 (T 11))), (oP 14 (.extr 2 (T 11))), (oP 7 (.mv (T
  13))), (oP 8 (.mv (T 14)))])) (.seq (.tr (rl [1, 0, 4, 2, 8]) false (.region false [(oP 15 (.mv (T 1))), (oP 16 (.mv (T 8))), (oW 17 (.call false [] (T 15)
  [(T 16)])), (oP 18 (.mv (T 2))), (oP 19 (.eqB false (T 17) (T 18)))])) (.tr (rl [1, 0, 3, 3]) false (.cond (T 19) (.seq (.tr (rl [6]) false (.region false
  [(oP 20 (.mv (T 7))), (oP 6 (.mv (T 20)))])) (.tr (rl [6]) false .ret)) .skip))))))))
def xf154 : XFunc :=
(.mk 21 [(.tmp 6)] (.seq (.tr (rl [0, 0, 0]) false (.region false [(oP 6 (.mv (tI 0)))])) (.seq (.seq (.tr (rl [1, 0, 7]) false (.region false [(oP 9 (.mv (T
  0))), (oW 10 (.rng (T 9)))])) (.tr (rl [6]) false (.block 0 (.loop (rl [1, 0, 7]) xf154_l0)))) (.seq (.region false [(oP 6 (.mv (.lit (.c (.pv (.int .i64
  (-1)))))))]) (.tr (rl [6]) false .ret)))))
theorem xf154_ok : cmpFunc Go.Proofs.Tryd.prog 154 ((.two (.tr (rl [0, 0, 0]) false .no) (.two (.two (.tr (rl [1, 0, 7]) false .no) (.tr (rl [6]) false (.loop (rl [1, 0, 7]) (.two .no (.two (.tr (rl [1, 0, 7, 0]) false (.two .no (.tr [] false .no))) (.tr (rl [1, 0, 3, 3]) false (.two (.tr (rl [1, 0, 4, 0, 1]) false .no) (.two (.tr (rl [1, 0, 4, 2, 8]) false .no) (.tr (rl [1, 0, 3, 3]) false (.two (.two (.tr (rl [6]) false .no) (.tr (rl [6]) false .no)) .no)))))))))) (.two .no (.tr (rl [6]) false .no))))) = some xf154 := by kernel_rfl
def xf63 : XFunc :=
(.mk 8 [(.cell 2 true 7)] (.seq (.tr (rl [1, 0]) false (.region false [(oW 1 (.box (T 0) 7)), (oW 2 (.alloc [(.pv (.int .i64 0)), (.pv (.int .i32 0)), (.pv
  (.int .i32 0)), (.pv (.sl .nil 0 [])), (.pv (.int .i64 0)), (.pv (.int .i64 0)), (.pv (.str []))]))])) (.seq (.tr (rl [1, 0]) false (.region false [(oP 3
  (.faddr 3 (T 1))), (oR 4 (.load false 1 (T 3))), (oP 5 (.call false [] (.lit (.c (.fn 85 []))) [(T 4)])), (oP 6 (.faddr 3 (T 1))), (sW (.store 1 (T 6) (T
  5)))])) (.seq (.tr (rl [2]) false (.region false [(oR 7 (.load true 7 (T 1))), (sW (.store 7 (T 2) (T 7)))])) (.tr (rl [2]) false .ret)))))
theorem xf63_ok : cmpFunc Go.Proofs.Tryd.prog 63 ((.two (.tr (rl [1, 0]) false .no) (.two (.tr (rl [1, 0]) false (.ops [{}, {}, { cls := some .p }])) (.two (.tr (rl [2]) false .no) (.tr (rl [2]) false .no))))) = some xf63 := by kernel_rfl
end Go.Sx.Tryd
