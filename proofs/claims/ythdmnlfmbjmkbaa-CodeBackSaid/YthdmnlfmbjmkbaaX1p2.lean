/- Functions of the program in the evaluator's form, each checked by the kernel. Printed by genx.py. -/
import Derived.Test.YthdmnlfmbjmkbaaSxLem
import Derived.Test.YthdmnlfmbjmkbaaProg
import Derived.KernelRfl
namespace Go.Sx.Try
open Go Go.Sx
def xf41 : XFunc :=
(XFunc.mk 59 [(XRes.cell 2 true 2)] (XCode.seq (XCode.region false [(XOper.mk (some 2) (XOp.alloc [(CV.pv (PV.int .i64 0)), (CV.pv (PV.int .i64 0))]) none
  Cls.w)]) (XCode.seq (XCode.tr [true, false, true, true] false (XCode.region false [(XOper.mk (some 6) (XOp.mv (XArg.tmp 0)) none Cls.p), (XOper.mk (some 7)
  (XOp.nilc (XArg.tmp 6)) none Cls.p), (XOper.mk (some 8) (XOp.faddr 1 (XArg.tmp 7)) none Cls.p), (XOper.mk (some 9) (XOp.load false 1 (XArg.tmp 8)) none
  Cls.r), (XOper.mk (some 3) (XOp.mv (XArg.tmp 9)) none Cls.p)])) (XCode.seq (XCode.tr [true, false, true, true, true] false (XCode.region false [(XOper.mk
  (some 10) (XOp.mv (XArg.tmp 0)) none Cls.p), (XOper.mk (some 11) (XOp.call false [] (XArg.lit (AV.c (CV.fn 38 []))) [(XArg.tmp 10)]) none Cls.w), (XOper.mk
  (some 4) (XOp.mv (XArg.tmp 11)) none Cls.p)])) (XCode.seq (XCode.tr [true, false, true, true, true, true] false (XCode.region false [(XOper.mk (some 12)
  (XOp.mv (XArg.tmp 0)) none Cls.p), (XOper.mk (some 13) (XOp.call false [] (XArg.lit (AV.c (CV.fn 38 []))) [(XArg.tmp 12)]) none Cls.w), (XOper.mk (some 5)
  (XOp.mv (XArg.tmp 13)) none Cls.p)])) (XCode.seq (XCode.seq (XCode.tr [true, false, true, true, true, true, false, false, false, false, false, false, false,
  false, false, false, false, false, false, false, false, false, false, false, false, false, true] false (XCode.region false [(XOper.mk (some 14) (XOp.mv
  (XArg.tmp 0)) none Cls.p), (XOper.mk (some 15) (XOp.nilc (XArg.tmp 14)) none Cls.p), (XOper.mk (some 16) (XOp.faddr 2 (XArg.tmp 15)) none Cls.p), (XOper.mk
  (some 17) (XOp.load false 1 (XArg.tmp 16)) none Cls.r), (XOper.mk (some 18) (XOp.bin .eql (XArg.tmp 17) (XArg.lit (AV.c (CV.pv (PV.int .i64 0))))) none
  Cls.p), (XOper.mk (some 19) (XOp.mv (XArg.tmp 18)) none Cls.p), (XOper.mk (some 20) (XOp.mv (XArg.tmp 4)) (some (19, true)) Cls.p), (XOper.mk (some 21)
  (XOp.bin .lss (XArg.tmp 20) (XArg.lit (AV.c (CV.pv (PV.int .i64 0))))) (some (19, true)) Cls.p), (XOper.mk (some 22) (XOp.mv (XArg.tmp 21)) (some (19, true))
  Cls.p), (XOper.mk (some 23) (XOp.mv (XArg.tmp 4)) (some (22, false)) Cls.p), (XOper.mk (some 24) (XOp.bin .gtr (XArg.tmp 23) (XArg.lit (AV.c (CV.pv (PV.int
  .i64 3))))) (some (22, false)) Cls.p), (XOper.mk (some 25) (XOp.pick (XArg.tmp 22) (XArg.lit (AV.c (CV.pv (PV.bool true)))) (XArg.tmp 24)) (some (19, true))
  Cls.p), (XOper.mk (some 26) (XOp.pick (XArg.tmp 19) (XArg.tmp 25) (XArg.lit (AV.c (CV.pv (PV.bool false))))) none Cls.p)])) (XCode.tr [true, false, true,
  true, true, true] false (XCode.cond (XArg.tmp 26) (XCode.tr [true, false, true, true, true, true] false (XCode.region false [(XOper.mk (some 27) (XOp.mv
  (XArg.tmp 0)) none Cls.p), (XOper.mk (some 28) (XOp.nilc (XArg.tmp 27)) none Cls.p), (XOper.mk (some 29) (XOp.faddr 2 (XArg.tmp 28)) none Cls.p), (XOper.mk
  none (XOp.store 1 (XArg.tmp 29) (XArg.lit (AV.c (CV.pv (PV.int .i64 12))))) none Cls.w)])) XCode.skip))) (XCode.seq (XCode.seq (XCode.tr [true, false, true,
  true, true, true, false, false, false, false, false, false, false, false, false, false, false, false, false, false, false, false, false, false, false, false,
  false, false, false, false, false, false, false, false, false, false, false, false, false, false, false, false, true] false (XCode.region false [(XOper.mk
  (some 30) (XOp.mv (XArg.tmp 0)) none Cls.p), (XOper.mk (some 31) (XOp.nilc (XArg.tmp 30)) none Cls.p), (XOper.mk (some 32) (XOp.faddr 2 (XArg.tmp 31)) none
  Cls.p), (XOper.mk (some 33) (XOp.load false 1 (XArg.tmp 32)) none Cls.r), (XOper.mk (some 34) (XOp.bin .eql (XArg.tmp 33) (XArg.lit (AV.c (CV.pv (PV.int .i64
  0))))) none Cls.p), (XOper.mk (some 35) (XOp.mv (XArg.tmp 34)) none Cls.p), (XOper.mk (some 36) (XOp.mv (XArg.tmp 5)) (some (35, true)) Cls.p), (XOper.mk
  (some 37) (XOp.bin .lss (XArg.tmp 36) (XArg.lit (AV.c (CV.pv (PV.int .i64 (-1000000000000000)))))) (some (35, true)) Cls.p), (XOper.mk (some 38) (XOp.mv
  (XArg.tmp 37)) (some (35, true)) Cls.p), (XOper.mk (some 39) (XOp.mv (XArg.tmp 5)) (some (38, false)) Cls.p), (XOper.mk (some 40) (XOp.bin .gtr (XArg.tmp 39)
  (XArg.lit (AV.c (CV.pv (PV.int .i64 1000000000000000))))) (some (38, false)) Cls.p), (XOper.mk (some 41) (XOp.pick (XArg.tmp 38) (XArg.lit (AV.c (CV.pv
  (PV.bool true)))) (XArg.tmp 40)) (some (35, true)) Cls.p), (XOper.mk (some 42) (XOp.pick (XArg.tmp 35) (XArg.tmp 41) (XArg.lit (AV.c (CV.pv (PV.bool
  false))))) none Cls.p)])) (XCode.tr [true, false, true, true, true, true] false (XCode.cond (XArg.tmp 42) (XCode.tr [true, false, true, true, true, true]
  false (XCode.region false [(XOper.mk (some 43) (XOp.mv (XArg.tmp 0)) none Cls.p), (XOper.mk (some 44) (XOp.nilc (XArg.tmp 43)) none Cls.p), (XOper.mk (some
  45) (XOp.faddr 2 (XArg.tmp 44)) none Cls.p), (XOper.mk none (XOp.store 1 (XArg.tmp 45) (XArg.lit (AV.c (CV.pv (PV.int .i64 9))))) none Cls.w)])) XCode.skip)))
  (XCode.seq (XCode.seq (XCode.tr [true, false, true, true, true, true, false, false, false, false, false, false, false, false, false, false, false, false,
  false, false, false, false, false, false, false, false, false, false, false, false, false, false, false, false, false, false, false, false, false, false,
  false, false, false, false, false, false, false, false, false, false, true] false (XCode.region false [(XOper.mk (some 46) (XOp.mv (XArg.tmp 0)) none Cls.p),
  (XOper.mk (some 47) (XOp.nilc (XArg.tmp 46)) none Cls.p), (XOper.mk (some 48) (XOp.faddr 2 (XArg.tmp 47)) none Cls.p), (XOper.mk (some 49) (XOp.load false 1
  (XArg.tmp 48)) none Cls.r), (XOper.mk (some 50) (XOp.bin .neq (XArg.tmp 49) (XArg.lit (AV.c (CV.pv (PV.int .i64 0))))) none Cls.p)])) (XCode.tr [false, false,
  true, false, true, true] false (XCode.cond (XArg.tmp 50) (XCode.seq (XCode.tr [false, false, true] false (XCode.region false [(XOper.mk (some 51) (XOp.mv
  (XArg.tmp 0)) none Cls.p), (XOper.mk (some 52) (XOp.mv (XArg.tmp 3)) none Cls.p), (XOper.mk (some 53) (XOp.nilc (XArg.tmp 51)) none Cls.p), (XOper.mk (some
  54) (XOp.faddr 1 (XArg.tmp 53)) none Cls.p), (XOper.mk none (XOp.store 1 (XArg.tmp 54) (XArg.tmp 52)) none Cls.w)])) (XCode.seq (XCode.tr [false, false, true]
  false (XCode.region false [(XOper.mk (some 55) (XOp.build [(CV.pv (PV.int .i64 0)), (CV.pv (PV.int .i64 0))] []) none Cls.p), (XOper.mk none (XOp.store 2
  (XArg.tmp 2) (XArg.tmp 55)) none Cls.w)])) (XCode.tr [false, false, true] false XCode.ret))) XCode.skip))) (XCode.seq (XCode.tr [false, false, true] false
  (XCode.region false [(XOper.mk (some 56) (XOp.mv (XArg.tmp 4)) none Cls.p), (XOper.mk (some 57) (XOp.mv (XArg.tmp 5)) none Cls.p), (XOper.mk (some 58)
  (XOp.build [(CV.pv (PV.int .i64 0)), (CV.pv (PV.int .i64 0))] [(0, (1, (XArg.tmp 56))), (1, (1, (XArg.tmp 57)))]) none Cls.p), (XOper.mk none (XOp.store 2
  (XArg.tmp 2) (XArg.tmp 58)) none Cls.w)])) (XCode.tr [false, false, true] false XCode.ret))))))))))
theorem xf41_ok : cmpFunc Go.Proofs.Try.prog 41 ((.two .no (.two (.tr [true, false, true, true] false .no) (.two (.tr [true, false, true, true, true] false .no) (.two (.tr [true, false, true, true, true, true] false .no) (.two (.two (.tr [true, false, true, true, true, true, false, false, false, false, false, false, false, false, false, false, false, false, false, false, false, false, false, false, false, false, true] false .no) (.tr [true, false, true, true, true, true] false (.two (.tr [true, false, true, true, true, true] false .no) .no))) (.two (.two (.tr [true, false, true, true, true, true, false, false, false, false, false, false, false, false, false, false, false, false, false, false, false, false, false, false, false, false, false, false, false, false, false, false, false, false, false, false, false, false, false, false, false, false, true] false .no) (.tr [true, false, true, true, true, true] false (.two (.tr [true, false, true, true, true, true] false .no) .no))) (.two (.two (.tr [true, false, true, true, true, true, false, false, false, false, false, false, false, false, false, false, false, false, false, false, false, false, false, false, false, false, false, false, false, false, false, false, false, false, false, false, false, false, false, false, false, false, false, false, false, false, false, false, false, false, true] false .no) (.tr [false, false, true, false, true, true] false (.two (.two (.tr [false, false, true] false .no) (.two (.tr [false, false, true] false .no) (.tr [false, false, true] false .no))) .no))) (.two (.tr [false, false, true] false .no) (.tr [false, false, true] false .no)))))))))) = some xf41 := by kernel_rfl
def xf42 : XFunc :=
(XFunc.mk 47 [(XRes.tmp 4)] (XCode.seq (XCode.tr [true, true] false (XCode.region false [(XOper.mk (some 4) (XOp.mv (XArg.lit (AV.c (CV.pv (PV.int .i64 0)))))
  none Cls.p)])) (XCode.seq (XCode.seq (XCode.tr [true, true, false, false, false, false, false, false, false, false, false, false, true] false (XCode.region
  false [(XOper.mk (some 8) (XOp.mv (XArg.tmp 0)) none Cls.p), (XOper.mk (some 9) (XOp.nilc (XArg.tmp 8)) none Cls.p), (XOper.mk (some 10) (XOp.faddr 2
  (XArg.tmp 9)) none Cls.p), (XOper.mk (some 11) (XOp.load false 1 (XArg.tmp 10)) none Cls.r), (XOper.mk (some 12) (XOp.bin .neq (XArg.tmp 11) (XArg.lit (AV.c
  (CV.pv (PV.int .i64 0))))) none Cls.p)])) (XCode.tr [true, true, false, false, true] false (XCode.cond (XArg.tmp 12) (XCode.seq (XCode.region false [(XOper.mk
  (some 4) (XOp.mv (XArg.lit (AV.c (CV.pv (PV.int .i64 0))))) none Cls.p)]) (XCode.tr [false, false, false, false, true] false XCode.ret)) XCode.skip)))
  (XCode.seq (XCode.tr [true, true, false, false, false, true, true, true] false (XCode.region false [(XOper.mk (some 14) (XOp.mv (XArg.tmp 0)) none Cls.p),
  (XOper.mk (some 15) (XOp.mv (XArg.tmp 0)) none Cls.p), (XOper.mk (some 16) (XOp.nilc (XArg.tmp 15)) none Cls.p), (XOper.mk (some 17) (XOp.faddr 1 (XArg.tmp
  16)) none Cls.p), (XOper.mk (some 18) (XOp.load false 1 (XArg.tmp 17)) none Cls.r), (XOper.mk (some 19) (XOp.call false [] (XArg.lit (AV.c (CV.fn 54 [])))
  [(XArg.tmp 14), (XArg.tmp 18)]) none Cls.w), (XOper.mk (some 13) (XOp.mv (XArg.tmp 19)) none Cls.p), (XOper.mk (some 20) (XOp.extr 0 (XArg.tmp 13)) none
  Cls.p), (XOper.mk (some 21) (XOp.extr 1 (XArg.tmp 13)) none Cls.p), (XOper.mk (some 22) (XOp.extr 2 (XArg.tmp 13)) none Cls.p), (XOper.mk (some 5) (XOp.mv
  (XArg.tmp 20)) none Cls.p), (XOper.mk (some 6) (XOp.mv (XArg.tmp 21)) none Cls.p), (XOper.mk (some 7) (XOp.mv (XArg.tmp 22)) none Cls.p)])) (XCode.seq
  (XCode.seq (XCode.tr [true, false, false, false, false, true, true, true, false, false, false, false, false, false, false, false, false, false, false, false,
  false, false, false, false, false, false, false, false, false, false, false, false, false, false, true] false (XCode.region false [(XOper.mk (some 23) (XOp.mv
  (XArg.tmp 7)) none Cls.p), (XOper.mk (some 24) (XOp.bin .eql (XArg.tmp 23) (XArg.lit (AV.c (CV.pv (PV.int .i64 0))))) none Cls.p), (XOper.mk (some 25) (XOp.mv
  (XArg.tmp 24)) none Cls.p), (XOper.mk (some 26) (XOp.mv (XArg.tmp 1)) (some (25, true)) Cls.p), (XOper.mk (some 27) (XOp.bin .lss (XArg.tmp 26) (XArg.lit
  (AV.c (CV.pv (PV.int .i64 0))))) (some (25, true)) Cls.p), (XOper.mk (some 28) (XOp.mv (XArg.tmp 27)) (some (25, true)) Cls.p), (XOper.mk (some 29) (XOp.mv
  (XArg.tmp 5)) (some (28, false)) Cls.p), (XOper.mk (some 30) (XOp.mv (XArg.tmp 1)) (some (28, false)) Cls.p), (XOper.mk (some 31) (XOp.convI .u64 (XArg.tmp
  30)) (some (28, false)) Cls.p), (XOper.mk (some 32) (XOp.bin .gtr (XArg.tmp 29) (XArg.tmp 31)) (some (28, false)) Cls.p), (XOper.mk (some 33) (XOp.pick
  (XArg.tmp 28) (XArg.lit (AV.c (CV.pv (PV.bool true)))) (XArg.tmp 32)) (some (25, true)) Cls.p), (XOper.mk (some 34) (XOp.pick (XArg.tmp 25) (XArg.tmp 33)
  (XArg.lit (AV.c (CV.pv (PV.bool false))))) none Cls.p)])) (XCode.tr [true, false, false, false, false, true, true, true] false (XCode.cond (XArg.tmp 34)
  (XCode.region false [(XOper.mk (some 7) (XOp.mv (XArg.lit (AV.c (CV.pv (PV.int .i64 4))))) none Cls.p)]) XCode.skip))) (XCode.seq (XCode.seq (XCode.tr [true,
  false, false, false, false, true, true, true, false, false, false, false, false, false, false, false, false, false, false, false, false, false, false, false,
  false, false, false, false, false, false, false, false, false, false, false, false, true] false (XCode.region false [(XOper.mk (some 35) (XOp.mv (XArg.tmp 7))
  none Cls.p), (XOper.mk (some 36) (XOp.bin .neq (XArg.tmp 35) (XArg.lit (AV.c (CV.pv (PV.int .i64 0))))) none Cls.p)])) (XCode.tr [true, false, false, false,
  true, true, true] false (XCode.cond (XArg.tmp 36) (XCode.seq (XCode.tr [] false (XCode.region false [(XOper.mk (some 37) (XOp.mv (XArg.tmp 0)) none Cls.p),
  (XOper.mk (some 38) (XOp.mv (XArg.tmp 7)) none Cls.p), (XOper.mk (some 39) (XOp.nilc (XArg.tmp 37)) none Cls.p), (XOper.mk (some 40) (XOp.faddr 2 (XArg.tmp
  39)) none Cls.p), (XOper.mk none (XOp.store 1 (XArg.tmp 40) (XArg.tmp 38)) none Cls.w)])) (XCode.seq (XCode.region false [(XOper.mk (some 4) (XOp.mv (XArg.lit
  (AV.c (CV.pv (PV.int .i64 0))))) none Cls.p)]) (XCode.tr [false, false, false, false, true] false XCode.ret))) XCode.skip))) (XCode.seq (XCode.tr [false,
  false, false, false, false, true] false (XCode.region false [(XOper.mk (some 41) (XOp.mv (XArg.tmp 0)) none Cls.p), (XOper.mk (some 42) (XOp.mv (XArg.tmp 6))
  none Cls.p), (XOper.mk (some 43) (XOp.nilc (XArg.tmp 41)) none Cls.p), (XOper.mk (some 44) (XOp.faddr 1 (XArg.tmp 43)) none Cls.p), (XOper.mk none (XOp.store
  1 (XArg.tmp 44) (XArg.tmp 42)) none Cls.w)])) (XCode.seq (XCode.tr [false, false, false, false, true] false (XCode.region false [(XOper.mk (some 45) (XOp.mv
  (XArg.tmp 5)) none Cls.p), (XOper.mk (some 46) (XOp.convI .i64 (XArg.tmp 45)) none Cls.p), (XOper.mk (some 4) (XOp.mv (XArg.tmp 46)) none Cls.p)])) (XCode.tr
  [false, false, false, false, true] false XCode.ret)))))))))
theorem xf42_ok : cmpFunc Go.Proofs.Try.prog 42 ((.two (.tr [true, true] false .no) (.two (.two (.tr [true, true, false, false, false, false, false, false, false, false, false, false, true] false .no) (.tr [true, true, false, false, true] false (.two (.two .no (.tr [false, false, false, false, true] false .no)) .no))) (.two (.tr [true, true, false, false, false, true, true, true] false .no) (.two (.two (.tr [true, false, false, false, false, true, true, true, false, false, false, false, false, false, false, false, false, false, false, false, false, false, false, false, false, false, false, false, false, false, false, false, false, false, true] false .no) (.tr [true, false, false, false, false, true, true, true] false .no)) (.two (.two (.tr [true, false, false, false, false, true, true, true, false, false, false, false, false, false, false, false, false, false, false, false, false, false, false, false, false, false, false, false, false, false, false, false, false, false, false, false, true] false .no) (.tr [true, false, false, false, true, true, true] false (.two (.two (.tr [] false .no) (.two .no (.tr [false, false, false, false, true] false .no))) .no))) (.two (.tr [false, false, false, false, false, true] false .no) (.two (.tr [false, false, false, false, true] false .no) (.tr [false, false, false, false, true] false .no))))))))) = some xf42 := by kernel_rfl
def xf43 : XFunc :=
(XFunc.mk 46 [(XRes.tmp 4)] (XCode.seq (XCode.tr [true, true] false (XCode.region false [(XOper.mk (some 4) (XOp.mv (XArg.lit (AV.c (CV.pv (PV.int .u64 0)))))
  none Cls.p)])) (XCode.seq (XCode.region false [(XOper.mk (some 5) (XOp.mv (XArg.lit (AV.c (CV.pv (PV.int .u64 0))))) none Cls.p)]) (XCode.seq (XCode.seq
  (XCode.tr [true, true, false, false, false, true, false, false, false, false, false, false, false, false, false, false, false, true] false (XCode.region false
  [(XOper.mk (some 9) (XOp.mv (XArg.tmp 0)) none Cls.p), (XOper.mk (some 10) (XOp.eqN 1 false (XArg.tmp 9) (XArg.lit (AV.c CV.nilp))) none Cls.p), (XOper.mk
  (some 11) (XOp.mv (XArg.tmp 10)) none Cls.p), (XOper.mk (some 12) (XOp.mv (XArg.tmp 0)) (some (11, false)) Cls.p), (XOper.mk (some 13) (XOp.nilc (XArg.tmp
  12)) (some (11, false)) Cls.p), (XOper.mk (some 14) (XOp.faddr 1 (XArg.tmp 13)) (some (11, false)) Cls.p), (XOper.mk (some 15) (XOp.load false 1 (XArg.tmp
  14)) (some (11, false)) Cls.r), (XOper.mk (some 16) (XOp.bin .neq (XArg.tmp 15) (XArg.lit (AV.c (CV.pv (PV.int .i64 0))))) (some (11, false)) Cls.p),
  (XOper.mk (some 17) (XOp.pick (XArg.tmp 11) (XArg.lit (AV.c (CV.pv (PV.bool true)))) (XArg.tmp 16)) none Cls.p)])) (XCode.tr [true, true, false, false, true,
  true] false (XCode.cond (XArg.tmp 17) (XCode.seq (XCode.tr [false, false, false, false, true] false (XCode.region false [(XOper.mk (some 18) (XOp.mv (XArg.tmp
  5)) none Cls.p), (XOper.mk (some 4) (XOp.mv (XArg.tmp 18)) none Cls.p)])) (XCode.tr [false, false, false, false, true] false XCode.ret)) XCode.skip)))
  (XCode.seq (XCode.tr [true, false, false, false, false, true, true, true, true] false (XCode.region false [(XOper.mk (some 20) (XOp.mv (XArg.tmp 1)) none
  Cls.p), (XOper.mk (some 21) (XOp.mv (XArg.tmp 0)) none Cls.p), (XOper.mk (some 22) (XOp.nilc (XArg.tmp 21)) none Cls.p), (XOper.mk (some 23) (XOp.faddr 0
  (XArg.tmp 22)) none Cls.p), (XOper.mk (some 24) (XOp.load false 1 (XArg.tmp 23)) none Cls.r), (XOper.mk (some 25) (XOp.call false [] (XArg.tmp 20) [(XArg.tmp
  24)]) none Cls.w), (XOper.mk (some 19) (XOp.mv (XArg.tmp 25)) none Cls.p), (XOper.mk (some 26) (XOp.extr 0 (XArg.tmp 19)) none Cls.p), (XOper.mk (some 27)
  (XOp.extr 1 (XArg.tmp 19)) none Cls.p), (XOper.mk (some 28) (XOp.extr 2 (XArg.tmp 19)) none Cls.p), (XOper.mk (some 6) (XOp.mv (XArg.tmp 26)) none Cls.p),
  (XOper.mk (some 7) (XOp.mv (XArg.tmp 27)) none Cls.p), (XOper.mk (some 8) (XOp.mv (XArg.tmp 28)) none Cls.p)])) (XCode.seq (XCode.seq (XCode.tr [true, false,
  false, false, false, true, true, true, true, false, false, false, false, false, false, false, false, false, false, false, false, false, false, false, false,
  false, false, false, false, false, true] false (XCode.region false [(XOper.mk (some 29) (XOp.mv (XArg.tmp 8)) none Cls.p), (XOper.mk (some 30) (XOp.bin .neq
  (XArg.tmp 29) (XArg.lit (AV.c (CV.pv (PV.int .i64 0))))) none Cls.p)])) (XCode.tr [true, false, false, false, true, false, true, true] false (XCode.cond
  (XArg.tmp 30) (XCode.seq (XCode.tr [false, false, false, false, false, true] false (XCode.region false [(XOper.mk (some 31) (XOp.mv (XArg.tmp 0)) none Cls.p),
  (XOper.mk (some 32) (XOp.mv (XArg.tmp 8)) none Cls.p), (XOper.mk (some 33) (XOp.nilc (XArg.tmp 31)) none Cls.p), (XOper.mk (some 34) (XOp.faddr 1 (XArg.tmp
  33)) none Cls.p), (XOper.mk none (XOp.store 1 (XArg.tmp 34) (XArg.tmp 32)) none Cls.w)])) (XCode.seq (XCode.tr [false, false, false, false, true] false
  (XCode.region false [(XOper.mk (some 35) (XOp.mv (XArg.tmp 5)) none Cls.p), (XOper.mk (some 4) (XOp.mv (XArg.tmp 35)) none Cls.p)])) (XCode.tr [false, false,
  false, false, true] false XCode.ret))) XCode.skip))) (XCode.seq (XCode.tr [false, false, false, false, false, false, true] false (XCode.region false
  [(XOper.mk (some 36) (XOp.mv (XArg.tmp 0)) none Cls.p), (XOper.mk (some 37) (XOp.mv (XArg.tmp 0)) none Cls.p), (XOper.mk (some 38) (XOp.nilc (XArg.tmp 37))
  none Cls.p), (XOper.mk (some 39) (XOp.faddr 0 (XArg.tmp 38)) none Cls.p), (XOper.mk (some 40) (XOp.load false 1 (XArg.tmp 39)) none Cls.r), (XOper.mk (some
  41) (XOp.mv (XArg.tmp 7)) none Cls.p), (XOper.mk (some 42) (XOp.sliceS (XArg.tmp 40) (some (XArg.tmp 41)) none) none Cls.p), (XOper.mk (some 43) (XOp.nilc
  (XArg.tmp 36)) none Cls.p), (XOper.mk (some 44) (XOp.faddr 0 (XArg.tmp 43)) none Cls.p), (XOper.mk none (XOp.store 1 (XArg.tmp 44) (XArg.tmp 42)) none
  Cls.w)])) (XCode.seq (XCode.tr [false, false, false, false, true] false (XCode.region false [(XOper.mk (some 45) (XOp.mv (XArg.tmp 6)) none Cls.p), (XOper.mk
  (some 4) (XOp.mv (XArg.tmp 45)) none Cls.p)])) (XCode.tr [false, false, false, false, true] false XCode.ret)))))))))
theorem xf43_ok : cmpFunc Go.Proofs.Try.prog 43 ((.two (.tr [true, true] false .no) (.two .no (.two (.two (.tr [true, true, false, false, false, true, false, false, false, false, false, false, false, false, false, false, false, true] false .no) (.tr [true, true, false, false, true, true] false (.two (.two (.tr [false, false, false, false, true] false .no) (.tr [false, false, false, false, true] false .no)) .no))) (.two (.tr [true, false, false, false, false, true, true, true, true] false .no) (.two (.two (.tr [true, false, false, false, false, true, true, true, true, false, false, false, false, false, false, false, false, false, false, false, false, false, false, false, false, false, false, false, false, false, true] false .no) (.tr [true, false, false, false, true, false, true, true] false (.two (.two (.tr [false, false, false, false, false, true] false .no) (.two (.tr [false, false, false, false, true] false .no) (.tr [false, false, false, false, true] false .no))) .no))) (.two (.tr [false, false, false, false, false, false, true] false .no) (.two (.tr [false, false, false, false, true] false .no) (.tr [false, false, false, false, true] false .no))))))))) = some xf43 := by kernel_rfl
def xf44_l0 : XCode :=
(XCode.seq (XCode.region false [(XOper.mk (some 13) (XOp.bin .lss (XArg.tmp 12) (XArg.tmp 11)) none Cls.p)]) (XCode.seq (XCode.tr [true, false, false, false,
  false, true, true, true, false, false, false, true, true] false (XCode.cond (XArg.tmp 13) XCode.skip (XCode.tr [false, false, false, false, false, true, true,
  true] false (XCode.exit 0)))) (XCode.seq (XCode.tr [true, false, false, false, false, true, true, true, false, false, false, true, true] false (XCode.block 1
  (XCode.seq (XCode.tr [true, false, false, false, false, true, true, true, true, false, false, true, true] false (XCode.region false [(XOper.mk (some 14)
  (XOp.mv (XArg.tmp 12)) none Cls.p), (XOper.mk (some 8) (XOp.mv (XArg.tmp 14)) none Cls.p)])) (XCode.seq (XCode.tr [true, false, false, false, false, true,
  true, true, true, true, false, true, true] false (XCode.region false [(XOper.mk (some 15) (XOp.mv (XArg.tmp 0)) none Cls.p), (XOper.mk (some 16) (XOp.mv
  (XArg.tmp 8)) none Cls.p), (XOper.mk (some 17) (XOp.idxS (XArg.tmp 15) (XArg.tmp 16)) none Cls.p), (XOper.mk (some 9) (XOp.mv (XArg.tmp 17)) none Cls.p)]))
  (XCode.seq (XCode.tr [true, false, false, false, false, true, true, true, true, true, false, true, true] false (XCode.block 2 (XCode.seq (XCode.tr [true,
  false, false, false, false, true, true, true, true, true, false, true, true, false, false, false, false, false, true] false (XCode.region false [(XOper.mk
  (some 19) (XOp.mv (XArg.tmp 8)) none Cls.p), (XOper.mk (some 20) (XOp.bin .eql (XArg.tmp 19) (XArg.lit (AV.c (CV.pv (PV.int .i64 9))))) none Cls.p), (XOper.mk
  (some 21) (XOp.mv (XArg.tmp 20)) none Cls.p), (XOper.mk (some 22) (XOp.mv (XArg.tmp 9)) (some (21, true)) Cls.p), (XOper.mk (some 23) (XOp.bin .gtr (XArg.tmp
  22) (XArg.lit (AV.c (CV.pv (PV.int .u8 1))))) (some (21, true)) Cls.p), (XOper.mk (some 24) (XOp.pick (XArg.tmp 21) (XArg.tmp 23) (XArg.lit (AV.c (CV.pv
  (PV.bool false))))) none Cls.p), (XOper.mk (some 25) (XOp.mv (XArg.tmp 24)) none Cls.p), (XOper.mk (some 26) (XOp.mv (XArg.tmp 8)) (some (25, false)) Cls.p),
  (XOper.mk (some 27) (XOp.bin .gtr (XArg.tmp 26) (XArg.lit (AV.c (CV.pv (PV.int .i64 0))))) (some (25, false)) Cls.p), (XOper.mk (some 28) (XOp.mv (XArg.tmp
  27)) (some (25, false)) Cls.p), (XOper.mk (some 29) (XOp.mv (XArg.tmp 9)) (some (28, true)) Cls.p), (XOper.mk (some 30) (XOp.bin .eql (XArg.tmp 29) (XArg.lit
  (AV.c (CV.pv (PV.int .u8 0))))) (some (28, true)) Cls.p), (XOper.mk (some 31) (XOp.pick (XArg.tmp 28) (XArg.tmp 30) (XArg.lit (AV.c (CV.pv (PV.bool false)))))
  (some (25, false)) Cls.p), (XOper.mk (some 32) (XOp.pick (XArg.tmp 25) (XArg.lit (AV.c (CV.pv (PV.bool true)))) (XArg.tmp 31)) none Cls.p), (XOper.mk (some
  18) (XOp.mv (XArg.tmp 32)) none Cls.p)])) (XCode.tr [true, false, false, false, false, true, true, true, true, true, false, true, true] false (XCode.cond
  (XArg.tmp 18) (XCode.seq (XCode.region false [(XOper.mk (some 7) (XOp.mv (XArg.lit (AV.c (CV.pv (PV.int .i64 3))))) none Cls.p)]) (XCode.tr [false, false,
  false, false, false, true, true, true] false (XCode.exit 0))) (XCode.seq (XCode.tr [true, false, false, false, false, true, true, true, true, true, false,
  true, true, false, false, false, false, false, false, false, false, false, false, false, false, false, false, false, false, false, false, false, false, true]
  false (XCode.region false [(XOper.mk (some 34) (XOp.mv (XArg.tmp 9)) none Cls.p), (XOper.mk (some 35) (XOp.bin .lss (XArg.tmp 34) (XArg.lit (AV.c (CV.pv
  (PV.int .u8 128))))) none Cls.p), (XOper.mk (some 33) (XOp.mv (XArg.tmp 35)) none Cls.p)])) (XCode.tr [true, false, false, false, false, true, true, true,
  true, true, false, true, true] false (XCode.cond (XArg.tmp 33) (XCode.seq (XCode.tr [false, false, false, false, false, true, true, true] false (XCode.region
  false [(XOper.mk (some 36) (XOp.mv (XArg.tmp 5)) none Cls.p), (XOper.mk (some 37) (XOp.mv (XArg.tmp 9)) none Cls.p), (XOper.mk (some 38) (XOp.convI .u64
  (XArg.tmp 37)) none Cls.p), (XOper.mk (some 39) (XOp.mv (XArg.tmp 8)) none Cls.p), (XOper.mk (some 40) (XOp.bin .mul (XArg.lit (AV.c (CV.pv (PV.int .i64 7))))
  (XArg.tmp 39)) none Cls.p), (XOper.mk (some 41) (XOp.bin .shl (XArg.tmp 38) (XArg.tmp 40)) none Cls.p), (XOper.mk (some 42) (XOp.bin .or (XArg.tmp 36)
  (XArg.tmp 41)) none Cls.p), (XOper.mk (some 43) (XOp.mv (XArg.tmp 8)) none Cls.p), (XOper.mk (some 44) (XOp.bin .add (XArg.tmp 43) (XArg.lit (AV.c (CV.pv
  (PV.int .i64 1))))) none Cls.p), (XOper.mk (some 5) (XOp.mv (XArg.tmp 42)) none Cls.p), (XOper.mk (some 6) (XOp.mv (XArg.tmp 44)) none Cls.p), (XOper.mk (some
  7) (XOp.mv (XArg.lit (AV.c (CV.pv (PV.int .i64 0))))) none Cls.p)])) (XCode.tr [false, false, false, false, false, true, true, true] false (XCode.exit 0)))
  XCode.skip)))))))) (XCode.tr [true, false, false, false, false, true, true, true, false, false, false, true, true] false (XCode.region false [(XOper.mk (some
  45) (XOp.mv (XArg.tmp 5)) none Cls.p), (XOper.mk (some 46) (XOp.mv (XArg.tmp 9)) none Cls.p), (XOper.mk (some 47) (XOp.bin .and (XArg.tmp 46) (XArg.lit (AV.c
  (CV.pv (PV.int .u8 127))))) none Cls.p), (XOper.mk (some 48) (XOp.convI .u64 (XArg.tmp 47)) none Cls.p), (XOper.mk (some 49) (XOp.mv (XArg.tmp 8)) none
  Cls.p), (XOper.mk (some 50) (XOp.bin .mul (XArg.lit (AV.c (CV.pv (PV.int .i64 7)))) (XArg.tmp 49)) none Cls.p), (XOper.mk (some 51) (XOp.bin .shl (XArg.tmp
  48) (XArg.tmp 50)) none Cls.p), (XOper.mk (some 52) (XOp.bin .or (XArg.tmp 45) (XArg.tmp 51)) none Cls.p), (XOper.mk (some 5) (XOp.mv (XArg.tmp 52)) none
  Cls.p)]))))))) (XCode.tr [true, false, false, false, false, true, true, true, false, false, false, true, true] false (XCode.region false [(XOper.mk (some 53)
  (XOp.bin .add (XArg.tmp 12) (XArg.lit (AV.c (CV.pv (PV.int .i64 1))))) none Cls.p), (XOper.mk (some 12) (XOp.mv (XArg.tmp 53)) none Cls.p)])))))
def xf44 : XFunc :=
(XFunc.mk 57 [(XRes.tmp 2), (XRes.tmp 3), (XRes.tmp 4)] (XCode.seq (XCode.tr [true] false (XCode.region false [(XOper.mk (some 2) (XOp.mv (XArg.lit (AV.c (CV.pv
  (PV.int .u64 0))))) none Cls.p), (XOper.mk (some 3) (XOp.mv (XArg.lit (AV.c (CV.pv (PV.int .i64 0))))) none Cls.p), (XOper.mk (some 4) (XOp.mv (XArg.lit (AV.c
  (CV.pv (PV.int .i64 0))))) none Cls.p)])) (XCode.scope (XCode.seq (XCode.region false [(XOper.mk (some 5) (XOp.mv (XArg.lit (AV.c (CV.pv (PV.int .u64 0)))))
  none Cls.p), (XOper.mk (some 6) (XOp.mv (XArg.lit (AV.c (CV.pv (PV.int .i64 0))))) none Cls.p)]) (XCode.seq (XCode.region false [(XOper.mk (some 7) (XOp.mv
  (XArg.lit (AV.c (CV.pv (PV.int .i64 2))))) none Cls.p)]) (XCode.seq XCode.label (XCode.seq (XCode.seq (XCode.tr [true, false, false, false, false, true, true,
  true, false, false, false, true, true] false (XCode.region false [(XOper.mk (some 10) (XOp.mv (XArg.tmp 0)) none Cls.p), (XOper.mk (some 11) (XOp.lenS
  (XArg.tmp 10)) none Cls.p), (XOper.mk (some 12) (XOp.mv (XArg.lit (AV.c (CV.pv (PV.int .i64 0))))) none Cls.p)])) (XCode.tr [false, false, false, false,
  false, true, true, true] false (XCode.block 0 (XCode.loop [true, false, false, false, false, true, true, true, false, false, false, true, true] xf44_l0))))
  (XCode.seq (XCode.tr [false, false, true, true, true] false (XCode.region false [(XOper.mk (some 54) (XOp.mv (XArg.tmp 5)) none Cls.p), (XOper.mk (some 55)
  (XOp.mv (XArg.tmp 6)) none Cls.p), (XOper.mk (some 56) (XOp.mv (XArg.tmp 7)) none Cls.p), (XOper.mk (some 2) (XOp.mv (XArg.tmp 54)) none Cls.p), (XOper.mk
  (some 3) (XOp.mv (XArg.tmp 55)) none Cls.p), (XOper.mk (some 4) (XOp.mv (XArg.tmp 56)) none Cls.p)])) (XCode.tr [false, false, true, true, true] false
  XCode.ret)))))))))
theorem xf44_ok : cmpFunc Go.Proofs.Try.prog 44 ((.two (.tr [true] false .no) (.two .no (.two .no (.two .no (.two (.two (.tr [true, false, false, false, false, true, true, true, false, false, false, true, true] false .no) (.tr [false, false, false, false, false, true, true, true] false (.loop [true, false, false, false, false, true, true, true, false, false, false, true, true] (.two .no (.two (.tr [true, false, false, false, false, true, true, true, false, false, false, true, true] false (.two .no (.tr [false, false, false, false, false, true, true, true] false .no))) (.two (.tr [true, false, false, false, false, true, true, true, false, false, false, true, true] false (.two (.tr [true, false, false, false, false, true, true, true, true, false, false, true, true] false .no) (.two (.tr [true, false, false, false, false, true, true, true, true, true, false, true, true] false .no) (.two (.tr [true, false, false, false, false, true, true, true, true, true, false, true, true] false (.two (.tr [true, false, false, false, false, true, true, true, true, true, false, true, true, false, false, false, false, false, true] false .no) (.tr [true, false, false, false, false, true, true, true, true, true, false, true, true] false (.two (.two .no (.tr [false, false, false, false, false, true, true, true] false .no)) (.two (.tr [true, false, false, false, false, true, true, true, true, true, false, true, true, false, false, false, false, false, false, false, false, false, false, false, false, false, false, false, false, false, false, false, false, true] false .no) (.tr [true, false, false, false, false, true, true, true, true, true, false, true, true] false (.two (.two (.tr [false, false, false, false, false, true, true, true] false .no) (.tr [false, false, false, false, false, true, true, true] false .no)) .no))))))) (.tr [true, false, false, false, false, true, true, true, false, false, false, true, true] false .no))))) (.tr [true, false, false, false, false, true, true, true, false, false, false, true, true] false .no))))))) (.two (.tr [false, false, true, true, true] false .no) (.tr [false, false, true, true, true] false .no)))))))) = some xf44 := by kernel_rfl
def xf45 : XFunc :=
(XFunc.mk 11 [(XRes.tmp 2)] (XCode.seq (XCode.tr [true] false (XCode.region false [(XOper.mk (some 2) (XOp.mv (XArg.lit (AV.c (CV.pv (PV.int .i64 0))))) none
  Cls.p)])) (XCode.seq (XCode.tr [false, false, true] false (XCode.region false [(XOper.mk (some 3) (XOp.mv (XArg.tmp 0)) none Cls.p), (XOper.mk (some 4)
  (XOp.bin .shr (XArg.tmp 3) (XArg.lit (AV.c (CV.pv (PV.int .u64 1))))) none Cls.p), (XOper.mk (some 5) (XOp.convI .i64 (XArg.tmp 4)) none Cls.p), (XOper.mk
  (some 6) (XOp.mv (XArg.tmp 0)) none Cls.p), (XOper.mk (some 7) (XOp.bin .and (XArg.tmp 6) (XArg.lit (AV.c (CV.pv (PV.int .u64 1))))) none Cls.p), (XOper.mk
  (some 8) (XOp.convI .i64 (XArg.tmp 7)) none Cls.p), (XOper.mk (some 9) (XOp.un .neg (XArg.tmp 8)) none Cls.p), (XOper.mk (some 10) (XOp.bin .xor (XArg.tmp 5)
  (XArg.tmp 9)) none Cls.p), (XOper.mk (some 2) (XOp.mv (XArg.tmp 10)) none Cls.p)])) (XCode.tr [false, false, true] false XCode.ret))))
theorem xf45_ok : cmpFunc Go.Proofs.Try.prog 45 ((.two (.tr [true] false .no) (.two (.tr [false, false, true] false .no) (.tr [false, false, true] false .no)))) = some xf45 := by kernel_rfl
def xf46 : XFunc :=
(XFunc.mk 46 [(XRes.tmp 4)] (XCode.seq (XCode.tr [true, true] false (XCode.region false [(XOper.mk (some 4) (XOp.mv (XArg.lit (AV.c (CV.pv (PV.str []))))) none
  Cls.p)])) (XCode.seq (XCode.region false [(XOper.mk (some 5) (XOp.mv (XArg.lit (AV.c (CV.pv (PV.str []))))) none Cls.p)]) (XCode.seq (XCode.seq (XCode.tr
  [true, true, false, false, false, true, false, false, false, false, false, false, false, false, false, false, false, true] false (XCode.region false
  [(XOper.mk (some 9) (XOp.mv (XArg.tmp 0)) none Cls.p), (XOper.mk (some 10) (XOp.eqN 1 false (XArg.tmp 9) (XArg.lit (AV.c CV.nilp))) none Cls.p), (XOper.mk
  (some 11) (XOp.mv (XArg.tmp 10)) none Cls.p), (XOper.mk (some 12) (XOp.mv (XArg.tmp 0)) (some (11, false)) Cls.p), (XOper.mk (some 13) (XOp.nilc (XArg.tmp
  12)) (some (11, false)) Cls.p), (XOper.mk (some 14) (XOp.faddr 1 (XArg.tmp 13)) (some (11, false)) Cls.p), (XOper.mk (some 15) (XOp.load false 1 (XArg.tmp
  14)) (some (11, false)) Cls.r), (XOper.mk (some 16) (XOp.bin .neq (XArg.tmp 15) (XArg.lit (AV.c (CV.pv (PV.int .i64 0))))) (some (11, false)) Cls.p),
  (XOper.mk (some 17) (XOp.pick (XArg.tmp 11) (XArg.lit (AV.c (CV.pv (PV.bool true)))) (XArg.tmp 16)) none Cls.p)])) (XCode.tr [true, true, false, false, true,
  true] false (XCode.cond (XArg.tmp 17) (XCode.seq (XCode.tr [false, false, false, false, true] false (XCode.region false [(XOper.mk (some 18) (XOp.mv (XArg.tmp
  5)) none Cls.p), (XOper.mk (some 4) (XOp.mv (XArg.tmp 18)) none Cls.p)])) (XCode.tr [false, false, false, false, true] false XCode.ret)) XCode.skip)))
  (XCode.seq (XCode.tr [true, false, false, false, false, true, true, true, true] false (XCode.region false [(XOper.mk (some 20) (XOp.mv (XArg.tmp 1)) none
  Cls.p), (XOper.mk (some 21) (XOp.mv (XArg.tmp 0)) none Cls.p), (XOper.mk (some 22) (XOp.nilc (XArg.tmp 21)) none Cls.p), (XOper.mk (some 23) (XOp.faddr 0
  (XArg.tmp 22)) none Cls.p), (XOper.mk (some 24) (XOp.load false 1 (XArg.tmp 23)) none Cls.r), (XOper.mk (some 25) (XOp.call false [] (XArg.tmp 20) [(XArg.tmp
  24)]) none Cls.w), (XOper.mk (some 19) (XOp.mv (XArg.tmp 25)) none Cls.p), (XOper.mk (some 26) (XOp.extr 0 (XArg.tmp 19)) none Cls.p), (XOper.mk (some 27)
  (XOp.extr 1 (XArg.tmp 19)) none Cls.p), (XOper.mk (some 28) (XOp.extr 2 (XArg.tmp 19)) none Cls.p), (XOper.mk (some 6) (XOp.mv (XArg.tmp 26)) none Cls.p),
  (XOper.mk (some 7) (XOp.mv (XArg.tmp 27)) none Cls.p), (XOper.mk (some 8) (XOp.mv (XArg.tmp 28)) none Cls.p)])) (XCode.seq (XCode.seq (XCode.tr [true, false,
  false, false, false, true, true, true, true, false, false, false, false, false, false, false, false, false, false, false, false, false, false, false, false,
  false, false, false, false, false, true] false (XCode.region false [(XOper.mk (some 29) (XOp.mv (XArg.tmp 8)) none Cls.p), (XOper.mk (some 30) (XOp.bin .neq
  (XArg.tmp 29) (XArg.lit (AV.c (CV.pv (PV.int .i64 0))))) none Cls.p)])) (XCode.tr [true, false, false, false, true, false, true, true] false (XCode.cond
  (XArg.tmp 30) (XCode.seq (XCode.tr [false, false, false, false, false, true] false (XCode.region false [(XOper.mk (some 31) (XOp.mv (XArg.tmp 0)) none Cls.p),
  (XOper.mk (some 32) (XOp.mv (XArg.tmp 8)) none Cls.p), (XOper.mk (some 33) (XOp.nilc (XArg.tmp 31)) none Cls.p), (XOper.mk (some 34) (XOp.faddr 1 (XArg.tmp
  33)) none Cls.p), (XOper.mk none (XOp.store 1 (XArg.tmp 34) (XArg.tmp 32)) none Cls.w)])) (XCode.seq (XCode.tr [false, false, false, false, true] false
  (XCode.region false [(XOper.mk (some 35) (XOp.mv (XArg.tmp 5)) none Cls.p), (XOper.mk (some 4) (XOp.mv (XArg.tmp 35)) none Cls.p)])) (XCode.tr [false, false,
  false, false, true] false XCode.ret))) XCode.skip))) (XCode.seq (XCode.tr [false, false, false, false, false, false, true] false (XCode.region false
  [(XOper.mk (some 36) (XOp.mv (XArg.tmp 0)) none Cls.p), (XOper.mk (some 37) (XOp.mv (XArg.tmp 0)) none Cls.p), (XOper.mk (some 38) (XOp.nilc (XArg.tmp 37))
  none Cls.p), (XOper.mk (some 39) (XOp.faddr 0 (XArg.tmp 38)) none Cls.p), (XOper.mk (some 40) (XOp.load false 1 (XArg.tmp 39)) none Cls.r), (XOper.mk (some
  41) (XOp.mv (XArg.tmp 7)) none Cls.p), (XOper.mk (some 42) (XOp.sliceS (XArg.tmp 40) (some (XArg.tmp 41)) none) none Cls.p), (XOper.mk (some 43) (XOp.nilc
  (XArg.tmp 36)) none Cls.p), (XOper.mk (some 44) (XOp.faddr 0 (XArg.tmp 43)) none Cls.p), (XOper.mk none (XOp.store 1 (XArg.tmp 44) (XArg.tmp 42)) none
  Cls.w)])) (XCode.seq (XCode.tr [false, false, false, false, true] false (XCode.region false [(XOper.mk (some 45) (XOp.mv (XArg.tmp 6)) none Cls.p), (XOper.mk
  (some 4) (XOp.mv (XArg.tmp 45)) none Cls.p)])) (XCode.tr [false, false, false, false, true] false XCode.ret)))))))))
theorem xf46_ok : cmpFunc Go.Proofs.Try.prog 46 ((.two (.tr [true, true] false .no) (.two .no (.two (.two (.tr [true, true, false, false, false, true, false, false, false, false, false, false, false, false, false, false, false, true] false .no) (.tr [true, true, false, false, true, true] false (.two (.two (.tr [false, false, false, false, true] false .no) (.tr [false, false, false, false, true] false .no)) .no))) (.two (.tr [true, false, false, false, false, true, true, true, true] false .no) (.two (.two (.tr [true, false, false, false, false, true, true, true, true, false, false, false, false, false, false, false, false, false, false, false, false, false, false, false, false, false, false, false, false, false, true] false .no) (.tr [true, false, false, false, true, false, true, true] false (.two (.two (.tr [false, false, false, false, false, true] false .no) (.two (.tr [false, false, false, false, true] false .no) (.tr [false, false, false, false, true] false .no))) .no))) (.two (.tr [false, false, false, false, false, false, true] false .no) (.two (.tr [false, false, false, false, true] false .no) (.tr [false, false, false, false, true] false .no))))))))) = some xf46 := by kernel_rfl
def xf47 : XFunc :=
(XFunc.mk 47 [(XRes.tmp 3), (XRes.tmp 4), (XRes.tmp 5)] (XCode.seq (XCode.tr [true, true] false (XCode.region false [(XOper.mk (some 3) (XOp.mv (XArg.lit (AV.c
  (CV.pv (PV.str []))))) none Cls.p), (XOper.mk (some 4) (XOp.mv (XArg.lit (AV.c (CV.pv (PV.int .i64 0))))) none Cls.p), (XOper.mk (some 5) (XOp.mv (XArg.lit
  (AV.c (CV.pv (PV.int .i64 0))))) none Cls.p)])) (XCode.seq (XCode.tr [true, true, false, false, false, false, true, true, true] false (XCode.region false
  [(XOper.mk (some 10) (XOp.mv (XArg.tmp 0)) none Cls.p), (XOper.mk (some 11) (XOp.call false [] (XArg.lit (AV.c (CV.fn 44 []))) [(XArg.tmp 10)]) none Cls.p),
  (XOper.mk (some 9) (XOp.mv (XArg.tmp 11)) none Cls.p), (XOper.mk (some 12) (XOp.extr 0 (XArg.tmp 9)) none Cls.p), (XOper.mk (some 13) (XOp.extr 1 (XArg.tmp
  9)) none Cls.p), (XOper.mk (some 14) (XOp.extr 2 (XArg.tmp 9)) none Cls.p), (XOper.mk (some 6) (XOp.mv (XArg.tmp 12)) none Cls.p), (XOper.mk (some 7) (XOp.mv
  (XArg.tmp 13)) none Cls.p), (XOper.mk (some 8) (XOp.mv (XArg.tmp 14)) none Cls.p)])) (XCode.seq (XCode.tr [true, false, false, true, true, true, true, true]
  false (XCode.block 0 (XCode.seq (XCode.tr [true, true, false, false, false, false, true, true, true, false, false, false, false, false, false, true] false
  (XCode.region false [(XOper.mk (some 16) (XOp.mv (XArg.tmp 8)) none Cls.p), (XOper.mk (some 17) (XOp.bin .neq (XArg.tmp 16) (XArg.lit (AV.c (CV.pv (PV.int
  .i64 0))))) none Cls.p), (XOper.mk (some 15) (XOp.mv (XArg.tmp 17)) none Cls.p)])) (XCode.tr [true, false, false, true, true, true, true, true] false
  (XCode.cond (XArg.tmp 15) (XCode.seq (XCode.tr [false, false, false, true, true, true] false (XCode.region false [(XOper.mk (some 18) (XOp.mv (XArg.tmp 8))
  none Cls.p), (XOper.mk (some 3) (XOp.mv (XArg.lit (AV.c (CV.pv (PV.str []))))) none Cls.p), (XOper.mk (some 4) (XOp.mv (XArg.lit (AV.c (CV.pv (PV.int .i64
  0))))) none Cls.p), (XOper.mk (some 5) (XOp.mv (XArg.tmp 18)) none Cls.p)])) (XCode.tr [false, false, false, true, true, true] false XCode.ret)) (XCode.seq
  (XCode.tr [true, false, false, false, false, false, true, true, false, false, false, false, false, false, false, false, false, false, false, true] false
  (XCode.region false [(XOper.mk (some 20) (XOp.load false 1 (XArg.tmp 1)) none Cls.r), (XOper.mk (some 21) (XOp.bin .lss (XArg.tmp 20) (XArg.lit (AV.c (CV.pv
  (PV.int .i64 0))))) none Cls.p), (XOper.mk (some 22) (XOp.mv (XArg.tmp 21)) none Cls.p), (XOper.mk (some 23) (XOp.mv (XArg.tmp 6)) (some (22, false)) Cls.p),
  (XOper.mk (some 24) (XOp.load false 1 (XArg.tmp 1)) (some (22, false)) Cls.r), (XOper.mk (some 25) (XOp.convI .u64 (XArg.tmp 24)) (some (22, false)) Cls.p),
  (XOper.mk (some 26) (XOp.bin .gtr (XArg.tmp 23) (XArg.tmp 25)) (some (22, false)) Cls.p), (XOper.mk (some 27) (XOp.pick (XArg.tmp 22) (XArg.lit (AV.c (CV.pv
  (PV.bool true)))) (XArg.tmp 26)) none Cls.p), (XOper.mk (some 19) (XOp.mv (XArg.tmp 27)) none Cls.p)])) (XCode.tr [true, false, false, true, true, true, true,
  true] false (XCode.cond (XArg.tmp 19) (XCode.seq (XCode.region false [(XOper.mk (some 3) (XOp.mv (XArg.lit (AV.c (CV.pv (PV.str []))))) none Cls.p), (XOper.mk
  (some 4) (XOp.mv (XArg.lit (AV.c (CV.pv (PV.int .i64 0))))) none Cls.p), (XOper.mk (some 5) (XOp.mv (XArg.lit (AV.c (CV.pv (PV.int .i64 4))))) none Cls.p)])
  (XCode.tr [false, false, false, true, true, true] false XCode.ret)) (XCode.seq (XCode.tr [true, false, false, false, false, false, true, true, false, false,
  false, false, false, false, false, false, false, false, false, false, false, false, false, false, false, false, false, false, true] false (XCode.region false
  [(XOper.mk (some 29) (XOp.mv (XArg.tmp 6)) none Cls.p), (XOper.mk (some 30) (XOp.mv (XArg.tmp 0)) none Cls.p), (XOper.mk (some 31) (XOp.lenS (XArg.tmp 30))
  none Cls.p), (XOper.mk (some 32) (XOp.mv (XArg.tmp 7)) none Cls.p), (XOper.mk (some 33) (XOp.bin .sub (XArg.tmp 31) (XArg.tmp 32)) none Cls.p), (XOper.mk
  (some 34) (XOp.convI .u64 (XArg.tmp 33)) none Cls.p), (XOper.mk (some 35) (XOp.bin .gtr (XArg.tmp 29) (XArg.tmp 34)) none Cls.p), (XOper.mk (some 28) (XOp.mv
  (XArg.tmp 35)) none Cls.p)])) (XCode.tr [true, false, false, true, true, true, true, true] false (XCode.cond (XArg.tmp 28) (XCode.seq (XCode.region false
  [(XOper.mk (some 3) (XOp.mv (XArg.lit (AV.c (CV.pv (PV.str []))))) none Cls.p), (XOper.mk (some 4) (XOp.mv (XArg.lit (AV.c (CV.pv (PV.int .i64 0))))) none
  Cls.p), (XOper.mk (some 5) (XOp.mv (XArg.lit (AV.c (CV.pv (PV.int .i64 2))))) none Cls.p)]) (XCode.tr [false, false, false, true, true, true] false
  XCode.ret)) XCode.skip))))))))))) (XCode.seq (XCode.tr [false, false, false, true, true, true] false (XCode.region false [(XOper.mk (some 36) (XOp.mv
  (XArg.tmp 0)) none Cls.p), (XOper.mk (some 37) (XOp.mv (XArg.tmp 7)) none Cls.p), (XOper.mk (some 38) (XOp.mv (XArg.tmp 7)) none Cls.p), (XOper.mk (some 39)
  (XOp.mv (XArg.tmp 6)) none Cls.p), (XOper.mk (some 40) (XOp.convI .i64 (XArg.tmp 39)) none Cls.p), (XOper.mk (some 41) (XOp.bin .add (XArg.tmp 38) (XArg.tmp
  40)) none Cls.p), (XOper.mk (some 42) (XOp.sliceS (XArg.tmp 36) (some (XArg.tmp 37)) (some (XArg.tmp 41))) none Cls.p), (XOper.mk (some 43) (XOp.mv (XArg.tmp
  7)) none Cls.p), (XOper.mk (some 44) (XOp.mv (XArg.tmp 6)) none Cls.p), (XOper.mk (some 45) (XOp.convI .i64 (XArg.tmp 44)) none Cls.p), (XOper.mk (some 46)
  (XOp.bin .add (XArg.tmp 43) (XArg.tmp 45)) none Cls.p), (XOper.mk (some 3) (XOp.mv (XArg.tmp 42)) none Cls.p), (XOper.mk (some 4) (XOp.mv (XArg.tmp 46)) none
  Cls.p), (XOper.mk (some 5) (XOp.mv (XArg.lit (AV.c (CV.pv (PV.int .i64 0))))) none Cls.p)])) (XCode.tr [false, false, false, true, true, true] false
  XCode.ret))))))
theorem xf47_ok : cmpFunc Go.Proofs.Try.prog 47 ((.two (.tr [true, true] false .no) (.two (.tr [true, true, false, false, false, false, true, true, true] false (.ops [{}, { cls := some .p }])) (.two (.tr [true, false, false, true, true, true, true, true] false (.two (.tr [true, true, false, false, false, false, true, true, true, false, false, false, false, false, false, true] false .no) (.tr [true, false, false, true, true, true, true, true] false (.two (.two (.tr [false, false, false, true, true, true] false .no) (.tr [false, false, false, true, true, true] false .no)) (.two (.tr [true, false, false, false, false, false, true, true, false, false, false, false, false, false, false, false, false, false, false, true] false .no) (.tr [true, false, false, true, true, true, true, true] false (.two (.two .no (.tr [false, false, false, true, true, true] false .no)) (.two (.tr [true, false, false, false, false, false, true, true, false, false, false, false, false, false, false, false, false, false, false, false, false, false, false, false, false, false, false, false, true] false .no) (.tr [true, false, false, true, true, true, true, true] false (.two (.two .no (.tr [false, false, false, true, true, true] false .no)) .no)))))))))) (.two (.tr [false, false, false, true, true, true] false .no) (.tr [false, false, false, true, true, true] false .no)))))) = some xf47 := by kernel_rfl
def xf48 : XFunc :=
(XFunc.mk 46 [(XRes.tmp 4)] (XCode.seq (XCode.tr [true, true] false (XCode.region false [(XOper.mk (some 4) (XOp.mv (XArg.lit (AV.c (CV.pv (PV.bool false)))))
  none Cls.p)])) (XCode.seq (XCode.region false [(XOper.mk (some 5) (XOp.mv (XArg.lit (AV.c (CV.pv (PV.bool false))))) none Cls.p)]) (XCode.seq (XCode.seq
  (XCode.tr [true, true, false, false, false, true, false, false, false, false, false, false, false, false, false, false, false, true] false (XCode.region false
  [(XOper.mk (some 9) (XOp.mv (XArg.tmp 0)) none Cls.p), (XOper.mk (some 10) (XOp.eqN 1 false (XArg.tmp 9) (XArg.lit (AV.c CV.nilp))) none Cls.p), (XOper.mk
  (some 11) (XOp.mv (XArg.tmp 10)) none Cls.p), (XOper.mk (some 12) (XOp.mv (XArg.tmp 0)) (some (11, false)) Cls.p), (XOper.mk (some 13) (XOp.nilc (XArg.tmp
  12)) (some (11, false)) Cls.p), (XOper.mk (some 14) (XOp.faddr 1 (XArg.tmp 13)) (some (11, false)) Cls.p), (XOper.mk (some 15) (XOp.load false 1 (XArg.tmp
  14)) (some (11, false)) Cls.r), (XOper.mk (some 16) (XOp.bin .neq (XArg.tmp 15) (XArg.lit (AV.c (CV.pv (PV.int .i64 0))))) (some (11, false)) Cls.p),
  (XOper.mk (some 17) (XOp.pick (XArg.tmp 11) (XArg.lit (AV.c (CV.pv (PV.bool true)))) (XArg.tmp 16)) none Cls.p)])) (XCode.tr [true, true, false, false, true,
  true] false (XCode.cond (XArg.tmp 17) (XCode.seq (XCode.tr [false, false, false, false, true] false (XCode.region false [(XOper.mk (some 18) (XOp.mv (XArg.tmp
  5)) none Cls.p), (XOper.mk (some 4) (XOp.mv (XArg.tmp 18)) none Cls.p)])) (XCode.tr [false, false, false, false, true] false XCode.ret)) XCode.skip)))
  (XCode.seq (XCode.tr [true, false, false, false, false, true, true, true, true] false (XCode.region false [(XOper.mk (some 20) (XOp.mv (XArg.tmp 1)) none
  Cls.p), (XOper.mk (some 21) (XOp.mv (XArg.tmp 0)) none Cls.p), (XOper.mk (some 22) (XOp.nilc (XArg.tmp 21)) none Cls.p), (XOper.mk (some 23) (XOp.faddr 0
  (XArg.tmp 22)) none Cls.p), (XOper.mk (some 24) (XOp.load false 1 (XArg.tmp 23)) none Cls.r), (XOper.mk (some 25) (XOp.call false [] (XArg.tmp 20) [(XArg.tmp
  24)]) none Cls.w), (XOper.mk (some 19) (XOp.mv (XArg.tmp 25)) none Cls.p), (XOper.mk (some 26) (XOp.extr 0 (XArg.tmp 19)) none Cls.p), (XOper.mk (some 27)
  (XOp.extr 1 (XArg.tmp 19)) none Cls.p), (XOper.mk (some 28) (XOp.extr 2 (XArg.tmp 19)) none Cls.p), (XOper.mk (some 6) (XOp.mv (XArg.tmp 26)) none Cls.p),
  (XOper.mk (some 7) (XOp.mv (XArg.tmp 27)) none Cls.p), (XOper.mk (some 8) (XOp.mv (XArg.tmp 28)) none Cls.p)])) (XCode.seq (XCode.seq (XCode.tr [true, false,
  false, false, false, true, true, true, true, false, false, false, false, false, false, false, false, false, false, false, false, false, false, false, false,
  false, false, false, false, false, true] false (XCode.region false [(XOper.mk (some 29) (XOp.mv (XArg.tmp 8)) none Cls.p), (XOper.mk (some 30) (XOp.bin .neq
  (XArg.tmp 29) (XArg.lit (AV.c (CV.pv (PV.int .i64 0))))) none Cls.p)])) (XCode.tr [true, false, false, false, true, false, true, true] false (XCode.cond
  (XArg.tmp 30) (XCode.seq (XCode.tr [false, false, false, false, false, true] false (XCode.region false [(XOper.mk (some 31) (XOp.mv (XArg.tmp 0)) none Cls.p),
  (XOper.mk (some 32) (XOp.mv (XArg.tmp 8)) none Cls.p), (XOper.mk (some 33) (XOp.nilc (XArg.tmp 31)) none Cls.p), (XOper.mk (some 34) (XOp.faddr 1 (XArg.tmp
  33)) none Cls.p), (XOper.mk none (XOp.store 1 (XArg.tmp 34) (XArg.tmp 32)) none Cls.w)])) (XCode.seq (XCode.tr [false, false, false, false, true] false
  (XCode.region false [(XOper.mk (some 35) (XOp.mv (XArg.tmp 5)) none Cls.p), (XOper.mk (some 4) (XOp.mv (XArg.tmp 35)) none Cls.p)])) (XCode.tr [false, false,
  false, false, true] false XCode.ret))) XCode.skip))) (XCode.seq (XCode.tr [false, false, false, false, false, false, true] false (XCode.region false
  [(XOper.mk (some 36) (XOp.mv (XArg.tmp 0)) none Cls.p), (XOper.mk (some 37) (XOp.mv (XArg.tmp 0)) none Cls.p), (XOper.mk (some 38) (XOp.nilc (XArg.tmp 37))
  none Cls.p), (XOper.mk (some 39) (XOp.faddr 0 (XArg.tmp 38)) none Cls.p), (XOper.mk (some 40) (XOp.load false 1 (XArg.tmp 39)) none Cls.r), (XOper.mk (some
  41) (XOp.mv (XArg.tmp 7)) none Cls.p), (XOper.mk (some 42) (XOp.sliceS (XArg.tmp 40) (some (XArg.tmp 41)) none) none Cls.p), (XOper.mk (some 43) (XOp.nilc
  (XArg.tmp 36)) none Cls.p), (XOper.mk (some 44) (XOp.faddr 0 (XArg.tmp 43)) none Cls.p), (XOper.mk none (XOp.store 1 (XArg.tmp 44) (XArg.tmp 42)) none
  Cls.w)])) (XCode.seq (XCode.tr [false, false, false, false, true] false (XCode.region false [(XOper.mk (some 45) (XOp.mv (XArg.tmp 6)) none Cls.p), (XOper.mk
  (some 4) (XOp.mv (XArg.tmp 45)) none Cls.p)])) (XCode.tr [false, false, false, false, true] false XCode.ret)))))))))
theorem xf48_ok : cmpFunc Go.Proofs.Try.prog 48 ((.two (.tr [true, true] false .no) (.two .no (.two (.two (.tr [true, true, false, false, false, true, false, false, false, false, false, false, false, false, false, false, false, true] false .no) (.tr [true, true, false, false, true, true] false (.two (.two (.tr [false, false, false, false, true] false .no) (.tr [false, false, false, false, true] false .no)) .no))) (.two (.tr [true, false, false, false, false, true, true, true, true] false .no) (.two (.two (.tr [true, false, false, false, false, true, true, true, true, false, false, false, false, false, false, false, false, false, false, false, false, false, false, false, false, false, false, false, false, false, true] false .no) (.tr [true, false, false, false, true, false, true, true] false (.two (.two (.tr [false, false, false, false, false, true] false .no) (.two (.tr [false, false, false, false, true] false .no) (.tr [false, false, false, false, true] false .no))) .no))) (.two (.tr [false, false, false, false, false, false, true] false .no) (.two (.tr [false, false, false, false, true] false .no) (.tr [false, false, false, false, true] false .no))))))))) = some xf48 := by kernel_rfl
def xf49 : XFunc :=
(XFunc.mk 16 [(XRes.tmp 2), (XRes.tmp 3), (XRes.tmp 4)] (XCode.seq (XCode.tr [true] false (XCode.region false [(XOper.mk (some 2) (XOp.mv (XArg.lit (AV.c (CV.pv
  (PV.bool false))))) none Cls.p), (XOper.mk (some 3) (XOp.mv (XArg.lit (AV.c (CV.pv (PV.int .i64 0))))) none Cls.p), (XOper.mk (some 4) (XOp.mv (XArg.lit (AV.c
  (CV.pv (PV.int .i64 0))))) none Cls.p)])) (XCode.seq (XCode.tr [true, false, true, true, true] false (XCode.block 0 (XCode.seq (XCode.tr [true, false, false,
  false, false, true] false (XCode.region false [(XOper.mk (some 6) (XOp.mv (XArg.tmp 0)) none Cls.p), (XOper.mk (some 7) (XOp.lenS (XArg.tmp 6)) none Cls.p),
  (XOper.mk (some 8) (XOp.bin .eql (XArg.tmp 7) (XArg.lit (AV.c (CV.pv (PV.int .i64 0))))) none Cls.p), (XOper.mk (some 5) (XOp.mv (XArg.tmp 8)) none Cls.p)]))
  (XCode.tr [true, false, true, true, true] false (XCode.cond (XArg.tmp 5) (XCode.seq (XCode.region false [(XOper.mk (some 2) (XOp.mv (XArg.lit (AV.c (CV.pv
  (PV.bool false))))) none Cls.p), (XOper.mk (some 3) (XOp.mv (XArg.lit (AV.c (CV.pv (PV.int .i64 0))))) none Cls.p), (XOper.mk (some 4) (XOp.mv (XArg.lit (AV.c
  (CV.pv (PV.int .i64 2))))) none Cls.p)]) (XCode.tr [false, false, true, true, true] false XCode.ret)) (XCode.seq (XCode.tr [true, false, false, false, false,
  false, false, false, false, true] false (XCode.region false [(XOper.mk (some 10) (XOp.mv (XArg.tmp 0)) none Cls.p), (XOper.mk (some 11) (XOp.idxS (XArg.tmp
  10) (XArg.lit (AV.c (CV.pv (PV.int .i64 0))))) none Cls.p), (XOper.mk (some 12) (XOp.bin .gtr (XArg.tmp 11) (XArg.lit (AV.c (CV.pv (PV.int .u8 1))))) none
  Cls.p), (XOper.mk (some 9) (XOp.mv (XArg.tmp 12)) none Cls.p)])) (XCode.tr [true, false, true, true, true] false (XCode.cond (XArg.tmp 9) (XCode.seq
  (XCode.region false [(XOper.mk (some 2) (XOp.mv (XArg.lit (AV.c (CV.pv (PV.bool false))))) none Cls.p), (XOper.mk (some 3) (XOp.mv (XArg.lit (AV.c (CV.pv
  (PV.int .i64 0))))) none Cls.p), (XOper.mk (some 4) (XOp.mv (XArg.lit (AV.c (CV.pv (PV.int .i64 3))))) none Cls.p)]) (XCode.tr [false, false, true, true,
  true] false XCode.ret)) XCode.skip)))))))) (XCode.seq (XCode.tr [false, false, true, true, true] false (XCode.region false [(XOper.mk (some 13) (XOp.mv
  (XArg.tmp 0)) none Cls.p), (XOper.mk (some 14) (XOp.idxS (XArg.tmp 13) (XArg.lit (AV.c (CV.pv (PV.int .i64 0))))) none Cls.p), (XOper.mk (some 15) (XOp.bin
  .eql (XArg.tmp 14) (XArg.lit (AV.c (CV.pv (PV.int .u8 1))))) none Cls.p), (XOper.mk (some 2) (XOp.mv (XArg.tmp 15)) none Cls.p), (XOper.mk (some 3) (XOp.mv
  (XArg.lit (AV.c (CV.pv (PV.int .i64 1))))) none Cls.p), (XOper.mk (some 4) (XOp.mv (XArg.lit (AV.c (CV.pv (PV.int .i64 0))))) none Cls.p)])) (XCode.tr [false,
  false, true, true, true] false XCode.ret)))))
theorem xf49_ok : cmpFunc Go.Proofs.Try.prog 49 ((.two (.tr [true] false .no) (.two (.tr [true, false, true, true, true] false (.two (.tr [true, false, false, false, false, true] false .no) (.tr [true, false, true, true, true] false (.two (.two .no (.tr [false, false, true, true, true] false .no)) (.two (.tr [true, false, false, false, false, false, false, false, false, true] false .no) (.tr [true, false, true, true, true] false (.two (.two .no (.tr [false, false, true, true, true] false .no)) .no))))))) (.two (.tr [false, false, true, true, true] false .no) (.tr [false, false, true, true, true] false .no))))) = some xf49 := by kernel_rfl
def xf50 : XFunc :=
(XFunc.mk 46 [(XRes.cell 4 true 2)] (XCode.seq (XCode.region false [(XOper.mk (some 4) (XOp.alloc [(CV.pv (PV.int .i64 0)), (CV.pv (PV.int .i64 0))]) none
  Cls.w)]) (XCode.seq (XCode.region false [(XOper.mk (some 5) (XOp.alloc [(CV.pv (PV.int .i64 0)), (CV.pv (PV.int .i64 0))]) none Cls.w)]) (XCode.seq (XCode.seq
  (XCode.tr [true, true, false, false, true, true, false, false, false, false, false, false, false, false, false, false, false, true] false (XCode.region false
  [(XOper.mk (some 9) (XOp.mv (XArg.tmp 0)) none Cls.p), (XOper.mk (some 10) (XOp.eqN 1 false (XArg.tmp 9) (XArg.lit (AV.c CV.nilp))) none Cls.p), (XOper.mk
  (some 11) (XOp.mv (XArg.tmp 10)) none Cls.p), (XOper.mk (some 12) (XOp.mv (XArg.tmp 0)) (some (11, false)) Cls.p), (XOper.mk (some 13) (XOp.nilc (XArg.tmp
  12)) (some (11, false)) Cls.p), (XOper.mk (some 14) (XOp.faddr 1 (XArg.tmp 13)) (some (11, false)) Cls.p), (XOper.mk (some 15) (XOp.load false 1 (XArg.tmp
  14)) (some (11, false)) Cls.r), (XOper.mk (some 16) (XOp.bin .neq (XArg.tmp 15) (XArg.lit (AV.c (CV.pv (PV.int .i64 0))))) (some (11, false)) Cls.p),
  (XOper.mk (some 17) (XOp.pick (XArg.tmp 11) (XArg.lit (AV.c (CV.pv (PV.bool true)))) (XArg.tmp 16)) none Cls.p)])) (XCode.tr [true, true, false, false, true,
  true] false (XCode.cond (XArg.tmp 17) (XCode.seq (XCode.tr [false, false, false, false, true] false (XCode.region false [(XOper.mk (some 18) (XOp.load true 2
  (XArg.tmp 5)) none Cls.r), (XOper.mk none (XOp.store 2 (XArg.tmp 4) (XArg.tmp 18)) none Cls.w)])) (XCode.tr [false, false, false, false, true] false
  XCode.ret)) XCode.skip))) (XCode.seq (XCode.tr [true, false, false, false, true, true, true, true, true] false (XCode.region false [(XOper.mk (some 20)
  (XOp.mv (XArg.tmp 1)) none Cls.p), (XOper.mk (some 21) (XOp.mv (XArg.tmp 0)) none Cls.p), (XOper.mk (some 22) (XOp.nilc (XArg.tmp 21)) none Cls.p), (XOper.mk
  (some 23) (XOp.faddr 0 (XArg.tmp 22)) none Cls.p), (XOper.mk (some 24) (XOp.load false 1 (XArg.tmp 23)) none Cls.r), (XOper.mk (some 25) (XOp.call false []
  (XArg.tmp 20) [(XArg.tmp 24)]) none Cls.w), (XOper.mk (some 19) (XOp.mv (XArg.tmp 25)) none Cls.p), (XOper.mk (some 26) (XOp.extr 0 (XArg.tmp 19)) none
  Cls.p), (XOper.mk (some 27) (XOp.extr 1 (XArg.tmp 19)) none Cls.p), (XOper.mk (some 28) (XOp.extr 2 (XArg.tmp 19)) none Cls.p), (XOper.mk (some 6) (XOp.alloc
  [(CV.pv (PV.int .i64 0)), (CV.pv (PV.int .i64 0))]) none Cls.w), (XOper.mk none (XOp.store 2 (XArg.tmp 6) (XArg.tmp 26)) none Cls.w), (XOper.mk (some 7)
  (XOp.mv (XArg.tmp 27)) none Cls.p), (XOper.mk (some 8) (XOp.mv (XArg.tmp 28)) none Cls.p)])) (XCode.seq (XCode.seq (XCode.tr [true, false, false, false, true,
  true, true, true, true, false, false, false, false, false, false, false, false, false, false, false, false, false, false, false, false, false, false, false,
  false, false, true] false (XCode.region false [(XOper.mk (some 29) (XOp.mv (XArg.tmp 8)) none Cls.p), (XOper.mk (some 30) (XOp.bin .neq (XArg.tmp 29)
  (XArg.lit (AV.c (CV.pv (PV.int .i64 0))))) none Cls.p)])) (XCode.tr [true, false, false, false, true, false, true, true] false (XCode.cond (XArg.tmp 30)
  (XCode.seq (XCode.tr [false, false, false, false, true, true] false (XCode.region false [(XOper.mk (some 31) (XOp.mv (XArg.tmp 0)) none Cls.p), (XOper.mk
  (some 32) (XOp.mv (XArg.tmp 8)) none Cls.p), (XOper.mk (some 33) (XOp.nilc (XArg.tmp 31)) none Cls.p), (XOper.mk (some 34) (XOp.faddr 1 (XArg.tmp 33)) none
  Cls.p), (XOper.mk none (XOp.store 1 (XArg.tmp 34) (XArg.tmp 32)) none Cls.w)])) (XCode.seq (XCode.tr [false, false, false, false, true] false (XCode.region
  false [(XOper.mk (some 35) (XOp.load true 2 (XArg.tmp 5)) none Cls.r), (XOper.mk none (XOp.store 2 (XArg.tmp 4) (XArg.tmp 35)) none Cls.w)])) (XCode.tr
  [false, false, false, false, true] false XCode.ret))) XCode.skip))) (XCode.seq (XCode.tr [false, false, false, false, true, false, true] false (XCode.region
  false [(XOper.mk (some 36) (XOp.mv (XArg.tmp 0)) none Cls.p), (XOper.mk (some 37) (XOp.mv (XArg.tmp 0)) none Cls.p), (XOper.mk (some 38) (XOp.nilc (XArg.tmp
  37)) none Cls.p), (XOper.mk (some 39) (XOp.faddr 0 (XArg.tmp 38)) none Cls.p), (XOper.mk (some 40) (XOp.load false 1 (XArg.tmp 39)) none Cls.r), (XOper.mk
  (some 41) (XOp.mv (XArg.tmp 7)) none Cls.p), (XOper.mk (some 42) (XOp.sliceS (XArg.tmp 40) (some (XArg.tmp 41)) none) none Cls.p), (XOper.mk (some 43)
  (XOp.nilc (XArg.tmp 36)) none Cls.p), (XOper.mk (some 44) (XOp.faddr 0 (XArg.tmp 43)) none Cls.p), (XOper.mk none (XOp.store 1 (XArg.tmp 44) (XArg.tmp 42))
  none Cls.w)])) (XCode.seq (XCode.tr [false, false, false, false, true] false (XCode.region false [(XOper.mk (some 45) (XOp.load true 2 (XArg.tmp 6)) none
  Cls.r), (XOper.mk none (XOp.store 2 (XArg.tmp 4) (XArg.tmp 45)) none Cls.w)])) (XCode.tr [false, false, false, false, true] false XCode.ret)))))))))
theorem xf50_ok : cmpFunc Go.Proofs.Try.prog 50 ((.two .no (.two .no (.two (.two (.tr [true, true, false, false, true, true, false, false, false, false, false, false, false, false, false, false, false, true] false .no) (.tr [true, true, false, false, true, true] false (.two (.two (.tr [false, false, false, false, true] false .no) (.tr [false, false, false, false, true] false .no)) .no))) (.two (.tr [true, false, false, false, true, true, true, true, true] false .no) (.two (.two (.tr [true, false, false, false, true, true, true, true, true, false, false, false, false, false, false, false, false, false, false, false, false, false, false, false, false, false, false, false, false, false, true] false .no) (.tr [true, false, false, false, true, false, true, true] false (.two (.two (.tr [false, false, false, false, true, true] false .no) (.two (.tr [false, false, false, false, true] false .no) (.tr [false, false, false, false, true] false .no))) .no))) (.two (.tr [false, false, false, false, true, false, true] false .no) (.two (.tr [false, false, false, false, true] false .no) (.tr [false, false, false, false, true] false .no))))))))) = some xf50 := by kernel_rfl
def xf51 : XFunc :=
(XFunc.mk 61 [(XRes.cell 2 true 2), (XRes.tmp 3), (XRes.tmp 4)] (XCode.seq (XCode.tr [true, false, true] false (XCode.region false [(XOper.mk (some 2)
  (XOp.alloc [(CV.pv (PV.int .i64 0)), (CV.pv (PV.int .i64 0))]) none Cls.w), (XOper.mk (some 3) (XOp.mv (XArg.lit (AV.c (CV.pv (PV.int .i64 0))))) none Cls.p),
  (XOper.mk (some 4) (XOp.mv (XArg.lit (AV.c (CV.pv (PV.int .i64 0))))) none Cls.p)])) (XCode.seq (XCode.tr [true, false, true, false, false, true, true, true]
  false (XCode.region false [(XOper.mk (some 13) (XOp.mv (XArg.tmp 0)) none Cls.p), (XOper.mk (some 14) (XOp.call false [] (XArg.lit (AV.c (CV.fn 44 [])))
  [(XArg.tmp 13)]) none Cls.p), (XOper.mk (some 12) (XOp.mv (XArg.tmp 14)) none Cls.p), (XOper.mk (some 15) (XOp.extr 0 (XArg.tmp 12)) none Cls.p), (XOper.mk
  (some 16) (XOp.extr 1 (XArg.tmp 12)) none Cls.p), (XOper.mk (some 17) (XOp.extr 2 (XArg.tmp 12)) none Cls.p), (XOper.mk (some 5) (XOp.mv (XArg.tmp 15)) none
  Cls.p), (XOper.mk (some 6) (XOp.mv (XArg.tmp 16)) none Cls.p), (XOper.mk (some 7) (XOp.mv (XArg.tmp 17)) none Cls.p)])) (XCode.seq (XCode.seq (XCode.tr [true,
  false, true, false, false, true, true, true, false, false, false, false, false, false, false, false, false, false, false, true] false (XCode.region false
  [(XOper.mk (some 18) (XOp.mv (XArg.tmp 7)) none Cls.p), (XOper.mk (some 19) (XOp.bin .neq (XArg.tmp 18) (XArg.lit (AV.c (CV.pv (PV.int .i64 0))))) none
  Cls.p)])) (XCode.tr [true, false, true, true, true, true, true] false (XCode.cond (XArg.tmp 19) (XCode.seq (XCode.tr [false, false, true, true, true] false
  (XCode.region false [(XOper.mk (some 20) (XOp.build [(CV.pv (PV.int .i64 0)), (CV.pv (PV.int .i64 0))] []) none Cls.p), (XOper.mk (some 21) (XOp.mv (XArg.tmp
  7)) none Cls.p), (XOper.mk none (XOp.store 2 (XArg.tmp 2) (XArg.tmp 20)) none Cls.w), (XOper.mk (some 3) (XOp.mv (XArg.lit (AV.c (CV.pv (PV.int .i64 0)))))
  none Cls.p), (XOper.mk (some 4) (XOp.mv (XArg.tmp 21)) none Cls.p)])) (XCode.tr [false, false, true, true, true] false XCode.ret)) XCode.skip))) (XCode.seq
  (XCode.tr [false, false, true, false, false, true, true, true, true, true] false (XCode.region false [(XOper.mk (some 23) (XOp.mv (XArg.tmp 0)) none Cls.p),
  (XOper.mk (some 24) (XOp.mv (XArg.tmp 6)) none Cls.p), (XOper.mk (some 25) (XOp.sliceS (XArg.tmp 23) (some (XArg.tmp 24)) none) none Cls.p), (XOper.mk (some
  26) (XOp.call false [] (XArg.lit (AV.c (CV.fn 44 []))) [(XArg.tmp 25)]) none Cls.p), (XOper.mk (some 22) (XOp.mv (XArg.tmp 26)) none Cls.p), (XOper.mk (some
  27) (XOp.extr 0 (XArg.tmp 22)) none Cls.p), (XOper.mk (some 28) (XOp.extr 1 (XArg.tmp 22)) none Cls.p), (XOper.mk (some 29) (XOp.extr 2 (XArg.tmp 22)) none
  Cls.p), (XOper.mk (some 8) (XOp.mv (XArg.tmp 27)) none Cls.p), (XOper.mk (some 9) (XOp.mv (XArg.tmp 28)) none Cls.p), (XOper.mk (some 7) (XOp.mv (XArg.tmp
  29)) none Cls.p)])) (XCode.seq (XCode.tr [false, false, true, false, false, false, true, true, false, true, true, true] false (XCode.region false [(XOper.mk
  (some 30) (XOp.mv (XArg.tmp 5)) none Cls.p), (XOper.mk (some 31) (XOp.call false [] (XArg.lit (AV.c (CV.fn 45 []))) [(XArg.tmp 30)]) none Cls.p), (XOper.mk
  (some 32) (XOp.mv (XArg.tmp 8)) none Cls.p), (XOper.mk (some 33) (XOp.call false [] (XArg.lit (AV.c (CV.fn 45 []))) [(XArg.tmp 32)]) none Cls.p), (XOper.mk
  (some 10) (XOp.mv (XArg.tmp 31)) none Cls.p), (XOper.mk (some 11) (XOp.mv (XArg.tmp 33)) none Cls.p)])) (XCode.seq (XCode.tr [false, false, true, true, true,
  false, true, false, false, true, true, true] false (XCode.block 0 (XCode.seq (XCode.tr [false, false, true, false, false, false, true, true, false, true,
  true, true, false, false, false, false, false, false, false, false, false, false, false, false, false, false, false, false, false, false, false, false, false,
  false, true] false (XCode.region false [(XOper.mk (some 35) (XOp.mv (XArg.tmp 7)) none Cls.p), (XOper.mk (some 36) (XOp.bin .neq (XArg.tmp 35) (XArg.lit (AV.c
  (CV.pv (PV.int .i64 0))))) none Cls.p), (XOper.mk (some 34) (XOp.mv (XArg.tmp 36)) none Cls.p)])) (XCode.tr [false, false, true, true, true, false, true,
  false, false, true, true, true] false (XCode.cond (XArg.tmp 34) (XCode.seq (XCode.tr [false, false, true, true, true] false (XCode.region false [(XOper.mk
  (some 37) (XOp.build [(CV.pv (PV.int .i64 0)), (CV.pv (PV.int .i64 0))] []) none Cls.p), (XOper.mk (some 38) (XOp.mv (XArg.tmp 7)) none Cls.p), (XOper.mk none
  (XOp.store 2 (XArg.tmp 2) (XArg.tmp 37)) none Cls.w), (XOper.mk (some 3) (XOp.mv (XArg.lit (AV.c (CV.pv (PV.int .i64 0))))) none Cls.p), (XOper.mk (some 4)
  (XOp.mv (XArg.tmp 38)) none Cls.p)])) (XCode.tr [false, false, true, true, true] false XCode.ret)) (XCode.seq (XCode.tr [false, false, true, false, false,
  false, true, false, false, true, true, true, false, false, false, false, false, false, false, false, false, false, false, false, false, false, false, false,
  false, false, false, false, false, false, false, false, false, false, false, true] false (XCode.region false [(XOper.mk (some 40) (XOp.mv (XArg.tmp 10)) none
  Cls.p), (XOper.mk (some 41) (XOp.bin .lss (XArg.tmp 40) (XArg.lit (AV.c (CV.pv (PV.int .i64 0))))) none Cls.p), (XOper.mk (some 42) (XOp.mv (XArg.tmp 41))
  none Cls.p), (XOper.mk (some 43) (XOp.mv (XArg.tmp 10)) (some (42, false)) Cls.p), (XOper.mk (some 44) (XOp.bin .gtr (XArg.tmp 43) (XArg.lit (AV.c (CV.pv
  (PV.int .i64 3))))) (some (42, false)) Cls.p), (XOper.mk (some 45) (XOp.pick (XArg.tmp 42) (XArg.lit (AV.c (CV.pv (PV.bool true)))) (XArg.tmp 44)) none
  Cls.p), (XOper.mk (some 39) (XOp.mv (XArg.tmp 45)) none Cls.p)])) (XCode.tr [false, false, true, true, true, false, true, false, false, true, true, true]
  false (XCode.cond (XArg.tmp 39) (XCode.seq (XCode.tr [false, false, true, true, true] false (XCode.region false [(XOper.mk (some 46) (XOp.build [(CV.pv
  (PV.int .i64 0)), (CV.pv (PV.int .i64 0))] []) none Cls.p), (XOper.mk none (XOp.store 2 (XArg.tmp 2) (XArg.tmp 46)) none Cls.w), (XOper.mk (some 3) (XOp.mv
  (XArg.lit (AV.c (CV.pv (PV.int .i64 0))))) none Cls.p), (XOper.mk (some 4) (XOp.mv (XArg.lit (AV.c (CV.pv (PV.int .i64 12))))) none Cls.p)])) (XCode.tr
  [false, false, true, true, true] false XCode.ret)) (XCode.seq (XCode.tr [false, false, true, false, false, false, true, false, false, true, true, true, false,
  false, false, false, false, false, false, false, false, false, false, false, false, false, false, false, false, false, false, false, false, false, false,
  false, false, false, false, false, false, false, false, false, false, false, false, true] false (XCode.region false [(XOper.mk (some 48) (XOp.mv (XArg.tmp
  11)) none Cls.p), (XOper.mk (some 49) (XOp.bin .lss (XArg.tmp 48) (XArg.lit (AV.c (CV.pv (PV.int .i64 (-1000000000000000)))))) none Cls.p), (XOper.mk (some
  50) (XOp.mv (XArg.tmp 49)) none Cls.p), (XOper.mk (some 51) (XOp.mv (XArg.tmp 11)) (some (50, false)) Cls.p), (XOper.mk (some 52) (XOp.bin .gtr (XArg.tmp 51)
  (XArg.lit (AV.c (CV.pv (PV.int .i64 1000000000000000))))) (some (50, false)) Cls.p), (XOper.mk (some 53) (XOp.pick (XArg.tmp 50) (XArg.lit (AV.c (CV.pv
  (PV.bool true)))) (XArg.tmp 52)) none Cls.p), (XOper.mk (some 47) (XOp.mv (XArg.tmp 53)) none Cls.p)])) (XCode.tr [false, false, true, true, true, false,
  true, false, false, true, true, true] false (XCode.cond (XArg.tmp 47) (XCode.seq (XCode.tr [false, false, true, true, true] false (XCode.region false
  [(XOper.mk (some 54) (XOp.build [(CV.pv (PV.int .i64 0)), (CV.pv (PV.int .i64 0))] []) none Cls.p), (XOper.mk none (XOp.store 2 (XArg.tmp 2) (XArg.tmp 54))
  none Cls.w), (XOper.mk (some 3) (XOp.mv (XArg.lit (AV.c (CV.pv (PV.int .i64 0))))) none Cls.p), (XOper.mk (some 4) (XOp.mv (XArg.lit (AV.c (CV.pv (PV.int .i64
  9))))) none Cls.p)])) (XCode.tr [false, false, true, true, true] false XCode.ret)) XCode.skip))))))))))) (XCode.seq (XCode.tr [false, false, true, true, true]
  false (XCode.region false [(XOper.mk (some 55) (XOp.mv (XArg.tmp 10)) none Cls.p), (XOper.mk (some 56) (XOp.mv (XArg.tmp 11)) none Cls.p), (XOper.mk (some 57)
  (XOp.build [(CV.pv (PV.int .i64 0)), (CV.pv (PV.int .i64 0))] [(0, (1, (XArg.tmp 55))), (1, (1, (XArg.tmp 56)))]) none Cls.p), (XOper.mk (some 58) (XOp.mv
  (XArg.tmp 6)) none Cls.p), (XOper.mk (some 59) (XOp.mv (XArg.tmp 9)) none Cls.p), (XOper.mk (some 60) (XOp.bin .add (XArg.tmp 58) (XArg.tmp 59)) none Cls.p),
  (XOper.mk none (XOp.store 2 (XArg.tmp 2) (XArg.tmp 57)) none Cls.w), (XOper.mk (some 3) (XOp.mv (XArg.tmp 60)) none Cls.p), (XOper.mk (some 4) (XOp.mv
  (XArg.lit (AV.c (CV.pv (PV.int .i64 0))))) none Cls.p)])) (XCode.tr [false, false, true, true, true] false XCode.ret)))))))))
theorem xf51_ok : cmpFunc Go.Proofs.Try.prog 51 ((.two (.tr [true, false, true] false .no) (.two (.tr [true, false, true, false, false, true, true, true] false (.ops [{}, { cls := some .p }])) (.two (.two (.tr [true, false, true, false, false, true, true, true, false, false, false, false, false, false, false, false, false, false, false, true] false .no) (.tr [true, false, true, true, true, true, true] false (.two (.two (.tr [false, false, true, true, true] false .no) (.tr [false, false, true, true, true] false .no)) .no))) (.two (.tr [false, false, true, false, false, true, true, true, true, true] false (.ops [{}, {}, {}, { cls := some .p }])) (.two (.tr [false, false, true, false, false, false, true, true, false, true, true, true] false (.ops [{}, { cls := some .p }, {}, { cls := some .p }])) (.two (.tr [false, false, true, true, true, false, true, false, false, true, true, true] false (.two (.tr [false, false, true, false, false, false, true, true, false, true, true, true, false, false, false, false, false, false, false, false, false, false, false, false, false, false, false, false, false, false, false, false, false, false, true] false .no) (.tr [false, false, true, true, true, false, true, false, false, true, true, true] false (.two (.two (.tr [false, false, true, true, true] false .no) (.tr [false, false, true, true, true] false .no)) (.two (.tr [false, false, true, false, false, false, true, false, false, true, true, true, false, false, false, false, false, false, false, false, false, false, false, false, false, false, false, false, false, false, false, false, false, false, false, false, false, false, false, true] false .no) (.tr [false, false, true, true, true, false, true, false, false, true, true, true] false (.two (.two (.tr [false, false, true, true, true] false .no) (.tr [false, false, true, true, true] false .no)) (.two (.tr [false, false, true, false, false, false, true, false, false, true, true, true, false, false, false, false, false, false, false, false, false, false, false, false, false, false, false, false, false, false, false, false, false, false, false, false, false, false, false, false, false, false, false, false, false, false, false, true] false .no) (.tr [false, false, true, true, true, false, true, false, false, true, true, true] false (.two (.two (.tr [false, false, true, true, true] false .no) (.tr [false, false, true, true, true] false .no)) .no)))))))))) (.two (.tr [false, false, true, true, true] false .no) (.tr [false, false, true, true, true] false .no))))))))) = some xf51 := by kernel_rfl
def xf52 : XFunc :=
(XFunc.mk 46 [(XRes.tmp 4)] (XCode.seq (XCode.tr [true, true] false (XCode.region false [(XOper.mk (some 4) (XOp.mv (XArg.lit (AV.c (CV.pv (PV.int .i64 0)))))
  none Cls.p)])) (XCode.seq (XCode.region false [(XOper.mk (some 5) (XOp.mv (XArg.lit (AV.c (CV.pv (PV.int .i64 0))))) none Cls.p)]) (XCode.seq (XCode.seq
  (XCode.tr [true, true, false, false, false, true, false, false, false, false, false, false, false, false, false, false, false, true] false (XCode.region false
  [(XOper.mk (some 9) (XOp.mv (XArg.tmp 0)) none Cls.p), (XOper.mk (some 10) (XOp.eqN 1 false (XArg.tmp 9) (XArg.lit (AV.c CV.nilp))) none Cls.p), (XOper.mk
  (some 11) (XOp.mv (XArg.tmp 10)) none Cls.p), (XOper.mk (some 12) (XOp.mv (XArg.tmp 0)) (some (11, false)) Cls.p), (XOper.mk (some 13) (XOp.nilc (XArg.tmp
  12)) (some (11, false)) Cls.p), (XOper.mk (some 14) (XOp.faddr 1 (XArg.tmp 13)) (some (11, false)) Cls.p), (XOper.mk (some 15) (XOp.load false 1 (XArg.tmp
  14)) (some (11, false)) Cls.r), (XOper.mk (some 16) (XOp.bin .neq (XArg.tmp 15) (XArg.lit (AV.c (CV.pv (PV.int .i64 0))))) (some (11, false)) Cls.p),
  (XOper.mk (some 17) (XOp.pick (XArg.tmp 11) (XArg.lit (AV.c (CV.pv (PV.bool true)))) (XArg.tmp 16)) none Cls.p)])) (XCode.tr [true, true, false, false, true,
  true] false (XCode.cond (XArg.tmp 17) (XCode.seq (XCode.tr [false, false, false, false, true] false (XCode.region false [(XOper.mk (some 18) (XOp.mv (XArg.tmp
  5)) none Cls.p), (XOper.mk (some 4) (XOp.mv (XArg.tmp 18)) none Cls.p)])) (XCode.tr [false, false, false, false, true] false XCode.ret)) XCode.skip)))
  (XCode.seq (XCode.tr [true, false, false, false, false, true, true, true, true] false (XCode.region false [(XOper.mk (some 20) (XOp.mv (XArg.tmp 1)) none
  Cls.p), (XOper.mk (some 21) (XOp.mv (XArg.tmp 0)) none Cls.p), (XOper.mk (some 22) (XOp.nilc (XArg.tmp 21)) none Cls.p), (XOper.mk (some 23) (XOp.faddr 0
  (XArg.tmp 22)) none Cls.p), (XOper.mk (some 24) (XOp.load false 1 (XArg.tmp 23)) none Cls.r), (XOper.mk (some 25) (XOp.call false [] (XArg.tmp 20) [(XArg.tmp
  24)]) none Cls.w), (XOper.mk (some 19) (XOp.mv (XArg.tmp 25)) none Cls.p), (XOper.mk (some 26) (XOp.extr 0 (XArg.tmp 19)) none Cls.p), (XOper.mk (some 27)
  (XOp.extr 1 (XArg.tmp 19)) none Cls.p), (XOper.mk (some 28) (XOp.extr 2 (XArg.tmp 19)) none Cls.p), (XOper.mk (some 6) (XOp.mv (XArg.tmp 26)) none Cls.p),
  (XOper.mk (some 7) (XOp.mv (XArg.tmp 27)) none Cls.p), (XOper.mk (some 8) (XOp.mv (XArg.tmp 28)) none Cls.p)])) (XCode.seq (XCode.seq (XCode.tr [true, false,
  false, false, false, true, true, true, true, false, false, false, false, false, false, false, false, false, false, false, false, false, false, false, false,
  false, false, false, false, false, true] false (XCode.region false [(XOper.mk (some 29) (XOp.mv (XArg.tmp 8)) none Cls.p), (XOper.mk (some 30) (XOp.bin .neq
  (XArg.tmp 29) (XArg.lit (AV.c (CV.pv (PV.int .i64 0))))) none Cls.p)])) (XCode.tr [true, false, false, false, true, false, true, true] false (XCode.cond
  (XArg.tmp 30) (XCode.seq (XCode.tr [false, false, false, false, false, true] false (XCode.region false [(XOper.mk (some 31) (XOp.mv (XArg.tmp 0)) none Cls.p),
  (XOper.mk (some 32) (XOp.mv (XArg.tmp 8)) none Cls.p), (XOper.mk (some 33) (XOp.nilc (XArg.tmp 31)) none Cls.p), (XOper.mk (some 34) (XOp.faddr 1 (XArg.tmp
  33)) none Cls.p), (XOper.mk none (XOp.store 1 (XArg.tmp 34) (XArg.tmp 32)) none Cls.w)])) (XCode.seq (XCode.tr [false, false, false, false, true] false
  (XCode.region false [(XOper.mk (some 35) (XOp.mv (XArg.tmp 5)) none Cls.p), (XOper.mk (some 4) (XOp.mv (XArg.tmp 35)) none Cls.p)])) (XCode.tr [false, false,
  false, false, true] false XCode.ret))) XCode.skip))) (XCode.seq (XCode.tr [false, false, false, false, false, false, true] false (XCode.region false
  [(XOper.mk (some 36) (XOp.mv (XArg.tmp 0)) none Cls.p), (XOper.mk (some 37) (XOp.mv (XArg.tmp 0)) none Cls.p), (XOper.mk (some 38) (XOp.nilc (XArg.tmp 37))
  none Cls.p), (XOper.mk (some 39) (XOp.faddr 0 (XArg.tmp 38)) none Cls.p), (XOper.mk (some 40) (XOp.load false 1 (XArg.tmp 39)) none Cls.r), (XOper.mk (some
  41) (XOp.mv (XArg.tmp 7)) none Cls.p), (XOper.mk (some 42) (XOp.sliceS (XArg.tmp 40) (some (XArg.tmp 41)) none) none Cls.p), (XOper.mk (some 43) (XOp.nilc
  (XArg.tmp 36)) none Cls.p), (XOper.mk (some 44) (XOp.faddr 0 (XArg.tmp 43)) none Cls.p), (XOper.mk none (XOp.store 1 (XArg.tmp 44) (XArg.tmp 42)) none
  Cls.w)])) (XCode.seq (XCode.tr [false, false, false, false, true] false (XCode.region false [(XOper.mk (some 45) (XOp.mv (XArg.tmp 6)) none Cls.p), (XOper.mk
  (some 4) (XOp.mv (XArg.tmp 45)) none Cls.p)])) (XCode.tr [false, false, false, false, true] false XCode.ret)))))))))
theorem xf52_ok : cmpFunc Go.Proofs.Try.prog 52 ((.two (.tr [true, true] false .no) (.two .no (.two (.two (.tr [true, true, false, false, false, true, false, false, false, false, false, false, false, false, false, false, false, true] false .no) (.tr [true, true, false, false, true, true] false (.two (.two (.tr [false, false, false, false, true] false .no) (.tr [false, false, false, false, true] false .no)) .no))) (.two (.tr [true, false, false, false, false, true, true, true, true] false .no) (.two (.two (.tr [true, false, false, false, false, true, true, true, true, false, false, false, false, false, false, false, false, false, false, false, false, false, false, false, false, false, false, false, false, false, true] false .no) (.tr [true, false, false, false, true, false, true, true] false (.two (.two (.tr [false, false, false, false, false, true] false .no) (.two (.tr [false, false, false, false, true] false .no) (.tr [false, false, false, false, true] false .no))) .no))) (.two (.tr [false, false, false, false, false, false, true] false .no) (.two (.tr [false, false, false, false, true] false .no) (.tr [false, false, false, false, true] false .no))))))))) = some xf52 := by kernel_rfl
def xf53 : XFunc :=
(XFunc.mk 31 [(XRes.tmp 3), (XRes.tmp 4), (XRes.tmp 5)] (XCode.seq (XCode.tr [true, true] false (XCode.region false [(XOper.mk (some 3) (XOp.mv (XArg.lit (AV.c
  (CV.pv (PV.int .i64 0))))) none Cls.p), (XOper.mk (some 4) (XOp.mv (XArg.lit (AV.c (CV.pv (PV.int .i64 0))))) none Cls.p), (XOper.mk (some 5) (XOp.mv
  (XArg.lit (AV.c (CV.pv (PV.int .i64 0))))) none Cls.p)])) (XCode.seq (XCode.tr [false, true, false, false, false, false, true, true, true] false (XCode.region
  false [(XOper.mk (some 10) (XOp.mv (XArg.tmp 0)) none Cls.p), (XOper.mk (some 11) (XOp.call false [] (XArg.lit (AV.c (CV.fn 44 []))) [(XArg.tmp 10)]) none
  Cls.p), (XOper.mk (some 9) (XOp.mv (XArg.tmp 11)) none Cls.p), (XOper.mk (some 12) (XOp.extr 0 (XArg.tmp 9)) none Cls.p), (XOper.mk (some 13) (XOp.extr 1
  (XArg.tmp 9)) none Cls.p), (XOper.mk (some 14) (XOp.extr 2 (XArg.tmp 9)) none Cls.p), (XOper.mk (some 6) (XOp.mv (XArg.tmp 12)) none Cls.p), (XOper.mk (some
  7) (XOp.mv (XArg.tmp 13)) none Cls.p), (XOper.mk (some 8) (XOp.mv (XArg.tmp 14)) none Cls.p)])) (XCode.seq (XCode.seq (XCode.tr [false, false, false, false,
  false, false, true, true, true, false, false, false, false, false, false, false, false, false, false, false, false, false, false, false, false, false, true]
  false (XCode.region false [(XOper.mk (some 15) (XOp.mv (XArg.tmp 8)) none Cls.p), (XOper.mk (some 16) (XOp.bin .eql (XArg.tmp 15) (XArg.lit (AV.c (CV.pv
  (PV.int .i64 0))))) none Cls.p), (XOper.mk (some 17) (XOp.mv (XArg.tmp 16)) none Cls.p), (XOper.mk (some 18) (XOp.load false 1 (XArg.tmp 1)) (some (17, true))
  Cls.r), (XOper.mk (some 19) (XOp.bin .lss (XArg.tmp 18) (XArg.lit (AV.c (CV.pv (PV.int .i64 0))))) (some (17, true)) Cls.p), (XOper.mk (some 20) (XOp.mv
  (XArg.tmp 19)) (some (17, true)) Cls.p), (XOper.mk (some 21) (XOp.mv (XArg.tmp 6)) (some (20, false)) Cls.p), (XOper.mk (some 22) (XOp.load false 1 (XArg.tmp
  1)) (some (20, false)) Cls.r), (XOper.mk (some 23) (XOp.convI .u64 (XArg.tmp 22)) (some (20, false)) Cls.p), (XOper.mk (some 24) (XOp.bin .gtr (XArg.tmp 21)
  (XArg.tmp 23)) (some (20, false)) Cls.p), (XOper.mk (some 25) (XOp.pick (XArg.tmp 20) (XArg.lit (AV.c (CV.pv (PV.bool true)))) (XArg.tmp 24)) (some (17,
  true)) Cls.p), (XOper.mk (some 26) (XOp.pick (XArg.tmp 17) (XArg.tmp 25) (XArg.lit (AV.c (CV.pv (PV.bool false))))) none Cls.p)])) (XCode.tr [false, false,
  false, false, false, false, true, true, true] false (XCode.cond (XArg.tmp 26) (XCode.region false [(XOper.mk (some 8) (XOp.mv (XArg.lit (AV.c (CV.pv (PV.int
  .i64 4))))) none Cls.p)]) XCode.skip))) (XCode.seq (XCode.tr [false, false, false, true, true, true] false (XCode.region false [(XOper.mk (some 27) (XOp.mv
  (XArg.tmp 6)) none Cls.p), (XOper.mk (some 28) (XOp.convI .i64 (XArg.tmp 27)) none Cls.p), (XOper.mk (some 29) (XOp.mv (XArg.tmp 7)) none Cls.p), (XOper.mk
  (some 30) (XOp.mv (XArg.tmp 8)) none Cls.p), (XOper.mk (some 3) (XOp.mv (XArg.tmp 28)) none Cls.p), (XOper.mk (some 4) (XOp.mv (XArg.tmp 29)) none Cls.p),
  (XOper.mk (some 5) (XOp.mv (XArg.tmp 30)) none Cls.p)])) (XCode.tr [false, false, false, true, true, true] false XCode.ret))))))
theorem xf53_ok : cmpFunc Go.Proofs.Try.prog 53 ((.two (.tr [true, true] false .no) (.two (.tr [false, true, false, false, false, false, true, true, true] false (.ops [{}, { cls := some .p }])) (.two (.two (.tr [false, false, false, false, false, false, true, true, true, false, false, false, false, false, false, false, false, false, false, false, false, false, false, false, false, false, true] false .no) (.tr [false, false, false, false, false, false, true, true, true] false .no)) (.two (.tr [false, false, false, true, true, true] false .no) (.tr [false, false, false, true, true, true] false .no)))))) = some xf53 := by kernel_rfl
def xf54_l0 : XCode :=
(XCode.seq (XCode.seq (XCode.tr [true, true, false, false, false, false, false, true, true, true, false, false, true] false (XCode.region false [(XOper.mk (some
  11) (XOp.mv (XArg.tmp 9)) none Cls.p), (XOper.mk (some 12) (XOp.bin .lss (XArg.tmp 11) (XArg.lit (AV.c (CV.pv (PV.int .i64 10))))) none Cls.p)])) (XCode.tr
  [true, true, false, false, false, false, false, true, true, true] false (XCode.cond (XArg.tmp 12) XCode.skip (XCode.tr [false, true] false (XCode.exit 0)))))
  (XCode.seq (XCode.tr [true, true, false, false, true, true, true, true, true, true] false (XCode.block 1 (XCode.seq (XCode.seq (XCode.tr [true, true, false,
  false, false, false, false, true, true, true, false, false, false, false, false, false, false, false, false, false, false, false, false, true] false
  (XCode.region false [(XOper.mk (some 15) (XOp.mv (XArg.tmp 1)) none Cls.p), (XOper.mk (some 16) (XOp.mv (XArg.tmp 9)) none Cls.p), (XOper.mk (some 17)
  (XOp.bin .add (XArg.tmp 15) (XArg.tmp 16)) none Cls.p), (XOper.mk (some 18) (XOp.mv (XArg.tmp 0)) none Cls.p), (XOper.mk (some 19) (XOp.nilc (XArg.tmp 18))
  none Cls.p), (XOper.mk (some 20) (XOp.faddr 0 (XArg.tmp 19)) none Cls.p), (XOper.mk (some 21) (XOp.load false 1 (XArg.tmp 20)) none Cls.r), (XOper.mk (some
  22) (XOp.lenS (XArg.tmp 21)) none Cls.p), (XOper.mk (some 23) (XOp.bin .geq (XArg.tmp 17) (XArg.tmp 22)) none Cls.p)])) (XCode.tr [true, true, false, false,
  true, true, true, true, true, true] false (XCode.cond (XArg.tmp 23) (XCode.seq (XCode.tr [false, false, false, false, true, true, true] false (XCode.region
  false [(XOper.mk (some 24) (XOp.mv (XArg.tmp 1)) none Cls.p), (XOper.mk (some 4) (XOp.mv (XArg.lit (AV.c (CV.pv (PV.int .u64 0))))) none Cls.p), (XOper.mk
  (some 5) (XOp.mv (XArg.tmp 24)) none Cls.p), (XOper.mk (some 6) (XOp.mv (XArg.lit (AV.c (CV.pv (PV.int .i64 2))))) none Cls.p)])) (XCode.tr [false, false,
  false, false, true, true, true] false XCode.ret)) XCode.skip))) (XCode.seq (XCode.tr [true, true, false, false, false, false, false, true, true, true, true]
  false (XCode.region false [(XOper.mk (some 25) (XOp.mv (XArg.tmp 0)) none Cls.p), (XOper.mk (some 26) (XOp.nilc (XArg.tmp 25)) none Cls.p), (XOper.mk (some
  27) (XOp.faddr 0 (XArg.tmp 26)) none Cls.p), (XOper.mk (some 28) (XOp.load false 1 (XArg.tmp 27)) none Cls.r), (XOper.mk (some 29) (XOp.mv (XArg.tmp 1)) none
  Cls.p), (XOper.mk (some 30) (XOp.mv (XArg.tmp 9)) none Cls.p), (XOper.mk (some 31) (XOp.bin .add (XArg.tmp 29) (XArg.tmp 30)) none Cls.p), (XOper.mk (some 32)
  (XOp.idxS (XArg.tmp 28) (XArg.tmp 31)) none Cls.p), (XOper.mk (some 33) (XOp.convI .u64 (XArg.tmp 32)) none Cls.p), (XOper.mk (some 10) (XOp.mv (XArg.tmp 33))
  none Cls.p)])) (XCode.seq (XCode.seq (XCode.tr [true, true, false, false, false, false, false, true, true, true, true, false, false, false, false, false,
  false, false, false, false, false, false, false, false, false, false, false, false, false, false, false, false, false, false, false, false, false, false,
  false, false, false, false, false, false, false, false, false, true] false (XCode.region false [(XOper.mk (some 34) (XOp.mv (XArg.tmp 9)) none Cls.p),
  (XOper.mk (some 35) (XOp.bin .gtr (XArg.tmp 34) (XArg.lit (AV.c (CV.pv (PV.int .i64 0))))) none Cls.p), (XOper.mk (some 36) (XOp.mv (XArg.tmp 35)) none
  Cls.p), (XOper.mk (some 37) (XOp.mv (XArg.tmp 10)) (some (36, true)) Cls.p), (XOper.mk (some 38) (XOp.bin .eql (XArg.tmp 37) (XArg.lit (AV.c (CV.pv (PV.int
  .u64 0))))) (some (36, true)) Cls.p), (XOper.mk (some 39) (XOp.pick (XArg.tmp 36) (XArg.tmp 38) (XArg.lit (AV.c (CV.pv (PV.bool false))))) none Cls.p),
  (XOper.mk (some 40) (XOp.mv (XArg.tmp 39)) none Cls.p), (XOper.mk (some 41) (XOp.mv (XArg.tmp 9)) (some (40, false)) Cls.p), (XOper.mk (some 42) (XOp.bin .eql
  (XArg.tmp 41) (XArg.lit (AV.c (CV.pv (PV.int .i64 9))))) (some (40, false)) Cls.p), (XOper.mk (some 43) (XOp.mv (XArg.tmp 42)) (some (40, false)) Cls.p),
  (XOper.mk (some 44) (XOp.mv (XArg.tmp 10)) (some (43, true)) Cls.p), (XOper.mk (some 45) (XOp.bin .gtr (XArg.tmp 44) (XArg.lit (AV.c (CV.pv (PV.int .u64
  1))))) (some (43, true)) Cls.p), (XOper.mk (some 46) (XOp.pick (XArg.tmp 43) (XArg.tmp 45) (XArg.lit (AV.c (CV.pv (PV.bool false))))) (some (40, false))
  Cls.p), (XOper.mk (some 47) (XOp.pick (XArg.tmp 40) (XArg.lit (AV.c (CV.pv (PV.bool true)))) (XArg.tmp 46)) none Cls.p)])) (XCode.tr [true, true, false,
  false, true, true, true, true, true, true, true] false (XCode.cond (XArg.tmp 47) (XCode.seq (XCode.tr [false, false, false, false, true, true, true] false
  (XCode.region false [(XOper.mk (some 48) (XOp.mv (XArg.tmp 1)) none Cls.p), (XOper.mk (some 4) (XOp.mv (XArg.lit (AV.c (CV.pv (PV.int .u64 0))))) none Cls.p),
  (XOper.mk (some 5) (XOp.mv (XArg.tmp 48)) none Cls.p), (XOper.mk (some 6) (XOp.mv (XArg.lit (AV.c (CV.pv (PV.int .i64 3))))) none Cls.p)])) (XCode.tr [false,
  false, false, false, true, true, true] false XCode.ret)) XCode.skip))) (XCode.seq (XCode.tr [true, true, false, false, false, false, false, true, true, true,
  true] false (XCode.region false [(XOper.mk (some 49) (XOp.mv (XArg.tmp 7)) none Cls.p), (XOper.mk (some 50) (XOp.mv (XArg.tmp 10)) none Cls.p), (XOper.mk
  (some 51) (XOp.bin .rem (XArg.tmp 50) (XArg.lit (AV.c (CV.pv (PV.int .u64 128))))) none Cls.p), (XOper.mk (some 52) (XOp.mv (XArg.tmp 8)) none Cls.p),
  (XOper.mk (some 53) (XOp.bin .mul (XArg.tmp 51) (XArg.tmp 52)) none Cls.p), (XOper.mk (some 54) (XOp.bin .add (XArg.tmp 49) (XArg.tmp 53)) none Cls.p),
  (XOper.mk (some 7) (XOp.mv (XArg.tmp 54)) none Cls.p)])) (XCode.seq (XCode.seq (XCode.tr [true, true, false, false, false, false, false, true, true, true,
  false, false, false, false, false, false, false, false, false, false, false, false, false, false, false, false, false, false, false, false, false, false,
  false, false, false, false, false, false, false, false, false, false, false, false, false, false, false, false, false, false, false, false, false, false,
  false, false, true] false (XCode.region false [(XOper.mk (some 55) (XOp.mv (XArg.tmp 10)) none Cls.p), (XOper.mk (some 56) (XOp.bin .lss (XArg.tmp 55)
  (XArg.lit (AV.c (CV.pv (PV.int .u64 128))))) none Cls.p)])) (XCode.tr [true, true, false, false, true, true, true, true, true, true] false (XCode.cond
  (XArg.tmp 56) (XCode.seq (XCode.tr [false, false, false, false, true, true, true] false (XCode.region false [(XOper.mk (some 57) (XOp.mv (XArg.tmp 7)) none
  Cls.p), (XOper.mk (some 58) (XOp.mv (XArg.tmp 1)) none Cls.p), (XOper.mk (some 59) (XOp.mv (XArg.tmp 9)) none Cls.p), (XOper.mk (some 60) (XOp.bin .add
  (XArg.tmp 58) (XArg.tmp 59)) none Cls.p), (XOper.mk (some 61) (XOp.bin .add (XArg.tmp 60) (XArg.lit (AV.c (CV.pv (PV.int .i64 1))))) none Cls.p), (XOper.mk
  (some 4) (XOp.mv (XArg.tmp 57)) none Cls.p), (XOper.mk (some 5) (XOp.mv (XArg.tmp 61)) none Cls.p), (XOper.mk (some 6) (XOp.mv (XArg.lit (AV.c (CV.pv (PV.int
  .i64 0))))) none Cls.p)])) (XCode.tr [false, false, false, false, true, true, true] false XCode.ret)) XCode.skip))) (XCode.tr [true, true, false, false,
  false, false, false, true, true, true] false (XCode.region false [(XOper.mk (some 62) (XOp.mv (XArg.tmp 8)) none Cls.p), (XOper.mk (some 63) (XOp.bin .mul
  (XArg.tmp 62) (XArg.lit (AV.c (CV.pv (PV.int .u64 128))))) none Cls.p), (XOper.mk (some 8) (XOp.mv (XArg.tmp 63)) none Cls.p)]))))))))) (XCode.tr [true, true,
  false, false, false, false, false, true, true, true] false (XCode.region false [(XOper.mk (some 13) (XOp.mv (XArg.tmp 9)) none Cls.p), (XOper.mk (some 14)
  (XOp.bin .add (XArg.tmp 13) (XArg.lit (AV.c (CV.pv (PV.int .i64 1))))) none Cls.p), (XOper.mk (some 9) (XOp.mv (XArg.tmp 14)) none Cls.p)]))))
def xf54 : XFunc :=
(XFunc.mk 65 [(XRes.tmp 4), (XRes.tmp 5), (XRes.tmp 6)] (XCode.seq (XCode.tr [true, true] false (XCode.region false [(XOper.mk (some 4) (XOp.mv (XArg.lit (AV.c
  (CV.pv (PV.int .u64 0))))) none Cls.p), (XOper.mk (some 5) (XOp.mv (XArg.lit (AV.c (CV.pv (PV.int .i64 0))))) none Cls.p), (XOper.mk (some 6) (XOp.mv
  (XArg.lit (AV.c (CV.pv (PV.int .i64 0))))) none Cls.p)])) (XCode.seq (XCode.region false [(XOper.mk (some 7) (XOp.mv (XArg.lit (AV.c (CV.pv (PV.int .u64
  0))))) none Cls.p)]) (XCode.seq (XCode.region false [(XOper.mk (some 8) (XOp.mv (XArg.lit (AV.c (CV.pv (PV.int .u64 1))))) none Cls.p)]) (XCode.seq (XCode.seq
  (XCode.region false [(XOper.mk (some 9) (XOp.mv (XArg.lit (AV.c (CV.pv (PV.int .i64 0))))) none Cls.p)]) (XCode.tr [false, true, false, false, true, true,
  true] false (XCode.block 0 (XCode.loop [true, true, false, false, false, false, false, true, true, true] xf54_l0)))) (XCode.seq (XCode.tr [false, false,
  false, false, true, true, true] false (XCode.region false [(XOper.mk (some 64) (XOp.mv (XArg.tmp 1)) none Cls.p), (XOper.mk (some 4) (XOp.mv (XArg.lit (AV.c
  (CV.pv (PV.int .u64 0))))) none Cls.p), (XOper.mk (some 5) (XOp.mv (XArg.tmp 64)) none Cls.p), (XOper.mk (some 6) (XOp.mv (XArg.lit (AV.c (CV.pv (PV.int .i64
  3))))) none Cls.p)])) (XCode.tr [false, false, false, false, true, true, true] false XCode.ret)))))))
theorem xf54_ok : cmpFunc Go.Proofs.Try.prog 54 ((.two (.tr [true, true] false .no) (.two .no (.two .no (.two (.two .no (.tr [false, true, false, false, true, true, true] false (.loop [true, true, false, false, false, false, false, true, true, true] (.two (.two (.tr [true, true, false, false, false, false, false, true, true, true, false, false, true] false .no) (.tr [true, true, false, false, false, false, false, true, true, true] false (.two .no (.tr [false, true] false .no)))) (.two (.tr [true, true, false, false, true, true, true, true, true, true] false (.two (.two (.tr [true, true, false, false, false, false, false, true, true, true, false, false, false, false, false, false, false, false, false, false, false, false, false, true] false .no) (.tr [true, true, false, false, true, true, true, true, true, true] false (.two (.two (.tr [false, false, false, false, true, true, true] false .no) (.tr [false, false, false, false, true, true, true] false .no)) .no))) (.two (.tr [true, true, false, false, false, false, false, true, true, true, true] false .no) (.two (.two (.tr [true, true, false, false, false, false, false, true, true, true, true, false, false, false, false, false, false, false, false, false, false, false, false, false, false, false, false, false, false, false, false, false, false, false, false, false, false, false, false, false, false, false, false, false, false, false, false, true] false .no) (.tr [true, true, false, false, true, true, true, true, true, true, true] false (.two (.two (.tr [false, false, false, false, true, true, true] false .no) (.tr [false, false, false, false, true, true, true] false .no)) .no))) (.two (.tr [true, true, false, false, false, false, false, true, true, true, true] false .no) (.two (.two (.tr [true, true, false, false, false, false, false, true, true, true, false, false, false, false, false, false, false, false, false, false, false, false, false, false, false, false, false, false, false, false, false, false, false, false, false, false, false, false, false, false, false, false, false, false, false, false, false, false, false, false, false, false, false, false, false, false, true] false .no) (.tr [true, true, false, false, true, true, true, true, true, true] false (.two (.two (.tr [false, false, false, false, true, true, true] false .no) (.tr [false, false, false, false, true, true, true] false .no)) .no))) (.tr [true, true, false, false, false, false, false, true, true, true] false .no))))))) (.tr [true, true, false, false, false, false, false, true, true, true] false .no)))))) (.two (.tr [false, false, false, false, true, true, true] false .no) (.tr [false, false, false, false, true, true, true] false .no))))))) = some xf54 := by kernel_rfl
def xf55 : XFunc :=
(XFunc.mk 14 [(XRes.tmp 2)] (XCode.seq (XCode.tr [true] false (XCode.region false [(XOper.mk (some 2) (XOp.mv (XArg.lit (AV.c (CV.pv (PV.int .i64 0))))) none
  Cls.p)])) (XCode.seq (XCode.seq (XCode.tr [true, false, false, false, false, true] false (XCode.region false [(XOper.mk (some 3) (XOp.mv (XArg.tmp 0)) none
  Cls.p), (XOper.mk (some 4) (XOp.bin .rem (XArg.tmp 3) (XArg.lit (AV.c (CV.pv (PV.int .u64 2))))) none Cls.p), (XOper.mk (some 5) (XOp.bin .eql (XArg.tmp 4)
  (XArg.lit (AV.c (CV.pv (PV.int .u64 0))))) none Cls.p)])) (XCode.tr [true, false, true] false (XCode.cond (XArg.tmp 5) (XCode.seq (XCode.tr [false, false,
  true] false (XCode.region false [(XOper.mk (some 6) (XOp.mv (XArg.tmp 0)) none Cls.p), (XOper.mk (some 7) (XOp.bin .quo (XArg.tmp 6) (XArg.lit (AV.c (CV.pv
  (PV.int .u64 2))))) none Cls.p), (XOper.mk (some 8) (XOp.convI .i64 (XArg.tmp 7)) none Cls.p), (XOper.mk (some 2) (XOp.mv (XArg.tmp 8)) none Cls.p)]))
  (XCode.tr [false, false, true] false XCode.ret)) XCode.skip))) (XCode.seq (XCode.tr [false, false, true] false (XCode.region false [(XOper.mk (some 9) (XOp.mv
  (XArg.tmp 0)) none Cls.p), (XOper.mk (some 10) (XOp.bin .quo (XArg.tmp 9) (XArg.lit (AV.c (CV.pv (PV.int .u64 2))))) none Cls.p), (XOper.mk (some 11)
  (XOp.convI .i64 (XArg.tmp 10)) none Cls.p), (XOper.mk (some 12) (XOp.un .neg (XArg.tmp 11)) none Cls.p), (XOper.mk (some 13) (XOp.bin .sub (XArg.tmp 12)
  (XArg.lit (AV.c (CV.pv (PV.int .i64 1))))) none Cls.p), (XOper.mk (some 2) (XOp.mv (XArg.tmp 13)) none Cls.p)])) (XCode.tr [false, false, true] false
  XCode.ret)))))
theorem xf55_ok : cmpFunc Go.Proofs.Try.prog 55 ((.two (.tr [true] false .no) (.two (.two (.tr [true, false, false, false, false, true] false .no) (.tr [true, false, true] false (.two (.two (.tr [false, false, true] false .no) (.tr [false, false, true] false .no)) .no))) (.two (.tr [false, false, true] false .no) (.tr [false, false, true] false .no))))) = some xf55 := by kernel_rfl
end Go.Sx.Try
