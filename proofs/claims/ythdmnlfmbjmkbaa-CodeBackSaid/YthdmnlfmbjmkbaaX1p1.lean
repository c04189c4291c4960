/- Functions of the program in the evaluator's form, each checked by the kernel. Printed by genx.py. -/
import Derived.Test.YthdmnlfmbjmkbaaSxLem
import Derived.Test.YthdmnlfmbjmkbaaProg
import Derived.KernelRfl
namespace Go.Sx.Try
open Go Go.Sx
def xf3_l0 : XCode :=
(XCode.seq (XCode.seq (XCode.tr [true, false, false, false, true, true, true, false, false, false, false, false, false, false, false, false, false, false, true]
  false (XCode.region false [(XOper.mk (some 15) (XOp.mv (XArg.tmp 6)) none Cls.p), (XOper.mk (some 16) (XOp.mv (XArg.tmp 0)) none Cls.p), (XOper.mk (some 17)
  (XOp.len (XArg.tmp 16)) none Cls.p), (XOper.mk (some 18) (XOp.bin .lss (XArg.tmp 15) (XArg.tmp 17)) none Cls.p)])) (XCode.tr [true, false, false, false, true,
  true, true] false (XCode.cond (XArg.tmp 18) XCode.skip (XCode.tr [false, false, false, false, true, true] false (XCode.exit 0))))) (XCode.seq (XCode.tr [true,
  false, false, false, true, true, true] false (XCode.block 1 (XCode.seq (XCode.tr [true, false, false, false, true, true, true] false (XCode.region false
  [(XOper.mk (some 21) (XOp.mv (XArg.tmp 4)) none Cls.p), (XOper.mk (some 22) (XOp.mv (XArg.tmp 0)) none Cls.p), (XOper.mk (some 23) (XOp.mv (XArg.tmp 6)) none
  Cls.p), (XOper.mk (some 24) (XOp.iaddrS 6 (XArg.tmp 22) (XArg.tmp 23)) none Cls.p), (XOper.mk (some 25) (XOp.load true 6 (XArg.tmp 24)) none Cls.r), (XOper.mk
  (some 26) (XOp.call false [] (XArg.lit (AV.c (CV.fn 11 []))) [(XArg.tmp 21), (XArg.tmp 25)]) none Cls.w)])) (XCode.tr [true, false, false, false, true, true,
  true] false (XCode.region false [(XOper.mk (some 27) (XOp.mv (XArg.tmp 5)) none Cls.p), (XOper.mk (some 28) (XOp.mv (XArg.tmp 0)) none Cls.p), (XOper.mk (some
  29) (XOp.mv (XArg.tmp 6)) none Cls.p), (XOper.mk (some 30) (XOp.iaddrS 6 (XArg.tmp 28) (XArg.tmp 29)) none Cls.p), (XOper.mk (some 31) (XOp.load true 6
  (XArg.tmp 30)) none Cls.r), (XOper.mk (some 32) (XOp.call false [] (XArg.lit (AV.c (CV.fn 12 []))) [(XArg.tmp 31)]) none Cls.p), (XOper.mk (some 33) (XOp.app
  1 1 (XArg.tmp 27) (XArg.tmp 32)) none Cls.w), (XOper.mk (some 5) (XOp.mv (XArg.tmp 33)) none Cls.p)]))))) (XCode.tr [true, false, false, false, true, true,
  true] false (XCode.region false [(XOper.mk (some 19) (XOp.mv (XArg.tmp 6)) none Cls.p), (XOper.mk (some 20) (XOp.bin .add (XArg.tmp 19) (XArg.lit (AV.c (CV.pv
  (PV.int .i64 1))))) none Cls.p), (XOper.mk (some 6) (XOp.mv (XArg.tmp 20)) none Cls.p)]))))
def xf3_l1 : XCode :=
(XCode.seq (XCode.seq (XCode.tr [false, false, false, false, true, true, false, true, true, false, false, false, false, false, false, false, false, false,
  false, false, false, false, false, false, false, false, false, false, false, false, false, false, false, false, false, true] false (XCode.region false
  [(XOper.mk (some 34) (XOp.mv (XArg.tmp 8)) none Cls.p), (XOper.mk (some 35) (XOp.bin .lss (XArg.tmp 34) (XArg.lit (AV.c (CV.pv (PV.int .i64 5))))) none
  Cls.p)])) (XCode.tr [false, false, false, false, true, true, false, true, true] false (XCode.cond (XArg.tmp 35) XCode.skip (XCode.tr [false, false, false,
  false, true, true, false, true] false (XCode.exit 2))))) (XCode.seq (XCode.tr [false, false, false, false, true, true, false, true, true] false (XCode.block 3
  (XCode.tr [false, false, false, false, true, true, false, true, true] false (XCode.region false [(XOper.mk (some 38) (XOp.mv (XArg.tmp 7)) none Cls.p),
  (XOper.mk (some 39) (XOp.mv (XArg.tmp 8)) none Cls.p), (XOper.mk (some 40) (XOp.convI .u8 (XArg.tmp 39)) none Cls.p), (XOper.mk (some 41) (XOp.build [(CV.pv
  (PV.int .u8 0)), (CV.pv (PV.int .u64 0)), (CV.pv (PV.int .i64 0)), (CV.pv (PV.str [])), (CV.pv (PV.int .i64 0)), (CV.pv (PV.int .i64 0))] [(0, (1, (XArg.tmp
  40)))]) none Cls.p), (XOper.mk (some 42) (XOp.call false [] (XArg.lit (AV.c (CV.fn 11 []))) [(XArg.tmp 38), (XArg.tmp 41)]) none Cls.w)])))) (XCode.tr [false,
  false, false, false, true, true, false, true, true] false (XCode.region false [(XOper.mk (some 36) (XOp.mv (XArg.tmp 8)) none Cls.p), (XOper.mk (some 37)
  (XOp.bin .add (XArg.tmp 36) (XArg.lit (AV.c (CV.pv (PV.int .i64 1))))) none Cls.p), (XOper.mk (some 8) (XOp.mv (XArg.tmp 37)) none Cls.p)]))))
def xf3 : XFunc :=
(XFunc.mk 56 [(XRes.tmp 2)] (XCode.seq (XCode.tr [true] false (XCode.region false [(XOper.mk (some 2) (XOp.mv (XArg.lit (AV.c (CV.pv (PV.bool false))))) none
  Cls.p)])) (XCode.seq (XCode.tr [true, false, false, true] false (XCode.region false [(XOper.mk (some 9) (XOp.mv (XArg.tmp 0)) none Cls.p), (XOper.mk (some 10)
  (XOp.call false [] (XArg.lit (AV.c (CV.fn 8 []))) [(XArg.tmp 9)]) none Cls.p), (XOper.mk (some 3) (XOp.mv (XArg.tmp 10)) none Cls.p)])) (XCode.seq (XCode.seq
  (XCode.tr [true, false, false, false, false, false, false, false, false, false, false, false, true] false (XCode.region false [(XOper.mk (some 11) (XOp.mv
  (XArg.tmp 3)) none Cls.p), (XOper.mk (some 12) (XOp.un .not (XArg.tmp 11)) none Cls.p)])) (XCode.tr [true, false, true] false (XCode.cond (XArg.tmp 12)
  (XCode.seq (XCode.tr [false, false, true] false (XCode.region false [(XOper.mk (some 13) (XOp.call false [] (XArg.lit (AV.c (CV.fn 9 []))) []) none Cls.p),
  (XOper.mk (some 2) (XOp.mv (XArg.tmp 13)) none Cls.p)])) (XCode.tr [false, false, true] false XCode.ret)) XCode.skip))) (XCode.seq (XCode.tr [true, false,
  false, false, true] false (XCode.region false [(XOper.mk (some 14) (XOp.call false [] (XArg.lit (AV.c (CV.fn 10 []))) []) none Cls.w), (XOper.mk (some 4)
  (XOp.mv (XArg.tmp 14)) none Cls.p)])) (XCode.seq (XCode.region false [(XOper.mk (some 5) (XOp.mv (XArg.lit (AV.c (CV.pv (PV.sl SO.nil 0 []))))) none Cls.p)])
  (XCode.seq (XCode.seq (XCode.region false [(XOper.mk (some 6) (XOp.mv (XArg.lit (AV.c (CV.pv (PV.int .i64 0))))) none Cls.p)]) (XCode.tr [false, false, false,
  false, true, true] false (XCode.block 0 (XCode.loop [true, false, false, false, true, true, true] xf3_l0)))) (XCode.seq (XCode.region false [(XOper.mk (some
  7) (XOp.mv (XArg.lit (AV.c CV.nilp))) none Cls.p)]) (XCode.seq (XCode.seq (XCode.region false [(XOper.mk (some 8) (XOp.mv (XArg.lit (AV.c (CV.pv (PV.int .i64
  0))))) none Cls.p)]) (XCode.tr [false, false, false, false, true, true, false, true] false (XCode.block 2 (XCode.loop [false, false, false, false, true, true,
  false, true, true] xf3_l1)))) (XCode.seq (XCode.tr [false, false, true] false (XCode.region true [(XOper.mk (some 43) (XOp.call false [] (XArg.lit (AV.c
  (CV.fn 9 []))) []) none Cls.p), (XOper.mk (some 44) (XOp.mv (XArg.tmp 43)) none Cls.p), (XOper.mk (some 45) (XOp.mv (XArg.tmp 4)) (some (44, true)) Cls.p),
  (XOper.mk (some 47) (XOp.mv (XArg.tmp 5)) (some (44, true)) Cls.p), (XOper.mk (some 48) (XOp.bytesS (XArg.tmp 47)) (some (44, true)) Cls.p), (XOper.mk (some
  46) (XOp.call false [] (XArg.lit (AV.c (CV.fn 13 []))) [(XArg.tmp 45)]) (some (44, true)) Cls.w), (XOper.mk (some 49) (XOp.bin .eql (XArg.tmp 46) (XArg.tmp
  48)) (some (44, true)) Cls.p), (XOper.mk (some 50) (XOp.pick (XArg.tmp 44) (XArg.tmp 49) (XArg.lit (AV.c (CV.pv (PV.bool false))))) none Cls.p), (XOper.mk
  (some 51) (XOp.mv (XArg.tmp 50)) none Cls.p), (XOper.mk (some 52) (XOp.mv (XArg.tmp 7)) (some (51, true)) Cls.p), (XOper.mk (some 53) (XOp.call false []
  (XArg.lit (AV.c (CV.fn 13 []))) [(XArg.tmp 52)]) (some (51, true)) Cls.w), (XOper.mk (some 54) (XOp.bin .eql (XArg.tmp 53) (XArg.lit (AV.c (CV.pv (PV.str
  []))))) (some (51, true)) Cls.p), (XOper.mk (some 55) (XOp.pick (XArg.tmp 51) (XArg.tmp 54) (XArg.lit (AV.c (CV.pv (PV.bool false))))) none Cls.p), (XOper.mk
  (some 2) (XOp.mv (XArg.tmp 55)) none Cls.p)])) (XCode.tr [false, false, true] false XCode.ret)))))))))))
theorem xf3_ok : cmpFunc Go.Proofs.Try.prog 3 ((.two (.tr [true] false .no) (.two (.tr [true, false, false, true] false (.ops [{}, { cls := some .p }])) (.two (.two (.tr [true, false, false, false, false, false, false, false, false, false, false, false, true] false .no) (.tr [true, false, true] false (.two (.two (.tr [false, false, true] false (.ops [{ cls := some .p }])) (.tr [false, false, true] false .no)) .no))) (.two (.tr [true, false, false, false, true] false .no) (.two .no (.two (.two .no (.tr [false, false, false, false, true, true] false (.loop [true, false, false, false, true, true, true] (.two (.two (.tr [true, false, false, false, true, true, true, false, false, false, false, false, false, false, false, false, false, false, true] false .no) (.tr [true, false, false, false, true, true, true] false (.two .no (.tr [false, false, false, false, true, true] false .no)))) (.two (.tr [true, false, false, false, true, true, true] false (.two (.tr [true, false, false, false, true, true, true] false .no) (.tr [true, false, false, false, true, true, true] false (.ops [{}, {}, {}, {}, {}, { cls := some .p }])))) (.tr [true, false, false, false, true, true, true] false .no)))))) (.two .no (.two (.two .no (.tr [false, false, false, false, true, true, false, true] false (.loop [false, false, false, false, true, true, false, true, true] (.two (.two (.tr [false, false, false, false, true, true, false, true, true, false, false, false, false, false, false, false, false, false, false, false, false, false, false, false, false, false, false, false, false, false, false, false, false, false, false, true] false .no) (.tr [false, false, false, false, true, true, false, true, true] false (.two .no (.tr [false, false, false, false, true, true, false, true] false .no)))) (.two (.tr [false, false, false, false, true, true, false, true, true] false (.tr [false, false, false, false, true, true, false, true, true] false .no)) (.tr [false, false, false, false, true, true, false, true, true] false .no)))))) (.two (.tr [false, false, true] false (.draw [0, 1, 2, 4, 5, 3, 6, 7, 8, 9, 10, 11, 12, 13] [{ cls := some .p }])) (.tr [false, false, true] false .no))))))))))) = some xf3 := by kernel_rfl
def xf4_l0 : XCode :=
(XCode.seq (XCode.seq (XCode.tr [true, false, false, false, true, true, false, false, false, false, false, false, false, false, false, false, false, false,
  false, false, false, false, false, false, true] false (XCode.region false [(XOper.mk (some 21) (XOp.mv (XArg.tmp 5)) none Cls.p), (XOper.mk (some 22) (XOp.mv
  (XArg.tmp 0)) none Cls.p), (XOper.mk (some 23) (XOp.len (XArg.tmp 22)) none Cls.p), (XOper.mk (some 24) (XOp.bin .lss (XArg.tmp 21) (XArg.tmp 23)) none
  Cls.p)])) (XCode.tr [true, false, false, false, true, true] false (XCode.cond (XArg.tmp 24) XCode.skip (XCode.tr [true, false, false, false, true] false
  (XCode.exit 0))))) (XCode.seq (XCode.tr [true, false, true, false, true, true] false (XCode.block 1 (XCode.seq (XCode.tr [true, false, false, false, true,
  true, true] false (XCode.region false [(XOper.mk (some 27) (XOp.mv (XArg.tmp 0)) none Cls.p), (XOper.mk (some 28) (XOp.mv (XArg.tmp 5)) none Cls.p), (XOper.mk
  (some 29) (XOp.iaddrS 6 (XArg.tmp 27) (XArg.tmp 28)) none Cls.p), (XOper.mk (some 30) (XOp.load true 6 (XArg.tmp 29)) none Cls.r), (XOper.mk (some 6)
  (XOp.alloc [(CV.pv (PV.int .u8 0)), (CV.pv (PV.int .u64 0)), (CV.pv (PV.int .i64 0)), (CV.pv (PV.str [])), (CV.pv (PV.int .i64 0)), (CV.pv (PV.int .i64 0))])
  none Cls.w), (XOper.mk none (XOp.store 6 (XArg.tmp 6) (XArg.tmp 30)) none Cls.w)])) (XCode.seq (XCode.seq (XCode.tr [true, false, false, false, true, true,
  true, false, false, false, false, false, false, false, false, false, false, false, false, false, false, false, false, false, false, false, false, false,
  false, false, false, false, false, false, false, false, false, false, false, false, false, false, false, false, false, false, false, false, false, false,
  false, false, false, false, false, false, false, false, true] false (XCode.region false [(XOper.mk (some 31) (XOp.faddr 0 (XArg.tmp 6)) none Cls.p), (XOper.mk
  (some 32) (XOp.load false 1 (XArg.tmp 31)) none Cls.r), (XOper.mk (some 33) (XOp.bin .rem (XArg.tmp 32) (XArg.lit (AV.c (CV.pv (PV.int .u8 5))))) none Cls.p),
  (XOper.mk (some 34) (XOp.bin .eql (XArg.tmp 33) (XArg.lit (AV.c (CV.pv (PV.int .u8 4))))) none Cls.p), (XOper.mk (some 35) (XOp.mv (XArg.tmp 34)) none Cls.p),
  (XOper.mk (some 36) (XOp.faddr 4 (XArg.tmp 6)) (some (35, true)) Cls.p), (XOper.mk (some 37) (XOp.faddr 0 (XArg.tmp 36)) (some (35, true)) Cls.p), (XOper.mk
  (some 38) (XOp.load false 1 (XArg.tmp 37)) (some (35, true)) Cls.r), (XOper.mk (some 39) (XOp.bin .lss (XArg.tmp 38) (XArg.lit (AV.c (CV.pv (PV.int .i64
  0))))) (some (35, true)) Cls.p), (XOper.mk (some 40) (XOp.mv (XArg.tmp 39)) (some (35, true)) Cls.p), (XOper.mk (some 41) (XOp.faddr 4 (XArg.tmp 6)) (some
  (40, false)) Cls.p), (XOper.mk (some 42) (XOp.faddr 0 (XArg.tmp 41)) (some (40, false)) Cls.p), (XOper.mk (some 43) (XOp.load false 1 (XArg.tmp 42)) (some
  (40, false)) Cls.r), (XOper.mk (some 44) (XOp.bin .gtr (XArg.tmp 43) (XArg.lit (AV.c (CV.pv (PV.int .i64 3))))) (some (40, false)) Cls.p), (XOper.mk (some 45)
  (XOp.pick (XArg.tmp 40) (XArg.lit (AV.c (CV.pv (PV.bool true)))) (XArg.tmp 44)) (some (35, true)) Cls.p), (XOper.mk (some 46) (XOp.mv (XArg.tmp 45)) (some
  (35, true)) Cls.p), (XOper.mk (some 47) (XOp.faddr 4 (XArg.tmp 6)) (some (46, false)) Cls.p), (XOper.mk (some 48) (XOp.faddr 1 (XArg.tmp 47)) (some (46,
  false)) Cls.p), (XOper.mk (some 49) (XOp.load false 1 (XArg.tmp 48)) (some (46, false)) Cls.r), (XOper.mk (some 50) (XOp.bin .lss (XArg.tmp 49) (XArg.lit
  (AV.c (CV.pv (PV.int .i64 (-1000000000000000)))))) (some (46, false)) Cls.p), (XOper.mk (some 51) (XOp.pick (XArg.tmp 46) (XArg.lit (AV.c (CV.pv (PV.bool
  true)))) (XArg.tmp 50)) (some (35, true)) Cls.p), (XOper.mk (some 52) (XOp.mv (XArg.tmp 51)) (some (35, true)) Cls.p), (XOper.mk (some 53) (XOp.faddr 4
  (XArg.tmp 6)) (some (52, false)) Cls.p), (XOper.mk (some 54) (XOp.faddr 1 (XArg.tmp 53)) (some (52, false)) Cls.p), (XOper.mk (some 55) (XOp.load false 1
  (XArg.tmp 54)) (some (52, false)) Cls.r), (XOper.mk (some 56) (XOp.bin .gtr (XArg.tmp 55) (XArg.lit (AV.c (CV.pv (PV.int .i64 1000000000000000))))) (some (52,
  false)) Cls.p), (XOper.mk (some 57) (XOp.pick (XArg.tmp 52) (XArg.lit (AV.c (CV.pv (PV.bool true)))) (XArg.tmp 56)) (some (35, true)) Cls.p), (XOper.mk (some
  58) (XOp.pick (XArg.tmp 35) (XArg.tmp 57) (XArg.lit (AV.c (CV.pv (PV.bool false))))) none Cls.p)])) (XCode.tr [true, false, true, false, true, true, true]
  false (XCode.cond (XArg.tmp 58) (XCode.seq (XCode.tr [false, false, true] false (XCode.region false [(XOper.mk (some 59) (XOp.call false [] (XArg.lit (AV.c
  (CV.fn 9 []))) []) none Cls.p), (XOper.mk (some 2) (XOp.mv (XArg.tmp 59)) none Cls.p)])) (XCode.tr [false, false, true] false XCode.ret)) XCode.skip)))
  (XCode.tr [true, false, false, false, true, true] false (XCode.region false [(XOper.mk (some 60) (XOp.mv (XArg.tmp 4)) none Cls.p), (XOper.mk (some 61)
  (XOp.load true 6 (XArg.tmp 6)) none Cls.r), (XOper.mk (some 62) (XOp.call false [] (XArg.lit (AV.c (CV.fn 11 []))) [(XArg.tmp 60), (XArg.tmp 61)]) none
  Cls.w)])))))) (XCode.tr [true, false, false, false, true, true] false (XCode.region false [(XOper.mk (some 25) (XOp.mv (XArg.tmp 5)) none Cls.p), (XOper.mk
  (some 26) (XOp.bin .add (XArg.tmp 25) (XArg.lit (AV.c (CV.pv (PV.int .i64 1))))) none Cls.p), (XOper.mk (some 5) (XOp.mv (XArg.tmp 26)) none Cls.p)]))))
def xf4_l1 : XCode :=
(XCode.seq (XCode.seq (XCode.tr [true, false, false, false, false, false, false, true, true, true, false, false, false, false, false, false, false, false,
  false, false, false, false, false, false, false, false, false, false, false, false, false, false, false, false, false, false, false, false, false, false,
  false, false, false, false, false, false, false, false, false, false, false, false, false, false, false, false, false, false, false, false, false, false,
  false, false, false, false, false, false, false, false, true] false (XCode.region false [(XOper.mk (some 67) (XOp.mv (XArg.tmp 9)) none Cls.p), (XOper.mk
  (some 68) (XOp.mv (XArg.tmp 0)) none Cls.p), (XOper.mk (some 69) (XOp.len (XArg.tmp 68)) none Cls.p), (XOper.mk (some 70) (XOp.bin .lss (XArg.tmp 67)
  (XArg.tmp 69)) none Cls.p)])) (XCode.tr [true, false, false, false, false, false, false, true, true, true] false (XCode.cond (XArg.tmp 70) XCode.skip
  (XCode.tr [true, false, false, false, false, false, false, true, true] false (XCode.exit 2))))) (XCode.seq (XCode.tr [true, false, true, false, false, false,
  false, true, true, true] false (XCode.block 3 (XCode.seq (XCode.tr [true, false, false, false, false, false, false, true, true, true, true] false
  (XCode.region false [(XOper.mk (some 73) (XOp.mv (XArg.tmp 8)) none Cls.p), (XOper.mk (some 74) (XOp.mv (XArg.tmp 0)) none Cls.p), (XOper.mk (some 75) (XOp.mv
  (XArg.tmp 9)) none Cls.p), (XOper.mk (some 76) (XOp.iaddrS 6 (XArg.tmp 74) (XArg.tmp 75)) none Cls.p), (XOper.mk (some 77) (XOp.load true 6 (XArg.tmp 76))
  none Cls.r), (XOper.mk (some 78) (XOp.call false [] (XArg.lit (AV.c (CV.fn 15 []))) [(XArg.tmp 73), (XArg.tmp 77)]) none Cls.w), (XOper.mk (some 10) (XOp.mv
  (XArg.tmp 78)) none Cls.p)])) (XCode.seq (XCode.tr [true, false, false, false, false, false, false, true, true, true, false, false, false, false, false,
  false, false, false, false, false, false, false, false, false, false, false, false, false, false, false, false, false, false, false, false, false, false,
  false, false, false, false, false, false, false, false, false, false, false, false, false, false, false, false, false, false, false, false, false, false,
  false, false, false, false, false, false, false, false, false, false, false, false, false, false, false, false, false, false, false, false, false, false,
  false, false, false, false, true] false (XCode.region false [(XOper.mk (some 79) (XOp.mv (XArg.tmp 10)) none Cls.p), (XOper.mk (some 80) (XOp.un .not
  (XArg.tmp 79)) none Cls.p), (XOper.mk (some 81) (XOp.mv (XArg.tmp 80)) none Cls.p), (XOper.mk (some 82) (XOp.mv (XArg.tmp 8)) (some (81, false)) Cls.p),
  (XOper.mk (some 83) (XOp.call false [] (XArg.lit (AV.c (CV.fn 16 []))) [(XArg.tmp 82)]) (some (81, false)) Cls.w), (XOper.mk (some 84) (XOp.bin .neq (XArg.tmp
  83) (XArg.lit (AV.c (CV.pv (PV.int .i64 0))))) (some (81, false)) Cls.p), (XOper.mk (some 85) (XOp.pick (XArg.tmp 81) (XArg.lit (AV.c (CV.pv (PV.bool true))))
  (XArg.tmp 84)) none Cls.p)])) (XCode.tr [true, false, true, false, false, false, false, true, true, true] false (XCode.cond (XArg.tmp 85) (XCode.seq
  (XCode.region false [(XOper.mk (some 2) (XOp.mv (XArg.lit (AV.c (CV.pv (PV.bool false))))) none Cls.p)]) (XCode.tr [false, false, true] false XCode.ret))
  XCode.skip)))))) (XCode.tr [true, false, false, false, false, false, false, true, true, true] false (XCode.region false [(XOper.mk (some 71) (XOp.mv (XArg.tmp
  9)) none Cls.p), (XOper.mk (some 72) (XOp.bin .add (XArg.tmp 71) (XArg.lit (AV.c (CV.pv (PV.int .i64 1))))) none Cls.p), (XOper.mk (some 9) (XOp.mv (XArg.tmp
  72)) none Cls.p)]))))
def xf4_l2 : XCode :=
(XCode.seq (XCode.seq (XCode.tr [true, false, false, false, false, false, false, false, false, false, false, true, true, true, false, false, false, false,
  false, false, false, false, false, false, false, false, false, false, false, false, false, false, false, false, false, false, false, false, false, false,
  false, false, false, false, false, false, false, false, false, false, false, false, false, false, false, false, false, false, false, false, false, false,
  false, false, false, false, false, false, false, false, false, false, false, false, false, false, false, false, false, false, false, false, false, false,
  false, false, false, false, false, false, false, false, false, false, false, false, false, false, false, false, false, false, false, false, false, false,
  false, false, false, false, false, false, false, false, true] false (XCode.region false [(XOper.mk (some 111) (XOp.mv (XArg.tmp 13)) none Cls.p), (XOper.mk
  (some 112) (XOp.mv (XArg.tmp 0)) none Cls.p), (XOper.mk (some 113) (XOp.len (XArg.tmp 112)) none Cls.p), (XOper.mk (some 114) (XOp.bin .lss (XArg.tmp 111)
  (XArg.tmp 113)) none Cls.p)])) (XCode.tr [true, false, false, false, false, false, false, false, false, false, false, true, true, true] false (XCode.cond
  (XArg.tmp 114) XCode.skip (XCode.tr [false, false, false, false, false, false, false, false, false, false, false, true, true] false (XCode.exit 4)))))
  (XCode.seq (XCode.tr [true, false, false, false, false, false, false, false, false, false, false, true, true, true] false (XCode.block 5 (XCode.seq (XCode.tr
  [true, false, false, false, false, false, false, false, false, false, false, true, true, true, true] false (XCode.region false [(XOper.mk (some 117) (XOp.mv
  (XArg.tmp 11)) none Cls.p), (XOper.mk (some 118) (XOp.mv (XArg.tmp 0)) none Cls.p), (XOper.mk (some 119) (XOp.mv (XArg.tmp 13)) none Cls.p), (XOper.mk (some
  120) (XOp.iaddrS 6 (XArg.tmp 118) (XArg.tmp 119)) none Cls.p), (XOper.mk (some 121) (XOp.load true 6 (XArg.tmp 120)) none Cls.r), (XOper.mk (some 122)
  (XOp.call false [] (XArg.lit (AV.c (CV.fn 15 []))) [(XArg.tmp 117), (XArg.tmp 121)]) none Cls.w), (XOper.mk (some 14) (XOp.mv (XArg.tmp 122)) none Cls.p)]))
  (XCode.tr [true, false, false, false, false, false, false, false, false, false, false, true, true, true] false (XCode.region false [(XOper.mk (some 123)
  (XOp.mv (XArg.tmp 12)) none Cls.p), (XOper.mk (some 124) (XOp.mv (XArg.tmp 123)) none Cls.p), (XOper.mk (some 125) (XOp.mv (XArg.tmp 14)) (some (124, true))
  Cls.p), (XOper.mk (some 126) (XOp.pick (XArg.tmp 124) (XArg.tmp 125) (XArg.lit (AV.c (CV.pv (PV.bool false))))) none Cls.p), (XOper.mk (some 127) (XOp.mv
  (XArg.tmp 126)) none Cls.p), (XOper.mk (some 128) (XOp.mv (XArg.tmp 11)) (some (127, true)) Cls.p), (XOper.mk (some 129) (XOp.call false [] (XArg.lit (AV.c
  (CV.fn 16 []))) [(XArg.tmp 128)]) (some (127, true)) Cls.w), (XOper.mk (some 130) (XOp.bin .eql (XArg.tmp 129) (XArg.lit (AV.c (CV.pv (PV.int .i64 0)))))
  (some (127, true)) Cls.p), (XOper.mk (some 131) (XOp.pick (XArg.tmp 127) (XArg.tmp 130) (XArg.lit (AV.c (CV.pv (PV.bool false))))) none Cls.p), (XOper.mk
  (some 12) (XOp.mv (XArg.tmp 131)) none Cls.p)]))))) (XCode.tr [true, false, false, false, false, false, false, false, false, false, false, true, true, true]
  false (XCode.region false [(XOper.mk (some 115) (XOp.mv (XArg.tmp 13)) none Cls.p), (XOper.mk (some 116) (XOp.bin .add (XArg.tmp 115) (XArg.lit (AV.c (CV.pv
  (PV.int .i64 1))))) none Cls.p), (XOper.mk (some 13) (XOp.mv (XArg.tmp 116)) none Cls.p)]))))
def xf4 : XFunc :=
(XFunc.mk 142 [(XRes.tmp 2)] (XCode.seq (XCode.tr [true] false (XCode.region false [(XOper.mk (some 2) (XOp.mv (XArg.lit (AV.c (CV.pv (PV.bool false))))) none
  Cls.p)])) (XCode.seq (XCode.tr [true, false, false, true] false (XCode.region false [(XOper.mk (some 15) (XOp.mv (XArg.tmp 0)) none Cls.p), (XOper.mk (some
  16) (XOp.call false [] (XArg.lit (AV.c (CV.fn 8 []))) [(XArg.tmp 15)]) none Cls.p), (XOper.mk (some 3) (XOp.mv (XArg.tmp 16)) none Cls.p)])) (XCode.seq
  (XCode.seq (XCode.tr [true, false, false, false, false, false, false, false, false, false, false, false, false, false, false, false, false, false, true] false
  (XCode.region false [(XOper.mk (some 17) (XOp.mv (XArg.tmp 3)) none Cls.p), (XOper.mk (some 18) (XOp.un .not (XArg.tmp 17)) none Cls.p)])) (XCode.tr [true,
  false, true] false (XCode.cond (XArg.tmp 18) (XCode.seq (XCode.tr [false, false, true] false (XCode.region false [(XOper.mk (some 19) (XOp.call false []
  (XArg.lit (AV.c (CV.fn 9 []))) []) none Cls.p), (XOper.mk (some 2) (XOp.mv (XArg.tmp 19)) none Cls.p)])) (XCode.tr [false, false, true] false XCode.ret))
  XCode.skip))) (XCode.seq (XCode.tr [true, false, false, false, true] false (XCode.region false [(XOper.mk (some 20) (XOp.call false [] (XArg.lit (AV.c (CV.fn
  10 []))) []) none Cls.w), (XOper.mk (some 4) (XOp.mv (XArg.tmp 20)) none Cls.p)])) (XCode.seq (XCode.seq (XCode.region false [(XOper.mk (some 5) (XOp.mv
  (XArg.lit (AV.c (CV.pv (PV.int .i64 0))))) none Cls.p)]) (XCode.tr [true, false, true, false, true] false (XCode.block 0 (XCode.loop [true, false, false,
  false, true, true] xf4_l0)))) (XCode.seq (XCode.tr [true, false, false, false, false, false, false, true] false (XCode.region false [(XOper.mk (some 63)
  (XOp.mv (XArg.tmp 4)) none Cls.p), (XOper.mk (some 64) (XOp.call false [] (XArg.lit (AV.c (CV.fn 13 []))) [(XArg.tmp 63)]) none Cls.w), (XOper.mk (some 7)
  (XOp.mv (XArg.tmp 64)) none Cls.p)])) (XCode.seq (XCode.tr [true, false, false, false, false, false, false, true, true] false (XCode.region false [(XOper.mk
  (some 65) (XOp.mv (XArg.tmp 7)) none Cls.p), (XOper.mk (some 66) (XOp.call false [] (XArg.lit (AV.c (CV.fn 14 []))) [(XArg.tmp 65)]) none Cls.w), (XOper.mk
  (some 8) (XOp.mv (XArg.tmp 66)) none Cls.p)])) (XCode.seq (XCode.seq (XCode.region false [(XOper.mk (some 9) (XOp.mv (XArg.lit (AV.c (CV.pv (PV.int .i64
  0))))) none Cls.p)]) (XCode.tr [true, false, true, false, false, false, false, true, true] false (XCode.block 2 (XCode.loop [true, false, false, false, false,
  false, false, true, true, true] xf4_l1)))) (XCode.seq (XCode.seq (XCode.tr [true, false, false, false, false, false, false, true, false, false, false, false,
  false, false, false, false, false, false, false, false, false, false, false, false, false, false, false, false, false, false, false, false, false, false,
  false, false, false, false, false, false, false, false, false, false, false, false, false, false, false, false, false, false, false, false, false, false,
  false, false, false, false, false, false, false, false, false, false, false, false, false, false, false, false, false, false, false, false, false, false,
  false, false, false, false, false, false, false, false, false, false, false, false, false, false, false, false, false, false, false, false, false, false,
  true] false (XCode.region false [(XOper.mk (some 86) (XOp.mv (XArg.tmp 8)) none Cls.p), (XOper.mk (some 87) (XOp.call false [] (XArg.lit (AV.c (CV.fn 17 [])))
  [(XArg.tmp 86)]) none Cls.w), (XOper.mk (some 88) (XOp.bin .neq (XArg.tmp 87) (XArg.lit (AV.c (CV.pv (PV.int .i64 0))))) none Cls.p), (XOper.mk (some 89)
  (XOp.mv (XArg.tmp 88)) none Cls.p), (XOper.mk (some 90) (XOp.mv (XArg.tmp 8)) (some (89, false)) Cls.p), (XOper.mk (some 91) (XOp.call false [] (XArg.lit
  (AV.c (CV.fn 18 []))) [(XArg.tmp 90)]) (some (89, false)) Cls.w), (XOper.mk (some 92) (XOp.bin .neq (XArg.tmp 91) (XArg.lit (AV.c (CV.pv (PV.int .i64 0)))))
  (some (89, false)) Cls.p), (XOper.mk (some 93) (XOp.pick (XArg.tmp 89) (XArg.lit (AV.c (CV.pv (PV.bool true)))) (XArg.tmp 92)) none Cls.p), (XOper.mk (some
  94) (XOp.mv (XArg.tmp 93)) none Cls.p), (XOper.mk (some 95) (XOp.mv (XArg.tmp 7)) (some (94, false)) Cls.p), (XOper.mk (some 96) (XOp.lenS (XArg.tmp 95))
  (some (94, false)) Cls.p), (XOper.mk (some 97) (XOp.mv (XArg.tmp 0)) (some (94, false)) Cls.p), (XOper.mk (some 98) (XOp.len (XArg.tmp 97)) (some (94, false))
  Cls.p), (XOper.mk (some 99) (XOp.bin .lss (XArg.tmp 96) (XArg.tmp 98)) (some (94, false)) Cls.p), (XOper.mk (some 100) (XOp.pick (XArg.tmp 94) (XArg.lit (AV.c
  (CV.pv (PV.bool true)))) (XArg.tmp 99)) none Cls.p)])) (XCode.tr [true, false, true, false, false, false, false, true] false (XCode.cond (XArg.tmp 100)
  (XCode.seq (XCode.region false [(XOper.mk (some 2) (XOp.mv (XArg.lit (AV.c (CV.pv (PV.bool false))))) none Cls.p)]) (XCode.tr [false, false, true] false
  XCode.ret)) XCode.skip))) (XCode.seq (XCode.seq (XCode.tr [true, false, false, false, false, false, false, true, false, false, false, false, false, false,
  false, false, false, false, false, false, false, false, false, false, false, false, false, false, false, false, false, false, false, false, false, false,
  false, false, false, false, false, false, false, false, false, false, false, false, false, false, false, false, false, false, false, false, false, false,
  false, false, false, false, false, false, false, false, false, false, false, false, false, false, false, false, false, false, false, false, false, false,
  false, false, false, false, false, false, false, false, false, false, false, false, false, false, false, false, false, false, false, false, false, false,
  false, true] false (XCode.region false [(XOper.mk (some 101) (XOp.mv (XArg.tmp 7)) none Cls.p), (XOper.mk (some 102) (XOp.lenS (XArg.tmp 101)) none Cls.p),
  (XOper.mk (some 103) (XOp.bin .eql (XArg.tmp 102) (XArg.lit (AV.c (CV.pv (PV.int .i64 0))))) none Cls.p)])) (XCode.tr [true, false, true, false, false, false,
  false, true] false (XCode.cond (XArg.tmp 103) (XCode.seq (XCode.tr [false, false, true] false (XCode.region false [(XOper.mk (some 104) (XOp.call false []
  (XArg.lit (AV.c (CV.fn 9 []))) []) none Cls.p), (XOper.mk (some 2) (XOp.mv (XArg.tmp 104)) none Cls.p)])) (XCode.tr [false, false, true] false XCode.ret))
  XCode.skip))) (XCode.seq (XCode.tr [true, false, false, false, false, false, false, false, false, false, false, true] false (XCode.region false [(XOper.mk
  (some 105) (XOp.mv (XArg.tmp 7)) none Cls.p), (XOper.mk (some 106) (XOp.mv (XArg.tmp 7)) none Cls.p), (XOper.mk (some 107) (XOp.lenS (XArg.tmp 106)) none
  Cls.p), (XOper.mk (some 108) (XOp.bin .sub (XArg.tmp 107) (XArg.lit (AV.c (CV.pv (PV.int .i64 1))))) none Cls.p), (XOper.mk (some 109) (XOp.sliceS (XArg.tmp
  105) none (some (XArg.tmp 108))) none Cls.p), (XOper.mk (some 110) (XOp.call false [] (XArg.lit (AV.c (CV.fn 14 []))) [(XArg.tmp 109)]) none Cls.w), (XOper.mk
  (some 11) (XOp.mv (XArg.tmp 110)) none Cls.p)])) (XCode.seq (XCode.region false [(XOper.mk (some 12) (XOp.mv (XArg.lit (AV.c (CV.pv (PV.bool true))))) none
  Cls.p)]) (XCode.seq (XCode.seq (XCode.region false [(XOper.mk (some 13) (XOp.mv (XArg.lit (AV.c (CV.pv (PV.int .i64 0))))) none Cls.p)]) (XCode.tr [false,
  false, false, false, false, false, false, false, false, false, false, true, true] false (XCode.block 4 (XCode.loop [true, false, false, false, false, false,
  false, false, false, false, false, true, true, true] xf4_l2)))) (XCode.seq (XCode.tr [false, false, true] false (XCode.region false [(XOper.mk (some 132)
  (XOp.call false [] (XArg.lit (AV.c (CV.fn 9 []))) []) none Cls.p), (XOper.mk (some 133) (XOp.mv (XArg.tmp 132)) none Cls.p), (XOper.mk (some 134) (XOp.mv
  (XArg.tmp 12)) (some (133, true)) Cls.p), (XOper.mk (some 135) (XOp.un .not (XArg.tmp 134)) (some (133, true)) Cls.p), (XOper.mk (some 136) (XOp.pick
  (XArg.tmp 133) (XArg.tmp 135) (XArg.lit (AV.c (CV.pv (PV.bool false))))) none Cls.p), (XOper.mk (some 137) (XOp.mv (XArg.tmp 136)) none Cls.p), (XOper.mk
  (some 138) (XOp.mv (XArg.tmp 11)) (some (137, true)) Cls.p), (XOper.mk (some 139) (XOp.call false [] (XArg.lit (AV.c (CV.fn 16 []))) [(XArg.tmp 138)]) (some
  (137, true)) Cls.w), (XOper.mk (some 140) (XOp.bin .eql (XArg.tmp 139) (XArg.lit (AV.c (CV.pv (PV.int .i64 2))))) (some (137, true)) Cls.p), (XOper.mk (some
  141) (XOp.pick (XArg.tmp 137) (XArg.tmp 140) (XArg.lit (AV.c (CV.pv (PV.bool false))))) none Cls.p), (XOper.mk (some 2) (XOp.mv (XArg.tmp 141)) none Cls.p)]))
  (XCode.tr [false, false, true] false XCode.ret))))))))))))))))
theorem xf4_ok : cmpFunc Go.Proofs.Try.prog 4 ((.two (.tr [true] false .no) (.two (.tr [true, false, false, true] false (.ops [{}, { cls := some .p }])) (.two (.two (.tr [true, false, false, false, false, false, false, false, false, false, false, false, false, false, false, false, false, false, true] false .no) (.tr [true, false, true] false (.two (.two (.tr [false, false, true] false (.ops [{ cls := some .p }])) (.tr [false, false, true] false .no)) .no))) (.two (.tr [true, false, false, false, true] false .no) (.two (.two .no (.tr [true, false, true, false, true] false (.loop [true, false, false, false, true, true] (.two (.two (.tr [true, false, false, false, true, true, false, false, false, false, false, false, false, false, false, false, false, false, false, false, false, false, false, false, true] false .no) (.tr [true, false, false, false, true, true] false (.two .no (.tr [true, false, false, false, true] false .no)))) (.two (.tr [true, false, true, false, true, true] false (.two (.tr [true, false, false, false, true, true, true] false .no) (.two (.two (.tr [true, false, false, false, true, true, true, false, false, false, false, false, false, false, false, false, false, false, false, false, false, false, false, false, false, false, false, false, false, false, false, false, false, false, false, false, false, false, false, false, false, false, false, false, false, false, false, false, false, false, false, false, false, false, false, false, false, false, true] false .no) (.tr [true, false, true, false, true, true, true] false (.two (.two (.tr [false, false, true] false (.ops [{ cls := some .p }])) (.tr [false, false, true] false .no)) .no))) (.tr [true, false, false, false, true, true] false .no)))) (.tr [true, false, false, false, true, true] false .no)))))) (.two (.tr [true, false, false, false, false, false, false, true] false .no) (.two (.tr [true, false, false, false, false, false, false, true, true] false .no) (.two (.two .no (.tr [true, false, true, false, false, false, false, true, true] false (.loop [true, false, false, false, false, false, false, true, true, true] (.two (.two (.tr [true, false, false, false, false, false, false, true, true, true, false, false, false, false, false, false, false, false, false, false, false, false, false, false, false, false, false, false, false, false, false, false, false, false, false, false, false, false, false, false, false, false, false, false, false, false, false, false, false, false, false, false, false, false, false, false, false, false, false, false, false, false, false, false, false, false, false, false, false, false, true] false .no) (.tr [true, false, false, false, false, false, false, true, true, true] false (.two .no (.tr [true, false, false, false, false, false, false, true, true] false .no)))) (.two (.tr [true, false, true, false, false, false, false, true, true, true] false (.two (.tr [true, false, false, false, false, false, false, true, true, true, true] false .no) (.two (.tr [true, false, false, false, false, false, false, true, true, true, false, false, false, false, false, false, false, false, false, false, false, false, false, false, false, false, false, false, false, false, false, false, false, false, false, false, false, false, false, false, false, false, false, false, false, false, false, false, false, false, false, false, false, false, false, false, false, false, false, false, false, false, false, false, false, false, false, false, false, false, false, false, false, false, false, false, false, false, false, false, false, false, false, false, false, true] false .no) (.tr [true, false, true, false, false, false, false, true, true, true] false (.two (.two .no (.tr [false, false, true] false .no)) .no))))) (.tr [true, false, false, false, false, false, false, true, true, true] false .no)))))) (.two (.two (.tr [true, false, false, false, false, false, false, true, false, false, false, false, false, false, false, false, false, false, false, false, false, false, false, false, false, false, false, false, false, false, false, false, false, false, false, false, false, false, false, false, false, false, false, false, false, false, false, false, false, false, false, false, false, false, false, false, false, false, false, false, false, false, false, false, false, false, false, false, false, false, false, false, false, false, false, false, false, false, false, false, false, false, false, false, false, false, false, false, false, false, false, false, false, false, false, false, false, false, false, false, true] false .no) (.tr [true, false, true, false, false, false, false, true] false (.two (.two .no (.tr [false, false, true] false .no)) .no))) (.two (.two (.tr [true, false, false, false, false, false, false, true, false, false, false, false, false, false, false, false, false, false, false, false, false, false, false, false, false, false, false, false, false, false, false, false, false, false, false, false, false, false, false, false, false, false, false, false, false, false, false, false, false, false, false, false, false, false, false, false, false, false, false, false, false, false, false, false, false, false, false, false, false, false, false, false, false, false, false, false, false, false, false, false, false, false, false, false, false, false, false, false, false, false, false, false, false, false, false, false, false, false, false, false, false, false, false, true] false .no) (.tr [true, false, true, false, false, false, false, true] false (.two (.two (.tr [false, false, true] false (.ops [{ cls := some .p }])) (.tr [false, false, true] false .no)) .no))) (.two (.tr [true, false, false, false, false, false, false, false, false, false, false, true] false .no) (.two .no (.two (.two .no (.tr [false, false, false, false, false, false, false, false, false, false, false, true, true] false (.loop [true, false, false, false, false, false, false, false, false, false, false, true, true, true] (.two (.two (.tr [true, false, false, false, false, false, false, false, false, false, false, true, true, true, false, false, false, false, false, false, false, false, false, false, false, false, false, false, false, false, false, false, false, false, false, false, false, false, false, false, false, false, false, false, false, false, false, false, false, false, false, false, false, false, false, false, false, false, false, false, false, false, false, false, false, false, false, false, false, false, false, false, false, false, false, false, false, false, false, false, false, false, false, false, false, false, false, false, false, false, false, false, false, false, false, false, false, false, false, false, false, false, false, false, false, false, false, false, false, false, false, false, false, false, true] false .no) (.tr [true, false, false, false, false, false, false, false, false, false, false, true, true, true] false (.two .no (.tr [false, false, false, false, false, false, false, false, false, false, false, true, true] false .no)))) (.two (.tr [true, false, false, false, false, false, false, false, false, false, false, true, true, true] false (.two (.tr [true, false, false, false, false, false, false, false, false, false, false, true, true, true, true] false .no) (.tr [true, false, false, false, false, false, false, false, false, false, false, true, true, true] false .no))) (.tr [true, false, false, false, false, false, false, false, false, false, false, true, true, true] false .no)))))) (.two (.tr [false, false, true] false (.ops [{ cls := some .p }])) (.tr [false, false, true] false .no)))))))))))))))) = some xf4 := by kernel_rfl
def xf5 : XFunc :=
(XFunc.mk 106 [(XRes.tmp 6)] (XCode.seq (XCode.tr [true, true, true] false (XCode.region false [(XOper.mk (some 6) (XOp.mv (XArg.lit (AV.c (CV.pv (PV.bool
  false))))) none Cls.p)])) (XCode.seq (XCode.seq (XCode.tr [true, true, true, false, false, false, false, false, false, false, false, false, false, false,
  false, false, false, false, false, false, false, true] false (XCode.region false [(XOper.mk (some 14) (XOp.mv (XArg.tmp 0)) none Cls.p), (XOper.mk (some 15)
  (XOp.lenS (XArg.tmp 14)) none Cls.p), (XOper.mk (some 16) (XOp.bin .gtr (XArg.tmp 15) (XArg.lit (AV.c (CV.pv (PV.int .i64 400))))) none Cls.p), (XOper.mk
  (some 17) (XOp.mv (XArg.tmp 16)) none Cls.p), (XOper.mk (some 18) (XOp.mv (XArg.tmp 1)) (some (17, false)) Cls.p), (XOper.mk (some 19) (XOp.lenS (XArg.tmp
  18)) (some (17, false)) Cls.p), (XOper.mk (some 20) (XOp.bin .gtr (XArg.tmp 19) (XArg.lit (AV.c (CV.pv (PV.int .i64 400))))) (some (17, false)) Cls.p),
  (XOper.mk (some 21) (XOp.pick (XArg.tmp 17) (XArg.lit (AV.c (CV.pv (PV.bool true)))) (XArg.tmp 20)) none Cls.p)])) (XCode.tr [true, true, true, false, false,
  false, true] false (XCode.cond (XArg.tmp 21) (XCode.seq (XCode.tr [false, false, false, false, false, false, true] false (XCode.region false [(XOper.mk (some
  22) (XOp.call false [] (XArg.lit (AV.c (CV.fn 9 []))) []) none Cls.p), (XOper.mk (some 6) (XOp.mv (XArg.tmp 22)) none Cls.p)])) (XCode.tr [false, false,
  false, false, false, false, true] false XCode.ret)) XCode.skip))) (XCode.seq (XCode.tr [true, true, true, false, false, false, false, true, true, true] false
  (XCode.region false [(XOper.mk (some 24) (XOp.mv (XArg.tmp 0)) none Cls.p), (XOper.mk (some 25) (XOp.mv (XArg.tmp 2)) none Cls.p), (XOper.mk (some 26)
  (XOp.call false [] (XArg.lit (AV.c (CV.fn 19 []))) [(XArg.tmp 24), (XArg.tmp 25)]) none Cls.p), (XOper.mk (some 23) (XOp.mv (XArg.tmp 26)) none Cls.p),
  (XOper.mk (some 27) (XOp.extr 0 (XArg.tmp 23)) none Cls.p), (XOper.mk (some 28) (XOp.extr 1 (XArg.tmp 23)) none Cls.p), (XOper.mk (some 29) (XOp.extr 2
  (XArg.tmp 23)) none Cls.p), (XOper.mk (some 7) (XOp.mv (XArg.tmp 27)) none Cls.p), (XOper.mk (some 8) (XOp.mv (XArg.tmp 28)) none Cls.p), (XOper.mk (some 9)
  (XOp.mv (XArg.tmp 29)) none Cls.p)])) (XCode.seq (XCode.tr [true, true, false, false, false, false, false, true, true, true, true, true, true] false
  (XCode.region false [(XOper.mk (some 31) (XOp.mv (XArg.tmp 1)) none Cls.p), (XOper.mk (some 32) (XOp.mv (XArg.tmp 2)) none Cls.p), (XOper.mk (some 33)
  (XOp.call false [] (XArg.lit (AV.c (CV.fn 19 []))) [(XArg.tmp 31), (XArg.tmp 32)]) none Cls.p), (XOper.mk (some 30) (XOp.mv (XArg.tmp 33)) none Cls.p),
  (XOper.mk (some 34) (XOp.extr 0 (XArg.tmp 30)) none Cls.p), (XOper.mk (some 35) (XOp.extr 1 (XArg.tmp 30)) none Cls.p), (XOper.mk (some 36) (XOp.extr 2
  (XArg.tmp 30)) none Cls.p), (XOper.mk (some 10) (XOp.mv (XArg.tmp 34)) none Cls.p), (XOper.mk (some 11) (XOp.mv (XArg.tmp 35)) none Cls.p), (XOper.mk (some
  12) (XOp.mv (XArg.tmp 36)) none Cls.p)])) (XCode.seq (XCode.seq (XCode.tr [false, false, false, false, false, false, false, true, true, true, true, true,
  true, false, false, false, false, false, false, false, false, false, false, false, false, false, false, false, false, false, false, false, false, false,
  false, false, false, false, false, false, false, false, false, false, false, false, false, false, false, false, false, false, false, false, false, false,
  false, false, false, false, false, false, false, false, true] false (XCode.region false [(XOper.mk (some 37) (XOp.mv (XArg.tmp 9)) none Cls.p), (XOper.mk
  (some 38) (XOp.bin .eql (XArg.tmp 37) (XArg.lit (AV.c (CV.pv (PV.int .i64 0))))) none Cls.p), (XOper.mk (some 39) (XOp.mv (XArg.tmp 38)) none Cls.p),
  (XOper.mk (some 40) (XOp.mv (XArg.tmp 7)) (some (39, true)) Cls.p), (XOper.mk (some 41) (XOp.mv (XArg.tmp 0)) (some (39, true)) Cls.p), (XOper.mk (some 42)
  (XOp.mv (XArg.tmp 8)) (some (39, true)) Cls.p), (XOper.mk (some 43) (XOp.sliceS (XArg.tmp 41) none (some (XArg.tmp 42))) (some (39, true)) Cls.p), (XOper.mk
  (some 44) (XOp.bin .neq (XArg.tmp 40) (XArg.tmp 43)) (some (39, true)) Cls.p), (XOper.mk (some 45) (XOp.mv (XArg.tmp 44)) (some (39, true)) Cls.p), (XOper.mk
  (some 46) (XOp.mv (XArg.tmp 8)) (some (45, false)) Cls.p), (XOper.mk (some 47) (XOp.bin .eql (XArg.tmp 46) (XArg.lit (AV.c (CV.pv (PV.int .i64 0))))) (some
  (45, false)) Cls.p), (XOper.mk (some 48) (XOp.pick (XArg.tmp 45) (XArg.lit (AV.c (CV.pv (PV.bool true)))) (XArg.tmp 47)) (some (39, true)) Cls.p), (XOper.mk
  (some 49) (XOp.pick (XArg.tmp 39) (XArg.tmp 48) (XArg.lit (AV.c (CV.pv (PV.bool false))))) none Cls.p), (XOper.mk (some 50) (XOp.mv (XArg.tmp 49)) none
  Cls.p), (XOper.mk (some 51) (XOp.mv (XArg.tmp 12)) (some (50, false)) Cls.p), (XOper.mk (some 52) (XOp.bin .eql (XArg.tmp 51) (XArg.lit (AV.c (CV.pv (PV.int
  .i64 0))))) (some (50, false)) Cls.p), (XOper.mk (some 53) (XOp.mv (XArg.tmp 52)) (some (50, false)) Cls.p), (XOper.mk (some 54) (XOp.mv (XArg.tmp 10)) (some
  (53, true)) Cls.p), (XOper.mk (some 55) (XOp.mv (XArg.tmp 1)) (some (53, true)) Cls.p), (XOper.mk (some 56) (XOp.mv (XArg.tmp 11)) (some (53, true)) Cls.p),
  (XOper.mk (some 57) (XOp.sliceS (XArg.tmp 55) none (some (XArg.tmp 56))) (some (53, true)) Cls.p), (XOper.mk (some 58) (XOp.bin .neq (XArg.tmp 54) (XArg.tmp
  57)) (some (53, true)) Cls.p), (XOper.mk (some 59) (XOp.mv (XArg.tmp 58)) (some (53, true)) Cls.p), (XOper.mk (some 60) (XOp.mv (XArg.tmp 11)) (some (59,
  false)) Cls.p), (XOper.mk (some 61) (XOp.bin .eql (XArg.tmp 60) (XArg.lit (AV.c (CV.pv (PV.int .i64 0))))) (some (59, false)) Cls.p), (XOper.mk (some 62)
  (XOp.pick (XArg.tmp 59) (XArg.lit (AV.c (CV.pv (PV.bool true)))) (XArg.tmp 61)) (some (53, true)) Cls.p), (XOper.mk (some 63) (XOp.pick (XArg.tmp 53)
  (XArg.tmp 62) (XArg.lit (AV.c (CV.pv (PV.bool false))))) (some (50, false)) Cls.p), (XOper.mk (some 64) (XOp.pick (XArg.tmp 50) (XArg.lit (AV.c (CV.pv
  (PV.bool true)))) (XArg.tmp 63)) none Cls.p)])) (XCode.tr [false, false, false, false, false, false, true, true, true, true, true, true, true] false
  (XCode.cond (XArg.tmp 64) (XCode.seq (XCode.region false [(XOper.mk (some 6) (XOp.mv (XArg.lit (AV.c (CV.pv (PV.bool false))))) none Cls.p)]) (XCode.tr
  [false, false, false, false, false, false, true] false XCode.ret)) XCode.skip))) (XCode.seq (XCode.seq (XCode.tr [false, false, false, false, false, false,
  false, true, true, true, true, true, true, false, false, false, false, false, false, false, false, false, false, false, false, false, false, false, false,
  false, false, false, false, false, false, false, false, false, false, false, false, false, false, false, false, false, false, false, false, false, false,
  false, false, false, false, false, false, false, false, false, false, false, false, false, false, false, false, false, false, false, true] false (XCode.region
  false [(XOper.mk (some 65) (XOp.mv (XArg.tmp 9)) none Cls.p), (XOper.mk (some 66) (XOp.bin .neq (XArg.tmp 65) (XArg.lit (AV.c (CV.pv (PV.int .i64 0))))) none
  Cls.p), (XOper.mk (some 67) (XOp.mv (XArg.tmp 66)) none Cls.p), (XOper.mk (some 68) (XOp.mv (XArg.tmp 12)) (some (67, false)) Cls.p), (XOper.mk (some 69)
  (XOp.bin .neq (XArg.tmp 68) (XArg.lit (AV.c (CV.pv (PV.int .i64 0))))) (some (67, false)) Cls.p), (XOper.mk (some 70) (XOp.pick (XArg.tmp 67) (XArg.lit (AV.c
  (CV.pv (PV.bool true)))) (XArg.tmp 69)) none Cls.p)])) (XCode.tr [false, false, false, false, false, false, true, true, true, false, true, true] false
  (XCode.cond (XArg.tmp 70) (XCode.seq (XCode.tr [false, false, false, false, false, false, true] false (XCode.region false [(XOper.mk (some 71) (XOp.call false
  [] (XArg.lit (AV.c (CV.fn 9 []))) []) none Cls.p), (XOper.mk (some 72) (XOp.mv (XArg.tmp 71)) none Cls.p), (XOper.mk (some 73) (XOp.mv (XArg.tmp 9)) (some
  (72, true)) Cls.p), (XOper.mk (some 74) (XOp.bin .eql (XArg.tmp 73) (XArg.lit (AV.c (CV.pv (PV.int .i64 0))))) (some (72, true)) Cls.p), (XOper.mk (some 75)
  (XOp.mv (XArg.tmp 74)) (some (72, true)) Cls.p), (XOper.mk (some 76) (XOp.mv (XArg.tmp 8)) (some (75, false)) Cls.p), (XOper.mk (some 77) (XOp.bin .eql
  (XArg.tmp 76) (XArg.lit (AV.c (CV.pv (PV.int .i64 0))))) (some (75, false)) Cls.p), (XOper.mk (some 78) (XOp.pick (XArg.tmp 75) (XArg.lit (AV.c (CV.pv
  (PV.bool true)))) (XArg.tmp 77)) (some (72, true)) Cls.p), (XOper.mk (some 79) (XOp.pick (XArg.tmp 72) (XArg.tmp 78) (XArg.lit (AV.c (CV.pv (PV.bool
  false))))) none Cls.p), (XOper.mk (some 80) (XOp.mv (XArg.tmp 79)) none Cls.p), (XOper.mk (some 81) (XOp.mv (XArg.tmp 12)) (some (80, true)) Cls.p), (XOper.mk
  (some 82) (XOp.bin .eql (XArg.tmp 81) (XArg.lit (AV.c (CV.pv (PV.int .i64 0))))) (some (80, true)) Cls.p), (XOper.mk (some 83) (XOp.mv (XArg.tmp 82)) (some
  (80, true)) Cls.p), (XOper.mk (some 84) (XOp.mv (XArg.tmp 11)) (some (83, false)) Cls.p), (XOper.mk (some 85) (XOp.bin .eql (XArg.tmp 84) (XArg.lit (AV.c
  (CV.pv (PV.int .i64 0))))) (some (83, false)) Cls.p), (XOper.mk (some 86) (XOp.pick (XArg.tmp 83) (XArg.lit (AV.c (CV.pv (PV.bool true)))) (XArg.tmp 85))
  (some (80, true)) Cls.p), (XOper.mk (some 87) (XOp.pick (XArg.tmp 80) (XArg.tmp 86) (XArg.lit (AV.c (CV.pv (PV.bool false))))) none Cls.p), (XOper.mk (some 6)
  (XOp.mv (XArg.tmp 87)) none Cls.p)])) (XCode.tr [false, false, false, false, false, false, true] false XCode.ret)) XCode.skip))) (XCode.seq (XCode.tr [false,
  false, false, false, false, false, false, true, true, false, true, true, false, true] false (XCode.region false [(XOper.mk (some 88) (XOp.mv (XArg.tmp 8))
  none Cls.p), (XOper.mk (some 89) (XOp.mv (XArg.tmp 11)) none Cls.p), (XOper.mk (some 90) (XOp.minI [(XArg.tmp 88), (XArg.tmp 89)]) none Cls.p), (XOper.mk
  (some 13) (XOp.mv (XArg.tmp 90)) none Cls.p)])) (XCode.seq (XCode.tr [false, false, false, false, false, false, true] false (XCode.region true [(XOper.mk
  (some 91) (XOp.call false [] (XArg.lit (AV.c (CV.fn 9 []))) []) none Cls.p), (XOper.mk (some 92) (XOp.mv (XArg.tmp 91)) none Cls.p), (XOper.mk (some 93)
  (XOp.mv (XArg.tmp 7)) (some (92, true)) Cls.p), (XOper.mk (some 94) (XOp.mv (XArg.tmp 13)) (some (92, true)) Cls.p), (XOper.mk (some 95) (XOp.sliceS (XArg.tmp
  93) none (some (XArg.tmp 94))) (some (92, true)) Cls.p), (XOper.mk (some 96) (XOp.mv (XArg.tmp 10)) (some (92, true)) Cls.p), (XOper.mk (some 97) (XOp.mv
  (XArg.tmp 13)) (some (92, true)) Cls.p), (XOper.mk (some 98) (XOp.sliceS (XArg.tmp 96) none (some (XArg.tmp 97))) (some (92, true)) Cls.p), (XOper.mk (some
  99) (XOp.bin .neq (XArg.tmp 95) (XArg.tmp 98)) (some (92, true)) Cls.p), (XOper.mk (some 100) (XOp.mv (XArg.tmp 99)) (some (92, true)) Cls.p), (XOper.mk (some
  101) (XOp.mv (XArg.tmp 8)) (some (100, false)) Cls.p), (XOper.mk (some 102) (XOp.mv (XArg.tmp 11)) (some (100, false)) Cls.p), (XOper.mk (some 103) (XOp.bin
  .eql (XArg.tmp 101) (XArg.tmp 102)) (some (100, false)) Cls.p), (XOper.mk (some 104) (XOp.pick (XArg.tmp 100) (XArg.lit (AV.c (CV.pv (PV.bool true))))
  (XArg.tmp 103)) (some (92, true)) Cls.p), (XOper.mk (some 105) (XOp.pick (XArg.tmp 92) (XArg.tmp 104) (XArg.lit (AV.c (CV.pv (PV.bool false))))) none Cls.p),
  (XOper.mk (some 6) (XOp.mv (XArg.tmp 105)) none Cls.p)])) (XCode.tr [false, false, false, false, false, false, true] false XCode.ret))))))))))
theorem xf5_ok : cmpFunc Go.Proofs.Try.prog 5 ((.two (.tr [true, true, true] false .no) (.two (.two (.tr [true, true, true, false, false, false, false, false, false, false, false, false, false, false, false, false, false, false, false, false, false, true] false .no) (.tr [true, true, true, false, false, false, true] false (.two (.two (.tr [false, false, false, false, false, false, true] false (.ops [{ cls := some .p }])) (.tr [false, false, false, false, false, false, true] false .no)) .no))) (.two (.tr [true, true, true, false, false, false, false, true, true, true] false (.ops [{}, {}, { cls := some .p }])) (.two (.tr [true, true, false, false, false, false, false, true, true, true, true, true, true] false (.ops [{}, {}, { cls := some .p }])) (.two (.two (.tr [false, false, false, false, false, false, false, true, true, true, true, true, true, false, false, false, false, false, false, false, false, false, false, false, false, false, false, false, false, false, false, false, false, false, false, false, false, false, false, false, false, false, false, false, false, false, false, false, false, false, false, false, false, false, false, false, false, false, false, false, false, false, false, false, true] false .no) (.tr [false, false, false, false, false, false, true, true, true, true, true, true, true] false (.two (.two .no (.tr [false, false, false, false, false, false, true] false .no)) .no))) (.two (.two (.tr [false, false, false, false, false, false, false, true, true, true, true, true, true, false, false, false, false, false, false, false, false, false, false, false, false, false, false, false, false, false, false, false, false, false, false, false, false, false, false, false, false, false, false, false, false, false, false, false, false, false, false, false, false, false, false, false, false, false, false, false, false, false, false, false, false, false, false, false, false, false, true] false .no) (.tr [false, false, false, false, false, false, true, true, true, false, true, true] false (.two (.two (.tr [false, false, false, false, false, false, true] false (.ops [{ cls := some .p }])) (.tr [false, false, false, false, false, false, true] false .no)) .no))) (.two (.tr [false, false, false, false, false, false, false, true, true, false, true, true, false, true] false .no) (.two (.tr [false, false, false, false, false, false, true] false (.draw [0, 1, 2, 3, 4, 5, 6, 7, 8, 9, 10, 11, 12, 13, 14, 15] [{ cls := some .p }])) (.tr [false, false, false, false, false, false, true] false .no)))))))))) = some xf5 := by kernel_rfl
def xf6_l0 : XCode :=
(XCode.seq (XCode.seq (XCode.tr [true, true, false, false, false, true, true, true, false, false, false, false, false, false, false, false, false, false, false,
  false, false, false, false, false, false, false, false, true] false (XCode.region false [(XOper.mk (some 24) (XOp.mv (XArg.tmp 7)) none Cls.p), (XOper.mk
  (some 25) (XOp.mv (XArg.tmp 1)) none Cls.p), (XOper.mk (some 26) (XOp.len (XArg.tmp 25)) none Cls.p), (XOper.mk (some 27) (XOp.bin .lss (XArg.tmp 24)
  (XArg.tmp 26)) none Cls.p)])) (XCode.tr [true, true, false, false, false, true, true, true] false (XCode.cond (XArg.tmp 27) XCode.skip (XCode.tr [] false
  (XCode.exit 0))))) (XCode.seq (XCode.tr [true, true, false, false, true, true, true, true] false (XCode.block 1 (XCode.seq (XCode.tr [true, true, false,
  false, false, true, true, true, true] false (XCode.region false [(XOper.mk (some 30) (XOp.mv (XArg.tmp 5)) none Cls.p), (XOper.mk (some 31) (XOp.mv (XArg.tmp
  6)) none Cls.p), (XOper.mk (some 32) (XOp.mv (XArg.tmp 1)) none Cls.p), (XOper.mk (some 33) (XOp.mv (XArg.tmp 7)) none Cls.p), (XOper.mk (some 34) (XOp.iaddrS
  2 (XArg.tmp 32) (XArg.tmp 33)) none Cls.p), (XOper.mk (some 35) (XOp.load true 2 (XArg.tmp 34)) none Cls.r), (XOper.mk (some 36) (XOp.call false [] (XArg.lit
  (AV.c (CV.fn 20 []))) [(XArg.tmp 30), (XArg.tmp 31), (XArg.tmp 35)]) none Cls.w), (XOper.mk (some 8) (XOp.mv (XArg.tmp 36)) none Cls.p)])) (XCode.seq
  (XCode.tr [true, true, false, false, false, true, true, true, false, false, false, false, false, false, false, false, false, false, false, false, false,
  false, false, false, false, false, false, false, false, false, false, false, false, false, false, false, false, false, false, false, false, false, false,
  false, false, false, false, false, false, false, false, false, false, false, false, false, false, false, false, false, false, false, false, false, false,
  false, true] false (XCode.region true [(XOper.mk (some 37) (XOp.mv (XArg.tmp 8)) none Cls.p), (XOper.mk (some 38) (XOp.un .not (XArg.tmp 37)) none Cls.p),
  (XOper.mk (some 39) (XOp.mv (XArg.tmp 38)) none Cls.p), (XOper.mk (some 40) (XOp.mv (XArg.tmp 5)) (some (39, false)) Cls.p), (XOper.mk (some 42) (XOp.mv
  (XArg.tmp 6)) (some (39, false)) Cls.p), (XOper.mk (some 43) (XOp.nilc (XArg.tmp 42)) (some (39, false)) Cls.p), (XOper.mk (some 44) (XOp.faddr 2 (XArg.tmp
  43)) (some (39, false)) Cls.p), (XOper.mk (some 45) (XOp.loadR false 1 (XArg.tmp 44) (XArg.tmp 6)) (some (39, false)) Cls.r), (XOper.mk (some 41) (XOp.call
  false [(XArg.tmp 6)] (XArg.lit (AV.c (CV.fn 16 []))) [(XArg.tmp 40)]) (some (39, false)) Cls.w), (XOper.mk (some 46) (XOp.bin .neq (XArg.tmp 41) (XArg.tmp
  45)) (some (39, false)) Cls.p), (XOper.mk (some 47) (XOp.pick (XArg.tmp 39) (XArg.lit (AV.c (CV.pv (PV.bool true)))) (XArg.tmp 46)) none Cls.p), (XOper.mk
  (some 48) (XOp.mv (XArg.tmp 47)) none Cls.p), (XOper.mk (some 49) (XOp.mv (XArg.tmp 5)) (some (48, false)) Cls.p), (XOper.mk (some 51) (XOp.mv (XArg.tmp 0))
  (some (48, false)) Cls.p), (XOper.mk (some 52) (XOp.lenS (XArg.tmp 51)) (some (48, false)) Cls.p), (XOper.mk (some 53) (XOp.mv (XArg.tmp 6)) (some (48,
  false)) Cls.p), (XOper.mk (some 54) (XOp.nilc (XArg.tmp 53)) (some (48, false)) Cls.p), (XOper.mk (some 55) (XOp.faddr 1 (XArg.tmp 54)) (some (48, false))
  Cls.p), (XOper.mk (some 56) (XOp.loadR false 1 (XArg.tmp 55) (XArg.tmp 6)) (some (48, false)) Cls.r), (XOper.mk (some 57) (XOp.bin .sub (XArg.tmp 52)
  (XArg.tmp 56)) (some (48, false)) Cls.p), (XOper.mk (some 50) (XOp.call false [(XArg.tmp 6)] (XArg.lit (AV.c (CV.fn 17 []))) [(XArg.tmp 49)]) (some (48,
  false)) Cls.w), (XOper.mk (some 58) (XOp.bin .neq (XArg.tmp 50) (XArg.tmp 57)) (some (48, false)) Cls.p), (XOper.mk (some 59) (XOp.pick (XArg.tmp 48)
  (XArg.lit (AV.c (CV.pv (PV.bool true)))) (XArg.tmp 58)) none Cls.p), (XOper.mk (some 60) (XOp.mv (XArg.tmp 59)) none Cls.p), (XOper.mk (some 61) (XOp.mv
  (XArg.tmp 5)) (some (60, false)) Cls.p), (XOper.mk (some 63) (XOp.mv (XArg.tmp 6)) (some (60, false)) Cls.p), (XOper.mk (some 62) (XOp.call false [] (XArg.lit
  (AV.c (CV.fn 18 []))) [(XArg.tmp 61)]) (some (60, false)) Cls.w), (XOper.mk (some 64) (XOp.call false [] (XArg.lit (AV.c (CV.fn 21 []))) [(XArg.tmp 63)])
  (some (60, false)) Cls.w), (XOper.mk (some 65) (XOp.bin .neq (XArg.tmp 62) (XArg.tmp 64)) (some (60, false)) Cls.p), (XOper.mk (some 66) (XOp.pick (XArg.tmp
  60) (XArg.lit (AV.c (CV.pv (PV.bool true)))) (XArg.tmp 65)) none Cls.p)])) (XCode.tr [true, true, false, false, true, true, true, true] false (XCode.cond
  (XArg.tmp 66) (XCode.seq (XCode.region false [(XOper.mk (some 4) (XOp.mv (XArg.lit (AV.c (CV.pv (PV.bool false))))) none Cls.p)]) (XCode.tr [false, false,
  false, false, true] false XCode.ret)) XCode.skip)))))) (XCode.tr [true, true, false, false, false, true, true, true] false (XCode.region false [(XOper.mk
  (some 28) (XOp.mv (XArg.tmp 7)) none Cls.p), (XOper.mk (some 29) (XOp.bin .add (XArg.tmp 28) (XArg.lit (AV.c (CV.pv (PV.int .i64 1))))) none Cls.p), (XOper.mk
  (some 7) (XOp.mv (XArg.tmp 29)) none Cls.p)]))))
def xf6 : XFunc :=
(XFunc.mk 114 [(XRes.tmp 4)] (XCode.seq (XCode.tr [true, true] false (XCode.region false [(XOper.mk (some 4) (XOp.mv (XArg.lit (AV.c (CV.pv (PV.bool false)))))
  none Cls.p)])) (XCode.seq (XCode.seq (XCode.tr [true, true, false, false, false, false, false, false, false, false, false, false, false, false, false, false,
  false, true] false (XCode.region false [(XOper.mk (some 10) (XOp.mv (XArg.tmp 1)) none Cls.p), (XOper.mk (some 11) (XOp.len (XArg.tmp 10)) none Cls.p),
  (XOper.mk (some 12) (XOp.bin .gtr (XArg.tmp 11) (XArg.lit (AV.c (CV.pv (PV.int .i64 60))))) none Cls.p), (XOper.mk (some 13) (XOp.mv (XArg.tmp 12)) none
  Cls.p), (XOper.mk (some 14) (XOp.mv (XArg.tmp 0)) (some (13, false)) Cls.p), (XOper.mk (some 15) (XOp.lenS (XArg.tmp 14)) (some (13, false)) Cls.p), (XOper.mk
  (some 16) (XOp.bin .gtr (XArg.tmp 15) (XArg.lit (AV.c (CV.pv (PV.int .i64 400))))) (some (13, false)) Cls.p), (XOper.mk (some 17) (XOp.pick (XArg.tmp 13)
  (XArg.lit (AV.c (CV.pv (PV.bool true)))) (XArg.tmp 16)) none Cls.p)])) (XCode.tr [true, true, false, false, true] false (XCode.cond (XArg.tmp 17) (XCode.seq
  (XCode.tr [false, false, false, false, true] false (XCode.region false [(XOper.mk (some 18) (XOp.call false [] (XArg.lit (AV.c (CV.fn 9 []))) []) none Cls.p),
  (XOper.mk (some 4) (XOp.mv (XArg.tmp 18)) none Cls.p)])) (XCode.tr [false, false, false, false, true] false XCode.ret)) XCode.skip))) (XCode.seq (XCode.tr
  [true, true, false, false, false, true] false (XCode.region false [(XOper.mk (some 19) (XOp.mv (XArg.tmp 0)) none Cls.p), (XOper.mk (some 20) (XOp.call false
  [] (XArg.lit (AV.c (CV.fn 14 []))) [(XArg.tmp 19)]) none Cls.w), (XOper.mk (some 5) (XOp.mv (XArg.tmp 20)) none Cls.p)])) (XCode.seq (XCode.tr [true, true,
  false, false, false, true, true] false (XCode.region false [(XOper.mk (some 21) (XOp.mv (XArg.tmp 0)) none Cls.p), (XOper.mk (some 22) (XOp.build [(CV.pv
  (PV.str [])), (CV.pv (PV.int .i64 0)), (CV.pv (PV.int .i64 0))] [(0, (1, (XArg.tmp 21)))]) none Cls.p), (XOper.mk (some 23) (XOp.box (XArg.tmp 22) 3) none
  Cls.w), (XOper.mk (some 6) (XOp.mv (XArg.tmp 23)) none Cls.p)])) (XCode.seq (XCode.seq (XCode.region false [(XOper.mk (some 7) (XOp.mv (XArg.lit (AV.c (CV.pv
  (PV.int .i64 0))))) none Cls.p)]) (XCode.tr [false, false, false, false, true] false (XCode.block 0 (XCode.loop [true, true, false, false, false, true, true,
  true] xf6_l0)))) (XCode.seq (XCode.region false [(XOper.mk (some 9) (XOp.mv (XArg.lit (AV.c CV.nilp))) none Cls.p)]) (XCode.seq (XCode.tr [false, false,
  false, false, true] false (XCode.region false [(XOper.mk (some 67) (XOp.call false [] (XArg.lit (AV.c (CV.fn 9 []))) []) none Cls.p), (XOper.mk (some 68)
  (XOp.mv (XArg.tmp 67)) none Cls.p), (XOper.mk (some 69) (XOp.mv (XArg.tmp 9)) (some (68, true)) Cls.p), (XOper.mk (some 70) (XOp.call false [] (XArg.lit (AV.c
  (CV.fn 22 []))) [(XArg.tmp 69)]) (some (68, true)) Cls.w), (XOper.mk (some 71) (XOp.bin .eql (XArg.tmp 70) (XArg.lit (AV.c (CV.pv (PV.int .u64 0))))) (some
  (68, true)) Cls.p), (XOper.mk (some 72) (XOp.pick (XArg.tmp 68) (XArg.tmp 71) (XArg.lit (AV.c (CV.pv (PV.bool false))))) none Cls.p), (XOper.mk (some 73)
  (XOp.mv (XArg.tmp 72)) none Cls.p), (XOper.mk (some 74) (XOp.mv (XArg.tmp 9)) (some (73, true)) Cls.p), (XOper.mk (some 75) (XOp.call false [] (XArg.lit (AV.c
  (CV.fn 23 []))) [(XArg.tmp 74)]) (some (73, true)) Cls.w), (XOper.mk (some 76) (XOp.bin .eql (XArg.tmp 75) (XArg.lit (AV.c (CV.pv (PV.int .i64 0))))) (some
  (73, true)) Cls.p), (XOper.mk (some 77) (XOp.pick (XArg.tmp 73) (XArg.tmp 76) (XArg.lit (AV.c (CV.pv (PV.bool false))))) none Cls.p), (XOper.mk (some 78)
  (XOp.mv (XArg.tmp 77)) none Cls.p), (XOper.mk (some 79) (XOp.mv (XArg.tmp 9)) (some (78, true)) Cls.p), (XOper.mk (some 80) (XOp.call false [] (XArg.lit (AV.c
  (CV.fn 24 []))) [(XArg.tmp 79), (XArg.lit (AV.c (CV.pv (PV.int .i64 9))))]) (some (78, true)) Cls.w), (XOper.mk (some 81) (XOp.bin .eql (XArg.tmp 80)
  (XArg.lit (AV.c (CV.pv (PV.str []))))) (some (78, true)) Cls.p), (XOper.mk (some 82) (XOp.pick (XArg.tmp 78) (XArg.tmp 81) (XArg.lit (AV.c (CV.pv (PV.bool
  false))))) none Cls.p), (XOper.mk (some 83) (XOp.mv (XArg.tmp 82)) none Cls.p), (XOper.mk (some 84) (XOp.mv (XArg.tmp 9)) (some (83, true)) Cls.p), (XOper.mk
  (some 85) (XOp.call false [] (XArg.lit (AV.c (CV.fn 25 []))) [(XArg.tmp 84)]) (some (83, true)) Cls.w), (XOper.mk (some 86) (XOp.un .not (XArg.tmp 85)) (some
  (83, true)) Cls.p), (XOper.mk (some 87) (XOp.pick (XArg.tmp 83) (XArg.tmp 86) (XArg.lit (AV.c (CV.pv (PV.bool false))))) none Cls.p), (XOper.mk (some 88)
  (XOp.mv (XArg.tmp 87)) none Cls.p), (XOper.mk (some 89) (XOp.mv (XArg.tmp 9)) (some (88, true)) Cls.p), (XOper.mk (some 90) (XOp.call false [] (XArg.lit (AV.c
  (CV.fn 26 []))) [(XArg.tmp 89)]) (some (88, true)) Cls.w), (XOper.mk (some 91) (XOp.build [(CV.pv (PV.int .i64 0)), (CV.pv (PV.int .i64 0))] []) (some (88,
  true)) Cls.p), (XOper.mk (some 92) (XOp.eqA false [0, 0] (XArg.tmp 90) (XArg.tmp 91)) (some (88, true)) Cls.p), (XOper.mk (some 93) (XOp.pick (XArg.tmp 88)
  (XArg.tmp 92) (XArg.lit (AV.c (CV.pv (PV.bool false))))) none Cls.p), (XOper.mk (some 94) (XOp.mv (XArg.tmp 93)) none Cls.p), (XOper.mk (some 95) (XOp.mv
  (XArg.tmp 9)) (some (94, true)) Cls.p), (XOper.mk (some 96) (XOp.call false [] (XArg.lit (AV.c (CV.fn 27 []))) [(XArg.tmp 95), (XArg.lit (AV.c (CV.pv (PV.int
  .i64 9))))]) (some (94, true)) Cls.w), (XOper.mk (some 97) (XOp.bin .eql (XArg.tmp 96) (XArg.lit (AV.c (CV.pv (PV.int .i64 0))))) (some (94, true)) Cls.p),
  (XOper.mk (some 98) (XOp.pick (XArg.tmp 94) (XArg.tmp 97) (XArg.lit (AV.c (CV.pv (PV.bool false))))) none Cls.p), (XOper.mk (some 99) (XOp.mv (XArg.tmp 98))
  none Cls.p), (XOper.mk (some 100) (XOp.mv (XArg.tmp 9)) (some (99, true)) Cls.p), (XOper.mk (some 101) (XOp.call false [] (XArg.lit (AV.c (CV.fn 16 [])))
  [(XArg.tmp 100)]) (some (99, true)) Cls.w), (XOper.mk (some 102) (XOp.bin .eql (XArg.tmp 101) (XArg.lit (AV.c (CV.pv (PV.int .i64 1))))) (some (99, true))
  Cls.p), (XOper.mk (some 103) (XOp.pick (XArg.tmp 99) (XArg.tmp 102) (XArg.lit (AV.c (CV.pv (PV.bool false))))) none Cls.p), (XOper.mk (some 104) (XOp.mv
  (XArg.tmp 103)) none Cls.p), (XOper.mk (some 105) (XOp.mv (XArg.tmp 9)) (some (104, true)) Cls.p), (XOper.mk (some 106) (XOp.call false [] (XArg.lit (AV.c
  (CV.fn 18 []))) [(XArg.tmp 105)]) (some (104, true)) Cls.w), (XOper.mk (some 107) (XOp.bin .eql (XArg.tmp 106) (XArg.lit (AV.c (CV.pv (PV.int .i64 1)))))
  (some (104, true)) Cls.p), (XOper.mk (some 108) (XOp.pick (XArg.tmp 104) (XArg.tmp 107) (XArg.lit (AV.c (CV.pv (PV.bool false))))) none Cls.p), (XOper.mk
  (some 109) (XOp.mv (XArg.tmp 108)) none Cls.p), (XOper.mk (some 110) (XOp.mv (XArg.tmp 9)) (some (109, true)) Cls.p), (XOper.mk (some 111) (XOp.call false []
  (XArg.lit (AV.c (CV.fn 17 []))) [(XArg.tmp 110)]) (some (109, true)) Cls.w), (XOper.mk (some 112) (XOp.bin .eql (XArg.tmp 111) (XArg.lit (AV.c (CV.pv (PV.int
  .i64 0))))) (some (109, true)) Cls.p), (XOper.mk (some 113) (XOp.pick (XArg.tmp 109) (XArg.tmp 112) (XArg.lit (AV.c (CV.pv (PV.bool false))))) none Cls.p),
  (XOper.mk (some 4) (XOp.mv (XArg.tmp 113)) none Cls.p)])) (XCode.tr [false, false, false, false, true] false XCode.ret)))))))))
theorem xf6_ok : cmpFunc Go.Proofs.Try.prog 6 ((.two (.tr [true, true] false .no) (.two (.two (.tr [true, true, false, false, false, false, false, false, false, false, false, false, false, false, false, false, false, true] false .no) (.tr [true, true, false, false, true] false (.two (.two (.tr [false, false, false, false, true] false (.ops [{ cls := some .p }])) (.tr [false, false, false, false, true] false .no)) .no))) (.two (.tr [true, true, false, false, false, true] false .no) (.two (.tr [true, true, false, false, false, true, true] false .no) (.two (.two .no (.tr [false, false, false, false, true] false (.loop [true, true, false, false, false, true, true, true] (.two (.two (.tr [true, true, false, false, false, true, true, true, false, false, false, false, false, false, false, false, false, false, false, false, false, false, false, false, false, false, false, true] false .no) (.tr [true, true, false, false, false, true, true, true] false (.two .no (.tr [] false .no)))) (.two (.tr [true, true, false, false, true, true, true, true] false (.two (.tr [true, true, false, false, false, true, true, true, true] false .no) (.two (.tr [true, true, false, false, false, true, true, true, false, false, false, false, false, false, false, false, false, false, false, false, false, false, false, false, false, false, false, false, false, false, false, false, false, false, false, false, false, false, false, false, false, false, false, false, false, false, false, false, false, false, false, false, false, false, false, false, false, false, false, false, false, false, false, false, false, false, true] false (.draw [0, 1, 2, 3, 5, 6, 7, 8, 4, 9, 10, 11, 12, 14, 15, 16, 17, 18, 19, 20, 13, 21, 22, 23, 24, 26, 25, 27, 28, 29] [{}, {}, {}, {}, { ap := [6] }, {}, {}, {}, { root := some 6 }, {}, {}, {}, {}, { ap := [6] }, {}, {}, {}, {}, {}, { root := some 6 }])) (.tr [true, true, false, false, true, true, true, true] false (.two (.two .no (.tr [false, false, false, false, true] false .no)) .no))))) (.tr [true, true, false, false, false, true, true, true] false .no)))))) (.two .no (.two (.tr [false, false, false, false, true] false (.ops [{ cls := some .p }])) (.tr [false, false, false, false, true] false .no))))))))) = some xf6 := by kernel_rfl
def xf7_l0 : XCode :=
(XCode.seq (XCode.seq (XCode.tr [false, true, false, false, false, true, true, false, false, false, false, false, false, false, false, false, false, false,
  false, false, false, false, false, false, false, true] false (XCode.region false [(XOper.mk (some 22) (XOp.mv (XArg.tmp 6)) none Cls.p), (XOper.mk (some 23)
  (XOp.mv (XArg.tmp 1)) none Cls.p), (XOper.mk (some 24) (XOp.len (XArg.tmp 23)) none Cls.p), (XOper.mk (some 25) (XOp.bin .lss (XArg.tmp 22) (XArg.tmp 24))
  none Cls.p)])) (XCode.tr [false, true, false, false, false, true, true] false (XCode.cond (XArg.tmp 25) XCode.skip (XCode.tr [] false (XCode.exit 0)))))
  (XCode.seq (XCode.tr [false, true, false, false, true, true, true] false (XCode.block 1 (XCode.seq (XCode.tr [false, true, false, false, false, true, true,
  true] false (XCode.region false [(XOper.mk (some 28) (XOp.mv (XArg.tmp 5)) none Cls.p), (XOper.mk (some 29) (XOp.call false [] (XArg.lit (AV.c (CV.fn 16 [])))
  [(XArg.tmp 28)]) none Cls.w), (XOper.mk (some 7) (XOp.mv (XArg.tmp 29)) none Cls.p)])) (XCode.seq (XCode.tr [false, true, false, false, false, true, true,
  true, true] false (XCode.region false [(XOper.mk (some 30) (XOp.mv (XArg.tmp 5)) none Cls.p), (XOper.mk (some 31) (XOp.call false [] (XArg.lit (AV.c (CV.fn 17
  []))) [(XArg.tmp 30)]) none Cls.w), (XOper.mk (some 8) (XOp.mv (XArg.tmp 31)) none Cls.p)])) (XCode.seq (XCode.tr [false, true, false, false, false, true,
  true, true, true, true] false (XCode.region false [(XOper.mk (some 32) (XOp.build [(CV.pv (PV.str [])), (CV.pv (PV.int .i64 0)), (CV.pv (PV.int .i64 0))] [(2,
  (1, (XArg.lit (AV.c (CV.pv (PV.int .i64 1))))))]) none Cls.p), (XOper.mk (some 33) (XOp.box (XArg.tmp 32) 3) none Cls.w), (XOper.mk (some 9) (XOp.mv (XArg.tmp
  33)) none Cls.p)])) (XCode.seq (XCode.seq (XCode.tr [false, true, false, false, false, true, true, true, true, true, false, false, false, false, false, false,
  false, false, false, false, false, false, false, false, false, false, false, false, false, false, false, false, false, false, false, true] false (XCode.region
  false [(XOper.mk (some 34) (XOp.mv (XArg.tmp 7)) none Cls.p), (XOper.mk (some 35) (XOp.bin .eql (XArg.tmp 34) (XArg.lit (AV.c (CV.pv (PV.int .i64 0))))) none
  Cls.p)])) (XCode.tr [false, true, false, false, true, true, true, true, true, true] false (XCode.cond (XArg.tmp 35) (XCode.seq (XCode.seq (XCode.tr [false,
  true, false, false, false, true, true, false, true, false, false, false, false, false, false, false, false, false, false, false, false, false, false, false,
  false, false, false, false, false, false, false, false, false, false, false, false, false, false, false, false, false, true] false (XCode.region false
  [(XOper.mk (some 36) (XOp.mv (XArg.tmp 1)) none Cls.p), (XOper.mk (some 37) (XOp.mv (XArg.tmp 6)) none Cls.p), (XOper.mk (some 38) (XOp.iaddrS 2 (XArg.tmp 36)
  (XArg.tmp 37)) none Cls.p), (XOper.mk (some 39) (XOp.faddr 0 (XArg.tmp 38)) none Cls.p), (XOper.mk (some 40) (XOp.load false 1 (XArg.tmp 39)) none Cls.r),
  (XOper.mk (some 41) (XOp.bin .rem (XArg.tmp 40) (XArg.lit (AV.c (CV.pv (PV.int .u8 6))))) none Cls.p)])) (XCode.tr [false, true, false, false, false, true,
  true, false, true] false (XCode.block 2 (XCode.seq (XCode.tr [false, true, false, false, false, true, true, false, true, false, false, false, false, false,
  false, false, false, false, false, false, false, false, false, false, false, false, false, false, false, false, false, false, false, false, false, false,
  false, false, false, false, false, true, false, false, false, false, false, false, false, true] false (XCode.region false [(XOper.mk (some 50) (XOp.bin .eql
  (XArg.tmp 41) (XArg.lit (AV.c (CV.pv (PV.int .u8 0))))) none Cls.p), (XOper.mk (some 49) (XOp.mv (XArg.tmp 50)) none Cls.p)])) (XCode.tr [false, true, false,
  false, false, true, true, false, true] false (XCode.cond (XArg.tmp 49) (XCode.tr [false, true, false, false, false, true, true, false, true] false
  (XCode.region false [(XOper.mk (some 51) (XOp.mv (XArg.tmp 5)) none Cls.p), (XOper.mk (some 52) (XOp.call false [] (XArg.lit (AV.c (CV.fn 22 []))) [(XArg.tmp
  51)]) none Cls.w)])) (XCode.seq (XCode.tr [false, true, false, false, false, true, true, false, true, false, false, false, false, false, false, false, false,
  false, false, false, false, false, false, false, false, false, false, false, false, false, false, false, false, false, false, false, false, false, false,
  false, false, true, false, false, false, false, false, false, false, false, false, false, false, true] false (XCode.region false [(XOper.mk (some 54) (XOp.bin
  .eql (XArg.tmp 41) (XArg.lit (AV.c (CV.pv (PV.int .u8 1))))) none Cls.p), (XOper.mk (some 53) (XOp.mv (XArg.tmp 54)) none Cls.p)])) (XCode.tr [false, true,
  false, false, false, true, true, false, true] false (XCode.cond (XArg.tmp 53) (XCode.tr [false, true, false, false, false, true, true, false, true] false
  (XCode.region false [(XOper.mk (some 55) (XOp.mv (XArg.tmp 5)) none Cls.p), (XOper.mk (some 56) (XOp.call false [] (XArg.lit (AV.c (CV.fn 23 []))) [(XArg.tmp
  55)]) none Cls.w)])) (XCode.seq (XCode.tr [false, true, false, false, false, true, true, false, true, false, false, false, false, false, false, false, false,
  false, false, false, false, false, false, false, false, false, false, false, false, false, false, false, false, false, false, false, false, false, false,
  false, false, true, false, false, false, false, false, false, false, false, false, false, false, false, false, false, false, true] false (XCode.region false
  [(XOper.mk (some 58) (XOp.bin .eql (XArg.tmp 41) (XArg.lit (AV.c (CV.pv (PV.int .u8 2))))) none Cls.p), (XOper.mk (some 57) (XOp.mv (XArg.tmp 58)) none
  Cls.p)])) (XCode.tr [false, true, false, false, false, true, true, false, true] false (XCode.cond (XArg.tmp 57) (XCode.tr [false, true, false, false, false,
  true, true, false, true] false (XCode.region false [(XOper.mk (some 59) (XOp.mv (XArg.tmp 5)) none Cls.p), (XOper.mk (some 60) (XOp.mv (XArg.tmp 1)) none
  Cls.p), (XOper.mk (some 61) (XOp.mv (XArg.tmp 6)) none Cls.p), (XOper.mk (some 62) (XOp.iaddrS 2 (XArg.tmp 60) (XArg.tmp 61)) none Cls.p), (XOper.mk (some 63)
  (XOp.faddr 1 (XArg.tmp 62)) none Cls.p), (XOper.mk (some 64) (XOp.load false 1 (XArg.tmp 63)) none Cls.r), (XOper.mk (some 65) (XOp.call false [] (XArg.lit
  (AV.c (CV.fn 24 []))) [(XArg.tmp 59), (XArg.tmp 64)]) none Cls.w)])) (XCode.seq (XCode.tr [false, true, false, false, false, true, true, false, true, false,
  false, false, false, false, false, false, false, false, false, false, false, false, false, false, false, false, false, false, false, false, false, false,
  false, false, false, false, false, false, false, false, false, true, false, false, false, false, false, false, false, false, false, false, false, false,
  false, false, false, false, false, false, false, false, false, false, false, false, true] false (XCode.region false [(XOper.mk (some 67) (XOp.bin .eql
  (XArg.tmp 41) (XArg.lit (AV.c (CV.pv (PV.int .u8 3))))) none Cls.p), (XOper.mk (some 66) (XOp.mv (XArg.tmp 67)) none Cls.p)])) (XCode.tr [false, true, false,
  false, false, true, true, false, true] false (XCode.cond (XArg.tmp 66) (XCode.tr [false, true, false, false, false, true, true, false, true] false
  (XCode.region false [(XOper.mk (some 68) (XOp.mv (XArg.tmp 5)) none Cls.p), (XOper.mk (some 69) (XOp.call false [] (XArg.lit (AV.c (CV.fn 25 []))) [(XArg.tmp
  68)]) none Cls.w)])) (XCode.seq (XCode.tr [false, true, false, false, false, true, true, false, true, false, false, false, false, false, false, false, false,
  false, false, false, false, false, false, false, false, false, false, false, false, false, false, false, false, false, false, false, false, false, false,
  false, false, false, false, false, false, false, false, false, false, false, false, false, false, false, false, false, false, false, false, false, false,
  false, false, false, false, false, false, false, false, false, true] false (XCode.region false [(XOper.mk (some 71) (XOp.bin .eql (XArg.tmp 41) (XArg.lit
  (AV.c (CV.pv (PV.int .u8 4))))) none Cls.p), (XOper.mk (some 70) (XOp.mv (XArg.tmp 71)) none Cls.p)])) (XCode.tr [false, true, false, false, false, true,
  true, false, true] false (XCode.cond (XArg.tmp 70) (XCode.tr [false, true, false, false, false, true, true, false, true] false (XCode.region false [(XOper.mk
  (some 72) (XOp.mv (XArg.tmp 5)) none Cls.p), (XOper.mk (some 73) (XOp.call false [] (XArg.lit (AV.c (CV.fn 26 []))) [(XArg.tmp 72)]) none Cls.w)])) (XCode.tr
  [false, true, false, false, false, true, true, false, true] false (XCode.region false [(XOper.mk (some 42) (XOp.mv (XArg.tmp 5)) none Cls.p), (XOper.mk (some
  43) (XOp.mv (XArg.tmp 1)) none Cls.p), (XOper.mk (some 44) (XOp.mv (XArg.tmp 6)) none Cls.p), (XOper.mk (some 45) (XOp.iaddrS 2 (XArg.tmp 43) (XArg.tmp 44))
  none Cls.p), (XOper.mk (some 46) (XOp.faddr 1 (XArg.tmp 45)) none Cls.p), (XOper.mk (some 47) (XOp.load false 1 (XArg.tmp 46)) none Cls.r), (XOper.mk (some
  48) (XOp.call false [] (XArg.lit (AV.c (CV.fn 27 []))) [(XArg.tmp 42), (XArg.tmp 47)]) none Cls.w)])))))))))))))))))))) (XCode.seq (XCode.seq (XCode.tr
  [false, true, false, false, false, true, true, false, false, false, false, false, false, false, false, false, false, false, false, false, false, false, false,
  false, false, false, false, false, false, false, false, false, false, false, false, false, false, false, false, false, false, false, false, false, false,
  false, false, false, false, false, false, false, false, false, false, false, false, false, false, false, false, false, false, false, false, false, false,
  false, false, false, false, false, false, false, false, false, false, false, false, false, false, false, false, false, false, false, false, false, false,
  false, false, false, false, true] false (XCode.region false [(XOper.mk (some 74) (XOp.mv (XArg.tmp 5)) none Cls.p), (XOper.mk (some 75) (XOp.call false []
  (XArg.lit (AV.c (CV.fn 16 []))) [(XArg.tmp 74)]) none Cls.w), (XOper.mk (some 76) (XOp.bin .neq (XArg.tmp 75) (XArg.lit (AV.c (CV.pv (PV.int .i64 0))))) none
  Cls.p), (XOper.mk (some 77) (XOp.mv (XArg.tmp 76)) none Cls.p), (XOper.mk (some 78) (XOp.mv (XArg.tmp 5)) (some (77, true)) Cls.p), (XOper.mk (some 79)
  (XOp.call false [] (XArg.lit (AV.c (CV.fn 17 []))) [(XArg.tmp 78)]) (some (77, true)) Cls.w), (XOper.mk (some 80) (XOp.mv (XArg.tmp 8)) (some (77, true))
  Cls.p), (XOper.mk (some 81) (XOp.bin .neq (XArg.tmp 79) (XArg.tmp 80)) (some (77, true)) Cls.p), (XOper.mk (some 82) (XOp.pick (XArg.tmp 77) (XArg.tmp 81)
  (XArg.lit (AV.c (CV.pv (PV.bool false))))) none Cls.p), (XOper.mk (some 83) (XOp.mv (XArg.tmp 82)) none Cls.p), (XOper.mk (some 84) (XOp.mv (XArg.tmp 5))
  (some (83, false)) Cls.p), (XOper.mk (some 85) (XOp.call false [] (XArg.lit (AV.c (CV.fn 16 []))) [(XArg.tmp 84)]) (some (83, false)) Cls.w), (XOper.mk (some
  86) (XOp.bin .eql (XArg.tmp 85) (XArg.lit (AV.c (CV.pv (PV.int .i64 0))))) (some (83, false)) Cls.p), (XOper.mk (some 87) (XOp.mv (XArg.tmp 86)) (some (83,
  false)) Cls.p), (XOper.mk (some 88) (XOp.mv (XArg.tmp 5)) (some (87, true)) Cls.p), (XOper.mk (some 89) (XOp.call false [] (XArg.lit (AV.c (CV.fn 17 [])))
  [(XArg.tmp 88)]) (some (87, true)) Cls.w), (XOper.mk (some 90) (XOp.mv (XArg.tmp 8)) (some (87, true)) Cls.p), (XOper.mk (some 91) (XOp.bin .geq (XArg.tmp 89)
  (XArg.tmp 90)) (some (87, true)) Cls.p), (XOper.mk (some 92) (XOp.pick (XArg.tmp 87) (XArg.tmp 91) (XArg.lit (AV.c (CV.pv (PV.bool false))))) (some (83,
  false)) Cls.p), (XOper.mk (some 93) (XOp.pick (XArg.tmp 83) (XArg.lit (AV.c (CV.pv (PV.bool true)))) (XArg.tmp 92)) none Cls.p)])) (XCode.tr [false, true,
  false, false, true, true, true] false (XCode.cond (XArg.tmp 93) (XCode.seq (XCode.region false [(XOper.mk (some 4) (XOp.mv (XArg.lit (AV.c (CV.pv (PV.bool
  false))))) none Cls.p)]) (XCode.tr [false, false, false, false, true] false XCode.ret)) XCode.skip))) (XCode.tr [false, true, false, false, false, true, true]
  false (XCode.exit 1)))) XCode.skip))) (XCode.seq (XCode.tr [false, true, false, false, false, true, true, true, true, false, true] false (XCode.region false
  [(XOper.mk (some 94) (XOp.mv (XArg.tmp 5)) none Cls.p), (XOper.mk (some 95) (XOp.mv (XArg.tmp 9)) none Cls.p), (XOper.mk (some 96) (XOp.mv (XArg.tmp 1)) none
  Cls.p), (XOper.mk (some 97) (XOp.mv (XArg.tmp 6)) none Cls.p), (XOper.mk (some 98) (XOp.iaddrS 2 (XArg.tmp 96) (XArg.tmp 97)) none Cls.p), (XOper.mk (some 99)
  (XOp.load true 2 (XArg.tmp 98)) none Cls.r), (XOper.mk (some 100) (XOp.call false [] (XArg.lit (AV.c (CV.fn 20 []))) [(XArg.tmp 94), (XArg.tmp 95), (XArg.tmp
  99)]) none Cls.w), (XOper.mk (some 10) (XOp.mv (XArg.tmp 100)) none Cls.p)])) (XCode.seq (XCode.tr [false, true, false, false, false, true, true, false,
  false, false, false, false, false, false, false, false, false, false, false, false, false, false, false, false, false, false, false, false, false, false,
  false, false, false, false, false, false, false, false, false, false, false, false, false, false, false, false, false, false, false, false, false, false,
  false, false, false, false, false, false, false, false, false, false, false, false, false, false, false, false, false, false, false, false, false, false,
  false, false, false, false, false, false, false, false, false, false, false, false, false, false, false, false, false, false, false, false, false, false,
  false, false, false, false, false, false, false, false, false, false, false, false, false, false, false, false, false, false, false, false, false, false,
  false, false, true] false (XCode.region false [(XOper.mk (some 101) (XOp.mv (XArg.tmp 10)) none Cls.p), (XOper.mk (some 102) (XOp.un .not (XArg.tmp 101)) none
  Cls.p), (XOper.mk (some 103) (XOp.mv (XArg.tmp 102)) none Cls.p), (XOper.mk (some 104) (XOp.mv (XArg.tmp 5)) (some (103, false)) Cls.p), (XOper.mk (some 105)
  (XOp.call false [] (XArg.lit (AV.c (CV.fn 16 []))) [(XArg.tmp 104)]) (some (103, false)) Cls.w), (XOper.mk (some 106) (XOp.mv (XArg.tmp 7)) (some (103,
  false)) Cls.p), (XOper.mk (some 107) (XOp.bin .neq (XArg.tmp 105) (XArg.tmp 106)) (some (103, false)) Cls.p), (XOper.mk (some 108) (XOp.pick (XArg.tmp 103)
  (XArg.lit (AV.c (CV.pv (PV.bool true)))) (XArg.tmp 107)) none Cls.p), (XOper.mk (some 109) (XOp.mv (XArg.tmp 108)) none Cls.p), (XOper.mk (some 110) (XOp.mv
  (XArg.tmp 5)) (some (109, false)) Cls.p), (XOper.mk (some 111) (XOp.call false [] (XArg.lit (AV.c (CV.fn 17 []))) [(XArg.tmp 110)]) (some (109, false))
  Cls.w), (XOper.mk (some 112) (XOp.mv (XArg.tmp 8)) (some (109, false)) Cls.p), (XOper.mk (some 113) (XOp.bin .neq (XArg.tmp 111) (XArg.tmp 112)) (some (109,
  false)) Cls.p), (XOper.mk (some 114) (XOp.pick (XArg.tmp 109) (XArg.lit (AV.c (CV.pv (PV.bool true)))) (XArg.tmp 113)) none Cls.p), (XOper.mk (some 115)
  (XOp.mv (XArg.tmp 114)) none Cls.p), (XOper.mk (some 116) (XOp.mv (XArg.tmp 5)) (some (115, false)) Cls.p), (XOper.mk (some 117) (XOp.call false [] (XArg.lit
  (AV.c (CV.fn 18 []))) [(XArg.tmp 116)]) (some (115, false)) Cls.w), (XOper.mk (some 118) (XOp.mv (XArg.tmp 7)) (some (115, false)) Cls.p), (XOper.mk (some
  119) (XOp.bin .neq (XArg.tmp 117) (XArg.tmp 118)) (some (115, false)) Cls.p), (XOper.mk (some 120) (XOp.pick (XArg.tmp 115) (XArg.lit (AV.c (CV.pv (PV.bool
  true)))) (XArg.tmp 119)) none Cls.p)])) (XCode.tr [false, true, false, false, true, true, true] false (XCode.cond (XArg.tmp 120) (XCode.seq (XCode.region
  false [(XOper.mk (some 4) (XOp.mv (XArg.lit (AV.c (CV.pv (PV.bool false))))) none Cls.p)]) (XCode.tr [false, false, false, false, true] false XCode.ret))
  XCode.skip)))))))))) (XCode.tr [false, true, false, false, false, true, true] false (XCode.region false [(XOper.mk (some 26) (XOp.mv (XArg.tmp 6)) none
  Cls.p), (XOper.mk (some 27) (XOp.bin .add (XArg.tmp 26) (XArg.lit (AV.c (CV.pv (PV.int .i64 1))))) none Cls.p), (XOper.mk (some 6) (XOp.mv (XArg.tmp 27)) none
  Cls.p)]))))
def xf7 : XFunc :=
(XFunc.mk 122 [(XRes.tmp 4)] (XCode.seq (XCode.tr [true, true] false (XCode.region false [(XOper.mk (some 4) (XOp.mv (XArg.lit (AV.c (CV.pv (PV.bool false)))))
  none Cls.p)])) (XCode.seq (XCode.seq (XCode.tr [true, true, false, false, false, false, false, false, false, false, false, false, false, false, false, false,
  false, false, true] false (XCode.region false [(XOper.mk (some 11) (XOp.mv (XArg.tmp 1)) none Cls.p), (XOper.mk (some 12) (XOp.len (XArg.tmp 11)) none Cls.p),
  (XOper.mk (some 13) (XOp.bin .gtr (XArg.tmp 12) (XArg.lit (AV.c (CV.pv (PV.int .i64 60))))) none Cls.p), (XOper.mk (some 14) (XOp.mv (XArg.tmp 13)) none
  Cls.p), (XOper.mk (some 15) (XOp.mv (XArg.tmp 0)) (some (14, false)) Cls.p), (XOper.mk (some 16) (XOp.lenS (XArg.tmp 15)) (some (14, false)) Cls.p), (XOper.mk
  (some 17) (XOp.bin .gtr (XArg.tmp 16) (XArg.lit (AV.c (CV.pv (PV.int .i64 400))))) (some (14, false)) Cls.p), (XOper.mk (some 18) (XOp.pick (XArg.tmp 14)
  (XArg.lit (AV.c (CV.pv (PV.bool true)))) (XArg.tmp 17)) none Cls.p)])) (XCode.tr [true, true, false, false, true] false (XCode.cond (XArg.tmp 18) (XCode.seq
  (XCode.tr [false, false, false, false, true] false (XCode.region false [(XOper.mk (some 19) (XOp.call false [] (XArg.lit (AV.c (CV.fn 9 []))) []) none Cls.p),
  (XOper.mk (some 4) (XOp.mv (XArg.tmp 19)) none Cls.p)])) (XCode.tr [false, false, false, false, true] false XCode.ret)) XCode.skip))) (XCode.seq (XCode.tr
  [false, true, false, false, false, true] false (XCode.region false [(XOper.mk (some 20) (XOp.mv (XArg.tmp 0)) none Cls.p), (XOper.mk (some 21) (XOp.call false
  [] (XArg.lit (AV.c (CV.fn 14 []))) [(XArg.tmp 20)]) none Cls.w), (XOper.mk (some 5) (XOp.mv (XArg.tmp 21)) none Cls.p)])) (XCode.seq (XCode.seq (XCode.region
  false [(XOper.mk (some 6) (XOp.mv (XArg.lit (AV.c (CV.pv (PV.int .i64 0))))) none Cls.p)]) (XCode.tr [false, false, false, false, true] false (XCode.block 0
  (XCode.loop [false, true, false, false, false, true, true] xf7_l0)))) (XCode.seq (XCode.tr [false, false, false, false, true] false (XCode.region false
  [(XOper.mk (some 121) (XOp.call false [] (XArg.lit (AV.c (CV.fn 9 []))) []) none Cls.p), (XOper.mk (some 4) (XOp.mv (XArg.tmp 121)) none Cls.p)])) (XCode.tr
  [false, false, false, false, true] false XCode.ret)))))))
theorem xf7_ok : cmpFunc Go.Proofs.Try.prog 7 ((.two (.tr [true, true] false .no) (.two (.two (.tr [true, true, false, false, false, false, false, false, false, false, false, false, false, false, false, false, false, false, true] false .no) (.tr [true, true, false, false, true] false (.two (.two (.tr [false, false, false, false, true] false (.ops [{ cls := some .p }])) (.tr [false, false, false, false, true] false .no)) .no))) (.two (.tr [false, true, false, false, false, true] false .no) (.two (.two .no (.tr [false, false, false, false, true] false (.loop [false, true, false, false, false, true, true] (.two (.two (.tr [false, true, false, false, false, true, true, false, false, false, false, false, false, false, false, false, false, false, false, false, false, false, false, false, false, true] false .no) (.tr [false, true, false, false, false, true, true] false (.two .no (.tr [] false .no)))) (.two (.tr [false, true, false, false, true, true, true] false (.two (.tr [false, true, false, false, false, true, true, true] false .no) (.two (.tr [false, true, false, false, false, true, true, true, true] false .no) (.two (.tr [false, true, false, false, false, true, true, true, true, true] false .no) (.two (.two (.tr [false, true, false, false, false, true, true, true, true, true, false, false, false, false, false, false, false, false, false, false, false, false, false, false, false, false, false, false, false, false, false, false, false, false, false, true] false .no) (.tr [false, true, false, false, true, true, true, true, true, true] false (.two (.two (.two (.tr [false, true, false, false, false, true, true, false, true, false, false, false, false, false, false, false, false, false, false, false, false, false, false, false, false, false, false, false, false, false, false, false, false, false, false, false, false, false, false, false, false, true] false .no) (.tr [false, true, false, false, false, true, true, false, true] false (.two (.tr [false, true, false, false, false, true, true, false, true, false, false, false, false, false, false, false, false, false, false, false, false, false, false, false, false, false, false, false, false, false, false, false, false, false, false, false, false, false, false, false, false, true, false, false, false, false, false, false, false, true] false .no) (.tr [false, true, false, false, false, true, true, false, true] false (.two (.tr [false, true, false, false, false, true, true, false, true] false .no) (.two (.tr [false, true, false, false, false, true, true, false, true, false, false, false, false, false, false, false, false, false, false, false, false, false, false, false, false, false, false, false, false, false, false, false, false, false, false, false, false, false, false, false, false, true, false, false, false, false, false, false, false, false, false, false, false, true] false .no) (.tr [false, true, false, false, false, true, true, false, true] false (.two (.tr [false, true, false, false, false, true, true, false, true] false .no) (.two (.tr [false, true, false, false, false, true, true, false, true, false, false, false, false, false, false, false, false, false, false, false, false, false, false, false, false, false, false, false, false, false, false, false, false, false, false, false, false, false, false, false, false, true, false, false, false, false, false, false, false, false, false, false, false, false, false, false, false, true] false .no) (.tr [false, true, false, false, false, true, true, false, true] false (.two (.tr [false, true, false, false, false, true, true, false, true] false .no) (.two (.tr [false, true, false, false, false, true, true, false, true, false, false, false, false, false, false, false, false, false, false, false, false, false, false, false, false, false, false, false, false, false, false, false, false, false, false, false, false, false, false, false, false, true, false, false, false, false, false, false, false, false, false, false, false, false, false, false, false, false, false, false, false, false, false, false, false, false, true] false .no) (.tr [false, true, false, false, false, true, true, false, true] false (.two (.tr [false, true, false, false, false, true, true, false, true] false .no) (.two (.tr [false, true, false, false, false, true, true, false, true, false, false, false, false, false, false, false, false, false, false, false, false, false, false, false, false, false, false, false, false, false, false, false, false, false, false, false, false, false, false, false, false, false, false, false, false, false, false, false, false, false, false, false, false, false, false, false, false, false, false, false, false, false, false, false, false, false, false, false, false, false, true] false .no) (.tr [false, true, false, false, false, true, true, false, true] false (.two (.tr [false, true, false, false, false, true, true, false, true] false .no) (.tr [false, true, false, false, false, true, true, false, true] false .no)))))))))))))))))) (.two (.two (.tr [false, true, false, false, false, true, true, false, false, false, false, false, false, false, false, false, false, false, false, false, false, false, false, false, false, false, false, false, false, false, false, false, false, false, false, false, false, false, false, false, false, false, false, false, false, false, false, false, false, false, false, false, false, false, false, false, false, false, false, false, false, false, false, false, false, false, false, false, false, false, false, false, false, false, false, false, false, false, false, false, false, false, false, false, false, false, false, false, false, false, false, false, false, true] false .no) (.tr [false, true, false, false, true, true, true] false (.two (.two .no (.tr [false, false, false, false, true] false .no)) .no))) (.tr [false, true, false, false, false, true, true] false .no))) .no))) (.two (.tr [false, true, false, false, false, true, true, true, true, false, true] false .no) (.two (.tr [false, true, false, false, false, true, true, false, false, false, false, false, false, false, false, false, false, false, false, false, false, false, false, false, false, false, false, false, false, false, false, false, false, false, false, false, false, false, false, false, false, false, false, false, false, false, false, false, false, false, false, false, false, false, false, false, false, false, false, false, false, false, false, false, false, false, false, false, false, false, false, false, false, false, false, false, false, false, false, false, false, false, false, false, false, false, false, false, false, false, false, false, false, false, false, false, false, false, false, false, false, false, false, false, false, false, false, false, false, false, false, false, false, false, false, false, false, false, false, false, true] false .no) (.tr [false, true, false, false, true, true, true] false (.two (.two .no (.tr [false, false, false, false, true] false .no)) .no))))))))) (.tr [false, true, false, false, false, true, true] false .no)))))) (.two (.tr [false, false, false, false, true] false (.ops [{ cls := some .p }])) (.tr [false, false, false, false, true] false .no))))))) = some xf7 := by kernel_rfl
def xf8_l0 : XCode :=
(XCode.seq (XCode.seq (XCode.tr [true, false, false, true, false, false, false, false, false, false, true] false (XCode.region false [(XOper.mk (some 7) (XOp.mv
  (XArg.tmp 3)) none Cls.p), (XOper.mk (some 8) (XOp.mv (XArg.tmp 0)) none Cls.p), (XOper.mk (some 9) (XOp.len (XArg.tmp 8)) none Cls.p), (XOper.mk (some 10)
  (XOp.bin .lss (XArg.tmp 7) (XArg.tmp 9)) none Cls.p)])) (XCode.tr [true, false, false, true] false (XCode.cond (XArg.tmp 10) XCode.skip (XCode.tr [] false
  (XCode.exit 0))))) (XCode.seq (XCode.tr [true, false, true, true] false (XCode.block 1 (XCode.seq (XCode.tr [true, false, false, true, false, false, false,
  false, false, false, false, false, false, false, false, false, false, false, false, true] false (XCode.region false [(XOper.mk (some 13) (XOp.mv (XArg.tmp 0))
  none Cls.p), (XOper.mk (some 14) (XOp.mv (XArg.tmp 3)) none Cls.p), (XOper.mk (some 15) (XOp.iaddrS 6 (XArg.tmp 13) (XArg.tmp 14)) none Cls.p), (XOper.mk
  (some 16) (XOp.faddr 3 (XArg.tmp 15)) none Cls.p), (XOper.mk (some 17) (XOp.load false 1 (XArg.tmp 16)) none Cls.r), (XOper.mk (some 18) (XOp.lenS (XArg.tmp
  17)) none Cls.p), (XOper.mk (some 19) (XOp.bin .gtr (XArg.tmp 18) (XArg.lit (AV.c (CV.pv (PV.int .i64 400))))) none Cls.p)])) (XCode.tr [true, false, true,
  true] false (XCode.cond (XArg.tmp 19) (XCode.seq (XCode.region false [(XOper.mk (some 2) (XOp.mv (XArg.lit (AV.c (CV.pv (PV.bool false))))) none Cls.p)])
  (XCode.tr [false, false, true] false XCode.ret)) XCode.skip))))) (XCode.tr [true, false, false, true] false (XCode.region false [(XOper.mk (some 11) (XOp.mv
  (XArg.tmp 3)) none Cls.p), (XOper.mk (some 12) (XOp.bin .add (XArg.tmp 11) (XArg.lit (AV.c (CV.pv (PV.int .i64 1))))) none Cls.p), (XOper.mk (some 3) (XOp.mv
  (XArg.tmp 12)) none Cls.p)]))))
def xf8 : XFunc :=
(XFunc.mk 20 [(XRes.tmp 2)] (XCode.seq (XCode.tr [true] false (XCode.region false [(XOper.mk (some 2) (XOp.mv (XArg.lit (AV.c (CV.pv (PV.bool false))))) none
  Cls.p)])) (XCode.seq (XCode.seq (XCode.tr [true, false, false, false, false, false, true] false (XCode.region false [(XOper.mk (some 4) (XOp.mv (XArg.tmp 0))
  none Cls.p), (XOper.mk (some 5) (XOp.len (XArg.tmp 4)) none Cls.p), (XOper.mk (some 6) (XOp.bin .gtr (XArg.tmp 5) (XArg.lit (AV.c (CV.pv (PV.int .i64 60)))))
  none Cls.p)])) (XCode.tr [true, false, true] false (XCode.cond (XArg.tmp 6) (XCode.seq (XCode.region false [(XOper.mk (some 2) (XOp.mv (XArg.lit (AV.c (CV.pv
  (PV.bool false))))) none Cls.p)]) (XCode.tr [false, false, true] false XCode.ret)) XCode.skip))) (XCode.seq (XCode.seq (XCode.region false [(XOper.mk (some 3)
  (XOp.mv (XArg.lit (AV.c (CV.pv (PV.int .i64 0))))) none Cls.p)]) (XCode.tr [false, false, true] false (XCode.block 0 (XCode.loop [true, false, false, true]
  xf8_l0)))) (XCode.seq (XCode.region false [(XOper.mk (some 2) (XOp.mv (XArg.lit (AV.c (CV.pv (PV.bool true))))) none Cls.p)]) (XCode.tr [false, false, true]
  false XCode.ret))))))
theorem xf8_ok : cmpFunc Go.Proofs.Try.prog 8 ((.two (.tr [true] false .no) (.two (.two (.tr [true, false, false, false, false, false, true] false .no) (.tr [true, false, true] false (.two (.two .no (.tr [false, false, true] false .no)) .no))) (.two (.two .no (.tr [false, false, true] false (.loop [true, false, false, true] (.two (.two (.tr [true, false, false, true, false, false, false, false, false, false, true] false .no) (.tr [true, false, false, true] false (.two .no (.tr [] false .no)))) (.two (.tr [true, false, true, true] false (.two (.tr [true, false, false, true, false, false, false, false, false, false, false, false, false, false, false, false, false, false, false, true] false .no) (.tr [true, false, true, true] false (.two (.two .no (.tr [false, false, true] false .no)) .no)))) (.tr [true, false, false, true] false .no)))))) (.two .no (.tr [false, false, true] false .no)))))) = some xf8 := by kernel_rfl
def xf9 : XFunc :=
(XFunc.mk 109 [(XRes.tmp 0)] (XCode.seq (XCode.tr [] false (XCode.region false [(XOper.mk (some 0) (XOp.mv (XArg.lit (AV.c (CV.pv (PV.bool false))))) none
  Cls.p)])) (XCode.seq (XCode.tr [false, true] false (XCode.region false [(XOper.mk (some 13) (XOp.call false [] (XArg.lit (AV.c (CV.fn 10 []))) []) none
  Cls.w), (XOper.mk (some 1) (XOp.mv (XArg.tmp 13)) none Cls.p)])) (XCode.seq (XCode.tr [false, true] false (XCode.region false [(XOper.mk (some 14) (XOp.mv
  (XArg.tmp 1)) none Cls.p), (XOper.mk (some 15) (XOp.call false [] (XArg.lit (AV.c (CV.fn 28 []))) [(XArg.tmp 14), (XArg.lit (AV.c (CV.pv (PV.int .u64
  300))))]) none Cls.w)])) (XCode.seq (XCode.tr [false, true] false (XCode.region false [(XOper.mk (some 16) (XOp.mv (XArg.tmp 1)) none Cls.p), (XOper.mk (some
  17) (XOp.call false [] (XArg.lit (AV.c (CV.fn 29 []))) [(XArg.tmp 16), (XArg.lit (AV.c (CV.pv (PV.int .i64 (-3)))))]) none Cls.w)])) (XCode.seq (XCode.tr
  [false, true] false (XCode.region false [(XOper.mk (some 18) (XOp.mv (XArg.tmp 1)) none Cls.p), (XOper.mk (some 19) (XOp.call false [] (XArg.lit (AV.c (CV.fn
  30 []))) [(XArg.tmp 18), (XArg.lit (AV.c (CV.pv (PV.str [97, 98]))))]) none Cls.w)])) (XCode.seq (XCode.tr [false, true] false (XCode.region false [(XOper.mk
  (some 20) (XOp.mv (XArg.tmp 1)) none Cls.p), (XOper.mk (some 21) (XOp.call false [] (XArg.lit (AV.c (CV.fn 31 []))) [(XArg.tmp 20), (XArg.lit (AV.c (CV.pv
  (PV.bool true))))]) none Cls.w)])) (XCode.seq (XCode.tr [false, true] false (XCode.region false [(XOper.mk (some 22) (XOp.mv (XArg.tmp 1)) none Cls.p),
  (XOper.mk (some 23) (XOp.build [(CV.pv (PV.int .i64 0)), (CV.pv (PV.int .i64 0))] [(0, (1, (XArg.lit (AV.c (CV.pv (PV.int .i64 2)))))), (1, (1, (XArg.lit
  (AV.c (CV.pv (PV.int .i64 (-1)))))))]) none Cls.p), (XOper.mk (some 24) (XOp.call false [] (XArg.lit (AV.c (CV.fn 32 []))) [(XArg.tmp 22), (XArg.tmp 23)])
  none Cls.w)])) (XCode.seq (XCode.tr [false, false, true] false (XCode.region false [(XOper.mk (some 25) (XOp.mv (XArg.tmp 1)) none Cls.p), (XOper.mk (some 26)
  (XOp.call false [] (XArg.lit (AV.c (CV.fn 13 []))) [(XArg.tmp 25)]) none Cls.w), (XOper.mk (some 2) (XOp.mv (XArg.tmp 26)) none Cls.p)])) (XCode.seq (XCode.tr
  [false, false, true, true] false (XCode.region false [(XOper.mk (some 27) (XOp.mv (XArg.tmp 2)) none Cls.p), (XOper.mk (some 28) (XOp.call false [] (XArg.lit
  (AV.c (CV.fn 14 []))) [(XArg.tmp 27)]) none Cls.w), (XOper.mk (some 3) (XOp.mv (XArg.tmp 28)) none Cls.p)])) (XCode.seq (XCode.tr [false, false, true, true,
  true] false (XCode.region false [(XOper.mk (some 29) (XOp.mv (XArg.tmp 3)) none Cls.p), (XOper.mk (some 30) (XOp.call false [] (XArg.lit (AV.c (CV.fn 22 [])))
  [(XArg.tmp 29)]) none Cls.w), (XOper.mk (some 4) (XOp.mv (XArg.tmp 30)) none Cls.p)])) (XCode.seq (XCode.tr [false, false, true, true, true, true] false
  (XCode.region false [(XOper.mk (some 31) (XOp.mv (XArg.tmp 3)) none Cls.p), (XOper.mk (some 32) (XOp.call false [] (XArg.lit (AV.c (CV.fn 23 []))) [(XArg.tmp
  31)]) none Cls.w), (XOper.mk (some 5) (XOp.mv (XArg.tmp 32)) none Cls.p)])) (XCode.seq (XCode.tr [false, false, true, true, true, true, true] false
  (XCode.region false [(XOper.mk (some 33) (XOp.mv (XArg.tmp 3)) none Cls.p), (XOper.mk (some 34) (XOp.call false [] (XArg.lit (AV.c (CV.fn 24 []))) [(XArg.tmp
  33), (XArg.lit (AV.c (CV.pv (PV.int .i64 2))))]) none Cls.w), (XOper.mk (some 6) (XOp.mv (XArg.tmp 34)) none Cls.p)])) (XCode.seq (XCode.tr [false, false,
  true, true, true, true, true, true] false (XCode.region false [(XOper.mk (some 35) (XOp.mv (XArg.tmp 3)) none Cls.p), (XOper.mk (some 36) (XOp.call false []
  (XArg.lit (AV.c (CV.fn 25 []))) [(XArg.tmp 35)]) none Cls.w), (XOper.mk (some 7) (XOp.mv (XArg.tmp 36)) none Cls.p)])) (XCode.seq (XCode.tr [false, false,
  true, true, true, true, true, true, true] false (XCode.region false [(XOper.mk (some 37) (XOp.mv (XArg.tmp 3)) none Cls.p), (XOper.mk (some 38) (XOp.call
  false [] (XArg.lit (AV.c (CV.fn 26 []))) [(XArg.tmp 37)]) none Cls.w), (XOper.mk (some 8) (XOp.alloc [(CV.pv (PV.int .i64 0)), (CV.pv (PV.int .i64 0))]) none
  Cls.w), (XOper.mk none (XOp.store 2 (XArg.tmp 8) (XArg.tmp 38)) none Cls.w)])) (XCode.seq (XCode.tr [false, false, true, true, true, true, true, true, true,
  true] false (XCode.region false [(XOper.mk (some 39) (XOp.mv (XArg.tmp 3)) none Cls.p), (XOper.mk (some 40) (XOp.call false [] (XArg.lit (AV.c (CV.fn 18 [])))
  [(XArg.tmp 39)]) none Cls.w), (XOper.mk (some 9) (XOp.mv (XArg.tmp 40)) none Cls.p)])) (XCode.seq (XCode.tr [false, false, true, true, true, true, true, true,
  true, true, true] false (XCode.region false [(XOper.mk (some 41) (XOp.buildSl [(CV.pv (PV.int .u8 0))] 2 1 [(0, (1, (XArg.lit (AV.c (CV.pv (PV.int .u8
  128)))))), (1, (1, (XArg.lit (AV.c (CV.pv (PV.int .u8 0))))))]) none Cls.p), (XOper.mk (some 42) (XOp.bytesS (XArg.tmp 41)) none Cls.p), (XOper.mk (some 43)
  (XOp.call false [] (XArg.lit (AV.c (CV.fn 14 []))) [(XArg.tmp 42)]) none Cls.w), (XOper.mk (some 10) (XOp.mv (XArg.tmp 43)) none Cls.p)])) (XCode.seq
  (XCode.tr [false, false, true, true, true, true, true, true, true, true, true] false (XCode.region false [(XOper.mk (some 44) (XOp.mv (XArg.tmp 10)) none
  Cls.p), (XOper.mk (some 45) (XOp.call false [] (XArg.lit (AV.c (CV.fn 22 []))) [(XArg.tmp 44)]) none Cls.w)])) (XCode.seq (XCode.tr [false, false, true, true,
  true, true, true, true, true, true, true, true] false (XCode.region false [(XOper.mk (some 46) (XOp.buildSl [(CV.pv (PV.int .u8 0))] 2 1 [(0, (1, (XArg.lit
  (AV.c (CV.pv (PV.int .u8 3)))))), (1, (1, (XArg.lit (AV.c (CV.pv (PV.int .u8 65))))))]) none Cls.p), (XOper.mk (some 47) (XOp.bytesS (XArg.tmp 46)) none
  Cls.p), (XOper.mk (some 48) (XOp.call false [] (XArg.lit (AV.c (CV.fn 14 []))) [(XArg.tmp 47)]) none Cls.w), (XOper.mk (some 11) (XOp.mv (XArg.tmp 48)) none
  Cls.p)])) (XCode.seq (XCode.tr [false, false, true, true, true, true, true, true, true, true, true, true] false (XCode.region false [(XOper.mk (some 49)
  (XOp.mv (XArg.tmp 11)) none Cls.p), (XOper.mk (some 50) (XOp.call false [] (XArg.lit (AV.c (CV.fn 24 []))) [(XArg.tmp 49), (XArg.lit (AV.c (CV.pv (PV.int .i64
  9))))]) none Cls.w)])) (XCode.seq (XCode.tr [false, false, true, true, true, true, true, true, true, true, true, true, true] false (XCode.region false
  [(XOper.mk (some 51) (XOp.buildSl [(CV.pv (PV.int .u8 0))] 2 1 [(0, (1, (XArg.lit (AV.c (CV.pv (PV.int .u8 3)))))), (1, (1, (XArg.lit (AV.c (CV.pv (PV.int .u8
  65))))))]) none Cls.p), (XOper.mk (some 52) (XOp.bytesS (XArg.tmp 51)) none Cls.p), (XOper.mk (some 53) (XOp.call false [] (XArg.lit (AV.c (CV.fn 14 [])))
  [(XArg.tmp 52)]) none Cls.w), (XOper.mk (some 12) (XOp.mv (XArg.tmp 53)) none Cls.p)])) (XCode.seq (XCode.tr [false, false, true, true, true, true, true,
  true, true, true, true, true, true] false (XCode.region false [(XOper.mk (some 54) (XOp.mv (XArg.tmp 12)) none Cls.p), (XOper.mk (some 55) (XOp.call false []
  (XArg.lit (AV.c (CV.fn 24 []))) [(XArg.tmp 54), (XArg.lit (AV.c (CV.pv (PV.int .i64 2))))]) none Cls.w)])) (XCode.seq (XCode.tr [true] false (XCode.region
  false [(XOper.mk (some 56) (XOp.mv (XArg.tmp 2)) none Cls.p), (XOper.mk (some 57) (XOp.buildSl [(CV.pv (PV.int .u8 0))] 9 1 [(0, (1, (XArg.lit (AV.c (CV.pv
  (PV.int .u8 172)))))), (1, (1, (XArg.lit (AV.c (CV.pv (PV.int .u8 2)))))), (2, (1, (XArg.lit (AV.c (CV.pv (PV.int .u8 5)))))), (3, (1, (XArg.lit (AV.c (CV.pv
  (PV.int .u8 2)))))), (4, (1, (XArg.lit (AV.c (CV.pv (PV.int .u8 97)))))), (5, (1, (XArg.lit (AV.c (CV.pv (PV.int .u8 98)))))), (6, (1, (XArg.lit (AV.c (CV.pv
  (PV.int .u8 1)))))), (7, (1, (XArg.lit (AV.c (CV.pv (PV.int .u8 4)))))), (8, (1, (XArg.lit (AV.c (CV.pv (PV.int .u8 1))))))]) none Cls.p), (XOper.mk (some 58)
  (XOp.bytesS (XArg.tmp 57)) none Cls.p), (XOper.mk (some 59) (XOp.bin .eql (XArg.tmp 56) (XArg.tmp 58)) none Cls.p), (XOper.mk (some 60) (XOp.mv (XArg.tmp 59))
  none Cls.p), (XOper.mk (some 61) (XOp.mv (XArg.tmp 4)) (some (60, true)) Cls.p), (XOper.mk (some 62) (XOp.bin .eql (XArg.tmp 61) (XArg.lit (AV.c (CV.pv
  (PV.int .u64 300))))) (some (60, true)) Cls.p), (XOper.mk (some 63) (XOp.pick (XArg.tmp 60) (XArg.tmp 62) (XArg.lit (AV.c (CV.pv (PV.bool false))))) none
  Cls.p), (XOper.mk (some 64) (XOp.mv (XArg.tmp 63)) none Cls.p), (XOper.mk (some 65) (XOp.mv (XArg.tmp 5)) (some (64, true)) Cls.p), (XOper.mk (some 66)
  (XOp.bin .eql (XArg.tmp 65) (XArg.lit (AV.c (CV.pv (PV.int .i64 (-3)))))) (some (64, true)) Cls.p), (XOper.mk (some 67) (XOp.pick (XArg.tmp 64) (XArg.tmp 66)
  (XArg.lit (AV.c (CV.pv (PV.bool false))))) none Cls.p), (XOper.mk (some 68) (XOp.mv (XArg.tmp 67)) none Cls.p), (XOper.mk (some 69) (XOp.mv (XArg.tmp 6))
  (some (68, true)) Cls.p), (XOper.mk (some 70) (XOp.bin .eql (XArg.tmp 69) (XArg.lit (AV.c (CV.pv (PV.str [97, 98]))))) (some (68, true)) Cls.p), (XOper.mk
  (some 71) (XOp.pick (XArg.tmp 68) (XArg.tmp 70) (XArg.lit (AV.c (CV.pv (PV.bool false))))) none Cls.p), (XOper.mk (some 72) (XOp.mv (XArg.tmp 71)) none
  Cls.p), (XOper.mk (some 73) (XOp.mv (XArg.tmp 7)) (some (72, true)) Cls.p), (XOper.mk (some 74) (XOp.pick (XArg.tmp 72) (XArg.tmp 73) (XArg.lit (AV.c (CV.pv
  (PV.bool false))))) none Cls.p), (XOper.mk (some 75) (XOp.mv (XArg.tmp 74)) none Cls.p), (XOper.mk (some 76) (XOp.load true 2 (XArg.tmp 8)) (some (75, true))
  Cls.r), (XOper.mk (some 77) (XOp.build [(CV.pv (PV.int .i64 0)), (CV.pv (PV.int .i64 0))] [(0, (1, (XArg.lit (AV.c (CV.pv (PV.int .i64 2)))))), (1, (1,
  (XArg.lit (AV.c (CV.pv (PV.int .i64 (-1)))))))]) (some (75, true)) Cls.p), (XOper.mk (some 78) (XOp.eqA false [0, 0] (XArg.tmp 76) (XArg.tmp 77)) (some (75,
  true)) Cls.p), (XOper.mk (some 79) (XOp.pick (XArg.tmp 75) (XArg.tmp 78) (XArg.lit (AV.c (CV.pv (PV.bool false))))) none Cls.p), (XOper.mk (some 80) (XOp.mv
  (XArg.tmp 79)) none Cls.p), (XOper.mk (some 81) (XOp.mv (XArg.tmp 9)) (some (80, true)) Cls.p), (XOper.mk (some 82) (XOp.bin .eql (XArg.tmp 81) (XArg.lit
  (AV.c (CV.pv (PV.int .i64 0))))) (some (80, true)) Cls.p), (XOper.mk (some 83) (XOp.pick (XArg.tmp 80) (XArg.tmp 82) (XArg.lit (AV.c (CV.pv (PV.bool
  false))))) none Cls.p), (XOper.mk (some 84) (XOp.mv (XArg.tmp 83)) none Cls.p), (XOper.mk (some 85) (XOp.mv (XArg.tmp 3)) (some (84, true)) Cls.p), (XOper.mk
  (some 86) (XOp.call false [] (XArg.lit (AV.c (CV.fn 17 []))) [(XArg.tmp 85)]) (some (84, true)) Cls.w), (XOper.mk (some 87) (XOp.bin .eql (XArg.tmp 86)
  (XArg.lit (AV.c (CV.pv (PV.int .i64 0))))) (some (84, true)) Cls.p), (XOper.mk (some 88) (XOp.pick (XArg.tmp 84) (XArg.tmp 87) (XArg.lit (AV.c (CV.pv (PV.bool
  false))))) none Cls.p), (XOper.mk (some 89) (XOp.mv (XArg.tmp 88)) none Cls.p), (XOper.mk (some 90) (XOp.mv (XArg.tmp 10)) (some (89, true)) Cls.p), (XOper.mk
  (some 91) (XOp.call false [] (XArg.lit (AV.c (CV.fn 16 []))) [(XArg.tmp 90)]) (some (89, true)) Cls.w), (XOper.mk (some 92) (XOp.bin .eql (XArg.tmp 91)
  (XArg.lit (AV.c (CV.pv (PV.int .i64 3))))) (some (89, true)) Cls.p), (XOper.mk (some 93) (XOp.pick (XArg.tmp 89) (XArg.tmp 92) (XArg.lit (AV.c (CV.pv (PV.bool
  false))))) none Cls.p), (XOper.mk (some 94) (XOp.mv (XArg.tmp 93)) none Cls.p), (XOper.mk (some 95) (XOp.mv (XArg.tmp 11)) (some (94, true)) Cls.p), (XOper.mk
  (some 96) (XOp.call false [] (XArg.lit (AV.c (CV.fn 16 []))) [(XArg.tmp 95)]) (some (94, true)) Cls.w), (XOper.mk (some 97) (XOp.bin .eql (XArg.tmp 96)
  (XArg.lit (AV.c (CV.pv (PV.int .i64 2))))) (some (94, true)) Cls.p), (XOper.mk (some 98) (XOp.pick (XArg.tmp 94) (XArg.tmp 97) (XArg.lit (AV.c (CV.pv (PV.bool
  false))))) none Cls.p), (XOper.mk (some 99) (XOp.mv (XArg.tmp 98)) none Cls.p), (XOper.mk (some 100) (XOp.mv (XArg.tmp 12)) (some (99, true)) Cls.p),
  (XOper.mk (some 101) (XOp.call false [] (XArg.lit (AV.c (CV.fn 16 []))) [(XArg.tmp 100)]) (some (99, true)) Cls.w), (XOper.mk (some 102) (XOp.bin .eql
  (XArg.tmp 101) (XArg.lit (AV.c (CV.pv (PV.int .i64 4))))) (some (99, true)) Cls.p), (XOper.mk (some 103) (XOp.pick (XArg.tmp 99) (XArg.tmp 102) (XArg.lit
  (AV.c (CV.pv (PV.bool false))))) none Cls.p), (XOper.mk (some 104) (XOp.mv (XArg.tmp 103)) none Cls.p), (XOper.mk (some 105) (XOp.mv (XArg.tmp 12)) (some
  (104, true)) Cls.p), (XOper.mk (some 106) (XOp.call false [] (XArg.lit (AV.c (CV.fn 17 []))) [(XArg.tmp 105)]) (some (104, true)) Cls.w), (XOper.mk (some 107)
  (XOp.bin .eql (XArg.tmp 106) (XArg.lit (AV.c (CV.pv (PV.int .i64 2))))) (some (104, true)) Cls.p), (XOper.mk (some 108) (XOp.pick (XArg.tmp 104) (XArg.tmp
  107) (XArg.lit (AV.c (CV.pv (PV.bool false))))) none Cls.p), (XOper.mk (some 0) (XOp.mv (XArg.tmp 108)) none Cls.p)])) (XCode.tr [true] false
  XCode.ret))))))))))))))))))))))))
theorem xf9_ok : cmpFunc Go.Proofs.Try.prog 9 ((.two (.tr [] false .no) (.two (.tr [false, true] false .no) (.two (.tr [false, true] false .no) (.two (.tr [false, true] false .no) (.two (.tr [false, true] false .no) (.two (.tr [false, true] false .no) (.two (.tr [false, true] false .no) (.two (.tr [false, false, true] false .no) (.two (.tr [false, false, true, true] false .no) (.two (.tr [false, false, true, true, true] false .no) (.two (.tr [false, false, true, true, true, true] false .no) (.two (.tr [false, false, true, true, true, true, true] false .no) (.two (.tr [false, false, true, true, true, true, true, true] false .no) (.two (.tr [false, false, true, true, true, true, true, true, true] false .no) (.two (.tr [false, false, true, true, true, true, true, true, true, true] false .no) (.two (.tr [false, false, true, true, true, true, true, true, true, true, true] false .no) (.two (.tr [false, false, true, true, true, true, true, true, true, true, true] false .no) (.two (.tr [false, false, true, true, true, true, true, true, true, true, true, true] false .no) (.two (.tr [false, false, true, true, true, true, true, true, true, true, true, true] false .no) (.two (.tr [false, false, true, true, true, true, true, true, true, true, true, true, true] false .no) (.two (.tr [false, false, true, true, true, true, true, true, true, true, true, true, true] false .no) (.two (.tr [true] false .no) (.tr [true] false .no)))))))))))))))))))))))) = some xf9 := by kernel_rfl
def xf10 : XFunc :=
(XFunc.mk 3 [(XRes.tmp 0)] (XCode.seq (XCode.tr [] false (XCode.region false [(XOper.mk (some 0) (XOp.mv (XArg.lit (AV.c CV.nilp))) none Cls.p)])) (XCode.seq
  (XCode.tr [true] false (XCode.region false [(XOper.mk (some 1) (XOp.build [(CV.pv (PV.sl SO.nil 0 []))] []) none Cls.p), (XOper.mk (some 2) (XOp.box (XArg.tmp
  1) 1) none Cls.w), (XOper.mk (some 0) (XOp.mv (XArg.tmp 2)) none Cls.p)])) (XCode.tr [true] false XCode.ret))))
theorem xf10_ok : cmpFunc Go.Proofs.Try.prog 10 ((.two (.tr [] false .no) (.two (.tr [true] false .no) (.tr [true] false .no)))) = some xf10 := by kernel_rfl
def xf11 : XFunc :=
(XFunc.mk 39 [] (XCode.seq (XCode.tr [true, false, false, true] false (XCode.region false [(XOper.mk (some 3) (XOp.box (XArg.tmp 1) 6) none Cls.w)])) (XCode.seq
  (XCode.tr [true, false, false, true, false, false, true] false (XCode.region false [(XOper.mk (some 4) (XOp.faddr 0 (XArg.tmp 3)) none Cls.p), (XOper.mk (some
  5) (XOp.load false 1 (XArg.tmp 4)) none Cls.r), (XOper.mk (some 6) (XOp.bin .rem (XArg.tmp 5) (XArg.lit (AV.c (CV.pv (PV.int .u8 5))))) none Cls.p)]))
  (XCode.tr [] false (XCode.block 0 (XCode.seq (XCode.tr [true, false, false, true, false, false, true, true] false (XCode.region false [(XOper.mk (some 8)
  (XOp.bin .eql (XArg.tmp 6) (XArg.lit (AV.c (CV.pv (PV.int .u8 0))))) none Cls.p), (XOper.mk (some 7) (XOp.mv (XArg.tmp 8)) none Cls.p)])) (XCode.tr [] false
  (XCode.cond (XArg.tmp 7) (XCode.tr [] false (XCode.region false [(XOper.mk (some 9) (XOp.mv (XArg.tmp 0)) none Cls.p), (XOper.mk (some 10) (XOp.faddr 1
  (XArg.tmp 3)) none Cls.p), (XOper.mk (some 11) (XOp.load false 1 (XArg.tmp 10)) none Cls.r), (XOper.mk (some 12) (XOp.call false [] (XArg.lit (AV.c (CV.fn 28
  []))) [(XArg.tmp 9), (XArg.tmp 11)]) none Cls.w)])) (XCode.seq (XCode.tr [true, false, false, true, false, false, true, false, false, false, false, false,
  false, true] false (XCode.region false [(XOper.mk (some 14) (XOp.bin .eql (XArg.tmp 6) (XArg.lit (AV.c (CV.pv (PV.int .u8 1))))) none Cls.p), (XOper.mk (some
  13) (XOp.mv (XArg.tmp 14)) none Cls.p)])) (XCode.tr [] false (XCode.cond (XArg.tmp 13) (XCode.tr [] false (XCode.region false [(XOper.mk (some 15) (XOp.mv
  (XArg.tmp 0)) none Cls.p), (XOper.mk (some 16) (XOp.faddr 2 (XArg.tmp 3)) none Cls.p), (XOper.mk (some 17) (XOp.load false 1 (XArg.tmp 16)) none Cls.r),
  (XOper.mk (some 18) (XOp.call false [] (XArg.lit (AV.c (CV.fn 29 []))) [(XArg.tmp 15), (XArg.tmp 17)]) none Cls.w)])) (XCode.seq (XCode.tr [true, false,
  false, true, false, false, true, false, false, false, false, false, false, false, false, false, false, false, false, true] false (XCode.region false
  [(XOper.mk (some 20) (XOp.bin .eql (XArg.tmp 6) (XArg.lit (AV.c (CV.pv (PV.int .u8 2))))) none Cls.p), (XOper.mk (some 19) (XOp.mv (XArg.tmp 20)) none
  Cls.p)])) (XCode.tr [] false (XCode.cond (XArg.tmp 19) (XCode.tr [] false (XCode.region false [(XOper.mk (some 21) (XOp.mv (XArg.tmp 0)) none Cls.p),
  (XOper.mk (some 22) (XOp.faddr 3 (XArg.tmp 3)) none Cls.p), (XOper.mk (some 23) (XOp.load false 1 (XArg.tmp 22)) none Cls.r), (XOper.mk (some 24) (XOp.call
  false [] (XArg.lit (AV.c (CV.fn 30 []))) [(XArg.tmp 21), (XArg.tmp 23)]) none Cls.w)])) (XCode.seq (XCode.tr [true, false, false, true, false, false, true,
  false, false, false, false, false, false, false, false, false, false, false, false, false, false, false, false, false, false, true] false (XCode.region false
  [(XOper.mk (some 26) (XOp.bin .eql (XArg.tmp 6) (XArg.lit (AV.c (CV.pv (PV.int .u8 3))))) none Cls.p), (XOper.mk (some 25) (XOp.mv (XArg.tmp 26)) none
  Cls.p)])) (XCode.tr [] false (XCode.cond (XArg.tmp 25) (XCode.tr [] false (XCode.region false [(XOper.mk (some 27) (XOp.mv (XArg.tmp 0)) none Cls.p),
  (XOper.mk (some 28) (XOp.faddr 1 (XArg.tmp 3)) none Cls.p), (XOper.mk (some 29) (XOp.load false 1 (XArg.tmp 28)) none Cls.r), (XOper.mk (some 30) (XOp.bin
  .rem (XArg.tmp 29) (XArg.lit (AV.c (CV.pv (PV.int .u64 2))))) none Cls.p), (XOper.mk (some 31) (XOp.bin .eql (XArg.tmp 30) (XArg.lit (AV.c (CV.pv (PV.int .u64
  1))))) none Cls.p), (XOper.mk (some 32) (XOp.call false [] (XArg.lit (AV.c (CV.fn 31 []))) [(XArg.tmp 27), (XArg.tmp 31)]) none Cls.w)])) (XCode.seq (XCode.tr
  [true, false, false, true, false, false, false, false, false, false, false, false, false, false, false, false, false, false, false, false, false, false,
  false, false, false, false, false, false, false, false, false, false, false, true] false (XCode.region false [(XOper.mk (some 34) (XOp.bin .eql (XArg.tmp 6)
  (XArg.lit (AV.c (CV.pv (PV.int .u8 4))))) none Cls.p), (XOper.mk (some 33) (XOp.mv (XArg.tmp 34)) none Cls.p)])) (XCode.tr [] false (XCode.cond (XArg.tmp 33)
  (XCode.tr [] false (XCode.region false [(XOper.mk (some 35) (XOp.mv (XArg.tmp 0)) none Cls.p), (XOper.mk (some 36) (XOp.faddr 4 (XArg.tmp 3)) none Cls.p),
  (XOper.mk (some 37) (XOp.load true 2 (XArg.tmp 36)) none Cls.r), (XOper.mk (some 38) (XOp.call false [] (XArg.lit (AV.c (CV.fn 32 []))) [(XArg.tmp 35),
  (XArg.tmp 37)]) none Cls.w)])) XCode.skip))))))))))))))))))))
theorem xf11_ok : cmpFunc Go.Proofs.Try.prog 11 ((.two (.tr [true, false, false, true] false .no) (.two (.tr [true, false, false, true, false, false, true] false .no) (.tr [] false (.two (.tr [true, false, false, true, false, false, true, true] false .no) (.tr [] false (.two (.tr [] false .no) (.two (.tr [true, false, false, true, false, false, true, false, false, false, false, false, false, true] false .no) (.tr [] false (.two (.tr [] false .no) (.two (.tr [true, false, false, true, false, false, true, false, false, false, false, false, false, false, false, false, false, false, false, true] false .no) (.tr [] false (.two (.tr [] false .no) (.two (.tr [true, false, false, true, false, false, true, false, false, false, false, false, false, false, false, false, false, false, false, false, false, false, false, false, false, true] false .no) (.tr [] false (.two (.tr [] false .no) (.two (.tr [true, false, false, true, false, false, false, false, false, false, false, false, false, false, false, false, false, false, false, false, false, false, false, false, false, false, false, false, false, false, false, false, false, true] false .no) (.tr [] false (.two (.tr [] false .no) .no))))))))))))))))))) = some xf11 := by kernel_rfl
def xf12 : XFunc :=
(XFunc.mk 32 [(XRes.tmp 2)] (XCode.seq (XCode.tr [false, true] false (XCode.region false [(XOper.mk (some 1) (XOp.box (XArg.tmp 0) 6) none Cls.w), (XOper.mk
  (some 2) (XOp.mv (XArg.lit (AV.c (CV.pv (PV.sl SO.nil 0 []))))) none Cls.p)])) (XCode.seq (XCode.seq (XCode.tr [false, true, false, false, false, true] false
  (XCode.region false [(XOper.mk (some 3) (XOp.faddr 0 (XArg.tmp 1)) none Cls.p), (XOper.mk (some 4) (XOp.load false 1 (XArg.tmp 3)) none Cls.r), (XOper.mk
  (some 5) (XOp.bin .rem (XArg.tmp 4) (XArg.lit (AV.c (CV.pv (PV.int .u8 5))))) none Cls.p)])) (XCode.tr [false, true, true] false (XCode.block 0 (XCode.seq
  (XCode.tr [false, true, false, false, false, true, true] false (XCode.region false [(XOper.mk (some 7) (XOp.bin .eql (XArg.tmp 5) (XArg.lit (AV.c (CV.pv
  (PV.int .u8 0))))) none Cls.p), (XOper.mk (some 6) (XOp.mv (XArg.tmp 7)) none Cls.p)])) (XCode.tr [false, true, true] false (XCode.cond (XArg.tmp 6)
  (XCode.seq (XCode.tr [false, false, true] false (XCode.region false [(XOper.mk (some 8) (XOp.faddr 1 (XArg.tmp 1)) none Cls.p), (XOper.mk (some 9) (XOp.load
  false 1 (XArg.tmp 8)) none Cls.r), (XOper.mk (some 10) (XOp.call false [] (XArg.lit (AV.c (CV.fn 33 []))) [(XArg.tmp 9)]) none Cls.p), (XOper.mk (some 2)
  (XOp.mv (XArg.tmp 10)) none Cls.p)])) (XCode.tr [false, false, true] false XCode.ret)) (XCode.seq (XCode.tr [false, true, false, false, false, true, false,
  false, false, false, false, true] false (XCode.region false [(XOper.mk (some 12) (XOp.bin .eql (XArg.tmp 5) (XArg.lit (AV.c (CV.pv (PV.int .u8 1))))) none
  Cls.p), (XOper.mk (some 11) (XOp.mv (XArg.tmp 12)) none Cls.p)])) (XCode.tr [false, true, true] false (XCode.cond (XArg.tmp 11) (XCode.seq (XCode.tr [false,
  false, true] false (XCode.region false [(XOper.mk (some 13) (XOp.faddr 2 (XArg.tmp 1)) none Cls.p), (XOper.mk (some 14) (XOp.load false 1 (XArg.tmp 13)) none
  Cls.r), (XOper.mk (some 15) (XOp.call false [] (XArg.lit (AV.c (CV.fn 34 []))) [(XArg.tmp 14)]) none Cls.p), (XOper.mk (some 16) (XOp.call false [] (XArg.lit
  (AV.c (CV.fn 33 []))) [(XArg.tmp 15)]) none Cls.p), (XOper.mk (some 2) (XOp.mv (XArg.tmp 16)) none Cls.p)])) (XCode.tr [false, false, true] false XCode.ret))
  (XCode.seq (XCode.tr [false, true, false, false, false, true, false, false, false, false, false, false, false, false, false, false, false, true] false
  (XCode.region false [(XOper.mk (some 18) (XOp.bin .eql (XArg.tmp 5) (XArg.lit (AV.c (CV.pv (PV.int .u8 2))))) none Cls.p), (XOper.mk (some 17) (XOp.mv
  (XArg.tmp 18)) none Cls.p)])) (XCode.tr [false, true, true] false (XCode.cond (XArg.tmp 17) (XCode.seq (XCode.tr [false, false, true] false (XCode.region
  false [(XOper.mk (some 19) (XOp.faddr 3 (XArg.tmp 1)) none Cls.p), (XOper.mk (some 20) (XOp.load false 1 (XArg.tmp 19)) none Cls.r), (XOper.mk (some 21)
  (XOp.call false [] (XArg.lit (AV.c (CV.fn 35 []))) [(XArg.tmp 20)]) none Cls.p), (XOper.mk (some 2) (XOp.mv (XArg.tmp 21)) none Cls.p)])) (XCode.tr [false,
  false, true] false XCode.ret)) (XCode.seq (XCode.tr [false, true, false, false, false, false, false, false, false, false, false, false, false, false, false,
  false, false, false, false, false, false, false, true] false (XCode.region false [(XOper.mk (some 23) (XOp.bin .eql (XArg.tmp 5) (XArg.lit (AV.c (CV.pv
  (PV.int .u8 3))))) none Cls.p), (XOper.mk (some 22) (XOp.mv (XArg.tmp 23)) none Cls.p)])) (XCode.tr [false, true, true] false (XCode.cond (XArg.tmp 22)
  (XCode.seq (XCode.tr [false, false, true] false (XCode.region false [(XOper.mk (some 24) (XOp.faddr 1 (XArg.tmp 1)) none Cls.p), (XOper.mk (some 25) (XOp.load
  false 1 (XArg.tmp 24)) none Cls.r), (XOper.mk (some 26) (XOp.bin .rem (XArg.tmp 25) (XArg.lit (AV.c (CV.pv (PV.int .u64 2))))) none Cls.p), (XOper.mk (some
  27) (XOp.convI .u8 (XArg.tmp 26)) none Cls.p), (XOper.mk (some 28) (XOp.buildSl [(CV.pv (PV.int .u8 0))] 1 1 [(0, (1, (XArg.tmp 27)))]) none Cls.p), (XOper.mk
  (some 2) (XOp.mv (XArg.tmp 28)) none Cls.p)])) (XCode.tr [false, false, true] false XCode.ret)) XCode.skip))))))))))))))) (XCode.seq (XCode.tr [false, false,
  true] false (XCode.region false [(XOper.mk (some 29) (XOp.faddr 4 (XArg.tmp 1)) none Cls.p), (XOper.mk (some 30) (XOp.load true 2 (XArg.tmp 29)) none Cls.r),
  (XOper.mk (some 31) (XOp.call false [] (XArg.lit (AV.c (CV.fn 36 []))) [(XArg.tmp 30)]) none Cls.p), (XOper.mk (some 2) (XOp.mv (XArg.tmp 31)) none Cls.p)]))
  (XCode.tr [false, false, true] false XCode.ret)))))
theorem xf12_ok : cmpFunc Go.Proofs.Try.prog 12 ((.two (.tr [false, true] false .no) (.two (.two (.tr [false, true, false, false, false, true] false .no) (.tr [false, true, true] false (.two (.tr [false, true, false, false, false, true, true] false .no) (.tr [false, true, true] false (.two (.two (.tr [false, false, true] false (.ops [{}, {}, { cls := some .p }])) (.tr [false, false, true] false .no)) (.two (.tr [false, true, false, false, false, true, false, false, false, false, false, true] false .no) (.tr [false, true, true] false (.two (.two (.tr [false, false, true] false (.ops [{}, {}, { cls := some .p }, { cls := some .p }])) (.tr [false, false, true] false .no)) (.two (.tr [false, true, false, false, false, true, false, false, false, false, false, false, false, false, false, false, false, true] false .no) (.tr [false, true, true] false (.two (.two (.tr [false, false, true] false (.ops [{}, {}, { cls := some .p }])) (.tr [false, false, true] false .no)) (.two (.tr [false, true, false, false, false, false, false, false, false, false, false, false, false, false, false, false, false, false, false, false, false, false, true] false .no) (.tr [false, true, true] false (.two (.two (.tr [false, false, true] false .no) (.tr [false, false, true] false .no)) .no)))))))))))))) (.two (.tr [false, false, true] false (.ops [{}, {}, { cls := some .p }])) (.tr [false, false, true] false .no))))) = some xf12 := by kernel_rfl
def xf13 : XFunc :=
(XFunc.mk 10 [(XRes.tmp 2)] (XCode.seq (XCode.tr [true] false (XCode.region false [(XOper.mk (some 2) (XOp.mv (XArg.lit (AV.c (CV.pv (PV.str []))))) none
  Cls.p)])) (XCode.seq (XCode.seq (XCode.tr [true, false, false, false, true] false (XCode.region false [(XOper.mk (some 3) (XOp.mv (XArg.tmp 0)) none Cls.p),
  (XOper.mk (some 4) (XOp.eqN 1 false (XArg.tmp 3) (XArg.lit (AV.c CV.nilp))) none Cls.p)])) (XCode.tr [true, false, true] false (XCode.cond (XArg.tmp 4)
  (XCode.seq (XCode.region false [(XOper.mk (some 2) (XOp.mv (XArg.lit (AV.c (CV.pv (PV.str []))))) none Cls.p)]) (XCode.tr [false, false, true] false
  XCode.ret)) XCode.skip))) (XCode.seq (XCode.tr [false, false, true] false (XCode.region false [(XOper.mk (some 5) (XOp.mv (XArg.tmp 0)) none Cls.p), (XOper.mk
  (some 6) (XOp.nilc (XArg.tmp 5)) none Cls.p), (XOper.mk (some 7) (XOp.faddr 0 (XArg.tmp 6)) none Cls.p), (XOper.mk (some 8) (XOp.load false 1 (XArg.tmp 7))
  none Cls.r), (XOper.mk (some 9) (XOp.bytesS (XArg.tmp 8)) none Cls.p), (XOper.mk (some 2) (XOp.mv (XArg.tmp 9)) none Cls.p)])) (XCode.tr [false, false, true]
  false XCode.ret)))))
theorem xf13_ok : cmpFunc Go.Proofs.Try.prog 13 ((.two (.tr [true] false .no) (.two (.two (.tr [true, false, false, false, true] false .no) (.tr [true, false, true] false (.two (.two .no (.tr [false, false, true] false .no)) .no))) (.two (.tr [false, false, true] false .no) (.tr [false, false, true] false .no))))) = some xf13 := by kernel_rfl
def xf14 : XFunc :=
(XFunc.mk 6 [(XRes.tmp 2)] (XCode.seq (XCode.tr [true] false (XCode.region false [(XOper.mk (some 2) (XOp.mv (XArg.lit (AV.c CV.nilp))) none Cls.p)]))
  (XCode.seq (XCode.tr [false, false, true] false (XCode.region false [(XOper.mk (some 3) (XOp.mv (XArg.tmp 0)) none Cls.p), (XOper.mk (some 4) (XOp.build
  [(CV.pv (PV.str [])), (CV.pv (PV.int .i64 0))] [(0, (1, (XArg.tmp 3)))]) none Cls.p), (XOper.mk (some 5) (XOp.box (XArg.tmp 4) 2) none Cls.w), (XOper.mk (some
  2) (XOp.mv (XArg.tmp 5)) none Cls.p)])) (XCode.tr [false, false, true] false XCode.ret))))
theorem xf14_ok : cmpFunc Go.Proofs.Try.prog 14 ((.two (.tr [true] false .no) (.two (.tr [false, false, true] false .no) (.tr [false, false, true] false .no)))) = some xf14 := by kernel_rfl
def xf15 : XFunc :=
(XFunc.mk 46 [(XRes.tmp 4)] (XCode.seq (XCode.tr [true, false, false, true] false (XCode.region false [(XOper.mk (some 3) (XOp.box (XArg.tmp 1) 6) none Cls.w),
  (XOper.mk (some 4) (XOp.mv (XArg.lit (AV.c (CV.pv (PV.bool false))))) none Cls.p)])) (XCode.seq (XCode.seq (XCode.tr [true, false, false, true, false, false,
  false, true] false (XCode.region false [(XOper.mk (some 5) (XOp.faddr 0 (XArg.tmp 3)) none Cls.p), (XOper.mk (some 6) (XOp.load false 1 (XArg.tmp 5)) none
  Cls.r), (XOper.mk (some 7) (XOp.bin .rem (XArg.tmp 6) (XArg.lit (AV.c (CV.pv (PV.int .u8 5))))) none Cls.p)])) (XCode.tr [true, false, false, true, true]
  false (XCode.block 0 (XCode.seq (XCode.tr [true, false, false, true, false, false, false, true, true] false (XCode.region false [(XOper.mk (some 9) (XOp.bin
  .eql (XArg.tmp 7) (XArg.lit (AV.c (CV.pv (PV.int .u8 0))))) none Cls.p), (XOper.mk (some 8) (XOp.mv (XArg.tmp 9)) none Cls.p)])) (XCode.tr [true, false,
  false, true, true] false (XCode.cond (XArg.tmp 8) (XCode.seq (XCode.tr [false, false, false, false, true] false (XCode.region true [(XOper.mk (some 10)
  (XOp.mv (XArg.tmp 0)) none Cls.p), (XOper.mk (some 12) (XOp.faddr 1 (XArg.tmp 3)) none Cls.p), (XOper.mk (some 13) (XOp.loadR false 1 (XArg.tmp 12) (XArg.tmp
  3)) none Cls.r), (XOper.mk (some 11) (XOp.call false [(XArg.tmp 3)] (XArg.lit (AV.c (CV.fn 22 []))) [(XArg.tmp 10)]) none Cls.w), (XOper.mk (some 14) (XOp.bin
  .eql (XArg.tmp 11) (XArg.tmp 13)) none Cls.p), (XOper.mk (some 4) (XOp.mv (XArg.tmp 14)) none Cls.p)])) (XCode.tr [false, false, false, false, true] false
  XCode.ret)) (XCode.seq (XCode.tr [true, false, false, true, false, false, false, true, false, false, false, false, false, false, false, true] false
  (XCode.region false [(XOper.mk (some 16) (XOp.bin .eql (XArg.tmp 7) (XArg.lit (AV.c (CV.pv (PV.int .u8 1))))) none Cls.p), (XOper.mk (some 15) (XOp.mv
  (XArg.tmp 16)) none Cls.p)])) (XCode.tr [true, false, false, true, true] false (XCode.cond (XArg.tmp 15) (XCode.seq (XCode.tr [false, false, false, false,
  true] false (XCode.region true [(XOper.mk (some 17) (XOp.mv (XArg.tmp 0)) none Cls.p), (XOper.mk (some 19) (XOp.faddr 2 (XArg.tmp 3)) none Cls.p), (XOper.mk
  (some 20) (XOp.loadR false 1 (XArg.tmp 19) (XArg.tmp 3)) none Cls.r), (XOper.mk (some 18) (XOp.call false [(XArg.tmp 3)] (XArg.lit (AV.c (CV.fn 23 [])))
  [(XArg.tmp 17)]) none Cls.w), (XOper.mk (some 21) (XOp.bin .eql (XArg.tmp 18) (XArg.tmp 20)) none Cls.p), (XOper.mk (some 4) (XOp.mv (XArg.tmp 21)) none
  Cls.p)])) (XCode.tr [false, false, false, false, true] false XCode.ret)) (XCode.seq (XCode.tr [true, false, false, true, false, false, false, true, false,
  false, false, false, false, false, false, false, false, false, false, false, false, false, true] false (XCode.region false [(XOper.mk (some 23) (XOp.bin .eql
  (XArg.tmp 7) (XArg.lit (AV.c (CV.pv (PV.int .u8 2))))) none Cls.p), (XOper.mk (some 22) (XOp.mv (XArg.tmp 23)) none Cls.p)])) (XCode.tr [true, false, false,
  true, true] false (XCode.cond (XArg.tmp 22) (XCode.seq (XCode.tr [false, false, false, false, true] false (XCode.region true [(XOper.mk (some 24) (XOp.mv
  (XArg.tmp 0)) none Cls.p), (XOper.mk (some 25) (XOp.faddr 3 (XArg.tmp 3)) none Cls.p), (XOper.mk (some 26) (XOp.load false 1 (XArg.tmp 25)) none Cls.r),
  (XOper.mk (some 27) (XOp.lenS (XArg.tmp 26)) none Cls.p), (XOper.mk (some 29) (XOp.faddr 3 (XArg.tmp 3)) none Cls.p), (XOper.mk (some 30) (XOp.loadR false 1
  (XArg.tmp 29) (XArg.tmp 3)) none Cls.r), (XOper.mk (some 28) (XOp.call false [(XArg.tmp 3)] (XArg.lit (AV.c (CV.fn 24 []))) [(XArg.tmp 24), (XArg.tmp 27)])
  none Cls.w), (XOper.mk (some 31) (XOp.bin .eql (XArg.tmp 28) (XArg.tmp 30)) none Cls.p), (XOper.mk (some 4) (XOp.mv (XArg.tmp 31)) none Cls.p)])) (XCode.tr
  [false, false, false, false, true] false XCode.ret)) (XCode.seq (XCode.tr [true, false, false, true, false, false, false, false, false, false, false, false,
  false, false, false, false, false, false, false, false, false, false, false, false, false, false, false, false, false, false, false, false, true] false
  (XCode.region false [(XOper.mk (some 33) (XOp.bin .eql (XArg.tmp 7) (XArg.lit (AV.c (CV.pv (PV.int .u8 3))))) none Cls.p), (XOper.mk (some 32) (XOp.mv
  (XArg.tmp 33)) none Cls.p)])) (XCode.tr [true, false, false, true, true] false (XCode.cond (XArg.tmp 32) (XCode.seq (XCode.tr [false, false, false, false,
  true] false (XCode.region true [(XOper.mk (some 34) (XOp.mv (XArg.tmp 0)) none Cls.p), (XOper.mk (some 36) (XOp.faddr 1 (XArg.tmp 3)) none Cls.p), (XOper.mk
  (some 37) (XOp.loadR false 1 (XArg.tmp 36) (XArg.tmp 3)) none Cls.r), (XOper.mk (some 38) (XOp.bin .rem (XArg.tmp 37) (XArg.lit (AV.c (CV.pv (PV.int .u64
  2))))) none Cls.p), (XOper.mk (some 39) (XOp.bin .eql (XArg.tmp 38) (XArg.lit (AV.c (CV.pv (PV.int .u64 1))))) none Cls.p), (XOper.mk (some 35) (XOp.call
  false [(XArg.tmp 3)] (XArg.lit (AV.c (CV.fn 25 []))) [(XArg.tmp 34)]) none Cls.w), (XOper.mk (some 40) (XOp.eqB false (XArg.tmp 35) (XArg.tmp 39)) none
  Cls.p), (XOper.mk (some 4) (XOp.mv (XArg.tmp 40)) none Cls.p)])) (XCode.tr [false, false, false, false, true] false XCode.ret)) XCode.skip)))))))))))))))
  (XCode.seq (XCode.tr [false, false, false, false, true] false (XCode.region true [(XOper.mk (some 41) (XOp.mv (XArg.tmp 0)) none Cls.p), (XOper.mk (some 43)
  (XOp.faddr 4 (XArg.tmp 3)) none Cls.p), (XOper.mk (some 44) (XOp.loadR true 2 (XArg.tmp 43) (XArg.tmp 3)) none Cls.r), (XOper.mk (some 42) (XOp.call false
  [(XArg.tmp 3)] (XArg.lit (AV.c (CV.fn 26 []))) [(XArg.tmp 41)]) none Cls.w), (XOper.mk (some 45) (XOp.eqA false [0, 0] (XArg.tmp 42) (XArg.tmp 44)) none
  Cls.p), (XOper.mk (some 4) (XOp.mv (XArg.tmp 45)) none Cls.p)])) (XCode.tr [false, false, false, false, true] false XCode.ret)))))
theorem xf15_ok : cmpFunc Go.Proofs.Try.prog 15 ((.two (.tr [true, false, false, true] false .no) (.two (.two (.tr [true, false, false, true, false, false, false, true] false .no) (.tr [true, false, false, true, true] false (.two (.tr [true, false, false, true, false, false, false, true, true] false .no) (.tr [true, false, false, true, true] false (.two (.two (.tr [false, false, false, false, true] false (.draw [0, 2, 3, 1, 4, 5] [{}, { ap := [3] }, {}, { root := some 3 }])) (.tr [false, false, false, false, true] false .no)) (.two (.tr [true, false, false, true, false, false, false, true, false, false, false, false, false, false, false, true] false .no) (.tr [true, false, false, true, true] false (.two (.two (.tr [false, false, false, false, true] false (.draw [0, 2, 3, 1, 4, 5] [{}, { ap := [3] }, {}, { root := some 3 }])) (.tr [false, false, false, false, true] false .no)) (.two (.tr [true, false, false, true, false, false, false, true, false, false, false, false, false, false, false, false, false, false, false, false, false, false, true] false .no) (.tr [true, false, false, true, true] false (.two (.two (.tr [false, false, false, false, true] false (.draw [0, 1, 2, 3, 5, 6, 4, 7, 8] [{}, {}, {}, {}, { ap := [3] }, {}, { root := some 3 }])) (.tr [false, false, false, false, true] false .no)) (.two (.tr [true, false, false, true, false, false, false, false, false, false, false, false, false, false, false, false, false, false, false, false, false, false, false, false, false, false, false, false, false, false, false, false, true] false .no) (.tr [true, false, false, true, true] false (.two (.two (.tr [false, false, false, false, true] false (.draw [0, 2, 3, 4, 5, 1, 6, 7] [{}, { ap := [3] }, {}, { root := some 3 }])) (.tr [false, false, false, false, true] false .no)) .no)))))))))))))) (.two (.tr [false, false, false, false, true] false (.draw [0, 2, 3, 1, 4, 5] [{}, { ap := [3] }, {}, { root := some 3 }])) (.tr [false, false, false, false, true] false .no))))) = some xf15 := by kernel_rfl
def xf16 : XFunc :=
(XFunc.mk 9 [(XRes.tmp 2)] (XCode.seq (XCode.tr [true] false (XCode.region false [(XOper.mk (some 2) (XOp.mv (XArg.lit (AV.c (CV.pv (PV.int .i64 0))))) none
  Cls.p)])) (XCode.seq (XCode.seq (XCode.tr [true, false, false, false, true] false (XCode.region false [(XOper.mk (some 3) (XOp.mv (XArg.tmp 0)) none Cls.p),
  (XOper.mk (some 4) (XOp.eqN 1 false (XArg.tmp 3) (XArg.lit (AV.c CV.nilp))) none Cls.p)])) (XCode.tr [true, false, true] false (XCode.cond (XArg.tmp 4)
  (XCode.seq (XCode.region false [(XOper.mk (some 2) (XOp.mv (XArg.lit (AV.c (CV.pv (PV.int .i64 1))))) none Cls.p)]) (XCode.tr [false, false, true] false
  XCode.ret)) XCode.skip))) (XCode.seq (XCode.tr [false, false, true] false (XCode.region false [(XOper.mk (some 5) (XOp.mv (XArg.tmp 0)) none Cls.p), (XOper.mk
  (some 6) (XOp.nilc (XArg.tmp 5)) none Cls.p), (XOper.mk (some 7) (XOp.faddr 1 (XArg.tmp 6)) none Cls.p), (XOper.mk (some 8) (XOp.load false 1 (XArg.tmp 7))
  none Cls.r), (XOper.mk (some 2) (XOp.mv (XArg.tmp 8)) none Cls.p)])) (XCode.tr [false, false, true] false XCode.ret)))))
theorem xf16_ok : cmpFunc Go.Proofs.Try.prog 16 ((.two (.tr [true] false .no) (.two (.two (.tr [true, false, false, false, true] false .no) (.tr [true, false, true] false (.two (.two .no (.tr [false, false, true] false .no)) .no))) (.two (.tr [false, false, true] false .no) (.tr [false, false, true] false .no))))) = some xf16 := by kernel_rfl
def xf17 : XFunc :=
(XFunc.mk 10 [(XRes.tmp 2)] (XCode.seq (XCode.tr [true] false (XCode.region false [(XOper.mk (some 2) (XOp.mv (XArg.lit (AV.c (CV.pv (PV.int .i64 0))))) none
  Cls.p)])) (XCode.seq (XCode.seq (XCode.tr [true, false, false, false, true] false (XCode.region false [(XOper.mk (some 3) (XOp.mv (XArg.tmp 0)) none Cls.p),
  (XOper.mk (some 4) (XOp.eqN 1 false (XArg.tmp 3) (XArg.lit (AV.c CV.nilp))) none Cls.p)])) (XCode.tr [true, false, true] false (XCode.cond (XArg.tmp 4)
  (XCode.seq (XCode.region false [(XOper.mk (some 2) (XOp.mv (XArg.lit (AV.c (CV.pv (PV.int .i64 0))))) none Cls.p)]) (XCode.tr [false, false, true] false
  XCode.ret)) XCode.skip))) (XCode.seq (XCode.tr [false, false, true] false (XCode.region false [(XOper.mk (some 5) (XOp.mv (XArg.tmp 0)) none Cls.p), (XOper.mk
  (some 6) (XOp.nilc (XArg.tmp 5)) none Cls.p), (XOper.mk (some 7) (XOp.faddr 0 (XArg.tmp 6)) none Cls.p), (XOper.mk (some 8) (XOp.load false 1 (XArg.tmp 7))
  none Cls.r), (XOper.mk (some 9) (XOp.lenS (XArg.tmp 8)) none Cls.p), (XOper.mk (some 2) (XOp.mv (XArg.tmp 9)) none Cls.p)])) (XCode.tr [false, false, true]
  false XCode.ret)))))
theorem xf17_ok : cmpFunc Go.Proofs.Try.prog 17 ((.two (.tr [true] false .no) (.two (.two (.tr [true, false, false, false, true] false .no) (.tr [true, false, true] false (.two (.two .no (.tr [false, false, true] false .no)) .no))) (.two (.tr [false, false, true] false .no) (.tr [false, false, true] false .no))))) = some xf17 := by kernel_rfl
def xf18 : XFunc :=
(XFunc.mk 15 [(XRes.tmp 2)] (XCode.seq (XCode.tr [true] false (XCode.region false [(XOper.mk (some 2) (XOp.mv (XArg.lit (AV.c (CV.pv (PV.int .i64 0))))) none
  Cls.p)])) (XCode.seq (XCode.seq (XCode.tr [true, false, false, true] false (XCode.region false [(XOper.mk (some 4) (XOp.mv (XArg.tmp 0)) none Cls.p),
  (XOper.mk (some 5) (XOp.call false [] (XArg.lit (AV.c (CV.fn 16 []))) [(XArg.tmp 4)]) none Cls.w), (XOper.mk (some 3) (XOp.mv (XArg.tmp 5)) none Cls.p)]))
  (XCode.seq (XCode.tr [true, false, false, true, false, false, false, true] false (XCode.region false [(XOper.mk (some 6) (XOp.mv (XArg.tmp 3)) none Cls.p),
  (XOper.mk (some 7) (XOp.bin .neq (XArg.tmp 6) (XArg.lit (AV.c (CV.pv (PV.int .i64 0))))) none Cls.p)])) (XCode.tr [true, false, true] false (XCode.cond
  (XArg.tmp 7) (XCode.seq (XCode.tr [false, false, true] false (XCode.region false [(XOper.mk (some 8) (XOp.mv (XArg.tmp 3)) none Cls.p), (XOper.mk (some 2)
  (XOp.mv (XArg.tmp 8)) none Cls.p)])) (XCode.tr [false, false, true] false XCode.ret)) XCode.skip)))) (XCode.seq (XCode.seq (XCode.tr [false, false, false,
  false, false, false, false, false, false, false, false, false, false, false, true] false (XCode.region false [(XOper.mk (some 9) (XOp.mv (XArg.tmp 0)) none
  Cls.p), (XOper.mk (some 10) (XOp.nilc (XArg.tmp 9)) none Cls.p), (XOper.mk (some 11) (XOp.faddr 0 (XArg.tmp 10)) none Cls.p), (XOper.mk (some 12) (XOp.load
  false 1 (XArg.tmp 11)) none Cls.r), (XOper.mk (some 13) (XOp.lenS (XArg.tmp 12)) none Cls.p), (XOper.mk (some 14) (XOp.bin .gtr (XArg.tmp 13) (XArg.lit (AV.c
  (CV.pv (PV.int .i64 0))))) none Cls.p)])) (XCode.tr [false, false, true] false (XCode.cond (XArg.tmp 14) (XCode.seq (XCode.region false [(XOper.mk (some 2)
  (XOp.mv (XArg.lit (AV.c (CV.pv (PV.int .i64 3))))) none Cls.p)]) (XCode.tr [false, false, true] false XCode.ret)) XCode.skip))) (XCode.seq (XCode.region false
  [(XOper.mk (some 2) (XOp.mv (XArg.lit (AV.c (CV.pv (PV.int .i64 0))))) none Cls.p)]) (XCode.tr [false, false, true] false XCode.ret))))))
theorem xf18_ok : cmpFunc Go.Proofs.Try.prog 18 ((.two (.tr [true] false .no) (.two (.two (.tr [true, false, false, true] false .no) (.two (.tr [true, false, false, true, false, false, false, true] false .no) (.tr [true, false, true] false (.two (.two (.tr [false, false, true] false .no) (.tr [false, false, true] false .no)) .no)))) (.two (.two (.tr [false, false, false, false, false, false, false, false, false, false, false, false, false, false, true] false .no) (.tr [false, false, true] false (.two (.two .no (.tr [false, false, true] false .no)) .no))) (.two .no (.tr [false, false, true] false .no)))))) = some xf18 := by kernel_rfl
def xf19 : XFunc :=
(XFunc.mk 63 [(XRes.tmp 4), (XRes.tmp 5), (XRes.tmp 6)] (XCode.seq (XCode.tr [true, true] false (XCode.region false [(XOper.mk (some 4) (XOp.mv (XArg.lit (AV.c
  (CV.pv (PV.str []))))) none Cls.p), (XOper.mk (some 5) (XOp.mv (XArg.lit (AV.c (CV.pv (PV.int .i64 0))))) none Cls.p), (XOper.mk (some 6) (XOp.mv (XArg.lit
  (AV.c (CV.pv (PV.int .i64 0))))) none Cls.p)])) (XCode.seq (XCode.tr [true, true, false, false, false, false, false, true] false (XCode.region false
  [(XOper.mk (some 10) (XOp.mv (XArg.tmp 0)) none Cls.p), (XOper.mk (some 11) (XOp.call false [] (XArg.lit (AV.c (CV.fn 14 []))) [(XArg.tmp 10)]) none Cls.w),
  (XOper.mk (some 7) (XOp.mv (XArg.tmp 11)) none Cls.p)])) (XCode.seq (XCode.tr [true, true, false, false, false, false, false, true, true] false (XCode.region
  false [(XOper.mk (some 12) (XOp.call false [] (XArg.lit (AV.c (CV.fn 10 []))) []) none Cls.w), (XOper.mk (some 8) (XOp.mv (XArg.tmp 12)) none Cls.p)]))
  (XCode.seq (XCode.seq (XCode.tr [true, false, false, false, false, false, false, true, true, false, false, false, false, false, true] false (XCode.region
  false [(XOper.mk (some 13) (XOp.mv (XArg.tmp 1)) none Cls.p), (XOper.mk (some 14) (XOp.bin .rem (XArg.tmp 13) (XArg.lit (AV.c (CV.pv (PV.int .u8 5))))) none
  Cls.p)])) (XCode.tr [true, false, false, false, false, false, false, true, true] false (XCode.block 0 (XCode.seq (XCode.tr [true, false, false, false, false,
  false, false, true, true, false, false, false, false, false, true, true] false (XCode.region false [(XOper.mk (some 16) (XOp.bin .eql (XArg.tmp 14) (XArg.lit
  (AV.c (CV.pv (PV.int .u8 0))))) none Cls.p), (XOper.mk (some 15) (XOp.mv (XArg.tmp 16)) none Cls.p)])) (XCode.tr [true, false, false, false, false, false,
  false, true, true] false (XCode.cond (XArg.tmp 15) (XCode.tr [true, false, false, false, false, false, false, true, true] false (XCode.region false [(XOper.mk
  (some 17) (XOp.mv (XArg.tmp 8)) none Cls.p), (XOper.mk (some 18) (XOp.mv (XArg.tmp 7)) none Cls.p), (XOper.mk (some 19) (XOp.call false [] (XArg.lit (AV.c
  (CV.fn 22 []))) [(XArg.tmp 18)]) none Cls.w), (XOper.mk (some 20) (XOp.call false [] (XArg.lit (AV.c (CV.fn 28 []))) [(XArg.tmp 17), (XArg.tmp 19)]) none
  Cls.w)])) (XCode.seq (XCode.tr [true, false, false, false, false, false, false, true, true, false, false, false, false, false, true, false, false, false,
  false, false, false, true] false (XCode.region false [(XOper.mk (some 22) (XOp.bin .eql (XArg.tmp 14) (XArg.lit (AV.c (CV.pv (PV.int .u8 1))))) none Cls.p),
  (XOper.mk (some 21) (XOp.mv (XArg.tmp 22)) none Cls.p)])) (XCode.tr [true, false, false, false, false, false, false, true, true] false (XCode.cond (XArg.tmp
  21) (XCode.tr [true, false, false, false, false, false, false, true, true] false (XCode.region false [(XOper.mk (some 23) (XOp.mv (XArg.tmp 8)) none Cls.p),
  (XOper.mk (some 24) (XOp.mv (XArg.tmp 7)) none Cls.p), (XOper.mk (some 25) (XOp.call false [] (XArg.lit (AV.c (CV.fn 23 []))) [(XArg.tmp 24)]) none Cls.w),
  (XOper.mk (some 26) (XOp.call false [] (XArg.lit (AV.c (CV.fn 29 []))) [(XArg.tmp 23), (XArg.tmp 25)]) none Cls.w)])) (XCode.seq (XCode.tr [true, false,
  false, false, false, false, false, true, true, false, false, false, false, false, true, false, false, false, false, false, false, false, false, false, false,
  false, false, true] false (XCode.region false [(XOper.mk (some 28) (XOp.bin .eql (XArg.tmp 14) (XArg.lit (AV.c (CV.pv (PV.int .u8 2))))) none Cls.p),
  (XOper.mk (some 27) (XOp.mv (XArg.tmp 28)) none Cls.p)])) (XCode.tr [true, false, false, false, false, false, false, true, true] false (XCode.cond (XArg.tmp
  27) (XCode.tr [true, false, false, false, false, false, false, true, true] false (XCode.region false [(XOper.mk (some 29) (XOp.mv (XArg.tmp 8)) none Cls.p),
  (XOper.mk (some 30) (XOp.mv (XArg.tmp 7)) none Cls.p), (XOper.mk (some 31) (XOp.call false [] (XArg.lit (AV.c (CV.fn 24 []))) [(XArg.tmp 30), (XArg.lit (AV.c
  (CV.pv (PV.int .i64 400))))]) none Cls.w), (XOper.mk (some 32) (XOp.call false [] (XArg.lit (AV.c (CV.fn 30 []))) [(XArg.tmp 29), (XArg.tmp 31)]) none
  Cls.w)])) (XCode.seq (XCode.tr [true, false, false, false, false, false, false, true, true, false, false, false, false, false, true, false, false, false,
  false, false, false, false, false, false, false, false, false, false, false, false, false, false, false, true] false (XCode.region false [(XOper.mk (some 34)
  (XOp.bin .eql (XArg.tmp 14) (XArg.lit (AV.c (CV.pv (PV.int .u8 3))))) none Cls.p), (XOper.mk (some 33) (XOp.mv (XArg.tmp 34)) none Cls.p)])) (XCode.tr [true,
  false, false, false, false, false, false, true, true] false (XCode.cond (XArg.tmp 33) (XCode.tr [true, false, false, false, false, false, false, true, true]
  false (XCode.region false [(XOper.mk (some 35) (XOp.mv (XArg.tmp 8)) none Cls.p), (XOper.mk (some 36) (XOp.mv (XArg.tmp 7)) none Cls.p), (XOper.mk (some 37)
  (XOp.call false [] (XArg.lit (AV.c (CV.fn 25 []))) [(XArg.tmp 36)]) none Cls.w), (XOper.mk (some 38) (XOp.call false [] (XArg.lit (AV.c (CV.fn 31 [])))
  [(XArg.tmp 35), (XArg.tmp 37)]) none Cls.w)])) (XCode.seq (XCode.tr [true, false, false, false, false, false, false, true, true, false, false, false, false,
  false, false, false, false, false, false, false, false, false, false, false, false, false, false, false, false, false, false, false, false, false, false,
  false, false, false, false, true] false (XCode.region false [(XOper.mk (some 40) (XOp.bin .eql (XArg.tmp 14) (XArg.lit (AV.c (CV.pv (PV.int .u8 4))))) none
  Cls.p), (XOper.mk (some 39) (XOp.mv (XArg.tmp 40)) none Cls.p)])) (XCode.tr [true, false, false, false, false, false, false, true, true] false (XCode.cond
  (XArg.tmp 39) (XCode.tr [true, false, false, false, false, false, false, true, true] false (XCode.region false [(XOper.mk (some 41) (XOp.mv (XArg.tmp 8)) none
  Cls.p), (XOper.mk (some 42) (XOp.mv (XArg.tmp 7)) none Cls.p), (XOper.mk (some 43) (XOp.call false [] (XArg.lit (AV.c (CV.fn 26 []))) [(XArg.tmp 42)]) none
  Cls.w), (XOper.mk (some 44) (XOp.call false [] (XArg.lit (AV.c (CV.fn 32 []))) [(XArg.tmp 41), (XArg.tmp 43)]) none Cls.w)])) XCode.skip))))))))))))))))))
  (XCode.seq (XCode.tr [true, false, false, false, false, false, false, true, true, true] false (XCode.region false [(XOper.mk (some 45) (XOp.mv (XArg.tmp 7))
  none Cls.p), (XOper.mk (some 46) (XOp.call false [] (XArg.lit (AV.c (CV.fn 17 []))) [(XArg.tmp 45)]) none Cls.w), (XOper.mk (some 9) (XOp.mv (XArg.tmp 46))
  none Cls.p)])) (XCode.seq (XCode.seq (XCode.tr [true, false, false, false, false, false, false, true, true, true, false, false, false, false, false, false,
  false, false, false, false, false, false, false, false, false, false, false, false, false, false, false, false, false, false, false, false, false, false,
  false, false, false, false, false, false, false, false, false, false, false, false, false, false, false, false, true] false (XCode.region false [(XOper.mk
  (some 47) (XOp.mv (XArg.tmp 9)) none Cls.p), (XOper.mk (some 48) (XOp.bin .lss (XArg.tmp 47) (XArg.lit (AV.c (CV.pv (PV.int .i64 0))))) none Cls.p), (XOper.mk
  (some 49) (XOp.mv (XArg.tmp 48)) none Cls.p), (XOper.mk (some 50) (XOp.mv (XArg.tmp 9)) (some (49, false)) Cls.p), (XOper.mk (some 51) (XOp.mv (XArg.tmp 0))
  (some (49, false)) Cls.p), (XOper.mk (some 52) (XOp.lenS (XArg.tmp 51)) (some (49, false)) Cls.p), (XOper.mk (some 53) (XOp.bin .gtr (XArg.tmp 50) (XArg.tmp
  52)) (some (49, false)) Cls.p), (XOper.mk (some 54) (XOp.pick (XArg.tmp 49) (XArg.lit (AV.c (CV.pv (PV.bool true)))) (XArg.tmp 53)) none Cls.p)])) (XCode.tr
  [true, false, false, false, true, true, true, true, true, true] false (XCode.cond (XArg.tmp 54) (XCode.seq (XCode.region false [(XOper.mk (some 4) (XOp.mv
  (XArg.lit (AV.c (CV.pv (PV.str []))))) none Cls.p), (XOper.mk (some 5) (XOp.mv (XArg.lit (AV.c (CV.pv (PV.int .i64 0))))) none Cls.p), (XOper.mk (some 6)
  (XOp.mv (XArg.lit (AV.c (CV.pv (PV.int .i64 1))))) none Cls.p)]) (XCode.tr [false, false, false, false, true, true, true] false XCode.ret)) XCode.skip)))
  (XCode.seq (XCode.tr [false, false, false, false, true, true, true] false (XCode.region false [(XOper.mk (some 55) (XOp.mv (XArg.tmp 8)) none Cls.p),
  (XOper.mk (some 56) (XOp.call false [] (XArg.lit (AV.c (CV.fn 13 []))) [(XArg.tmp 55)]) none Cls.w), (XOper.mk (some 57) (XOp.mv (XArg.tmp 0)) none Cls.p),
  (XOper.mk (some 58) (XOp.lenS (XArg.tmp 57)) none Cls.p), (XOper.mk (some 59) (XOp.mv (XArg.tmp 9)) none Cls.p), (XOper.mk (some 60) (XOp.bin .sub (XArg.tmp
  58) (XArg.tmp 59)) none Cls.p), (XOper.mk (some 61) (XOp.mv (XArg.tmp 7)) none Cls.p), (XOper.mk (some 62) (XOp.call false [] (XArg.lit (AV.c (CV.fn 16 [])))
  [(XArg.tmp 61)]) none Cls.w), (XOper.mk (some 4) (XOp.mv (XArg.tmp 56)) none Cls.p), (XOper.mk (some 5) (XOp.mv (XArg.tmp 60)) none Cls.p), (XOper.mk (some 6)
  (XOp.mv (XArg.tmp 62)) none Cls.p)])) (XCode.tr [false, false, false, false, true, true, true] false XCode.ret)))))))))
theorem xf19_ok : cmpFunc Go.Proofs.Try.prog 19 ((.two (.tr [true, true] false .no) (.two (.tr [true, true, false, false, false, false, false, true] false .no) (.two (.tr [true, true, false, false, false, false, false, true, true] false .no) (.two (.two (.tr [true, false, false, false, false, false, false, true, true, false, false, false, false, false, true] false .no) (.tr [true, false, false, false, false, false, false, true, true] false (.two (.tr [true, false, false, false, false, false, false, true, true, false, false, false, false, false, true, true] false .no) (.tr [true, false, false, false, false, false, false, true, true] false (.two (.tr [true, false, false, false, false, false, false, true, true] false .no) (.two (.tr [true, false, false, false, false, false, false, true, true, false, false, false, false, false, true, false, false, false, false, false, false, true] false .no) (.tr [true, false, false, false, false, false, false, true, true] false (.two (.tr [true, false, false, false, false, false, false, true, true] false .no) (.two (.tr [true, false, false, false, false, false, false, true, true, false, false, false, false, false, true, false, false, false, false, false, false, false, false, false, false, false, false, true] false .no) (.tr [true, false, false, false, false, false, false, true, true] false (.two (.tr [true, false, false, false, false, false, false, true, true] false .no) (.two (.tr [true, false, false, false, false, false, false, true, true, false, false, false, false, false, true, false, false, false, false, false, false, false, false, false, false, false, false, false, false, false, false, false, false, true] false .no) (.tr [true, false, false, false, false, false, false, true, true] false (.two (.tr [true, false, false, false, false, false, false, true, true] false .no) (.two (.tr [true, false, false, false, false, false, false, true, true, false, false, false, false, false, false, false, false, false, false, false, false, false, false, false, false, false, false, false, false, false, false, false, false, false, false, false, false, false, false, true] false .no) (.tr [true, false, false, false, false, false, false, true, true] false (.two (.tr [true, false, false, false, false, false, false, true, true] false .no) .no))))))))))))))))) (.two (.tr [true, false, false, false, false, false, false, true, true, true] false .no) (.two (.two (.tr [true, false, false, false, false, false, false, true, true, true, false, false, false, false, false, false, false, false, false, false, false, false, false, false, false, false, false, false, false, false, false, false, false, false, false, false, false, false, false, false, false, false, false, false, false, false, false, false, false, false, false, false, false, false, true] false .no) (.tr [true, false, false, false, true, true, true, true, true, true] false (.two (.two .no (.tr [false, false, false, false, true, true, true] false .no)) .no))) (.two (.tr [false, false, false, false, true, true, true] false .no) (.tr [false, false, false, false, true, true, true] false .no))))))))) = some xf19 := by kernel_rfl
def xf20 : XFunc :=
(XFunc.mk 58 [(XRes.tmp 6)] (XCode.seq (XCode.tr [true, true, false, false, false, true] false (XCode.region false [(XOper.mk (some 5) (XOp.box (XArg.tmp 2) 2)
  none Cls.w), (XOper.mk (some 6) (XOp.mv (XArg.lit (AV.c (CV.pv (PV.bool false))))) none Cls.p)])) (XCode.seq (XCode.seq (XCode.tr [true, true, false, false,
  false, true, false, false, false, true] false (XCode.region false [(XOper.mk (some 7) (XOp.faddr 0 (XArg.tmp 5)) none Cls.p), (XOper.mk (some 8) (XOp.load
  false 1 (XArg.tmp 7)) none Cls.r), (XOper.mk (some 9) (XOp.bin .rem (XArg.tmp 8) (XArg.lit (AV.c (CV.pv (PV.int .u8 6))))) none Cls.p)])) (XCode.tr [true,
  true, false, false, false, true, true] false (XCode.block 0 (XCode.seq (XCode.tr [true, true, false, false, false, true, false, false, false, true, true]
  false (XCode.region false [(XOper.mk (some 11) (XOp.bin .eql (XArg.tmp 9) (XArg.lit (AV.c (CV.pv (PV.int .u8 0))))) none Cls.p), (XOper.mk (some 10) (XOp.mv
  (XArg.tmp 11)) none Cls.p)])) (XCode.tr [true, true, false, false, false, true, true] false (XCode.cond (XArg.tmp 10) (XCode.seq (XCode.tr [false, false,
  false, false, false, false, true] false (XCode.region false [(XOper.mk (some 12) (XOp.mv (XArg.tmp 0)) none Cls.p), (XOper.mk (some 13) (XOp.call false []
  (XArg.lit (AV.c (CV.fn 22 []))) [(XArg.tmp 12)]) none Cls.w), (XOper.mk (some 14) (XOp.mv (XArg.tmp 1)) none Cls.p), (XOper.mk (some 15) (XOp.call false []
  (XArg.lit (AV.c (CV.fn 37 []))) [(XArg.tmp 14)]) none Cls.w), (XOper.mk (some 16) (XOp.bin .eql (XArg.tmp 13) (XArg.tmp 15)) none Cls.p), (XOper.mk (some 6)
  (XOp.mv (XArg.tmp 16)) none Cls.p)])) (XCode.tr [false, false, false, false, false, false, true] false XCode.ret)) (XCode.seq (XCode.tr [true, true, false,
  false, false, true, false, false, false, true, false, false, false, false, false, false, false, true] false (XCode.region false [(XOper.mk (some 18) (XOp.bin
  .eql (XArg.tmp 9) (XArg.lit (AV.c (CV.pv (PV.int .u8 1))))) none Cls.p), (XOper.mk (some 17) (XOp.mv (XArg.tmp 18)) none Cls.p)])) (XCode.tr [true, true,
  false, false, false, true, true] false (XCode.cond (XArg.tmp 17) (XCode.seq (XCode.tr [false, false, false, false, false, false, true] false (XCode.region
  false [(XOper.mk (some 19) (XOp.mv (XArg.tmp 0)) none Cls.p), (XOper.mk (some 20) (XOp.call false [] (XArg.lit (AV.c (CV.fn 23 []))) [(XArg.tmp 19)]) none
  Cls.w), (XOper.mk (some 21) (XOp.mv (XArg.tmp 1)) none Cls.p), (XOper.mk (some 22) (XOp.call false [] (XArg.lit (AV.c (CV.fn 38 []))) [(XArg.tmp 21)]) none
  Cls.w), (XOper.mk (some 23) (XOp.bin .eql (XArg.tmp 20) (XArg.tmp 22)) none Cls.p), (XOper.mk (some 6) (XOp.mv (XArg.tmp 23)) none Cls.p)])) (XCode.tr [false,
  false, false, false, false, false, true] false XCode.ret)) (XCode.seq (XCode.tr [true, true, false, false, false, true, false, false, false, true, false,
  false, false, false, false, false, false, false, false, false, false, false, false, false, true] false (XCode.region false [(XOper.mk (some 25) (XOp.bin .eql
  (XArg.tmp 9) (XArg.lit (AV.c (CV.pv (PV.int .u8 2))))) none Cls.p), (XOper.mk (some 24) (XOp.mv (XArg.tmp 25)) none Cls.p)])) (XCode.tr [true, true, false,
  false, false, true, true] false (XCode.cond (XArg.tmp 24) (XCode.seq (XCode.tr [false, false, false, false, false, false, true] false (XCode.region true
  [(XOper.mk (some 26) (XOp.mv (XArg.tmp 0)) none Cls.p), (XOper.mk (some 27) (XOp.faddr 1 (XArg.tmp 5)) none Cls.p), (XOper.mk (some 28) (XOp.load false 1
  (XArg.tmp 27)) none Cls.r), (XOper.mk (some 30) (XOp.mv (XArg.tmp 1)) none Cls.p), (XOper.mk (some 31) (XOp.faddr 1 (XArg.tmp 5)) none Cls.p), (XOper.mk (some
  32) (XOp.loadR false 1 (XArg.tmp 31) (XArg.tmp 5)) none Cls.r), (XOper.mk (some 29) (XOp.call false [(XArg.tmp 5)] (XArg.lit (AV.c (CV.fn 24 []))) [(XArg.tmp
  26), (XArg.tmp 28)]) none Cls.w), (XOper.mk (some 33) (XOp.call false [] (XArg.lit (AV.c (CV.fn 39 []))) [(XArg.tmp 30), (XArg.tmp 32)]) none Cls.w),
  (XOper.mk (some 34) (XOp.bin .eql (XArg.tmp 29) (XArg.tmp 33)) none Cls.p), (XOper.mk (some 6) (XOp.mv (XArg.tmp 34)) none Cls.p)])) (XCode.tr [false, false,
  false, false, false, false, true] false XCode.ret)) (XCode.seq (XCode.tr [true, true, false, false, false, true, false, false, false, true, false, false,
  false, false, false, false, false, false, false, false, false, false, false, false, false, false, false, false, false, false, false, false, false, false,
  false, true] false (XCode.region false [(XOper.mk (some 36) (XOp.bin .eql (XArg.tmp 9) (XArg.lit (AV.c (CV.pv (PV.int .u8 3))))) none Cls.p), (XOper.mk (some
  35) (XOp.mv (XArg.tmp 36)) none Cls.p)])) (XCode.tr [true, true, false, false, false, true, true] false (XCode.cond (XArg.tmp 35) (XCode.seq (XCode.tr [false,
  false, false, false, false, false, true] false (XCode.region false [(XOper.mk (some 37) (XOp.mv (XArg.tmp 0)) none Cls.p), (XOper.mk (some 38) (XOp.call false
  [] (XArg.lit (AV.c (CV.fn 25 []))) [(XArg.tmp 37)]) none Cls.w), (XOper.mk (some 39) (XOp.mv (XArg.tmp 1)) none Cls.p), (XOper.mk (some 40) (XOp.call false []
  (XArg.lit (AV.c (CV.fn 40 []))) [(XArg.tmp 39)]) none Cls.w), (XOper.mk (some 41) (XOp.eqB false (XArg.tmp 38) (XArg.tmp 40)) none Cls.p), (XOper.mk (some 6)
  (XOp.mv (XArg.tmp 41)) none Cls.p)])) (XCode.tr [false, false, false, false, false, false, true] false XCode.ret)) (XCode.seq (XCode.tr [true, true, false,
  false, false, true, false, false, false, false, false, false, false, false, false, false, false, false, false, false, false, false, false, false, false,
  false, false, false, false, false, false, false, false, false, false, false, false, false, false, false, false, false, true] false (XCode.region false
  [(XOper.mk (some 43) (XOp.bin .eql (XArg.tmp 9) (XArg.lit (AV.c (CV.pv (PV.int .u8 4))))) none Cls.p), (XOper.mk (some 42) (XOp.mv (XArg.tmp 43)) none
  Cls.p)])) (XCode.tr [true, true, false, false, false, true, true] false (XCode.cond (XArg.tmp 42) (XCode.seq (XCode.tr [false, false, false, false, false,
  false, true] false (XCode.region false [(XOper.mk (some 44) (XOp.mv (XArg.tmp 0)) none Cls.p), (XOper.mk (some 45) (XOp.call false [] (XArg.lit (AV.c (CV.fn
  26 []))) [(XArg.tmp 44)]) none Cls.w), (XOper.mk (some 46) (XOp.mv (XArg.tmp 1)) none Cls.p), (XOper.mk (some 47) (XOp.call false [] (XArg.lit (AV.c (CV.fn 41
  []))) [(XArg.tmp 46)]) none Cls.w), (XOper.mk (some 48) (XOp.eqA false [0, 0] (XArg.tmp 45) (XArg.tmp 47)) none Cls.p), (XOper.mk (some 6) (XOp.mv (XArg.tmp
  48)) none Cls.p)])) (XCode.tr [false, false, false, false, false, false, true] false XCode.ret)) XCode.skip)))))))))))))))))) (XCode.seq (XCode.tr [false,
  false, false, false, false, false, true] false (XCode.region true [(XOper.mk (some 49) (XOp.mv (XArg.tmp 0)) none Cls.p), (XOper.mk (some 50) (XOp.faddr 1
  (XArg.tmp 5)) none Cls.p), (XOper.mk (some 51) (XOp.load false 1 (XArg.tmp 50)) none Cls.r), (XOper.mk (some 53) (XOp.mv (XArg.tmp 1)) none Cls.p), (XOper.mk
  (some 54) (XOp.faddr 1 (XArg.tmp 5)) none Cls.p), (XOper.mk (some 55) (XOp.loadR false 1 (XArg.tmp 54) (XArg.tmp 5)) none Cls.r), (XOper.mk (some 52)
  (XOp.call false [(XArg.tmp 5)] (XArg.lit (AV.c (CV.fn 27 []))) [(XArg.tmp 49), (XArg.tmp 51)]) none Cls.w), (XOper.mk (some 56) (XOp.call false [] (XArg.lit
  (AV.c (CV.fn 42 []))) [(XArg.tmp 53), (XArg.tmp 55)]) none Cls.w), (XOper.mk (some 57) (XOp.bin .eql (XArg.tmp 52) (XArg.tmp 56)) none Cls.p), (XOper.mk (some
  6) (XOp.mv (XArg.tmp 57)) none Cls.p)])) (XCode.tr [false, false, false, false, false, false, true] false XCode.ret)))))
theorem xf20_ok : cmpFunc Go.Proofs.Try.prog 20 ((.two (.tr [true, true, false, false, false, true] false .no) (.two (.two (.tr [true, true, false, false, false, true, false, false, false, true] false .no) (.tr [true, true, false, false, false, true, true] false (.two (.tr [true, true, false, false, false, true, false, false, false, true, true] false .no) (.tr [true, true, false, false, false, true, true] false (.two (.two (.tr [false, false, false, false, false, false, true] false .no) (.tr [false, false, false, false, false, false, true] false .no)) (.two (.tr [true, true, false, false, false, true, false, false, false, true, false, false, false, false, false, false, false, true] false .no) (.tr [true, true, false, false, false, true, true] false (.two (.two (.tr [false, false, false, false, false, false, true] false .no) (.tr [false, false, false, false, false, false, true] false .no)) (.two (.tr [true, true, false, false, false, true, false, false, false, true, false, false, false, false, false, false, false, false, false, false, false, false, false, false, true] false .no) (.tr [true, true, false, false, false, true, true] false (.two (.two (.tr [false, false, false, false, false, false, true] false (.draw [0, 1, 2, 4, 5, 6, 3, 7, 8, 9] [{}, {}, {}, { ap := [5] }, {}, {}, { root := some 5 }])) (.tr [false, false, false, false, false, false, true] false .no)) (.two (.tr [true, true, false, false, false, true, false, false, false, true, false, false, false, false, false, false, false, false, false, false, false, false, false, false, false, false, false, false, false, false, false, false, false, false, false, true] false .no) (.tr [true, true, false, false, false, true, true] false (.two (.two (.tr [false, false, false, false, false, false, true] false .no) (.tr [false, false, false, false, false, false, true] false .no)) (.two (.tr [true, true, false, false, false, true, false, false, false, false, false, false, false, false, false, false, false, false, false, false, false, false, false, false, false, false, false, false, false, false, false, false, false, false, false, false, false, false, false, false, false, false, true] false .no) (.tr [true, true, false, false, false, true, true] false (.two (.two (.tr [false, false, false, false, false, false, true] false .no) (.tr [false, false, false, false, false, false, true] false .no)) .no))))))))))))))))) (.two (.tr [false, false, false, false, false, false, true] false (.draw [0, 1, 2, 4, 5, 6, 3, 7, 8, 9] [{}, {}, {}, { ap := [5] }, {}, {}, { root := some 5 }])) (.tr [false, false, false, false, false, false, true] false .no))))) = some xf20 := by kernel_rfl
def xf21 : XFunc :=
(XFunc.mk 24 [(XRes.tmp 2)] (XCode.seq (XCode.tr [true] false (XCode.region false [(XOper.mk (some 2) (XOp.mv (XArg.lit (AV.c (CV.pv (PV.int .i64 0))))) none
  Cls.p)])) (XCode.seq (XCode.seq (XCode.tr [true, false, false, false, false, false, false, false, false, false, false, false, false, false, false, false,
  false, false, false, true] false (XCode.region true [(XOper.mk (some 3) (XOp.mv (XArg.tmp 0)) none Cls.p), (XOper.mk (some 4) (XOp.nilc (XArg.tmp 3)) none
  Cls.p), (XOper.mk (some 5) (XOp.faddr 2 (XArg.tmp 4)) none Cls.p), (XOper.mk (some 6) (XOp.load false 1 (XArg.tmp 5)) none Cls.r), (XOper.mk (some 7) (XOp.bin
  .eql (XArg.tmp 6) (XArg.lit (AV.c (CV.pv (PV.int .i64 0))))) none Cls.p), (XOper.mk (some 8) (XOp.mv (XArg.tmp 7)) none Cls.p), (XOper.mk (some 9) (XOp.mv
  (XArg.tmp 0)) (some (8, true)) Cls.p), (XOper.mk (some 10) (XOp.nilc (XArg.tmp 9)) (some (8, true)) Cls.p), (XOper.mk (some 11) (XOp.faddr 1 (XArg.tmp 10))
  (some (8, true)) Cls.p), (XOper.mk (some 12) (XOp.load false 1 (XArg.tmp 11)) (some (8, true)) Cls.r), (XOper.mk (some 13) (XOp.mv (XArg.tmp 0)) (some (8,
  true)) Cls.p), (XOper.mk (some 14) (XOp.nilc (XArg.tmp 13)) (some (8, true)) Cls.p), (XOper.mk (some 15) (XOp.faddr 0 (XArg.tmp 14)) (some (8, true)) Cls.p),
  (XOper.mk (some 16) (XOp.load false 1 (XArg.tmp 15)) (some (8, true)) Cls.r), (XOper.mk (some 17) (XOp.lenS (XArg.tmp 16)) (some (8, true)) Cls.p), (XOper.mk
  (some 18) (XOp.bin .lss (XArg.tmp 12) (XArg.tmp 17)) (some (8, true)) Cls.p), (XOper.mk (some 19) (XOp.pick (XArg.tmp 8) (XArg.tmp 18) (XArg.lit (AV.c (CV.pv
  (PV.bool false))))) none Cls.p)])) (XCode.tr [true, false, true] false (XCode.cond (XArg.tmp 19) (XCode.seq (XCode.region false [(XOper.mk (some 2) (XOp.mv
  (XArg.lit (AV.c (CV.pv (PV.int .i64 3))))) none Cls.p)]) (XCode.tr [false, false, true] false XCode.ret)) XCode.skip))) (XCode.seq (XCode.tr [false, false,
  true] false (XCode.region false [(XOper.mk (some 20) (XOp.mv (XArg.tmp 0)) none Cls.p), (XOper.mk (some 21) (XOp.nilc (XArg.tmp 20)) none Cls.p), (XOper.mk
  (some 22) (XOp.faddr 2 (XArg.tmp 21)) none Cls.p), (XOper.mk (some 23) (XOp.load false 1 (XArg.tmp 22)) none Cls.r), (XOper.mk (some 2) (XOp.mv (XArg.tmp 23))
  none Cls.p)])) (XCode.tr [false, false, true] false XCode.ret)))))
theorem xf21_ok : cmpFunc Go.Proofs.Try.prog 21 ((.two (.tr [true] false .no) (.two (.two (.tr [true, false, false, false, false, false, false, false, false, false, false, false, false, false, false, false, false, false, false, true] false (.draw [0, 1, 2, 3, 4, 5, 6, 7, 8, 9, 10, 11, 12, 13, 14, 15, 16] [])) (.tr [true, false, true] false (.two (.two .no (.tr [false, false, true] false .no)) .no))) (.two (.tr [false, false, true] false .no) (.tr [false, false, true] false .no))))) = some xf21 := by kernel_rfl
def xf22 : XFunc :=
(XFunc.mk 5 [(XRes.tmp 2)] (XCode.seq (XCode.tr [true] false (XCode.region false [(XOper.mk (some 2) (XOp.mv (XArg.lit (AV.c (CV.pv (PV.int .u64 0))))) none
  Cls.p)])) (XCode.seq (XCode.tr [false, false, true] false (XCode.region false [(XOper.mk (some 3) (XOp.mv (XArg.tmp 0)) none Cls.p), (XOper.mk (some 4)
  (XOp.call false [] (XArg.lit (AV.c (CV.fn 43 []))) [(XArg.tmp 3), (XArg.lit (AV.c (CV.fn 44 [])))]) none Cls.w), (XOper.mk (some 2) (XOp.mv (XArg.tmp 4)) none
  Cls.p)])) (XCode.tr [false, false, true] false XCode.ret))))
theorem xf22_ok : cmpFunc Go.Proofs.Try.prog 22 ((.two (.tr [true] false .no) (.two (.tr [false, false, true] false .no) (.tr [false, false, true] false .no)))) = some xf22 := by kernel_rfl
def xf23 : XFunc :=
(XFunc.mk 6 [(XRes.tmp 2)] (XCode.seq (XCode.tr [true] false (XCode.region false [(XOper.mk (some 2) (XOp.mv (XArg.lit (AV.c (CV.pv (PV.int .i64 0))))) none
  Cls.p)])) (XCode.seq (XCode.tr [false, false, true] false (XCode.region false [(XOper.mk (some 3) (XOp.mv (XArg.tmp 0)) none Cls.p), (XOper.mk (some 4)
  (XOp.call false [] (XArg.lit (AV.c (CV.fn 43 []))) [(XArg.tmp 3), (XArg.lit (AV.c (CV.fn 44 [])))]) none Cls.w), (XOper.mk (some 5) (XOp.call false []
  (XArg.lit (AV.c (CV.fn 45 []))) [(XArg.tmp 4)]) none Cls.p), (XOper.mk (some 2) (XOp.mv (XArg.tmp 5)) none Cls.p)])) (XCode.tr [false, false, true] false
  XCode.ret))))
theorem xf23_ok : cmpFunc Go.Proofs.Try.prog 23 ((.two (.tr [true] false .no) (.two (.tr [false, false, true] false (.ops [{}, {}, { cls := some .p }])) (.tr [false, false, true] false .no)))) = some xf23 := by kernel_rfl
def xf24 : XFunc :=
(XFunc.mk 8 [(XRes.tmp 4)] (XCode.seq (XCode.tr [true, false, false, true] false (XCode.region false [(XOper.mk (some 3) (XOp.box (XArg.tmp 1) 1) none Cls.w),
  (XOper.mk (some 4) (XOp.mv (XArg.lit (AV.c (CV.pv (PV.str []))))) none Cls.p)])) (XCode.seq (XCode.tr [false, false, false, false, true] false (XCode.region
  false [(XOper.mk (some 5) (XOp.mv (XArg.tmp 0)) none Cls.p), (XOper.mk (some 6) (XOp.mkfn 47 [(XArg.tmp 3)]) none Cls.p), (XOper.mk (some 7) (XOp.call false
  [] (XArg.lit (AV.c (CV.fn 46 []))) [(XArg.tmp 5), (XArg.tmp 6)]) none Cls.w), (XOper.mk (some 4) (XOp.mv (XArg.tmp 7)) none Cls.p)])) (XCode.tr [false, false,
  false, false, true] false XCode.ret))))
theorem xf24_ok : cmpFunc Go.Proofs.Try.prog 24 ((.two (.tr [true, false, false, true] false .no) (.two (.tr [false, false, false, false, true] false .no) (.tr [false, false, false, false, true] false .no)))) = some xf24 := by kernel_rfl
def xf25 : XFunc :=
(XFunc.mk 5 [(XRes.tmp 2)] (XCode.seq (XCode.tr [true] false (XCode.region false [(XOper.mk (some 2) (XOp.mv (XArg.lit (AV.c (CV.pv (PV.bool false))))) none
  Cls.p)])) (XCode.seq (XCode.tr [false, false, true] false (XCode.region false [(XOper.mk (some 3) (XOp.mv (XArg.tmp 0)) none Cls.p), (XOper.mk (some 4)
  (XOp.call false [] (XArg.lit (AV.c (CV.fn 48 []))) [(XArg.tmp 3), (XArg.lit (AV.c (CV.fn 49 [])))]) none Cls.w), (XOper.mk (some 2) (XOp.mv (XArg.tmp 4)) none
  Cls.p)])) (XCode.tr [false, false, true] false XCode.ret))))
theorem xf25_ok : cmpFunc Go.Proofs.Try.prog 25 ((.two (.tr [true] false .no) (.two (.tr [false, false, true] false .no) (.tr [false, false, true] false .no)))) = some xf25 := by kernel_rfl
def xf26 : XFunc :=
(XFunc.mk 5 [(XRes.cell 2 true 2)] (XCode.seq (XCode.region false [(XOper.mk (some 2) (XOp.alloc [(CV.pv (PV.int .i64 0)), (CV.pv (PV.int .i64 0))]) none
  Cls.w)]) (XCode.seq (XCode.tr [false, false, true] false (XCode.region false [(XOper.mk (some 3) (XOp.mv (XArg.tmp 0)) none Cls.p), (XOper.mk (some 4)
  (XOp.call false [] (XArg.lit (AV.c (CV.fn 50 []))) [(XArg.tmp 3), (XArg.lit (AV.c (CV.fn 51 [])))]) none Cls.w), (XOper.mk none (XOp.store 2 (XArg.tmp 2)
  (XArg.tmp 4)) none Cls.w)])) (XCode.tr [false, false, true] false XCode.ret))))
theorem xf26_ok : cmpFunc Go.Proofs.Try.prog 26 ((.two .no (.two (.tr [false, false, true] false .no) (.tr [false, false, true] false .no)))) = some xf26 := by kernel_rfl
def xf27 : XFunc :=
(XFunc.mk 8 [(XRes.tmp 4)] (XCode.seq (XCode.tr [true, false, false, true] false (XCode.region false [(XOper.mk (some 3) (XOp.box (XArg.tmp 1) 1) none Cls.w),
  (XOper.mk (some 4) (XOp.mv (XArg.lit (AV.c (CV.pv (PV.int .i64 0))))) none Cls.p)])) (XCode.seq (XCode.tr [false, false, false, false, true] false
  (XCode.region false [(XOper.mk (some 5) (XOp.mv (XArg.tmp 0)) none Cls.p), (XOper.mk (some 6) (XOp.mkfn 53 [(XArg.tmp 3)]) none Cls.p), (XOper.mk (some 7)
  (XOp.call false [] (XArg.lit (AV.c (CV.fn 52 []))) [(XArg.tmp 5), (XArg.tmp 6)]) none Cls.w), (XOper.mk (some 4) (XOp.mv (XArg.tmp 7)) none Cls.p)]))
  (XCode.tr [false, false, false, false, true] false XCode.ret))))
theorem xf27_ok : cmpFunc Go.Proofs.Try.prog 27 ((.two (.tr [true, false, false, true] false .no) (.two (.tr [false, false, false, false, true] false .no) (.tr [false, false, false, false, true] false .no)))) = some xf27 := by kernel_rfl
def xf28_l0 : XCode :=
(XCode.seq (XCode.seq (XCode.tr [true, true, false, false, false, false, false, true] false (XCode.region false [(XOper.mk (some 6) (XOp.mv (XArg.tmp 1)) none
  Cls.p), (XOper.mk (some 7) (XOp.bin .geq (XArg.tmp 6) (XArg.lit (AV.c (CV.pv (PV.int .u64 128))))) none Cls.p)])) (XCode.tr [true, true] false (XCode.cond
  (XArg.tmp 7) XCode.skip (XCode.tr [true, true] false (XCode.exit 0))))) (XCode.seq (XCode.tr [true, true] false (XCode.block 1 (XCode.tr [true, true] false
  (XCode.region false [(XOper.mk (some 10) (XOp.mv (XArg.tmp 0)) none Cls.p), (XOper.mk (some 11) (XOp.mv (XArg.tmp 0)) none Cls.p), (XOper.mk (some 12)
  (XOp.nilc (XArg.tmp 11)) none Cls.p), (XOper.mk (some 13) (XOp.faddr 0 (XArg.tmp 12)) none Cls.p), (XOper.mk (some 14) (XOp.load false 1 (XArg.tmp 13)) none
  Cls.r), (XOper.mk (some 15) (XOp.mv (XArg.tmp 1)) none Cls.p), (XOper.mk (some 16) (XOp.convI .u8 (XArg.tmp 15)) none Cls.p), (XOper.mk (some 17) (XOp.bin .or
  (XArg.tmp 16) (XArg.lit (AV.c (CV.pv (PV.int .u8 128))))) none Cls.p), (XOper.mk (some 18) (XOp.buildSl [(CV.pv (PV.int .u8 0))] 1 1 [(0, (1, (XArg.tmp
  17)))]) none Cls.p), (XOper.mk (some 19) (XOp.app 1 1 (XArg.tmp 14) (XArg.tmp 18)) none Cls.w), (XOper.mk (some 20) (XOp.nilc (XArg.tmp 10)) none Cls.p),
  (XOper.mk (some 21) (XOp.faddr 0 (XArg.tmp 20)) none Cls.p), (XOper.mk none (XOp.store 1 (XArg.tmp 21) (XArg.tmp 19)) none Cls.w)])))) (XCode.tr [true, true]
  false (XCode.region false [(XOper.mk (some 8) (XOp.mv (XArg.tmp 1)) none Cls.p), (XOper.mk (some 9) (XOp.bin .shr (XArg.tmp 8) (XArg.lit (AV.c (CV.pv (PV.int
  .u64 7))))) none Cls.p), (XOper.mk (some 1) (XOp.mv (XArg.tmp 9)) none Cls.p)]))))
def xf28 : XFunc :=
(XFunc.mk 33 [] (XCode.seq (XCode.seq (XCode.tr [true, true, false, false, false, true] false (XCode.region false [(XOper.mk (some 4) (XOp.mv (XArg.tmp 0)) none
  Cls.p), (XOper.mk (some 5) (XOp.eqN 1 false (XArg.tmp 4) (XArg.lit (AV.c CV.nilp))) none Cls.p)])) (XCode.tr [true, true] false (XCode.cond (XArg.tmp 5)
  (XCode.tr [] false XCode.ret) XCode.skip))) (XCode.seq (XCode.tr [true, true] false (XCode.block 0 (XCode.loop [true, true] xf28_l0))) (XCode.tr [] false
  (XCode.region false [(XOper.mk (some 22) (XOp.mv (XArg.tmp 0)) none Cls.p), (XOper.mk (some 23) (XOp.mv (XArg.tmp 0)) none Cls.p), (XOper.mk (some 24)
  (XOp.nilc (XArg.tmp 23)) none Cls.p), (XOper.mk (some 25) (XOp.faddr 0 (XArg.tmp 24)) none Cls.p), (XOper.mk (some 26) (XOp.load false 1 (XArg.tmp 25)) none
  Cls.r), (XOper.mk (some 27) (XOp.mv (XArg.tmp 1)) none Cls.p), (XOper.mk (some 28) (XOp.convI .u8 (XArg.tmp 27)) none Cls.p), (XOper.mk (some 29) (XOp.buildSl
  [(CV.pv (PV.int .u8 0))] 1 1 [(0, (1, (XArg.tmp 28)))]) none Cls.p), (XOper.mk (some 30) (XOp.app 1 1 (XArg.tmp 26) (XArg.tmp 29)) none Cls.w), (XOper.mk
  (some 31) (XOp.nilc (XArg.tmp 22)) none Cls.p), (XOper.mk (some 32) (XOp.faddr 0 (XArg.tmp 31)) none Cls.p), (XOper.mk none (XOp.store 1 (XArg.tmp 32)
  (XArg.tmp 30)) none Cls.w)])))))
theorem xf28_ok : cmpFunc Go.Proofs.Try.prog 28 ((.two (.two (.tr [true, true, false, false, false, true] false .no) (.tr [true, true] false (.two (.tr [] false .no) .no))) (.two (.tr [true, true] false (.loop [true, true] (.two (.two (.tr [true, true, false, false, false, false, false, true] false .no) (.tr [true, true] false (.two .no (.tr [true, true] false .no)))) (.two (.tr [true, true] false (.tr [true, true] false .no)) (.tr [true, true] false .no))))) (.tr [] false .no)))) = some xf28 := by kernel_rfl
def xf29 : XFunc :=
(XFunc.mk 13 [] (XCode.tr [] false (XCode.region false [(XOper.mk (some 4) (XOp.mv (XArg.tmp 0)) none Cls.p), (XOper.mk (some 5) (XOp.mv (XArg.tmp 1)) none
  Cls.p), (XOper.mk (some 6) (XOp.convI .u64 (XArg.tmp 5)) none Cls.p), (XOper.mk (some 7) (XOp.bin .shl (XArg.tmp 6) (XArg.lit (AV.c (CV.pv (PV.int .u64 1)))))
  none Cls.p), (XOper.mk (some 8) (XOp.mv (XArg.tmp 1)) none Cls.p), (XOper.mk (some 9) (XOp.bin .shr (XArg.tmp 8) (XArg.lit (AV.c (CV.pv (PV.int .u64 63)))))
  none Cls.p), (XOper.mk (some 10) (XOp.convI .u64 (XArg.tmp 9)) none Cls.p), (XOper.mk (some 11) (XOp.bin .xor (XArg.tmp 7) (XArg.tmp 10)) none Cls.p),
  (XOper.mk (some 12) (XOp.call false [] (XArg.lit (AV.c (CV.fn 28 []))) [(XArg.tmp 4), (XArg.tmp 11)]) none Cls.w)])))
theorem xf29_ok : cmpFunc Go.Proofs.Try.prog 29 ((.tr [] false .no)) = some xf29 := by kernel_rfl
def xf30 : XFunc :=
(XFunc.mk 20 [] (XCode.seq (XCode.tr [true, true, false, false, false, true] false (XCode.region false [(XOper.mk (some 4) (XOp.mv (XArg.tmp 0)) none Cls.p),
  (XOper.mk (some 5) (XOp.eqN 1 true (XArg.tmp 4) (XArg.lit (AV.c CV.nilp))) none Cls.p)])) (XCode.tr [] false (XCode.cond (XArg.tmp 5) (XCode.seq (XCode.tr
  [true, true] false (XCode.region false [(XOper.mk (some 6) (XOp.mv (XArg.tmp 0)) none Cls.p), (XOper.mk (some 7) (XOp.mv (XArg.tmp 1)) none Cls.p), (XOper.mk
  (some 8) (XOp.lenS (XArg.tmp 7)) none Cls.p), (XOper.mk (some 9) (XOp.convI .u64 (XArg.tmp 8)) none Cls.p), (XOper.mk (some 10) (XOp.call false [] (XArg.lit
  (AV.c (CV.fn 28 []))) [(XArg.tmp 6), (XArg.tmp 9)]) none Cls.w)])) (XCode.tr [] false (XCode.region false [(XOper.mk (some 11) (XOp.mv (XArg.tmp 0)) none
  Cls.p), (XOper.mk (some 12) (XOp.mv (XArg.tmp 0)) none Cls.p), (XOper.mk (some 13) (XOp.nilc (XArg.tmp 12)) none Cls.p), (XOper.mk (some 14) (XOp.faddr 0
  (XArg.tmp 13)) none Cls.p), (XOper.mk (some 15) (XOp.load false 1 (XArg.tmp 14)) none Cls.r), (XOper.mk (some 16) (XOp.mv (XArg.tmp 1)) none Cls.p), (XOper.mk
  (some 17) (XOp.app 1 1 (XArg.tmp 15) (XArg.tmp 16)) none Cls.w), (XOper.mk (some 18) (XOp.nilc (XArg.tmp 11)) none Cls.p), (XOper.mk (some 19) (XOp.faddr 0
  (XArg.tmp 18)) none Cls.p), (XOper.mk none (XOp.store 1 (XArg.tmp 19) (XArg.tmp 17)) none Cls.w)]))) XCode.skip))))
theorem xf30_ok : cmpFunc Go.Proofs.Try.prog 30 ((.two (.tr [true, true, false, false, false, true] false .no) (.tr [] false (.two (.two (.tr [true, true] false .no) (.tr [] false .no)) .no)))) = some xf30 := by kernel_rfl
def xf31 : XFunc :=
(XFunc.mk 9 [] (XCode.seq (XCode.region false [(XOper.mk (some 4) (XOp.mv (XArg.lit (AV.c (CV.pv (PV.int .u64 0))))) none Cls.p)]) (XCode.seq (XCode.seq
  (XCode.tr [true, false, false, false, true, true] false (XCode.region false [(XOper.mk (some 5) (XOp.mv (XArg.tmp 1)) none Cls.p)])) (XCode.tr [true, false,
  false, false, true] false (XCode.cond (XArg.tmp 5) (XCode.region false [(XOper.mk (some 4) (XOp.mv (XArg.lit (AV.c (CV.pv (PV.int .u64 1))))) none Cls.p)])
  XCode.skip))) (XCode.tr [] false (XCode.region false [(XOper.mk (some 6) (XOp.mv (XArg.tmp 0)) none Cls.p), (XOper.mk (some 7) (XOp.mv (XArg.tmp 4)) none
  Cls.p), (XOper.mk (some 8) (XOp.call false [] (XArg.lit (AV.c (CV.fn 28 []))) [(XArg.tmp 6), (XArg.tmp 7)]) none Cls.w)])))))
theorem xf31_ok : cmpFunc Go.Proofs.Try.prog 31 ((.two .no (.two (.two (.tr [true, false, false, false, true, true] false .no) (.tr [true, false, false, false, true] false .no)) (.tr [] false .no)))) = some xf31 := by kernel_rfl
def xf32 : XFunc :=
(XFunc.mk 12 [] (XCode.seq (XCode.tr [true, false, false, true] false (XCode.region false [(XOper.mk (some 3) (XOp.box (XArg.tmp 1) 2) none Cls.w)])) (XCode.seq
  (XCode.tr [true, false, false, true] false (XCode.region false [(XOper.mk (some 4) (XOp.mv (XArg.tmp 0)) none Cls.p), (XOper.mk (some 5) (XOp.faddr 0
  (XArg.tmp 3)) none Cls.p), (XOper.mk (some 6) (XOp.load false 1 (XArg.tmp 5)) none Cls.r), (XOper.mk (some 7) (XOp.call false [] (XArg.lit (AV.c (CV.fn 29
  []))) [(XArg.tmp 4), (XArg.tmp 6)]) none Cls.w)])) (XCode.tr [] false (XCode.region false [(XOper.mk (some 8) (XOp.mv (XArg.tmp 0)) none Cls.p), (XOper.mk
  (some 9) (XOp.faddr 1 (XArg.tmp 3)) none Cls.p), (XOper.mk (some 10) (XOp.load false 1 (XArg.tmp 9)) none Cls.r), (XOper.mk (some 11) (XOp.call false []
  (XArg.lit (AV.c (CV.fn 29 []))) [(XArg.tmp 8), (XArg.tmp 10)]) none Cls.w)])))))
theorem xf32_ok : cmpFunc Go.Proofs.Try.prog 32 ((.two (.tr [true, false, false, true] false .no) (.two (.tr [true, false, false, true] false .no) (.tr [] false .no)))) = some xf32 := by kernel_rfl
def xf33_l0 : XCode :=
(XCode.seq (XCode.seq (XCode.tr [false, false, false, true, true, false, false, true] false (XCode.region false [(XOper.mk (some 6) (XOp.mv (XArg.tmp 4)) none
  Cls.p), (XOper.mk (some 7) (XOp.bin .gtr (XArg.tmp 6) (XArg.lit (AV.c (CV.pv (PV.int .u64 127))))) none Cls.p)])) (XCode.tr [false, false, false, true, true]
  false (XCode.cond (XArg.tmp 7) XCode.skip (XCode.tr [false, false, false, true, true] false (XCode.exit 0))))) (XCode.tr [false, false, false, true, true]
  false (XCode.block 1 (XCode.seq (XCode.tr [false, false, false, true, true] false (XCode.region false [(XOper.mk (some 8) (XOp.mv (XArg.tmp 3)) none Cls.p),
  (XOper.mk (some 9) (XOp.mv (XArg.tmp 4)) none Cls.p), (XOper.mk (some 10) (XOp.bin .rem (XArg.tmp 9) (XArg.lit (AV.c (CV.pv (PV.int .u64 128))))) none Cls.p),
  (XOper.mk (some 11) (XOp.bin .add (XArg.tmp 10) (XArg.lit (AV.c (CV.pv (PV.int .u64 128))))) none Cls.p), (XOper.mk (some 12) (XOp.convI .u8 (XArg.tmp 11))
  none Cls.p), (XOper.mk (some 13) (XOp.buildSl [(CV.pv (PV.int .u8 0))] 1 1 [(0, (1, (XArg.tmp 12)))]) none Cls.p), (XOper.mk (some 14) (XOp.app 1 1 (XArg.tmp
  8) (XArg.tmp 13)) none Cls.w), (XOper.mk (some 3) (XOp.mv (XArg.tmp 14)) none Cls.p)])) (XCode.tr [false, false, false, true, true] false (XCode.region false
  [(XOper.mk (some 15) (XOp.mv (XArg.tmp 4)) none Cls.p), (XOper.mk (some 16) (XOp.bin .quo (XArg.tmp 15) (XArg.lit (AV.c (CV.pv (PV.int .u64 128))))) none
  Cls.p), (XOper.mk (some 4) (XOp.mv (XArg.tmp 16)) none Cls.p)]))))))
def xf33 : XFunc :=
(XFunc.mk 22 [(XRes.tmp 2)] (XCode.seq (XCode.tr [true] false (XCode.region false [(XOper.mk (some 2) (XOp.mv (XArg.lit (AV.c (CV.pv (PV.sl SO.nil 0 [])))))
  none Cls.p)])) (XCode.seq (XCode.region false [(XOper.mk (some 3) (XOp.mv (XArg.lit (AV.c (CV.pv (PV.sl SO.nil 0 []))))) none Cls.p)]) (XCode.seq (XCode.tr
  [false, false, false, true, true] false (XCode.region false [(XOper.mk (some 5) (XOp.mv (XArg.tmp 0)) none Cls.p), (XOper.mk (some 4) (XOp.mv (XArg.tmp 5))
  none Cls.p)])) (XCode.seq (XCode.tr [false, false, false, true, true] false (XCode.block 0 (XCode.loop [false, false, false, true, true] xf33_l0))) (XCode.seq
  (XCode.tr [false, false, true] false (XCode.region false [(XOper.mk (some 17) (XOp.mv (XArg.tmp 3)) none Cls.p), (XOper.mk (some 18) (XOp.mv (XArg.tmp 4))
  none Cls.p), (XOper.mk (some 19) (XOp.convI .u8 (XArg.tmp 18)) none Cls.p), (XOper.mk (some 20) (XOp.buildSl [(CV.pv (PV.int .u8 0))] 1 1 [(0, (1, (XArg.tmp
  19)))]) none Cls.p), (XOper.mk (some 21) (XOp.app 1 1 (XArg.tmp 17) (XArg.tmp 20)) none Cls.w), (XOper.mk (some 2) (XOp.mv (XArg.tmp 21)) none Cls.p)]))
  (XCode.tr [false, false, true] false XCode.ret)))))))
theorem xf33_ok : cmpFunc Go.Proofs.Try.prog 33 ((.two (.tr [true] false .no) (.two .no (.two (.tr [false, false, false, true, true] false .no) (.two (.tr [false, false, false, true, true] false (.loop [false, false, false, true, true] (.two (.two (.tr [false, false, false, true, true, false, false, true] false .no) (.tr [false, false, false, true, true] false (.two .no (.tr [false, false, false, true, true] false .no)))) (.tr [false, false, false, true, true] false (.two (.tr [false, false, false, true, true] false .no) (.tr [false, false, false, true, true] false .no)))))) (.two (.tr [false, false, true] false .no) (.tr [false, false, true] false .no))))))) = some xf33 := by kernel_rfl
def xf34 : XFunc :=
(XFunc.mk 14 [(XRes.tmp 2)] (XCode.seq (XCode.tr [true] false (XCode.region false [(XOper.mk (some 2) (XOp.mv (XArg.lit (AV.c (CV.pv (PV.int .u64 0))))) none
  Cls.p)])) (XCode.seq (XCode.seq (XCode.tr [true, false, false, false, true] false (XCode.region false [(XOper.mk (some 3) (XOp.mv (XArg.tmp 0)) none Cls.p),
  (XOper.mk (some 4) (XOp.bin .geq (XArg.tmp 3) (XArg.lit (AV.c (CV.pv (PV.int .i64 0))))) none Cls.p)])) (XCode.tr [true, false, true] false (XCode.cond
  (XArg.tmp 4) (XCode.seq (XCode.tr [false, false, true] false (XCode.region false [(XOper.mk (some 5) (XOp.mv (XArg.tmp 0)) none Cls.p), (XOper.mk (some 6)
  (XOp.convI .u64 (XArg.tmp 5)) none Cls.p), (XOper.mk (some 7) (XOp.bin .mul (XArg.lit (AV.c (CV.pv (PV.int .u64 2)))) (XArg.tmp 6)) none Cls.p), (XOper.mk
  (some 2) (XOp.mv (XArg.tmp 7)) none Cls.p)])) (XCode.tr [false, false, true] false XCode.ret)) XCode.skip))) (XCode.seq (XCode.tr [false, false, true] false
  (XCode.region false [(XOper.mk (some 8) (XOp.mv (XArg.tmp 0)) none Cls.p), (XOper.mk (some 9) (XOp.bin .add (XArg.tmp 8) (XArg.lit (AV.c (CV.pv (PV.int .i64
  1))))) none Cls.p), (XOper.mk (some 10) (XOp.un .neg (XArg.tmp 9)) none Cls.p), (XOper.mk (some 11) (XOp.convI .u64 (XArg.tmp 10)) none Cls.p), (XOper.mk
  (some 12) (XOp.bin .mul (XArg.lit (AV.c (CV.pv (PV.int .u64 2)))) (XArg.tmp 11)) none Cls.p), (XOper.mk (some 13) (XOp.bin .add (XArg.tmp 12) (XArg.lit (AV.c
  (CV.pv (PV.int .u64 1))))) none Cls.p), (XOper.mk (some 2) (XOp.mv (XArg.tmp 13)) none Cls.p)])) (XCode.tr [false, false, true] false XCode.ret)))))
theorem xf34_ok : cmpFunc Go.Proofs.Try.prog 34 ((.two (.tr [true] false .no) (.two (.two (.tr [true, false, false, false, true] false .no) (.tr [true, false, true] false (.two (.two (.tr [false, false, true] false .no) (.tr [false, false, true] false .no)) .no))) (.two (.tr [false, false, true] false .no) (.tr [false, false, true] false .no))))) = some xf34 := by kernel_rfl
def xf35 : XFunc :=
(XFunc.mk 13 [(XRes.tmp 2)] (XCode.seq (XCode.tr [true] false (XCode.region false [(XOper.mk (some 2) (XOp.mv (XArg.lit (AV.c (CV.pv (PV.sl SO.nil 0 [])))))
  none Cls.p)])) (XCode.seq (XCode.tr [true, false, false, true] false (XCode.region false [(XOper.mk (some 4) (XOp.mv (XArg.tmp 0)) none Cls.p), (XOper.mk
  (some 5) (XOp.lenS (XArg.tmp 4)) none Cls.p), (XOper.mk (some 6) (XOp.convI .u64 (XArg.tmp 5)) none Cls.p), (XOper.mk (some 7) (XOp.call false [] (XArg.lit
  (AV.c (CV.fn 33 []))) [(XArg.tmp 6)]) none Cls.p), (XOper.mk (some 3) (XOp.mv (XArg.tmp 7)) none Cls.p)])) (XCode.seq (XCode.tr [false, false, true] false
  (XCode.region false [(XOper.mk (some 8) (XOp.buildSl [(CV.pv (PV.int .u8 0))] 0 1 []) none Cls.p), (XOper.mk (some 9) (XOp.mv (XArg.tmp 3)) none Cls.p),
  (XOper.mk (some 10) (XOp.app 1 1 (XArg.tmp 8) (XArg.tmp 9)) none Cls.w), (XOper.mk (some 11) (XOp.mv (XArg.tmp 0)) none Cls.p), (XOper.mk (some 12) (XOp.app 1
  1 (XArg.tmp 10) (XArg.tmp 11)) none Cls.w), (XOper.mk (some 2) (XOp.mv (XArg.tmp 12)) none Cls.p)])) (XCode.tr [false, false, true] false XCode.ret)))))
theorem xf35_ok : cmpFunc Go.Proofs.Try.prog 35 ((.two (.tr [true] false .no) (.two (.tr [true, false, false, true] false (.ops [{}, {}, {}, { cls := some .p }])) (.two (.tr [false, false, true] false .no) (.tr [false, false, true] false .no))))) = some xf35 := by kernel_rfl
def xf36 : XFunc :=
(XFunc.mk 16 [(XRes.tmp 2)] (XCode.seq (XCode.tr [false, true] false (XCode.region false [(XOper.mk (some 1) (XOp.box (XArg.tmp 0) 2) none Cls.w), (XOper.mk
  (some 2) (XOp.mv (XArg.lit (AV.c (CV.pv (PV.sl SO.nil 0 []))))) none Cls.p)])) (XCode.seq (XCode.tr [false, true, false, true] false (XCode.region false
  [(XOper.mk (some 4) (XOp.faddr 0 (XArg.tmp 1)) none Cls.p), (XOper.mk (some 5) (XOp.load false 1 (XArg.tmp 4)) none Cls.r), (XOper.mk (some 6) (XOp.call false
  [] (XArg.lit (AV.c (CV.fn 34 []))) [(XArg.tmp 5)]) none Cls.p), (XOper.mk (some 7) (XOp.call false [] (XArg.lit (AV.c (CV.fn 33 []))) [(XArg.tmp 6)]) none
  Cls.p), (XOper.mk (some 3) (XOp.mv (XArg.tmp 7)) none Cls.p)])) (XCode.seq (XCode.tr [false, false, true] false (XCode.region true [(XOper.mk (some 8)
  (XOp.buildSl [(CV.pv (PV.int .u8 0))] 0 1 []) none Cls.p), (XOper.mk (some 9) (XOp.mv (XArg.tmp 3)) none Cls.p), (XOper.mk (some 11) (XOp.faddr 1 (XArg.tmp
  1)) none Cls.p), (XOper.mk (some 12) (XOp.load false 1 (XArg.tmp 11)) none Cls.r), (XOper.mk (some 10) (XOp.app 1 1 (XArg.tmp 8) (XArg.tmp 9)) none Cls.w),
  (XOper.mk (some 13) (XOp.call false [] (XArg.lit (AV.c (CV.fn 34 []))) [(XArg.tmp 12)]) none Cls.p), (XOper.mk (some 14) (XOp.call false [] (XArg.lit (AV.c
  (CV.fn 33 []))) [(XArg.tmp 13)]) none Cls.p), (XOper.mk (some 15) (XOp.app 1 1 (XArg.tmp 10) (XArg.tmp 14)) none Cls.w), (XOper.mk (some 2) (XOp.mv (XArg.tmp
  15)) none Cls.p)])) (XCode.tr [false, false, true] false XCode.ret)))))
theorem xf36_ok : cmpFunc Go.Proofs.Try.prog 36 ((.two (.tr [false, true] false .no) (.two (.tr [false, true, false, true] false (.ops [{}, {}, { cls := some .p }, { cls := some .p }])) (.two (.tr [false, false, true] false (.draw [0, 1, 3, 4, 2, 5, 6, 7, 8] [{}, {}, {}, {}, {}, { cls := some .p }, { cls := some .p }])) (.tr [false, false, true] false .no))))) = some xf36 := by kernel_rfl
def xf37 : XFunc :=
(XFunc.mk 30 [(XRes.tmp 2)] (XCode.seq (XCode.tr [true] false (XCode.region false [(XOper.mk (some 2) (XOp.mv (XArg.lit (AV.c (CV.pv (PV.int .u64 0))))) none
  Cls.p)])) (XCode.seq (XCode.seq (XCode.tr [true, false, false, false, false, false, false, false, false, false, true] false (XCode.region false [(XOper.mk
  (some 6) (XOp.mv (XArg.tmp 0)) none Cls.p), (XOper.mk (some 7) (XOp.nilc (XArg.tmp 6)) none Cls.p), (XOper.mk (some 8) (XOp.faddr 2 (XArg.tmp 7)) none Cls.p),
  (XOper.mk (some 9) (XOp.load false 1 (XArg.tmp 8)) none Cls.r), (XOper.mk (some 10) (XOp.bin .neq (XArg.tmp 9) (XArg.lit (AV.c (CV.pv (PV.int .i64 0))))) none
  Cls.p)])) (XCode.tr [true, false, true] false (XCode.cond (XArg.tmp 10) (XCode.seq (XCode.region false [(XOper.mk (some 2) (XOp.mv (XArg.lit (AV.c (CV.pv
  (PV.int .u64 0))))) none Cls.p)]) (XCode.tr [false, false, true] false XCode.ret)) XCode.skip))) (XCode.seq (XCode.tr [true, false, false, true, true, true]
  false (XCode.region false [(XOper.mk (some 12) (XOp.mv (XArg.tmp 0)) none Cls.p), (XOper.mk (some 13) (XOp.mv (XArg.tmp 0)) none Cls.p), (XOper.mk (some 14)
  (XOp.nilc (XArg.tmp 13)) none Cls.p), (XOper.mk (some 15) (XOp.faddr 1 (XArg.tmp 14)) none Cls.p), (XOper.mk (some 16) (XOp.load false 1 (XArg.tmp 15)) none
  Cls.r), (XOper.mk (some 17) (XOp.call false [] (XArg.lit (AV.c (CV.fn 54 []))) [(XArg.tmp 12), (XArg.tmp 16)]) none Cls.w), (XOper.mk (some 11) (XOp.mv
  (XArg.tmp 17)) none Cls.p), (XOper.mk (some 18) (XOp.extr 0 (XArg.tmp 11)) none Cls.p), (XOper.mk (some 19) (XOp.extr 1 (XArg.tmp 11)) none Cls.p), (XOper.mk
  (some 20) (XOp.extr 2 (XArg.tmp 11)) none Cls.p), (XOper.mk (some 3) (XOp.mv (XArg.tmp 18)) none Cls.p), (XOper.mk (some 4) (XOp.mv (XArg.tmp 19)) none
  Cls.p), (XOper.mk (some 5) (XOp.mv (XArg.tmp 20)) none Cls.p)])) (XCode.seq (XCode.tr [true, false, false, true, true] false (XCode.region false [(XOper.mk
  (some 21) (XOp.mv (XArg.tmp 0)) none Cls.p), (XOper.mk (some 22) (XOp.mv (XArg.tmp 5)) none Cls.p), (XOper.mk (some 23) (XOp.nilc (XArg.tmp 21)) none Cls.p),
  (XOper.mk (some 24) (XOp.faddr 2 (XArg.tmp 23)) none Cls.p), (XOper.mk none (XOp.store 1 (XArg.tmp 24) (XArg.tmp 22)) none Cls.w)])) (XCode.seq (XCode.tr
  [false, false, false, true] false (XCode.region false [(XOper.mk (some 25) (XOp.mv (XArg.tmp 0)) none Cls.p), (XOper.mk (some 26) (XOp.mv (XArg.tmp 4)) none
  Cls.p), (XOper.mk (some 27) (XOp.nilc (XArg.tmp 25)) none Cls.p), (XOper.mk (some 28) (XOp.faddr 1 (XArg.tmp 27)) none Cls.p), (XOper.mk none (XOp.store 1
  (XArg.tmp 28) (XArg.tmp 26)) none Cls.w)])) (XCode.seq (XCode.tr [false, false, true] false (XCode.region false [(XOper.mk (some 29) (XOp.mv (XArg.tmp 3))
  none Cls.p), (XOper.mk (some 2) (XOp.mv (XArg.tmp 29)) none Cls.p)])) (XCode.tr [false, false, true] false XCode.ret))))))))
theorem xf37_ok : cmpFunc Go.Proofs.Try.prog 37 ((.two (.tr [true] false .no) (.two (.two (.tr [true, false, false, false, false, false, false, false, false, false, true] false .no) (.tr [true, false, true] false (.two (.two .no (.tr [false, false, true] false .no)) .no))) (.two (.tr [true, false, false, true, true, true] false .no) (.two (.tr [true, false, false, true, true] false .no) (.two (.tr [false, false, false, true] false .no) (.two (.tr [false, false, true] false .no) (.tr [false, false, true] false .no)))))))) = some xf37 := by kernel_rfl
def xf38 : XFunc :=
(XFunc.mk 6 [(XRes.tmp 2)] (XCode.seq (XCode.tr [true] false (XCode.region false [(XOper.mk (some 2) (XOp.mv (XArg.lit (AV.c (CV.pv (PV.int .i64 0))))) none
  Cls.p)])) (XCode.seq (XCode.tr [false, false, true] false (XCode.region false [(XOper.mk (some 3) (XOp.mv (XArg.tmp 0)) none Cls.p), (XOper.mk (some 4)
  (XOp.call false [] (XArg.lit (AV.c (CV.fn 37 []))) [(XArg.tmp 3)]) none Cls.w), (XOper.mk (some 5) (XOp.call false [] (XArg.lit (AV.c (CV.fn 55 [])))
  [(XArg.tmp 4)]) none Cls.p), (XOper.mk (some 2) (XOp.mv (XArg.tmp 5)) none Cls.p)])) (XCode.tr [false, false, true] false XCode.ret))))
theorem xf38_ok : cmpFunc Go.Proofs.Try.prog 38 ((.two (.tr [true] false .no) (.two (.tr [false, false, true] false (.ops [{}, {}, { cls := some .p }])) (.tr [false, false, true] false .no)))) = some xf38 := by kernel_rfl
def xf39 : XFunc :=
(XFunc.mk 64 [(XRes.tmp 4)] (XCode.seq (XCode.tr [true, true] false (XCode.region false [(XOper.mk (some 4) (XOp.mv (XArg.lit (AV.c (CV.pv (PV.str []))))) none
  Cls.p)])) (XCode.seq (XCode.tr [true, true, false, false, false, true] false (XCode.region false [(XOper.mk (some 8) (XOp.mv (XArg.tmp 0)) none Cls.p),
  (XOper.mk (some 9) (XOp.nilc (XArg.tmp 8)) none Cls.p), (XOper.mk (some 10) (XOp.faddr 1 (XArg.tmp 9)) none Cls.p), (XOper.mk (some 11) (XOp.load false 1
  (XArg.tmp 10)) none Cls.r), (XOper.mk (some 5) (XOp.mv (XArg.tmp 11)) none Cls.p)])) (XCode.seq (XCode.tr [true, false, false, false, false, true, true] false
  (XCode.region false [(XOper.mk (some 12) (XOp.mv (XArg.tmp 0)) none Cls.p), (XOper.mk (some 13) (XOp.mv (XArg.tmp 1)) none Cls.p), (XOper.mk (some 14)
  (XOp.call false [] (XArg.lit (AV.c (CV.fn 42 []))) [(XArg.tmp 12), (XArg.tmp 13)]) none Cls.w), (XOper.mk (some 6) (XOp.mv (XArg.tmp 14)) none Cls.p)]))
  (XCode.seq (XCode.seq (XCode.tr [true, false, false, false, false, true, true, false, false, false, false, false, false, false, false, false, false, false,
  false, true] false (XCode.region false [(XOper.mk (some 15) (XOp.mv (XArg.tmp 0)) none Cls.p), (XOper.mk (some 16) (XOp.nilc (XArg.tmp 15)) none Cls.p),
  (XOper.mk (some 17) (XOp.faddr 2 (XArg.tmp 16)) none Cls.p), (XOper.mk (some 18) (XOp.load false 1 (XArg.tmp 17)) none Cls.r), (XOper.mk (some 19) (XOp.bin
  .neq (XArg.tmp 18) (XArg.lit (AV.c (CV.pv (PV.int .i64 0))))) none Cls.p)])) (XCode.tr [true, false, false, false, true, true, true] false (XCode.cond
  (XArg.tmp 19) (XCode.seq (XCode.region false [(XOper.mk (some 4) (XOp.mv (XArg.lit (AV.c (CV.pv (PV.str []))))) none Cls.p)]) (XCode.tr [false, false, false,
  false, true] false XCode.ret)) XCode.skip))) (XCode.seq (XCode.seq (XCode.tr [true, false, false, false, false, true, true, false, false, false, false, false,
  false, false, false, false, false, false, false, false, false, false, false, false, false, false, false, false, false, false, false, true] false (XCode.region
  true [(XOper.mk (some 20) (XOp.mv (XArg.tmp 6)) none Cls.p), (XOper.mk (some 21) (XOp.mv (XArg.tmp 0)) none Cls.p), (XOper.mk (some 22) (XOp.nilc (XArg.tmp
  21)) none Cls.p), (XOper.mk (some 23) (XOp.faddr 0 (XArg.tmp 22)) none Cls.p), (XOper.mk (some 24) (XOp.load false 1 (XArg.tmp 23)) none Cls.r), (XOper.mk
  (some 25) (XOp.lenS (XArg.tmp 24)) none Cls.p), (XOper.mk (some 26) (XOp.mv (XArg.tmp 0)) none Cls.p), (XOper.mk (some 27) (XOp.nilc (XArg.tmp 26)) none
  Cls.p), (XOper.mk (some 28) (XOp.faddr 1 (XArg.tmp 27)) none Cls.p), (XOper.mk (some 29) (XOp.load false 1 (XArg.tmp 28)) none Cls.r), (XOper.mk (some 30)
  (XOp.bin .sub (XArg.tmp 25) (XArg.tmp 29)) none Cls.p), (XOper.mk (some 31) (XOp.bin .gtr (XArg.tmp 20) (XArg.tmp 30)) none Cls.p)])) (XCode.tr [true, false,
  false, false, true, false, true] false (XCode.cond (XArg.tmp 31) (XCode.seq (XCode.tr [true] false (XCode.region false [(XOper.mk (some 32) (XOp.mv (XArg.tmp
  0)) none Cls.p), (XOper.mk (some 33) (XOp.mv (XArg.tmp 5)) none Cls.p), (XOper.mk (some 34) (XOp.nilc (XArg.tmp 32)) none Cls.p), (XOper.mk (some 35)
  (XOp.faddr 1 (XArg.tmp 34)) none Cls.p), (XOper.mk none (XOp.store 1 (XArg.tmp 35) (XArg.tmp 33)) none Cls.w)])) (XCode.seq (XCode.tr [] false (XCode.region
  false [(XOper.mk (some 36) (XOp.mv (XArg.tmp 0)) none Cls.p), (XOper.mk (some 37) (XOp.nilc (XArg.tmp 36)) none Cls.p), (XOper.mk (some 38) (XOp.faddr 2
  (XArg.tmp 37)) none Cls.p), (XOper.mk none (XOp.store 1 (XArg.tmp 38) (XArg.lit (AV.c (CV.pv (PV.int .i64 2))))) none Cls.w)])) (XCode.seq (XCode.region false
  [(XOper.mk (some 4) (XOp.mv (XArg.lit (AV.c (CV.pv (PV.str []))))) none Cls.p)]) (XCode.tr [false, false, false, false, true] false XCode.ret))))
  XCode.skip))) (XCode.seq (XCode.tr [true, false, false, false, false, false, true, true] false (XCode.region true [(XOper.mk (some 39) (XOp.mv (XArg.tmp 0))
  none Cls.p), (XOper.mk (some 40) (XOp.nilc (XArg.tmp 39)) none Cls.p), (XOper.mk (some 41) (XOp.faddr 0 (XArg.tmp 40)) none Cls.p), (XOper.mk (some 42)
  (XOp.load false 1 (XArg.tmp 41)) none Cls.r), (XOper.mk (some 43) (XOp.mv (XArg.tmp 0)) none Cls.p), (XOper.mk (some 44) (XOp.nilc (XArg.tmp 43)) none Cls.p),
  (XOper.mk (some 45) (XOp.faddr 1 (XArg.tmp 44)) none Cls.p), (XOper.mk (some 46) (XOp.load false 1 (XArg.tmp 45)) none Cls.r), (XOper.mk (some 47) (XOp.mv
  (XArg.tmp 0)) none Cls.p), (XOper.mk (some 48) (XOp.nilc (XArg.tmp 47)) none Cls.p), (XOper.mk (some 49) (XOp.faddr 1 (XArg.tmp 48)) none Cls.p), (XOper.mk
  (some 50) (XOp.load false 1 (XArg.tmp 49)) none Cls.r), (XOper.mk (some 51) (XOp.mv (XArg.tmp 6)) none Cls.p), (XOper.mk (some 52) (XOp.bin .add (XArg.tmp 50)
  (XArg.tmp 51)) none Cls.p), (XOper.mk (some 53) (XOp.sliceS (XArg.tmp 42) (some (XArg.tmp 46)) (some (XArg.tmp 52))) none Cls.p), (XOper.mk (some 7) (XOp.mv
  (XArg.tmp 53)) none Cls.p)])) (XCode.seq (XCode.tr [false, false, false, false, false, false, false, true] false (XCode.region false [(XOper.mk (some 54)
  (XOp.mv (XArg.tmp 0)) none Cls.p), (XOper.mk (some 55) (XOp.mv (XArg.tmp 0)) none Cls.p), (XOper.mk (some 56) (XOp.nilc (XArg.tmp 55)) none Cls.p), (XOper.mk
  (some 57) (XOp.faddr 1 (XArg.tmp 56)) none Cls.p), (XOper.mk (some 58) (XOp.load false 1 (XArg.tmp 57)) none Cls.r), (XOper.mk (some 59) (XOp.mv (XArg.tmp 6))
  none Cls.p), (XOper.mk (some 60) (XOp.bin .add (XArg.tmp 58) (XArg.tmp 59)) none Cls.p), (XOper.mk (some 61) (XOp.nilc (XArg.tmp 54)) none Cls.p), (XOper.mk
  (some 62) (XOp.faddr 1 (XArg.tmp 61)) none Cls.p), (XOper.mk none (XOp.store 1 (XArg.tmp 62) (XArg.tmp 60)) none Cls.w)])) (XCode.seq (XCode.tr [false, false,
  false, false, true] false (XCode.region false [(XOper.mk (some 63) (XOp.mv (XArg.tmp 7)) none Cls.p), (XOper.mk (some 4) (XOp.mv (XArg.tmp 63)) none Cls.p)]))
  (XCode.tr [false, false, false, false, true] false XCode.ret))))))))))
theorem xf39_ok : cmpFunc Go.Proofs.Try.prog 39 ((.two (.tr [true, true] false .no) (.two (.tr [true, true, false, false, false, true] false .no) (.two (.tr [true, false, false, false, false, true, true] false .no) (.two (.two (.tr [true, false, false, false, false, true, true, false, false, false, false, false, false, false, false, false, false, false, false, true] false .no) (.tr [true, false, false, false, true, true, true] false (.two (.two .no (.tr [false, false, false, false, true] false .no)) .no))) (.two (.two (.tr [true, false, false, false, false, true, true, false, false, false, false, false, false, false, false, false, false, false, false, false, false, false, false, false, false, false, false, false, false, false, false, true] false (.draw [0, 1, 2, 3, 4, 5, 6, 7, 8, 9, 10, 11] [])) (.tr [true, false, false, false, true, false, true] false (.two (.two (.tr [true] false .no) (.two (.tr [] false .no) (.two .no (.tr [false, false, false, false, true] false .no)))) .no))) (.two (.tr [true, false, false, false, false, false, true, true] false (.draw [0, 1, 2, 3, 4, 5, 6, 7, 8, 9, 10, 11, 12, 13, 14, 15] [])) (.two (.tr [false, false, false, false, false, false, false, true] false .no) (.two (.tr [false, false, false, false, true] false .no) (.tr [false, false, false, false, true] false .no)))))))))) = some xf39 := by kernel_rfl
def xf40 : XFunc :=
(XFunc.mk 52 [(XRes.tmp 2)] (XCode.seq (XCode.tr [true] false (XCode.region false [(XOper.mk (some 2) (XOp.mv (XArg.lit (AV.c (CV.pv (PV.bool false))))) none
  Cls.p)])) (XCode.seq (XCode.seq (XCode.tr [true, false, false, false, false, false, false, true] false (XCode.region false [(XOper.mk (some 3) (XOp.mv
  (XArg.tmp 0)) none Cls.p), (XOper.mk (some 4) (XOp.nilc (XArg.tmp 3)) none Cls.p), (XOper.mk (some 5) (XOp.faddr 2 (XArg.tmp 4)) none Cls.p), (XOper.mk (some
  6) (XOp.load false 1 (XArg.tmp 5)) none Cls.r), (XOper.mk (some 7) (XOp.bin .neq (XArg.tmp 6) (XArg.lit (AV.c (CV.pv (PV.int .i64 0))))) none Cls.p)]))
  (XCode.tr [true, false, true] false (XCode.cond (XArg.tmp 7) (XCode.seq (XCode.region false [(XOper.mk (some 2) (XOp.mv (XArg.lit (AV.c (CV.pv (PV.bool
  false))))) none Cls.p)]) (XCode.tr [false, false, true] false XCode.ret)) XCode.skip))) (XCode.seq (XCode.seq (XCode.tr [true, false, false, false, false,
  false, false, false, false, false, false, false, false, false, false, false, false, true] false (XCode.region true [(XOper.mk (some 8) (XOp.mv (XArg.tmp 0))
  none Cls.p), (XOper.mk (some 9) (XOp.nilc (XArg.tmp 8)) none Cls.p), (XOper.mk (some 10) (XOp.faddr 1 (XArg.tmp 9)) none Cls.p), (XOper.mk (some 11) (XOp.load
  false 1 (XArg.tmp 10)) none Cls.r), (XOper.mk (some 12) (XOp.mv (XArg.tmp 0)) none Cls.p), (XOper.mk (some 13) (XOp.nilc (XArg.tmp 12)) none Cls.p), (XOper.mk
  (some 14) (XOp.faddr 0 (XArg.tmp 13)) none Cls.p), (XOper.mk (some 15) (XOp.load false 1 (XArg.tmp 14)) none Cls.r), (XOper.mk (some 16) (XOp.lenS (XArg.tmp
  15)) none Cls.p), (XOper.mk (some 17) (XOp.bin .geq (XArg.tmp 11) (XArg.tmp 16)) none Cls.p)])) (XCode.tr [true, false, true] false (XCode.cond (XArg.tmp 17)
  (XCode.seq (XCode.tr [] false (XCode.region false [(XOper.mk (some 18) (XOp.mv (XArg.tmp 0)) none Cls.p), (XOper.mk (some 19) (XOp.nilc (XArg.tmp 18)) none
  Cls.p), (XOper.mk (some 20) (XOp.faddr 2 (XArg.tmp 19)) none Cls.p), (XOper.mk none (XOp.store 1 (XArg.tmp 20) (XArg.lit (AV.c (CV.pv (PV.int .i64 2))))) none
  Cls.w)])) (XCode.seq (XCode.region false [(XOper.mk (some 2) (XOp.mv (XArg.lit (AV.c (CV.pv (PV.bool false))))) none Cls.p)]) (XCode.tr [false, false, true]
  false XCode.ret))) XCode.skip))) (XCode.seq (XCode.seq (XCode.tr [true, false, false, false, false, false, false, false, false, false, false, false, false,
  false, false, false, false, false, false, false, false, false, false, false, false, false, false, false, false, false, true] false (XCode.region true
  [(XOper.mk (some 21) (XOp.mv (XArg.tmp 0)) none Cls.p), (XOper.mk (some 22) (XOp.nilc (XArg.tmp 21)) none Cls.p), (XOper.mk (some 23) (XOp.faddr 0 (XArg.tmp
  22)) none Cls.p), (XOper.mk (some 24) (XOp.load false 1 (XArg.tmp 23)) none Cls.r), (XOper.mk (some 25) (XOp.mv (XArg.tmp 0)) none Cls.p), (XOper.mk (some 26)
  (XOp.nilc (XArg.tmp 25)) none Cls.p), (XOper.mk (some 27) (XOp.faddr 1 (XArg.tmp 26)) none Cls.p), (XOper.mk (some 28) (XOp.load false 1 (XArg.tmp 27)) none
  Cls.r), (XOper.mk (some 29) (XOp.idxS (XArg.tmp 24) (XArg.tmp 28)) none Cls.p), (XOper.mk (some 30) (XOp.bin .gtr (XArg.tmp 29) (XArg.lit (AV.c (CV.pv (PV.int
  .u8 1))))) none Cls.p)])) (XCode.tr [true, false, true] false (XCode.cond (XArg.tmp 30) (XCode.seq (XCode.tr [] false (XCode.region false [(XOper.mk (some 31)
  (XOp.mv (XArg.tmp 0)) none Cls.p), (XOper.mk (some 32) (XOp.nilc (XArg.tmp 31)) none Cls.p), (XOper.mk (some 33) (XOp.faddr 2 (XArg.tmp 32)) none Cls.p),
  (XOper.mk none (XOp.store 1 (XArg.tmp 33) (XArg.lit (AV.c (CV.pv (PV.int .i64 3))))) none Cls.w)])) (XCode.seq (XCode.region false [(XOper.mk (some 2) (XOp.mv
  (XArg.lit (AV.c (CV.pv (PV.bool false))))) none Cls.p)]) (XCode.tr [false, false, true] false XCode.ret))) XCode.skip))) (XCode.seq (XCode.tr [true] false
  (XCode.region false [(XOper.mk (some 34) (XOp.mv (XArg.tmp 0)) none Cls.p), (XOper.mk (some 35) (XOp.nilc (XArg.tmp 34)) none Cls.p), (XOper.mk (some 36)
  (XOp.faddr 1 (XArg.tmp 35)) none Cls.p), (XOper.mk (some 37) (XOp.load false 1 (XArg.tmp 36)) none Cls.r), (XOper.mk (some 38) (XOp.bin .add (XArg.tmp 37)
  (XArg.lit (AV.c (CV.pv (PV.int .i64 1))))) none Cls.p), (XOper.mk (some 39) (XOp.nilc (XArg.tmp 34)) none Cls.p), (XOper.mk (some 40) (XOp.faddr 1 (XArg.tmp
  39)) none Cls.p), (XOper.mk none (XOp.store 1 (XArg.tmp 40) (XArg.tmp 38)) none Cls.w)])) (XCode.seq (XCode.tr [false, false, true] false (XCode.region true
  [(XOper.mk (some 41) (XOp.mv (XArg.tmp 0)) none Cls.p), (XOper.mk (some 42) (XOp.nilc (XArg.tmp 41)) none Cls.p), (XOper.mk (some 43) (XOp.faddr 0 (XArg.tmp
  42)) none Cls.p), (XOper.mk (some 44) (XOp.load false 1 (XArg.tmp 43)) none Cls.r), (XOper.mk (some 45) (XOp.mv (XArg.tmp 0)) none Cls.p), (XOper.mk (some 46)
  (XOp.nilc (XArg.tmp 45)) none Cls.p), (XOper.mk (some 47) (XOp.faddr 1 (XArg.tmp 46)) none Cls.p), (XOper.mk (some 48) (XOp.load false 1 (XArg.tmp 47)) none
  Cls.r), (XOper.mk (some 49) (XOp.bin .sub (XArg.tmp 48) (XArg.lit (AV.c (CV.pv (PV.int .i64 1))))) none Cls.p), (XOper.mk (some 50) (XOp.idxS (XArg.tmp 44)
  (XArg.tmp 49)) none Cls.p), (XOper.mk (some 51) (XOp.bin .eql (XArg.tmp 50) (XArg.lit (AV.c (CV.pv (PV.int .u8 1))))) none Cls.p), (XOper.mk (some 2) (XOp.mv
  (XArg.tmp 51)) none Cls.p)])) (XCode.tr [false, false, true] false XCode.ret))))))))
theorem xf40_ok : cmpFunc Go.Proofs.Try.prog 40 ((.two (.tr [true] false .no) (.two (.two (.tr [true, false, false, false, false, false, false, true] false .no) (.tr [true, false, true] false (.two (.two .no (.tr [false, false, true] false .no)) .no))) (.two (.two (.tr [true, false, false, false, false, false, false, false, false, false, false, false, false, false, false, false, false, true] false (.draw [0, 1, 2, 3, 4, 5, 6, 7, 8, 9] [])) (.tr [true, false, true] false (.two (.two (.tr [] false .no) (.two .no (.tr [false, false, true] false .no))) .no))) (.two (.two (.tr [true, false, false, false, false, false, false, false, false, false, false, false, false, false, false, false, false, false, false, false, false, false, false, false, false, false, false, false, false, false, true] false (.draw [0, 1, 2, 3, 4, 5, 6, 7, 8, 9] [])) (.tr [true, false, true] false (.two (.two (.tr [] false .no) (.two .no (.tr [false, false, true] false .no))) .no))) (.two (.tr [true] false .no) (.two (.tr [false, false, true] false (.draw [0, 1, 2, 3, 4, 5, 6, 7, 8, 9, 10, 11] [])) (.tr [false, false, true] false .no)))))))) = some xf40 := by kernel_rfl
end Go.Sx.Try
