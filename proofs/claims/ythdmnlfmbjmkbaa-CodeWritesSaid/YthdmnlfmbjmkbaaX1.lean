/- Functions of the program in the evaluator's form, each checked by the kernel. Printed by genx.py. -/
import Derived.Test.YthdmnlfmbjmkbaaSxLem
import Derived.Test.YthdmnlfmbjmkbaaProg
import Derived.KernelRfl
namespace Go.Sx.Try
open Go Go.Sx
def xf3_l0 : XCode :=
(XCode.seq (XCode.seq (XCode.tr [true, false, false, false, true, true, true, false, false, false, false, false, false, false, false, false, false, false, true]
  false (XCode.region false [(XOper.mk (some 15) (XOp.mv (XArg.tmp 6)) none Cls.p), (XOper.mk (some 16) (XOp.mv (XArg.tmp 0)) none Cls.p), (XOper.mk (some 17)
  (XOp.len (XArg.tmp 16)) none Cls.p), (XOper.mk (some 18) (XOp.bin .lss (XArg.tmp 15) (XArg.tmp 17)) none Cls.p)])) (XCode.tr [true, false, false, false, true,
  true, true] false (XCode.cond (XArg.tmp 18) XCode.skip (XCode.exit 0)))) (XCode.seq (XCode.tr [true, false, false, false, true, true, true] false (XCode.block
  1 (XCode.seq (XCode.tr [true, false, false, false, true, true, true] false (XCode.region false [(XOper.mk (some 21) (XOp.mv (XArg.tmp 4)) none Cls.p),
  (XOper.mk (some 22) (XOp.mv (XArg.tmp 0)) none Cls.p), (XOper.mk (some 23) (XOp.mv (XArg.tmp 6)) none Cls.p), (XOper.mk (some 24) (XOp.iaddrS 6 (XArg.tmp 22)
  (XArg.tmp 23)) none Cls.p), (XOper.mk (some 25) (XOp.load true 6 (XArg.tmp 24)) none Cls.r), (XOper.mk (some 26) (XOp.call false [] (XArg.lit (AV.c (CV.fn 11
  []))) [(XArg.tmp 21), (XArg.tmp 25)]) none Cls.w)])) (XCode.tr [true, false, false, false, true, true, true] false (XCode.region false [(XOper.mk (some 27)
  (XOp.mv (XArg.tmp 5)) none Cls.p), (XOper.mk (some 28) (XOp.mv (XArg.tmp 0)) none Cls.p), (XOper.mk (some 29) (XOp.mv (XArg.tmp 6)) none Cls.p), (XOper.mk
  (some 30) (XOp.iaddrS 6 (XArg.tmp 28) (XArg.tmp 29)) none Cls.p), (XOper.mk (some 31) (XOp.load true 6 (XArg.tmp 30)) none Cls.r), (XOper.mk (some 32)
  (XOp.call false [] (XArg.lit (AV.c (CV.fn 12 []))) [(XArg.tmp 31)]) none Cls.p), (XOper.mk (some 33) (XOp.app 1 1 (XArg.tmp 27) (XArg.tmp 32)) none Cls.w),
  (XOper.mk (some 5) (XOp.mv (XArg.tmp 33)) none Cls.p)]))))) (XCode.tr [true, false, false, false, true, true, true] false (XCode.region false [(XOper.mk (some
  19) (XOp.mv (XArg.tmp 6)) none Cls.p), (XOper.mk (some 20) (XOp.bin .add (XArg.tmp 19) (XArg.lit (AV.c (CV.pv (PV.int .i64 1))))) none Cls.p), (XOper.mk (some
  6) (XOp.mv (XArg.tmp 20)) none Cls.p)]))))
def xf3_l1 : XCode :=
(XCode.seq (XCode.seq (XCode.tr [false, false, false, false, true, true, false, true, true, false, false, false, false, false, false, false, false, false,
  false, false, false, false, false, false, false, false, false, false, false, false, false, false, false, false, false, true] false (XCode.region false
  [(XOper.mk (some 34) (XOp.mv (XArg.tmp 8)) none Cls.p), (XOper.mk (some 35) (XOp.bin .lss (XArg.tmp 34) (XArg.lit (AV.c (CV.pv (PV.int .i64 5))))) none
  Cls.p)])) (XCode.tr [false, false, false, false, true, true, false, true, true] false (XCode.cond (XArg.tmp 35) XCode.skip (XCode.exit 2)))) (XCode.seq
  (XCode.tr [false, false, false, false, true, true, false, true, true] false (XCode.block 3 (XCode.tr [false, false, false, false, true, true, false, true,
  true] false (XCode.region false [(XOper.mk (some 38) (XOp.mv (XArg.tmp 7)) none Cls.p), (XOper.mk (some 39) (XOp.mv (XArg.tmp 8)) none Cls.p), (XOper.mk (some
  40) (XOp.convI .u8 (XArg.tmp 39)) none Cls.p), (XOper.mk (some 41) (XOp.build [(CV.pv (PV.int .u8 0)), (CV.pv (PV.int .u64 0)), (CV.pv (PV.int .i64 0)),
  (CV.pv (PV.str [])), (CV.pv (PV.int .i64 0)), (CV.pv (PV.int .i64 0))] [(0, (1, (XArg.tmp 40)))]) none Cls.p), (XOper.mk (some 42) (XOp.call false []
  (XArg.lit (AV.c (CV.fn 11 []))) [(XArg.tmp 38), (XArg.tmp 41)]) none Cls.w)])))) (XCode.tr [false, false, false, false, true, true, false, true, true] false
  (XCode.region false [(XOper.mk (some 36) (XOp.mv (XArg.tmp 8)) none Cls.p), (XOper.mk (some 37) (XOp.bin .add (XArg.tmp 36) (XArg.lit (AV.c (CV.pv (PV.int
  .i64 1))))) none Cls.p), (XOper.mk (some 8) (XOp.mv (XArg.tmp 37)) none Cls.p)]))))
def xf3 : XFunc :=
(XFunc.mk 56 [(XRes.tmp 2)] (XCode.seq (XCode.tr [true] false (XCode.region false [(XOper.mk (some 2) (XOp.mv (XArg.lit (AV.c (CV.pv (PV.bool false))))) none
  Cls.p)])) (XCode.seq (XCode.tr [true, false, false, true] false (XCode.region false [(XOper.mk (some 9) (XOp.mv (XArg.tmp 0)) none Cls.p), (XOper.mk (some 10)
  (XOp.call false [] (XArg.lit (AV.c (CV.fn 8 []))) [(XArg.tmp 9)]) none Cls.p), (XOper.mk (some 3) (XOp.mv (XArg.tmp 10)) none Cls.p)])) (XCode.seq (XCode.seq
  (XCode.tr [true, false, false, false, false, false, false, false, false, false, false, false, true] false (XCode.region false [(XOper.mk (some 11) (XOp.mv
  (XArg.tmp 3)) none Cls.p), (XOper.mk (some 12) (XOp.un .not (XArg.tmp 11)) none Cls.p)])) (XCode.tr [true, false, true] false (XCode.cond (XArg.tmp 12)
  (XCode.seq (XCode.tr [false, false, true] false (XCode.region false [(XOper.mk (some 13) (XOp.call false [] (XArg.lit (AV.c (CV.fn 9 []))) []) none Cls.p),
  (XOper.mk (some 2) (XOp.mv (XArg.tmp 13)) none Cls.p)])) XCode.ret) XCode.skip))) (XCode.seq (XCode.tr [true, false, false, false, true] false (XCode.region
  false [(XOper.mk (some 14) (XOp.call false [] (XArg.lit (AV.c (CV.fn 10 []))) []) none Cls.w), (XOper.mk (some 4) (XOp.mv (XArg.tmp 14)) none Cls.p)]))
  (XCode.seq (XCode.region false [(XOper.mk (some 5) (XOp.mv (XArg.lit (AV.c (CV.pv (PV.sl SO.nil 0 []))))) none Cls.p)]) (XCode.seq (XCode.seq (XCode.region
  false [(XOper.mk (some 6) (XOp.mv (XArg.lit (AV.c (CV.pv (PV.int .i64 0))))) none Cls.p)]) (XCode.tr [false, false, false, false, true, true] false
  (XCode.block 0 (XCode.loop [true, false, false, false, true, true, true] xf3_l0)))) (XCode.seq (XCode.region false [(XOper.mk (some 7) (XOp.mv (XArg.lit (AV.c
  CV.nilp))) none Cls.p)]) (XCode.seq (XCode.seq (XCode.region false [(XOper.mk (some 8) (XOp.mv (XArg.lit (AV.c (CV.pv (PV.int .i64 0))))) none Cls.p)])
  (XCode.tr [false, false, false, false, true, true, false, true] false (XCode.block 2 (XCode.loop [false, false, false, false, true, true, false, true, true]
  xf3_l1)))) (XCode.seq (XCode.tr [false, false, true] false (XCode.region true [(XOper.mk (some 43) (XOp.call false [] (XArg.lit (AV.c (CV.fn 9 []))) []) none
  Cls.p), (XOper.mk (some 44) (XOp.mv (XArg.tmp 43)) none Cls.p), (XOper.mk (some 45) (XOp.mv (XArg.tmp 4)) (some (44, true)) Cls.p), (XOper.mk (some 47)
  (XOp.mv (XArg.tmp 5)) (some (44, true)) Cls.p), (XOper.mk (some 48) (XOp.bytesS (XArg.tmp 47)) (some (44, true)) Cls.p), (XOper.mk (some 46) (XOp.call false
  [] (XArg.lit (AV.c (CV.fn 13 []))) [(XArg.tmp 45)]) (some (44, true)) Cls.w), (XOper.mk (some 49) (XOp.bin .eql (XArg.tmp 46) (XArg.tmp 48)) (some (44, true))
  Cls.p), (XOper.mk (some 50) (XOp.pick (XArg.tmp 44) (XArg.tmp 49) (XArg.lit (AV.c (CV.pv (PV.bool false))))) none Cls.p), (XOper.mk (some 51) (XOp.mv
  (XArg.tmp 50)) none Cls.p), (XOper.mk (some 52) (XOp.mv (XArg.tmp 7)) (some (51, true)) Cls.p), (XOper.mk (some 53) (XOp.call false [] (XArg.lit (AV.c (CV.fn
  13 []))) [(XArg.tmp 52)]) (some (51, true)) Cls.w), (XOper.mk (some 54) (XOp.bin .eql (XArg.tmp 53) (XArg.lit (AV.c (CV.pv (PV.str []))))) (some (51, true))
  Cls.p), (XOper.mk (some 55) (XOp.pick (XArg.tmp 51) (XArg.tmp 54) (XArg.lit (AV.c (CV.pv (PV.bool false))))) none Cls.p), (XOper.mk (some 2) (XOp.mv (XArg.tmp
  55)) none Cls.p)])) XCode.ret))))))))))
theorem xf3_ok : cmpFunc Go.Proofs.Try.prog 3 ((.two (.tr [true] false .no) (.two (.tr [true, false, false, true] false (.ops [{}, { cls := some .p }])) (.two (.two (.tr [true, false, false, false, false, false, false, false, false, false, false, false, true] false .no) (.tr [true, false, true] false (.two (.two (.tr [false, false, true] false (.ops [{ cls := some .p }])) .no) .no))) (.two (.tr [true, false, false, false, true] false .no) (.two .no (.two (.two .no (.tr [false, false, false, false, true, true] false (.loop [true, false, false, false, true, true, true] (.two (.two (.tr [true, false, false, false, true, true, true, false, false, false, false, false, false, false, false, false, false, false, true] false .no) (.tr [true, false, false, false, true, true, true] false .no)) (.two (.tr [true, false, false, false, true, true, true] false (.two (.tr [true, false, false, false, true, true, true] false .no) (.tr [true, false, false, false, true, true, true] false (.ops [{}, {}, {}, {}, {}, { cls := some .p }])))) (.tr [true, false, false, false, true, true, true] false .no)))))) (.two .no (.two (.two .no (.tr [false, false, false, false, true, true, false, true] false (.loop [false, false, false, false, true, true, false, true, true] (.two (.two (.tr [false, false, false, false, true, true, false, true, true, false, false, false, false, false, false, false, false, false, false, false, false, false, false, false, false, false, false, false, false, false, false, false, false, false, false, true] false .no) (.tr [false, false, false, false, true, true, false, true, true] false .no)) (.two (.tr [false, false, false, false, true, true, false, true, true] false (.tr [false, false, false, false, true, true, false, true, true] false .no)) (.tr [false, false, false, false, true, true, false, true, true] false .no)))))) (.two (.tr [false, false, true] false (.draw [0, 1, 2, 4, 5, 3, 6, 7, 8, 9, 10, 11, 12, 13] [{ cls := some .p }])) .no)))))))))) = some xf3 := by kernel_rfl
def xf8_l0 : XCode :=
(XCode.seq (XCode.seq (XCode.tr [true, false, false, true, false, false, false, false, false, false, true] false (XCode.region false [(XOper.mk (some 7) (XOp.mv
  (XArg.tmp 3)) none Cls.p), (XOper.mk (some 8) (XOp.mv (XArg.tmp 0)) none Cls.p), (XOper.mk (some 9) (XOp.len (XArg.tmp 8)) none Cls.p), (XOper.mk (some 10)
  (XOp.bin .lss (XArg.tmp 7) (XArg.tmp 9)) none Cls.p)])) (XCode.tr [true, false, false, true] false (XCode.cond (XArg.tmp 10) XCode.skip (XCode.exit 0))))
  (XCode.seq (XCode.tr [true, false, true, true] false (XCode.block 1 (XCode.seq (XCode.tr [true, false, false, true, false, false, false, false, false, false,
  false, false, false, false, false, false, false, false, false, true] false (XCode.region false [(XOper.mk (some 13) (XOp.mv (XArg.tmp 0)) none Cls.p),
  (XOper.mk (some 14) (XOp.mv (XArg.tmp 3)) none Cls.p), (XOper.mk (some 15) (XOp.iaddrS 6 (XArg.tmp 13) (XArg.tmp 14)) none Cls.p), (XOper.mk (some 16)
  (XOp.faddr 3 (XArg.tmp 15)) none Cls.p), (XOper.mk (some 17) (XOp.load false 1 (XArg.tmp 16)) none Cls.r), (XOper.mk (some 18) (XOp.lenS (XArg.tmp 17)) none
  Cls.p), (XOper.mk (some 19) (XOp.bin .gtr (XArg.tmp 18) (XArg.lit (AV.c (CV.pv (PV.int .i64 400))))) none Cls.p)])) (XCode.tr [true, false, true, true] false
  (XCode.cond (XArg.tmp 19) (XCode.seq (XCode.region false [(XOper.mk (some 2) (XOp.mv (XArg.lit (AV.c (CV.pv (PV.bool false))))) none Cls.p)]) XCode.ret)
  XCode.skip))))) (XCode.tr [true, false, false, true] false (XCode.region false [(XOper.mk (some 11) (XOp.mv (XArg.tmp 3)) none Cls.p), (XOper.mk (some 12)
  (XOp.bin .add (XArg.tmp 11) (XArg.lit (AV.c (CV.pv (PV.int .i64 1))))) none Cls.p), (XOper.mk (some 3) (XOp.mv (XArg.tmp 12)) none Cls.p)]))))
def xf8 : XFunc :=
(XFunc.mk 20 [(XRes.tmp 2)] (XCode.seq (XCode.tr [true] false (XCode.region false [(XOper.mk (some 2) (XOp.mv (XArg.lit (AV.c (CV.pv (PV.bool false))))) none
  Cls.p)])) (XCode.seq (XCode.seq (XCode.tr [true, false, false, false, false, false, true] false (XCode.region false [(XOper.mk (some 4) (XOp.mv (XArg.tmp 0))
  none Cls.p), (XOper.mk (some 5) (XOp.len (XArg.tmp 4)) none Cls.p), (XOper.mk (some 6) (XOp.bin .gtr (XArg.tmp 5) (XArg.lit (AV.c (CV.pv (PV.int .i64 60)))))
  none Cls.p)])) (XCode.tr [true, false, true] false (XCode.cond (XArg.tmp 6) (XCode.seq (XCode.region false [(XOper.mk (some 2) (XOp.mv (XArg.lit (AV.c (CV.pv
  (PV.bool false))))) none Cls.p)]) XCode.ret) XCode.skip))) (XCode.seq (XCode.seq (XCode.region false [(XOper.mk (some 3) (XOp.mv (XArg.lit (AV.c (CV.pv
  (PV.int .i64 0))))) none Cls.p)]) (XCode.tr [false, false, true] false (XCode.block 0 (XCode.loop [true, false, false, true] xf8_l0)))) (XCode.seq
  (XCode.region false [(XOper.mk (some 2) (XOp.mv (XArg.lit (AV.c (CV.pv (PV.bool true))))) none Cls.p)]) XCode.ret)))))
theorem xf8_ok : cmpFunc Go.Proofs.Try.prog 8 ((.two (.tr [true] false .no) (.two (.two (.tr [true, false, false, false, false, false, true] false .no) (.tr [true, false, true] false .no)) (.two (.two .no (.tr [false, false, true] false (.loop [true, false, false, true] (.two (.two (.tr [true, false, false, true, false, false, false, false, false, false, true] false .no) (.tr [true, false, false, true] false .no)) (.two (.tr [true, false, true, true] false (.two (.tr [true, false, false, true, false, false, false, false, false, false, false, false, false, false, false, false, false, false, false, true] false .no) (.tr [true, false, true, true] false .no))) (.tr [true, false, false, true] false .no)))))) .no)))) = some xf8 := by kernel_rfl
def xf9 : XFunc :=
(XFunc.mk 109 [(XRes.tmp 0)] (XCode.seq (XCode.tr [] false (XCode.region false [(XOper.mk (some 0) (XOp.mv (XArg.lit (AV.c (CV.pv (PV.bool false))))) none
  Cls.p)])) (XCode.seq (XCode.tr [false, true] false (XCode.region false [(XOper.mk (some 13) (XOp.call false [] (XArg.lit (AV.c (CV.fn 10 []))) []) none
  Cls.w), (XOper.mk (some 1) (XOp.mv (XArg.tmp 13)) none Cls.p)])) (XCode.seq (XCode.tr [false, true] false (XCode.region false [(XOper.mk (some 14) (XOp.mv
  (XArg.tmp 1)) none Cls.p), (XOper.mk (some 15) (XOp.call false [] (XArg.lit (AV.c (CV.fn 28 []))) [(XArg.tmp 14), (XArg.lit (AV.c (CV.pv (PV.int .u64
  300))))]) none Cls.w)])) (XCode.seq (XCode.tr [false, true] false (XCode.region false [(XOper.mk (some 16) (XOp.mv (XArg.tmp 1)) none Cls.p), (XOper.mk (some
  17) (XOp.call false [] (XArg.lit (AV.c (CV.fn 29 []))) [(XArg.tmp 16), (XArg.lit (AV.c (CV.pv (PV.int .i64 (-3)))))]) none Cls.w)])) (XCode.seq (XCode.tr
  [false, true] false (XCode.region false [(XOper.mk (some 18) (XOp.mv (XArg.tmp 1)) none Cls.p), (XOper.mk (some 19) (XOp.call false [] (XArg.lit (AV.c (CV.fn
  30 []))) [(XArg.tmp 18), (XArg.lit (AV.c (CV.pv (PV.str [97, 98]))))]) none Cls.w)])) (XCode.seq (XCode.tr [false, true] false (XCode.region false [(XOper.mk
  (some 20) (XOp.mv (XArg.tmp 1)) none Cls.p), (XOper.mk (some 21) (XOp.call false [] (XArg.lit (AV.c (CV.fn 31 []))) [(XArg.tmp 20), (XArg.lit (AV.c (CV.pv
  (PV.bool true))))]) none Cls.w)])) (XCode.seq (XCode.tr [false, true] false (XCode.region false [(XOper.mk (some 22) (XOp.mv (XArg.tmp 1)) none Cls.p),
  (XOper.mk (some 23) (XOp.build [(CV.pv (PV.int .i64 0)), (CV.pv (PV.int .i64 0))] [(0, (1, (XArg.lit (AV.c (CV.pv (PV.int .i64 2)))))), (1, (1, (XArg.lit
  (AV.c (CV.pv (PV.int .i64 (-1)))))))]) none Cls.p), (XOper.mk (some 24) (XOp.call false [] (XArg.lit (AV.c (CV.fn 32 []))) [(XArg.tmp 22), (XArg.tmp 23)])
  none Cls.w)])) (XCode.seq (XCode.tr [false, false, true] false (XCode.region false [(XOper.mk (some 25) (XOp.mv (XArg.tmp 1)) none Cls.p), (XOper.mk (some 26)
  (XOp.call false [] (XArg.lit (AV.c (CV.fn 13 []))) [(XArg.tmp 25)]) none Cls.w), (XOper.mk (some 2) (XOp.mv (XArg.tmp 26)) none Cls.p)])) (XCode.seq (XCode.tr
  [false, false, true, true] false (XCode.region false [(XOper.mk (some 27) (XOp.mv (XArg.tmp 2)) none Cls.p), (XOper.mk (some 28) (XOp.call false [] (XArg.lit
  (AV.c (CV.fn 14 []))) [(XArg.tmp 27)]) none Cls.w), (XOper.mk (some 3) (XOp.mv (XArg.tmp 28)) none Cls.p)])) (XCode.seq (XCode.tr [false, false, true, true,
  true] false (XCode.region false [(XOper.mk (some 29) (XOp.mv (XArg.tmp 3)) none Cls.p), (XOper.mk (some 30) (XOp.call false [] (XArg.lit (AV.c (CV.fn 22 [])))
  [(XArg.tmp 29)]) none Cls.w), (XOper.mk (some 4) (XOp.mv (XArg.tmp 30)) none Cls.p)])) (XCode.seq (XCode.tr [false, false, true, true, true, true] false
  (XCode.region false [(XOper.mk (some 31) (XOp.mv (XArg.tmp 3)) none Cls.p), (XOper.mk (some 32) (XOp.call false [] (XArg.lit (AV.c (CV.fn 23 []))) [(XArg.tmp
  31)]) none Cls.w), (XOper.mk (some 5) (XOp.mv (XArg.tmp 32)) none Cls.p)])) (XCode.seq (XCode.tr [false, false, true, true, true, true, true] false
  (XCode.region false [(XOper.mk (some 33) (XOp.mv (XArg.tmp 3)) none Cls.p), (XOper.mk (some 34) (XOp.call false [] (XArg.lit (AV.c (CV.fn 24 []))) [(XArg.tmp
  33), (XArg.lit (AV.c (CV.pv (PV.int .i64 2))))]) none Cls.w), (XOper.mk (some 6) (XOp.mv (XArg.tmp 34)) none Cls.p)])) (XCode.seq (XCode.tr [false, false,
  true, true, true, true, true, true] false (XCode.region false [(XOper.mk (some 35) (XOp.mv (XArg.tmp 3)) none Cls.p), (XOper.mk (some 36) (XOp.call false []
  (XArg.lit (AV.c (CV.fn 25 []))) [(XArg.tmp 35)]) none Cls.w), (XOper.mk (some 7) (XOp.mv (XArg.tmp 36)) none Cls.p)])) (XCode.seq (XCode.tr [false, false,
  true, true, true, true, true, true, true] false (XCode.region false [(XOper.mk (some 37) (XOp.mv (XArg.tmp 3)) none Cls.p), (XOper.mk (some 38) (XOp.call
  false [] (XArg.lit (AV.c (CV.fn 26 []))) [(XArg.tmp 37)]) none Cls.w), (XOper.mk (some 8) (XOp.alloc [(CV.pv (PV.int .i64 0)), (CV.pv (PV.int .i64 0))]) none
  Cls.w), (XOper.mk none (XOp.store 2 (XArg.tmp 8) (XArg.tmp 38)) none Cls.w)])) (XCode.seq (XCode.tr [false, false, true, true, true, true, true, true, true,
  true] false (XCode.region false [(XOper.mk (some 39) (XOp.mv (XArg.tmp 3)) none Cls.p), (XOper.mk (some 40) (XOp.call false [] (XArg.lit (AV.c (CV.fn 18 [])))
  [(XArg.tmp 39)]) none Cls.w), (XOper.mk (some 9) (XOp.mv (XArg.tmp 40)) none Cls.p)])) (XCode.seq (XCode.tr [false, false, true, true, true, true, true, true,
  true, true, true] false (XCode.region false [(XOper.mk (some 41) (XOp.buildSl [(CV.pv (PV.int .u8 0))] 2 1 [(0, (1, (XArg.lit (AV.c (CV.pv (PV.int .u8
  128)))))), (1, (1, (XArg.lit (AV.c (CV.pv (PV.int .u8 0))))))]) none Cls.p), (XOper.mk (some 42) (XOp.bytesS (XArg.tmp 41)) none Cls.p), (XOper.mk (some 43)
  (XOp.call false [] (XArg.lit (AV.c (CV.fn 14 []))) [(XArg.tmp 42)]) none Cls.w), (XOper.mk (some 10) (XOp.mv (XArg.tmp 43)) none Cls.p)])) (XCode.seq
  (XCode.tr [false, false, true, true, true, true, true, true, true, true, true] false (XCode.region false [(XOper.mk (some 44) (XOp.mv (XArg.tmp 10)) none
  Cls.p), (XOper.mk (some 45) (XOp.call false [] (XArg.lit (AV.c (CV.fn 22 []))) [(XArg.tmp 44)]) none Cls.w)])) (XCode.seq (XCode.tr [false, false, true, true,
  true, true, true, true, true, true, true, true] false (XCode.region false [(XOper.mk (some 46) (XOp.buildSl [(CV.pv (PV.int .u8 0))] 2 1 [(0, (1, (XArg.lit
  (AV.c (CV.pv (PV.int .u8 3)))))), (1, (1, (XArg.lit (AV.c (CV.pv (PV.int .u8 65))))))]) none Cls.p), (XOper.mk (some 47) (XOp.bytesS (XArg.tmp 46)) none
  Cls.p), (XOper.mk (some 48) (XOp.call false [] (XArg.lit (AV.c (CV.fn 14 []))) [(XArg.tmp 47)]) none Cls.w), (XOper.mk (some 11) (XOp.mv (XArg.tmp 48)) none
  Cls.p)])) (XCode.seq (XCode.tr [false, false, true, true, true, true, true, true, true, true, true, true] false (XCode.region false [(XOper.mk (some 49)
  (XOp.mv (XArg.tmp 11)) none Cls.p), (XOper.mk (some 50) (XOp.call false [] (XArg.lit (AV.c (CV.fn 24 []))) [(XArg.tmp 49), (XArg.lit (AV.c (CV.pv (PV.int .i64
  9))))]) none Cls.w)])) (XCode.seq (XCode.tr [false, false, true, true, true, true, true, true, true, true, true, true, true] false (XCode.region false
  [(XOper.mk (some 51) (XOp.buildSl [(CV.pv (PV.int .u8 0))] 2 1 [(0, (1, (XArg.lit (AV.c (CV.pv (PV.int .u8 3)))))), (1, (1, (XArg.lit (AV.c (CV.pv (PV.int .u8
  65))))))]) none Cls.p), (XOper.mk (some 52) (XOp.bytesS (XArg.tmp 51)) none Cls.p), (XOper.mk (some 53) (XOp.call false [] (XArg.lit (AV.c (CV.fn 14 [])))
  [(XArg.tmp 52)]) none Cls.w), (XOper.mk (some 12) (XOp.mv (XArg.tmp 53)) none Cls.p)])) (XCode.seq (XCode.tr [false, false, true, true, true, true, true,
  true, true, true, true, true, true] false (XCode.region false [(XOper.mk (some 54) (XOp.mv (XArg.tmp 12)) none Cls.p), (XOper.mk (some 55) (XOp.call false []
  (XArg.lit (AV.c (CV.fn 24 []))) [(XArg.tmp 54), (XArg.lit (AV.c (CV.pv (PV.int .i64 2))))]) none Cls.w)])) (XCode.seq (XCode.tr [true] false (XCode.region
  false [(XOper.mk (some 56) (XOp.mv (XArg.tmp 2)) none Cls.p), (XOper.mk (some 57) (XOp.buildSl [(CV.pv (PV.int .u8 0))] 9 1 [(0, (1, (XArg.lit (AV.c (CV.pv
  (PV.int .u8 172)))))), (1, (1, (XArg.lit (AV.c (CV.pv (PV.int .u8 2)))))), (2, (1, (XArg.lit (AV.c (CV.pv (PV.int .u8 5)))))), (3, (1, (XArg.lit (AV.c (CV.pv
  (PV.int .u8 2)))))), (4, (1, (XArg.lit (AV.c (CV.pv (PV.int .u8 97)))))), (5, (1, (XArg.lit (AV.c (CV.pv (PV.int .u8 98)))))), (6, (1, (XArg.lit (AV.c (CV.pv
  (PV.int .u8 1)))))), (7, (1, (XArg.lit (AV.c (CV.pv (PV.int .u8 4)))))), (8, (1, (XArg.lit (AV.c (CV.pv (PV.int .u8 1))))))]) none Cls.p), (XOper.mk (some 58)
  (XOp.bytesS (XArg.tmp 57)) none Cls.p), (XOper.mk (some 59) (XOp.bin .eql (XArg.tmp 56) (XArg.tmp 58)) none Cls.p), (XOper.mk (some 60) (XOp.mv (XArg.tmp 59))
  none Cls.p), (XOper.mk (some 61) (XOp.mv (XArg.tmp 4)) (some (60, true)) Cls.p), (XOper.mk (some 62) (XOp.bin .eql (XArg.tmp 61) (XArg.lit (AV.c (CV.pv
  (PV.int .u64 300))))) (some (60, true)) Cls.p), (XOper.mk (some 63) (XOp.pick (XArg.tmp 60) (XArg.tmp 62) (XArg.lit (AV.c (CV.pv (PV.bool false))))) none
  Cls.p), (XOper.mk (some 64) (XOp.mv (XArg.tmp 63)) none Cls.p), (XOper.mk (some 65) (XOp.mv (XArg.tmp 5)) (some (64, true)) Cls.p), (XOper.mk (some 66)
  (XOp.bin .eql (XArg.tmp 65) (XArg.lit (AV.c (CV.pv (PV.int .i64 (-3)))))) (some (64, true)) Cls.p), (XOper.mk (some 67) (XOp.pick (XArg.tmp 64) (XArg.tmp 66)
  (XArg.lit (AV.c (CV.pv (PV.bool false))))) none Cls.p), (XOper.mk (some 68) (XOp.mv (XArg.tmp 67)) none Cls.p), (XOper.mk (some 69) (XOp.mv (XArg.tmp 6))
  (some (68, true)) Cls.p), (XOper.mk (some 70) (XOp.bin .eql (XArg.tmp 69) (XArg.lit (AV.c (CV.pv (PV.str [97, 98]))))) (some (68, true)) Cls.p), (XOper.mk
  (some 71) (XOp.pick (XArg.tmp 68) (XArg.tmp 70) (XArg.lit (AV.c (CV.pv (PV.bool false))))) none Cls.p), (XOper.mk (some 72) (XOp.mv (XArg.tmp 71)) none
  Cls.p), (XOper.mk (some 73) (XOp.mv (XArg.tmp 7)) (some (72, true)) Cls.p), (XOper.mk (some 74) (XOp.pick (XArg.tmp 72) (XArg.tmp 73) (XArg.lit (AV.c (CV.pv
  (PV.bool false))))) none Cls.p), (XOper.mk (some 75) (XOp.mv (XArg.tmp 74)) none Cls.p), (XOper.mk (some 76) (XOp.load true 2 (XArg.tmp 8)) (some (75, true))
  Cls.r), (XOper.mk (some 77) (XOp.build [(CV.pv (PV.int .i64 0)), (CV.pv (PV.int .i64 0))] [(0, (1, (XArg.lit (AV.c (CV.pv (PV.int .i64 2)))))), (1, (1,
  (XArg.lit (AV.c (CV.pv (PV.int .i64 (-1)))))))]) (some (75, true)) Cls.p), (XOper.mk (some 78) (XOp.eqA false [0, 0] (XArg.tmp 76) (XArg.tmp 77)) (some (75,
  true)) Cls.p), (XOper.mk (some 79) (XOp.pick (XArg.tmp 75) (XArg.tmp 78) (XArg.lit (AV.c (CV.pv (PV.bool false))))) none Cls.p), (XOper.mk (some 80) (XOp.mv
  (XArg.tmp 79)) none Cls.p), (XOper.mk (some 81) (XOp.mv (XArg.tmp 9)) (some (80, true)) Cls.p), (XOper.mk (some 82) (XOp.bin .eql (XArg.tmp 81) (XArg.lit
  (AV.c (CV.pv (PV.int .i64 0))))) (some (80, true)) Cls.p), (XOper.mk (some 83) (XOp.pick (XArg.tmp 80) (XArg.tmp 82) (XArg.lit (AV.c (CV.pv (PV.bool
  false))))) none Cls.p), (XOper.mk (some 84) (XOp.mv (XArg.tmp 83)) none Cls.p), (XOper.mk (some 85) (XOp.mv (XArg.tmp 3)) (some (84, true)) Cls.p), (XOper.mk
  (some 86) (XOp.call false [] (XArg.lit (AV.c (CV.fn 17 []))) [(XArg.tmp 85)]) (some (84, true)) Cls.w), (XOper.mk (some 87) (XOp.bin .eql (XArg.tmp 86)
  (XArg.lit (AV.c (CV.pv (PV.int .i64 0))))) (some (84, true)) Cls.p), (XOper.mk (some 88) (XOp.pick (XArg.tmp 84) (XArg.tmp 87) (XArg.lit (AV.c (CV.pv (PV.bool
  false))))) none Cls.p), (XOper.mk (some 89) (XOp.mv (XArg.tmp 88)) none Cls.p), (XOper.mk (some 90) (XOp.mv (XArg.tmp 10)) (some (89, true)) Cls.p), (XOper.mk
  (some 91) (XOp.call false [] (XArg.lit (AV.c (CV.fn 16 []))) [(XArg.tmp 90)]) (some (89, true)) Cls.w), (XOper.mk (some 92) (XOp.bin .eql (XArg.tmp 91)
  (XArg.lit (AV.c (CV.pv (PV.int .i64 3))))) (some (89, true)) Cls.p), (XOper.mk (some 93) (XOp.pick (XArg.tmp 89) (XArg.tmp 92) (XArg.lit (AV.c (CV.pv (PV.bool
  false))))) none Cls.p), (XOper.mk (some 94) (XOp.mv (XArg.tmp 93)) none Cls.p), (XOper.mk (some 95) (XOp.mv (XArg.tmp 11)) (some (94, true)) Cls.p), (XOper.mk
  (some 96) (XOp.call false [] (XArg.lit (AV.c (CV.fn 16 []))) [(XArg.tmp 95)]) (some (94, true)) Cls.w), (XOper.mk (some 97) (XOp.bin .eql (XArg.tmp 96)
  (XArg.lit (AV.c (CV.pv (PV.int .i64 2))))) (some (94, true)) Cls.p), (XOper.mk (some 98) (XOp.pick (XArg.tmp 94) (XArg.tmp 97) (XArg.lit (AV.c (CV.pv (PV.bool
  false))))) none Cls.p), (XOper.mk (some 99) (XOp.mv (XArg.tmp 98)) none Cls.p), (XOper.mk (some 100) (XOp.mv (XArg.tmp 12)) (some (99, true)) Cls.p),
  (XOper.mk (some 101) (XOp.call false [] (XArg.lit (AV.c (CV.fn 16 []))) [(XArg.tmp 100)]) (some (99, true)) Cls.w), (XOper.mk (some 102) (XOp.bin .eql
  (XArg.tmp 101) (XArg.lit (AV.c (CV.pv (PV.int .i64 4))))) (some (99, true)) Cls.p), (XOper.mk (some 103) (XOp.pick (XArg.tmp 99) (XArg.tmp 102) (XArg.lit
  (AV.c (CV.pv (PV.bool false))))) none Cls.p), (XOper.mk (some 104) (XOp.mv (XArg.tmp 103)) none Cls.p), (XOper.mk (some 105) (XOp.mv (XArg.tmp 12)) (some
  (104, true)) Cls.p), (XOper.mk (some 106) (XOp.call false [] (XArg.lit (AV.c (CV.fn 17 []))) [(XArg.tmp 105)]) (some (104, true)) Cls.w), (XOper.mk (some 107)
  (XOp.bin .eql (XArg.tmp 106) (XArg.lit (AV.c (CV.pv (PV.int .i64 2))))) (some (104, true)) Cls.p), (XOper.mk (some 108) (XOp.pick (XArg.tmp 104) (XArg.tmp
  107) (XArg.lit (AV.c (CV.pv (PV.bool false))))) none Cls.p), (XOper.mk (some 0) (XOp.mv (XArg.tmp 108)) none Cls.p)])) XCode.ret)))))))))))))))))))))))
theorem xf9_ok : cmpFunc Go.Proofs.Try.prog 9 ((.two (.tr [] false .no) (.two (.tr [false, true] false .no) (.two (.tr [false, true] false .no) (.two (.tr [false, true] false .no) (.two (.tr [false, true] false .no) (.two (.tr [false, true] false .no) (.two (.tr [false, true] false .no) (.two (.tr [false, false, true] false .no) (.two (.tr [false, false, true, true] false .no) (.two (.tr [false, false, true, true, true] false .no) (.two (.tr [false, false, true, true, true, true] false .no) (.two (.tr [false, false, true, true, true, true, true] false .no) (.two (.tr [false, false, true, true, true, true, true, true] false .no) (.two (.tr [false, false, true, true, true, true, true, true, true] false .no) (.two (.tr [false, false, true, true, true, true, true, true, true, true] false .no) (.two (.tr [false, false, true, true, true, true, true, true, true, true, true] false .no) (.two (.tr [false, false, true, true, true, true, true, true, true, true, true] false .no) (.two (.tr [false, false, true, true, true, true, true, true, true, true, true, true] false .no) (.two (.tr [false, false, true, true, true, true, true, true, true, true, true, true] false .no) (.two (.tr [false, false, true, true, true, true, true, true, true, true, true, true, true] false .no) (.two (.tr [false, false, true, true, true, true, true, true, true, true, true, true, true] false .no) (.two (.tr [true] false .no) .no))))))))))))))))))))))) = some xf9 := by kernel_rfl
def xf10 : XFunc :=
(XFunc.mk 3 [(XRes.tmp 0)] (XCode.seq (XCode.tr [] false (XCode.region false [(XOper.mk (some 0) (XOp.mv (XArg.lit (AV.c CV.nilp))) none Cls.p)])) (XCode.seq
  (XCode.tr [true] false (XCode.region false [(XOper.mk (some 1) (XOp.build [(CV.pv (PV.sl SO.nil 0 []))] []) none Cls.p), (XOper.mk (some 2) (XOp.box (XArg.tmp
  1) 1) none Cls.w), (XOper.mk (some 0) (XOp.mv (XArg.tmp 2)) none Cls.p)])) XCode.ret)))
theorem xf10_ok : cmpFunc Go.Proofs.Try.prog 10 ((.two (.tr [] false .no) (.two (.tr [true] false .no) .no))) = some xf10 := by kernel_rfl
def xf11 : XFunc :=
(XFunc.mk 39 [] (XCode.seq (XCode.tr [true, false, false, true] false (XCode.region false [(XOper.mk (some 3) (XOp.box (XArg.tmp 1) 6) none Cls.w)])) (XCode.seq
  (XCode.tr [true, false, false, true, false, false, true] false (XCode.region false [(XOper.mk (some 4) (XOp.faddr 0 (XArg.tmp 3)) none Cls.p), (XOper.mk (some
  5) (XOp.load false 1 (XArg.tmp 4)) none Cls.r), (XOper.mk (some 6) (XOp.bin .rem (XArg.tmp 5) (XArg.lit (AV.c (CV.pv (PV.int .u8 5))))) none Cls.p)]))
  (XCode.tr [] false (XCode.block 0 (XCode.seq (XCode.tr [true, false, false, true, false, false, true, true] false (XCode.region false [(XOper.mk (some 8)
  (XOp.bin .eql (XArg.tmp 6) (XArg.lit (AV.c (CV.pv (PV.int .u8 0))))) none Cls.p), (XOper.mk (some 7) (XOp.mv (XArg.tmp 8)) none Cls.p)])) (XCode.tr [] false
  (XCode.cond (XArg.tmp 7) (XCode.tr [] false (XCode.region false [(XOper.mk (some 9) (XOp.mv (XArg.tmp 0)) none Cls.p), (XOper.mk (some 10) (XOp.faddr 1
  (XArg.tmp 3)) none Cls.p), (XOper.mk (some 11) (XOp.load false 1 (XArg.tmp 10)) none Cls.r), (XOper.mk (some 12) (XOp.call false [] (XArg.lit (AV.c (CV.fn 28
  []))) [(XArg.tmp 9), (XArg.tmp 11)]) none Cls.w)])) (XCode.seq (XCode.tr [true, false, false, true, false, false, true, false, false, false, false, false,
  false, true] false (XCode.region false [(XOper.mk (some 14) (XOp.bin .eql (XArg.tmp 6) (XArg.lit (AV.c (CV.pv (PV.int .u8 1))))) none Cls.p), (XOper.mk (some
  13) (XOp.mv (XArg.tmp 14)) none Cls.p)])) (XCode.tr [] false (XCode.cond (XArg.tmp 13) (XCode.tr [] false (XCode.region false [(XOper.mk (some 15) (XOp.mv
  (XArg.tmp 0)) none Cls.p), (XOper.mk (some 16) (XOp.faddr 2 (XArg.tmp 3)) none Cls.p), (XOper.mk (some 17) (XOp.load false 1 (XArg.tmp 16)) none Cls.r),
  (XOper.mk (some 18) (XOp.call false [] (XArg.lit (AV.c (CV.fn 29 []))) [(XArg.tmp 15), (XArg.tmp 17)]) none Cls.w)])) (XCode.seq (XCode.tr [true, false,
  false, true, false, false, true, false, false, false, false, false, false, false, false, false, false, false, false, true] false (XCode.region false
  [(XOper.mk (some 20) (XOp.bin .eql (XArg.tmp 6) (XArg.lit (AV.c (CV.pv (PV.int .u8 2))))) none Cls.p), (XOper.mk (some 19) (XOp.mv (XArg.tmp 20)) none
  Cls.p)])) (XCode.tr [] false (XCode.cond (XArg.tmp 19) (XCode.tr [] false (XCode.region false [(XOper.mk (some 21) (XOp.mv (XArg.tmp 0)) none Cls.p),
  (XOper.mk (some 22) (XOp.faddr 3 (XArg.tmp 3)) none Cls.p), (XOper.mk (some 23) (XOp.load false 1 (XArg.tmp 22)) none Cls.r), (XOper.mk (some 24) (XOp.call
  false [] (XArg.lit (AV.c (CV.fn 30 []))) [(XArg.tmp 21), (XArg.tmp 23)]) none Cls.w)])) (XCode.seq (XCode.tr [true, false, false, true, false, false, true,
  false, false, false, false, false, false, false, false, false, false, false, false, false, false, false, false, false, false, true] false (XCode.region false
  [(XOper.mk (some 26) (XOp.bin .eql (XArg.tmp 6) (XArg.lit (AV.c (CV.pv (PV.int .u8 3))))) none Cls.p), (XOper.mk (some 25) (XOp.mv (XArg.tmp 26)) none
  Cls.p)])) (XCode.tr [] false (XCode.cond (XArg.tmp 25) (XCode.tr [] false (XCode.region false [(XOper.mk (some 27) (XOp.mv (XArg.tmp 0)) none Cls.p),
  (XOper.mk (some 28) (XOp.faddr 1 (XArg.tmp 3)) none Cls.p), (XOper.mk (some 29) (XOp.load false 1 (XArg.tmp 28)) none Cls.r), (XOper.mk (some 30) (XOp.bin
  .rem (XArg.tmp 29) (XArg.lit (AV.c (CV.pv (PV.int .u64 2))))) none Cls.p), (XOper.mk (some 31) (XOp.bin .eql (XArg.tmp 30) (XArg.lit (AV.c (CV.pv (PV.int .u64
  1))))) none Cls.p), (XOper.mk (some 32) (XOp.call false [] (XArg.lit (AV.c (CV.fn 31 []))) [(XArg.tmp 27), (XArg.tmp 31)]) none Cls.w)])) (XCode.seq (XCode.tr
  [true, false, false, true, false, false, false, false, false, false, false, false, false, false, false, false, false, false, false, false, false, false,
  false, false, false, false, false, false, false, false, false, false, false, true] false (XCode.region false [(XOper.mk (some 34) (XOp.bin .eql (XArg.tmp 6)
  (XArg.lit (AV.c (CV.pv (PV.int .u8 4))))) none Cls.p), (XOper.mk (some 33) (XOp.mv (XArg.tmp 34)) none Cls.p)])) (XCode.tr [] false (XCode.cond (XArg.tmp 33)
  (XCode.tr [] false (XCode.region false [(XOper.mk (some 35) (XOp.mv (XArg.tmp 0)) none Cls.p), (XOper.mk (some 36) (XOp.faddr 4 (XArg.tmp 3)) none Cls.p),
  (XOper.mk (some 37) (XOp.load true 2 (XArg.tmp 36)) none Cls.r), (XOper.mk (some 38) (XOp.call false [] (XArg.lit (AV.c (CV.fn 32 []))) [(XArg.tmp 35),
  (XArg.tmp 37)]) none Cls.w)])) XCode.skip))))))))))))))))))))
theorem xf11_ok : cmpFunc Go.Proofs.Try.prog 11 ((.two (.tr [true, false, false, true] false .no) (.two (.tr [true, false, false, true, false, false, true] false .no) (.tr [] false (.two (.tr [true, false, false, true, false, false, true, true] false .no) (.tr [] false (.two (.tr [] false .no) (.two (.tr [true, false, false, true, false, false, true, false, false, false, false, false, false, true] false .no) (.tr [] false (.two (.tr [] false .no) (.two (.tr [true, false, false, true, false, false, true, false, false, false, false, false, false, false, false, false, false, false, false, true] false .no) (.tr [] false (.two (.tr [] false .no) (.two (.tr [true, false, false, true, false, false, true, false, false, false, false, false, false, false, false, false, false, false, false, false, false, false, false, false, false, true] false .no) (.tr [] false (.two (.tr [] false .no) (.two (.tr [true, false, false, true, false, false, false, false, false, false, false, false, false, false, false, false, false, false, false, false, false, false, false, false, false, false, false, false, false, false, false, false, false, true] false .no) (.tr [] false (.two (.tr [] false .no) .no))))))))))))))))))) = some xf11 := by kernel_rfl
def xf12 : XFunc :=
(XFunc.mk 32 [(XRes.tmp 2)] (XCode.seq (XCode.tr [false, true] false (XCode.region false [(XOper.mk (some 1) (XOp.box (XArg.tmp 0) 6) none Cls.w), (XOper.mk
  (some 2) (XOp.mv (XArg.lit (AV.c (CV.pv (PV.sl SO.nil 0 []))))) none Cls.p)])) (XCode.seq (XCode.seq (XCode.tr [false, true, false, false, false, true] false
  (XCode.region false [(XOper.mk (some 3) (XOp.faddr 0 (XArg.tmp 1)) none Cls.p), (XOper.mk (some 4) (XOp.load false 1 (XArg.tmp 3)) none Cls.r), (XOper.mk
  (some 5) (XOp.bin .rem (XArg.tmp 4) (XArg.lit (AV.c (CV.pv (PV.int .u8 5))))) none Cls.p)])) (XCode.tr [false, true, true] false (XCode.block 0 (XCode.seq
  (XCode.tr [false, true, false, false, false, true, true] false (XCode.region false [(XOper.mk (some 7) (XOp.bin .eql (XArg.tmp 5) (XArg.lit (AV.c (CV.pv
  (PV.int .u8 0))))) none Cls.p), (XOper.mk (some 6) (XOp.mv (XArg.tmp 7)) none Cls.p)])) (XCode.tr [false, true, true] false (XCode.cond (XArg.tmp 6)
  (XCode.seq (XCode.tr [false, false, true] false (XCode.region false [(XOper.mk (some 8) (XOp.faddr 1 (XArg.tmp 1)) none Cls.p), (XOper.mk (some 9) (XOp.load
  false 1 (XArg.tmp 8)) none Cls.r), (XOper.mk (some 10) (XOp.call false [] (XArg.lit (AV.c (CV.fn 33 []))) [(XArg.tmp 9)]) none Cls.p), (XOper.mk (some 2)
  (XOp.mv (XArg.tmp 10)) none Cls.p)])) XCode.ret) (XCode.seq (XCode.tr [false, true, false, false, false, true, false, false, false, false, false, true] false
  (XCode.region false [(XOper.mk (some 12) (XOp.bin .eql (XArg.tmp 5) (XArg.lit (AV.c (CV.pv (PV.int .u8 1))))) none Cls.p), (XOper.mk (some 11) (XOp.mv
  (XArg.tmp 12)) none Cls.p)])) (XCode.tr [false, true, true] false (XCode.cond (XArg.tmp 11) (XCode.seq (XCode.tr [false, false, true] false (XCode.region
  false [(XOper.mk (some 13) (XOp.faddr 2 (XArg.tmp 1)) none Cls.p), (XOper.mk (some 14) (XOp.load false 1 (XArg.tmp 13)) none Cls.r), (XOper.mk (some 15)
  (XOp.call false [] (XArg.lit (AV.c (CV.fn 34 []))) [(XArg.tmp 14)]) none Cls.p), (XOper.mk (some 16) (XOp.call false [] (XArg.lit (AV.c (CV.fn 33 [])))
  [(XArg.tmp 15)]) none Cls.p), (XOper.mk (some 2) (XOp.mv (XArg.tmp 16)) none Cls.p)])) XCode.ret) (XCode.seq (XCode.tr [false, true, false, false, false,
  true, false, false, false, false, false, false, false, false, false, false, false, true] false (XCode.region false [(XOper.mk (some 18) (XOp.bin .eql
  (XArg.tmp 5) (XArg.lit (AV.c (CV.pv (PV.int .u8 2))))) none Cls.p), (XOper.mk (some 17) (XOp.mv (XArg.tmp 18)) none Cls.p)])) (XCode.tr [false, true, true]
  false (XCode.cond (XArg.tmp 17) (XCode.seq (XCode.tr [false, false, true] false (XCode.region false [(XOper.mk (some 19) (XOp.faddr 3 (XArg.tmp 1)) none
  Cls.p), (XOper.mk (some 20) (XOp.load false 1 (XArg.tmp 19)) none Cls.r), (XOper.mk (some 21) (XOp.call false [] (XArg.lit (AV.c (CV.fn 35 []))) [(XArg.tmp
  20)]) none Cls.p), (XOper.mk (some 2) (XOp.mv (XArg.tmp 21)) none Cls.p)])) XCode.ret) (XCode.seq (XCode.tr [false, true, false, false, false, false, false,
  false, false, false, false, false, false, false, false, false, false, false, false, false, false, false, true] false (XCode.region false [(XOper.mk (some 23)
  (XOp.bin .eql (XArg.tmp 5) (XArg.lit (AV.c (CV.pv (PV.int .u8 3))))) none Cls.p), (XOper.mk (some 22) (XOp.mv (XArg.tmp 23)) none Cls.p)])) (XCode.tr [false,
  true, true] false (XCode.cond (XArg.tmp 22) (XCode.seq (XCode.tr [false, false, true] false (XCode.region false [(XOper.mk (some 24) (XOp.faddr 1 (XArg.tmp
  1)) none Cls.p), (XOper.mk (some 25) (XOp.load false 1 (XArg.tmp 24)) none Cls.r), (XOper.mk (some 26) (XOp.bin .rem (XArg.tmp 25) (XArg.lit (AV.c (CV.pv
  (PV.int .u64 2))))) none Cls.p), (XOper.mk (some 27) (XOp.convI .u8 (XArg.tmp 26)) none Cls.p), (XOper.mk (some 28) (XOp.buildSl [(CV.pv (PV.int .u8 0))] 1 1
  [(0, (1, (XArg.tmp 27)))]) none Cls.p), (XOper.mk (some 2) (XOp.mv (XArg.tmp 28)) none Cls.p)])) XCode.ret) XCode.skip))))))))))))))) (XCode.seq (XCode.tr
  [false, false, true] false (XCode.region false [(XOper.mk (some 29) (XOp.faddr 4 (XArg.tmp 1)) none Cls.p), (XOper.mk (some 30) (XOp.load true 2 (XArg.tmp
  29)) none Cls.r), (XOper.mk (some 31) (XOp.call false [] (XArg.lit (AV.c (CV.fn 36 []))) [(XArg.tmp 30)]) none Cls.p), (XOper.mk (some 2) (XOp.mv (XArg.tmp
  31)) none Cls.p)])) XCode.ret))))
theorem xf12_ok : cmpFunc Go.Proofs.Try.prog 12 ((.two (.tr [false, true] false .no) (.two (.two (.tr [false, true, false, false, false, true] false .no) (.tr [false, true, true] false (.two (.tr [false, true, false, false, false, true, true] false .no) (.tr [false, true, true] false (.two (.two (.tr [false, false, true] false (.ops [{}, {}, { cls := some .p }])) .no) (.two (.tr [false, true, false, false, false, true, false, false, false, false, false, true] false .no) (.tr [false, true, true] false (.two (.two (.tr [false, false, true] false (.ops [{}, {}, { cls := some .p }, { cls := some .p }])) .no) (.two (.tr [false, true, false, false, false, true, false, false, false, false, false, false, false, false, false, false, false, true] false .no) (.tr [false, true, true] false (.two (.two (.tr [false, false, true] false (.ops [{}, {}, { cls := some .p }])) .no) (.two (.tr [false, true, false, false, false, false, false, false, false, false, false, false, false, false, false, false, false, false, false, false, false, false, true] false .no) (.tr [false, true, true] false (.two (.two (.tr [false, false, true] false .no) .no) .no)))))))))))))) (.two (.tr [false, false, true] false (.ops [{}, {}, { cls := some .p }])) .no)))) = some xf12 := by kernel_rfl
def xf13 : XFunc :=
(XFunc.mk 10 [(XRes.tmp 2)] (XCode.seq (XCode.tr [true] false (XCode.region false [(XOper.mk (some 2) (XOp.mv (XArg.lit (AV.c (CV.pv (PV.str []))))) none
  Cls.p)])) (XCode.seq (XCode.seq (XCode.tr [true, false, false, false, true] false (XCode.region false [(XOper.mk (some 3) (XOp.mv (XArg.tmp 0)) none Cls.p),
  (XOper.mk (some 4) (XOp.eqN 1 false (XArg.tmp 3) (XArg.lit (AV.c CV.nilp))) none Cls.p)])) (XCode.tr [true, false, true] false (XCode.cond (XArg.tmp 4)
  (XCode.seq (XCode.region false [(XOper.mk (some 2) (XOp.mv (XArg.lit (AV.c (CV.pv (PV.str []))))) none Cls.p)]) XCode.ret) XCode.skip))) (XCode.seq (XCode.tr
  [false, false, true] false (XCode.region false [(XOper.mk (some 5) (XOp.mv (XArg.tmp 0)) none Cls.p), (XOper.mk (some 6) (XOp.nilc (XArg.tmp 5)) none Cls.p),
  (XOper.mk (some 7) (XOp.faddr 0 (XArg.tmp 6)) none Cls.p), (XOper.mk (some 8) (XOp.load false 1 (XArg.tmp 7)) none Cls.r), (XOper.mk (some 9) (XOp.bytesS
  (XArg.tmp 8)) none Cls.p), (XOper.mk (some 2) (XOp.mv (XArg.tmp 9)) none Cls.p)])) XCode.ret))))
theorem xf13_ok : cmpFunc Go.Proofs.Try.prog 13 ((.two (.tr [true] false .no) (.two (.two (.tr [true, false, false, false, true] false .no) (.tr [true, false, true] false .no)) (.two (.tr [false, false, true] false .no) .no)))) = some xf13 := by kernel_rfl
def xf14 : XFunc :=
(XFunc.mk 6 [(XRes.tmp 2)] (XCode.seq (XCode.tr [true] false (XCode.region false [(XOper.mk (some 2) (XOp.mv (XArg.lit (AV.c CV.nilp))) none Cls.p)]))
  (XCode.seq (XCode.tr [false, false, true] false (XCode.region false [(XOper.mk (some 3) (XOp.mv (XArg.tmp 0)) none Cls.p), (XOper.mk (some 4) (XOp.build
  [(CV.pv (PV.str [])), (CV.pv (PV.int .i64 0))] [(0, (1, (XArg.tmp 3)))]) none Cls.p), (XOper.mk (some 5) (XOp.box (XArg.tmp 4) 2) none Cls.w), (XOper.mk (some
  2) (XOp.mv (XArg.tmp 5)) none Cls.p)])) XCode.ret)))
theorem xf14_ok : cmpFunc Go.Proofs.Try.prog 14 ((.two (.tr [true] false .no) (.two (.tr [false, false, true] false .no) .no))) = some xf14 := by kernel_rfl
def xf16 : XFunc :=
(XFunc.mk 9 [(XRes.tmp 2)] (XCode.seq (XCode.tr [true] false (XCode.region false [(XOper.mk (some 2) (XOp.mv (XArg.lit (AV.c (CV.pv (PV.int .i64 0))))) none
  Cls.p)])) (XCode.seq (XCode.seq (XCode.tr [true, false, false, false, true] false (XCode.region false [(XOper.mk (some 3) (XOp.mv (XArg.tmp 0)) none Cls.p),
  (XOper.mk (some 4) (XOp.eqN 1 false (XArg.tmp 3) (XArg.lit (AV.c CV.nilp))) none Cls.p)])) (XCode.tr [true, false, true] false (XCode.cond (XArg.tmp 4)
  (XCode.seq (XCode.region false [(XOper.mk (some 2) (XOp.mv (XArg.lit (AV.c (CV.pv (PV.int .i64 1))))) none Cls.p)]) XCode.ret) XCode.skip))) (XCode.seq
  (XCode.tr [false, false, true] false (XCode.region false [(XOper.mk (some 5) (XOp.mv (XArg.tmp 0)) none Cls.p), (XOper.mk (some 6) (XOp.nilc (XArg.tmp 5))
  none Cls.p), (XOper.mk (some 7) (XOp.faddr 1 (XArg.tmp 6)) none Cls.p), (XOper.mk (some 8) (XOp.load false 1 (XArg.tmp 7)) none Cls.r), (XOper.mk (some 2)
  (XOp.mv (XArg.tmp 8)) none Cls.p)])) XCode.ret))))
theorem xf16_ok : cmpFunc Go.Proofs.Try.prog 16 ((.two (.tr [true] false .no) (.two (.two (.tr [true, false, false, false, true] false .no) (.tr [true, false, true] false .no)) (.two (.tr [false, false, true] false .no) .no)))) = some xf16 := by kernel_rfl
def xf17 : XFunc :=
(XFunc.mk 10 [(XRes.tmp 2)] (XCode.seq (XCode.tr [true] false (XCode.region false [(XOper.mk (some 2) (XOp.mv (XArg.lit (AV.c (CV.pv (PV.int .i64 0))))) none
  Cls.p)])) (XCode.seq (XCode.seq (XCode.tr [true, false, false, false, true] false (XCode.region false [(XOper.mk (some 3) (XOp.mv (XArg.tmp 0)) none Cls.p),
  (XOper.mk (some 4) (XOp.eqN 1 false (XArg.tmp 3) (XArg.lit (AV.c CV.nilp))) none Cls.p)])) (XCode.tr [true, false, true] false (XCode.cond (XArg.tmp 4)
  (XCode.seq (XCode.region false [(XOper.mk (some 2) (XOp.mv (XArg.lit (AV.c (CV.pv (PV.int .i64 0))))) none Cls.p)]) XCode.ret) XCode.skip))) (XCode.seq
  (XCode.tr [false, false, true] false (XCode.region false [(XOper.mk (some 5) (XOp.mv (XArg.tmp 0)) none Cls.p), (XOper.mk (some 6) (XOp.nilc (XArg.tmp 5))
  none Cls.p), (XOper.mk (some 7) (XOp.faddr 0 (XArg.tmp 6)) none Cls.p), (XOper.mk (some 8) (XOp.load false 1 (XArg.tmp 7)) none Cls.r), (XOper.mk (some 9)
  (XOp.lenS (XArg.tmp 8)) none Cls.p), (XOper.mk (some 2) (XOp.mv (XArg.tmp 9)) none Cls.p)])) XCode.ret))))
theorem xf17_ok : cmpFunc Go.Proofs.Try.prog 17 ((.two (.tr [true] false .no) (.two (.two (.tr [true, false, false, false, true] false .no) (.tr [true, false, true] false .no)) (.two (.tr [false, false, true] false .no) .no)))) = some xf17 := by kernel_rfl
def xf18 : XFunc :=
(XFunc.mk 15 [(XRes.tmp 2)] (XCode.seq (XCode.tr [true] false (XCode.region false [(XOper.mk (some 2) (XOp.mv (XArg.lit (AV.c (CV.pv (PV.int .i64 0))))) none
  Cls.p)])) (XCode.seq (XCode.seq (XCode.tr [true, false, false, true] false (XCode.region false [(XOper.mk (some 4) (XOp.mv (XArg.tmp 0)) none Cls.p),
  (XOper.mk (some 5) (XOp.call false [] (XArg.lit (AV.c (CV.fn 16 []))) [(XArg.tmp 4)]) none Cls.w), (XOper.mk (some 3) (XOp.mv (XArg.tmp 5)) none Cls.p)]))
  (XCode.seq (XCode.tr [true, false, false, true, false, false, false, true] false (XCode.region false [(XOper.mk (some 6) (XOp.mv (XArg.tmp 3)) none Cls.p),
  (XOper.mk (some 7) (XOp.bin .neq (XArg.tmp 6) (XArg.lit (AV.c (CV.pv (PV.int .i64 0))))) none Cls.p)])) (XCode.tr [true, false, true] false (XCode.cond
  (XArg.tmp 7) (XCode.seq (XCode.tr [false, false, true] false (XCode.region false [(XOper.mk (some 8) (XOp.mv (XArg.tmp 3)) none Cls.p), (XOper.mk (some 2)
  (XOp.mv (XArg.tmp 8)) none Cls.p)])) XCode.ret) XCode.skip)))) (XCode.seq (XCode.seq (XCode.tr [false, false, false, false, false, false, false, false, false,
  false, false, false, false, false, true] false (XCode.region false [(XOper.mk (some 9) (XOp.mv (XArg.tmp 0)) none Cls.p), (XOper.mk (some 10) (XOp.nilc
  (XArg.tmp 9)) none Cls.p), (XOper.mk (some 11) (XOp.faddr 0 (XArg.tmp 10)) none Cls.p), (XOper.mk (some 12) (XOp.load false 1 (XArg.tmp 11)) none Cls.r),
  (XOper.mk (some 13) (XOp.lenS (XArg.tmp 12)) none Cls.p), (XOper.mk (some 14) (XOp.bin .gtr (XArg.tmp 13) (XArg.lit (AV.c (CV.pv (PV.int .i64 0))))) none
  Cls.p)])) (XCode.tr [false, false, true] false (XCode.cond (XArg.tmp 14) (XCode.seq (XCode.region false [(XOper.mk (some 2) (XOp.mv (XArg.lit (AV.c (CV.pv
  (PV.int .i64 3))))) none Cls.p)]) XCode.ret) XCode.skip))) (XCode.seq (XCode.region false [(XOper.mk (some 2) (XOp.mv (XArg.lit (AV.c (CV.pv (PV.int .i64
  0))))) none Cls.p)]) XCode.ret)))))
theorem xf18_ok : cmpFunc Go.Proofs.Try.prog 18 ((.two (.tr [true] false .no) (.two (.two (.tr [true, false, false, true] false .no) (.two (.tr [true, false, false, true, false, false, false, true] false .no) (.tr [true, false, true] false (.two (.two (.tr [false, false, true] false .no) .no) .no)))) (.two (.two (.tr [false, false, false, false, false, false, false, false, false, false, false, false, false, false, true] false .no) (.tr [false, false, true] false .no)) .no)))) = some xf18 := by kernel_rfl
def xf22 : XFunc :=
(XFunc.mk 5 [(XRes.tmp 2)] (XCode.seq (XCode.tr [true] false (XCode.region false [(XOper.mk (some 2) (XOp.mv (XArg.lit (AV.c (CV.pv (PV.int .u64 0))))) none
  Cls.p)])) (XCode.seq (XCode.tr [false, false, true] false (XCode.region false [(XOper.mk (some 3) (XOp.mv (XArg.tmp 0)) none Cls.p), (XOper.mk (some 4)
  (XOp.call false [] (XArg.lit (AV.c (CV.fn 43 []))) [(XArg.tmp 3), (XArg.lit (AV.c (CV.fn 44 [])))]) none Cls.w), (XOper.mk (some 2) (XOp.mv (XArg.tmp 4)) none
  Cls.p)])) XCode.ret)))
theorem xf22_ok : cmpFunc Go.Proofs.Try.prog 22 ((.two (.tr [true] false .no) (.two (.tr [false, false, true] false .no) .no))) = some xf22 := by kernel_rfl
def xf24 : XFunc :=
(XFunc.mk 8 [(XRes.tmp 4)] (XCode.seq (XCode.tr [true, false, false, true] false (XCode.region false [(XOper.mk (some 3) (XOp.box (XArg.tmp 1) 1) none Cls.w),
  (XOper.mk (some 4) (XOp.mv (XArg.lit (AV.c (CV.pv (PV.str []))))) none Cls.p)])) (XCode.seq (XCode.tr [false, false, false, false, true] false (XCode.region
  false [(XOper.mk (some 5) (XOp.mv (XArg.tmp 0)) none Cls.p), (XOper.mk (some 6) (XOp.mkfn 47 [(XArg.tmp 3)]) none Cls.p), (XOper.mk (some 7) (XOp.call false
  [] (XArg.lit (AV.c (CV.fn 46 []))) [(XArg.tmp 5), (XArg.tmp 6)]) none Cls.w), (XOper.mk (some 4) (XOp.mv (XArg.tmp 7)) none Cls.p)])) XCode.ret)))
theorem xf24_ok : cmpFunc Go.Proofs.Try.prog 24 ((.two (.tr [true, false, false, true] false .no) (.two (.tr [false, false, false, false, true] false .no) .no))) = some xf24 := by kernel_rfl
def xf23 : XFunc :=
(XFunc.mk 6 [(XRes.tmp 2)] (XCode.seq (XCode.tr [true] false (XCode.region false [(XOper.mk (some 2) (XOp.mv (XArg.lit (AV.c (CV.pv (PV.int .i64 0))))) none
  Cls.p)])) (XCode.seq (XCode.tr [false, false, true] false (XCode.region false [(XOper.mk (some 3) (XOp.mv (XArg.tmp 0)) none Cls.p), (XOper.mk (some 4)
  (XOp.call false [] (XArg.lit (AV.c (CV.fn 43 []))) [(XArg.tmp 3), (XArg.lit (AV.c (CV.fn 44 [])))]) none Cls.w), (XOper.mk (some 5) (XOp.call false []
  (XArg.lit (AV.c (CV.fn 45 []))) [(XArg.tmp 4)]) none Cls.p), (XOper.mk (some 2) (XOp.mv (XArg.tmp 5)) none Cls.p)])) XCode.ret)))
theorem xf23_ok : cmpFunc Go.Proofs.Try.prog 23 ((.two (.tr [true] false .no) (.two (.tr [false, false, true] false (.ops [{}, {}, { cls := some .p }])) .no))) = some xf23 := by kernel_rfl
def xf25 : XFunc :=
(XFunc.mk 5 [(XRes.tmp 2)] (XCode.seq (XCode.tr [true] false (XCode.region false [(XOper.mk (some 2) (XOp.mv (XArg.lit (AV.c (CV.pv (PV.bool false))))) none
  Cls.p)])) (XCode.seq (XCode.tr [false, false, true] false (XCode.region false [(XOper.mk (some 3) (XOp.mv (XArg.tmp 0)) none Cls.p), (XOper.mk (some 4)
  (XOp.call false [] (XArg.lit (AV.c (CV.fn 48 []))) [(XArg.tmp 3), (XArg.lit (AV.c (CV.fn 49 [])))]) none Cls.w), (XOper.mk (some 2) (XOp.mv (XArg.tmp 4)) none
  Cls.p)])) XCode.ret)))
theorem xf25_ok : cmpFunc Go.Proofs.Try.prog 25 ((.two (.tr [true] false .no) (.two (.tr [false, false, true] false .no) .no))) = some xf25 := by kernel_rfl
def xf26 : XFunc :=
(XFunc.mk 5 [(XRes.cell 2 true 2)] (XCode.seq (XCode.region false [(XOper.mk (some 2) (XOp.alloc [(CV.pv (PV.int .i64 0)), (CV.pv (PV.int .i64 0))]) none
  Cls.w)]) (XCode.seq (XCode.tr [false, false, true] false (XCode.region false [(XOper.mk (some 3) (XOp.mv (XArg.tmp 0)) none Cls.p), (XOper.mk (some 4)
  (XOp.call false [] (XArg.lit (AV.c (CV.fn 50 []))) [(XArg.tmp 3), (XArg.lit (AV.c (CV.fn 51 [])))]) none Cls.w), (XOper.mk none (XOp.store 2 (XArg.tmp 2)
  (XArg.tmp 4)) none Cls.w)])) XCode.ret)))
theorem xf26_ok : cmpFunc Go.Proofs.Try.prog 26 ((.two .no (.two (.tr [false, false, true] false .no) .no))) = some xf26 := by kernel_rfl
def xf28_l0 : XCode :=
(XCode.seq (XCode.seq (XCode.tr [true, true, false, false, false, false, false, true] false (XCode.region false [(XOper.mk (some 6) (XOp.mv (XArg.tmp 1)) none
  Cls.p), (XOper.mk (some 7) (XOp.bin .geq (XArg.tmp 6) (XArg.lit (AV.c (CV.pv (PV.int .u64 128))))) none Cls.p)])) (XCode.tr [true, true] false (XCode.cond
  (XArg.tmp 7) XCode.skip (XCode.exit 0)))) (XCode.seq (XCode.tr [true, true] false (XCode.block 1 (XCode.tr [true, true] false (XCode.region false [(XOper.mk
  (some 10) (XOp.mv (XArg.tmp 0)) none Cls.p), (XOper.mk (some 11) (XOp.mv (XArg.tmp 0)) none Cls.p), (XOper.mk (some 12) (XOp.nilc (XArg.tmp 11)) none Cls.p),
  (XOper.mk (some 13) (XOp.faddr 0 (XArg.tmp 12)) none Cls.p), (XOper.mk (some 14) (XOp.load false 1 (XArg.tmp 13)) none Cls.r), (XOper.mk (some 15) (XOp.mv
  (XArg.tmp 1)) none Cls.p), (XOper.mk (some 16) (XOp.convI .u8 (XArg.tmp 15)) none Cls.p), (XOper.mk (some 17) (XOp.bin .or (XArg.tmp 16) (XArg.lit (AV.c
  (CV.pv (PV.int .u8 128))))) none Cls.p), (XOper.mk (some 18) (XOp.buildSl [(CV.pv (PV.int .u8 0))] 1 1 [(0, (1, (XArg.tmp 17)))]) none Cls.p), (XOper.mk (some
  19) (XOp.app 1 1 (XArg.tmp 14) (XArg.tmp 18)) none Cls.w), (XOper.mk (some 20) (XOp.nilc (XArg.tmp 10)) none Cls.p), (XOper.mk (some 21) (XOp.faddr 0
  (XArg.tmp 20)) none Cls.p), (XOper.mk none (XOp.store 1 (XArg.tmp 21) (XArg.tmp 19)) none Cls.w)])))) (XCode.tr [true, true] false (XCode.region false
  [(XOper.mk (some 8) (XOp.mv (XArg.tmp 1)) none Cls.p), (XOper.mk (some 9) (XOp.bin .shr (XArg.tmp 8) (XArg.lit (AV.c (CV.pv (PV.int .u64 7))))) none Cls.p),
  (XOper.mk (some 1) (XOp.mv (XArg.tmp 9)) none Cls.p)]))))
def xf28 : XFunc :=
(XFunc.mk 33 [] (XCode.seq (XCode.seq (XCode.tr [true, true, false, false, false, true] false (XCode.region false [(XOper.mk (some 4) (XOp.mv (XArg.tmp 0)) none
  Cls.p), (XOper.mk (some 5) (XOp.eqN 1 false (XArg.tmp 4) (XArg.lit (AV.c CV.nilp))) none Cls.p)])) (XCode.tr [true, true] false (XCode.cond (XArg.tmp 5)
  XCode.ret XCode.skip))) (XCode.seq (XCode.tr [true, true] false (XCode.block 0 (XCode.loop [true, true] xf28_l0))) (XCode.tr [] false (XCode.region false
  [(XOper.mk (some 22) (XOp.mv (XArg.tmp 0)) none Cls.p), (XOper.mk (some 23) (XOp.mv (XArg.tmp 0)) none Cls.p), (XOper.mk (some 24) (XOp.nilc (XArg.tmp 23))
  none Cls.p), (XOper.mk (some 25) (XOp.faddr 0 (XArg.tmp 24)) none Cls.p), (XOper.mk (some 26) (XOp.load false 1 (XArg.tmp 25)) none Cls.r), (XOper.mk (some
  27) (XOp.mv (XArg.tmp 1)) none Cls.p), (XOper.mk (some 28) (XOp.convI .u8 (XArg.tmp 27)) none Cls.p), (XOper.mk (some 29) (XOp.buildSl [(CV.pv (PV.int .u8
  0))] 1 1 [(0, (1, (XArg.tmp 28)))]) none Cls.p), (XOper.mk (some 30) (XOp.app 1 1 (XArg.tmp 26) (XArg.tmp 29)) none Cls.w), (XOper.mk (some 31) (XOp.nilc
  (XArg.tmp 22)) none Cls.p), (XOper.mk (some 32) (XOp.faddr 0 (XArg.tmp 31)) none Cls.p), (XOper.mk none (XOp.store 1 (XArg.tmp 32) (XArg.tmp 30)) none
  Cls.w)])))))
theorem xf28_ok : cmpFunc Go.Proofs.Try.prog 28 ((.two (.two (.tr [true, true, false, false, false, true] false .no) (.tr [true, true] false .no)) (.two (.tr [true, true] false (.loop [true, true] (.two (.two (.tr [true, true, false, false, false, false, false, true] false .no) (.tr [true, true] false .no)) (.two (.tr [true, true] false (.tr [true, true] false .no)) (.tr [true, true] false .no))))) (.tr [] false .no)))) = some xf28 := by kernel_rfl
def xf29 : XFunc :=
(XFunc.mk 13 [] (XCode.tr [] false (XCode.region false [(XOper.mk (some 4) (XOp.mv (XArg.tmp 0)) none Cls.p), (XOper.mk (some 5) (XOp.mv (XArg.tmp 1)) none
  Cls.p), (XOper.mk (some 6) (XOp.convI .u64 (XArg.tmp 5)) none Cls.p), (XOper.mk (some 7) (XOp.bin .shl (XArg.tmp 6) (XArg.lit (AV.c (CV.pv (PV.int .u64 1)))))
  none Cls.p), (XOper.mk (some 8) (XOp.mv (XArg.tmp 1)) none Cls.p), (XOper.mk (some 9) (XOp.bin .shr (XArg.tmp 8) (XArg.lit (AV.c (CV.pv (PV.int .u64 63)))))
  none Cls.p), (XOper.mk (some 10) (XOp.convI .u64 (XArg.tmp 9)) none Cls.p), (XOper.mk (some 11) (XOp.bin .xor (XArg.tmp 7) (XArg.tmp 10)) none Cls.p),
  (XOper.mk (some 12) (XOp.call false [] (XArg.lit (AV.c (CV.fn 28 []))) [(XArg.tmp 4), (XArg.tmp 11)]) none Cls.w)])))
theorem xf29_ok : cmpFunc Go.Proofs.Try.prog 29 ((.tr [] false .no)) = some xf29 := by kernel_rfl
def xf30 : XFunc :=
(XFunc.mk 20 [] (XCode.seq (XCode.tr [true, true, false, false, false, true] false (XCode.region false [(XOper.mk (some 4) (XOp.mv (XArg.tmp 0)) none Cls.p),
  (XOper.mk (some 5) (XOp.eqN 1 true (XArg.tmp 4) (XArg.lit (AV.c CV.nilp))) none Cls.p)])) (XCode.tr [] false (XCode.cond (XArg.tmp 5) (XCode.seq (XCode.tr
  [true, true] false (XCode.region false [(XOper.mk (some 6) (XOp.mv (XArg.tmp 0)) none Cls.p), (XOper.mk (some 7) (XOp.mv (XArg.tmp 1)) none Cls.p), (XOper.mk
  (some 8) (XOp.lenS (XArg.tmp 7)) none Cls.p), (XOper.mk (some 9) (XOp.convI .u64 (XArg.tmp 8)) none Cls.p), (XOper.mk (some 10) (XOp.call false [] (XArg.lit
  (AV.c (CV.fn 28 []))) [(XArg.tmp 6), (XArg.tmp 9)]) none Cls.w)])) (XCode.tr [] false (XCode.region false [(XOper.mk (some 11) (XOp.mv (XArg.tmp 0)) none
  Cls.p), (XOper.mk (some 12) (XOp.mv (XArg.tmp 0)) none Cls.p), (XOper.mk (some 13) (XOp.nilc (XArg.tmp 12)) none Cls.p), (XOper.mk (some 14) (XOp.faddr 0
  (XArg.tmp 13)) none Cls.p), (XOper.mk (some 15) (XOp.load false 1 (XArg.tmp 14)) none Cls.r), (XOper.mk (some 16) (XOp.mv (XArg.tmp 1)) none Cls.p), (XOper.mk
  (some 17) (XOp.app 1 1 (XArg.tmp 15) (XArg.tmp 16)) none Cls.w), (XOper.mk (some 18) (XOp.nilc (XArg.tmp 11)) none Cls.p), (XOper.mk (some 19) (XOp.faddr 0
  (XArg.tmp 18)) none Cls.p), (XOper.mk none (XOp.store 1 (XArg.tmp 19) (XArg.tmp 17)) none Cls.w)]))) XCode.skip))))
theorem xf30_ok : cmpFunc Go.Proofs.Try.prog 30 ((.two (.tr [true, true, false, false, false, true] false .no) (.tr [] false (.two (.two (.tr [true, true] false .no) (.tr [] false .no)) .no)))) = some xf30 := by kernel_rfl
def xf31 : XFunc :=
(XFunc.mk 9 [] (XCode.seq (XCode.region false [(XOper.mk (some 4) (XOp.mv (XArg.lit (AV.c (CV.pv (PV.int .u64 0))))) none Cls.p)]) (XCode.seq (XCode.seq
  (XCode.tr [true, false, false, false, true, true] false (XCode.region false [(XOper.mk (some 5) (XOp.mv (XArg.tmp 1)) none Cls.p)])) (XCode.tr [true, false,
  false, false, true] false (XCode.cond (XArg.tmp 5) (XCode.region false [(XOper.mk (some 4) (XOp.mv (XArg.lit (AV.c (CV.pv (PV.int .u64 1))))) none Cls.p)])
  XCode.skip))) (XCode.tr [] false (XCode.region false [(XOper.mk (some 6) (XOp.mv (XArg.tmp 0)) none Cls.p), (XOper.mk (some 7) (XOp.mv (XArg.tmp 4)) none
  Cls.p), (XOper.mk (some 8) (XOp.call false [] (XArg.lit (AV.c (CV.fn 28 []))) [(XArg.tmp 6), (XArg.tmp 7)]) none Cls.w)])))))
theorem xf31_ok : cmpFunc Go.Proofs.Try.prog 31 ((.two .no (.two (.two (.tr [true, false, false, false, true, true] false .no) (.tr [true, false, false, false, true] false .no)) (.tr [] false .no)))) = some xf31 := by kernel_rfl
def xf32 : XFunc :=
(XFunc.mk 12 [] (XCode.seq (XCode.tr [true, false, false, true] false (XCode.region false [(XOper.mk (some 3) (XOp.box (XArg.tmp 1) 2) none Cls.w)])) (XCode.seq
  (XCode.tr [true, false, false, true] false (XCode.region false [(XOper.mk (some 4) (XOp.mv (XArg.tmp 0)) none Cls.p), (XOper.mk (some 5) (XOp.faddr 0
  (XArg.tmp 3)) none Cls.p), (XOper.mk (some 6) (XOp.load false 1 (XArg.tmp 5)) none Cls.r), (XOper.mk (some 7) (XOp.call false [] (XArg.lit (AV.c (CV.fn 29
  []))) [(XArg.tmp 4), (XArg.tmp 6)]) none Cls.w)])) (XCode.tr [] false (XCode.region false [(XOper.mk (some 8) (XOp.mv (XArg.tmp 0)) none Cls.p), (XOper.mk
  (some 9) (XOp.faddr 1 (XArg.tmp 3)) none Cls.p), (XOper.mk (some 10) (XOp.load false 1 (XArg.tmp 9)) none Cls.r), (XOper.mk (some 11) (XOp.call false []
  (XArg.lit (AV.c (CV.fn 29 []))) [(XArg.tmp 8), (XArg.tmp 10)]) none Cls.w)])))))
theorem xf32_ok : cmpFunc Go.Proofs.Try.prog 32 ((.two (.tr [true, false, false, true] false .no) (.two (.tr [true, false, false, true] false .no) (.tr [] false .no)))) = some xf32 := by kernel_rfl
def xf33_l0 : XCode :=
(XCode.seq (XCode.seq (XCode.tr [false, false, false, true, true, false, false, true] false (XCode.region false [(XOper.mk (some 6) (XOp.mv (XArg.tmp 4)) none
  Cls.p), (XOper.mk (some 7) (XOp.bin .gtr (XArg.tmp 6) (XArg.lit (AV.c (CV.pv (PV.int .u64 127))))) none Cls.p)])) (XCode.tr [false, false, false, true, true]
  false (XCode.cond (XArg.tmp 7) XCode.skip (XCode.exit 0)))) (XCode.tr [false, false, false, true, true] false (XCode.block 1 (XCode.seq (XCode.tr [false,
  false, false, true, true] false (XCode.region false [(XOper.mk (some 8) (XOp.mv (XArg.tmp 3)) none Cls.p), (XOper.mk (some 9) (XOp.mv (XArg.tmp 4)) none
  Cls.p), (XOper.mk (some 10) (XOp.bin .rem (XArg.tmp 9) (XArg.lit (AV.c (CV.pv (PV.int .u64 128))))) none Cls.p), (XOper.mk (some 11) (XOp.bin .add (XArg.tmp
  10) (XArg.lit (AV.c (CV.pv (PV.int .u64 128))))) none Cls.p), (XOper.mk (some 12) (XOp.convI .u8 (XArg.tmp 11)) none Cls.p), (XOper.mk (some 13) (XOp.buildSl
  [(CV.pv (PV.int .u8 0))] 1 1 [(0, (1, (XArg.tmp 12)))]) none Cls.p), (XOper.mk (some 14) (XOp.app 1 1 (XArg.tmp 8) (XArg.tmp 13)) none Cls.w), (XOper.mk (some
  3) (XOp.mv (XArg.tmp 14)) none Cls.p)])) (XCode.tr [false, false, false, true, true] false (XCode.region false [(XOper.mk (some 15) (XOp.mv (XArg.tmp 4)) none
  Cls.p), (XOper.mk (some 16) (XOp.bin .quo (XArg.tmp 15) (XArg.lit (AV.c (CV.pv (PV.int .u64 128))))) none Cls.p), (XOper.mk (some 4) (XOp.mv (XArg.tmp 16))
  none Cls.p)]))))))
def xf33 : XFunc :=
(XFunc.mk 22 [(XRes.tmp 2)] (XCode.seq (XCode.tr [true] false (XCode.region false [(XOper.mk (some 2) (XOp.mv (XArg.lit (AV.c (CV.pv (PV.sl SO.nil 0 [])))))
  none Cls.p)])) (XCode.seq (XCode.region false [(XOper.mk (some 3) (XOp.mv (XArg.lit (AV.c (CV.pv (PV.sl SO.nil 0 []))))) none Cls.p)]) (XCode.seq (XCode.tr
  [false, false, false, true, true] false (XCode.region false [(XOper.mk (some 5) (XOp.mv (XArg.tmp 0)) none Cls.p), (XOper.mk (some 4) (XOp.mv (XArg.tmp 5))
  none Cls.p)])) (XCode.seq (XCode.tr [false, false, false, true, true] false (XCode.block 0 (XCode.loop [false, false, false, true, true] xf33_l0))) (XCode.seq
  (XCode.tr [false, false, true] false (XCode.region false [(XOper.mk (some 17) (XOp.mv (XArg.tmp 3)) none Cls.p), (XOper.mk (some 18) (XOp.mv (XArg.tmp 4))
  none Cls.p), (XOper.mk (some 19) (XOp.convI .u8 (XArg.tmp 18)) none Cls.p), (XOper.mk (some 20) (XOp.buildSl [(CV.pv (PV.int .u8 0))] 1 1 [(0, (1, (XArg.tmp
  19)))]) none Cls.p), (XOper.mk (some 21) (XOp.app 1 1 (XArg.tmp 17) (XArg.tmp 20)) none Cls.w), (XOper.mk (some 2) (XOp.mv (XArg.tmp 21)) none Cls.p)]))
  XCode.ret))))))
theorem xf33_ok : cmpFunc Go.Proofs.Try.prog 33 ((.two (.tr [true] false .no) (.two .no (.two (.tr [false, false, false, true, true] false .no) (.two (.tr [false, false, false, true, true] false (.loop [false, false, false, true, true] (.two (.two (.tr [false, false, false, true, true, false, false, true] false .no) (.tr [false, false, false, true, true] false .no)) (.tr [false, false, false, true, true] false (.two (.tr [false, false, false, true, true] false .no) (.tr [false, false, false, true, true] false .no)))))) (.two (.tr [false, false, true] false .no) .no)))))) = some xf33 := by kernel_rfl
def xf34 : XFunc :=
(XFunc.mk 14 [(XRes.tmp 2)] (XCode.seq (XCode.tr [true] false (XCode.region false [(XOper.mk (some 2) (XOp.mv (XArg.lit (AV.c (CV.pv (PV.int .u64 0))))) none
  Cls.p)])) (XCode.seq (XCode.seq (XCode.tr [true, false, false, false, true] false (XCode.region false [(XOper.mk (some 3) (XOp.mv (XArg.tmp 0)) none Cls.p),
  (XOper.mk (some 4) (XOp.bin .geq (XArg.tmp 3) (XArg.lit (AV.c (CV.pv (PV.int .i64 0))))) none Cls.p)])) (XCode.tr [true, false, true] false (XCode.cond
  (XArg.tmp 4) (XCode.seq (XCode.tr [false, false, true] false (XCode.region false [(XOper.mk (some 5) (XOp.mv (XArg.tmp 0)) none Cls.p), (XOper.mk (some 6)
  (XOp.convI .u64 (XArg.tmp 5)) none Cls.p), (XOper.mk (some 7) (XOp.bin .mul (XArg.lit (AV.c (CV.pv (PV.int .u64 2)))) (XArg.tmp 6)) none Cls.p), (XOper.mk
  (some 2) (XOp.mv (XArg.tmp 7)) none Cls.p)])) XCode.ret) XCode.skip))) (XCode.seq (XCode.tr [false, false, true] false (XCode.region false [(XOper.mk (some 8)
  (XOp.mv (XArg.tmp 0)) none Cls.p), (XOper.mk (some 9) (XOp.bin .add (XArg.tmp 8) (XArg.lit (AV.c (CV.pv (PV.int .i64 1))))) none Cls.p), (XOper.mk (some 10)
  (XOp.un .neg (XArg.tmp 9)) none Cls.p), (XOper.mk (some 11) (XOp.convI .u64 (XArg.tmp 10)) none Cls.p), (XOper.mk (some 12) (XOp.bin .mul (XArg.lit (AV.c
  (CV.pv (PV.int .u64 2)))) (XArg.tmp 11)) none Cls.p), (XOper.mk (some 13) (XOp.bin .add (XArg.tmp 12) (XArg.lit (AV.c (CV.pv (PV.int .u64 1))))) none Cls.p),
  (XOper.mk (some 2) (XOp.mv (XArg.tmp 13)) none Cls.p)])) XCode.ret))))
theorem xf34_ok : cmpFunc Go.Proofs.Try.prog 34 ((.two (.tr [true] false .no) (.two (.two (.tr [true, false, false, false, true] false .no) (.tr [true, false, true] false (.two (.two (.tr [false, false, true] false .no) .no) .no))) (.two (.tr [false, false, true] false .no) .no)))) = some xf34 := by kernel_rfl
def xf35 : XFunc :=
(XFunc.mk 13 [(XRes.tmp 2)] (XCode.seq (XCode.tr [true] false (XCode.region false [(XOper.mk (some 2) (XOp.mv (XArg.lit (AV.c (CV.pv (PV.sl SO.nil 0 [])))))
  none Cls.p)])) (XCode.seq (XCode.tr [true, false, false, true] false (XCode.region false [(XOper.mk (some 4) (XOp.mv (XArg.tmp 0)) none Cls.p), (XOper.mk
  (some 5) (XOp.lenS (XArg.tmp 4)) none Cls.p), (XOper.mk (some 6) (XOp.convI .u64 (XArg.tmp 5)) none Cls.p), (XOper.mk (some 7) (XOp.call false [] (XArg.lit
  (AV.c (CV.fn 33 []))) [(XArg.tmp 6)]) none Cls.p), (XOper.mk (some 3) (XOp.mv (XArg.tmp 7)) none Cls.p)])) (XCode.seq (XCode.tr [false, false, true] false
  (XCode.region false [(XOper.mk (some 8) (XOp.buildSl [(CV.pv (PV.int .u8 0))] 0 1 []) none Cls.p), (XOper.mk (some 9) (XOp.mv (XArg.tmp 3)) none Cls.p),
  (XOper.mk (some 10) (XOp.app 1 1 (XArg.tmp 8) (XArg.tmp 9)) none Cls.w), (XOper.mk (some 11) (XOp.mv (XArg.tmp 0)) none Cls.p), (XOper.mk (some 12) (XOp.app 1
  1 (XArg.tmp 10) (XArg.tmp 11)) none Cls.w), (XOper.mk (some 2) (XOp.mv (XArg.tmp 12)) none Cls.p)])) XCode.ret))))
theorem xf35_ok : cmpFunc Go.Proofs.Try.prog 35 ((.two (.tr [true] false .no) (.two (.tr [true, false, false, true] false (.ops [{}, {}, {}, { cls := some .p }])) (.two (.tr [false, false, true] false .no) .no)))) = some xf35 := by kernel_rfl
def xf36 : XFunc :=
(XFunc.mk 16 [(XRes.tmp 2)] (XCode.seq (XCode.tr [false, true] false (XCode.region false [(XOper.mk (some 1) (XOp.box (XArg.tmp 0) 2) none Cls.w), (XOper.mk
  (some 2) (XOp.mv (XArg.lit (AV.c (CV.pv (PV.sl SO.nil 0 []))))) none Cls.p)])) (XCode.seq (XCode.tr [false, true, false, true] false (XCode.region false
  [(XOper.mk (some 4) (XOp.faddr 0 (XArg.tmp 1)) none Cls.p), (XOper.mk (some 5) (XOp.load false 1 (XArg.tmp 4)) none Cls.r), (XOper.mk (some 6) (XOp.call false
  [] (XArg.lit (AV.c (CV.fn 34 []))) [(XArg.tmp 5)]) none Cls.p), (XOper.mk (some 7) (XOp.call false [] (XArg.lit (AV.c (CV.fn 33 []))) [(XArg.tmp 6)]) none
  Cls.p), (XOper.mk (some 3) (XOp.mv (XArg.tmp 7)) none Cls.p)])) (XCode.seq (XCode.tr [false, false, true] false (XCode.region true [(XOper.mk (some 8)
  (XOp.buildSl [(CV.pv (PV.int .u8 0))] 0 1 []) none Cls.p), (XOper.mk (some 9) (XOp.mv (XArg.tmp 3)) none Cls.p), (XOper.mk (some 11) (XOp.faddr 1 (XArg.tmp
  1)) none Cls.p), (XOper.mk (some 12) (XOp.load false 1 (XArg.tmp 11)) none Cls.r), (XOper.mk (some 10) (XOp.app 1 1 (XArg.tmp 8) (XArg.tmp 9)) none Cls.w),
  (XOper.mk (some 13) (XOp.call false [] (XArg.lit (AV.c (CV.fn 34 []))) [(XArg.tmp 12)]) none Cls.p), (XOper.mk (some 14) (XOp.call false [] (XArg.lit (AV.c
  (CV.fn 33 []))) [(XArg.tmp 13)]) none Cls.p), (XOper.mk (some 15) (XOp.app 1 1 (XArg.tmp 10) (XArg.tmp 14)) none Cls.w), (XOper.mk (some 2) (XOp.mv (XArg.tmp
  15)) none Cls.p)])) XCode.ret))))
theorem xf36_ok : cmpFunc Go.Proofs.Try.prog 36 ((.two (.tr [false, true] false .no) (.two (.tr [false, true, false, true] false (.ops [{}, {}, { cls := some .p }, { cls := some .p }])) (.two (.tr [false, false, true] false (.draw [0, 1, 3, 4, 2, 5, 6, 7, 8] [{}, {}, {}, {}, {}, { cls := some .p }, { cls := some .p }])) .no)))) = some xf36 := by kernel_rfl
def xf43 : XFunc :=
(XFunc.mk 46 [(XRes.tmp 4)] (XCode.seq (XCode.tr [true, true] false (XCode.region false [(XOper.mk (some 4) (XOp.mv (XArg.lit (AV.c (CV.pv (PV.int .u64 0)))))
  none Cls.p)])) (XCode.seq (XCode.region false [(XOper.mk (some 5) (XOp.mv (XArg.lit (AV.c (CV.pv (PV.int .u64 0))))) none Cls.p)]) (XCode.seq (XCode.seq
  (XCode.tr [true, true, false, false, false, true, false, false, false, false, false, false, false, false, false, false, false, true] false (XCode.region false
  [(XOper.mk (some 9) (XOp.mv (XArg.tmp 0)) none Cls.p), (XOper.mk (some 10) (XOp.eqN 1 false (XArg.tmp 9) (XArg.lit (AV.c CV.nilp))) none Cls.p), (XOper.mk
  (some 11) (XOp.mv (XArg.tmp 10)) none Cls.p), (XOper.mk (some 12) (XOp.mv (XArg.tmp 0)) (some (11, false)) Cls.p), (XOper.mk (some 13) (XOp.nilc (XArg.tmp
  12)) (some (11, false)) Cls.p), (XOper.mk (some 14) (XOp.faddr 1 (XArg.tmp 13)) (some (11, false)) Cls.p), (XOper.mk (some 15) (XOp.load false 1 (XArg.tmp
  14)) (some (11, false)) Cls.r), (XOper.mk (some 16) (XOp.bin .neq (XArg.tmp 15) (XArg.lit (AV.c (CV.pv (PV.int .i64 0))))) (some (11, false)) Cls.p),
  (XOper.mk (some 17) (XOp.pick (XArg.tmp 11) (XArg.lit (AV.c (CV.pv (PV.bool true)))) (XArg.tmp 16)) none Cls.p)])) (XCode.tr [true, true, false, false, true,
  true] false (XCode.cond (XArg.tmp 17) (XCode.seq (XCode.tr [false, false, false, false, true] false (XCode.region false [(XOper.mk (some 18) (XOp.mv (XArg.tmp
  5)) none Cls.p), (XOper.mk (some 4) (XOp.mv (XArg.tmp 18)) none Cls.p)])) XCode.ret) XCode.skip))) (XCode.seq (XCode.tr [true, false, false, false, false,
  true, true, true, true] false (XCode.region false [(XOper.mk (some 20) (XOp.mv (XArg.tmp 1)) none Cls.p), (XOper.mk (some 21) (XOp.mv (XArg.tmp 0)) none
  Cls.p), (XOper.mk (some 22) (XOp.nilc (XArg.tmp 21)) none Cls.p), (XOper.mk (some 23) (XOp.faddr 0 (XArg.tmp 22)) none Cls.p), (XOper.mk (some 24) (XOp.load
  false 1 (XArg.tmp 23)) none Cls.r), (XOper.mk (some 25) (XOp.call false [] (XArg.tmp 20) [(XArg.tmp 24)]) none Cls.w), (XOper.mk (some 19) (XOp.mv (XArg.tmp
  25)) none Cls.p), (XOper.mk (some 26) (XOp.extr 0 (XArg.tmp 19)) none Cls.p), (XOper.mk (some 27) (XOp.extr 1 (XArg.tmp 19)) none Cls.p), (XOper.mk (some 28)
  (XOp.extr 2 (XArg.tmp 19)) none Cls.p), (XOper.mk (some 6) (XOp.mv (XArg.tmp 26)) none Cls.p), (XOper.mk (some 7) (XOp.mv (XArg.tmp 27)) none Cls.p),
  (XOper.mk (some 8) (XOp.mv (XArg.tmp 28)) none Cls.p)])) (XCode.seq (XCode.seq (XCode.tr [true, false, false, false, false, true, true, true, true, false,
  false, false, false, false, false, false, false, false, false, false, false, false, false, false, false, false, false, false, false, false, true] false
  (XCode.region false [(XOper.mk (some 29) (XOp.mv (XArg.tmp 8)) none Cls.p), (XOper.mk (some 30) (XOp.bin .neq (XArg.tmp 29) (XArg.lit (AV.c (CV.pv (PV.int
  .i64 0))))) none Cls.p)])) (XCode.tr [true, false, false, false, true, false, true, true] false (XCode.cond (XArg.tmp 30) (XCode.seq (XCode.tr [false, false,
  false, false, false, true] false (XCode.region false [(XOper.mk (some 31) (XOp.mv (XArg.tmp 0)) none Cls.p), (XOper.mk (some 32) (XOp.mv (XArg.tmp 8)) none
  Cls.p), (XOper.mk (some 33) (XOp.nilc (XArg.tmp 31)) none Cls.p), (XOper.mk (some 34) (XOp.faddr 1 (XArg.tmp 33)) none Cls.p), (XOper.mk none (XOp.store 1
  (XArg.tmp 34) (XArg.tmp 32)) none Cls.w)])) (XCode.seq (XCode.tr [false, false, false, false, true] false (XCode.region false [(XOper.mk (some 35) (XOp.mv
  (XArg.tmp 5)) none Cls.p), (XOper.mk (some 4) (XOp.mv (XArg.tmp 35)) none Cls.p)])) XCode.ret)) XCode.skip))) (XCode.seq (XCode.tr [false, false, false,
  false, false, false, true] false (XCode.region false [(XOper.mk (some 36) (XOp.mv (XArg.tmp 0)) none Cls.p), (XOper.mk (some 37) (XOp.mv (XArg.tmp 0)) none
  Cls.p), (XOper.mk (some 38) (XOp.nilc (XArg.tmp 37)) none Cls.p), (XOper.mk (some 39) (XOp.faddr 0 (XArg.tmp 38)) none Cls.p), (XOper.mk (some 40) (XOp.load
  false 1 (XArg.tmp 39)) none Cls.r), (XOper.mk (some 41) (XOp.mv (XArg.tmp 7)) none Cls.p), (XOper.mk (some 42) (XOp.sliceS (XArg.tmp 40) (some (XArg.tmp 41))
  none) none Cls.p), (XOper.mk (some 43) (XOp.nilc (XArg.tmp 36)) none Cls.p), (XOper.mk (some 44) (XOp.faddr 0 (XArg.tmp 43)) none Cls.p), (XOper.mk none
  (XOp.store 1 (XArg.tmp 44) (XArg.tmp 42)) none Cls.w)])) (XCode.seq (XCode.tr [false, false, false, false, true] false (XCode.region false [(XOper.mk (some
  45) (XOp.mv (XArg.tmp 6)) none Cls.p), (XOper.mk (some 4) (XOp.mv (XArg.tmp 45)) none Cls.p)])) XCode.ret))))))))
theorem xf43_ok : cmpFunc Go.Proofs.Try.prog 43 ((.two (.tr [true, true] false .no) (.two .no (.two (.two (.tr [true, true, false, false, false, true, false, false, false, false, false, false, false, false, false, false, false, true] false .no) (.tr [true, true, false, false, true, true] false (.two (.two (.tr [false, false, false, false, true] false .no) .no) .no))) (.two (.tr [true, false, false, false, false, true, true, true, true] false .no) (.two (.two (.tr [true, false, false, false, false, true, true, true, true, false, false, false, false, false, false, false, false, false, false, false, false, false, false, false, false, false, false, false, false, false, true] false .no) (.tr [true, false, false, false, true, false, true, true] false (.two (.two (.tr [false, false, false, false, false, true] false .no) (.two (.tr [false, false, false, false, true] false .no) .no)) .no))) (.two (.tr [false, false, false, false, false, false, true] false .no) (.two (.tr [false, false, false, false, true] false .no) .no)))))))) = some xf43 := by kernel_rfl
def xf44_l0 : XCode :=
(XCode.seq (XCode.region false [(XOper.mk (some 13) (XOp.bin .lss (XArg.tmp 12) (XArg.tmp 11)) none Cls.p)]) (XCode.seq (XCode.tr [true, false, false, false,
  false, true, true, true, false, false, false, true, true] false (XCode.cond (XArg.tmp 13) XCode.skip (XCode.exit 0))) (XCode.seq (XCode.tr [true, false,
  false, false, false, true, true, true, false, false, false, true, true] false (XCode.block 1 (XCode.seq (XCode.tr [true, false, false, false, false, true,
  true, true, true, false, false, true, true] false (XCode.region false [(XOper.mk (some 14) (XOp.mv (XArg.tmp 12)) none Cls.p), (XOper.mk (some 8) (XOp.mv
  (XArg.tmp 14)) none Cls.p)])) (XCode.seq (XCode.tr [true, false, false, false, false, true, true, true, true, true, false, true, true] false (XCode.region
  false [(XOper.mk (some 15) (XOp.mv (XArg.tmp 0)) none Cls.p), (XOper.mk (some 16) (XOp.mv (XArg.tmp 8)) none Cls.p), (XOper.mk (some 17) (XOp.idxS (XArg.tmp
  15) (XArg.tmp 16)) none Cls.p), (XOper.mk (some 9) (XOp.mv (XArg.tmp 17)) none Cls.p)])) (XCode.seq (XCode.tr [true, false, false, false, false, true, true,
  true, true, true, false, true, true] false (XCode.block 2 (XCode.seq (XCode.tr [true, false, false, false, false, true, true, true, true, true, false, true,
  true, false, false, false, false, false, true] false (XCode.region false [(XOper.mk (some 19) (XOp.mv (XArg.tmp 8)) none Cls.p), (XOper.mk (some 20) (XOp.bin
  .eql (XArg.tmp 19) (XArg.lit (AV.c (CV.pv (PV.int .i64 9))))) none Cls.p), (XOper.mk (some 21) (XOp.mv (XArg.tmp 20)) none Cls.p), (XOper.mk (some 22) (XOp.mv
  (XArg.tmp 9)) (some (21, true)) Cls.p), (XOper.mk (some 23) (XOp.bin .gtr (XArg.tmp 22) (XArg.lit (AV.c (CV.pv (PV.int .u8 1))))) (some (21, true)) Cls.p),
  (XOper.mk (some 24) (XOp.pick (XArg.tmp 21) (XArg.tmp 23) (XArg.lit (AV.c (CV.pv (PV.bool false))))) none Cls.p), (XOper.mk (some 25) (XOp.mv (XArg.tmp 24))
  none Cls.p), (XOper.mk (some 26) (XOp.mv (XArg.tmp 8)) (some (25, false)) Cls.p), (XOper.mk (some 27) (XOp.bin .gtr (XArg.tmp 26) (XArg.lit (AV.c (CV.pv
  (PV.int .i64 0))))) (some (25, false)) Cls.p), (XOper.mk (some 28) (XOp.mv (XArg.tmp 27)) (some (25, false)) Cls.p), (XOper.mk (some 29) (XOp.mv (XArg.tmp 9))
  (some (28, true)) Cls.p), (XOper.mk (some 30) (XOp.bin .eql (XArg.tmp 29) (XArg.lit (AV.c (CV.pv (PV.int .u8 0))))) (some (28, true)) Cls.p), (XOper.mk (some
  31) (XOp.pick (XArg.tmp 28) (XArg.tmp 30) (XArg.lit (AV.c (CV.pv (PV.bool false))))) (some (25, false)) Cls.p), (XOper.mk (some 32) (XOp.pick (XArg.tmp 25)
  (XArg.lit (AV.c (CV.pv (PV.bool true)))) (XArg.tmp 31)) none Cls.p), (XOper.mk (some 18) (XOp.mv (XArg.tmp 32)) none Cls.p)])) (XCode.tr [true, false, false,
  false, false, true, true, true, true, true, false, true, true] false (XCode.cond (XArg.tmp 18) (XCode.seq (XCode.region false [(XOper.mk (some 7) (XOp.mv
  (XArg.lit (AV.c (CV.pv (PV.int .i64 3))))) none Cls.p)]) (XCode.exit 0)) (XCode.seq (XCode.tr [true, false, false, false, false, true, true, true, true, true,
  false, true, true, false, false, false, false, false, false, false, false, false, false, false, false, false, false, false, false, false, false, false, false,
  true] false (XCode.region false [(XOper.mk (some 34) (XOp.mv (XArg.tmp 9)) none Cls.p), (XOper.mk (some 35) (XOp.bin .lss (XArg.tmp 34) (XArg.lit (AV.c (CV.pv
  (PV.int .u8 128))))) none Cls.p), (XOper.mk (some 33) (XOp.mv (XArg.tmp 35)) none Cls.p)])) (XCode.tr [true, false, false, false, false, true, true, true,
  true, true, false, true, true] false (XCode.cond (XArg.tmp 33) (XCode.seq (XCode.tr [false, false, false, false, false, true, true, true] false (XCode.region
  false [(XOper.mk (some 36) (XOp.mv (XArg.tmp 5)) none Cls.p), (XOper.mk (some 37) (XOp.mv (XArg.tmp 9)) none Cls.p), (XOper.mk (some 38) (XOp.convI .u64
  (XArg.tmp 37)) none Cls.p), (XOper.mk (some 39) (XOp.mv (XArg.tmp 8)) none Cls.p), (XOper.mk (some 40) (XOp.bin .mul (XArg.lit (AV.c (CV.pv (PV.int .i64 7))))
  (XArg.tmp 39)) none Cls.p), (XOper.mk (some 41) (XOp.bin .shl (XArg.tmp 38) (XArg.tmp 40)) none Cls.p), (XOper.mk (some 42) (XOp.bin .or (XArg.tmp 36)
  (XArg.tmp 41)) none Cls.p), (XOper.mk (some 43) (XOp.mv (XArg.tmp 8)) none Cls.p), (XOper.mk (some 44) (XOp.bin .add (XArg.tmp 43) (XArg.lit (AV.c (CV.pv
  (PV.int .i64 1))))) none Cls.p), (XOper.mk (some 5) (XOp.mv (XArg.tmp 42)) none Cls.p), (XOper.mk (some 6) (XOp.mv (XArg.tmp 44)) none Cls.p), (XOper.mk (some
  7) (XOp.mv (XArg.lit (AV.c (CV.pv (PV.int .i64 0))))) none Cls.p)])) (XCode.exit 0)) XCode.skip)))))))) (XCode.tr [true, false, false, false, false, true,
  true, true, false, false, false, true, true] false (XCode.region false [(XOper.mk (some 45) (XOp.mv (XArg.tmp 5)) none Cls.p), (XOper.mk (some 46) (XOp.mv
  (XArg.tmp 9)) none Cls.p), (XOper.mk (some 47) (XOp.bin .and (XArg.tmp 46) (XArg.lit (AV.c (CV.pv (PV.int .u8 127))))) none Cls.p), (XOper.mk (some 48)
  (XOp.convI .u64 (XArg.tmp 47)) none Cls.p), (XOper.mk (some 49) (XOp.mv (XArg.tmp 8)) none Cls.p), (XOper.mk (some 50) (XOp.bin .mul (XArg.lit (AV.c (CV.pv
  (PV.int .i64 7)))) (XArg.tmp 49)) none Cls.p), (XOper.mk (some 51) (XOp.bin .shl (XArg.tmp 48) (XArg.tmp 50)) none Cls.p), (XOper.mk (some 52) (XOp.bin .or
  (XArg.tmp 45) (XArg.tmp 51)) none Cls.p), (XOper.mk (some 5) (XOp.mv (XArg.tmp 52)) none Cls.p)]))))))) (XCode.tr [true, false, false, false, false, true,
  true, true, false, false, false, true, true] false (XCode.region false [(XOper.mk (some 53) (XOp.bin .add (XArg.tmp 12) (XArg.lit (AV.c (CV.pv (PV.int .i64
  1))))) none Cls.p), (XOper.mk (some 12) (XOp.mv (XArg.tmp 53)) none Cls.p)])))))
def xf44 : XFunc :=
(XFunc.mk 57 [(XRes.tmp 2), (XRes.tmp 3), (XRes.tmp 4)] (XCode.seq (XCode.tr [true] false (XCode.region false [(XOper.mk (some 2) (XOp.mv (XArg.lit (AV.c (CV.pv
  (PV.int .u64 0))))) none Cls.p), (XOper.mk (some 3) (XOp.mv (XArg.lit (AV.c (CV.pv (PV.int .i64 0))))) none Cls.p), (XOper.mk (some 4) (XOp.mv (XArg.lit (AV.c
  (CV.pv (PV.int .i64 0))))) none Cls.p)])) (XCode.scope (XCode.seq (XCode.region false [(XOper.mk (some 5) (XOp.mv (XArg.lit (AV.c (CV.pv (PV.int .u64 0)))))
  none Cls.p), (XOper.mk (some 6) (XOp.mv (XArg.lit (AV.c (CV.pv (PV.int .i64 0))))) none Cls.p)]) (XCode.seq (XCode.region false [(XOper.mk (some 7) (XOp.mv
  (XArg.lit (AV.c (CV.pv (PV.int .i64 2))))) none Cls.p)]) (XCode.seq XCode.label (XCode.seq (XCode.seq (XCode.tr [true, false, false, false, false, true, true,
  true, false, false, false, true, true] false (XCode.region false [(XOper.mk (some 10) (XOp.mv (XArg.tmp 0)) none Cls.p), (XOper.mk (some 11) (XOp.lenS
  (XArg.tmp 10)) none Cls.p), (XOper.mk (some 12) (XOp.mv (XArg.lit (AV.c (CV.pv (PV.int .i64 0))))) none Cls.p)])) (XCode.tr [false, false, false, false,
  false, true, true, true] false (XCode.block 0 (XCode.loop [true, false, false, false, false, true, true, true, false, false, false, true, true] xf44_l0))))
  (XCode.seq (XCode.tr [false, false, true, true, true] false (XCode.region false [(XOper.mk (some 54) (XOp.mv (XArg.tmp 5)) none Cls.p), (XOper.mk (some 55)
  (XOp.mv (XArg.tmp 6)) none Cls.p), (XOper.mk (some 56) (XOp.mv (XArg.tmp 7)) none Cls.p), (XOper.mk (some 2) (XOp.mv (XArg.tmp 54)) none Cls.p), (XOper.mk
  (some 3) (XOp.mv (XArg.tmp 55)) none Cls.p), (XOper.mk (some 4) (XOp.mv (XArg.tmp 56)) none Cls.p)])) XCode.ret))))))))
theorem xf44_ok : cmpFunc Go.Proofs.Try.prog 44 ((.two (.tr [true] false .no) (.two .no (.two .no (.two .no (.two (.two (.tr [true, false, false, false, false, true, true, true, false, false, false, true, true] false .no) (.tr [false, false, false, false, false, true, true, true] false (.loop [true, false, false, false, false, true, true, true, false, false, false, true, true] (.two .no (.two (.tr [true, false, false, false, false, true, true, true, false, false, false, true, true] false .no) (.two (.tr [true, false, false, false, false, true, true, true, false, false, false, true, true] false (.two (.tr [true, false, false, false, false, true, true, true, true, false, false, true, true] false .no) (.two (.tr [true, false, false, false, false, true, true, true, true, true, false, true, true] false .no) (.two (.tr [true, false, false, false, false, true, true, true, true, true, false, true, true] false (.two (.tr [true, false, false, false, false, true, true, true, true, true, false, true, true, false, false, false, false, false, true] false .no) (.tr [true, false, false, false, false, true, true, true, true, true, false, true, true] false (.two .no (.two (.tr [true, false, false, false, false, true, true, true, true, true, false, true, true, false, false, false, false, false, false, false, false, false, false, false, false, false, false, false, false, false, false, false, false, true] false .no) (.tr [true, false, false, false, false, true, true, true, true, true, false, true, true] false (.two (.two (.tr [false, false, false, false, false, true, true, true] false .no) .no) .no))))))) (.tr [true, false, false, false, false, true, true, true, false, false, false, true, true] false .no))))) (.tr [true, false, false, false, false, true, true, true, false, false, false, true, true] false .no))))))) (.two (.tr [false, false, true, true, true] false .no) .no))))))) = some xf44 := by kernel_rfl
def xf45 : XFunc :=
(XFunc.mk 11 [(XRes.tmp 2)] (XCode.seq (XCode.tr [true] false (XCode.region false [(XOper.mk (some 2) (XOp.mv (XArg.lit (AV.c (CV.pv (PV.int .i64 0))))) none
  Cls.p)])) (XCode.seq (XCode.tr [false, false, true] false (XCode.region false [(XOper.mk (some 3) (XOp.mv (XArg.tmp 0)) none Cls.p), (XOper.mk (some 4)
  (XOp.bin .shr (XArg.tmp 3) (XArg.lit (AV.c (CV.pv (PV.int .u64 1))))) none Cls.p), (XOper.mk (some 5) (XOp.convI .i64 (XArg.tmp 4)) none Cls.p), (XOper.mk
  (some 6) (XOp.mv (XArg.tmp 0)) none Cls.p), (XOper.mk (some 7) (XOp.bin .and (XArg.tmp 6) (XArg.lit (AV.c (CV.pv (PV.int .u64 1))))) none Cls.p), (XOper.mk
  (some 8) (XOp.convI .i64 (XArg.tmp 7)) none Cls.p), (XOper.mk (some 9) (XOp.un .neg (XArg.tmp 8)) none Cls.p), (XOper.mk (some 10) (XOp.bin .xor (XArg.tmp 5)
  (XArg.tmp 9)) none Cls.p), (XOper.mk (some 2) (XOp.mv (XArg.tmp 10)) none Cls.p)])) XCode.ret)))
theorem xf45_ok : cmpFunc Go.Proofs.Try.prog 45 ((.two (.tr [true] false .no) (.two (.tr [false, false, true] false .no) .no))) = some xf45 := by kernel_rfl
def xf46 : XFunc :=
(XFunc.mk 46 [(XRes.tmp 4)] (XCode.seq (XCode.tr [true, true] false (XCode.region false [(XOper.mk (some 4) (XOp.mv (XArg.lit (AV.c (CV.pv (PV.str []))))) none
  Cls.p)])) (XCode.seq (XCode.region false [(XOper.mk (some 5) (XOp.mv (XArg.lit (AV.c (CV.pv (PV.str []))))) none Cls.p)]) (XCode.seq (XCode.seq (XCode.tr
  [true, true, false, false, false, true, false, false, false, false, false, false, false, false, false, false, false, true] false (XCode.region false
  [(XOper.mk (some 9) (XOp.mv (XArg.tmp 0)) none Cls.p), (XOper.mk (some 10) (XOp.eqN 1 false (XArg.tmp 9) (XArg.lit (AV.c CV.nilp))) none Cls.p), (XOper.mk
  (some 11) (XOp.mv (XArg.tmp 10)) none Cls.p), (XOper.mk (some 12) (XOp.mv (XArg.tmp 0)) (some (11, false)) Cls.p), (XOper.mk (some 13) (XOp.nilc (XArg.tmp
  12)) (some (11, false)) Cls.p), (XOper.mk (some 14) (XOp.faddr 1 (XArg.tmp 13)) (some (11, false)) Cls.p), (XOper.mk (some 15) (XOp.load false 1 (XArg.tmp
  14)) (some (11, false)) Cls.r), (XOper.mk (some 16) (XOp.bin .neq (XArg.tmp 15) (XArg.lit (AV.c (CV.pv (PV.int .i64 0))))) (some (11, false)) Cls.p),
  (XOper.mk (some 17) (XOp.pick (XArg.tmp 11) (XArg.lit (AV.c (CV.pv (PV.bool true)))) (XArg.tmp 16)) none Cls.p)])) (XCode.tr [true, true, false, false, true,
  true] false (XCode.cond (XArg.tmp 17) (XCode.seq (XCode.tr [false, false, false, false, true] false (XCode.region false [(XOper.mk (some 18) (XOp.mv (XArg.tmp
  5)) none Cls.p), (XOper.mk (some 4) (XOp.mv (XArg.tmp 18)) none Cls.p)])) XCode.ret) XCode.skip))) (XCode.seq (XCode.tr [true, false, false, false, false,
  true, true, true, true] false (XCode.region false [(XOper.mk (some 20) (XOp.mv (XArg.tmp 1)) none Cls.p), (XOper.mk (some 21) (XOp.mv (XArg.tmp 0)) none
  Cls.p), (XOper.mk (some 22) (XOp.nilc (XArg.tmp 21)) none Cls.p), (XOper.mk (some 23) (XOp.faddr 0 (XArg.tmp 22)) none Cls.p), (XOper.mk (some 24) (XOp.load
  false 1 (XArg.tmp 23)) none Cls.r), (XOper.mk (some 25) (XOp.call false [] (XArg.tmp 20) [(XArg.tmp 24)]) none Cls.w), (XOper.mk (some 19) (XOp.mv (XArg.tmp
  25)) none Cls.p), (XOper.mk (some 26) (XOp.extr 0 (XArg.tmp 19)) none Cls.p), (XOper.mk (some 27) (XOp.extr 1 (XArg.tmp 19)) none Cls.p), (XOper.mk (some 28)
  (XOp.extr 2 (XArg.tmp 19)) none Cls.p), (XOper.mk (some 6) (XOp.mv (XArg.tmp 26)) none Cls.p), (XOper.mk (some 7) (XOp.mv (XArg.tmp 27)) none Cls.p),
  (XOper.mk (some 8) (XOp.mv (XArg.tmp 28)) none Cls.p)])) (XCode.seq (XCode.seq (XCode.tr [true, false, false, false, false, true, true, true, true, false,
  false, false, false, false, false, false, false, false, false, false, false, false, false, false, false, false, false, false, false, false, true] false
  (XCode.region false [(XOper.mk (some 29) (XOp.mv (XArg.tmp 8)) none Cls.p), (XOper.mk (some 30) (XOp.bin .neq (XArg.tmp 29) (XArg.lit (AV.c (CV.pv (PV.int
  .i64 0))))) none Cls.p)])) (XCode.tr [true, false, false, false, true, false, true, true] false (XCode.cond (XArg.tmp 30) (XCode.seq (XCode.tr [false, false,
  false, false, false, true] false (XCode.region false [(XOper.mk (some 31) (XOp.mv (XArg.tmp 0)) none Cls.p), (XOper.mk (some 32) (XOp.mv (XArg.tmp 8)) none
  Cls.p), (XOper.mk (some 33) (XOp.nilc (XArg.tmp 31)) none Cls.p), (XOper.mk (some 34) (XOp.faddr 1 (XArg.tmp 33)) none Cls.p), (XOper.mk none (XOp.store 1
  (XArg.tmp 34) (XArg.tmp 32)) none Cls.w)])) (XCode.seq (XCode.tr [false, false, false, false, true] false (XCode.region false [(XOper.mk (some 35) (XOp.mv
  (XArg.tmp 5)) none Cls.p), (XOper.mk (some 4) (XOp.mv (XArg.tmp 35)) none Cls.p)])) XCode.ret)) XCode.skip))) (XCode.seq (XCode.tr [false, false, false,
  false, false, false, true] false (XCode.region false [(XOper.mk (some 36) (XOp.mv (XArg.tmp 0)) none Cls.p), (XOper.mk (some 37) (XOp.mv (XArg.tmp 0)) none
  Cls.p), (XOper.mk (some 38) (XOp.nilc (XArg.tmp 37)) none Cls.p), (XOper.mk (some 39) (XOp.faddr 0 (XArg.tmp 38)) none Cls.p), (XOper.mk (some 40) (XOp.load
  false 1 (XArg.tmp 39)) none Cls.r), (XOper.mk (some 41) (XOp.mv (XArg.tmp 7)) none Cls.p), (XOper.mk (some 42) (XOp.sliceS (XArg.tmp 40) (some (XArg.tmp 41))
  none) none Cls.p), (XOper.mk (some 43) (XOp.nilc (XArg.tmp 36)) none Cls.p), (XOper.mk (some 44) (XOp.faddr 0 (XArg.tmp 43)) none Cls.p), (XOper.mk none
  (XOp.store 1 (XArg.tmp 44) (XArg.tmp 42)) none Cls.w)])) (XCode.seq (XCode.tr [false, false, false, false, true] false (XCode.region false [(XOper.mk (some
  45) (XOp.mv (XArg.tmp 6)) none Cls.p), (XOper.mk (some 4) (XOp.mv (XArg.tmp 45)) none Cls.p)])) XCode.ret))))))))
theorem xf46_ok : cmpFunc Go.Proofs.Try.prog 46 ((.two (.tr [true, true] false .no) (.two .no (.two (.two (.tr [true, true, false, false, false, true, false, false, false, false, false, false, false, false, false, false, false, true] false .no) (.tr [true, true, false, false, true, true] false (.two (.two (.tr [false, false, false, false, true] false .no) .no) .no))) (.two (.tr [true, false, false, false, false, true, true, true, true] false .no) (.two (.two (.tr [true, false, false, false, false, true, true, true, true, false, false, false, false, false, false, false, false, false, false, false, false, false, false, false, false, false, false, false, false, false, true] false .no) (.tr [true, false, false, false, true, false, true, true] false (.two (.two (.tr [false, false, false, false, false, true] false .no) (.two (.tr [false, false, false, false, true] false .no) .no)) .no))) (.two (.tr [false, false, false, false, false, false, true] false .no) (.two (.tr [false, false, false, false, true] false .no) .no)))))))) = some xf46 := by kernel_rfl
def xf47 : XFunc :=
(XFunc.mk 47 [(XRes.tmp 3), (XRes.tmp 4), (XRes.tmp 5)] (XCode.seq (XCode.tr [true, true] false (XCode.region false [(XOper.mk (some 3) (XOp.mv (XArg.lit (AV.c
  (CV.pv (PV.str []))))) none Cls.p), (XOper.mk (some 4) (XOp.mv (XArg.lit (AV.c (CV.pv (PV.int .i64 0))))) none Cls.p), (XOper.mk (some 5) (XOp.mv (XArg.lit
  (AV.c (CV.pv (PV.int .i64 0))))) none Cls.p)])) (XCode.seq (XCode.tr [true, true, false, false, false, false, true, true, true] false (XCode.region false
  [(XOper.mk (some 10) (XOp.mv (XArg.tmp 0)) none Cls.p), (XOper.mk (some 11) (XOp.call false [] (XArg.lit (AV.c (CV.fn 44 []))) [(XArg.tmp 10)]) none Cls.p),
  (XOper.mk (some 9) (XOp.mv (XArg.tmp 11)) none Cls.p), (XOper.mk (some 12) (XOp.extr 0 (XArg.tmp 9)) none Cls.p), (XOper.mk (some 13) (XOp.extr 1 (XArg.tmp
  9)) none Cls.p), (XOper.mk (some 14) (XOp.extr 2 (XArg.tmp 9)) none Cls.p), (XOper.mk (some 6) (XOp.mv (XArg.tmp 12)) none Cls.p), (XOper.mk (some 7) (XOp.mv
  (XArg.tmp 13)) none Cls.p), (XOper.mk (some 8) (XOp.mv (XArg.tmp 14)) none Cls.p)])) (XCode.seq (XCode.tr [true, false, false, true, true, true, true, true]
  false (XCode.block 0 (XCode.seq (XCode.tr [true, true, false, false, false, false, true, true, true, false, false, false, false, false, false, true] false
  (XCode.region false [(XOper.mk (some 16) (XOp.mv (XArg.tmp 8)) none Cls.p), (XOper.mk (some 17) (XOp.bin .neq (XArg.tmp 16) (XArg.lit (AV.c (CV.pv (PV.int
  .i64 0))))) none Cls.p), (XOper.mk (some 15) (XOp.mv (XArg.tmp 17)) none Cls.p)])) (XCode.tr [true, false, false, true, true, true, true, true] false
  (XCode.cond (XArg.tmp 15) (XCode.seq (XCode.tr [false, false, false, true, true, true] false (XCode.region false [(XOper.mk (some 18) (XOp.mv (XArg.tmp 8))
  none Cls.p), (XOper.mk (some 3) (XOp.mv (XArg.lit (AV.c (CV.pv (PV.str []))))) none Cls.p), (XOper.mk (some 4) (XOp.mv (XArg.lit (AV.c (CV.pv (PV.int .i64
  0))))) none Cls.p), (XOper.mk (some 5) (XOp.mv (XArg.tmp 18)) none Cls.p)])) XCode.ret) (XCode.seq (XCode.tr [true, false, false, false, false, false, true,
  true, false, false, false, false, false, false, false, false, false, false, false, true] false (XCode.region false [(XOper.mk (some 20) (XOp.load false 1
  (XArg.tmp 1)) none Cls.r), (XOper.mk (some 21) (XOp.bin .lss (XArg.tmp 20) (XArg.lit (AV.c (CV.pv (PV.int .i64 0))))) none Cls.p), (XOper.mk (some 22) (XOp.mv
  (XArg.tmp 21)) none Cls.p), (XOper.mk (some 23) (XOp.mv (XArg.tmp 6)) (some (22, false)) Cls.p), (XOper.mk (some 24) (XOp.load false 1 (XArg.tmp 1)) (some
  (22, false)) Cls.r), (XOper.mk (some 25) (XOp.convI .u64 (XArg.tmp 24)) (some (22, false)) Cls.p), (XOper.mk (some 26) (XOp.bin .gtr (XArg.tmp 23) (XArg.tmp
  25)) (some (22, false)) Cls.p), (XOper.mk (some 27) (XOp.pick (XArg.tmp 22) (XArg.lit (AV.c (CV.pv (PV.bool true)))) (XArg.tmp 26)) none Cls.p), (XOper.mk
  (some 19) (XOp.mv (XArg.tmp 27)) none Cls.p)])) (XCode.tr [true, false, false, true, true, true, true, true] false (XCode.cond (XArg.tmp 19) (XCode.seq
  (XCode.region false [(XOper.mk (some 3) (XOp.mv (XArg.lit (AV.c (CV.pv (PV.str []))))) none Cls.p), (XOper.mk (some 4) (XOp.mv (XArg.lit (AV.c (CV.pv (PV.int
  .i64 0))))) none Cls.p), (XOper.mk (some 5) (XOp.mv (XArg.lit (AV.c (CV.pv (PV.int .i64 4))))) none Cls.p)]) XCode.ret) (XCode.seq (XCode.tr [true, false,
  false, false, false, false, true, true, false, false, false, false, false, false, false, false, false, false, false, false, false, false, false, false, false,
  false, false, false, true] false (XCode.region false [(XOper.mk (some 29) (XOp.mv (XArg.tmp 6)) none Cls.p), (XOper.mk (some 30) (XOp.mv (XArg.tmp 0)) none
  Cls.p), (XOper.mk (some 31) (XOp.lenS (XArg.tmp 30)) none Cls.p), (XOper.mk (some 32) (XOp.mv (XArg.tmp 7)) none Cls.p), (XOper.mk (some 33) (XOp.bin .sub
  (XArg.tmp 31) (XArg.tmp 32)) none Cls.p), (XOper.mk (some 34) (XOp.convI .u64 (XArg.tmp 33)) none Cls.p), (XOper.mk (some 35) (XOp.bin .gtr (XArg.tmp 29)
  (XArg.tmp 34)) none Cls.p), (XOper.mk (some 28) (XOp.mv (XArg.tmp 35)) none Cls.p)])) (XCode.tr [true, false, false, true, true, true, true, true] false
  (XCode.cond (XArg.tmp 28) (XCode.seq (XCode.region false [(XOper.mk (some 3) (XOp.mv (XArg.lit (AV.c (CV.pv (PV.str []))))) none Cls.p), (XOper.mk (some 4)
  (XOp.mv (XArg.lit (AV.c (CV.pv (PV.int .i64 0))))) none Cls.p), (XOper.mk (some 5) (XOp.mv (XArg.lit (AV.c (CV.pv (PV.int .i64 2))))) none Cls.p)]) XCode.ret)
  XCode.skip))))))))))) (XCode.seq (XCode.tr [false, false, false, true, true, true] false (XCode.region false [(XOper.mk (some 36) (XOp.mv (XArg.tmp 0)) none
  Cls.p), (XOper.mk (some 37) (XOp.mv (XArg.tmp 7)) none Cls.p), (XOper.mk (some 38) (XOp.mv (XArg.tmp 7)) none Cls.p), (XOper.mk (some 39) (XOp.mv (XArg.tmp
  6)) none Cls.p), (XOper.mk (some 40) (XOp.convI .i64 (XArg.tmp 39)) none Cls.p), (XOper.mk (some 41) (XOp.bin .add (XArg.tmp 38) (XArg.tmp 40)) none Cls.p),
  (XOper.mk (some 42) (XOp.sliceS (XArg.tmp 36) (some (XArg.tmp 37)) (some (XArg.tmp 41))) none Cls.p), (XOper.mk (some 43) (XOp.mv (XArg.tmp 7)) none Cls.p),
  (XOper.mk (some 44) (XOp.mv (XArg.tmp 6)) none Cls.p), (XOper.mk (some 45) (XOp.convI .i64 (XArg.tmp 44)) none Cls.p), (XOper.mk (some 46) (XOp.bin .add
  (XArg.tmp 43) (XArg.tmp 45)) none Cls.p), (XOper.mk (some 3) (XOp.mv (XArg.tmp 42)) none Cls.p), (XOper.mk (some 4) (XOp.mv (XArg.tmp 46)) none Cls.p),
  (XOper.mk (some 5) (XOp.mv (XArg.lit (AV.c (CV.pv (PV.int .i64 0))))) none Cls.p)])) XCode.ret)))))
theorem xf47_ok : cmpFunc Go.Proofs.Try.prog 47 ((.two (.tr [true, true] false .no) (.two (.tr [true, true, false, false, false, false, true, true, true] false (.ops [{}, { cls := some .p }])) (.two (.tr [true, false, false, true, true, true, true, true] false (.two (.tr [true, true, false, false, false, false, true, true, true, false, false, false, false, false, false, true] false .no) (.tr [true, false, false, true, true, true, true, true] false (.two (.two (.tr [false, false, false, true, true, true] false .no) .no) (.two (.tr [true, false, false, false, false, false, true, true, false, false, false, false, false, false, false, false, false, false, false, true] false .no) (.tr [true, false, false, true, true, true, true, true] false (.two .no (.two (.tr [true, false, false, false, false, false, true, true, false, false, false, false, false, false, false, false, false, false, false, false, false, false, false, false, false, false, false, false, true] false .no) (.tr [true, false, false, true, true, true, true, true] false .no))))))))) (.two (.tr [false, false, false, true, true, true] false .no) .no))))) = some xf47 := by kernel_rfl
def xf48 : XFunc :=
(XFunc.mk 46 [(XRes.tmp 4)] (XCode.seq (XCode.tr [true, true] false (XCode.region false [(XOper.mk (some 4) (XOp.mv (XArg.lit (AV.c (CV.pv (PV.bool false)))))
  none Cls.p)])) (XCode.seq (XCode.region false [(XOper.mk (some 5) (XOp.mv (XArg.lit (AV.c (CV.pv (PV.bool false))))) none Cls.p)]) (XCode.seq (XCode.seq
  (XCode.tr [true, true, false, false, false, true, false, false, false, false, false, false, false, false, false, false, false, true] false (XCode.region false
  [(XOper.mk (some 9) (XOp.mv (XArg.tmp 0)) none Cls.p), (XOper.mk (some 10) (XOp.eqN 1 false (XArg.tmp 9) (XArg.lit (AV.c CV.nilp))) none Cls.p), (XOper.mk
  (some 11) (XOp.mv (XArg.tmp 10)) none Cls.p), (XOper.mk (some 12) (XOp.mv (XArg.tmp 0)) (some (11, false)) Cls.p), (XOper.mk (some 13) (XOp.nilc (XArg.tmp
  12)) (some (11, false)) Cls.p), (XOper.mk (some 14) (XOp.faddr 1 (XArg.tmp 13)) (some (11, false)) Cls.p), (XOper.mk (some 15) (XOp.load false 1 (XArg.tmp
  14)) (some (11, false)) Cls.r), (XOper.mk (some 16) (XOp.bin .neq (XArg.tmp 15) (XArg.lit (AV.c (CV.pv (PV.int .i64 0))))) (some (11, false)) Cls.p),
  (XOper.mk (some 17) (XOp.pick (XArg.tmp 11) (XArg.lit (AV.c (CV.pv (PV.bool true)))) (XArg.tmp 16)) none Cls.p)])) (XCode.tr [true, true, false, false, true,
  true] false (XCode.cond (XArg.tmp 17) (XCode.seq (XCode.tr [false, false, false, false, true] false (XCode.region false [(XOper.mk (some 18) (XOp.mv (XArg.tmp
  5)) none Cls.p), (XOper.mk (some 4) (XOp.mv (XArg.tmp 18)) none Cls.p)])) XCode.ret) XCode.skip))) (XCode.seq (XCode.tr [true, false, false, false, false,
  true, true, true, true] false (XCode.region false [(XOper.mk (some 20) (XOp.mv (XArg.tmp 1)) none Cls.p), (XOper.mk (some 21) (XOp.mv (XArg.tmp 0)) none
  Cls.p), (XOper.mk (some 22) (XOp.nilc (XArg.tmp 21)) none Cls.p), (XOper.mk (some 23) (XOp.faddr 0 (XArg.tmp 22)) none Cls.p), (XOper.mk (some 24) (XOp.load
  false 1 (XArg.tmp 23)) none Cls.r), (XOper.mk (some 25) (XOp.call false [] (XArg.tmp 20) [(XArg.tmp 24)]) none Cls.w), (XOper.mk (some 19) (XOp.mv (XArg.tmp
  25)) none Cls.p), (XOper.mk (some 26) (XOp.extr 0 (XArg.tmp 19)) none Cls.p), (XOper.mk (some 27) (XOp.extr 1 (XArg.tmp 19)) none Cls.p), (XOper.mk (some 28)
  (XOp.extr 2 (XArg.tmp 19)) none Cls.p), (XOper.mk (some 6) (XOp.mv (XArg.tmp 26)) none Cls.p), (XOper.mk (some 7) (XOp.mv (XArg.tmp 27)) none Cls.p),
  (XOper.mk (some 8) (XOp.mv (XArg.tmp 28)) none Cls.p)])) (XCode.seq (XCode.seq (XCode.tr [true, false, false, false, false, true, true, true, true, false,
  false, false, false, false, false, false, false, false, false, false, false, false, false, false, false, false, false, false, false, false, true] false
  (XCode.region false [(XOper.mk (some 29) (XOp.mv (XArg.tmp 8)) none Cls.p), (XOper.mk (some 30) (XOp.bin .neq (XArg.tmp 29) (XArg.lit (AV.c (CV.pv (PV.int
  .i64 0))))) none Cls.p)])) (XCode.tr [true, false, false, false, true, false, true, true] false (XCode.cond (XArg.tmp 30) (XCode.seq (XCode.tr [false, false,
  false, false, false, true] false (XCode.region false [(XOper.mk (some 31) (XOp.mv (XArg.tmp 0)) none Cls.p), (XOper.mk (some 32) (XOp.mv (XArg.tmp 8)) none
  Cls.p), (XOper.mk (some 33) (XOp.nilc (XArg.tmp 31)) none Cls.p), (XOper.mk (some 34) (XOp.faddr 1 (XArg.tmp 33)) none Cls.p), (XOper.mk none (XOp.store 1
  (XArg.tmp 34) (XArg.tmp 32)) none Cls.w)])) (XCode.seq (XCode.tr [false, false, false, false, true] false (XCode.region false [(XOper.mk (some 35) (XOp.mv
  (XArg.tmp 5)) none Cls.p), (XOper.mk (some 4) (XOp.mv (XArg.tmp 35)) none Cls.p)])) XCode.ret)) XCode.skip))) (XCode.seq (XCode.tr [false, false, false,
  false, false, false, true] false (XCode.region false [(XOper.mk (some 36) (XOp.mv (XArg.tmp 0)) none Cls.p), (XOper.mk (some 37) (XOp.mv (XArg.tmp 0)) none
  Cls.p), (XOper.mk (some 38) (XOp.nilc (XArg.tmp 37)) none Cls.p), (XOper.mk (some 39) (XOp.faddr 0 (XArg.tmp 38)) none Cls.p), (XOper.mk (some 40) (XOp.load
  false 1 (XArg.tmp 39)) none Cls.r), (XOper.mk (some 41) (XOp.mv (XArg.tmp 7)) none Cls.p), (XOper.mk (some 42) (XOp.sliceS (XArg.tmp 40) (some (XArg.tmp 41))
  none) none Cls.p), (XOper.mk (some 43) (XOp.nilc (XArg.tmp 36)) none Cls.p), (XOper.mk (some 44) (XOp.faddr 0 (XArg.tmp 43)) none Cls.p), (XOper.mk none
  (XOp.store 1 (XArg.tmp 44) (XArg.tmp 42)) none Cls.w)])) (XCode.seq (XCode.tr [false, false, false, false, true] false (XCode.region false [(XOper.mk (some
  45) (XOp.mv (XArg.tmp 6)) none Cls.p), (XOper.mk (some 4) (XOp.mv (XArg.tmp 45)) none Cls.p)])) XCode.ret))))))))
theorem xf48_ok : cmpFunc Go.Proofs.Try.prog 48 ((.two (.tr [true, true] false .no) (.two .no (.two (.two (.tr [true, true, false, false, false, true, false, false, false, false, false, false, false, false, false, false, false, true] false .no) (.tr [true, true, false, false, true, true] false (.two (.two (.tr [false, false, false, false, true] false .no) .no) .no))) (.two (.tr [true, false, false, false, false, true, true, true, true] false .no) (.two (.two (.tr [true, false, false, false, false, true, true, true, true, false, false, false, false, false, false, false, false, false, false, false, false, false, false, false, false, false, false, false, false, false, true] false .no) (.tr [true, false, false, false, true, false, true, true] false (.two (.two (.tr [false, false, false, false, false, true] false .no) (.two (.tr [false, false, false, false, true] false .no) .no)) .no))) (.two (.tr [false, false, false, false, false, false, true] false .no) (.two (.tr [false, false, false, false, true] false .no) .no)))))))) = some xf48 := by kernel_rfl
def xf49 : XFunc :=
(XFunc.mk 16 [(XRes.tmp 2), (XRes.tmp 3), (XRes.tmp 4)] (XCode.seq (XCode.tr [true] false (XCode.region false [(XOper.mk (some 2) (XOp.mv (XArg.lit (AV.c (CV.pv
  (PV.bool false))))) none Cls.p), (XOper.mk (some 3) (XOp.mv (XArg.lit (AV.c (CV.pv (PV.int .i64 0))))) none Cls.p), (XOper.mk (some 4) (XOp.mv (XArg.lit (AV.c
  (CV.pv (PV.int .i64 0))))) none Cls.p)])) (XCode.seq (XCode.tr [true, false, true, true, true] false (XCode.block 0 (XCode.seq (XCode.tr [true, false, false,
  false, false, true] false (XCode.region false [(XOper.mk (some 6) (XOp.mv (XArg.tmp 0)) none Cls.p), (XOper.mk (some 7) (XOp.lenS (XArg.tmp 6)) none Cls.p),
  (XOper.mk (some 8) (XOp.bin .eql (XArg.tmp 7) (XArg.lit (AV.c (CV.pv (PV.int .i64 0))))) none Cls.p), (XOper.mk (some 5) (XOp.mv (XArg.tmp 8)) none Cls.p)]))
  (XCode.tr [true, false, true, true, true] false (XCode.cond (XArg.tmp 5) (XCode.seq (XCode.region false [(XOper.mk (some 2) (XOp.mv (XArg.lit (AV.c (CV.pv
  (PV.bool false))))) none Cls.p), (XOper.mk (some 3) (XOp.mv (XArg.lit (AV.c (CV.pv (PV.int .i64 0))))) none Cls.p), (XOper.mk (some 4) (XOp.mv (XArg.lit (AV.c
  (CV.pv (PV.int .i64 2))))) none Cls.p)]) XCode.ret) (XCode.seq (XCode.tr [true, false, false, false, false, false, false, false, false, true] false
  (XCode.region false [(XOper.mk (some 10) (XOp.mv (XArg.tmp 0)) none Cls.p), (XOper.mk (some 11) (XOp.idxS (XArg.tmp 10) (XArg.lit (AV.c (CV.pv (PV.int .i64
  0))))) none Cls.p), (XOper.mk (some 12) (XOp.bin .gtr (XArg.tmp 11) (XArg.lit (AV.c (CV.pv (PV.int .u8 1))))) none Cls.p), (XOper.mk (some 9) (XOp.mv
  (XArg.tmp 12)) none Cls.p)])) (XCode.tr [true, false, true, true, true] false (XCode.cond (XArg.tmp 9) (XCode.seq (XCode.region false [(XOper.mk (some 2)
  (XOp.mv (XArg.lit (AV.c (CV.pv (PV.bool false))))) none Cls.p), (XOper.mk (some 3) (XOp.mv (XArg.lit (AV.c (CV.pv (PV.int .i64 0))))) none Cls.p), (XOper.mk
  (some 4) (XOp.mv (XArg.lit (AV.c (CV.pv (PV.int .i64 3))))) none Cls.p)]) XCode.ret) XCode.skip)))))))) (XCode.seq (XCode.tr [false, false, true, true, true]
  false (XCode.region false [(XOper.mk (some 13) (XOp.mv (XArg.tmp 0)) none Cls.p), (XOper.mk (some 14) (XOp.idxS (XArg.tmp 13) (XArg.lit (AV.c (CV.pv (PV.int
  .i64 0))))) none Cls.p), (XOper.mk (some 15) (XOp.bin .eql (XArg.tmp 14) (XArg.lit (AV.c (CV.pv (PV.int .u8 1))))) none Cls.p), (XOper.mk (some 2) (XOp.mv
  (XArg.tmp 15)) none Cls.p), (XOper.mk (some 3) (XOp.mv (XArg.lit (AV.c (CV.pv (PV.int .i64 1))))) none Cls.p), (XOper.mk (some 4) (XOp.mv (XArg.lit (AV.c
  (CV.pv (PV.int .i64 0))))) none Cls.p)])) XCode.ret))))
theorem xf49_ok : cmpFunc Go.Proofs.Try.prog 49 ((.two (.tr [true] false .no) (.two (.tr [true, false, true, true, true] false (.two (.tr [true, false, false, false, false, true] false .no) (.tr [true, false, true, true, true] false (.two .no (.two (.tr [true, false, false, false, false, false, false, false, false, true] false .no) (.tr [true, false, true, true, true] false .no)))))) (.two (.tr [false, false, true, true, true] false .no) .no)))) = some xf49 := by kernel_rfl
def xf50 : XFunc :=
(XFunc.mk 46 [(XRes.cell 4 true 2)] (XCode.seq (XCode.region false [(XOper.mk (some 4) (XOp.alloc [(CV.pv (PV.int .i64 0)), (CV.pv (PV.int .i64 0))]) none
  Cls.w)]) (XCode.seq (XCode.region false [(XOper.mk (some 5) (XOp.alloc [(CV.pv (PV.int .i64 0)), (CV.pv (PV.int .i64 0))]) none Cls.w)]) (XCode.seq (XCode.seq
  (XCode.tr [true, true, false, false, true, true, false, false, false, false, false, false, false, false, false, false, false, true] false (XCode.region false
  [(XOper.mk (some 9) (XOp.mv (XArg.tmp 0)) none Cls.p), (XOper.mk (some 10) (XOp.eqN 1 false (XArg.tmp 9) (XArg.lit (AV.c CV.nilp))) none Cls.p), (XOper.mk
  (some 11) (XOp.mv (XArg.tmp 10)) none Cls.p), (XOper.mk (some 12) (XOp.mv (XArg.tmp 0)) (some (11, false)) Cls.p), (XOper.mk (some 13) (XOp.nilc (XArg.tmp
  12)) (some (11, false)) Cls.p), (XOper.mk (some 14) (XOp.faddr 1 (XArg.tmp 13)) (some (11, false)) Cls.p), (XOper.mk (some 15) (XOp.load false 1 (XArg.tmp
  14)) (some (11, false)) Cls.r), (XOper.mk (some 16) (XOp.bin .neq (XArg.tmp 15) (XArg.lit (AV.c (CV.pv (PV.int .i64 0))))) (some (11, false)) Cls.p),
  (XOper.mk (some 17) (XOp.pick (XArg.tmp 11) (XArg.lit (AV.c (CV.pv (PV.bool true)))) (XArg.tmp 16)) none Cls.p)])) (XCode.tr [true, true, false, false, true,
  true] false (XCode.cond (XArg.tmp 17) (XCode.seq (XCode.tr [false, false, false, false, true] false (XCode.region false [(XOper.mk (some 18) (XOp.load true 2
  (XArg.tmp 5)) none Cls.r), (XOper.mk none (XOp.store 2 (XArg.tmp 4) (XArg.tmp 18)) none Cls.w)])) XCode.ret) XCode.skip))) (XCode.seq (XCode.tr [true, false,
  false, false, true, true, true, true, true] false (XCode.region false [(XOper.mk (some 20) (XOp.mv (XArg.tmp 1)) none Cls.p), (XOper.mk (some 21) (XOp.mv
  (XArg.tmp 0)) none Cls.p), (XOper.mk (some 22) (XOp.nilc (XArg.tmp 21)) none Cls.p), (XOper.mk (some 23) (XOp.faddr 0 (XArg.tmp 22)) none Cls.p), (XOper.mk
  (some 24) (XOp.load false 1 (XArg.tmp 23)) none Cls.r), (XOper.mk (some 25) (XOp.call false [] (XArg.tmp 20) [(XArg.tmp 24)]) none Cls.w), (XOper.mk (some 19)
  (XOp.mv (XArg.tmp 25)) none Cls.p), (XOper.mk (some 26) (XOp.extr 0 (XArg.tmp 19)) none Cls.p), (XOper.mk (some 27) (XOp.extr 1 (XArg.tmp 19)) none Cls.p),
  (XOper.mk (some 28) (XOp.extr 2 (XArg.tmp 19)) none Cls.p), (XOper.mk (some 6) (XOp.alloc [(CV.pv (PV.int .i64 0)), (CV.pv (PV.int .i64 0))]) none Cls.w),
  (XOper.mk none (XOp.store 2 (XArg.tmp 6) (XArg.tmp 26)) none Cls.w), (XOper.mk (some 7) (XOp.mv (XArg.tmp 27)) none Cls.p), (XOper.mk (some 8) (XOp.mv
  (XArg.tmp 28)) none Cls.p)])) (XCode.seq (XCode.seq (XCode.tr [true, false, false, false, true, true, true, true, true, false, false, false, false, false,
  false, false, false, false, false, false, false, false, false, false, false, false, false, false, false, false, true] false (XCode.region false [(XOper.mk
  (some 29) (XOp.mv (XArg.tmp 8)) none Cls.p), (XOper.mk (some 30) (XOp.bin .neq (XArg.tmp 29) (XArg.lit (AV.c (CV.pv (PV.int .i64 0))))) none Cls.p)]))
  (XCode.tr [true, false, false, false, true, false, true, true] false (XCode.cond (XArg.tmp 30) (XCode.seq (XCode.tr [false, false, false, false, true, true]
  false (XCode.region false [(XOper.mk (some 31) (XOp.mv (XArg.tmp 0)) none Cls.p), (XOper.mk (some 32) (XOp.mv (XArg.tmp 8)) none Cls.p), (XOper.mk (some 33)
  (XOp.nilc (XArg.tmp 31)) none Cls.p), (XOper.mk (some 34) (XOp.faddr 1 (XArg.tmp 33)) none Cls.p), (XOper.mk none (XOp.store 1 (XArg.tmp 34) (XArg.tmp 32))
  none Cls.w)])) (XCode.seq (XCode.tr [false, false, false, false, true] false (XCode.region false [(XOper.mk (some 35) (XOp.load true 2 (XArg.tmp 5)) none
  Cls.r), (XOper.mk none (XOp.store 2 (XArg.tmp 4) (XArg.tmp 35)) none Cls.w)])) XCode.ret)) XCode.skip))) (XCode.seq (XCode.tr [false, false, false, false,
  true, false, true] false (XCode.region false [(XOper.mk (some 36) (XOp.mv (XArg.tmp 0)) none Cls.p), (XOper.mk (some 37) (XOp.mv (XArg.tmp 0)) none Cls.p),
  (XOper.mk (some 38) (XOp.nilc (XArg.tmp 37)) none Cls.p), (XOper.mk (some 39) (XOp.faddr 0 (XArg.tmp 38)) none Cls.p), (XOper.mk (some 40) (XOp.load false 1
  (XArg.tmp 39)) none Cls.r), (XOper.mk (some 41) (XOp.mv (XArg.tmp 7)) none Cls.p), (XOper.mk (some 42) (XOp.sliceS (XArg.tmp 40) (some (XArg.tmp 41)) none)
  none Cls.p), (XOper.mk (some 43) (XOp.nilc (XArg.tmp 36)) none Cls.p), (XOper.mk (some 44) (XOp.faddr 0 (XArg.tmp 43)) none Cls.p), (XOper.mk none (XOp.store
  1 (XArg.tmp 44) (XArg.tmp 42)) none Cls.w)])) (XCode.seq (XCode.tr [false, false, false, false, true] false (XCode.region false [(XOper.mk (some 45) (XOp.load
  true 2 (XArg.tmp 6)) none Cls.r), (XOper.mk none (XOp.store 2 (XArg.tmp 4) (XArg.tmp 45)) none Cls.w)])) XCode.ret))))))))
theorem xf50_ok : cmpFunc Go.Proofs.Try.prog 50 ((.two .no (.two .no (.two (.two (.tr [true, true, false, false, true, true, false, false, false, false, false, false, false, false, false, false, false, true] false .no) (.tr [true, true, false, false, true, true] false (.two (.two (.tr [false, false, false, false, true] false .no) .no) .no))) (.two (.tr [true, false, false, false, true, true, true, true, true] false .no) (.two (.two (.tr [true, false, false, false, true, true, true, true, true, false, false, false, false, false, false, false, false, false, false, false, false, false, false, false, false, false, false, false, false, false, true] false .no) (.tr [true, false, false, false, true, false, true, true] false (.two (.two (.tr [false, false, false, false, true, true] false .no) (.two (.tr [false, false, false, false, true] false .no) .no)) .no))) (.two (.tr [false, false, false, false, true, false, true] false .no) (.two (.tr [false, false, false, false, true] false .no) .no)))))))) = some xf50 := by kernel_rfl
def xf51 : XFunc :=
(XFunc.mk 61 [(XRes.cell 2 true 2), (XRes.tmp 3), (XRes.tmp 4)] (XCode.seq (XCode.tr [true, false, true] false (XCode.region false [(XOper.mk (some 2)
  (XOp.alloc [(CV.pv (PV.int .i64 0)), (CV.pv (PV.int .i64 0))]) none Cls.w), (XOper.mk (some 3) (XOp.mv (XArg.lit (AV.c (CV.pv (PV.int .i64 0))))) none Cls.p),
  (XOper.mk (some 4) (XOp.mv (XArg.lit (AV.c (CV.pv (PV.int .i64 0))))) none Cls.p)])) (XCode.seq (XCode.tr [true, false, true, false, false, true, true, true]
  false (XCode.region false [(XOper.mk (some 13) (XOp.mv (XArg.tmp 0)) none Cls.p), (XOper.mk (some 14) (XOp.call false [] (XArg.lit (AV.c (CV.fn 44 [])))
  [(XArg.tmp 13)]) none Cls.p), (XOper.mk (some 12) (XOp.mv (XArg.tmp 14)) none Cls.p), (XOper.mk (some 15) (XOp.extr 0 (XArg.tmp 12)) none Cls.p), (XOper.mk
  (some 16) (XOp.extr 1 (XArg.tmp 12)) none Cls.p), (XOper.mk (some 17) (XOp.extr 2 (XArg.tmp 12)) none Cls.p), (XOper.mk (some 5) (XOp.mv (XArg.tmp 15)) none
  Cls.p), (XOper.mk (some 6) (XOp.mv (XArg.tmp 16)) none Cls.p), (XOper.mk (some 7) (XOp.mv (XArg.tmp 17)) none Cls.p)])) (XCode.seq (XCode.seq (XCode.tr [true,
  false, true, false, false, true, true, true, false, false, false, false, false, false, false, false, false, false, false, true] false (XCode.region false
  [(XOper.mk (some 18) (XOp.mv (XArg.tmp 7)) none Cls.p), (XOper.mk (some 19) (XOp.bin .neq (XArg.tmp 18) (XArg.lit (AV.c (CV.pv (PV.int .i64 0))))) none
  Cls.p)])) (XCode.tr [true, false, true, true, true, true, true] false (XCode.cond (XArg.tmp 19) (XCode.seq (XCode.tr [false, false, true, true, true] false
  (XCode.region false [(XOper.mk (some 20) (XOp.build [(CV.pv (PV.int .i64 0)), (CV.pv (PV.int .i64 0))] []) none Cls.p), (XOper.mk (some 21) (XOp.mv (XArg.tmp
  7)) none Cls.p), (XOper.mk none (XOp.store 2 (XArg.tmp 2) (XArg.tmp 20)) none Cls.w), (XOper.mk (some 3) (XOp.mv (XArg.lit (AV.c (CV.pv (PV.int .i64 0)))))
  none Cls.p), (XOper.mk (some 4) (XOp.mv (XArg.tmp 21)) none Cls.p)])) XCode.ret) XCode.skip))) (XCode.seq (XCode.tr [false, false, true, false, false, true,
  true, true, true, true] false (XCode.region false [(XOper.mk (some 23) (XOp.mv (XArg.tmp 0)) none Cls.p), (XOper.mk (some 24) (XOp.mv (XArg.tmp 6)) none
  Cls.p), (XOper.mk (some 25) (XOp.sliceS (XArg.tmp 23) (some (XArg.tmp 24)) none) none Cls.p), (XOper.mk (some 26) (XOp.call false [] (XArg.lit (AV.c (CV.fn 44
  []))) [(XArg.tmp 25)]) none Cls.p), (XOper.mk (some 22) (XOp.mv (XArg.tmp 26)) none Cls.p), (XOper.mk (some 27) (XOp.extr 0 (XArg.tmp 22)) none Cls.p),
  (XOper.mk (some 28) (XOp.extr 1 (XArg.tmp 22)) none Cls.p), (XOper.mk (some 29) (XOp.extr 2 (XArg.tmp 22)) none Cls.p), (XOper.mk (some 8) (XOp.mv (XArg.tmp
  27)) none Cls.p), (XOper.mk (some 9) (XOp.mv (XArg.tmp 28)) none Cls.p), (XOper.mk (some 7) (XOp.mv (XArg.tmp 29)) none Cls.p)])) (XCode.seq (XCode.tr [false,
  false, true, false, false, false, true, true, false, true, true, true] false (XCode.region false [(XOper.mk (some 30) (XOp.mv (XArg.tmp 5)) none Cls.p),
  (XOper.mk (some 31) (XOp.call false [] (XArg.lit (AV.c (CV.fn 45 []))) [(XArg.tmp 30)]) none Cls.p), (XOper.mk (some 32) (XOp.mv (XArg.tmp 8)) none Cls.p),
  (XOper.mk (some 33) (XOp.call false [] (XArg.lit (AV.c (CV.fn 45 []))) [(XArg.tmp 32)]) none Cls.p), (XOper.mk (some 10) (XOp.mv (XArg.tmp 31)) none Cls.p),
  (XOper.mk (some 11) (XOp.mv (XArg.tmp 33)) none Cls.p)])) (XCode.seq (XCode.tr [false, false, true, true, true, false, true, false, false, true, true, true]
  false (XCode.block 0 (XCode.seq (XCode.tr [false, false, true, false, false, false, true, true, false, true, true, true, false, false, false, false, false,
  false, false, false, false, false, false, false, false, false, false, false, false, false, false, false, false, false, true] false (XCode.region false
  [(XOper.mk (some 35) (XOp.mv (XArg.tmp 7)) none Cls.p), (XOper.mk (some 36) (XOp.bin .neq (XArg.tmp 35) (XArg.lit (AV.c (CV.pv (PV.int .i64 0))))) none
  Cls.p), (XOper.mk (some 34) (XOp.mv (XArg.tmp 36)) none Cls.p)])) (XCode.tr [false, false, true, true, true, false, true, false, false, true, true, true]
  false (XCode.cond (XArg.tmp 34) (XCode.seq (XCode.tr [false, false, true, true, true] false (XCode.region false [(XOper.mk (some 37) (XOp.build [(CV.pv
  (PV.int .i64 0)), (CV.pv (PV.int .i64 0))] []) none Cls.p), (XOper.mk (some 38) (XOp.mv (XArg.tmp 7)) none Cls.p), (XOper.mk none (XOp.store 2 (XArg.tmp 2)
  (XArg.tmp 37)) none Cls.w), (XOper.mk (some 3) (XOp.mv (XArg.lit (AV.c (CV.pv (PV.int .i64 0))))) none Cls.p), (XOper.mk (some 4) (XOp.mv (XArg.tmp 38)) none
  Cls.p)])) XCode.ret) (XCode.seq (XCode.tr [false, false, true, false, false, false, true, false, false, true, true, true, false, false, false, false, false,
  false, false, false, false, false, false, false, false, false, false, false, false, false, false, false, false, false, false, false, false, false, false,
  true] false (XCode.region false [(XOper.mk (some 40) (XOp.mv (XArg.tmp 10)) none Cls.p), (XOper.mk (some 41) (XOp.bin .lss (XArg.tmp 40) (XArg.lit (AV.c
  (CV.pv (PV.int .i64 0))))) none Cls.p), (XOper.mk (some 42) (XOp.mv (XArg.tmp 41)) none Cls.p), (XOper.mk (some 43) (XOp.mv (XArg.tmp 10)) (some (42, false))
  Cls.p), (XOper.mk (some 44) (XOp.bin .gtr (XArg.tmp 43) (XArg.lit (AV.c (CV.pv (PV.int .i64 3))))) (some (42, false)) Cls.p), (XOper.mk (some 45) (XOp.pick
  (XArg.tmp 42) (XArg.lit (AV.c (CV.pv (PV.bool true)))) (XArg.tmp 44)) none Cls.p), (XOper.mk (some 39) (XOp.mv (XArg.tmp 45)) none Cls.p)])) (XCode.tr [false,
  false, true, true, true, false, true, false, false, true, true, true] false (XCode.cond (XArg.tmp 39) (XCode.seq (XCode.tr [false, false, true, true, true]
  false (XCode.region false [(XOper.mk (some 46) (XOp.build [(CV.pv (PV.int .i64 0)), (CV.pv (PV.int .i64 0))] []) none Cls.p), (XOper.mk none (XOp.store 2
  (XArg.tmp 2) (XArg.tmp 46)) none Cls.w), (XOper.mk (some 3) (XOp.mv (XArg.lit (AV.c (CV.pv (PV.int .i64 0))))) none Cls.p), (XOper.mk (some 4) (XOp.mv
  (XArg.lit (AV.c (CV.pv (PV.int .i64 12))))) none Cls.p)])) XCode.ret) (XCode.seq (XCode.tr [false, false, true, false, false, false, true, false, false, true,
  true, true, false, false, false, false, false, false, false, false, false, false, false, false, false, false, false, false, false, false, false, false, false,
  false, false, false, false, false, false, false, false, false, false, false, false, false, false, true] false (XCode.region false [(XOper.mk (some 48) (XOp.mv
  (XArg.tmp 11)) none Cls.p), (XOper.mk (some 49) (XOp.bin .lss (XArg.tmp 48) (XArg.lit (AV.c (CV.pv (PV.int .i64 (-1000000000000000)))))) none Cls.p),
  (XOper.mk (some 50) (XOp.mv (XArg.tmp 49)) none Cls.p), (XOper.mk (some 51) (XOp.mv (XArg.tmp 11)) (some (50, false)) Cls.p), (XOper.mk (some 52) (XOp.bin
  .gtr (XArg.tmp 51) (XArg.lit (AV.c (CV.pv (PV.int .i64 1000000000000000))))) (some (50, false)) Cls.p), (XOper.mk (some 53) (XOp.pick (XArg.tmp 50) (XArg.lit
  (AV.c (CV.pv (PV.bool true)))) (XArg.tmp 52)) none Cls.p), (XOper.mk (some 47) (XOp.mv (XArg.tmp 53)) none Cls.p)])) (XCode.tr [false, false, true, true,
  true, false, true, false, false, true, true, true] false (XCode.cond (XArg.tmp 47) (XCode.seq (XCode.tr [false, false, true, true, true] false (XCode.region
  false [(XOper.mk (some 54) (XOp.build [(CV.pv (PV.int .i64 0)), (CV.pv (PV.int .i64 0))] []) none Cls.p), (XOper.mk none (XOp.store 2 (XArg.tmp 2) (XArg.tmp
  54)) none Cls.w), (XOper.mk (some 3) (XOp.mv (XArg.lit (AV.c (CV.pv (PV.int .i64 0))))) none Cls.p), (XOper.mk (some 4) (XOp.mv (XArg.lit (AV.c (CV.pv (PV.int
  .i64 9))))) none Cls.p)])) XCode.ret) XCode.skip))))))))))) (XCode.seq (XCode.tr [false, false, true, true, true] false (XCode.region false [(XOper.mk (some
  55) (XOp.mv (XArg.tmp 10)) none Cls.p), (XOper.mk (some 56) (XOp.mv (XArg.tmp 11)) none Cls.p), (XOper.mk (some 57) (XOp.build [(CV.pv (PV.int .i64 0)),
  (CV.pv (PV.int .i64 0))] [(0, (1, (XArg.tmp 55))), (1, (1, (XArg.tmp 56)))]) none Cls.p), (XOper.mk (some 58) (XOp.mv (XArg.tmp 6)) none Cls.p), (XOper.mk
  (some 59) (XOp.mv (XArg.tmp 9)) none Cls.p), (XOper.mk (some 60) (XOp.bin .add (XArg.tmp 58) (XArg.tmp 59)) none Cls.p), (XOper.mk none (XOp.store 2 (XArg.tmp
  2) (XArg.tmp 57)) none Cls.w), (XOper.mk (some 3) (XOp.mv (XArg.tmp 60)) none Cls.p), (XOper.mk (some 4) (XOp.mv (XArg.lit (AV.c (CV.pv (PV.int .i64 0)))))
  none Cls.p)])) XCode.ret))))))))
theorem xf51_ok : cmpFunc Go.Proofs.Try.prog 51 ((.two (.tr [true, false, true] false .no) (.two (.tr [true, false, true, false, false, true, true, true] false (.ops [{}, { cls := some .p }])) (.two (.two (.tr [true, false, true, false, false, true, true, true, false, false, false, false, false, false, false, false, false, false, false, true] false .no) (.tr [true, false, true, true, true, true, true] false (.two (.two (.tr [false, false, true, true, true] false .no) .no) .no))) (.two (.tr [false, false, true, false, false, true, true, true, true, true] false (.ops [{}, {}, {}, { cls := some .p }])) (.two (.tr [false, false, true, false, false, false, true, true, false, true, true, true] false (.ops [{}, { cls := some .p }, {}, { cls := some .p }])) (.two (.tr [false, false, true, true, true, false, true, false, false, true, true, true] false (.two (.tr [false, false, true, false, false, false, true, true, false, true, true, true, false, false, false, false, false, false, false, false, false, false, false, false, false, false, false, false, false, false, false, false, false, false, true] false .no) (.tr [false, false, true, true, true, false, true, false, false, true, true, true] false (.two (.two (.tr [false, false, true, true, true] false .no) .no) (.two (.tr [false, false, true, false, false, false, true, false, false, true, true, true, false, false, false, false, false, false, false, false, false, false, false, false, false, false, false, false, false, false, false, false, false, false, false, false, false, false, false, true] false .no) (.tr [false, false, true, true, true, false, true, false, false, true, true, true] false (.two (.two (.tr [false, false, true, true, true] false .no) .no) (.two (.tr [false, false, true, false, false, false, true, false, false, true, true, true, false, false, false, false, false, false, false, false, false, false, false, false, false, false, false, false, false, false, false, false, false, false, false, false, false, false, false, false, false, false, false, false, false, false, false, true] false .no) (.tr [false, false, true, true, true, false, true, false, false, true, true, true] false (.two (.two (.tr [false, false, true, true, true] false .no) .no) .no)))))))))) (.two (.tr [false, false, true, true, true] false .no) .no)))))))) = some xf51 := by kernel_rfl
def xf52 : XFunc :=
(XFunc.mk 46 [(XRes.tmp 4)] (XCode.seq (XCode.tr [true, true] false (XCode.region false [(XOper.mk (some 4) (XOp.mv (XArg.lit (AV.c (CV.pv (PV.int .i64 0)))))
  none Cls.p)])) (XCode.seq (XCode.region false [(XOper.mk (some 5) (XOp.mv (XArg.lit (AV.c (CV.pv (PV.int .i64 0))))) none Cls.p)]) (XCode.seq (XCode.seq
  (XCode.tr [true, true, false, false, false, true, false, false, false, false, false, false, false, false, false, false, false, true] false (XCode.region false
  [(XOper.mk (some 9) (XOp.mv (XArg.tmp 0)) none Cls.p), (XOper.mk (some 10) (XOp.eqN 1 false (XArg.tmp 9) (XArg.lit (AV.c CV.nilp))) none Cls.p), (XOper.mk
  (some 11) (XOp.mv (XArg.tmp 10)) none Cls.p), (XOper.mk (some 12) (XOp.mv (XArg.tmp 0)) (some (11, false)) Cls.p), (XOper.mk (some 13) (XOp.nilc (XArg.tmp
  12)) (some (11, false)) Cls.p), (XOper.mk (some 14) (XOp.faddr 1 (XArg.tmp 13)) (some (11, false)) Cls.p), (XOper.mk (some 15) (XOp.load false 1 (XArg.tmp
  14)) (some (11, false)) Cls.r), (XOper.mk (some 16) (XOp.bin .neq (XArg.tmp 15) (XArg.lit (AV.c (CV.pv (PV.int .i64 0))))) (some (11, false)) Cls.p),
  (XOper.mk (some 17) (XOp.pick (XArg.tmp 11) (XArg.lit (AV.c (CV.pv (PV.bool true)))) (XArg.tmp 16)) none Cls.p)])) (XCode.tr [true, true, false, false, true,
  true] false (XCode.cond (XArg.tmp 17) (XCode.seq (XCode.tr [false, false, false, false, true] false (XCode.region false [(XOper.mk (some 18) (XOp.mv (XArg.tmp
  5)) none Cls.p), (XOper.mk (some 4) (XOp.mv (XArg.tmp 18)) none Cls.p)])) XCode.ret) XCode.skip))) (XCode.seq (XCode.tr [true, false, false, false, false,
  true, true, true, true] false (XCode.region false [(XOper.mk (some 20) (XOp.mv (XArg.tmp 1)) none Cls.p), (XOper.mk (some 21) (XOp.mv (XArg.tmp 0)) none
  Cls.p), (XOper.mk (some 22) (XOp.nilc (XArg.tmp 21)) none Cls.p), (XOper.mk (some 23) (XOp.faddr 0 (XArg.tmp 22)) none Cls.p), (XOper.mk (some 24) (XOp.load
  false 1 (XArg.tmp 23)) none Cls.r), (XOper.mk (some 25) (XOp.call false [] (XArg.tmp 20) [(XArg.tmp 24)]) none Cls.w), (XOper.mk (some 19) (XOp.mv (XArg.tmp
  25)) none Cls.p), (XOper.mk (some 26) (XOp.extr 0 (XArg.tmp 19)) none Cls.p), (XOper.mk (some 27) (XOp.extr 1 (XArg.tmp 19)) none Cls.p), (XOper.mk (some 28)
  (XOp.extr 2 (XArg.tmp 19)) none Cls.p), (XOper.mk (some 6) (XOp.mv (XArg.tmp 26)) none Cls.p), (XOper.mk (some 7) (XOp.mv (XArg.tmp 27)) none Cls.p),
  (XOper.mk (some 8) (XOp.mv (XArg.tmp 28)) none Cls.p)])) (XCode.seq (XCode.seq (XCode.tr [true, false, false, false, false, true, true, true, true, false,
  false, false, false, false, false, false, false, false, false, false, false, false, false, false, false, false, false, false, false, false, true] false
  (XCode.region false [(XOper.mk (some 29) (XOp.mv (XArg.tmp 8)) none Cls.p), (XOper.mk (some 30) (XOp.bin .neq (XArg.tmp 29) (XArg.lit (AV.c (CV.pv (PV.int
  .i64 0))))) none Cls.p)])) (XCode.tr [true, false, false, false, true, false, true, true] false (XCode.cond (XArg.tmp 30) (XCode.seq (XCode.tr [false, false,
  false, false, false, true] false (XCode.region false [(XOper.mk (some 31) (XOp.mv (XArg.tmp 0)) none Cls.p), (XOper.mk (some 32) (XOp.mv (XArg.tmp 8)) none
  Cls.p), (XOper.mk (some 33) (XOp.nilc (XArg.tmp 31)) none Cls.p), (XOper.mk (some 34) (XOp.faddr 1 (XArg.tmp 33)) none Cls.p), (XOper.mk none (XOp.store 1
  (XArg.tmp 34) (XArg.tmp 32)) none Cls.w)])) (XCode.seq (XCode.tr [false, false, false, false, true] false (XCode.region false [(XOper.mk (some 35) (XOp.mv
  (XArg.tmp 5)) none Cls.p), (XOper.mk (some 4) (XOp.mv (XArg.tmp 35)) none Cls.p)])) XCode.ret)) XCode.skip))) (XCode.seq (XCode.tr [false, false, false,
  false, false, false, true] false (XCode.region false [(XOper.mk (some 36) (XOp.mv (XArg.tmp 0)) none Cls.p), (XOper.mk (some 37) (XOp.mv (XArg.tmp 0)) none
  Cls.p), (XOper.mk (some 38) (XOp.nilc (XArg.tmp 37)) none Cls.p), (XOper.mk (some 39) (XOp.faddr 0 (XArg.tmp 38)) none Cls.p), (XOper.mk (some 40) (XOp.load
  false 1 (XArg.tmp 39)) none Cls.r), (XOper.mk (some 41) (XOp.mv (XArg.tmp 7)) none Cls.p), (XOper.mk (some 42) (XOp.sliceS (XArg.tmp 40) (some (XArg.tmp 41))
  none) none Cls.p), (XOper.mk (some 43) (XOp.nilc (XArg.tmp 36)) none Cls.p), (XOper.mk (some 44) (XOp.faddr 0 (XArg.tmp 43)) none Cls.p), (XOper.mk none
  (XOp.store 1 (XArg.tmp 44) (XArg.tmp 42)) none Cls.w)])) (XCode.seq (XCode.tr [false, false, false, false, true] false (XCode.region false [(XOper.mk (some
  45) (XOp.mv (XArg.tmp 6)) none Cls.p), (XOper.mk (some 4) (XOp.mv (XArg.tmp 45)) none Cls.p)])) XCode.ret))))))))
theorem xf52_ok : cmpFunc Go.Proofs.Try.prog 52 ((.two (.tr [true, true] false .no) (.two .no (.two (.two (.tr [true, true, false, false, false, true, false, false, false, false, false, false, false, false, false, false, false, true] false .no) (.tr [true, true, false, false, true, true] false (.two (.two (.tr [false, false, false, false, true] false .no) .no) .no))) (.two (.tr [true, false, false, false, false, true, true, true, true] false .no) (.two (.two (.tr [true, false, false, false, false, true, true, true, true, false, false, false, false, false, false, false, false, false, false, false, false, false, false, false, false, false, false, false, false, false, true] false .no) (.tr [true, false, false, false, true, false, true, true] false (.two (.two (.tr [false, false, false, false, false, true] false .no) (.two (.tr [false, false, false, false, true] false .no) .no)) .no))) (.two (.tr [false, false, false, false, false, false, true] false .no) (.two (.tr [false, false, false, false, true] false .no) .no)))))))) = some xf52 := by kernel_rfl
def xf53 : XFunc :=
(XFunc.mk 31 [(XRes.tmp 3), (XRes.tmp 4), (XRes.tmp 5)] (XCode.seq (XCode.tr [true, true] false (XCode.region false [(XOper.mk (some 3) (XOp.mv (XArg.lit (AV.c
  (CV.pv (PV.int .i64 0))))) none Cls.p), (XOper.mk (some 4) (XOp.mv (XArg.lit (AV.c (CV.pv (PV.int .i64 0))))) none Cls.p), (XOper.mk (some 5) (XOp.mv
  (XArg.lit (AV.c (CV.pv (PV.int .i64 0))))) none Cls.p)])) (XCode.seq (XCode.tr [false, true, false, false, false, false, true, true, true] false (XCode.region
  false [(XOper.mk (some 10) (XOp.mv (XArg.tmp 0)) none Cls.p), (XOper.mk (some 11) (XOp.call false [] (XArg.lit (AV.c (CV.fn 44 []))) [(XArg.tmp 10)]) none
  Cls.p), (XOper.mk (some 9) (XOp.mv (XArg.tmp 11)) none Cls.p), (XOper.mk (some 12) (XOp.extr 0 (XArg.tmp 9)) none Cls.p), (XOper.mk (some 13) (XOp.extr 1
  (XArg.tmp 9)) none Cls.p), (XOper.mk (some 14) (XOp.extr 2 (XArg.tmp 9)) none Cls.p), (XOper.mk (some 6) (XOp.mv (XArg.tmp 12)) none Cls.p), (XOper.mk (some
  7) (XOp.mv (XArg.tmp 13)) none Cls.p), (XOper.mk (some 8) (XOp.mv (XArg.tmp 14)) none Cls.p)])) (XCode.seq (XCode.seq (XCode.tr [false, false, false, false,
  false, false, true, true, true, false, false, false, false, false, false, false, false, false, false, false, false, false, false, false, false, false, true]
  false (XCode.region false [(XOper.mk (some 15) (XOp.mv (XArg.tmp 8)) none Cls.p), (XOper.mk (some 16) (XOp.bin .eql (XArg.tmp 15) (XArg.lit (AV.c (CV.pv
  (PV.int .i64 0))))) none Cls.p), (XOper.mk (some 17) (XOp.mv (XArg.tmp 16)) none Cls.p), (XOper.mk (some 18) (XOp.load false 1 (XArg.tmp 1)) (some (17, true))
  Cls.r), (XOper.mk (some 19) (XOp.bin .lss (XArg.tmp 18) (XArg.lit (AV.c (CV.pv (PV.int .i64 0))))) (some (17, true)) Cls.p), (XOper.mk (some 20) (XOp.mv
  (XArg.tmp 19)) (some (17, true)) Cls.p), (XOper.mk (some 21) (XOp.mv (XArg.tmp 6)) (some (20, false)) Cls.p), (XOper.mk (some 22) (XOp.load false 1 (XArg.tmp
  1)) (some (20, false)) Cls.r), (XOper.mk (some 23) (XOp.convI .u64 (XArg.tmp 22)) (some (20, false)) Cls.p), (XOper.mk (some 24) (XOp.bin .gtr (XArg.tmp 21)
  (XArg.tmp 23)) (some (20, false)) Cls.p), (XOper.mk (some 25) (XOp.pick (XArg.tmp 20) (XArg.lit (AV.c (CV.pv (PV.bool true)))) (XArg.tmp 24)) (some (17,
  true)) Cls.p), (XOper.mk (some 26) (XOp.pick (XArg.tmp 17) (XArg.tmp 25) (XArg.lit (AV.c (CV.pv (PV.bool false))))) none Cls.p)])) (XCode.tr [false, false,
  false, false, false, false, true, true, true] false (XCode.cond (XArg.tmp 26) (XCode.region false [(XOper.mk (some 8) (XOp.mv (XArg.lit (AV.c (CV.pv (PV.int
  .i64 4))))) none Cls.p)]) XCode.skip))) (XCode.seq (XCode.tr [false, false, false, true, true, true] false (XCode.region false [(XOper.mk (some 27) (XOp.mv
  (XArg.tmp 6)) none Cls.p), (XOper.mk (some 28) (XOp.convI .i64 (XArg.tmp 27)) none Cls.p), (XOper.mk (some 29) (XOp.mv (XArg.tmp 7)) none Cls.p), (XOper.mk
  (some 30) (XOp.mv (XArg.tmp 8)) none Cls.p), (XOper.mk (some 3) (XOp.mv (XArg.tmp 28)) none Cls.p), (XOper.mk (some 4) (XOp.mv (XArg.tmp 29)) none Cls.p),
  (XOper.mk (some 5) (XOp.mv (XArg.tmp 30)) none Cls.p)])) XCode.ret)))))
theorem xf53_ok : cmpFunc Go.Proofs.Try.prog 53 ((.two (.tr [true, true] false .no) (.two (.tr [false, true, false, false, false, false, true, true, true] false (.ops [{}, { cls := some .p }])) (.two (.two (.tr [false, false, false, false, false, false, true, true, true, false, false, false, false, false, false, false, false, false, false, false, false, false, false, false, false, false, true] false .no) (.tr [false, false, false, false, false, false, true, true, true] false .no)) (.two (.tr [false, false, false, true, true, true] false .no) .no))))) = some xf53 := by kernel_rfl
def X : Nat → Option XFunc
  | 3 => some xf3
  | 8 => some xf8
  | 9 => some xf9
  | 10 => some xf10
  | 11 => some xf11
  | 12 => some xf12
  | 13 => some xf13
  | 14 => some xf14
  | 16 => some xf16
  | 17 => some xf17
  | 18 => some xf18
  | 22 => some xf22
  | 24 => some xf24
  | 23 => some xf23
  | 25 => some xf25
  | 26 => some xf26
  | 28 => some xf28
  | 29 => some xf29
  | 30 => some xf30
  | 31 => some xf31
  | 32 => some xf32
  | 33 => some xf33
  | 34 => some xf34
  | 35 => some xf35
  | 36 => some xf36
  | 43 => some xf43
  | 44 => some xf44
  | 45 => some xf45
  | 46 => some xf46
  | 47 => some xf47
  | 48 => some xf48
  | 49 => some xf49
  | 50 => some xf50
  | 51 => some xf51
  | 52 => some xf52
  | 53 => some xf53
  | _ => none
def E0 : Oracle := fun _ _ _ => none
theorem X_ok : ∀ f x, X f = some x → ∃ h, cmpFunc Go.Proofs.Try.prog f h = some x := by
  intro f x h
  unfold X at h
  split at h <;> cases h
  · exact ⟨_, xf3_ok⟩
  · exact ⟨_, xf8_ok⟩
  · exact ⟨_, xf9_ok⟩
  · exact ⟨_, xf10_ok⟩
  · exact ⟨_, xf11_ok⟩
  · exact ⟨_, xf12_ok⟩
  · exact ⟨_, xf13_ok⟩
  · exact ⟨_, xf14_ok⟩
  · exact ⟨_, xf16_ok⟩
  · exact ⟨_, xf17_ok⟩
  · exact ⟨_, xf18_ok⟩
  · exact ⟨_, xf22_ok⟩
  · exact ⟨_, xf24_ok⟩
  · exact ⟨_, xf23_ok⟩
  · exact ⟨_, xf25_ok⟩
  · exact ⟨_, xf26_ok⟩
  · exact ⟨_, xf28_ok⟩
  · exact ⟨_, xf29_ok⟩
  · exact ⟨_, xf30_ok⟩
  · exact ⟨_, xf31_ok⟩
  · exact ⟨_, xf32_ok⟩
  · exact ⟨_, xf33_ok⟩
  · exact ⟨_, xf34_ok⟩
  · exact ⟨_, xf35_ok⟩
  · exact ⟨_, xf36_ok⟩
  · exact ⟨_, xf43_ok⟩
  · exact ⟨_, xf44_ok⟩
  · exact ⟨_, xf45_ok⟩
  · exact ⟨_, xf46_ok⟩
  · exact ⟨_, xf47_ok⟩
  · exact ⟨_, xf48_ok⟩
  · exact ⟨_, xf49_ok⟩
  · exact ⟨_, xf50_ok⟩
  · exact ⟨_, xf51_ok⟩
  · exact ⟨_, xf52_ok⟩
  · exact ⟨_, xf53_ok⟩

theorem ok : OkOr Go.Proofs.Try.prog (ev X E0) := ev_ok X_ok (fun _ _ _ _ _ h => by cases h) (by kernel_rfl)
end Go.Sx.Try
