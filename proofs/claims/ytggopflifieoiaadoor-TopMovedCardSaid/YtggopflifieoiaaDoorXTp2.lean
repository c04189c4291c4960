/- Functions of the program in the evaluator's form, each checked by the kernel. Printed by genx.py. -/
import Derived.Test.YtggopflifieoiaaDoorSxLem
import Derived.Test.YtggopflifieoiaaDoorProg
import Derived.KernelRfl
import Derived.Test.YtggopflifieoiaaDoorXTp1
namespace Go.Sx.Tryd
open Go Go.Sx
def xf147 : XFunc :=
(.mk 6 [(.tmp 2)] (.seq (.tr (rl [0]) false (.region false [(oP 2 (.mv (tI 0)))])) (.seq (.tr (rl [2]) false (.region false [(oP 3 (.mv (T 0))), (oP 4 (.bin
  .mul (T 3) (tI 78913))), (oP 5 (.bin .shr (T 4) (.lit (.c (.pv (.int .u64 18)))))), (oP 2 (.mv (T 5)))])) (.tr (rl [2]) false .ret))))
theorem xf147_ok : cmpFunc Go.Proofs.Tryd.prog 147 ((.two (.tr (rl [0]) false .no) (.two (.tr (rl [2]) false .no) (.tr (rl [2]) false .no)))) = some xf147 := by kernel_rfl
def xf148 : XFunc :=
(.mk 25 [(.tmp 2)] (.seq (.region false [(oP 2 (.mv (tI 0)))]) (.seq (.seq (.tr (rl [0, 1, 1]) false (.region false [(oP 3 (.mv (T 0))), (oP 4 (.bin .geq (T 3)
  (.lit (.c (.pv (.int .u64 4294967296))))))])) (.tr (rl [0, 1]) false (.cond (T 4) (.seq (.tr (rl [0]) false (.region false [(oP 5 (.mv (T 0))), (oP 6 (.bin
  .shr (T 5) (.lit (.c (.pv (.int .u64 32)))))), (oP 0 (.mv (T 6)))])) (.region false [(oP 2 (.mv (tI 32)))])) .skip))) (.seq (.seq (.tr (rl [0, 1, 5]) false
  (.region false [(oP 7 (.mv (T 0))), (oP 8 (.bin .geq (T 7) (.lit (.c (.pv (.int .u64 65536))))))])) (.tr (rl [0, 1]) false (.cond (T 8) (.seq (.tr (rl [0, 1])
  false (.region false [(oP 9 (.mv (T 0))), (oP 10 (.bin .shr (T 9) (.lit (.c (.pv (.int .u64 16)))))), (oP 0 (.mv (T 10)))])) (.tr (rl [0, 1]) false (.region
  false [(oP 11 (.mv (T 2))), (oP 12 (.bin .add (T 11) (tI 16))), (oP 2 (.mv (T 12)))]))) .skip))) (.seq (.seq (.tr (rl [0, 1, 11]) false (.region false [(oP 13
  (.mv (T 0))), (oP 14 (.bin .geq (T 13) (.lit (.c (.pv (.int .u64 256))))))])) (.tr (rl [0, 1]) false (.cond (T 14) (.seq (.tr (rl [0, 1]) false (.region false
  [(oP 15 (.mv (T 0))), (oP 16 (.bin .shr (T 15) (.lit (.c (.pv (.int .u64 8)))))), (oP 0 (.mv (T 16)))])) (.tr (rl [0, 1]) false (.region false [(oP 17 (.mv (T
  2))), (oP 18 (.bin .add (T 17) (tI 8))), (oP 2 (.mv (T 18)))]))) .skip))) (.seq (.tr (rl [2]) false (.region false [(oP 19 (.mv (T 2))), (oP 20 (.mv (T 0))),
  (oP 21 (.convI .u8 (T 20))), (oP 22 (.idxS (.lit (.c (.pv (.str [0, 1, 2, 2, 3, 3, 3, 3, 4, 4, 4, 4, 4, 4, 4, 4, 5, 5, 5, 5, 5, 5, 5, 5, 5, 5, 5, 5, 5, 5, 5,
  5, 6, 6, 6, 6, 6, 6, 6, 6, 6, 6, 6, 6, 6, 6, 6, 6, 6, 6, 6, 6, 6, 6, 6, 6, 6, 6, 6, 6, 6, 6, 6, 6, 7, 7, 7, 7, 7, 7, 7, 7, 7, 7, 7, 7, 7, 7, 7, 7, 7, 7, 7, 7,
  7, 7, 7, 7, 7, 7, 7, 7, 7, 7, 7, 7, 7, 7, 7, 7, 7, 7, 7, 7, 7, 7, 7, 7, 7, 7, 7, 7, 7, 7, 7, 7, 7, 7, 7, 7, 7, 7, 7, 7, 7, 7, 7, 7, 8, 8, 8, 8, 8, 8, 8, 8, 8,
  8, 8, 8, 8, 8, 8, 8, 8, 8, 8, 8, 8, 8, 8, 8, 8, 8, 8, 8, 8, 8, 8, 8, 8, 8, 8, 8, 8, 8, 8, 8, 8, 8, 8, 8, 8, 8, 8, 8, 8, 8, 8, 8, 8, 8, 8, 8, 8, 8, 8, 8, 8, 8,
  8, 8, 8, 8, 8, 8, 8, 8, 8, 8, 8, 8, 8, 8, 8, 8, 8, 8, 8, 8, 8, 8, 8, 8, 8, 8, 8, 8, 8, 8, 8, 8, 8, 8, 8, 8, 8, 8, 8, 8, 8, 8, 8, 8, 8, 8, 8, 8, 8, 8, 8, 8, 8,
  8, 8, 8, 8, 8, 8, 8, 8, 8, 8, 8, 8, 8])))) (T 21))), (oP 23 (.convI .i64 (T 22))), (oP 24 (.bin .add (T 19) (T 23))), (oP 2 (.mv (T 24)))])) (.tr (rl [2])
  false .ret)))))))
theorem xf148_ok : cmpFunc Go.Proofs.Tryd.prog 148 ((.two .no (.two (.two (.tr (rl [0, 1, 1]) false .no) (.tr (rl [0, 1]) false (.two (.two (.tr (rl [0]) false .no) .no) .no))) (.two (.two (.tr (rl [0, 1, 5]) false .no) (.tr (rl [0, 1]) false (.two (.two (.tr (rl [0, 1]) false .no) (.tr (rl [0, 1]) false .no)) .no))) (.two (.two (.tr (rl [0, 1, 11]) false .no) (.tr (rl [0, 1]) false (.two (.two (.tr (rl [0, 1]) false .no) (.tr (rl [0, 1]) false .no)) .no))) (.two (.tr (rl [2]) false .no) (.tr (rl [2]) false .no))))))) = some xf148 := by kernel_rfl
def xf149 : XFunc :=
(.mk 4 [(.tmp 2)] (.seq (.tr (rl [0]) false (.region false [(oP 2 (.mv (tI 0)))])) (.seq (.seq (.tr (rl [3]) false (.region false [(oP 3 (.mv (T 0)))])) (.tr
  (rl [2]) false (.cond (T 3) (.seq (.region false [(oP 2 (.mv (tI 1)))]) (.tr (rl [2]) false .ret)) .skip))) (.seq (.region false [(oP 2 (.mv (tI 0)))]) (.tr
  (rl [2]) false .ret)))))
theorem xf149_ok : cmpFunc Go.Proofs.Tryd.prog 149 ((.two (.tr (rl [0]) false .no) (.two (.two (.tr (rl [3]) false .no) (.tr (rl [2]) false (.two (.two .no (.tr (rl [2]) false .no)) .no))) (.two .no (.tr (rl [2]) false .no))))) = some xf149 := by kernel_rfl
def xf150 : XFunc :=
(.mk 8 [(.tmp 2)] (.seq (.tr (rl [0]) false (.region false [(oP 2 (.mv (.lit (.c (.pv (.bool false))))))])) (.seq (.tr (rl [2]) false (.region false [(oP 3 (.mv
  (T 0))), (oP 4 (.mv (T 0))), (oP 5 (.bin .sub (T 4) (tI 1))), (oP 6 (.bin .and (T 3) (T 5))), (oP 7 (.bin .eql (T 6) (tI 0))), (oP 2 (.mv (T 7)))])) (.tr (rl
  [2]) false .ret))))
theorem xf150_ok : cmpFunc Go.Proofs.Tryd.prog 150 ((.two (.tr (rl [0]) false .no) (.two (.tr (rl [2]) false .no) (.tr (rl [2]) false .no)))) = some xf150 := by kernel_rfl
def xf151 : XFunc :=
(.mk 8 [(.tmp 2)] (.seq (.tr (rl [0]) false (.region false [(oP 2 (.mv (tI 0)))])) (.seq (.tr (rl [0, 1]) false (.cond (.lit (.c (.pv (.bool false)))) (.seq
  (.tr (rl [2]) false (.region false [(oP 3 (.mv (T 0))), (oP 4 (.convI .u32 (T 3))), (oP 5 (.call false [] (.lit (.c (.fn 152 []))) [(T 4)])), (oP 2 (.mv (T
  5)))])) (.tr (rl [2]) false .ret)) .skip)) (.seq (.tr (rl [2]) false (.region false [(oP 6 (.mv (T 0))), (oP 7 (.call false [] (.lit (.c (.fn 153 []))) [(T
  6)])), (oP 2 (.mv (T 7)))])) (.tr (rl [2]) false .ret)))))
theorem xf151_ok : cmpFunc Go.Proofs.Tryd.prog 151 ((.two (.tr (rl [0]) false .no) (.two (.tr (rl [0, 1]) false (.two (.two (.tr (rl [2]) false (.ops [{}, {}, { cls := some .p }])) (.tr (rl [2]) false .no)) .no)) (.two (.tr (rl [2]) false (.ops [{}, { cls := some .p }])) (.tr (rl [2]) false .no))))) = some xf151 := by kernel_rfl
def xf152 : XFunc :=
(.mk 14 [(.tmp 2)] (.seq (.tr (rl [0]) false (.region false [(oP 2 (.mv (tI 0)))])) (.seq (.seq (.tr (rl [0, 3]) false (.region false [(oP 3 (.mv (T 0))), (oP 4
  (.bin .eql (T 3) (.lit (.c (.pv (.int .u32 0))))))])) (.tr (rl [0, 1]) false (.cond (T 4) (.seq (.region false [(oP 2 (.mv (tI 32)))]) (.tr (rl [2]) false
  .ret)) .skip))) (.seq (.tr (rl [2]) false (.region false [(oP 5 (.mv (T 0))), (oP 6 (.mv (T 0))), (oP 7 (.un .neg (T 6))), (oP 8 (.bin .and (T 5) (T 7))), (oP
  9 (.bin .mul (T 8) (.lit (.c (.pv (.int .u32 125613361)))))), (oP 10 (.bin .shr (T 9) (.lit (.c (.pv (.int .u64 27)))))), (.mk (some 11) .stuck none .w), (oR
  12 (.load false 1 (T 11))), (oP 13 (.convI .i64 (T 12))), (oP 2 (.mv (T 13)))])) (.tr (rl [2]) false .ret)))))
theorem xf152_ok : cmpFunc Go.Proofs.Tryd.prog 152 ((.two (.tr (rl [0]) false .no) (.two (.two (.tr (rl [0, 3]) false .no) (.tr (rl [0, 1]) false (.two (.two .no (.tr (rl [2]) false .no)) .no))) (.two (.tr (rl [2]) false .no) (.tr (rl [2]) false .no))))) = some xf152 := by kernel_rfl
def xf153 : XFunc :=
(.mk 14 [(.tmp 2)] (.seq (.tr (rl [0]) false (.region false [(oP 2 (.mv (tI 0)))])) (.seq (.seq (.tr (rl [0, 3]) false (.region false [(oP 3 (.mv (T 0))), (oP 4
  (.bin .eql (T 3) (.lit (.c (.pv (.int .u64 0))))))])) (.tr (rl [0, 1]) false (.cond (T 4) (.seq (.region false [(oP 2 (.mv (tI 64)))]) (.tr (rl [2]) false
  .ret)) .skip))) (.seq (.tr (rl [2]) false (.region false [(oP 5 (.mv (T 0))), (oP 6 (.mv (T 0))), (oP 7 (.un .neg (T 6))), (oP 8 (.bin .and (T 5) (T 7))), (oP
  9 (.bin .mul (T 8) (.lit (.c (.pv (.int .u64 285870213051353865)))))), (oP 10 (.bin .shr (T 9) (.lit (.c (.pv (.int .u64 58)))))), (.mk (some 11) .stuck none
  .w), (oR 12 (.load false 1 (T 11))), (oP 13 (.convI .i64 (T 12))), (oP 2 (.mv (T 13)))])) (.tr (rl [2]) false .ret)))))
theorem xf153_ok : cmpFunc Go.Proofs.Tryd.prog 153 ((.two (.tr (rl [0]) false .no) (.two (.two (.tr (rl [0, 3]) false .no) (.tr (rl [0, 1]) false (.two (.two .no (.tr (rl [2]) false .no)) .no))) (.two (.tr (rl [2]) false .no) (.tr (rl [2]) false .no))))) = some xf153 := by kernel_rfl
end Go.Sx.Tryd
/- Functions of the program in the evaluator's form, each checked by the kernel. Printed by genx.py. -/
namespace Go.Sx.Tryd
open Go Go.Sx
def X : Nat → Option XFunc
  | 4 => some xf4
  | 13 => some xf13
  | 14 => some xf14
  | 18 => some xf18
  | 19 => some xf19
  | 20 => some xf20
  | 21 => some xf21
  | 22 => some xf22
  | 23 => some xf23
  | 27 => some xf27
  | 30 => some xf30
  | 36 => some xf36
  | 37 => some xf37
  | 38 => some xf38
  | 39 => some xf39
  | 40 => some xf40
  | 41 => some xf41
  | 42 => some xf42
  | 43 => some xf43
  | 50 => some xf50
  | 51 => some xf51
  | 52 => some xf52
  | 53 => some xf53
  | 54 => some xf54
  | 55 => some xf55
  | 56 => some xf56
  | 57 => some xf57
  | 58 => some xf58
  | 59 => some xf59
  | 60 => some xf60
  | 61 => some xf61
  | 62 => some xf62
  | 63 => some xf63
  | 64 => some xf64
  | 73 => some xf73
  | 74 => some xf74
  | 83 => some xf83
  | 84 => some xf84
  | 85 => some xf85
  | 86 => some xf86
  | 87 => some xf87
  | 88 => some xf88
  | 89 => some xf89
  | 90 => some xf90
  | 91 => some xf91
  | 92 => some xf92
  | 94 => some xf94
  | 96 => some xf96
  | 97 => some xf97
  | 98 => some xf98
  | 99 => some xf99
  | 100 => some xf100
  | 101 => some xf101
  | 102 => some xf102
  | 103 => some xf103
  | 104 => some xf104
  | 105 => some xf105
  | 106 => some xf106
  | 116 => some xf116
  | 117 => some xf117
  | 121 => some xf121
  | 122 => some xf122
  | 123 => some xf123
  | 124 => some xf124
  | 125 => some xf125
  | 126 => some xf126
  | 127 => some xf127
  | 128 => some xf128
  | 137 => some xf137
  | 138 => some xf138
  | 141 => some xf141
  | 142 => some xf142
  | 143 => some xf143
  | 144 => some xf144
  | 145 => some xf145
  | 147 => some xf147
  | 148 => some xf148
  | 149 => some xf149
  | 150 => some xf150
  | 151 => some xf151
  | 152 => some xf152
  | 153 => some xf153
  | _ => none
def E0 : Oracle := fun _ _ _ => none
theorem X_ok : ∀ f x, X f = some x → ∃ h, cmpFunc Go.Proofs.Tryd.prog f h = some x := by
  intro f x h
  unfold X at h
  split at h <;> cases h
  · exact ⟨_, xf4_ok⟩
  · exact ⟨_, xf13_ok⟩
  · exact ⟨_, xf14_ok⟩
  · exact ⟨_, xf18_ok⟩
  · exact ⟨_, xf19_ok⟩
  · exact ⟨_, xf20_ok⟩
  · exact ⟨_, xf21_ok⟩
  · exact ⟨_, xf22_ok⟩
  · exact ⟨_, xf23_ok⟩
  · exact ⟨_, xf27_ok⟩
  · exact ⟨_, xf30_ok⟩
  · exact ⟨_, xf36_ok⟩
  · exact ⟨_, xf37_ok⟩
  · exact ⟨_, xf38_ok⟩
  · exact ⟨_, xf39_ok⟩
  · exact ⟨_, xf40_ok⟩
  · exact ⟨_, xf41_ok⟩
  · exact ⟨_, xf42_ok⟩
  · exact ⟨_, xf43_ok⟩
  · exact ⟨_, xf50_ok⟩
  · exact ⟨_, xf51_ok⟩
  · exact ⟨_, xf52_ok⟩
  · exact ⟨_, xf53_ok⟩
  · exact ⟨_, xf54_ok⟩
  · exact ⟨_, xf55_ok⟩
  · exact ⟨_, xf56_ok⟩
  · exact ⟨_, xf57_ok⟩
  · exact ⟨_, xf58_ok⟩
  · exact ⟨_, xf59_ok⟩
  · exact ⟨_, xf60_ok⟩
  · exact ⟨_, xf61_ok⟩
  · exact ⟨_, xf62_ok⟩
  · exact ⟨_, xf63_ok⟩
  · exact ⟨_, xf64_ok⟩
  · exact ⟨_, xf73_ok⟩
  · exact ⟨_, xf74_ok⟩
  · exact ⟨_, xf83_ok⟩
  · exact ⟨_, xf84_ok⟩
  · exact ⟨_, xf85_ok⟩
  · exact ⟨_, xf86_ok⟩
  · exact ⟨_, xf87_ok⟩
  · exact ⟨_, xf88_ok⟩
  · exact ⟨_, xf89_ok⟩
  · exact ⟨_, xf90_ok⟩
  · exact ⟨_, xf91_ok⟩
  · exact ⟨_, xf92_ok⟩
  · exact ⟨_, xf94_ok⟩
  · exact ⟨_, xf96_ok⟩
  · exact ⟨_, xf97_ok⟩
  · exact ⟨_, xf98_ok⟩
  · exact ⟨_, xf99_ok⟩
  · exact ⟨_, xf100_ok⟩
  · exact ⟨_, xf101_ok⟩
  · exact ⟨_, xf102_ok⟩
  · exact ⟨_, xf103_ok⟩
  · exact ⟨_, xf104_ok⟩
  · exact ⟨_, xf105_ok⟩
  · exact ⟨_, xf106_ok⟩
  · exact ⟨_, xf116_ok⟩
  · exact ⟨_, xf117_ok⟩
  · exact ⟨_, xf121_ok⟩
  · exact ⟨_, xf122_ok⟩
  · exact ⟨_, xf123_ok⟩
  · exact ⟨_, xf124_ok⟩
  · exact ⟨_, xf125_ok⟩
  · exact ⟨_, xf126_ok⟩
  · exact ⟨_, xf127_ok⟩
  · exact ⟨_, xf128_ok⟩
  · exact ⟨_, xf137_ok⟩
  · exact ⟨_, xf138_ok⟩
  · exact ⟨_, xf141_ok⟩
  · exact ⟨_, xf142_ok⟩
  · exact ⟨_, xf143_ok⟩
  · exact ⟨_, xf144_ok⟩
  · exact ⟨_, xf145_ok⟩
  · exact ⟨_, xf147_ok⟩
  · exact ⟨_, xf148_ok⟩
  · exact ⟨_, xf149_ok⟩
  · exact ⟨_, xf150_ok⟩
  · exact ⟨_, xf151_ok⟩
  · exact ⟨_, xf152_ok⟩
  · exact ⟨_, xf153_ok⟩
theorem ok : OkOr Go.Proofs.Tryd.prog (ev X E0) := ev_ok X_ok (fun _ _ _ _ _ h => by cases h) (by kernel_rfl)
end Go.Sx.Tryd
