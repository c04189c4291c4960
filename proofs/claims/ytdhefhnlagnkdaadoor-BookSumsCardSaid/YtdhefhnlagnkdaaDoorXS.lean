/- Functions of the program in the evaluator's form, each checked by the kernel. Printed by genx.py. -/
import Derived.Test.YtdhefhnlagnkdaaDoorXSp1
import Derived.Test.YtdhefhnlagnkdaaDoorXSp2
namespace Go.Sx.Tryd
open Go Go.Sx
def X : Nat → Option XFunc
  | 4 => some xf4
  | 5 => some xf5
  | 6 => some xf6
  | 7 => some xf7
  | 15 => some xf15
  | 16 => some xf16
  | 17 => some xf17
  | 18 => some xf18
  | 19 => some xf19
  | 20 => some xf20
  | 21 => some xf21
  | 22 => some xf22
  | 23 => some xf23
  | 24 => some xf24
  | 25 => some xf25
  | 26 => some xf26
  | 27 => some xf27
  | 28 => some xf28
  | 29 => some xf29
  | 30 => some xf30
  | 31 => some xf31
  | 32 => some xf32
  | 33 => some xf33
  | 34 => some xf34
  | 35 => some xf35
  | 36 => some xf36
  | 37 => some xf37
  | 38 => some xf38
  | 40 => some xf40
  | 43 => some xf43
  | 44 => some xf44
  | 45 => some xf45
  | 46 => some xf46
  | 48 => some xf48
  | 58 => some xf58
  | 59 => some xf59
  | 60 => some xf60
  | 61 => some xf61
  | 62 => some xf62
  | 63 => some xf63
  | 64 => some xf64
  | 65 => some xf65
  | 66 => some xf66
  | 67 => some xf67
  | 68 => some xf68
  | 69 => some xf69
  | 70 => some xf70
  | 71 => some xf71
  | 72 => some xf72
  | 73 => some xf73
  | 74 => some xf74
  | 75 => some xf75
  | 76 => some xf76
  | 77 => some xf77
  | 78 => some xf78
  | 79 => some xf79
  | 80 => some xf80
  | 81 => some xf81
  | 82 => some xf82
  | 83 => some xf83
  | 84 => some xf84
  | 85 => some xf85
  | 87 => some xf87
  | 88 => some xf88
  | 96 => some xf96
  | 126 => some xf126
  | 127 => some xf127
  | 128 => some xf128
  | 129 => some xf129
  | 130 => some xf130
  | 150 => some xf150
  | 151 => some xf151
  | 154 => some xf154
  | _ => none
def E0 : Oracle := fun _ _ _ => none
theorem X_ok : ∀ f x, X f = some x → ∃ h, cmpFunc Go.Proofs.Tryd.prog f h = some x := by
  intro f x h
  unfold X at h
  split at h <;> cases h
  · exact ⟨_, xf4_ok⟩
  · exact ⟨_, xf5_ok⟩
  · exact ⟨_, xf6_ok⟩
  · exact ⟨_, xf7_ok⟩
  · exact ⟨_, xf15_ok⟩
  · exact ⟨_, xf16_ok⟩
  · exact ⟨_, xf17_ok⟩
  · exact ⟨_, xf18_ok⟩
  · exact ⟨_, xf19_ok⟩
  · exact ⟨_, xf20_ok⟩
  · exact ⟨_, xf21_ok⟩
  · exact ⟨_, xf22_ok⟩
  · exact ⟨_, xf23_ok⟩
  · exact ⟨_, xf24_ok⟩
  · exact ⟨_, xf25_ok⟩
  · exact ⟨_, xf26_ok⟩
  · exact ⟨_, xf27_ok⟩
  · exact ⟨_, xf28_ok⟩
  · exact ⟨_, xf29_ok⟩
  · exact ⟨_, xf30_ok⟩
  · exact ⟨_, xf31_ok⟩
  · exact ⟨_, xf32_ok⟩
  · exact ⟨_, xf33_ok⟩
  · exact ⟨_, xf34_ok⟩
  · exact ⟨_, xf35_ok⟩
  · exact ⟨_, xf36_ok⟩
  · exact ⟨_, xf37_ok⟩
  · exact ⟨_, xf38_ok⟩
  · exact ⟨_, xf40_ok⟩
  · exact ⟨_, xf43_ok⟩
  · exact ⟨_, xf44_ok⟩
  · exact ⟨_, xf45_ok⟩
  · exact ⟨_, xf46_ok⟩
  · exact ⟨_, xf48_ok⟩
  · exact ⟨_, xf58_ok⟩
  · exact ⟨_, xf59_ok⟩
  · exact ⟨_, xf60_ok⟩
  · exact ⟨_, xf61_ok⟩
  · exact ⟨_, xf62_ok⟩
  · exact ⟨_, xf63_ok⟩
  · exact ⟨_, xf64_ok⟩
  · exact ⟨_, xf65_ok⟩
  · exact ⟨_, xf66_ok⟩
  · exact ⟨_, xf67_ok⟩
  · exact ⟨_, xf68_ok⟩
  · exact ⟨_, xf69_ok⟩
  · exact ⟨_, xf70_ok⟩
  · exact ⟨_, xf71_ok⟩
  · exact ⟨_, xf72_ok⟩
  · exact ⟨_, xf73_ok⟩
  · exact ⟨_, xf74_ok⟩
  · exact ⟨_, xf75_ok⟩
  · exact ⟨_, xf76_ok⟩
  · exact ⟨_, xf77_ok⟩
  · exact ⟨_, xf78_ok⟩
  · exact ⟨_, xf79_ok⟩
  · exact ⟨_, xf80_ok⟩
  · exact ⟨_, xf81_ok⟩
  · exact ⟨_, xf82_ok⟩
  · exact ⟨_, xf83_ok⟩
  · exact ⟨_, xf84_ok⟩
  · exact ⟨_, xf85_ok⟩
  · exact ⟨_, xf87_ok⟩
  · exact ⟨_, xf88_ok⟩
  · exact ⟨_, xf96_ok⟩
  · exact ⟨_, xf126_ok⟩
  · exact ⟨_, xf127_ok⟩
  · exact ⟨_, xf128_ok⟩
  · exact ⟨_, xf129_ok⟩
  · exact ⟨_, xf130_ok⟩
  · exact ⟨_, xf150_ok⟩
  · exact ⟨_, xf151_ok⟩
  · exact ⟨_, xf154_ok⟩

theorem ok : OkOr Go.Proofs.Tryd.prog (ev X E0) := ev_ok X_ok (fun _ _ _ _ _ h => by cases h) (by kernel_rfl)
end Go.Sx.Tryd
