/- Functions of the program in the evaluator's form, each checked by the kernel. Printed by genx.py. -/
import Derived.Test.YtdhefhnlagnkdaaDoorXSp1
import Derived.Test.YtdhefhnlagnkdaaDoorXSp2
namespace Go.Sx.Tryd
open Go Go.Sx
def X : Nat → Option XFunc
  | 9 => some xf9
  | 10 => some xf10
  | 11 => some xf11
  | 12 => some xf12
  | 13 => some xf13
  | 16 => some xf16
  | 34 => some xf34
  | 37 => some xf37
  | 38 => some xf38
  | 39 => some xf39
  | 40 => some xf40
  | 41 => some xf41
  | 42 => some xf42
  | 43 => some xf43
  | 44 => some xf44
  | 45 => some xf45
  | 46 => some xf46
  | 47 => some xf47
  | 48 => some xf48
  | 49 => some xf49
  | 50 => some xf50
  | 72 => some xf72
  | 73 => some xf73
  | 74 => some xf74
  | 75 => some xf75
  | 76 => some xf76
  | 77 => some xf77
  | 78 => some xf78
  | 79 => some xf79
  | 80 => some xf80
  | 81 => some xf81
  | 82 => some xf82
  | 83 => some xf83
  | 84 => some xf84
  | 85 => some xf85
  | 86 => some xf86
  | 87 => some xf87
  | 88 => some xf88
  | 89 => some xf89
  | 90 => some xf90
  | 91 => some xf91
  | 92 => some xf92
  | 93 => some xf93
  | 94 => some xf94
  | 95 => some xf95
  | 96 => some xf96
  | 97 => some xf97
  | 98 => some xf98
  | 99 => some xf99
  | 100 => some xf100
  | 101 => some xf101
  | 102 => some xf102
  | 103 => some xf103
  | 104 => some xf104
  | 105 => some xf105
  | 106 => some xf106
  | 107 => some xf107
  | 108 => some xf108
  | 109 => some xf109
  | 110 => some xf110
  | 111 => some xf111
  | 112 => some xf112
  | 113 => some xf113
  | 114 => some xf114
  | 115 => some xf115
  | 116 => some xf116
  | 117 => some xf117
  | 126 => some xf126
  | 127 => some xf127
  | 128 => some xf128
  | 129 => some xf129
  | 130 => some xf130
  | 131 => some xf131
  | 132 => some xf132
  | 133 => some xf133
  | 134 => some xf134
  | 135 => some xf135
  | 136 => some xf136
  | 137 => some xf137
  | 138 => some xf138
  | 139 => some xf139
  | 140 => some xf140
  | 141 => some xf141
  | 142 => some xf142
  | 150 => some xf150
  | 151 => some xf151
  | 154 => some xf154
  | 63 => some xf63
  | _ => none
def E0 : Oracle := fun _ _ _ => none
theorem X_ok : ∀ f x, X f = some x → ∃ h, cmpFunc Go.Proofs.Tryd.prog f h = some x := by
  intro f x h
  unfold X at h
  split at h <;> cases h
  · exact ⟨_, xf9_ok⟩
  · exact ⟨_, xf10_ok⟩
  · exact ⟨_, xf11_ok⟩
  · exact ⟨_, xf12_ok⟩
  · exact ⟨_, xf13_ok⟩
  · exact ⟨_, xf16_ok⟩
  · exact ⟨_, xf34_ok⟩
  · exact ⟨_, xf37_ok⟩
  · exact ⟨_, xf38_ok⟩
  · exact ⟨_, xf39_ok⟩
  · exact ⟨_, xf40_ok⟩
  · exact ⟨_, xf41_ok⟩
  · exact ⟨_, xf42_ok⟩
  · exact ⟨_, xf43_ok⟩
  · exact ⟨_, xf44_ok⟩
  · exact ⟨_, xf45_ok⟩
  · exact ⟨_, xf46_ok⟩
  · exact ⟨_, xf47_ok⟩
  · exact ⟨_, xf48_ok⟩
  · exact ⟨_, xf49_ok⟩
  · exact ⟨_, xf50_ok⟩
  · exact ⟨_, xf72_ok⟩
  · exact ⟨_, xf73_ok⟩
  · exact ⟨_, xf74_ok⟩
  · exact ⟨_, xf75_ok⟩
  · exact ⟨_, xf76_ok⟩
  · exact ⟨_, xf77_ok⟩
  · exact ⟨_, xf78_ok⟩
  · exact ⟨_, xf79_ok⟩
  · exact ⟨_, xf80_ok⟩
  · exact ⟨_, xf81_ok⟩
  · exact ⟨_, xf82_ok⟩
  · exact ⟨_, xf83_ok⟩
  · exact ⟨_, xf84_ok⟩
  · exact ⟨_, xf85_ok⟩
  · exact ⟨_, xf86_ok⟩
  · exact ⟨_, xf87_ok⟩
  · exact ⟨_, xf88_ok⟩
  · exact ⟨_, xf89_ok⟩
  · exact ⟨_, xf90_ok⟩
  · exact ⟨_, xf91_ok⟩
  · exact ⟨_, xf92_ok⟩
  · exact ⟨_, xf93_ok⟩
  · exact ⟨_, xf94_ok⟩
  · exact ⟨_, xf95_ok⟩
  · exact ⟨_, xf96_ok⟩
  · exact ⟨_, xf97_ok⟩
  · exact ⟨_, xf98_ok⟩
  · exact ⟨_, xf99_ok⟩
  · exact ⟨_, xf100_ok⟩
  · exact ⟨_, xf101_ok⟩
  · exact ⟨_, xf102_ok⟩
  · exact ⟨_, xf103_ok⟩
  · exact ⟨_, xf104_ok⟩
  · exact ⟨_, xf105_ok⟩
  · exact ⟨_, xf106_ok⟩
  · exact ⟨_, xf107_ok⟩
  · exact ⟨_, xf108_ok⟩
  · exact ⟨_, xf109_ok⟩
  · exact ⟨_, xf110_ok⟩
  · exact ⟨_, xf111_ok⟩
  · exact ⟨_, xf112_ok⟩
  · exact ⟨_, xf113_ok⟩
  · exact ⟨_, xf114_ok⟩
  · exact ⟨_, xf115_ok⟩
  · exact ⟨_, xf116_ok⟩
  · exact ⟨_, xf117_ok⟩
  · exact ⟨_, xf126_ok⟩
  · exact ⟨_, xf127_ok⟩
  · exact ⟨_, xf128_ok⟩
  · exact ⟨_, xf129_ok⟩
  · exact ⟨_, xf130_ok⟩
  · exact ⟨_, xf131_ok⟩
  · exact ⟨_, xf132_ok⟩
  · exact ⟨_, xf133_ok⟩
  · exact ⟨_, xf134_ok⟩
  · exact ⟨_, xf135_ok⟩
  · exact ⟨_, xf136_ok⟩
  · exact ⟨_, xf137_ok⟩
  · exact ⟨_, xf138_ok⟩
  · exact ⟨_, xf139_ok⟩
  · exact ⟨_, xf140_ok⟩
  · exact ⟨_, xf141_ok⟩
  · exact ⟨_, xf142_ok⟩
  · exact ⟨_, xf150_ok⟩
  · exact ⟨_, xf151_ok⟩
  · exact ⟨_, xf154_ok⟩
  · exact ⟨_, xf63_ok⟩

theorem ok : OkOr Go.Proofs.Tryd.prog (ev X E0) := ev_ok X_ok (fun _ _ _ _ _ h => by cases h) (by kernel_rfl)
end Go.Sx.Tryd
