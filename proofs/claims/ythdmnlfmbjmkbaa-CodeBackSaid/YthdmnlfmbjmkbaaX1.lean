/- Functions of the program in the evaluator's form, each checked by the kernel. Printed by genx.py. -/
import Derived.Test.YthdmnlfmbjmkbaaX1p1
import Derived.Test.YthdmnlfmbjmkbaaX1p2
namespace Go.Sx.Try
open Go Go.Sx
def X : Nat → Option XFunc
  | 3 => some xf3
  | 4 => some xf4
  | 5 => some xf5
  | 6 => some xf6
  | 7 => some xf7
  | 8 => some xf8
  | 9 => some xf9
  | 10 => some xf10
  | 11 => some xf11
  | 12 => some xf12
  | 13 => some xf13
  | 14 => some xf14
  | 15 => some xf15
  | 16 => some xf16
  | 17 => some xf17
  | 18 => some xf18
  | 19 => some xf19
  | 20 => some xf20
  | 21 => some xf21
  | 22 => some xf22
  | 23 => some xf23
  | 24 => some xf24
  | 25 => some xf25
  | 26 => some xf26
  | 27 => some xf27
  | 28 => some xf28
  | 29 => some xf29
  | 30 => some xf30
  | 31 => some xf31
  | 32 => some xf32
  | 33 => some xf33
  | 34 => some xf34
  | 35 => some xf35
  | 36 => some xf36
  | 37 => some xf37
  | 38 => some xf38
  | 39 => some xf39
  | 40 => some xf40
  | 41 => some xf41
  | 42 => some xf42
  | 43 => some xf43
  | 44 => some xf44
  | 45 => some xf45
  | 46 => some xf46
  | 47 => some xf47
  | 48 => some xf48
  | 49 => some xf49
  | 50 => some xf50
  | 51 => some xf51
  | 52 => some xf52
  | 53 => some xf53
  | 54 => some xf54
  | 55 => some xf55
  | _ => none
def E0 : Oracle := fun _ _ _ => none
theorem X_ok : ∀ f x, X f = some x → ∃ h, cmpFunc Go.Proofs.Try.prog f h = some x := by
  intro f x h
  unfold X at h
  split at h <;> cases h
  · exact ⟨_, xf3_ok⟩
  · exact ⟨_, xf4_ok⟩
  · exact ⟨_, xf5_ok⟩
  · exact ⟨_, xf6_ok⟩
  · exact ⟨_, xf7_ok⟩
  · exact ⟨_, xf8_ok⟩
  · exact ⟨_, xf9_ok⟩
  · exact ⟨_, xf10_ok⟩
  · exact ⟨_, xf11_ok⟩
  · exact ⟨_, xf12_ok⟩
  · exact ⟨_, xf13_ok⟩
  · exact ⟨_, xf14_ok⟩
  · exact ⟨_, xf15_ok⟩
  · exact ⟨_, xf16_ok⟩
  · exact ⟨_, xf17_ok⟩
  · exact ⟨_, xf18_ok⟩
  · exact ⟨_, xf19_ok⟩
  · exact ⟨_, xf20_ok⟩
  · exact ⟨_, xf21_ok⟩
  · exact ⟨_, xf22_ok⟩
  · exact ⟨_, xf23_ok⟩
  · exact ⟨_, xf24_ok⟩
  · exact ⟨_, xf25_ok⟩
  · exact ⟨_, xf26_ok⟩
  · exact ⟨_, xf27_ok⟩
  · exact ⟨_, xf28_ok⟩
  · exact ⟨_, xf29_ok⟩
  · exact ⟨_, xf30_ok⟩
  · exact ⟨_, xf31_ok⟩
  · exact ⟨_, xf32_ok⟩
  · exact ⟨_, xf33_ok⟩
  · exact ⟨_, xf34_ok⟩
  · exact ⟨_, xf35_ok⟩
  · exact ⟨_, xf36_ok⟩
  · exact ⟨_, xf37_ok⟩
  · exact ⟨_, xf38_ok⟩
  · exact ⟨_, xf39_ok⟩
  · exact ⟨_, xf40_ok⟩
  · exact ⟨_, xf41_ok⟩
  · exact ⟨_, xf42_ok⟩
  · exact ⟨_, xf43_ok⟩
  · exact ⟨_, xf44_ok⟩
  · exact ⟨_, xf45_ok⟩
  · exact ⟨_, xf46_ok⟩
  · exact ⟨_, xf47_ok⟩
  · exact ⟨_, xf48_ok⟩
  · exact ⟨_, xf49_ok⟩
  · exact ⟨_, xf50_ok⟩
  · exact ⟨_, xf51_ok⟩
  · exact ⟨_, xf52_ok⟩
  · exact ⟨_, xf53_ok⟩
  · exact ⟨_, xf54_ok⟩
  · exact ⟨_, xf55_ok⟩

theorem ok : OkOr Go.Proofs.Try.prog (ev X E0) := ev_ok X_ok (fun _ _ _ _ _ h => by cases h) (by kernel_rfl)
end Go.Sx.Try
