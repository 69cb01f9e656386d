/- Own walk over cmp.Compare at strings. -/
import Derived.Test.YtdadnapfecmmdaaP0
import Derived.WalkLawsBesides
namespace Go.Proofs.Ytdadnapfecmmdaa.P
set_option linter.unusedVariables false
set_option linter.unusedSimpArgs false
open Go.RowKit Go.Proofs.YtdadnapfecmmdaaW.PrintWords Go.Proofs.YtdadnapfecmmdaaW.PrintLast Go.Proofs.YtdadnapfecmmdaaW.PrintMore
/-- The order of two strings, as cmp.Compare tells it. -/
def cmpStr (a b : ByteArray) : Int := if Op.bytesLess a.toList b.toList = true then -1 else if a.toList = b.toList then 0 else 1
theorem nan_calls (a : ByteArray) (w : World) : Calls Try.prog 127 #[.string a] w fun e w' => e = .returned (.bool false) ∧ w = w' := by
  go_enter Try.func127, Try.ntmps127
  go_wp2
  go_ret
  exact ⟨by simp, rfl⟩
theorem cmpStr_calls (a b : ByteArray) (w : World) : Calls Try.prog 103 #[.string a, .string b] w fun e w' => e = .returned (.int .i64 (cmpStr a b)) ∧ w = w' := by
  have EO : Aside0 (cmpStr a b = if Op.bytesLess a.toList b.toList = true then -1 else if a.toList = b.toList then 0 else 1) := ⟨rfl⟩
  by_cases h1 : Op.bytesLess a.toList b.toList = true
  · go_enter Try.func103, Try.ntmps103
    go_wp2_with fail
    refine (nan_calls _ _).mono ?_
    rintro e w' ⟨rfl, rfl⟩
    go_wp2_with fail
    refine (nan_calls _ _).mono ?_
    rintro e w' ⟨rfl, rfl⟩
    go_wp2_with fail
    go_ret
    exact ⟨by rw [EO.out, if_pos h1]; rfl, rfl⟩
  · replace h1 : Op.bytesLess a.toList b.toList = false := by simpa using h1
    by_cases h2 : a.toList = b.toList
    · have h3 : (a.toList == b.toList) = true := by simp [h2]
      have E2 := Aside0.mk h2
      clear h2
      go_enter Try.func103, Try.ntmps103
      go_wp2_with fail
      refine (nan_calls _ _).mono ?_
      rintro e w' ⟨rfl, rfl⟩
      go_wp2_with fail
      refine (nan_calls _ _).mono ?_
      rintro e w' ⟨rfl, rfl⟩
      go_wp2_with fail
      go_ret
      exact ⟨by rw [EO.out, if_neg (by rw [h1]; simp), if_pos E2.out]; rfl, rfl⟩
    · have h3 : (a.toList == b.toList) = false := by simp [h2]
      have E2 := Aside0.mk h2
      clear h2
      go_enter Try.func103, Try.ntmps103
      go_wp2_with fail
      refine (nan_calls _ _).mono ?_
      rintro e w' ⟨rfl, rfl⟩
      go_wp2_with fail
      refine (nan_calls _ _).mono ?_
      rintro e w' ⟨rfl, rfl⟩
      go_wp2_with fail
      go_ret
      exact ⟨by rw [EO.out, if_neg (by rw [h1]; simp), if_neg E2.out]; rfl, rfl⟩
end Go.Proofs.Ytdadnapfecmmdaa.P
