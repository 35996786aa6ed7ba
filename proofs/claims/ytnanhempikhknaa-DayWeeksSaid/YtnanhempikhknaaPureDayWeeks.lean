/- Seven days later it is one week later and seven days, for every minute of an int64 (beyond 2^50 the law asks only the examples). -/
import Derived.Test.YtnanhempikhknaaMath7
namespace Go.Proofs.Ytnanhempikhknaa.Pure
open Go.RowKit Go.Proofs.Ytnanhempikhknaa.D Go.Proofs.YtnanhempikhknaaW.PrintWords Go.Proofs.YtnanhempikhknaaW.PrintLast Go.Proofs.Ytnanhempikhknaa.Cal

theorem DayWeeks : hibernaclelaw48_DayWeeks.Pure := by
  intro a ha
  obtain ⟨h1, h2⟩ := wf_i64 ha
  refine ⟨101, ?_⟩
  unfold hibernaclelaw48_DayWeeks.f
  have t : hibernaclelaw48_DayWeeks.j0 101 a true = some true := by
    simp only [hibernaclelaw48_DayWeeks.j0]
    rw [if_pos trivial, awake_ok (by omega)]
    rfl
  by_cases c : a > 1125899906842624
  · rw [if_pos c]
    exact t
  · rw [if_neg c]
    by_cases c2 : a < -1125899906842624
    · rw [decide_eq_true c2]
      exact t
    · rw [decide_eq_false c2]
      simp only [hibernaclelaw48_DayWeeks.j0]
      rw [if_neg (by decide), w64 (x := a + 1) (by omega) (by omega), w64 (x := a + 10080) (by omega) (by omega), Day_eq (by omega) (by omega), Day_eq (a := a) (by omega) (by omega),
        Week_eq (a := a + 10080) (by omega) (by omega), Week_eq (a := a) (by omega) (by omega), Day_eq (a := a + 10080) (by omega) (by omega), Week_eq (a := a + 1) (by omega) (by omega)]
      simp only [Option.bind_some]
      rw [w64 (x := (a / 1440 + 5) / 7 + 1) (by omega) (by omega), w64 (x := a / 1440 + 7) (by omega) (by omega), if_pos (by omega), if_pos (by omega), awake_ok (by omega)]
      simp only [Option.bind_some]
      by_cases c3 : (a + 1) / 1440 = a / 1440
      · rw [if_pos c3, if_pos (by rw [c3])]
      · rw [if_neg c3]

end Go.Proofs.Ytnanhempikhknaa.Pure
