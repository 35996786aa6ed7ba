/- 400 years are 146097 days: so much later it is the same day of the year, 4800 months on (beyond 2^50 minutes the law asks only the examples). -/
import Derived.Test.YtnanhempikhknaaMath7
namespace Go.Proofs.Ytnanhempikhknaa.Pure
open Go.RowKit Go.Proofs.Ytnanhempikhknaa.D Go.Proofs.YtnanhempikhknaaW.PrintWords Go.Proofs.YtnanhempikhknaaW.PrintLast Go.Proofs.Ytnanhempikhknaa.Cal

theorem DayYears : hibernaclelaw48_DayYears.Pure := by
  intro a ha
  obtain ⟨h1, h2⟩ := wf_i64 ha
  refine ⟨6001, ?_⟩
  unfold hibernaclelaw48_DayYears.f
  have t : hibernaclelaw48_DayYears.j0 6001 a true = some true := by
    simp only [hibernaclelaw48_DayYears.j0]
    rw [if_pos trivial, awake_ok (by omega)]
    rfl
  by_cases c : a > 1125899906842624
  · rw [if_pos c]
    exact t
  · rw [if_neg c]
    by_cases c2 : a < -1125899906842624
    · rw [decide_eq_true c2]
      exact t
    · rw [decide_eq_false c2]
      obtain ⟨y, m, r, hd, hy1, hy2, hp, _⟩ := of_minute h1 h2
      obtain ⟨y', m', r', hd', hy1', hy2', hp', _⟩ := of_minute (a := a + 210379680) (by omega) (by omega)
      have on := hd.on
      rw [show a / 1440 + 146097 = (a + 210379680) / 1440 by omega] at on
      obtain ⟨rfl, rfl, rfl⟩ := on.uniq hd'
      simp only [hibernaclelaw48_DayYears.j0]
      rw [if_neg (by decide), w64 (x := a + 210379680) (by omega) (by omega), Year_eq (a := a + 210379680) (by omega) (by omega) (hp' 6000 (by omega)), Year_eq h1 h2 (hp 6000 (by omega)),
        Month_eq (a := a + 210379680) (by omega) (by omega) (hp' 6000 (by omega)) hy1' hy2' hd'.1 hd'.2.1, Month_eq h1 h2 (hp 6000 (by omega)) hy1 hy2 hd.1 hd.2.1, awake_ok (by omega)]
      simp only [Option.bind_some]
      rw [w64 (x := y + 400) (by omega) (by omega), if_pos rfl, w64 (x := (y - 2000) * 12 + m + 4800) (by have := hd.1; have := hd.2.1; omega) (by have := hd.1; have := hd.2.1; omega), if_pos (by omega)]

end Go.Proofs.Ytnanhempikhknaa.Pure
