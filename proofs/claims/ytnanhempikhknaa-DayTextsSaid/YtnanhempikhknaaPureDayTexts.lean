/- Any minute's text is the document's, and it is read as that minute again; a minute without a text has the empty one, which is not read. For every minute of an int64. -/
import Derived.Test.YtnanhempikhknaaMath7
namespace Go.Proofs.Ytnanhempikhknaa.Pure
open Go.RowKit Go.Proofs.Ytnanhempikhknaa.D Go.Proofs.YtnanhempikhknaaW.PrintWords Go.Proofs.YtnanhempikhknaaW.PrintLast Go.Proofs.Ytnanhempikhknaa.Cal

theorem DayTexts : hibernaclelaw48_DayTexts.Pure := by
  intro a ha
  obtain ⟨h1, h2⟩ := wf_i64 ha
  obtain ⟨y, m, r, hd, hy1, hy2, hp, hq⟩ := of_minute h1 h2
  refine ⟨40000, ?_⟩
  unfold hibernaclelaw48_DayTexts.f
  rw [Text_eq h1 h2 hd (by omega) (hp 40000 (by omega)), rText_eq h1 h2 hd (by omega) (hq 40000 (by omega)), awake_ok (by omega)]
  by_cases c : 0 ≤ y ∧ y ≤ 9999
  · rw [if_pos c]
    simp only [Option.bind_some]
    rw [if_pos trivial, Of_txt hd c.1 c.2 (by omega) (by omega) (by omega)]
    simp only [Option.bind_some]
    rw [if_neg (txt_ne _ _ _ _), if_pos (by omega), if_pos trivial]
  · rw [if_neg c]
    simp only [Option.bind_some]
    have e : day_Of.f 40000 (strOfNums []) = some (0, false) := by
      unfold day_Of.f
      rw [if_neg (by rw [nums_size]; decide)]
    rw [if_pos trivial, e]
    simp only [Option.bind_some]
    rw [if_pos (by rw [nums_list]; rfl), if_pos trivial, if_neg (by decide)]

end Go.Proofs.Ytnanhempikhknaa.Pure
