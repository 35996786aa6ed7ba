/- The numbers of any minute's day, week, month and year are the document's, for every minute of an int64. -/
import Derived.Test.YtnanhempikhknaaMath7
namespace Go.Proofs.Ytnanhempikhknaa.Pure
open Go.RowKit Go.Proofs.Ytnanhempikhknaa.D Go.Proofs.YtnanhempikhknaaW.PrintWords Go.Proofs.YtnanhempikhknaaW.PrintLast Go.Proofs.Ytnanhempikhknaa.Cal

theorem DayCounts : hibernaclelaw48_DayCounts.Pure := by
  intro a ha
  obtain ⟨h1, h2⟩ := wf_i64 ha
  obtain ⟨y, m, r, hd, hy1, hy2, hp, hq⟩ := of_minute h1 h2
  refine ⟨6000, ?_⟩
  unfold hibernaclelaw48_DayCounts.f
  rw [Day_eq h1 h2, rDay_eq h1 h2, Week_eq h1 h2, rWeek_eq h1 h2, Month_eq h1 h2 (hp 6000 (by omega)) hy1 hy2 hd.1 hd.2.1, rMonth_eq h1 h2 (hq 6000 (by omega)) hy1 hy2 hd.1 hd.2.1,
    Year_eq h1 h2 (hp 6000 (by omega)), rYear_eq h1 h2 (hq 6000 (by omega)), awake_ok (by omega)]
  simp only [Option.bind_some]
  rw [if_pos trivial, if_pos trivial, if_pos trivial, if_pos trivial]

end Go.Proofs.Ytnanhempikhknaa.Pure
