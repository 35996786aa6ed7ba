/- The minute of any text, or that there is none, is the document's, and it has that text. For every text. -/
import Derived.Test.YtnanhempikhknaaMath7
namespace Go.Proofs.Ytnanhempikhknaa.Pure
open Go.RowKit Go.Proofs.Ytnanhempikhknaa.D Go.Proofs.YtnanhempikhknaaW.PrintWords Go.Proofs.YtnanhempikhknaaW.PrintLast Go.Proofs.Ytnanhempikhknaa.Cal

theorem DayReads : hibernaclelaw48_DayReads.Pure := by
  intro s _
  obtain ⟨n, b, h⟩ := Of_same s
  obtain ⟨e1, e2, e3⟩ := h 40000 (by omega)
  refine ⟨40000, ?_⟩
  unfold hibernaclelaw48_DayReads.f
  rw [e1, e2, awake_ok (by omega)]
  simp only [Option.bind_some]
  rw [if_pos trivial, if_pos (by simp)]
  cases b with
  | true =>
    obtain ⟨_, _, e⟩ := e3 rfl
    rw [if_pos rfl, e]
    simp only [Option.bind_some]
    rw [if_pos trivial]
  | false => rw [if_neg (by decide)]

end Go.Proofs.Ytnanhempikhknaa.Pure
