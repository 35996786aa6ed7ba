/- A later minute has no lower number of its day, week, month and year; of two texts the greater one is the later one's. For all minutes of an int64. -/
import Derived.Test.YtnanhempikhknaaMath7
namespace Go.Proofs.Ytnanhempikhknaa.Pure
open Go.RowKit Go.Proofs.Ytnanhempikhknaa.D Go.Proofs.YtnanhempikhknaaW.PrintWords Go.Proofs.YtnanhempikhknaaW.PrintLast Go.Proofs.Ytnanhempikhknaa.Cal

theorem DayRises : hibernaclelaw48_DayRises.Pure := by
  intro a b ha hb
  obtain ⟨h1, h2⟩ := wf_i64 ha
  obtain ⟨g1, g2⟩ := wf_i64 hb
  refine ⟨20001, ?_⟩
  unfold hibernaclelaw48_DayRises.f
  by_cases c : a > b
  · rw [if_pos c, awake_ok (by omega)]
    rfl
  rw [if_neg c]
  obtain ⟨y, m, r, hd, hy1, hy2, hp, _⟩ := of_minute h1 h2
  obtain ⟨y', m', r', hd', hy1', hy2', hp', _⟩ := of_minute g1 g2
  have l := hd.le hd' (by omega)
  have m0 := hd.1
  have m1 := hd.2.1
  have m2 := hd'.1
  have m3 := hd'.2.1
  have j : hibernaclelaw48_DayRises.j0 20001 a b false = some true := by
    simp only [hibernaclelaw48_DayRises.j0]
    rw [if_neg (by decide), Day_eq h1 h2, Day_eq g1 g2, Week_eq h1 h2, Week_eq g1 g2, Month_eq h1 h2 (hp 20000 (by omega)) hy1 hy2 hd.1 hd.2.1, Month_eq g1 g2 (hp' 20000 (by omega)) hy1' hy2' hd'.1 hd'.2.1,
      Year_eq h1 h2 (hp 20000 (by omega)), Year_eq g1 g2 (hp' 20000 (by omega)), awake_ok (by omega)]
    simp only [Option.bind_some]
    rw [if_pos (by omega), if_pos (by omega), if_pos (by omega), if_pos (by omega)]
  rw [Text_eq h1 h2 hd (by omega) (hp 20001 (by omega)), Text_eq g1 g2 hd' (by omega) (hp' 20001 (by omega))]
  by_cases c1 : 0 ≤ y ∧ y ≤ 9999
  · by_cases c2 : 0 ≤ y' ∧ y' ≤ 9999
    · rw [if_pos c1, if_pos c2]
      simp only [Option.bind_some]
      rw [if_neg (txt_ne _ _ _ _), if_neg (txt_ne _ _ _ _), txt_rises (by omega) hd hd' c1.1 c2.2]
      exact j
    · rw [if_pos c1, if_neg c2]
      simp only [Option.bind_some]
      rw [if_neg (txt_ne _ _ _ _), if_pos (by rw [nums_list]; rfl)]
      exact j
  · rw [if_neg c1]
    have k : ∀ o : ByteArray, ((some (strOfNums [])).bind fun t230 => ((some o).bind fun t231 => (if t230.toList = ([] : List UInt8) then (hibernaclelaw48_DayRises.j0 20001 a b false) else (if t231.toList = ([] : List UInt8) then (hibernaclelaw48_DayRises.j0 20001 a b false) else (hibernaclelaw48_DayRises.j0 20001 a b (Op.bytesLess t231.toList t230.toList)))))) = some true := fun o => by
      simp only [Option.bind_some]
      rw [if_pos (by rw [nums_list]; rfl)]
      exact j
    by_cases c2 : 0 ≤ y' ∧ y' ≤ 9999
    · rw [if_pos c2]
      exact k _
    · rw [if_neg c2]
      exact k _

end Go.Proofs.Ytnanhempikhknaa.Pure
