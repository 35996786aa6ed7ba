/- From a day to the next one the month is another one just if the text of that tells its first day; the year just if it tells the first of January. For every minute of an int64 (beyond 2^50 and where there is no text the law asks only the examples). -/
import Derived.Test.YtnanhempikhknaaMath7
namespace Go.Proofs.Ytnanhempikhknaa.Pure
open Go.RowKit Go.Proofs.Ytnanhempikhknaa.D Go.Proofs.YtnanhempikhknaaW.PrintWords Go.Proofs.YtnanhempikhknaaW.PrintLast Go.Proofs.Ytnanhempikhknaa.Cal

theorem ten {x : Int} (h0 : 0 ≤ x) (h1 : x ≤ 99) : ((d2 x).map (fun n => UInt8.ofNat n.toNat) == ([48, 49] : List UInt8)) = decide (x = 1) := by
  rw [Bool.eq_iff_iff]
  simp only [d2, List.map_cons, List.map_nil, beq_iff_eq, List.cons.injEq, and_true, decide_eq_true_eq]
  have t : ∀ {n : Int} {c : Nat}, 0 ≤ n → n < 256 → c < 256 → (UInt8.ofNat n.toNat = UInt8.ofNat c ↔ n = c) := fun {n c} a b hc => by
    rw [← UInt8.toNat_inj, UInt8.toNat_ofNat', UInt8.toNat_ofNat']
    omega
  rw [show (48 : UInt8) = UInt8.ofNat 48 from rfl, show (49 : UInt8) = UInt8.ofNat 49 from rfl, t (by omega) (by omega) (by omega), t (by omega) (by omega) (by omega)]
  omega

theorem cut1 (y m r i : Int) : ((strOfNums (txt y m r i)).extract 8 10).toList = (d2 (r + 1)).map (fun n => UInt8.ofNat n.toNat) := by
  rw [Lib.toList_data]
  simp [strOfNums, txt, d4, d2]
theorem cut2 (y m r i : Int) : ((strOfNums (txt y m r i)).extract 5 10).toList = (d2 (m + 1)).map (fun n => UInt8.ofNat n.toNat) ++ 45 :: (d2 (r + 1)).map (fun n => UInt8.ofNat n.toNat) := by
  rw [Lib.toList_data]
  simp [strOfNums, txt, d4, d2]

theorem DayFirsts : hibernaclelaw48_DayFirsts.Pure := by
  intro a ha
  obtain ⟨h1, h2⟩ := wf_i64 ha
  refine ⟨20002, ?_⟩
  unfold hibernaclelaw48_DayFirsts.f
  have t0 : ∀ x, hibernaclelaw48_DayFirsts.j0 20002 a x true = some true := fun x => by
    simp only [hibernaclelaw48_DayFirsts.j0]
    rw [if_pos trivial, awake_ok (by omega)]
    rfl
  have t1 : ∀ x s, hibernaclelaw48_DayFirsts.j1 20001 a x s true = some true := fun x s => by
    simp only [hibernaclelaw48_DayFirsts.j1]
    rw [if_pos trivial, awake_ok (by omega)]
    rfl
  by_cases c : a > 1125899906842624
  · rw [if_pos c]
    exact t0 _
  rw [if_neg c]
  by_cases c2 : a < -1125899906842624
  · rw [decide_eq_true c2]
    exact t0 _
  rw [decide_eq_false c2, w64 (x := a + 1440) (by omega) (by omega)]
  obtain ⟨y, m, r, hd, hy1, hy2, hp, _⟩ := of_minute h1 h2
  obtain ⟨y', m', r', hd', hy1', hy2', hp', _⟩ := of_minute (a := a + 1440) (by omega) (by omega)
  have T := Text_eq h1 h2 hd (by omega) (hp 20001 (by omega))
  have T' := Text_eq (a := a + 1440) (by omega) (by omega) hd' (by omega) (hp' 20001 (by omega))
  have M := Month_eq h1 h2 (hp 20000 (by omega)) hy1 hy2 hd.1 hd.2.1
  have M' := Month_eq (a := a + 1440) (by omega) (by omega) (hp' 20000 (by omega)) hy1' hy2' hd'.1 hd'.2.1
  have Y := Year_eq h1 h2 (hp 20000 (by omega))
  have Y' := Year_eq (a := a + 1440) (by omega) (by omega) (hp' 20000 (by omega))
  have m0 := hd.1
  have m1 := hd.2.1
  have m2 := hd'.1
  have m3 := hd'.2.1
  have r0 := hd.2.2.1
  have r2 := hd'.2.2.1
  have r3 := hd'.2.2.2.1
  have ml := mlen_bd y' m'
  have nx := hd.next
  rw [show a / 1440 + 1 = (a + 1440) / 1440 by omega] at nx
  have facts : (r' = 0 ↔ ¬ (y = y' ∧ m = m')) ∧ (m' = 0 ∧ r' = 0 ↔ ¬ y = y') ∧ y' ≤ y + 1 ∧ y ≤ y' := by
    rcases nx with ⟨_, k⟩ | ⟨_, k⟩ | ⟨_, k⟩ <;> (obtain ⟨rfl, rfl, rfl⟩ := k.uniq hd'; omega)
  simp only [hibernaclelaw48_DayFirsts.j0]
  rw [if_neg (by decide), T', T]
  by_cases d : 0 ≤ y' ∧ y' ≤ 9999
  · rw [if_pos d]
    simp only [Option.bind_some]
    rw [if_pos (by rw [txt_size]; rfl)]
    by_cases e : 0 ≤ y ∧ y ≤ 9999
    · rw [if_pos e]
      simp only [Option.bind_some]
      rw [beq_eq_false_iff_ne.2 (txt_ne _ _ _ _)]
      simp only [hibernaclelaw48_DayFirsts.j1]
      rw [if_neg (by decide), M, M', Y, Y', awake_ok (by omega)]
      simp only [Option.bind_some]
      rw [if_pos (by omega), if_pos (by rw [txt_size]; omega), cut1]
      have E1 : (((y' - 2000) * 12 + m' != (y - 2000) * 12 + m) == ((d2 (r' + 1)).map (fun n => UInt8.ofNat n.toNat) == ([48, 49] : List UInt8))) = true := by
        rw [ten (by omega) (by omega), beq_iff_eq, Bool.eq_iff_iff, bne_iff_ne, decide_eq_true_eq]
        omega
      have E2 : ((y' != y) == ((d2 (m' + 1)).map (fun n => UInt8.ofNat n.toNat) ++ 45 :: (d2 (r' + 1)).map (fun n => UInt8.ofNat n.toNat) == ([48, 49, 45, 48, 49] : List UInt8))) = true := by
        have s : ((d2 (m' + 1)).map (fun n => UInt8.ofNat n.toNat) ++ 45 :: (d2 (r' + 1)).map (fun n => UInt8.ofNat n.toNat) == ([48, 49, 45, 48, 49] : List UInt8)) =
            (((d2 (m' + 1)).map (fun n => UInt8.ofNat n.toNat) == ([48, 49] : List UInt8)) && ((d2 (r' + 1)).map (fun n => UInt8.ofNat n.toNat) == ([48, 49] : List UInt8))) := by
          rw [Bool.eq_iff_iff]
          simp [d2, and_assoc]
        rw [s, ten (by omega) (by omega), ten (by omega) (by omega), beq_iff_eq, Bool.eq_iff_iff, bne_iff_ne, Bool.and_eq_true, decide_eq_true_eq, decide_eq_true_eq]
        omega
      rw [if_pos E1, if_pos (by omega), cut2, if_pos E2]
    · rw [if_neg e]
      simp only [Option.bind_some]
      rw [show ((strOfNums []).toList == ([] : List UInt8)) = true by rw [nums_list]; rfl]
      exact t1 _ _
  · rw [if_neg d]
    simp only [Option.bind_some]
    rw [if_neg (by rw [nums_size]; decide)]
    exact t1 _ _

end Go.Proofs.Ytnanhempikhknaa.Pure
