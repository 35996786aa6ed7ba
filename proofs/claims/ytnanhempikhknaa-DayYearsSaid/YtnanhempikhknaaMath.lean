/- The calendar behind the statements of layer 48: what the printed functions of package day and of its reference come to, for every minute of an int64. -/
import Derived.Test.YtnanhempikhknaaDx
namespace Go.Proofs.Ytnanhempikhknaa.Cal
open Go.RowKit Go.Proofs.Ytnanhempikhknaa.D Go.Proofs.YtnanhempikhknaaW.PrintWords Go.Proofs.YtnanhempikhknaaW.PrintLast

theorem w64 {x : Int} (h1 : -9223372036854775808 ≤ x) (h2 : x ≤ 9223372036854775807) : wrap64 x = x := by
  unfold wrap64
  omega

theorem wf_i64 {a : Int} (h : (Lit.int .i64 a).wf = true) : -9223372036854775808 ≤ a ∧ a ≤ 9223372036854775807 := by
  simp [Lit.wf] at h
  have e : IntKind.i64.min = -9223372036854775808 := by decide
  rw [e] at h
  exact h

theorem below_eq {a b : Int} (hb : 0 < b) (hb2 : b ≤ 4611686018427387904) (h1 : -8611686018427387904 ≤ a / b) (h2 : a / b ≤ 8611686018427387904) :
    day_below.f a b = some (a / b, a % b) := by
  have m0 := Int.emod_nonneg a (by omega : b ≠ 0)
  have m1 := Int.emod_lt_of_pos a hb
  unfold day_below.f
  rw [if_neg (by omega), Int.tdiv_eq_ediv, Int.tmod_eq_emod]
  by_cases c : 0 ≤ a ∨ b ∣ a
  · rw [if_pos c, if_pos c, if_neg (by omega), w64 (by omega) (by omega)]
    simp
  · rw [if_neg c, if_neg c, Int.sign_eq_one_of_pos hb]
    have e : ((b.natAbs : Nat) : Int) = b := by omega
    rw [e, if_pos (by omega), w64 (x := a / b + 1) (by omega) (by omega), w64 (by omega) (by omega), w64 (by omega) (by omega)]
    congr 2
    · omega
    · omega

theorem floor_eq {a b : Int} (hb : 0 < b) (hb2 : b ≤ 4611686018427387904) (h1 : -8611686018427387904 ≤ a / b) (h2 : a / b ≤ 8611686018427387904) :
    hibernacleref48_floor.f a b = some (a / b) := by
  have m0 := Int.emod_nonneg a (by omega : b ≠ 0)
  have m1 := Int.emod_lt_of_pos a hb
  unfold hibernacleref48_floor.f
  rw [if_neg (by omega), Int.tdiv_eq_ediv, Int.tmod_eq_emod]
  by_cases c : 0 ≤ a ∨ b ∣ a
  · rw [if_pos c, if_pos c, if_neg (by omega), w64 (by omega) (by omega)]
    simp
  · rw [if_neg c, if_neg c, Int.sign_eq_one_of_pos hb]
    have e : ((b.natAbs : Nat) : Int) = b := by omega
    rw [e, if_pos (by omega), w64 (x := a / b + 1) (by omega) (by omega), w64 (by omega) (by omega)]
    congr 1
    omega

theorem Day_eq {a : Int} (h1 : -9223372036854775808 ≤ a) (h2 : a ≤ 9223372036854775807) : day_Day.f a = some (a / 1440) := by
  unfold day_Day.f
  rw [below_eq (by omega) (by omega) (by omega) (by omega)]
  rfl

theorem rDay_eq {a : Int} (h1 : -9223372036854775808 ≤ a) (h2 : a ≤ 9223372036854775807) : hibernacleref48_Day.f a = some (a / 1440) := by
  unfold hibernacleref48_Day.f
  rw [floor_eq (by omega) (by omega) (by omega) (by omega)]
  rfl

theorem Week_eq {a : Int} (h1 : -9223372036854775808 ≤ a) (h2 : a ≤ 9223372036854775807) : day_Week.f a = some ((a / 1440 + 5) / 7) := by
  unfold day_Week.f
  rw [Day_eq h1 h2]
  simp only [Option.bind_some]
  rw [w64 (by omega) (by omega), below_eq (by omega) (by omega) (by omega) (by omega)]
  rfl

theorem rWeek_eq {a : Int} (h1 : -9223372036854775808 ≤ a) (h2 : a ≤ 9223372036854775807) : hibernacleref48_Week.f a = some ((a / 1440 + 5) / 7) := by
  unfold hibernacleref48_Week.f
  rw [rDay_eq h1 h2]
  simp only [Option.bind_some]
  rw [w64 (by omega) (by omega), floor_eq (by omega) (by omega) (by omega) (by omega)]
  rfl

/-! leap years, months -/
def lp (y : Int) : Int := if y % 4 = 0 ∧ (y % 100 ≠ 0 ∨ y % 400 = 0) then 1 else 0
def isLp (y : Int) : Bool := decide (y % 4 = 0 ∧ (y % 100 ≠ 0 ∨ y % 400 = 0))
theorem lp_01 (y : Int) : 0 ≤ lp y ∧ lp y ≤ 1 := by unfold lp; split <;> omega
theorem lp_t {y : Int} (h : isLp y = true) : lp y = 1 := by unfold isLp at h; unfold lp; rw [if_pos (of_decide_eq_true h)]
theorem lp_f {y : Int} (h : isLp y = false) : lp y = 0 := by unfold isLp at h; unfold lp; rw [if_neg (of_decide_eq_false h)]

theorem leap_eq {y : Int} (h1 : -4611686018427387904 ≤ y) (h2 : y ≤ 4611686018427387904) : day_leap.f y = some (isLp y) := by
  unfold day_leap.f
  rw [below_eq (a := y) (b := 4) (by omega) (by omega) (by omega) (by omega), below_eq (a := y) (b := 100) (by omega) (by omega) (by omega) (by omega),
    below_eq (a := y) (b := 400) (by omega) (by omega) (by omega) (by omega)]
  simp only [Option.bind_some]
  unfold isLp
  by_cases c1 : y % 4 = 0
  · rw [if_pos c1]
    by_cases c2 : y % 100 = 0
    · rw [if_pos c2]
      congr 1
      rw [Bool.eq_iff_iff]
      simp
      omega
    · rw [if_neg c2]
      congr 1
      exact (decide_eq_true ⟨c1, .inl c2⟩).symm
  · rw [if_neg c1]
    congr 1
    exact (decide_eq_false (fun h => c1 h.1)).symm

theorem tmod_zero {a b : Int} : Int.tmod a b = 0 ↔ a % b = 0 := by
  rw [← Int.dvd_iff_tmod_eq_zero, ← Int.dvd_iff_emod_eq_zero]

theorem rleap_eq (y : Int) : hibernacleref48_leap.f y = some (isLp y) := by
  unfold hibernacleref48_leap.f isLp
  by_cases c1 : y % 4 = 0
  · rw [if_pos (tmod_zero.2 c1)]
    by_cases c2 : y % 100 = 0
    · rw [if_pos (tmod_zero.2 c2)]
      congr 1
      rw [Bool.eq_iff_iff]
      simp only [beq_iff_eq, tmod_zero, decide_eq_true_eq]
      omega
    · rw [if_neg (fun h => c2 (tmod_zero.1 h))]
      congr 1
      exact (decide_eq_true ⟨c1, .inl c2⟩).symm
  · rw [if_neg (fun h => c1 (tmod_zero.1 h))]
    congr 1
    exact (decide_eq_false (fun h => c1 h.1)).symm

/-- the days of a month, from 0 on -/
def mlen (y m : Int) : Int := if m = 1 then 28 + lp y else if m = 3 ∨ m = 5 ∨ m = 8 ∨ m = 10 then 30 else 31
theorem mlen_bd (y m : Int) : 28 ≤ mlen y m ∧ mlen y m ≤ 31 := by
  have := lp_01 y
  unfold mlen
  split
  · omega
  · split <;> omega

theorem length_eq {y m : Int} (h1 : -4611686018427387904 ≤ y) (h2 : y ≤ 4611686018427387904) (h3 : 0 ≤ m) (h4 : m < 12) : day_length.f y m = some (mlen y m) := by
  unfold day_length.f mlen
  by_cases c : m = 1
  · rw [if_pos c, if_pos c, leap_eq h1 h2]
    simp only [Option.bind_some]
    cases e : isLp y with
    | true => rw [if_pos rfl, lp_t e]; rfl
    | false => rw [if_neg (by decide), lp_f e]; rfl
  · rw [if_neg c, if_neg c, if_pos h3, if_pos h4]
    by_cases c3 : m = 3
    · rw [if_pos c3, if_pos (.inl c3)]
    · rw [if_neg c3]
      by_cases c5 : m = 5
      · rw [if_pos c5, if_pos (.inr (.inl c5))]
      · rw [if_neg c5]
        by_cases c8 : m = 8
        · rw [if_pos c8, if_pos (.inr (.inr (.inl c8)))]
        · rw [if_neg c8]
          by_cases c10 : m = 10
          · rw [if_pos c10, if_pos (.inr (.inr (.inr c10)))]
          · rw [if_neg c10, if_neg (by omega)]

theorem days_eq (y m : Int) : hibernacleref48_days.f y m = some (mlen y (m - 1)) := by
  unfold hibernacleref48_days.f mlen
  by_cases c : m = 2
  · rw [if_pos c, if_pos (by omega), rleap_eq]
    simp only [Option.bind_some]
    cases e : isLp y with
    | true => rw [if_pos rfl, lp_t e]; rfl
    | false => rw [if_neg (by decide), lp_f e]; rfl
  · rw [if_neg c, if_neg (show ¬ m - 1 = 1 by omega)]
    by_cases c3 : m = 4
    · rw [if_pos c3, if_pos (by omega)]
    · rw [if_neg c3]
      by_cases c5 : m = 6
      · rw [if_pos c5, if_pos (by omega)]
      · rw [if_neg c5]
        by_cases c8 : m = 9
        · rw [if_pos c8, if_pos (by omega)]
        · rw [if_neg c8]
          by_cases c10 : m = 11
          · rw [if_pos c10, if_pos (by omega)]
          · rw [if_neg c10, if_neg (by omega)]

/-- the days ahead of a month -/
def cum (y m : Int) : Int := if m ≤ 0 then 0 else if m = 1 then 31 else if m = 2 then 59 + lp y else if m = 3 then 90 + lp y else if m = 4 then 120 + lp y else if m = 5 then 151 + lp y else
  if m = 6 then 181 + lp y else if m = 7 then 212 + lp y else if m = 8 then 243 + lp y else if m = 9 then 273 + lp y else if m = 10 then 304 + lp y else if m = 11 then 334 + lp y else 365 + lp y

theorem m12 {m : Int} (h3 : 0 ≤ m) (h4 : m < 12) : m = 0 ∨ m = 1 ∨ m = 2 ∨ m = 3 ∨ m = 4 ∨ m = 5 ∨ m = 6 ∨ m = 7 ∨ m = 8 ∨ m = 9 ∨ m = 10 ∨ m = 11 := by omega
theorem cum_succ (y : Int) {m : Int} (h3 : 0 ≤ m) (h4 : m < 12) : cum y (m + 1) = cum y m + mlen y m := by
  rcases m12 h3 h4 with rfl | rfl | rfl | rfl | rfl | rfl | rfl | rfl | rfl | rfl | rfl | rfl <;> simp [cum, mlen] <;> omega
theorem cum_zero (y : Int) : cum y 0 = 0 := by simp [cum]
theorem cum_12 (y : Int) : cum y 12 = 365 + lp y := by simp [cum]
theorem cum_bd (y : Int) {m : Int} (h3 : 0 ≤ m) (h4 : m < 12) : 0 ≤ cum y m ∧ cum y m + mlen y m ≤ 365 + lp y := by
  have := lp_01 y
  rcases m12 h3 h4 with rfl | rfl | rfl | rfl | rfl | rfl | rfl | rfl | rfl | rfl | rfl | rfl <;> simp [cum, mlen] <;> omega

/-- the days ahead of a year, from 2000 on -/
def dby (y : Int) : Int := 365 * (y - 2000) + (y - 2000 + 3) / 4 - (y - 2000 + 99) / 100 + (y - 2000 + 399) / 400
theorem dby_succ (y : Int) : dby (y + 1) = dby y + 365 + lp y := by
  unfold dby lp
  split <;> omega
theorem dby_cent (c : Int) : dby (2000 + c * 400) = 146097 * c := by unfold dby; omega
theorem dby_400 (y : Int) : dby (y + 400) = dby y + 146097 := by unfold dby; omega
theorem dby_mono {a b : Int} (h : a < b) : dby (a + 1) ≤ dby b := by
  unfold dby
  by_cases e : b = a + 1
  · subst e
    omega
  · omega

/-- day n is the day r (from 0 on) of month m (from 0 on) of year y -/
def IsDate (n y m r : Int) : Prop := 0 ≤ m ∧ m < 12 ∧ 0 ≤ r ∧ r < mlen y m ∧ dby y + cum y m + r = n

theorem IsDate.year {n y m r : Int} (h : IsDate n y m r) : dby y ≤ n ∧ n < dby (y + 1) := by
  obtain ⟨h1, h2, h3, h4, h5⟩ := h
  have b := cum_bd y h1 h2
  have s := dby_succ y
  omega

theorem cum_mono (y : Int) {a b : Int} (h0 : 0 ≤ a) (h : a < b) (h12 : b < 12) : cum y a + mlen y a ≤ cum y b := by
  have := lp_01 y
  rcases m12 h0 (by omega) with rfl | rfl | rfl | rfl | rfl | rfl | rfl | rfl | rfl | rfl | rfl | rfl <;>
    rcases m12 (m := b) (by omega) h12 with rfl | rfl | rfl | rfl | rfl | rfl | rfl | rfl | rfl | rfl | rfl | rfl <;> first | (exfalso; omega) | (simp [cum, mlen]; omega) | simp [cum, mlen]

/-- a later day has no lower year, of one year no lower month, of one month no lower day -/
theorem IsDate.le {n n' y m r y' m' r' : Int} (h : IsDate n y m r) (h' : IsDate n' y' m' r') (hn : n ≤ n') : y < y' ∨ (y = y' ∧ (m < m' ∨ (m = m' ∧ r ≤ r'))) := by
  have a := h.year
  have a' := h'.year
  have hy : ¬ y' < y := fun c => by have := dby_mono c; omega
  by_cases e : y = y'
  · subst e
    refine .inr ⟨rfl, ?_⟩
    obtain ⟨h1, h2, h3, h4, h5⟩ := h
    obtain ⟨g1, g2, g3, g4, g5⟩ := h'
    have hm : ¬ m' < m := fun c => by have := cum_mono y g1 c h2; omega
    by_cases e : m = m'
    · subst e
      exact .inr ⟨rfl, by omega⟩
    · exact .inl (by omega)
  · exact .inl (by omega)

theorem IsDate.uniq {n y m r y' m' r' : Int} (h : IsDate n y m r) (h' : IsDate n y' m' r') : y = y' ∧ m = m' ∧ r = r' := by
  have a := h.le h' (by omega)
  have b := h'.le h (by omega)
  omega

theorem IsDate.on {n y m r : Int} (h : IsDate n y m r) : IsDate (n + 146097) (y + 400) m r := by
  obtain ⟨h1, h2, h3, h4, h5⟩ := h
  have e : lp (y + 400) = lp y := by
    unfold lp
    have e1 : (y + 400) % 4 = y % 4 := by omega
    have e2 : (y + 400) % 100 = y % 100 := by omega
    have e3 : (y + 400) % 400 = y % 400 := by omega
    rw [e1, e2, e3]
  have e2 : mlen (y + 400) m = mlen y m := by unfold mlen; rw [e]
  have e3 : cum (y + 400) m = cum y m := by unfold cum; rw [e]
  exact ⟨h1, h2, h3, by rw [e2]; exact h4, by rw [dby_400, e3]; omega⟩

/-- the next day's date -/
theorem IsDate.next {n y m r : Int} (h : IsDate n y m r) :
    (r + 1 < mlen y m ∧ IsDate (n + 1) y m (r + 1)) ∨ (m < 11 ∧ IsDate (n + 1) y (m + 1) 0) ∨ (m = 11 ∧ IsDate (n + 1) (y + 1) 0 0) := by
  obtain ⟨h1, h2, h3, h4, h5⟩ := h
  have l1 := mlen_bd y (m + 1)
  have l2 := mlen_bd (y + 1) 0
  have cs := cum_succ y h1 h2
  by_cases c : r + 1 < mlen y m
  · exact .inl ⟨c, h1, h2, by omega, c, by omega⟩
  · by_cases c2 : m < 11
    · exact .inr (.inl ⟨c2, by omega, by omega, by omega, by omega, by omega⟩)
    · have e : m = 11 := by omega
      subst e
      have e12 : cum y (11 + 1) = 365 + lp y := cum_12 y
      have s := dby_succ y
      exact .inr (.inr ⟨rfl, by omega, by omega, by omega, by omega, by rw [cum_zero]; omega⟩)

/-! the loops of the dates -/
theorem l1_ok (d : Nat) : ∀ (k : Nat) (y m rest : Int), -4611686018427387904 ≤ y → y ≤ 4611686018427387904 → 0 ≤ m → m < 12 → 12 - m ≤ d → 0 ≤ rest → cum y m + rest < 365 + lp y → d < k →
    ∃ m' r, day_date.l1 k y m rest = some (y, m', r) ∧ IsDate (dby y + cum y m + rest) y m' r := by
  induction d with
  | zero => intro k y m rest _ _ _ _ _; omega
  | succ d ih =>
    intro k y m rest h1 h2 h3 h4 h5 h6 h7 h8
    obtain ⟨k, rfl⟩ : ∃ j, k = j + 1 := ⟨k - 1, by omega⟩
    have b := mlen_bd y m
    have l := lp_01 y
    simp only [day_date.l1]
    rw [length_eq h1 h2 h3 h4]
    simp only [Option.bind_some]
    by_cases c : rest ≥ mlen y m
    · have cs := cum_succ y h3 h4
      have hm : m + 1 < 12 := by
        by_cases e : m = 11
        · subst e
          have e12 : cum y (11 + 1) = 365 + lp y := cum_12 y
          omega
        · omega
      obtain ⟨m', r, e, hd⟩ := ih k y (m + 1) (rest - mlen y m) h1 h2 (by omega) hm (by omega) (by omega) (by omega) (by omega)
      refine ⟨m', r, ?_, ?_⟩
      · have cb := cum_bd y h3 h4
        rw [if_pos c, w64 (by omega) (by omega), w64 (by omega) (by omega)]
        exact e
      · have e2 : dby y + cum y m + rest = dby y + cum y (m + 1) + (rest - mlen y m) := by omega
        rw [e2]
        exact hd
    · rw [if_neg c]
      exact ⟨m, rest, rfl, h3, h4, h6, by omega, rfl⟩

theorem l0_ok (d : Nat) : ∀ (k : Nat) (y rest : Int), -4611686018427387904 ≤ y → y + d ≤ 4611686018427387900 → 0 ≤ rest → rest < 365 * (d + 1) → d + 20 < k → d ≤ 100000 →
    ∃ y' m r, day_date.l0 k y 0 rest = some (y', m, r) ∧ IsDate (dby y + rest) y' m r := by
  induction d with
  | zero =>
    intro k y rest h1 h2 h3 h4 h5 hd5
    obtain ⟨k, rfl⟩ : ∃ j, k = j + 2 := ⟨k - 2, by omega⟩
    have l := lp_01 y
    obtain ⟨m, r, e, hd⟩ := l1_ok 12 k y 0 rest h1 (by omega) (by omega) (by omega) (by omega) h3 (by rw [cum_zero]; omega) (by omega)
    refine ⟨y, m, r, ?_, by rw [cum_zero] at hd; simpa using hd⟩
    simp only [day_date.l0, day_date.j1]
    rw [leap_eq h1 (by omega)]
    simp only [Option.bind_some]
    rw [if_pos (c := rest < 366) (by omega), if_pos (c := rest < 365) (by omega), e]
    split <;> rfl
  | succ d ih =>
    intro k y rest h1 h2 h3 h4 h5 hd5
    obtain ⟨k, rfl⟩ : ∃ j, k = j + 2 := ⟨k - 2, by omega⟩
    have s := dby_succ y
    have fin : rest < 365 + lp y → ∃ m r, day_date.j1 (k + 1) y 0 rest = some (y, m, r) ∧ IsDate (dby y + rest) y m r := fun hr => by
      obtain ⟨m, r, e, hd⟩ := l1_ok 12 k y 0 rest h1 (by omega) (by omega) (by omega) (by omega) h3 (by rw [cum_zero]; omega) (by omega)
      exact ⟨m, r, by simp only [day_date.j1]; exact e, by rw [cum_zero] at hd; simpa using hd⟩
    simp only [day_date.l0]
    rw [leap_eq h1 (by omega)]
    simp only [Option.bind_some]
    cases e : isLp y with
    | true =>
      rw [if_pos rfl]
      have l := lp_t e
      by_cases c : rest < 366
      · rw [if_pos c]
        obtain ⟨m, r, e, hd⟩ := fin (by omega)
        exact ⟨y, m, r, e, hd⟩
      · rw [if_neg c, w64 (by omega) (by omega), w64 (by omega) (by omega)]
        obtain ⟨y', m, r, e, hd⟩ := ih (k + 1) (y + 1) (rest - 366) (by omega) (by omega) (by omega) (by omega) (by omega) (by omega)
        exact ⟨y', m, r, e, by rw [show dby y + rest = dby (y + 1) + (rest - 366) by omega]; exact hd⟩
    | false =>
      rw [if_neg (by decide)]
      have l := lp_f e
      by_cases c : rest < 365
      · rw [if_pos c]
        obtain ⟨m, r, e, hd⟩ := fin (by omega)
        exact ⟨y, m, r, e, hd⟩
      · rw [if_neg c, w64 (by omega) (by omega), w64 (by omega) (by omega)]
        obtain ⟨y', m, r, e, hd⟩ := ih (k + 1) (y + 1) (rest - 365) (by omega) (by omega) (by omega) (by omega) (by omega) (by omega)
        exact ⟨y', m, r, e, by rw [show dby y + rest = dby (y + 1) + (rest - 365) by omega]; exact hd⟩

/-- the program's date of a day is its date -/
theorem date_ok {n : Int} (h1 : -6405119470038039 ≤ n) (h2 : n ≤ 6405119470038039) : ∃ y m r, IsDate n y m r ∧ ∀ k, 500 ≤ k → day_date.f k n = some (y, m, r) := by
  have one : ∀ k, 500 ≤ k → ∃ y m r, day_date.f k n = some (y, m, r) ∧ IsDate n y m r := by
    intro k hk
    unfold day_date.f
    rw [below_eq (by omega) (by omega) (by omega) (by omega)]
    simp only [Option.bind_some]
    rw [w64 (x := n / 146097 * 400) (by omega) (by omega), w64 (by omega) (by omega)]
    obtain ⟨y, m, r, e, hd⟩ := l0_ok 400 k (2000 + n / 146097 * 400) (n % 146097) (by omega) (by omega) (by omega) (by omega) (by omega) (by omega)
    refine ⟨y, m, r, e, ?_⟩
    rw [dby_cent] at hd
    rw [show n = 146097 * (n / 146097) + n % 146097 by omega]
    exact hd
  obtain ⟨y, m, r, _, hd⟩ := one 500 (by omega)
  refine ⟨y, m, r, hd, fun k hk => ?_⟩
  obtain ⟨y', m', r', e, hd'⟩ := one k hk
  obtain ⟨rfl, rfl, rfl⟩ := hd.uniq hd'
  exact e

theorem rl0_ok (d : Nat) : ∀ (k : Nat) (y rest m : Int), -4611686018427387904 ≤ y → y + d ≤ 4611686018427387900 → 1 ≤ m → m ≤ 12 → 0 ≤ rest → rest < 28 * (d + 1) → d < k → d ≤ 100000 →
    ∃ y' m' r, hibernacleref48_date.l0 k y rest m = some (y', m' + 1, r + 1) ∧ IsDate (dby y + cum y (m - 1) + rest) y' m' r := by
  induction d with
  | zero =>
    intro k y rest m h1 h2 h3 h4 h5 h6 h7 hd5
    obtain ⟨k, rfl⟩ : ∃ j, k = j + 1 := ⟨k - 1, by omega⟩
    have b := mlen_bd y (m - 1)
    simp only [hibernacleref48_date.l0]
    rw [days_eq]
    simp only [Option.bind_some]
    rw [if_neg (by omega), w64 (by omega) (by omega)]
    exact ⟨y, m - 1, rest, by rw [show m - 1 + 1 = m by omega], by omega, by omega, h5, by omega, rfl⟩
  | succ d ih =>
    intro k y rest m h1 h2 h3 h4 h5 h6 h7 hd5
    obtain ⟨k, rfl⟩ : ∃ j, k = j + 1 := ⟨k - 1, by omega⟩
    have b := mlen_bd y (m - 1)
    simp only [hibernacleref48_date.l0]
    rw [days_eq]
    simp only [Option.bind_some]
    by_cases c : rest ≥ mlen y (m - 1)
    · have cs := cum_succ y (m := m - 1) (by omega) (by omega)
      rw [if_pos c, w64 (x := m + 1) (by omega) (by omega), w64 (x := rest - mlen y (m - 1)) (by omega) (by omega)]
      by_cases c2 : m + 1 = 13
      · rw [if_pos c2, w64 (by omega) (by omega)]
        have e : m = 12 := by omega
        subst e
        obtain ⟨y', m', r, e, hd⟩ := ih k (y + 1) (rest - mlen y (12 - 1)) 1 (by omega) (by omega) (by omega) (by omega) (by omega) (by omega) (by omega) (by omega)
        refine ⟨y', m', r, e, ?_⟩
        have s := dby_succ y
        have e12 : cum y (12 - 1 + 1) = 365 + lp y := cum_12 y
        rw [show (1 : Int) - 1 = 0 by omega, cum_zero] at hd
        rw [show dby y + cum y (12 - 1) + rest = dby (y + 1) + 0 + (rest - mlen y (12 - 1)) by omega]
        exact hd
      · rw [if_neg c2]
        obtain ⟨y', m', r, e, hd⟩ := ih k y (rest - mlen y (m - 1)) (m + 1) (by omega) (by omega) (by omega) (by omega) (by omega) (by omega) (by omega) (by omega)
        refine ⟨y', m', r, e, ?_⟩
        rw [show m + 1 - 1 = m - 1 + 1 by omega] at hd
        rw [show dby y + cum y (m - 1) + rest = dby y + cum y (m - 1 + 1) + (rest - mlen y (m - 1)) by omega]
        exact hd
    · rw [if_neg c, w64 (by omega) (by omega)]
      exact ⟨y, m - 1, rest, by rw [show m - 1 + 1 = m by omega], by omega, by omega, h5, by omega, rfl⟩

/-- the document's date of a day is its date -/
theorem rdate_ok {n y m r : Int} (h : IsDate n y m r) (h1 : -6405119470038039 ≤ n) (h2 : n ≤ 6405119470038039) (k : Nat) (hk : 6000 ≤ k) :
    hibernacleref48_date.f k n = some (y, m + 1, r + 1) := by
  unfold hibernacleref48_date.f
  rw [floor_eq (by omega) (by omega) (by omega) (by omega)]
  simp only [Option.bind_some]
  rw [w64 (x := 400 * (n / 146097)) (by omega) (by omega), w64 (x := 146097 * (n / 146097)) (by omega) (by omega), w64 (by omega) (by omega), w64 (by omega) (by omega)]
  obtain ⟨y', m', r', e, hd⟩ := rl0_ok 5500 k (2000 + 400 * (n / 146097)) (n - 146097 * (n / 146097)) 1 (by omega) (by omega) (by omega) (by omega) (by omega) (by omega) (by omega) (by omega)
  rw [show (1 : Int) - 1 = 0 by omega, cum_zero, show 2000 + 400 * (n / 146097) = 2000 + n / 146097 * 400 by omega, dby_cent,
    show 146097 * (n / 146097) + 0 + (n - 146097 * (n / 146097)) = n by omega] at hd
  obtain ⟨rfl, rfl, rfl⟩ := h.uniq hd
  exact e

/-- a minute's date, and what both tell of it -/
theorem of_minute {a : Int} (h1 : -9223372036854775808 ≤ a) (h2 : a ≤ 9223372036854775807) :
    ∃ y m r, IsDate (a / 1440) y m r ∧ -20000000000000 ≤ y ∧ y ≤ 20000000000000 ∧ (∀ k, 6000 ≤ k → day_date.f k (a / 1440) = some (y, m, r)) ∧ ∀ k, 6000 ≤ k → hibernacleref48_date.f k (a / 1440) = some (y, m + 1, r + 1) := by
  obtain ⟨y, m, r, hd, hk⟩ := date_ok (n := a / 1440) (by omega) (by omega)
  have hy := hd.year
  unfold dby at hy
  exact ⟨y, m, r, hd, by omega, by omega, fun k h => hk k (by omega), fun k h => rdate_ok hd (by omega) (by omega) k h⟩

theorem Year_eq {a y m r : Int} (h1 : -9223372036854775808 ≤ a) (h2 : a ≤ 9223372036854775807) {k : Nat} (h : day_date.f k (a / 1440) = some (y, m, r)) : day_Year.f k a = some y := by
  unfold day_Year.f
  rw [Day_eq h1 h2]
  simp only [Option.bind_some]
  rw [h]
  rfl
theorem Month_eq {a y m r : Int} (h1 : -9223372036854775808 ≤ a) (h2 : a ≤ 9223372036854775807) {k : Nat} (h : day_date.f k (a / 1440) = some (y, m, r))
    (hy1 : -20000000000000 ≤ y) (hy2 : y ≤ 20000000000000) (hm0 : 0 ≤ m) (hm : m < 12) : day_Month.f k a = some ((y - 2000) * 12 + m) := by
  unfold day_Month.f
  rw [Day_eq h1 h2]
  simp only [Option.bind_some]
  rw [h]
  simp only [Option.bind_some]
  rw [w64 (x := y - 2000) (by omega) (by omega), w64 (x := (y - 2000) * 12) (by omega) (by omega), w64 (by omega) (by omega)]
theorem rYear_eq {a y m r : Int} (h1 : -9223372036854775808 ≤ a) (h2 : a ≤ 9223372036854775807) {k : Nat} (h : hibernacleref48_date.f k (a / 1440) = some (y, m, r)) : hibernacleref48_Year.f k a = some y := by
  unfold hibernacleref48_Year.f
  rw [rDay_eq h1 h2]
  simp only [Option.bind_some]
  rw [h]
  rfl
theorem rMonth_eq {a y m r : Int} (h1 : -9223372036854775808 ≤ a) (h2 : a ≤ 9223372036854775807) {k : Nat} (h : hibernacleref48_date.f k (a / 1440) = some (y, m + 1, r))
    (hy1 : -20000000000000 ≤ y) (hy2 : y ≤ 20000000000000) (hm0 : 0 ≤ m) (hm : m < 12) : hibernacleref48_Month.f k a = some ((y - 2000) * 12 + m) := by
  unfold hibernacleref48_Month.f
  rw [rDay_eq h1 h2]
  simp only [Option.bind_some]
  rw [h]
  simp only [Option.bind_some]
  rw [w64 (x := y - 2000) (by omega) (by omega), w64 (x := 12 * (y - 2000)) (by omega) (by omega), w64 (x := 12 * (y - 2000) + (m + 1)) (by omega) (by omega), w64 (by omega) (by omega)]
  congr 1
  omega

end Go.Proofs.Ytnanhempikhknaa.Cal
