/- The texts of minutes: digits, and what both packages write for every minute. -/
import Derived.Test.YtnanhempikhknaaMath
namespace Go.Proofs.Ytnanhempikhknaa.Cal
open Go.RowKit Go.Proofs.Ytnanhempikhknaa.D Go.Proofs.YtnanhempikhknaaW.PrintWords Go.Proofs.YtnanhempikhknaaW.PrintLast

theorem awake_ok {k : Nat} (hk : 100 ≤ k) : hibernaclelaw48_awake.f k = some true :=
  at_rounds (g := fun k => hibernaclelaw48_awake.f k) (fun k => hibernaclelaw48_awake.mono k) hk (by decide +kernel : hibernaclelaw48_awake.f 100 = some true)

theorem ba_ext {a b : ByteArray} (h : a.data = b.data) : a = b := by
  cases a; cases b; simp_all
theorem nums_app (xs ys : List Int) : strOfNums xs ++ strOfNums ys = strOfNums (xs ++ ys) := by
  apply ba_ext
  simp [strOfNums]
theorem nums_size (xs : List Int) : (strOfNums xs).size = xs.length := by simp [strOfNums, ByteArray.size]
theorem lit1 (c : UInt8) : (⟨#[c]⟩ : ByteArray) = strOfNums [(c.toNat : Int)] := by simp [strOfNums]
theorem lit45 : (⟨#[45]⟩ : ByteArray) = strOfNums [45] := rfl
theorem lit32 : (⟨#[32]⟩ : ByteArray) = strOfNums [32] := rfl
theorem lit58 : (⟨#[58]⟩ : ByteArray) = strOfNums [58] := rfl
theorem lit0 : (⟨#[]⟩ : ByteArray) = strOfNums [] := rfl

theorem tm {n : Int} (h : 0 ≤ n) : Int.tmod n 10 = n % 10 := Int.tmod_eq_emod_of_nonneg h
theorem td {n : Int} (h : 0 ≤ n) : Int.tdiv n 10 = n / 10 := Int.tdiv_eq_ediv_of_nonneg h
theorem dg {n : Int} (h : 0 ≤ n) : (wrap64 (48 + Int.tmod n 10)) % 256 = 48 + n % 10 := by
  rw [tm h, w64 (by omega) (by omega)]
  omega
theorem dv {n : Int} (h : 0 ≤ n) (h1 : n ≤ 9223372036854775807) : wrap64 (Int.tdiv n 10) = n / 10 := by
  rw [td h, w64 (by omega) (by omega)]

def d2 (n : Int) : List Int := [48 + n / 10 % 10, 48 + n % 10]
def d4 (n : Int) : List Int := [48 + n / 10 / 10 / 10 % 10, 48 + n / 10 / 10 % 10, 48 + n / 10 % 10, 48 + n % 10]

theorem digits2 {n : Int} (h : 0 ≤ n) (h1 : n ≤ 9999) {k : Nat} (hk : 10 ≤ k) : day_digits.f k n 2 = some (strOfNums (d2 n)) := by
  obtain ⟨k, rfl⟩ : ∃ j, k = j + 3 := ⟨k - 3, by omega⟩
  unfold day_digits.f
  rw [if_pos (by omega), if_pos (by decide)]
  simp only [day_digits.l0, dg h, dv h (by omega), dg (n := n / 10) (by omega), dv (n := n / 10) (by omega) (by omega),
    show wrap64 (2 - 1) = 1 by decide +kernel, show wrap64 (1 - 1) = 0 by decide +kernel, show wrap64 (0 - 1) = -1 by decide +kernel]
  simp [List.replicate, d2]
theorem digits4 {n : Int} (h : 0 ≤ n) (h1 : n ≤ 9999) {k : Nat} (hk : 10 ≤ k) : day_digits.f k n 4 = some (strOfNums (d4 n)) := by
  obtain ⟨k, rfl⟩ : ∃ j, k = j + 5 := ⟨k - 5, by omega⟩
  unfold day_digits.f
  rw [if_pos (by omega), if_pos (by decide)]
  simp only [day_digits.l0, dg h, dv h (by omega), dg (n := n / 10) (by omega), dv (n := n / 10) (by omega) (by omega), dg (n := n / 10 / 10) (by omega), dv (n := n / 10 / 10) (by omega) (by omega),
    dg (n := n / 10 / 10 / 10) (by omega), dv (n := n / 10 / 10 / 10) (by omega) (by omega),
    show wrap64 (4 - 1) = 3 by decide +kernel, show wrap64 (3 - 1) = 2 by decide +kernel, show wrap64 (2 - 1) = 1 by decide +kernel, show wrap64 (1 - 1) = 0 by decide +kernel, show wrap64 (0 - 1) = -1 by decide +kernel]
  simp [List.replicate, d4]

theorem rdigits2 {n : Int} (h : 0 ≤ n) (h1 : n ≤ 9999) {k : Nat} (hk : 10 ≤ k) : hibernacleref48_digits.f k n 2 = some (strOfNums (d2 n)) := by
  obtain ⟨k, rfl⟩ : ∃ j, k = j + 3 := ⟨k - 3, by omega⟩
  unfold hibernacleref48_digits.f
  simp only [hibernacleref48_digits.l0, dg h, dv h (by omega), dg (n := n / 10) (by omega), dv (n := n / 10) (by omega) (by omega),
    show wrap64 (0 + 1) = 1 by decide +kernel, show wrap64 (1 + 1) = 2 by decide +kernel, lit0, nums_app, nums_size, Option.bind_some]
  simp [d2]
theorem rdigits4 {n : Int} (h : 0 ≤ n) (h1 : n ≤ 9999) {k : Nat} (hk : 10 ≤ k) : hibernacleref48_digits.f k n 4 = some (strOfNums (d4 n)) := by
  obtain ⟨k, rfl⟩ : ∃ j, k = j + 5 := ⟨k - 5, by omega⟩
  unfold hibernacleref48_digits.f
  simp only [hibernacleref48_digits.l0, dg h, dv h (by omega), dg (n := n / 10) (by omega), dv (n := n / 10) (by omega) (by omega), dg (n := n / 10 / 10) (by omega), dv (n := n / 10 / 10) (by omega) (by omega),
    dg (n := n / 10 / 10 / 10) (by omega), dv (n := n / 10 / 10 / 10) (by omega) (by omega),
    show wrap64 (0 + 1) = 1 by decide +kernel, show wrap64 (1 + 1) = 2 by decide +kernel, show wrap64 (2 + 1) = 3 by decide +kernel, show wrap64 (3 + 1) = 4 by decide +kernel, lit0, nums_app, nums_size, Option.bind_some]
  simp [d4]

/-- a minute's text: year, month and day (from 0 on), minute of the day -/
def txt (y m r i : Int) : List Int := d4 y ++ [45] ++ d2 (m + 1) ++ [45] ++ d2 (r + 1) ++ [32] ++ d2 (i / 60) ++ [58] ++ d2 (i % 60)

theorem d2_len (n : Int) : (d2 n).length = 2 := rfl
theorem d4_len (n : Int) : (d4 n).length = 4 := rfl

theorem Text_eq {a y m r : Int} (h1 : -9223372036854775808 ≤ a) (h2 : a ≤ 9223372036854775807) (hd : IsDate (a / 1440) y m r) {k : Nat} (hk : 10000 ≤ k)
    (h : day_date.f k (a / 1440) = some (y, m, r)) : day_Text.f k a = if 0 ≤ y ∧ y ≤ 9999 then some (strOfNums (txt y m r (a % 1440))) else some (strOfNums []) := by
  obtain ⟨g1, g2, g3, g4, g5⟩ := hd
  have b := mlen_bd y m
  obtain ⟨k, rfl⟩ : ∃ j, k = j + 1 := ⟨k - 1, by omega⟩
  unfold day_Text.f
  rw [Day_eq h1 h2]
  simp only [Option.bind_some]
  rw [h]
  simp only [Option.bind_some, day_Text.j0]
  by_cases c : y < 0
  · rw [if_pos c, if_pos trivial, if_neg (by omega)]
    rfl
  · rw [if_neg c]
    by_cases c2 : y > 9999
    · rw [decide_eq_true c2, if_pos rfl, if_neg (by omega)]
      rfl
    · rw [if_neg (by simpa using c2), if_pos (by omega), below_eq (by omega) (by omega) (by omega) (by omega)]
      simp only [Option.bind_some]
      have e1 : Int.tdiv (a % 1440) 60 = a % 1440 / 60 := Int.tdiv_eq_ediv_of_nonneg (by omega)
      have e2 : Int.tmod (a % 1440) 60 = a % 1440 % 60 := Int.tmod_eq_emod_of_nonneg (by omega)
      rw [e1, e2, w64 (x := m + 1) (by omega) (by omega), w64 (x := r + 1) (by omega) (by omega), w64 (x := a % 1440 / 60) (by omega) (by omega),
        digits4 (by omega) (by omega) (by omega), digits2 (n := m + 1) (by omega) (by omega) (by omega), digits2 (n := r + 1) (by omega) (by omega) (by omega),
        digits2 (n := a % 1440 / 60) (by omega) (by omega) (by omega), digits2 (n := a % 1440 % 60) (by omega) (by omega) (by omega)]
      simp only [Option.bind_some, lit45, lit32, lit58, nums_app, nums_size, List.length_append, d2_len, d4_len, List.length_cons, List.length_nil]
      simp [txt]

theorem rText_eq {a y m r : Int} (h1 : -9223372036854775808 ≤ a) (h2 : a ≤ 9223372036854775807) (hd : IsDate (a / 1440) y m r) {k : Nat} (hk : 10000 ≤ k)
    (h : hibernacleref48_date.f k (a / 1440) = some (y, m + 1, r + 1)) : hibernacleref48_Text.f k a = if 0 ≤ y ∧ y ≤ 9999 then some (strOfNums (txt y m r (a % 1440))) else some (strOfNums []) := by
  have hy := hd.year
  obtain ⟨g1, g2, g3, g4, g5⟩ := hd
  have b := mlen_bd y m
  obtain ⟨k, rfl⟩ : ∃ j, k = j + 1 := ⟨k - 1, by omega⟩
  unfold hibernacleref48_Text.f
  rw [rDay_eq h1 h2]
  simp only [Option.bind_some]
  rw [h]
  simp only [Option.bind_some, hibernacleref48_Text.j0]
  by_cases c : y < 0
  · rw [if_pos c, if_pos trivial, if_neg (by omega)]
    rfl
  · rw [if_neg c]
    by_cases c2 : y > 9999
    · rw [decide_eq_true c2, if_pos rfl, if_neg (by omega)]
      rfl
    · unfold dby at hy
      rw [if_neg (by simpa using c2), if_pos (by omega), rDay_eq h1 h2]
      simp only [Option.bind_some]
      rw [w64 (x := 1440 * (a / 1440)) (by omega) (by omega), w64 (x := a - 1440 * (a / 1440)) (by omega) (by omega), show a - 1440 * (a / 1440) = a % 1440 by omega]
      have e1 : Int.tdiv (a % 1440) 60 = a % 1440 / 60 := Int.tdiv_eq_ediv_of_nonneg (by omega)
      have e2 : Int.tmod (a % 1440) 60 = a % 1440 % 60 := Int.tmod_eq_emod_of_nonneg (by omega)
      rw [e1, e2, w64 (x := a % 1440 / 60) (by omega) (by omega),
        rdigits4 (by omega) (by omega) (by omega), rdigits2 (n := m + 1) (by omega) (by omega) (by omega), rdigits2 (n := r + 1) (by omega) (by omega) (by omega),
        rdigits2 (n := a % 1440 / 60) (by omega) (by omega) (by omega), rdigits2 (n := a % 1440 % 60) (by omega) (by omega) (by omega)]
      simp only [Option.bind_some, lit45, lit32, lit58, nums_app, nums_size, List.length_append, d2_len, d4_len, List.length_cons, List.length_nil]
      simp [txt]

end Go.Proofs.Ytnanhempikhknaa.Cal
