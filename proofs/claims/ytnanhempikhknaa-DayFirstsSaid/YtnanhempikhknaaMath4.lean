/- The minute of any text of sixteen letters, by both packages: the loops over years and months, and what both answer. -/
import Derived.Test.YtnanhempikhknaaMath3
namespace Go.Proofs.Ytnanhempikhknaa.Cal
open Go.RowKit Go.Proofs.Ytnanhempikhknaa.D Go.Proofs.YtnanhempikhknaaW.PrintWords Go.Proofs.YtnanhempikhknaaW.PrintLast

theorem dby_bd {y : Int} (h1 : -10000 ≤ y) (h2 : y ≤ 20000) : -10000000 ≤ dby y ∧ dby y ≤ 10000000 := by unfold dby; omega

theorem Of_l1 (s : ByteArray) (x6 x7 B n : Int) (hn : n ≤ 400) (hB1 : -20000000 ≤ B) (hB2 : B ≤ 20000000) (d : Nat) : ∀ (k : Nat) (j : Int), 0 ≤ j → n - j = d →
    day_Of.l1 (k + d + 1) s x6 x7 (B + dby (2000 + j)) n j = day_Of.l2 k s x6 (B + dby (2000 + n)) x7 0 := by
  induction d with
  | zero =>
    intro k j h0 h
    obtain rfl : j = n := by omega
    simp only [day_Of.l1]
    rw [if_neg (by omega)]
  | succ d ih =>
    intro k j h0 h
    have b1 := dby_bd (y := 2000 + j) (by omega) (by omega)
    have s1 := dby_succ (2000 + j)
    have e1 : 2000 + j + 1 = 2000 + (j + 1) := by omega
    rw [e1] at s1
    have r := ih k (j + 1) (by omega) (by omega)
    simp only [day_Of.l1]
    rw [if_pos (by omega), w64 (x := 2000 + j) (by omega) (by omega), leap_eq (by omega) (by omega)]
    simp only [Option.bind_some]
    rw [w64 (x := j + 1) (by omega) (by omega), w64 (x := B + dby (2000 + j) + 365) (by omega) (by omega), w64 (x := B + dby (2000 + j) + 365 + 1) (by omega) (by omega)]
    cases e : isLp (2000 + j) with
    | true => rw [if_pos rfl, ← r, show B + dby (2000 + j) + 365 + 1 = B + dby (2000 + (j + 1)) by have := lp_t e; omega]; rfl
    | false => rw [if_neg (by decide), ← r, show B + dby (2000 + j) + 365 = B + dby (2000 + (j + 1)) by have := lp_f e; omega]; rfl

theorem cum_le (y : Int) {m : Int} (h3 : 0 ≤ m) (h4 : m ≤ 12) : 0 ≤ cum y m ∧ cum y m ≤ 366 := by
  have := lp_01 y
  by_cases e : m = 12
  · subst e; rw [cum_12]; omega
  · have := cum_bd y h3 (by omega)
    have := mlen_bd y m
    omega

theorem Of_l2 (s : ByteArray) (y B n : Int) (hy1 : -4611686018427387904 ≤ y) (hy2 : y ≤ 4611686018427387904) (hn : n ≤ 12) (hB1 : -40000000 ≤ B) (hB2 : B ≤ 40000000) (d : Nat) : ∀ (k : Nat) (j : Int), 0 ≤ j → n - j = d →
    day_Of.l2 (k + d + 1) s y (B + cum y j) n j = day_Of.l2 (k + 1) s y (B + cum y n) n n := by
  induction d with
  | zero =>
    intro k j h0 h
    obtain rfl : j = n := by omega
    rfl
  | succ d ih =>
    intro k j h0 h
    have cs := cum_succ y (m := j) h0 (by omega)
    have cb := cum_le y (m := j) h0 (by omega)
    have mb := mlen_bd y j
    have r := ih k (j + 1) (by omega) (by omega)
    rw [show k + (d + 1) + 1 = (k + d + 1) + 1 by omega]
    rw [day_Of.l2.eq_def]
    simp only
    rw [if_pos (by omega), length_eq hy1 hy2 h0 (by omega)]
    simp only [Option.bind_some]
    rw [w64 (x := j + 1) (by omega) (by omega), w64 (x := B + cum y j + mlen y j) (by omega) (by omega), show B + cum y j + mlen y j = B + cum y (j + 1) by omega]
    exact r

theorem rOf_l0 (y n H M B : Int) (hn : n ≤ 13) (hB1 : -40000000 ≤ B) (hB2 : B ≤ 40000000) (d : Nat) : ∀ (k : Nat) (j : Int), 1 ≤ j → n - j = d →
    hibernacleref48_Of.l0 (k + d + 1) y n H M (B + cum y (j - 1)) j = hibernacleref48_Of.l1 k y H M (B + cum y (n - 1)) 2000 := by
  induction d with
  | zero =>
    intro k j h0 h
    obtain rfl : j = n := by omega
    simp only [hibernacleref48_Of.l0]
    rw [if_neg (by omega)]
  | succ d ih =>
    intro k j h0 h
    have cs := cum_succ y (m := j - 1) (by omega) (by omega)
    have cb := cum_le y (m := j - 1) (by omega) (by omega)
    have mb := mlen_bd y (j - 1)
    have r := ih k (j + 1) (by omega) (by omega)
    rw [show j + 1 - 1 = j - 1 + 1 by omega] at r
    simp only [hibernacleref48_Of.l0]
    rw [if_pos (by omega), days_eq]
    simp only [Option.bind_some]
    rw [w64 (x := j + 1) (by omega) (by omega), w64 (x := B + cum y (j - 1) + mlen y (j - 1)) (by omega) (by omega), show B + cum y (j - 1) + mlen y (j - 1) = B + cum y (j - 1 + 1) by omega]
    exact r

theorem rOf_l1 (y H M B : Int) (hn : y ≤ 10000) (hB1 : -20000000 ≤ B) (hB2 : B ≤ 20000000) (d : Nat) : ∀ (k : Nat) (j : Int), 2000 ≤ j → y - j = d →
    hibernacleref48_Of.l1 (k + d + 1) y H M (B + dby j) j = hibernacleref48_Of.l2 k H M (B + dby y) y := by
  induction d with
  | zero =>
    intro k j h0 h
    obtain rfl : j = y := by omega
    simp only [hibernacleref48_Of.l1]
    rw [if_neg (by omega)]
  | succ d ih =>
    intro k j h0 h
    have b1 := dby_bd (y := j) (by omega) (by omega)
    have s1 := dby_succ j
    have r := ih k (j + 1) (by omega) (by omega)
    simp only [hibernacleref48_Of.l1]
    rw [if_pos (by omega), rleap_eq]
    simp only [Option.bind_some]
    rw [w64 (x := j + 1) (by omega) (by omega), w64 (x := B + dby j + 365) (by omega) (by omega), w64 (x := B + dby j + 365 + 1) (by omega) (by omega)]
    cases e : isLp j with
    | true => rw [if_pos rfl, ← r, show B + dby j + 365 + 1 = B + dby (j + 1) by have := lp_t e; omega]; rfl
    | false => rw [if_neg (by decide), ← r, show B + dby j + 365 = B + dby (j + 1) by have := lp_f e; omega]; rfl

theorem rOf_l2 (H M B : Int) (hH : 0 ≤ H ∧ H ≤ 9999) (hM : 0 ≤ M ∧ M ≤ 9999) (hB1 : -20000000 ≤ B) (hB2 : B ≤ 20000000) (d : Nat) : ∀ (k : Nat) (j : Int), 0 ≤ j → 2000 - j = d →
    hibernacleref48_Of.l2 (k + d + 1) H M (B - dby j) j = some (1440 * B + 60 * H + M, true) := by
  induction d with
  | zero =>
    intro k j h0 h
    obtain rfl : j = 2000 := by omega
    simp only [hibernacleref48_Of.l2]
    have e : dby 2000 = 0 := by decide
    rw [if_neg (by omega), e, w64 (x := 1440 * (B - 0)) (by omega) (by omega), w64 (x := 60 * H) (by omega) (by omega), w64 (x := 1440 * (B - 0) + 60 * H) (by omega) (by omega), w64 (by omega) (by omega)]
    rw [show 1440 * (B - 0) = 1440 * B by omega]
  | succ d ih =>
    intro k j h0 h
    have b1 := dby_bd (y := j) (by omega) (by omega)
    have s1 := dby_succ j
    have r := ih k (j + 1) (by omega) (by omega)
    simp only [hibernacleref48_Of.l2]
    rw [if_pos (by omega), rleap_eq]
    simp only [Option.bind_some]
    rw [w64 (x := j + 1) (by omega) (by omega), w64 (x := B - dby j - 365) (by omega) (by omega), w64 (x := B - dby j - 365 - 1) (by omega) (by omega)]
    cases e : isLp j with
    | true => rw [if_pos rfl, ← r, show B - dby j - 365 - 1 = B - dby (j + 1) by have := lp_t e; omega]; rfl
    | false => rw [if_neg (by decide), ← r, show B - dby j - 365 = B - dby (j + 1) by have := lp_f e; omega]; rfl

/-- behind the checks: both reckon the same minute -/
theorem rOf_tail {y n H M D : Int} (hy0 : 0 ≤ y) (hy1 : y ≤ 9999) (hn0 : 1 ≤ n) (hn1 : n ≤ 12) (hH : 0 ≤ H ∧ H ≤ 9999) (hM : 0 ≤ M ∧ M ≤ 9999) (hD : 0 ≤ D ∧ D ≤ 9999) {k : Nat} (hk : 20000 ≤ k) :
    hibernacleref48_Of.l0 k y n H M D 1 = some (1440 * (dby y + cum y (n - 1) + D) + 60 * H + M, true) := by
  have cb := cum_le y (m := n - 1) (by omega) (by omega)
  have db := dby_bd (y := y) (by omega) (by omega)
  have a1 := rOf_l0 y n H M D (by omega) (by omega) (by omega) (n - 1).toNat (k - (n - 1).toNat - 1) 1 (by omega) (by omega)
  rw [show k - (n - 1).toNat - 1 + (n - 1).toNat + 1 = k by omega, show (1 : Int) - 1 = 0 by omega, cum_zero, show D + 0 = D by omega] at a1
  rw [a1]
  obtain ⟨k1, hk1, hk2⟩ : ∃ k1, k1 = k - (n - 1).toNat - 1 ∧ 19000 ≤ k1 := ⟨_, rfl, by omega⟩
  rw [← hk1]
  have e0 : dby 2000 = 0 := by decide
  by_cases c : 2000 ≤ y
  · have a2 := rOf_l1 y H M (D + cum y (n - 1)) (by omega) (by omega) (by omega) (y - 2000).toNat (k1 - (y - 2000).toNat - 1) 2000 (by omega) (by omega)
    rw [show k1 - (y - 2000).toNat - 1 + (y - 2000).toNat + 1 = k1 by omega, e0, show D + cum y (n - 1) + 0 = D + cum y (n - 1) by omega] at a2
    rw [a2]
    obtain ⟨k2, hk3, hk4⟩ : ∃ k2, k1 - (y - 2000).toNat - 1 = k2 + 1 ∧ 1 ≤ k2 := ⟨k1 - (y - 2000).toNat - 2, by omega, by omega⟩
    rw [hk3]
    simp only [hibernacleref48_Of.l2]
    rw [if_neg (by omega), w64 (x := 1440 * (D + cum y (n - 1) + dby y)) (by omega) (by omega), w64 (x := 60 * H) (by omega) (by omega), w64 (x := 1440 * (D + cum y (n - 1) + dby y) + 60 * H) (by omega) (by omega), w64 (by omega) (by omega)]
    rw [show D + cum y (n - 1) + dby y = dby y + cum y (n - 1) + D by omega]
  · obtain ⟨k2, rfl⟩ : ∃ k2, k1 = k2 + 1 := ⟨k1 - 1, by omega⟩
    simp only [hibernacleref48_Of.l1]
    rw [if_neg (by omega)]
    have a3 := rOf_l2 H M (dby y + cum y (n - 1) + D) hH hM (by omega) (by omega) (2000 - y).toNat (k2 - (2000 - y).toNat - 1) y (by omega) (by omega)
    rw [show k2 - (2000 - y).toNat - 1 + (2000 - y).toNat + 1 = k2 by omega, show dby y + cum y (n - 1) + D - dby y = D + cum y (n - 1) by omega] at a3
    exact a3

theorem Of_tail (s : ByteArray) {y n D : Int} (hy0 : 0 ≤ y) (hy1 : y ≤ 9999) (hn0 : 0 ≤ n) (hn1 : n ≤ 11) (hD : 0 ≤ D ∧ D ≤ 9999) {k : Nat} (hk : 20000 ≤ k) :
    ∃ j, 19000 ≤ j ∧ day_Of.j1 k s y n D false = day_Of.l2 (j + 1) s y (dby y + cum y n + D) n n := by
  have cb := cum_le y (m := n) (by omega) (by omega)
  obtain ⟨k, rfl⟩ : ∃ j, k = j + 1 := ⟨k - 1, by omega⟩
  simp only [day_Of.j1]
  rw [if_neg (by decide), w64 (x := y - 2000) (by omega) (by omega), below_eq (by omega) (by omega) (by omega) (by omega)]
  simp only [Option.bind_some]
  rw [w64 (x := (y - 2000) / 400 * 146097) (by omega) (by omega), w64 (x := (y - 2000) / 400 * 146097 + D) (by omega) (by omega)]
  have e0 : dby (2000 + 0) = 0 := by decide
  have a1 := Of_l1 s y n ((y - 2000) / 400 * 146097 + D) ((y - 2000) % 400) (by omega) (by omega) (by omega) ((y - 2000) % 400).toNat (k - ((y - 2000) % 400).toNat - 1) 0 (by omega) (by omega)
  rw [show k - ((y - 2000) % 400).toNat - 1 + ((y - 2000) % 400).toNat + 1 = k by omega, e0, show (y - 2000) / 400 * 146097 + D + 0 = (y - 2000) / 400 * 146097 + D by omega] at a1
  rw [a1]
  have e1 : (y - 2000) / 400 * 146097 + D + dby (2000 + (y - 2000) % 400) = dby y + D := by unfold dby; omega
  rw [e1]
  have db := dby_bd (y := y) (by omega) (by omega)
  have a2 := Of_l2 s y (dby y + D) n (by omega) (by omega) (by omega) (by omega) (by omega) n.toNat (k - ((y - 2000) % 400).toNat - 1 - n.toNat - 1) 0 (by omega) (by omega)
  rw [show k - ((y - 2000) % 400).toNat - 1 - n.toNat - 1 + n.toNat + 1 = k - ((y - 2000) % 400).toNat - 1 by omega, cum_zero, show dby y + D + 0 = dby y + D by omega] at a2
  rw [a2]
  exact ⟨k - ((y - 2000) % 400).toNat - 1 - n.toNat - 1, by omega, by rw [show dby y + D + cum y n = dby y + cum y n + D by omega]⟩

end Go.Proofs.Ytnanhempikhknaa.Cal
