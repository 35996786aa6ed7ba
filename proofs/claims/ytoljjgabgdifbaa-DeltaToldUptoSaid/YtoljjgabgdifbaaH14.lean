/- Layer 35: the plain law of what a delta lists. -/
import Derived.Test.YtoljjgabgdifbaaH13
namespace Go.Proofs.Ytoljjgabgdifbaa.H
open Go.RowKit Go.Proofs.YtoljjgabgdifbaaW.PrintWords Go.Proofs.YtoljjgabgdifbaaW.PrintLast Go.Proofs.YtoljjgabgdifbaaW.PrintMore
set_option linter.unusedVariables false
set_option linter.unusedSimpArgs false

def at_ (x : List ByteArray) (i : Nat) : ByteArray := x.getD i ByteArray.empty
/-- Is text i new or another one? -/
def unlike (x y : List ByteArray) (i : Nat) : Bool := decide (x.length ≤ i) || !decide ((at_ x i).toList = (at_ y i).toList)
/-- What is other among the first i. -/
def chg (x y : List ByteArray) : Nat → List S36
  | 0 => []
  | i + 1 => if unlike x y i then chg x y i ++ [⟨(i : Int), at_ y i⟩] else chg x y i
theorem chg_len (x y : List ByteArray) : ∀ i, (chg x y i).length ≤ i
  | 0 => Nat.le_refl _
  | i + 1 => by
    have := chg_len x y i
    rw [chg]
    split
    · rw [List.length_append, List.length_singleton]; omega
    · omega
theorem chg_pre (x y : List ByteArray) (i : Nat) : ∀ d, ∃ r, chg x y (i + d) = chg x y i ++ r
  | 0 => ⟨[], by simp⟩
  | d + 1 => by
    obtain ⟨r, h⟩ := chg_pre x y i d
    rw [← Nat.add_assoc, chg]
    split
    · exact ⟨r ++ [⟨((i + d : Nat) : Int), at_ y (i + d)⟩], by rw [h, List.append_assoc]⟩
    · exact ⟨r, h⟩
theorem chg_at {x y : List ByteArray} {i n : Nat} (hi : i < n) (ho : unlike x y i = true) : (chg x y i).length < (chg x y n).length ∧ (chg x y n)[(chg x y i).length]? = some ⟨(i : Int), at_ y i⟩ := by
  obtain ⟨r, h⟩ := chg_pre x y (i + 1) (n - (i + 1))
  rw [show i + 1 + (n - (i + 1)) = n by omega, chg, if_pos ho] at h
  rw [h]
  simp only [List.length_append, List.length_singleton]
  exact ⟨by omega, by simp⟩
theorem chg_le (x y : List ByteArray) {i n : Nat} (hi : i ≤ n) : (chg x y i).length ≤ (chg x y n).length := by
  obtain ⟨r, h⟩ := chg_pre x y i (n - i)
  rw [show i + (n - i) = n by omega] at h
  rw [h, List.length_append]
  omega
theorem wrap_succ {i n : Nat} (h : i < n) (hn : n ≤ 5864062014805) : wrap64 ((i : Int) + 1) = ((i + 1 : Nat) : Int) := by
  rw [← i64_w, IntWalk.i64_in _ (by omega)]
  omega
theorem rdOf_at (x : List ByteArray) (i : Nat) : rdOf ByteArray.empty x (i : Int) = at_ x i := by simp [rdOf, at_]
theorem writes_l0 (x y : List ByteArray) (hy : y.length ≤ 5864062014805) : ∀ (d i k : Nat), i + d = y.length → d < k → delta_writes.l0 k x (chg x y i) y (y.length : Int) (i : Int) = some (chg x y y.length)
  | 0, i, k, h, hk => by
    obtain ⟨k, rfl⟩ : ∃ m, k = m + 1 := ⟨k - 1, by omega⟩
    rw [delta_writes.l0, if_neg (by omega)]
    rw [show i = y.length by omega]
  | d + 1, i, k, h, hk => by
    obtain ⟨k, rfl⟩ : ∃ m, k = m + 1 := ⟨k - 1, by omega⟩
    have ih := writes_l0 x y hy d (i + 1) k (by omega) (by omega)
    have hl := chg_len x y i
    rw [delta_writes.l0, if_pos (by omega), if_pos (by omega), if_pos (by omega), wrap_succ (show i < y.length by omega) hy, rdOf_at, rdOf_at]
    by_cases c : x.length ≤ i
    · rw [if_pos (by omega), if_pos (by omega)]
      rw [chg, if_pos (by simp [unlike, c])] at ih
      exact ih
    · rw [if_neg (by omega), if_pos (by omega)]
      by_cases e : (at_ x i).toList = (at_ y i).toList
      · rw [if_pos e]
        rw [chg, if_neg (by simp [unlike, c, e])] at ih
        exact ih
      · rw [if_neg e, if_pos (by omega)]
        rw [chg, if_pos (by simp [unlike, e])] at ih
        exact ih
theorem writes_f (x y : List ByteArray) (hy : y.length ≤ 5864062014805) {k : Nat} (hk : y.length < k) : delta_writes.f k x y = some (chg x y y.length) := by
  unfold delta_writes.f
  exact writes_l0 x y hy y.length 0 k (by omega) hk
theorem size_some (l : List ByteArray) (hl : l.length ≤ 5864062014805) : ∀ (d i k : Nat) (n : Int), i + d = l.length → d < k → ∃ r, hibernaclelaw35_size.l0 k n l (l.length : Int) (i : Int) = some r
  | 0, i, k, n, h, hk => by
    obtain ⟨k, rfl⟩ : ∃ m, k = m + 1 := ⟨k - 1, by omega⟩
    rw [hibernaclelaw35_size.l0, if_neg (by omega)]
    exact ⟨_, rfl⟩
  | d + 1, i, k, n, h, hk => by
    obtain ⟨k, rfl⟩ : ∃ m, k = m + 1 := ⟨k - 1, by omega⟩
    rw [hibernaclelaw35_size.l0, if_pos (by omega), if_pos (by omega), if_pos (by omega), wrap_succ (show i < l.length by omega) hl]
    exact size_some l hl d (i + 1) k _ (by omega) (by omega)
theorem great_some (m : Nat) (l : List S24) (hl : l.length ≤ 5864062014805) (hm : ∀ x ∈ l, x.f0.length ≤ m ∧ x.f1.length ≤ m) (hmm : m ≤ 5864062014805) : ∀ (d i k : Nat) (n : Int), i + d = l.length → d + m + 1 < k → ∃ r, hibernaclelaw35_great.l0 k n l (l.length : Int) (i : Int) = some r
  | 0, i, k, n, h, hk => by
    obtain ⟨k, rfl⟩ : ∃ m, k = m + 1 := ⟨k - 1, by omega⟩
    rw [hibernaclelaw35_great.l0, if_neg (by omega)]
    exact ⟨_, rfl⟩
  | d + 1, i, k, n, h, hk => by
    obtain ⟨k, rfl⟩ : ∃ m, k = m + 1 := ⟨k - 1, by omega⟩
    rw [hibernaclelaw35_great.l0, if_pos (by omega), if_pos (by omega), if_pos (by omega), wrap_succ (show i < l.length by omega) hl]
    have hx := hm (rd_T24 l (i : Int)) (by
      have : rd_T24 l (i : Int) = l[i]'(by omega) := by simp [rd_T24, List.getD_eq_getElem?_getD, List.getElem?_eq_getElem (show i < l.length by omega)]
      rw [this]
      exact List.getElem_mem _)
    obtain ⟨r1, h1⟩ := size_some (rd_T24 l (i : Int)).f0 (by omega) (rd_T24 l (i : Int)).f0.length 0 k 0 (by omega) (by omega)
    obtain ⟨r2, h2⟩ := size_some (rd_T24 l (i : Int)).f1 (by omega) (rd_T24 l (i : Int)).f1.length 0 k 0 (by omega) (by omega)
    have g1 : hibernaclelaw35_size.f k (rd_T24 l (i : Int)).f0 = some r1 := h1
    have g2 : hibernaclelaw35_size.f k (rd_T24 l (i : Int)).f1 = some r2 := h2
    rw [g1, Option.bind_some, g2, Option.bind_some]
    exact great_some m l hl hm hmm d (i + 1) k _ (by omega) (by omega)
theorem great_f (m : Nat) (l : List S24) (hl : l.length ≤ 5864062014805) (hm : ∀ x ∈ l, x.f0.length ≤ m ∧ x.f1.length ≤ m) (hmm : m ≤ 5864062014805) : ∃ k r, hibernaclelaw35_great.f k l = some r := by
  obtain ⟨r, h⟩ := great_some m l hl hm hmm l.length 0 (l.length + m + 2) 0 (by omega) (by omega)
  exact ⟨_, r, h⟩
end Go.Proofs.Ytoljjgabgdifbaa.H
