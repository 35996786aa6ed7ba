/- The reading of texts: the minute of any text, by both packages. -/
import Derived.Test.YtnanhempikhknaaMath2
namespace Go.Proofs.Ytnanhempikhknaa.Cal
open Go.RowKit Go.Proofs.Ytnanhempikhknaa.D Go.Proofs.YtnanhempikhknaaW.PrintWords Go.Proofs.YtnanhempikhknaaW.PrintLast

def frm : ByteArray := ⟨#[48, 48, 48, 48, 45, 48, 48, 45, 48, 48, 32, 48, 48, 58, 48, 48]⟩
theorem i16 {i : Int} (h0 : 0 ≤ i) (h1 : i < 16) : i = 0 ∨ i = 1 ∨ i = 2 ∨ i = 3 ∨ i = 4 ∨ i = 5 ∨ i = 6 ∨ i = 7 ∨ i = 8 ∨ i = 9 ∨ i = 10 ∨ i = 11 ∨ i = 12 ∨ i = 13 ∨ i = 14 ∨ i = 15 := by omega
theorem frm_val {i : Int} (h0 : 0 ≤ i) (h1 : i < 16) : bt frm i = 48 ∨ bt frm i = 45 ∨ bt frm i = 32 ∨ bt frm i = 58 := by
  rcases i16 h0 h1 with rfl | rfl | rfl | rfl | rfl | rfl | rfl | rfl | rfl | rfl | rfl | rfl | rfl | rfl | rfl | rfl <;> decide

def OKat (s : ByteArray) (i : Int) : Prop := (bt frm i = 48 ∧ 48 ≤ bt s i ∧ bt s i ≤ 57) ∨ (bt frm i ≠ 48 ∧ bt s i = bt frm i)

theorem Ostep_ok (k : Nat) (s : ByteArray) (i : Int) (hs : s.size = 16) (h0 : 0 ≤ i) (h1 : i < 16) (h : OKat s i) : day_Of.l0 (k + 1) s 16 i = day_Of.l0 k s 16 (i + 1) := by
  have hf := frm_val h0 h1
  have hw : wrap64 (i + 1) = i + 1 := w64 (by omega) (by omega)
  simp only [day_Of.l0]
  rw [if_pos h1, if_pos h0, if_pos (by omega), hw]
  rw [show (⟨#[48, 48, 48, 48, 45, 48, 48, 45, 48, 48, 32, 48, 48, 58, 48, 48]⟩ : ByteArray) = frm from rfl]
  rcases h with ⟨e, g1, g2⟩ | ⟨e, g⟩
  · rw [if_pos (by omega), if_pos h1, if_neg (by rw [e, decide_eq_true g2]; decide), if_pos g2]
  · by_cases c : bt s i ≥ 48
    · have hb : ¬ bt s i ≤ 57 := by omega
      rw [if_pos c, if_pos h1, if_neg (by rw [decide_eq_false hb, beq_eq_false_iff_ne.mpr e]; decide), if_neg hb, if_pos g]
    · rw [if_neg c, if_pos h1, if_neg (by rw [beq_eq_false_iff_ne.mpr e]; decide), if_pos g]

theorem Ostep_bad (k : Nat) (s : ByteArray) (i : Int) (hs : s.size = 16) (h0 : 0 ≤ i) (h1 : i < 16) (h : ¬ OKat s i) : day_Of.l0 (k + 1) s 16 i = some (0, false) := by
  have hf := frm_val h0 h1
  simp only [day_Of.l0]
  rw [if_pos h1, if_pos h0, if_pos (by omega)]
  rw [show (⟨#[48, 48, 48, 48, 45, 48, 48, 45, 48, 48, 32, 48, 48, 58, 48, 48]⟩ : ByteArray) = frm from rfl]
  unfold OKat at h
  by_cases c : bt s i ≥ 48
  · rw [if_pos c, if_pos h1]
    by_cases c2 : bt s i ≤ 57
    · have e : bt frm i ≠ 48 := fun e => h (.inl ⟨e, c, c2⟩)
      rw [if_pos (by rw [decide_eq_true c2, beq_eq_false_iff_ne.mpr e]; decide)]
    · by_cases e : bt frm i = 48
      · rw [if_pos (by rw [decide_eq_false c2, e]; decide)]
      · rw [if_neg (by rw [decide_eq_false c2, beq_eq_false_iff_ne.mpr e]; decide), if_neg c2, if_neg (fun g => h (.inr ⟨e, g⟩))]
  · rw [if_neg c, if_pos h1]
    by_cases e : bt frm i = 48
    · rw [if_pos (by rw [e]; decide)]
    · rw [if_neg (by rw [beq_eq_false_iff_ne.mpr e]; decide), if_neg (fun g => h (.inr ⟨e, g⟩))]

theorem Of_l0_ok (s : ByteArray) (hs : s.size = 16) (h : ∀ i : Int, 0 ≤ i → i < 16 → OKat s i) (d : Nat) : ∀ k, d ≤ 16 → day_Of.l0 (k + d) s 16 (16 - d) = day_Of.l0 k s 16 16 := by
  induction d with
  | zero => intro k _; rfl
  | succ d ih =>
    intro k hd
    rw [show k + (d + 1) = (k + d) + 1 by omega, Ostep_ok _ _ _ hs (by omega) (by omega) (h _ (by omega) (by omega)), show (16 - ((d + 1 : Nat) : Int) + 1) = 16 - (d : Int) by omega]
    exact ih k (by omega)
theorem Of_l0_bad (s : ByteArray) (hs : s.size = 16) (d : Nat) : ∀ k, d ≤ 16 → (∃ i : Int, 16 - (d : Int) ≤ i ∧ i < 16 ∧ ¬ OKat s i) → day_Of.l0 (k + d) s 16 (16 - d) = some (0, false) := by
  induction d with
  | zero => intro k _ ⟨i, h1, h2, _⟩; omega
  | succ d ih =>
    intro k hd ⟨i, h1, h2, h3⟩
    rw [show k + (d + 1) = (k + d) + 1 by omega]
    by_cases c : OKat s (16 - ((d + 1 : Nat) : Int))
    · rw [Ostep_ok _ _ _ hs (by omega) (by omega) c, show (16 - ((d + 1 : Nat) : Int) + 1) = 16 - (d : Int) by omega]
      refine ih k (by omega) ⟨i, ?_, h2, h3⟩
      by_cases e : i = 16 - ((d + 1 : Nat) : Int)
      · subst e; exact absurd c h3
      · omega
    · exact Ostep_bad _ _ _ hs (by omega) (by omega) c

/-! numbers of digits -/
def dgt (c : UInt8) : Prop := 48 ≤ (c.toNat : Int) ∧ (c.toNat : Int) ≤ 57
instance (c : UInt8) : Decidable (dgt c) := by unfold dgt; infer_instance
def v (c : UInt8) : Int := c.toNat - 48

theorem bt2 (a b : UInt8) : bt ⟨#[a, b]⟩ 0 = a.toNat ∧ bt ⟨#[a, b]⟩ 1 = b.toNat := ⟨rfl, rfl⟩
theorem bt4 (a b c d : UInt8) : bt ⟨#[a, b, c, d]⟩ 0 = a.toNat ∧ bt ⟨#[a, b, c, d]⟩ 1 = b.toNat ∧ bt ⟨#[a, b, c, d]⟩ 2 = c.toNat ∧ bt ⟨#[a, b, c, d]⟩ 3 = d.toNat := ⟨rfl, rfl, rfl, rfl⟩
theorem w1 : wrap64 (0 + 1) = 1 := by decide +kernel
theorem w2 : wrap64 (1 + 1) = 2 := by decide +kernel
theorem w3 : wrap64 (2 + 1) = 3 := by decide +kernel
theorem w4 : wrap64 (3 + 1) = 4 := by decide +kernel
theorem w0 : wrap64 (0 * 10) = 0 := by decide +kernel
theorem w0' : wrap64 (10 * 0) = 0 := by decide +kernel

theorem number2 (a b : UInt8) (ha : dgt a) (hb : dgt b) {k : Nat} (hk : 10 ≤ k) : day_number.f k ⟨#[a, b]⟩ = some (v a * 10 + v b) := by
  obtain ⟨k, rfl⟩ : ∃ j, k = j + 3 := ⟨k - 3, by omega⟩
  unfold dgt at ha hb
  unfold day_number.f v
  have hs : (((⟨#[a, b]⟩ : ByteArray).size : Nat) : Int) = 2 := rfl
  simp only [day_number.l0, hs, bt2, w1, w2, w0, show (0 : Int) < 2 by omega, show (1 : Int) < 2 by omega, show ¬ (2 : Int) < 2 by omega, show (0 : Int) ≤ 0 by omega, show (0 : Int) ≤ 1 by omega, if_true, if_false]
  rw [show ((a.toNat : Int) - 48) % 256 = a.toNat - 48 by omega, show ((b.toNat : Int) - 48) % 256 = b.toNat - 48 by omega, w64 (x := 0 + ((a.toNat : Int) - 48)) (by omega) (by omega),
    w64 (x := (0 + ((a.toNat : Int) - 48)) * 10) (by omega) (by omega), w64 (by omega) (by omega)]
  congr 1
  omega
theorem number4 (a b c d : UInt8) (ha : dgt a) (hb : dgt b) (hc : dgt c) (hd : dgt d) {k : Nat} (hk : 10 ≤ k) : day_number.f k ⟨#[a, b, c, d]⟩ = some (v a * 1000 + v b * 100 + v c * 10 + v d) := by
  obtain ⟨k, rfl⟩ : ∃ j, k = j + 5 := ⟨k - 5, by omega⟩
  unfold dgt at ha hb hc hd
  unfold day_number.f v
  have hs : (((⟨#[a, b, c, d]⟩ : ByteArray).size : Nat) : Int) = 4 := rfl
  simp only [day_number.l0, hs, bt4, w1, w2, w3, w4, w0, show (0 : Int) < 4 by omega, show (1 : Int) < 4 by omega, show (2 : Int) < 4 by omega, show (3 : Int) < 4 by omega, show ¬ (4 : Int) < 4 by omega,
    show (0 : Int) ≤ 0 by omega, show (0 : Int) ≤ 1 by omega, show (0 : Int) ≤ 2 by omega, show (0 : Int) ≤ 3 by omega, if_true, if_false]
  rw [show ((a.toNat : Int) - 48) % 256 = a.toNat - 48 by omega, show ((b.toNat : Int) - 48) % 256 = b.toNat - 48 by omega, show ((c.toNat : Int) - 48) % 256 = c.toNat - 48 by omega, show ((d.toNat : Int) - 48) % 256 = d.toNat - 48 by omega,
    w64 (x := 0 + ((a.toNat : Int) - 48)) (by omega) (by omega), w64 (x := (0 + ((a.toNat : Int) - 48)) * 10) (by omega) (by omega),
    w64 (x := (0 + ((a.toNat : Int) - 48)) * 10 + ((b.toNat : Int) - 48)) (by omega) (by omega), w64 (x := ((0 + ((a.toNat : Int) - 48)) * 10 + ((b.toNat : Int) - 48)) * 10) (by omega) (by omega),
    w64 (x := ((0 + ((a.toNat : Int) - 48)) * 10 + ((b.toNat : Int) - 48)) * 10 + ((c.toNat : Int) - 48)) (by omega) (by omega),
    w64 (x := (((0 + ((a.toNat : Int) - 48)) * 10 + ((b.toNat : Int) - 48)) * 10 + ((c.toNat : Int) - 48)) * 10) (by omega) (by omega), w64 (by omega) (by omega)]
  congr 1
  omega

theorem rnumber2 (a b : UInt8) {k : Nat} (hk : 10 ≤ k) : hibernacleref48_number.f k ⟨#[a, b]⟩ = some (if dgt a ∧ dgt b then v a * 10 + v b else -1) := by
  obtain ⟨k, rfl⟩ : ∃ j, k = j + 3 := ⟨k - 3, by omega⟩
  unfold dgt hibernacleref48_number.f v
  have hs : (((⟨#[a, b]⟩ : ByteArray).size : Nat) : Int) = 2 := rfl
  simp only [hibernacleref48_number.l0, hs, bt2, w1, w2, w0', show (0 : Int) < 2 by omega, show (1 : Int) < 2 by omega, show ¬ (2 : Int) < 2 by omega, show (0 : Int) ≤ 0 by omega, show (0 : Int) ≤ 1 by omega, if_true, if_false]
  by_cases c1 : (a.toNat : Int) < 48
  · rw [if_pos c1, if_neg (by omega)]
  · rw [if_neg c1]
    by_cases c2 : (a.toNat : Int) > 57
    · rw [if_pos c2, if_neg (by omega)]
    · rw [if_neg c2]
      by_cases c3 : (b.toNat : Int) < 48
      · rw [if_pos c3, if_neg (by omega)]
      · rw [if_neg c3]
        by_cases c4 : (b.toNat : Int) > 57
        · rw [if_pos c4, if_neg (by omega)]
        · rw [if_neg c4, if_pos (by omega), show ((a.toNat : Int) - 48) % 256 = a.toNat - 48 by omega, show ((b.toNat : Int) - 48) % 256 = b.toNat - 48 by omega,
            w64 (x := 0 + ((a.toNat : Int) - 48)) (by omega) (by omega), w64 (x := 10 * (0 + ((a.toNat : Int) - 48))) (by omega) (by omega), w64 (by omega) (by omega)]
          congr 1
          omega

theorem rnumber4 (a b c d : UInt8) {k : Nat} (hk : 10 ≤ k) : hibernacleref48_number.f k ⟨#[a, b, c, d]⟩ = some (if dgt a ∧ dgt b ∧ dgt c ∧ dgt d then v a * 1000 + v b * 100 + v c * 10 + v d else -1) := by
  obtain ⟨k, rfl⟩ : ∃ j, k = j + 5 := ⟨k - 5, by omega⟩
  unfold dgt hibernacleref48_number.f v
  have hs : (((⟨#[a, b, c, d]⟩ : ByteArray).size : Nat) : Int) = 4 := rfl
  simp only [hibernacleref48_number.l0, hs, bt4, w1, w2, w3, w4, w0', show (0 : Int) < 4 by omega, show (1 : Int) < 4 by omega, show (2 : Int) < 4 by omega, show (3 : Int) < 4 by omega, show ¬ (4 : Int) < 4 by omega,
    show (0 : Int) ≤ 0 by omega, show (0 : Int) ≤ 1 by omega, show (0 : Int) ≤ 2 by omega, show (0 : Int) ≤ 3 by omega, if_true, if_false]
  by_cases c1 : (a.toNat : Int) < 48
  · rw [if_pos c1, if_neg (by omega)]
  rw [if_neg c1]
  by_cases c2 : (a.toNat : Int) > 57
  · rw [if_pos c2, if_neg (by omega)]
  rw [if_neg c2]
  by_cases c3 : (b.toNat : Int) < 48
  · rw [if_pos c3, if_neg (by omega)]
  rw [if_neg c3]
  by_cases c4 : (b.toNat : Int) > 57
  · rw [if_pos c4, if_neg (by omega)]
  rw [if_neg c4]
  by_cases c5 : (c.toNat : Int) < 48
  · rw [if_pos c5, if_neg (by omega)]
  rw [if_neg c5]
  by_cases c6 : (c.toNat : Int) > 57
  · rw [if_pos c6, if_neg (by omega)]
  rw [if_neg c6]
  by_cases c7 : (d.toNat : Int) < 48
  · rw [if_pos c7, if_neg (by omega)]
  rw [if_neg c7]
  by_cases c8 : (d.toNat : Int) > 57
  · rw [if_pos c8, if_neg (by omega)]
  rw [if_neg c8, if_pos (by omega), show ((a.toNat : Int) - 48) % 256 = a.toNat - 48 by omega, show ((b.toNat : Int) - 48) % 256 = b.toNat - 48 by omega, show ((c.toNat : Int) - 48) % 256 = c.toNat - 48 by omega,
    show ((d.toNat : Int) - 48) % 256 = d.toNat - 48 by omega,
    w64 (x := 0 + ((a.toNat : Int) - 48)) (by omega) (by omega), w64 (x := 10 * (0 + ((a.toNat : Int) - 48))) (by omega) (by omega),
    w64 (x := 10 * (0 + ((a.toNat : Int) - 48)) + ((b.toNat : Int) - 48)) (by omega) (by omega), w64 (x := 10 * (10 * (0 + ((a.toNat : Int) - 48)) + ((b.toNat : Int) - 48))) (by omega) (by omega),
    w64 (x := 10 * (10 * (0 + ((a.toNat : Int) - 48)) + ((b.toNat : Int) - 48)) + ((c.toNat : Int) - 48)) (by omega) (by omega),
    w64 (x := 10 * (10 * (10 * (0 + ((a.toNat : Int) - 48)) + ((b.toNat : Int) - 48)) + ((c.toNat : Int) - 48))) (by omega) (by omega), w64 (by omega) (by omega)]
  congr 1
  omega

end Go.Proofs.Ytnanhempikhknaa.Cal
