/- A minute's own text is read as that minute; texts rise with their minutes. -/
import Derived.Test.YtnanhempikhknaaMath6
namespace Go.Proofs.Ytnanhempikhknaa.Cal
open Go.RowKit Go.Proofs.Ytnanhempikhknaa.D Go.Proofs.YtnanhempikhknaaW.PrintWords Go.Proofs.YtnanhempikhknaaW.PrintLast

theorem vd {x : Int} (h : 0 ≤ x) (h1 : x ≤ 9) : dgt (UInt8.ofNat (48 + x).toNat) ∧ v (UInt8.ofNat (48 + x).toNat) = x := by
  unfold dgt v
  rw [UInt8.toNat_ofNat']
  omega

theorem Of_txt {n y m r i : Int} (hd : IsDate n y m r) (hy0 : 0 ≤ y) (hy1 : y ≤ 9999) (hi0 : 0 ≤ i) (hi1 : i < 1440) {k : Nat} (hk : 40000 ≤ k) :
    day_Of.f k (strOfNums (txt y m r i)) = some (1440 * n + i, true) := by
  obtain ⟨h1, h2, h3, h4, h5⟩ := hd
  have mb := mlen_bd y m
  have a0 := vd (x := y / 10 / 10 / 10 % 10) (by omega) (by omega)
  have a1 := vd (x := y / 10 / 10 % 10) (by omega) (by omega)
  have a2 := vd (x := y / 10 % 10) (by omega) (by omega)
  have a3 := vd (x := y % 10) (by omega) (by omega)
  have a5 := vd (x := (m + 1) / 10 % 10) (by omega) (by omega)
  have a6 := vd (x := (m + 1) % 10) (by omega) (by omega)
  have a8 := vd (x := (r + 1) / 10 % 10) (by omega) (by omega)
  have a9 := vd (x := (r + 1) % 10) (by omega) (by omega)
  have a11 := vd (x := i / 60 / 10 % 10) (by omega) (by omega)
  have a12 := vd (x := i / 60 % 10) (by omega) (by omega)
  have a14 := vd (x := i % 60 / 10 % 10) (by omega) (by omega)
  have a15 := vd (x := i % 60 % 10) (by omega) (by omega)
  have e : strOfNums (txt y m r i) = ⟨#[UInt8.ofNat (48 + y / 10 / 10 / 10 % 10).toNat, UInt8.ofNat (48 + y / 10 / 10 % 10).toNat, UInt8.ofNat (48 + y / 10 % 10).toNat, UInt8.ofNat (48 + y % 10).toNat, 45,
      UInt8.ofNat (48 + (m + 1) / 10 % 10).toNat, UInt8.ofNat (48 + (m + 1) % 10).toNat, 45, UInt8.ofNat (48 + (r + 1) / 10 % 10).toNat, UInt8.ofNat (48 + (r + 1) % 10).toNat, 32,
      UInt8.ofNat (48 + i / 60 / 10 % 10).toNat, UInt8.ofNat (48 + i / 60 % 10).toNat, 58, UInt8.ofNat (48 + i % 60 / 10 % 10).toNat, UInt8.ofNat (48 + i % 60 % 10).toNat]⟩ := by
    apply ba_ext
    simp [strOfNums, txt, d4, d2]
  rw [e, Of_ok _ _ _ _ _ _ _ _ _ _ _ _ _ _ _ _ ⟨a0.1, a1.1, a2.1, a3.1, rfl, a5.1, a6.1, rfl, a8.1, a9.1, rfl, a11.1, a12.1, rfl, a14.1, a15.1⟩ hk]
  unfold nY nn
  rw [a0.2, a1.2, a2.2, a3.2, a5.2, a6.2, a8.2, a9.2, a11.2, a12.2, a14.2, a15.2]
  have e1 : y / 10 / 10 / 10 % 10 * 1000 + y / 10 / 10 % 10 * 100 + y / 10 % 10 * 10 + y % 10 = y := by omega
  have e2 : (m + 1) / 10 % 10 * 10 + (m + 1) % 10 = m + 1 := by omega
  have e3 : (r + 1) / 10 % 10 * 10 + (r + 1) % 10 = r + 1 := by omega
  have e4 : i / 60 / 10 % 10 * 10 + i / 60 % 10 = i / 60 := by omega
  have e5 : i % 60 / 10 % 10 * 10 + i % 60 % 10 = i % 60 := by omega
  rw [e1, e2, e3, e4, e5, if_pos ⟨by omega, by omega, by omega, by rw [show m + 1 - 1 = m by omega]; omega, by omega, by omega⟩]
  unfold Min
  rw [show m + 1 - 1 = m by omega]
  congr 2
  omega

theorem txt_size (y m r i : Int) : (strOfNums (txt y m r i)).size = 16 := by rw [nums_size]; rfl
theorem txt_ne (y m r i : Int) : (strOfNums (txt y m r i)).toList ≠ [] := by
  rw [nums_list]
  simp [txt, d4]

/-! texts in order -/
theorem less_same {a b : UInt8} {x y : List UInt8} (h : a = b) : Op.bytesLess (a :: x) (b :: y) = Op.bytesLess x y := by
  subst h
  simp [Op.bytesLess]
theorem less_lt {a b : UInt8} {x y : List UInt8} (h : a.toNat < b.toNat) : Op.bytesLess (b :: y) (a :: x) = false := by
  have h1 : ¬ b < a := by rw [UInt8.lt_iff_toNat_lt]; omega
  have h2 : (b == a) = false := beq_eq_false_iff_ne.2 (fun e => by subst e; omega)
  simp [Op.bytesLess, h1, h2]
theorem less_self : ∀ x : List UInt8, Op.bytesLess x x = false
  | [] => rfl
  | a :: x => by rw [less_same rfl]; exact less_self x

/-- two digits after each other: the greater number has the greater text -/
theorem dig_le {p q : Int} {x y : List UInt8} (h0 : 0 ≤ p) (h1 : q ≤ 9) (h : p < q) : Op.bytesLess (UInt8.ofNat (48 + q).toNat :: y) (UInt8.ofNat (48 + p).toNat :: x) = false := by
  apply less_lt
  rw [UInt8.toNat_ofNat', UInt8.toNat_ofNat']
  omega

theorem d2_le {p q : Int} {x y : List UInt8} (h0 : 0 ≤ p) (h1 : q ≤ 99) (h : p < q ∨ (p = q ∧ Op.bytesLess y x = false)) :
    Op.bytesLess ((d2 q).map (fun n => UInt8.ofNat n.toNat) ++ y) ((d2 p).map (fun n => UInt8.ofNat n.toNat) ++ x) = false := by
  unfold d2
  simp only [List.map_cons, List.map_nil, List.cons_append, List.nil_append]
  rcases h with h | ⟨rfl, h⟩
  · by_cases c : p / 10 % 10 < q / 10 % 10
    · exact dig_le (by omega) (by omega) c
    · rw [less_same (by rw [show q / 10 % 10 = p / 10 % 10 by omega])]
      exact dig_le (by omega) (by omega) (by omega)
  · rw [less_same rfl, less_same rfl]
    exact h

theorem d4_le {p q : Int} {x y : List UInt8} (h0 : 0 ≤ p) (h1 : q ≤ 9999) (h : p < q ∨ (p = q ∧ Op.bytesLess y x = false)) :
    Op.bytesLess ((d4 q).map (fun n => UInt8.ofNat n.toNat) ++ y) ((d4 p).map (fun n => UInt8.ofNat n.toNat) ++ x) = false := by
  unfold d4
  simp only [List.map_cons, List.map_nil, List.cons_append, List.nil_append]
  rcases h with h | ⟨rfl, h⟩
  · by_cases c : p / 10 / 10 / 10 % 10 < q / 10 / 10 / 10 % 10
    · exact dig_le (by omega) (by omega) c
    · rw [less_same (by rw [show q / 10 / 10 / 10 % 10 = p / 10 / 10 / 10 % 10 by omega])]
      by_cases c : p / 10 / 10 % 10 < q / 10 / 10 % 10
      · exact dig_le (by omega) (by omega) c
      · rw [less_same (by rw [show q / 10 / 10 % 10 = p / 10 / 10 % 10 by omega])]
        by_cases c : p / 10 % 10 < q / 10 % 10
        · exact dig_le (by omega) (by omega) c
        · rw [less_same (by rw [show q / 10 % 10 = p / 10 % 10 by omega])]
          exact dig_le (by omega) (by omega) (by omega)
  · rw [less_same rfl, less_same rfl, less_same rfl, less_same rfl]
    exact h

/-- a later minute's text is no lesser one -/
theorem txt_rises {a b y m r y' m' r' : Int} (hab : a ≤ b) (ha : IsDate (a / 1440) y m r) (hb : IsDate (b / 1440) y' m' r') (hy0 : 0 ≤ y) (hy1 : y' ≤ 9999) :
    Op.bytesLess (strOfNums (txt y' m' r' (b % 1440))).toList (strOfNums (txt y m r (a % 1440))).toList = false := by
  have l := ha.le hb (by omega)
  have same : y = y' → m = m' → r = r' → a % 1440 ≤ b % 1440 := fun e1 e2 e3 => by
    subst e1 e2 e3
    have h1 := ha.2.2.2.2
    have h2 := hb.2.2.2.2
    omega
  have m1 := mlen_bd y m
  have m2 := mlen_bd y' m'
  obtain ⟨a1, a2, a3, a4, -⟩ := ha
  obtain ⟨b1, b2, b3, b4, -⟩ := hb
  rw [nums_list, nums_list]
  unfold txt
  simp only [List.map_append, List.append_assoc]
  apply d4_le hy0 hy1
  rcases l with l | ⟨rfl, l⟩
  · exact .inl l
  refine .inr ⟨rfl, ?_⟩
  simp only [List.map_cons, List.map_nil, List.cons_append, List.nil_append]
  rw [less_same rfl]
  apply d2_le (by omega) (by omega)
  rcases l with l | ⟨rfl, l⟩
  · exact .inl (by omega)
  refine .inr ⟨rfl, ?_⟩
  rw [less_same rfl]
  apply d2_le (by omega) (by omega)
  by_cases c : r < r'
  · exact .inl (by omega)
  obtain rfl : r = r' := by omega
  refine .inr ⟨rfl, ?_⟩
  have s := same rfl rfl rfl
  rw [less_same rfl]
  apply d2_le (by omega) (by omega)
  by_cases c : a % 1440 / 60 < b % 1440 / 60
  · exact .inl c
  refine .inr ⟨by omega, ?_⟩
  rw [less_same rfl]
  have z := d2_le (p := a % 1440 % 60) (q := b % 1440 % 60) (x := []) (y := []) (by omega) (by omega) (by
    by_cases c : a % 1440 % 60 < b % 1440 % 60
    · exact .inl c
    · exact .inr ⟨by omega, rfl⟩)
  rw [List.append_nil, List.append_nil] at z
  exact z

end Go.Proofs.Ytnanhempikhknaa.Cal
