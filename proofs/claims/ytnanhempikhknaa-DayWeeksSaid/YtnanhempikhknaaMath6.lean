/- What both packages answer for any text: the minute of a text that has one, and of no other. -/
import Derived.Test.YtnanhempikhknaaMath5
import Derived.Lib.Strings
namespace Go.Proofs.Ytnanhempikhknaa.Cal
open Go.RowKit Go.Proofs.Ytnanhempikhknaa.D Go.Proofs.YtnanhempikhknaaW.PrintWords Go.Proofs.YtnanhempikhknaaW.PrintLast

theorem nums_list (xs : List Int) : (strOfNums xs).toList = xs.map (fun n => UInt8.ofNat n.toNat) := by
  rw [Lib.toList_data]
  simp [strOfNums]

/-- the day of a text's numbers -/
def Good (Y n D H M : Int) : Prop := 1 ≤ n ∧ n ≤ 12 ∧ 1 ≤ D ∧ D ≤ mlen Y (n - 1) ∧ H ≤ 23 ∧ M ≤ 59
instance (Y n D H M : Int) : Decidable (Good Y n D H M) := by unfold Good; infer_instance
def Min (Y n D H M : Int) : Int := 1440 * (dby Y + cum Y (n - 1) + (D - 1)) + 60 * H + M

section
variable (c0 c1 c2 c3 c4 c5 c6 c7 c8 c9 c10 c11 c12 c13 c14 c15 : UInt8)

theorem min_date {Y n D H M : Int} (h : Good Y n D H M) (hH : 0 ≤ H) (hM : 0 ≤ M) : Min Y n D H M / 1440 = dby Y + cum Y (n - 1) + (D - 1) ∧ Min Y n D H M % 1440 = 60 * H + M ∧ IsDate (Min Y n D H M / 1440) Y (n - 1) (D - 1) := by
  obtain ⟨h1, h2, h3, h4, h5, h6⟩ := h
  have e : Min Y n D H M / 1440 = dby Y + cum Y (n - 1) + (D - 1) := by unfold Min; omega
  refine ⟨e, by unfold Min; omega, ?_⟩
  rw [e]
  exact ⟨by omega, by omega, by omega, by omega, rfl⟩

theorem min_bd {Y n D H M : Int} (hY : 0 ≤ Y ∧ Y ≤ 9999) (hn : 1 ≤ n) (hn2 : n ≤ 12) (hD : 1 ≤ D) (hD2 : D ≤ 99) (hH : 0 ≤ H ∧ H ≤ 99) (hM : 0 ≤ M ∧ M ≤ 99) : -20000000000 ≤ Min Y n D H M ∧ Min Y n D H M ≤ 20000000000 := by
  have a := dby_bd (y := Y) (by omega) (by omega)
  have b := cum_le Y (m := n - 1) (by omega) (by omega)
  unfold Min
  omega

/-- a minute's text has an hour below 24, a minute below 60 -/
theorem txt_hour (h : FrmOK c0 c1 c2 c3 c4 c5 c6 c7 c8 c9 c10 c11 c12 c13 c14 c15) {y m r i : Int} (h0 : 0 ≤ i) (h1 : i < 1440)
    (e : (strOfNums (txt y m r i)).toList = (⟨#[c0, c1, c2, c3, c4, c5, c6, c7, c8, c9, c10, c11, c12, c13, c14, c15]⟩ : ByteArray).toList) : nn c11 c12 ≤ 23 ∧ nn c14 c15 ≤ 59 := by
  obtain ⟨g0, g1, g2, g3, rfl, g5, g6, rfl, g8, g9, rfl, g11, g12, rfl, g14, g15⟩ := h
  rw [nums_list, Lib.toList_data] at e
  simp only [txt, d4, d2, List.cons_append, List.nil_append, List.map_cons, List.map_nil, List.cons.injEq] at e
  obtain ⟨-, -, -, -, -, -, -, -, -, -, -, e11, e12, -, e14, e15, -⟩ := e
  have t : ∀ {n : Int} {c : UInt8}, UInt8.ofNat n.toNat = c → 0 ≤ n → n < 256 → (c.toNat : Int) = n := fun {n c} h a b => by
    subst h
    rw [UInt8.toNat_ofNat']
    omega
  have a1 := t e11 (by omega) (by omega)
  have a2 := t e12 (by omega) (by omega)
  have a3 := t e14 (by omega) (by omega)
  have a4 := t e15 (by omega) (by omega)
  unfold nn v
  omega

theorem Of_ok (h : FrmOK c0 c1 c2 c3 c4 c5 c6 c7 c8 c9 c10 c11 c12 c13 c14 c15) {k : Nat} (hk : 40000 ≤ k) :
    day_Of.f k ⟨#[c0, c1, c2, c3, c4, c5, c6, c7, c8, c9, c10, c11, c12, c13, c14, c15]⟩ =
      some (if Good (nY c0 c1 c2 c3) (nn c5 c6) (nn c8 c9) (nn c11 c12) (nn c14 c15) then (Min (nY c0 c1 c2 c3) (nn c5 c6) (nn c8 c9) (nn c11 c12) (nn c14 c15), true) else (0, false)) := by
  have hl := Of_l0_ok ⟨#[c0, c1, c2, c3, c4, c5, c6, c7, c8, c9, c10, c11, c12, c13, c14, c15]⟩ rfl (of_frm _ _ _ _ _ _ _ _ _ _ _ _ _ _ _ _ h) 16 (k - 16) (by omega)
  have he := Of_l0_end _ _ _ _ _ _ _ _ _ _ _ _ _ _ _ _ h (k := k - 17) (by omega)
  rw [show k - 16 + 16 = k by omega, show (16 : Int) - ((16 : Nat) : Int) = 0 by omega, show k - 16 = k - 17 + 1 by omega, he] at hl
  unfold day_Of.f
  rw [if_pos (by rfl)]
  refine Eq.trans (b := day_Of.l0 k ⟨#[c0, c1, c2, c3, c4, c5, c6, c7, c8, c9, c10, c11, c12, c13, c14, c15]⟩ 16 0) rfl (hl.trans ?_)
  have h' := h
  obtain ⟨g0, g1, g2, g3, q4, g5, g6, q7, g8, g9, q10, g11, g12, q13, g14, g15⟩ := h'
  have bY := nY_bd g0 g1 g2 g3
  have bn := nn_bd g5 g6
  have bD := nn_bd g8 g9
  have bH := nn_bd g11 g12
  have bM := nn_bd g14 g15
  by_cases c : nn c5 c6 - 1 < 0 ∨ nn c5 c6 - 1 > 11 ∨ nn c8 c9 - 1 < 0 ∨ nn c8 c9 - 1 ≥ mlen (nY c0 c1 c2 c3) (nn c5 c6 - 1)
  · rw [if_pos c, if_neg (fun g => by unfold Good at g; omega)]
  · rw [if_neg c]
    obtain ⟨j, hj, ej⟩ := Of_tail ⟨#[c0, c1, c2, c3, c4, c5, c6, c7, c8, c9, c10, c11, c12, c13, c14, c15]⟩ (y := nY c0 c1 c2 c3) (n := nn c5 c6 - 1) (D := nn c8 c9 - 1) bY.1 bY.2 (by omega) (by omega) (by omega) (k := k - 17) (by omega)
    rw [ej]
    have mb := min_bd (H := nn c11 c12) (M := nn c14 c15) bY (n := nn c5 c6) (by omega) (by omega) (D := nn c8 c9) (by omega) (by omega) (by omega) (by omega)
    obtain ⟨y, m, r, hd, hy1, hy2, hp, _⟩ := of_minute (a := Min (nY c0 c1 c2 c3) (nn c5 c6) (nn c8 c9) (nn c11 c12) (nn c14 c15)) (by omega) (by omega)
    have ht := Text_eq (by omega) (by omega) hd (k := j) (by omega) (hp j (by omega))
    have db := dby_bd (y := nY c0 c1 c2 c3) (by omega) (by omega)
    have cb := cum_le (nY c0 c1 c2 c3) (m := nn c5 c6 - 1) (by omega) (by omega)
    have eM : 1440 * (dby (nY c0 c1 c2 c3) + cum (nY c0 c1 c2 c3) (nn c5 c6 - 1) + (nn c8 c9 - 1)) + 60 * nn c11 c12 + nn c14 c15 = Min (nY c0 c1 c2 c3) (nn c5 c6) (nn c8 c9) (nn c11 c12) (nn c14 c15) := rfl
    have s' := s_of _ _ _ _ _ _ _ _ _ _ _ _ _ _ _ _ h
    have th := fun (y m r i : Int) => txt_hour _ _ _ _ _ _ _ _ _ _ _ _ _ _ _ _ h (y := y) (m := m) (r := r) (i := i)
    generalize hs : (⟨#[c0, c1, c2, c3, c4, c5, c6, c7, c8, c9, c10, c11, c12, c13, c14, c15]⟩ : ByteArray) = s
    rw [hs] at s' th
    have x1 : s.extract 11 13 = ⟨#[c11, c12]⟩ := by subst hs; rfl
    have sz : ((s.size : Nat) : Int) = 16 := by subst hs; rfl
    have szn : s.size = 16 := by subst hs; rfl
    have x2 : s.extract 14 s.size = ⟨#[c14, c15]⟩ := by subst hs; rfl
    rw [day_Of.l2.eq_def]
    simp only
    rw [if_neg (by omega), if_pos (by omega), if_pos (by omega), x1, number2 _ _ g11 g12 (by omega)]
    simp only [Option.bind_some]
    rw [if_pos (by omega), x2, number2 _ _ g14 g15 (by omega)]
    simp only [Option.bind_some]
    rw [show v c11 * 10 + v c12 = nn c11 c12 from rfl, show v c14 * 10 + v c15 = nn c14 c15 from rfl]
    rw [w64 (x := (dby (nY c0 c1 c2 c3) + cum (nY c0 c1 c2 c3) (nn c5 c6 - 1) + (nn c8 c9 - 1)) * 1440) (by omega) (by omega), w64 (x := nn c11 c12 * 60) (by omega) (by omega),
      w64 (x := (dby (nY c0 c1 c2 c3) + cum (nY c0 c1 c2 c3) (nn c5 c6 - 1) + (nn c8 c9 - 1)) * 1440 + nn c11 c12 * 60) (by omega) (by omega), w64 (by omega) (by omega),
      show (dby (nY c0 c1 c2 c3) + cum (nY c0 c1 c2 c3) (nn c5 c6 - 1) + (nn c8 c9 - 1)) * 1440 + nn c11 c12 * 60 + nn c14 c15 = Min (nY c0 c1 c2 c3) (nn c5 c6) (nn c8 c9) (nn c11 c12) (nn c14 c15) by rw [← eM]; omega, ht]
    by_cases g : Good (nY c0 c1 c2 c3) (nn c5 c6) (nn c8 c9) (nn c11 c12) (nn c14 c15)
    · obtain ⟨e1, e2, e3⟩ := min_date g bH.1 bM.1
      obtain ⟨rfl, rfl, rfl⟩ := hd.uniq e3
      rw [if_pos (by omega)]
      simp only [Option.bind_some]
      rw [e2, s' _ _ _ (by omega) (by omega) rfl g.2.2.2.2.2, if_pos rfl, if_pos g]
    · rw [if_neg g]
      have ng : ¬ (nn c11 c12 ≤ 23 ∧ nn c14 c15 ≤ 59) := fun q => g ⟨by omega, by omega, by omega, by omega, q.1, q.2⟩
      by_cases cy : 0 ≤ y ∧ y ≤ 9999
      · rw [if_pos cy]
        simp only [Option.bind_some]
        rw [if_neg (fun e => ng (th y m r _ (by omega) (by omega) e))]
      · rw [if_neg cy]
        simp only [Option.bind_some]
        rw [if_neg (fun e => by
          have z := congrArg List.length e
          rw [nums_list, Lib.toList_data] at z
          have : s.data.toList.length = 16 := szn
          simp only [List.map_nil, List.length_nil] at z
          omega)]

theorem Of_bad (h : ¬ FrmOK c0 c1 c2 c3 c4 c5 c6 c7 c8 c9 c10 c11 c12 c13 c14 c15) {k : Nat} (hk : 40000 ≤ k) :
    day_Of.f k ⟨#[c0, c1, c2, c3, c4, c5, c6, c7, c8, c9, c10, c11, c12, c13, c14, c15]⟩ = some (0, false) := by
  have hl := Of_l0_bad ⟨#[c0, c1, c2, c3, c4, c5, c6, c7, c8, c9, c10, c11, c12, c13, c14, c15]⟩ rfl 16 (k - 16) (by omega) (by
    apply Classical.byContradiction
    intro hn
    refine h (frm_of _ _ _ _ _ _ _ _ _ _ _ _ _ _ _ _ fun i h0 h1 => ?_)
    apply Classical.byContradiction
    intro ho
    exact hn ⟨i, by omega, h1, ho⟩)
  rw [show k - 16 + 16 = k by omega, show (16 : Int) - ((16 : Nat) : Int) = 0 by omega] at hl
  unfold day_Of.f
  rw [if_pos (by rfl)]
  exact Eq.trans (b := day_Of.l0 k ⟨#[c0, c1, c2, c3, c4, c5, c6, c7, c8, c9, c10, c11, c12, c13, c14, c15]⟩ 16 0) rfl hl

instance : Decidable (FrmOK c0 c1 c2 c3 c4 c5 c6 c7 c8 c9 c10 c11 c12 c13 c14 c15) := by unfold FrmOK; infer_instance
theorem rj1_t (a b c d e : Int) {k : Nat} (hk : 0 < k) : hibernacleref48_Of.j1 k a b c d e true = some (0, false) := by
  obtain ⟨k, rfl⟩ : ∃ j, k = j + 1 := ⟨k - 1, by omega⟩
  simp only [hibernacleref48_Of.j1]
  rw [if_pos trivial]

theorem rOf_eq {k : Nat} (hk : 40000 ≤ k) :
    hibernacleref48_Of.f k ⟨#[c0, c1, c2, c3, c4, c5, c6, c7, c8, c9, c10, c11, c12, c13, c14, c15]⟩ =
      some (if FrmOK c0 c1 c2 c3 c4 c5 c6 c7 c8 c9 c10 c11 c12 c13 c14 c15 ∧ Good (nY c0 c1 c2 c3) (nn c5 c6) (nn c8 c9) (nn c11 c12) (nn c14 c15) then (Min (nY c0 c1 c2 c3) (nn c5 c6) (nn c8 c9) (nn c11 c12) (nn c14 c15), true) else (0, false)) := by
  generalize hs : (⟨#[c0, c1, c2, c3, c4, c5, c6, c7, c8, c9, c10, c11, c12, c13, c14, c15]⟩ : ByteArray) = s
  have y1 : s.extract 4 5 = ⟨#[c4]⟩ := by subst hs; rfl
  have y2 : s.extract 7 8 = ⟨#[c7]⟩ := by subst hs; rfl
  have y3 : s.extract 10 11 = ⟨#[c10]⟩ := by subst hs; rfl
  have y4 : s.extract 13 14 = ⟨#[c13]⟩ := by subst hs; rfl
  have x1 : s.extract 0 4 = ⟨#[c0, c1, c2, c3]⟩ := by subst hs; rfl
  have x2 : s.extract 5 7 = ⟨#[c5, c6]⟩ := by subst hs; rfl
  have x3 : s.extract 8 10 = ⟨#[c8, c9]⟩ := by subst hs; rfl
  have x4 : s.extract 11 13 = ⟨#[c11, c12]⟩ := by subst hs; rfl
  have x5 : s.extract 14 s.size = ⟨#[c14, c15]⟩ := by subst hs; rfl
  have sz : ((s.size : Nat) : Int) = 16 := by subst hs; rfl
  obtain ⟨k, rfl⟩ : ∃ j, k = j + 2 := ⟨k - 2, by omega⟩
  unfold hibernacleref48_Of.f
  rw [if_pos sz, if_pos (by omega), if_pos (by omega), if_pos (by omega), if_pos (by omega), y1, y2, y3, y4,
    show ((⟨#[c4]⟩ : ByteArray) ++ ⟨#[c7]⟩) = ⟨#[c4, c7]⟩ from rfl, show ((⟨#[c4, c7]⟩ : ByteArray) ++ ⟨#[c10]⟩) = ⟨#[c4, c7, c10]⟩ from rfl, show ((⟨#[c4, c7, c10]⟩ : ByteArray) ++ ⟨#[c13]⟩) = ⟨#[c4, c7, c10, c13]⟩ from rfl,
    if_pos (by show 1 + 1 ≤ 9223372036854775807; omega), if_pos (by omega), if_pos (by omega), if_pos (by show 2 + 1 ≤ 9223372036854775807; omega), if_pos (by omega), if_pos (by omega), if_pos (by show 3 + 1 ≤ 9223372036854775807; omega)]
  rw [Lib.toList_data]
  by_cases hsep : [c4, c7, c10, c13] = [45, 45, 32, 58]
  · rw [show ((⟨#[c4, c7, c10, c13]⟩ : ByteArray).data.toList != ([45, 45, 32, 58] : List UInt8)) = false by rw [show (⟨#[c4, c7, c10, c13]⟩ : ByteArray).data.toList = [c4, c7, c10, c13] from rfl, hsep]; decide]
    simp only [List.cons.injEq, and_true] at hsep
    obtain ⟨rfl, rfl, rfl, rfl⟩ := hsep
    simp only [hibernacleref48_Of.j0]
    rw [if_neg (by decide), if_pos (by omega), if_pos (by omega), x1, rnumber4 _ _ _ _ (by omega), x2, rnumber2 _ _ (by omega), x3, rnumber2 _ _ (by omega), x4, rnumber2 _ _ (by omega), x5, rnumber2 _ _ (by omega)]
    simp only [Option.bind_some]
    rw [if_pos (by omega), if_pos (by omega), if_pos (by omega), if_pos (by omega), if_pos (by omega), if_pos (by omega), if_pos (by omega)]
    rw [rj1_t _ _ _ _ _ (by omega)]
    by_cases g0 : dgt c0 ∧ dgt c1 ∧ dgt c2 ∧ dgt c3
    · by_cases g1 : dgt c5 ∧ dgt c6
      · by_cases g2 : dgt c8 ∧ dgt c9
        · by_cases g3 : dgt c11 ∧ dgt c12
          · by_cases g4 : dgt c14 ∧ dgt c15
            · have hf : FrmOK c0 c1 c2 c3 45 c5 c6 45 c8 c9 32 c11 c12 58 c14 c15 := ⟨g0.1, g0.2.1, g0.2.2.1, g0.2.2.2, rfl, g1.1, g1.2, rfl, g2.1, g2.2, rfl, g3.1, g3.2, rfl, g4.1, g4.2⟩
              have bY := nY_bd g0.1 g0.2.1 g0.2.2.1 g0.2.2.2
              have bn := nn_bd g1.1 g1.2
              have bD := nn_bd g2.1 g2.2
              have bH := nn_bd g3.1 g3.2
              have bM := nn_bd g4.1 g4.2
              rw [if_pos g0, if_pos g1, if_pos g2, if_pos g3, if_pos g4]
              rw [show v c5 * 10 + v c6 = nn c5 c6 from rfl, show v c8 * 10 + v c9 = nn c8 c9 from rfl, show v c11 * 10 + v c12 = nn c11 c12 from rfl, show v c14 * 10 + v c15 = nn c14 c15 from rfl,
                show v c0 * 1000 + v c1 * 100 + v c2 * 10 + v c3 = nY c0 c1 c2 c3 from rfl, if_neg (by omega)]
              by_cases t1 : nn c5 c6 < 1
              · rw [if_pos t1, if_neg (fun g => by have := g.2.1; omega)]
              rw [if_neg t1]
              by_cases t2 : nn c5 c6 > 12
              · rw [if_pos t2, if_neg (fun g => by have := g.2.2.1; omega)]
              rw [if_neg t2]
              by_cases t3 : nn c8 c9 < 1
              · rw [if_pos t3, if_neg (fun g => by have := g.2.2.2.1; omega)]
              rw [if_neg t3, days_eq]
              simp only [Option.bind_some]
              by_cases t4 : nn c8 c9 > mlen (nY c0 c1 c2 c3) (nn c5 c6 - 1)
              · rw [if_pos t4, if_neg (fun g => by have := g.2.2.2.2.1; omega)]
              rw [if_neg t4, if_neg (by omega)]
              by_cases t5 : nn c11 c12 > 23
              · rw [if_pos t5, if_neg (fun g => by have := g.2.2.2.2.2.1; omega)]
              rw [if_neg t5, if_neg (by omega)]
              by_cases t6 : nn c14 c15 > 59
              · rw [decide_eq_true t6, rj1_t _ _ _ _ _ (by omega), if_neg (fun g => by have := g.2.2.2.2.2.2; omega)]
              rw [decide_eq_false t6, if_pos ⟨hf, by omega, by omega, by omega, by omega, by omega, by omega⟩]
              simp only [hibernacleref48_Of.j1]
              rw [if_neg (by decide), w64 (x := nn c8 c9 - 1) (by omega) (by omega), rOf_tail bY.1 bY.2 (by omega) (by omega) (by omega) (by omega) (by omega) (by omega)]
              rfl
            · have hn : ¬ (FrmOK c0 c1 c2 c3 45 c5 c6 45 c8 c9 32 c11 c12 58 c14 c15 ∧ Good (nY c0 c1 c2 c3) (nn c5 c6) (nn c8 c9) (nn c11 c12) (nn c14 c15)) := fun h => g4 ⟨h.1.2.2.2.2.2.2.2.2.2.2.2.2.2.2.1, h.1.2.2.2.2.2.2.2.2.2.2.2.2.2.2.2⟩
              rw [if_neg hn, if_neg g4, days_eq]
              simp only [Option.bind_some]
              rw [if_pos (c := (-1 : Int) < 0) (by omega)]
              simp only [ite_self]
          · have hn : ¬ (FrmOK c0 c1 c2 c3 45 c5 c6 45 c8 c9 32 c11 c12 58 c14 c15 ∧ Good (nY c0 c1 c2 c3) (nn c5 c6) (nn c8 c9) (nn c11 c12) (nn c14 c15)) := fun h => g3 ⟨h.1.2.2.2.2.2.2.2.2.2.2.2.1, h.1.2.2.2.2.2.2.2.2.2.2.2.2.1⟩
            rw [if_neg hn, if_neg g3, days_eq]
            simp only [Option.bind_some]
            rw [if_pos (c := (-1 : Int) < 0) (by omega)]
            simp only [ite_self]
        · have hn : ¬ (FrmOK c0 c1 c2 c3 45 c5 c6 45 c8 c9 32 c11 c12 58 c14 c15 ∧ Good (nY c0 c1 c2 c3) (nn c5 c6) (nn c8 c9) (nn c11 c12) (nn c14 c15)) := fun h => g2 ⟨h.1.2.2.2.2.2.2.2.2.1, h.1.2.2.2.2.2.2.2.2.2.1⟩
          rw [if_neg hn, if_neg g2, if_pos (c := (-1 : Int) < 1) (by omega)]
          simp only [ite_self]
      · have hn : ¬ (FrmOK c0 c1 c2 c3 45 c5 c6 45 c8 c9 32 c11 c12 58 c14 c15 ∧ Good (nY c0 c1 c2 c3) (nn c5 c6) (nn c8 c9) (nn c11 c12) (nn c14 c15)) := fun h => g1 ⟨h.1.2.2.2.2.2.1, h.1.2.2.2.2.2.2.1⟩
        rw [if_neg hn, if_neg g1, if_pos (c := (-1 : Int) < 1) (by omega)]
        simp only [ite_self]
    · have hn : ¬ (FrmOK c0 c1 c2 c3 45 c5 c6 45 c8 c9 32 c11 c12 58 c14 c15 ∧ Good (nY c0 c1 c2 c3) (nn c5 c6) (nn c8 c9) (nn c11 c12) (nn c14 c15)) := fun h => g0 ⟨h.1.1, h.1.2.1, h.1.2.2.1, h.1.2.2.2.1⟩
      rw [if_neg hn, if_neg g0, if_pos (c := (-1 : Int) < 0) (by omega)]
  · rw [show ((⟨#[c4, c7, c10, c13]⟩ : ByteArray).data.toList != ([45, 45, 32, 58] : List UInt8)) = true by rw [show (⟨#[c4, c7, c10, c13]⟩ : ByteArray).data.toList = [c4, c7, c10, c13] from rfl]; exact bne_iff_ne.2 hsep]
    simp only [hibernacleref48_Of.j0]
    rw [if_pos trivial, if_neg (fun g => hsep (by obtain ⟨-, -, -, -, rfl, -, -, rfl, -, -, rfl, -, -, rfl, -⟩ := g.1; rfl))]
end

/-- both packages read any text alike -/
theorem Of_same (s : ByteArray) : ∃ n b, ∀ k, 40000 ≤ k → day_Of.f k s = some (n, b) ∧ hibernacleref48_Of.f k s = some (n, b) ∧ (b = true → -20000000000 ≤ n ∧ n ≤ 20000000000 ∧ day_Text.f k n = some s) := by
  by_cases hs : s.size = 16
  · obtain ⟨c0, c1, c2, c3, c4, c5, c6, c7, c8, c9, c10, c11, c12, c13, c14, c15, rfl⟩ := sixteen hs
    by_cases h : FrmOK c0 c1 c2 c3 c4 c5 c6 c7 c8 c9 c10 c11 c12 c13 c14 c15
    · by_cases g : Good (nY c0 c1 c2 c3) (nn c5 c6) (nn c8 c9) (nn c11 c12) (nn c14 c15)
      · refine ⟨Min (nY c0 c1 c2 c3) (nn c5 c6) (nn c8 c9) (nn c11 c12) (nn c14 c15), true, fun k hk => ⟨?_, ?_, fun _ => ?_⟩⟩
        · rw [Of_ok _ _ _ _ _ _ _ _ _ _ _ _ _ _ _ _ h hk, if_pos g]
        · rw [rOf_eq _ _ _ _ _ _ _ _ _ _ _ _ _ _ _ _ hk, if_pos ⟨h, g⟩]
        · have h' := h
          obtain ⟨g0, g1, g2, g3, q4, g5, g6, q7, g8, g9, q10, g11, g12, q13, g14, g15⟩ := h'
          have bY := nY_bd g0 g1 g2 g3
          have bn := nn_bd g5 g6
          have bD := nn_bd g8 g9
          have bH := nn_bd g11 g12
          have bM := nn_bd g14 g15
          obtain ⟨q1, q2, q3, q4, q5, q6⟩ := g
          have mb := min_bd (H := nn c11 c12) (M := nn c14 c15) bY (n := nn c5 c6) (by omega) (by omega) (D := nn c8 c9) (by omega) (by omega) (by omega) (by omega)
          obtain ⟨e1, e2, e3⟩ := min_date ⟨q1, q2, q3, q4, q5, q6⟩ bH.1 bM.1
          obtain ⟨y, m, r, hd, hy1, hy2, hp, _⟩ := of_minute (a := Min (nY c0 c1 c2 c3) (nn c5 c6) (nn c8 c9) (nn c11 c12) (nn c14 c15)) (by omega) (by omega)
          have ht := Text_eq (by omega) (by omega) hd (k := k) (by omega) (hp k (by omega))
          obtain ⟨rfl, rfl, rfl⟩ := hd.uniq e3
          refine ⟨mb.1, mb.2, ?_⟩
          rw [ht, if_pos bY, e2, s_of _ _ _ _ _ _ _ _ _ _ _ _ _ _ _ _ h _ _ _ (by omega) (by omega) rfl q6]
      · refine ⟨0, false, fun k hk => ⟨?_, ?_, fun h => by cases h⟩⟩
        · rw [Of_ok _ _ _ _ _ _ _ _ _ _ _ _ _ _ _ _ h hk, if_neg g]
        · rw [rOf_eq _ _ _ _ _ _ _ _ _ _ _ _ _ _ _ _ hk, if_neg (fun q => g q.2)]
    · refine ⟨0, false, fun k hk => ⟨?_, ?_, fun h => by cases h⟩⟩
      · exact Of_bad _ _ _ _ _ _ _ _ _ _ _ _ _ _ _ _ h hk
      · rw [rOf_eq _ _ _ _ _ _ _ _ _ _ _ _ _ _ _ _ hk, if_neg (fun q => h q.1)]
  · refine ⟨0, false, fun k hk => ⟨?_, ?_, fun h => by cases h⟩⟩
    · unfold day_Of.f
      rw [if_neg (by omega)]
    · obtain ⟨k, rfl⟩ : ∃ j, k = j + 1 := ⟨k - 1, by omega⟩
      unfold hibernacleref48_Of.f
      rw [if_neg (by omega)]
      simp only [hibernacleref48_Of.j0]
      rw [if_pos trivial]

end Go.Proofs.Ytnanhempikhknaa.Cal
