-- Made by wip/hp/hp.py (the kit's print, with functions proved by hand put in).
import Derived.Test.YtnanhempikhknaaDx0
import Derived.Test.YtnanhempikhknaaDx1
import Derived.Test.YtnanhempikhknaaDx2
namespace Go.Proofs.Ytnanhempikhknaa.D
open Go.RowKit Go.Proofs.YtnanhempikhknaaW.PrintWords Go.Proofs.YtnanhempikhknaaW.PrintLast Go.Proofs.YtnanhempikhknaaW.PrintMore
attribute [local go_sem] max2_int min2_int max_two min_two max_three min_three max_four min_four   -- for this text's walks alone
set_option linter.unusedVariables false
set_option linter.unusedSimpArgs false

/-! ### day_Of: function 12 -/
mutual
def day_Of.l0 : Nat → ByteArray → Int → Int → Option (Int × Bool)
  | 0, _, _, _ => none
  | k + 1, x0, x19, x20 => if x20 < x19 then (if 0 ≤ x20 then (if x20 < (x0.size : Int) then (if (bt x0 x20) ≥ 48 then (if x20 < 16 then (if ((decide ((bt x0 x20) ≤ 57)) != ((bt (⟨#[48, 48, 48, 48, 45, 48, 48, 45, 48, 48, 32, 48, 48, 58, 48, 48]⟩ : ByteArray) x20) == 48)) = true then (some (0, false)) else (if ((bt x0 x20) ≤ 57) then (day_Of.l0 k x0 x19 (wrap64 (x20 + 1))) else (if (bt x0 x20) = (bt (⟨#[48, 48, 48, 48, 45, 48, 48, 45, 48, 48, 32, 48, 48, 58, 48, 48]⟩ : ByteArray) x20) then (day_Of.l0 k x0 x19 (wrap64 (x20 + 1))) else (some (0, false))))) else (none)) else (if x20 < 16 then (if (false != ((bt (⟨#[48, 48, 48, 48, 45, 48, 48, 45, 48, 48, 32, 48, 48, 58, 48, 48]⟩ : ByteArray) x20) == 48)) = true then (some (0, false)) else (if (bt x0 x20) = (bt (⟨#[48, 48, 48, 48, 45, 48, 48, 45, 48, 48, 32, 48, 48, 58, 48, 48]⟩ : ByteArray) x20) then (day_Of.l0 k x0 x19 (wrap64 (x20 + 1))) else (some (0, false)))) else (none))) else (none)) else (none)) else (if 0 ≤ 4 then (if 4 ≤ (x0.size : Int) then ((day_number.f k (x0.extract 0 4)).bind fun t148 => (if 5 ≤ 7 then (if 7 ≤ (x0.size : Int) then ((day_number.f k (x0.extract 5 7)).bind fun t149 => (if 8 ≤ 10 then (if 10 ≤ (x0.size : Int) then ((day_number.f k (x0.extract 8 10)).bind fun t150 => (if (wrap64 (t149 - 1)) < 0 then (day_Of.j1 k x0 t148 (wrap64 (t149 - 1)) (wrap64 (t150 - 1)) true) else (if (wrap64 (t149 - 1)) > 11 then (day_Of.j1 k x0 t148 (wrap64 (t149 - 1)) (wrap64 (t150 - 1)) true) else (if (wrap64 (t150 - 1)) < 0 then (day_Of.j1 k x0 t148 (wrap64 (t149 - 1)) (wrap64 (t150 - 1)) true) else ((day_length.f t148 (wrap64 (t149 - 1))).bind fun t151 => (day_Of.j1 k x0 t148 (wrap64 (t149 - 1)) (wrap64 (t150 - 1)) (decide ((wrap64 (t150 - 1)) ≥ t151)))))))) else (none)) else (none))) else (none)) else (none))) else (none)) else (none))
def day_Of.j1 : Nat → ByteArray → Int → Int → Int → Bool → Option (Int × Bool)
  | 0, _, _, _, _, _ => none
  | k + 1, x0, x6, x7, x8, x78 => if x78 = true then (some (0, false)) else ((day_below.f (wrap64 (x6 - 2000)) 400).bind fun bt152 => (day_Of.l1 k x0 x6 x7 (wrap64 ((wrap64 (bt152.1 * 146097)) + x8)) bt152.2 0))
def day_Of.l1 : Nat → ByteArray → Int → Int → Int → Int → Int → Option (Int × Bool)
  | 0, _, _, _, _, _, _ => none
  | k + 1, x0, x6, x7, x11, x89, x90 => if x90 < x89 then ((day_leap.f (wrap64 (2000 + x90))).bind fun t154 => (if t154 = true then (day_Of.l1 k x0 x6 x7 (wrap64 ((wrap64 (x11 + 365)) + 1)) x89 (wrap64 (x90 + 1))) else (day_Of.l1 k x0 x6 x7 (wrap64 (x11 + 365)) x89 (wrap64 (x90 + 1))))) else (day_Of.l2 k x0 x6 x11 x7 0)
def day_Of.l2 : Nat → ByteArray → Int → Int → Int → Int → Option (Int × Bool)
  | 0, _, _, _, _, _ => none
  | k + 1, x0, x6, x11, x101, x102 => if x102 < x101 then ((day_length.f x6 x102).bind fun t155 => (day_Of.l2 k x0 x6 (wrap64 (x11 + t155)) x101 (wrap64 (x102 + 1)))) else (if 11 ≤ 13 then (if 13 ≤ (x0.size : Int) then ((day_number.f k (x0.extract 11 13)).bind fun t156 => (if 14 ≤ (x0.size : Int) then ((day_number.f k (x0.extract 14 x0.size)).bind fun t157 => ((day_Text.f k (wrap64 ((wrap64 ((wrap64 (x11 * 1440)) + (wrap64 (t156 * 60)))) + t157))).bind fun t158 => (if t158.toList = x0.toList then (some (wrap64 ((wrap64 ((wrap64 (x11 * 1440)) + (wrap64 (t156 * 60)))) + t157), true)) else (some (0, false))))) else (none))) else (none)) else (none))
end
def day_Of.f (k : Nat) (a0 : ByteArray) : Option (Int × Bool) := if (a0.size : Int) = 16 then (day_Of.l0 k a0 (a0.size : Int) 0) else (some (0, false))
theorem day_Of.mono_l : ∀ k, (∀ y0 y1 y2, LeO (day_Of.l0 k y0 y1 y2) (day_Of.l0 (k + 1) y0 y1 y2)) ∧ (∀ y0 y1 y2 y3 y4, LeO (day_Of.j1 k y0 y1 y2 y3 y4) (day_Of.j1 (k + 1) y0 y1 y2 y3 y4)) ∧ (∀ y0 y1 y2 y3 y4 y5, LeO (day_Of.l1 k y0 y1 y2 y3 y4 y5) (day_Of.l1 (k + 1) y0 y1 y2 y3 y4 y5)) ∧ (∀ y0 y1 y2 y3 y4, LeO (day_Of.l2 k y0 y1 y2 y3 y4) (day_Of.l2 (k + 1) y0 y1 y2 y3 y4))
  | 0 => ⟨fun _ _ _ r h => by simp [day_Of.l0] at h, fun _ _ _ _ _ r h => by simp [day_Of.j1] at h, fun _ _ _ _ _ _ r h => by simp [day_Of.l1] at h, fun _ _ _ _ _ r h => by simp [day_Of.l2] at h⟩
  | k + 1 => by
    obtain ⟨ih0, ih1, ih2, ih3⟩ := day_Of.mono_l k
    refine ⟨?_, ?_, ?_, ?_⟩
    · intro y0 y1 y2
      unfold day_Of.l0
      repeat' first
      | (with_reducible exact ih0 _ _ _)
      | (with_reducible exact ih1 _ _ _ _ _)
      | (with_reducible exact ih2 _ _ _ _ _ _)
      | (with_reducible exact ih3 _ _ _ _ _)
      | (with_reducible exact day_Text.mono _ _)
      | (with_reducible exact day_number.mono _ _)
      | (with_reducible exact LeO.refl _)
      | (with_reducible exact LeO.none _)
      | (with_reducible refine LeO.ite ?_ ?_)
      | (with_reducible refine LeO.bind ?_ (fun _ => ?_))
      | exact ih0 _ _ _
      | exact ih1 _ _ _ _ _
      | exact ih2 _ _ _ _ _ _
      | exact ih3 _ _ _ _ _
      | exact day_Text.mono _ _
      | exact day_number.mono _ _
      | exact LeO.none _
      | refine LeO.ite ?_ ?_
      | refine LeO.bind ?_ (fun _ => ?_)
    · intro y0 y1 y2 y3 y4
      unfold day_Of.j1
      repeat' first
      | (with_reducible exact ih0 _ _ _)
      | (with_reducible exact ih1 _ _ _ _ _)
      | (with_reducible exact ih2 _ _ _ _ _ _)
      | (with_reducible exact ih3 _ _ _ _ _)
      | (with_reducible exact day_Text.mono _ _)
      | (with_reducible exact day_number.mono _ _)
      | (with_reducible exact LeO.refl _)
      | (with_reducible exact LeO.none _)
      | (with_reducible refine LeO.ite ?_ ?_)
      | (with_reducible refine LeO.bind ?_ (fun _ => ?_))
      | exact ih0 _ _ _
      | exact ih1 _ _ _ _ _
      | exact ih2 _ _ _ _ _ _
      | exact ih3 _ _ _ _ _
      | exact day_Text.mono _ _
      | exact day_number.mono _ _
      | exact LeO.none _
      | refine LeO.ite ?_ ?_
      | refine LeO.bind ?_ (fun _ => ?_)
    · intro y0 y1 y2 y3 y4 y5
      unfold day_Of.l1
      repeat' first
      | (with_reducible exact ih0 _ _ _)
      | (with_reducible exact ih1 _ _ _ _ _)
      | (with_reducible exact ih2 _ _ _ _ _ _)
      | (with_reducible exact ih3 _ _ _ _ _)
      | (with_reducible exact day_Text.mono _ _)
      | (with_reducible exact day_number.mono _ _)
      | (with_reducible exact LeO.refl _)
      | (with_reducible exact LeO.none _)
      | (with_reducible refine LeO.ite ?_ ?_)
      | (with_reducible refine LeO.bind ?_ (fun _ => ?_))
      | exact ih0 _ _ _
      | exact ih1 _ _ _ _ _
      | exact ih2 _ _ _ _ _ _
      | exact ih3 _ _ _ _ _
      | exact day_Text.mono _ _
      | exact day_number.mono _ _
      | exact LeO.none _
      | refine LeO.ite ?_ ?_
      | refine LeO.bind ?_ (fun _ => ?_)
    · intro y0 y1 y2 y3 y4
      unfold day_Of.l2
      repeat' first
      | (with_reducible exact ih0 _ _ _)
      | (with_reducible exact ih1 _ _ _ _ _)
      | (with_reducible exact ih2 _ _ _ _ _ _)
      | (with_reducible exact ih3 _ _ _ _ _)
      | (with_reducible exact day_Text.mono _ _)
      | (with_reducible exact day_number.mono _ _)
      | (with_reducible exact LeO.refl _)
      | (with_reducible exact LeO.none _)
      | (with_reducible refine LeO.ite ?_ ?_)
      | (with_reducible refine LeO.bind ?_ (fun _ => ?_))
      | exact ih0 _ _ _
      | exact ih1 _ _ _ _ _
      | exact ih2 _ _ _ _ _ _
      | exact ih3 _ _ _ _ _
      | exact day_Text.mono _ _
      | exact day_number.mono _ _
      | exact LeO.none _
      | refine LeO.ite ?_ ?_
      | refine LeO.bind ?_ (fun _ => ?_)
theorem day_Of.mono : ∀ a0 k, LeO (day_Of.f k a0) (day_Of.f (k + 1) a0) := by
  intro a0 k
  obtain ⟨ih0, ih1, ih2, ih3⟩ := day_Of.mono_l k
  unfold day_Of.f
  repeat' first
      | (with_reducible exact ih0 _ _ _)
      | (with_reducible exact ih1 _ _ _ _ _)
      | (with_reducible exact ih2 _ _ _ _ _ _)
      | (with_reducible exact ih3 _ _ _ _ _)
      | (with_reducible exact day_Text.mono _ _)
      | (with_reducible exact day_number.mono _ _)
      | (with_reducible exact LeO.refl _)
      | (with_reducible exact LeO.none _)
      | (with_reducible refine LeO.ite ?_ ?_)
      | (with_reducible refine LeO.bind ?_ (fun _ => ?_))
      | exact ih0 _ _ _
      | exact ih1 _ _ _ _ _
      | exact ih2 _ _ _ _ _ _
      | exact ih3 _ _ _ _ _
      | exact day_Text.mono _ _
      | exact day_number.mono _ _
      | exact LeO.none _
      | refine LeO.ite ?_ ?_
      | refine LeO.bind ?_ (fun _ => ?_)
set_option maxHeartbeats 8000000 in
set_option maxRecDepth 100000 in
theorem day_Of.calls (k : Nat) (a0 : ByteArray) (r1 : Int) (r2 : Bool) (w : World) (h : day_Of.f k a0 = some (r1, r2)) :
    Calls Try.prog 12 #[.string a0] w fun e w' => e = .returned (.tuple #[.int .i64 r1, .bool r2]) ∧ Below w.heap.size w w' := by
  have HB := Aside0.mk (Below.refl w.heap.size w)
  have H : (if (a0.size : Int) = 16 then (day_Of.l0 k a0 (a0.size : Int) 0) else (some (0, false))) = some (r1, r2) := h
  clear h
  by_cases c2 : (a0.size : Int) = 16
  · rw [if_pos c2] at H
    have c2b0 : ((a0.size : Int) == 16) = true := beq_iff_eq.mpr c2
    have c2b1 : ((a0.size : Int) != 16) = false := bne_eq_false_iff_eq.mpr c2
    clear c2
    have H' := Aside0.mk H
    clear H
    go_enter Try.func12, Try.ntmps12
    go_wp2
    repeat (go_quiet (fail); try go_wp2)
    go_loopg [20] k (fun kq v20 w' => ∃ (x20_1 : Int), v20 = .int .i64 x20_1 ∧ Aside0 (day_Of.l0 kq a0 (a0.size : Int) x20_1 = some (r1, r2)) ∧ Aside0 (kq ≤ k) ∧ Aside0 (Below w.heap.size w w'))
    case atStart => exact ⟨(0), (by first | rfl | (simp; done) | (simp [*]; done)), H', ⟨Nat.le_refl _⟩, ⟨by repeat (first | (with_reducible first | exact HB.out | apply below_alloc | apply pw_below_drewN | apply below_drew1) | exact HB.out)⟩⟩
    case round =>
      clear H'
      try clear c1
      try clear c2
      try clear c2b0
      try clear c2b1
      try clear p2
      obtain ⟨x20_1, rfl, HA, HK1, HB⟩ := hrel
      cases gk with
      | zero => exact absurd HA.out (by simp [day_Of.l0])
      | succ k1 =>
        have H := HA.out
        clear HA
        simp only [day_Of.l0] at H
        by_cases c3 : x20_1 < (a0.size : Int)
        · rw [if_pos c3] at H
          have c3b0 : decide (x20_1 < (a0.size : Int)) = true := decide_eq_true c3
          clear c3
          by_cases c4 : 0 ≤ x20_1
          · rw [if_pos c4] at H
            have c4b0 : decide (0 ≤ x20_1) = true := decide_eq_true c4
            clear c4
            by_cases c5 : x20_1 < (a0.size : Int)
            · rw [if_pos c5] at H
              have c5b0 : decide (x20_1 < (a0.size : Int)) = true := decide_eq_true c5
              clear c5
              by_cases c7 : (bt a0 x20_1) ≥ 48
              · rw [if_pos c7] at H
                have c7b0 : decide (48 ≤ (bt a0 x20_1)) = true := decide_eq_true c7
                clear c7
                by_cases c9 : x20_1 < 16
                · rw [if_pos c9] at H
                  have c9b0 : decide (x20_1 < 16) = true := decide_eq_true c9
                  clear c9
                  by_cases c11 : ((decide ((bt a0 x20_1) ≤ 57)) != ((bt (⟨#[48, 48, 48, 48, 45, 48, 48, 45, 48, 48, 32, 48, 48, 58, 48, 48]⟩ : ByteArray) x20_1) == 48)) = true
                  · rw [if_pos c11] at H
                    have c11b0 : ((decide ((bt a0 x20_1) ≤ 57)) != ((bt (⟨#[48, 48, 48, 48, 45, 48, 48, 45, 48, 48, 32, 48, 48, 58, 48, 48]⟩ : ByteArray) x20_1) == 48)) = true := c11
                    (try (have c11b1 : decide ((decide ((bt a0 x20_1) ≤ 57)) = ((bt (⟨#[48, 48, 48, 48, 45, 48, 48, 45, 48, 48, 32, 48, 48, 58, 48, 48]⟩ : ByteArray) x20_1) == 48)) = false := by simpa using c11))
                    (try (have c11b2 : ((decide ((bt a0 x20_1) ≤ 57)) == ((bt (⟨#[48, 48, 48, 48, 45, 48, 48, 45, 48, 48, 32, 48, 48, 58, 48, 48]⟩ : ByteArray) x20_1) == 48)) = false := by simpa using c11))
                    (try (have c11b3 : ¬ ((decide ((bt a0 x20_1) ≤ 57)) = ((bt (⟨#[48, 48, 48, 48, 45, 48, 48, 45, 48, 48, 32, 48, 48, 58, 48, 48]⟩ : ByteArray) x20_1) == 48)) := by simpa using c11))
                    clear c11
                    simp only [Option.some.injEq, Prod.mk.injEq] at H
                    obtain ⟨rfl, rfl⟩ := H
                    have p6 : 0 ≤ (x20_1 : Int) := of_decide_eq_true (by first | (with_reducible assumption) | assumption)
                    have q6 : x20_1 < (a0.size : Int) := of_decide_eq_true (by first | (with_reducible assumption) | assumption)
                    have hx6 := bt_at a0 x20_1
                    replace p6 := eq_true p6
                    replace q6 := eq_true q6
                    have p8 : 0 ≤ (x20_1 : Int) := of_decide_eq_true (by first | (with_reducible assumption) | assumption)
                    have q8 : x20_1 < (a0.size : Int) := of_decide_eq_true (by first | (with_reducible assumption) | assumption)
                    have hx8 := bt_at a0 x20_1
                    replace p8 := eq_true p8
                    replace q8 := eq_true q8
                    have p10 : 0 ≤ (x20_1 : Int) := of_decide_eq_true (by first | (with_reducible assumption) | assumption)
                    have q10 : x20_1 < (16 : Int) := of_decide_eq_true (by first | (with_reducible assumption) | assumption)
                    have hx10 := bt_at (⟨#[48, 48, 48, 48, 45, 48, 48, 45, 48, 48, 32, 48, 48, 58, 48, 48]⟩ : ByteArray) x20_1
                    replace p10 := eq_true p10
                    replace q10 := eq_true q10
                    go_wp2
                    repeat (go_quiet (fail); try go_wp2)
                    go_ret2
                    exact ⟨by first | rfl | (simp [errW_none, errW_some] <;> rfl) | (simp [*, errW_none, errW_some] <;> rfl), by repeat (first | (with_reducible first | exact HB.out | apply below_alloc | apply pw_below_drewN | apply below_drew1) | exact HB.out)⟩
                  · rw [if_neg c11] at H
                    have c11b0 : ((decide ((bt a0 x20_1) ≤ 57)) != ((bt (⟨#[48, 48, 48, 48, 45, 48, 48, 45, 48, 48, 32, 48, 48, 58, 48, 48]⟩ : ByteArray) x20_1) == 48)) = false := by simpa using c11
                    (try (have c11b1 : decide ((decide ((bt a0 x20_1) ≤ 57)) = ((bt (⟨#[48, 48, 48, 48, 45, 48, 48, 45, 48, 48, 32, 48, 48, 58, 48, 48]⟩ : ByteArray) x20_1) == 48)) = true := by simpa using c11))
                    (try (have c11b2 : ((decide ((bt a0 x20_1) ≤ 57)) == ((bt (⟨#[48, 48, 48, 48, 45, 48, 48, 45, 48, 48, 32, 48, 48, 58, 48, 48]⟩ : ByteArray) x20_1) == 48)) = true := by simpa using c11))
                    clear c11
                    by_cases c12 : ((bt a0 x20_1) ≤ 57)
                    · rw [if_pos c12] at H
                      have c12b0 : decide ((bt a0 x20_1) ≤ 57) = true := decide_eq_true c12
                      have c11e_ : ((bt (⟨#[48, 48, 48, 48, 45, 48, 48, 45, 48, 48, 32, 48, 48, 58, 48, 48]⟩ : ByteArray) x20_1) == 48) = true := by have z_ := c11b0; rw [c12b0] at z_; simpa using z_
                      clear c12
                      have H' := Aside0.mk H
                      clear H
                      have p6 : 0 ≤ (x20_1 : Int) := of_decide_eq_true (by first | (with_reducible assumption) | assumption)
                      have q6 : x20_1 < (a0.size : Int) := of_decide_eq_true (by first | (with_reducible assumption) | assumption)
                      have hx6 := bt_at a0 x20_1
                      replace p6 := eq_true p6
                      replace q6 := eq_true q6
                      have p8 : 0 ≤ (x20_1 : Int) := of_decide_eq_true (by first | (with_reducible assumption) | assumption)
                      have q8 : x20_1 < (a0.size : Int) := of_decide_eq_true (by first | (with_reducible assumption) | assumption)
                      have hx8 := bt_at a0 x20_1
                      replace p8 := eq_true p8
                      replace q8 := eq_true q8
                      have p10 : 0 ≤ (x20_1 : Int) := of_decide_eq_true (by first | (with_reducible assumption) | assumption)
                      have q10 : x20_1 < (16 : Int) := of_decide_eq_true (by first | (with_reducible assumption) | assumption)
                      have hx10 := bt_at (⟨#[48, 48, 48, 48, 45, 48, 48, 45, 48, 48, 32, 48, 48, 58, 48, 48]⟩ : ByteArray) x20_1
                      replace p10 := eq_true p10
                      replace q10 := eq_true q10
                      go_wp2
                      repeat (go_quiet (fail); try go_wp2)
                      go_roundg k1
                      case measure => have := HK1.out; omega
                      case rel => exact ⟨(wrap64 (x20_1 + 1)), (by first | rfl | (simp; done) | (simp [*]; done)), H', ⟨by have := HK1.out; omega⟩, ⟨by repeat (first | (with_reducible first | exact HB.out | apply below_alloc | apply pw_below_drewN | apply below_drew1) | exact HB.out)⟩⟩
                    · rw [if_neg c12] at H
                      have c12b0 : decide ((bt a0 x20_1) ≤ 57) = false := decide_eq_false c12
                      have c11e_ : ((bt (⟨#[48, 48, 48, 48, 45, 48, 48, 45, 48, 48, 32, 48, 48, 58, 48, 48]⟩ : ByteArray) x20_1) == 48) = false := by have z_ := c11b0; rw [c12b0] at z_; simpa using z_
                      clear c12
                      by_cases c15 : (bt a0 x20_1) = (bt (⟨#[48, 48, 48, 48, 45, 48, 48, 45, 48, 48, 32, 48, 48, 58, 48, 48]⟩ : ByteArray) x20_1)
                      · rw [if_pos c15] at H
                        have c15b0 : ((bt a0 x20_1) == (bt (⟨#[48, 48, 48, 48, 45, 48, 48, 45, 48, 48, 32, 48, 48, 58, 48, 48]⟩ : ByteArray) x20_1)) = true := beq_iff_eq.mpr c15
                        have c15b1 : ((bt a0 x20_1) != (bt (⟨#[48, 48, 48, 48, 45, 48, 48, 45, 48, 48, 32, 48, 48, 58, 48, 48]⟩ : ByteArray) x20_1)) = false := bne_eq_false_iff_eq.mpr c15
                        clear c15
                        have H' := Aside0.mk H
                        clear H
                        have p6 : 0 ≤ (x20_1 : Int) := of_decide_eq_true (by first | (with_reducible assumption) | assumption)
                        have q6 : x20_1 < (a0.size : Int) := of_decide_eq_true (by first | (with_reducible assumption) | assumption)
                        have hx6 := bt_at a0 x20_1
                        replace p6 := eq_true p6
                        replace q6 := eq_true q6
                        have p8 : 0 ≤ (x20_1 : Int) := of_decide_eq_true (by first | (with_reducible assumption) | assumption)
                        have q8 : x20_1 < (a0.size : Int) := of_decide_eq_true (by first | (with_reducible assumption) | assumption)
                        have hx8 := bt_at a0 x20_1
                        replace p8 := eq_true p8
                        replace q8 := eq_true q8
                        have p10 : 0 ≤ (x20_1 : Int) := of_decide_eq_true (by first | (with_reducible assumption) | assumption)
                        have q10 : x20_1 < (16 : Int) := of_decide_eq_true (by first | (with_reducible assumption) | assumption)
                        have hx10 := bt_at (⟨#[48, 48, 48, 48, 45, 48, 48, 45, 48, 48, 32, 48, 48, 58, 48, 48]⟩ : ByteArray) x20_1
                        replace p10 := eq_true p10
                        replace q10 := eq_true q10
                        have p13 : 0 ≤ (x20_1 : Int) := of_decide_eq_true (by first | (with_reducible assumption) | assumption)
                        have q13 : x20_1 < (a0.size : Int) := of_decide_eq_true (by first | (with_reducible assumption) | assumption)
                        have hx13 := bt_at a0 x20_1
                        replace p13 := eq_true p13
                        replace q13 := eq_true q13
                        have p14 : 0 ≤ (x20_1 : Int) := of_decide_eq_true (by first | (with_reducible assumption) | assumption)
                        have q14 : x20_1 < (16 : Int) := of_decide_eq_true (by first | (with_reducible assumption) | assumption)
                        have hx14 := bt_at (⟨#[48, 48, 48, 48, 45, 48, 48, 45, 48, 48, 32, 48, 48, 58, 48, 48]⟩ : ByteArray) x20_1
                        replace p14 := eq_true p14
                        replace q14 := eq_true q14
                        go_wp2
                        repeat (go_quiet (fail); try go_wp2)
                        go_roundg k1
                        case measure => have := HK1.out; omega
                        case rel => exact ⟨(wrap64 (x20_1 + 1)), (by first | rfl | (simp; done) | (simp [*]; done)), H', ⟨by have := HK1.out; omega⟩, ⟨by repeat (first | (with_reducible first | exact HB.out | apply below_alloc | apply pw_below_drewN | apply below_drew1) | exact HB.out)⟩⟩
                      · rw [if_neg c15] at H
                        have c15b0 : ((bt a0 x20_1) == (bt (⟨#[48, 48, 48, 48, 45, 48, 48, 45, 48, 48, 32, 48, 48, 58, 48, 48]⟩ : ByteArray) x20_1)) = false := beq_eq_false_iff_ne.mpr c15
                        have c15b1 : ((bt a0 x20_1) != (bt (⟨#[48, 48, 48, 48, 45, 48, 48, 45, 48, 48, 32, 48, 48, 58, 48, 48]⟩ : ByteArray) x20_1)) = true := bne_iff_ne.mpr c15
                        simp only [Option.some.injEq, Prod.mk.injEq] at H
                        obtain ⟨rfl, rfl⟩ := H
                        have p6 : 0 ≤ (x20_1 : Int) := of_decide_eq_true (by first | (with_reducible assumption) | assumption)
                        have q6 : x20_1 < (a0.size : Int) := of_decide_eq_true (by first | (with_reducible assumption) | assumption)
                        have hx6 := bt_at a0 x20_1
                        replace p6 := eq_true p6
                        replace q6 := eq_true q6
                        have p8 : 0 ≤ (x20_1 : Int) := of_decide_eq_true (by first | (with_reducible assumption) | assumption)
                        have q8 : x20_1 < (a0.size : Int) := of_decide_eq_true (by first | (with_reducible assumption) | assumption)
                        have hx8 := bt_at a0 x20_1
                        replace p8 := eq_true p8
                        replace q8 := eq_true q8
                        have p10 : 0 ≤ (x20_1 : Int) := of_decide_eq_true (by first | (with_reducible assumption) | assumption)
                        have q10 : x20_1 < (16 : Int) := of_decide_eq_true (by first | (with_reducible assumption) | assumption)
                        have hx10 := bt_at (⟨#[48, 48, 48, 48, 45, 48, 48, 45, 48, 48, 32, 48, 48, 58, 48, 48]⟩ : ByteArray) x20_1
                        replace p10 := eq_true p10
                        replace q10 := eq_true q10
                        have p13 : 0 ≤ (x20_1 : Int) := of_decide_eq_true (by first | (with_reducible assumption) | assumption)
                        have q13 : x20_1 < (a0.size : Int) := of_decide_eq_true (by first | (with_reducible assumption) | assumption)
                        have hx13 := bt_at a0 x20_1
                        replace p13 := eq_true p13
                        replace q13 := eq_true q13
                        have p14 : 0 ≤ (x20_1 : Int) := of_decide_eq_true (by first | (with_reducible assumption) | assumption)
                        have q14 : x20_1 < (16 : Int) := of_decide_eq_true (by first | (with_reducible assumption) | assumption)
                        have hx14 := bt_at (⟨#[48, 48, 48, 48, 45, 48, 48, 45, 48, 48, 32, 48, 48, 58, 48, 48]⟩ : ByteArray) x20_1
                        replace p14 := eq_true p14
                        replace q14 := eq_true q14
                        go_wp2
                        repeat (go_quiet (fail); try go_wp2)
                        go_ret2
                        exact ⟨by first | rfl | (simp [errW_none, errW_some] <;> rfl) | (simp [*, errW_none, errW_some] <;> rfl), by repeat (first | (with_reducible first | exact HB.out | apply below_alloc | apply pw_below_drewN | apply below_drew1) | exact HB.out)⟩
                · rw [if_neg c9] at H
                  exact absurd H (by simp)
              · rw [if_neg c7] at H
                have c7b0 : decide (48 ≤ (bt a0 x20_1)) = false := decide_eq_false c7
                clear c7
                by_cases c16 : x20_1 < 16
                · rw [if_pos c16] at H
                  have c16b0 : decide (x20_1 < 16) = true := decide_eq_true c16
                  clear c16
                  by_cases c18 : (false != ((bt (⟨#[48, 48, 48, 48, 45, 48, 48, 45, 48, 48, 32, 48, 48, 58, 48, 48]⟩ : ByteArray) x20_1) == 48)) = true
                  · rw [if_pos c18] at H
                    have c18b0 : (false != ((bt (⟨#[48, 48, 48, 48, 45, 48, 48, 45, 48, 48, 32, 48, 48, 58, 48, 48]⟩ : ByteArray) x20_1) == 48)) = true := c18
                    have c18e_ : ((bt (⟨#[48, 48, 48, 48, 45, 48, 48, 45, 48, 48, 32, 48, 48, 58, 48, 48]⟩ : ByteArray) x20_1) == 48) = true := by have z_ := c18b0; simpa using z_
                    (try (have c18b1 : decide (false = ((bt (⟨#[48, 48, 48, 48, 45, 48, 48, 45, 48, 48, 32, 48, 48, 58, 48, 48]⟩ : ByteArray) x20_1) == 48)) = false := by simpa using c18))
                    (try (have c18b2 : (false == ((bt (⟨#[48, 48, 48, 48, 45, 48, 48, 45, 48, 48, 32, 48, 48, 58, 48, 48]⟩ : ByteArray) x20_1) == 48)) = false := by simpa using c18))
                    (try (have c18b3 : ¬ (false = ((bt (⟨#[48, 48, 48, 48, 45, 48, 48, 45, 48, 48, 32, 48, 48, 58, 48, 48]⟩ : ByteArray) x20_1) == 48)) := by simpa using c18))
                    clear c18
                    simp only [Option.some.injEq, Prod.mk.injEq] at H
                    obtain ⟨rfl, rfl⟩ := H
                    have p6 : 0 ≤ (x20_1 : Int) := of_decide_eq_true (by first | (with_reducible assumption) | assumption)
                    have q6 : x20_1 < (a0.size : Int) := of_decide_eq_true (by first | (with_reducible assumption) | assumption)
                    have hx6 := bt_at a0 x20_1
                    replace p6 := eq_true p6
                    replace q6 := eq_true q6
                    have p17 : 0 ≤ (x20_1 : Int) := of_decide_eq_true (by first | (with_reducible assumption) | assumption)
                    have q17 : x20_1 < (16 : Int) := of_decide_eq_true (by first | (with_reducible assumption) | assumption)
                    have hx17 := bt_at (⟨#[48, 48, 48, 48, 45, 48, 48, 45, 48, 48, 32, 48, 48, 58, 48, 48]⟩ : ByteArray) x20_1
                    replace p17 := eq_true p17
                    replace q17 := eq_true q17
                    go_wp2
                    repeat (go_quiet (fail); try go_wp2)
                    go_ret2
                    exact ⟨by first | rfl | (simp [errW_none, errW_some] <;> rfl) | (simp [*, errW_none, errW_some] <;> rfl), by repeat (first | (with_reducible first | exact HB.out | apply below_alloc | apply pw_below_drewN | apply below_drew1) | exact HB.out)⟩
                  · rw [if_neg c18] at H
                    have c18b0 : (false != ((bt (⟨#[48, 48, 48, 48, 45, 48, 48, 45, 48, 48, 32, 48, 48, 58, 48, 48]⟩ : ByteArray) x20_1) == 48)) = false := by simpa using c18
                    have c18e_ : ((bt (⟨#[48, 48, 48, 48, 45, 48, 48, 45, 48, 48, 32, 48, 48, 58, 48, 48]⟩ : ByteArray) x20_1) == 48) = false := by have z_ := c18b0; simpa using z_
                    (try (have c18b1 : decide (false = ((bt (⟨#[48, 48, 48, 48, 45, 48, 48, 45, 48, 48, 32, 48, 48, 58, 48, 48]⟩ : ByteArray) x20_1) == 48)) = true := by simpa using c18))
                    (try (have c18b2 : (false == ((bt (⟨#[48, 48, 48, 48, 45, 48, 48, 45, 48, 48, 32, 48, 48, 58, 48, 48]⟩ : ByteArray) x20_1) == 48)) = true := by simpa using c18))
                    clear c18
                    by_cases c21 : (bt a0 x20_1) = (bt (⟨#[48, 48, 48, 48, 45, 48, 48, 45, 48, 48, 32, 48, 48, 58, 48, 48]⟩ : ByteArray) x20_1)
                    · rw [if_pos c21] at H
                      have c21b0 : ((bt a0 x20_1) == (bt (⟨#[48, 48, 48, 48, 45, 48, 48, 45, 48, 48, 32, 48, 48, 58, 48, 48]⟩ : ByteArray) x20_1)) = true := beq_iff_eq.mpr c21
                      have c21b1 : ((bt a0 x20_1) != (bt (⟨#[48, 48, 48, 48, 45, 48, 48, 45, 48, 48, 32, 48, 48, 58, 48, 48]⟩ : ByteArray) x20_1)) = false := bne_eq_false_iff_eq.mpr c21
                      clear c21
                      have H' := Aside0.mk H
                      clear H
                      have p6 : 0 ≤ (x20_1 : Int) := of_decide_eq_true (by first | (with_reducible assumption) | assumption)
                      have q6 : x20_1 < (a0.size : Int) := of_decide_eq_true (by first | (with_reducible assumption) | assumption)
                      have hx6 := bt_at a0 x20_1
                      replace p6 := eq_true p6
                      replace q6 := eq_true q6
                      have p17 : 0 ≤ (x20_1 : Int) := of_decide_eq_true (by first | (with_reducible assumption) | assumption)
                      have q17 : x20_1 < (16 : Int) := of_decide_eq_true (by first | (with_reducible assumption) | assumption)
                      have hx17 := bt_at (⟨#[48, 48, 48, 48, 45, 48, 48, 45, 48, 48, 32, 48, 48, 58, 48, 48]⟩ : ByteArray) x20_1
                      replace p17 := eq_true p17
                      replace q17 := eq_true q17
                      have p19 : 0 ≤ (x20_1 : Int) := of_decide_eq_true (by first | (with_reducible assumption) | assumption)
                      have q19 : x20_1 < (a0.size : Int) := of_decide_eq_true (by first | (with_reducible assumption) | assumption)
                      have hx19 := bt_at a0 x20_1
                      replace p19 := eq_true p19
                      replace q19 := eq_true q19
                      have p20 : 0 ≤ (x20_1 : Int) := of_decide_eq_true (by first | (with_reducible assumption) | assumption)
                      have q20 : x20_1 < (16 : Int) := of_decide_eq_true (by first | (with_reducible assumption) | assumption)
                      have hx20 := bt_at (⟨#[48, 48, 48, 48, 45, 48, 48, 45, 48, 48, 32, 48, 48, 58, 48, 48]⟩ : ByteArray) x20_1
                      replace p20 := eq_true p20
                      replace q20 := eq_true q20
                      go_wp2
                      repeat (go_quiet (fail); try go_wp2)
                      go_roundg k1
                      case measure => have := HK1.out; omega
                      case rel => exact ⟨(wrap64 (x20_1 + 1)), (by first | rfl | (simp; done) | (simp [*]; done)), H', ⟨by have := HK1.out; omega⟩, ⟨by repeat (first | (with_reducible first | exact HB.out | apply below_alloc | apply pw_below_drewN | apply below_drew1) | exact HB.out)⟩⟩
                    · rw [if_neg c21] at H
                      have c21b0 : ((bt a0 x20_1) == (bt (⟨#[48, 48, 48, 48, 45, 48, 48, 45, 48, 48, 32, 48, 48, 58, 48, 48]⟩ : ByteArray) x20_1)) = false := beq_eq_false_iff_ne.mpr c21
                      have c21b1 : ((bt a0 x20_1) != (bt (⟨#[48, 48, 48, 48, 45, 48, 48, 45, 48, 48, 32, 48, 48, 58, 48, 48]⟩ : ByteArray) x20_1)) = true := bne_iff_ne.mpr c21
                      simp only [Option.some.injEq, Prod.mk.injEq] at H
                      obtain ⟨rfl, rfl⟩ := H
                      have p6 : 0 ≤ (x20_1 : Int) := of_decide_eq_true (by first | (with_reducible assumption) | assumption)
                      have q6 : x20_1 < (a0.size : Int) := of_decide_eq_true (by first | (with_reducible assumption) | assumption)
                      have hx6 := bt_at a0 x20_1
                      replace p6 := eq_true p6
                      replace q6 := eq_true q6
                      have p17 : 0 ≤ (x20_1 : Int) := of_decide_eq_true (by first | (with_reducible assumption) | assumption)
                      have q17 : x20_1 < (16 : Int) := of_decide_eq_true (by first | (with_reducible assumption) | assumption)
                      have hx17 := bt_at (⟨#[48, 48, 48, 48, 45, 48, 48, 45, 48, 48, 32, 48, 48, 58, 48, 48]⟩ : ByteArray) x20_1
                      replace p17 := eq_true p17
                      replace q17 := eq_true q17
                      have p19 : 0 ≤ (x20_1 : Int) := of_decide_eq_true (by first | (with_reducible assumption) | assumption)
                      have q19 : x20_1 < (a0.size : Int) := of_decide_eq_true (by first | (with_reducible assumption) | assumption)
                      have hx19 := bt_at a0 x20_1
                      replace p19 := eq_true p19
                      replace q19 := eq_true q19
                      have p20 : 0 ≤ (x20_1 : Int) := of_decide_eq_true (by first | (with_reducible assumption) | assumption)
                      have q20 : x20_1 < (16 : Int) := of_decide_eq_true (by first | (with_reducible assumption) | assumption)
                      have hx20 := bt_at (⟨#[48, 48, 48, 48, 45, 48, 48, 45, 48, 48, 32, 48, 48, 58, 48, 48]⟩ : ByteArray) x20_1
                      replace p20 := eq_true p20
                      replace q20 := eq_true q20
                      go_wp2
                      repeat (go_quiet (fail); try go_wp2)
                      go_ret2
                      exact ⟨by first | rfl | (simp [errW_none, errW_some] <;> rfl) | (simp [*, errW_none, errW_some] <;> rfl), by repeat (first | (with_reducible first | exact HB.out | apply below_alloc | apply pw_below_drewN | apply below_drew1) | exact HB.out)⟩
                · rw [if_neg c16] at H
                  exact absurd H (by simp)
            · rw [if_neg c5] at H
              exact absurd H (by simp)
          · rw [if_neg c4] at H
            exact absurd H (by simp)
        · rw [if_neg c3] at H
          have c3b0 : decide (x20_1 < (a0.size : Int)) = false := decide_eq_false c3
          clear c3
          by_cases c22 : 0 ≤ 4
          · rw [if_pos c22] at H
            have c22b0 := eq_true c22
            have c22b1 : decide (0 ≤ 4) = true := decide_eq_true c22
            clear c22
            by_cases c23 : 4 ≤ (a0.size : Int)
            · rw [if_pos c23] at H
              have c23b0 := eq_true c23
              have c23b1 : decide (4 ≤ (a0.size : Int)) = true := decide_eq_true c23
              clear c23
              replace H := Option.bind_eq_some_iff.mp H
              obtain ⟨t148, A240, H⟩ := H
              replace H : (if 5 ≤ 7 then (if 7 ≤ (a0.size : Int) then ((day_number.f k1 (a0.extract 5 7)).bind fun t149 => (if 8 ≤ 10 then (if 10 ≤ (a0.size : Int) then ((day_number.f k1 (a0.extract 8 10)).bind fun t150 => (if (wrap64 (t149 - 1)) < 0 then (day_Of.j1 k1 a0 t148 (wrap64 (t149 - 1)) (wrap64 (t150 - 1)) true) else (if (wrap64 (t149 - 1)) > 11 then (day_Of.j1 k1 a0 t148 (wrap64 (t149 - 1)) (wrap64 (t150 - 1)) true) else (if (wrap64 (t150 - 1)) < 0 then (day_Of.j1 k1 a0 t148 (wrap64 (t149 - 1)) (wrap64 (t150 - 1)) true) else ((day_length.f t148 (wrap64 (t149 - 1))).bind fun t151 => (day_Of.j1 k1 a0 t148 (wrap64 (t149 - 1)) (wrap64 (t150 - 1)) (decide ((wrap64 (t150 - 1)) ≥ t151)))))))) else (none)) else (none))) else (none)) else (none)) = some (r1, r2) := H
              have A24 := Aside0.mk A240
              clear A240
              by_cases c25 : 5 ≤ 7
              · rw [if_pos c25] at H
                have c25b0 := eq_true c25
                have c25b1 : decide (5 ≤ 7) = true := decide_eq_true c25
                clear c25
                by_cases c26 : 7 ≤ (a0.size : Int)
                · rw [if_pos c26] at H
                  have c26b0 := eq_true c26
                  have c26b1 : decide (7 ≤ (a0.size : Int)) = true := decide_eq_true c26
                  clear c26
                  replace H := Option.bind_eq_some_iff.mp H
                  obtain ⟨t149, A270, H⟩ := H
                  replace H : (if 8 ≤ 10 then (if 10 ≤ (a0.size : Int) then ((day_number.f k1 (a0.extract 8 10)).bind fun t150 => (if (wrap64 (t149 - 1)) < 0 then (day_Of.j1 k1 a0 t148 (wrap64 (t149 - 1)) (wrap64 (t150 - 1)) true) else (if (wrap64 (t149 - 1)) > 11 then (day_Of.j1 k1 a0 t148 (wrap64 (t149 - 1)) (wrap64 (t150 - 1)) true) else (if (wrap64 (t150 - 1)) < 0 then (day_Of.j1 k1 a0 t148 (wrap64 (t149 - 1)) (wrap64 (t150 - 1)) true) else ((day_length.f t148 (wrap64 (t149 - 1))).bind fun t151 => (day_Of.j1 k1 a0 t148 (wrap64 (t149 - 1)) (wrap64 (t150 - 1)) (decide ((wrap64 (t150 - 1)) ≥ t151)))))))) else (none)) else (none)) = some (r1, r2) := H
                  have A27 := Aside0.mk A270
                  clear A270
                  by_cases c28 : 8 ≤ 10
                  · rw [if_pos c28] at H
                    have c28b0 := eq_true c28
                    have c28b1 : decide (8 ≤ 10) = true := decide_eq_true c28
                    clear c28
                    by_cases c29 : 10 ≤ (a0.size : Int)
                    · rw [if_pos c29] at H
                      have c29b0 := eq_true c29
                      have c29b1 : decide (10 ≤ (a0.size : Int)) = true := decide_eq_true c29
                      clear c29
                      replace H := Option.bind_eq_some_iff.mp H
                      obtain ⟨t150, A300, H⟩ := H
                      replace H : (if (wrap64 (t149 - 1)) < 0 then (day_Of.j1 k1 a0 t148 (wrap64 (t149 - 1)) (wrap64 (t150 - 1)) true) else (if (wrap64 (t149 - 1)) > 11 then (day_Of.j1 k1 a0 t148 (wrap64 (t149 - 1)) (wrap64 (t150 - 1)) true) else (if (wrap64 (t150 - 1)) < 0 then (day_Of.j1 k1 a0 t148 (wrap64 (t149 - 1)) (wrap64 (t150 - 1)) true) else ((day_length.f t148 (wrap64 (t149 - 1))).bind fun t151 => (day_Of.j1 k1 a0 t148 (wrap64 (t149 - 1)) (wrap64 (t150 - 1)) (decide ((wrap64 (t150 - 1)) ≥ t151))))))) = some (r1, r2) := H
                      have A30 := Aside0.mk A300
                      clear A300
                      have HC31 := Aside0.mk H
                      clear H
                      go_upto_region 11 with (first | (go_at_call 28; (with_reducible refine (day_number.calls k1 (a0.extract 0 4) t148 _ A24.out).mono ?_); rintro e w' ⟨rfl, ⟨nd, rfl⟩⟩; (try first | exact ⟨rfl, _, World.drewN_drewN _ _ _⟩ | exact ⟨rfl, _, Eq.trans (World.drewN_drewN _ _ _) (congrArg (World.drewN _) (Nat.add_assoc _ _ _))⟩)) | (go_at_call 28; (with_reducible refine (day_number.calls k1 (a0.extract 5 7) t149 _ A27.out).mono ?_); rintro e w' ⟨rfl, ⟨nd, rfl⟩⟩; (try first | exact ⟨rfl, _, World.drewN_drewN _ _ _⟩ | exact ⟨rfl, _, Eq.trans (World.drewN_drewN _ _ _) (congrArg (World.drewN _) (Nat.add_assoc _ _ _))⟩)) | (go_at_call 28; (with_reducible refine (day_number.calls k1 (a0.extract 8 10) t150 _ A30.out).mono ?_); rintro e w' ⟨rfl, ⟨nd, rfl⟩⟩; (try first | exact ⟨rfl, _, World.drewN_drewN _ _ _⟩ | exact ⟨rfl, _, Eq.trans (World.drewN_drewN _ _ _) (congrArg (World.drewN _) (Nat.add_assoc _ _ _))⟩)))
                      repeat (go_quiet (first | (go_at_call 28; (with_reducible refine (day_number.calls k1 (a0.extract 0 4) t148 _ A24.out).mono ?_); rintro e w' ⟨rfl, ⟨nd, rfl⟩⟩; (try first | exact ⟨rfl, _, World.drewN_drewN _ _ _⟩ | exact ⟨rfl, _, Eq.trans (World.drewN_drewN _ _ _) (congrArg (World.drewN _) (Nat.add_assoc _ _ _))⟩)) | (go_at_call 28; (with_reducible refine (day_number.calls k1 (a0.extract 5 7) t149 _ A27.out).mono ?_); rintro e w' ⟨rfl, ⟨nd, rfl⟩⟩; (try first | exact ⟨rfl, _, World.drewN_drewN _ _ _⟩ | exact ⟨rfl, _, Eq.trans (World.drewN_drewN _ _ _) (congrArg (World.drewN _) (Nat.add_assoc _ _ _))⟩)) | (go_at_call 28; (with_reducible refine (day_number.calls k1 (a0.extract 8 10) t150 _ A30.out).mono ?_); rintro e w' ⟨rfl, ⟨nd, rfl⟩⟩; (try first | exact ⟨rfl, _, World.drewN_drewN _ _ _⟩ | exact ⟨rfl, _, Eq.trans (World.drewN_drewN _ _ _) (congrArg (World.drewN _) (Nat.add_assoc _ _ _))⟩))); go_upto_region 11 with (first | (go_at_call 28; (with_reducible refine (day_number.calls k1 (a0.extract 0 4) t148 _ A24.out).mono ?_); rintro e w' ⟨rfl, ⟨nd, rfl⟩⟩; (try first | exact ⟨rfl, _, World.drewN_drewN _ _ _⟩ | exact ⟨rfl, _, Eq.trans (World.drewN_drewN _ _ _) (congrArg (World.drewN _) (Nat.add_assoc _ _ _))⟩)) | (go_at_call 28; (with_reducible refine (day_number.calls k1 (a0.extract 5 7) t149 _ A27.out).mono ?_); rintro e w' ⟨rfl, ⟨nd, rfl⟩⟩; (try first | exact ⟨rfl, _, World.drewN_drewN _ _ _⟩ | exact ⟨rfl, _, Eq.trans (World.drewN_drewN _ _ _) (congrArg (World.drewN _) (Nat.add_assoc _ _ _))⟩)) | (go_at_call 28; (with_reducible refine (day_number.calls k1 (a0.extract 8 10) t150 _ A30.out).mono ?_); rintro e w' ⟨rfl, ⟨nd, rfl⟩⟩; (try first | exact ⟨rfl, _, World.drewN_drewN _ _ _⟩ | exact ⟨rfl, _, Eq.trans (World.drewN_drewN _ _ _) (congrArg (World.drewN _) (Nat.add_assoc _ _ _))⟩))))
                      (try simp only [Act.put, List.setIfInBounds_toArray, List.set_cons_zero, List.set_cons_succ])
                      go_cut [78] (fun v78 wc => ∃ (kq : Nat) (x78_30 : Bool), v78 = .bool x78_30 ∧ Aside0 (day_Of.j1 kq a0 t148 (wrap64 (t149 - 1)) (wrap64 (t150 - 1)) x78_30 = some (r1, r2)) ∧ Aside0 (kq ≤ k1) ∧ Aside0 (Below w.heap.size w wc))
                      case first =>
                        have H := HC31.out
                        clear HC31
                        by_cases c32 : (wrap64 (t149 - 1)) < 0
                        · rw [if_pos c32] at H
                          have c32b0 : decide ((wrap64 (t149 - 1)) < 0) = true := decide_eq_true c32
                          clear c32
                          (first | rw [c32b0] | (simp only [i64_w, i32_w]; rw [c32b0]) | skip)
                          have H' := Aside0.mk H
                          clear H
                          go_wp2
                          repeat (go_quiet (fail); try go_wp2)
                          go_meet
                          case rel => exact ⟨_, (true), (by first | rfl | (simp; done) | (simp [*]; done)), H', ⟨by have := HK1.out; first | omega | exact Nat.le_refl _⟩, ⟨by repeat (first | (with_reducible first | exact HB.out | apply below_alloc | apply pw_below_drewN | apply below_drew1) | exact HB.out)⟩⟩
                        · rw [if_neg c32] at H
                          have c32b0 : decide ((wrap64 (t149 - 1)) < 0) = false := decide_eq_false c32
                          clear c32
                          (first | rw [c32b0] | (simp only [i64_w, i32_w]; rw [c32b0]) | skip)
                          by_cases c33 : (wrap64 (t149 - 1)) > 11
                          · rw [if_pos c33] at H
                            have c33b0 : decide (11 < (wrap64 (t149 - 1))) = true := decide_eq_true c33
                            clear c33
                            have H' := Aside0.mk H
                            clear H
                            go_wp2
                            repeat (go_quiet (fail); try go_wp2)
                            go_meet
                            case rel => exact ⟨_, (true), (by first | rfl | (simp; done) | (simp [*]; done)), H', ⟨by have := HK1.out; first | omega | exact Nat.le_refl _⟩, ⟨by repeat (first | (with_reducible first | exact HB.out | apply below_alloc | apply pw_below_drewN | apply below_drew1) | exact HB.out)⟩⟩
                          · rw [if_neg c33] at H
                            have c33b0 : decide (11 < (wrap64 (t149 - 1))) = false := decide_eq_false c33
                            clear c33
                            by_cases c34 : (wrap64 (t150 - 1)) < 0
                            · rw [if_pos c34] at H
                              have c34b0 : decide ((wrap64 (t150 - 1)) < 0) = true := decide_eq_true c34
                              clear c34
                              have H' := Aside0.mk H
                              clear H
                              go_wp2
                              repeat (go_quiet (fail); try go_wp2)
                              go_meet
                              case rel => exact ⟨_, (true), (by first | rfl | (simp; done) | (simp [*]; done)), H', ⟨by have := HK1.out; first | omega | exact Nat.le_refl _⟩, ⟨by repeat (first | (with_reducible first | exact HB.out | apply below_alloc | apply pw_below_drewN | apply below_drew1) | exact HB.out)⟩⟩
                            · rw [if_neg c34] at H
                              have c34b0 : decide ((wrap64 (t150 - 1)) < 0) = false := decide_eq_false c34
                              clear c34
                              replace H := Option.bind_eq_some_iff.mp H
                              obtain ⟨t151, A350, H⟩ := H
                              replace H : (day_Of.j1 k1 a0 t148 (wrap64 (t149 - 1)) (wrap64 (t150 - 1)) (decide ((wrap64 (t150 - 1)) ≥ t151))) = some (r1, r2) := H
                              have A35 := Aside0.mk A350
                              clear A350
                              have H' := Aside0.mk H
                              clear H
                              go_wp2_with (first | (go_at_call 29; (with_reducible refine (day_length.calls t148 (wrap64 (t149 - 1)) t151 _ A35.out).mono ?_); rintro e w36 ⟨rfl, hb⟩; have n0_ := Aside0.mk (below_step (by repeat (first | (with_reducible first | exact HB.out | apply below_alloc | apply pw_below_drewN | apply below_drew1) | exact HB.out)) hb); clear HB; have HB := n0_; clear n0_; (try clear hb); (try clear hb2); (try clear hk); (try clear hi)))
                              repeat (go_quiet (first | (go_at_call 29; (with_reducible refine (day_length.calls t148 (wrap64 (t149 - 1)) t151 _ A35.out).mono ?_); rintro e w36 ⟨rfl, hb⟩; have n0_ := Aside0.mk (below_step (by repeat (first | (with_reducible first | exact HB.out | apply below_alloc | apply pw_below_drewN | apply below_drew1) | exact HB.out)) hb); clear HB; have HB := n0_; clear n0_; (try clear hb); (try clear hb2); (try clear hk); (try clear hi))); try go_wp2_with (first | (go_at_call 29; (with_reducible refine (day_length.calls t148 (wrap64 (t149 - 1)) t151 _ A35.out).mono ?_); rintro e w36 ⟨rfl, hb⟩; have n0_ := Aside0.mk (below_step (by repeat (first | (with_reducible first | exact HB.out | apply below_alloc | apply pw_below_drewN | apply below_drew1) | exact HB.out)) hb); clear HB; have HB := n0_; clear n0_; (try clear hb); (try clear hb2); (try clear hk); (try clear hi))))
                              go_meet
                              case rel => exact ⟨_, (decide ((wrap64 (t150 - 1)) ≥ t151)), (by first | rfl | (simp; done) | (simp [*]; done)), H', ⟨by have := HK1.out; first | omega | exact Nat.le_refl _⟩, ⟨by repeat (first | (with_reducible first | exact HB.out | apply below_alloc | apply pw_below_drewN | apply below_drew1) | exact HB.out)⟩⟩
                      case rest =>
                        clear HC31
                        try clear c1
                        try clear p1
                        try clear q1
                        try clear hx1
                        try clear c2
                        try clear c2b0
                        try clear c2b1
                        try clear p2
                        try clear q2
                        try clear hx2
                        try clear c3
                        try clear c3b0
                        try clear c4
                        try clear c4b0
                        try clear c5
                        try clear c5b0
                        try clear p6
                        try clear q6
                        try clear hx6
                        try clear c7
                        try clear c7b0
                        try clear p8
                        try clear q8
                        try clear hx8
                        try clear c9
                        try clear c9b0
                        try clear p10
                        try clear q10
                        try clear hx10
                        try clear c11
                        try clear c11b0
                        try clear c11b1
                        try clear c11b2
                        try clear c12
                        try clear c12b0
                        try clear p13
                        try clear q13
                        try clear hx13
                        try clear p14
                        try clear q14
                        try clear hx14
                        try clear c15
                        try clear c15b0
                        try clear c15b1
                        try clear c16
                        try clear c16b0
                        try clear p17
                        try clear q17
                        try clear hx17
                        try clear c18
                        try clear c18b0
                        try clear c18b1
                        try clear c18b2
                        try clear p19
                        try clear q19
                        try clear hx19
                        try clear p20
                        try clear q20
                        try clear hx20
                        try clear c21
                        try clear c21b0
                        try clear c21b1
                        try clear c22
                        try clear c22b0
                        try clear c22b1
                        try clear c23
                        try clear c23b0
                        try clear c23b1
                        try clear c25
                        try clear c25b0
                        try clear c25b1
                        try clear c26
                        try clear c26b0
                        try clear c26b1
                        try clear c28
                        try clear c28b0
                        try clear c28b1
                        try clear c29
                        try clear c29b0
                        try clear c29b1
                        try clear c32
                        try clear c32b0
                        try clear c33
                        try clear c33b0
                        try clear c34
                        try clear c34b0
                        try clear p10
                        try clear p13
                        try clear p14
                        try clear p17
                        try clear p19
                        try clear p2
                        try clear p20
                        try clear p6
                        try clear p8
                        try clear q10
                        try clear q13
                        try clear q14
                        try clear q17
                        try clear q19
                        try clear q20
                        try clear q6
                        try clear q8
                        obtain ⟨kq, x78_30, rfl, HA, HJ30, HB⟩ := hcut
                        cases kq with
                        | zero => exact absurd HA.out (by simp [day_Of.j1])
                        | succ kj30 =>
                          have H := HA.out
                          clear HA
                          simp only [day_Of.j1] at H
                          by_cases c37 : x78_30 = true
                          · subst c37
                            have H1 : (some (0, false)) = some (r1, r2) := by rw [if_pos rfl] at H; exact H
                            clear H
                            have H := H1
                            clear H1
                            simp only [Option.some.injEq, Prod.mk.injEq] at H
                            obtain ⟨rfl, rfl⟩ := H
                            go_wp2
                            repeat (go_quiet (fail); try go_wp2)
                            go_ret2
                            exact ⟨by first | rfl | (simp [errW_none, errW_some] <;> rfl) | (simp [*, errW_none, errW_some] <;> rfl), by repeat (first | (with_reducible first | exact HB.out | apply below_alloc | apply pw_below_drewN | apply below_drew1) | exact HB.out)⟩
                          · replace c37 := Bool.eq_false_iff.mpr c37
                            subst c37
                            have H1 : ((day_below.f (wrap64 (t148 - 2000)) 400).bind fun bt152 => (day_Of.l1 kj30 a0 t148 (wrap64 (t149 - 1)) (wrap64 ((wrap64 (bt152.1 * 146097)) + (wrap64 (t150 - 1)))) bt152.2 0)) = some (r1, r2) := by rw [if_neg (show ¬ (false = true) by decide)] at H; exact H
                            clear H
                            have H := H1
                            clear H1
                            replace H := Option.bind_eq_some_iff.mp H
                            obtain ⟨⟨t152, t153⟩, A380, H⟩ := H
                            replace H : (day_Of.l1 kj30 a0 t148 (wrap64 (t149 - 1)) (wrap64 ((wrap64 (t152 * 146097)) + (wrap64 (t150 - 1)))) t153 0) = some (r1, r2) := H
                            have A38 := Aside0.mk A380
                            clear A380
                            have H' := Aside0.mk H
                            clear H
                            go_wp2_with (first | (go_at_call 24; (with_reducible refine (day_below.calls (wrap64 (t148 - 2000)) 400 t152 t153 _ A38.out).mono ?_); rintro e w' ⟨rfl, ⟨nd, rfl⟩⟩; (try first | exact ⟨rfl, _, World.drewN_drewN _ _ _⟩ | exact ⟨rfl, _, Eq.trans (World.drewN_drewN _ _ _) (congrArg (World.drewN _) (Nat.add_assoc _ _ _))⟩)))
                            repeat (go_quiet (first | (go_at_call 24; (with_reducible refine (day_below.calls (wrap64 (t148 - 2000)) 400 t152 t153 _ A38.out).mono ?_); rintro e w' ⟨rfl, ⟨nd, rfl⟩⟩; (try first | exact ⟨rfl, _, World.drewN_drewN _ _ _⟩ | exact ⟨rfl, _, Eq.trans (World.drewN_drewN _ _ _) (congrArg (World.drewN _) (Nat.add_assoc _ _ _))⟩))); try go_wp2_with (first | (go_at_call 24; (with_reducible refine (day_below.calls (wrap64 (t148 - 2000)) 400 t152 t153 _ A38.out).mono ?_); rintro e w' ⟨rfl, ⟨nd, rfl⟩⟩; (try first | exact ⟨rfl, _, World.drewN_drewN _ _ _⟩ | exact ⟨rfl, _, Eq.trans (World.drewN_drewN _ _ _) (congrArg (World.drewN _) (Nat.add_assoc _ _ _))⟩))))
                            go_loopg [11, 90] kj30 (fun kq v11 v90 w' => ∃ (x11_3 : Int) (x90_3 : Int), v11 = .int .i64 x11_3 ∧ v90 = .int .i64 x90_3 ∧ Aside0 (day_Of.l1 kq a0 t148 (wrap64 (t149 - 1)) x11_3 t153 x90_3 = some (r1, r2)) ∧ Aside0 (kq ≤ kj30) ∧ Aside0 (Below w.heap.size w w'))
                            case atStart => exact ⟨(wrap64 ((wrap64 (t152 * 146097)) + (wrap64 (t150 - 1)))), (0), (by first | rfl | (simp; done) | (simp [*]; done)), (by first | rfl | (simp; done) | (simp [*]; done)), H', ⟨Nat.le_refl _⟩, ⟨by repeat (first | (with_reducible first | exact HB.out | apply below_alloc | apply pw_below_drewN | apply below_drew1) | exact HB.out)⟩⟩
                            case round =>
                              clear H'
                              try clear c1
                              try clear p1
                              try clear q1
                              try clear hx1
                              try clear c2
                              try clear c2b0
                              try clear c2b1
                              try clear p2
                              try clear q2
                              try clear hx2
                              try clear c3
                              try clear c3b0
                              try clear c4
                              try clear c4b0
                              try clear c5
                              try clear c5b0
                              try clear p6
                              try clear q6
                              try clear hx6
                              try clear c7
                              try clear c7b0
                              try clear p8
                              try clear q8
                              try clear hx8
                              try clear c9
                              try clear c9b0
                              try clear p10
                              try clear q10
                              try clear hx10
                              try clear c11
                              try clear c11b0
                              try clear c11b1
                              try clear c11b2
                              try clear c12
                              try clear c12b0
                              try clear p13
                              try clear q13
                              try clear hx13
                              try clear p14
                              try clear q14
                              try clear hx14
                              try clear c15
                              try clear c15b0
                              try clear c15b1
                              try clear c16
                              try clear c16b0
                              try clear p17
                              try clear q17
                              try clear hx17
                              try clear c18
                              try clear c18b0
                              try clear c18b1
                              try clear c18b2
                              try clear p19
                              try clear q19
                              try clear hx19
                              try clear p20
                              try clear q20
                              try clear hx20
                              try clear c21
                              try clear c21b0
                              try clear c21b1
                              try clear c22
                              try clear c22b0
                              try clear c22b1
                              try clear c23
                              try clear c23b0
                              try clear c23b1
                              try clear c25
                              try clear c25b0
                              try clear c25b1
                              try clear c26
                              try clear c26b0
                              try clear c26b1
                              try clear c28
                              try clear c28b0
                              try clear c28b1
                              try clear c29
                              try clear c29b0
                              try clear c29b1
                              try clear c32
                              try clear c32b0
                              try clear c33
                              try clear c33b0
                              try clear c34
                              try clear c34b0
                              try clear c37
                              try clear p1
                              try clear p10
                              try clear p13
                              try clear p14
                              try clear p17
                              try clear p19
                              try clear p2
                              try clear p20
                              try clear p6
                              try clear p8
                              try clear q1
                              try clear q10
                              try clear q13
                              try clear q14
                              try clear q17
                              try clear q19
                              try clear q2
                              try clear q20
                              try clear q6
                              try clear q8
                              obtain ⟨x11_3, x90_3, rfl, rfl, HA, HK3, HB⟩ := hrel
                              cases gk with
                              | zero => exact absurd HA.out (by simp [day_Of.l1])
                              | succ k3 =>
                                have H := HA.out
                                clear HA
                                simp only [day_Of.l1] at H
                                by_cases c39 : x90_3 < t153
                                · rw [if_pos c39] at H
                                  have c39b0 : decide (x90_3 < t153) = true := decide_eq_true c39
                                  clear c39
                                  replace H := Option.bind_eq_some_iff.mp H
                                  obtain ⟨t154, A400, H⟩ := H
                                  replace H : (if t154 = true then (day_Of.l1 k3 a0 t148 (wrap64 (t149 - 1)) (wrap64 ((wrap64 (x11_3 + 365)) + 1)) t153 (wrap64 (x90_3 + 1))) else (day_Of.l1 k3 a0 t148 (wrap64 (t149 - 1)) (wrap64 (x11_3 + 365)) t153 (wrap64 (x90_3 + 1)))) = some (r1, r2) := H
                                  have A40 := Aside0.mk A400
                                  clear A400
                                  by_cases c41 : t154 = true
                                  · subst c41
                                    have H1 : (day_Of.l1 k3 a0 t148 (wrap64 (t149 - 1)) (wrap64 ((wrap64 (x11_3 + 365)) + 1)) t153 (wrap64 (x90_3 + 1))) = some (r1, r2) := by rw [if_pos rfl] at H; exact H
                                    clear H
                                    have H := H1
                                    clear H1
                                    have H' := Aside0.mk H
                                    clear H
                                    go_wp2_with (first | (go_at_call 30; (with_reducible refine (day_leap.calls (wrap64 (2000 + x90_3)) true _ A40.out).mono ?_); rintro e w' ⟨rfl, ⟨nd, rfl⟩⟩; (try first | exact ⟨rfl, _, World.drewN_drewN _ _ _⟩ | exact ⟨rfl, _, Eq.trans (World.drewN_drewN _ _ _) (congrArg (World.drewN _) (Nat.add_assoc _ _ _))⟩)))
                                    repeat (go_quiet (first | (go_at_call 30; (with_reducible refine (day_leap.calls (wrap64 (2000 + x90_3)) true _ A40.out).mono ?_); rintro e w' ⟨rfl, ⟨nd, rfl⟩⟩; (try first | exact ⟨rfl, _, World.drewN_drewN _ _ _⟩ | exact ⟨rfl, _, Eq.trans (World.drewN_drewN _ _ _) (congrArg (World.drewN _) (Nat.add_assoc _ _ _))⟩))); try go_wp2_with (first | (go_at_call 30; (with_reducible refine (day_leap.calls (wrap64 (2000 + x90_3)) true _ A40.out).mono ?_); rintro e w' ⟨rfl, ⟨nd, rfl⟩⟩; (try first | exact ⟨rfl, _, World.drewN_drewN _ _ _⟩ | exact ⟨rfl, _, Eq.trans (World.drewN_drewN _ _ _) (congrArg (World.drewN _) (Nat.add_assoc _ _ _))⟩))))
                                    go_roundg k3
                                    case measure => have := HK1.out; have := HJ30.out; have := HK3.out; omega
                                    case rel => exact ⟨(wrap64 ((wrap64 (x11_3 + 365)) + 1)), (wrap64 (x90_3 + 1)), (by first | rfl | (simp; done) | (simp [*]; done)), (by first | rfl | (simp; done) | (simp [*]; done)), H', ⟨by have := HK1.out; have := HJ30.out; have := HK3.out; omega⟩, ⟨by repeat (first | (with_reducible first | exact HB.out | apply below_alloc | apply pw_below_drewN | apply below_drew1) | exact HB.out)⟩⟩
                                  · replace c41 := Bool.eq_false_iff.mpr c41
                                    subst c41
                                    have H1 : (day_Of.l1 k3 a0 t148 (wrap64 (t149 - 1)) (wrap64 (x11_3 + 365)) t153 (wrap64 (x90_3 + 1))) = some (r1, r2) := by rw [if_neg (show ¬ (false = true) by decide)] at H; exact H
                                    clear H
                                    have H := H1
                                    clear H1
                                    have H' := Aside0.mk H
                                    clear H
                                    go_wp2_with (first | (go_at_call 30; (with_reducible refine (day_leap.calls (wrap64 (2000 + x90_3)) false _ A40.out).mono ?_); rintro e w' ⟨rfl, ⟨nd, rfl⟩⟩; (try first | exact ⟨rfl, _, World.drewN_drewN _ _ _⟩ | exact ⟨rfl, _, Eq.trans (World.drewN_drewN _ _ _) (congrArg (World.drewN _) (Nat.add_assoc _ _ _))⟩)))
                                    repeat (go_quiet (first | (go_at_call 30; (with_reducible refine (day_leap.calls (wrap64 (2000 + x90_3)) false _ A40.out).mono ?_); rintro e w' ⟨rfl, ⟨nd, rfl⟩⟩; (try first | exact ⟨rfl, _, World.drewN_drewN _ _ _⟩ | exact ⟨rfl, _, Eq.trans (World.drewN_drewN _ _ _) (congrArg (World.drewN _) (Nat.add_assoc _ _ _))⟩))); try go_wp2_with (first | (go_at_call 30; (with_reducible refine (day_leap.calls (wrap64 (2000 + x90_3)) false _ A40.out).mono ?_); rintro e w' ⟨rfl, ⟨nd, rfl⟩⟩; (try first | exact ⟨rfl, _, World.drewN_drewN _ _ _⟩ | exact ⟨rfl, _, Eq.trans (World.drewN_drewN _ _ _) (congrArg (World.drewN _) (Nat.add_assoc _ _ _))⟩))))
                                    go_roundg k3
                                    case measure => have := HK1.out; have := HJ30.out; have := HK3.out; omega
                                    case rel => exact ⟨(wrap64 (x11_3 + 365)), (wrap64 (x90_3 + 1)), (by first | rfl | (simp; done) | (simp [*]; done)), (by first | rfl | (simp; done) | (simp [*]; done)), H', ⟨by have := HK1.out; have := HJ30.out; have := HK3.out; omega⟩, ⟨by repeat (first | (with_reducible first | exact HB.out | apply below_alloc | apply pw_below_drewN | apply below_drew1) | exact HB.out)⟩⟩
                                · rw [if_neg c39] at H
                                  have c39b0 : decide (x90_3 < t153) = false := decide_eq_false c39
                                  clear c39
                                  have H' := Aside0.mk H
                                  clear H
                                  go_wp2
                                  repeat (go_quiet (fail); try go_wp2)
                                  go_loopg [11, 102] k3 (fun kq v11 v102 w' => ∃ (x11_4 : Int) (x102_4 : Int), v11 = .int .i64 x11_4 ∧ v102 = .int .i64 x102_4 ∧ Aside0 (day_Of.l2 kq a0 t148 x11_4 (wrap64 (t149 - 1)) x102_4 = some (r1, r2)) ∧ Aside0 (kq ≤ k3) ∧ Aside0 (Below w.heap.size w w'))
                                  case atStart => exact ⟨(x11_3), (0), (by first | rfl | (simp; done) | (simp [*]; done)), (by first | rfl | (simp; done) | (simp [*]; done)), H', ⟨Nat.le_refl _⟩, ⟨by repeat (first | (with_reducible first | exact HB.out | apply below_alloc | apply pw_below_drewN | apply below_drew1) | exact HB.out)⟩⟩
                                  case round =>
                                    clear H'
                                    try clear c1
                                    try clear p1
                                    try clear q1
                                    try clear hx1
                                    try clear c2
                                    try clear c2b0
                                    try clear c2b1
                                    try clear p2
                                    try clear q2
                                    try clear hx2
                                    try clear c3
                                    try clear c3b0
                                    try clear c4
                                    try clear c4b0
                                    try clear c5
                                    try clear c5b0
                                    try clear p6
                                    try clear q6
                                    try clear hx6
                                    try clear c7
                                    try clear c7b0
                                    try clear p8
                                    try clear q8
                                    try clear hx8
                                    try clear c9
                                    try clear c9b0
                                    try clear p10
                                    try clear q10
                                    try clear hx10
                                    try clear c11
                                    try clear c11b0
                                    try clear c11b1
                                    try clear c11b2
                                    try clear c12
                                    try clear c12b0
                                    try clear p13
                                    try clear q13
                                    try clear hx13
                                    try clear p14
                                    try clear q14
                                    try clear hx14
                                    try clear c15
                                    try clear c15b0
                                    try clear c15b1
                                    try clear c16
                                    try clear c16b0
                                    try clear p17
                                    try clear q17
                                    try clear hx17
                                    try clear c18
                                    try clear c18b0
                                    try clear c18b1
                                    try clear c18b2
                                    try clear p19
                                    try clear q19
                                    try clear hx19
                                    try clear p20
                                    try clear q20
                                    try clear hx20
                                    try clear c21
                                    try clear c21b0
                                    try clear c21b1
                                    try clear c22
                                    try clear c22b0
                                    try clear c22b1
                                    try clear c23
                                    try clear c23b0
                                    try clear c23b1
                                    try clear c25
                                    try clear c25b0
                                    try clear c25b1
                                    try clear c26
                                    try clear c26b0
                                    try clear c26b1
                                    try clear c28
                                    try clear c28b0
                                    try clear c28b1
                                    try clear c29
                                    try clear c29b0
                                    try clear c29b1
                                    try clear c32
                                    try clear c32b0
                                    try clear c33
                                    try clear c33b0
                                    try clear c34
                                    try clear c34b0
                                    try clear c37
                                    try clear c39
                                    try clear c39b0
                                    try clear c41
                                    try clear p1
                                    try clear p10
                                    try clear p13
                                    try clear p14
                                    try clear p17
                                    try clear p19
                                    try clear p2
                                    try clear p20
                                    try clear p6
                                    try clear p8
                                    try clear q1
                                    try clear q10
                                    try clear q13
                                    try clear q14
                                    try clear q17
                                    try clear q19
                                    try clear q2
                                    try clear q20
                                    try clear q6
                                    try clear q8
                                    obtain ⟨x11_4, x102_4, rfl, rfl, HA, HK4, HB⟩ := hrel
                                    cases gk with
                                    | zero => exact absurd HA.out (by simp [day_Of.l2])
                                    | succ k4 =>
                                      have H := HA.out
                                      clear HA
                                      simp only [day_Of.l2] at H
                                      by_cases c42 : x102_4 < (wrap64 (t149 - 1))
                                      · rw [if_pos c42] at H
                                        have c42b0 : decide (x102_4 < (wrap64 (t149 - 1))) = true := decide_eq_true c42
                                        clear c42
                                        replace H := Option.bind_eq_some_iff.mp H
                                        obtain ⟨t155, A430, H⟩ := H
                                        replace H : (day_Of.l2 k4 a0 t148 (wrap64 (x11_4 + t155)) (wrap64 (t149 - 1)) (wrap64 (x102_4 + 1))) = some (r1, r2) := H
                                        have A43 := Aside0.mk A430
                                        clear A430
                                        have H' := Aside0.mk H
                                        clear H
                                        go_wp2_with (first | (go_at_call 29; (with_reducible refine (day_length.calls t148 x102_4 t155 _ A43.out).mono ?_); rintro e w44 ⟨rfl, hb⟩; have n0_ := Aside0.mk (below_step (by repeat (first | (with_reducible first | exact HB.out | apply below_alloc | apply pw_below_drewN | apply below_drew1) | exact HB.out)) hb); clear HB; have HB := n0_; clear n0_; (try clear hb); (try clear hb2); (try clear hk); (try clear hi)))
                                        repeat (go_quiet (first | (go_at_call 29; (with_reducible refine (day_length.calls t148 x102_4 t155 _ A43.out).mono ?_); rintro e w44 ⟨rfl, hb⟩; have n0_ := Aside0.mk (below_step (by repeat (first | (with_reducible first | exact HB.out | apply below_alloc | apply pw_below_drewN | apply below_drew1) | exact HB.out)) hb); clear HB; have HB := n0_; clear n0_; (try clear hb); (try clear hb2); (try clear hk); (try clear hi))); try go_wp2_with (first | (go_at_call 29; (with_reducible refine (day_length.calls t148 x102_4 t155 _ A43.out).mono ?_); rintro e w44 ⟨rfl, hb⟩; have n0_ := Aside0.mk (below_step (by repeat (first | (with_reducible first | exact HB.out | apply below_alloc | apply pw_below_drewN | apply below_drew1) | exact HB.out)) hb); clear HB; have HB := n0_; clear n0_; (try clear hb); (try clear hb2); (try clear hk); (try clear hi))))
                                        go_roundg k4
                                        case measure => have := HK1.out; have := HJ30.out; have := HK3.out; have := HK4.out; omega
                                        case rel => exact ⟨(wrap64 (x11_4 + t155)), (wrap64 (x102_4 + 1)), (by first | rfl | (simp; done) | (simp [*]; done)), (by first | rfl | (simp; done) | (simp [*]; done)), H', ⟨by have := HK1.out; have := HJ30.out; have := HK3.out; have := HK4.out; omega⟩, ⟨by repeat (first | (with_reducible first | exact HB.out | apply below_alloc | apply pw_below_drewN | apply below_drew1) | exact HB.out)⟩⟩
                                      · rw [if_neg c42] at H
                                        have c42b0 : decide (x102_4 < (wrap64 (t149 - 1))) = false := decide_eq_false c42
                                        clear c42
                                        by_cases c45 : 11 ≤ 13
                                        · rw [if_pos c45] at H
                                          have c45b0 := eq_true c45
                                          have c45b1 : decide (11 ≤ 13) = true := decide_eq_true c45
                                          clear c45
                                          by_cases c46 : 13 ≤ (a0.size : Int)
                                          · rw [if_pos c46] at H
                                            have c46b0 := eq_true c46
                                            have c46b1 : decide (13 ≤ (a0.size : Int)) = true := decide_eq_true c46
                                            clear c46
                                            replace H := Option.bind_eq_some_iff.mp H
                                            obtain ⟨t156, A470, H⟩ := H
                                            replace H : (if 14 ≤ (a0.size : Int) then ((day_number.f k4 (a0.extract 14 a0.size)).bind fun t157 => ((day_Text.f k4 (wrap64 ((wrap64 ((wrap64 (x11_4 * 1440)) + (wrap64 (t156 * 60)))) + t157))).bind fun t158 => (if t158.toList = a0.toList then (some (wrap64 ((wrap64 ((wrap64 (x11_4 * 1440)) + (wrap64 (t156 * 60)))) + t157), true)) else (some (0, false))))) else (none)) = some (r1, r2) := H
                                            have A47 := Aside0.mk A470
                                            clear A470
                                            by_cases c48 : 14 ≤ (a0.size : Int)
                                            · rw [if_pos c48] at H
                                              have c48b0 := eq_true c48
                                              have c48b1 : decide (14 ≤ (a0.size : Int)) = true := decide_eq_true c48
                                              clear c48
                                              replace H := Option.bind_eq_some_iff.mp H
                                              obtain ⟨t157, A490, H⟩ := H
                                              replace H : ((day_Text.f k4 (wrap64 ((wrap64 ((wrap64 (x11_4 * 1440)) + (wrap64 (t156 * 60)))) + t157))).bind fun t158 => (if t158.toList = a0.toList then (some (wrap64 ((wrap64 ((wrap64 (x11_4 * 1440)) + (wrap64 (t156 * 60)))) + t157), true)) else (some (0, false)))) = some (r1, r2) := H
                                              have A49 := Aside0.mk A490
                                              clear A490
                                              replace H := Option.bind_eq_some_iff.mp H
                                              obtain ⟨t158, A500, H⟩ := H
                                              replace H : (if t158.toList = a0.toList then (some (wrap64 ((wrap64 ((wrap64 (x11_4 * 1440)) + (wrap64 (t156 * 60)))) + t157), true)) else (some (0, false))) = some (r1, r2) := H
                                              have A50 := Aside0.mk A500
                                              clear A500
                                              by_cases c51 : t158.toList = a0.toList
                                              · rw [if_pos c51] at H
                                                have c51b0 : (t158.toList == a0.toList) = true := beq_iff_eq.mpr c51
                                                have c51b1 : (t158.toList != a0.toList) = false := bne_eq_false_iff_eq.mpr c51
                                                clear c51
                                                simp only [Option.some.injEq, Prod.mk.injEq] at H
                                                obtain ⟨rfl, rfl⟩ := H
                                                go_wp2_with (first | (go_at_call 28; (with_reducible refine (day_number.calls k4 (a0.extract 11 13) t156 _ A47.out).mono ?_); rintro e w' ⟨rfl, ⟨nd, rfl⟩⟩; (try first | exact ⟨rfl, _, World.drewN_drewN _ _ _⟩ | exact ⟨rfl, _, Eq.trans (World.drewN_drewN _ _ _) (congrArg (World.drewN _) (Nat.add_assoc _ _ _))⟩)) | (go_at_call 28; (with_reducible refine (day_number.calls k4 (a0.extract 14 a0.size) t157 _ A49.out).mono ?_); rintro e w' ⟨rfl, ⟨nd, rfl⟩⟩; (try first | exact ⟨rfl, _, World.drewN_drewN _ _ _⟩ | exact ⟨rfl, _, Eq.trans (World.drewN_drewN _ _ _) (congrArg (World.drewN _) (Nat.add_assoc _ _ _))⟩)) | (go_at_call 10; (with_reducible refine (day_Text.calls k4 (wrap64 ((wrap64 ((wrap64 (x11_4 * 1440)) + (wrap64 (t156 * 60)))) + t157)) t158 _ A50.out).mono ?_); rintro e w52 ⟨rfl, hb⟩; have n0_ := Aside0.mk (below_step (by repeat (first | (with_reducible first | exact HB.out | apply below_alloc | apply pw_below_drewN | apply below_drew1) | exact HB.out)) hb); clear HB; have HB := n0_; clear n0_; (try clear hb); (try clear hb2); (try clear hk); (try clear hi)))
                                                repeat (go_quiet (first | (go_at_call 28; (with_reducible refine (day_number.calls k4 (a0.extract 11 13) t156 _ A47.out).mono ?_); rintro e w' ⟨rfl, ⟨nd, rfl⟩⟩; (try first | exact ⟨rfl, _, World.drewN_drewN _ _ _⟩ | exact ⟨rfl, _, Eq.trans (World.drewN_drewN _ _ _) (congrArg (World.drewN _) (Nat.add_assoc _ _ _))⟩)) | (go_at_call 28; (with_reducible refine (day_number.calls k4 (a0.extract 14 a0.size) t157 _ A49.out).mono ?_); rintro e w' ⟨rfl, ⟨nd, rfl⟩⟩; (try first | exact ⟨rfl, _, World.drewN_drewN _ _ _⟩ | exact ⟨rfl, _, Eq.trans (World.drewN_drewN _ _ _) (congrArg (World.drewN _) (Nat.add_assoc _ _ _))⟩)) | (go_at_call 10; (with_reducible refine (day_Text.calls k4 (wrap64 ((wrap64 ((wrap64 (x11_4 * 1440)) + (wrap64 (t156 * 60)))) + t157)) t158 _ A50.out).mono ?_); rintro e w52 ⟨rfl, hb⟩; have n0_ := Aside0.mk (below_step (by repeat (first | (with_reducible first | exact HB.out | apply below_alloc | apply pw_below_drewN | apply below_drew1) | exact HB.out)) hb); clear HB; have HB := n0_; clear n0_; (try clear hb); (try clear hb2); (try clear hk); (try clear hi))); try go_wp2_with (first | (go_at_call 28; (with_reducible refine (day_number.calls k4 (a0.extract 11 13) t156 _ A47.out).mono ?_); rintro e w' ⟨rfl, ⟨nd, rfl⟩⟩; (try first | exact ⟨rfl, _, World.drewN_drewN _ _ _⟩ | exact ⟨rfl, _, Eq.trans (World.drewN_drewN _ _ _) (congrArg (World.drewN _) (Nat.add_assoc _ _ _))⟩)) | (go_at_call 28; (with_reducible refine (day_number.calls k4 (a0.extract 14 a0.size) t157 _ A49.out).mono ?_); rintro e w' ⟨rfl, ⟨nd, rfl⟩⟩; (try first | exact ⟨rfl, _, World.drewN_drewN _ _ _⟩ | exact ⟨rfl, _, Eq.trans (World.drewN_drewN _ _ _) (congrArg (World.drewN _) (Nat.add_assoc _ _ _))⟩)) | (go_at_call 10; (with_reducible refine (day_Text.calls k4 (wrap64 ((wrap64 ((wrap64 (x11_4 * 1440)) + (wrap64 (t156 * 60)))) + t157)) t158 _ A50.out).mono ?_); rintro e w52 ⟨rfl, hb⟩; have n0_ := Aside0.mk (below_step (by repeat (first | (with_reducible first | exact HB.out | apply below_alloc | apply pw_below_drewN | apply below_drew1) | exact HB.out)) hb); clear HB; have HB := n0_; clear n0_; (try clear hb); (try clear hb2); (try clear hk); (try clear hi))))
                                                go_ret2
                                                exact ⟨by first | rfl | (simp [errW_none, errW_some] <;> rfl) | (simp [*, errW_none, errW_some] <;> rfl), by repeat (first | (with_reducible first | exact HB.out | apply below_alloc | apply pw_below_drewN | apply below_drew1) | exact HB.out)⟩
                                              · rw [if_neg c51] at H
                                                have c51b0 : (t158.toList == a0.toList) = false := beq_eq_false_iff_ne.mpr c51
                                                have c51b1 : (t158.toList != a0.toList) = true := bne_iff_ne.mpr c51
                                                simp only [Option.some.injEq, Prod.mk.injEq] at H
                                                obtain ⟨rfl, rfl⟩ := H
                                                go_wp2_with (first | (go_at_call 28; (with_reducible refine (day_number.calls k4 (a0.extract 11 13) t156 _ A47.out).mono ?_); rintro e w' ⟨rfl, ⟨nd, rfl⟩⟩; (try first | exact ⟨rfl, _, World.drewN_drewN _ _ _⟩ | exact ⟨rfl, _, Eq.trans (World.drewN_drewN _ _ _) (congrArg (World.drewN _) (Nat.add_assoc _ _ _))⟩)) | (go_at_call 28; (with_reducible refine (day_number.calls k4 (a0.extract 14 a0.size) t157 _ A49.out).mono ?_); rintro e w' ⟨rfl, ⟨nd, rfl⟩⟩; (try first | exact ⟨rfl, _, World.drewN_drewN _ _ _⟩ | exact ⟨rfl, _, Eq.trans (World.drewN_drewN _ _ _) (congrArg (World.drewN _) (Nat.add_assoc _ _ _))⟩)) | (go_at_call 10; (with_reducible refine (day_Text.calls k4 (wrap64 ((wrap64 ((wrap64 (x11_4 * 1440)) + (wrap64 (t156 * 60)))) + t157)) t158 _ A50.out).mono ?_); rintro e w53 ⟨rfl, hb⟩; have n0_ := Aside0.mk (below_step (by repeat (first | (with_reducible first | exact HB.out | apply below_alloc | apply pw_below_drewN | apply below_drew1) | exact HB.out)) hb); clear HB; have HB := n0_; clear n0_; (try clear hb); (try clear hb2); (try clear hk); (try clear hi)))
                                                repeat (go_quiet (first | (go_at_call 28; (with_reducible refine (day_number.calls k4 (a0.extract 11 13) t156 _ A47.out).mono ?_); rintro e w' ⟨rfl, ⟨nd, rfl⟩⟩; (try first | exact ⟨rfl, _, World.drewN_drewN _ _ _⟩ | exact ⟨rfl, _, Eq.trans (World.drewN_drewN _ _ _) (congrArg (World.drewN _) (Nat.add_assoc _ _ _))⟩)) | (go_at_call 28; (with_reducible refine (day_number.calls k4 (a0.extract 14 a0.size) t157 _ A49.out).mono ?_); rintro e w' ⟨rfl, ⟨nd, rfl⟩⟩; (try first | exact ⟨rfl, _, World.drewN_drewN _ _ _⟩ | exact ⟨rfl, _, Eq.trans (World.drewN_drewN _ _ _) (congrArg (World.drewN _) (Nat.add_assoc _ _ _))⟩)) | (go_at_call 10; (with_reducible refine (day_Text.calls k4 (wrap64 ((wrap64 ((wrap64 (x11_4 * 1440)) + (wrap64 (t156 * 60)))) + t157)) t158 _ A50.out).mono ?_); rintro e w53 ⟨rfl, hb⟩; have n0_ := Aside0.mk (below_step (by repeat (first | (with_reducible first | exact HB.out | apply below_alloc | apply pw_below_drewN | apply below_drew1) | exact HB.out)) hb); clear HB; have HB := n0_; clear n0_; (try clear hb); (try clear hb2); (try clear hk); (try clear hi))); try go_wp2_with (first | (go_at_call 28; (with_reducible refine (day_number.calls k4 (a0.extract 11 13) t156 _ A47.out).mono ?_); rintro e w' ⟨rfl, ⟨nd, rfl⟩⟩; (try first | exact ⟨rfl, _, World.drewN_drewN _ _ _⟩ | exact ⟨rfl, _, Eq.trans (World.drewN_drewN _ _ _) (congrArg (World.drewN _) (Nat.add_assoc _ _ _))⟩)) | (go_at_call 28; (with_reducible refine (day_number.calls k4 (a0.extract 14 a0.size) t157 _ A49.out).mono ?_); rintro e w' ⟨rfl, ⟨nd, rfl⟩⟩; (try first | exact ⟨rfl, _, World.drewN_drewN _ _ _⟩ | exact ⟨rfl, _, Eq.trans (World.drewN_drewN _ _ _) (congrArg (World.drewN _) (Nat.add_assoc _ _ _))⟩)) | (go_at_call 10; (with_reducible refine (day_Text.calls k4 (wrap64 ((wrap64 ((wrap64 (x11_4 * 1440)) + (wrap64 (t156 * 60)))) + t157)) t158 _ A50.out).mono ?_); rintro e w53 ⟨rfl, hb⟩; have n0_ := Aside0.mk (below_step (by repeat (first | (with_reducible first | exact HB.out | apply below_alloc | apply pw_below_drewN | apply below_drew1) | exact HB.out)) hb); clear HB; have HB := n0_; clear n0_; (try clear hb); (try clear hb2); (try clear hk); (try clear hi))))
                                                go_ret2
                                                exact ⟨by first | rfl | (simp [errW_none, errW_some] <;> rfl) | (simp [*, errW_none, errW_some] <;> rfl), by repeat (first | (with_reducible first | exact HB.out | apply below_alloc | apply pw_below_drewN | apply below_drew1) | exact HB.out)⟩
                                            · rw [if_neg c48] at H
                                              exact absurd H (by simp)
                                          · rw [if_neg c46] at H
                                            exact absurd H (by simp)
                                        · rw [if_neg c45] at H
                                          exact absurd H (by simp)
                    · rw [if_neg c29] at H
                      exact absurd H (by simp)
                  · rw [if_neg c28] at H
                    exact absurd H (by simp)
                · rw [if_neg c26] at H
                  exact absurd H (by simp)
              · rw [if_neg c25] at H
                exact absurd H (by simp)
            · rw [if_neg c23] at H
              exact absurd H (by simp)
          · rw [if_neg c22] at H
            exact absurd H (by simp)
  · rw [if_neg c2] at H
    have c2b0 : ((a0.size : Int) == 16) = false := beq_eq_false_iff_ne.mpr c2
    have c2b1 : ((a0.size : Int) != 16) = true := bne_iff_ne.mpr c2
    simp only [Option.some.injEq, Prod.mk.injEq] at H
    obtain ⟨rfl, rfl⟩ := H
    go_enter Try.func12, Try.ntmps12
    go_wp2
    repeat (go_quiet (fail); try go_wp2)
    go_ret2
    exact ⟨by first | rfl | (simp [errW_none, errW_some] <;> rfl) | (simp [*, errW_none, errW_some] <;> rfl), by repeat (first | (with_reducible first | exact HB.out | apply below_alloc | apply pw_below_drewN | apply below_drew1) | exact HB.out)⟩

end Go.Proofs.Ytnanhempikhknaa.D
