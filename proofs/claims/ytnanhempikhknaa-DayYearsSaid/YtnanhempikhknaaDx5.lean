-- Made by wip/hp/hp.py (the kit's print, with functions proved by hand put in).
import Derived.Test.YtnanhempikhknaaDx0
import Derived.Test.YtnanhempikhknaaDx2
import Derived.Test.YtnanhempikhknaaDx4
namespace Go.Proofs.Ytnanhempikhknaa.D
open Go.RowKit Go.Proofs.YtnanhempikhknaaW.PrintWords Go.Proofs.YtnanhempikhknaaW.PrintLast Go.Proofs.YtnanhempikhknaaW.PrintMore
attribute [local go_sem] max2_int min2_int max_two min_two max_three min_three max_four min_four   -- for this text's walks alone
set_option linter.unusedVariables false
set_option linter.unusedSimpArgs false

/-! ### hibernacleref48_Of: function 14 -/
mutual
def hibernacleref48_Of.j0 : Nat → ByteArray → Bool → Option (Int × Bool)
  | 0, _, _ => none
  | k + 1, x0, x29 => if x29 = true then (some (0, false)) else (if 0 ≤ 4 then (if 4 ≤ (x0.size : Int) then ((hibernacleref48_number.f k (x0.extract 0 4)).bind fun t175 => (if 5 ≤ 7 then (if 7 ≤ (x0.size : Int) then ((hibernacleref48_number.f k (x0.extract 5 7)).bind fun t176 => (if 8 ≤ 10 then (if 10 ≤ (x0.size : Int) then ((hibernacleref48_number.f k (x0.extract 8 10)).bind fun t177 => (if 11 ≤ 13 then (if 13 ≤ (x0.size : Int) then ((hibernacleref48_number.f k (x0.extract 11 13)).bind fun t178 => (if 14 ≤ (x0.size : Int) then ((hibernacleref48_number.f k (x0.extract 14 x0.size)).bind fun t179 => (if t175 < 0 then (hibernacleref48_Of.j1 k t175 t176 t177 t178 t179 true) else (if t176 < 1 then (hibernacleref48_Of.j1 k t175 t176 t177 t178 t179 true) else (if t176 > 12 then (hibernacleref48_Of.j1 k t175 t176 t177 t178 t179 true) else (if t177 < 1 then (hibernacleref48_Of.j1 k t175 t176 t177 t178 t179 true) else ((hibernacleref48_days.f t175 t176).bind fun t180 => (if t177 > t180 then (hibernacleref48_Of.j1 k t175 t176 t177 t178 t179 true) else (if t178 < 0 then (hibernacleref48_Of.j1 k t175 t176 t177 t178 t179 true) else (if t178 > 23 then (hibernacleref48_Of.j1 k t175 t176 t177 t178 t179 true) else (if t179 < 0 then (hibernacleref48_Of.j1 k t175 t176 t177 t178 t179 true) else (hibernacleref48_Of.j1 k t175 t176 t177 t178 t179 (decide (t179 > 59))))))))))))) else (none))) else (none)) else (none))) else (none)) else (none))) else (none)) else (none))) else (none)) else (none))
def hibernacleref48_Of.j1 : Nat → Int → Int → Int → Int → Int → Bool → Option (Int × Bool)
  | 0, _, _, _, _, _, _ => none
  | k + 1, x4, x5, x6, x7, x8, x81 => if x81 = true then (some (0, false)) else (hibernacleref48_Of.l0 k x4 x5 x7 x8 (wrap64 (x6 - 1)) 1)
def hibernacleref48_Of.l0 : Nat → Int → Int → Int → Int → Int → Int → Option (Int × Bool)
  | 0, _, _, _, _, _, _ => none
  | k + 1, x4, x5, x7, x8, x9, x10 => if x10 < x5 then ((hibernacleref48_days.f x4 x10).bind fun t181 => (hibernacleref48_Of.l0 k x4 x5 x7 x8 (wrap64 (x9 + t181)) (wrap64 (x10 + 1)))) else (hibernacleref48_Of.l1 k x4 x7 x8 x9 2000)
def hibernacleref48_Of.l1 : Nat → Int → Int → Int → Int → Int → Option (Int × Bool)
  | 0, _, _, _, _, _ => none
  | k + 1, x4, x7, x8, x9, x11 => if x11 < x4 then ((hibernacleref48_leap.f x11).bind fun t182 => (if t182 = true then (hibernacleref48_Of.l1 k x4 x7 x8 (wrap64 ((wrap64 (x9 + 365)) + 1)) (wrap64 (x11 + 1))) else (hibernacleref48_Of.l1 k x4 x7 x8 (wrap64 (x9 + 365)) (wrap64 (x11 + 1))))) else (hibernacleref48_Of.l2 k x7 x8 x9 x4)
def hibernacleref48_Of.l2 : Nat → Int → Int → Int → Int → Option (Int × Bool)
  | 0, _, _, _, _ => none
  | k + 1, x7, x8, x9, x12 => if x12 < 2000 then ((hibernacleref48_leap.f x12).bind fun t183 => (if t183 = true then (hibernacleref48_Of.l2 k x7 x8 (wrap64 ((wrap64 (x9 - 365)) - 1)) (wrap64 (x12 + 1))) else (hibernacleref48_Of.l2 k x7 x8 (wrap64 (x9 - 365)) (wrap64 (x12 + 1))))) else (some (wrap64 ((wrap64 ((wrap64 (1440 * x9)) + (wrap64 (60 * x7)))) + x8), true))
end
def hibernacleref48_Of.f (k : Nat) (a0 : ByteArray) : Option (Int × Bool) := if (a0.size : Int) = 16 then (if 4 ≤ 5 then (if 5 ≤ (a0.size : Int) then (if 7 ≤ 8 then (if 8 ≤ (a0.size : Int) then (if (a0.extract 4 5).size + (a0.extract 7 8).size ≤ 9223372036854775807 then (if 10 ≤ 11 then (if 11 ≤ (a0.size : Int) then (if ((a0.extract 4 5) ++ (a0.extract 7 8)).size + (a0.extract 10 11).size ≤ 9223372036854775807 then (if 13 ≤ 14 then (if 14 ≤ (a0.size : Int) then (if (((a0.extract 4 5) ++ (a0.extract 7 8)) ++ (a0.extract 10 11)).size + (a0.extract 13 14).size ≤ 9223372036854775807 then (hibernacleref48_Of.j0 k a0 (((((a0.extract 4 5) ++ (a0.extract 7 8)) ++ (a0.extract 10 11)) ++ (a0.extract 13 14)).toList != ([45, 45, 32, 58] : List UInt8))) else (none)) else (none)) else (none)) else (none)) else (none)) else (none)) else (none)) else (none)) else (none)) else (none)) else (none)) else (hibernacleref48_Of.j0 k a0 true)
theorem hibernacleref48_Of.mono_l : ∀ k, (∀ y0 y1, LeO (hibernacleref48_Of.j0 k y0 y1) (hibernacleref48_Of.j0 (k + 1) y0 y1)) ∧ (∀ y0 y1 y2 y3 y4 y5, LeO (hibernacleref48_Of.j1 k y0 y1 y2 y3 y4 y5) (hibernacleref48_Of.j1 (k + 1) y0 y1 y2 y3 y4 y5)) ∧ (∀ y0 y1 y2 y3 y4 y5, LeO (hibernacleref48_Of.l0 k y0 y1 y2 y3 y4 y5) (hibernacleref48_Of.l0 (k + 1) y0 y1 y2 y3 y4 y5)) ∧ (∀ y0 y1 y2 y3 y4, LeO (hibernacleref48_Of.l1 k y0 y1 y2 y3 y4) (hibernacleref48_Of.l1 (k + 1) y0 y1 y2 y3 y4)) ∧ (∀ y0 y1 y2 y3, LeO (hibernacleref48_Of.l2 k y0 y1 y2 y3) (hibernacleref48_Of.l2 (k + 1) y0 y1 y2 y3))
  | 0 => ⟨fun _ _ r h => by simp [hibernacleref48_Of.j0] at h, fun _ _ _ _ _ _ r h => by simp [hibernacleref48_Of.j1] at h, fun _ _ _ _ _ _ r h => by simp [hibernacleref48_Of.l0] at h, fun _ _ _ _ _ r h => by simp [hibernacleref48_Of.l1] at h, fun _ _ _ _ r h => by simp [hibernacleref48_Of.l2] at h⟩
  | k + 1 => by
    obtain ⟨ih0, ih1, ih2, ih3, ih4⟩ := hibernacleref48_Of.mono_l k
    refine ⟨?_, ?_, ?_, ?_, ?_⟩
    · intro y0 y1
      unfold hibernacleref48_Of.j0
      repeat' first
      | (with_reducible exact ih0 _ _)
      | (with_reducible exact ih1 _ _ _ _ _ _)
      | (with_reducible exact ih2 _ _ _ _ _ _)
      | (with_reducible exact ih3 _ _ _ _ _)
      | (with_reducible exact ih4 _ _ _ _)
      | (with_reducible exact hibernacleref48_number.mono _ _)
      | (with_reducible exact LeO.refl _)
      | (with_reducible exact LeO.none _)
      | (with_reducible refine LeO.ite ?_ ?_)
      | (with_reducible refine LeO.bind ?_ (fun _ => ?_))
      | exact ih0 _ _
      | exact ih1 _ _ _ _ _ _
      | exact ih2 _ _ _ _ _ _
      | exact ih3 _ _ _ _ _
      | exact ih4 _ _ _ _
      | exact hibernacleref48_number.mono _ _
      | exact LeO.none _
      | refine LeO.ite ?_ ?_
      | refine LeO.bind ?_ (fun _ => ?_)
    · intro y0 y1 y2 y3 y4 y5
      unfold hibernacleref48_Of.j1
      repeat' first
      | (with_reducible exact ih0 _ _)
      | (with_reducible exact ih1 _ _ _ _ _ _)
      | (with_reducible exact ih2 _ _ _ _ _ _)
      | (with_reducible exact ih3 _ _ _ _ _)
      | (with_reducible exact ih4 _ _ _ _)
      | (with_reducible exact hibernacleref48_number.mono _ _)
      | (with_reducible exact LeO.refl _)
      | (with_reducible exact LeO.none _)
      | (with_reducible refine LeO.ite ?_ ?_)
      | (with_reducible refine LeO.bind ?_ (fun _ => ?_))
      | exact ih0 _ _
      | exact ih1 _ _ _ _ _ _
      | exact ih2 _ _ _ _ _ _
      | exact ih3 _ _ _ _ _
      | exact ih4 _ _ _ _
      | exact hibernacleref48_number.mono _ _
      | exact LeO.none _
      | refine LeO.ite ?_ ?_
      | refine LeO.bind ?_ (fun _ => ?_)
    · intro y0 y1 y2 y3 y4 y5
      unfold hibernacleref48_Of.l0
      repeat' first
      | (with_reducible exact ih0 _ _)
      | (with_reducible exact ih1 _ _ _ _ _ _)
      | (with_reducible exact ih2 _ _ _ _ _ _)
      | (with_reducible exact ih3 _ _ _ _ _)
      | (with_reducible exact ih4 _ _ _ _)
      | (with_reducible exact hibernacleref48_number.mono _ _)
      | (with_reducible exact LeO.refl _)
      | (with_reducible exact LeO.none _)
      | (with_reducible refine LeO.ite ?_ ?_)
      | (with_reducible refine LeO.bind ?_ (fun _ => ?_))
      | exact ih0 _ _
      | exact ih1 _ _ _ _ _ _
      | exact ih2 _ _ _ _ _ _
      | exact ih3 _ _ _ _ _
      | exact ih4 _ _ _ _
      | exact hibernacleref48_number.mono _ _
      | exact LeO.none _
      | refine LeO.ite ?_ ?_
      | refine LeO.bind ?_ (fun _ => ?_)
    · intro y0 y1 y2 y3 y4
      unfold hibernacleref48_Of.l1
      repeat' first
      | (with_reducible exact ih0 _ _)
      | (with_reducible exact ih1 _ _ _ _ _ _)
      | (with_reducible exact ih2 _ _ _ _ _ _)
      | (with_reducible exact ih3 _ _ _ _ _)
      | (with_reducible exact ih4 _ _ _ _)
      | (with_reducible exact hibernacleref48_number.mono _ _)
      | (with_reducible exact LeO.refl _)
      | (with_reducible exact LeO.none _)
      | (with_reducible refine LeO.ite ?_ ?_)
      | (with_reducible refine LeO.bind ?_ (fun _ => ?_))
      | exact ih0 _ _
      | exact ih1 _ _ _ _ _ _
      | exact ih2 _ _ _ _ _ _
      | exact ih3 _ _ _ _ _
      | exact ih4 _ _ _ _
      | exact hibernacleref48_number.mono _ _
      | exact LeO.none _
      | refine LeO.ite ?_ ?_
      | refine LeO.bind ?_ (fun _ => ?_)
    · intro y0 y1 y2 y3
      unfold hibernacleref48_Of.l2
      repeat' first
      | (with_reducible exact ih0 _ _)
      | (with_reducible exact ih1 _ _ _ _ _ _)
      | (with_reducible exact ih2 _ _ _ _ _ _)
      | (with_reducible exact ih3 _ _ _ _ _)
      | (with_reducible exact ih4 _ _ _ _)
      | (with_reducible exact hibernacleref48_number.mono _ _)
      | (with_reducible exact LeO.refl _)
      | (with_reducible exact LeO.none _)
      | (with_reducible refine LeO.ite ?_ ?_)
      | (with_reducible refine LeO.bind ?_ (fun _ => ?_))
      | exact ih0 _ _
      | exact ih1 _ _ _ _ _ _
      | exact ih2 _ _ _ _ _ _
      | exact ih3 _ _ _ _ _
      | exact ih4 _ _ _ _
      | exact hibernacleref48_number.mono _ _
      | exact LeO.none _
      | refine LeO.ite ?_ ?_
      | refine LeO.bind ?_ (fun _ => ?_)
theorem hibernacleref48_Of.mono : ∀ a0 k, LeO (hibernacleref48_Of.f k a0) (hibernacleref48_Of.f (k + 1) a0) := by
  intro a0 k
  obtain ⟨ih0, ih1, ih2, ih3, ih4⟩ := hibernacleref48_Of.mono_l k
  unfold hibernacleref48_Of.f
  repeat' first
      | (with_reducible exact ih0 _ _)
      | (with_reducible exact ih1 _ _ _ _ _ _)
      | (with_reducible exact ih2 _ _ _ _ _ _)
      | (with_reducible exact ih3 _ _ _ _ _)
      | (with_reducible exact ih4 _ _ _ _)
      | (with_reducible exact hibernacleref48_number.mono _ _)
      | (with_reducible exact LeO.refl _)
      | (with_reducible exact LeO.none _)
      | (with_reducible refine LeO.ite ?_ ?_)
      | (with_reducible refine LeO.bind ?_ (fun _ => ?_))
      | exact ih0 _ _
      | exact ih1 _ _ _ _ _ _
      | exact ih2 _ _ _ _ _ _
      | exact ih3 _ _ _ _ _
      | exact ih4 _ _ _ _
      | exact hibernacleref48_number.mono _ _
      | exact LeO.none _
      | refine LeO.ite ?_ ?_
      | refine LeO.bind ?_ (fun _ => ?_)
set_option maxHeartbeats 8000000 in
set_option maxRecDepth 100000 in
theorem hibernacleref48_Of.calls (k : Nat) (a0 : ByteArray) (r1 : Int) (r2 : Bool) (w : World) (h : hibernacleref48_Of.f k a0 = some (r1, r2)) :
    Calls Try.prog 14 #[.string a0] w fun e w' => e = .returned (.tuple #[.int .i64 r1, .bool r2]) ∧ Drawn0 w w' := by
  have H : (if (a0.size : Int) = 16 then (if 4 ≤ 5 then (if 5 ≤ (a0.size : Int) then (if 7 ≤ 8 then (if 8 ≤ (a0.size : Int) then (if (a0.extract 4 5).size + (a0.extract 7 8).size ≤ 9223372036854775807 then (if 10 ≤ 11 then (if 11 ≤ (a0.size : Int) then (if ((a0.extract 4 5) ++ (a0.extract 7 8)).size + (a0.extract 10 11).size ≤ 9223372036854775807 then (if 13 ≤ 14 then (if 14 ≤ (a0.size : Int) then (if (((a0.extract 4 5) ++ (a0.extract 7 8)) ++ (a0.extract 10 11)).size + (a0.extract 13 14).size ≤ 9223372036854775807 then (hibernacleref48_Of.j0 k a0 (((((a0.extract 4 5) ++ (a0.extract 7 8)) ++ (a0.extract 10 11)) ++ (a0.extract 13 14)).toList != ([45, 45, 32, 58] : List UInt8))) else (none)) else (none)) else (none)) else (none)) else (none)) else (none)) else (none)) else (none)) else (none)) else (none)) else (none)) else (hibernacleref48_Of.j0 k a0 true)) = some (r1, r2) := h
  clear h
  have HC2 := Aside0.mk H
  clear H
  go_enter Try.func14, Try.ntmps14
  go_upto_region 1 with (fail)
  repeat (go_quiet (fail); go_upto_region 1 with (fail))
  go_cut [29] (fun v29 wc => ∃ (kq : Nat) (x29_1 : Bool), v29 = .bool x29_1 ∧ Aside0 (hibernacleref48_Of.j0 kq a0 x29_1 = some (r1, r2)) ∧ Aside0 (kq ≤ k) ∧ Drawn0 w wc)
  case first =>
    have H := HC2.out
    clear HC2
    by_cases c3 : (a0.size : Int) = 16
    · rw [if_pos c3] at H
      have c3b0 : ((a0.size : Int) == 16) = true := beq_iff_eq.mpr c3
      have c3b1 : ((a0.size : Int) != 16) = false := bne_eq_false_iff_eq.mpr c3
      clear c3
      (first | rw [c3b0] | (simp only [i64_w, i32_w]; rw [c3b0]) | skip)
      by_cases c4 : 4 ≤ 5
      · rw [if_pos c4] at H
        have c4b0 := eq_true c4
        have c4b1 : decide (4 ≤ 5) = true := decide_eq_true c4
        clear c4
        by_cases c5 : 5 ≤ (a0.size : Int)
        · rw [if_pos c5] at H
          have c5b0 := eq_true c5
          have c5b1 : decide (5 ≤ (a0.size : Int)) = true := decide_eq_true c5
          clear c5
          by_cases c6 : 7 ≤ 8
          · rw [if_pos c6] at H
            have c6b0 := eq_true c6
            have c6b1 : decide (7 ≤ 8) = true := decide_eq_true c6
            clear c6
            by_cases c7 : 8 ≤ (a0.size : Int)
            · rw [if_pos c7] at H
              have c7b0 := eq_true c7
              have c7b1 : decide (8 ≤ (a0.size : Int)) = true := decide_eq_true c7
              clear c7
              by_cases c8 : (a0.extract 4 5).size + (a0.extract 7 8).size ≤ 9223372036854775807
              · rw [if_pos c8] at H
                have c8b0 := eq_true c8
                have c8b1 : decide ((a0.extract 4 5).size + (a0.extract 7 8).size ≤ 9223372036854775807) = true := decide_eq_true c8
                try have c8b2 : (9223372036854775807 < (a0.extract 4 5).size + (a0.extract 7 8).size) = False := eq_false (Nat.not_lt.2 c8)
                by_cases c9 : 10 ≤ 11
                · rw [if_pos c9] at H
                  have c9b0 := eq_true c9
                  have c9b1 : decide (10 ≤ 11) = true := decide_eq_true c9
                  clear c9
                  by_cases c10 : 11 ≤ (a0.size : Int)
                  · rw [if_pos c10] at H
                    have c10b0 := eq_true c10
                    have c10b1 : decide (11 ≤ (a0.size : Int)) = true := decide_eq_true c10
                    clear c10
                    by_cases c11 : ((a0.extract 4 5) ++ (a0.extract 7 8)).size + (a0.extract 10 11).size ≤ 9223372036854775807
                    · rw [if_pos c11] at H
                      have c11b0 := eq_true c11
                      have c11b1 : decide (((a0.extract 4 5) ++ (a0.extract 7 8)).size + (a0.extract 10 11).size ≤ 9223372036854775807) = true := decide_eq_true c11
                      try have c11b2 : (9223372036854775807 < ((a0.extract 4 5) ++ (a0.extract 7 8)).size + (a0.extract 10 11).size) = False := eq_false (Nat.not_lt.2 c11)
                      by_cases c12 : 13 ≤ 14
                      · rw [if_pos c12] at H
                        have c12b0 := eq_true c12
                        have c12b1 : decide (13 ≤ 14) = true := decide_eq_true c12
                        clear c12
                        by_cases c13 : 14 ≤ (a0.size : Int)
                        · rw [if_pos c13] at H
                          have c13b0 := eq_true c13
                          have c13b1 : decide (14 ≤ (a0.size : Int)) = true := decide_eq_true c13
                          clear c13
                          by_cases c14 : (((a0.extract 4 5) ++ (a0.extract 7 8)) ++ (a0.extract 10 11)).size + (a0.extract 13 14).size ≤ 9223372036854775807
                          · rw [if_pos c14] at H
                            have c14b0 := eq_true c14
                            have c14b1 : decide ((((a0.extract 4 5) ++ (a0.extract 7 8)) ++ (a0.extract 10 11)).size + (a0.extract 13 14).size ≤ 9223372036854775807) = true := decide_eq_true c14
                            try have c14b2 : (9223372036854775807 < (((a0.extract 4 5) ++ (a0.extract 7 8)) ++ (a0.extract 10 11)).size + (a0.extract 13 14).size) = False := eq_false (Nat.not_lt.2 c14)
                            have H' := Aside0.mk H
                            clear H
                            go_wp2
                            repeat (go_quiet (fail); try go_wp2)
                            go_meet
                            case rel => exact ⟨_, ((((((a0.extract 4 5) ++ (a0.extract 7 8)) ++ (a0.extract 10 11)) ++ (a0.extract 13 14)).toList != ([45, 45, 32, 58] : List UInt8))), (by first | rfl | (simp; done) | (simp [*]; done)), H', ⟨by first | omega | exact Nat.le_refl _⟩, by repeat (first | exact Drawn0.refl _ | apply Drawn0.step)⟩
                          · rw [if_neg c14] at H
                            exact absurd H (by simp)
                        · rw [if_neg c13] at H
                          exact absurd H (by simp)
                      · rw [if_neg c12] at H
                        exact absurd H (by simp)
                    · rw [if_neg c11] at H
                      exact absurd H (by simp)
                  · rw [if_neg c10] at H
                    exact absurd H (by simp)
                · rw [if_neg c9] at H
                  exact absurd H (by simp)
              · rw [if_neg c8] at H
                exact absurd H (by simp)
            · rw [if_neg c7] at H
              exact absurd H (by simp)
          · rw [if_neg c6] at H
            exact absurd H (by simp)
        · rw [if_neg c5] at H
          exact absurd H (by simp)
      · rw [if_neg c4] at H
        exact absurd H (by simp)
    · rw [if_neg c3] at H
      have c3b0 : ((a0.size : Int) == 16) = false := beq_eq_false_iff_ne.mpr c3
      have c3b1 : ((a0.size : Int) != 16) = true := bne_iff_ne.mpr c3
      (first | rw [c3b0] | (simp only [i64_w, i32_w]; rw [c3b0]) | skip)
      have H' := Aside0.mk H
      clear H
      go_wp2
      repeat (go_quiet (fail); try go_wp2)
      go_meet
      case rel => exact ⟨_, (true), (by first | rfl | (simp; done) | (simp [*]; done)), H', ⟨by first | omega | exact Nat.le_refl _⟩, by repeat (first | exact Drawn0.refl _ | apply Drawn0.step)⟩
  case rest =>
    clear HC2
    try clear c1
    try clear p2
    try clear c3
    try clear c3b0
    try clear c3b1
    try clear c4
    try clear c4b0
    try clear c4b1
    try clear c5
    try clear c5b0
    try clear c5b1
    try clear c6
    try clear c6b0
    try clear c6b1
    try clear c7
    try clear c7b0
    try clear c7b1
    try clear c8
    try clear c8b0
    try clear c8b1
    try clear c8b2
    try clear c9
    try clear c9b0
    try clear c9b1
    try clear c10
    try clear c10b0
    try clear c10b1
    try clear c11
    try clear c11b0
    try clear c11b1
    try clear c11b2
    try clear c12
    try clear c12b0
    try clear c12b1
    try clear c13
    try clear c13b0
    try clear c13b1
    try clear c14
    try clear c14b0
    try clear c14b1
    try clear c14b2
    obtain ⟨kq, x29_1, rfl, HA, HJ1, ⟨mc1, rfl⟩⟩ := hcut
    cases kq with
    | zero => exact absurd HA.out (by simp [hibernacleref48_Of.j0])
    | succ kj1 =>
      have H := HA.out
      clear HA
      simp only [hibernacleref48_Of.j0] at H
      by_cases c15 : x29_1 = true
      · subst c15
        have H1 : (some (0, false)) = some (r1, r2) := by rw [if_pos rfl] at H; exact H
        clear H
        have H := H1
        clear H1
        simp only [Option.some.injEq, Prod.mk.injEq] at H
        obtain ⟨rfl, rfl⟩ := H
        go_wp2
        repeat (go_quiet (fail); try go_wp2)
        go_ret2
        exact ⟨by first | rfl | (simp; done) | (simp [*]; done), by repeat (first | exact Drawn0.refl _ | apply Drawn0.step)⟩
      · replace c15 := Bool.eq_false_iff.mpr c15
        subst c15
        have H1 : (if 0 ≤ 4 then (if 4 ≤ (a0.size : Int) then ((hibernacleref48_number.f kj1 (a0.extract 0 4)).bind fun t175 => (if 5 ≤ 7 then (if 7 ≤ (a0.size : Int) then ((hibernacleref48_number.f kj1 (a0.extract 5 7)).bind fun t176 => (if 8 ≤ 10 then (if 10 ≤ (a0.size : Int) then ((hibernacleref48_number.f kj1 (a0.extract 8 10)).bind fun t177 => (if 11 ≤ 13 then (if 13 ≤ (a0.size : Int) then ((hibernacleref48_number.f kj1 (a0.extract 11 13)).bind fun t178 => (if 14 ≤ (a0.size : Int) then ((hibernacleref48_number.f kj1 (a0.extract 14 a0.size)).bind fun t179 => (if t175 < 0 then (hibernacleref48_Of.j1 kj1 t175 t176 t177 t178 t179 true) else (if t176 < 1 then (hibernacleref48_Of.j1 kj1 t175 t176 t177 t178 t179 true) else (if t176 > 12 then (hibernacleref48_Of.j1 kj1 t175 t176 t177 t178 t179 true) else (if t177 < 1 then (hibernacleref48_Of.j1 kj1 t175 t176 t177 t178 t179 true) else ((hibernacleref48_days.f t175 t176).bind fun t180 => (if t177 > t180 then (hibernacleref48_Of.j1 kj1 t175 t176 t177 t178 t179 true) else (if t178 < 0 then (hibernacleref48_Of.j1 kj1 t175 t176 t177 t178 t179 true) else (if t178 > 23 then (hibernacleref48_Of.j1 kj1 t175 t176 t177 t178 t179 true) else (if t179 < 0 then (hibernacleref48_Of.j1 kj1 t175 t176 t177 t178 t179 true) else (hibernacleref48_Of.j1 kj1 t175 t176 t177 t178 t179 (decide (t179 > 59))))))))))))) else (none))) else (none)) else (none))) else (none)) else (none))) else (none)) else (none))) else (none)) else (none)) = some (r1, r2) := by rw [if_neg (show ¬ (false = true) by decide)] at H; exact H
        clear H
        have H := H1
        clear H1
        by_cases c16 : 0 ≤ 4
        · rw [if_pos c16] at H
          have c16b0 := eq_true c16
          have c16b1 : decide (0 ≤ 4) = true := decide_eq_true c16
          clear c16
          by_cases c17 : 4 ≤ (a0.size : Int)
          · rw [if_pos c17] at H
            have c17b0 := eq_true c17
            have c17b1 : decide (4 ≤ (a0.size : Int)) = true := decide_eq_true c17
            clear c17
            replace H := Option.bind_eq_some_iff.mp H
            obtain ⟨t175, A180, H⟩ := H
            replace H : (if 5 ≤ 7 then (if 7 ≤ (a0.size : Int) then ((hibernacleref48_number.f kj1 (a0.extract 5 7)).bind fun t176 => (if 8 ≤ 10 then (if 10 ≤ (a0.size : Int) then ((hibernacleref48_number.f kj1 (a0.extract 8 10)).bind fun t177 => (if 11 ≤ 13 then (if 13 ≤ (a0.size : Int) then ((hibernacleref48_number.f kj1 (a0.extract 11 13)).bind fun t178 => (if 14 ≤ (a0.size : Int) then ((hibernacleref48_number.f kj1 (a0.extract 14 a0.size)).bind fun t179 => (if t175 < 0 then (hibernacleref48_Of.j1 kj1 t175 t176 t177 t178 t179 true) else (if t176 < 1 then (hibernacleref48_Of.j1 kj1 t175 t176 t177 t178 t179 true) else (if t176 > 12 then (hibernacleref48_Of.j1 kj1 t175 t176 t177 t178 t179 true) else (if t177 < 1 then (hibernacleref48_Of.j1 kj1 t175 t176 t177 t178 t179 true) else ((hibernacleref48_days.f t175 t176).bind fun t180 => (if t177 > t180 then (hibernacleref48_Of.j1 kj1 t175 t176 t177 t178 t179 true) else (if t178 < 0 then (hibernacleref48_Of.j1 kj1 t175 t176 t177 t178 t179 true) else (if t178 > 23 then (hibernacleref48_Of.j1 kj1 t175 t176 t177 t178 t179 true) else (if t179 < 0 then (hibernacleref48_Of.j1 kj1 t175 t176 t177 t178 t179 true) else (hibernacleref48_Of.j1 kj1 t175 t176 t177 t178 t179 (decide (t179 > 59))))))))))))) else (none))) else (none)) else (none))) else (none)) else (none))) else (none)) else (none)) = some (r1, r2) := H
            have A18 := Aside0.mk A180
            clear A180
            by_cases c19 : 5 ≤ 7
            · rw [if_pos c19] at H
              have c19b0 := eq_true c19
              have c19b1 : decide (5 ≤ 7) = true := decide_eq_true c19
              clear c19
              by_cases c20 : 7 ≤ (a0.size : Int)
              · rw [if_pos c20] at H
                have c20b0 := eq_true c20
                have c20b1 : decide (7 ≤ (a0.size : Int)) = true := decide_eq_true c20
                clear c20
                replace H := Option.bind_eq_some_iff.mp H
                obtain ⟨t176, A210, H⟩ := H
                replace H : (if 8 ≤ 10 then (if 10 ≤ (a0.size : Int) then ((hibernacleref48_number.f kj1 (a0.extract 8 10)).bind fun t177 => (if 11 ≤ 13 then (if 13 ≤ (a0.size : Int) then ((hibernacleref48_number.f kj1 (a0.extract 11 13)).bind fun t178 => (if 14 ≤ (a0.size : Int) then ((hibernacleref48_number.f kj1 (a0.extract 14 a0.size)).bind fun t179 => (if t175 < 0 then (hibernacleref48_Of.j1 kj1 t175 t176 t177 t178 t179 true) else (if t176 < 1 then (hibernacleref48_Of.j1 kj1 t175 t176 t177 t178 t179 true) else (if t176 > 12 then (hibernacleref48_Of.j1 kj1 t175 t176 t177 t178 t179 true) else (if t177 < 1 then (hibernacleref48_Of.j1 kj1 t175 t176 t177 t178 t179 true) else ((hibernacleref48_days.f t175 t176).bind fun t180 => (if t177 > t180 then (hibernacleref48_Of.j1 kj1 t175 t176 t177 t178 t179 true) else (if t178 < 0 then (hibernacleref48_Of.j1 kj1 t175 t176 t177 t178 t179 true) else (if t178 > 23 then (hibernacleref48_Of.j1 kj1 t175 t176 t177 t178 t179 true) else (if t179 < 0 then (hibernacleref48_Of.j1 kj1 t175 t176 t177 t178 t179 true) else (hibernacleref48_Of.j1 kj1 t175 t176 t177 t178 t179 (decide (t179 > 59))))))))))))) else (none))) else (none)) else (none))) else (none)) else (none)) = some (r1, r2) := H
                have A21 := Aside0.mk A210
                clear A210
                by_cases c22 : 8 ≤ 10
                · rw [if_pos c22] at H
                  have c22b0 := eq_true c22
                  have c22b1 : decide (8 ≤ 10) = true := decide_eq_true c22
                  clear c22
                  by_cases c23 : 10 ≤ (a0.size : Int)
                  · rw [if_pos c23] at H
                    have c23b0 := eq_true c23
                    have c23b1 : decide (10 ≤ (a0.size : Int)) = true := decide_eq_true c23
                    clear c23
                    replace H := Option.bind_eq_some_iff.mp H
                    obtain ⟨t177, A240, H⟩ := H
                    replace H : (if 11 ≤ 13 then (if 13 ≤ (a0.size : Int) then ((hibernacleref48_number.f kj1 (a0.extract 11 13)).bind fun t178 => (if 14 ≤ (a0.size : Int) then ((hibernacleref48_number.f kj1 (a0.extract 14 a0.size)).bind fun t179 => (if t175 < 0 then (hibernacleref48_Of.j1 kj1 t175 t176 t177 t178 t179 true) else (if t176 < 1 then (hibernacleref48_Of.j1 kj1 t175 t176 t177 t178 t179 true) else (if t176 > 12 then (hibernacleref48_Of.j1 kj1 t175 t176 t177 t178 t179 true) else (if t177 < 1 then (hibernacleref48_Of.j1 kj1 t175 t176 t177 t178 t179 true) else ((hibernacleref48_days.f t175 t176).bind fun t180 => (if t177 > t180 then (hibernacleref48_Of.j1 kj1 t175 t176 t177 t178 t179 true) else (if t178 < 0 then (hibernacleref48_Of.j1 kj1 t175 t176 t177 t178 t179 true) else (if t178 > 23 then (hibernacleref48_Of.j1 kj1 t175 t176 t177 t178 t179 true) else (if t179 < 0 then (hibernacleref48_Of.j1 kj1 t175 t176 t177 t178 t179 true) else (hibernacleref48_Of.j1 kj1 t175 t176 t177 t178 t179 (decide (t179 > 59))))))))))))) else (none))) else (none)) else (none)) = some (r1, r2) := H
                    have A24 := Aside0.mk A240
                    clear A240
                    by_cases c25 : 11 ≤ 13
                    · rw [if_pos c25] at H
                      have c25b0 := eq_true c25
                      have c25b1 : decide (11 ≤ 13) = true := decide_eq_true c25
                      clear c25
                      by_cases c26 : 13 ≤ (a0.size : Int)
                      · rw [if_pos c26] at H
                        have c26b0 := eq_true c26
                        have c26b1 : decide (13 ≤ (a0.size : Int)) = true := decide_eq_true c26
                        clear c26
                        replace H := Option.bind_eq_some_iff.mp H
                        obtain ⟨t178, A270, H⟩ := H
                        replace H : (if 14 ≤ (a0.size : Int) then ((hibernacleref48_number.f kj1 (a0.extract 14 a0.size)).bind fun t179 => (if t175 < 0 then (hibernacleref48_Of.j1 kj1 t175 t176 t177 t178 t179 true) else (if t176 < 1 then (hibernacleref48_Of.j1 kj1 t175 t176 t177 t178 t179 true) else (if t176 > 12 then (hibernacleref48_Of.j1 kj1 t175 t176 t177 t178 t179 true) else (if t177 < 1 then (hibernacleref48_Of.j1 kj1 t175 t176 t177 t178 t179 true) else ((hibernacleref48_days.f t175 t176).bind fun t180 => (if t177 > t180 then (hibernacleref48_Of.j1 kj1 t175 t176 t177 t178 t179 true) else (if t178 < 0 then (hibernacleref48_Of.j1 kj1 t175 t176 t177 t178 t179 true) else (if t178 > 23 then (hibernacleref48_Of.j1 kj1 t175 t176 t177 t178 t179 true) else (if t179 < 0 then (hibernacleref48_Of.j1 kj1 t175 t176 t177 t178 t179 true) else (hibernacleref48_Of.j1 kj1 t175 t176 t177 t178 t179 (decide (t179 > 59))))))))))))) else (none)) = some (r1, r2) := H
                        have A27 := Aside0.mk A270
                        clear A270
                        by_cases c28 : 14 ≤ (a0.size : Int)
                        · rw [if_pos c28] at H
                          have c28b0 := eq_true c28
                          have c28b1 : decide (14 ≤ (a0.size : Int)) = true := decide_eq_true c28
                          clear c28
                          replace H := Option.bind_eq_some_iff.mp H
                          obtain ⟨t179, A290, H⟩ := H
                          replace H : (if t175 < 0 then (hibernacleref48_Of.j1 kj1 t175 t176 t177 t178 t179 true) else (if t176 < 1 then (hibernacleref48_Of.j1 kj1 t175 t176 t177 t178 t179 true) else (if t176 > 12 then (hibernacleref48_Of.j1 kj1 t175 t176 t177 t178 t179 true) else (if t177 < 1 then (hibernacleref48_Of.j1 kj1 t175 t176 t177 t178 t179 true) else ((hibernacleref48_days.f t175 t176).bind fun t180 => (if t177 > t180 then (hibernacleref48_Of.j1 kj1 t175 t176 t177 t178 t179 true) else (if t178 < 0 then (hibernacleref48_Of.j1 kj1 t175 t176 t177 t178 t179 true) else (if t178 > 23 then (hibernacleref48_Of.j1 kj1 t175 t176 t177 t178 t179 true) else (if t179 < 0 then (hibernacleref48_Of.j1 kj1 t175 t176 t177 t178 t179 true) else (hibernacleref48_Of.j1 kj1 t175 t176 t177 t178 t179 (decide (t179 > 59)))))))))))) = some (r1, r2) := H
                          have A29 := Aside0.mk A290
                          clear A290
                          have HC30 := Aside0.mk H
                          clear H
                          go_upto_region 4 with (first | (go_at_call 31; (with_reducible refine (hibernacleref48_number.calls kj1 (a0.extract 0 4) t175 _ A18.out).mono ?_); rintro e w' ⟨rfl, ⟨nd, rfl⟩⟩; (try first | exact ⟨rfl, _, World.drewN_drewN _ _ _⟩ | exact ⟨rfl, _, Eq.trans (World.drewN_drewN _ _ _) (congrArg (World.drewN _) (Nat.add_assoc _ _ _))⟩)) | (go_at_call 31; (with_reducible refine (hibernacleref48_number.calls kj1 (a0.extract 5 7) t176 _ A21.out).mono ?_); rintro e w' ⟨rfl, ⟨nd, rfl⟩⟩; (try first | exact ⟨rfl, _, World.drewN_drewN _ _ _⟩ | exact ⟨rfl, _, Eq.trans (World.drewN_drewN _ _ _) (congrArg (World.drewN _) (Nat.add_assoc _ _ _))⟩)) | (go_at_call 31; (with_reducible refine (hibernacleref48_number.calls kj1 (a0.extract 8 10) t177 _ A24.out).mono ?_); rintro e w' ⟨rfl, ⟨nd, rfl⟩⟩; (try first | exact ⟨rfl, _, World.drewN_drewN _ _ _⟩ | exact ⟨rfl, _, Eq.trans (World.drewN_drewN _ _ _) (congrArg (World.drewN _) (Nat.add_assoc _ _ _))⟩)) | (go_at_call 31; (with_reducible refine (hibernacleref48_number.calls kj1 (a0.extract 11 13) t178 _ A27.out).mono ?_); rintro e w' ⟨rfl, ⟨nd, rfl⟩⟩; (try first | exact ⟨rfl, _, World.drewN_drewN _ _ _⟩ | exact ⟨rfl, _, Eq.trans (World.drewN_drewN _ _ _) (congrArg (World.drewN _) (Nat.add_assoc _ _ _))⟩)) | (go_at_call 31; (with_reducible refine (hibernacleref48_number.calls kj1 (a0.extract 14 a0.size) t179 _ A29.out).mono ?_); rintro e w' ⟨rfl, ⟨nd, rfl⟩⟩; (try first | exact ⟨rfl, _, World.drewN_drewN _ _ _⟩ | exact ⟨rfl, _, Eq.trans (World.drewN_drewN _ _ _) (congrArg (World.drewN _) (Nat.add_assoc _ _ _))⟩)))
                          repeat (go_quiet (first | (go_at_call 31; (with_reducible refine (hibernacleref48_number.calls kj1 (a0.extract 0 4) t175 _ A18.out).mono ?_); rintro e w' ⟨rfl, ⟨nd, rfl⟩⟩; (try first | exact ⟨rfl, _, World.drewN_drewN _ _ _⟩ | exact ⟨rfl, _, Eq.trans (World.drewN_drewN _ _ _) (congrArg (World.drewN _) (Nat.add_assoc _ _ _))⟩)) | (go_at_call 31; (with_reducible refine (hibernacleref48_number.calls kj1 (a0.extract 5 7) t176 _ A21.out).mono ?_); rintro e w' ⟨rfl, ⟨nd, rfl⟩⟩; (try first | exact ⟨rfl, _, World.drewN_drewN _ _ _⟩ | exact ⟨rfl, _, Eq.trans (World.drewN_drewN _ _ _) (congrArg (World.drewN _) (Nat.add_assoc _ _ _))⟩)) | (go_at_call 31; (with_reducible refine (hibernacleref48_number.calls kj1 (a0.extract 8 10) t177 _ A24.out).mono ?_); rintro e w' ⟨rfl, ⟨nd, rfl⟩⟩; (try first | exact ⟨rfl, _, World.drewN_drewN _ _ _⟩ | exact ⟨rfl, _, Eq.trans (World.drewN_drewN _ _ _) (congrArg (World.drewN _) (Nat.add_assoc _ _ _))⟩)) | (go_at_call 31; (with_reducible refine (hibernacleref48_number.calls kj1 (a0.extract 11 13) t178 _ A27.out).mono ?_); rintro e w' ⟨rfl, ⟨nd, rfl⟩⟩; (try first | exact ⟨rfl, _, World.drewN_drewN _ _ _⟩ | exact ⟨rfl, _, Eq.trans (World.drewN_drewN _ _ _) (congrArg (World.drewN _) (Nat.add_assoc _ _ _))⟩)) | (go_at_call 31; (with_reducible refine (hibernacleref48_number.calls kj1 (a0.extract 14 a0.size) t179 _ A29.out).mono ?_); rintro e w' ⟨rfl, ⟨nd, rfl⟩⟩; (try first | exact ⟨rfl, _, World.drewN_drewN _ _ _⟩ | exact ⟨rfl, _, Eq.trans (World.drewN_drewN _ _ _) (congrArg (World.drewN _) (Nat.add_assoc _ _ _))⟩))); go_upto_region 4 with (first | (go_at_call 31; (with_reducible refine (hibernacleref48_number.calls kj1 (a0.extract 0 4) t175 _ A18.out).mono ?_); rintro e w' ⟨rfl, ⟨nd, rfl⟩⟩; (try first | exact ⟨rfl, _, World.drewN_drewN _ _ _⟩ | exact ⟨rfl, _, Eq.trans (World.drewN_drewN _ _ _) (congrArg (World.drewN _) (Nat.add_assoc _ _ _))⟩)) | (go_at_call 31; (with_reducible refine (hibernacleref48_number.calls kj1 (a0.extract 5 7) t176 _ A21.out).mono ?_); rintro e w' ⟨rfl, ⟨nd, rfl⟩⟩; (try first | exact ⟨rfl, _, World.drewN_drewN _ _ _⟩ | exact ⟨rfl, _, Eq.trans (World.drewN_drewN _ _ _) (congrArg (World.drewN _) (Nat.add_assoc _ _ _))⟩)) | (go_at_call 31; (with_reducible refine (hibernacleref48_number.calls kj1 (a0.extract 8 10) t177 _ A24.out).mono ?_); rintro e w' ⟨rfl, ⟨nd, rfl⟩⟩; (try first | exact ⟨rfl, _, World.drewN_drewN _ _ _⟩ | exact ⟨rfl, _, Eq.trans (World.drewN_drewN _ _ _) (congrArg (World.drewN _) (Nat.add_assoc _ _ _))⟩)) | (go_at_call 31; (with_reducible refine (hibernacleref48_number.calls kj1 (a0.extract 11 13) t178 _ A27.out).mono ?_); rintro e w' ⟨rfl, ⟨nd, rfl⟩⟩; (try first | exact ⟨rfl, _, World.drewN_drewN _ _ _⟩ | exact ⟨rfl, _, Eq.trans (World.drewN_drewN _ _ _) (congrArg (World.drewN _) (Nat.add_assoc _ _ _))⟩)) | (go_at_call 31; (with_reducible refine (hibernacleref48_number.calls kj1 (a0.extract 14 a0.size) t179 _ A29.out).mono ?_); rintro e w' ⟨rfl, ⟨nd, rfl⟩⟩; (try first | exact ⟨rfl, _, World.drewN_drewN _ _ _⟩ | exact ⟨rfl, _, Eq.trans (World.drewN_drewN _ _ _) (congrArg (World.drewN _) (Nat.add_assoc _ _ _))⟩))))
                          (try simp only [Act.put, List.setIfInBounds_toArray, List.set_cons_zero, List.set_cons_succ])
                          go_cut [81] (fun v81 wc => ∃ (kq : Nat) (x81_29 : Bool), v81 = .bool x81_29 ∧ Aside0 (hibernacleref48_Of.j1 kq t175 t176 t177 t178 t179 x81_29 = some (r1, r2)) ∧ Aside0 (kq ≤ kj1) ∧ Drawn0 w wc)
                          case first =>
                            have H := HC30.out
                            clear HC30
                            by_cases c31 : t175 < 0
                            · rw [if_pos c31] at H
                              have c31b0 : decide (t175 < 0) = true := decide_eq_true c31
                              clear c31
                              (first | rw [c31b0] | (simp only [i64_w, i32_w]; rw [c31b0]) | skip)
                              have H' := Aside0.mk H
                              clear H
                              go_wp2
                              repeat (go_quiet (fail); try go_wp2)
                              go_meet
                              case rel => exact ⟨_, (true), (by first | rfl | (simp; done) | (simp [*]; done)), H', ⟨by have := HJ1.out; first | omega | exact Nat.le_refl _⟩, by repeat (first | exact Drawn0.refl _ | apply Drawn0.step)⟩
                            · rw [if_neg c31] at H
                              have c31b0 : decide (t175 < 0) = false := decide_eq_false c31
                              clear c31
                              (first | rw [c31b0] | (simp only [i64_w, i32_w]; rw [c31b0]) | skip)
                              by_cases c32 : t176 < 1
                              · rw [if_pos c32] at H
                                have c32b0 : decide (t176 < 1) = true := decide_eq_true c32
                                clear c32
                                have H' := Aside0.mk H
                                clear H
                                go_wp2
                                repeat (go_quiet (fail); try go_wp2)
                                go_meet
                                case rel => exact ⟨_, (true), (by first | rfl | (simp; done) | (simp [*]; done)), H', ⟨by have := HJ1.out; first | omega | exact Nat.le_refl _⟩, by repeat (first | exact Drawn0.refl _ | apply Drawn0.step)⟩
                              · rw [if_neg c32] at H
                                have c32b0 : decide (t176 < 1) = false := decide_eq_false c32
                                clear c32
                                by_cases c33 : t176 > 12
                                · rw [if_pos c33] at H
                                  have c33b0 : decide (12 < t176) = true := decide_eq_true c33
                                  clear c33
                                  have H' := Aside0.mk H
                                  clear H
                                  go_wp2
                                  repeat (go_quiet (fail); try go_wp2)
                                  go_meet
                                  case rel => exact ⟨_, (true), (by first | rfl | (simp; done) | (simp [*]; done)), H', ⟨by have := HJ1.out; first | omega | exact Nat.le_refl _⟩, by repeat (first | exact Drawn0.refl _ | apply Drawn0.step)⟩
                                · rw [if_neg c33] at H
                                  have c33b0 : decide (12 < t176) = false := decide_eq_false c33
                                  clear c33
                                  by_cases c34 : t177 < 1
                                  · rw [if_pos c34] at H
                                    have c34b0 : decide (t177 < 1) = true := decide_eq_true c34
                                    clear c34
                                    have H' := Aside0.mk H
                                    clear H
                                    go_wp2
                                    repeat (go_quiet (fail); try go_wp2)
                                    go_meet
                                    case rel => exact ⟨_, (true), (by first | rfl | (simp; done) | (simp [*]; done)), H', ⟨by have := HJ1.out; first | omega | exact Nat.le_refl _⟩, by repeat (first | exact Drawn0.refl _ | apply Drawn0.step)⟩
                                  · rw [if_neg c34] at H
                                    have c34b0 : decide (t177 < 1) = false := decide_eq_false c34
                                    clear c34
                                    replace H := Option.bind_eq_some_iff.mp H
                                    obtain ⟨t180, A350, H⟩ := H
                                    replace H : (if t177 > t180 then (hibernacleref48_Of.j1 kj1 t175 t176 t177 t178 t179 true) else (if t178 < 0 then (hibernacleref48_Of.j1 kj1 t175 t176 t177 t178 t179 true) else (if t178 > 23 then (hibernacleref48_Of.j1 kj1 t175 t176 t177 t178 t179 true) else (if t179 < 0 then (hibernacleref48_Of.j1 kj1 t175 t176 t177 t178 t179 true) else (hibernacleref48_Of.j1 kj1 t175 t176 t177 t178 t179 (decide (t179 > 59))))))) = some (r1, r2) := H
                                    have A35 := Aside0.mk A350
                                    clear A350
                                    by_cases c36 : t177 > t180
                                    · rw [if_pos c36] at H
                                      have c36b0 : decide (t180 < t177) = true := decide_eq_true c36
                                      clear c36
                                      have H' := Aside0.mk H
                                      clear H
                                      go_wp2_with (first | (go_at_call 32; (with_reducible refine (hibernacleref48_days.calls t175 t176 t180 _ A35.out).mono ?_); rintro e w' ⟨rfl, ⟨nd, rfl⟩⟩; (try first | exact ⟨rfl, _, World.drewN_drewN _ _ _⟩ | exact ⟨rfl, _, Eq.trans (World.drewN_drewN _ _ _) (congrArg (World.drewN _) (Nat.add_assoc _ _ _))⟩)))
                                      repeat (go_quiet (first | (go_at_call 32; (with_reducible refine (hibernacleref48_days.calls t175 t176 t180 _ A35.out).mono ?_); rintro e w' ⟨rfl, ⟨nd, rfl⟩⟩; (try first | exact ⟨rfl, _, World.drewN_drewN _ _ _⟩ | exact ⟨rfl, _, Eq.trans (World.drewN_drewN _ _ _) (congrArg (World.drewN _) (Nat.add_assoc _ _ _))⟩))); try go_wp2_with (first | (go_at_call 32; (with_reducible refine (hibernacleref48_days.calls t175 t176 t180 _ A35.out).mono ?_); rintro e w' ⟨rfl, ⟨nd, rfl⟩⟩; (try first | exact ⟨rfl, _, World.drewN_drewN _ _ _⟩ | exact ⟨rfl, _, Eq.trans (World.drewN_drewN _ _ _) (congrArg (World.drewN _) (Nat.add_assoc _ _ _))⟩))))
                                      go_meet
                                      case rel => exact ⟨_, (true), (by first | rfl | (simp; done) | (simp [*]; done)), H', ⟨by have := HJ1.out; first | omega | exact Nat.le_refl _⟩, by repeat (first | exact Drawn0.refl _ | apply Drawn0.step)⟩
                                    · rw [if_neg c36] at H
                                      have c36b0 : decide (t180 < t177) = false := decide_eq_false c36
                                      clear c36
                                      by_cases c37 : t178 < 0
                                      · rw [if_pos c37] at H
                                        have c37b0 : decide (t178 < 0) = true := decide_eq_true c37
                                        clear c37
                                        have H' := Aside0.mk H
                                        clear H
                                        go_wp2_with (first | (go_at_call 32; (with_reducible refine (hibernacleref48_days.calls t175 t176 t180 _ A35.out).mono ?_); rintro e w' ⟨rfl, ⟨nd, rfl⟩⟩; (try first | exact ⟨rfl, _, World.drewN_drewN _ _ _⟩ | exact ⟨rfl, _, Eq.trans (World.drewN_drewN _ _ _) (congrArg (World.drewN _) (Nat.add_assoc _ _ _))⟩)))
                                        repeat (go_quiet (first | (go_at_call 32; (with_reducible refine (hibernacleref48_days.calls t175 t176 t180 _ A35.out).mono ?_); rintro e w' ⟨rfl, ⟨nd, rfl⟩⟩; (try first | exact ⟨rfl, _, World.drewN_drewN _ _ _⟩ | exact ⟨rfl, _, Eq.trans (World.drewN_drewN _ _ _) (congrArg (World.drewN _) (Nat.add_assoc _ _ _))⟩))); try go_wp2_with (first | (go_at_call 32; (with_reducible refine (hibernacleref48_days.calls t175 t176 t180 _ A35.out).mono ?_); rintro e w' ⟨rfl, ⟨nd, rfl⟩⟩; (try first | exact ⟨rfl, _, World.drewN_drewN _ _ _⟩ | exact ⟨rfl, _, Eq.trans (World.drewN_drewN _ _ _) (congrArg (World.drewN _) (Nat.add_assoc _ _ _))⟩))))
                                        go_meet
                                        case rel => exact ⟨_, (true), (by first | rfl | (simp; done) | (simp [*]; done)), H', ⟨by have := HJ1.out; first | omega | exact Nat.le_refl _⟩, by repeat (first | exact Drawn0.refl _ | apply Drawn0.step)⟩
                                      · rw [if_neg c37] at H
                                        have c37b0 : decide (t178 < 0) = false := decide_eq_false c37
                                        clear c37
                                        by_cases c38 : t178 > 23
                                        · rw [if_pos c38] at H
                                          have c38b0 : decide (23 < t178) = true := decide_eq_true c38
                                          clear c38
                                          have H' := Aside0.mk H
                                          clear H
                                          go_wp2_with (first | (go_at_call 32; (with_reducible refine (hibernacleref48_days.calls t175 t176 t180 _ A35.out).mono ?_); rintro e w' ⟨rfl, ⟨nd, rfl⟩⟩; (try first | exact ⟨rfl, _, World.drewN_drewN _ _ _⟩ | exact ⟨rfl, _, Eq.trans (World.drewN_drewN _ _ _) (congrArg (World.drewN _) (Nat.add_assoc _ _ _))⟩)))
                                          repeat (go_quiet (first | (go_at_call 32; (with_reducible refine (hibernacleref48_days.calls t175 t176 t180 _ A35.out).mono ?_); rintro e w' ⟨rfl, ⟨nd, rfl⟩⟩; (try first | exact ⟨rfl, _, World.drewN_drewN _ _ _⟩ | exact ⟨rfl, _, Eq.trans (World.drewN_drewN _ _ _) (congrArg (World.drewN _) (Nat.add_assoc _ _ _))⟩))); try go_wp2_with (first | (go_at_call 32; (with_reducible refine (hibernacleref48_days.calls t175 t176 t180 _ A35.out).mono ?_); rintro e w' ⟨rfl, ⟨nd, rfl⟩⟩; (try first | exact ⟨rfl, _, World.drewN_drewN _ _ _⟩ | exact ⟨rfl, _, Eq.trans (World.drewN_drewN _ _ _) (congrArg (World.drewN _) (Nat.add_assoc _ _ _))⟩))))
                                          go_meet
                                          case rel => exact ⟨_, (true), (by first | rfl | (simp; done) | (simp [*]; done)), H', ⟨by have := HJ1.out; first | omega | exact Nat.le_refl _⟩, by repeat (first | exact Drawn0.refl _ | apply Drawn0.step)⟩
                                        · rw [if_neg c38] at H
                                          have c38b0 : decide (23 < t178) = false := decide_eq_false c38
                                          clear c38
                                          by_cases c39 : t179 < 0
                                          · rw [if_pos c39] at H
                                            have c39b0 : decide (t179 < 0) = true := decide_eq_true c39
                                            clear c39
                                            have H' := Aside0.mk H
                                            clear H
                                            go_wp2_with (first | (go_at_call 32; (with_reducible refine (hibernacleref48_days.calls t175 t176 t180 _ A35.out).mono ?_); rintro e w' ⟨rfl, ⟨nd, rfl⟩⟩; (try first | exact ⟨rfl, _, World.drewN_drewN _ _ _⟩ | exact ⟨rfl, _, Eq.trans (World.drewN_drewN _ _ _) (congrArg (World.drewN _) (Nat.add_assoc _ _ _))⟩)))
                                            repeat (go_quiet (first | (go_at_call 32; (with_reducible refine (hibernacleref48_days.calls t175 t176 t180 _ A35.out).mono ?_); rintro e w' ⟨rfl, ⟨nd, rfl⟩⟩; (try first | exact ⟨rfl, _, World.drewN_drewN _ _ _⟩ | exact ⟨rfl, _, Eq.trans (World.drewN_drewN _ _ _) (congrArg (World.drewN _) (Nat.add_assoc _ _ _))⟩))); try go_wp2_with (first | (go_at_call 32; (with_reducible refine (hibernacleref48_days.calls t175 t176 t180 _ A35.out).mono ?_); rintro e w' ⟨rfl, ⟨nd, rfl⟩⟩; (try first | exact ⟨rfl, _, World.drewN_drewN _ _ _⟩ | exact ⟨rfl, _, Eq.trans (World.drewN_drewN _ _ _) (congrArg (World.drewN _) (Nat.add_assoc _ _ _))⟩))))
                                            go_meet
                                            case rel => exact ⟨_, (true), (by first | rfl | (simp; done) | (simp [*]; done)), H', ⟨by have := HJ1.out; first | omega | exact Nat.le_refl _⟩, by repeat (first | exact Drawn0.refl _ | apply Drawn0.step)⟩
                                          · rw [if_neg c39] at H
                                            have c39b0 : decide (t179 < 0) = false := decide_eq_false c39
                                            clear c39
                                            have H' := Aside0.mk H
                                            clear H
                                            go_wp2_with (first | (go_at_call 32; (with_reducible refine (hibernacleref48_days.calls t175 t176 t180 _ A35.out).mono ?_); rintro e w' ⟨rfl, ⟨nd, rfl⟩⟩; (try first | exact ⟨rfl, _, World.drewN_drewN _ _ _⟩ | exact ⟨rfl, _, Eq.trans (World.drewN_drewN _ _ _) (congrArg (World.drewN _) (Nat.add_assoc _ _ _))⟩)))
                                            repeat (go_quiet (first | (go_at_call 32; (with_reducible refine (hibernacleref48_days.calls t175 t176 t180 _ A35.out).mono ?_); rintro e w' ⟨rfl, ⟨nd, rfl⟩⟩; (try first | exact ⟨rfl, _, World.drewN_drewN _ _ _⟩ | exact ⟨rfl, _, Eq.trans (World.drewN_drewN _ _ _) (congrArg (World.drewN _) (Nat.add_assoc _ _ _))⟩))); try go_wp2_with (first | (go_at_call 32; (with_reducible refine (hibernacleref48_days.calls t175 t176 t180 _ A35.out).mono ?_); rintro e w' ⟨rfl, ⟨nd, rfl⟩⟩; (try first | exact ⟨rfl, _, World.drewN_drewN _ _ _⟩ | exact ⟨rfl, _, Eq.trans (World.drewN_drewN _ _ _) (congrArg (World.drewN _) (Nat.add_assoc _ _ _))⟩))))
                                            go_meet
                                            case rel => exact ⟨_, (decide (t179 > 59)), (by first | rfl | (simp; done) | (simp [*]; done)), H', ⟨by have := HJ1.out; first | omega | exact Nat.le_refl _⟩, by repeat (first | exact Drawn0.refl _ | apply Drawn0.step)⟩
                          case rest =>
                            clear HC30
                            try clear c1
                            try clear c2
                            try clear p2
                            try clear c3
                            try clear c3b0
                            try clear c3b1
                            try clear c4
                            try clear c4b0
                            try clear c4b1
                            try clear c5
                            try clear c5b0
                            try clear c5b1
                            try clear c6
                            try clear c6b0
                            try clear c6b1
                            try clear c7
                            try clear c7b0
                            try clear c7b1
                            try clear c8
                            try clear c8b0
                            try clear c8b1
                            try clear c8b2
                            try clear c9
                            try clear c9b0
                            try clear c9b1
                            try clear c10
                            try clear c10b0
                            try clear c10b1
                            try clear c11
                            try clear c11b0
                            try clear c11b1
                            try clear c11b2
                            try clear c12
                            try clear c12b0
                            try clear c12b1
                            try clear c13
                            try clear c13b0
                            try clear c13b1
                            try clear c14
                            try clear c14b0
                            try clear c14b1
                            try clear c14b2
                            try clear c15
                            try clear c16
                            try clear c16b0
                            try clear c16b1
                            try clear c17
                            try clear c17b0
                            try clear c17b1
                            try clear c19
                            try clear c19b0
                            try clear c19b1
                            try clear c20
                            try clear c20b0
                            try clear c20b1
                            try clear c22
                            try clear c22b0
                            try clear c22b1
                            try clear c23
                            try clear c23b0
                            try clear c23b1
                            try clear c25
                            try clear c25b0
                            try clear c25b1
                            try clear c26
                            try clear c26b0
                            try clear c26b1
                            try clear c28
                            try clear c28b0
                            try clear c28b1
                            try clear c31
                            try clear c31b0
                            try clear c32
                            try clear c32b0
                            try clear c33
                            try clear c33b0
                            try clear c34
                            try clear c34b0
                            try clear c36
                            try clear c36b0
                            try clear c37
                            try clear c37b0
                            try clear c38
                            try clear c38b0
                            try clear c39
                            try clear c39b0
                            try clear p2
                            obtain ⟨kq, x81_29, rfl, HA, HJ29, ⟨mc29, rfl⟩⟩ := hcut
                            cases kq with
                            | zero => exact absurd HA.out (by simp [hibernacleref48_Of.j1])
                            | succ kj29 =>
                              have H := HA.out
                              clear HA
                              simp only [hibernacleref48_Of.j1] at H
                              by_cases c40 : x81_29 = true
                              · subst c40
                                have H1 : (some (0, false)) = some (r1, r2) := by rw [if_pos rfl] at H; exact H
                                clear H
                                have H := H1
                                clear H1
                                simp only [Option.some.injEq, Prod.mk.injEq] at H
                                obtain ⟨rfl, rfl⟩ := H
                                go_wp2
                                repeat (go_quiet (fail); try go_wp2)
                                go_ret2
                                exact ⟨by first | rfl | (simp; done) | (simp [*]; done), by repeat (first | exact Drawn0.refl _ | apply Drawn0.step)⟩
                              · replace c40 := Bool.eq_false_iff.mpr c40
                                subst c40
                                have H1 : (hibernacleref48_Of.l0 kj29 t175 t176 t178 t179 (wrap64 (t177 - 1)) 1) = some (r1, r2) := by rw [if_neg (show ¬ (false = true) by decide)] at H; exact H
                                clear H
                                have H := H1
                                clear H1
                                have H' := Aside0.mk H
                                clear H
                                go_wp2
                                repeat (go_quiet (fail); try go_wp2)
                                go_loopg [9, 10] kj29 (fun kq v9 v10 w' => ∃ (x9_3 : Int) (x10_3 : Int), v9 = .int .i64 x9_3 ∧ v10 = .int .i64 x10_3 ∧ Aside0 (hibernacleref48_Of.l0 kq t175 t176 t178 t179 x9_3 x10_3 = some (r1, r2)) ∧ Aside0 (kq ≤ kj29) ∧ Drawn0 w w')
                                case atStart => exact ⟨(wrap64 (t177 - 1)), (1), (by first | rfl | (simp; done) | (simp [*]; done)), (by first | rfl | (simp; done) | (simp [*]; done)), H', ⟨Nat.le_refl _⟩, by repeat (first | exact Drawn0.refl _ | apply Drawn0.step)⟩
                                case round =>
                                  clear H'
                                  try clear c1
                                  try clear c2
                                  try clear p2
                                  try clear c3
                                  try clear c3b0
                                  try clear c3b1
                                  try clear c4
                                  try clear c4b0
                                  try clear c4b1
                                  try clear c5
                                  try clear c5b0
                                  try clear c5b1
                                  try clear c6
                                  try clear c6b0
                                  try clear c6b1
                                  try clear p6
                                  try clear c7
                                  try clear c7b0
                                  try clear c7b1
                                  try clear c8
                                  try clear c8b0
                                  try clear c8b1
                                  try clear c8b2
                                  try clear c9
                                  try clear c9b0
                                  try clear c9b1
                                  try clear c10
                                  try clear c10b0
                                  try clear c10b1
                                  try clear c11
                                  try clear c11b0
                                  try clear c11b1
                                  try clear c11b2
                                  try clear c12
                                  try clear c12b0
                                  try clear c12b1
                                  try clear c13
                                  try clear c13b0
                                  try clear c13b1
                                  try clear c14
                                  try clear c14b0
                                  try clear c14b1
                                  try clear c14b2
                                  try clear c15
                                  try clear c16
                                  try clear c16b0
                                  try clear c16b1
                                  try clear c17
                                  try clear c17b0
                                  try clear c17b1
                                  try clear c19
                                  try clear c19b0
                                  try clear c19b1
                                  try clear c20
                                  try clear c20b0
                                  try clear c20b1
                                  try clear c22
                                  try clear c22b0
                                  try clear c22b1
                                  try clear c23
                                  try clear c23b0
                                  try clear c23b1
                                  try clear c25
                                  try clear c25b0
                                  try clear c25b1
                                  try clear c26
                                  try clear c26b0
                                  try clear c26b1
                                  try clear c28
                                  try clear c28b0
                                  try clear c28b1
                                  try clear c29
                                  try clear c31
                                  try clear c31b0
                                  try clear c32
                                  try clear c32b0
                                  try clear c33
                                  try clear c33b0
                                  try clear c34
                                  try clear c34b0
                                  try clear c36
                                  try clear c36b0
                                  try clear c37
                                  try clear c37b0
                                  try clear c38
                                  try clear c38b0
                                  try clear c39
                                  try clear c39b0
                                  try clear c40
                                  try clear p2
                                  obtain ⟨x9_3, x10_3, rfl, rfl, HA, HK3, ⟨m3, rfl⟩⟩ := hrel
                                  cases gk with
                                  | zero => exact absurd HA.out (by simp [hibernacleref48_Of.l0])
                                  | succ k3 =>
                                    have H := HA.out
                                    clear HA
                                    simp only [hibernacleref48_Of.l0] at H
                                    by_cases c41 : x10_3 < t176
                                    · rw [if_pos c41] at H
                                      have c41b0 : decide (x10_3 < t176) = true := decide_eq_true c41
                                      clear c41
                                      replace H := Option.bind_eq_some_iff.mp H
                                      obtain ⟨t181, A420, H⟩ := H
                                      replace H : (hibernacleref48_Of.l0 k3 t175 t176 t178 t179 (wrap64 (x9_3 + t181)) (wrap64 (x10_3 + 1))) = some (r1, r2) := H
                                      have A42 := Aside0.mk A420
                                      clear A420
                                      have H' := Aside0.mk H
                                      clear H
                                      go_wp2_with (first | (go_at_call 32; (with_reducible refine (hibernacleref48_days.calls t175 x10_3 t181 _ A42.out).mono ?_); rintro e w' ⟨rfl, ⟨nd, rfl⟩⟩; (try first | exact ⟨rfl, _, World.drewN_drewN _ _ _⟩ | exact ⟨rfl, _, Eq.trans (World.drewN_drewN _ _ _) (congrArg (World.drewN _) (Nat.add_assoc _ _ _))⟩)))
                                      repeat (go_quiet (first | (go_at_call 32; (with_reducible refine (hibernacleref48_days.calls t175 x10_3 t181 _ A42.out).mono ?_); rintro e w' ⟨rfl, ⟨nd, rfl⟩⟩; (try first | exact ⟨rfl, _, World.drewN_drewN _ _ _⟩ | exact ⟨rfl, _, Eq.trans (World.drewN_drewN _ _ _) (congrArg (World.drewN _) (Nat.add_assoc _ _ _))⟩))); try go_wp2_with (first | (go_at_call 32; (with_reducible refine (hibernacleref48_days.calls t175 x10_3 t181 _ A42.out).mono ?_); rintro e w' ⟨rfl, ⟨nd, rfl⟩⟩; (try first | exact ⟨rfl, _, World.drewN_drewN _ _ _⟩ | exact ⟨rfl, _, Eq.trans (World.drewN_drewN _ _ _) (congrArg (World.drewN _) (Nat.add_assoc _ _ _))⟩))))
                                      go_roundg k3
                                      case measure => have := HJ1.out; have := HJ29.out; have := HK3.out; omega
                                      case rel => exact ⟨(wrap64 (x9_3 + t181)), (wrap64 (x10_3 + 1)), (by first | rfl | (simp; done) | (simp [*]; done)), (by first | rfl | (simp; done) | (simp [*]; done)), H', ⟨by have := HJ1.out; have := HJ29.out; have := HK3.out; omega⟩, by repeat (first | exact Drawn0.refl _ | apply Drawn0.step)⟩
                                    · rw [if_neg c41] at H
                                      have c41b0 : decide (x10_3 < t176) = false := decide_eq_false c41
                                      clear c41
                                      have H' := Aside0.mk H
                                      clear H
                                      go_wp2
                                      repeat (go_quiet (fail); try go_wp2)
                                      go_loopg [9, 11] k3 (fun kq v9 v11 w' => ∃ (x9_4 : Int) (x11_4 : Int), v9 = .int .i64 x9_4 ∧ v11 = .int .i64 x11_4 ∧ Aside0 (hibernacleref48_Of.l1 kq t175 t178 t179 x9_4 x11_4 = some (r1, r2)) ∧ Aside0 (kq ≤ k3) ∧ Drawn0 w w')
                                      case atStart => exact ⟨(x9_3), (2000), (by first | rfl | (simp; done) | (simp [*]; done)), (by first | rfl | (simp; done) | (simp [*]; done)), H', ⟨Nat.le_refl _⟩, by repeat (first | exact Drawn0.refl _ | apply Drawn0.step)⟩
                                      case round =>
                                        clear H'
                                        try clear c1
                                        try clear c2
                                        try clear p2
                                        try clear c3
                                        try clear c3b0
                                        try clear c3b1
                                        try clear c4
                                        try clear c4b0
                                        try clear c4b1
                                        try clear c5
                                        try clear c5b0
                                        try clear c5b1
                                        try clear c6
                                        try clear c6b0
                                        try clear c6b1
                                        try clear p6
                                        try clear c7
                                        try clear c7b0
                                        try clear c7b1
                                        try clear c8
                                        try clear c8b0
                                        try clear c8b1
                                        try clear c8b2
                                        try clear c9
                                        try clear c9b0
                                        try clear c9b1
                                        try clear c10
                                        try clear c10b0
                                        try clear c10b1
                                        try clear c11
                                        try clear c11b0
                                        try clear c11b1
                                        try clear c11b2
                                        try clear c12
                                        try clear c12b0
                                        try clear c12b1
                                        try clear c13
                                        try clear c13b0
                                        try clear c13b1
                                        try clear c14
                                        try clear c14b0
                                        try clear c14b1
                                        try clear c14b2
                                        try clear c15
                                        try clear c16
                                        try clear c16b0
                                        try clear c16b1
                                        try clear c17
                                        try clear c17b0
                                        try clear c17b1
                                        try clear c19
                                        try clear c19b0
                                        try clear c19b1
                                        try clear c20
                                        try clear c20b0
                                        try clear c20b1
                                        try clear c22
                                        try clear c22b0
                                        try clear c22b1
                                        try clear c23
                                        try clear c23b0
                                        try clear c23b1
                                        try clear c25
                                        try clear c25b0
                                        try clear c25b1
                                        try clear c26
                                        try clear c26b0
                                        try clear c26b1
                                        try clear c28
                                        try clear c28b0
                                        try clear c28b1
                                        try clear c29
                                        try clear c31
                                        try clear c31b0
                                        try clear c32
                                        try clear c32b0
                                        try clear c33
                                        try clear c33b0
                                        try clear c34
                                        try clear c34b0
                                        try clear c36
                                        try clear c36b0
                                        try clear c37
                                        try clear c37b0
                                        try clear c38
                                        try clear c38b0
                                        try clear c39
                                        try clear c39b0
                                        try clear c40
                                        try clear c41
                                        try clear c41b0
                                        try clear p2
                                        try clear p6
                                        obtain ⟨x9_4, x11_4, rfl, rfl, HA, HK4, ⟨m4, rfl⟩⟩ := hrel
                                        cases gk with
                                        | zero => exact absurd HA.out (by simp [hibernacleref48_Of.l1])
                                        | succ k4 =>
                                          have H := HA.out
                                          clear HA
                                          simp only [hibernacleref48_Of.l1] at H
                                          by_cases c43 : x11_4 < t175
                                          · rw [if_pos c43] at H
                                            have c43b0 : decide (x11_4 < t175) = true := decide_eq_true c43
                                            clear c43
                                            replace H := Option.bind_eq_some_iff.mp H
                                            obtain ⟨t182, A440, H⟩ := H
                                            replace H : (if t182 = true then (hibernacleref48_Of.l1 k4 t175 t178 t179 (wrap64 ((wrap64 (x9_4 + 365)) + 1)) (wrap64 (x11_4 + 1))) else (hibernacleref48_Of.l1 k4 t175 t178 t179 (wrap64 (x9_4 + 365)) (wrap64 (x11_4 + 1)))) = some (r1, r2) := H
                                            have A44 := Aside0.mk A440
                                            clear A440
                                            by_cases c45 : t182 = true
                                            · subst c45
                                              have H1 : (hibernacleref48_Of.l1 k4 t175 t178 t179 (wrap64 ((wrap64 (x9_4 + 365)) + 1)) (wrap64 (x11_4 + 1))) = some (r1, r2) := by rw [if_pos rfl] at H; exact H
                                              clear H
                                              have H := H1
                                              clear H1
                                              have H' := Aside0.mk H
                                              clear H
                                              go_wp2_with (first | (go_at_call 33; (with_reducible refine (hibernacleref48_leap.calls x11_4 true _ A44.out).mono ?_); rintro e w' ⟨rfl, ⟨nd, rfl⟩⟩; (try first | exact ⟨rfl, _, World.drewN_drewN _ _ _⟩ | exact ⟨rfl, _, Eq.trans (World.drewN_drewN _ _ _) (congrArg (World.drewN _) (Nat.add_assoc _ _ _))⟩)))
                                              repeat (go_quiet (first | (go_at_call 33; (with_reducible refine (hibernacleref48_leap.calls x11_4 true _ A44.out).mono ?_); rintro e w' ⟨rfl, ⟨nd, rfl⟩⟩; (try first | exact ⟨rfl, _, World.drewN_drewN _ _ _⟩ | exact ⟨rfl, _, Eq.trans (World.drewN_drewN _ _ _) (congrArg (World.drewN _) (Nat.add_assoc _ _ _))⟩))); try go_wp2_with (first | (go_at_call 33; (with_reducible refine (hibernacleref48_leap.calls x11_4 true _ A44.out).mono ?_); rintro e w' ⟨rfl, ⟨nd, rfl⟩⟩; (try first | exact ⟨rfl, _, World.drewN_drewN _ _ _⟩ | exact ⟨rfl, _, Eq.trans (World.drewN_drewN _ _ _) (congrArg (World.drewN _) (Nat.add_assoc _ _ _))⟩))))
                                              go_roundg k4
                                              case measure => have := HJ1.out; have := HJ29.out; have := HK3.out; have := HK4.out; omega
                                              case rel => exact ⟨(wrap64 ((wrap64 (x9_4 + 365)) + 1)), (wrap64 (x11_4 + 1)), (by first | rfl | (simp; done) | (simp [*]; done)), (by first | rfl | (simp; done) | (simp [*]; done)), H', ⟨by have := HJ1.out; have := HJ29.out; have := HK3.out; have := HK4.out; omega⟩, by repeat (first | exact Drawn0.refl _ | apply Drawn0.step)⟩
                                            · replace c45 := Bool.eq_false_iff.mpr c45
                                              subst c45
                                              have H1 : (hibernacleref48_Of.l1 k4 t175 t178 t179 (wrap64 (x9_4 + 365)) (wrap64 (x11_4 + 1))) = some (r1, r2) := by rw [if_neg (show ¬ (false = true) by decide)] at H; exact H
                                              clear H
                                              have H := H1
                                              clear H1
                                              have H' := Aside0.mk H
                                              clear H
                                              go_wp2_with (first | (go_at_call 33; (with_reducible refine (hibernacleref48_leap.calls x11_4 false _ A44.out).mono ?_); rintro e w' ⟨rfl, ⟨nd, rfl⟩⟩; (try first | exact ⟨rfl, _, World.drewN_drewN _ _ _⟩ | exact ⟨rfl, _, Eq.trans (World.drewN_drewN _ _ _) (congrArg (World.drewN _) (Nat.add_assoc _ _ _))⟩)))
                                              repeat (go_quiet (first | (go_at_call 33; (with_reducible refine (hibernacleref48_leap.calls x11_4 false _ A44.out).mono ?_); rintro e w' ⟨rfl, ⟨nd, rfl⟩⟩; (try first | exact ⟨rfl, _, World.drewN_drewN _ _ _⟩ | exact ⟨rfl, _, Eq.trans (World.drewN_drewN _ _ _) (congrArg (World.drewN _) (Nat.add_assoc _ _ _))⟩))); try go_wp2_with (first | (go_at_call 33; (with_reducible refine (hibernacleref48_leap.calls x11_4 false _ A44.out).mono ?_); rintro e w' ⟨rfl, ⟨nd, rfl⟩⟩; (try first | exact ⟨rfl, _, World.drewN_drewN _ _ _⟩ | exact ⟨rfl, _, Eq.trans (World.drewN_drewN _ _ _) (congrArg (World.drewN _) (Nat.add_assoc _ _ _))⟩))))
                                              go_roundg k4
                                              case measure => have := HJ1.out; have := HJ29.out; have := HK3.out; have := HK4.out; omega
                                              case rel => exact ⟨(wrap64 (x9_4 + 365)), (wrap64 (x11_4 + 1)), (by first | rfl | (simp; done) | (simp [*]; done)), (by first | rfl | (simp; done) | (simp [*]; done)), H', ⟨by have := HJ1.out; have := HJ29.out; have := HK3.out; have := HK4.out; omega⟩, by repeat (first | exact Drawn0.refl _ | apply Drawn0.step)⟩
                                          · rw [if_neg c43] at H
                                            have c43b0 : decide (x11_4 < t175) = false := decide_eq_false c43
                                            clear c43
                                            have H' := Aside0.mk H
                                            clear H
                                            go_wp2
                                            repeat (go_quiet (fail); try go_wp2)
                                            go_loopg [9, 12] k4 (fun kq v9 v12 w' => ∃ (x9_5 : Int) (x12_5 : Int), v9 = .int .i64 x9_5 ∧ v12 = .int .i64 x12_5 ∧ Aside0 (hibernacleref48_Of.l2 kq t178 t179 x9_5 x12_5 = some (r1, r2)) ∧ Aside0 (kq ≤ k4) ∧ Drawn0 w w')
                                            case atStart => exact ⟨(x9_4), (t175), (by first | rfl | (simp; done) | (simp [*]; done)), (by first | rfl | (simp; done) | (simp [*]; done)), H', ⟨Nat.le_refl _⟩, by repeat (first | exact Drawn0.refl _ | apply Drawn0.step)⟩
                                            case round =>
                                              clear H'
                                              try clear c1
                                              try clear c2
                                              try clear p2
                                              try clear c3
                                              try clear c3b0
                                              try clear c3b1
                                              try clear c4
                                              try clear c4b0
                                              try clear c4b1
                                              try clear c5
                                              try clear c5b0
                                              try clear c5b1
                                              try clear c6
                                              try clear c6b0
                                              try clear c6b1
                                              try clear p6
                                              try clear c7
                                              try clear c7b0
                                              try clear c7b1
                                              try clear c8
                                              try clear c8b0
                                              try clear c8b1
                                              try clear c8b2
                                              try clear c9
                                              try clear c9b0
                                              try clear c9b1
                                              try clear c10
                                              try clear c10b0
                                              try clear c10b1
                                              try clear c11
                                              try clear c11b0
                                              try clear c11b1
                                              try clear c11b2
                                              try clear c12
                                              try clear c12b0
                                              try clear c12b1
                                              try clear c13
                                              try clear c13b0
                                              try clear c13b1
                                              try clear c14
                                              try clear c14b0
                                              try clear c14b1
                                              try clear c14b2
                                              try clear c15
                                              try clear c16
                                              try clear c16b0
                                              try clear c16b1
                                              try clear c17
                                              try clear c17b0
                                              try clear c17b1
                                              try clear c19
                                              try clear c19b0
                                              try clear c19b1
                                              try clear c20
                                              try clear c20b0
                                              try clear c20b1
                                              try clear c22
                                              try clear c22b0
                                              try clear c22b1
                                              try clear c23
                                              try clear c23b0
                                              try clear c23b1
                                              try clear c25
                                              try clear c25b0
                                              try clear c25b1
                                              try clear c26
                                              try clear c26b0
                                              try clear c26b1
                                              try clear c28
                                              try clear c28b0
                                              try clear c28b1
                                              try clear c29
                                              try clear c31
                                              try clear c31b0
                                              try clear c32
                                              try clear c32b0
                                              try clear c33
                                              try clear c33b0
                                              try clear c34
                                              try clear c34b0
                                              try clear c36
                                              try clear c36b0
                                              try clear c37
                                              try clear c37b0
                                              try clear c38
                                              try clear c38b0
                                              try clear c39
                                              try clear c39b0
                                              try clear c40
                                              try clear c41
                                              try clear c41b0
                                              try clear c43
                                              try clear c43b0
                                              try clear c45
                                              try clear p2
                                              try clear p6
                                              obtain ⟨x9_5, x12_5, rfl, rfl, HA, HK5, ⟨m5, rfl⟩⟩ := hrel
                                              cases gk with
                                              | zero => exact absurd HA.out (by simp [hibernacleref48_Of.l2])
                                              | succ k5 =>
                                                have H := HA.out
                                                clear HA
                                                simp only [hibernacleref48_Of.l2] at H
                                                by_cases c46 : x12_5 < 2000
                                                · rw [if_pos c46] at H
                                                  have c46b0 : decide (x12_5 < 2000) = true := decide_eq_true c46
                                                  clear c46
                                                  replace H := Option.bind_eq_some_iff.mp H
                                                  obtain ⟨t183, A470, H⟩ := H
                                                  replace H : (if t183 = true then (hibernacleref48_Of.l2 k5 t178 t179 (wrap64 ((wrap64 (x9_5 - 365)) - 1)) (wrap64 (x12_5 + 1))) else (hibernacleref48_Of.l2 k5 t178 t179 (wrap64 (x9_5 - 365)) (wrap64 (x12_5 + 1)))) = some (r1, r2) := H
                                                  have A47 := Aside0.mk A470
                                                  clear A470
                                                  by_cases c48 : t183 = true
                                                  · subst c48
                                                    have H1 : (hibernacleref48_Of.l2 k5 t178 t179 (wrap64 ((wrap64 (x9_5 - 365)) - 1)) (wrap64 (x12_5 + 1))) = some (r1, r2) := by rw [if_pos rfl] at H; exact H
                                                    clear H
                                                    have H := H1
                                                    clear H1
                                                    have H' := Aside0.mk H
                                                    clear H
                                                    go_wp2_with (first | (go_at_call 33; (with_reducible refine (hibernacleref48_leap.calls x12_5 true _ A47.out).mono ?_); rintro e w' ⟨rfl, ⟨nd, rfl⟩⟩; (try first | exact ⟨rfl, _, World.drewN_drewN _ _ _⟩ | exact ⟨rfl, _, Eq.trans (World.drewN_drewN _ _ _) (congrArg (World.drewN _) (Nat.add_assoc _ _ _))⟩)))
                                                    repeat (go_quiet (first | (go_at_call 33; (with_reducible refine (hibernacleref48_leap.calls x12_5 true _ A47.out).mono ?_); rintro e w' ⟨rfl, ⟨nd, rfl⟩⟩; (try first | exact ⟨rfl, _, World.drewN_drewN _ _ _⟩ | exact ⟨rfl, _, Eq.trans (World.drewN_drewN _ _ _) (congrArg (World.drewN _) (Nat.add_assoc _ _ _))⟩))); try go_wp2_with (first | (go_at_call 33; (with_reducible refine (hibernacleref48_leap.calls x12_5 true _ A47.out).mono ?_); rintro e w' ⟨rfl, ⟨nd, rfl⟩⟩; (try first | exact ⟨rfl, _, World.drewN_drewN _ _ _⟩ | exact ⟨rfl, _, Eq.trans (World.drewN_drewN _ _ _) (congrArg (World.drewN _) (Nat.add_assoc _ _ _))⟩))))
                                                    go_roundg k5
                                                    case measure => have := HJ1.out; have := HJ29.out; have := HK3.out; have := HK4.out; have := HK5.out; omega
                                                    case rel => exact ⟨(wrap64 ((wrap64 (x9_5 - 365)) - 1)), (wrap64 (x12_5 + 1)), (by first | rfl | (simp; done) | (simp [*]; done)), (by first | rfl | (simp; done) | (simp [*]; done)), H', ⟨by have := HJ1.out; have := HJ29.out; have := HK3.out; have := HK4.out; have := HK5.out; omega⟩, by repeat (first | exact Drawn0.refl _ | apply Drawn0.step)⟩
                                                  · replace c48 := Bool.eq_false_iff.mpr c48
                                                    subst c48
                                                    have H1 : (hibernacleref48_Of.l2 k5 t178 t179 (wrap64 (x9_5 - 365)) (wrap64 (x12_5 + 1))) = some (r1, r2) := by rw [if_neg (show ¬ (false = true) by decide)] at H; exact H
                                                    clear H
                                                    have H := H1
                                                    clear H1
                                                    have H' := Aside0.mk H
                                                    clear H
                                                    go_wp2_with (first | (go_at_call 33; (with_reducible refine (hibernacleref48_leap.calls x12_5 false _ A47.out).mono ?_); rintro e w' ⟨rfl, ⟨nd, rfl⟩⟩; (try first | exact ⟨rfl, _, World.drewN_drewN _ _ _⟩ | exact ⟨rfl, _, Eq.trans (World.drewN_drewN _ _ _) (congrArg (World.drewN _) (Nat.add_assoc _ _ _))⟩)))
                                                    repeat (go_quiet (first | (go_at_call 33; (with_reducible refine (hibernacleref48_leap.calls x12_5 false _ A47.out).mono ?_); rintro e w' ⟨rfl, ⟨nd, rfl⟩⟩; (try first | exact ⟨rfl, _, World.drewN_drewN _ _ _⟩ | exact ⟨rfl, _, Eq.trans (World.drewN_drewN _ _ _) (congrArg (World.drewN _) (Nat.add_assoc _ _ _))⟩))); try go_wp2_with (first | (go_at_call 33; (with_reducible refine (hibernacleref48_leap.calls x12_5 false _ A47.out).mono ?_); rintro e w' ⟨rfl, ⟨nd, rfl⟩⟩; (try first | exact ⟨rfl, _, World.drewN_drewN _ _ _⟩ | exact ⟨rfl, _, Eq.trans (World.drewN_drewN _ _ _) (congrArg (World.drewN _) (Nat.add_assoc _ _ _))⟩))))
                                                    go_roundg k5
                                                    case measure => have := HJ1.out; have := HJ29.out; have := HK3.out; have := HK4.out; have := HK5.out; omega
                                                    case rel => exact ⟨(wrap64 (x9_5 - 365)), (wrap64 (x12_5 + 1)), (by first | rfl | (simp; done) | (simp [*]; done)), (by first | rfl | (simp; done) | (simp [*]; done)), H', ⟨by have := HJ1.out; have := HJ29.out; have := HK3.out; have := HK4.out; have := HK5.out; omega⟩, by repeat (first | exact Drawn0.refl _ | apply Drawn0.step)⟩
                                                · rw [if_neg c46] at H
                                                  have c46b0 : decide (x12_5 < 2000) = false := decide_eq_false c46
                                                  clear c46
                                                  simp only [Option.some.injEq, Prod.mk.injEq] at H
                                                  obtain ⟨rfl, rfl⟩ := H
                                                  go_wp2
                                                  repeat (go_quiet (fail); try go_wp2)
                                                  go_ret2
                                                  exact ⟨by first | rfl | (simp; done) | (simp [*]; done), by repeat (first | exact Drawn0.refl _ | apply Drawn0.step)⟩
                        · rw [if_neg c28] at H
                          exact absurd H (by simp)
                      · rw [if_neg c26] at H
                        exact absurd H (by simp)
                    · rw [if_neg c25] at H
                      exact absurd H (by simp)
                  · rw [if_neg c23] at H
                    exact absurd H (by simp)
                · rw [if_neg c22] at H
                  exact absurd H (by simp)
              · rw [if_neg c20] at H
                exact absurd H (by simp)
            · rw [if_neg c19] at H
              exact absurd H (by simp)
          · rw [if_neg c17] at H
            exact absurd H (by simp)
        · rw [if_neg c16] at H
          exact absurd H (by simp)

end Go.Proofs.Ytnanhempikhknaa.D
