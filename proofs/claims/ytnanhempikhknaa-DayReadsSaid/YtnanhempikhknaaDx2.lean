-- Made by wip/hp/hp.py (the kit's print, with functions proved by hand put in).
import Derived.Test.YtnanhempikhknaaDx0
import Derived.Test.YtnanhempikhknaaDx1
namespace Go.Proofs.Ytnanhempikhknaa.D
open Go.RowKit Go.Proofs.YtnanhempikhknaaW.PrintWords Go.Proofs.YtnanhempikhknaaW.PrintLast Go.Proofs.YtnanhempikhknaaW.PrintMore
attribute [local go_sem] max2_int min2_int max_two min_two max_three min_three max_four min_four   -- for this text's walks alone
set_option linter.unusedVariables false
set_option linter.unusedSimpArgs false

/-! ### hibernacleref48_leap: function 33 -/
def hibernacleref48_leap.f (a0 : Int) : Option (Bool) := if (Int.tmod a0 4) = 0 then (if (Int.tmod a0 100) = 0 then (some ((Int.tmod a0 400) == 0)) else (some true)) else (some false)
set_option maxHeartbeats 8000000 in
set_option maxRecDepth 100000 in
theorem hibernacleref48_leap.calls (a0 : Int) (r : Bool) (w : World) (h : hibernacleref48_leap.f a0 = some r) :
    Calls Try.prog 33 #[.int .i64 a0] w fun e w' => e = .returned (.bool r) ∧ Drawn0 w w' := by
  have H : (if (Int.tmod a0 4) = 0 then (if (Int.tmod a0 100) = 0 then (some ((Int.tmod a0 400) == 0)) else (some true)) else (some false)) = some r := h
  clear h
  by_cases c2 : (Int.tmod a0 4) = 0
  · rw [if_pos c2] at H
    have c2b0 : ((Int.tmod a0 4) == 0) = true := beq_iff_eq.mpr c2
    have c2b1 : ((Int.tmod a0 4) != 0) = false := bne_eq_false_iff_eq.mpr c2
    clear c2
    by_cases c3 : (Int.tmod a0 100) = 0
    · rw [if_pos c3] at H
      have c3b0 : ((Int.tmod a0 100) == 0) = true := beq_iff_eq.mpr c3
      have c3b1 : ((Int.tmod a0 100) != 0) = false := bne_eq_false_iff_eq.mpr c3
      clear c3
      obtain rfl := Option.some.inj H
      go_enter Try.func33, Try.ntmps33
      go_wp2
      go_ret
      exact ⟨by first | rfl | (simp; done) | (simp [*]; done), by repeat (first | exact Drawn0.refl _ | apply Drawn0.step)⟩
    · rw [if_neg c3] at H
      have c3b0 : ((Int.tmod a0 100) == 0) = false := beq_eq_false_iff_ne.mpr c3
      have c3b1 : ((Int.tmod a0 100) != 0) = true := bne_iff_ne.mpr c3
      obtain rfl := Option.some.inj H
      go_enter Try.func33, Try.ntmps33
      go_wp2
      go_ret
      exact ⟨by first | rfl | (simp; done) | (simp [*]; done), by repeat (first | exact Drawn0.refl _ | apply Drawn0.step)⟩
  · rw [if_neg c2] at H
    have c2b0 : ((Int.tmod a0 4) == 0) = false := beq_eq_false_iff_ne.mpr c2
    have c2b1 : ((Int.tmod a0 4) != 0) = true := bne_iff_ne.mpr c2
    obtain rfl := Option.some.inj H
    go_enter Try.func33, Try.ntmps33
    go_wp2
    go_ret
    exact ⟨by first | rfl | (simp; done) | (simp [*]; done), by repeat (first | exact Drawn0.refl _ | apply Drawn0.step)⟩

/-! ### hibernacleref48_days: function 32 -/
def hibernacleref48_days.f (a0 : Int) (a1 : Int) : Option (Int) := if a1 = 2 then ((hibernacleref48_leap.f a0).bind fun t130 => (if t130 = true then (some 29) else (some 28))) else (if a1 = 4 then (some 30) else (if a1 = 6 then (some 30) else (if a1 = 9 then (some 30) else (if a1 = 11 then (some 30) else (some 31)))))
set_option maxHeartbeats 8000000 in
set_option maxRecDepth 100000 in
theorem hibernacleref48_days.calls (a0 : Int) (a1 : Int) (r : Int) (w : World) (h : hibernacleref48_days.f a0 a1 = some r) :
    Calls Try.prog 32 #[.int .i64 a0, .int .i64 a1] w fun e w' => e = .returned (.int .i64 r) ∧ Drawn0 w w' := by
  have H : (if a1 = 2 then ((hibernacleref48_leap.f a0).bind fun t130 => (if t130 = true then (some 29) else (some 28))) else (if a1 = 4 then (some 30) else (if a1 = 6 then (some 30) else (if a1 = 9 then (some 30) else (if a1 = 11 then (some 30) else (some 31)))))) = some r := h
  clear h
  by_cases c3 : a1 = 2
  · rw [if_pos c3] at H
    have c3b0 : (a1 == 2) = true := beq_iff_eq.mpr c3
    have c3b1 : (a1 != 2) = false := bne_eq_false_iff_eq.mpr c3
    clear c3
    replace H := Option.bind_eq_some_iff.mp H
    obtain ⟨t130, A40, H⟩ := H
    replace H : (if t130 = true then (some 29) else (some 28)) = some r := H
    have A4 := Aside0.mk A40
    clear A40
    by_cases c5 : t130 = true
    · subst c5
      have H1 : (some 29) = some r := by rw [if_pos rfl] at H; exact H
      clear H
      have H := H1
      clear H1
      obtain rfl := Option.some.inj H
      go_enter Try.func32, Try.ntmps32
      go_wp2_with (first | ((with_reducible refine gate_callee (f := 33) rfl ?_); refine goesL_ (some 8) rfl rfl Try.func33 (by kernel_rfl) rfl #[.int .i64 a0] rfl (by (try simp only [List.map_toArray, List.map_cons, List.map_nil]); first | done | rfl | (simp only [List.length_drop, List.length_take]; rfl)) ?_; (with_reducible refine (hibernacleref48_leap.calls a0 true _ A4.out).mono ?_); rintro e w' ⟨rfl, ⟨nd, rfl⟩⟩; refine ⟨_, rfl, ?_⟩))
      go_ret
      exact ⟨by first | rfl | (simp; done) | (simp [*]; done), by repeat (first | exact Drawn0.refl _ | apply Drawn0.step)⟩
    · replace c5 := Bool.eq_false_iff.mpr c5
      subst c5
      have H1 : (some 28) = some r := by rw [if_neg (show ¬ (false = true) by decide)] at H; exact H
      clear H
      have H := H1
      clear H1
      obtain rfl := Option.some.inj H
      go_enter Try.func32, Try.ntmps32
      go_wp2_with (first | ((with_reducible refine gate_callee (f := 33) rfl ?_); refine goesL_ (some 8) rfl rfl Try.func33 (by kernel_rfl) rfl #[.int .i64 a0] rfl (by (try simp only [List.map_toArray, List.map_cons, List.map_nil]); first | done | rfl | (simp only [List.length_drop, List.length_take]; rfl)) ?_; (with_reducible refine (hibernacleref48_leap.calls a0 false _ A4.out).mono ?_); rintro e w' ⟨rfl, ⟨nd, rfl⟩⟩; refine ⟨_, rfl, ?_⟩))
      go_ret
      exact ⟨by first | rfl | (simp; done) | (simp [*]; done), by repeat (first | exact Drawn0.refl _ | apply Drawn0.step)⟩
  · rw [if_neg c3] at H
    have c3b0 : (a1 == 2) = false := beq_eq_false_iff_ne.mpr c3
    have c3b1 : (a1 != 2) = true := bne_iff_ne.mpr c3
    by_cases c6 : a1 = 4
    · rw [if_pos c6] at H
      have c6b0 : (a1 == 4) = true := beq_iff_eq.mpr c6
      have c6b1 : (a1 != 4) = false := bne_eq_false_iff_eq.mpr c6
      clear c6
      obtain rfl := Option.some.inj H
      go_enter Try.func32, Try.ntmps32
      go_wp2
      go_ret
      exact ⟨by first | rfl | (simp; done) | (simp [*]; done), by repeat (first | exact Drawn0.refl _ | apply Drawn0.step)⟩
    · rw [if_neg c6] at H
      have c6b0 : (a1 == 4) = false := beq_eq_false_iff_ne.mpr c6
      have c6b1 : (a1 != 4) = true := bne_iff_ne.mpr c6
      by_cases c7 : a1 = 6
      · rw [if_pos c7] at H
        have c7b0 : (a1 == 6) = true := beq_iff_eq.mpr c7
        have c7b1 : (a1 != 6) = false := bne_eq_false_iff_eq.mpr c7
        clear c7
        obtain rfl := Option.some.inj H
        go_enter Try.func32, Try.ntmps32
        go_wp2
        go_ret
        exact ⟨by first | rfl | (simp; done) | (simp [*]; done), by repeat (first | exact Drawn0.refl _ | apply Drawn0.step)⟩
      · rw [if_neg c7] at H
        have c7b0 : (a1 == 6) = false := beq_eq_false_iff_ne.mpr c7
        have c7b1 : (a1 != 6) = true := bne_iff_ne.mpr c7
        by_cases c8 : a1 = 9
        · rw [if_pos c8] at H
          have c8b0 : (a1 == 9) = true := beq_iff_eq.mpr c8
          have c8b1 : (a1 != 9) = false := bne_eq_false_iff_eq.mpr c8
          clear c8
          obtain rfl := Option.some.inj H
          go_enter Try.func32, Try.ntmps32
          go_wp2
          go_ret
          exact ⟨by first | rfl | (simp; done) | (simp [*]; done), by repeat (first | exact Drawn0.refl _ | apply Drawn0.step)⟩
        · rw [if_neg c8] at H
          have c8b0 : (a1 == 9) = false := beq_eq_false_iff_ne.mpr c8
          have c8b1 : (a1 != 9) = true := bne_iff_ne.mpr c8
          by_cases c9 : a1 = 11
          · rw [if_pos c9] at H
            have c9b0 : (a1 == 11) = true := beq_iff_eq.mpr c9
            have c9b1 : (a1 != 11) = false := bne_eq_false_iff_eq.mpr c9
            clear c9
            obtain rfl := Option.some.inj H
            go_enter Try.func32, Try.ntmps32
            go_wp2
            go_ret
            exact ⟨by first | rfl | (simp; done) | (simp [*]; done), by repeat (first | exact Drawn0.refl _ | apply Drawn0.step)⟩
          · rw [if_neg c9] at H
            have c9b0 : (a1 == 11) = false := beq_eq_false_iff_ne.mpr c9
            have c9b1 : (a1 != 11) = true := bne_iff_ne.mpr c9
            obtain rfl := Option.some.inj H
            go_enter Try.func32, Try.ntmps32
            go_wp2
            go_ret
            exact ⟨by first | rfl | (simp; done) | (simp [*]; done), by repeat (first | exact Drawn0.refl _ | apply Drawn0.step)⟩

/-! ### hibernacleref48_date: function 26 -/
def hibernacleref48_date.l0 : Nat → Int → Int → Int → Option (Int × Int × Int)
  | 0, _, _, _ => none
  | k + 1, x5, x6, x7 => (hibernacleref48_days.f x5 x7).bind fun t133 => (if x6 ≥ t133 then ((hibernacleref48_days.f x5 x7).bind fun t134 => (if (wrap64 (x7 + 1)) = 13 then (hibernacleref48_date.l0 k (wrap64 (x5 + 1)) (wrap64 (x6 - t134)) 1) else (hibernacleref48_date.l0 k x5 (wrap64 (x6 - t134)) (wrap64 (x7 + 1))))) else (some (x5, x7, wrap64 (x6 + 1))))
def hibernacleref48_date.f (k : Nat) (a0 : Int) : Option (Int × Int × Int) := (hibernacleref48_floor.f a0 146097).bind fun t131 => ((hibernacleref48_floor.f a0 146097).bind fun t132 => (hibernacleref48_date.l0 k (wrap64 (2000 + (wrap64 (400 * t131)))) (wrap64 (a0 - (wrap64 (146097 * t132)))) 1))
theorem hibernacleref48_date.mono_l : ∀ k, (∀ y0 y1 y2, LeO (hibernacleref48_date.l0 k y0 y1 y2) (hibernacleref48_date.l0 (k + 1) y0 y1 y2))
  | 0 => fun _ _ _ r h => by simp [hibernacleref48_date.l0] at h
  | k + 1 => by
    have ih0 := hibernacleref48_date.mono_l k
    · intro y0 y1 y2
      unfold hibernacleref48_date.l0
      repeat' first
      | (with_reducible exact ih0 _ _ _)
      | (with_reducible exact LeO.refl _)
      | (with_reducible exact LeO.none _)
      | (with_reducible refine LeO.ite ?_ ?_)
      | (with_reducible refine LeO.bind ?_ (fun _ => ?_))
      | exact ih0 _ _ _
      | exact LeO.none _
      | refine LeO.ite ?_ ?_
      | refine LeO.bind ?_ (fun _ => ?_)
theorem hibernacleref48_date.mono : ∀ a0 k, LeO (hibernacleref48_date.f k a0) (hibernacleref48_date.f (k + 1) a0) := by
  intro a0 k
  have ih0 := hibernacleref48_date.mono_l k
  unfold hibernacleref48_date.f
  repeat' first
      | (with_reducible exact ih0 _ _ _)
      | (with_reducible exact LeO.refl _)
      | (with_reducible exact LeO.none _)
      | (with_reducible refine LeO.ite ?_ ?_)
      | (with_reducible refine LeO.bind ?_ (fun _ => ?_))
      | exact ih0 _ _ _
      | exact LeO.none _
      | refine LeO.ite ?_ ?_
      | refine LeO.bind ?_ (fun _ => ?_)
set_option maxHeartbeats 8000000 in
set_option maxRecDepth 100000 in
theorem hibernacleref48_date.calls (k : Nat) (a0 : Int) (r1 : Int) (r2 : Int) (r3 : Int) (w : World) (h : hibernacleref48_date.f k a0 = some (r1, r2, r3)) :
    Calls Try.prog 26 #[.int .i64 a0] w fun e w' => e = .returned (.tuple #[.int .i64 r1, .int .i64 r2, .int .i64 r3]) ∧ Drawn0 w w' := by
  have H : ((hibernacleref48_floor.f a0 146097).bind fun t131 => ((hibernacleref48_floor.f a0 146097).bind fun t132 => (hibernacleref48_date.l0 k (wrap64 (2000 + (wrap64 (400 * t131)))) (wrap64 (a0 - (wrap64 (146097 * t132)))) 1))) = some (r1, r2, r3) := h
  clear h
  replace H := Option.bind_eq_some_iff.mp H
  obtain ⟨t131, A20, H⟩ := H
  replace H : ((hibernacleref48_floor.f a0 146097).bind fun t132 => (hibernacleref48_date.l0 k (wrap64 (2000 + (wrap64 (400 * t131)))) (wrap64 (a0 - (wrap64 (146097 * t132)))) 1)) = some (r1, r2, r3) := H
  have A2 := Aside0.mk A20
  clear A20
  replace H := Option.bind_eq_some_iff.mp H
  obtain ⟨t132, A30, H⟩ := H
  replace H : (hibernacleref48_date.l0 k (wrap64 (2000 + (wrap64 (400 * t131)))) (wrap64 (a0 - (wrap64 (146097 * t132)))) 1) = some (r1, r2, r3) := H
  have A3 := Aside0.mk A30
  clear A30
  have H' := Aside0.mk H
  clear H
  go_enter Try.func26, Try.ntmps26
  go_wp2_with (first | ((with_reducible refine gate_callee (f := 34) rfl ?_); refine goesL_ (some 9) rfl rfl Try.func34 (by kernel_rfl) rfl #[.int .i64 a0, .int .i64 146097] rfl (by (try simp only [List.map_toArray, List.map_cons, List.map_nil]); first | done | rfl | (simp only [List.length_drop, List.length_take]; rfl)) ?_; (with_reducible refine (hibernacleref48_floor.calls a0 146097 t131 _ A2.out).mono ?_); rintro e w' ⟨rfl, ⟨nd, rfl⟩⟩; refine ⟨_, rfl, ?_⟩) | ((with_reducible refine gate_callee (f := 34) rfl ?_); refine goesL_ (some 14) rfl rfl Try.func34 (by kernel_rfl) rfl #[.int .i64 a0, .int .i64 146097] rfl (by (try simp only [List.map_toArray, List.map_cons, List.map_nil]); first | done | rfl | (simp only [List.length_drop, List.length_take]; rfl)) ?_; (with_reducible refine (hibernacleref48_floor.calls a0 146097 t132 _ A3.out).mono ?_); rintro e w' ⟨rfl, ⟨nd, rfl⟩⟩; refine ⟨_, rfl, ?_⟩))
  go_loopg [5, 6, 7] k (fun kq v5 v6 v7 w' => ∃ (x5_1 : Int) (x6_1 : Int) (x7_1 : Int), v5 = .int .i64 x5_1 ∧ v6 = .int .i64 x6_1 ∧ v7 = .int .i64 x7_1 ∧ Aside0 (hibernacleref48_date.l0 kq x5_1 x6_1 x7_1 = some (r1, r2, r3)) ∧ Aside0 (kq ≤ k) ∧ Drawn0 w w')
  case atStart => exact ⟨(wrap64 (2000 + (wrap64 (400 * t131)))), (wrap64 (a0 - (wrap64 (146097 * t132)))), (1), (by first | rfl | (simp; done) | (simp [*]; done)), (by first | rfl | (simp; done) | (simp [*]; done)), (by first | rfl | (simp; done) | (simp [*]; done)), H', ⟨Nat.le_refl _⟩, by repeat (first | exact Drawn0.refl _ | apply Drawn0.step)⟩
  case round =>
    clear H'
    try clear c2
    try clear p2
    try clear c3
    obtain ⟨x5_1, x6_1, x7_1, rfl, rfl, rfl, HA, HK1, ⟨m1, rfl⟩⟩ := hrel
    cases gk with
    | zero => exact absurd HA.out (by simp [hibernacleref48_date.l0])
    | succ k1 =>
      have H := HA.out
      clear HA
      simp only [hibernacleref48_date.l0] at H
      replace H := Option.bind_eq_some_iff.mp H
      obtain ⟨t133, A40, H⟩ := H
      replace H : (if x6_1 ≥ t133 then ((hibernacleref48_days.f x5_1 x7_1).bind fun t134 => (if (wrap64 (x7_1 + 1)) = 13 then (hibernacleref48_date.l0 k1 (wrap64 (x5_1 + 1)) (wrap64 (x6_1 - t134)) 1) else (hibernacleref48_date.l0 k1 x5_1 (wrap64 (x6_1 - t134)) (wrap64 (x7_1 + 1))))) else (some (x5_1, x7_1, wrap64 (x6_1 + 1)))) = some (r1, r2, r3) := H
      have A4 := Aside0.mk A40
      clear A40
      by_cases c5 : x6_1 ≥ t133
      · rw [if_pos c5] at H
        have c5b0 : decide (t133 ≤ x6_1) = true := decide_eq_true c5
        clear c5
        replace H := Option.bind_eq_some_iff.mp H
        obtain ⟨t134, A60, H⟩ := H
        replace H : (if (wrap64 (x7_1 + 1)) = 13 then (hibernacleref48_date.l0 k1 (wrap64 (x5_1 + 1)) (wrap64 (x6_1 - t134)) 1) else (hibernacleref48_date.l0 k1 x5_1 (wrap64 (x6_1 - t134)) (wrap64 (x7_1 + 1)))) = some (r1, r2, r3) := H
        have A6 := Aside0.mk A60
        clear A60
        by_cases c7 : (wrap64 (x7_1 + 1)) = 13
        · rw [if_pos c7] at H
          have c7b0 : ((wrap64 (x7_1 + 1)) == 13) = true := beq_iff_eq.mpr c7
          have c7b1 : ((wrap64 (x7_1 + 1)) != 13) = false := bne_eq_false_iff_eq.mpr c7
          clear c7
          have H' := Aside0.mk H
          clear H
          go_wp2_with (first | ((with_reducible refine gate_callee (f := 32) rfl ?_); refine goesL_ (some 20) rfl rfl Try.func32 (by kernel_rfl) rfl #[.int .i64 x5_1, .int .i64 x7_1] rfl (by (try simp only [List.map_toArray, List.map_cons, List.map_nil]); first | done | rfl | (simp only [List.length_drop, List.length_take]; rfl)) ?_; (with_reducible refine (hibernacleref48_days.calls x5_1 x7_1 t133 _ A4.out).mono ?_); rintro e w' ⟨rfl, ⟨nd, rfl⟩⟩; refine ⟨_, rfl, ?_⟩) | ((with_reducible refine gate_callee (f := 32) rfl ?_); refine goesL_ (some 25) rfl rfl Try.func32 (by kernel_rfl) rfl #[.int .i64 x5_1, .int .i64 x7_1] rfl (by (try simp only [List.map_toArray, List.map_cons, List.map_nil]); first | done | rfl | (simp only [List.length_drop, List.length_take]; rfl)) ?_; (with_reducible refine (hibernacleref48_days.calls x5_1 x7_1 t134 _ A6.out).mono ?_); rintro e w' ⟨rfl, ⟨nd, rfl⟩⟩; refine ⟨_, rfl, ?_⟩))
          go_roundg k1
          case measure => have := HK1.out; omega
          case rel => exact ⟨(wrap64 (x5_1 + 1)), (wrap64 (x6_1 - t134)), (1), (by first | rfl | (simp; done) | (simp [*]; done)), (by first | rfl | (simp; done) | (simp [*]; done)), (by first | rfl | (simp; done) | (simp [*]; done)), H', ⟨by have := HK1.out; omega⟩, by repeat (first | exact Drawn0.refl _ | apply Drawn0.step)⟩
        · rw [if_neg c7] at H
          have c7b0 : ((wrap64 (x7_1 + 1)) == 13) = false := beq_eq_false_iff_ne.mpr c7
          have c7b1 : ((wrap64 (x7_1 + 1)) != 13) = true := bne_iff_ne.mpr c7
          have H' := Aside0.mk H
          clear H
          go_wp2_with (first | ((with_reducible refine gate_callee (f := 32) rfl ?_); refine goesL_ (some 20) rfl rfl Try.func32 (by kernel_rfl) rfl #[.int .i64 x5_1, .int .i64 x7_1] rfl (by (try simp only [List.map_toArray, List.map_cons, List.map_nil]); first | done | rfl | (simp only [List.length_drop, List.length_take]; rfl)) ?_; (with_reducible refine (hibernacleref48_days.calls x5_1 x7_1 t133 _ A4.out).mono ?_); rintro e w' ⟨rfl, ⟨nd, rfl⟩⟩; refine ⟨_, rfl, ?_⟩) | ((with_reducible refine gate_callee (f := 32) rfl ?_); refine goesL_ (some 25) rfl rfl Try.func32 (by kernel_rfl) rfl #[.int .i64 x5_1, .int .i64 x7_1] rfl (by (try simp only [List.map_toArray, List.map_cons, List.map_nil]); first | done | rfl | (simp only [List.length_drop, List.length_take]; rfl)) ?_; (with_reducible refine (hibernacleref48_days.calls x5_1 x7_1 t134 _ A6.out).mono ?_); rintro e w' ⟨rfl, ⟨nd, rfl⟩⟩; refine ⟨_, rfl, ?_⟩))
          go_roundg k1
          case measure => have := HK1.out; omega
          case rel => exact ⟨(x5_1), (wrap64 (x6_1 - t134)), (wrap64 (x7_1 + 1)), (by first | rfl | (simp; done) | (simp [*]; done)), (by first | rfl | (simp; done) | (simp [*]; done)), (by first | rfl | (simp; done) | (simp [*]; done)), H', ⟨by have := HK1.out; omega⟩, by repeat (first | exact Drawn0.refl _ | apply Drawn0.step)⟩
      · rw [if_neg c5] at H
        have c5b0 : decide (t133 ≤ x6_1) = false := decide_eq_false c5
        clear c5
        simp only [Option.some.injEq, Prod.mk.injEq] at H
        obtain ⟨rfl, rfl, rfl⟩ := H
        go_wp2_with (first | ((with_reducible refine gate_callee (f := 32) rfl ?_); refine goesL_ (some 20) rfl rfl Try.func32 (by kernel_rfl) rfl #[.int .i64 x5_1, .int .i64 x7_1] rfl (by (try simp only [List.map_toArray, List.map_cons, List.map_nil]); first | done | rfl | (simp only [List.length_drop, List.length_take]; rfl)) ?_; (with_reducible refine (hibernacleref48_days.calls x5_1 x7_1 t133 _ A4.out).mono ?_); rintro e w' ⟨rfl, ⟨nd, rfl⟩⟩; refine ⟨_, rfl, ?_⟩))
        go_ret3
        exact ⟨by first | rfl | (simp; done) | (simp [*]; done), by repeat (first | exact Drawn0.refl _ | apply Drawn0.step)⟩

/-! ### hibernacleref48_digits: function 27 -/
def hibernacleref48_digits.l0 : Nat → Int → Int → ByteArray → Int → Option (ByteArray)
  | 0, _, _, _, _ => none
  | k + 1, x0, x1, x5, x6 => if x6 < x1 then ((some (([(wrap64 (48 + (Int.tmod x0 10))) % 256] : List Int) : List Int)).bind fun y135 => (if (strOfNums y135).size + x5.size ≤ 9223372036854775807 then (hibernacleref48_digits.l0 k (wrap64 (Int.tdiv x0 10)) x1 ((strOfNums y135) ++ x5) (wrap64 (x6 + 1))) else (none))) else (some x5)
def hibernacleref48_digits.f (k : Nat) (a0 : Int) (a1 : Int) : Option (ByteArray) := hibernacleref48_digits.l0 k a0 a1 (⟨#[]⟩ : ByteArray) 0
theorem hibernacleref48_digits.mono_l : ∀ k, (∀ y0 y1 y2 y3, LeO (hibernacleref48_digits.l0 k y0 y1 y2 y3) (hibernacleref48_digits.l0 (k + 1) y0 y1 y2 y3))
  | 0 => fun _ _ _ _ r h => by simp [hibernacleref48_digits.l0] at h
  | k + 1 => by
    have ih0 := hibernacleref48_digits.mono_l k
    · intro y0 y1 y2 y3
      unfold hibernacleref48_digits.l0
      repeat' first
      | (with_reducible exact ih0 _ _ _ _)
      | (with_reducible exact LeO.refl _)
      | (with_reducible exact LeO.none _)
      | (with_reducible refine LeO.ite ?_ ?_)
      | (with_reducible refine LeO.bind ?_ (fun _ => ?_))
      | exact ih0 _ _ _ _
      | exact LeO.none _
      | refine LeO.ite ?_ ?_
      | refine LeO.bind ?_ (fun _ => ?_)
theorem hibernacleref48_digits.mono : ∀ a0 a1 k, LeO (hibernacleref48_digits.f k a0 a1) (hibernacleref48_digits.f (k + 1) a0 a1) := by
  intro a0 a1 k
  have ih0 := hibernacleref48_digits.mono_l k
  unfold hibernacleref48_digits.f
  repeat' first
      | (with_reducible exact ih0 _ _ _ _)
      | (with_reducible exact LeO.refl _)
      | (with_reducible exact LeO.none _)
      | (with_reducible refine LeO.ite ?_ ?_)
      | (with_reducible refine LeO.bind ?_ (fun _ => ?_))
      | exact ih0 _ _ _ _
      | exact LeO.none _
      | refine LeO.ite ?_ ?_
      | refine LeO.bind ?_ (fun _ => ?_)
set_option maxHeartbeats 8000000 in
set_option maxRecDepth 100000 in
theorem hibernacleref48_digits.calls (k : Nat) (a0 : Int) (a1 : Int) (r : ByteArray) (w : World) (h : hibernacleref48_digits.f k a0 a1 = some r) :
    Calls Try.prog 27 #[.int .i64 a0, .int .i64 a1] w fun e w' => e = .returned (.string r) ∧ Below w.heap.size w w' := by
  have HB := Aside0.mk (Below.refl w.heap.size w)
  have H : (hibernacleref48_digits.l0 k a0 a1 (⟨#[]⟩ : ByteArray) 0) = some r := h
  clear h
  have H' := Aside0.mk H
  clear H
  go_enter Try.func27, Try.ntmps27
  go_wp2
  go_loopg [0, 5, 6] k (fun kq v0 v5 v6 w' => ∃ (x0_1 : Int) (x5_1 : ByteArray) (x6_1 : Int), v0 = .int .i64 x0_1 ∧ v5 = .string x5_1 ∧ v6 = .int .i64 x6_1 ∧ Aside0 (hibernacleref48_digits.l0 kq x0_1 a1 x5_1 x6_1 = some r) ∧ Aside0 (kq ≤ k) ∧ Aside0 (Below w.heap.size w w'))
  case atStart => exact ⟨(a0), ((⟨#[]⟩ : ByteArray)), (0), (by first | rfl | (simp; done) | (simp [*]; done)), (by first | rfl | (simp; done) | (simp [*]; done)), (by first | rfl | (simp; done) | (simp [*]; done)), H', ⟨Nat.le_refl _⟩, ⟨by repeat (first | (with_reducible first | exact HB.out | apply below_alloc | apply pw_below_drewN | apply below_drew1) | exact HB.out)⟩⟩
  case round =>
    clear H'
    try clear c2
    try clear p2
    obtain ⟨x0_1, x5_1, x6_1, rfl, rfl, rfl, HA, HK1, HB⟩ := hrel
    cases gk with
    | zero => exact absurd HA.out (by simp [hibernacleref48_digits.l0])
    | succ k1 =>
      have H := HA.out
      clear HA
      simp only [hibernacleref48_digits.l0] at H
      by_cases c3 : x6_1 < a1
      · rw [if_pos c3] at H
        have c3b0 : decide (x6_1 < a1) = true := decide_eq_true c3
        clear c3
        obtain ⟨y135, hy135⟩ : ∃ y_ : List Int, y_ = (([(wrap64 (48 + (Int.tmod x0_1 10))) % 256] : List Int)) := ⟨_, rfl⟩
        replace H : (if (strOfNums y135).size + x5_1.size ≤ 9223372036854775807 then (hibernacleref48_digits.l0 k1 (wrap64 (Int.tdiv x0_1 10)) a1 ((strOfNums y135) ++ x5_1) (wrap64 (x6_1 + 1))) else (none)) = some r := by first | (rw [hy135]; with_reducible exact H) | (have H2_ := (Option.bind_some _ _).symm.trans H; rw [hy135]; with_reducible exact H2_) | (have H2_ := (Option.bind_some _ _).symm.trans H; with_reducible exact H2_) | with_reducible exact H | (rw [hy135]; exact H) | exact H
        have Ny135 := Aside0.mk hy135
        clear hy135
        by_cases c4 : (strOfNums y135).size + x5_1.size ≤ 9223372036854775807
        · rw [if_pos c4] at H
          have c4b0 := eq_true c4
          have c4b1 : decide ((strOfNums y135).size + x5_1.size ≤ 9223372036854775807) = true := decide_eq_true c4
          try have c4b2 : (9223372036854775807 < (strOfNums y135).size + x5_1.size) = False := eq_false (Nat.not_lt.2 c4)
          have H' := Aside0.mk H
          clear H
          go_wp2_with (first | ((with_reducible refine gate_dst (N := 16) rfl ?_); refine Kd.R_lit (Kd.int .u8) _ 5 ?hg (N := 16) ?hd (xs := ([(wrap64 (48 + (Int.tmod x0_1 10))) % 256] : List Int)) (inner := [.int .u8 ((wrap64 (48 + (Int.tmod x0_1 10))) % 256)]) (ok := fun _ => True) (okp := fun _ => True) ?hr ?hp (fun _ hk => hk) trivial (Below.refl _ _) (Nat.le_refl _) (by simp) ?_; (case hd => rfl); (case hg => rfl); (case hr => first | (go_simp; done) | (go_simp; rfl)); (case hp => exact (Reps.one (show Kd.M (Kd.int .u8) _ _ _ ((wrap64 (48 + (Int.tmod x0_1 10))) % 256) [.int .u8 ((wrap64 (48 + (Int.tmod x0_1 10))) % 256)] from rfl) (Reps.none _ _))); intro v136 w5 ho6 hb hg_ hnew_; clear hg_ hnew_; (first | rw [← Ny135.out] at ho6 | (simp only [Int.reduceToNat] at ho6; rw [← Ny135.out] at ho6)); have n0_ := Aside0.mk (Kd.R_lower ho6 (below_size (by repeat (first | (with_reducible first | exact HB.out | apply below_alloc | apply pw_below_drewN | apply below_drew1) | exact HB.out)))); have n1_ := Aside0.mk (below_step (by repeat (first | (with_reducible first | exact HB.out | apply below_alloc | apply pw_below_drewN | apply below_drew1) | exact HB.out)) hb); clear HB; have HO137 := n0_; have HB := n1_; clear n0_ n1_; clear hb ho6; have hcv7 := own_string (P := Try.prog) Try.underlying37 Try.underlying5 Try.underlying9 (Kd.own_of_R HO137.out)))
          go_roundg k1
          case measure => have := HK1.out; omega
          case rel => exact ⟨(wrap64 (Int.tdiv x0_1 10)), ((strOfNums y135) ++ x5_1), (wrap64 (x6_1 + 1)), (by first | rfl | (simp; done) | (simp [*]; done)), (by first | rfl | (simp; done) | (simp [*]; done)), (by first | rfl | (simp; done) | (simp [*]; done)), H', ⟨by have := HK1.out; omega⟩, ⟨by repeat (first | (with_reducible first | exact HB.out | apply below_alloc | apply pw_below_drewN | apply below_drew1) | exact HB.out)⟩⟩
        · rw [if_neg c4] at H
          exact absurd H (by simp)
      · rw [if_neg c3] at H
        have c3b0 : decide (x6_1 < a1) = false := decide_eq_false c3
        clear c3
        obtain rfl := Option.some.inj H
        go_wp2
        go_ret
        exact ⟨by first | rfl | (simp [errW_none, errW_some] <;> rfl) | (simp [*, errW_none, errW_some] <;> rfl), by repeat (first | (with_reducible first | exact HB.out | apply below_alloc | apply pw_below_drewN | apply below_drew1) | exact HB.out)⟩

/-! ### hibernacleref48_Text: function 11 -/
def hibernacleref48_Text.j0 : Nat → Int → Int → Int → Int → Bool → Option (ByteArray)
  | 0, _, _, _, _, _ => none
  | k + 1, x0, x3, x4, x5, x19 => if x19 = true then (some (⟨#[]⟩ : ByteArray)) else ((hibernacleref48_Day.f x0).bind fun t142 => ((hibernacleref48_digits.f k x3 4).bind fun t143 => (if t143.size + 1 ≤ 9223372036854775807 then ((hibernacleref48_digits.f k x4 2).bind fun t144 => (if (t143 ++ (⟨#[45]⟩ : ByteArray)).size + t144.size ≤ 9223372036854775807 then (if ((t143 ++ (⟨#[45]⟩ : ByteArray)) ++ t144).size + 1 ≤ 9223372036854775807 then ((hibernacleref48_digits.f k x5 2).bind fun t145 => (if (((t143 ++ (⟨#[45]⟩ : ByteArray)) ++ t144) ++ (⟨#[45]⟩ : ByteArray)).size + t145.size ≤ 9223372036854775807 then (if ((((t143 ++ (⟨#[45]⟩ : ByteArray)) ++ t144) ++ (⟨#[45]⟩ : ByteArray)) ++ t145).size + 1 ≤ 9223372036854775807 then ((hibernacleref48_digits.f k (wrap64 (Int.tdiv (wrap64 (x0 - (wrap64 (1440 * t142)))) 60)) 2).bind fun t146 => (if (((((t143 ++ (⟨#[45]⟩ : ByteArray)) ++ t144) ++ (⟨#[45]⟩ : ByteArray)) ++ t145) ++ (⟨#[32]⟩ : ByteArray)).size + t146.size ≤ 9223372036854775807 then (if ((((((t143 ++ (⟨#[45]⟩ : ByteArray)) ++ t144) ++ (⟨#[45]⟩ : ByteArray)) ++ t145) ++ (⟨#[32]⟩ : ByteArray)) ++ t146).size + 1 ≤ 9223372036854775807 then ((hibernacleref48_digits.f k (Int.tmod (wrap64 (x0 - (wrap64 (1440 * t142)))) 60) 2).bind fun t147 => (if (((((((t143 ++ (⟨#[45]⟩ : ByteArray)) ++ t144) ++ (⟨#[45]⟩ : ByteArray)) ++ t145) ++ (⟨#[32]⟩ : ByteArray)) ++ t146) ++ (⟨#[58]⟩ : ByteArray)).size + t147.size ≤ 9223372036854775807 then (some ((((((((t143 ++ (⟨#[45]⟩ : ByteArray)) ++ t144) ++ (⟨#[45]⟩ : ByteArray)) ++ t145) ++ (⟨#[32]⟩ : ByteArray)) ++ t146) ++ (⟨#[58]⟩ : ByteArray)) ++ t147)) else (none))) else (none)) else (none))) else (none)) else (none))) else (none)) else (none))) else (none))))
def hibernacleref48_Text.f (k : Nat) (a0 : Int) : Option (ByteArray) := (hibernacleref48_Day.f a0).bind fun t138 => ((hibernacleref48_date.f k t138).bind fun bt139 => (if bt139.1 < 0 then (hibernacleref48_Text.j0 k a0 bt139.1 bt139.2.1 bt139.2.2 true) else (hibernacleref48_Text.j0 k a0 bt139.1 bt139.2.1 bt139.2.2 (decide (bt139.1 > 9999)))))
theorem hibernacleref48_Text.mono_l : ∀ k, (∀ y0 y1 y2 y3 y4, LeO (hibernacleref48_Text.j0 k y0 y1 y2 y3 y4) (hibernacleref48_Text.j0 (k + 1) y0 y1 y2 y3 y4))
  | 0 => fun _ _ _ _ _ r h => by simp [hibernacleref48_Text.j0] at h
  | k + 1 => by
    have ih0 := hibernacleref48_Text.mono_l k
    · intro y0 y1 y2 y3 y4
      unfold hibernacleref48_Text.j0
      repeat' first
      | (with_reducible exact ih0 _ _ _ _ _)
      | (with_reducible exact hibernacleref48_date.mono _ _)
      | (with_reducible exact hibernacleref48_digits.mono _ _ _)
      | (with_reducible exact LeO.refl _)
      | (with_reducible exact LeO.none _)
      | (with_reducible refine LeO.ite ?_ ?_)
      | (with_reducible refine LeO.bind ?_ (fun _ => ?_))
      | exact ih0 _ _ _ _ _
      | exact hibernacleref48_date.mono _ _
      | exact hibernacleref48_digits.mono _ _ _
      | exact LeO.none _
      | refine LeO.ite ?_ ?_
      | refine LeO.bind ?_ (fun _ => ?_)
theorem hibernacleref48_Text.mono : ∀ a0 k, LeO (hibernacleref48_Text.f k a0) (hibernacleref48_Text.f (k + 1) a0) := by
  intro a0 k
  have ih0 := hibernacleref48_Text.mono_l k
  unfold hibernacleref48_Text.f
  repeat' first
      | (with_reducible exact ih0 _ _ _ _ _)
      | (with_reducible exact hibernacleref48_date.mono _ _)
      | (with_reducible exact hibernacleref48_digits.mono _ _ _)
      | (with_reducible exact LeO.refl _)
      | (with_reducible exact LeO.none _)
      | (with_reducible refine LeO.ite ?_ ?_)
      | (with_reducible refine LeO.bind ?_ (fun _ => ?_))
      | exact ih0 _ _ _ _ _
      | exact hibernacleref48_date.mono _ _
      | exact hibernacleref48_digits.mono _ _ _
      | exact LeO.none _
      | refine LeO.ite ?_ ?_
      | refine LeO.bind ?_ (fun _ => ?_)
set_option maxHeartbeats 8000000 in
set_option maxRecDepth 100000 in
theorem hibernacleref48_Text.calls (k : Nat) (a0 : Int) (r : ByteArray) (w : World) (h : hibernacleref48_Text.f k a0 = some r) :
    Calls Try.prog 11 #[.int .i64 a0] w fun e w' => e = .returned (.string r) ∧ Below w.heap.size w w' := by
  have HB := Aside0.mk (Below.refl w.heap.size w)
  have H : ((hibernacleref48_Day.f a0).bind fun t138 => ((hibernacleref48_date.f k t138).bind fun bt139 => (if bt139.1 < 0 then (hibernacleref48_Text.j0 k a0 bt139.1 bt139.2.1 bt139.2.2 true) else (hibernacleref48_Text.j0 k a0 bt139.1 bt139.2.1 bt139.2.2 (decide (bt139.1 > 9999)))))) = some r := h
  clear h
  replace H := Option.bind_eq_some_iff.mp H
  obtain ⟨t138, A20, H⟩ := H
  replace H : ((hibernacleref48_date.f k t138).bind fun bt139 => (if bt139.1 < 0 then (hibernacleref48_Text.j0 k a0 bt139.1 bt139.2.1 bt139.2.2 true) else (hibernacleref48_Text.j0 k a0 bt139.1 bt139.2.1 bt139.2.2 (decide (bt139.1 > 9999))))) = some r := H
  have A2 := Aside0.mk A20
  clear A20
  replace H := Option.bind_eq_some_iff.mp H
  obtain ⟨⟨t139, t140, t141⟩, A30, H⟩ := H
  replace H : (if t139 < 0 then (hibernacleref48_Text.j0 k a0 t139 t140 t141 true) else (hibernacleref48_Text.j0 k a0 t139 t140 t141 (decide (t139 > 9999)))) = some r := H
  have A3 := Aside0.mk A30
  clear A30
  have HC4 := Aside0.mk H
  clear H
  go_enter Try.func11, Try.ntmps11
  go_upto_region 2 with (first | ((with_reducible refine gate_callee (f := 17) rfl ?_); refine goesL_ (some 9) rfl rfl Try.func17 (by kernel_rfl) rfl #[.int .i64 a0] rfl (by (try simp only [List.map_toArray, List.map_cons, List.map_nil]); first | done | rfl | (simp only [List.length_drop, List.length_take]; rfl)) ?_; (with_reducible refine (hibernacleref48_Day.calls a0 t138 _ A2.out).mono ?_); rintro e w' ⟨rfl, ⟨nd, rfl⟩⟩; refine ⟨_, rfl, ?_⟩) | ((with_reducible refine gate_callee (f := 26) rfl ?_); refine goesL_ (some 10) rfl rfl Try.func26 (by kernel_rfl) rfl #[.int .i64 t138] rfl (by (try simp only [List.map_toArray, List.map_cons, List.map_nil]); first | done | rfl | (simp only [List.length_drop, List.length_take]; rfl)) ?_; (with_reducible refine (hibernacleref48_date.calls k t138 t139 t140 t141 _ A3.out).mono ?_); rintro e w' ⟨rfl, ⟨nd, rfl⟩⟩; refine ⟨_, rfl, ?_⟩))
  (try simp only [Act.put, List.setIfInBounds_toArray, List.set_cons_zero, List.set_cons_succ])
  go_cut [19] (fun v19 wc => ∃ (kq : Nat) (x19_3 : Bool), v19 = .bool x19_3 ∧ Aside0 (hibernacleref48_Text.j0 kq a0 t139 t140 t141 x19_3 = some r) ∧ Aside0 (kq ≤ k) ∧ Aside0 (Below w.heap.size w wc))
  case first =>
    have H := HC4.out
    clear HC4
    by_cases c5 : t139 < 0
    · rw [if_pos c5] at H
      have c5b0 : decide (t139 < 0) = true := decide_eq_true c5
      clear c5
      (first | rw [c5b0] | (simp only [i64_w, i32_w]; rw [c5b0]) | skip)
      have H' := Aside0.mk H
      clear H
      go_wp2
      go_meet
      case rel => exact ⟨_, (true), (by first | rfl | (simp; done) | (simp [*]; done)), H', ⟨by first | omega | exact Nat.le_refl _⟩, ⟨by repeat (first | (with_reducible first | exact HB.out | apply below_alloc | apply pw_below_drewN | apply below_drew1) | exact HB.out)⟩⟩
    · rw [if_neg c5] at H
      have c5b0 : decide (t139 < 0) = false := decide_eq_false c5
      clear c5
      (first | rw [c5b0] | (simp only [i64_w, i32_w]; rw [c5b0]) | skip)
      have H' := Aside0.mk H
      clear H
      go_wp2
      go_meet
      case rel => exact ⟨_, (decide (t139 > 9999)), (by first | rfl | (simp; done) | (simp [*]; done)), H', ⟨by first | omega | exact Nat.le_refl _⟩, ⟨by repeat (first | (with_reducible first | exact HB.out | apply below_alloc | apply pw_below_drewN | apply below_drew1) | exact HB.out)⟩⟩
  case rest =>
    clear HC4
    try clear c1
    try clear c2
    try clear p2
    try clear c5
    try clear c5b0
    obtain ⟨kq, x19_3, rfl, HA, HJ3, HB⟩ := hcut
    cases kq with
    | zero => exact absurd HA.out (by simp [hibernacleref48_Text.j0])
    | succ kj3 =>
      have H := HA.out
      clear HA
      simp only [hibernacleref48_Text.j0] at H
      by_cases c6 : x19_3 = true
      · subst c6
        have H1 : (some (⟨#[]⟩ : ByteArray)) = some r := by rw [if_pos rfl] at H; exact H
        clear H
        have H := H1
        clear H1
        obtain rfl := Option.some.inj H
        go_wp2
        go_ret
        exact ⟨by first | rfl | (simp [errW_none, errW_some] <;> rfl) | (simp [*, errW_none, errW_some] <;> rfl), by repeat (first | (with_reducible first | exact HB.out | apply below_alloc | apply pw_below_drewN | apply below_drew1) | exact HB.out)⟩
      · replace c6 := Bool.eq_false_iff.mpr c6
        subst c6
        have H1 : ((hibernacleref48_Day.f a0).bind fun t142 => ((hibernacleref48_digits.f kj3 t139 4).bind fun t143 => (if t143.size + 1 ≤ 9223372036854775807 then ((hibernacleref48_digits.f kj3 t140 2).bind fun t144 => (if (t143 ++ (⟨#[45]⟩ : ByteArray)).size + t144.size ≤ 9223372036854775807 then (if ((t143 ++ (⟨#[45]⟩ : ByteArray)) ++ t144).size + 1 ≤ 9223372036854775807 then ((hibernacleref48_digits.f kj3 t141 2).bind fun t145 => (if (((t143 ++ (⟨#[45]⟩ : ByteArray)) ++ t144) ++ (⟨#[45]⟩ : ByteArray)).size + t145.size ≤ 9223372036854775807 then (if ((((t143 ++ (⟨#[45]⟩ : ByteArray)) ++ t144) ++ (⟨#[45]⟩ : ByteArray)) ++ t145).size + 1 ≤ 9223372036854775807 then ((hibernacleref48_digits.f kj3 (wrap64 (Int.tdiv (wrap64 (a0 - (wrap64 (1440 * t142)))) 60)) 2).bind fun t146 => (if (((((t143 ++ (⟨#[45]⟩ : ByteArray)) ++ t144) ++ (⟨#[45]⟩ : ByteArray)) ++ t145) ++ (⟨#[32]⟩ : ByteArray)).size + t146.size ≤ 9223372036854775807 then (if ((((((t143 ++ (⟨#[45]⟩ : ByteArray)) ++ t144) ++ (⟨#[45]⟩ : ByteArray)) ++ t145) ++ (⟨#[32]⟩ : ByteArray)) ++ t146).size + 1 ≤ 9223372036854775807 then ((hibernacleref48_digits.f kj3 (Int.tmod (wrap64 (a0 - (wrap64 (1440 * t142)))) 60) 2).bind fun t147 => (if (((((((t143 ++ (⟨#[45]⟩ : ByteArray)) ++ t144) ++ (⟨#[45]⟩ : ByteArray)) ++ t145) ++ (⟨#[32]⟩ : ByteArray)) ++ t146) ++ (⟨#[58]⟩ : ByteArray)).size + t147.size ≤ 9223372036854775807 then (some ((((((((t143 ++ (⟨#[45]⟩ : ByteArray)) ++ t144) ++ (⟨#[45]⟩ : ByteArray)) ++ t145) ++ (⟨#[32]⟩ : ByteArray)) ++ t146) ++ (⟨#[58]⟩ : ByteArray)) ++ t147)) else (none))) else (none)) else (none))) else (none)) else (none))) else (none)) else (none))) else (none)))) = some r := by rw [if_neg (show ¬ (false = true) by decide)] at H; exact H
        clear H
        have H := H1
        clear H1
        replace H := Option.bind_eq_some_iff.mp H
        obtain ⟨t142, A70, H⟩ := H
        replace H : ((hibernacleref48_digits.f kj3 t139 4).bind fun t143 => (if t143.size + 1 ≤ 9223372036854775807 then ((hibernacleref48_digits.f kj3 t140 2).bind fun t144 => (if (t143 ++ (⟨#[45]⟩ : ByteArray)).size + t144.size ≤ 9223372036854775807 then (if ((t143 ++ (⟨#[45]⟩ : ByteArray)) ++ t144).size + 1 ≤ 9223372036854775807 then ((hibernacleref48_digits.f kj3 t141 2).bind fun t145 => (if (((t143 ++ (⟨#[45]⟩ : ByteArray)) ++ t144) ++ (⟨#[45]⟩ : ByteArray)).size + t145.size ≤ 9223372036854775807 then (if ((((t143 ++ (⟨#[45]⟩ : ByteArray)) ++ t144) ++ (⟨#[45]⟩ : ByteArray)) ++ t145).size + 1 ≤ 9223372036854775807 then ((hibernacleref48_digits.f kj3 (wrap64 (Int.tdiv (wrap64 (a0 - (wrap64 (1440 * t142)))) 60)) 2).bind fun t146 => (if (((((t143 ++ (⟨#[45]⟩ : ByteArray)) ++ t144) ++ (⟨#[45]⟩ : ByteArray)) ++ t145) ++ (⟨#[32]⟩ : ByteArray)).size + t146.size ≤ 9223372036854775807 then (if ((((((t143 ++ (⟨#[45]⟩ : ByteArray)) ++ t144) ++ (⟨#[45]⟩ : ByteArray)) ++ t145) ++ (⟨#[32]⟩ : ByteArray)) ++ t146).size + 1 ≤ 9223372036854775807 then ((hibernacleref48_digits.f kj3 (Int.tmod (wrap64 (a0 - (wrap64 (1440 * t142)))) 60) 2).bind fun t147 => (if (((((((t143 ++ (⟨#[45]⟩ : ByteArray)) ++ t144) ++ (⟨#[45]⟩ : ByteArray)) ++ t145) ++ (⟨#[32]⟩ : ByteArray)) ++ t146) ++ (⟨#[58]⟩ : ByteArray)).size + t147.size ≤ 9223372036854775807 then (some ((((((((t143 ++ (⟨#[45]⟩ : ByteArray)) ++ t144) ++ (⟨#[45]⟩ : ByteArray)) ++ t145) ++ (⟨#[32]⟩ : ByteArray)) ++ t146) ++ (⟨#[58]⟩ : ByteArray)) ++ t147)) else (none))) else (none)) else (none))) else (none)) else (none))) else (none)) else (none))) else (none))) = some r := H
        have A7 := Aside0.mk A70
        clear A70
        replace H := Option.bind_eq_some_iff.mp H
        obtain ⟨t143, A80, H⟩ := H
        replace H : (if t143.size + 1 ≤ 9223372036854775807 then ((hibernacleref48_digits.f kj3 t140 2).bind fun t144 => (if (t143 ++ (⟨#[45]⟩ : ByteArray)).size + t144.size ≤ 9223372036854775807 then (if ((t143 ++ (⟨#[45]⟩ : ByteArray)) ++ t144).size + 1 ≤ 9223372036854775807 then ((hibernacleref48_digits.f kj3 t141 2).bind fun t145 => (if (((t143 ++ (⟨#[45]⟩ : ByteArray)) ++ t144) ++ (⟨#[45]⟩ : ByteArray)).size + t145.size ≤ 9223372036854775807 then (if ((((t143 ++ (⟨#[45]⟩ : ByteArray)) ++ t144) ++ (⟨#[45]⟩ : ByteArray)) ++ t145).size + 1 ≤ 9223372036854775807 then ((hibernacleref48_digits.f kj3 (wrap64 (Int.tdiv (wrap64 (a0 - (wrap64 (1440 * t142)))) 60)) 2).bind fun t146 => (if (((((t143 ++ (⟨#[45]⟩ : ByteArray)) ++ t144) ++ (⟨#[45]⟩ : ByteArray)) ++ t145) ++ (⟨#[32]⟩ : ByteArray)).size + t146.size ≤ 9223372036854775807 then (if ((((((t143 ++ (⟨#[45]⟩ : ByteArray)) ++ t144) ++ (⟨#[45]⟩ : ByteArray)) ++ t145) ++ (⟨#[32]⟩ : ByteArray)) ++ t146).size + 1 ≤ 9223372036854775807 then ((hibernacleref48_digits.f kj3 (Int.tmod (wrap64 (a0 - (wrap64 (1440 * t142)))) 60) 2).bind fun t147 => (if (((((((t143 ++ (⟨#[45]⟩ : ByteArray)) ++ t144) ++ (⟨#[45]⟩ : ByteArray)) ++ t145) ++ (⟨#[32]⟩ : ByteArray)) ++ t146) ++ (⟨#[58]⟩ : ByteArray)).size + t147.size ≤ 9223372036854775807 then (some ((((((((t143 ++ (⟨#[45]⟩ : ByteArray)) ++ t144) ++ (⟨#[45]⟩ : ByteArray)) ++ t145) ++ (⟨#[32]⟩ : ByteArray)) ++ t146) ++ (⟨#[58]⟩ : ByteArray)) ++ t147)) else (none))) else (none)) else (none))) else (none)) else (none))) else (none)) else (none))) else (none)) = some r := H
        have A8 := Aside0.mk A80
        clear A80
        by_cases c9 : t143.size + 1 ≤ 9223372036854775807
        · rw [if_pos c9] at H
          have c9b0 := eq_true c9
          have c9b1 : decide (t143.size + 1 ≤ 9223372036854775807) = true := decide_eq_true c9
          try have c9b2 : (9223372036854775807 < t143.size + 1) = False := eq_false (Nat.not_lt.2 c9)
          replace H := Option.bind_eq_some_iff.mp H
          obtain ⟨t144, A100, H⟩ := H
          replace H : (if (t143 ++ (⟨#[45]⟩ : ByteArray)).size + t144.size ≤ 9223372036854775807 then (if ((t143 ++ (⟨#[45]⟩ : ByteArray)) ++ t144).size + 1 ≤ 9223372036854775807 then ((hibernacleref48_digits.f kj3 t141 2).bind fun t145 => (if (((t143 ++ (⟨#[45]⟩ : ByteArray)) ++ t144) ++ (⟨#[45]⟩ : ByteArray)).size + t145.size ≤ 9223372036854775807 then (if ((((t143 ++ (⟨#[45]⟩ : ByteArray)) ++ t144) ++ (⟨#[45]⟩ : ByteArray)) ++ t145).size + 1 ≤ 9223372036854775807 then ((hibernacleref48_digits.f kj3 (wrap64 (Int.tdiv (wrap64 (a0 - (wrap64 (1440 * t142)))) 60)) 2).bind fun t146 => (if (((((t143 ++ (⟨#[45]⟩ : ByteArray)) ++ t144) ++ (⟨#[45]⟩ : ByteArray)) ++ t145) ++ (⟨#[32]⟩ : ByteArray)).size + t146.size ≤ 9223372036854775807 then (if ((((((t143 ++ (⟨#[45]⟩ : ByteArray)) ++ t144) ++ (⟨#[45]⟩ : ByteArray)) ++ t145) ++ (⟨#[32]⟩ : ByteArray)) ++ t146).size + 1 ≤ 9223372036854775807 then ((hibernacleref48_digits.f kj3 (Int.tmod (wrap64 (a0 - (wrap64 (1440 * t142)))) 60) 2).bind fun t147 => (if (((((((t143 ++ (⟨#[45]⟩ : ByteArray)) ++ t144) ++ (⟨#[45]⟩ : ByteArray)) ++ t145) ++ (⟨#[32]⟩ : ByteArray)) ++ t146) ++ (⟨#[58]⟩ : ByteArray)).size + t147.size ≤ 9223372036854775807 then (some ((((((((t143 ++ (⟨#[45]⟩ : ByteArray)) ++ t144) ++ (⟨#[45]⟩ : ByteArray)) ++ t145) ++ (⟨#[32]⟩ : ByteArray)) ++ t146) ++ (⟨#[58]⟩ : ByteArray)) ++ t147)) else (none))) else (none)) else (none))) else (none)) else (none))) else (none)) else (none)) = some r := H
          have A10 := Aside0.mk A100
          clear A100
          by_cases c11 : (t143 ++ (⟨#[45]⟩ : ByteArray)).size + t144.size ≤ 9223372036854775807
          · rw [if_pos c11] at H
            have c11b0 := eq_true c11
            have c11b1 : decide ((t143 ++ (⟨#[45]⟩ : ByteArray)).size + t144.size ≤ 9223372036854775807) = true := decide_eq_true c11
            try have c11b2 : (9223372036854775807 < (t143 ++ (⟨#[45]⟩ : ByteArray)).size + t144.size) = False := eq_false (Nat.not_lt.2 c11)
            have c11b3 : (9223372036854775807 < t143.size + 1 + t144.size) = False := by have z_ := c11; simp only [ByteArray.size_append] at z_; exact eq_false (Nat.not_lt.2 z_)
            by_cases c12 : ((t143 ++ (⟨#[45]⟩ : ByteArray)) ++ t144).size + 1 ≤ 9223372036854775807
            · rw [if_pos c12] at H
              have c12b0 := eq_true c12
              have c12b1 : decide (((t143 ++ (⟨#[45]⟩ : ByteArray)) ++ t144).size + 1 ≤ 9223372036854775807) = true := decide_eq_true c12
              try have c12b2 : (9223372036854775807 < ((t143 ++ (⟨#[45]⟩ : ByteArray)) ++ t144).size + 1) = False := eq_false (Nat.not_lt.2 c12)
              have c12b3 : (9223372036854775807 < t143.size + 1 + t144.size + 1) = False := by have z_ := c12; simp only [ByteArray.size_append] at z_; exact eq_false (Nat.not_lt.2 z_)
              replace H := Option.bind_eq_some_iff.mp H
              obtain ⟨t145, A130, H⟩ := H
              replace H : (if (((t143 ++ (⟨#[45]⟩ : ByteArray)) ++ t144) ++ (⟨#[45]⟩ : ByteArray)).size + t145.size ≤ 9223372036854775807 then (if ((((t143 ++ (⟨#[45]⟩ : ByteArray)) ++ t144) ++ (⟨#[45]⟩ : ByteArray)) ++ t145).size + 1 ≤ 9223372036854775807 then ((hibernacleref48_digits.f kj3 (wrap64 (Int.tdiv (wrap64 (a0 - (wrap64 (1440 * t142)))) 60)) 2).bind fun t146 => (if (((((t143 ++ (⟨#[45]⟩ : ByteArray)) ++ t144) ++ (⟨#[45]⟩ : ByteArray)) ++ t145) ++ (⟨#[32]⟩ : ByteArray)).size + t146.size ≤ 9223372036854775807 then (if ((((((t143 ++ (⟨#[45]⟩ : ByteArray)) ++ t144) ++ (⟨#[45]⟩ : ByteArray)) ++ t145) ++ (⟨#[32]⟩ : ByteArray)) ++ t146).size + 1 ≤ 9223372036854775807 then ((hibernacleref48_digits.f kj3 (Int.tmod (wrap64 (a0 - (wrap64 (1440 * t142)))) 60) 2).bind fun t147 => (if (((((((t143 ++ (⟨#[45]⟩ : ByteArray)) ++ t144) ++ (⟨#[45]⟩ : ByteArray)) ++ t145) ++ (⟨#[32]⟩ : ByteArray)) ++ t146) ++ (⟨#[58]⟩ : ByteArray)).size + t147.size ≤ 9223372036854775807 then (some ((((((((t143 ++ (⟨#[45]⟩ : ByteArray)) ++ t144) ++ (⟨#[45]⟩ : ByteArray)) ++ t145) ++ (⟨#[32]⟩ : ByteArray)) ++ t146) ++ (⟨#[58]⟩ : ByteArray)) ++ t147)) else (none))) else (none)) else (none))) else (none)) else (none)) = some r := H
              have A13 := Aside0.mk A130
              clear A130
              by_cases c14 : (((t143 ++ (⟨#[45]⟩ : ByteArray)) ++ t144) ++ (⟨#[45]⟩ : ByteArray)).size + t145.size ≤ 9223372036854775807
              · rw [if_pos c14] at H
                have c14b0 := eq_true c14
                have c14b1 : decide ((((t143 ++ (⟨#[45]⟩ : ByteArray)) ++ t144) ++ (⟨#[45]⟩ : ByteArray)).size + t145.size ≤ 9223372036854775807) = true := decide_eq_true c14
                try have c14b2 : (9223372036854775807 < (((t143 ++ (⟨#[45]⟩ : ByteArray)) ++ t144) ++ (⟨#[45]⟩ : ByteArray)).size + t145.size) = False := eq_false (Nat.not_lt.2 c14)
                have c14b3 : (9223372036854775807 < t143.size + 1 + t144.size + 1 + t145.size) = False := by have z_ := c14; simp only [ByteArray.size_append] at z_; exact eq_false (Nat.not_lt.2 z_)
                by_cases c15 : ((((t143 ++ (⟨#[45]⟩ : ByteArray)) ++ t144) ++ (⟨#[45]⟩ : ByteArray)) ++ t145).size + 1 ≤ 9223372036854775807
                · rw [if_pos c15] at H
                  have c15b0 := eq_true c15
                  have c15b1 : decide (((((t143 ++ (⟨#[45]⟩ : ByteArray)) ++ t144) ++ (⟨#[45]⟩ : ByteArray)) ++ t145).size + 1 ≤ 9223372036854775807) = true := decide_eq_true c15
                  try have c15b2 : (9223372036854775807 < ((((t143 ++ (⟨#[45]⟩ : ByteArray)) ++ t144) ++ (⟨#[45]⟩ : ByteArray)) ++ t145).size + 1) = False := eq_false (Nat.not_lt.2 c15)
                  have c15b3 : (9223372036854775807 < t143.size + 1 + t144.size + 1 + t145.size + 1) = False := by have z_ := c15; simp only [ByteArray.size_append] at z_; exact eq_false (Nat.not_lt.2 z_)
                  replace H := Option.bind_eq_some_iff.mp H
                  obtain ⟨t146, A160, H⟩ := H
                  replace H : (if (((((t143 ++ (⟨#[45]⟩ : ByteArray)) ++ t144) ++ (⟨#[45]⟩ : ByteArray)) ++ t145) ++ (⟨#[32]⟩ : ByteArray)).size + t146.size ≤ 9223372036854775807 then (if ((((((t143 ++ (⟨#[45]⟩ : ByteArray)) ++ t144) ++ (⟨#[45]⟩ : ByteArray)) ++ t145) ++ (⟨#[32]⟩ : ByteArray)) ++ t146).size + 1 ≤ 9223372036854775807 then ((hibernacleref48_digits.f kj3 (Int.tmod (wrap64 (a0 - (wrap64 (1440 * t142)))) 60) 2).bind fun t147 => (if (((((((t143 ++ (⟨#[45]⟩ : ByteArray)) ++ t144) ++ (⟨#[45]⟩ : ByteArray)) ++ t145) ++ (⟨#[32]⟩ : ByteArray)) ++ t146) ++ (⟨#[58]⟩ : ByteArray)).size + t147.size ≤ 9223372036854775807 then (some ((((((((t143 ++ (⟨#[45]⟩ : ByteArray)) ++ t144) ++ (⟨#[45]⟩ : ByteArray)) ++ t145) ++ (⟨#[32]⟩ : ByteArray)) ++ t146) ++ (⟨#[58]⟩ : ByteArray)) ++ t147)) else (none))) else (none)) else (none)) = some r := H
                  have A16 := Aside0.mk A160
                  clear A160
                  by_cases c17 : (((((t143 ++ (⟨#[45]⟩ : ByteArray)) ++ t144) ++ (⟨#[45]⟩ : ByteArray)) ++ t145) ++ (⟨#[32]⟩ : ByteArray)).size + t146.size ≤ 9223372036854775807
                  · rw [if_pos c17] at H
                    have c17b0 := eq_true c17
                    have c17b1 : decide ((((((t143 ++ (⟨#[45]⟩ : ByteArray)) ++ t144) ++ (⟨#[45]⟩ : ByteArray)) ++ t145) ++ (⟨#[32]⟩ : ByteArray)).size + t146.size ≤ 9223372036854775807) = true := decide_eq_true c17
                    try have c17b2 : (9223372036854775807 < (((((t143 ++ (⟨#[45]⟩ : ByteArray)) ++ t144) ++ (⟨#[45]⟩ : ByteArray)) ++ t145) ++ (⟨#[32]⟩ : ByteArray)).size + t146.size) = False := eq_false (Nat.not_lt.2 c17)
                    have c17b3 : (9223372036854775807 < t143.size + 1 + t144.size + 1 + t145.size + 1 + t146.size) = False := by have z_ := c17; simp only [ByteArray.size_append] at z_; exact eq_false (Nat.not_lt.2 z_)
                    by_cases c18 : ((((((t143 ++ (⟨#[45]⟩ : ByteArray)) ++ t144) ++ (⟨#[45]⟩ : ByteArray)) ++ t145) ++ (⟨#[32]⟩ : ByteArray)) ++ t146).size + 1 ≤ 9223372036854775807
                    · rw [if_pos c18] at H
                      have c18b0 := eq_true c18
                      have c18b1 : decide (((((((t143 ++ (⟨#[45]⟩ : ByteArray)) ++ t144) ++ (⟨#[45]⟩ : ByteArray)) ++ t145) ++ (⟨#[32]⟩ : ByteArray)) ++ t146).size + 1 ≤ 9223372036854775807) = true := decide_eq_true c18
                      try have c18b2 : (9223372036854775807 < ((((((t143 ++ (⟨#[45]⟩ : ByteArray)) ++ t144) ++ (⟨#[45]⟩ : ByteArray)) ++ t145) ++ (⟨#[32]⟩ : ByteArray)) ++ t146).size + 1) = False := eq_false (Nat.not_lt.2 c18)
                      have c18b3 : (9223372036854775807 < t143.size + 1 + t144.size + 1 + t145.size + 1 + t146.size + 1) = False := by have z_ := c18; simp only [ByteArray.size_append] at z_; exact eq_false (Nat.not_lt.2 z_)
                      replace H := Option.bind_eq_some_iff.mp H
                      obtain ⟨t147, A190, H⟩ := H
                      replace H : (if (((((((t143 ++ (⟨#[45]⟩ : ByteArray)) ++ t144) ++ (⟨#[45]⟩ : ByteArray)) ++ t145) ++ (⟨#[32]⟩ : ByteArray)) ++ t146) ++ (⟨#[58]⟩ : ByteArray)).size + t147.size ≤ 9223372036854775807 then (some ((((((((t143 ++ (⟨#[45]⟩ : ByteArray)) ++ t144) ++ (⟨#[45]⟩ : ByteArray)) ++ t145) ++ (⟨#[32]⟩ : ByteArray)) ++ t146) ++ (⟨#[58]⟩ : ByteArray)) ++ t147)) else (none)) = some r := H
                      have A19 := Aside0.mk A190
                      clear A190
                      by_cases c20 : (((((((t143 ++ (⟨#[45]⟩ : ByteArray)) ++ t144) ++ (⟨#[45]⟩ : ByteArray)) ++ t145) ++ (⟨#[32]⟩ : ByteArray)) ++ t146) ++ (⟨#[58]⟩ : ByteArray)).size + t147.size ≤ 9223372036854775807
                      · rw [if_pos c20] at H
                        have c20b0 := eq_true c20
                        have c20b1 : decide ((((((((t143 ++ (⟨#[45]⟩ : ByteArray)) ++ t144) ++ (⟨#[45]⟩ : ByteArray)) ++ t145) ++ (⟨#[32]⟩ : ByteArray)) ++ t146) ++ (⟨#[58]⟩ : ByteArray)).size + t147.size ≤ 9223372036854775807) = true := decide_eq_true c20
                        try have c20b2 : (9223372036854775807 < (((((((t143 ++ (⟨#[45]⟩ : ByteArray)) ++ t144) ++ (⟨#[45]⟩ : ByteArray)) ++ t145) ++ (⟨#[32]⟩ : ByteArray)) ++ t146) ++ (⟨#[58]⟩ : ByteArray)).size + t147.size) = False := eq_false (Nat.not_lt.2 c20)
                        have c20b3 : (9223372036854775807 < t143.size + 1 + t144.size + 1 + t145.size + 1 + t146.size + 1 + t147.size) = False := by have z_ := c20; simp only [ByteArray.size_append] at z_; exact eq_false (Nat.not_lt.2 z_)
                        obtain rfl := Option.some.inj H
                        go_wp2_with (first | ((with_reducible refine gate_callee (f := 17) rfl ?_); refine goesL_ (some 22) rfl rfl Try.func17 (by kernel_rfl) rfl #[.int .i64 a0] rfl (by (try simp only [List.map_toArray, List.map_cons, List.map_nil]); first | done | rfl | (simp only [List.length_drop, List.length_take]; rfl)) ?_; (with_reducible refine (hibernacleref48_Day.calls a0 t142 _ A7.out).mono ?_); rintro e w' ⟨rfl, ⟨nd, rfl⟩⟩; refine ⟨_, rfl, ?_⟩) | ((with_reducible refine gate_callee (f := 27) rfl ?_); refine goesL_ (some 26) rfl rfl Try.func27 (by kernel_rfl) rfl #[.int .i64 t139, .int .i64 4] rfl (by (try simp only [List.map_toArray, List.map_cons, List.map_nil]); first | done | rfl | (simp only [List.length_drop, List.length_take]; rfl)) ?_; (with_reducible refine (hibernacleref48_digits.calls kj3 t139 4 t143 _ A8.out).mono ?_); rintro e w21 ⟨rfl, hb⟩; refine ⟨_, rfl, ?_⟩; have n0_ := Aside0.mk (below_step (by repeat (first | (with_reducible first | exact HB.out | apply below_alloc | apply pw_below_drewN | apply below_drew1) | exact HB.out)) hb); clear HB; have HB := n0_; clear n0_; (try clear hb); (try clear hb2); (try clear hk); (try clear hi)) | ((with_reducible refine gate_callee (f := 27) rfl ?_); refine goesL_ (some 29) rfl rfl Try.func27 (by kernel_rfl) rfl #[.int .i64 t140, .int .i64 2] rfl (by (try simp only [List.map_toArray, List.map_cons, List.map_nil]); first | done | rfl | (simp only [List.length_drop, List.length_take]; rfl)) ?_; (with_reducible refine (hibernacleref48_digits.calls kj3 t140 2 t144 _ A10.out).mono ?_); rintro e w22 ⟨rfl, hb⟩; refine ⟨_, rfl, ?_⟩; have n0_ := Aside0.mk (below_step (by repeat (first | (with_reducible first | exact HB.out | apply below_alloc | apply pw_below_drewN | apply below_drew1) | exact HB.out)) hb); clear HB; have HB := n0_; clear n0_; (try clear hb); (try clear hb2); (try clear hk); (try clear hi)) | ((with_reducible refine gate_callee (f := 27) rfl ?_); refine goesL_ (some 33) rfl rfl Try.func27 (by kernel_rfl) rfl #[.int .i64 t141, .int .i64 2] rfl (by (try simp only [List.map_toArray, List.map_cons, List.map_nil]); first | done | rfl | (simp only [List.length_drop, List.length_take]; rfl)) ?_; (with_reducible refine (hibernacleref48_digits.calls kj3 t141 2 t145 _ A13.out).mono ?_); rintro e w23 ⟨rfl, hb⟩; refine ⟨_, rfl, ?_⟩; have n0_ := Aside0.mk (below_step (by repeat (first | (with_reducible first | exact HB.out | apply below_alloc | apply pw_below_drewN | apply below_drew1) | exact HB.out)) hb); clear HB; have HB := n0_; clear n0_; (try clear hb); (try clear hb2); (try clear hk); (try clear hi)) | ((with_reducible refine gate_callee (f := 27) rfl ?_); refine goesL_ (some 38) rfl rfl Try.func27 (by kernel_rfl) rfl #[.int .i64 (wrap64 (Int.tdiv (wrap64 (a0 - (wrap64 (1440 * t142)))) 60)), .int .i64 2] rfl (by (try simp only [List.map_toArray, List.map_cons, List.map_nil]); first | done | rfl | (simp only [List.length_drop, List.length_take]; rfl)) ?_; (with_reducible refine (hibernacleref48_digits.calls kj3 (wrap64 (Int.tdiv (wrap64 (a0 - (wrap64 (1440 * t142)))) 60)) 2 t146 _ A16.out).mono ?_); rintro e w24 ⟨rfl, hb⟩; refine ⟨_, rfl, ?_⟩; have n0_ := Aside0.mk (below_step (by repeat (first | (with_reducible first | exact HB.out | apply below_alloc | apply pw_below_drewN | apply below_drew1) | exact HB.out)) hb); clear HB; have HB := n0_; clear n0_; (try clear hb); (try clear hb2); (try clear hk); (try clear hi)) | ((with_reducible refine gate_callee (f := 27) rfl ?_); refine goesL_ (some 43) rfl rfl Try.func27 (by kernel_rfl) rfl #[.int .i64 (Int.tmod (wrap64 (a0 - (wrap64 (1440 * t142)))) 60), .int .i64 2] rfl (by (try simp only [List.map_toArray, List.map_cons, List.map_nil]); first | done | rfl | (simp only [List.length_drop, List.length_take]; rfl)) ?_; (with_reducible refine (hibernacleref48_digits.calls kj3 (Int.tmod (wrap64 (a0 - (wrap64 (1440 * t142)))) 60) 2 t147 _ A19.out).mono ?_); rintro e w25 ⟨rfl, hb⟩; refine ⟨_, rfl, ?_⟩; have n0_ := Aside0.mk (below_step (by repeat (first | (with_reducible first | exact HB.out | apply below_alloc | apply pw_below_drewN | apply below_drew1) | exact HB.out)) hb); clear HB; have HB := n0_; clear n0_; (try clear hb); (try clear hb2); (try clear hk); (try clear hi)))
                        go_ret
                        exact ⟨by first | rfl | (simp [errW_none, errW_some] <;> rfl) | (simp [*, errW_none, errW_some] <;> rfl), by repeat (first | (with_reducible first | exact HB.out | apply below_alloc | apply pw_below_drewN | apply below_drew1) | exact HB.out)⟩
                      · rw [if_neg c20] at H
                        exact absurd H (by simp)
                    · rw [if_neg c18] at H
                      exact absurd H (by simp)
                  · rw [if_neg c17] at H
                    exact absurd H (by simp)
                · rw [if_neg c15] at H
                  exact absurd H (by simp)
              · rw [if_neg c14] at H
                exact absurd H (by simp)
            · rw [if_neg c12] at H
              exact absurd H (by simp)
          · rw [if_neg c11] at H
            exact absurd H (by simp)
        · rw [if_neg c9] at H
          exact absurd H (by simp)

/-! ### day_number: function 28 -/
def day_number.l0 : Nat → ByteArray → Int → Int → Int → Option (Int)
  | 0, _, _, _, _ => none
  | k + 1, x0, x3, x6, x7 => if x7 < x6 then (if 0 ≤ x7 then (if x7 < (x0.size : Int) then (day_number.l0 k x0 (wrap64 ((wrap64 (x3 * 10)) + (((bt x0 x7) - 48) % 256))) x6 (wrap64 (x7 + 1))) else (none)) else (none)) else (some x3)
def day_number.f (k : Nat) (a0 : ByteArray) : Option (Int) := day_number.l0 k a0 0 (a0.size : Int) 0
theorem day_number.mono_l : ∀ k, (∀ y0 y1 y2 y3, LeO (day_number.l0 k y0 y1 y2 y3) (day_number.l0 (k + 1) y0 y1 y2 y3))
  | 0 => fun _ _ _ _ r h => by simp [day_number.l0] at h
  | k + 1 => by
    have ih0 := day_number.mono_l k
    · intro y0 y1 y2 y3
      unfold day_number.l0
      repeat' first
      | (with_reducible exact ih0 _ _ _ _)
      | (with_reducible exact LeO.refl _)
      | (with_reducible exact LeO.none _)
      | (with_reducible refine LeO.ite ?_ ?_)
      | (with_reducible refine LeO.bind ?_ (fun _ => ?_))
      | exact ih0 _ _ _ _
      | exact LeO.none _
      | refine LeO.ite ?_ ?_
      | refine LeO.bind ?_ (fun _ => ?_)
theorem day_number.mono : ∀ a0 k, LeO (day_number.f k a0) (day_number.f (k + 1) a0) := by
  intro a0 k
  have ih0 := day_number.mono_l k
  unfold day_number.f
  repeat' first
      | (with_reducible exact ih0 _ _ _ _)
      | (with_reducible exact LeO.refl _)
      | (with_reducible exact LeO.none _)
      | (with_reducible refine LeO.ite ?_ ?_)
      | (with_reducible refine LeO.bind ?_ (fun _ => ?_))
      | exact ih0 _ _ _ _
      | exact LeO.none _
      | refine LeO.ite ?_ ?_
      | refine LeO.bind ?_ (fun _ => ?_)
set_option maxHeartbeats 8000000 in
set_option maxRecDepth 100000 in
theorem day_number.calls (k : Nat) (a0 : ByteArray) (r : Int) (w : World) (h : day_number.f k a0 = some r) :
    Calls Try.prog 28 #[.string a0] w fun e w' => e = .returned (.int .i64 r) ∧ Drawn0 w w' := by
  have H : (day_number.l0 k a0 0 (a0.size : Int) 0) = some r := h
  clear h
  have H' := Aside0.mk H
  clear H
  go_enter Try.func28, Try.ntmps28
  go_wp2
  go_loopg [3, 7] k (fun kq v3 v7 w' => ∃ (x3_1 : Int) (x7_1 : Int), v3 = .int .i64 x3_1 ∧ v7 = .int .i64 x7_1 ∧ Aside0 (day_number.l0 kq a0 x3_1 (a0.size : Int) x7_1 = some r) ∧ Aside0 (kq ≤ k) ∧ Drawn0 w w')
  case atStart => exact ⟨(0), (0), (by first | rfl | (simp; done) | (simp [*]; done)), (by first | rfl | (simp; done) | (simp [*]; done)), H', ⟨Nat.le_refl _⟩, by repeat (first | exact Drawn0.refl _ | apply Drawn0.step)⟩
  case round =>
    clear H'
    obtain ⟨x3_1, x7_1, rfl, rfl, HA, HK1, ⟨m1, rfl⟩⟩ := hrel
    cases gk with
    | zero => exact absurd HA.out (by simp [day_number.l0])
    | succ k1 =>
      have H := HA.out
      clear HA
      simp only [day_number.l0] at H
      by_cases c2 : x7_1 < (a0.size : Int)
      · rw [if_pos c2] at H
        have c2b0 : decide (x7_1 < (a0.size : Int)) = true := decide_eq_true c2
        clear c2
        by_cases c3 : 0 ≤ x7_1
        · rw [if_pos c3] at H
          have c3b0 : decide (0 ≤ x7_1) = true := decide_eq_true c3
          clear c3
          by_cases c4 : x7_1 < (a0.size : Int)
          · rw [if_pos c4] at H
            have c4b0 : decide (x7_1 < (a0.size : Int)) = true := decide_eq_true c4
            clear c4
            have H' := Aside0.mk H
            clear H
            have p5 : 0 ≤ (x7_1 : Int) := of_decide_eq_true (by first | (with_reducible assumption) | assumption)
            have q5 : x7_1 < (a0.size : Int) := of_decide_eq_true (by first | (with_reducible assumption) | assumption)
            have hx5 := bt_at a0 x7_1
            replace p5 := eq_true p5
            replace q5 := eq_true q5
            go_wp2
            go_roundg k1
            case measure => have := HK1.out; omega
            case rel => exact ⟨(wrap64 ((wrap64 (x3_1 * 10)) + (((bt a0 x7_1) - 48) % 256))), (wrap64 (x7_1 + 1)), (by first | rfl | (simp; done) | (simp [*]; done)), (by first | rfl | (simp; done) | (simp [*]; done)), H', ⟨by have := HK1.out; omega⟩, by repeat (first | exact Drawn0.refl _ | apply Drawn0.step)⟩
          · rw [if_neg c4] at H
            exact absurd H (by simp)
        · rw [if_neg c3] at H
          exact absurd H (by simp)
      · rw [if_neg c2] at H
        have c2b0 : decide (x7_1 < (a0.size : Int)) = false := decide_eq_false c2
        clear c2
        obtain rfl := Option.some.inj H
        go_wp2
        go_ret
        exact ⟨by first | rfl | (simp; done) | (simp [*]; done), by repeat (first | exact Drawn0.refl _ | apply Drawn0.step)⟩

end Go.Proofs.Ytnanhempikhknaa.D
