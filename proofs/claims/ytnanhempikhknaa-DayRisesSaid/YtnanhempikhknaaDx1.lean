-- Made by wip/hp/hp.py (the kit's print, with functions proved by hand put in).
import Derived.Test.YtnanhempikhknaaDx0
namespace Go.Proofs.Ytnanhempikhknaa.D
open Go.RowKit Go.Proofs.YtnanhempikhknaaW.PrintWords Go.Proofs.YtnanhempikhknaaW.PrintLast Go.Proofs.YtnanhempikhknaaW.PrintMore
attribute [local go_sem] max2_int min2_int max_two min_two max_three min_three max_four min_four   -- for this text's walks alone
set_option linter.unusedVariables false
set_option linter.unusedSimpArgs false

/-! ### day_below: function 24 -/
def day_below.f (a0 : Int) (a1 : Int) : Option (Int × Int) := if a1 = 0 then (none) else (if (Int.tmod a0 a1) < 0 then (some (wrap64 ((wrap64 (Int.tdiv a0 a1)) - 1), wrap64 ((Int.tmod a0 a1) + a1))) else (some (wrap64 (Int.tdiv a0 a1), Int.tmod a0 a1)))
set_option maxHeartbeats 8000000 in
set_option maxRecDepth 100000 in
theorem day_below.calls (a0 : Int) (a1 : Int) (r1 : Int) (r2 : Int) (w : World) (h : day_below.f a0 a1 = some (r1, r2)) :
    Calls Try.prog 24 #[.int .i64 a0, .int .i64 a1] w fun e w' => e = .returned (.tuple #[.int .i64 r1, .int .i64 r2]) ∧ Drawn0 w w' := by
  have H : (if a1 = 0 then (none) else (if (Int.tmod a0 a1) < 0 then (some (wrap64 ((wrap64 (Int.tdiv a0 a1)) - 1), wrap64 ((Int.tmod a0 a1) + a1))) else (some (wrap64 (Int.tdiv a0 a1), Int.tmod a0 a1)))) = some (r1, r2) := h
  clear h
  by_cases c3 : a1 = 0
  · rw [if_pos c3] at H
    exact absurd H (by simp)
  · rw [if_neg c3] at H
    have c3b0 : (a1 == 0) = false := beq_eq_false_iff_ne.mpr c3
    have c3b1 : (a1 != 0) = true := bne_iff_ne.mpr c3
    by_cases c4 : (Int.tmod a0 a1) < 0
    · rw [if_pos c4] at H
      have c4b0 : decide ((Int.tmod a0 a1) < 0) = true := decide_eq_true c4
      clear c4
      simp only [Option.some.injEq, Prod.mk.injEq] at H
      obtain ⟨rfl, rfl⟩ := H
      go_enter Try.func24, Try.ntmps24
      go_wp2
      repeat (go_quiet (fail); try go_wp2)
      go_ret2
      exact ⟨by first | rfl | (simp; done) | (simp [*]; done), by repeat (first | exact Drawn0.refl _ | apply Drawn0.step)⟩
    · rw [if_neg c4] at H
      have c4b0 : decide ((Int.tmod a0 a1) < 0) = false := decide_eq_false c4
      clear c4
      simp only [Option.some.injEq, Prod.mk.injEq] at H
      obtain ⟨rfl, rfl⟩ := H
      go_enter Try.func24, Try.ntmps24
      go_wp2
      repeat (go_quiet (fail); try go_wp2)
      go_ret2
      exact ⟨by first | rfl | (simp; done) | (simp [*]; done), by repeat (first | exact Drawn0.refl _ | apply Drawn0.step)⟩

/-! ### day_Day: function 15 -/
def day_Day.f (a0 : Int) : Option (Int) := (day_below.f a0 1440).bind fun bt101 => (some bt101.1)
set_option maxHeartbeats 8000000 in
set_option maxRecDepth 100000 in
theorem day_Day.calls (a0 : Int) (r : Int) (w : World) (h : day_Day.f a0 = some r) :
    Calls Try.prog 15 #[.int .i64 a0] w fun e w' => e = .returned (.int .i64 r) ∧ Drawn0 w w' := by
  have H : ((day_below.f a0 1440).bind fun bt101 => (some bt101.1)) = some r := h
  clear h
  replace H := Option.bind_eq_some_iff.mp H
  obtain ⟨⟨t101, t102⟩, A20, H⟩ := H
  replace H : (some t101) = some r := H
  have A2 := Aside0.mk A20
  clear A20
  obtain rfl := Option.some.inj H
  go_enter Try.func15, Try.ntmps15
  go_wp2_with (first | ((with_reducible refine gate_callee (f := 24) rfl ?_); refine goesL_ (some 7) rfl rfl Try.func24 (by kernel_rfl) rfl #[.int .i64 a0, .int .i64 1440] rfl (by (try simp only [List.map_toArray, List.map_cons, List.map_nil]); first | done | rfl | (simp only [List.length_drop, List.length_take]; rfl)) ?_; (with_reducible refine (day_below.calls a0 1440 t101 t102 _ A2.out).mono ?_); rintro e w' ⟨rfl, ⟨nd, rfl⟩⟩; refine ⟨_, rfl, ?_⟩))
  go_ret
  exact ⟨by first | rfl | (simp; done) | (simp [*]; done), by repeat (first | exact Drawn0.refl _ | apply Drawn0.step)⟩

/-! ### day_leap: function 30 -/
def day_leap.f (a0 : Int) : Option (Bool) := (day_below.f a0 4).bind fun bt103 => ((day_below.f a0 100).bind fun bt105 => ((day_below.f a0 400).bind fun bt107 => (if bt103.2 = 0 then (if bt105.2 = 0 then (some (bt107.2 == 0)) else (some true)) else (some false))))
set_option maxHeartbeats 8000000 in
set_option maxRecDepth 100000 in
theorem day_leap.calls (a0 : Int) (r : Bool) (w : World) (h : day_leap.f a0 = some r) :
    Calls Try.prog 30 #[.int .i64 a0] w fun e w' => e = .returned (.bool r) ∧ Drawn0 w w' := by
  have H : ((day_below.f a0 4).bind fun bt103 => ((day_below.f a0 100).bind fun bt105 => ((day_below.f a0 400).bind fun bt107 => (if bt103.2 = 0 then (if bt105.2 = 0 then (some (bt107.2 == 0)) else (some true)) else (some false))))) = some r := h
  clear h
  replace H := Option.bind_eq_some_iff.mp H
  obtain ⟨⟨t103, t104⟩, A20, H⟩ := H
  replace H : ((day_below.f a0 100).bind fun bt105 => ((day_below.f a0 400).bind fun bt107 => (if t104 = 0 then (if bt105.2 = 0 then (some (bt107.2 == 0)) else (some true)) else (some false)))) = some r := H
  have A2 := Aside0.mk A20
  clear A20
  replace H := Option.bind_eq_some_iff.mp H
  obtain ⟨⟨t105, t106⟩, A30, H⟩ := H
  replace H : ((day_below.f a0 400).bind fun bt107 => (if t104 = 0 then (if t106 = 0 then (some (bt107.2 == 0)) else (some true)) else (some false))) = some r := H
  have A3 := Aside0.mk A30
  clear A30
  replace H := Option.bind_eq_some_iff.mp H
  obtain ⟨⟨t107, t108⟩, A40, H⟩ := H
  replace H : (if t104 = 0 then (if t106 = 0 then (some (t108 == 0)) else (some true)) else (some false)) = some r := H
  have A4 := Aside0.mk A40
  clear A40
  by_cases c5 : t104 = 0
  · rw [if_pos c5] at H
    have c5b0 : (t104 == 0) = true := beq_iff_eq.mpr c5
    have c5b1 : (t104 != 0) = false := bne_eq_false_iff_eq.mpr c5
    clear c5
    by_cases c6 : t106 = 0
    · rw [if_pos c6] at H
      have c6b0 : (t106 == 0) = true := beq_iff_eq.mpr c6
      have c6b1 : (t106 != 0) = false := bne_eq_false_iff_eq.mpr c6
      clear c6
      obtain rfl := Option.some.inj H
      go_enter Try.func30, Try.ntmps30
      go_wp2_with (first | ((with_reducible refine gate_callee (f := 24) rfl ?_); refine goesL_ (some 11) rfl rfl Try.func24 (by kernel_rfl) rfl #[.int .i64 a0, .int .i64 4] rfl (by (try simp only [List.map_toArray, List.map_cons, List.map_nil]); first | done | rfl | (simp only [List.length_drop, List.length_take]; rfl)) ?_; (with_reducible refine (day_below.calls a0 4 t103 t104 _ A2.out).mono ?_); rintro e w' ⟨rfl, ⟨nd, rfl⟩⟩; refine ⟨_, rfl, ?_⟩) | ((with_reducible refine gate_callee (f := 24) rfl ?_); refine goesL_ (some 16) rfl rfl Try.func24 (by kernel_rfl) rfl #[.int .i64 a0, .int .i64 100] rfl (by (try simp only [List.map_toArray, List.map_cons, List.map_nil]); first | done | rfl | (simp only [List.length_drop, List.length_take]; rfl)) ?_; (with_reducible refine (day_below.calls a0 100 t105 t106 _ A3.out).mono ?_); rintro e w' ⟨rfl, ⟨nd, rfl⟩⟩; refine ⟨_, rfl, ?_⟩) | ((with_reducible refine gate_callee (f := 24) rfl ?_); refine goesL_ (some 21) rfl rfl Try.func24 (by kernel_rfl) rfl #[.int .i64 a0, .int .i64 400] rfl (by (try simp only [List.map_toArray, List.map_cons, List.map_nil]); first | done | rfl | (simp only [List.length_drop, List.length_take]; rfl)) ?_; (with_reducible refine (day_below.calls a0 400 t107 t108 _ A4.out).mono ?_); rintro e w' ⟨rfl, ⟨nd, rfl⟩⟩; refine ⟨_, rfl, ?_⟩))
      go_ret
      exact ⟨by first | rfl | (simp; done) | (simp [*]; done), by repeat (first | exact Drawn0.refl _ | apply Drawn0.step)⟩
    · rw [if_neg c6] at H
      have c6b0 : (t106 == 0) = false := beq_eq_false_iff_ne.mpr c6
      have c6b1 : (t106 != 0) = true := bne_iff_ne.mpr c6
      obtain rfl := Option.some.inj H
      go_enter Try.func30, Try.ntmps30
      go_wp2_with (first | ((with_reducible refine gate_callee (f := 24) rfl ?_); refine goesL_ (some 11) rfl rfl Try.func24 (by kernel_rfl) rfl #[.int .i64 a0, .int .i64 4] rfl (by (try simp only [List.map_toArray, List.map_cons, List.map_nil]); first | done | rfl | (simp only [List.length_drop, List.length_take]; rfl)) ?_; (with_reducible refine (day_below.calls a0 4 t103 t104 _ A2.out).mono ?_); rintro e w' ⟨rfl, ⟨nd, rfl⟩⟩; refine ⟨_, rfl, ?_⟩) | ((with_reducible refine gate_callee (f := 24) rfl ?_); refine goesL_ (some 16) rfl rfl Try.func24 (by kernel_rfl) rfl #[.int .i64 a0, .int .i64 100] rfl (by (try simp only [List.map_toArray, List.map_cons, List.map_nil]); first | done | rfl | (simp only [List.length_drop, List.length_take]; rfl)) ?_; (with_reducible refine (day_below.calls a0 100 t105 t106 _ A3.out).mono ?_); rintro e w' ⟨rfl, ⟨nd, rfl⟩⟩; refine ⟨_, rfl, ?_⟩) | ((with_reducible refine gate_callee (f := 24) rfl ?_); refine goesL_ (some 21) rfl rfl Try.func24 (by kernel_rfl) rfl #[.int .i64 a0, .int .i64 400] rfl (by (try simp only [List.map_toArray, List.map_cons, List.map_nil]); first | done | rfl | (simp only [List.length_drop, List.length_take]; rfl)) ?_; (with_reducible refine (day_below.calls a0 400 t107 t108 _ A4.out).mono ?_); rintro e w' ⟨rfl, ⟨nd, rfl⟩⟩; refine ⟨_, rfl, ?_⟩))
      go_ret
      exact ⟨by first | rfl | (simp; done) | (simp [*]; done), by repeat (first | exact Drawn0.refl _ | apply Drawn0.step)⟩
  · rw [if_neg c5] at H
    have c5b0 : (t104 == 0) = false := beq_eq_false_iff_ne.mpr c5
    have c5b1 : (t104 != 0) = true := bne_iff_ne.mpr c5
    obtain rfl := Option.some.inj H
    go_enter Try.func30, Try.ntmps30
    go_wp2_with (first | ((with_reducible refine gate_callee (f := 24) rfl ?_); refine goesL_ (some 11) rfl rfl Try.func24 (by kernel_rfl) rfl #[.int .i64 a0, .int .i64 4] rfl (by (try simp only [List.map_toArray, List.map_cons, List.map_nil]); first | done | rfl | (simp only [List.length_drop, List.length_take]; rfl)) ?_; (with_reducible refine (day_below.calls a0 4 t103 t104 _ A2.out).mono ?_); rintro e w' ⟨rfl, ⟨nd, rfl⟩⟩; refine ⟨_, rfl, ?_⟩) | ((with_reducible refine gate_callee (f := 24) rfl ?_); refine goesL_ (some 16) rfl rfl Try.func24 (by kernel_rfl) rfl #[.int .i64 a0, .int .i64 100] rfl (by (try simp only [List.map_toArray, List.map_cons, List.map_nil]); first | done | rfl | (simp only [List.length_drop, List.length_take]; rfl)) ?_; (with_reducible refine (day_below.calls a0 100 t105 t106 _ A3.out).mono ?_); rintro e w' ⟨rfl, ⟨nd, rfl⟩⟩; refine ⟨_, rfl, ?_⟩) | ((with_reducible refine gate_callee (f := 24) rfl ?_); refine goesL_ (some 21) rfl rfl Try.func24 (by kernel_rfl) rfl #[.int .i64 a0, .int .i64 400] rfl (by (try simp only [List.map_toArray, List.map_cons, List.map_nil]); first | done | rfl | (simp only [List.length_drop, List.length_take]; rfl)) ?_; (with_reducible refine (day_below.calls a0 400 t107 t108 _ A4.out).mono ?_); rintro e w' ⟨rfl, ⟨nd, rfl⟩⟩; refine ⟨_, rfl, ?_⟩))
    go_ret
    exact ⟨by first | rfl | (simp; done) | (simp [*]; done), by repeat (first | exact Drawn0.refl _ | apply Drawn0.step)⟩

/-! ### day_length: function 29 -/
def day_length.f (a0 : Int) (a1 : Int) : Option (Int) := if a1 = 1 then ((day_leap.f a0).bind fun t => (if t = true then (some 29) else (some 28))) else (if 0 ≤ a1 then (if a1 < 12 then (if a1 = 3 then (some 30) else (if a1 = 5 then (some 30) else (if a1 = 8 then (some 30) else (if a1 = 10 then (some 30) else (some 31))))) else (none)) else (none))
theorem day_length.at0 (a0 : Int) (w : World) :
    Calls Try.prog 29 #[.int .i64 a0, .int .i64 0] w fun e w' => e = .returned (.int .i64 31) ∧ Below w.heap.size w w' := by
  go_enter Try.func29, Try.ntmps29
  go_wp2
  repeat (go_quiet (fail); try go_wp2)
  go_ret
  exact ⟨by first | rfl | (simp; done), (Below.refl _ _).alloc (Nat.le_refl _) _⟩
theorem day_length.at2 (a0 : Int) (w : World) :
    Calls Try.prog 29 #[.int .i64 a0, .int .i64 2] w fun e w' => e = .returned (.int .i64 31) ∧ Below w.heap.size w w' := by
  go_enter Try.func29, Try.ntmps29
  go_wp2
  repeat (go_quiet (fail); try go_wp2)
  go_ret
  exact ⟨by first | rfl | (simp; done), (Below.refl _ _).alloc (Nat.le_refl _) _⟩
theorem day_length.at3 (a0 : Int) (w : World) :
    Calls Try.prog 29 #[.int .i64 a0, .int .i64 3] w fun e w' => e = .returned (.int .i64 30) ∧ Below w.heap.size w w' := by
  go_enter Try.func29, Try.ntmps29
  go_wp2
  repeat (go_quiet (fail); try go_wp2)
  go_ret
  exact ⟨by first | rfl | (simp; done), (Below.refl _ _).alloc (Nat.le_refl _) _⟩
theorem day_length.at4 (a0 : Int) (w : World) :
    Calls Try.prog 29 #[.int .i64 a0, .int .i64 4] w fun e w' => e = .returned (.int .i64 31) ∧ Below w.heap.size w w' := by
  go_enter Try.func29, Try.ntmps29
  go_wp2
  repeat (go_quiet (fail); try go_wp2)
  go_ret
  exact ⟨by first | rfl | (simp; done), (Below.refl _ _).alloc (Nat.le_refl _) _⟩
theorem day_length.at5 (a0 : Int) (w : World) :
    Calls Try.prog 29 #[.int .i64 a0, .int .i64 5] w fun e w' => e = .returned (.int .i64 30) ∧ Below w.heap.size w w' := by
  go_enter Try.func29, Try.ntmps29
  go_wp2
  repeat (go_quiet (fail); try go_wp2)
  go_ret
  exact ⟨by first | rfl | (simp; done), (Below.refl _ _).alloc (Nat.le_refl _) _⟩
theorem day_length.at6 (a0 : Int) (w : World) :
    Calls Try.prog 29 #[.int .i64 a0, .int .i64 6] w fun e w' => e = .returned (.int .i64 31) ∧ Below w.heap.size w w' := by
  go_enter Try.func29, Try.ntmps29
  go_wp2
  repeat (go_quiet (fail); try go_wp2)
  go_ret
  exact ⟨by first | rfl | (simp; done), (Below.refl _ _).alloc (Nat.le_refl _) _⟩
theorem day_length.at7 (a0 : Int) (w : World) :
    Calls Try.prog 29 #[.int .i64 a0, .int .i64 7] w fun e w' => e = .returned (.int .i64 31) ∧ Below w.heap.size w w' := by
  go_enter Try.func29, Try.ntmps29
  go_wp2
  repeat (go_quiet (fail); try go_wp2)
  go_ret
  exact ⟨by first | rfl | (simp; done), (Below.refl _ _).alloc (Nat.le_refl _) _⟩
theorem day_length.at8 (a0 : Int) (w : World) :
    Calls Try.prog 29 #[.int .i64 a0, .int .i64 8] w fun e w' => e = .returned (.int .i64 30) ∧ Below w.heap.size w w' := by
  go_enter Try.func29, Try.ntmps29
  go_wp2
  repeat (go_quiet (fail); try go_wp2)
  go_ret
  exact ⟨by first | rfl | (simp; done), (Below.refl _ _).alloc (Nat.le_refl _) _⟩
theorem day_length.at9 (a0 : Int) (w : World) :
    Calls Try.prog 29 #[.int .i64 a0, .int .i64 9] w fun e w' => e = .returned (.int .i64 31) ∧ Below w.heap.size w w' := by
  go_enter Try.func29, Try.ntmps29
  go_wp2
  repeat (go_quiet (fail); try go_wp2)
  go_ret
  exact ⟨by first | rfl | (simp; done), (Below.refl _ _).alloc (Nat.le_refl _) _⟩
theorem day_length.at10 (a0 : Int) (w : World) :
    Calls Try.prog 29 #[.int .i64 a0, .int .i64 10] w fun e w' => e = .returned (.int .i64 30) ∧ Below w.heap.size w w' := by
  go_enter Try.func29, Try.ntmps29
  go_wp2
  repeat (go_quiet (fail); try go_wp2)
  go_ret
  exact ⟨by first | rfl | (simp; done), (Below.refl _ _).alloc (Nat.le_refl _) _⟩
theorem day_length.at11 (a0 : Int) (w : World) :
    Calls Try.prog 29 #[.int .i64 a0, .int .i64 11] w fun e w' => e = .returned (.int .i64 31) ∧ Below w.heap.size w w' := by
  go_enter Try.func29, Try.ntmps29
  go_wp2
  repeat (go_quiet (fail); try go_wp2)
  go_ret
  exact ⟨by first | rfl | (simp; done), (Below.refl _ _).alloc (Nat.le_refl _) _⟩
theorem day_length.at1t (a0 : Int) (w : World) (h : day_leap.f a0 = some true) :
    Calls Try.prog 29 #[.int .i64 a0, .int .i64 1] w fun e w' => e = .returned (.int .i64 29) ∧ Below w.heap.size w w' := by
  have A2 := Aside0.mk h
  clear h
  go_enter Try.func29, Try.ntmps29
  go_wp2_with ((with_reducible refine (day_leap.calls a0 true _ A2.out).mono ?_); rintro e w' ⟨rfl, ⟨nd, rfl⟩⟩)
  repeat (go_quiet (fail); try go_wp2)
  go_ret
  exact ⟨by first | rfl | (simp; done), pw_below_drewN ((Below.refl _ _).alloc (Nat.le_refl _) _) _⟩
theorem day_length.at1f (a0 : Int) (w : World) (h : day_leap.f a0 = some false) :
    Calls Try.prog 29 #[.int .i64 a0, .int .i64 1] w fun e w' => e = .returned (.int .i64 28) ∧ Below w.heap.size w w' := by
  have A2 := Aside0.mk h
  clear h
  go_enter Try.func29, Try.ntmps29
  go_wp2_with ((with_reducible refine (day_leap.calls a0 false _ A2.out).mono ?_); rintro e w' ⟨rfl, ⟨nd, rfl⟩⟩)
  repeat (go_quiet (fail); try go_wp2)
  go_ret
  exact ⟨by first | rfl | (simp; done), pw_below_drewN ((Below.refl _ _).alloc (Nat.le_refl _) _) _⟩
theorem day_length.calls (a0 : Int) (a1 : Int) (r : Int) (w : World) (h : day_length.f a0 a1 = some r) :
    Calls Try.prog 29 #[.int .i64 a0, .int .i64 a1] w fun e w' => e = .returned (.int .i64 r) ∧ Below w.heap.size w w' := by
  unfold day_length.f at h
  by_cases h1 : a1 = 1
  · rw [if_pos h1] at h
    subst h1
    obtain ⟨b, hb, h⟩ := Option.bind_eq_some_iff.mp h
    cases b with
    | true =>
      rw [if_pos rfl] at h
      obtain rfl := Option.some.inj h
      exact day_length.at1t a0 w hb
    | false =>
      rw [if_neg (by decide)] at h
      obtain rfl := Option.some.inj h
      exact day_length.at1f a0 w hb
  · rw [if_neg h1] at h
    by_cases h2 : 0 ≤ a1
    · rw [if_pos h2] at h
      by_cases h3 : a1 < 12
      · rw [if_pos h3] at h
        have hc : a1 = 0 ∨ a1 = 2 ∨ a1 = 3 ∨ a1 = 4 ∨ a1 = 5 ∨ a1 = 6 ∨ a1 = 7 ∨ a1 = 8 ∨ a1 = 9 ∨ a1 = 10 ∨ a1 = 11 := by omega
        rcases hc with rfl | rfl | rfl | rfl | rfl | rfl | rfl | rfl | rfl | rfl | rfl <;> (simp at h; subst h)
        · exact day_length.at0 a0 w
        · exact day_length.at2 a0 w
        · exact day_length.at3 a0 w
        · exact day_length.at4 a0 w
        · exact day_length.at5 a0 w
        · exact day_length.at6 a0 w
        · exact day_length.at7 a0 w
        · exact day_length.at8 a0 w
        · exact day_length.at9 a0 w
        · exact day_length.at10 a0 w
        · exact day_length.at11 a0 w
      · rw [if_neg h3] at h
        cases h
    · rw [if_neg h2] at h
      cases h

/-! ### day_date: function 23 -/
mutual
def day_date.j1 : Nat → Int → Int → Int → Option (Int × Int × Int)
  | 0, _, _, _ => none
  | k + 1, x2, x3, x4 => day_date.l1 k x2 x3 x4
def day_date.l1 : Nat → Int → Int → Int → Option (Int × Int × Int)
  | 0, _, _, _ => none
  | k + 1, x2, x3, x4 => (day_length.f x2 x3).bind fun t112 => (if x4 ≥ t112 then ((day_length.f x2 x3).bind fun t113 => (day_date.l1 k x2 (wrap64 (x3 + 1)) (wrap64 (x4 - t113)))) else (some (x2, x3, x4)))
def day_date.l0 : Nat → Int → Int → Int → Option (Int × Int × Int)
  | 0, _, _, _ => none
  | k + 1, x2, x3, x4 => (day_leap.f x2).bind fun t111 => (if t111 = true then (if x4 < 366 then (day_date.j1 k x2 x3 x4) else (day_date.l0 k (wrap64 (x2 + 1)) x3 (wrap64 (x4 - 366)))) else (if x4 < 365 then (day_date.j1 k x2 x3 x4) else (day_date.l0 k (wrap64 (x2 + 1)) x3 (wrap64 (x4 - 365)))))
end
def day_date.f (k : Nat) (a0 : Int) : Option (Int × Int × Int) := (day_below.f a0 146097).bind fun bt109 => (day_date.l0 k (wrap64 (2000 + (wrap64 (bt109.1 * 400)))) 0 bt109.2)
theorem day_date.mono_l : ∀ k, (∀ y0 y1 y2, LeO (day_date.j1 k y0 y1 y2) (day_date.j1 (k + 1) y0 y1 y2)) ∧ (∀ y0 y1 y2, LeO (day_date.l1 k y0 y1 y2) (day_date.l1 (k + 1) y0 y1 y2)) ∧ (∀ y0 y1 y2, LeO (day_date.l0 k y0 y1 y2) (day_date.l0 (k + 1) y0 y1 y2))
  | 0 => ⟨fun _ _ _ r h => by simp [day_date.j1] at h, fun _ _ _ r h => by simp [day_date.l1] at h, fun _ _ _ r h => by simp [day_date.l0] at h⟩
  | k + 1 => by
    obtain ⟨ih0, ih1, ih2⟩ := day_date.mono_l k
    refine ⟨?_, ?_, ?_⟩
    · intro y0 y1 y2
      unfold day_date.j1
      repeat' first
      | (with_reducible exact ih0 _ _ _)
      | (with_reducible exact ih1 _ _ _)
      | (with_reducible exact ih2 _ _ _)
      | (with_reducible exact LeO.refl _)
      | (with_reducible exact LeO.none _)
      | (with_reducible refine LeO.ite ?_ ?_)
      | (with_reducible refine LeO.bind ?_ (fun _ => ?_))
      | exact ih0 _ _ _
      | exact ih1 _ _ _
      | exact ih2 _ _ _
      | exact LeO.none _
      | refine LeO.ite ?_ ?_
      | refine LeO.bind ?_ (fun _ => ?_)
    · intro y0 y1 y2
      unfold day_date.l1
      repeat' first
      | (with_reducible exact ih0 _ _ _)
      | (with_reducible exact ih1 _ _ _)
      | (with_reducible exact ih2 _ _ _)
      | (with_reducible exact LeO.refl _)
      | (with_reducible exact LeO.none _)
      | (with_reducible refine LeO.ite ?_ ?_)
      | (with_reducible refine LeO.bind ?_ (fun _ => ?_))
      | exact ih0 _ _ _
      | exact ih1 _ _ _
      | exact ih2 _ _ _
      | exact LeO.none _
      | refine LeO.ite ?_ ?_
      | refine LeO.bind ?_ (fun _ => ?_)
    · intro y0 y1 y2
      unfold day_date.l0
      repeat' first
      | (with_reducible exact ih0 _ _ _)
      | (with_reducible exact ih1 _ _ _)
      | (with_reducible exact ih2 _ _ _)
      | (with_reducible exact LeO.refl _)
      | (with_reducible exact LeO.none _)
      | (with_reducible refine LeO.ite ?_ ?_)
      | (with_reducible refine LeO.bind ?_ (fun _ => ?_))
      | exact ih0 _ _ _
      | exact ih1 _ _ _
      | exact ih2 _ _ _
      | exact LeO.none _
      | refine LeO.ite ?_ ?_
      | refine LeO.bind ?_ (fun _ => ?_)
theorem day_date.mono : ∀ a0 k, LeO (day_date.f k a0) (day_date.f (k + 1) a0) := by
  intro a0 k
  obtain ⟨ih0, ih1, ih2⟩ := day_date.mono_l k
  unfold day_date.f
  repeat' first
      | (with_reducible exact ih0 _ _ _)
      | (with_reducible exact ih1 _ _ _)
      | (with_reducible exact ih2 _ _ _)
      | (with_reducible exact LeO.refl _)
      | (with_reducible exact LeO.none _)
      | (with_reducible refine LeO.ite ?_ ?_)
      | (with_reducible refine LeO.bind ?_ (fun _ => ?_))
      | exact ih0 _ _ _
      | exact ih1 _ _ _
      | exact ih2 _ _ _
      | exact LeO.none _
      | refine LeO.ite ?_ ?_
      | refine LeO.bind ?_ (fun _ => ?_)
set_option maxHeartbeats 8000000 in
set_option maxRecDepth 100000 in
theorem day_date.calls (k : Nat) (a0 : Int) (r1 : Int) (r2 : Int) (r3 : Int) (w : World) (h : day_date.f k a0 = some (r1, r2, r3)) :
    Calls Try.prog 23 #[.int .i64 a0] w fun e w' => e = .returned (.tuple #[.int .i64 r1, .int .i64 r2, .int .i64 r3]) ∧ Below w.heap.size w w' := by
  have HB := Aside0.mk (Below.refl w.heap.size w)
  have H : ((day_below.f a0 146097).bind fun bt109 => (day_date.l0 k (wrap64 (2000 + (wrap64 (bt109.1 * 400)))) 0 bt109.2)) = some (r1, r2, r3) := h
  clear h
  replace H := Option.bind_eq_some_iff.mp H
  obtain ⟨⟨t109, t110⟩, A20, H⟩ := H
  replace H : (day_date.l0 k (wrap64 (2000 + (wrap64 (t109 * 400)))) 0 t110) = some (r1, r2, r3) := H
  have A2 := Aside0.mk A20
  clear A20
  have HC3 := Aside0.mk H
  clear H
  go_enter Try.func23, Try.ntmps23
  go_upto_block 0 with (first | ((with_reducible refine gate_callee (f := 24) rfl ?_); refine goesL_ (some 9) rfl rfl Try.func24 (by kernel_rfl) rfl #[.int .i64 a0, .int .i64 146097] rfl (by (try simp only [List.map_toArray, List.map_cons, List.map_nil]); first | done | rfl | (simp only [List.length_drop, List.length_take]; rfl)) ?_; (with_reducible refine (day_below.calls a0 146097 t109 t110 _ A2.out).mono ?_); rintro e w' ⟨rfl, ⟨nd, rfl⟩⟩; refine ⟨_, rfl, ?_⟩))
  (try simp only [Act.put, List.setIfInBounds_toArray, List.set_cons_zero, List.set_cons_succ])
  go_cut [2, 4] (fun v2 v4 wc => ∃ (kq : Nat) (x2_2 : Int) (x4_2 : Int), v2 = .int .i64 x2_2 ∧ v4 = .int .i64 x4_2 ∧ Aside0 (day_date.j1 kq x2_2 0 x4_2 = some (r1, r2, r3)) ∧ Aside0 (kq ≤ k) ∧ Aside0 (Below w.heap.size w wc))
  case first =>
    have H := HC3.out
    clear HC3
    have H' := Aside0.mk H
    clear H
    go_wp2
    go_loopg [2, 4] k (fun kq v2 v4 w' => ∃ (x2_1 : Int) (x4_1 : Int), v2 = .int .i64 x2_1 ∧ v4 = .int .i64 x4_1 ∧ Aside0 (day_date.l0 kq x2_1 0 x4_1 = some (r1, r2, r3)) ∧ Aside0 (kq ≤ k) ∧ Aside0 (Below w.heap.size w w'))
    case atStart => exact ⟨(wrap64 (2000 + (wrap64 (t109 * 400)))), (t110), (by first | rfl | (simp; done) | (simp [*]; done)), (by first | rfl | (simp; done) | (simp [*]; done)), H', ⟨Nat.le_refl _⟩, ⟨by repeat (first | (with_reducible first | exact HB.out | apply below_alloc | apply pw_below_drewN | apply below_drew1) | exact HB.out)⟩⟩
    case round =>
      clear H'
      try clear c2
      try clear p2
      obtain ⟨x2_1, x4_1, rfl, rfl, HA, HK1, HB⟩ := hrel
      cases gk with
      | zero => exact absurd HA.out (by simp [day_date.l0])
      | succ k1 =>
        have H := HA.out
        clear HA
        simp only [day_date.l0] at H
        replace H := Option.bind_eq_some_iff.mp H
        obtain ⟨t111, A40, H⟩ := H
        replace H : (if t111 = true then (if x4_1 < 366 then (day_date.j1 k1 x2_1 0 x4_1) else (day_date.l0 k1 (wrap64 (x2_1 + 1)) 0 (wrap64 (x4_1 - 366)))) else (if x4_1 < 365 then (day_date.j1 k1 x2_1 0 x4_1) else (day_date.l0 k1 (wrap64 (x2_1 + 1)) 0 (wrap64 (x4_1 - 365))))) = some (r1, r2, r3) := H
        have A4 := Aside0.mk A40
        clear A40
        by_cases c5 : t111 = true
        · subst c5
          have H1 : (if x4_1 < 366 then (day_date.j1 k1 x2_1 0 x4_1) else (day_date.l0 k1 (wrap64 (x2_1 + 1)) 0 (wrap64 (x4_1 - 366)))) = some (r1, r2, r3) := by rw [if_pos rfl] at H; exact H
          clear H
          have H := H1
          clear H1
          by_cases c6 : x4_1 < 366
          · rw [if_pos c6] at H
            have c6b0 : decide (x4_1 < 366) = true := decide_eq_true c6
            clear c6
            (first | rw [c6b0] | (simp only [i64_w, i32_w]; rw [c6b0]) | skip)
            have H' := Aside0.mk H
            clear H
            go_wp2_with (first | ((with_reducible refine gate_callee (f := 30) rfl ?_); refine goesL_ (some 16) rfl rfl Try.func30 (by kernel_rfl) rfl #[.int .i64 x2_1] rfl (by (try simp only [List.map_toArray, List.map_cons, List.map_nil]); first | done | rfl | (simp only [List.length_drop, List.length_take]; rfl)) ?_; (with_reducible refine (day_leap.calls x2_1 true _ A4.out).mono ?_); rintro e w' ⟨rfl, ⟨nd, rfl⟩⟩; refine ⟨_, rfl, ?_⟩))
            go_meet
            case rel => exact ⟨_, (x2_1), (x4_1), (by first | rfl | (simp; done) | (simp [*]; done)), (by first | rfl | (simp; done) | (simp [*]; done)), H', ⟨by have := HK1.out; first | omega | exact Nat.le_refl _⟩, ⟨by repeat (first | (with_reducible first | exact HB.out | apply below_alloc | apply pw_below_drewN | apply below_drew1) | exact HB.out)⟩⟩
          · rw [if_neg c6] at H
            have c6b0 : decide (x4_1 < 366) = false := decide_eq_false c6
            clear c6
            (first | rw [c6b0] | (simp only [i64_w, i32_w]; rw [c6b0]) | skip)
            have H' := Aside0.mk H
            clear H
            go_wp2_with (first | ((with_reducible refine gate_callee (f := 30) rfl ?_); refine goesL_ (some 16) rfl rfl Try.func30 (by kernel_rfl) rfl #[.int .i64 x2_1] rfl (by (try simp only [List.map_toArray, List.map_cons, List.map_nil]); first | done | rfl | (simp only [List.length_drop, List.length_take]; rfl)) ?_; (with_reducible refine (day_leap.calls x2_1 true _ A4.out).mono ?_); rintro e w' ⟨rfl, ⟨nd, rfl⟩⟩; refine ⟨_, rfl, ?_⟩))
            go_roundg k1
            case measure => have := HK1.out; omega
            case rel => exact ⟨(wrap64 (x2_1 + 1)), (wrap64 (x4_1 - 366)), (by first | rfl | (simp; done) | (simp [*]; done)), (by first | rfl | (simp; done) | (simp [*]; done)), H', ⟨by have := HK1.out; omega⟩, ⟨by repeat (first | (with_reducible first | exact HB.out | apply below_alloc | apply pw_below_drewN | apply below_drew1) | exact HB.out)⟩⟩
        · replace c5 := Bool.eq_false_iff.mpr c5
          subst c5
          have H1 : (if x4_1 < 365 then (day_date.j1 k1 x2_1 0 x4_1) else (day_date.l0 k1 (wrap64 (x2_1 + 1)) 0 (wrap64 (x4_1 - 365)))) = some (r1, r2, r3) := by rw [if_neg (show ¬ (false = true) by decide)] at H; exact H
          clear H
          have H := H1
          clear H1
          by_cases c7 : x4_1 < 365
          · rw [if_pos c7] at H
            have c7b0 : decide (x4_1 < 365) = true := decide_eq_true c7
            clear c7
            have H' := Aside0.mk H
            clear H
            go_wp2_with (first | ((with_reducible refine gate_callee (f := 30) rfl ?_); refine goesL_ (some 16) rfl rfl Try.func30 (by kernel_rfl) rfl #[.int .i64 x2_1] rfl (by (try simp only [List.map_toArray, List.map_cons, List.map_nil]); first | done | rfl | (simp only [List.length_drop, List.length_take]; rfl)) ?_; (with_reducible refine (day_leap.calls x2_1 false _ A4.out).mono ?_); rintro e w' ⟨rfl, ⟨nd, rfl⟩⟩; refine ⟨_, rfl, ?_⟩))
            go_meet
            case rel => exact ⟨_, (x2_1), (x4_1), (by first | rfl | (simp; done) | (simp [*]; done)), (by first | rfl | (simp; done) | (simp [*]; done)), H', ⟨by have := HK1.out; first | omega | exact Nat.le_refl _⟩, ⟨by repeat (first | (with_reducible first | exact HB.out | apply below_alloc | apply pw_below_drewN | apply below_drew1) | exact HB.out)⟩⟩
          · rw [if_neg c7] at H
            have c7b0 : decide (x4_1 < 365) = false := decide_eq_false c7
            clear c7
            have H' := Aside0.mk H
            clear H
            go_wp2_with (first | ((with_reducible refine gate_callee (f := 30) rfl ?_); refine goesL_ (some 16) rfl rfl Try.func30 (by kernel_rfl) rfl #[.int .i64 x2_1] rfl (by (try simp only [List.map_toArray, List.map_cons, List.map_nil]); first | done | rfl | (simp only [List.length_drop, List.length_take]; rfl)) ?_; (with_reducible refine (day_leap.calls x2_1 false _ A4.out).mono ?_); rintro e w' ⟨rfl, ⟨nd, rfl⟩⟩; refine ⟨_, rfl, ?_⟩))
            go_roundg k1
            case measure => have := HK1.out; omega
            case rel => exact ⟨(wrap64 (x2_1 + 1)), (wrap64 (x4_1 - 365)), (by first | rfl | (simp; done) | (simp [*]; done)), (by first | rfl | (simp; done) | (simp [*]; done)), H', ⟨by have := HK1.out; omega⟩, ⟨by repeat (first | (with_reducible first | exact HB.out | apply below_alloc | apply pw_below_drewN | apply below_drew1) | exact HB.out)⟩⟩
  case rest =>
    clear HC3
    try clear c2
    try clear p2
    try clear c3
    try clear c5
    try clear c6
    try clear c6b0
    try clear p6
    try clear c7
    try clear c7b0
    try clear p2
    obtain ⟨kq, x2_2, x4_2, rfl, rfl, HA, HJ2, HB⟩ := hcut
    cases kq with
    | zero => exact absurd HA.out (by simp [day_date.j1])
    | succ kj2 =>
      have H := HA.out
      clear HA
      simp only [day_date.j1] at H
      have H' := Aside0.mk H
      clear H
      go_wp2
      go_loopg [3, 4] kj2 (fun kq v3 v4 w' => ∃ (x3_2 : Int) (x4_2 : Int), v3 = .int .i64 x3_2 ∧ v4 = .int .i64 x4_2 ∧ Aside0 (day_date.l1 kq x2_2 x3_2 x4_2 = some (r1, r2, r3)) ∧ Aside0 (kq ≤ kj2) ∧ Aside0 (Below w.heap.size w w'))
      case atStart => exact ⟨(0), (x4_2), (by first | rfl | (simp; done) | (simp [*]; done)), (by first | rfl | (simp; done) | (simp [*]; done)), H', ⟨Nat.le_refl _⟩, ⟨by repeat (first | (with_reducible first | exact HB.out | apply below_alloc | apply pw_below_drewN | apply below_drew1) | exact HB.out)⟩⟩
      case round =>
        clear H'
        try clear c2
        try clear p2
        try clear c3
        try clear c5
        try clear c6
        try clear c6b0
        try clear p6
        try clear c7
        try clear c7b0
        try clear p2
        try clear p6
        obtain ⟨x3_2, x4_2, rfl, rfl, HA, HK2, HB⟩ := hrel
        cases gk with
        | zero => exact absurd HA.out (by simp [day_date.l1])
        | succ k2 =>
          have H := HA.out
          clear HA
          simp only [day_date.l1] at H
          replace H := Option.bind_eq_some_iff.mp H
          obtain ⟨t112, A80, H⟩ := H
          replace H : (if x4_2 ≥ t112 then ((day_length.f x2_2 x3_2).bind fun t113 => (day_date.l1 k2 x2_2 (wrap64 (x3_2 + 1)) (wrap64 (x4_2 - t113)))) else (some (x2_2, x3_2, x4_2))) = some (r1, r2, r3) := H
          have A8 := Aside0.mk A80
          clear A80
          by_cases c9 : x4_2 ≥ t112
          · rw [if_pos c9] at H
            have c9b0 : decide (t112 ≤ x4_2) = true := decide_eq_true c9
            clear c9
            replace H := Option.bind_eq_some_iff.mp H
            obtain ⟨t113, A100, H⟩ := H
            replace H : (day_date.l1 k2 x2_2 (wrap64 (x3_2 + 1)) (wrap64 (x4_2 - t113))) = some (r1, r2, r3) := H
            have A10 := Aside0.mk A100
            clear A100
            have H' := Aside0.mk H
            clear H
            go_wp2_with (first | ((with_reducible refine gate_callee (f := 29) rfl ?_); refine goesL_ (some 28) rfl rfl Try.func29 (by kernel_rfl) rfl #[.int .i64 x2_2, .int .i64 x3_2] rfl (by (try simp only [List.map_toArray, List.map_cons, List.map_nil]); first | done | rfl | (simp only [List.length_drop, List.length_take]; rfl)) ?_; (with_reducible refine (day_length.calls x2_2 x3_2 t112 _ A8.out).mono ?_); rintro e w11 ⟨rfl, hb⟩; refine ⟨_, rfl, ?_⟩; have n0_ := Aside0.mk (below_step (by repeat (first | (with_reducible first | exact HB.out | apply below_alloc | apply pw_below_drewN | apply below_drew1) | exact HB.out)) hb); clear HB; have HB := n0_; clear n0_; (try clear hb); (try clear hb2); (try clear hk); (try clear hi)) | ((with_reducible refine gate_callee (f := 29) rfl ?_); refine goesL_ (some 33) rfl rfl Try.func29 (by kernel_rfl) rfl #[.int .i64 x2_2, .int .i64 x3_2] rfl (by (try simp only [List.map_toArray, List.map_cons, List.map_nil]); first | done | rfl | (simp only [List.length_drop, List.length_take]; rfl)) ?_; (with_reducible refine (day_length.calls x2_2 x3_2 t113 _ A10.out).mono ?_); rintro e w12 ⟨rfl, hb⟩; refine ⟨_, rfl, ?_⟩; have n0_ := Aside0.mk (below_step (by repeat (first | (with_reducible first | exact HB.out | apply below_alloc | apply pw_below_drewN | apply below_drew1) | exact HB.out)) hb); clear HB; have HB := n0_; clear n0_; (try clear hb); (try clear hb2); (try clear hk); (try clear hi)))
            go_roundg k2
            case measure => have := HJ2.out; have := HK2.out; omega
            case rel => exact ⟨(wrap64 (x3_2 + 1)), (wrap64 (x4_2 - t113)), (by first | rfl | (simp; done) | (simp [*]; done)), (by first | rfl | (simp; done) | (simp [*]; done)), H', ⟨by have := HJ2.out; have := HK2.out; omega⟩, ⟨by repeat (first | (with_reducible first | exact HB.out | apply below_alloc | apply pw_below_drewN | apply below_drew1) | exact HB.out)⟩⟩
          · rw [if_neg c9] at H
            have c9b0 : decide (t112 ≤ x4_2) = false := decide_eq_false c9
            clear c9
            simp only [Option.some.injEq, Prod.mk.injEq] at H
            obtain ⟨rfl, rfl, rfl⟩ := H
            go_wp2_with (first | ((with_reducible refine gate_callee (f := 29) rfl ?_); refine goesL_ (some 28) rfl rfl Try.func29 (by kernel_rfl) rfl #[.int .i64 x2_2, .int .i64 x3_2] rfl (by (try simp only [List.map_toArray, List.map_cons, List.map_nil]); first | done | rfl | (simp only [List.length_drop, List.length_take]; rfl)) ?_; (with_reducible refine (day_length.calls x2_2 x3_2 t112 _ A8.out).mono ?_); rintro e w13 ⟨rfl, hb⟩; refine ⟨_, rfl, ?_⟩; have n0_ := Aside0.mk (below_step (by repeat (first | (with_reducible first | exact HB.out | apply below_alloc | apply pw_below_drewN | apply below_drew1) | exact HB.out)) hb); clear HB; have HB := n0_; clear n0_; (try clear hb); (try clear hb2); (try clear hk); (try clear hi)))
            go_ret3
            exact ⟨by first | rfl | (simp [errW_none, errW_some] <;> rfl) | (simp [*, errW_none, errW_some] <;> rfl), by repeat (first | (with_reducible first | exact HB.out | apply below_alloc | apply pw_below_drewN | apply below_drew1) | exact HB.out)⟩

/-! ### day_digits: function 25 -/
def day_digits.l0 : Nat → Int → List Int → Int → Option (ByteArray)
  | 0, _, _, _ => none
  | k + 1, x0, x5, x6 => if x6 ≥ 0 then (if 0 ≤ x6 then (if x6 < (x5.length : Int) then (day_digits.l0 k (wrap64 (Int.tdiv x0 10)) (x5.set (x6 : Int).toNat ((wrap64 (48 + (Int.tmod x0 10))) % 256)) (wrap64 (x6 - 1))) else (none)) else (none)) else (some (strOfNums x5))
def day_digits.f (k : Nat) (a0 : Int) (a1 : Int) : Option (ByteArray) := if 0 ≤ a1 then (if (a1 : Int).toNat ≤ 281474976710656 then (day_digits.l0 k a0 (List.replicate (a1 : Int).toNat 0) (wrap64 (a1 - 1))) else (none)) else (none)
theorem day_digits.mono_l : ∀ k, (∀ y0 y1 y2, LeO (day_digits.l0 k y0 y1 y2) (day_digits.l0 (k + 1) y0 y1 y2))
  | 0 => fun _ _ _ r h => by simp [day_digits.l0] at h
  | k + 1 => by
    have ih0 := day_digits.mono_l k
    · intro y0 y1 y2
      unfold day_digits.l0
      repeat' first
      | (with_reducible exact ih0 _ _ _)
      | (with_reducible exact LeO.refl _)
      | (with_reducible exact LeO.none _)
      | (with_reducible refine LeO.ite ?_ ?_)
      | (with_reducible refine LeO.bind ?_ (fun _ => ?_))
      | exact ih0 _ _ _
      | exact LeO.none _
      | refine LeO.ite ?_ ?_
      | refine LeO.bind ?_ (fun _ => ?_)
theorem day_digits.mono : ∀ a0 a1 k, LeO (day_digits.f k a0 a1) (day_digits.f (k + 1) a0 a1) := by
  intro a0 a1 k
  have ih0 := day_digits.mono_l k
  unfold day_digits.f
  repeat' first
      | (with_reducible exact ih0 _ _ _)
      | (with_reducible exact LeO.refl _)
      | (with_reducible exact LeO.none _)
      | (with_reducible refine LeO.ite ?_ ?_)
      | (with_reducible refine LeO.bind ?_ (fun _ => ?_))
      | exact ih0 _ _ _
      | exact LeO.none _
      | refine LeO.ite ?_ ?_
      | refine LeO.bind ?_ (fun _ => ?_)
set_option maxHeartbeats 8000000 in
set_option maxRecDepth 100000 in
theorem day_digits.calls (k : Nat) (a0 : Int) (a1 : Int) (r : ByteArray) (w : World) (h : day_digits.f k a0 a1 = some r) :
    Calls Try.prog 25 #[.int .i64 a0, .int .i64 a1] w fun e w' => e = .returned (.string r) ∧ Below w.heap.size w w' := by
  have HB := Aside0.mk (Below.refl w.heap.size w)
  have H : (if 0 ≤ a1 then (if (a1 : Int).toNat ≤ 281474976710656 then (day_digits.l0 k a0 (List.replicate (a1 : Int).toNat 0) (wrap64 (a1 - 1))) else (none)) else (none)) = some r := h
  clear h
  by_cases c3 : 0 ≤ a1
  · rw [if_pos c3] at H
    have c3b0 := eq_true c3
    have c3b1 : decide (0 ≤ a1) = true := decide_eq_true c3
    clear c3
    by_cases c4 : (a1 : Int).toNat ≤ 281474976710656
    · rw [if_pos c4] at H
      have c4b0 := eq_true c4
      have c4b1 : decide ((a1 : Int).toNat ≤ 281474976710656) = true := decide_eq_true c4
      clear c4
      obtain ⟨y114, hy114⟩ : ∃ y_ : List Int, y_ = (List.replicate (a1 : Int).toNat 0) := ⟨_, rfl⟩
      replace H : (day_digits.l0 k a0 y114 (wrap64 (a1 - 1))) = some r := by first | (rw [hy114]; with_reducible exact H) | (have H2_ := (Option.bind_some _ _).symm.trans H; rw [hy114]; with_reducible exact H2_) | (have H2_ := (Option.bind_some _ _).symm.trans H; with_reducible exact H2_) | with_reducible exact H | (rw [hy114]; exact H) | exact H
      have Ny114 := Aside0.mk hy114
      clear hy114
      have H' := Aside0.mk H
      clear H
      go_enter Try.func25, Try.ntmps25
      go_wp2_with (first | ((with_reducible refine gate_dst (N := 8) rfl ?_); refine Kd.R_make (Kd.int .u8) _ 5 rfl (N := 8) rfl 37 _ _ rfl a1 rfl rfl Try.underlying37 (.int .u8 0) 1 info5 rfl (by decide) (by omega) 0 (ok := fun _ => True) (okp := fun _ => True) rfl (fun _ hk => hk) trivial (of_decide_eq_true (by first | (with_reducible assumption) | assumption)) (Nat.le_trans (Nat.mul_le_mul_right _ (of_decide_eq_true (by first | (with_reducible assumption) | assumption) : a1.toNat ≤ 281474976710656)) (by omega)) (Below.refl _ _) (Nat.le_refl _) ?_; intro v115 w5 ho6 hb hg_ hnew_; clear hg_ hnew_; (first | rw [← Ny114.out] at ho6 | (simp only [Int.reduceToNat] at ho6; rw [← Ny114.out] at ho6)); have n0_ := Aside0.mk (Kd.R_lower ho6 (below_size (by repeat (first | (with_reducible first | exact HB.out | apply below_alloc | apply pw_below_drewN | apply below_drew1) | exact HB.out)))); have n1_ := Aside0.mk (below_step (by repeat (first | (with_reducible first | exact HB.out | apply below_alloc | apply pw_below_drewN | apply below_drew1) | exact HB.out)) hb); clear HB; have HO116 := n0_; have HB := n1_; clear n0_ n1_; clear hb ho6))
      go_loopg [0, 6] k (fun kq v0 v6 w' => ∃ (x0_1 : Int) (x5_1 : List Int) (x6_1 : Int), v0 = .int .i64 x0_1 ∧ v6 = .int .i64 x6_1 ∧ Aside0 (day_digits.l0 kq x0_1 x5_1 x6_1 = some r) ∧ Aside0 (kq ≤ k) ∧ Aside0 (Kd.R (Kd.int .u8) 5 w' w.heap.size (fun _ => True) v115 x5_1) ∧ Aside0 (Below w.heap.size w w'))
      case atStart => exact ⟨(a0), (y114), (wrap64 (a1 - 1)), (by first | rfl | (simp; done) | (simp [*]; done)), (by first | rfl | (simp; done) | (simp [*]; done)), H', ⟨Nat.le_refl _⟩, ⟨by (with_reducible repeat (first | apply Kd.R_alloc | apply Kd.R_drewN | apply Kd.R_drew)); exact HO116.out⟩, ⟨by repeat (first | (with_reducible first | exact HB.out | apply below_alloc | apply pw_below_drewN | apply below_drew1) | exact HB.out)⟩⟩
      case round =>
        clear H'
        try clear c2
        try clear p2
        try clear c3
        try clear c3b0
        try clear c3b1
        try clear c4
        try clear c4b0
        try clear c4b1
        try clear p6
        obtain ⟨x0_1, x5_1, x6_1, rfl, rfl, HA, HK1, HO_5, HB⟩ := hrel
        cases gk with
        | zero => exact absurd HA.out (by simp [day_digits.l0])
        | succ k1 =>
          have H := HA.out
          clear HA
          simp only [day_digits.l0] at H
          by_cases c7 : x6_1 ≥ 0
          · rw [if_pos c7] at H
            have c7b0 : decide (0 ≤ x6_1) = true := decide_eq_true c7
            clear c7
            by_cases c8 : 0 ≤ x6_1
            · rw [if_pos c8] at H
              have c8b0 : decide (0 ≤ x6_1) = true := decide_eq_true c8
              clear c8
              by_cases c9 : x6_1 < (x5_1.length : Int)
              · rw [if_pos c9] at H
                have c9b0 : decide (x6_1 < (x5_1.length : Int)) = true := decide_eq_true c9
                clear c9
                obtain ⟨y117, hy117⟩ : ∃ y_ : List Int, y_ = (x5_1.set (x6_1 : Int).toNat ((wrap64 (48 + (Int.tmod x0_1 10))) % 256)) := ⟨_, rfl⟩
                replace H : (day_digits.l0 k1 (wrap64 (Int.tdiv x0_1 10)) y117 (wrap64 (x6_1 - 1))) = some r := by first | (rw [hy117]; with_reducible exact H) | (have H2_ := (Option.bind_some _ _).symm.trans H; rw [hy117]; with_reducible exact H2_) | (have H2_ := (Option.bind_some _ _).symm.trans H; with_reducible exact H2_) | with_reducible exact H | (rw [hy117]; exact H) | exact H
                have Ny117 := Aside0.mk hy117
                clear hy117
                have H' := Aside0.mk H
                clear H
                have p10 : 0 ≤ (x6_1 : Int) := of_decide_eq_true (by first | (with_reducible assumption) | assumption)
                have q10 : (x6_1 : Int) < ((x5_1.length : Int) : Int) := of_decide_eq_true (by first | (with_reducible assumption) | assumption)
                obtain ⟨go10, co10, eo10, gb10, gl10, cl10, HG10⟩ := Kd.R_form HO_5.out (by omega)
                (first | cases eo10 | (injection eo10 with ea_ en_ ec_; (first | subst ea_ | (injection ea_ with ea_; subst ea_)); subst ec_; clear en_))
                have GB10 := Aside0.mk gb10
                have GG10 := Aside0.mk HG10
                clear gb10 gl10 HG10
                obtain ⟨hx10_0, hf10_0⟩ := Kd.R_celln 0 HO_5.out (x6_1 : Int) p10 q10
                replace p10 := eq_true p10
                replace q10 := eq_true q10
                have HP11 := Kd.R_putg HO_5.out (x6_1 : Int) ((wrap64 (48 + (Int.tmod x0_1 10))) % 256)
                go_wp2_with (first | ((with_reducible refine gate_store (t := 5) (p := 21) rfl ?_); refine store_event (t := 5) (p := 21) (v := ?vo_w12) (w1 := (wr.setCell ⟨go10, (x6_1 : Int).toNat, none⟩ (.int .u8 ((wrap64 (48 + (Int.tmod x0_1 10))) % 256)))) ?hg ?ho ?hn ?hr ?_; (case ho => rfl); (case hg => rfl); (case hn => rfl); (case hr => first | (go_simp; done) | (go_simp; rfl)); intro w12 hw; have hg : wr.grownBy w12 (some go10) := (by rw [hw]; exact HP11.2); have hp_ : Kd.R (Kd.int .u8) 5 w12 w.heap.size (fun _ => True) (.slice (some ⟨go10, 0, none⟩) x5_1.length co10) y117 := (by rw [hw, Ny117.out]; exact HP11.1); clear HP11; have n0_ := Aside0.mk (hp_); have n1_ := Aside0.mk ((by rw [hw]; exact below_set (HB.out) GB10.out : Below w.heap.size w w12)); clear HO_5; clear HB; have HO_5 := n0_; have HB := n1_; clear n0_ n1_; clear hg hw hp_))
                go_roundg k1
                case measure => have := HK1.out; omega
                case rel => exact ⟨(wrap64 (Int.tdiv x0_1 10)), (y117), (wrap64 (x6_1 - 1)), (by first | rfl | (simp; done) | (simp [*]; done)), (by first | rfl | (simp; done) | (simp [*]; done)), H', ⟨by have := HK1.out; omega⟩, ⟨by (with_reducible repeat (first | apply Kd.R_alloc | apply Kd.R_drewN | apply Kd.R_drew)); exact HO_5.out⟩, ⟨by repeat (first | (with_reducible first | exact HB.out | apply below_alloc | apply pw_below_drewN | apply below_drew1) | exact HB.out)⟩⟩
              · rw [if_neg c9] at H
                exact absurd H (by simp)
            · rw [if_neg c8] at H
              exact absurd H (by simp)
          · rw [if_neg c7] at H
            have c7b0 : decide (0 ≤ x6_1) = false := decide_eq_false c7
            clear c7
            obtain rfl := Option.some.inj H
            have hcv13 := own_string (P := Try.prog) Try.underlying37 Try.underlying5 Try.underlying9 (Kd.own_of_R HO_5.out)
            go_wp2
            go_ret
            exact ⟨by first | rfl | (simp [errW_none, errW_some] <;> rfl) | (simp [*, errW_none, errW_some] <;> rfl), by repeat (first | (with_reducible first | exact HB.out | apply below_alloc | apply pw_below_drewN | apply below_drew1) | exact HB.out)⟩
    · rw [if_neg c4] at H
      exact absurd H (by simp)
  · rw [if_neg c3] at H
    exact absurd H (by simp)

/-! ### day_Text: function 10 -/
def day_Text.j0 : Nat → Int → Int → Int → Int → Bool → Option (ByteArray)
  | 0, _, _, _, _, _ => none
  | k + 1, x0, x3, x4, x5, x20 => if x20 = true then (some (⟨#[]⟩ : ByteArray)) else ((day_below.f x0 1440).bind fun bt122 => ((day_digits.f k x3 4).bind fun t124 => (if t124.size + 1 ≤ 9223372036854775807 then ((day_digits.f k (wrap64 (x4 + 1)) 2).bind fun t125 => (if (t124 ++ (⟨#[45]⟩ : ByteArray)).size + t125.size ≤ 9223372036854775807 then (if ((t124 ++ (⟨#[45]⟩ : ByteArray)) ++ t125).size + 1 ≤ 9223372036854775807 then ((day_digits.f k (wrap64 (x5 + 1)) 2).bind fun t126 => (if (((t124 ++ (⟨#[45]⟩ : ByteArray)) ++ t125) ++ (⟨#[45]⟩ : ByteArray)).size + t126.size ≤ 9223372036854775807 then (if ((((t124 ++ (⟨#[45]⟩ : ByteArray)) ++ t125) ++ (⟨#[45]⟩ : ByteArray)) ++ t126).size + 1 ≤ 9223372036854775807 then ((day_digits.f k (wrap64 (Int.tdiv bt122.2 60)) 2).bind fun t127 => (if (((((t124 ++ (⟨#[45]⟩ : ByteArray)) ++ t125) ++ (⟨#[45]⟩ : ByteArray)) ++ t126) ++ (⟨#[32]⟩ : ByteArray)).size + t127.size ≤ 9223372036854775807 then (if ((((((t124 ++ (⟨#[45]⟩ : ByteArray)) ++ t125) ++ (⟨#[45]⟩ : ByteArray)) ++ t126) ++ (⟨#[32]⟩ : ByteArray)) ++ t127).size + 1 ≤ 9223372036854775807 then ((day_digits.f k (Int.tmod bt122.2 60) 2).bind fun t128 => (if (((((((t124 ++ (⟨#[45]⟩ : ByteArray)) ++ t125) ++ (⟨#[45]⟩ : ByteArray)) ++ t126) ++ (⟨#[32]⟩ : ByteArray)) ++ t127) ++ (⟨#[58]⟩ : ByteArray)).size + t128.size ≤ 9223372036854775807 then (some ((((((((t124 ++ (⟨#[45]⟩ : ByteArray)) ++ t125) ++ (⟨#[45]⟩ : ByteArray)) ++ t126) ++ (⟨#[32]⟩ : ByteArray)) ++ t127) ++ (⟨#[58]⟩ : ByteArray)) ++ t128)) else (none))) else (none)) else (none))) else (none)) else (none))) else (none)) else (none))) else (none))))
def day_Text.f (k : Nat) (a0 : Int) : Option (ByteArray) := (day_Day.f a0).bind fun t118 => ((day_date.f k t118).bind fun bt119 => (if bt119.1 < 0 then (day_Text.j0 k a0 bt119.1 bt119.2.1 bt119.2.2 true) else (day_Text.j0 k a0 bt119.1 bt119.2.1 bt119.2.2 (decide (bt119.1 > 9999)))))
theorem day_Text.mono_l : ∀ k, (∀ y0 y1 y2 y3 y4, LeO (day_Text.j0 k y0 y1 y2 y3 y4) (day_Text.j0 (k + 1) y0 y1 y2 y3 y4))
  | 0 => fun _ _ _ _ _ r h => by simp [day_Text.j0] at h
  | k + 1 => by
    have ih0 := day_Text.mono_l k
    · intro y0 y1 y2 y3 y4
      unfold day_Text.j0
      repeat' first
      | (with_reducible exact ih0 _ _ _ _ _)
      | (with_reducible exact day_date.mono _ _)
      | (with_reducible exact day_digits.mono _ _ _)
      | (with_reducible exact LeO.refl _)
      | (with_reducible exact LeO.none _)
      | (with_reducible refine LeO.ite ?_ ?_)
      | (with_reducible refine LeO.bind ?_ (fun _ => ?_))
      | exact ih0 _ _ _ _ _
      | exact day_date.mono _ _
      | exact day_digits.mono _ _ _
      | exact LeO.none _
      | refine LeO.ite ?_ ?_
      | refine LeO.bind ?_ (fun _ => ?_)
theorem day_Text.mono : ∀ a0 k, LeO (day_Text.f k a0) (day_Text.f (k + 1) a0) := by
  intro a0 k
  have ih0 := day_Text.mono_l k
  unfold day_Text.f
  repeat' first
      | (with_reducible exact ih0 _ _ _ _ _)
      | (with_reducible exact day_date.mono _ _)
      | (with_reducible exact day_digits.mono _ _ _)
      | (with_reducible exact LeO.refl _)
      | (with_reducible exact LeO.none _)
      | (with_reducible refine LeO.ite ?_ ?_)
      | (with_reducible refine LeO.bind ?_ (fun _ => ?_))
      | exact ih0 _ _ _ _ _
      | exact day_date.mono _ _
      | exact day_digits.mono _ _ _
      | exact LeO.none _
      | refine LeO.ite ?_ ?_
      | refine LeO.bind ?_ (fun _ => ?_)
set_option maxHeartbeats 8000000 in
set_option maxRecDepth 100000 in
theorem day_Text.calls (k : Nat) (a0 : Int) (r : ByteArray) (w : World) (h : day_Text.f k a0 = some r) :
    Calls Try.prog 10 #[.int .i64 a0] w fun e w' => e = .returned (.string r) ∧ Below w.heap.size w w' := by
  have HB := Aside0.mk (Below.refl w.heap.size w)
  have H : ((day_Day.f a0).bind fun t118 => ((day_date.f k t118).bind fun bt119 => (if bt119.1 < 0 then (day_Text.j0 k a0 bt119.1 bt119.2.1 bt119.2.2 true) else (day_Text.j0 k a0 bt119.1 bt119.2.1 bt119.2.2 (decide (bt119.1 > 9999)))))) = some r := h
  clear h
  replace H := Option.bind_eq_some_iff.mp H
  obtain ⟨t118, A20, H⟩ := H
  replace H : ((day_date.f k t118).bind fun bt119 => (if bt119.1 < 0 then (day_Text.j0 k a0 bt119.1 bt119.2.1 bt119.2.2 true) else (day_Text.j0 k a0 bt119.1 bt119.2.1 bt119.2.2 (decide (bt119.1 > 9999))))) = some r := H
  have A2 := Aside0.mk A20
  clear A20
  replace H := Option.bind_eq_some_iff.mp H
  obtain ⟨⟨t119, t120, t121⟩, A30, H⟩ := H
  replace H : (if t119 < 0 then (day_Text.j0 k a0 t119 t120 t121 true) else (day_Text.j0 k a0 t119 t120 t121 (decide (t119 > 9999)))) = some r := H
  have A3 := Aside0.mk A30
  clear A30
  have HC4 := Aside0.mk H
  clear H
  go_enter Try.func10, Try.ntmps10
  go_upto_region 2 with (first | ((with_reducible refine gate_callee (f := 15) rfl ?_); refine goesL_ (some 10) rfl rfl Try.func15 (by kernel_rfl) rfl #[.int .i64 a0] rfl (by (try simp only [List.map_toArray, List.map_cons, List.map_nil]); first | done | rfl | (simp only [List.length_drop, List.length_take]; rfl)) ?_; (with_reducible refine (day_Day.calls a0 t118 _ A2.out).mono ?_); rintro e w' ⟨rfl, ⟨nd, rfl⟩⟩; refine ⟨_, rfl, ?_⟩) | ((with_reducible refine gate_callee (f := 23) rfl ?_); refine goesL_ (some 11) rfl rfl Try.func23 (by kernel_rfl) rfl #[.int .i64 t118] rfl (by (try simp only [List.map_toArray, List.map_cons, List.map_nil]); first | done | rfl | (simp only [List.length_drop, List.length_take]; rfl)) ?_; (with_reducible refine (day_date.calls k t118 t119 t120 t121 _ A3.out).mono ?_); rintro e w5 ⟨rfl, hb⟩; refine ⟨_, rfl, ?_⟩; have n0_ := Aside0.mk (below_step (by repeat (first | (with_reducible first | exact HB.out | apply below_alloc | apply pw_below_drewN | apply below_drew1) | exact HB.out)) hb); clear HB; have HB := n0_; clear n0_; (try clear hb); (try clear hb2); (try clear hk); (try clear hi)))
  (try simp only [Act.put, List.setIfInBounds_toArray, List.set_cons_zero, List.set_cons_succ])
  go_cut [20] (fun v20 wc => ∃ (kq : Nat) (x20_3 : Bool), v20 = .bool x20_3 ∧ Aside0 (day_Text.j0 kq a0 t119 t120 t121 x20_3 = some r) ∧ Aside0 (kq ≤ k) ∧ Aside0 (Below w.heap.size w wc))
  case first =>
    have H := HC4.out
    clear HC4
    by_cases c6 : t119 < 0
    · rw [if_pos c6] at H
      have c6b0 : decide (t119 < 0) = true := decide_eq_true c6
      clear c6
      (first | rw [c6b0] | (simp only [i64_w, i32_w]; rw [c6b0]) | skip)
      have H' := Aside0.mk H
      clear H
      go_wp2
      go_meet
      case rel => exact ⟨_, (true), (by first | rfl | (simp; done) | (simp [*]; done)), H', ⟨by first | omega | exact Nat.le_refl _⟩, ⟨by repeat (first | (with_reducible first | exact HB.out | apply below_alloc | apply pw_below_drewN | apply below_drew1) | exact HB.out)⟩⟩
    · rw [if_neg c6] at H
      have c6b0 : decide (t119 < 0) = false := decide_eq_false c6
      clear c6
      (first | rw [c6b0] | (simp only [i64_w, i32_w]; rw [c6b0]) | skip)
      have H' := Aside0.mk H
      clear H
      go_wp2
      go_meet
      case rel => exact ⟨_, (decide (t119 > 9999)), (by first | rfl | (simp; done) | (simp [*]; done)), H', ⟨by first | omega | exact Nat.le_refl _⟩, ⟨by repeat (first | (with_reducible first | exact HB.out | apply below_alloc | apply pw_below_drewN | apply below_drew1) | exact HB.out)⟩⟩
  case rest =>
    clear HC4
    try clear c1
    try clear c2
    try clear p2
    try clear c6
    try clear c6b0
    obtain ⟨kq, x20_3, rfl, HA, HJ3, HB⟩ := hcut
    cases kq with
    | zero => exact absurd HA.out (by simp [day_Text.j0])
    | succ kj3 =>
      have H := HA.out
      clear HA
      simp only [day_Text.j0] at H
      by_cases c7 : x20_3 = true
      · subst c7
        have H1 : (some (⟨#[]⟩ : ByteArray)) = some r := by rw [if_pos rfl] at H; exact H
        clear H
        have H := H1
        clear H1
        obtain rfl := Option.some.inj H
        go_wp2
        go_ret
        exact ⟨by first | rfl | (simp [errW_none, errW_some] <;> rfl) | (simp [*, errW_none, errW_some] <;> rfl), by repeat (first | (with_reducible first | exact HB.out | apply below_alloc | apply pw_below_drewN | apply below_drew1) | exact HB.out)⟩
      · replace c7 := Bool.eq_false_iff.mpr c7
        subst c7
        have H1 : ((day_below.f a0 1440).bind fun bt122 => ((day_digits.f kj3 t119 4).bind fun t124 => (if t124.size + 1 ≤ 9223372036854775807 then ((day_digits.f kj3 (wrap64 (t120 + 1)) 2).bind fun t125 => (if (t124 ++ (⟨#[45]⟩ : ByteArray)).size + t125.size ≤ 9223372036854775807 then (if ((t124 ++ (⟨#[45]⟩ : ByteArray)) ++ t125).size + 1 ≤ 9223372036854775807 then ((day_digits.f kj3 (wrap64 (t121 + 1)) 2).bind fun t126 => (if (((t124 ++ (⟨#[45]⟩ : ByteArray)) ++ t125) ++ (⟨#[45]⟩ : ByteArray)).size + t126.size ≤ 9223372036854775807 then (if ((((t124 ++ (⟨#[45]⟩ : ByteArray)) ++ t125) ++ (⟨#[45]⟩ : ByteArray)) ++ t126).size + 1 ≤ 9223372036854775807 then ((day_digits.f kj3 (wrap64 (Int.tdiv bt122.2 60)) 2).bind fun t127 => (if (((((t124 ++ (⟨#[45]⟩ : ByteArray)) ++ t125) ++ (⟨#[45]⟩ : ByteArray)) ++ t126) ++ (⟨#[32]⟩ : ByteArray)).size + t127.size ≤ 9223372036854775807 then (if ((((((t124 ++ (⟨#[45]⟩ : ByteArray)) ++ t125) ++ (⟨#[45]⟩ : ByteArray)) ++ t126) ++ (⟨#[32]⟩ : ByteArray)) ++ t127).size + 1 ≤ 9223372036854775807 then ((day_digits.f kj3 (Int.tmod bt122.2 60) 2).bind fun t128 => (if (((((((t124 ++ (⟨#[45]⟩ : ByteArray)) ++ t125) ++ (⟨#[45]⟩ : ByteArray)) ++ t126) ++ (⟨#[32]⟩ : ByteArray)) ++ t127) ++ (⟨#[58]⟩ : ByteArray)).size + t128.size ≤ 9223372036854775807 then (some ((((((((t124 ++ (⟨#[45]⟩ : ByteArray)) ++ t125) ++ (⟨#[45]⟩ : ByteArray)) ++ t126) ++ (⟨#[32]⟩ : ByteArray)) ++ t127) ++ (⟨#[58]⟩ : ByteArray)) ++ t128)) else (none))) else (none)) else (none))) else (none)) else (none))) else (none)) else (none))) else (none)))) = some r := by rw [if_neg (show ¬ (false = true) by decide)] at H; exact H
        clear H
        have H := H1
        clear H1
        replace H := Option.bind_eq_some_iff.mp H
        obtain ⟨⟨t122, t123⟩, A80, H⟩ := H
        replace H : ((day_digits.f kj3 t119 4).bind fun t124 => (if t124.size + 1 ≤ 9223372036854775807 then ((day_digits.f kj3 (wrap64 (t120 + 1)) 2).bind fun t125 => (if (t124 ++ (⟨#[45]⟩ : ByteArray)).size + t125.size ≤ 9223372036854775807 then (if ((t124 ++ (⟨#[45]⟩ : ByteArray)) ++ t125).size + 1 ≤ 9223372036854775807 then ((day_digits.f kj3 (wrap64 (t121 + 1)) 2).bind fun t126 => (if (((t124 ++ (⟨#[45]⟩ : ByteArray)) ++ t125) ++ (⟨#[45]⟩ : ByteArray)).size + t126.size ≤ 9223372036854775807 then (if ((((t124 ++ (⟨#[45]⟩ : ByteArray)) ++ t125) ++ (⟨#[45]⟩ : ByteArray)) ++ t126).size + 1 ≤ 9223372036854775807 then ((day_digits.f kj3 (wrap64 (Int.tdiv t123 60)) 2).bind fun t127 => (if (((((t124 ++ (⟨#[45]⟩ : ByteArray)) ++ t125) ++ (⟨#[45]⟩ : ByteArray)) ++ t126) ++ (⟨#[32]⟩ : ByteArray)).size + t127.size ≤ 9223372036854775807 then (if ((((((t124 ++ (⟨#[45]⟩ : ByteArray)) ++ t125) ++ (⟨#[45]⟩ : ByteArray)) ++ t126) ++ (⟨#[32]⟩ : ByteArray)) ++ t127).size + 1 ≤ 9223372036854775807 then ((day_digits.f kj3 (Int.tmod t123 60) 2).bind fun t128 => (if (((((((t124 ++ (⟨#[45]⟩ : ByteArray)) ++ t125) ++ (⟨#[45]⟩ : ByteArray)) ++ t126) ++ (⟨#[32]⟩ : ByteArray)) ++ t127) ++ (⟨#[58]⟩ : ByteArray)).size + t128.size ≤ 9223372036854775807 then (some ((((((((t124 ++ (⟨#[45]⟩ : ByteArray)) ++ t125) ++ (⟨#[45]⟩ : ByteArray)) ++ t126) ++ (⟨#[32]⟩ : ByteArray)) ++ t127) ++ (⟨#[58]⟩ : ByteArray)) ++ t128)) else (none))) else (none)) else (none))) else (none)) else (none))) else (none)) else (none))) else (none))) = some r := H
        have A8 := Aside0.mk A80
        clear A80
        replace H := Option.bind_eq_some_iff.mp H
        obtain ⟨t124, A90, H⟩ := H
        replace H : (if t124.size + 1 ≤ 9223372036854775807 then ((day_digits.f kj3 (wrap64 (t120 + 1)) 2).bind fun t125 => (if (t124 ++ (⟨#[45]⟩ : ByteArray)).size + t125.size ≤ 9223372036854775807 then (if ((t124 ++ (⟨#[45]⟩ : ByteArray)) ++ t125).size + 1 ≤ 9223372036854775807 then ((day_digits.f kj3 (wrap64 (t121 + 1)) 2).bind fun t126 => (if (((t124 ++ (⟨#[45]⟩ : ByteArray)) ++ t125) ++ (⟨#[45]⟩ : ByteArray)).size + t126.size ≤ 9223372036854775807 then (if ((((t124 ++ (⟨#[45]⟩ : ByteArray)) ++ t125) ++ (⟨#[45]⟩ : ByteArray)) ++ t126).size + 1 ≤ 9223372036854775807 then ((day_digits.f kj3 (wrap64 (Int.tdiv t123 60)) 2).bind fun t127 => (if (((((t124 ++ (⟨#[45]⟩ : ByteArray)) ++ t125) ++ (⟨#[45]⟩ : ByteArray)) ++ t126) ++ (⟨#[32]⟩ : ByteArray)).size + t127.size ≤ 9223372036854775807 then (if ((((((t124 ++ (⟨#[45]⟩ : ByteArray)) ++ t125) ++ (⟨#[45]⟩ : ByteArray)) ++ t126) ++ (⟨#[32]⟩ : ByteArray)) ++ t127).size + 1 ≤ 9223372036854775807 then ((day_digits.f kj3 (Int.tmod t123 60) 2).bind fun t128 => (if (((((((t124 ++ (⟨#[45]⟩ : ByteArray)) ++ t125) ++ (⟨#[45]⟩ : ByteArray)) ++ t126) ++ (⟨#[32]⟩ : ByteArray)) ++ t127) ++ (⟨#[58]⟩ : ByteArray)).size + t128.size ≤ 9223372036854775807 then (some ((((((((t124 ++ (⟨#[45]⟩ : ByteArray)) ++ t125) ++ (⟨#[45]⟩ : ByteArray)) ++ t126) ++ (⟨#[32]⟩ : ByteArray)) ++ t127) ++ (⟨#[58]⟩ : ByteArray)) ++ t128)) else (none))) else (none)) else (none))) else (none)) else (none))) else (none)) else (none))) else (none)) = some r := H
        have A9 := Aside0.mk A90
        clear A90
        by_cases c10 : t124.size + 1 ≤ 9223372036854775807
        · rw [if_pos c10] at H
          have c10b0 := eq_true c10
          have c10b1 : decide (t124.size + 1 ≤ 9223372036854775807) = true := decide_eq_true c10
          try have c10b2 : (9223372036854775807 < t124.size + 1) = False := eq_false (Nat.not_lt.2 c10)
          replace H := Option.bind_eq_some_iff.mp H
          obtain ⟨t125, A110, H⟩ := H
          replace H : (if (t124 ++ (⟨#[45]⟩ : ByteArray)).size + t125.size ≤ 9223372036854775807 then (if ((t124 ++ (⟨#[45]⟩ : ByteArray)) ++ t125).size + 1 ≤ 9223372036854775807 then ((day_digits.f kj3 (wrap64 (t121 + 1)) 2).bind fun t126 => (if (((t124 ++ (⟨#[45]⟩ : ByteArray)) ++ t125) ++ (⟨#[45]⟩ : ByteArray)).size + t126.size ≤ 9223372036854775807 then (if ((((t124 ++ (⟨#[45]⟩ : ByteArray)) ++ t125) ++ (⟨#[45]⟩ : ByteArray)) ++ t126).size + 1 ≤ 9223372036854775807 then ((day_digits.f kj3 (wrap64 (Int.tdiv t123 60)) 2).bind fun t127 => (if (((((t124 ++ (⟨#[45]⟩ : ByteArray)) ++ t125) ++ (⟨#[45]⟩ : ByteArray)) ++ t126) ++ (⟨#[32]⟩ : ByteArray)).size + t127.size ≤ 9223372036854775807 then (if ((((((t124 ++ (⟨#[45]⟩ : ByteArray)) ++ t125) ++ (⟨#[45]⟩ : ByteArray)) ++ t126) ++ (⟨#[32]⟩ : ByteArray)) ++ t127).size + 1 ≤ 9223372036854775807 then ((day_digits.f kj3 (Int.tmod t123 60) 2).bind fun t128 => (if (((((((t124 ++ (⟨#[45]⟩ : ByteArray)) ++ t125) ++ (⟨#[45]⟩ : ByteArray)) ++ t126) ++ (⟨#[32]⟩ : ByteArray)) ++ t127) ++ (⟨#[58]⟩ : ByteArray)).size + t128.size ≤ 9223372036854775807 then (some ((((((((t124 ++ (⟨#[45]⟩ : ByteArray)) ++ t125) ++ (⟨#[45]⟩ : ByteArray)) ++ t126) ++ (⟨#[32]⟩ : ByteArray)) ++ t127) ++ (⟨#[58]⟩ : ByteArray)) ++ t128)) else (none))) else (none)) else (none))) else (none)) else (none))) else (none)) else (none)) = some r := H
          have A11 := Aside0.mk A110
          clear A110
          by_cases c12 : (t124 ++ (⟨#[45]⟩ : ByteArray)).size + t125.size ≤ 9223372036854775807
          · rw [if_pos c12] at H
            have c12b0 := eq_true c12
            have c12b1 : decide ((t124 ++ (⟨#[45]⟩ : ByteArray)).size + t125.size ≤ 9223372036854775807) = true := decide_eq_true c12
            try have c12b2 : (9223372036854775807 < (t124 ++ (⟨#[45]⟩ : ByteArray)).size + t125.size) = False := eq_false (Nat.not_lt.2 c12)
            have c12b3 : (9223372036854775807 < t124.size + 1 + t125.size) = False := by have z_ := c12; simp only [ByteArray.size_append] at z_; exact eq_false (Nat.not_lt.2 z_)
            by_cases c13 : ((t124 ++ (⟨#[45]⟩ : ByteArray)) ++ t125).size + 1 ≤ 9223372036854775807
            · rw [if_pos c13] at H
              have c13b0 := eq_true c13
              have c13b1 : decide (((t124 ++ (⟨#[45]⟩ : ByteArray)) ++ t125).size + 1 ≤ 9223372036854775807) = true := decide_eq_true c13
              try have c13b2 : (9223372036854775807 < ((t124 ++ (⟨#[45]⟩ : ByteArray)) ++ t125).size + 1) = False := eq_false (Nat.not_lt.2 c13)
              have c13b3 : (9223372036854775807 < t124.size + 1 + t125.size + 1) = False := by have z_ := c13; simp only [ByteArray.size_append] at z_; exact eq_false (Nat.not_lt.2 z_)
              replace H := Option.bind_eq_some_iff.mp H
              obtain ⟨t126, A140, H⟩ := H
              replace H : (if (((t124 ++ (⟨#[45]⟩ : ByteArray)) ++ t125) ++ (⟨#[45]⟩ : ByteArray)).size + t126.size ≤ 9223372036854775807 then (if ((((t124 ++ (⟨#[45]⟩ : ByteArray)) ++ t125) ++ (⟨#[45]⟩ : ByteArray)) ++ t126).size + 1 ≤ 9223372036854775807 then ((day_digits.f kj3 (wrap64 (Int.tdiv t123 60)) 2).bind fun t127 => (if (((((t124 ++ (⟨#[45]⟩ : ByteArray)) ++ t125) ++ (⟨#[45]⟩ : ByteArray)) ++ t126) ++ (⟨#[32]⟩ : ByteArray)).size + t127.size ≤ 9223372036854775807 then (if ((((((t124 ++ (⟨#[45]⟩ : ByteArray)) ++ t125) ++ (⟨#[45]⟩ : ByteArray)) ++ t126) ++ (⟨#[32]⟩ : ByteArray)) ++ t127).size + 1 ≤ 9223372036854775807 then ((day_digits.f kj3 (Int.tmod t123 60) 2).bind fun t128 => (if (((((((t124 ++ (⟨#[45]⟩ : ByteArray)) ++ t125) ++ (⟨#[45]⟩ : ByteArray)) ++ t126) ++ (⟨#[32]⟩ : ByteArray)) ++ t127) ++ (⟨#[58]⟩ : ByteArray)).size + t128.size ≤ 9223372036854775807 then (some ((((((((t124 ++ (⟨#[45]⟩ : ByteArray)) ++ t125) ++ (⟨#[45]⟩ : ByteArray)) ++ t126) ++ (⟨#[32]⟩ : ByteArray)) ++ t127) ++ (⟨#[58]⟩ : ByteArray)) ++ t128)) else (none))) else (none)) else (none))) else (none)) else (none)) = some r := H
              have A14 := Aside0.mk A140
              clear A140
              by_cases c15 : (((t124 ++ (⟨#[45]⟩ : ByteArray)) ++ t125) ++ (⟨#[45]⟩ : ByteArray)).size + t126.size ≤ 9223372036854775807
              · rw [if_pos c15] at H
                have c15b0 := eq_true c15
                have c15b1 : decide ((((t124 ++ (⟨#[45]⟩ : ByteArray)) ++ t125) ++ (⟨#[45]⟩ : ByteArray)).size + t126.size ≤ 9223372036854775807) = true := decide_eq_true c15
                try have c15b2 : (9223372036854775807 < (((t124 ++ (⟨#[45]⟩ : ByteArray)) ++ t125) ++ (⟨#[45]⟩ : ByteArray)).size + t126.size) = False := eq_false (Nat.not_lt.2 c15)
                have c15b3 : (9223372036854775807 < t124.size + 1 + t125.size + 1 + t126.size) = False := by have z_ := c15; simp only [ByteArray.size_append] at z_; exact eq_false (Nat.not_lt.2 z_)
                by_cases c16 : ((((t124 ++ (⟨#[45]⟩ : ByteArray)) ++ t125) ++ (⟨#[45]⟩ : ByteArray)) ++ t126).size + 1 ≤ 9223372036854775807
                · rw [if_pos c16] at H
                  have c16b0 := eq_true c16
                  have c16b1 : decide (((((t124 ++ (⟨#[45]⟩ : ByteArray)) ++ t125) ++ (⟨#[45]⟩ : ByteArray)) ++ t126).size + 1 ≤ 9223372036854775807) = true := decide_eq_true c16
                  try have c16b2 : (9223372036854775807 < ((((t124 ++ (⟨#[45]⟩ : ByteArray)) ++ t125) ++ (⟨#[45]⟩ : ByteArray)) ++ t126).size + 1) = False := eq_false (Nat.not_lt.2 c16)
                  have c16b3 : (9223372036854775807 < t124.size + 1 + t125.size + 1 + t126.size + 1) = False := by have z_ := c16; simp only [ByteArray.size_append] at z_; exact eq_false (Nat.not_lt.2 z_)
                  replace H := Option.bind_eq_some_iff.mp H
                  obtain ⟨t127, A170, H⟩ := H
                  replace H : (if (((((t124 ++ (⟨#[45]⟩ : ByteArray)) ++ t125) ++ (⟨#[45]⟩ : ByteArray)) ++ t126) ++ (⟨#[32]⟩ : ByteArray)).size + t127.size ≤ 9223372036854775807 then (if ((((((t124 ++ (⟨#[45]⟩ : ByteArray)) ++ t125) ++ (⟨#[45]⟩ : ByteArray)) ++ t126) ++ (⟨#[32]⟩ : ByteArray)) ++ t127).size + 1 ≤ 9223372036854775807 then ((day_digits.f kj3 (Int.tmod t123 60) 2).bind fun t128 => (if (((((((t124 ++ (⟨#[45]⟩ : ByteArray)) ++ t125) ++ (⟨#[45]⟩ : ByteArray)) ++ t126) ++ (⟨#[32]⟩ : ByteArray)) ++ t127) ++ (⟨#[58]⟩ : ByteArray)).size + t128.size ≤ 9223372036854775807 then (some ((((((((t124 ++ (⟨#[45]⟩ : ByteArray)) ++ t125) ++ (⟨#[45]⟩ : ByteArray)) ++ t126) ++ (⟨#[32]⟩ : ByteArray)) ++ t127) ++ (⟨#[58]⟩ : ByteArray)) ++ t128)) else (none))) else (none)) else (none)) = some r := H
                  have A17 := Aside0.mk A170
                  clear A170
                  by_cases c18 : (((((t124 ++ (⟨#[45]⟩ : ByteArray)) ++ t125) ++ (⟨#[45]⟩ : ByteArray)) ++ t126) ++ (⟨#[32]⟩ : ByteArray)).size + t127.size ≤ 9223372036854775807
                  · rw [if_pos c18] at H
                    have c18b0 := eq_true c18
                    have c18b1 : decide ((((((t124 ++ (⟨#[45]⟩ : ByteArray)) ++ t125) ++ (⟨#[45]⟩ : ByteArray)) ++ t126) ++ (⟨#[32]⟩ : ByteArray)).size + t127.size ≤ 9223372036854775807) = true := decide_eq_true c18
                    try have c18b2 : (9223372036854775807 < (((((t124 ++ (⟨#[45]⟩ : ByteArray)) ++ t125) ++ (⟨#[45]⟩ : ByteArray)) ++ t126) ++ (⟨#[32]⟩ : ByteArray)).size + t127.size) = False := eq_false (Nat.not_lt.2 c18)
                    have c18b3 : (9223372036854775807 < t124.size + 1 + t125.size + 1 + t126.size + 1 + t127.size) = False := by have z_ := c18; simp only [ByteArray.size_append] at z_; exact eq_false (Nat.not_lt.2 z_)
                    by_cases c19 : ((((((t124 ++ (⟨#[45]⟩ : ByteArray)) ++ t125) ++ (⟨#[45]⟩ : ByteArray)) ++ t126) ++ (⟨#[32]⟩ : ByteArray)) ++ t127).size + 1 ≤ 9223372036854775807
                    · rw [if_pos c19] at H
                      have c19b0 := eq_true c19
                      have c19b1 : decide (((((((t124 ++ (⟨#[45]⟩ : ByteArray)) ++ t125) ++ (⟨#[45]⟩ : ByteArray)) ++ t126) ++ (⟨#[32]⟩ : ByteArray)) ++ t127).size + 1 ≤ 9223372036854775807) = true := decide_eq_true c19
                      try have c19b2 : (9223372036854775807 < ((((((t124 ++ (⟨#[45]⟩ : ByteArray)) ++ t125) ++ (⟨#[45]⟩ : ByteArray)) ++ t126) ++ (⟨#[32]⟩ : ByteArray)) ++ t127).size + 1) = False := eq_false (Nat.not_lt.2 c19)
                      have c19b3 : (9223372036854775807 < t124.size + 1 + t125.size + 1 + t126.size + 1 + t127.size + 1) = False := by have z_ := c19; simp only [ByteArray.size_append] at z_; exact eq_false (Nat.not_lt.2 z_)
                      replace H := Option.bind_eq_some_iff.mp H
                      obtain ⟨t128, A200, H⟩ := H
                      replace H : (if (((((((t124 ++ (⟨#[45]⟩ : ByteArray)) ++ t125) ++ (⟨#[45]⟩ : ByteArray)) ++ t126) ++ (⟨#[32]⟩ : ByteArray)) ++ t127) ++ (⟨#[58]⟩ : ByteArray)).size + t128.size ≤ 9223372036854775807 then (some ((((((((t124 ++ (⟨#[45]⟩ : ByteArray)) ++ t125) ++ (⟨#[45]⟩ : ByteArray)) ++ t126) ++ (⟨#[32]⟩ : ByteArray)) ++ t127) ++ (⟨#[58]⟩ : ByteArray)) ++ t128)) else (none)) = some r := H
                      have A20 := Aside0.mk A200
                      clear A200
                      by_cases c21 : (((((((t124 ++ (⟨#[45]⟩ : ByteArray)) ++ t125) ++ (⟨#[45]⟩ : ByteArray)) ++ t126) ++ (⟨#[32]⟩ : ByteArray)) ++ t127) ++ (⟨#[58]⟩ : ByteArray)).size + t128.size ≤ 9223372036854775807
                      · rw [if_pos c21] at H
                        have c21b0 := eq_true c21
                        have c21b1 : decide ((((((((t124 ++ (⟨#[45]⟩ : ByteArray)) ++ t125) ++ (⟨#[45]⟩ : ByteArray)) ++ t126) ++ (⟨#[32]⟩ : ByteArray)) ++ t127) ++ (⟨#[58]⟩ : ByteArray)).size + t128.size ≤ 9223372036854775807) = true := decide_eq_true c21
                        try have c21b2 : (9223372036854775807 < (((((((t124 ++ (⟨#[45]⟩ : ByteArray)) ++ t125) ++ (⟨#[45]⟩ : ByteArray)) ++ t126) ++ (⟨#[32]⟩ : ByteArray)) ++ t127) ++ (⟨#[58]⟩ : ByteArray)).size + t128.size) = False := eq_false (Nat.not_lt.2 c21)
                        have c21b3 : (9223372036854775807 < t124.size + 1 + t125.size + 1 + t126.size + 1 + t127.size + 1 + t128.size) = False := by have z_ := c21; simp only [ByteArray.size_append] at z_; exact eq_false (Nat.not_lt.2 z_)
                        obtain rfl := Option.some.inj H
                        go_wp2_with (first | ((with_reducible refine gate_callee (f := 24) rfl ?_); refine goesL_ (some 23) rfl rfl Try.func24 (by kernel_rfl) rfl #[.int .i64 a0, .int .i64 1440] rfl (by (try simp only [List.map_toArray, List.map_cons, List.map_nil]); first | done | rfl | (simp only [List.length_drop, List.length_take]; rfl)) ?_; (with_reducible refine (day_below.calls a0 1440 t122 t123 _ A8.out).mono ?_); rintro e w' ⟨rfl, ⟨nd, rfl⟩⟩; refine ⟨_, rfl, ?_⟩) | ((with_reducible refine gate_callee (f := 25) rfl ?_); refine goesL_ (some 27) rfl rfl Try.func25 (by kernel_rfl) rfl #[.int .i64 t119, .int .i64 4] rfl (by (try simp only [List.map_toArray, List.map_cons, List.map_nil]); first | done | rfl | (simp only [List.length_drop, List.length_take]; rfl)) ?_; (with_reducible refine (day_digits.calls kj3 t119 4 t124 _ A9.out).mono ?_); rintro e w22 ⟨rfl, hb⟩; refine ⟨_, rfl, ?_⟩; have n0_ := Aside0.mk (below_step (by repeat (first | (with_reducible first | exact HB.out | apply below_alloc | apply pw_below_drewN | apply below_drew1) | exact HB.out)) hb); clear HB; have HB := n0_; clear n0_; (try clear hb); (try clear hb2); (try clear hk); (try clear hi)) | ((with_reducible refine gate_callee (f := 25) rfl ?_); refine goesL_ (some 31) rfl rfl Try.func25 (by kernel_rfl) rfl #[.int .i64 (wrap64 (t120 + 1)), .int .i64 2] rfl (by (try simp only [List.map_toArray, List.map_cons, List.map_nil]); first | done | rfl | (simp only [List.length_drop, List.length_take]; rfl)) ?_; (with_reducible refine (day_digits.calls kj3 (wrap64 (t120 + 1)) 2 t125 _ A11.out).mono ?_); rintro e w23 ⟨rfl, hb⟩; refine ⟨_, rfl, ?_⟩; have n0_ := Aside0.mk (below_step (by repeat (first | (with_reducible first | exact HB.out | apply below_alloc | apply pw_below_drewN | apply below_drew1) | exact HB.out)) hb); clear HB; have HB := n0_; clear n0_; (try clear hb); (try clear hb2); (try clear hk); (try clear hi)) | ((with_reducible refine gate_callee (f := 25) rfl ?_); refine goesL_ (some 36) rfl rfl Try.func25 (by kernel_rfl) rfl #[.int .i64 (wrap64 (t121 + 1)), .int .i64 2] rfl (by (try simp only [List.map_toArray, List.map_cons, List.map_nil]); first | done | rfl | (simp only [List.length_drop, List.length_take]; rfl)) ?_; (with_reducible refine (day_digits.calls kj3 (wrap64 (t121 + 1)) 2 t126 _ A14.out).mono ?_); rintro e w24 ⟨rfl, hb⟩; refine ⟨_, rfl, ?_⟩; have n0_ := Aside0.mk (below_step (by repeat (first | (with_reducible first | exact HB.out | apply below_alloc | apply pw_below_drewN | apply below_drew1) | exact HB.out)) hb); clear HB; have HB := n0_; clear n0_; (try clear hb); (try clear hb2); (try clear hk); (try clear hi)) | ((with_reducible refine gate_callee (f := 25) rfl ?_); refine goesL_ (some 41) rfl rfl Try.func25 (by kernel_rfl) rfl #[.int .i64 (wrap64 (Int.tdiv t123 60)), .int .i64 2] rfl (by (try simp only [List.map_toArray, List.map_cons, List.map_nil]); first | done | rfl | (simp only [List.length_drop, List.length_take]; rfl)) ?_; (with_reducible refine (day_digits.calls kj3 (wrap64 (Int.tdiv t123 60)) 2 t127 _ A17.out).mono ?_); rintro e w25 ⟨rfl, hb⟩; refine ⟨_, rfl, ?_⟩; have n0_ := Aside0.mk (below_step (by repeat (first | (with_reducible first | exact HB.out | apply below_alloc | apply pw_below_drewN | apply below_drew1) | exact HB.out)) hb); clear HB; have HB := n0_; clear n0_; (try clear hb); (try clear hb2); (try clear hk); (try clear hi)) | ((with_reducible refine gate_callee (f := 25) rfl ?_); refine goesL_ (some 46) rfl rfl Try.func25 (by kernel_rfl) rfl #[.int .i64 (Int.tmod t123 60), .int .i64 2] rfl (by (try simp only [List.map_toArray, List.map_cons, List.map_nil]); first | done | rfl | (simp only [List.length_drop, List.length_take]; rfl)) ?_; (with_reducible refine (day_digits.calls kj3 (Int.tmod t123 60) 2 t128 _ A20.out).mono ?_); rintro e w26 ⟨rfl, hb⟩; refine ⟨_, rfl, ?_⟩; have n0_ := Aside0.mk (below_step (by repeat (first | (with_reducible first | exact HB.out | apply below_alloc | apply pw_below_drewN | apply below_drew1) | exact HB.out)) hb); clear HB; have HB := n0_; clear n0_; (try clear hb); (try clear hb2); (try clear hk); (try clear hi)))
                        go_ret
                        exact ⟨by first | rfl | (simp [errW_none, errW_some] <;> rfl) | (simp [*, errW_none, errW_some] <;> rfl), by repeat (first | (with_reducible first | exact HB.out | apply below_alloc | apply pw_below_drewN | apply below_drew1) | exact HB.out)⟩
                      · rw [if_neg c21] at H
                        exact absurd H (by simp)
                    · rw [if_neg c19] at H
                      exact absurd H (by simp)
                  · rw [if_neg c18] at H
                    exact absurd H (by simp)
                · rw [if_neg c16] at H
                  exact absurd H (by simp)
              · rw [if_neg c15] at H
                exact absurd H (by simp)
            · rw [if_neg c13] at H
              exact absurd H (by simp)
          · rw [if_neg c12] at H
            exact absurd H (by simp)
        · rw [if_neg c10] at H
          exact absurd H (by simp)

/-! ### hibernacleref48_floor: function 34 -/
def hibernacleref48_floor.f (a0 : Int) (a1 : Int) : Option (Int) := if a1 = 0 then (none) else (if (Int.tmod a0 a1) < 0 then (some (wrap64 ((wrap64 (Int.tdiv a0 a1)) - 1))) else (some (wrap64 (Int.tdiv a0 a1))))
set_option maxHeartbeats 8000000 in
set_option maxRecDepth 100000 in
theorem hibernacleref48_floor.calls (a0 : Int) (a1 : Int) (r : Int) (w : World) (h : hibernacleref48_floor.f a0 a1 = some r) :
    Calls Try.prog 34 #[.int .i64 a0, .int .i64 a1] w fun e w' => e = .returned (.int .i64 r) ∧ Drawn0 w w' := by
  have H : (if a1 = 0 then (none) else (if (Int.tmod a0 a1) < 0 then (some (wrap64 ((wrap64 (Int.tdiv a0 a1)) - 1))) else (some (wrap64 (Int.tdiv a0 a1))))) = some r := h
  clear h
  by_cases c3 : a1 = 0
  · rw [if_pos c3] at H
    exact absurd H (by simp)
  · rw [if_neg c3] at H
    have c3b0 : (a1 == 0) = false := beq_eq_false_iff_ne.mpr c3
    have c3b1 : (a1 != 0) = true := bne_iff_ne.mpr c3
    by_cases c4 : (Int.tmod a0 a1) < 0
    · rw [if_pos c4] at H
      have c4b0 : decide ((Int.tmod a0 a1) < 0) = true := decide_eq_true c4
      clear c4
      obtain rfl := Option.some.inj H
      go_enter Try.func34, Try.ntmps34
      go_wp2
      go_ret
      exact ⟨by first | rfl | (simp; done) | (simp [*]; done), by repeat (first | exact Drawn0.refl _ | apply Drawn0.step)⟩
    · rw [if_neg c4] at H
      have c4b0 : decide ((Int.tmod a0 a1) < 0) = false := decide_eq_false c4
      clear c4
      obtain rfl := Option.some.inj H
      go_enter Try.func34, Try.ntmps34
      go_wp2
      go_ret
      exact ⟨by first | rfl | (simp; done) | (simp [*]; done), by repeat (first | exact Drawn0.refl _ | apply Drawn0.step)⟩

/-! ### hibernacleref48_Day: function 17 -/
def hibernacleref48_Day.f (a0 : Int) : Option (Int) := (hibernacleref48_floor.f a0 1440).bind fun t129 => (some t129)
set_option maxHeartbeats 8000000 in
set_option maxRecDepth 100000 in
theorem hibernacleref48_Day.calls (a0 : Int) (r : Int) (w : World) (h : hibernacleref48_Day.f a0 = some r) :
    Calls Try.prog 17 #[.int .i64 a0] w fun e w' => e = .returned (.int .i64 r) ∧ Drawn0 w w' := by
  have H : ((hibernacleref48_floor.f a0 1440).bind fun t129 => (some t129)) = some r := h
  clear h
  replace H := Option.bind_eq_some_iff.mp H
  obtain ⟨t129, A20, H⟩ := H
  replace H : (some t129) = some r := H
  have A2 := Aside0.mk A20
  clear A20
  obtain rfl := Option.some.inj H
  go_enter Try.func17, Try.ntmps17
  go_wp2_with (first | ((with_reducible refine gate_callee (f := 34) rfl ?_); refine goesL_ (some 4) rfl rfl Try.func34 (by kernel_rfl) rfl #[.int .i64 a0, .int .i64 1440] rfl (by (try simp only [List.map_toArray, List.map_cons, List.map_nil]); first | done | rfl | (simp only [List.length_drop, List.length_take]; rfl)) ?_; (with_reducible refine (hibernacleref48_floor.calls a0 1440 t129 _ A2.out).mono ?_); rintro e w' ⟨rfl, ⟨nd, rfl⟩⟩; refine ⟨_, rfl, ?_⟩))
  go_ret
  exact ⟨by first | rfl | (simp; done) | (simp [*]; done), by repeat (first | exact Drawn0.refl _ | apply Drawn0.step)⟩

end Go.Proofs.Ytnanhempikhknaa.D
