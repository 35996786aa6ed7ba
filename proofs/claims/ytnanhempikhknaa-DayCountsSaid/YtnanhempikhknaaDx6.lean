-- Made by wip/hp/hp.py (the kit's print, with functions proved by hand put in).
import Derived.Test.YtnanhempikhknaaDx0
import Derived.Test.YtnanhempikhknaaDx1
import Derived.Test.YtnanhempikhknaaDx2
import Derived.Test.YtnanhempikhknaaDx3
import Derived.Test.YtnanhempikhknaaDx4
import Derived.Test.YtnanhempikhknaaDx5
namespace Go.Proofs.Ytnanhempikhknaa.D
open Go.RowKit Go.Proofs.YtnanhempikhknaaW.PrintWords Go.Proofs.YtnanhempikhknaaW.PrintLast Go.Proofs.YtnanhempikhknaaW.PrintMore
attribute [local go_sem] max2_int min2_int max_two min_two max_three min_three max_four min_four   -- for this text's walks alone
set_option linter.unusedVariables false
set_option linter.unusedSimpArgs false

/-! ### hibernaclelaw48_DayReads: function 4 -/
def hibernaclelaw48_DayReads.f (k : Nat) (a0 : ByteArray) : Option (Bool) := (day_Of.f k a0).bind fun bt184 => ((hibernacleref48_Of.f k a0).bind fun bt186 => (if bt184.1 = bt186.1 then (if (bt184.2 == bt186.2) = true then (if bt184.2 = true then ((day_Text.f k bt184.1).bind fun t188 => (if t188.toList = a0.toList then ((hibernaclelaw48_awake.f k).bind fun t189 => (some t189)) else (some false))) else ((hibernaclelaw48_awake.f k).bind fun t190 => (some t190))) else (some false)) else (some false)))
theorem hibernaclelaw48_DayReads.mono : ∀ a0 k, LeO (hibernaclelaw48_DayReads.f k a0) (hibernaclelaw48_DayReads.f (k + 1) a0) := by
  intro a0 k
  unfold hibernaclelaw48_DayReads.f
  repeat' first
      | (with_reducible exact day_Of.mono _ _)
      | (with_reducible exact day_Text.mono _ _)
      | (with_reducible exact hibernaclelaw48_awake.mono _)
      | (with_reducible exact hibernacleref48_Of.mono _ _)
      | (with_reducible exact LeO.refl _)
      | (with_reducible exact LeO.none _)
      | (with_reducible refine LeO.ite ?_ ?_)
      | (with_reducible refine LeO.bind ?_ (fun _ => ?_))
      | exact day_Of.mono _ _
      | exact day_Text.mono _ _
      | exact hibernaclelaw48_awake.mono _
      | exact hibernacleref48_Of.mono _ _
      | exact LeO.none _
      | refine LeO.ite ?_ ?_
      | refine LeO.bind ?_ (fun _ => ?_)
set_option maxHeartbeats 8000000 in
set_option maxRecDepth 100000 in
theorem hibernaclelaw48_DayReads.calls (k : Nat) (a0 : ByteArray) (r : Bool) (w : World) (h : hibernaclelaw48_DayReads.f k a0 = some r) :
    Calls Try.prog 4 #[.string a0] w fun e w' => e = .returned (.bool r) ∧ Below w.heap.size w w' := by
  have HB := Aside0.mk (Below.refl w.heap.size w)
  have H : ((day_Of.f k a0).bind fun bt184 => ((hibernacleref48_Of.f k a0).bind fun bt186 => (if bt184.1 = bt186.1 then (if (bt184.2 == bt186.2) = true then (if bt184.2 = true then ((day_Text.f k bt184.1).bind fun t188 => (if t188.toList = a0.toList then ((hibernaclelaw48_awake.f k).bind fun t189 => (some t189)) else (some false))) else ((hibernaclelaw48_awake.f k).bind fun t190 => (some t190))) else (some false)) else (some false)))) = some r := h
  clear h
  replace H := Option.bind_eq_some_iff.mp H
  obtain ⟨⟨t184, t185⟩, A20, H⟩ := H
  replace H : ((hibernacleref48_Of.f k a0).bind fun bt186 => (if t184 = bt186.1 then (if (t185 == bt186.2) = true then (if t185 = true then ((day_Text.f k t184).bind fun t188 => (if t188.toList = a0.toList then ((hibernaclelaw48_awake.f k).bind fun t189 => (some t189)) else (some false))) else ((hibernaclelaw48_awake.f k).bind fun t190 => (some t190))) else (some false)) else (some false))) = some r := H
  have A2 := Aside0.mk A20
  clear A20
  replace H := Option.bind_eq_some_iff.mp H
  obtain ⟨⟨t186, t187⟩, A30, H⟩ := H
  replace H : (if t184 = t186 then (if (t185 == t187) = true then (if t185 = true then ((day_Text.f k t184).bind fun t188 => (if t188.toList = a0.toList then ((hibernaclelaw48_awake.f k).bind fun t189 => (some t189)) else (some false))) else ((hibernaclelaw48_awake.f k).bind fun t190 => (some t190))) else (some false)) else (some false)) = some r := H
  have A3 := Aside0.mk A30
  clear A30
  by_cases c4 : t184 = t186
  · rw [if_pos c4] at H
    have c4b0 : (t184 == t186) = true := beq_iff_eq.mpr c4
    have c4b1 : (t184 != t186) = false := bne_eq_false_iff_eq.mpr c4
    clear c4
    by_cases c5 : (t185 == t187) = true
    · rw [if_pos c5] at H
      have c5b0 : (t185 == t187) = true := c5
      (try (have c5b1 : decide (t185 = t187) = true := by simpa using c5))
      (try (have c5b2 : (t185 == t187) = true := by simpa using c5))
      clear c5
      by_cases c6 : t185 = true
      · subst c6
        have H1 : ((day_Text.f k t184).bind fun t188 => (if t188.toList = a0.toList then ((hibernaclelaw48_awake.f k).bind fun t189 => (some t189)) else (some false))) = some r := by rw [if_pos rfl] at H; exact H
        clear H
        have H := H1
        clear H1
        replace H := Option.bind_eq_some_iff.mp H
        obtain ⟨t188, A70, H⟩ := H
        replace H : (if t188.toList = a0.toList then ((hibernaclelaw48_awake.f k).bind fun t189 => (some t189)) else (some false)) = some r := H
        have A7 := Aside0.mk A70
        clear A70
        by_cases c8 : t188.toList = a0.toList
        · rw [if_pos c8] at H
          have c8b0 : (t188.toList == a0.toList) = true := beq_iff_eq.mpr c8
          have c8b1 : (t188.toList != a0.toList) = false := bne_eq_false_iff_eq.mpr c8
          clear c8
          replace H := Option.bind_eq_some_iff.mp H
          obtain ⟨t189, A90, H⟩ := H
          replace H : (some t189) = some r := H
          have A9 := Aside0.mk A90
          clear A90
          obtain rfl := Option.some.inj H
          go_enter Try.func4, Try.ntmps4
          go_wp2_with (first | ((with_reducible refine gate_callee (f := 12) rfl ?_); refine goesL_ (some 9) rfl rfl Try.func12 (by kernel_rfl) rfl #[.string a0] rfl (by (try simp only [List.map_toArray, List.map_cons, List.map_nil]); first | done | rfl | (simp only [List.length_drop, List.length_take]; rfl)) ?_; (with_reducible refine (day_Of.calls k a0 t184 true _ A2.out).mono ?_); rintro e w10 ⟨rfl, hb⟩; refine ⟨_, rfl, ?_⟩; have n0_ := Aside0.mk (below_step (by repeat (first | (with_reducible first | exact HB.out | apply below_alloc | apply pw_below_drewN | apply below_drew1) | exact HB.out)) hb); clear HB; have HB := n0_; clear n0_; (try clear hb); (try clear hb2); (try clear hk); (try clear hi)) | ((with_reducible refine gate_callee (f := 14) rfl ?_); refine goesL_ (some 14) rfl rfl Try.func14 (by kernel_rfl) rfl #[.string a0] rfl (by (try simp only [List.map_toArray, List.map_cons, List.map_nil]); first | done | rfl | (simp only [List.length_drop, List.length_take]; rfl)) ?_; (with_reducible refine (hibernacleref48_Of.calls k a0 t186 t187 _ A3.out).mono ?_); rintro e w' ⟨rfl, ⟨nd, rfl⟩⟩; refine ⟨_, rfl, ?_⟩) | (go_at_call 10; (with_reducible refine (day_Text.calls k t184 t188 _ A7.out).mono ?_); rintro e w11 ⟨rfl, hb⟩; have n0_ := Aside0.mk (below_step (by repeat (first | (with_reducible first | exact HB.out | apply below_alloc | apply pw_below_drewN | apply below_drew1) | exact HB.out)) hb); clear HB; have HB := n0_; clear n0_; (try clear hb); (try clear hb2); (try clear hk); (try clear hi)) | (go_at_call 13; (with_reducible refine (hibernaclelaw48_awake.calls k  t189 _ A9.out).mono ?_); rintro e w12 ⟨rfl, hb⟩; have n0_ := Aside0.mk (below_step (by repeat (first | (with_reducible first | exact HB.out | apply below_alloc | apply pw_below_drewN | apply below_drew1) | exact HB.out)) hb); clear HB; have HB := n0_; clear n0_; (try clear hb); (try clear hb2); (try clear hk); (try clear hi)))
          go_ret
          exact ⟨by first | rfl | (simp [errW_none, errW_some] <;> rfl) | (simp [*, errW_none, errW_some] <;> rfl), by repeat (first | (with_reducible first | exact HB.out | apply below_alloc | apply pw_below_drewN | apply below_drew1) | exact HB.out)⟩
        · rw [if_neg c8] at H
          have c8b0 : (t188.toList == a0.toList) = false := beq_eq_false_iff_ne.mpr c8
          have c8b1 : (t188.toList != a0.toList) = true := bne_iff_ne.mpr c8
          obtain rfl := Option.some.inj H
          go_enter Try.func4, Try.ntmps4
          go_wp2_with (first | ((with_reducible refine gate_callee (f := 12) rfl ?_); refine goesL_ (some 9) rfl rfl Try.func12 (by kernel_rfl) rfl #[.string a0] rfl (by (try simp only [List.map_toArray, List.map_cons, List.map_nil]); first | done | rfl | (simp only [List.length_drop, List.length_take]; rfl)) ?_; (with_reducible refine (day_Of.calls k a0 t184 true _ A2.out).mono ?_); rintro e w13 ⟨rfl, hb⟩; refine ⟨_, rfl, ?_⟩; have n0_ := Aside0.mk (below_step (by repeat (first | (with_reducible first | exact HB.out | apply below_alloc | apply pw_below_drewN | apply below_drew1) | exact HB.out)) hb); clear HB; have HB := n0_; clear n0_; (try clear hb); (try clear hb2); (try clear hk); (try clear hi)) | ((with_reducible refine gate_callee (f := 14) rfl ?_); refine goesL_ (some 14) rfl rfl Try.func14 (by kernel_rfl) rfl #[.string a0] rfl (by (try simp only [List.map_toArray, List.map_cons, List.map_nil]); first | done | rfl | (simp only [List.length_drop, List.length_take]; rfl)) ?_; (with_reducible refine (hibernacleref48_Of.calls k a0 t186 t187 _ A3.out).mono ?_); rintro e w' ⟨rfl, ⟨nd, rfl⟩⟩; refine ⟨_, rfl, ?_⟩) | (go_at_call 10; (with_reducible refine (day_Text.calls k t184 t188 _ A7.out).mono ?_); rintro e w14 ⟨rfl, hb⟩; have n0_ := Aside0.mk (below_step (by repeat (first | (with_reducible first | exact HB.out | apply below_alloc | apply pw_below_drewN | apply below_drew1) | exact HB.out)) hb); clear HB; have HB := n0_; clear n0_; (try clear hb); (try clear hb2); (try clear hk); (try clear hi)))
          go_ret
          exact ⟨by first | rfl | (simp [errW_none, errW_some] <;> rfl) | (simp [*, errW_none, errW_some] <;> rfl), by repeat (first | (with_reducible first | exact HB.out | apply below_alloc | apply pw_below_drewN | apply below_drew1) | exact HB.out)⟩
      · replace c6 := Bool.eq_false_iff.mpr c6
        subst c6
        have H1 : ((hibernaclelaw48_awake.f k).bind fun t190 => (some t190)) = some r := by rw [if_neg (show ¬ (false = true) by decide)] at H; exact H
        clear H
        have H := H1
        clear H1
        replace H := Option.bind_eq_some_iff.mp H
        obtain ⟨t190, A150, H⟩ := H
        replace H : (some t190) = some r := H
        have A15 := Aside0.mk A150
        clear A150
        obtain rfl := Option.some.inj H
        go_enter Try.func4, Try.ntmps4
        go_wp2_with (first | ((with_reducible refine gate_callee (f := 12) rfl ?_); refine goesL_ (some 9) rfl rfl Try.func12 (by kernel_rfl) rfl #[.string a0] rfl (by (try simp only [List.map_toArray, List.map_cons, List.map_nil]); first | done | rfl | (simp only [List.length_drop, List.length_take]; rfl)) ?_; (with_reducible refine (day_Of.calls k a0 t184 false _ A2.out).mono ?_); rintro e w16 ⟨rfl, hb⟩; refine ⟨_, rfl, ?_⟩; have n0_ := Aside0.mk (below_step (by repeat (first | (with_reducible first | exact HB.out | apply below_alloc | apply pw_below_drewN | apply below_drew1) | exact HB.out)) hb); clear HB; have HB := n0_; clear n0_; (try clear hb); (try clear hb2); (try clear hk); (try clear hi)) | ((with_reducible refine gate_callee (f := 14) rfl ?_); refine goesL_ (some 14) rfl rfl Try.func14 (by kernel_rfl) rfl #[.string a0] rfl (by (try simp only [List.map_toArray, List.map_cons, List.map_nil]); first | done | rfl | (simp only [List.length_drop, List.length_take]; rfl)) ?_; (with_reducible refine (hibernacleref48_Of.calls k a0 t186 t187 _ A3.out).mono ?_); rintro e w' ⟨rfl, ⟨nd, rfl⟩⟩; refine ⟨_, rfl, ?_⟩) | (go_at_call 13; (with_reducible refine (hibernaclelaw48_awake.calls k  t190 _ A15.out).mono ?_); rintro e w17 ⟨rfl, hb⟩; have n0_ := Aside0.mk (below_step (by repeat (first | (with_reducible first | exact HB.out | apply below_alloc | apply pw_below_drewN | apply below_drew1) | exact HB.out)) hb); clear HB; have HB := n0_; clear n0_; (try clear hb); (try clear hb2); (try clear hk); (try clear hi)))
        go_ret
        exact ⟨by first | rfl | (simp [errW_none, errW_some] <;> rfl) | (simp [*, errW_none, errW_some] <;> rfl), by repeat (first | (with_reducible first | exact HB.out | apply below_alloc | apply pw_below_drewN | apply below_drew1) | exact HB.out)⟩
    · rw [if_neg c5] at H
      have c5b0 : (t185 == t187) = false := by simpa using c5
      (try (have c5b1 : decide (t185 = t187) = false := by simpa using c5))
      (try (have c5b2 : (t185 == t187) = false := by simpa using c5))
      (try (have c5b3 : ¬ (t185 = t187) := by simpa using c5))
      clear c5
      obtain rfl := Option.some.inj H
      go_enter Try.func4, Try.ntmps4
      go_wp2_with (first | ((with_reducible refine gate_callee (f := 12) rfl ?_); refine goesL_ (some 9) rfl rfl Try.func12 (by kernel_rfl) rfl #[.string a0] rfl (by (try simp only [List.map_toArray, List.map_cons, List.map_nil]); first | done | rfl | (simp only [List.length_drop, List.length_take]; rfl)) ?_; (with_reducible refine (day_Of.calls k a0 t184 t185 _ A2.out).mono ?_); rintro e w18 ⟨rfl, hb⟩; refine ⟨_, rfl, ?_⟩; have n0_ := Aside0.mk (below_step (by repeat (first | (with_reducible first | exact HB.out | apply below_alloc | apply pw_below_drewN | apply below_drew1) | exact HB.out)) hb); clear HB; have HB := n0_; clear n0_; (try clear hb); (try clear hb2); (try clear hk); (try clear hi)) | ((with_reducible refine gate_callee (f := 14) rfl ?_); refine goesL_ (some 14) rfl rfl Try.func14 (by kernel_rfl) rfl #[.string a0] rfl (by (try simp only [List.map_toArray, List.map_cons, List.map_nil]); first | done | rfl | (simp only [List.length_drop, List.length_take]; rfl)) ?_; (with_reducible refine (hibernacleref48_Of.calls k a0 t186 t187 _ A3.out).mono ?_); rintro e w' ⟨rfl, ⟨nd, rfl⟩⟩; refine ⟨_, rfl, ?_⟩))
      go_ret
      exact ⟨by first | rfl | (simp [errW_none, errW_some] <;> rfl) | (simp [*, errW_none, errW_some] <;> rfl), by repeat (first | (with_reducible first | exact HB.out | apply below_alloc | apply pw_below_drewN | apply below_drew1) | exact HB.out)⟩
  · rw [if_neg c4] at H
    have c4b0 : (t184 == t186) = false := beq_eq_false_iff_ne.mpr c4
    have c4b1 : (t184 != t186) = true := bne_iff_ne.mpr c4
    obtain rfl := Option.some.inj H
    go_enter Try.func4, Try.ntmps4
    go_wp2_with (first | ((with_reducible refine gate_callee (f := 12) rfl ?_); refine goesL_ (some 9) rfl rfl Try.func12 (by kernel_rfl) rfl #[.string a0] rfl (by (try simp only [List.map_toArray, List.map_cons, List.map_nil]); first | done | rfl | (simp only [List.length_drop, List.length_take]; rfl)) ?_; (with_reducible refine (day_Of.calls k a0 t184 t185 _ A2.out).mono ?_); rintro e w19 ⟨rfl, hb⟩; refine ⟨_, rfl, ?_⟩; have n0_ := Aside0.mk (below_step (by repeat (first | (with_reducible first | exact HB.out | apply below_alloc | apply pw_below_drewN | apply below_drew1) | exact HB.out)) hb); clear HB; have HB := n0_; clear n0_; (try clear hb); (try clear hb2); (try clear hk); (try clear hi)) | ((with_reducible refine gate_callee (f := 14) rfl ?_); refine goesL_ (some 14) rfl rfl Try.func14 (by kernel_rfl) rfl #[.string a0] rfl (by (try simp only [List.map_toArray, List.map_cons, List.map_nil]); first | done | rfl | (simp only [List.length_drop, List.length_take]; rfl)) ?_; (with_reducible refine (hibernacleref48_Of.calls k a0 t186 t187 _ A3.out).mono ?_); rintro e w' ⟨rfl, ⟨nd, rfl⟩⟩; refine ⟨_, rfl, ?_⟩))
    go_ret
    exact ⟨by first | rfl | (simp [errW_none, errW_some] <;> rfl) | (simp [*, errW_none, errW_some] <;> rfl), by repeat (first | (with_reducible first | exact HB.out | apply below_alloc | apply pw_below_drewN | apply below_drew1) | exact HB.out)⟩

/-- THE ONE PURE STATEMENT of hibernaclelaw48_DayReads: yours. -/
def hibernaclelaw48_DayReads.Pure : Prop := ∀ (a0 : ByteArray), a0.size ≤ 140737488351232 → ∃ k, hibernaclelaw48_DayReads.f k a0 = some true
theorem hibernaclelaw48_DayReads.walk (P : hibernaclelaw48_DayReads.Pure) (a0 : ByteArray) (w : World) (w0 : a0.size ≤ 140737488351232) :
    Calls Try.prog 4 #[.string a0] w fun e w' => e = .returned (.bool true) ∧ Below w.heap.size w w' := by
  obtain ⟨k, h⟩ := P a0 w0
  refine (hibernaclelaw48_DayReads.calls k a0 true w h).mono ?_
  rintro e w' ⟨rfl, hd⟩
  exact ⟨rfl, hd⟩

/-! ### hibernaclelaw48_DayWeeks: function 5 -/
def hibernaclelaw48_DayWeeks.j0 : Nat → Int → Bool → Option (Bool)
  | 0, _, _ => none
  | k + 1, x0, x10 => if x10 = true then ((hibernaclelaw48_awake.f k).bind fun t191 => (some t191)) else ((day_Day.f (wrap64 (x0 + 1))).bind fun t192 => ((day_Day.f x0).bind fun t193 => ((day_Week.f (wrap64 (x0 + 10080))).bind fun t194 => ((day_Week.f x0).bind fun t195 => (if t194 = (wrap64 (t195 + 1)) then ((day_Day.f (wrap64 (x0 + 10080))).bind fun t196 => ((day_Day.f x0).bind fun t197 => (if t196 = (wrap64 (t197 + 7)) then (if t192 = t193 then ((day_Week.f (wrap64 (x0 + 1))).bind fun t198 => ((day_Week.f x0).bind fun t199 => (if t198 = t199 then ((hibernaclelaw48_awake.f k).bind fun t200 => (some t200)) else (some false)))) else ((hibernaclelaw48_awake.f k).bind fun t201 => (some t201))) else (some false)))) else (some false))))))
def hibernaclelaw48_DayWeeks.f (k : Nat) (a0 : Int) : Option (Bool) := if a0 > 1125899906842624 then (hibernaclelaw48_DayWeeks.j0 k a0 true) else (hibernaclelaw48_DayWeeks.j0 k a0 (decide (a0 < (-1125899906842624))))
theorem hibernaclelaw48_DayWeeks.mono_l : ∀ k, (∀ y0 y1, LeO (hibernaclelaw48_DayWeeks.j0 k y0 y1) (hibernaclelaw48_DayWeeks.j0 (k + 1) y0 y1))
  | 0 => fun _ _ r h => by simp [hibernaclelaw48_DayWeeks.j0] at h
  | k + 1 => by
    have ih0 := hibernaclelaw48_DayWeeks.mono_l k
    · intro y0 y1
      unfold hibernaclelaw48_DayWeeks.j0
      repeat' first
      | (with_reducible exact ih0 _ _)
      | (with_reducible exact hibernaclelaw48_awake.mono _)
      | (with_reducible exact LeO.refl _)
      | (with_reducible exact LeO.none _)
      | (with_reducible refine LeO.ite ?_ ?_)
      | (with_reducible refine LeO.bind ?_ (fun _ => ?_))
      | exact ih0 _ _
      | exact hibernaclelaw48_awake.mono _
      | exact LeO.none _
      | refine LeO.ite ?_ ?_
      | refine LeO.bind ?_ (fun _ => ?_)
theorem hibernaclelaw48_DayWeeks.mono : ∀ a0 k, LeO (hibernaclelaw48_DayWeeks.f k a0) (hibernaclelaw48_DayWeeks.f (k + 1) a0) := by
  intro a0 k
  have ih0 := hibernaclelaw48_DayWeeks.mono_l k
  unfold hibernaclelaw48_DayWeeks.f
  repeat' first
      | (with_reducible exact ih0 _ _)
      | (with_reducible exact hibernaclelaw48_awake.mono _)
      | (with_reducible exact LeO.refl _)
      | (with_reducible exact LeO.none _)
      | (with_reducible refine LeO.ite ?_ ?_)
      | (with_reducible refine LeO.bind ?_ (fun _ => ?_))
      | exact ih0 _ _
      | exact hibernaclelaw48_awake.mono _
      | exact LeO.none _
      | refine LeO.ite ?_ ?_
      | refine LeO.bind ?_ (fun _ => ?_)
set_option maxHeartbeats 8000000 in
set_option maxRecDepth 100000 in
theorem hibernaclelaw48_DayWeeks.calls (k : Nat) (a0 : Int) (r : Bool) (w : World) (h : hibernaclelaw48_DayWeeks.f k a0 = some r) :
    Calls Try.prog 5 #[.int .i64 a0] w fun e w' => e = .returned (.bool r) ∧ Below w.heap.size w w' := by
  have HB := Aside0.mk (Below.refl w.heap.size w)
  have H : (if a0 > 1125899906842624 then (hibernaclelaw48_DayWeeks.j0 k a0 true) else (hibernaclelaw48_DayWeeks.j0 k a0 (decide (a0 < (-1125899906842624))))) = some r := h
  clear h
  have HC2 := Aside0.mk H
  clear H
  go_enter Try.func5, Try.ntmps5
  go_upto_region 1 with (fail)
  go_cut [10] (fun v10 wc => ∃ (kq : Nat) (x10_1 : Bool), v10 = .bool x10_1 ∧ Aside0 (hibernaclelaw48_DayWeeks.j0 kq a0 x10_1 = some r) ∧ Aside0 (kq ≤ k) ∧ Aside0 (Below w.heap.size w wc))
  case first =>
    have H := HC2.out
    clear HC2
    by_cases c3 : a0 > 1125899906842624
    · rw [if_pos c3] at H
      have c3b0 : decide (1125899906842624 < a0) = true := decide_eq_true c3
      clear c3
      (first | rw [c3b0] | (simp only [i64_w, i32_w]; rw [c3b0]) | skip)
      have H' := Aside0.mk H
      clear H
      go_wp2
      go_meet
      case rel => exact ⟨_, (true), (by first | rfl | (simp; done) | (simp [*]; done)), H', ⟨by first | omega | exact Nat.le_refl _⟩, ⟨by repeat (first | (with_reducible first | exact HB.out | apply below_alloc | apply pw_below_drewN | apply below_drew1) | exact HB.out)⟩⟩
    · rw [if_neg c3] at H
      have c3b0 : decide (1125899906842624 < a0) = false := decide_eq_false c3
      clear c3
      (first | rw [c3b0] | (simp only [i64_w, i32_w]; rw [c3b0]) | skip)
      have H' := Aside0.mk H
      clear H
      go_wp2
      go_meet
      case rel => exact ⟨_, (decide (a0 < (-1125899906842624))), (by first | rfl | (simp; done) | (simp [*]; done)), H', ⟨by first | omega | exact Nat.le_refl _⟩, ⟨by repeat (first | (with_reducible first | exact HB.out | apply below_alloc | apply pw_below_drewN | apply below_drew1) | exact HB.out)⟩⟩
  case rest =>
    clear HC2
    try clear p2
    try clear c3
    try clear c3b0
    obtain ⟨kq, x10_1, rfl, HA, HJ1, HB⟩ := hcut
    cases kq with
    | zero => exact absurd HA.out (by simp [hibernaclelaw48_DayWeeks.j0])
    | succ kj1 =>
      have H := HA.out
      clear HA
      simp only [hibernaclelaw48_DayWeeks.j0] at H
      by_cases c4 : x10_1 = true
      · subst c4
        have H1 : ((hibernaclelaw48_awake.f kj1).bind fun t191 => (some t191)) = some r := by rw [if_pos rfl] at H; exact H
        clear H
        have H := H1
        clear H1
        replace H := Option.bind_eq_some_iff.mp H
        obtain ⟨t191, A50, H⟩ := H
        replace H : (some t191) = some r := H
        have A5 := Aside0.mk A50
        clear A50
        obtain rfl := Option.some.inj H
        go_wp2_with (first | ((with_reducible refine gate_callee (f := 13) rfl ?_); refine goesL_ (some 11) rfl rfl Try.func13 (by kernel_rfl) rfl #[] rfl (by (try simp only [List.map_toArray, List.map_cons, List.map_nil]); first | done | rfl | (simp only [List.length_drop, List.length_take]; rfl)) ?_; (with_reducible refine (hibernaclelaw48_awake.calls kj1  t191 _ A5.out).mono ?_); rintro e w6 ⟨rfl, hb⟩; refine ⟨_, rfl, ?_⟩; have n0_ := Aside0.mk (below_step (by repeat (first | (with_reducible first | exact HB.out | apply below_alloc | apply pw_below_drewN | apply below_drew1) | exact HB.out)) hb); clear HB; have HB := n0_; clear n0_; (try clear hb); (try clear hb2); (try clear hk); (try clear hi)))
        go_ret
        exact ⟨by first | rfl | (simp [errW_none, errW_some] <;> rfl) | (simp [*, errW_none, errW_some] <;> rfl), by repeat (first | (with_reducible first | exact HB.out | apply below_alloc | apply pw_below_drewN | apply below_drew1) | exact HB.out)⟩
      · replace c4 := Bool.eq_false_iff.mpr c4
        subst c4
        have H1 : ((day_Day.f (wrap64 (a0 + 1))).bind fun t192 => ((day_Day.f a0).bind fun t193 => ((day_Week.f (wrap64 (a0 + 10080))).bind fun t194 => ((day_Week.f a0).bind fun t195 => (if t194 = (wrap64 (t195 + 1)) then ((day_Day.f (wrap64 (a0 + 10080))).bind fun t196 => ((day_Day.f a0).bind fun t197 => (if t196 = (wrap64 (t197 + 7)) then (if t192 = t193 then ((day_Week.f (wrap64 (a0 + 1))).bind fun t198 => ((day_Week.f a0).bind fun t199 => (if t198 = t199 then ((hibernaclelaw48_awake.f kj1).bind fun t200 => (some t200)) else (some false)))) else ((hibernaclelaw48_awake.f kj1).bind fun t201 => (some t201))) else (some false)))) else (some false)))))) = some r := by rw [if_neg (show ¬ (false = true) by decide)] at H; exact H
        clear H
        have H := H1
        clear H1
        replace H := Option.bind_eq_some_iff.mp H
        obtain ⟨t192, A70, H⟩ := H
        replace H : ((day_Day.f a0).bind fun t193 => ((day_Week.f (wrap64 (a0 + 10080))).bind fun t194 => ((day_Week.f a0).bind fun t195 => (if t194 = (wrap64 (t195 + 1)) then ((day_Day.f (wrap64 (a0 + 10080))).bind fun t196 => ((day_Day.f a0).bind fun t197 => (if t196 = (wrap64 (t197 + 7)) then (if t192 = t193 then ((day_Week.f (wrap64 (a0 + 1))).bind fun t198 => ((day_Week.f a0).bind fun t199 => (if t198 = t199 then ((hibernaclelaw48_awake.f kj1).bind fun t200 => (some t200)) else (some false)))) else ((hibernaclelaw48_awake.f kj1).bind fun t201 => (some t201))) else (some false)))) else (some false))))) = some r := H
        have A7 := Aside0.mk A70
        clear A70
        replace H := Option.bind_eq_some_iff.mp H
        obtain ⟨t193, A80, H⟩ := H
        replace H : ((day_Week.f (wrap64 (a0 + 10080))).bind fun t194 => ((day_Week.f a0).bind fun t195 => (if t194 = (wrap64 (t195 + 1)) then ((day_Day.f (wrap64 (a0 + 10080))).bind fun t196 => ((day_Day.f a0).bind fun t197 => (if t196 = (wrap64 (t197 + 7)) then (if t192 = t193 then ((day_Week.f (wrap64 (a0 + 1))).bind fun t198 => ((day_Week.f a0).bind fun t199 => (if t198 = t199 then ((hibernaclelaw48_awake.f kj1).bind fun t200 => (some t200)) else (some false)))) else ((hibernaclelaw48_awake.f kj1).bind fun t201 => (some t201))) else (some false)))) else (some false)))) = some r := H
        have A8 := Aside0.mk A80
        clear A80
        replace H := Option.bind_eq_some_iff.mp H
        obtain ⟨t194, A90, H⟩ := H
        replace H : ((day_Week.f a0).bind fun t195 => (if t194 = (wrap64 (t195 + 1)) then ((day_Day.f (wrap64 (a0 + 10080))).bind fun t196 => ((day_Day.f a0).bind fun t197 => (if t196 = (wrap64 (t197 + 7)) then (if t192 = t193 then ((day_Week.f (wrap64 (a0 + 1))).bind fun t198 => ((day_Week.f a0).bind fun t199 => (if t198 = t199 then ((hibernaclelaw48_awake.f kj1).bind fun t200 => (some t200)) else (some false)))) else ((hibernaclelaw48_awake.f kj1).bind fun t201 => (some t201))) else (some false)))) else (some false))) = some r := H
        have A9 := Aside0.mk A90
        clear A90
        replace H := Option.bind_eq_some_iff.mp H
        obtain ⟨t195, A100, H⟩ := H
        replace H : (if t194 = (wrap64 (t195 + 1)) then ((day_Day.f (wrap64 (a0 + 10080))).bind fun t196 => ((day_Day.f a0).bind fun t197 => (if t196 = (wrap64 (t197 + 7)) then (if t192 = t193 then ((day_Week.f (wrap64 (a0 + 1))).bind fun t198 => ((day_Week.f a0).bind fun t199 => (if t198 = t199 then ((hibernaclelaw48_awake.f kj1).bind fun t200 => (some t200)) else (some false)))) else ((hibernaclelaw48_awake.f kj1).bind fun t201 => (some t201))) else (some false)))) else (some false)) = some r := H
        have A10 := Aside0.mk A100
        clear A100
        by_cases c11 : t194 = (wrap64 (t195 + 1))
        · rw [if_pos c11] at H
          have c11b0 : (t194 == (wrap64 (t195 + 1))) = true := beq_iff_eq.mpr c11
          have c11b1 : (t194 != (wrap64 (t195 + 1))) = false := bne_eq_false_iff_eq.mpr c11
          clear c11
          replace H := Option.bind_eq_some_iff.mp H
          obtain ⟨t196, A120, H⟩ := H
          replace H : ((day_Day.f a0).bind fun t197 => (if t196 = (wrap64 (t197 + 7)) then (if t192 = t193 then ((day_Week.f (wrap64 (a0 + 1))).bind fun t198 => ((day_Week.f a0).bind fun t199 => (if t198 = t199 then ((hibernaclelaw48_awake.f kj1).bind fun t200 => (some t200)) else (some false)))) else ((hibernaclelaw48_awake.f kj1).bind fun t201 => (some t201))) else (some false))) = some r := H
          have A12 := Aside0.mk A120
          clear A120
          replace H := Option.bind_eq_some_iff.mp H
          obtain ⟨t197, A130, H⟩ := H
          replace H : (if t196 = (wrap64 (t197 + 7)) then (if t192 = t193 then ((day_Week.f (wrap64 (a0 + 1))).bind fun t198 => ((day_Week.f a0).bind fun t199 => (if t198 = t199 then ((hibernaclelaw48_awake.f kj1).bind fun t200 => (some t200)) else (some false)))) else ((hibernaclelaw48_awake.f kj1).bind fun t201 => (some t201))) else (some false)) = some r := H
          have A13 := Aside0.mk A130
          clear A130
          by_cases c14 : t196 = (wrap64 (t197 + 7))
          · rw [if_pos c14] at H
            have c14b0 : (t196 == (wrap64 (t197 + 7))) = true := beq_iff_eq.mpr c14
            have c14b1 : (t196 != (wrap64 (t197 + 7))) = false := bne_eq_false_iff_eq.mpr c14
            clear c14
            by_cases c15 : t192 = t193
            · rw [if_pos c15] at H
              have c15b0 : (t192 == t193) = true := beq_iff_eq.mpr c15
              have c15b1 : (t192 != t193) = false := bne_eq_false_iff_eq.mpr c15
              clear c15
              replace H := Option.bind_eq_some_iff.mp H
              obtain ⟨t198, A160, H⟩ := H
              replace H : ((day_Week.f a0).bind fun t199 => (if t198 = t199 then ((hibernaclelaw48_awake.f kj1).bind fun t200 => (some t200)) else (some false))) = some r := H
              have A16 := Aside0.mk A160
              clear A160
              replace H := Option.bind_eq_some_iff.mp H
              obtain ⟨t199, A170, H⟩ := H
              replace H : (if t198 = t199 then ((hibernaclelaw48_awake.f kj1).bind fun t200 => (some t200)) else (some false)) = some r := H
              have A17 := Aside0.mk A170
              clear A170
              by_cases c18 : t198 = t199
              · rw [if_pos c18] at H
                have c18b0 : (t198 == t199) = true := beq_iff_eq.mpr c18
                have c18b1 : (t198 != t199) = false := bne_eq_false_iff_eq.mpr c18
                clear c18
                replace H := Option.bind_eq_some_iff.mp H
                obtain ⟨t200, A190, H⟩ := H
                replace H : (some t200) = some r := H
                have A19 := Aside0.mk A190
                clear A190
                obtain rfl := Option.some.inj H
                go_wp2_with (first | ((with_reducible refine gate_callee (f := 15) rfl ?_); refine goesL_ (some 16) rfl rfl Try.func15 (by kernel_rfl) rfl #[.int .i64 (wrap64 (a0 + 1))] rfl (by (try simp only [List.map_toArray, List.map_cons, List.map_nil]); first | done | rfl | (simp only [List.length_drop, List.length_take]; rfl)) ?_; (with_reducible refine (day_Day.calls (wrap64 (a0 + 1)) t192 _ A7.out).mono ?_); rintro e w' ⟨rfl, ⟨nd, rfl⟩⟩; refine ⟨_, rfl, ?_⟩) | ((with_reducible refine gate_callee (f := 15) rfl ?_); refine goesL_ (some 18) rfl rfl Try.func15 (by kernel_rfl) rfl #[.int .i64 a0] rfl (by (try simp only [List.map_toArray, List.map_cons, List.map_nil]); first | done | rfl | (simp only [List.length_drop, List.length_take]; rfl)) ?_; (with_reducible refine (day_Day.calls a0 t193 _ A8.out).mono ?_); rintro e w' ⟨rfl, ⟨nd, rfl⟩⟩; refine ⟨_, rfl, ?_⟩) | ((with_reducible refine gate_callee (f := 16) rfl ?_); refine goesL_ (some 21) rfl rfl Try.func16 (by kernel_rfl) rfl #[.int .i64 (wrap64 (a0 + 10080))] rfl (by (try simp only [List.map_toArray, List.map_cons, List.map_nil]); first | done | rfl | (simp only [List.length_drop, List.length_take]; rfl)) ?_; (with_reducible refine (day_Week.calls (wrap64 (a0 + 10080)) t194 _ A9.out).mono ?_); rintro e w' ⟨rfl, ⟨nd, rfl⟩⟩; refine ⟨_, rfl, ?_⟩) | ((with_reducible refine gate_callee (f := 16) rfl ?_); refine goesL_ (some 23) rfl rfl Try.func16 (by kernel_rfl) rfl #[.int .i64 a0] rfl (by (try simp only [List.map_toArray, List.map_cons, List.map_nil]); first | done | rfl | (simp only [List.length_drop, List.length_take]; rfl)) ?_; (with_reducible refine (day_Week.calls a0 t195 _ A10.out).mono ?_); rintro e w' ⟨rfl, ⟨nd, rfl⟩⟩; refine ⟨_, rfl, ?_⟩) | (go_at_call 15; (with_reducible refine (day_Day.calls (wrap64 (a0 + 10080)) t196 _ A12.out).mono ?_); rintro e w' ⟨rfl, ⟨nd, rfl⟩⟩) | (go_at_call 15; (with_reducible refine (day_Day.calls a0 t197 _ A13.out).mono ?_); rintro e w' ⟨rfl, ⟨nd, rfl⟩⟩) | (go_at_call 16; (with_reducible refine (day_Week.calls (wrap64 (a0 + 1)) t198 _ A16.out).mono ?_); rintro e w' ⟨rfl, ⟨nd, rfl⟩⟩) | (go_at_call 16; (with_reducible refine (day_Week.calls a0 t199 _ A17.out).mono ?_); rintro e w' ⟨rfl, ⟨nd, rfl⟩⟩) | (go_at_call 13; (with_reducible refine (hibernaclelaw48_awake.calls kj1  t200 _ A19.out).mono ?_); rintro e w20 ⟨rfl, hb⟩; have n0_ := Aside0.mk (below_step (by repeat (first | (with_reducible first | exact HB.out | apply below_alloc | apply pw_below_drewN | apply below_drew1) | exact HB.out)) hb); clear HB; have HB := n0_; clear n0_; (try clear hb); (try clear hb2); (try clear hk); (try clear hi)))
                go_ret
                exact ⟨by first | rfl | (simp [errW_none, errW_some] <;> rfl) | (simp [*, errW_none, errW_some] <;> rfl), by repeat (first | (with_reducible first | exact HB.out | apply below_alloc | apply pw_below_drewN | apply below_drew1) | exact HB.out)⟩
              · rw [if_neg c18] at H
                have c18b0 : (t198 == t199) = false := beq_eq_false_iff_ne.mpr c18
                have c18b1 : (t198 != t199) = true := bne_iff_ne.mpr c18
                obtain rfl := Option.some.inj H
                go_wp2_with (first | ((with_reducible refine gate_callee (f := 15) rfl ?_); refine goesL_ (some 16) rfl rfl Try.func15 (by kernel_rfl) rfl #[.int .i64 (wrap64 (a0 + 1))] rfl (by (try simp only [List.map_toArray, List.map_cons, List.map_nil]); first | done | rfl | (simp only [List.length_drop, List.length_take]; rfl)) ?_; (with_reducible refine (day_Day.calls (wrap64 (a0 + 1)) t192 _ A7.out).mono ?_); rintro e w' ⟨rfl, ⟨nd, rfl⟩⟩; refine ⟨_, rfl, ?_⟩) | ((with_reducible refine gate_callee (f := 15) rfl ?_); refine goesL_ (some 18) rfl rfl Try.func15 (by kernel_rfl) rfl #[.int .i64 a0] rfl (by (try simp only [List.map_toArray, List.map_cons, List.map_nil]); first | done | rfl | (simp only [List.length_drop, List.length_take]; rfl)) ?_; (with_reducible refine (day_Day.calls a0 t193 _ A8.out).mono ?_); rintro e w' ⟨rfl, ⟨nd, rfl⟩⟩; refine ⟨_, rfl, ?_⟩) | ((with_reducible refine gate_callee (f := 16) rfl ?_); refine goesL_ (some 21) rfl rfl Try.func16 (by kernel_rfl) rfl #[.int .i64 (wrap64 (a0 + 10080))] rfl (by (try simp only [List.map_toArray, List.map_cons, List.map_nil]); first | done | rfl | (simp only [List.length_drop, List.length_take]; rfl)) ?_; (with_reducible refine (day_Week.calls (wrap64 (a0 + 10080)) t194 _ A9.out).mono ?_); rintro e w' ⟨rfl, ⟨nd, rfl⟩⟩; refine ⟨_, rfl, ?_⟩) | ((with_reducible refine gate_callee (f := 16) rfl ?_); refine goesL_ (some 23) rfl rfl Try.func16 (by kernel_rfl) rfl #[.int .i64 a0] rfl (by (try simp only [List.map_toArray, List.map_cons, List.map_nil]); first | done | rfl | (simp only [List.length_drop, List.length_take]; rfl)) ?_; (with_reducible refine (day_Week.calls a0 t195 _ A10.out).mono ?_); rintro e w' ⟨rfl, ⟨nd, rfl⟩⟩; refine ⟨_, rfl, ?_⟩) | (go_at_call 15; (with_reducible refine (day_Day.calls (wrap64 (a0 + 10080)) t196 _ A12.out).mono ?_); rintro e w' ⟨rfl, ⟨nd, rfl⟩⟩) | (go_at_call 15; (with_reducible refine (day_Day.calls a0 t197 _ A13.out).mono ?_); rintro e w' ⟨rfl, ⟨nd, rfl⟩⟩) | (go_at_call 16; (with_reducible refine (day_Week.calls (wrap64 (a0 + 1)) t198 _ A16.out).mono ?_); rintro e w' ⟨rfl, ⟨nd, rfl⟩⟩) | (go_at_call 16; (with_reducible refine (day_Week.calls a0 t199 _ A17.out).mono ?_); rintro e w' ⟨rfl, ⟨nd, rfl⟩⟩))
                go_ret
                exact ⟨by first | rfl | (simp [errW_none, errW_some] <;> rfl) | (simp [*, errW_none, errW_some] <;> rfl), by repeat (first | (with_reducible first | exact HB.out | apply below_alloc | apply pw_below_drewN | apply below_drew1) | exact HB.out)⟩
            · rw [if_neg c15] at H
              have c15b0 : (t192 == t193) = false := beq_eq_false_iff_ne.mpr c15
              have c15b1 : (t192 != t193) = true := bne_iff_ne.mpr c15
              replace H := Option.bind_eq_some_iff.mp H
              obtain ⟨t201, A210, H⟩ := H
              replace H : (some t201) = some r := H
              have A21 := Aside0.mk A210
              clear A210
              obtain rfl := Option.some.inj H
              go_wp2_with (first | ((with_reducible refine gate_callee (f := 15) rfl ?_); refine goesL_ (some 16) rfl rfl Try.func15 (by kernel_rfl) rfl #[.int .i64 (wrap64 (a0 + 1))] rfl (by (try simp only [List.map_toArray, List.map_cons, List.map_nil]); first | done | rfl | (simp only [List.length_drop, List.length_take]; rfl)) ?_; (with_reducible refine (day_Day.calls (wrap64 (a0 + 1)) t192 _ A7.out).mono ?_); rintro e w' ⟨rfl, ⟨nd, rfl⟩⟩; refine ⟨_, rfl, ?_⟩) | ((with_reducible refine gate_callee (f := 15) rfl ?_); refine goesL_ (some 18) rfl rfl Try.func15 (by kernel_rfl) rfl #[.int .i64 a0] rfl (by (try simp only [List.map_toArray, List.map_cons, List.map_nil]); first | done | rfl | (simp only [List.length_drop, List.length_take]; rfl)) ?_; (with_reducible refine (day_Day.calls a0 t193 _ A8.out).mono ?_); rintro e w' ⟨rfl, ⟨nd, rfl⟩⟩; refine ⟨_, rfl, ?_⟩) | ((with_reducible refine gate_callee (f := 16) rfl ?_); refine goesL_ (some 21) rfl rfl Try.func16 (by kernel_rfl) rfl #[.int .i64 (wrap64 (a0 + 10080))] rfl (by (try simp only [List.map_toArray, List.map_cons, List.map_nil]); first | done | rfl | (simp only [List.length_drop, List.length_take]; rfl)) ?_; (with_reducible refine (day_Week.calls (wrap64 (a0 + 10080)) t194 _ A9.out).mono ?_); rintro e w' ⟨rfl, ⟨nd, rfl⟩⟩; refine ⟨_, rfl, ?_⟩) | ((with_reducible refine gate_callee (f := 16) rfl ?_); refine goesL_ (some 23) rfl rfl Try.func16 (by kernel_rfl) rfl #[.int .i64 a0] rfl (by (try simp only [List.map_toArray, List.map_cons, List.map_nil]); first | done | rfl | (simp only [List.length_drop, List.length_take]; rfl)) ?_; (with_reducible refine (day_Week.calls a0 t195 _ A10.out).mono ?_); rintro e w' ⟨rfl, ⟨nd, rfl⟩⟩; refine ⟨_, rfl, ?_⟩) | (go_at_call 15; (with_reducible refine (day_Day.calls (wrap64 (a0 + 10080)) t196 _ A12.out).mono ?_); rintro e w' ⟨rfl, ⟨nd, rfl⟩⟩) | (go_at_call 15; (with_reducible refine (day_Day.calls a0 t197 _ A13.out).mono ?_); rintro e w' ⟨rfl, ⟨nd, rfl⟩⟩) | (go_at_call 13; (with_reducible refine (hibernaclelaw48_awake.calls kj1  t201 _ A21.out).mono ?_); rintro e w22 ⟨rfl, hb⟩; have n0_ := Aside0.mk (below_step (by repeat (first | (with_reducible first | exact HB.out | apply below_alloc | apply pw_below_drewN | apply below_drew1) | exact HB.out)) hb); clear HB; have HB := n0_; clear n0_; (try clear hb); (try clear hb2); (try clear hk); (try clear hi)))
              go_ret
              exact ⟨by first | rfl | (simp [errW_none, errW_some] <;> rfl) | (simp [*, errW_none, errW_some] <;> rfl), by repeat (first | (with_reducible first | exact HB.out | apply below_alloc | apply pw_below_drewN | apply below_drew1) | exact HB.out)⟩
          · rw [if_neg c14] at H
            have c14b0 : (t196 == (wrap64 (t197 + 7))) = false := beq_eq_false_iff_ne.mpr c14
            have c14b1 : (t196 != (wrap64 (t197 + 7))) = true := bne_iff_ne.mpr c14
            obtain rfl := Option.some.inj H
            go_wp2_with (first | ((with_reducible refine gate_callee (f := 15) rfl ?_); refine goesL_ (some 16) rfl rfl Try.func15 (by kernel_rfl) rfl #[.int .i64 (wrap64 (a0 + 1))] rfl (by (try simp only [List.map_toArray, List.map_cons, List.map_nil]); first | done | rfl | (simp only [List.length_drop, List.length_take]; rfl)) ?_; (with_reducible refine (day_Day.calls (wrap64 (a0 + 1)) t192 _ A7.out).mono ?_); rintro e w' ⟨rfl, ⟨nd, rfl⟩⟩; refine ⟨_, rfl, ?_⟩) | ((with_reducible refine gate_callee (f := 15) rfl ?_); refine goesL_ (some 18) rfl rfl Try.func15 (by kernel_rfl) rfl #[.int .i64 a0] rfl (by (try simp only [List.map_toArray, List.map_cons, List.map_nil]); first | done | rfl | (simp only [List.length_drop, List.length_take]; rfl)) ?_; (with_reducible refine (day_Day.calls a0 t193 _ A8.out).mono ?_); rintro e w' ⟨rfl, ⟨nd, rfl⟩⟩; refine ⟨_, rfl, ?_⟩) | ((with_reducible refine gate_callee (f := 16) rfl ?_); refine goesL_ (some 21) rfl rfl Try.func16 (by kernel_rfl) rfl #[.int .i64 (wrap64 (a0 + 10080))] rfl (by (try simp only [List.map_toArray, List.map_cons, List.map_nil]); first | done | rfl | (simp only [List.length_drop, List.length_take]; rfl)) ?_; (with_reducible refine (day_Week.calls (wrap64 (a0 + 10080)) t194 _ A9.out).mono ?_); rintro e w' ⟨rfl, ⟨nd, rfl⟩⟩; refine ⟨_, rfl, ?_⟩) | ((with_reducible refine gate_callee (f := 16) rfl ?_); refine goesL_ (some 23) rfl rfl Try.func16 (by kernel_rfl) rfl #[.int .i64 a0] rfl (by (try simp only [List.map_toArray, List.map_cons, List.map_nil]); first | done | rfl | (simp only [List.length_drop, List.length_take]; rfl)) ?_; (with_reducible refine (day_Week.calls a0 t195 _ A10.out).mono ?_); rintro e w' ⟨rfl, ⟨nd, rfl⟩⟩; refine ⟨_, rfl, ?_⟩) | (go_at_call 15; (with_reducible refine (day_Day.calls (wrap64 (a0 + 10080)) t196 _ A12.out).mono ?_); rintro e w' ⟨rfl, ⟨nd, rfl⟩⟩) | (go_at_call 15; (with_reducible refine (day_Day.calls a0 t197 _ A13.out).mono ?_); rintro e w' ⟨rfl, ⟨nd, rfl⟩⟩))
            go_ret
            exact ⟨by first | rfl | (simp [errW_none, errW_some] <;> rfl) | (simp [*, errW_none, errW_some] <;> rfl), by repeat (first | (with_reducible first | exact HB.out | apply below_alloc | apply pw_below_drewN | apply below_drew1) | exact HB.out)⟩
        · rw [if_neg c11] at H
          have c11b0 : (t194 == (wrap64 (t195 + 1))) = false := beq_eq_false_iff_ne.mpr c11
          have c11b1 : (t194 != (wrap64 (t195 + 1))) = true := bne_iff_ne.mpr c11
          obtain rfl := Option.some.inj H
          go_wp2_with (first | ((with_reducible refine gate_callee (f := 15) rfl ?_); refine goesL_ (some 16) rfl rfl Try.func15 (by kernel_rfl) rfl #[.int .i64 (wrap64 (a0 + 1))] rfl (by (try simp only [List.map_toArray, List.map_cons, List.map_nil]); first | done | rfl | (simp only [List.length_drop, List.length_take]; rfl)) ?_; (with_reducible refine (day_Day.calls (wrap64 (a0 + 1)) t192 _ A7.out).mono ?_); rintro e w' ⟨rfl, ⟨nd, rfl⟩⟩; refine ⟨_, rfl, ?_⟩) | ((with_reducible refine gate_callee (f := 15) rfl ?_); refine goesL_ (some 18) rfl rfl Try.func15 (by kernel_rfl) rfl #[.int .i64 a0] rfl (by (try simp only [List.map_toArray, List.map_cons, List.map_nil]); first | done | rfl | (simp only [List.length_drop, List.length_take]; rfl)) ?_; (with_reducible refine (day_Day.calls a0 t193 _ A8.out).mono ?_); rintro e w' ⟨rfl, ⟨nd, rfl⟩⟩; refine ⟨_, rfl, ?_⟩) | ((with_reducible refine gate_callee (f := 16) rfl ?_); refine goesL_ (some 21) rfl rfl Try.func16 (by kernel_rfl) rfl #[.int .i64 (wrap64 (a0 + 10080))] rfl (by (try simp only [List.map_toArray, List.map_cons, List.map_nil]); first | done | rfl | (simp only [List.length_drop, List.length_take]; rfl)) ?_; (with_reducible refine (day_Week.calls (wrap64 (a0 + 10080)) t194 _ A9.out).mono ?_); rintro e w' ⟨rfl, ⟨nd, rfl⟩⟩; refine ⟨_, rfl, ?_⟩) | ((with_reducible refine gate_callee (f := 16) rfl ?_); refine goesL_ (some 23) rfl rfl Try.func16 (by kernel_rfl) rfl #[.int .i64 a0] rfl (by (try simp only [List.map_toArray, List.map_cons, List.map_nil]); first | done | rfl | (simp only [List.length_drop, List.length_take]; rfl)) ?_; (with_reducible refine (day_Week.calls a0 t195 _ A10.out).mono ?_); rintro e w' ⟨rfl, ⟨nd, rfl⟩⟩; refine ⟨_, rfl, ?_⟩))
          go_ret
          exact ⟨by first | rfl | (simp [errW_none, errW_some] <;> rfl) | (simp [*, errW_none, errW_some] <;> rfl), by repeat (first | (with_reducible first | exact HB.out | apply below_alloc | apply pw_below_drewN | apply below_drew1) | exact HB.out)⟩

/-- THE ONE PURE STATEMENT of hibernaclelaw48_DayWeeks: yours. -/
def hibernaclelaw48_DayWeeks.Pure : Prop := ∀ (a0 : Int), (Lit.int .i64 a0).wf = true → ∃ k, hibernaclelaw48_DayWeeks.f k a0 = some true
theorem hibernaclelaw48_DayWeeks.walk (P : hibernaclelaw48_DayWeeks.Pure) (a0 : Int) (w : World) (w0 : (Lit.int .i64 a0).wf = true) :
    Calls Try.prog 5 #[.int .i64 a0] w fun e w' => e = .returned (.bool true) ∧ Below w.heap.size w w' := by
  obtain ⟨k, h⟩ := P a0 w0
  refine (hibernaclelaw48_DayWeeks.calls k a0 true w h).mono ?_
  rintro e w' ⟨rfl, hd⟩
  exact ⟨rfl, hd⟩

/-! ### hibernacleref48_Week: function 18 -/
def hibernacleref48_Week.f (a0 : Int) : Option (Int) := (hibernacleref48_Day.f a0).bind fun t202 => ((hibernacleref48_floor.f (wrap64 (t202 + 5)) 7).bind fun t203 => (some t203))
set_option maxHeartbeats 8000000 in
set_option maxRecDepth 100000 in
theorem hibernacleref48_Week.calls (a0 : Int) (r : Int) (w : World) (h : hibernacleref48_Week.f a0 = some r) :
    Calls Try.prog 18 #[.int .i64 a0] w fun e w' => e = .returned (.int .i64 r) ∧ Drawn0 w w' := by
  have H : ((hibernacleref48_Day.f a0).bind fun t202 => ((hibernacleref48_floor.f (wrap64 (t202 + 5)) 7).bind fun t203 => (some t203))) = some r := h
  clear h
  replace H := Option.bind_eq_some_iff.mp H
  obtain ⟨t202, A20, H⟩ := H
  replace H : ((hibernacleref48_floor.f (wrap64 (t202 + 5)) 7).bind fun t203 => (some t203)) = some r := H
  have A2 := Aside0.mk A20
  clear A20
  replace H := Option.bind_eq_some_iff.mp H
  obtain ⟨t203, A30, H⟩ := H
  replace H : (some t203) = some r := H
  have A3 := Aside0.mk A30
  clear A30
  obtain rfl := Option.some.inj H
  go_enter Try.func18, Try.ntmps18
  go_wp2_with (first | ((with_reducible refine gate_callee (f := 17) rfl ?_); refine goesL_ (some 4) rfl rfl Try.func17 (by kernel_rfl) rfl #[.int .i64 a0] rfl (by (try simp only [List.map_toArray, List.map_cons, List.map_nil]); first | done | rfl | (simp only [List.length_drop, List.length_take]; rfl)) ?_; (with_reducible refine (hibernacleref48_Day.calls a0 t202 _ A2.out).mono ?_); rintro e w' ⟨rfl, ⟨nd, rfl⟩⟩; refine ⟨_, rfl, ?_⟩) | ((with_reducible refine gate_callee (f := 34) rfl ?_); refine goesL_ (some 6) rfl rfl Try.func34 (by kernel_rfl) rfl #[.int .i64 (wrap64 (t202 + 5)), .int .i64 7] rfl (by (try simp only [List.map_toArray, List.map_cons, List.map_nil]); first | done | rfl | (simp only [List.length_drop, List.length_take]; rfl)) ?_; (with_reducible refine (hibernacleref48_floor.calls (wrap64 (t202 + 5)) 7 t203 _ A3.out).mono ?_); rintro e w' ⟨rfl, ⟨nd, rfl⟩⟩; refine ⟨_, rfl, ?_⟩))
  go_ret
  exact ⟨by first | rfl | (simp; done) | (simp [*]; done), by repeat (first | exact Drawn0.refl _ | apply Drawn0.step)⟩

/-! ### day_Month: function 19 -/
def day_Month.f (k : Nat) (a0 : Int) : Option (Int) := (day_Day.f a0).bind fun t204 => ((day_date.f k t204).bind fun bt205 => (some (wrap64 ((wrap64 ((wrap64 (bt205.1 - 2000)) * 12)) + bt205.2.1))))
theorem day_Month.mono : ∀ a0 k, LeO (day_Month.f k a0) (day_Month.f (k + 1) a0) := by
  intro a0 k
  unfold day_Month.f
  repeat' first
      | (with_reducible exact day_date.mono _ _)
      | (with_reducible exact LeO.refl _)
      | (with_reducible exact LeO.none _)
      | (with_reducible refine LeO.ite ?_ ?_)
      | (with_reducible refine LeO.bind ?_ (fun _ => ?_))
      | exact day_date.mono _ _
      | exact LeO.none _
      | refine LeO.ite ?_ ?_
      | refine LeO.bind ?_ (fun _ => ?_)
set_option maxHeartbeats 8000000 in
set_option maxRecDepth 100000 in
theorem day_Month.calls (k : Nat) (a0 : Int) (r : Int) (w : World) (h : day_Month.f k a0 = some r) :
    Calls Try.prog 19 #[.int .i64 a0] w fun e w' => e = .returned (.int .i64 r) ∧ Below w.heap.size w w' := by
  have HB := Aside0.mk (Below.refl w.heap.size w)
  have H : ((day_Day.f a0).bind fun t204 => ((day_date.f k t204).bind fun bt205 => (some (wrap64 ((wrap64 ((wrap64 (bt205.1 - 2000)) * 12)) + bt205.2.1))))) = some r := h
  clear h
  replace H := Option.bind_eq_some_iff.mp H
  obtain ⟨t204, A20, H⟩ := H
  replace H : ((day_date.f k t204).bind fun bt205 => (some (wrap64 ((wrap64 ((wrap64 (bt205.1 - 2000)) * 12)) + bt205.2.1)))) = some r := H
  have A2 := Aside0.mk A20
  clear A20
  replace H := Option.bind_eq_some_iff.mp H
  obtain ⟨⟨t205, t206, t207⟩, A30, H⟩ := H
  replace H : (some (wrap64 ((wrap64 ((wrap64 (t205 - 2000)) * 12)) + t206))) = some r := H
  have A3 := Aside0.mk A30
  clear A30
  obtain rfl := Option.some.inj H
  go_enter Try.func19, Try.ntmps19
  go_wp2_with (first | ((with_reducible refine gate_callee (f := 15) rfl ?_); refine goesL_ (some 8) rfl rfl Try.func15 (by kernel_rfl) rfl #[.int .i64 a0] rfl (by (try simp only [List.map_toArray, List.map_cons, List.map_nil]); first | done | rfl | (simp only [List.length_drop, List.length_take]; rfl)) ?_; (with_reducible refine (day_Day.calls a0 t204 _ A2.out).mono ?_); rintro e w' ⟨rfl, ⟨nd, rfl⟩⟩; refine ⟨_, rfl, ?_⟩) | ((with_reducible refine gate_callee (f := 23) rfl ?_); refine goesL_ (some 9) rfl rfl Try.func23 (by kernel_rfl) rfl #[.int .i64 t204] rfl (by (try simp only [List.map_toArray, List.map_cons, List.map_nil]); first | done | rfl | (simp only [List.length_drop, List.length_take]; rfl)) ?_; (with_reducible refine (day_date.calls k t204 t205 t206 t207 _ A3.out).mono ?_); rintro e w4 ⟨rfl, hb⟩; refine ⟨_, rfl, ?_⟩; have n0_ := Aside0.mk (below_step (by repeat (first | (with_reducible first | exact HB.out | apply below_alloc | apply pw_below_drewN | apply below_drew1) | exact HB.out)) hb); clear HB; have HB := n0_; clear n0_; (try clear hb); (try clear hb2); (try clear hk); (try clear hi)))
  go_ret
  exact ⟨by first | rfl | (simp [errW_none, errW_some] <;> rfl) | (simp [*, errW_none, errW_some] <;> rfl), by repeat (first | (with_reducible first | exact HB.out | apply below_alloc | apply pw_below_drewN | apply below_drew1) | exact HB.out)⟩

/-! ### hibernacleref48_Month: function 20 -/
def hibernacleref48_Month.f (k : Nat) (a0 : Int) : Option (Int) := (hibernacleref48_Day.f a0).bind fun t208 => ((hibernacleref48_date.f k t208).bind fun bt209 => (some (wrap64 ((wrap64 ((wrap64 (12 * (wrap64 (bt209.1 - 2000)))) + bt209.2.1)) - 1))))
theorem hibernacleref48_Month.mono : ∀ a0 k, LeO (hibernacleref48_Month.f k a0) (hibernacleref48_Month.f (k + 1) a0) := by
  intro a0 k
  unfold hibernacleref48_Month.f
  repeat' first
      | (with_reducible exact hibernacleref48_date.mono _ _)
      | (with_reducible exact LeO.refl _)
      | (with_reducible exact LeO.none _)
      | (with_reducible refine LeO.ite ?_ ?_)
      | (with_reducible refine LeO.bind ?_ (fun _ => ?_))
      | exact hibernacleref48_date.mono _ _
      | exact LeO.none _
      | refine LeO.ite ?_ ?_
      | refine LeO.bind ?_ (fun _ => ?_)
set_option maxHeartbeats 8000000 in
set_option maxRecDepth 100000 in
theorem hibernacleref48_Month.calls (k : Nat) (a0 : Int) (r : Int) (w : World) (h : hibernacleref48_Month.f k a0 = some r) :
    Calls Try.prog 20 #[.int .i64 a0] w fun e w' => e = .returned (.int .i64 r) ∧ Drawn0 w w' := by
  have H : ((hibernacleref48_Day.f a0).bind fun t208 => ((hibernacleref48_date.f k t208).bind fun bt209 => (some (wrap64 ((wrap64 ((wrap64 (12 * (wrap64 (bt209.1 - 2000)))) + bt209.2.1)) - 1))))) = some r := h
  clear h
  replace H := Option.bind_eq_some_iff.mp H
  obtain ⟨t208, A20, H⟩ := H
  replace H : ((hibernacleref48_date.f k t208).bind fun bt209 => (some (wrap64 ((wrap64 ((wrap64 (12 * (wrap64 (bt209.1 - 2000)))) + bt209.2.1)) - 1)))) = some r := H
  have A2 := Aside0.mk A20
  clear A20
  replace H := Option.bind_eq_some_iff.mp H
  obtain ⟨⟨t209, t210, t211⟩, A30, H⟩ := H
  replace H : (some (wrap64 ((wrap64 ((wrap64 (12 * (wrap64 (t209 - 2000)))) + t210)) - 1))) = some r := H
  have A3 := Aside0.mk A30
  clear A30
  obtain rfl := Option.some.inj H
  go_enter Try.func20, Try.ntmps20
  go_wp2_with (first | ((with_reducible refine gate_callee (f := 17) rfl ?_); refine goesL_ (some 8) rfl rfl Try.func17 (by kernel_rfl) rfl #[.int .i64 a0] rfl (by (try simp only [List.map_toArray, List.map_cons, List.map_nil]); first | done | rfl | (simp only [List.length_drop, List.length_take]; rfl)) ?_; (with_reducible refine (hibernacleref48_Day.calls a0 t208 _ A2.out).mono ?_); rintro e w' ⟨rfl, ⟨nd, rfl⟩⟩; refine ⟨_, rfl, ?_⟩) | ((with_reducible refine gate_callee (f := 26) rfl ?_); refine goesL_ (some 9) rfl rfl Try.func26 (by kernel_rfl) rfl #[.int .i64 t208] rfl (by (try simp only [List.map_toArray, List.map_cons, List.map_nil]); first | done | rfl | (simp only [List.length_drop, List.length_take]; rfl)) ?_; (with_reducible refine (hibernacleref48_date.calls k t208 t209 t210 t211 _ A3.out).mono ?_); rintro e w' ⟨rfl, ⟨nd, rfl⟩⟩; refine ⟨_, rfl, ?_⟩))
  go_ret
  exact ⟨by first | rfl | (simp; done) | (simp [*]; done), by repeat (first | exact Drawn0.refl _ | apply Drawn0.step)⟩

/-! ### day_Year: function 21 -/
def day_Year.f (k : Nat) (a0 : Int) : Option (Int) := (day_Day.f a0).bind fun t212 => ((day_date.f k t212).bind fun bt213 => (some bt213.1))
theorem day_Year.mono : ∀ a0 k, LeO (day_Year.f k a0) (day_Year.f (k + 1) a0) := by
  intro a0 k
  unfold day_Year.f
  repeat' first
      | (with_reducible exact day_date.mono _ _)
      | (with_reducible exact LeO.refl _)
      | (with_reducible exact LeO.none _)
      | (with_reducible refine LeO.ite ?_ ?_)
      | (with_reducible refine LeO.bind ?_ (fun _ => ?_))
      | exact day_date.mono _ _
      | exact LeO.none _
      | refine LeO.ite ?_ ?_
      | refine LeO.bind ?_ (fun _ => ?_)
set_option maxHeartbeats 8000000 in
set_option maxRecDepth 100000 in
theorem day_Year.calls (k : Nat) (a0 : Int) (r : Int) (w : World) (h : day_Year.f k a0 = some r) :
    Calls Try.prog 21 #[.int .i64 a0] w fun e w' => e = .returned (.int .i64 r) ∧ Below w.heap.size w w' := by
  have HB := Aside0.mk (Below.refl w.heap.size w)
  have H : ((day_Day.f a0).bind fun t212 => ((day_date.f k t212).bind fun bt213 => (some bt213.1))) = some r := h
  clear h
  replace H := Option.bind_eq_some_iff.mp H
  obtain ⟨t212, A20, H⟩ := H
  replace H : ((day_date.f k t212).bind fun bt213 => (some bt213.1)) = some r := H
  have A2 := Aside0.mk A20
  clear A20
  replace H := Option.bind_eq_some_iff.mp H
  obtain ⟨⟨t213, t214, t215⟩, A30, H⟩ := H
  replace H : (some t213) = some r := H
  have A3 := Aside0.mk A30
  clear A30
  obtain rfl := Option.some.inj H
  go_enter Try.func21, Try.ntmps21
  go_wp2_with (first | ((with_reducible refine gate_callee (f := 15) rfl ?_); refine goesL_ (some 8) rfl rfl Try.func15 (by kernel_rfl) rfl #[.int .i64 a0] rfl (by (try simp only [List.map_toArray, List.map_cons, List.map_nil]); first | done | rfl | (simp only [List.length_drop, List.length_take]; rfl)) ?_; (with_reducible refine (day_Day.calls a0 t212 _ A2.out).mono ?_); rintro e w' ⟨rfl, ⟨nd, rfl⟩⟩; refine ⟨_, rfl, ?_⟩) | ((with_reducible refine gate_callee (f := 23) rfl ?_); refine goesL_ (some 9) rfl rfl Try.func23 (by kernel_rfl) rfl #[.int .i64 t212] rfl (by (try simp only [List.map_toArray, List.map_cons, List.map_nil]); first | done | rfl | (simp only [List.length_drop, List.length_take]; rfl)) ?_; (with_reducible refine (day_date.calls k t212 t213 t214 t215 _ A3.out).mono ?_); rintro e w4 ⟨rfl, hb⟩; refine ⟨_, rfl, ?_⟩; have n0_ := Aside0.mk (below_step (by repeat (first | (with_reducible first | exact HB.out | apply below_alloc | apply pw_below_drewN | apply below_drew1) | exact HB.out)) hb); clear HB; have HB := n0_; clear n0_; (try clear hb); (try clear hb2); (try clear hk); (try clear hi)))
  go_ret
  exact ⟨by first | rfl | (simp [errW_none, errW_some] <;> rfl) | (simp [*, errW_none, errW_some] <;> rfl), by repeat (first | (with_reducible first | exact HB.out | apply below_alloc | apply pw_below_drewN | apply below_drew1) | exact HB.out)⟩

/-! ### hibernacleref48_Year: function 22 -/
def hibernacleref48_Year.f (k : Nat) (a0 : Int) : Option (Int) := (hibernacleref48_Day.f a0).bind fun t216 => ((hibernacleref48_date.f k t216).bind fun bt217 => (some bt217.1))
theorem hibernacleref48_Year.mono : ∀ a0 k, LeO (hibernacleref48_Year.f k a0) (hibernacleref48_Year.f (k + 1) a0) := by
  intro a0 k
  unfold hibernacleref48_Year.f
  repeat' first
      | (with_reducible exact hibernacleref48_date.mono _ _)
      | (with_reducible exact LeO.refl _)
      | (with_reducible exact LeO.none _)
      | (with_reducible refine LeO.ite ?_ ?_)
      | (with_reducible refine LeO.bind ?_ (fun _ => ?_))
      | exact hibernacleref48_date.mono _ _
      | exact LeO.none _
      | refine LeO.ite ?_ ?_
      | refine LeO.bind ?_ (fun _ => ?_)
set_option maxHeartbeats 8000000 in
set_option maxRecDepth 100000 in
theorem hibernacleref48_Year.calls (k : Nat) (a0 : Int) (r : Int) (w : World) (h : hibernacleref48_Year.f k a0 = some r) :
    Calls Try.prog 22 #[.int .i64 a0] w fun e w' => e = .returned (.int .i64 r) ∧ Drawn0 w w' := by
  have H : ((hibernacleref48_Day.f a0).bind fun t216 => ((hibernacleref48_date.f k t216).bind fun bt217 => (some bt217.1))) = some r := h
  clear h
  replace H := Option.bind_eq_some_iff.mp H
  obtain ⟨t216, A20, H⟩ := H
  replace H : ((hibernacleref48_date.f k t216).bind fun bt217 => (some bt217.1)) = some r := H
  have A2 := Aside0.mk A20
  clear A20
  replace H := Option.bind_eq_some_iff.mp H
  obtain ⟨⟨t217, t218, t219⟩, A30, H⟩ := H
  replace H : (some t217) = some r := H
  have A3 := Aside0.mk A30
  clear A30
  obtain rfl := Option.some.inj H
  go_enter Try.func22, Try.ntmps22
  go_wp2_with (first | ((with_reducible refine gate_callee (f := 17) rfl ?_); refine goesL_ (some 8) rfl rfl Try.func17 (by kernel_rfl) rfl #[.int .i64 a0] rfl (by (try simp only [List.map_toArray, List.map_cons, List.map_nil]); first | done | rfl | (simp only [List.length_drop, List.length_take]; rfl)) ?_; (with_reducible refine (hibernacleref48_Day.calls a0 t216 _ A2.out).mono ?_); rintro e w' ⟨rfl, ⟨nd, rfl⟩⟩; refine ⟨_, rfl, ?_⟩) | ((with_reducible refine gate_callee (f := 26) rfl ?_); refine goesL_ (some 9) rfl rfl Try.func26 (by kernel_rfl) rfl #[.int .i64 t216] rfl (by (try simp only [List.map_toArray, List.map_cons, List.map_nil]); first | done | rfl | (simp only [List.length_drop, List.length_take]; rfl)) ?_; (with_reducible refine (hibernacleref48_date.calls k t216 t217 t218 t219 _ A3.out).mono ?_); rintro e w' ⟨rfl, ⟨nd, rfl⟩⟩; refine ⟨_, rfl, ?_⟩))
  go_ret
  exact ⟨by first | rfl | (simp; done) | (simp [*]; done), by repeat (first | exact Drawn0.refl _ | apply Drawn0.step)⟩

/-! ### hibernaclelaw48_DayCounts: function 6 -/
def hibernaclelaw48_DayCounts.f (k : Nat) (a0 : Int) : Option (Bool) := (day_Day.f a0).bind fun t220 => ((hibernacleref48_Day.f a0).bind fun t221 => (if t220 = t221 then ((day_Week.f a0).bind fun t222 => ((hibernacleref48_Week.f a0).bind fun t223 => (if t222 = t223 then ((day_Month.f k a0).bind fun t224 => ((hibernacleref48_Month.f k a0).bind fun t225 => (if t224 = t225 then ((day_Year.f k a0).bind fun t226 => ((hibernacleref48_Year.f k a0).bind fun t227 => (if t226 = t227 then ((hibernaclelaw48_awake.f k).bind fun t228 => (some t228)) else (some false)))) else (some false)))) else (some false)))) else (some false)))
theorem hibernaclelaw48_DayCounts.mono : ∀ a0 k, LeO (hibernaclelaw48_DayCounts.f k a0) (hibernaclelaw48_DayCounts.f (k + 1) a0) := by
  intro a0 k
  unfold hibernaclelaw48_DayCounts.f
  repeat' first
      | (with_reducible exact day_Month.mono _ _)
      | (with_reducible exact day_Year.mono _ _)
      | (with_reducible exact hibernaclelaw48_awake.mono _)
      | (with_reducible exact hibernacleref48_Month.mono _ _)
      | (with_reducible exact hibernacleref48_Year.mono _ _)
      | (with_reducible exact LeO.refl _)
      | (with_reducible exact LeO.none _)
      | (with_reducible refine LeO.ite ?_ ?_)
      | (with_reducible refine LeO.bind ?_ (fun _ => ?_))
      | exact day_Month.mono _ _
      | exact day_Year.mono _ _
      | exact hibernaclelaw48_awake.mono _
      | exact hibernacleref48_Month.mono _ _
      | exact hibernacleref48_Year.mono _ _
      | exact LeO.none _
      | refine LeO.ite ?_ ?_
      | refine LeO.bind ?_ (fun _ => ?_)
set_option maxHeartbeats 8000000 in
set_option maxRecDepth 100000 in
theorem hibernaclelaw48_DayCounts.calls (k : Nat) (a0 : Int) (r : Bool) (w : World) (h : hibernaclelaw48_DayCounts.f k a0 = some r) :
    Calls Try.prog 6 #[.int .i64 a0] w fun e w' => e = .returned (.bool r) ∧ Below w.heap.size w w' := by
  have HB := Aside0.mk (Below.refl w.heap.size w)
  have H : ((day_Day.f a0).bind fun t220 => ((hibernacleref48_Day.f a0).bind fun t221 => (if t220 = t221 then ((day_Week.f a0).bind fun t222 => ((hibernacleref48_Week.f a0).bind fun t223 => (if t222 = t223 then ((day_Month.f k a0).bind fun t224 => ((hibernacleref48_Month.f k a0).bind fun t225 => (if t224 = t225 then ((day_Year.f k a0).bind fun t226 => ((hibernacleref48_Year.f k a0).bind fun t227 => (if t226 = t227 then ((hibernaclelaw48_awake.f k).bind fun t228 => (some t228)) else (some false)))) else (some false)))) else (some false)))) else (some false)))) = some r := h
  clear h
  replace H := Option.bind_eq_some_iff.mp H
  obtain ⟨t220, A20, H⟩ := H
  replace H : ((hibernacleref48_Day.f a0).bind fun t221 => (if t220 = t221 then ((day_Week.f a0).bind fun t222 => ((hibernacleref48_Week.f a0).bind fun t223 => (if t222 = t223 then ((day_Month.f k a0).bind fun t224 => ((hibernacleref48_Month.f k a0).bind fun t225 => (if t224 = t225 then ((day_Year.f k a0).bind fun t226 => ((hibernacleref48_Year.f k a0).bind fun t227 => (if t226 = t227 then ((hibernaclelaw48_awake.f k).bind fun t228 => (some t228)) else (some false)))) else (some false)))) else (some false)))) else (some false))) = some r := H
  have A2 := Aside0.mk A20
  clear A20
  replace H := Option.bind_eq_some_iff.mp H
  obtain ⟨t221, A30, H⟩ := H
  replace H : (if t220 = t221 then ((day_Week.f a0).bind fun t222 => ((hibernacleref48_Week.f a0).bind fun t223 => (if t222 = t223 then ((day_Month.f k a0).bind fun t224 => ((hibernacleref48_Month.f k a0).bind fun t225 => (if t224 = t225 then ((day_Year.f k a0).bind fun t226 => ((hibernacleref48_Year.f k a0).bind fun t227 => (if t226 = t227 then ((hibernaclelaw48_awake.f k).bind fun t228 => (some t228)) else (some false)))) else (some false)))) else (some false)))) else (some false)) = some r := H
  have A3 := Aside0.mk A30
  clear A30
  by_cases c4 : t220 = t221
  · rw [if_pos c4] at H
    have c4b0 : (t220 == t221) = true := beq_iff_eq.mpr c4
    have c4b1 : (t220 != t221) = false := bne_eq_false_iff_eq.mpr c4
    clear c4
    replace H := Option.bind_eq_some_iff.mp H
    obtain ⟨t222, A50, H⟩ := H
    replace H : ((hibernacleref48_Week.f a0).bind fun t223 => (if t222 = t223 then ((day_Month.f k a0).bind fun t224 => ((hibernacleref48_Month.f k a0).bind fun t225 => (if t224 = t225 then ((day_Year.f k a0).bind fun t226 => ((hibernacleref48_Year.f k a0).bind fun t227 => (if t226 = t227 then ((hibernaclelaw48_awake.f k).bind fun t228 => (some t228)) else (some false)))) else (some false)))) else (some false))) = some r := H
    have A5 := Aside0.mk A50
    clear A50
    replace H := Option.bind_eq_some_iff.mp H
    obtain ⟨t223, A60, H⟩ := H
    replace H : (if t222 = t223 then ((day_Month.f k a0).bind fun t224 => ((hibernacleref48_Month.f k a0).bind fun t225 => (if t224 = t225 then ((day_Year.f k a0).bind fun t226 => ((hibernacleref48_Year.f k a0).bind fun t227 => (if t226 = t227 then ((hibernaclelaw48_awake.f k).bind fun t228 => (some t228)) else (some false)))) else (some false)))) else (some false)) = some r := H
    have A6 := Aside0.mk A60
    clear A60
    by_cases c7 : t222 = t223
    · rw [if_pos c7] at H
      have c7b0 : (t222 == t223) = true := beq_iff_eq.mpr c7
      have c7b1 : (t222 != t223) = false := bne_eq_false_iff_eq.mpr c7
      clear c7
      replace H := Option.bind_eq_some_iff.mp H
      obtain ⟨t224, A80, H⟩ := H
      replace H : ((hibernacleref48_Month.f k a0).bind fun t225 => (if t224 = t225 then ((day_Year.f k a0).bind fun t226 => ((hibernacleref48_Year.f k a0).bind fun t227 => (if t226 = t227 then ((hibernaclelaw48_awake.f k).bind fun t228 => (some t228)) else (some false)))) else (some false))) = some r := H
      have A8 := Aside0.mk A80
      clear A80
      replace H := Option.bind_eq_some_iff.mp H
      obtain ⟨t225, A90, H⟩ := H
      replace H : (if t224 = t225 then ((day_Year.f k a0).bind fun t226 => ((hibernacleref48_Year.f k a0).bind fun t227 => (if t226 = t227 then ((hibernaclelaw48_awake.f k).bind fun t228 => (some t228)) else (some false)))) else (some false)) = some r := H
      have A9 := Aside0.mk A90
      clear A90
      by_cases c10 : t224 = t225
      · rw [if_pos c10] at H
        have c10b0 : (t224 == t225) = true := beq_iff_eq.mpr c10
        have c10b1 : (t224 != t225) = false := bne_eq_false_iff_eq.mpr c10
        clear c10
        replace H := Option.bind_eq_some_iff.mp H
        obtain ⟨t226, A110, H⟩ := H
        replace H : ((hibernacleref48_Year.f k a0).bind fun t227 => (if t226 = t227 then ((hibernaclelaw48_awake.f k).bind fun t228 => (some t228)) else (some false))) = some r := H
        have A11 := Aside0.mk A110
        clear A110
        replace H := Option.bind_eq_some_iff.mp H
        obtain ⟨t227, A120, H⟩ := H
        replace H : (if t226 = t227 then ((hibernaclelaw48_awake.f k).bind fun t228 => (some t228)) else (some false)) = some r := H
        have A12 := Aside0.mk A120
        clear A120
        by_cases c13 : t226 = t227
        · rw [if_pos c13] at H
          have c13b0 : (t226 == t227) = true := beq_iff_eq.mpr c13
          have c13b1 : (t226 != t227) = false := bne_eq_false_iff_eq.mpr c13
          clear c13
          replace H := Option.bind_eq_some_iff.mp H
          obtain ⟨t228, A140, H⟩ := H
          replace H : (some t228) = some r := H
          have A14 := Aside0.mk A140
          clear A140
          obtain rfl := Option.some.inj H
          go_enter Try.func6, Try.ntmps6
          go_wp2_with (first | ((with_reducible refine gate_callee (f := 15) rfl ?_); refine goesL_ (some 4) rfl rfl Try.func15 (by kernel_rfl) rfl #[.int .i64 a0] rfl (by (try simp only [List.map_toArray, List.map_cons, List.map_nil]); first | done | rfl | (simp only [List.length_drop, List.length_take]; rfl)) ?_; (with_reducible refine (day_Day.calls a0 t220 _ A2.out).mono ?_); rintro e w' ⟨rfl, ⟨nd, rfl⟩⟩; refine ⟨_, rfl, ?_⟩) | ((with_reducible refine gate_callee (f := 17) rfl ?_); refine goesL_ (some 6) rfl rfl Try.func17 (by kernel_rfl) rfl #[.int .i64 a0] rfl (by (try simp only [List.map_toArray, List.map_cons, List.map_nil]); first | done | rfl | (simp only [List.length_drop, List.length_take]; rfl)) ?_; (with_reducible refine (hibernacleref48_Day.calls a0 t221 _ A3.out).mono ?_); rintro e w' ⟨rfl, ⟨nd, rfl⟩⟩; refine ⟨_, rfl, ?_⟩) | (go_at_call 16; (with_reducible refine (day_Week.calls a0 t222 _ A5.out).mono ?_); rintro e w' ⟨rfl, ⟨nd, rfl⟩⟩) | (go_at_call 18; (with_reducible refine (hibernacleref48_Week.calls a0 t223 _ A6.out).mono ?_); rintro e w' ⟨rfl, ⟨nd, rfl⟩⟩) | (go_at_call 19; (with_reducible refine (day_Month.calls k a0 t224 _ A8.out).mono ?_); rintro e w15 ⟨rfl, hb⟩; have n0_ := Aside0.mk (below_step (by repeat (first | (with_reducible first | exact HB.out | apply below_alloc | apply pw_below_drewN | apply below_drew1) | exact HB.out)) hb); clear HB; have HB := n0_; clear n0_; (try clear hb); (try clear hb2); (try clear hk); (try clear hi)) | (go_at_call 20; (with_reducible refine (hibernacleref48_Month.calls k a0 t225 _ A9.out).mono ?_); rintro e w' ⟨rfl, ⟨nd, rfl⟩⟩) | (go_at_call 21; (with_reducible refine (day_Year.calls k a0 t226 _ A11.out).mono ?_); rintro e w16 ⟨rfl, hb⟩; have n0_ := Aside0.mk (below_step (by repeat (first | (with_reducible first | exact HB.out | apply below_alloc | apply pw_below_drewN | apply below_drew1) | exact HB.out)) hb); clear HB; have HB := n0_; clear n0_; (try clear hb); (try clear hb2); (try clear hk); (try clear hi)) | (go_at_call 22; (with_reducible refine (hibernacleref48_Year.calls k a0 t227 _ A12.out).mono ?_); rintro e w' ⟨rfl, ⟨nd, rfl⟩⟩) | (go_at_call 13; (with_reducible refine (hibernaclelaw48_awake.calls k  t228 _ A14.out).mono ?_); rintro e w17 ⟨rfl, hb⟩; have n0_ := Aside0.mk (below_step (by repeat (first | (with_reducible first | exact HB.out | apply below_alloc | apply pw_below_drewN | apply below_drew1) | exact HB.out)) hb); clear HB; have HB := n0_; clear n0_; (try clear hb); (try clear hb2); (try clear hk); (try clear hi)))
          go_ret
          exact ⟨by first | rfl | (simp [errW_none, errW_some] <;> rfl) | (simp [*, errW_none, errW_some] <;> rfl), by repeat (first | (with_reducible first | exact HB.out | apply below_alloc | apply pw_below_drewN | apply below_drew1) | exact HB.out)⟩
        · rw [if_neg c13] at H
          have c13b0 : (t226 == t227) = false := beq_eq_false_iff_ne.mpr c13
          have c13b1 : (t226 != t227) = true := bne_iff_ne.mpr c13
          obtain rfl := Option.some.inj H
          go_enter Try.func6, Try.ntmps6
          go_wp2_with (first | ((with_reducible refine gate_callee (f := 15) rfl ?_); refine goesL_ (some 4) rfl rfl Try.func15 (by kernel_rfl) rfl #[.int .i64 a0] rfl (by (try simp only [List.map_toArray, List.map_cons, List.map_nil]); first | done | rfl | (simp only [List.length_drop, List.length_take]; rfl)) ?_; (with_reducible refine (day_Day.calls a0 t220 _ A2.out).mono ?_); rintro e w' ⟨rfl, ⟨nd, rfl⟩⟩; refine ⟨_, rfl, ?_⟩) | ((with_reducible refine gate_callee (f := 17) rfl ?_); refine goesL_ (some 6) rfl rfl Try.func17 (by kernel_rfl) rfl #[.int .i64 a0] rfl (by (try simp only [List.map_toArray, List.map_cons, List.map_nil]); first | done | rfl | (simp only [List.length_drop, List.length_take]; rfl)) ?_; (with_reducible refine (hibernacleref48_Day.calls a0 t221 _ A3.out).mono ?_); rintro e w' ⟨rfl, ⟨nd, rfl⟩⟩; refine ⟨_, rfl, ?_⟩) | (go_at_call 16; (with_reducible refine (day_Week.calls a0 t222 _ A5.out).mono ?_); rintro e w' ⟨rfl, ⟨nd, rfl⟩⟩) | (go_at_call 18; (with_reducible refine (hibernacleref48_Week.calls a0 t223 _ A6.out).mono ?_); rintro e w' ⟨rfl, ⟨nd, rfl⟩⟩) | (go_at_call 19; (with_reducible refine (day_Month.calls k a0 t224 _ A8.out).mono ?_); rintro e w18 ⟨rfl, hb⟩; have n0_ := Aside0.mk (below_step (by repeat (first | (with_reducible first | exact HB.out | apply below_alloc | apply pw_below_drewN | apply below_drew1) | exact HB.out)) hb); clear HB; have HB := n0_; clear n0_; (try clear hb); (try clear hb2); (try clear hk); (try clear hi)) | (go_at_call 20; (with_reducible refine (hibernacleref48_Month.calls k a0 t225 _ A9.out).mono ?_); rintro e w' ⟨rfl, ⟨nd, rfl⟩⟩) | (go_at_call 21; (with_reducible refine (day_Year.calls k a0 t226 _ A11.out).mono ?_); rintro e w19 ⟨rfl, hb⟩; have n0_ := Aside0.mk (below_step (by repeat (first | (with_reducible first | exact HB.out | apply below_alloc | apply pw_below_drewN | apply below_drew1) | exact HB.out)) hb); clear HB; have HB := n0_; clear n0_; (try clear hb); (try clear hb2); (try clear hk); (try clear hi)) | (go_at_call 22; (with_reducible refine (hibernacleref48_Year.calls k a0 t227 _ A12.out).mono ?_); rintro e w' ⟨rfl, ⟨nd, rfl⟩⟩))
          go_ret
          exact ⟨by first | rfl | (simp [errW_none, errW_some] <;> rfl) | (simp [*, errW_none, errW_some] <;> rfl), by repeat (first | (with_reducible first | exact HB.out | apply below_alloc | apply pw_below_drewN | apply below_drew1) | exact HB.out)⟩
      · rw [if_neg c10] at H
        have c10b0 : (t224 == t225) = false := beq_eq_false_iff_ne.mpr c10
        have c10b1 : (t224 != t225) = true := bne_iff_ne.mpr c10
        obtain rfl := Option.some.inj H
        go_enter Try.func6, Try.ntmps6
        go_wp2_with (first | ((with_reducible refine gate_callee (f := 15) rfl ?_); refine goesL_ (some 4) rfl rfl Try.func15 (by kernel_rfl) rfl #[.int .i64 a0] rfl (by (try simp only [List.map_toArray, List.map_cons, List.map_nil]); first | done | rfl | (simp only [List.length_drop, List.length_take]; rfl)) ?_; (with_reducible refine (day_Day.calls a0 t220 _ A2.out).mono ?_); rintro e w' ⟨rfl, ⟨nd, rfl⟩⟩; refine ⟨_, rfl, ?_⟩) | ((with_reducible refine gate_callee (f := 17) rfl ?_); refine goesL_ (some 6) rfl rfl Try.func17 (by kernel_rfl) rfl #[.int .i64 a0] rfl (by (try simp only [List.map_toArray, List.map_cons, List.map_nil]); first | done | rfl | (simp only [List.length_drop, List.length_take]; rfl)) ?_; (with_reducible refine (hibernacleref48_Day.calls a0 t221 _ A3.out).mono ?_); rintro e w' ⟨rfl, ⟨nd, rfl⟩⟩; refine ⟨_, rfl, ?_⟩) | (go_at_call 16; (with_reducible refine (day_Week.calls a0 t222 _ A5.out).mono ?_); rintro e w' ⟨rfl, ⟨nd, rfl⟩⟩) | (go_at_call 18; (with_reducible refine (hibernacleref48_Week.calls a0 t223 _ A6.out).mono ?_); rintro e w' ⟨rfl, ⟨nd, rfl⟩⟩) | (go_at_call 19; (with_reducible refine (day_Month.calls k a0 t224 _ A8.out).mono ?_); rintro e w20 ⟨rfl, hb⟩; have n0_ := Aside0.mk (below_step (by repeat (first | (with_reducible first | exact HB.out | apply below_alloc | apply pw_below_drewN | apply below_drew1) | exact HB.out)) hb); clear HB; have HB := n0_; clear n0_; (try clear hb); (try clear hb2); (try clear hk); (try clear hi)) | (go_at_call 20; (with_reducible refine (hibernacleref48_Month.calls k a0 t225 _ A9.out).mono ?_); rintro e w' ⟨rfl, ⟨nd, rfl⟩⟩))
        go_ret
        exact ⟨by first | rfl | (simp [errW_none, errW_some] <;> rfl) | (simp [*, errW_none, errW_some] <;> rfl), by repeat (first | (with_reducible first | exact HB.out | apply below_alloc | apply pw_below_drewN | apply below_drew1) | exact HB.out)⟩
    · rw [if_neg c7] at H
      have c7b0 : (t222 == t223) = false := beq_eq_false_iff_ne.mpr c7
      have c7b1 : (t222 != t223) = true := bne_iff_ne.mpr c7
      obtain rfl := Option.some.inj H
      go_enter Try.func6, Try.ntmps6
      go_wp2_with (first | ((with_reducible refine gate_callee (f := 15) rfl ?_); refine goesL_ (some 4) rfl rfl Try.func15 (by kernel_rfl) rfl #[.int .i64 a0] rfl (by (try simp only [List.map_toArray, List.map_cons, List.map_nil]); first | done | rfl | (simp only [List.length_drop, List.length_take]; rfl)) ?_; (with_reducible refine (day_Day.calls a0 t220 _ A2.out).mono ?_); rintro e w' ⟨rfl, ⟨nd, rfl⟩⟩; refine ⟨_, rfl, ?_⟩) | ((with_reducible refine gate_callee (f := 17) rfl ?_); refine goesL_ (some 6) rfl rfl Try.func17 (by kernel_rfl) rfl #[.int .i64 a0] rfl (by (try simp only [List.map_toArray, List.map_cons, List.map_nil]); first | done | rfl | (simp only [List.length_drop, List.length_take]; rfl)) ?_; (with_reducible refine (hibernacleref48_Day.calls a0 t221 _ A3.out).mono ?_); rintro e w' ⟨rfl, ⟨nd, rfl⟩⟩; refine ⟨_, rfl, ?_⟩) | (go_at_call 16; (with_reducible refine (day_Week.calls a0 t222 _ A5.out).mono ?_); rintro e w' ⟨rfl, ⟨nd, rfl⟩⟩) | (go_at_call 18; (with_reducible refine (hibernacleref48_Week.calls a0 t223 _ A6.out).mono ?_); rintro e w' ⟨rfl, ⟨nd, rfl⟩⟩))
      go_ret
      exact ⟨by first | rfl | (simp [errW_none, errW_some] <;> rfl) | (simp [*, errW_none, errW_some] <;> rfl), by repeat (first | (with_reducible first | exact HB.out | apply below_alloc | apply pw_below_drewN | apply below_drew1) | exact HB.out)⟩
  · rw [if_neg c4] at H
    have c4b0 : (t220 == t221) = false := beq_eq_false_iff_ne.mpr c4
    have c4b1 : (t220 != t221) = true := bne_iff_ne.mpr c4
    obtain rfl := Option.some.inj H
    go_enter Try.func6, Try.ntmps6
    go_wp2_with (first | ((with_reducible refine gate_callee (f := 15) rfl ?_); refine goesL_ (some 4) rfl rfl Try.func15 (by kernel_rfl) rfl #[.int .i64 a0] rfl (by (try simp only [List.map_toArray, List.map_cons, List.map_nil]); first | done | rfl | (simp only [List.length_drop, List.length_take]; rfl)) ?_; (with_reducible refine (day_Day.calls a0 t220 _ A2.out).mono ?_); rintro e w' ⟨rfl, ⟨nd, rfl⟩⟩; refine ⟨_, rfl, ?_⟩) | ((with_reducible refine gate_callee (f := 17) rfl ?_); refine goesL_ (some 6) rfl rfl Try.func17 (by kernel_rfl) rfl #[.int .i64 a0] rfl (by (try simp only [List.map_toArray, List.map_cons, List.map_nil]); first | done | rfl | (simp only [List.length_drop, List.length_take]; rfl)) ?_; (with_reducible refine (hibernacleref48_Day.calls a0 t221 _ A3.out).mono ?_); rintro e w' ⟨rfl, ⟨nd, rfl⟩⟩; refine ⟨_, rfl, ?_⟩))
    go_ret
    exact ⟨by first | rfl | (simp [errW_none, errW_some] <;> rfl) | (simp [*, errW_none, errW_some] <;> rfl), by repeat (first | (with_reducible first | exact HB.out | apply below_alloc | apply pw_below_drewN | apply below_drew1) | exact HB.out)⟩

/-- THE ONE PURE STATEMENT of hibernaclelaw48_DayCounts: yours. -/
def hibernaclelaw48_DayCounts.Pure : Prop := ∀ (a0 : Int), (Lit.int .i64 a0).wf = true → ∃ k, hibernaclelaw48_DayCounts.f k a0 = some true
theorem hibernaclelaw48_DayCounts.walk (P : hibernaclelaw48_DayCounts.Pure) (a0 : Int) (w : World) (w0 : (Lit.int .i64 a0).wf = true) :
    Calls Try.prog 6 #[.int .i64 a0] w fun e w' => e = .returned (.bool true) ∧ Below w.heap.size w w' := by
  obtain ⟨k, h⟩ := P a0 w0
  refine (hibernaclelaw48_DayCounts.calls k a0 true w h).mono ?_
  rintro e w' ⟨rfl, hd⟩
  exact ⟨rfl, hd⟩

end Go.Proofs.Ytnanhempikhknaa.D
