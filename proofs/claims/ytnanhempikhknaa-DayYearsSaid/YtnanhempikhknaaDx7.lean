-- Made by wip/hp/hp.py (the kit's print, with functions proved by hand put in).
import Derived.Test.YtnanhempikhknaaDx0
import Derived.Test.YtnanhempikhknaaDx1
import Derived.Test.YtnanhempikhknaaDx4
import Derived.Test.YtnanhempikhknaaDx6
import Derived.WalkLawsBesides
namespace Go.Proofs.Ytnanhempikhknaa.D
open Go.RowKit Go.Proofs.YtnanhempikhknaaW.PrintWords Go.Proofs.YtnanhempikhknaaW.PrintLast Go.Proofs.YtnanhempikhknaaW.PrintMore
attribute [local go_sem] max2_int min2_int max_two min_two max_three min_three max_four min_four   -- for this text's walks alone
set_option linter.unusedVariables false
set_option linter.unusedSimpArgs false

/-! ### hibernaclelaw48_DayRises: function 7 -/
def hibernaclelaw48_DayRises.j0 : Nat → Int → Int → Bool → Option (Bool)
  | 0, _, _, _ => none
  | k + 1, x0, x1, x25 => if x25 = true then (some false) else ((day_Day.f x0).bind fun t232 => ((day_Day.f x1).bind fun t233 => (if t232 ≤ t233 then ((day_Week.f x0).bind fun t234 => ((day_Week.f x1).bind fun t235 => (if t234 ≤ t235 then ((day_Month.f k x0).bind fun t236 => ((day_Month.f k x1).bind fun t237 => (if t236 ≤ t237 then ((day_Year.f k x0).bind fun t238 => ((day_Year.f k x1).bind fun t239 => (if t238 ≤ t239 then ((hibernaclelaw48_awake.f k).bind fun t240 => (some t240)) else (some false)))) else (some false)))) else (some false)))) else (some false))))
def hibernaclelaw48_DayRises.f (k : Nat) (a0 : Int) (a1 : Int) : Option (Bool) := if a0 > a1 then ((hibernaclelaw48_awake.f k).bind fun t229 => (some t229)) else ((day_Text.f k a0).bind fun t230 => ((day_Text.f k a1).bind fun t231 => (if t230.toList = ([] : List UInt8) then (hibernaclelaw48_DayRises.j0 k a0 a1 false) else (if t231.toList = ([] : List UInt8) then (hibernaclelaw48_DayRises.j0 k a0 a1 false) else (hibernaclelaw48_DayRises.j0 k a0 a1 (Op.bytesLess t231.toList t230.toList))))))
theorem hibernaclelaw48_DayRises.mono_l : ∀ k, (∀ y0 y1 y2, LeO (hibernaclelaw48_DayRises.j0 k y0 y1 y2) (hibernaclelaw48_DayRises.j0 (k + 1) y0 y1 y2))
  | 0 => fun _ _ _ r h => by simp [hibernaclelaw48_DayRises.j0] at h
  | k + 1 => by
    have ih0 := hibernaclelaw48_DayRises.mono_l k
    · intro y0 y1 y2
      unfold hibernaclelaw48_DayRises.j0
      repeat' first
      | (with_reducible exact ih0 _ _ _)
      | (with_reducible exact day_Month.mono _ _)
      | (with_reducible exact day_Text.mono _ _)
      | (with_reducible exact day_Year.mono _ _)
      | (with_reducible exact hibernaclelaw48_awake.mono _)
      | (with_reducible exact LeO.refl _)
      | (with_reducible exact LeO.none _)
      | (with_reducible refine LeO.ite ?_ ?_)
      | (with_reducible refine LeO.bind ?_ (fun _ => ?_))
      | exact ih0 _ _ _
      | exact day_Month.mono _ _
      | exact day_Text.mono _ _
      | exact day_Year.mono _ _
      | exact hibernaclelaw48_awake.mono _
      | exact LeO.none _
      | refine LeO.ite ?_ ?_
      | refine LeO.bind ?_ (fun _ => ?_)
theorem hibernaclelaw48_DayRises.mono : ∀ a0 a1 k, LeO (hibernaclelaw48_DayRises.f k a0 a1) (hibernaclelaw48_DayRises.f (k + 1) a0 a1) := by
  intro a0 a1 k
  have ih0 := hibernaclelaw48_DayRises.mono_l k
  unfold hibernaclelaw48_DayRises.f
  repeat' first
      | (with_reducible exact ih0 _ _ _)
      | (with_reducible exact day_Month.mono _ _)
      | (with_reducible exact day_Text.mono _ _)
      | (with_reducible exact day_Year.mono _ _)
      | (with_reducible exact hibernaclelaw48_awake.mono _)
      | (with_reducible exact LeO.refl _)
      | (with_reducible exact LeO.none _)
      | (with_reducible refine LeO.ite ?_ ?_)
      | (with_reducible refine LeO.bind ?_ (fun _ => ?_))
      | exact ih0 _ _ _
      | exact day_Month.mono _ _
      | exact day_Text.mono _ _
      | exact day_Year.mono _ _
      | exact hibernaclelaw48_awake.mono _
      | exact LeO.none _
      | refine LeO.ite ?_ ?_
      | refine LeO.bind ?_ (fun _ => ?_)
theorem hibernaclelaw48_DayRises.gtr_ : ∀ (x y : List UInt8), (!(Op.bytesLess x y || x == y)) = Op.bytesLess y x
  | [], [] => by simp [Op.bytesLess]
  | _ :: _, [] => by simp [Op.bytesLess]
  | [], _ :: _ => by simp [Op.bytesLess]
  | a :: x, b :: y => by
    have ih := hibernaclelaw48_DayRises.gtr_ x y
    rcases UInt8.lt_or_lt_of_ne (a := a) (b := b) with h
    by_cases e : a = b
    · subst e
      have hn : ¬ a < a := by simp
      simp only [Op.bytesLess, hn, decide_false, Bool.false_or, beq_self_eq_true, Bool.true_and, List.cons_beq_cons]
      exact ih
    · have e1 : (a == b) = false := beq_eq_false_iff_ne.mpr e
      have e2 : (b == a) = false := beq_eq_false_iff_ne.mpr (fun h => e h.symm)
      simp only [Op.bytesLess, e1, e2, Bool.false_and, Bool.or_false, List.cons_beq_cons]
      rcases h e with h | h
      · have : ¬ b < a := by simp [UInt8.lt_iff_toNat_lt] at *; omega
        simp [h, this]
      · have : ¬ a < b := by simp [UInt8.lt_iff_toNat_lt] at *; omega
        simp [h, this]
set_option maxHeartbeats 8000000 in
set_option maxRecDepth 100000 in
theorem hibernaclelaw48_DayRises.calls (k : Nat) (a0 : Int) (a1 : Int) (r : Bool) (w : World) (h : hibernaclelaw48_DayRises.f k a0 a1 = some r) :
    Calls Try.prog 7 #[.int .i64 a0, .int .i64 a1] w fun e w' => e = .returned (.bool r) ∧ Below w.heap.size w w' := by
  have HB := Aside0.mk (Below.refl w.heap.size w)
  have H : (if a0 > a1 then ((hibernaclelaw48_awake.f k).bind fun t229 => (some t229)) else ((day_Text.f k a0).bind fun t230 => ((day_Text.f k a1).bind fun t231 => (if t230.toList = ([] : List UInt8) then (hibernaclelaw48_DayRises.j0 k a0 a1 false) else (if t231.toList = ([] : List UInt8) then (hibernaclelaw48_DayRises.j0 k a0 a1 false) else (hibernaclelaw48_DayRises.j0 k a0 a1 (Op.bytesLess t231.toList t230.toList))))))) = some r := h
  clear h
  by_cases c3 : a0 > a1
  · rw [if_pos c3] at H
    have c3b0 : decide (a1 < a0) = true := decide_eq_true c3
    clear c3
    replace H := Option.bind_eq_some_iff.mp H
    obtain ⟨t229, A40, H⟩ := H
    replace H : (some t229) = some r := H
    have A4 := Aside0.mk A40
    clear A40
    obtain rfl := Option.some.inj H
    go_enter Try.func7, Try.ntmps7
    go_wp2_with (first | ((with_reducible refine gate_callee (f := 13) rfl ?_); refine goesL_ (some 10) rfl rfl Try.func13 (by kernel_rfl) rfl #[] rfl (by (try simp only [List.map_toArray, List.map_cons, List.map_nil]); first | done | rfl | (simp only [List.length_drop, List.length_take]; rfl)) ?_; (with_reducible refine (hibernaclelaw48_awake.calls k  t229 _ A4.out).mono ?_); rintro e w5 ⟨rfl, hb⟩; refine ⟨_, rfl, ?_⟩; have n0_ := Aside0.mk (below_step (by repeat (first | (with_reducible first | exact HB.out | apply below_alloc | apply pw_below_drewN | apply below_drew1) | exact HB.out)) hb); clear HB; have HB := n0_; clear n0_; (try clear hb); (try clear hb2); (try clear hk); (try clear hi)))
    go_ret
    exact ⟨by first | rfl | (simp [errW_none, errW_some] <;> rfl) | (simp [*, errW_none, errW_some] <;> rfl), by repeat (first | (with_reducible first | exact HB.out | apply below_alloc | apply pw_below_drewN | apply below_drew1) | exact HB.out)⟩
  · rw [if_neg c3] at H
    have c3b0 : decide (a1 < a0) = false := decide_eq_false c3
    clear c3
    replace H := Option.bind_eq_some_iff.mp H
    obtain ⟨t230, A60, H⟩ := H
    replace H : ((day_Text.f k a1).bind fun t231 => (if t230.toList = ([] : List UInt8) then (hibernaclelaw48_DayRises.j0 k a0 a1 false) else (if t231.toList = ([] : List UInt8) then (hibernaclelaw48_DayRises.j0 k a0 a1 false) else (hibernaclelaw48_DayRises.j0 k a0 a1 (Op.bytesLess t231.toList t230.toList))))) = some r := H
    have A6 := Aside0.mk A60
    clear A60
    replace H := Option.bind_eq_some_iff.mp H
    obtain ⟨t231, A70, H⟩ := H
    replace H : (if t230.toList = ([] : List UInt8) then (hibernaclelaw48_DayRises.j0 k a0 a1 false) else (if t231.toList = ([] : List UInt8) then (hibernaclelaw48_DayRises.j0 k a0 a1 false) else (hibernaclelaw48_DayRises.j0 k a0 a1 (Op.bytesLess t231.toList t230.toList)))) = some r := H
    have A7 := Aside0.mk A70
    clear A70
    have HC8 := Aside0.mk H
    clear H
    go_enter Try.func7, Try.ntmps7
    go_upto_region 4 with (first | ((with_reducible refine gate_callee (f := 10) rfl ?_); refine goesL_ (some 12) rfl rfl Try.func10 (by kernel_rfl) rfl #[.int .i64 a0] rfl (by (try simp only [List.map_toArray, List.map_cons, List.map_nil]); first | done | rfl | (simp only [List.length_drop, List.length_take]; rfl)) ?_; (with_reducible refine (day_Text.calls k a0 t230 _ A6.out).mono ?_); rintro e w9 ⟨rfl, hb⟩; refine ⟨_, rfl, ?_⟩; have n0_ := Aside0.mk (below_step (by repeat (first | (with_reducible first | exact HB.out | apply below_alloc | apply pw_below_drewN | apply below_drew1) | exact HB.out)) hb); clear HB; have HB := n0_; clear n0_; (try clear hb); (try clear hb2); (try clear hk); (try clear hi)) | ((with_reducible refine gate_callee (f := 10) rfl ?_); refine goesL_ (some 14) rfl rfl Try.func10 (by kernel_rfl) rfl #[.int .i64 a1] rfl (by (try simp only [List.map_toArray, List.map_cons, List.map_nil]); first | done | rfl | (simp only [List.length_drop, List.length_take]; rfl)) ?_; (with_reducible refine (day_Text.calls k a1 t231 _ A7.out).mono ?_); rintro e w10 ⟨rfl, hb⟩; refine ⟨_, rfl, ?_⟩; have n0_ := Aside0.mk (below_step (by repeat (first | (with_reducible first | exact HB.out | apply below_alloc | apply pw_below_drewN | apply below_drew1) | exact HB.out)) hb); clear HB; have HB := n0_; clear n0_; (try clear hb); (try clear hb2); (try clear hk); (try clear hi)))
    (try simp only [Act.put, List.setIfInBounds_toArray, List.set_cons_zero, List.set_cons_succ])
    go_cut [25] (fun v25 wc => ∃ (kq : Nat) (x25_7 : Bool), v25 = .bool x25_7 ∧ Aside0 (hibernaclelaw48_DayRises.j0 kq a0 a1 x25_7 = some r) ∧ Aside0 (kq ≤ k) ∧ Aside0 (Below w.heap.size w wc))
    case first =>
      have H := HC8.out
      clear HC8
      by_cases c11 : t230.toList = ([] : List UInt8)
      · rw [if_pos c11] at H
        have c11b0 : (t230.toList == ([] : List UInt8)) = true := beq_iff_eq.mpr c11
        have c11b1 : (t230.toList != ([] : List UInt8)) = false := bne_eq_false_iff_eq.mpr c11
        clear c11
        (first | rw [c11b0] | (simp only [i64_w, i32_w]; rw [c11b0]) | skip)
        have H' := Aside0.mk H
        clear H
        go_wp2
        go_meet
        case rel => exact ⟨_, (false), (by first | rfl | (simp; done) | (simp [*]; done)), H', ⟨by first | omega | exact Nat.le_refl _⟩, ⟨by repeat (first | (with_reducible first | exact HB.out | apply below_alloc | apply pw_below_drewN | apply below_drew1) | exact HB.out)⟩⟩
      · rw [if_neg c11] at H
        have c11b0 : (t230.toList == ([] : List UInt8)) = false := beq_eq_false_iff_ne.mpr c11
        have c11b1 : (t230.toList != ([] : List UInt8)) = true := bne_iff_ne.mpr c11
        (first | rw [c11b0] | (simp only [i64_w, i32_w]; rw [c11b0]) | skip)
        by_cases c12 : t231.toList = ([] : List UInt8)
        · rw [if_pos c12] at H
          have c12b0 : (t231.toList == ([] : List UInt8)) = true := beq_iff_eq.mpr c12
          have c12b1 : (t231.toList != ([] : List UInt8)) = false := bne_eq_false_iff_eq.mpr c12
          clear c12
          have H' := Aside0.mk H
          clear H
          have hg_t231t230 := hibernaclelaw48_DayRises.gtr_ t230.toList t231.toList; have hf_t231t230 : (!Op.bytesLess t230.toList t231.toList && !(t230.toList == t231.toList)) = Op.bytesLess t231.toList t230.toList := by rw [← hg_t231t230, Bool.not_or]
          go_wp2
          go_meet
          case rel => exact ⟨_, (false), (by first | rfl | (simp; done) | (simp [*]; done)), H', ⟨by first | omega | exact Nat.le_refl _⟩, ⟨by repeat (first | (with_reducible first | exact HB.out | apply below_alloc | apply pw_below_drewN | apply below_drew1) | exact HB.out)⟩⟩
        · rw [if_neg c12] at H
          have c12b0 : (t231.toList == ([] : List UInt8)) = false := beq_eq_false_iff_ne.mpr c12
          have c12b1 : (t231.toList != ([] : List UInt8)) = true := bne_iff_ne.mpr c12
          have H' := Aside0.mk H
          clear H
          have hg_t231t230 := hibernaclelaw48_DayRises.gtr_ t230.toList t231.toList; have hf_t231t230 : (!Op.bytesLess t230.toList t231.toList && !(t230.toList == t231.toList)) = Op.bytesLess t231.toList t230.toList := by rw [← hg_t231t230, Bool.not_or]
          go_wp2
          go_meet
          case rel => exact ⟨_, ((Op.bytesLess t231.toList t230.toList)), (by first | rfl | (simp; done) | (simp [*]; done)), H', ⟨by first | omega | exact Nat.le_refl _⟩, ⟨by repeat (first | (with_reducible first | exact HB.out | apply below_alloc | apply pw_below_drewN | apply below_drew1) | exact HB.out)⟩⟩
    case rest =>
      clear HC8
      try clear c1
      try clear p2
      try clear c3
      try clear c3b0
      try clear c7
      try clear c10
      try clear c11
      try clear c11b0
      try clear c11b1
      try clear c12
      try clear c12b0
      try clear c12b1
      obtain ⟨kq, x25_7, rfl, HA, HJ7, HB⟩ := hcut
      cases kq with
      | zero => exact absurd HA.out (by simp [hibernaclelaw48_DayRises.j0])
      | succ kj7 =>
        have H := HA.out
        clear HA
        simp only [hibernaclelaw48_DayRises.j0] at H
        by_cases c13 : x25_7 = true
        · subst c13
          have H1 : (some false) = some r := by rw [if_pos rfl] at H; exact H
          clear H
          have H := H1
          clear H1
          obtain rfl := Option.some.inj H
          go_wp2
          go_ret
          exact ⟨by first | rfl | (simp [errW_none, errW_some] <;> rfl) | (simp [*, errW_none, errW_some] <;> rfl), by repeat (first | (with_reducible first | exact HB.out | apply below_alloc | apply pw_below_drewN | apply below_drew1) | exact HB.out)⟩
        · replace c13 := Bool.eq_false_iff.mpr c13
          subst c13
          have H1 : ((day_Day.f a0).bind fun t232 => ((day_Day.f a1).bind fun t233 => (if t232 ≤ t233 then ((day_Week.f a0).bind fun t234 => ((day_Week.f a1).bind fun t235 => (if t234 ≤ t235 then ((day_Month.f kj7 a0).bind fun t236 => ((day_Month.f kj7 a1).bind fun t237 => (if t236 ≤ t237 then ((day_Year.f kj7 a0).bind fun t238 => ((day_Year.f kj7 a1).bind fun t239 => (if t238 ≤ t239 then ((hibernaclelaw48_awake.f kj7).bind fun t240 => (some t240)) else (some false)))) else (some false)))) else (some false)))) else (some false)))) = some r := by rw [if_neg (show ¬ (false = true) by decide)] at H; exact H
          clear H
          have H := H1
          clear H1
          replace H := Option.bind_eq_some_iff.mp H
          obtain ⟨t232, A140, H⟩ := H
          replace H : ((day_Day.f a1).bind fun t233 => (if t232 ≤ t233 then ((day_Week.f a0).bind fun t234 => ((day_Week.f a1).bind fun t235 => (if t234 ≤ t235 then ((day_Month.f kj7 a0).bind fun t236 => ((day_Month.f kj7 a1).bind fun t237 => (if t236 ≤ t237 then ((day_Year.f kj7 a0).bind fun t238 => ((day_Year.f kj7 a1).bind fun t239 => (if t238 ≤ t239 then ((hibernaclelaw48_awake.f kj7).bind fun t240 => (some t240)) else (some false)))) else (some false)))) else (some false)))) else (some false))) = some r := H
          have A14 := Aside0.mk A140
          clear A140
          replace H := Option.bind_eq_some_iff.mp H
          obtain ⟨t233, A150, H⟩ := H
          replace H : (if t232 ≤ t233 then ((day_Week.f a0).bind fun t234 => ((day_Week.f a1).bind fun t235 => (if t234 ≤ t235 then ((day_Month.f kj7 a0).bind fun t236 => ((day_Month.f kj7 a1).bind fun t237 => (if t236 ≤ t237 then ((day_Year.f kj7 a0).bind fun t238 => ((day_Year.f kj7 a1).bind fun t239 => (if t238 ≤ t239 then ((hibernaclelaw48_awake.f kj7).bind fun t240 => (some t240)) else (some false)))) else (some false)))) else (some false)))) else (some false)) = some r := H
          have A15 := Aside0.mk A150
          clear A150
          by_cases c16 : t232 ≤ t233
          · rw [if_pos c16] at H
            have c16b0 : decide (t232 ≤ t233) = true := decide_eq_true c16
            clear c16
            replace H := Option.bind_eq_some_iff.mp H
            obtain ⟨t234, A170, H⟩ := H
            replace H : ((day_Week.f a1).bind fun t235 => (if t234 ≤ t235 then ((day_Month.f kj7 a0).bind fun t236 => ((day_Month.f kj7 a1).bind fun t237 => (if t236 ≤ t237 then ((day_Year.f kj7 a0).bind fun t238 => ((day_Year.f kj7 a1).bind fun t239 => (if t238 ≤ t239 then ((hibernaclelaw48_awake.f kj7).bind fun t240 => (some t240)) else (some false)))) else (some false)))) else (some false))) = some r := H
            have A17 := Aside0.mk A170
            clear A170
            replace H := Option.bind_eq_some_iff.mp H
            obtain ⟨t235, A180, H⟩ := H
            replace H : (if t234 ≤ t235 then ((day_Month.f kj7 a0).bind fun t236 => ((day_Month.f kj7 a1).bind fun t237 => (if t236 ≤ t237 then ((day_Year.f kj7 a0).bind fun t238 => ((day_Year.f kj7 a1).bind fun t239 => (if t238 ≤ t239 then ((hibernaclelaw48_awake.f kj7).bind fun t240 => (some t240)) else (some false)))) else (some false)))) else (some false)) = some r := H
            have A18 := Aside0.mk A180
            clear A180
            by_cases c19 : t234 ≤ t235
            · rw [if_pos c19] at H
              have c19b0 : decide (t234 ≤ t235) = true := decide_eq_true c19
              clear c19
              replace H := Option.bind_eq_some_iff.mp H
              obtain ⟨t236, A200, H⟩ := H
              replace H : ((day_Month.f kj7 a1).bind fun t237 => (if t236 ≤ t237 then ((day_Year.f kj7 a0).bind fun t238 => ((day_Year.f kj7 a1).bind fun t239 => (if t238 ≤ t239 then ((hibernaclelaw48_awake.f kj7).bind fun t240 => (some t240)) else (some false)))) else (some false))) = some r := H
              have A20 := Aside0.mk A200
              clear A200
              replace H := Option.bind_eq_some_iff.mp H
              obtain ⟨t237, A210, H⟩ := H
              replace H : (if t236 ≤ t237 then ((day_Year.f kj7 a0).bind fun t238 => ((day_Year.f kj7 a1).bind fun t239 => (if t238 ≤ t239 then ((hibernaclelaw48_awake.f kj7).bind fun t240 => (some t240)) else (some false)))) else (some false)) = some r := H
              have A21 := Aside0.mk A210
              clear A210
              by_cases c22 : t236 ≤ t237
              · rw [if_pos c22] at H
                have c22b0 : decide (t236 ≤ t237) = true := decide_eq_true c22
                clear c22
                replace H := Option.bind_eq_some_iff.mp H
                obtain ⟨t238, A230, H⟩ := H
                replace H : ((day_Year.f kj7 a1).bind fun t239 => (if t238 ≤ t239 then ((hibernaclelaw48_awake.f kj7).bind fun t240 => (some t240)) else (some false))) = some r := H
                have A23 := Aside0.mk A230
                clear A230
                replace H := Option.bind_eq_some_iff.mp H
                obtain ⟨t239, A240, H⟩ := H
                replace H : (if t238 ≤ t239 then ((hibernaclelaw48_awake.f kj7).bind fun t240 => (some t240)) else (some false)) = some r := H
                have A24 := Aside0.mk A240
                clear A240
                by_cases c25 : t238 ≤ t239
                · rw [if_pos c25] at H
                  have c25b0 : decide (t238 ≤ t239) = true := decide_eq_true c25
                  clear c25
                  replace H := Option.bind_eq_some_iff.mp H
                  obtain ⟨t240, A260, H⟩ := H
                  replace H : (some t240) = some r := H
                  have A26 := Aside0.mk A260
                  clear A260
                  obtain rfl := Option.some.inj H
                  go_wp2_with (first | ((with_reducible refine gate_callee (f := 15) rfl ?_); refine goesL_ (some 27) rfl rfl Try.func15 (by kernel_rfl) rfl #[.int .i64 a0] rfl (by (try simp only [List.map_toArray, List.map_cons, List.map_nil]); first | done | rfl | (simp only [List.length_drop, List.length_take]; rfl)) ?_; (with_reducible refine (day_Day.calls a0 t232 _ A14.out).mono ?_); rintro e w' ⟨rfl, ⟨nd, rfl⟩⟩; refine ⟨_, rfl, ?_⟩) | ((with_reducible refine gate_callee (f := 15) rfl ?_); refine goesL_ (some 29) rfl rfl Try.func15 (by kernel_rfl) rfl #[.int .i64 a1] rfl (by (try simp only [List.map_toArray, List.map_cons, List.map_nil]); first | done | rfl | (simp only [List.length_drop, List.length_take]; rfl)) ?_; (with_reducible refine (day_Day.calls a1 t233 _ A15.out).mono ?_); rintro e w' ⟨rfl, ⟨nd, rfl⟩⟩; refine ⟨_, rfl, ?_⟩) | (go_at_call 16; (with_reducible refine (day_Week.calls a0 t234 _ A17.out).mono ?_); rintro e w' ⟨rfl, ⟨nd, rfl⟩⟩) | (go_at_call 16; (with_reducible refine (day_Week.calls a1 t235 _ A18.out).mono ?_); rintro e w' ⟨rfl, ⟨nd, rfl⟩⟩) | (go_at_call 19; (with_reducible refine (day_Month.calls kj7 a0 t236 _ A20.out).mono ?_); rintro e w27 ⟨rfl, hb⟩; have n0_ := Aside0.mk (below_step (by repeat (first | (with_reducible first | exact HB.out | apply below_alloc | apply pw_below_drewN | apply below_drew1) | exact HB.out)) hb); clear HB; have HB := n0_; clear n0_; (try clear hb); (try clear hb2); (try clear hk); (try clear hi)) | (go_at_call 19; (with_reducible refine (day_Month.calls kj7 a1 t237 _ A21.out).mono ?_); rintro e w28 ⟨rfl, hb⟩; have n0_ := Aside0.mk (below_step (by repeat (first | (with_reducible first | exact HB.out | apply below_alloc | apply pw_below_drewN | apply below_drew1) | exact HB.out)) hb); clear HB; have HB := n0_; clear n0_; (try clear hb); (try clear hb2); (try clear hk); (try clear hi)) | (go_at_call 21; (with_reducible refine (day_Year.calls kj7 a0 t238 _ A23.out).mono ?_); rintro e w29 ⟨rfl, hb⟩; have n0_ := Aside0.mk (below_step (by repeat (first | (with_reducible first | exact HB.out | apply below_alloc | apply pw_below_drewN | apply below_drew1) | exact HB.out)) hb); clear HB; have HB := n0_; clear n0_; (try clear hb); (try clear hb2); (try clear hk); (try clear hi)) | (go_at_call 21; (with_reducible refine (day_Year.calls kj7 a1 t239 _ A24.out).mono ?_); rintro e w30 ⟨rfl, hb⟩; have n0_ := Aside0.mk (below_step (by repeat (first | (with_reducible first | exact HB.out | apply below_alloc | apply pw_below_drewN | apply below_drew1) | exact HB.out)) hb); clear HB; have HB := n0_; clear n0_; (try clear hb); (try clear hb2); (try clear hk); (try clear hi)) | (go_at_call 13; (with_reducible refine (hibernaclelaw48_awake.calls kj7  t240 _ A26.out).mono ?_); rintro e w31 ⟨rfl, hb⟩; have n0_ := Aside0.mk (below_step (by repeat (first | (with_reducible first | exact HB.out | apply below_alloc | apply pw_below_drewN | apply below_drew1) | exact HB.out)) hb); clear HB; have HB := n0_; clear n0_; (try clear hb); (try clear hb2); (try clear hk); (try clear hi)))
                  go_ret
                  exact ⟨by first | rfl | (simp [errW_none, errW_some] <;> rfl) | (simp [*, errW_none, errW_some] <;> rfl), by repeat (first | (with_reducible first | exact HB.out | apply below_alloc | apply pw_below_drewN | apply below_drew1) | exact HB.out)⟩
                · rw [if_neg c25] at H
                  have c25b0 : decide (t238 ≤ t239) = false := decide_eq_false c25
                  clear c25
                  obtain rfl := Option.some.inj H
                  go_wp2_with (first | ((with_reducible refine gate_callee (f := 15) rfl ?_); refine goesL_ (some 27) rfl rfl Try.func15 (by kernel_rfl) rfl #[.int .i64 a0] rfl (by (try simp only [List.map_toArray, List.map_cons, List.map_nil]); first | done | rfl | (simp only [List.length_drop, List.length_take]; rfl)) ?_; (with_reducible refine (day_Day.calls a0 t232 _ A14.out).mono ?_); rintro e w' ⟨rfl, ⟨nd, rfl⟩⟩; refine ⟨_, rfl, ?_⟩) | ((with_reducible refine gate_callee (f := 15) rfl ?_); refine goesL_ (some 29) rfl rfl Try.func15 (by kernel_rfl) rfl #[.int .i64 a1] rfl (by (try simp only [List.map_toArray, List.map_cons, List.map_nil]); first | done | rfl | (simp only [List.length_drop, List.length_take]; rfl)) ?_; (with_reducible refine (day_Day.calls a1 t233 _ A15.out).mono ?_); rintro e w' ⟨rfl, ⟨nd, rfl⟩⟩; refine ⟨_, rfl, ?_⟩) | (go_at_call 16; (with_reducible refine (day_Week.calls a0 t234 _ A17.out).mono ?_); rintro e w' ⟨rfl, ⟨nd, rfl⟩⟩) | (go_at_call 16; (with_reducible refine (day_Week.calls a1 t235 _ A18.out).mono ?_); rintro e w' ⟨rfl, ⟨nd, rfl⟩⟩) | (go_at_call 19; (with_reducible refine (day_Month.calls kj7 a0 t236 _ A20.out).mono ?_); rintro e w32 ⟨rfl, hb⟩; have n0_ := Aside0.mk (below_step (by repeat (first | (with_reducible first | exact HB.out | apply below_alloc | apply pw_below_drewN | apply below_drew1) | exact HB.out)) hb); clear HB; have HB := n0_; clear n0_; (try clear hb); (try clear hb2); (try clear hk); (try clear hi)) | (go_at_call 19; (with_reducible refine (day_Month.calls kj7 a1 t237 _ A21.out).mono ?_); rintro e w33 ⟨rfl, hb⟩; have n0_ := Aside0.mk (below_step (by repeat (first | (with_reducible first | exact HB.out | apply below_alloc | apply pw_below_drewN | apply below_drew1) | exact HB.out)) hb); clear HB; have HB := n0_; clear n0_; (try clear hb); (try clear hb2); (try clear hk); (try clear hi)) | (go_at_call 21; (with_reducible refine (day_Year.calls kj7 a0 t238 _ A23.out).mono ?_); rintro e w34 ⟨rfl, hb⟩; have n0_ := Aside0.mk (below_step (by repeat (first | (with_reducible first | exact HB.out | apply below_alloc | apply pw_below_drewN | apply below_drew1) | exact HB.out)) hb); clear HB; have HB := n0_; clear n0_; (try clear hb); (try clear hb2); (try clear hk); (try clear hi)) | (go_at_call 21; (with_reducible refine (day_Year.calls kj7 a1 t239 _ A24.out).mono ?_); rintro e w35 ⟨rfl, hb⟩; have n0_ := Aside0.mk (below_step (by repeat (first | (with_reducible first | exact HB.out | apply below_alloc | apply pw_below_drewN | apply below_drew1) | exact HB.out)) hb); clear HB; have HB := n0_; clear n0_; (try clear hb); (try clear hb2); (try clear hk); (try clear hi)))
                  go_ret
                  exact ⟨by first | rfl | (simp [errW_none, errW_some] <;> rfl) | (simp [*, errW_none, errW_some] <;> rfl), by repeat (first | (with_reducible first | exact HB.out | apply below_alloc | apply pw_below_drewN | apply below_drew1) | exact HB.out)⟩
              · rw [if_neg c22] at H
                have c22b0 : decide (t236 ≤ t237) = false := decide_eq_false c22
                clear c22
                obtain rfl := Option.some.inj H
                go_wp2_with (first | ((with_reducible refine gate_callee (f := 15) rfl ?_); refine goesL_ (some 27) rfl rfl Try.func15 (by kernel_rfl) rfl #[.int .i64 a0] rfl (by (try simp only [List.map_toArray, List.map_cons, List.map_nil]); first | done | rfl | (simp only [List.length_drop, List.length_take]; rfl)) ?_; (with_reducible refine (day_Day.calls a0 t232 _ A14.out).mono ?_); rintro e w' ⟨rfl, ⟨nd, rfl⟩⟩; refine ⟨_, rfl, ?_⟩) | ((with_reducible refine gate_callee (f := 15) rfl ?_); refine goesL_ (some 29) rfl rfl Try.func15 (by kernel_rfl) rfl #[.int .i64 a1] rfl (by (try simp only [List.map_toArray, List.map_cons, List.map_nil]); first | done | rfl | (simp only [List.length_drop, List.length_take]; rfl)) ?_; (with_reducible refine (day_Day.calls a1 t233 _ A15.out).mono ?_); rintro e w' ⟨rfl, ⟨nd, rfl⟩⟩; refine ⟨_, rfl, ?_⟩) | (go_at_call 16; (with_reducible refine (day_Week.calls a0 t234 _ A17.out).mono ?_); rintro e w' ⟨rfl, ⟨nd, rfl⟩⟩) | (go_at_call 16; (with_reducible refine (day_Week.calls a1 t235 _ A18.out).mono ?_); rintro e w' ⟨rfl, ⟨nd, rfl⟩⟩) | (go_at_call 19; (with_reducible refine (day_Month.calls kj7 a0 t236 _ A20.out).mono ?_); rintro e w36 ⟨rfl, hb⟩; have n0_ := Aside0.mk (below_step (by repeat (first | (with_reducible first | exact HB.out | apply below_alloc | apply pw_below_drewN | apply below_drew1) | exact HB.out)) hb); clear HB; have HB := n0_; clear n0_; (try clear hb); (try clear hb2); (try clear hk); (try clear hi)) | (go_at_call 19; (with_reducible refine (day_Month.calls kj7 a1 t237 _ A21.out).mono ?_); rintro e w37 ⟨rfl, hb⟩; have n0_ := Aside0.mk (below_step (by repeat (first | (with_reducible first | exact HB.out | apply below_alloc | apply pw_below_drewN | apply below_drew1) | exact HB.out)) hb); clear HB; have HB := n0_; clear n0_; (try clear hb); (try clear hb2); (try clear hk); (try clear hi)))
                go_ret
                exact ⟨by first | rfl | (simp [errW_none, errW_some] <;> rfl) | (simp [*, errW_none, errW_some] <;> rfl), by repeat (first | (with_reducible first | exact HB.out | apply below_alloc | apply pw_below_drewN | apply below_drew1) | exact HB.out)⟩
            · rw [if_neg c19] at H
              have c19b0 : decide (t234 ≤ t235) = false := decide_eq_false c19
              clear c19
              obtain rfl := Option.some.inj H
              go_wp2_with (first | ((with_reducible refine gate_callee (f := 15) rfl ?_); refine goesL_ (some 27) rfl rfl Try.func15 (by kernel_rfl) rfl #[.int .i64 a0] rfl (by (try simp only [List.map_toArray, List.map_cons, List.map_nil]); first | done | rfl | (simp only [List.length_drop, List.length_take]; rfl)) ?_; (with_reducible refine (day_Day.calls a0 t232 _ A14.out).mono ?_); rintro e w' ⟨rfl, ⟨nd, rfl⟩⟩; refine ⟨_, rfl, ?_⟩) | ((with_reducible refine gate_callee (f := 15) rfl ?_); refine goesL_ (some 29) rfl rfl Try.func15 (by kernel_rfl) rfl #[.int .i64 a1] rfl (by (try simp only [List.map_toArray, List.map_cons, List.map_nil]); first | done | rfl | (simp only [List.length_drop, List.length_take]; rfl)) ?_; (with_reducible refine (day_Day.calls a1 t233 _ A15.out).mono ?_); rintro e w' ⟨rfl, ⟨nd, rfl⟩⟩; refine ⟨_, rfl, ?_⟩) | (go_at_call 16; (with_reducible refine (day_Week.calls a0 t234 _ A17.out).mono ?_); rintro e w' ⟨rfl, ⟨nd, rfl⟩⟩) | (go_at_call 16; (with_reducible refine (day_Week.calls a1 t235 _ A18.out).mono ?_); rintro e w' ⟨rfl, ⟨nd, rfl⟩⟩))
              go_ret
              exact ⟨by first | rfl | (simp [errW_none, errW_some] <;> rfl) | (simp [*, errW_none, errW_some] <;> rfl), by repeat (first | (with_reducible first | exact HB.out | apply below_alloc | apply pw_below_drewN | apply below_drew1) | exact HB.out)⟩
          · rw [if_neg c16] at H
            have c16b0 : decide (t232 ≤ t233) = false := decide_eq_false c16
            clear c16
            obtain rfl := Option.some.inj H
            go_wp2_with (first | ((with_reducible refine gate_callee (f := 15) rfl ?_); refine goesL_ (some 27) rfl rfl Try.func15 (by kernel_rfl) rfl #[.int .i64 a0] rfl (by (try simp only [List.map_toArray, List.map_cons, List.map_nil]); first | done | rfl | (simp only [List.length_drop, List.length_take]; rfl)) ?_; (with_reducible refine (day_Day.calls a0 t232 _ A14.out).mono ?_); rintro e w' ⟨rfl, ⟨nd, rfl⟩⟩; refine ⟨_, rfl, ?_⟩) | ((with_reducible refine gate_callee (f := 15) rfl ?_); refine goesL_ (some 29) rfl rfl Try.func15 (by kernel_rfl) rfl #[.int .i64 a1] rfl (by (try simp only [List.map_toArray, List.map_cons, List.map_nil]); first | done | rfl | (simp only [List.length_drop, List.length_take]; rfl)) ?_; (with_reducible refine (day_Day.calls a1 t233 _ A15.out).mono ?_); rintro e w' ⟨rfl, ⟨nd, rfl⟩⟩; refine ⟨_, rfl, ?_⟩))
            go_ret
            exact ⟨by first | rfl | (simp [errW_none, errW_some] <;> rfl) | (simp [*, errW_none, errW_some] <;> rfl), by repeat (first | (with_reducible first | exact HB.out | apply below_alloc | apply pw_below_drewN | apply below_drew1) | exact HB.out)⟩

/-- THE ONE PURE STATEMENT of hibernaclelaw48_DayRises: yours. -/
def hibernaclelaw48_DayRises.Pure : Prop := ∀ (a0 : Int) (a1 : Int), (Lit.int .i64 a0).wf = true → (Lit.int .i64 a1).wf = true → ∃ k, hibernaclelaw48_DayRises.f k a0 a1 = some true
theorem hibernaclelaw48_DayRises.walk (P : hibernaclelaw48_DayRises.Pure) (a0 : Int) (a1 : Int) (w : World) (w0 : (Lit.int .i64 a0).wf = true) (w1 : (Lit.int .i64 a1).wf = true) :
    Calls Try.prog 7 #[.int .i64 a0, .int .i64 a1] w fun e w' => e = .returned (.bool true) ∧ Below w.heap.size w w' := by
  obtain ⟨k, h⟩ := P a0 a1 w0 w1
  refine (hibernaclelaw48_DayRises.calls k a0 a1 true w h).mono ?_
  rintro e w' ⟨rfl, hd⟩
  exact ⟨rfl, hd⟩

/-! ### hibernaclelaw48_DayYears: function 8 -/
def hibernaclelaw48_DayYears.j0 : Nat → Int → Bool → Option (Bool)
  | 0, _, _ => none
  | k + 1, x0, x9 => if x9 = true then ((hibernaclelaw48_awake.f k).bind fun t241 => (some t241)) else ((day_Year.f k (wrap64 (x0 + 210379680))).bind fun t242 => ((day_Year.f k x0).bind fun t243 => (if t242 = (wrap64 (t243 + 400)) then ((day_Month.f k (wrap64 (x0 + 210379680))).bind fun t244 => ((day_Month.f k x0).bind fun t245 => (if t244 = (wrap64 (t245 + 4800)) then ((hibernaclelaw48_awake.f k).bind fun t246 => (some t246)) else (some false)))) else (some false))))
def hibernaclelaw48_DayYears.f (k : Nat) (a0 : Int) : Option (Bool) := if a0 > 1125899906842624 then (hibernaclelaw48_DayYears.j0 k a0 true) else (hibernaclelaw48_DayYears.j0 k a0 (decide (a0 < (-1125899906842624))))
theorem hibernaclelaw48_DayYears.mono_l : ∀ k, (∀ y0 y1, LeO (hibernaclelaw48_DayYears.j0 k y0 y1) (hibernaclelaw48_DayYears.j0 (k + 1) y0 y1))
  | 0 => fun _ _ r h => by simp [hibernaclelaw48_DayYears.j0] at h
  | k + 1 => by
    have ih0 := hibernaclelaw48_DayYears.mono_l k
    · intro y0 y1
      unfold hibernaclelaw48_DayYears.j0
      repeat' first
      | (with_reducible exact ih0 _ _)
      | (with_reducible exact day_Month.mono _ _)
      | (with_reducible exact day_Year.mono _ _)
      | (with_reducible exact hibernaclelaw48_awake.mono _)
      | (with_reducible exact LeO.refl _)
      | (with_reducible exact LeO.none _)
      | (with_reducible refine LeO.ite ?_ ?_)
      | (with_reducible refine LeO.bind ?_ (fun _ => ?_))
      | exact ih0 _ _
      | exact day_Month.mono _ _
      | exact day_Year.mono _ _
      | exact hibernaclelaw48_awake.mono _
      | exact LeO.none _
      | refine LeO.ite ?_ ?_
      | refine LeO.bind ?_ (fun _ => ?_)
theorem hibernaclelaw48_DayYears.mono : ∀ a0 k, LeO (hibernaclelaw48_DayYears.f k a0) (hibernaclelaw48_DayYears.f (k + 1) a0) := by
  intro a0 k
  have ih0 := hibernaclelaw48_DayYears.mono_l k
  unfold hibernaclelaw48_DayYears.f
  repeat' first
      | (with_reducible exact ih0 _ _)
      | (with_reducible exact day_Month.mono _ _)
      | (with_reducible exact day_Year.mono _ _)
      | (with_reducible exact hibernaclelaw48_awake.mono _)
      | (with_reducible exact LeO.refl _)
      | (with_reducible exact LeO.none _)
      | (with_reducible refine LeO.ite ?_ ?_)
      | (with_reducible refine LeO.bind ?_ (fun _ => ?_))
      | exact ih0 _ _
      | exact day_Month.mono _ _
      | exact day_Year.mono _ _
      | exact hibernaclelaw48_awake.mono _
      | exact LeO.none _
      | refine LeO.ite ?_ ?_
      | refine LeO.bind ?_ (fun _ => ?_)
set_option maxHeartbeats 8000000 in
set_option maxRecDepth 100000 in
theorem hibernaclelaw48_DayYears.calls (k : Nat) (a0 : Int) (r : Bool) (w : World) (h : hibernaclelaw48_DayYears.f k a0 = some r) :
    Calls Try.prog 8 #[.int .i64 a0] w fun e w' => e = .returned (.bool r) ∧ Below w.heap.size w w' := by
  have HB := Aside0.mk (Below.refl w.heap.size w)
  have H : (if a0 > 1125899906842624 then (hibernaclelaw48_DayYears.j0 k a0 true) else (hibernaclelaw48_DayYears.j0 k a0 (decide (a0 < (-1125899906842624))))) = some r := h
  clear h
  have HC2 := Aside0.mk H
  clear H
  go_enter Try.func8, Try.ntmps8
  go_upto_region 1 with (fail)
  go_cut [9] (fun v9 wc => ∃ (kq : Nat) (x9_1 : Bool), v9 = .bool x9_1 ∧ Aside0 (hibernaclelaw48_DayYears.j0 kq a0 x9_1 = some r) ∧ Aside0 (kq ≤ k) ∧ Aside0 (Below w.heap.size w wc))
  case first =>
    have H := HC2.out
    clear HC2
    by_cases c3 : a0 > 1125899906842624
    · rw [if_pos c3] at H
      have c3b0 : decide (1125899906842624 < a0) = true := decide_eq_true c3
      clear c3
      (first | rw [c3b0] | (simp only [i64_w, i32_w]; rw [c3b0]) | skip)
      have H' := Aside0.mk H
      clear H
      go_wp2
      go_meet
      case rel => exact ⟨_, (true), (by first | rfl | (simp; done) | (simp [*]; done)), H', ⟨by first | omega | exact Nat.le_refl _⟩, ⟨by repeat (first | (with_reducible first | exact HB.out | apply below_alloc | apply pw_below_drewN | apply below_drew1) | exact HB.out)⟩⟩
    · rw [if_neg c3] at H
      have c3b0 : decide (1125899906842624 < a0) = false := decide_eq_false c3
      clear c3
      (first | rw [c3b0] | (simp only [i64_w, i32_w]; rw [c3b0]) | skip)
      have H' := Aside0.mk H
      clear H
      go_wp2
      go_meet
      case rel => exact ⟨_, (decide (a0 < (-1125899906842624))), (by first | rfl | (simp; done) | (simp [*]; done)), H', ⟨by first | omega | exact Nat.le_refl _⟩, ⟨by repeat (first | (with_reducible first | exact HB.out | apply below_alloc | apply pw_below_drewN | apply below_drew1) | exact HB.out)⟩⟩
  case rest =>
    clear HC2
    try clear p2
    try clear c3
    try clear c3b0
    obtain ⟨kq, x9_1, rfl, HA, HJ1, HB⟩ := hcut
    cases kq with
    | zero => exact absurd HA.out (by simp [hibernaclelaw48_DayYears.j0])
    | succ kj1 =>
      have H := HA.out
      clear HA
      simp only [hibernaclelaw48_DayYears.j0] at H
      by_cases c4 : x9_1 = true
      · subst c4
        have H1 : ((hibernaclelaw48_awake.f kj1).bind fun t241 => (some t241)) = some r := by rw [if_pos rfl] at H; exact H
        clear H
        have H := H1
        clear H1
        replace H := Option.bind_eq_some_iff.mp H
        obtain ⟨t241, A50, H⟩ := H
        replace H : (some t241) = some r := H
        have A5 := Aside0.mk A50
        clear A50
        obtain rfl := Option.some.inj H
        go_wp2_with (first | ((with_reducible refine gate_callee (f := 13) rfl ?_); refine goesL_ (some 10) rfl rfl Try.func13 (by kernel_rfl) rfl #[] rfl (by (try simp only [List.map_toArray, List.map_cons, List.map_nil]); first | done | rfl | (simp only [List.length_drop, List.length_take]; rfl)) ?_; (with_reducible refine (hibernaclelaw48_awake.calls kj1  t241 _ A5.out).mono ?_); rintro e w6 ⟨rfl, hb⟩; refine ⟨_, rfl, ?_⟩; have n0_ := Aside0.mk (below_step (by repeat (first | (with_reducible first | exact HB.out | apply below_alloc | apply pw_below_drewN | apply below_drew1) | exact HB.out)) hb); clear HB; have HB := n0_; clear n0_; (try clear hb); (try clear hb2); (try clear hk); (try clear hi)))
        go_ret
        exact ⟨by first | rfl | (simp [errW_none, errW_some] <;> rfl) | (simp [*, errW_none, errW_some] <;> rfl), by repeat (first | (with_reducible first | exact HB.out | apply below_alloc | apply pw_below_drewN | apply below_drew1) | exact HB.out)⟩
      · replace c4 := Bool.eq_false_iff.mpr c4
        subst c4
        have H1 : ((day_Year.f kj1 (wrap64 (a0 + 210379680))).bind fun t242 => ((day_Year.f kj1 a0).bind fun t243 => (if t242 = (wrap64 (t243 + 400)) then ((day_Month.f kj1 (wrap64 (a0 + 210379680))).bind fun t244 => ((day_Month.f kj1 a0).bind fun t245 => (if t244 = (wrap64 (t245 + 4800)) then ((hibernaclelaw48_awake.f kj1).bind fun t246 => (some t246)) else (some false)))) else (some false)))) = some r := by rw [if_neg (show ¬ (false = true) by decide)] at H; exact H
        clear H
        have H := H1
        clear H1
        replace H := Option.bind_eq_some_iff.mp H
        obtain ⟨t242, A70, H⟩ := H
        replace H : ((day_Year.f kj1 a0).bind fun t243 => (if t242 = (wrap64 (t243 + 400)) then ((day_Month.f kj1 (wrap64 (a0 + 210379680))).bind fun t244 => ((day_Month.f kj1 a0).bind fun t245 => (if t244 = (wrap64 (t245 + 4800)) then ((hibernaclelaw48_awake.f kj1).bind fun t246 => (some t246)) else (some false)))) else (some false))) = some r := H
        have A7 := Aside0.mk A70
        clear A70
        replace H := Option.bind_eq_some_iff.mp H
        obtain ⟨t243, A80, H⟩ := H
        replace H : (if t242 = (wrap64 (t243 + 400)) then ((day_Month.f kj1 (wrap64 (a0 + 210379680))).bind fun t244 => ((day_Month.f kj1 a0).bind fun t245 => (if t244 = (wrap64 (t245 + 4800)) then ((hibernaclelaw48_awake.f kj1).bind fun t246 => (some t246)) else (some false)))) else (some false)) = some r := H
        have A8 := Aside0.mk A80
        clear A80
        by_cases c9 : t242 = (wrap64 (t243 + 400))
        · rw [if_pos c9] at H
          have c9b0 : (t242 == (wrap64 (t243 + 400))) = true := beq_iff_eq.mpr c9
          have c9b1 : (t242 != (wrap64 (t243 + 400))) = false := bne_eq_false_iff_eq.mpr c9
          clear c9
          replace H := Option.bind_eq_some_iff.mp H
          obtain ⟨t244, A100, H⟩ := H
          replace H : ((day_Month.f kj1 a0).bind fun t245 => (if t244 = (wrap64 (t245 + 4800)) then ((hibernaclelaw48_awake.f kj1).bind fun t246 => (some t246)) else (some false))) = some r := H
          have A10 := Aside0.mk A100
          clear A100
          replace H := Option.bind_eq_some_iff.mp H
          obtain ⟨t245, A110, H⟩ := H
          replace H : (if t244 = (wrap64 (t245 + 4800)) then ((hibernaclelaw48_awake.f kj1).bind fun t246 => (some t246)) else (some false)) = some r := H
          have A11 := Aside0.mk A110
          clear A110
          by_cases c12 : t244 = (wrap64 (t245 + 4800))
          · rw [if_pos c12] at H
            have c12b0 : (t244 == (wrap64 (t245 + 4800))) = true := beq_iff_eq.mpr c12
            have c12b1 : (t244 != (wrap64 (t245 + 4800))) = false := bne_eq_false_iff_eq.mpr c12
            clear c12
            replace H := Option.bind_eq_some_iff.mp H
            obtain ⟨t246, A130, H⟩ := H
            replace H : (some t246) = some r := H
            have A13 := Aside0.mk A130
            clear A130
            obtain rfl := Option.some.inj H
            go_wp2_with (first | ((with_reducible refine gate_callee (f := 21) rfl ?_); refine goesL_ (some 14) rfl rfl Try.func21 (by kernel_rfl) rfl #[.int .i64 (wrap64 (a0 + 210379680))] rfl (by (try simp only [List.map_toArray, List.map_cons, List.map_nil]); first | done | rfl | (simp only [List.length_drop, List.length_take]; rfl)) ?_; (with_reducible refine (day_Year.calls kj1 (wrap64 (a0 + 210379680)) t242 _ A7.out).mono ?_); rintro e w14 ⟨rfl, hb⟩; refine ⟨_, rfl, ?_⟩; have n0_ := Aside0.mk (below_step (by repeat (first | (with_reducible first | exact HB.out | apply below_alloc | apply pw_below_drewN | apply below_drew1) | exact HB.out)) hb); clear HB; have HB := n0_; clear n0_; (try clear hb); (try clear hb2); (try clear hk); (try clear hi)) | ((with_reducible refine gate_callee (f := 21) rfl ?_); refine goesL_ (some 16) rfl rfl Try.func21 (by kernel_rfl) rfl #[.int .i64 a0] rfl (by (try simp only [List.map_toArray, List.map_cons, List.map_nil]); first | done | rfl | (simp only [List.length_drop, List.length_take]; rfl)) ?_; (with_reducible refine (day_Year.calls kj1 a0 t243 _ A8.out).mono ?_); rintro e w15 ⟨rfl, hb⟩; refine ⟨_, rfl, ?_⟩; have n0_ := Aside0.mk (below_step (by repeat (first | (with_reducible first | exact HB.out | apply below_alloc | apply pw_below_drewN | apply below_drew1) | exact HB.out)) hb); clear HB; have HB := n0_; clear n0_; (try clear hb); (try clear hb2); (try clear hk); (try clear hi)) | (go_at_call 19; (with_reducible refine (day_Month.calls kj1 (wrap64 (a0 + 210379680)) t244 _ A10.out).mono ?_); rintro e w16 ⟨rfl, hb⟩; have n0_ := Aside0.mk (below_step (by repeat (first | (with_reducible first | exact HB.out | apply below_alloc | apply pw_below_drewN | apply below_drew1) | exact HB.out)) hb); clear HB; have HB := n0_; clear n0_; (try clear hb); (try clear hb2); (try clear hk); (try clear hi)) | (go_at_call 19; (with_reducible refine (day_Month.calls kj1 a0 t245 _ A11.out).mono ?_); rintro e w17 ⟨rfl, hb⟩; have n0_ := Aside0.mk (below_step (by repeat (first | (with_reducible first | exact HB.out | apply below_alloc | apply pw_below_drewN | apply below_drew1) | exact HB.out)) hb); clear HB; have HB := n0_; clear n0_; (try clear hb); (try clear hb2); (try clear hk); (try clear hi)) | (go_at_call 13; (with_reducible refine (hibernaclelaw48_awake.calls kj1  t246 _ A13.out).mono ?_); rintro e w18 ⟨rfl, hb⟩; have n0_ := Aside0.mk (below_step (by repeat (first | (with_reducible first | exact HB.out | apply below_alloc | apply pw_below_drewN | apply below_drew1) | exact HB.out)) hb); clear HB; have HB := n0_; clear n0_; (try clear hb); (try clear hb2); (try clear hk); (try clear hi)))
            go_ret
            exact ⟨by first | rfl | (simp [errW_none, errW_some] <;> rfl) | (simp [*, errW_none, errW_some] <;> rfl), by repeat (first | (with_reducible first | exact HB.out | apply below_alloc | apply pw_below_drewN | apply below_drew1) | exact HB.out)⟩
          · rw [if_neg c12] at H
            have c12b0 : (t244 == (wrap64 (t245 + 4800))) = false := beq_eq_false_iff_ne.mpr c12
            have c12b1 : (t244 != (wrap64 (t245 + 4800))) = true := bne_iff_ne.mpr c12
            obtain rfl := Option.some.inj H
            go_wp2_with (first | ((with_reducible refine gate_callee (f := 21) rfl ?_); refine goesL_ (some 14) rfl rfl Try.func21 (by kernel_rfl) rfl #[.int .i64 (wrap64 (a0 + 210379680))] rfl (by (try simp only [List.map_toArray, List.map_cons, List.map_nil]); first | done | rfl | (simp only [List.length_drop, List.length_take]; rfl)) ?_; (with_reducible refine (day_Year.calls kj1 (wrap64 (a0 + 210379680)) t242 _ A7.out).mono ?_); rintro e w19 ⟨rfl, hb⟩; refine ⟨_, rfl, ?_⟩; have n0_ := Aside0.mk (below_step (by repeat (first | (with_reducible first | exact HB.out | apply below_alloc | apply pw_below_drewN | apply below_drew1) | exact HB.out)) hb); clear HB; have HB := n0_; clear n0_; (try clear hb); (try clear hb2); (try clear hk); (try clear hi)) | ((with_reducible refine gate_callee (f := 21) rfl ?_); refine goesL_ (some 16) rfl rfl Try.func21 (by kernel_rfl) rfl #[.int .i64 a0] rfl (by (try simp only [List.map_toArray, List.map_cons, List.map_nil]); first | done | rfl | (simp only [List.length_drop, List.length_take]; rfl)) ?_; (with_reducible refine (day_Year.calls kj1 a0 t243 _ A8.out).mono ?_); rintro e w20 ⟨rfl, hb⟩; refine ⟨_, rfl, ?_⟩; have n0_ := Aside0.mk (below_step (by repeat (first | (with_reducible first | exact HB.out | apply below_alloc | apply pw_below_drewN | apply below_drew1) | exact HB.out)) hb); clear HB; have HB := n0_; clear n0_; (try clear hb); (try clear hb2); (try clear hk); (try clear hi)) | (go_at_call 19; (with_reducible refine (day_Month.calls kj1 (wrap64 (a0 + 210379680)) t244 _ A10.out).mono ?_); rintro e w21 ⟨rfl, hb⟩; have n0_ := Aside0.mk (below_step (by repeat (first | (with_reducible first | exact HB.out | apply below_alloc | apply pw_below_drewN | apply below_drew1) | exact HB.out)) hb); clear HB; have HB := n0_; clear n0_; (try clear hb); (try clear hb2); (try clear hk); (try clear hi)) | (go_at_call 19; (with_reducible refine (day_Month.calls kj1 a0 t245 _ A11.out).mono ?_); rintro e w22 ⟨rfl, hb⟩; have n0_ := Aside0.mk (below_step (by repeat (first | (with_reducible first | exact HB.out | apply below_alloc | apply pw_below_drewN | apply below_drew1) | exact HB.out)) hb); clear HB; have HB := n0_; clear n0_; (try clear hb); (try clear hb2); (try clear hk); (try clear hi)))
            go_ret
            exact ⟨by first | rfl | (simp [errW_none, errW_some] <;> rfl) | (simp [*, errW_none, errW_some] <;> rfl), by repeat (first | (with_reducible first | exact HB.out | apply below_alloc | apply pw_below_drewN | apply below_drew1) | exact HB.out)⟩
        · rw [if_neg c9] at H
          have c9b0 : (t242 == (wrap64 (t243 + 400))) = false := beq_eq_false_iff_ne.mpr c9
          have c9b1 : (t242 != (wrap64 (t243 + 400))) = true := bne_iff_ne.mpr c9
          obtain rfl := Option.some.inj H
          go_wp2_with (first | ((with_reducible refine gate_callee (f := 21) rfl ?_); refine goesL_ (some 14) rfl rfl Try.func21 (by kernel_rfl) rfl #[.int .i64 (wrap64 (a0 + 210379680))] rfl (by (try simp only [List.map_toArray, List.map_cons, List.map_nil]); first | done | rfl | (simp only [List.length_drop, List.length_take]; rfl)) ?_; (with_reducible refine (day_Year.calls kj1 (wrap64 (a0 + 210379680)) t242 _ A7.out).mono ?_); rintro e w23 ⟨rfl, hb⟩; refine ⟨_, rfl, ?_⟩; have n0_ := Aside0.mk (below_step (by repeat (first | (with_reducible first | exact HB.out | apply below_alloc | apply pw_below_drewN | apply below_drew1) | exact HB.out)) hb); clear HB; have HB := n0_; clear n0_; (try clear hb); (try clear hb2); (try clear hk); (try clear hi)) | ((with_reducible refine gate_callee (f := 21) rfl ?_); refine goesL_ (some 16) rfl rfl Try.func21 (by kernel_rfl) rfl #[.int .i64 a0] rfl (by (try simp only [List.map_toArray, List.map_cons, List.map_nil]); first | done | rfl | (simp only [List.length_drop, List.length_take]; rfl)) ?_; (with_reducible refine (day_Year.calls kj1 a0 t243 _ A8.out).mono ?_); rintro e w24 ⟨rfl, hb⟩; refine ⟨_, rfl, ?_⟩; have n0_ := Aside0.mk (below_step (by repeat (first | (with_reducible first | exact HB.out | apply below_alloc | apply pw_below_drewN | apply below_drew1) | exact HB.out)) hb); clear HB; have HB := n0_; clear n0_; (try clear hb); (try clear hb2); (try clear hk); (try clear hi)))
          go_ret
          exact ⟨by first | rfl | (simp [errW_none, errW_some] <;> rfl) | (simp [*, errW_none, errW_some] <;> rfl), by repeat (first | (with_reducible first | exact HB.out | apply below_alloc | apply pw_below_drewN | apply below_drew1) | exact HB.out)⟩

/-- THE ONE PURE STATEMENT of hibernaclelaw48_DayYears: yours. -/
def hibernaclelaw48_DayYears.Pure : Prop := ∀ (a0 : Int), (Lit.int .i64 a0).wf = true → ∃ k, hibernaclelaw48_DayYears.f k a0 = some true
theorem hibernaclelaw48_DayYears.walk (P : hibernaclelaw48_DayYears.Pure) (a0 : Int) (w : World) (w0 : (Lit.int .i64 a0).wf = true) :
    Calls Try.prog 8 #[.int .i64 a0] w fun e w' => e = .returned (.bool true) ∧ Below w.heap.size w w' := by
  obtain ⟨k, h⟩ := P a0 w0
  refine (hibernaclelaw48_DayYears.calls k a0 true w h).mono ?_
  rintro e w' ⟨rfl, hd⟩
  exact ⟨rfl, hd⟩

end Go.Proofs.Ytnanhempikhknaa.D
